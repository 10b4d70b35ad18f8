/- Part 4 of the proof. Conditions: none. -/
import Derived.Test.YtdjnoafijjepcaaGreatT1
import Derived.Test.YtdjnoafijjepcaaGreatT3
import Derived.Lib.Builder
import Derived.Laws.Externs
import Derived.Lib.Walk
import Derived.Lib.AppendStr
import Derived.Lib.Hide
import Derived.Lib.Join
import Derived.Lib.UnsafeStr
import Derived.IntWalk
import Derived.Laws.BytesArg
import Derived.Test.YtdjnoafijjepcaaGreatT0
set_option linter.all false
set_option linter.unusedVariables false
set_option linter.unusedSimpArgs false
section
namespace Go.Proofs.YtdjnoafijjepcaaGreat.Vm
open Go.RowKit
set_option maxRecDepth 100000
set_option maxHeartbeats 4000000
section
def y6 (P:Program):Code->Bool
 | .region _ ops d=>b7t P ops.toList && (!d || (a9M ops || c18 ops.toList))
 | .seq c d=>y6 P c && y6 P d
 | .cond _ c d=>y6 P c && y6 P d
 | .block _ c=>y6 P c
 | .loop c=>y6 P c
 | _=>true
def toE:X->Exit
 | .normal=>.normal
 | .exit i=>.exit i
 | .ret=>.ret
section
variable {I0:Nat->Nat->Prop} {X:Nat->Prop} {w0:W0}
theorem N0 {ro:Option Nat} {n:Nat}:∀(c:Code) (s:S) (a:Act) (w:World) (K:Vm.X->S->Prop) (Q:Exit->Act->World->Prop),y6 Tryz.prog c=true->Rel I0 X w0 s a w->E9 j5 c s K->(∀e s' a' w',Rel I0 X w0 s' a' w'->K e s'->Q (toE e) a' w')->c.wpIn (FW ro) n Tryz.prog Q a w
 | .skip,s,a,w,K,Q,_,h,hK,hQ=>wpIn_skip (hQ _ _ _ _ h hK)
 | .region id ops d,s,a,w,K,Q,hok,h,hK,hQ=>by
  simp only[y6,d3N,d41,d5W] at hok;have hops:∀o∈ops.toList,a1A Tryz.prog o.op=true:=d4f.1 hok.1;cases d with
  | false=>exact wpIn_region_list (b5P (λs' a' w' h' hk=>hQ .normal _ _ _ h' hk) _ s a w hops h hK)
  | true =>
   rw[E9] at hK
   split at hK
   ·refine wpIn_region_any (by kernel_rfl) (hK I0 X w0 a w.drew ro n Q hops ?_ λs' a' w' h' hk=>hQ .normal _ _ _ h' hk);obtain⟨I,g,h⟩:=h;exact⟨I,g,h.drew⟩
   rename_i hodd
   split at hK <;> try exact hK.elim
   rename_i hpre;have hodd:c18 ops.toList=false:=by rw[c1p,d5G] at hodd;exact hodd.2
   have hd:a9M ops=true:=(hok.2.resolve_left (by simp)).resolve_right (by rw[hodd];decide);refine wpIn_region_any (by kernel_rfl) (c5l (λs' a' w' h' hk=>hQ .normal _ _ _ h' hk) hok.1 hd ?_ hpre hK);obtain⟨I,g,h⟩:=h;exact⟨I,g,h.drew⟩
 | .seq c d,s,a,w,K,Q,hok,h,hK,hQ=>by
  simp only[y6,d3N] at hok;refine wpIn_seq (N0 c s a w _ _ hok.1 h hK λe s' a' w' h' hk=>?_);cases e with
  | normal =>
   obtain⟨F,hg,hk⟩:=hk;obtain⟨s2,hf,h2⟩:=hg _ _ _ _ _ h';exact N0 d s2 a' w' K Q hok.2 h2 (hk s2 hf) hQ
  | exit i=>exact hQ (.exit i) _ _ _ h' hk
  | ret=>exact hQ .ret _ _ _ h' hk
 | .cond c x y,s,a,w,K,Q,hok,h,hK,hQ=>by
  simp only[y6,d3N] at hok;rw[E9] at hK;obtain⟨I,g,h1⟩:=h;have hc:=h1.get c
  split at hK <;> try exact hK.elim
  rename_i b hb;rw[hb] at hc;refine wpIn_cond hc.sc ?_;cases b with
  | true=>exact N0 x s a w K Q hok.1 ⟨I,g,h1⟩ hK hQ
  | false=>exact N0 y s a w K Q hok.2 ⟨I,g,h1⟩ hK hQ
 | .block id c,s,a,w,K,Q,hok,h,hK,hQ=>by
  refine wpIn_block (N0 c s a w _ _ hok h hK λe s' a' w' h' hk=>?_);cases e with
  | normal=>exact hQ .normal _ _ _ h' hk
  | exit i =>
   rw[c0Y] at hk;show (if i=id then Q .normal a' w' else Q (.exit i) a' w')
   split at hk
   ·rename_i he;rw[H0] at he;rw[d3I he];exact hQ .normal _ _ _ h' hk
   ·rename_i he;rw[a3G] at he;rw[d3G he];exact hQ (.exit i) _ _ _ h' hk
  | ret=>exact hQ .ret _ _ _ h' hk
 | .loop c,s,a,w,K,Q,hok,h,hK,hQ=>by
  have key:∀R:S->S->Prop,(∀s s',R s s'->w0.n<=s'.o.length->∀a w,Rel I0 X w0 s a w->Rel I0 X w0 s' a w)->b3R R (λs K=>E9 j5 c s K) s K->(Code.loop c).wpIn (FW ro) n Tryz.prog Q a w:=λR hR hK=>by
   obtain⟨γ,st,inv,μ,hlen,⟨x0,hw,h0⟩,hround⟩:=hK
   have hn:∀x,inv x->w0.n<=(st x).o.length:=λx hx=>by
    have h1:=hlen x hx;rw[A0,A0] at h1;obtain⟨I,g,h⟩:=h;exact d5m h.lo h1
   refine wpIn_loop_ghost (λm a w=>∃x,inv x/\Rel I0 X w0 (st x) a w/\μ x=m) (μ x0) ⟨x0,h0,hR _ _ hw (hn x0 h0) _ _ h,rfl⟩ ?_
   rintro m a1 w1 ⟨x,hx,h1,rfl⟩
   refine N0 c (st x) a1 w1 _ _ hok h1 (hround x hx) λe s2 a2 w2 h2 hk=>?_
   cases e with
   | normal =>
    obtain⟨y,hy,hlt,hwk⟩:=hk;exact⟨μ y,hlt,y,hy,hR _ _ hwk (hn y hy) _ _ h2,rfl⟩
   | exit i=>exact hQ (.exit i) _ _ _ h2 hk
   | ret=>exact hQ .ret _ _ _ h2 hk
  have hlo:w0.n<=w8 s.o:=by obtain⟨I,g,h⟩:=h;rw[A0];exact h.lo
  rcases hK with hK|hK|hK
  ·exact key weak (λ_ _ hw hn a w h=>h.weak hn (.inr hw)) hK
  ·exact key Eq (λ_ _ hw hn a w h=>h.weak hn (.inl hw)) hK
  ·exact key (a3I (w8 s.o)) (λ_ _ hw _ a w h=>hw I0 X w0 a w hlo h) hK
 | .exit i,s,a,w,K,Q,_,h,hK,hQ=>wpIn_exit (hQ _ _ _ _ h hK)
 | .ret,s,a,w,K,Q,_,h,hK,hQ=>wpIn_ret (hQ _ _ _ _ h hK)
 | .rangeFunc f ps x y,s,a,w,K,Q,_,h,hK,hQ=>by cases hK
 | .scope c,s,a,w,K,Q,_,h,hK,hQ=>by cases hK
 | .label l,s,a,w,K,Q,_,h,hK,hQ=>by cases hK
 | .goto l,s,a,w,K,Q,_,h,hK,hQ=>by cases hK
 | .refuse y,s,a,w,K,Q,_,h,hK,hQ=>by cases hK
theorem a8I (c:Code) (s:S) (a:Act) (w:World) (K:Vm.X->S->Prop) (Q:Exit->Act->World->Prop) (hok:y6 Tryz.prog c=true) (h:Rel I0 X w0 s a w) (hK:E9 j5 c s K) (hQ:∀e s' a' w',Rel I0 X w0 s' a' w'->K e s'->Q (toE e) a' w'):c.wp Tryz.prog Q a w :=
 wpIn_wide.1 (N0 (ro:=none) (n:=0) c s a w K Q hok h hK hQ)
end
def b1c (a:Ar) (s:S):List ResultVar->List R->Prop
 | [],[]=>True
 | .tmp t::l,r::q=>toR s.o (y8 s.t t)=some r/\b1c a s l q
 | .cell b t::l,r::q=>L5 a s.o (λy=>toR s.o y=some r) t (y8 s.t b)/\b1c a s l q
 | _,_=>False
def c1N (a:Ar) (l:List ResultVar) (q:List R):X->S->Prop
 | .exit _,_=>False
 | .normal,s=>b1c a s l q
 | .ret,s=>b1c a s l q
def T3:List ResultVar->Bool
 | []=>true
 | .tmp _::l=>T3 l
 | .cell _ t::l=>j9 t && T3 l
def uns:Nat->List V
 | 0=>[]
 | n+1=>vun::uns n
theorem a76:∀n,uns n=List.replicate n vun
 | 0=>rfl
 | n+1=>by rw[uns,a76 n];rfl
def a45 (rs:List R) (n:Nat):S:=⟨a4k (b3F rs) (uns n),[]⟩
section
variable {I0:Nat->Nat->Prop} {X:Nat->Prop} {w0:W0} {I:Nat->Nat->Prop} {g:Nat->Value} {s:S} {a:Act} {w:World}
def b1d (tmps:Array Value):ResultVar->Sem Value
 | .tmp t=>pure (tmps.getD t undef)
 | .cell b t=>do loadVar t (<-asAddr (tmps.getD b undef))
theorem a46 {t:Nat} {v u:Value} (h:(Instr.loadAt t v).run Tryz.prog w=.ok u w):(do loadVar t (<-asAddr v)).run Tryz.prog w=.ok u w:=by
 unfold Instr.loadAt Instr.sureAddr at h
 split at h
 ·simpa [asAddr] using h
 ·simp[stuck] at h
theorem b6a (h:RelI I0 X w0 I g s a w):∀ {l:List ResultVar} {q:List R},T3 l=true->b1c j5 s l q->∃vs:List Value,(l.mapM (b1d a.tmps)).run Tryz.prog w=.ok vs w/\a5G I w vs q
 | [],[],_,_=>⟨[],rfl,trivial⟩
 | [],_::_,_,h=>h.elim
 | .tmp t::l,[],_,h=>h.elim
 | .cell b t::l,[],_,h=>h.elim
 | .tmp t::l,r::q,hok,hr=>by
  obtain⟨vs,h1,h2⟩:=b6a h (l:=l) (q:=q) hok hr.2;have h3:=a7q h (h.get (.tmp t)) hr.1;refine⟨a.eval (.tmp t)::vs,?_,h3,h2⟩;rw[d5Y];simp only[Sem.run_bind,h1,Result.andThen_ok,b1d,Sem.run_pure];rfl
 | .cell b t::l,r::q,hok,hr=>by
  rw[T3,d3N] at hok;obtain⟨vs,h1,h2⟩:=b6a h (l:=l) (q:=q) hok.2 hr.2;obtain⟨v,x,h3,h5,h6⟩:=a7w h hok.1 (h.get (.tmp b)) hr.1;refine⟨v::vs,?_,a7q h h5 h6,h2⟩;have h7:=a46 h3;rw[d5Y];simp only[Sem.run_bind,b1d,Sem.run_pure] at h7 ⊢;have h8:((asAddr (a.tmps.getD b undef)).run Tryz.prog w).andThen (λa w'=>(loadVar t a).run Tryz.prog w')=.ok v w:=h7;rw[h8,Result.andThen_ok,h1];rfl
theorem a5P (h:RelI I0 X w0 I g s a w) {fn:Func} {q:List R} (hok:T3 fn.results.toList=true) (hr:b1c j5 s fn.results.toList q):∃v,(results fn a.tmps).run Tryz.prog w=.ok v w/\a3o I w v q:=by
 obtain⟨vs,h1,h2⟩:=b6a h hok hr
 have h3:(fn.results.mapM (b1d a.tmps)).run Tryz.prog w=.ok vs.toArray w:=by
  rw[Array.mapM_eq_mapM_toList]
  simp[h1]
 have h4:(results fn a.tmps).run Tryz.prog w=.ok (if h:vs.toArray.size=1 then vs.toArray[0] else .tuple vs.toArray) w:=by
  have h5:results fn a.tmps=(do let vs <-fn.results.mapM (b1d a.tmps);pure (if h:vs.size=1 then vs[0] else .tuple vs)):=by
   unfold results
   congr 1
  rw[h5,Sem.run_bind,h3];rfl
 refine⟨_,h4,?_⟩;have hl:=h2.len
 match q,vs,h2,hl with
 | [r],[v],h2,_=>exact h2.1
 | [],[],h2,_=>exact⟨[],rfl,h2⟩
 | r::r'::q,v::v'::vs,h2,_=>exact⟨_,by simp,h2⟩
theorem a9P {I0:Nat->Nat->Prop} {w:World} {rs:List R} {args:List Value} (hI:Wld I0 w) (hat:a5G I0 w args rs) (n:Nat):RelI I0 (λ_=>False) ⟨w,λ_=>.nilFunc,0,[]⟩ I0 (λ_=>.nilFunc) (a45 rs n) { tmps:=args.toArray++Array.replicate n undef,defers:=[] } w:=by
 refine⟨λ_ _ h=>h,λb k hb=>⟨hI.1 b k hb,λ_=>.inl hb⟩,Fr.refl _ _,C3.refl _ _,d4o _,λk hk=>absurd hk (d6n _),λk o ho=>by simp[a45] at ho,λj k b hj=>?_,λ_ _=>rfl,?_,rfl,hI.2⟩
 ·obtain⟨o,ho,_⟩:=hj
  simp[a45] at ho
 ·show o7 I0 w _ (args.toArray++Array.replicate n undef).toList (a4k (b3F rs) (uns n));rw[a1z,d5t,a76];refine(a6n _ hat).append ?_;rw[d5x];refine⟨by simp,λi u c hu hc=>?_⟩;rw[d5g] at hu hc
  split at hu
  ·rename_i hi;rw[d3I hi] at hc;injection hu with hu;injection hc with hc;subst hu;subst hc;exact .tu [] [] rfl λi u c hu _=>by simp at hu
  ·cases hu
theorem a6A {f:Nat} {fn:Func} {c:Code} {rs q:List R} (hf:Tryz.prog.funcs[f]?=some fn) (hb:fn.body=some c) (hn:(fn.name != "runtime.NumGoroutine")=true) (hc:y6 Tryz.prog c=true) (hr:T3 fn.results.toList=true)
  (h:∀qa qb qc qd qe qg qh qi qj qk ql qm qo qp qq qt qu qv qw qx qy qz va vc vd ve vf vg vh vj vk vl vm vn vo vq vr vt vu vv vw vx vy,Ar.mk qa qb qc qd qe qg qh qi qj qk ql qm qo qp qq qt qu qv qw qx qy qz va vc vd ve vf vg vh vj vk vl vm vn vo vq vr vt vu vv vw vx vy=j5->E9 (Ar.mk qa qb qc qd qe qg qh qi qj qk ql qm qo qp qq qt qu qv qw qx qy qz va vc vd ve vf vg vh vj vk vl vm vn vo vq vr vt vu vv vw vx vy) c (a45 rs (fn.ntmps - G7 rs)) (λx s=>c1N (Ar.mk qa qb qc qd qe qg qh qi qj qk ql qm qo qp qq qt qu qv qw qx qy qz va vc vd ve vf vg vh vj vk vl vm vn vo vq vr vt vu vv vw vx vy) fn.results.toList q x s)):o8 f rs q:=by
 refine⟨by unfold a3p;rw[hf];simp only[hn,hb];rfl,?_⟩;intro I w args hI hat;have hlen:=hat.len;refine calls_of_wp hf hb ?_;have hsz:args.toArray.size=G7 rs:=by rw[M9];simp[hlen]
 rw[hsz];refine a8I (I0:=I) (X:=λ_=>False) (w0:=⟨w,λ_=>.nilFunc,0,[]⟩) c _ _ _ _ _ hc ⟨I,_,a9P hI hat _⟩ (h _ _ _ _ _ _ _ _ _ _ _ _ _ _ _ _ _ _ _ _ _ _ _ _ _ _ _ _ _ _ _ _ _ _ _ _ _ _ _ _ _ _ _ (show Ar.mk j5.wrap j5.add j5.sub j5.mul j5.quo j5.rem j5.bits j5.lt j5.le j5.eq j5.nz j5.seq j5.slt j5.bytes j5.cat j5.fits j5.slen j5.sget j5.ssub j5.txt j5.byt j5.nat j5.len j5.get j5.sub2 j5.app j5.set j5.room j5.mlook j5.mput j5.deq j5.rep j5.call j5.calld j5.callo j5.callx j5.new j5.lit j5.keep j5.next j5.ext j5.reg j5.loop=j5 from rfl)) λe s' a' w' hrel hk=>?_
 have key:b1c j5 s' fn.results.toList q->a'.defers=[]/\∃v,(results fn a'.tmps).run Tryz.prog w'=.ok v w'/\∃v',Ending.returned v=.returned v'/\a3o (nxt I w w') w' v' q/\Below w.heap.size w w':=λhk=>by
  obtain⟨I',g',h'⟩:=hrel;obtain⟨v,h1,h2⟩:=a5P h' hr hk;refine⟨h'.dfr.1,v,h1,v,rfl,?_,⟨h'.fr.os,h'.fr.tape,h'.fr.output,h'.fr.size,λb hb=>h'.fr.block b hb (λhx=>hx)⟩⟩
  have hnx:∀b k,I' b k->nxt I w w' b k:=λb k hbk=>by
   obtain⟨h3,h4⟩:=h'.lt b k hbk
   rcases d4F b w.heap.size with hlt|hge
   ·exact .inl ((h4 hlt).resolve_right (λhx=>hx))
   ·exact .inr ⟨hge,h3⟩
  match q,h2 with
  | [],⟨us,e,hu⟩=>exact⟨us,e,hu.mono hnx (C3.refl _ _)⟩
  | [r],hu=>exact AtR.mono hnx (C3.refl _ _) hu
  | r::r'::q,⟨us,e,hu⟩=>exact⟨us,e,hu.mono hnx (C3.refl _ _)⟩
 cases e with
 | normal=>exact key hk
 | exit i=>exact hk.elim
 | ret=>exact key hk
def a5Q (a:Ar) (s:S):List ResultVar->(List V->Prop)->Prop
 | [],K=>K []
 | .tmp t::l,K=>a5Q a s l (λvs=>K (y8 s.t t::vs))
 | .cell b t::l,K=>L5 a s.o (λy=>a5Q a s l (λvs=>K (y::vs))) t (y8 s.t b)
def c5m (a:Ar) (n:Nat) (Q:List V->List O->Prop) (l:List ResultVar):Vm.X->S->Prop
 | .exit _,_=>False
 | .normal,s=>a5Q a s l (λvs=>a.keep n Q vs s)
 | .ret,s=>a5Q a s l (λvs=>a.keep n Q vs s)
def a3a (vs:List V) (os:List O) (n:Nat):S:=⟨a4k vs (uns n),os⟩
theorem b2O (h:RelI I0 X w0 I g s a w):∀ {l:List ResultVar} {K:List V->Prop},T3 l=true->a5Q j5 s l K->∃us vs,(l.mapM (b1d a.tmps)).run Tryz.prog w=.ok us w/\o7 I w g us vs/\K vs
 | [],K,_,h=>⟨[],[],rfl,.nil I w g,h⟩
 | .tmp t::l,K,hok,hr=>by
  obtain⟨us,vs,h1,h2,h3⟩:=b2O h (l:=l) hok hr;refine⟨a.eval (.tmp t)::us,y8 s.t t::vs,?_,.cons (h.get (.tmp t)) h2,h3⟩;rw[d5Y];simp only[Sem.run_bind,h1,Result.andThen_ok,b1d,Sem.run_pure];rfl
 | .cell b t::l,K,hok,hr=>by
  rw[T3,d3N] at hok;obtain⟨v,x,h3,h5,h6⟩:=a7w h hok.1 (h.get (.tmp b)) hr;obtain⟨us,vs,h1,h2,h4⟩:=b2O h (l:=l) hok.2 h6;refine⟨v::us,x::vs,?_,.cons h5 h2,h4⟩;have h7:=a46 h3;rw[d5Y];simp only[Sem.run_bind,b1d,Sem.run_pure] at h7 ⊢;have h8:((asAddr (a.tmps.getD b undef)).run Tryz.prog w).andThen (λa w'=>(loadVar t a).run Tryz.prog w')=.ok v w:=h7;rw[h8,Result.andThen_ok,h1];rfl
theorem a2J (h:RelI I0 X w0 I g s a w) {fn:Func} {K:List V->Prop} (hok:T3 fn.results.toList=true) (hr:a5Q j5 s fn.results.toList K):∃us vs,(results fn a.tmps).run Tryz.prog w=.ok (pkg us) w/\o7 I w g us vs/\K vs:=by
 obtain⟨us,vs,h1,h2,h3⟩:=b2O h hok hr;refine⟨us,vs,?_,h2,h3⟩
 have h4:(fn.results.mapM (b1d a.tmps)).run Tryz.prog w=.ok us.toArray w:=by
  rw[Array.mapM_eq_mapM_toList]
  simp[h1]
 have h5:results fn a.tmps=(do let vs <-fn.results.mapM (b1d a.tmps);pure (if h:vs.size=1 then vs[0] else .tuple vs)):=by
  unfold results
  congr 1
 rw[h5,Sem.run_bind,h4]
 match us with
 | []=>rfl
 | [u]=>rfl
 | u::u'::us =>
  show Result.ok _ w=_;rw[dif_neg (by simp)];rfl
theorem a9Q {f:Nat} {fn:Func} {c:Code} {vs:List V} {os:List O} {Q:List V->List O->Prop} (hf:Tryz.prog.funcs[f]?=some fn) (hb:fn.body=some c) (hn:(fn.name != "runtime.NumGoroutine")=true) (hc:y6 Tryz.prog c=true) (hr:T3 fn.results.toList=true)
  (h:∀qa qb qc qd qe qg qh qi qj qk ql qm qo qp qq qt qu qv qw qx qy qz va vc vd ve vf vg vh vj vk vl vm vn vo vq vr vt vu vv vw vx vy,Ar.mk qa qb qc qd qe qg qh qi qj qk ql qm qo qp qq qt qu qv qw qx qy qz va vc vd ve vf vg vh vj vk vl vm vn vo vq vr vt vu vv vw vx vy=j5->E9 (Ar.mk qa qb qc qd qe qg qh qi qj qk ql qm qo qp qq qt qu qv qw qx qy qz va vc vd ve vf vg vh vj vk vl vm vn vo vq vr vt vu vv vw vx vy) c (a3a vs os (fn.ntmps - G7 vs)) (λx s=>c5m (Ar.mk qa qb qc qd qe qg qh qi qj qk ql qm qo qp qq qt qu qv qw qx qy qz va vc vd ve vf vg vh vj vk vl vm vn vo vq vr vt vu vv vw vx vy) (w8 os) Q fn.results.toList x s)):y7 f vs os Q:=by
 refine⟨by unfold a3p;rw[hf];simp only[hn,hb];rfl,?_⟩;intro I w g args hrel;have hv:o7 I w g args vs:=hrel.tmp;refine calls_of_wp hf hb ?_;have hsz:args.toArray.size=G7 vs:=by rw[M9];simp[hv.1]
 rw[hsz]
 have hstart:RelI I (Xof g os) ⟨w,g,os.length,[]⟩ I g (a3a vs os (fn.ntmps - G7 vs)) { tmps:=args.toArray++Array.replicate (fn.ntmps - G7 vs) undef,defers:=[] } w:=by
  refine⟨hrel.im,hrel.lt,hrel.fr,hrel.kp,hrel.lo,hrel.st,hrel.obj,hrel.dis,hrel.out,?_,rfl,hrel.dfr.2⟩;show o7 I w _ (args.toArray++Array.replicate (fn.ntmps - G7 vs) undef).toList (a4k vs (uns (fn.ntmps - G7 vs)));rw[a1z,d5t,a76];refine hv.append ?_;rw[d5x];refine⟨by simp,λi u c hu hc=>?_⟩;rw[d5g] at hu hc
  split at hu
  ·rename_i hi;rw[d3I hi] at hc;injection hu with hu;injection hc with hc;subst hu;subst hc;exact .tu [] [] rfl λi u c hu _=>by simp at hu
  ·cases hu
 refine a8I (I0:=I) (X:=Xof g os) (w0:=⟨w,g,os.length,[]⟩) c _ _ _ _ _ hc ⟨I,_,hstart⟩ (h _ _ _ _ _ _ _ _ _ _ _ _ _ _ _ _ _ _ _ _ _ _ _ _ _ _ _ _ _ _ _ _ _ _ _ _ _ _ _ _ _ _ _ (show Ar.mk j5.wrap j5.add j5.sub j5.mul j5.quo j5.rem j5.bits j5.lt j5.le j5.eq j5.nz j5.seq j5.slt j5.bytes j5.cat j5.fits j5.slen j5.sget j5.ssub j5.txt j5.byt j5.nat j5.len j5.get j5.sub2 j5.app j5.set j5.room j5.mlook j5.mput j5.deq j5.rep j5.call j5.calld j5.callo j5.callx j5.new j5.lit j5.keep j5.next j5.ext j5.reg j5.loop=j5 from rfl)) λe s' a' w' hrel2 hk=>?_
 have key:a5Q j5 s' fn.results.toList (λvs=>j5.keep (w8 os) Q vs s')->a'.defers=[]/\∃v,(results fn a'.tmps).run Tryz.prog w'=.ok v w'/\∃us res os2 I' g',Ending.returned v=.returned (pkg us)/\Q res os2/\RelI I (Xof g os) ⟨w,g,os.length,[]⟩ I' g' ⟨res,os2⟩ { tmps:=us.toArray,defers:=[] } w':=λhk=>by
  obtain⟨I',g',h'⟩:=hrel2;obtain⟨us,vs',h1,h2,ks,res',os',hko,hQ⟩:=a2J h' hr hk;rw[A0] at hko;exact⟨h'.dfr.1,_,h1,us,res',os',I',_,rfl,hQ,b7j h' rfl hko h2⟩
 cases e with
 | normal=>exact key hk
 | exit i=>exact hk.elim
 | ret=>exact key hk
end
/-! A call whose body is walked in place. -/
section
variable {I0:Nat->Nat->Prop} {X:Nat->Prop} {w0:W0} {I:Nat->Nat->Prop} {g:Nat->Value} {s:S} {a:Act} {w:World}
def a47 (vs:List V) (o:List O) (n:Nat):S:=⟨a4k vs (uns n),B4 o (.kl [])⟩
def a50:Nat->List O->List O
 | 0,_=>[]
 | _+1,[]=>[]
 | n+1,x::l=>x::a50 n l
theorem a6B:∀(n:Nat) (l:List O),a50 n l=l.take n
 | 0,l=>by simp[a50]
 | n+1,[]=>by simp[a50]
 | n+1,x::l=>by simp[a50,a6B n l]
def c5n (n:Nat):V->Bool
 | .tu vs=>b0Z n vs
 | x=>c8e n x
theorem b73 {I:Nat->Nat->Prop} {w:World} {g g':Nat->Value} {n:Nat} (hg:∀k,k<n->g' k=g k) {v:Value} {x:V} (h:AtV I w g v x) (hl:c5n n x=true):AtV I w g' v x:=by
 unfold c5n at hl
 split at hl
 ·obtain⟨us,rfl,h2⟩:=h.untu;exact a2U (a8G hg h2 hl)
 ·exact b7u hg h hl
def c1O (n:Nat) (x:V) (o:List O):List O:=match c5n n x with
 | true=>match a3q n (a50 n o) with|true=>a50 n o|false=>K8 o n .dead
 | false=>K8 o n .dead
def b74 (n:Nat) (K:V->List O->List Nat->Prop) (res:List V) (s:S):Prop:=match C1 s.o n with
 | .kl ks=>K (a1i res) (c1O n (a1i res) s.o) ks
 | _=>False
def c5o (a:Ar) (n:Nat) (K:V->List O->List Nat->Prop) (l:List ResultVar):Vm.X->S->Prop
 | .exit _,_=>False
 | .normal,s=>a5Q a s l (λvs=>b74 n K vs s)
 | .ret,s=>a5Q a s l (λvs=>b74 n K vs s)
theorem b75 {g:Nat->Value} {vs:List V} {us:List Value} (h:o7 I w g us vs):AtV I w g (pkg us) (a1i vs):=c1k h
theorem RelI.rebase (h:RelI I0 X w0 I g s a w) {us:List Value} {vs:List V} (hv:o7 I w g us vs):∃g',(∀k,k<s.o.length->g' k=g k)/\g' s.o.length=.agg ((List.range s.o.length).map g).toArray /\
  RelI I (Xof g' (B4 s.o (.kl []))) ⟨w,g',s.o.length+1,[]⟩ I g' ⟨vs,B4 s.o (.kl [])⟩ { tmps:=us.toArray,defers:=[] } w:=by
 obtain⟨ghost,hgh⟩:∃v:Value,v=.agg ((List.range s.o.length).map g).toArray:=⟨_,rfl⟩
 have h1:=h.newObj (.kl []) ghost ⟨((List.range s.o.length).map g).toArray,by rw[v7,hgh],by simp,λj u hu=>.inr (.inl (by
  have hj:j<s.o.length:=by have:=(d3Z.1 hu).1;simpa using this
  rw[F0 (by omega)];simp only[d5B,d4p,List.getElem?_range hj,d5c,Option.some.injEq] at hu
  exact hu))⟩ (λj b _ _=>by rw[hgh];exact λh=>h)
 have hg:∀k,k<s.o.length->upd g s.o.length ghost k=g k:=λk hk=>F0 (by omega)
 have hlen:(s.obj (.kl [])).o.length=s.o.length+1:=by show (B4 s.o _).length=_;rw[a0U];simp
 refine⟨upd g s.o.length ghost,hg,by rw[v7,hgh],λ_ _ h=>h,λb k hb=>⟨(h.lt b k hb).1,λ_=>.inl hb⟩,Fr.refl _ _,C3.refl _ _,by rw[a0U];simp,λ_ _ _=>rfl,λk o ho=>?_,h1.dis,h1.out,hv.more (h.fresh _),rfl,h.tabs λb ⟨k,o,ho,hd,hg⟩=>((h1.obj k o ho).blk hd b hg).2⟩;have hob:=h1.obj k o ho;have hX:∀b,gbl (upd g s.o.length ghost k) b->o≠.dead->a3F (Xof (upd g s.o.length ghost) (B4 s.o (.kl []))) ⟨w,upd g s.o.length ghost,s.o.length+1,[]⟩ b:=λb hb hd=>.inr ⟨k,o,ho,hd,hb⟩
 cases o with
 | dead=>exact True.intro
 | box cs =>
  obtain⟨b,us,t,e1,e2,e3,e4,e5,e6⟩:=hob;exact⟨b,us,t,e1,e2,e3,e4,e5,hX b (by rw[e1];rfl) (by simp)⟩
 | row z e rows =>
  obtain⟨us,e1,e2,e3,e4⟩:=hob;exact⟨us,e1,e2,e3,λb hb=>⟨(e4 b hb).1,(e4 b hb).2.1,hX b ((a3m e1).2 hb) (by simp)⟩⟩
 | mp kt es =>
  obtain⟨b,l,c,e1,e2,e3,e4,e5⟩:=hob;exact⟨b,l,c,e1,e2,e3,e4,hX b (by rw[e1];rfl) (by simp)⟩
 | ob T vs =>
  obtain⟨b,e1,e2,e4,e5⟩:=hob;exact⟨b,e1,e2,e4,hX b (by rw[e1];rfl) (by simp)⟩
 | it P =>
  obtain⟨A,n,cap,F,e1,e2,e3,e4⟩:=hob;exact⟨A,n,cap,F,e1,e2,e3,λb hb=>⟨(e4 b hb).1,(e4 b hb).2.1,hX b (by rw[e1,a3j];exact hb) (by simp)⟩⟩
 | kl ks=>exact hob
theorem RelI.unbase (h:RelI I0 X w0 I g s a w) {g':Nat->Value} {os2:List O} {t2:List V} {a2:Act} {w':World} {I2:Nat->Nat->Prop} {g2:Nat->Value} {ks:List Nat} (hg:∀k,k<s.o.length->g' k=g k) (hgn:g' s.o.length=.agg ((List.range s.o.length).map g).toArray)
  (h2:RelI I (Xof g' (B4 s.o (.kl []))) ⟨w,g',s.o.length+1,[]⟩ I2 g2 ⟨t2,os2⟩ a2 w') (hk:os2[s.o.length]?=some (.kl ks)):o7 I2 w' (a6z s.o.length g2) a.tmps.toList (E5 ks s.t)/\RelI I0 X w0 I2 g2 ⟨E5 ks s.t,os2.set s.o.length .dead⟩ a w':=by
 have hlo:s.o.length+1<=os2.length:=h2.lo
 have hX:∀b,Xof g' (B4 s.o (.kl [])) b->b<w.heap.size/\a3F X w0 b:=λb ⟨k,o,ho,hd,hb⟩=>by
  rw[a0U] at ho
  rcases d4F k s.o.length with hlt|hge
  ·rw[d4b hlt] at ho;rw[hg k hlt] at hb;exact(h.obj k o ho).blk hd b hb
  ·have hlt:=(d3J.1 ho).1;rw[d3K,d5f] at hlt;have:k=s.o.length:=by omega
   subst this;rw[hgn] at hb;exact hb.elim
 have hM:∀b,a3F (Xof g' (B4 s.o (.kl []))) ⟨w,g',s.o.length+1,[]⟩ b->a3F X w0 b:=λb hb=>by
  rcases hb with hb|hb
  ·exact .inl (d5m h.fr.size hb)
  ·exact(hX b hb).2
 have hst:∀k,k<s.o.length->a0H (g k)=true->g2 k=g k:=λk hk hr=>by
  rw[<-hg k hk] at hr ⊢;exact h2.st k (Nat.lt_succ_of_lt hk) hr
 have hkl:∀k,k<s.o.length->k∉ks->g2 k=g k\/g k=.nilFunc:=λk hk0 hks=>by
  obtain⟨us,e1,e2,e3⟩:=h2.obj _ _ hk;have e4:=h2.st s.o.length (Nat.lt_succ_self _) (by show a0H (g' s.o.length)=true;rw[hgn];rfl);have e5:g2 s.o.length=g' s.o.length:=e4;rw[e5,hgn] at e1;have e1:=Value.agg.inj e1;have hu:us[k]?=some (g k):=by rw[<-e1];simp[hk0]
  rcases e3 k _ hu with e6|e6|e6
  ·exact .inr e6
  ·exact .inl e6
  ·exact absurd e6 hks
 have hget:∀(k:Nat) (o:O),(os2.set s.o.length O.dead)[k]?=some o->o=O.dead\/os2[k]?=some o:=λk o ho=>by
  by_cases e:s.o.length=k
  ·subst e;rw[d4v (by omega)] at ho;exact .inl (Option.some.inj ho).symm
  ·rw[d4i e] at ho;exact .inr ho
 have hlv:∀k,U7 ⟨E5 ks s.t,os2.set s.o.length .dead⟩ k->U7 ⟨t2,os2⟩ k:=λk ⟨o,ho,hd⟩=>⟨o,(hget k o ho).resolve_left hd,hd⟩
 have hcut:o7 I2 w' (a6z s.o.length g2) a.tmps.toList (E5 ks s.t):=by
  classical
  have h3:o7 I w (λk=>if k<s.o.length then g2 k else g k) a.tmps.toList (E5 ks s.t):=by
   refine a7t ks (λk=>if g k=.nilFunc/\k<s.o.length then g2 k else g k) (λj hj=>?_) (λj hr=>?_) (h.tmp.more λk hk=>?_)
   ·by_cases hlt:j<s.o.length
    ·rw[d3I hlt]
     rcases hkl j hlt hj with e|e
     ·by_cases e':g j=.nilFunc
      ·rw[d3I ⟨e',hlt⟩]
      ·rw[d3G (λh=>e' h.1)];exact e
     ·rw[d3I ⟨e,hlt⟩]
    ·rw[d3G hlt,d3G (λh=>hlt h.2)]
   ·by_cases hlt:j<s.o.length
    ·rw[d3I hlt]
     by_cases e':g j=.nilFunc
     ·rw[d3I ⟨e',hlt⟩]
     ·rw[d3G (λh=>e' h.1)] at hr ⊢;exact hst j hlt hr
    ·rw[d3G hlt,d3G (λh=>hlt h.2)]
   ·rw[d3G (λh=>hk h.1)]
  refine(h3.more λk hk=>?_).mono (λb k hb=>h2.im b k hb) h2.kp;unfold a6z
  by_cases hc:k<s.o.length
  ·rw[d3I hc,d3I hc]
  ·rw[d3G hc] at hk;exact absurd (h.out k (by omega)) hk
 refine⟨hcut,?_⟩;refine⟨λb k hb=>h2.im b k (h.im b k hb),λb k hb=>⟨(h2.lt b k hb).1,λhlt=>?_⟩,⟨h2.fr.os.trans h.fr.os,h2.fr.tape.trans h.fr.tape,h2.fr.output.trans h.fr.output,d5m h.fr.size h2.fr.size,λb hb hx=>?_⟩,h.kp.trans λb k hb i hi=>h2.kp b k (h.im b k hb) i hi,?_,λk hk' hr=>?_,λk o ho=>?_,λj k b hj hk'=>h2.dis j k b (hlv j hj) (hlv k hk'),λk hk'=>?_,?_,h.dfr⟩
 ·rcases (h2.lt b k hb).2 (d4M hlt h.fr.size) with h3|h3
  ·exact(h.lt b k h3).2 hlt
  ·rcases (hX b h3).2 with h4|h4
   ·omega
   ·exact .inr h4
 ·refine(h2.fr.block b (d4M hb h.fr.size) λhx'=>?_).trans (h.fr.block b hb hx)
  rcases (hX b hx').2 with h4|h4
  ·omega
  ·exact hx h4
 ·show w0.n<=(os2.set s.o.length .dead).length;have:=h.lo;rw[d4k];omega
 ·have e:=h.st k hk' hr;have hlt:k<s.o.length:=d4M hk' h.lo;rw[<-e] at hr ⊢;exact hst k hlt hr
 ·rcases hget k o ho with rfl|ho
  ·exact True.intro
  have hob:=h2.obj k o ho;cases o with
  | dead=>exact True.intro
  | box cs =>
   obtain⟨b,us,t,e1,e2,e3,e4,e5,e6⟩:=hob;exact⟨b,us,t,e1,e2,e3,e4,e5,hM b e6⟩
  | row z e rows =>
   obtain⟨us,e1,e2,e3,e4⟩:=hob;exact⟨us,e1,e2,e3,λb hb=>⟨(e4 b hb).1,(e4 b hb).2.1,hM b (e4 b hb).2.2⟩⟩
  | mp kt es =>
   obtain⟨b,l,c,e1,e2,e3,e4,e5⟩:=hob;exact⟨b,l,c,e1,e2,e3,e4,hM b e5⟩
  | ob T vs =>
   obtain⟨b,e1,e2,e4,e5⟩:=hob;exact⟨b,e1,e2,e4,hM b e5⟩
  | it P =>
   obtain⟨A,n,cap,F,e1,e2,e3,e4⟩:=hob;exact⟨A,n,cap,F,e1,e2,e3,λb hb=>⟨(e4 b hb).1,(e4 b hb).2.1,hM b (e4 b hb).2.2⟩⟩
  | kl js=>exact hob
 ·have hk':(os2.set s.o.length .dead).length<=k:=hk';rw[d4k] at hk';exact h2.out k hk'
 ·exact(hcut.more λk hk=>by unfold a6z at hk ⊢;split at hk <;> first|rw[d3I (by assumption)]|exact absurd rfl hk)
theorem RelI.trim (h:RelI I0 X w0 I g s a w) {n:Nat} (hn:w0.n<=n) (hnl:n<=s.o.length) (h1:o7 I w (a6z n g) a.tmps.toList s.t) (h2:a3q n (s.o.take n)=true):RelI I0 X w0 I (a6z n g) ⟨s.t,s.o.take n⟩ a w:=by
 have hl:(s.o.take n).length=n:=by simp;omega
 have hg:∀k,k<n->a6z n g k=g k:=λk hk=>d3I hk
 have hget:∀k o,(s.o.take n)[k]?=some o->k<n/\s.o[k]?=some o:=λk o ho=>by
  rw[d4y] at ho
  split at ho
  ·exact⟨by assumption,ho⟩
  ·cases ho
 have hlv:∀k,U7 ⟨s.t,s.o.take n⟩ k->k<n/\U7 s k:=λk ⟨o,ho,hd⟩=>⟨(hget k o ho).1,o,(hget k o ho).2,hd⟩
 refine⟨h.im,h.lt,h.fr,h.kp,by show w0.n<=(s.o.take n).length;omega,λk hk hr=>(hg k (by omega)).trans (h.st k hk hr),λk o ho=>?_,λj k b hj hk hbj hbk=>?_,λk hk=>d3G (by have hk:(s.o.take n).length<=k:=hk;omega),h1,h.dfr⟩
 ·obtain⟨hk,hso⟩:=hget k o ho;have hob:=h.obj k o hso;cases o with
  | dead=>exact True.intro
  | box cs =>
   obtain⟨b,us,t,e1,e2,e3,e4⟩:=hob;exact⟨b,us,t,(hg k hk).trans e1,e2,a8F hg e3 (a6p h2 ho),e4⟩
  | row z e rows =>
   obtain⟨us,e1,e2,e3,e4⟩:=hob;exact⟨us,by rw[hg k hk];exact e1,e2,e3,by rw[hg k hk];exact e4⟩
  | mp kt es =>
   obtain⟨b,l,c,e1,e2⟩:=hob;exact⟨b,l,c,(hg k hk).trans e1,e2⟩
  | ob T vs =>
   obtain⟨b,e1,e2⟩:=hob;exact⟨b,(hg k hk).trans e1,e2⟩
  | it P =>
   obtain⟨A,n',cap,F,e1,e2⟩:=hob;exact⟨A,n',cap,F,(hg k hk).trans e1,e2⟩
  | kl ks =>
   obtain⟨us,e1,e2,e3⟩:=hob;refine⟨us,(hg k hk).trans e1,e2,λj u hu=>?_⟩;have hj:=(d3Z.1 hu).1
   rcases e3 j u hu with e4|e4|e4
   ·exact .inl e4
   ·exact .inr (.inl ((hg j (by omega)).trans e4))
   ·exact .inr (.inr e4)
 ·obtain⟨hj1,hj2⟩:=hlv j hj;obtain⟨hk1,hk2⟩:=hlv k hk;rw[hg j hj1] at hbj;rw[hg k hk1] at hbk;exact h.dis j k b hj2 hk2 hbj hbk
theorem c1P {f:Nat} {fn:Func} {c:Code} {vs:List V} {o:List O} {K:V->List O->List Nat->Prop} (hf:Tryz.prog.funcs[f]?=some fn) (hb:fn.body=some c) (hn:(fn.name != "runtime.NumGoroutine")=true) (hc:y6 Tryz.prog c=true) (hr:T3 fn.results.toList=true)
  (h:E9 j5 c (a47 vs o (fn.ntmps - G7 vs)) (λx s=>c5o j5 (w8 o) K fn.results.toList x s)):Y9 f vs o K:=by
 refine⟨by unfold a3p;rw[hf];simp only[hn,hb];rfl,?_⟩;intro I0 X w0 I g t a w us hrel hv;refine calls_of_wp hf hb ?_;have hsz:us.toArray.size=G7 vs:=by rw[M9];simp[hv.1]
 rw[hsz];obtain⟨g',hg,hgn,h1⟩:=hrel.rebase hv
 have hstart:RelI I (Xof g' (B4 o (.kl []))) ⟨w,g',o.length+1,[]⟩ I g' (a47 vs o (fn.ntmps - G7 vs)) { tmps:=us.toArray++Array.replicate (fn.ntmps - G7 vs) undef,defers:=[] } w:=by
  refine⟨h1.im,h1.lt,h1.fr,h1.kp,h1.lo,h1.st,h1.obj,h1.dis,h1.out,?_,rfl,h1.dfr.2⟩;show o7 I w _ (us.toArray++Array.replicate (fn.ntmps - G7 vs) undef).toList (a4k vs (uns (fn.ntmps - G7 vs)));rw[a1z,d5t,a76];refine o7.append h1.tmp ?_;rw[d5x];refine⟨by simp,λi u c hu hc=>?_⟩;rw[d5g] at hu hc
  split at hu
  ·rename_i hi;rw[d3I hi] at hc;injection hu with hu;injection hc with hc;subst hu;subst hc;exact .tu [] [] rfl λi u c hu _=>by simp at hu
  ·cases hu
 refine a8I c _ _ _ _ _ hc ⟨I,_,hstart⟩ h λe s' a' w' hrel2 hk=>?_
 have key:a5Q j5 s' fn.results.toList (λvs=>b74 (w8 o) K vs s')->a'.defers=[]/\∃v,(results fn a'.tmps).run Tryz.prog w'=.ok v w'/\∃v' x o' ks I' g',Ending.returned v=.returned v'/\RelI I0 X w0 I' g' ⟨E5 ks t,o'⟩ a w'/\AtV I' w' g' v' x/\K x o' ks:=λhk=>by
  obtain⟨I2,g2,h2⟩:=hrel2;obtain⟨us2,res,r1,r2,r3⟩:=a2J h2 hr hk;unfold b74 at r3
  split at r3 <;> try exact r3.elim
  rename_i ks hks;have hks':=C7 hks (by simp);rw[A0] at hks' r3;obtain⟨hcut,h3⟩:=hrel.unbase hg hgn h2 hks';have hlo:o.length+1<=s'.o.length:=h2.lo;have hx:=b75 r2;refine⟨h2.dfr.1,_,r1,pkg us2,a1i res,c1O o.length (a1i res) s'.o,ks,I2,?_⟩;unfold c1O at r3 ⊢
  split
  ·rename_i hl2;rw[hl2] at r3;simp only at r3
   split
   ·rename_i hlo2;rw[hlo2] at r3;simp only at r3;rw[a6B] at hlo2 r3 ⊢
    have e:(s'.o.set o.length .dead).take o.length=s'.o.take o.length:=by
     rw[d5M (d3Q _)]
    have h4:=h3.trim (n:=o.length) hrel.lo (by show o.length<=(s'.o.set _ _).length;rw[d4k];omega) hcut (by show a3q _ ((s'.o.set _ _).take _)=true;rw[e];exact hlo2);refine⟨a6z o.length g2,rfl,?_,b73 (λk hk=>d3I hk) hx hl2,r3⟩;have h5:(⟨E5 ks t,(s'.o.set o.length .dead).take o.length⟩:S)=⟨E5 ks t,s'.o.take o.length⟩:=by rw[e]
    rw[<-h5];exact h4
   ·rename_i hlo2;rw[hlo2] at r3;simp only at r3;rw[J0] at r3 ⊢;exact⟨g2,rfl,h3,hx,r3⟩
  ·rename_i hl2;rw[hl2] at r3;simp only at r3;rw[J0] at r3 ⊢;exact⟨g2,rfl,h3,hx,r3⟩
 cases e with
 | normal=>exact key hk
 | exit i=>exact hk.elim
 | ret=>exact key hk
theorem b76 {n:Nat} (hout:∀k,n<=k->g k=.nilFunc):∀ {cs:List V} {us:List Value},o7 I w g us cs->(∀u∈us,u.oneCell'=true)->a9g n cs=true
 | [],us,h,_=>rfl
 | c::cs,us,h,h1=>by
  obtain⟨u,us',rfl,h2,h3⟩:=h.uncons
  have hlt:∀k,g k≠.nilFunc->Nat.blt k n=true:=λk hk=>by
   rw[d4W]
   rcases d4F k n with h4|h4
   ·exact h4
   ·exact absurd (hout k h4) hk
  have hc:a4l n c=true:=by
   have hu:=h1 u (d3L ..);cases h2 with
   | d hh=>rfl
   | ag=>cases hu
   | tu=>cases hu
   | em=>rfl
   | own k A m cap hh=>exact hlt k (by intro e;rw[e] at hh;cases hh)
   | ptr k off b hh=>exact hlt k (by rw[hh];simp)
   | cl f us ks hl hh =>
    rw[a4l]
    have key:∀(ks:List Nat),(∀k∈ks,g k≠.nilFunc)->b9c n ks=true:=by
     intro ks
     induction ks with
     | nil=>intro _;rfl
     | cons k ks ih =>
      intro h;rw[b9c,hlt k (h k (d3L ..))];exact ih λk hk=>h k (d3M _ hk)
    refine key ks λk hk=>?_
    obtain⟨i,hi⟩:=d42.1 hk;have hlt':i<us.length:=by rw[hl];exact(d3J.1 hi).1
    obtain⟨_,b,hb⟩:=hh i _ k (d3H hlt') hi;rw[hb];simp
   | el k i sz off b m cap hh=>exact hlt k (by rw[hh];simp)
   | ro b o off us cs hi hc hd=>rfl
   | mp k b hh=>exact hlt k (by rw[hh];simp)
   | bs k n' b cap hh hn=>exact hlt k (by rw[hh];simp)
   | jk v=>rfl
  rw[a9g,hc];exact b76 hout h3 λu hu=>h1 u (d3M _ hu)
theorem RelI.low (h:RelI I0 X w0 I g s a w):a3q s.o.length s.o=true:=by
 have key:∀l:List O,(∀o∈l,∀cs,o=.box cs->a9g s.o.length cs=true)->a3q s.o.length l=true:=by
  intro l
  induction l with
  | nil=>intro _;rfl
  | cons o l ih =>
   intro h;have h2:=ih λo ho=>h o (d3M _ ho)
   cases o with
   | box cs=>rw[a3q,h _ (d3L ..) cs rfl];exact h2
   | _=>exact h2
 refine key s.o λo ho cs e=>?_
 subst e;obtain⟨k,hk⟩:=d42.1 ho;obtain⟨b,us,t,h1,h2,h3,h4,_⟩:=h.obj k _ hk;exact b76 h.out h3 h4
def a9R (p:Nat):List Nat->List Nat
 | []=>[]
 | k::l=>match Nat.ble p k with|true=>a9R p l|false=>k::a9R p l
def c1Q (p:Nat):O->O
 | .kl ks=>.kl (a9R p ks)
 | x=>x
def a2o:Nat->List O->List O
 | _,[]=>[]
 | p,x::l=>c1Q p x::a2o (p+1) l
theorem a5R {p:Nat}:∀ {l:List Nat} {k:Nat},k∈l->k<p->k∈a9R p l
 | [],k,h,_=>by simp at h
 | j::l,k,h,hp=>by
  rw[a9R]
  split
  ·rename_i hj
   rcases d3R.1 h with rfl|h
   ·have:=d4X hj;omega
   ·exact a5R h hp
  ·rcases d3R.1 h with rfl|h
   ·exact d3L ..
   ·exact d3M _ (a5R h hp)
theorem a77:∀(l:List O) (p i:Nat),(a2o p l)[i]?=(l[i]?).map (c1Q (p+i))
 | [],p,i=>by simp[a2o]
 | x::l,p,0=>by simp[a2o]
 | x::l,p,i+1=>by rw[a2o];simp only[d4T];rw[a77 l (p+1) i];congr 2;omega
theorem a78 (p:Nat) (l:List O):(a2o p l).length=l.length:=by
 induction l generalizing p with
 | nil=>rfl
 | cons x l ih=>rw[a2o,d3O,ih,d3O]
theorem b6b {p:Nat} {o:O} (h:c1Q p o≠.dead):o≠.dead:=by rintro rfl;exact h rfl
theorem RelI.trimKl (h:RelI I0 X w0 I g s a w):RelI I0 X w0 I g ⟨s.t,a2o 0 s.o⟩ a w:=by
 have hlv:∀k,U7 ⟨s.t,a2o 0 s.o⟩ k->U7 s k:=λk ⟨o,ho,hd⟩=>by
  simp only[a77,d4S] at ho;obtain⟨o',ho',rfl⟩:=ho;exact⟨o',ho',b6b hd⟩
 refine⟨h.im,h.lt,h.fr,h.kp,by rw[a78];exact h.lo,h.st,λj o hj=>?_,λi j b hi hj=>h.dis i j b (hlv i hi) (hlv j hj),λj hj=>h.out j (by rw[a78] at hj;exact hj),h.tmp,h.dfr⟩;simp only[a77,d4S,d4L] at hj;obtain⟨o',ho',rfl⟩:=hj;have hob:=h.obj j o' ho';cases o' with
 | kl ks =>
  obtain⟨us,e1,e2,e3⟩:=hob;refine⟨us,e1,e2,λi u hu=>?_⟩
  rcases e3 i u hu with e4|e4|e4
  ·exact .inl e4
  ·exact .inr (.inl e4)
  ·have:=(d3Z.1 hu).1;exact .inr (.inr (a5R e4 (by omega)))
 | _=>exact hob
end
def a79 (i:Nat):List V->Bool
 | []=>false
 | .own k::l=>match Y5 k i with|true=>true|false=>a79 i l
 | _::l=>a79 i l
def b77:Nat->List V->Bool
 | 0,_=>true
 | n+1,vs=>match a79 n vs with|true=>b77 n vs|false=>false
theorem b1E {i:Nat}:∀ {l:List V},a79 i l=true->∃p:Nat,l[p]?=some (V.own i)
 | [],h=>by cases h
 | x::l,h=>by
  have H6:a79 i l=true->∃p:Nat,(x::l)[p]?=some (V.own i):=λh=>by
   obtain⟨p,hp⟩:=b1E h;exact⟨p+1,by simpa using hp⟩
  unfold a79 at h
  split at h
  ·cases ‹_=[]›
  ·rename_i k l' e;injection e with e1 e2;subst e1;subst e2
   split at h
   ·rename_i hk;rw[H0] at hk;subst hk;exact⟨0,rfl⟩
   ·exact H6 h
  ·rename_i e;injection e with e1 e2;subst e2;exact H6 h
theorem b4j:∀ {n:Nat} {vs:List V},b77 n vs=true->∀i,i<n->∃p:Nat,vs[p]?=some (V.own i)
 | 0,_,_,i,hi=>absurd hi (d6n _)
 | n+1,vs,h,i,hi=>by
  rw[b77] at h
  split at h
  ·rename_i h1
   by_cases e:i=n
   ·subst e;exact b1E h1
   ·exact b4j h i (by omega)
  ·cases h
theorem c73 {I:Nat->Nat->Prop} {w:World} {g:Nat->Value}:∀ {res:List V} {v:Value},AtV I w g v (a1i res)->∃us,v=pkg us/\o7 I w g us res
 | [],v,h=>by
  obtain⟨us,rfl,h2⟩:=AtV.untu h;exact⟨us,by rw[h2.unnil];rfl,h2⟩
 | [r],v,h=>⟨[v],rfl,.cons h (.nil I w g)⟩
 | r::r'::res,v,h=>by
  obtain⟨us,rfl,h2⟩:=AtV.untu h;obtain⟨u,us',rfl,_,h4⟩:=h2.uncons;obtain⟨u',us'',rfl,_,_⟩:=h4.uncons;exact⟨_,rfl,h2⟩
def c5p:Nat->List O->Bool
 | 0,_=>true
 | n+1,.row _ _ _::l=>c5p n l
 | _,_=>false
theorem b2P:∀ {n:Nat} {l:List O},c5p n l=true->∀i,i<n->∃z e r,l[i]?=some (O.row z e r)
 | 0,_,_,i,hi=>absurd hi (d6n _)
 | n+1,[],h,_,_=>by cases h
 | n+1,o::l,h,i,hi=>by
  cases o with
  | row z e r =>
   cases i with
   | zero=>exact⟨z,e,r,rfl⟩
   | succ i=>exact b2P (n:=n) (l:=l) h i (by omega)
  | _=>cases h
theorem a1B {f:Nat} {fn:Func} {c:Code} {vs:List V} {os:List O} {Q:List V->List O->Prop} (hf:Tryz.prog.funcs[f]?=some fn) (hb:fn.body=some c) (hn:(fn.name != "runtime.NumGoroutine")=true) (hc:y6 Tryz.prog c=true) (hr:T3 fn.results.toList=true) (hs:b77 (w8 os) vs=true) (hos:c5p (w8 os) os=true) (hq:∀res o',Q res o'->c5p (w8 os) o'=true)
  (h:∀qa qb qc qd qe qg qh qi qj qk ql qm qo qp qq qt qu qv qw qx qy qz va vc vd ve vf vg vh vj vk vl vm vn vo vq vr vt vu vv vw vx vy,Ar.mk qa qb qc qd qe qg qh qi qj qk ql qm qo qp qq qt qu qv qw qx qy qz va vc vd ve vf vg vh vj vk vl vm vn vo vq vr vt vu vv vw vx vy=j5->∀K:V->List O->List Nat->Prop,(∀res o',Q res o'->K (a1i res) o' [])->E9 (Ar.mk qa qb qc qd qe qg qh qi qj qk ql qm qo qp qq qt qu qv qw qx qy qz va vc vd ve vf vg vh vj vk vl vm vn vo vq vr vt vu vv vw vx vy) c (a47 vs os (fn.ntmps - G7 vs)) (λx s=>c5o (Ar.mk qa qb qc qd qe qg qh qi qj qk ql qm qo qp qq qt qu qv qw qx qy qz va vc vd ve vf vg vh vj vk vl vm vn vo vq vr vt vu vv vw vx vy) (w8 os) K fn.results.toList x s)):E8 f vs os Q:=by
 have h0:=c1P (K:=λx o' ks=>ks=[]/\∃res,x=a1i res/\Q res o') (vs:=vs) (o:=os) hf hb hn hc hr (h _ _ _ _ _ _ _ _ _ _ _ _ _ _ _ _ _ _ _ _ _ _ _ _ _ _ _ _ _ _ _ _ _ _ _ _ _ _ _ _ _ _ _ (show Ar.mk j5.wrap j5.add j5.sub j5.mul j5.quo j5.rem j5.bits j5.lt j5.le j5.eq j5.nz j5.seq j5.slt j5.bytes j5.cat j5.fits j5.slen j5.sget j5.ssub j5.txt j5.byt j5.nat j5.len j5.get j5.sub2 j5.app j5.set j5.room j5.mlook j5.mput j5.deq j5.rep j5.call j5.calld j5.callo j5.callx j5.new j5.lit j5.keep j5.next j5.ext j5.reg j5.loop=j5 from rfl) _ λres o' hq=>⟨rfl,res,rfl,hq⟩);refine⟨h0.1,λI w g args hrel=>?_⟩;refine(h0.2 I (Xof g os) ⟨w,g,os.length,[]⟩ I g vs { tmps:=args.toArray,defers:=[] } w args hrel hrel.tmp).mono ?_
 rintro e w' ⟨v,x,o',ks,I',g',rfl,h',hv,rfl,res,rfl,hQ⟩
 obtain⟨us,rfl,hus⟩:=c73 hv;refine⟨us,res,o',I',g',rfl,⟨hQ,λi hi=>?_⟩,⟨h'.im,h'.lt,h'.fr,h'.kp,h'.lo,h'.st,h'.obj,h'.dis,h'.out,hus,rfl,h'.dfr.2⟩⟩;have hq2:=hq _ _ hQ;rw[A0] at hs hos hq2;obtain⟨p,hp⟩:=b4j hs i hi;obtain⟨z1,f1,r1,ho1⟩:=b2P hos i hi;obtain⟨z2,f2,r2,ho2⟩:=b2P hq2 i hi;obtain⟨us1,hw1,_⟩:=hrel.obj i _ ho1;obtain⟨us2,hw2,_⟩:=h'.obj i _ ho2;have e1:o7 I w g args vs:=hrel.tmp;have e2:o7 I' w' g' args vs:=h'.tmp;have hlt:p<args.length:=by rw[e1.1];exact(d3J.1 hp).1
 have ha:args[p]?=some args[p]:=d3H hlt;rw[<-a2V hw1,<-a2V hw2,<-(e1.2 p _ _ ha hp).unown.1,<-(e2.2 p _ _ ha hp).unown.1]
section
variable {f:Nat} {fn:Func} {c:Code}
theorem Q5 {rs q:List R} (hf:Tryz.prog.funcs[f]?=some fn) (hb:fn.body=some c) (h:∀qa qb qc qd qe qg qh qi qj qk ql qm qo qp qq qt qu qv qw qx qy qz va vc vd ve vf vg vh vj vk vl vm vn vo vq vr vt vu vv vw vx vy,Ar.mk qa qb qc qd qe qg qh qi qj qk ql qm qo qp qq qt qu qv qw qx qy qz va vc vd ve vf vg vh vj vk vl vm vn vo vq vr vt vu vv vw vx vy=j5->E9 (Ar.mk qa qb qc qd qe qg qh qi qj qk ql qm qo qp qq qt qu qv qw qx qy qz va vc vd ve vf vg vh vj vk vl vm vn vo vq vr vt vu vv vw vx vy) c (a45 rs (fn.ntmps - G7 rs)) (λx s=>c1N (Ar.mk qa qb qc qd qe qg qh qi qj qk ql qm qo qp qq qt qu qv qw qx qy qz va vc vd ve vf vg vh vj vk vl vm vn vo vq vr vt vu vv vw vx vy) fn.results.toList q x s)) (hn:(fn.name != "runtime.NumGoroutine")=true:=by kernel_rfl) (hc:y6 Tryz.prog c=true:=by kernel_rfl) (hr:T3 fn.results.toList=true:=by kernel_rfl):o8 f rs q:=a6A hf hb hn hc hr h
theorem so9 {vs:List V} {os:List O} {Q:List V->List O->Prop} (hf:Tryz.prog.funcs[f]?=some fn) (hb:fn.body=some c) (h:∀qa qb qc qd qe qg qh qi qj qk ql qm qo qp qq qt qu qv qw qx qy qz va vc vd ve vf vg vh vj vk vl vm vn vo vq vr vt vu vv vw vx vy,Ar.mk qa qb qc qd qe qg qh qi qj qk ql qm qo qp qq qt qu qv qw qx qy qz va vc vd ve vf vg vh vj vk vl vm vn vo vq vr vt vu vv vw vx vy=j5->E9 (Ar.mk qa qb qc qd qe qg qh qi qj qk ql qm qo qp qq qt qu qv qw qx qy qz va vc vd ve vf vg vh vj vk vl vm vn vo vq vr vt vu vv vw vx vy) c (a3a vs os (fn.ntmps - G7 vs)) (λx s=>c5m (Ar.mk qa qb qc qd qe qg qh qi qj qk ql qm qo qp qq qt qu qv qw qx qy qz va vc vd ve vf vg vh vj vk vl vm vn vo vq vr vt vu vv vw vx vy) (w8 os) Q fn.results.toList x s)) (hn:(fn.name != "runtime.NumGoroutine")=true:=by kernel_rfl) (hc:y6 Tryz.prog c=true:=by kernel_rfl) (hr:T3 fn.results.toList=true:=by kernel_rfl):y7 f vs os Q:=a9Q hf hb hn hc hr h
end
end
section
def wrO:List Oper->List Nat->List Nat
 | [],acc=>acc
 | ⟨some d,_,_,_,_,_⟩::l,acc=>d::wrO l acc
 | _::l,acc=>wrO l acc
def wr:Code->List Nat->List Nat
 | .region _ ops _,acc=>wrO ops.toList acc
 | .seq c d,acc=>wr c (wr d acc)
 | .cond _ c d,acc=>wr c (wr d acc)
 | .block _ c,acc=>wr c acc
 | .loop c,acc=>wr c acc
 | _,acc=>acc
def b6c:List Nat->List V->List V
 | [],t=>t
 | i::l,t=>b6c l (H5 t i .jk)
def b4k:List (Nat×V)->List V->List V
 | [],t=>t
 | (i,v)::l,t=>b4k l (H5 t i v)
def b1F:List (Nat×O)->List O->List O
 | [],o=>o
 | (k,x)::l,o=>b1F l (K8 o k x)
theorem a7A:∀(l:List (Nat×O)) (o:List O),(b1F l o).length=o.length
 | [],_=>rfl
 | (k,x)::l,o=>by rw[b1F,a7A l,J0,d4k]
def head (c:Code) (s:S) (l:List (Nat×V)) (m:List (Nat×O)):S:=⟨b4k l (b6c (wr c []) s.t),b1F m s.o⟩
def U6:Code->Code
 | .seq c _=>c
 | c=>c
def m9:Code->Code
 | .seq _ c=>c
 | c=>c
section
variable {I0:Nat->Nat->Prop} {X:Nat->Prop} {w0:W0} {I:Nat->Nat->Prop} {g:Nat->Value} {s:S} {a:Act} {w:World}
theorem RelI.reread (h:RelI I0 X w0 I g s a w) {i:Nat} {x:V} (hx:∀v,a.tmps.toList[i]?=some v->AtV I w g v x):RelI I0 X w0 I g ⟨H5 s.t i x,s.o⟩ a w:=by
 refine⟨h.im,h.lt,h.fr,h.kp,h.lo,h.st,h.obj,h.dis,h.out,?_,h.dfr⟩;rw[a0l];refine⟨by rw[d4k];exact h.tmp.1,λj v y hv hy=>?_⟩
 by_cases hji:i=j
 ·subst hji;have hlt:i<s.t.length:=by have:=(d3J.1 hy).1;rw[d4k] at this;exact this
  rw[d4v hlt] at hy;cases hy;exact hx v hv
 ·rw[d4i hji] at hy;exact h.tmp.2 j v y hv hy
end
theorem L6.own (s:S) (i e:Nat) (z:Bool) (hi:y8 s.t i=.em):L6 s ⟨H5 s.t i (.own (w8 s.o)),B4 s.o (.row z e [])⟩:=by
 rintro I0 X w0 a w ⟨I,g,h⟩
 have h2:=h.newObj (.row z e []) (.slice none 0 0) ⟨[],by rw[v7];exact World.ownsRow_nil w 0 e _,by simp,F8.nil I w,λb hb=>by rw[v7] at hb;cases hb⟩ (λj b _ _ hb=>by cases hb);refine⟨I,upd g s.o.length (.slice none 0 0),?_⟩;have h3:RelI I0 X w0 I (upd g s.o.length (.slice none 0 0)) ⟨s.t,B4 s.o (.row z e [])⟩ a w:=h2;refine h3.reread λv hv=>?_
 have hs:=a1l hi (by simp);have h4:=h.tmp.2 i v _ hv hs;rw[h4.unem];exact .own _ _ _ _ (by rw[A0,v7];rfl)
theorem L6.weaker (s s':S) (hw:Vm.weak s s') (hl:w8 s.o=w8 s'.o):L6 s s':=λI0 X w0 a w h=>h.weak (by
 obtain⟨I,g,h⟩:=h;have:=h.lo;rw[<-A0,<-hl,A0]
 exact this) (.inr hw)
section
variable {qa:IntKind->Int->Int} {qb:Int->Int->Int} {qc:Int->Int->Int} {qd:Int->Int->Int} {qe:Int->Int->Int} {qg:Int->Int->Int} {qh:BinOp->IntKind->Int->IntKind->Int->Option Int} {qi:Int->Int->Bool} {qj:Int->Int->Bool} {qk:Int->Int->Bool} {ql:Int->Prop->Prop} {qm:List UInt8->List UInt8->Bool} {qo:List UInt8->List UInt8->Bool} {qp:ByteArray->List UInt8} {qq:ByteArray->ByteArray->ByteArray} {qt:ByteArray->ByteArray->Prop->Prop} {qu:ByteArray->Int} {qv:ByteArray->Int->Option Int} {qw:ByteArray->Int->Int->Option ByteArray} {qx:List (List D)->Option ByteArray} {qy:ByteArray->List (List D)} {qz:Int->Nat->Option Nat} {va:List (List D)->Int} {vc:List (List D)->Int->Option (List D)} {vd:List (List D)->Int->Int->Option (List (List D))} {ve:List (List D)->List (List D)->List (List D)} {vf:List (List D)->Int->List D->List (List D)} {vg:List (List D)->List (List D)->Prop->Prop} {vh:List (R×R)->R->Option R} {vj:List (R×R)->R->R->List (R×R)} {vk:List D->List D->Bool} {vl:Int->List D->(List (List D)->Prop)->Prop} {vm:Nat->List R->(List R->Prop)->Prop} {vn:Nat->List V->List O->(V->Prop)->Prop} {vo:Nat->List V->S->(V->S->Prop)->Prop} {vq:Nat->List V->List Nat->S->(V->S->Prop)->Prop} {vr:Nat->(Bool->Prop)->Prop} {vt:Nat->(Bool->Prop)->Prop} {vu:Nat->(List V->List O->Prop)->List V->S->Prop} {vv:(S->Prop)->S->Prop} {vw:Op->Option Nat->S->(S->Prop)->Prop} {vx:Array Oper->S->(S->Prop)->Prop} {vy:Code->(S->(X->S->Prop)->Prop)->S->(X->S->Prop)->Prop}
theorem n9 (hA:Ar.mk qa qb qc qd qe qg qh qi qj qk ql qm qo qp qq qt qu qv qw qx qy qz va vc vd ve vf vg vh vj vk vl vm vn vo vq vr vt vu vv vw vx vy=j5) {c:Code} {body:S->(X->S->Prop)->Prop} {s:S} {K:X->S->Prop} {γ:Type} (slots:γ->List (Nat×V)) (objs:γ->List (Nat×O)) (inv:γ->Prop) (μ:γ->Nat) (x0:γ) (h0:inv x0) (hw:weak s (head c s (slots x0) (objs x0)))
  (hr:∀x,inv x->body (head c s (slots x) (objs x)) (λe s'=>b22 (λs2=>∃y,inv y/\μ y<μ x/\weak s2 (head c s (slots y) (objs y))) K e s')):vy c body s K:=by
 have e:vy=j5.loop:=congrArg Ar.loop hA;rw[e];exact .inl ⟨γ,λx=>head c s (slots x) (objs x),inv,μ,λx _=>by rw[A0,A0];exact Nat.le_of_eq (a7A _ _).symm,⟨x0,hw,h0⟩,hr⟩
theorem j6 (hA:Ar.mk qa qb qc qd qe qg qh qi qj qk ql qm qo qp qq qt qu qv qw qx qy qz va vc vd ve vf vg vh vj vk vl vm vn vo vq vr vt vu vv vw vx vy=j5) {N:S->Prop} {s:S} (h:N s):vv N s:=by
 have e:vv=j5.next:=congrArg Ar.next hA
 rw[e];exact⟨λs2=>s2=s,λ_ _ _ _ _ h=>⟨_,rfl,h⟩,λs2 e=>by subst e;exact h⟩
theorem a1C (hA:Ar.mk qa qb qc qd qe qg qh qi qj qk ql qm qo qp qq qt qu qv qw qx qy qz va vc vd ve vf vg vh vj vk vl vm vn vo vq vr vt vu vv vw vx vy=j5) {N:S->Prop} {s:S} (s':S) (hg:L6 s s') (h:N s'):vv N s:=by
 have e:vv=j5.next:=congrArg Ar.next hA
 rw[e];exact⟨λs2=>s2=s',λ_ _ _ _ _ hr=>⟨_,rfl,hg _ _ _ _ _ hr⟩,λs2 e=>by subst e;exact h⟩
theorem c8w (hA:Ar.mk qa qb qc qd qe qg qh qi qj qk ql qm qo qp qq qt qu qv qw qx qy qz va vc vd ve vf vg vh vj vk vl vm vn vo vq vr vt vu vv vw vx vy=j5) {op:Op} {dst:Option Nat} {s:S} {K:S->Prop} (h:j5.ext op dst s K):vw op dst s K:=by
 have e:vw=j5.ext:=congrArg Ar.ext hA;rw[e];exact h
theorem c1R (hA:Ar.mk qa qb qc qd qe qg qh qi qj qk ql qm qo qp qq qt qu qv qw qx qy qz va vc vd ve vf vg vh vj vk vl vm vn vo vq vr vt vu vv vw vx vy=j5) {N:S->Prop} {s:S} (ks:List Nat) (h:N ⟨s.t,frz ks s.o⟩):vv N s:=a1C hA _ (L6.frz s ks) h
theorem a3b (hA:Ar.mk qa qb qc qd qe qg qh qi qj qk ql qm qo qp qq qt qu qv qw qx qy qz va vc vd ve vf vg vh vj vk vl vm vn vo vq vr vt vu vv vw vx vy=j5) {N:S->Prop} {s:S} (i e:Nat) (z:Bool) (hi:y8 s.t i=.em) (h:N ⟨H5 s.t i (.own (w8 s.o)),B4 s.o (.row z e [])⟩):vv N s:=a1C hA _ (L6.own s i e z hi) h
theorem j8 (hA:Ar.mk qa qb qc qd qe qg qh qi qj qk ql qm qo qp qq qt qu qv qw qx qy qz va vc vd ve vf vg vh vj vk vl vm vn vo vq vr vt vu vv vw vx vy=j5) {f:Nat} {vs:List V} {s:S} {rs:List R} {K:V->S->Prop} (q:List R) (h:o8 f rs q) (hr:b0W s.o vs=some rs) (hK:K (b8W q) s):vo f vs s K:=by
 have e:vo=j5.callo:=congrArg Ar.callo hA;rw[e];exact(a9n h hr).mono λx o' ks ⟨e1,e2,e3⟩=>by subst e1;subst e2;subst e3;exact hK
theorem l9 (hA:Ar.mk qa qb qc qd qe qg qh qi qj qk ql qm qo qp qq qt qu qv qw qx qy qz va vc vd ve vf vg vh vj vk vl vm vn vo vq vr vt vu vv vw vx vy=j5) {f:Nat} {rs:List R} {K:List R->Prop} (q:List R) (h:o8 f rs q) (hK:K q):vm f rs K:=by
 have e:vm=j5.call:=congrArg Ar.call hA;rw[e];exact⟨q,h,hK⟩
theorem A1 (hA:Ar.mk qa qb qc qd qe qg qh qi qj qk ql qm qo qp qq qt qu qv qw qx qy qz va vc vd ve vf vg vh vj vk vl vm vn vo vq vr vt vu vv vw vx vy=j5) {f:Nat} {vs:List V} {s:S} {K:V->S->Prop} (ks:List Nat) {vs':List V} {os':List O} {Q:List V->List O->Prop} (h:y7 f vs' os' Q) (hs:SubOk ks vs' os' vs s) (hK:∀res os2,Q res os2->K (a1i (upT ks (w8 s.o) res)) (a3i ks os2 s)):vo f vs s K:=by
 have e:vo=j5.callo:=congrArg Ar.callo hA;rw[e];exact(b3S h hs).mono λx o' ks' ⟨e1,res,os2,hQ,e2,e3⟩=>by subst e1;subst e2;subst e3;exact hK res os2 hQ
theorem K6 (hA:Ar.mk qa qb qc qd qe qg qh qi qj qk ql qm qo qp qq qt qu qv qw qx qy qz va vc vd ve vf vg vh vj vk vl vm vn vo vq vr vt vu vv vw vx vy=j5) {f:Nat} {vs:List V} {s:S} {K:V->S->Prop} (ks:List Nat) {vs':List V} {os':List O} {Q:List V->List O->Prop} (h:E8 f vs' os' Q) (hs:SubOk ks vs' os' vs s) (hK:∀res os2,Q res os2->K (a1i (upT ks (w8 s.o) res)) ⟨s.t,J6 ks (a0t ks (w8 s.o) os2) s.o⟩):vo f vs s K:=by
 have e:vo=j5.callo:=congrArg Ar.callo hA;rw[e];exact(a4y h hs).mono λx o' ks' ⟨e1,res,os2,hQ,e2,e3⟩=>by subst e1;subst e2;subst e3;exact hK res os2 hQ
theorem b4l (hA:Ar.mk qa qb qc qd qe qg qh qi qj qk ql qm qo qp qq qt qu qv qw qx qy qz va vc vd ve vf vg vh vj vk vl vm vn vo vq vr vt vu vv vw vx vy=j5) {f:Nat} {vs:List V} {l:List Nat} {s:S} {K:V->S->Prop} (ks:List Nat) {vs':List V} {os':List O} {Q:List V->List O->Prop} (h:E8 f vs' os' Q) (hs:SubOk ks vs' os' vs s) (hK:∀res os2,Q res os2->a3H l s.t s.o (J6 ks (a0t ks (w8 s.o) os2) s.o)/\K (a1i (upT ks (w8 s.o) res)) ⟨s.t,J6 ks (a0t ks (w8 s.o) os2) s.o⟩):vq f vs l s K:=by
 have e:vq=j5.callx:=congrArg Ar.callx hA;rw[e];exact Y9.x ((a4y h hs).mono λx o' ks' ⟨e1,res,os2,hQ,e2,e3⟩=>⟨e1,by subst e2;subst e3;exact hK res os2 hQ⟩)
theorem a6C (hA:Ar.mk qa qb qc qd qe qg qh qi qj qk ql qm qo qp qq qt qu qv qw qx qy qz va vc vd ve vf vg vh vj vk vl vm vn vo vq vr vt vu vv vw vx vy=j5) {f:Nat} {vs:List V} {l:List Nat} {s:S} {K:V->S->Prop} {x:V} (h:a9m f vs s.o x) (hK:K x s):vq f vs l s K:=by
 have e:vq=j5.callx:=congrArg Ar.callx hA;rw[e];exact h.x.mono λy o' ⟨e1,e2⟩=>by subst e1;subst e2;exact⟨λ_ _ _ _=>rfl,hK⟩
theorem W9 (hA:Ar.mk qa qb qc qd qe qg qh qi qj qk ql qm qo qp qq qt qu qv qw qx qy qz va vc vd ve vf vg vh vj vk vl vm vn vo vq vr vt vu vv vw vx vy=j5) {f:Nat} {vs:List V} {l:List Nat} {s:S} {rs:List R} {K:V->S->Prop} (q:List R) (h:o8 f rs q) (hr:b0W s.o vs=some rs) (hK:K (b8W q) s):vq f vs l s K:=by
 have e:vq=j5.callx:=congrArg Ar.callx hA;rw[e];exact Y9.x ((a9n h hr).mono λx o' ks ⟨e1,e2,e3⟩=>⟨e3,by subst e1;subst e2;exact⟨λ_ _ _ _=>rfl,hK⟩⟩)
theorem a9S (t:List V) (o o':List O):a3H [] t o o':=λi hi=>by simp at hi
theorem a8j {i:Nat} {l:List Nat} {t:List V} {o o':List O} (h:∀k,c7x (y8 t i)=some k->C1 o' k=C1 o k) (hl:a3H l t o o'):a3H (i::l) t o o':=λj hj k hk=>by
 rcases d3R.1 hj with rfl|hj
 ·exact h k hk
 ·exact hl j hj k hk
def b6d:List O->Bool
 | []=>true
 | .box _::l=>b6d l
 | .mp _ _::l=>b6d l
 | .ob _ _::l=>b6d l
 | _=>false
theorem b78 {X:Nat->Prop} {w0:W0} {I:Nat->Nat->Prop} {w:World} {g:Nat->Value}:∀ {l:List O} {i:Nat} {o:O},b6d l=true->l[i]?=some o->∀ {k:Nat},a1k X w0 I w g k o->a0H (g k)=true
 | [],i,o,_,h,_,_=>by simp at h
 | x::l,0,o,hb,h,k,ho=>by
  simp at h
  subst h;cases x with
  | box cs=>obtain⟨b,us,t,e,_⟩:=ho;rw[e];rfl
  | mp kt es=>obtain⟨b,l,c,e,_⟩:=ho;rw[e];rfl
  | ob T vs=>obtain⟨b,e,_⟩:=ho;rw[e];rfl
  | _=>cases hb
 | x::l,i+1,o,hb,h,k,ho=>by
  have hb:b6d l=true:=by cases x <;> first|exact hb|cases hb
  exact b78 hb (by simpa using h) ho
theorem y7.box {f:Nat} {vs:List V} {os:List O} {Q:List V->List O->Prop} (h:y7 f vs os Q) (hb:b6d os=true):E8 f vs os Q :=
 ⟨h.1,λI w g args hrel=>(h.2 I w g args hrel).mono λe w' ⟨us,res,os2,I',g',e1,hQ,h'⟩=>⟨us,res,os2,I',g',e1,⟨hQ,λi hi=>h'.st i hi (b78 hb (d3H hi) (hrel.obj i _ (d3H hi)))⟩,h'⟩⟩
theorem n7 (hA:Ar.mk qa qb qc qd qe qg qh qi qj qk ql qm qo qp qq qt qu qv qw qx qy qz va vc vd ve vf vg vh vj vk vl vm vn vo vq vr vt vu vv vw vx vy=j5) {n:Nat} {Q:List V->List O->Prop} {res:List V} {s:S} (ks:List Nat) {res':List V} {os':List O} (h:KeepOk n ks res' os' res s) (hQ:Q res' os'):vu n Q res s:=by
 have e:vu=j5.keep:=congrArg Ar.keep hA;rw[e];exact⟨ks,res',os',h,hQ⟩
theorem a3c (hA:Ar.mk qa qb qc qd qe qg qh qi qj qk ql qm qo qp qq qt qu qv qw qx qy qz va vc vd ve vf vg vh vj vk vl vm vn vo vq vr vt vu vv vw vx vy=j5) {e:Nat} {K:Bool->Prop} (z:Bool) (h:K z):vr e K:=by
 have e1:vr=j5.new:=congrArg Ar.new hA;rw[e1];exact⟨z,h⟩
theorem E2 (hA:Ar.mk qa qb qc qd qe qg qh qi qj qk ql qm qo qp qq qt qu qv qw qx qy qz va vc vd ve vf vg vh vj vk vl vm vn vo vq vr vt vu vv vw vx vy=j5) {t:Nat} {K:Bool->Prop} (c:Bool) (h:K c):vt t K:=by
 have e:vt=j5.lit:=congrArg Ar.lit hA;rw[e];exact⟨c,h⟩
theorem m6 (hA:Ar.mk qa qb qc qd qe qg qh qi qj qk ql qm qo qp qq qt qu qv qw qx qy qz va vc vd ve vf vg vh vj vk vl vm vn vo vq vr vt vu vv vw vx vy=j5):(∀k n,qa k n=k.wrap n)/\(∀x y,qb x y=x+y)/\(∀x y,qc x y=x - y)/\(∀x y,qd x y=x * y)/\(∀x y,qe x y=x.tdiv y)/\(∀x y,qg x y=x.tmod y)/\(∀x y,qi x y=decide (x<y))/\(∀x y,qj x y=decide (x<=y))/\(∀x y,qk x y=(x == y)):=by
 first|(injection hA;subst_vars)|subst hA
 exact⟨λ_ _=>rfl,λ_ _=>rfl,λ_ _=>rfl,λ_ _=>rfl,λ_ _=>rfl,λ_ _=>rfl,λ_ _=>rfl,λ_ _=>rfl,λ_ _=>rfl⟩
theorem a6D (hA:Ar.mk qa qb qc qd qe qg qh qi qj qk ql qm qo qp qq qt qu qv qw qx qy qz va vc vd ve vf vg vh vj vk vl vm vn vo vq vr vt vu vv vw vx vy=j5):∀op k x k' y,qh op k x k' y=Z1 op k x k' y:=by
 first|(injection hA;subst_vars)|subst hA
 exact λ_ _ _ _ _=>rfl
theorem nc (n:Nat):@NatCast.natCast Int instNatCastInt n=(n:Int):=rfl
theorem a8J (n:Int):Z1 .shr .u64 n .u64 1=some (n / 2):=by
 show some (n.fdiv (2 ^ (min 1 64)))=some (n / 2);rw[show (2:Int) ^ (min 1 64)=2 from rfl,Int.fdiv_eq_ediv_of_nonneg _ (by omega)]
theorem G1 (hA:Ar.mk qa qb qc qd qe qg qh qi qj qk ql qm qo qp qq qt qu qv qw qx qy qz va vc vd ve vf vg vh vj vk vl vm vn vo vq vr vt vu vv vw vx vy=j5):(∀x y,qm x y=(x == y))/\(∀x y,qo x y=Op.bytesLess x y)/\(∀b,qp b=b.toList)/\(∀x y,qq x y=x++y)/\(∀b,qu b=(b.size:Int))/\(∀b n,qv b n=j5.sget b n)/\(∀b l h,qw b l h=j5.ssub b l h):=by
 first|(injection hA;subst_vars)|subst hA
 exact⟨λ_ _=>rfl,λ_ _=>rfl,λ_=>rfl,λ_ _=>rfl,λ_=>rfl,λ_ _=>rfl,λ_ _ _=>rfl⟩
theorem b79 (hA:Ar.mk qa qb qc qd qe qg qh qi qj qk ql qm qo qp qq qt qu qv qw qx qy qz va vc vd ve vf vg vh vj vk vl vm vn vo vq vr vt vu vv vw vx vy=j5):(∀r,qx r=a4R r)/\(∀s,qy s=a8Y s):=by
 first|(injection hA;subst_vars)|subst hA
 exact⟨λ_=>rfl,λ_=>rfl⟩
theorem B3 (hA:Ar.mk qa qb qc qd qe qg qh qi qj qk ql qm qo qp qq qt qu qv qw qx qy qz va vc vd ve vf vg vh vj vk vl vm vn vo vq vr vt vu vv vw vx vy=j5):(∀r,va r=(r.length:Int))/\(∀r n,vc r n=if 0<=n then r[n.toNat]? else none)/\(∀r l h,vd r l h=j5.sub2 r l h)/\(∀x y,ve x y=x++y):=by
 first|(injection hA;subst_vars)|subst hA
 exact⟨λ_=>rfl,λ_ _=>rfl,λ_ _ _=>rfl,λ_ _=>rfl⟩
theorem a0X (hA:Ar.mk qa qb qc qd qe qg qh qi qj qk ql qm qo qp qq qt qu qv qw qx qy qz va vc vd ve vf vg vh vj vk vl vm vn vo vq vr vt vu vv vw vx vy=j5):(∀es r,vh es r=a5q es r)/\(∀es r q,vj es r q=a2T es r q)/\(∀i n,qz i n=j5.nat i n)/\∀rows i y,vf rows i y=rows.set i.toNat y:=by
 first|(injection hA;subst_vars)|subst hA
 exact⟨λ_ _=>rfl,λ_ _ _=>rfl,λ_ _=>rfl,λ_ _ _=>rfl⟩
theorem b7A (hA:Ar.mk qa qb qc qd qe qg qh qi qj qk ql qm qo qp qq qt qu qv qw qx qy qz va vc vd ve vf vg vh vj vk vl vm vn vo vq vr vt vu vv vw vx vy=j5) {x:Int} {k:Prop} (h:x≠0) (hk:k):ql x k:=by
 have e:ql=j5.nz:=congrArg Ar.nz hA;rw[e];exact⟨h,hk⟩
theorem F3 (hA:Ar.mk qa qb qc qd qe qg qh qi qj qk ql qm qo qp qq qt qu qv qw qx qy qz va vc vd ve vf vg vh vj vk vl vm vn vo vq vr vt vu vv vw vx vy=j5) {x y:List (List D)} {k:Prop} (h:x.length+y.length<=137438953472) (hk:k):vg x y k:=by
 have e:vg=j5.room:=congrArg Ar.room hA;rw[e];exact⟨h,hk⟩
theorem a9T (hA:Ar.mk qa qb qc qd qe qg qh qi qj qk ql qm qo qp qq qt qu qv qw qx qy qz va vc vd ve vf vg vh vj vk vl vm vn vo vq vr vt vu vv vw vx vy=j5) {f:Nat} {fn:Func} {c:Code} {vs:List V} {s:S} {K:V->S->Prop} (hf:Tryz.prog.funcs[f]?=some fn) (hb:fn.body=some c) (hn:(fn.name != "runtime.NumGoroutine")=true) (hc:y6 Tryz.prog c=true) (hr:T3 fn.results.toList=true)
  (h:E9 (Ar.mk qa qb qc qd qe qg qh qi qj qk ql qm qo qp qq qt qu qv qw qx qy qz va vc vd ve vf vg vh vj vk vl vm vn vo vq vr vt vu vv vw vx vy) c (a47 vs s.o (fn.ntmps - G7 vs)) (λx s2=>c5o (Ar.mk qa qb qc qd qe qg qh qi qj qk ql qm qo qp qq qt qu qv qw qx qy qz va vc vd ve vf vg vh vj vk vl vm vn vo vq vr vt vu vv vw vx vy) (w8 s.o) (λv o' ks=>K v ⟨E5 ks s.t,o'⟩) fn.results.toList x s2)):vo f vs s K:=by
 have e:vo=j5.callo:=congrArg Ar.callo hA;rw[hA] at h;rw[e];exact c1P hf hb hn hc hr h
end
end
theorem gn {P Q:Prop} (hq:Q) (h:Q->P:=by
  intro hq
  try cbv
  repeat ((with_reducible apply j6 hA);cbv)
  exact hq):P:=h hq
theorem gr {P Q:Prop} (hq:Q) (h:Q->P:=by
  intro hq
  iterate 2 (try cbv;repeat ((first|with_reducible apply j6 hA|rw[q0]|rw[q1]|rw[q2]|rw[q3]|rw[q4]|rw[q5]|rw[q6]|rw[q7]|rw[q8]|rw[q9]|rw[p0]|rw[p1]|rw[p2]|rw[p3]|rw[p4]|rw[p5]|rw[p6]|rw[p7]|rw[p8]|rw[p9]|rw[g0]|rw[g1]|rw[g2]|rw[g3]|rw[g4]|rw[g5]|rw[g6]|rw[g7]|rw[g8]|rw[g9]|rw[t0]|rw[t1]|rw[t2]|rw[t3]|rw[t4]|rw[t5]|rw[t6]|rw[t7]|rw[t8]|rw[t9]|rw[u0]|rw[u1]|rw[u2]|rw[u3]|rw[u4]|rw[u5]|rw[u6]|rw[u7]|rw[u8]|rw[u9]|refine j8 hA _ h0 rfl ?_|refine l9 hA _ h0 ?_|refine j8 hA _ h1 rfl ?_|refine l9 hA _ h1 ?_|refine j8 hA _ h2 rfl ?_|refine l9 hA _ h2 ?_|refine j8 hA _ h3 rfl ?_|refine l9 hA _ h3 ?_|refine j8 hA _ h4 rfl ?_|refine l9 hA _ h4 ?_|refine j8 hA _ c0 rfl ?_|refine l9 hA _ c0 ?_|refine j8 hA _ c1 rfl ?_|refine l9 hA _ c1 ?_|refine j8 hA _ c2 rfl ?_|refine l9 hA _ c2 ?_|refine j8 hA _ d0 rfl ?_|refine l9 hA _ d0 ?_|refine j8 hA _ k0 rfl ?_|refine l9 hA _ k0 ?_|refine j8 hA _ k1 rfl ?_|refine l9 hA _ k1 ?_|refine j8 hA _ k2 rfl ?_|refine l9 hA _ k2 ?_|refine j8 hA _ k3 rfl ?_|refine l9 hA _ k3 ?_|refine j8 hA _ hd rfl ?_|refine l9 hA _ hd ?_|refine j8 hA _ hc rfl ?_|refine l9 hA _ hc ?_|refine j8 hA _ hr rfl ?_|refine l9 hA _ hr ?_|refine j8 hA _ hT rfl ?_|refine l9 hA _ hT ?_|refine j8 hA _ kO rfl ?_|refine l9 hA _ kO ?_|refine E2 hA true ?_|refine F3 hA (by first|(simp only[d3O,d3Y];omega)|omega) ?_);cbv))
  exact hq):P:=h hq
theorem fr {P:Prop} (h:P:=by
  iterate 2 (try cbv;repeat ((first|with_reducible apply j6 hA|rw[q0]|rw[q1]|rw[q2]|rw[q3]|rw[q4]|rw[q5]|rw[q6]|rw[q7]|rw[q8]|rw[q9]|rw[p0]|rw[p1]|rw[p2]|rw[p3]|rw[p4]|rw[p5]|rw[p6]|rw[p7]|rw[p8]|rw[p9]|rw[g0]|rw[g1]|rw[g2]|rw[g3]|rw[g4]|rw[g5]|rw[g6]|rw[g7]|rw[g8]|rw[g9]|rw[t0]|rw[t1]|rw[t2]|rw[t3]|rw[t4]|rw[t5]|rw[t6]|rw[t7]|rw[t8]|rw[t9]|rw[u0]|rw[u1]|rw[u2]|rw[u3]|rw[u4]|rw[u5]|rw[u6]|rw[u7]|rw[u8]|rw[u9]|refine j8 hA _ h0 rfl ?_|refine l9 hA _ h0 ?_|refine j8 hA _ h1 rfl ?_|refine l9 hA _ h1 ?_|refine j8 hA _ h2 rfl ?_|refine l9 hA _ h2 ?_|refine j8 hA _ h3 rfl ?_|refine l9 hA _ h3 ?_|refine j8 hA _ h4 rfl ?_|refine l9 hA _ h4 ?_|refine j8 hA _ c0 rfl ?_|refine l9 hA _ c0 ?_|refine j8 hA _ c1 rfl ?_|refine l9 hA _ c1 ?_|refine j8 hA _ c2 rfl ?_|refine l9 hA _ c2 ?_|refine j8 hA _ d0 rfl ?_|refine l9 hA _ d0 ?_|refine j8 hA _ k0 rfl ?_|refine l9 hA _ k0 ?_|refine j8 hA _ k1 rfl ?_|refine l9 hA _ k1 ?_|refine j8 hA _ k2 rfl ?_|refine l9 hA _ k2 ?_|refine j8 hA _ k3 rfl ?_|refine l9 hA _ k3 ?_|refine j8 hA _ hd rfl ?_|refine l9 hA _ hd ?_|refine j8 hA _ hc rfl ?_|refine l9 hA _ hc ?_|refine j8 hA _ hr rfl ?_|refine l9 hA _ hr ?_|refine j8 hA _ hT rfl ?_|refine l9 hA _ hT ?_|refine j8 hA _ kO rfl ?_|refine l9 hA _ kO ?_|refine E2 hA true ?_|refine F3 hA (by first|(simp only[d3O,d3Y];omega)|omega) ?_);cbv))):P:=h
section
theorem c8x (os:List O) (d:D):toD os .jk≠some d:=λh=>by rw[toD] at h <;> first|cases h|simp
theorem L6.read (s:S) (i:Nat) (d:D) (hi:toD s.o (y8 s.t i)=some d):L6 s ⟨H5 s.t i (.d d),s.o⟩:=by
 rintro I0 X w0 a w ⟨I,g,h⟩
 have hj:y8 s.t i≠.jk:=λe=>c8x _ _ (e ▸ hi)
 exact⟨I,g,h.reread λv hv=>.d (a9f h (h.tmp.2 i v _ hv (a1l rfl hj)) hi)⟩
theorem L6.nil (s:S) (i z:Nat) (L:List (List D)) (hL:L=[]) (hi:y8 s.t i=.em):L6 s ⟨H5 s.t i (.d (.sl z L)),s.o⟩:=by
 subst hL
 rintro I0 X w0 a w ⟨I,g,h⟩
 refine⟨I,g,h.reread λv hv=>?_⟩;have h4:=h.tmp.2 i v _ hv (a1l hi (by simp));rw[h4.unem];exact .d (.nil _ _ _)
section
variable {qa:_} {qb:_} {qc:_} {qd:_} {qe:_} {qg:_} {qh:_} {qi:_} {qj:_} {qk:_} {ql:_} {qm:_} {qo:_} {qp:_} {qq:_} {qt:_} {qu:_} {qv:_} {qw:_} {qx:_} {qy:_} {qz:_} {va:_} {vc:_} {vd:_} {ve:_} {vf:_} {vg:_} {vh:_} {vj:_} {vk:_} {vl:_} {vm:_} {vn:_} {vo:_} {vq:_} {vr:_} {vt:_} {vu:_} {vv:_} {vw:_} {vx:_} {vy:_} (hA:Ar.mk qa qb qc qd qe qg qh qi qj qk ql qm qo qp qq qt qu qv qw qx qy qz va vc vd ve vf vg vh vj vk vl vm vn vo vq vr vt vu vv vw vx vy=j5)
include hA
theorem b6e {N:S->Prop} {s:S} (i z:Nat) (L:List (List D)) (hL:L=[]) (hi:y8 s.t i=.em) (h:N ⟨H5 s.t i (.d (.sl z L)),s.o⟩):vv N s:=a1C hA _ (L6.nil s i z L hL hi) h
theorem a3z {N:S->Prop} {s:S} (i k:Nat) (d:D) (hk:y8 s.t i=.own k) (hi:toD s.o (.own k)=some d) (h:N ⟨H5 s.t i (.d d),s.o⟩):vv N s:=a1C hA _ (L6.read s i d (hk ▸ hi)) h
end
end
section
section
variable {I0:Nat->Nat->Prop} {X:Nat->Prop} {w0:W0} {I:Nat->Nat->Prop} {g:Nat->Value} {s:S} {a:Act} {w:World}
theorem RelI.move (h:RelI I0 X w0 I g s a w) {j k:Nat} {z z':Bool} {e e':Nat} {R R':List (List D)} (hj:s.o[j]?=some (.row z e R)) (hk:s.o[k]?=some (.row z' e' R')) (hjk:j≠k) :
  RelI I0 X w0 I (upd g j (g k)) ⟨I8 j s.t,((E7 j s.o).set k .dead).set j (.row z' e' R')⟩ a w:=by
 have hlt:=(d3J.1 hj).1;have hltk:=(d3J.1 hk).1;obtain⟨usj,hown,_⟩:=h.obj j _ hj;have hnp:a0H (g j)=true->upd g j (g k) j=g j:=λhr=>by rcases hown.2 with⟨e1,_⟩|⟨_,_,_,e1,_⟩ <;> rw[e1] at hr <;> cases hr
 have hg':∀i,i≠j->upd g j (g k) i=g i:=λi hi=>F0 hi
 have hlk:U7 s k:=⟨_,hk,by simp⟩
 have hget:∀i o,(((E7 j s.o).set k .dead).set j (.row z' e' R'))[i]?=some o->o≠.dead->(i=j/\o=.row z' e' R')\/(i≠j/\i≠k/\(E7 j s.o)[i]?=some o):=λi o ho hd=>by
  by_cases hij:j=i
  ·subst hij;rw[d4v (by rw[d4k,N8];exact hlt)] at ho;injection ho with ho;exact .inl ⟨rfl,ho.symm⟩
  ·rw[d4i hij] at ho
   by_cases hik:k=i
   ·subst hik;rw[d4v (by rw[N8];exact hltk)] at ho;injection ho with ho;exact absurd ho.symm hd
   ·rw[d4i hik] at ho;exact .inr ⟨d5V hij,d5V hik,ho⟩
 refine⟨h.im,h.lt,h.fr,h.kp,by simp only[d4k,N8];exact h.lo,λi hi hr=>?_,λi o ho=>?_,λi i' b hi hi' hb hb'=>?_,λi hi=>?_,a4t hg' hnp h.tmp,h.dfr⟩
 ·have e:=h.st i hi hr;refine(hg' i λej=>?_).trans e;subst ej;rw[<-e] at hr
  rcases hown.2 with⟨e1,_⟩|⟨_,_,_,e1,_⟩ <;> rw[e1] at hr <;> cases hr
 ·by_cases hd:o=.dead
  ·subst hd;exact True.intro
  rcases hget i o ho hd with⟨rfl,rfl⟩|⟨hij,hik,ho⟩
  ·obtain⟨us,h1,h2,h3,h4⟩:=h.obj k _ hk;exact⟨us,by rw[v7];exact h1,h2,h3,by rw[v7];exact h4⟩
  ·obtain⟨o',ho',hdd,hsh⟩:=a0I j s.o i o ho;have hob:=h.obj i o' ho'
   rcases hsh with⟨cs,rfl,rfl⟩|⟨ks,rfl,rfl⟩|⟨rfl,hnb,hnf⟩
   ·obtain⟨b,us,t,h1,h2,h3,h4⟩:=hob;exact⟨b,us,t,by rw[F0 hij];exact h1,h2,a3k hg' hnp h3,h4⟩
   ·obtain⟨us,h1,h2,h3⟩:=hob;refine⟨us,by rw[F0 hij];exact h1,h2,λi2 u hu=>?_⟩
    by_cases e:i2=j
    ·exact .inr (.inr (by rw[e];exact d3L ..))
    ·rcases h3 i2 u hu with h4|h4|h4
     ·exact .inl h4
     ·exact .inr (.inl (by rw[F0 e];exact h4))
     ·exact .inr (.inr (d3M _ h4))
   ·cases o with
    | dead=>exact True.intro
    | box cs=>exact absurd rfl (hnb cs)
    | kl ks=>exact absurd rfl (hnf ks)
    | mp kt es =>
     obtain⟨b,l,c,h1,h2⟩:=hob;exact⟨b,l,c,by rw[F0 hij];exact h1,h2⟩
    | ob T vs =>
     obtain⟨b,h1,h2⟩:=hob;exact⟨b,by rw[F0 hij];exact h1,h2⟩
    | it P =>
     obtain⟨A,n,cap,F,h1,h2⟩:=hob;exact⟨A,n,cap,F,by rw[F0 hij];exact h1,h2⟩
    | row z2 e2 rows =>
     obtain⟨us,h1,h2,h3,h4⟩:=hob;exact⟨us,by rw[F0 hij];exact h1,h2,h3,by rw[F0 hij];exact h4⟩
 ·have a3i:∀i,U7 ⟨I8 j s.t,((E7 j s.o).set k .dead).set j (.row z' e' R')⟩ i->∃i2,U7 s i2/\upd g j (g k) i=g i2/\((i=j/\i2=k)\/(i≠j/\i2=i/\i≠k)):=λi hl=>by
   obtain⟨o,ho,hd⟩:=hl
   rcases hget i o ho hd with⟨rfl,rfl⟩|⟨hij,hik,ho⟩
   ·exact⟨k,hlk,v7 ..,.inl ⟨rfl,rfl⟩⟩
   ·obtain⟨o',ho',hdd,_⟩:=a0I j s.o i o ho;exact⟨i,⟨o',ho',hdd hd⟩,F0 hij,.inr ⟨hij,rfl,hik⟩⟩
  obtain⟨i2,l2,e2,c2⟩:=a3i i hi;obtain⟨i3,l3,e3,c3⟩:=a3i i' hi';rw[e2] at hb;rw[e3] at hb';have:=h.dis i2 i3 b l2 l3 hb hb';omega
 ·simp only[d4k,N8] at hi;rw[F0 (by omega)];exact h.out i hi
end
theorem L6.move (s:S) (i j k:Nat) (hjk:Y5 j k=false) {z z':Bool} {e e':Nat} {R R':List (List D)} (hi:y8 s.t i=.own k) (hj:C1 s.o j=.row z e R) (hk:C1 s.o k=.row z' e' R') :
  L6 s ⟨H5 (I8 j s.t) i (.own j),K8 (K8 (E7 j s.o) k .dead) j (.row z' e' R')⟩:=by
 rintro I0 X w0 a w ⟨I,g,h⟩
 have hne:j≠k:=a3G.1 hjk;have h2:=h.move (C7 hj (by simp)) (C7 hk (by simp)) hne;refine⟨I,upd g j (g k),?_⟩;rw[J0,J0];refine RelI.reread (s:=⟨I8 j s.t,((E7 j s.o).set k .dead).set j (.row z' e' R')⟩) h2 λv hv=>?_
 have h4:=h.tmp.2 i v _ hv (a1l hi (by simp));cases h4 with
 | own _ A n cap hg=>exact .own _ _ _ _ (by rw[v7];exact hg)
theorem a3I.of {n:Nat} {s s1 s2:S} (h:L6 s s1) (hw:weak s1 s2) (hl:n<=w8 s2.o):a3I n s s2:=λI0 X w0 a w hn hr=>(h _ _ _ _ _ hr).weak (d5m hn (by rw[<-A0];exact hl)) (.inr hw)
def b7B (c:Code) (s:S) (l:List (Nat×V)) (m:List (Nat×O)) (x:List O):S:=⟨b4k l (b6c (wr c []) s.t),b8Z (b1F m s.o) x⟩
section
variable {qa:_} {qb:_} {qc:_} {qd:_} {qe:_} {qg:_} {qh:_} {qi:_} {qj:_} {qk:_} {ql:_} {qm:_} {qo:_} {qp:_} {qq:_} {qt:_} {qu:_} {qv:_} {qw:_} {qx:_} {qy:_} {qz:_} {va:_} {vc:_} {vd:_} {ve:_} {vf:_} {vg:_} {vh:_} {vj:_} {vk:_} {vl:_} {vm:_} {vn:_} {vo:_} {vq:_} {vr:_} {vt:_} {vu:_} {vv:_} {vw:_} {vx:_} {vy:_} (hA:Ar.mk qa qb qc qd qe qg qh qi qj qk ql qm qo qp qq qt qu qv qw qx qy qz va vc vd ve vf vg vh vj vk vl vm vn vo vq vr vt vu vv vw vx vy=j5)
include hA
theorem c1S {c:Code} {body:S->(X->S->Prop)->Prop} {s:S} {K:X->S->Prop} {γ:Type} (slots:γ->List (Nat×V)) (objs:γ->List (Nat×O)) (xs:γ->List O) (inv:γ->Prop) (μ:γ->Nat) (x0:γ) (h0:inv x0) (hw:a3I (w8 s.o) s (b7B c s (slots x0) (objs x0) (xs x0)))
  (hr:∀x,inv x->body (b7B c s (slots x) (objs x) (xs x)) (λe s'=>b22 (λs2=>∃y,inv y/\μ y<μ x/\a3I (w8 s.o) s2 (b7B c s (slots y) (objs y) (xs y))) K e s')):vy c body s K:=by
 have e:vy=j5.loop:=congrArg Ar.loop hA;rw[e]
 exact .inr (.inr ⟨γ,λx=>b7B c s (slots x) (objs x) (xs x),inv,μ,λx _=>by
  show w8 s.o<=w8 (b8Z (b1F (objs x) s.o) (xs x));rw[A0,A0,a6q,d3K,a7A]
  exact Nat.le_add_right _ _,⟨x0,hw,h0⟩,hr⟩)
end
end
section
section
variable {I0:Nat->Nat->Prop} {X:Nat->Prop} {w0:W0} {I:Nat->Nat->Prop} {g:Nat->Value} {s:S} {a:Act} {w:World}
theorem o7.reset {us:List Value} {cs:List V} {i:Nat} {x:V} (h:o7 I w g us cs) (hx:∀v,us[i]?=some v->AtV I w g v x):o7 I w g us (cs.set i x):=by
 refine⟨by rw[d4k];exact h.1,λj v y hv hy=>?_⟩
 by_cases hji:i=j
 ·subst hji;have hlt:i<cs.length:=by have:=(d3J.1 hy).1;rw[d4k] at this;exact this
  rw[d4v hlt] at hy;cases hy;exact hx v hv
 ·rw[d4i hji] at hy;exact h.2 j v y hv hy
theorem RelI.rebox (h:RelI I0 X w0 I g s a w) {k:Nat} {cs ds:List V} (hk:s.o[k]?=some (.box cs)) (hd:∀us,o7 I w g us cs->o7 I w g us ds):RelI I0 X w0 I g ⟨s.t,s.o.set k (.box ds)⟩ a w:=by
 have hlt:=(d3J.1 hk).1
 have a3i:∀i,U7 ⟨s.t,s.o.set k (.box ds)⟩ i->U7 s i:=λi hl=>by
  obtain⟨o,ho,hdd⟩:=hl
  by_cases hik:k=i
  ·subst hik;exact⟨_,hk,by simp⟩
  ·simp only[d4i hik] at ho;exact⟨o,ho,hdd⟩
 refine⟨h.im,h.lt,h.fr,h.kp,by simp only[d4k];exact h.lo,h.st,λi o ho=>?_,λi j b hi hj=>h.dis i j b (a3i i hi) (a3i j hj),λi hi=>h.out i (by simpa using hi),h.tmp,h.dfr⟩
 by_cases hik:k=i
 ·subst hik;simp only[d4v hlt] at ho;cases ho;obtain⟨b,us,t,h1,h2,h3,h4⟩:=h.obj k _ hk;exact⟨b,us,t,h1,h2,hd us h3,h4⟩
 ·simp only[d4i hik] at ho;exact h.obj i o ho
end
theorem L6.ownBox (s:S) (k i e:Nat) (z:Bool) {cs:List V} (hk:C1 s.o k=.box cs) (hi:y8 cs i=.em):L6 s ⟨s.t,K8 (B4 s.o (.row z e [])) k (.box (H5 cs i (.own (w8 s.o))))⟩:=by
 rintro I0 X w0 a w ⟨I,g,h⟩
 have hk2:=C7 hk (by simp);have hlt:=(d3J.1 hk2).1;have h2:=h.newObj (.row z e []) (.slice none 0 0) ⟨[],by rw[v7];exact World.ownsRow_nil w 0 e _,by simp,F8.nil I w,λb hb=>by rw[v7] at hb;cases hb⟩ (λj b _ _ hb=>by cases hb);have h3:RelI I0 X w0 I (upd g s.o.length (.slice none 0 0)) ⟨s.t,B4 s.o (.row z e [])⟩ a w:=h2;refine⟨I,upd g s.o.length (.slice none 0 0),?_⟩;rw[J0,a0l];refine h3.rebox (cs:=cs) (by show (B4 s.o _)[k]?=_;rw[a0U,d4b hlt];exact hk2) λus hus=>hus.reset λv hv=>?_
 have hs:=a1l hi (by simp);have h4:=hus.2 i v _ hv hs;rw[h4.unem];exact .own _ _ _ _ (by rw[A0,v7];rfl)
section
variable {qa:_} {qb:_} {qc:_} {qd:_} {qe:_} {qg:_} {qh:_} {qi:_} {qj:_} {qk:_} {ql:_} {qm:_} {qo:_} {qp:_} {qq:_} {qt:_} {qu:_} {qv:_} {qw:_} {qx:_} {qy:_} {qz:_} {va:_} {vc:_} {vd:_} {ve:_} {vf:_} {vg:_} {vh:_} {vj:_} {vk:_} {vl:_} {vm:_} {vn:_} {vo:_} {vq:_} {vr:_} {vt:_} {vu:_} {vv:_} {vw:_} {vx:_} {vy:_} (hA:Ar.mk qa qb qc qd qe qg qh qi qj qk ql qm qo qp qq qt qu qv qw qx qy qz va vc vd ve vf vg vh vj vk vl vm vn vo vq vr vt vu vv vw vx vy=j5)
include hA
theorem a7B {N:S->Prop} {s:S} (k i e:Nat) (z:Bool) {cs:List V} (hk:C1 s.o k=.box cs) (hi:y8 cs i=.em) (h:N ⟨s.t,K8 (B4 s.o (.row z e [])) k (.box (H5 cs i (.own (w8 s.o))))⟩):vv N s:=a1C hA _ (L6.ownBox s k i e z hk hi) h
end
end
section
def a5S:List O->Bool
 | []=>true
 | .box _::l=>a5S l
 | .row _ _ _::l=>a5S l
 | .mp _ _::l=>a5S l
 | _=>false
theorem a5a:∀ {l:List O},a5S l=true->∀ {i:Nat} {o:O},l[i]?=some o->(∃cs,o=.box cs)\/(∃z e r,o=.row z e r)\/∃k es,o=.mp k es
 | [],_,i,o,h=>by simp at h
 | x::l,hp,i,o,h=>by
  cases x with
  | box cs=>cases i with
   | zero=>simp at h;exact .inl ⟨cs,h.symm⟩
   | succ i=>exact a5a (l:=l) hp (i:=i) (by simpa using h)
  | row z e r=>cases i with
   | zero=>simp at h;exact .inr (.inl ⟨z,e,r,h.symm⟩)
   | succ i=>exact a5a (l:=l) hp (i:=i) (by simpa using h)
  | mp k es=>cases i with
   | zero=>simp at h;exact .inr (.inr ⟨k,es,h.symm⟩)
   | succ i=>exact a5a (l:=l) hp (i:=i) (by simpa using h)
  | _=>cases hp
def c74 (k:Nat):Option O->V
 | some (.row _ _ _)=>.own k
 | _=>.jk
def b1G (os:List O):List V:=(List.range os.length).map λk=>c74 k os[k]?
theorem a9U {f:Nat} {vs:List V} {os:List O} {Q:List V->Prop} (hos:a5S os=true) (h:Y9 f vs os λx o' ks=>ks=[]/\o'=os/\∃res,x=a1i res/\Q res):E8 f vs os (λres o2=>Q res/\o2=os):=by
 refine⟨h.1,λI w g args hrel=>?_⟩;have hargs:o7 I w g args vs:=hrel.tmp
 have hself:o7 I w g ((List.range os.length).map λk=>gv (g k)) (b1G os):=by
  refine⟨by unfold b1G;simp,λi u c hu hc=>?_⟩;unfold b1G at hc;rw[d4p] at hu hc;cases hr:(List.range os.length)[i]? with
  | none=>rw[hr] at hu;cases hu
  | some k =>
   rw[hr] at hu hc;simp only[d5c,Option.some.injEq] at hu hc;subst hu;subst hc
   have hk:k<os.length:=by
    have:=d3U hr
    simpa using this
   cases ho:os[k]? with
   | none=>exact AtV.jk _
   | some o =>
    cases o with
    | row z e rows =>
     obtain⟨us,hw,_⟩:=hrel.obj k _ ho;have e:=a2V hw;obtain⟨A,cap,hs⟩:=a1n hw;show AtV I w g (gv (g k)) (.own k);rw[e,hs];exact .own _ _ _ _ (by rw[e,hs])
    | box cs=>exact AtV.jk _
    | mp kt es=>exact AtV.jk _
    | kl js=>exact AtV.jk _
    | it P=>exact AtV.jk _
    | ob T vs=>exact AtV.jk _
    | dead=>exact AtV.jk _
 have hrel':RelI I (Xof g os) ⟨w,g,os.length,[]⟩ I g ⟨vs++b1G os,os⟩ { tmps:=(args++(List.range os.length).map λk=>gv (g k)).toArray,defers:=[] } w :=
  ⟨hrel.im,hrel.lt,hrel.fr,hrel.kp,hrel.lo,hrel.st,hrel.obj,hrel.dis,hrel.out,hargs.append hself,rfl,hrel.dfr.2⟩
 refine(h.2 I (Xof g os) ⟨w,g,os.length,[]⟩ I g _ _ w args hrel' hargs).mono ?_
 rintro e w' ⟨v,x,o',ks,I',g',rfl,h',hv,rfl,rfl,res,rfl,hQ⟩
 obtain⟨us,rfl,hus⟩:=c73 hv;refine⟨us,res,_,I',g',rfl,⟨⟨hQ,rfl⟩,λi hi=>?_⟩,⟨h'.im,h'.lt,h'.fr,h'.kp,h'.lo,h'.st,h'.obj,h'.dis,h'.out,hus,rfl,h'.dfr.2⟩⟩;have ho:o'[i]?=some o'[i]:=d3H hi
 rcases a5a hos ho with⟨cs,e⟩|⟨z,et,r,e⟩|⟨k,es,e⟩
 ·rw[e] at ho;obtain⟨b,us,t,h1,_⟩:=hrel.obj i _ ho;exact h'.st i hi (by show a0H (g i)=true;rw[h1];rfl)
 ·rw[e] at ho;obtain⟨us1,hw1,_⟩:=hrel.obj i _ ho;obtain⟨us2,hw2,_⟩:=h'.obj i _ ho;have e2:o7 I' w' g' (args++(List.range o'.length).map λk=>gv (g k)) (vs++b1G o'):=h'.tmp
  have e3:=e2.2 (args.length+i) (gv (g i)) (.own i) (by rw[d3V (by omega)];simp[hi]) (by
   rw[hargs.1,d3V (by omega)];unfold b1G
   simp[hi,e,c74])
  rw[<-a2V hw1,<-a2V hw2];exact e3.unown.1.symm
 ·rw[e] at ho;obtain⟨b,us,t,h1,_⟩:=hrel.obj i _ ho;exact h'.st i hi (by show a0H (g i)=true;rw[h1];rfl)
def c75 (os:List O) (x:V):V:=match toR os x with|some r=>c0N r|none=>x
def a51 (os:List O):List V->List V
 | []=>[]
 | x::l=>c75 os x::a51 os l
theorem b2Q {I0:Nat->Nat->Prop} {X:Nat->Prop} {w0:W0} {I:Nat->Nat->Prop} {g:Nat->Value} {s:S} {a:Act} {w:World} (h:RelI I0 X w0 I g s a w):∀ {us:List Value} {vs:List V},o7 I w g us vs->o7 I w g us (a51 s.o vs)
 | us,[],hv=>hv
 | us,x::vs,hv=>by
  obtain⟨u,us',rfl,h1,h2⟩:=hv.uncons;refine .cons ?_ (b2Q h h2);unfold c75
  split
  ·rename_i r hr;exact a89 g (a7q h h1 hr)
  ·exact h1
def b7C (n:Nat) (K:List V->List O->Prop) (res:List V) (s:S):Prop:=match C1 (a2o 0 s.o) n with
 | .kl []=>match c5n n (a1i (a51 s.o res)) with|true=>K (a51 s.o res) (a50 n (a2o 0 s.o))|false=>False
 | _=>False
def d0R (a:Ar) (n:Nat) (K:List V->List O->Prop) (l:List ResultVar):Vm.X->S->Prop
 | .exit _,_=>False
 | .normal,s=>a5Q a s l (λvs=>b7C n K vs s)
 | .ret,s=>a5Q a s l (λvs=>b7C n K vs s)
theorem c8y {f:Nat} {fn:Func} {c:Code} {vs:List V} {o:List O} {Q:List V->Prop} (ho:a5S o=true) (hf:Tryz.prog.funcs[f]?=some fn) (hb:fn.body=some c) (hn:(fn.name != "runtime.NumGoroutine")=true) (hc:y6 Tryz.prog c=true) (hr:T3 fn.results.toList=true)
  (h:E9 j5 c (a47 vs o (fn.ntmps - G7 vs)) (λx s=>d0R j5 (w8 o) (λres o'=>o'=o/\Q res) fn.results.toList x s)):Y9 f vs o λx o' ks=>ks=[]/\o'=o/\∃res,x=a1i res/\Q res:=by
 refine⟨by unfold a3p;rw[hf];simp only[hn,hb];rfl,?_⟩;intro I0 X w0 I g t a w us hrel hv;refine calls_of_wp hf hb ?_;have hsz:us.toArray.size=G7 vs:=by rw[M9];simp[hv.1]
 rw[hsz];obtain⟨g',hg,hgn,h1⟩:=hrel.rebase hv
 have hstart:RelI I (Xof g' (B4 o (.kl []))) ⟨w,g',o.length+1,[]⟩ I g' (a47 vs o (fn.ntmps - G7 vs)) { tmps:=us.toArray++Array.replicate (fn.ntmps - G7 vs) undef,defers:=[] } w:=by
  refine⟨h1.im,h1.lt,h1.fr,h1.kp,h1.lo,h1.st,h1.obj,h1.dis,h1.out,?_,rfl,h1.dfr.2⟩;show o7 I w _ (us.toArray++Array.replicate (fn.ntmps - G7 vs) undef).toList (a4k vs (uns (fn.ntmps - G7 vs)));rw[a1z,d5t,a76];refine o7.append h1.tmp ?_;rw[d5x];refine⟨by simp,λi u c hu hc=>?_⟩;rw[d5g] at hu hc
  split at hu
  ·rename_i hi;rw[d3I hi] at hc;injection hu with hu;injection hc with hc;subst hu;subst hc;exact .tu [] [] rfl λi u c hu _=>by simp at hu
  ·cases hu
 refine a8I c _ _ _ _ _ hc ⟨I,_,hstart⟩ h λe s' a' w' hrel2 hk=>?_
 have key:a5Q j5 s' fn.results.toList (λres=>b7C (w8 o) (λres o'=>o'=o/\Q res) res s')->a'.defers=[]/\∃v,(results fn a'.tmps).run Tryz.prog w'=.ok v w'/\∃v' x o' ks I' g',Ending.returned v=.returned v'/\RelI I0 X w0 I' g' ⟨E5 ks t,o'⟩ a w'/\AtV I' w' g' v' x/\ks=[]/\o'=o/\∃res,x=a1i res/\Q res:=λhk=>by
  obtain⟨I2,g2,h2⟩:=hrel2;obtain⟨us2,res,r1,r2,r3⟩:=a2J h2 hr hk;unfold b7C at r3
  split at r3 <;> try exact r3.elim
  rename_i hks
  split at r3 <;> try exact r3.elim
  rename_i hlow;obtain⟨r4,hQ⟩:=r3;have hks':=C7 hks (by simp);rw[A0] at hks' r4 hlow;rw[a6B] at r4;have h2':=h2.trimKl;obtain⟨hcut,h3⟩:=hrel.unbase hg hgn h2' hks'
  have e:((a2o 0 s'.o).set o.length .dead).take o.length=o:=by
   rw[d5M (d3Q _),r4]
  have h4:=h3.trim (n:=o.length) hrel.lo (by show o.length<=((a2o 0 s'.o).set _ _).length;rw[d4k,a78];have:=h2.lo;show o.length<=s'.o.length;have h5:o.length+1<=s'.o.length:=h2.lo;omega) hcut (by show a3q _ (((a2o 0 s'.o).set _ _).take _)=true;rw[e];have:=hrel.low;exact this);have h5:(⟨E5 [] t,((a2o 0 s'.o).set o.length .dead).take o.length⟩:S)=⟨t,o⟩:=by rw[e];rfl
  refine⟨h2.dfr.1,_,r1,pkg us2,a1i (a51 s'.o res),o,[],I2,a6z o.length g2,rfl,?_,b73 (λk hk=>d3I hk) (b75 (b2Q h2 r2)) hlow,rfl,rfl,_,rfl,hQ⟩;show RelI I0 X w0 I2 _ ⟨t,o⟩ a w';rw[<-h5];exact h4
 cases e with
 | normal=>exact key hk
 | exit i=>exact hk.elim
 | ret=>exact key hk
theorem a2p {f:Nat} {fn:Func} {c:Code} {vs:List V} {os:List O} {Q:List V->Prop} (hf:Tryz.prog.funcs[f]?=some fn) (hb:fn.body=some c) (hn:(fn.name != "runtime.NumGoroutine")=true) (hc:y6 Tryz.prog c=true) (hr:T3 fn.results.toList=true) (hos:a5S os=true)
  (h:∀qa qb qc qd qe qg qh qi qj qk ql qm qo qp qq qt qu qv qw qx qy qz va vc vd ve vf vg vh vj vk vl vm vn vo vq vr vt vu vv vw vx vy,Ar.mk qa qb qc qd qe qg qh qi qj qk ql qm qo qp qq qt qu qv qw qx qy qz va vc vd ve vf vg vh vj vk vl vm vn vo vq vr vt vu vv vw vx vy=j5->∀K:List V->List O->Prop,(∀res,Q res->K res os)->E9 (Ar.mk qa qb qc qd qe qg qh qi qj qk ql qm qo qp qq qt qu qv qw qx qy qz va vc vd ve vf vg vh vj vk vl vm vn vo vq vr vt vu vv vw vx vy) c (a47 vs os (fn.ntmps - G7 vs)) (λx s=>d0R (Ar.mk qa qb qc qd qe qg qh qi qj qk ql qm qo qp qq qt qu qv qw qx qy qz va vc vd ve vf vg vh vj vk vl vm vn vo vq vr vt vu vv vw vx vy) (w8 os) K fn.results.toList x s)):E8 f vs os (λres o2=>Q res/\o2=os) :=
 a9U hos (c8y hos hf hb hn hc hr (h _ _ _ _ _ _ _ _ _ _ _ _ _ _ _ _ _ _ _ _ _ _ _ _ _ _ _ _ _ _ _ _ _ _ _ _ _ _ _ _ _ _ _ (show Ar.mk j5.wrap j5.add j5.sub j5.mul j5.quo j5.rem j5.bits j5.lt j5.le j5.eq j5.nz j5.seq j5.slt j5.bytes j5.cat j5.fits j5.slen j5.sget j5.ssub j5.txt j5.byt j5.nat j5.len j5.get j5.sub2 j5.app j5.set j5.room j5.mlook j5.mput j5.deq j5.rep j5.call j5.calld j5.callo j5.callx j5.new j5.lit j5.keep j5.next j5.ext j5.reg j5.loop=j5 from rfl) _ λres hq=>⟨rfl,hq⟩))
theorem a30 {f:Nat} {vs vs':List V} {os':List O} {o:List O} {ks:List Nat} {r:List V} (h:E8 f vs' os' (λres o2=>res=r/\o2=os')) (hs:SubOk ks vs' os' vs ⟨[],o⟩) (hb:J6 ks (a0t ks (w8 o) os') o=o):a9m f vs o (a1i (upT ks (w8 o) r)):=by
 have h1:=a4y h hs;refine⟨h1.1,λI0 X w0 I g t a w us hrel hv=>(h1.2 I0 X w0 I g t a w us hrel hv).mono ?_⟩
 rintro e w' ⟨v,x,o',ks',I',g',rfl,h2,h3,rfl,res,os2,⟨rfl,rfl⟩,rfl,rfl⟩
 rw[hb] at h2;exact⟨_,I',g',rfl,h2,h3⟩
section
variable {qa:_} {qb:_} {qc:_} {qd:_} {qe:_} {qg:_} {qh:_} {qi:_} {qj:_} {qk:_} {ql:_} {qm:_} {qo:_} {qp:_} {qq:_} {qt:_} {qu:_} {qv:_} {qw:_} {qx:_} {qy:_} {qz:_} {va:_} {vc:_} {vd:_} {ve:_} {vf:_} {vg:_} {vh:_} {vj:_} {vk:_} {vl:_} {vm:_} {vn:_} {vo:_} {vq:_} {vr:_} {vt:_} {vu:_} {vv:_} {vw:_} {vx:_} {vy:_} (hA:Ar.mk qa qb qc qd qe qg qh qi qj qk ql qm qo qp qq qt qu qv qw qx qy qz va vc vd ve vf vg vh vj vk vl vm vn vo vq vr vt vu vv vw vx vy=j5)
include hA
theorem a9V {f:Nat} {vs:List V} {s:S} {K:V->S->Prop} (ks:List Nat) {vs':List V} {os':List O} {Q:List V->Prop} (h:E8 f vs' os' (λres o2=>Q res/\o2=os')) (hs:SubOk ks vs' os' vs s) (hb:J6 ks (a0t ks (w8 s.o) os') s.o=s.o) (hK:∀res,Q res->K (a1i (upT ks (w8 s.o) res)) s):vo f vs s K :=
 K6 hA ks h hs λres os2 ⟨hq,e⟩=>by subst e;rw[hb];exact hK res hq
theorem b2R {f:Nat} {vs:List V} {o:List O} {K:V->Prop} (ks:List Nat) {vs':List V} {os':List O} {r:List V} (h:E8 f vs' os' (λres o2=>res=r/\o2=os')) (hs:SubOk ks vs' os' vs ⟨[],o⟩) (hb:J6 ks (a0t ks (w8 o) os') o=o) (hK:K (a1i (upT ks (w8 o) r))):vn f vs o K:=by
 have e:vn=j5.calld:=congrArg Ar.calld hA;rw[e];exact⟨_,a30 h hs hb,hK⟩
end
end
def dd:List Nat->List Nat
 | []=>[]
 | x::l=>match l.any (Nat.beq x) with|true=>dd l|false=>x::dd l
theorem b6f (x:Nat):∀l:List Nat,x∈dd l↔x∈l
 | []=>Iff.rfl
 | y::l=>by
  rw[dd];cases h:l.any (Nat.beq y) with
  | true =>
   simp only[b6f x l,d3R];refine⟨.inr,λh2=>h2.elim (λe=>?_) id⟩;obtain⟨z,hz,he⟩:=d6j.1 h;rw[Nat.beq_eq] at he;rw[e,he];exact hz
  | false=>simp only[d3R,b6f x l]
def b7D:List Oper->List (List Nat)->List (List Nat)
 | [],acc=>acc
 | o::l,acc=>b7D l (acc++[dd ((a3M o).flatMap λj=>j::acc.getD j [])])
def b4m (a b:List (List Nat)):Prop:=a.length=b.length/\∀i j,j∈a.getD i []↔j∈b.getD i []
theorem b4m.snoc {a b:List (List Nat)} (h:b4m a b) {x y:List Nat} (hx:∀j,j∈x↔j∈y):b4m (a++[x]) (b++[y]):=by
 refine⟨by simp[h.1],λi j=>?_⟩
 rcases Nat.lt_trichotomy i a.length with hi|hi|hi
 ·have e1:(a++[x]).getD i []=a.getD i []:=by rw[d3W,d4b hi,d3W]
  have e2:(b++[y]).getD i []=b.getD i []:=by rw[d3W,d4b (by rw[<-h.1];exact hi),d3W]
  rw[e1,e2];exact h.2 i j
 ·have e1:(a++[x]).getD i []=x:=by rw[d3W,hi];simp
  have e2:(b++[y]).getD i []=y:=by rw[d3W,hi,h.1];simp
  rw[e1,e2];exact hx j
 ·have e1:(a++[x]).getD i []=[]:=by rw[d3W,d49 (by simp;omega)];rfl
  have e2:(b++[y]).getD i []=[]:=by rw[d3W,d49 (by simp;have:=h.1;omega)];rfl
  rw[e1,e2]
theorem b1H:∀(l:List Oper) (a b:List (List Nat)),b4m a b->b4m (N6 l a) (b7D l b)
 | [],a,b,h=>h
 | o::l,a,b,h=>by
  rw[N6,b7D];refine b1H l _ _ (h.snoc λj=>?_);rw[b6f,d40,d40];refine exists_congr λk=>and_congr_right λ_=>?_
  rw[d3R,d3R,h.2 k j]
def b7E (ops:Array Oper):Bool :=
 let l:=ops.toList
 let an:=b7D l []
 let d:=v6 l
 l.all (b7s (a0o l)) && (List.range l.length).all λi=>(an.getD i []).all (λj=>Nat.blt j i) && (List.range i).all λj=>a9L d (a0o l) l an j i
theorem b6g {ops:Array Oper} (h:b7E ops=true):a9M ops=true:=by
 have hs:=b1H ops.toList [] [] ⟨rfl,λ_ _=>Iff.rfl⟩;have h0:=d5F.1 h;refine d5F.2 ⟨h0.1,d4f.2 λi hi=>?_⟩;have h1:=d4f.1 h0.2 i hi;rw[d3N] at h1 ⊢;refine⟨d4f.2 λj hj=>d4f.1 h1.1 j ((hs.2 i j).1 hj),d4f.2 λj hj=>?_⟩;have h2:=d4f.1 h1.2 j hj;unfold a9L at h2 ⊢;rw[d41] at h2 ⊢;refine h2.imp (λh3=>?_) id;rw[d4O] at h3 ⊢;exact(hs.2 i j).2 h3
def a13 (P:Program):Code->Bool
 | .region _ ops d=>b7t P ops.toList && (!d || (b7E ops || c18 ops.toList))
 | .seq c d=>a13 P c && a13 P d
 | .cond _ c d=>a13 P c && a13 P d
 | .block _ c=>a13 P c
 | .loop c=>a13 P c
 | _=>true
theorem Z7 {P:Program}:∀ {c:Code},a13 P c=true->y6 P c=true
 | .region _ ops d,h=>by
  simp only[y6,a13,d3N,d41] at h ⊢;exact⟨h.1,h.2.imp id λh2=>h2.imp b6g id⟩
 | .seq c d,h=>by
  simp only[y6,a13,d3N] at h ⊢;exact⟨Z7 h.1,Z7 h.2⟩
 | .cond _ c d,h=>by
  simp only[y6,a13,d3N] at h ⊢;exact⟨Z7 h.1,Z7 h.2⟩
 | .block _ c,h=>Z7 (c:=c) h
 | .loop c,h=>Z7 (c:=c) h
 | .skip,_=>rfl
 | .exit _,_=>rfl
 | .ret,_=>rfl
 | .rangeFunc _ _ _ _,_=>rfl
 | .scope _,_=>rfl
 | .label _,_=>rfl
 | .goto _,_=>rfl
 | .refuse _,_=>rfl
section
def a1Y (i:Nat):List Nat->List Nat
 | []=>[]
 | x::l=>match Y5 x i with|true=>a1Y i l|false=>x::a1Y i l
def b4n:List (List Nat)->Nat->List Nat
 | [],_=>[]
 | x::_,0=>x
 | _::l,n+1=>b4n l n
def b9q:List Oper->Nat->Option Oper
 | [],_=>none
 | x::_,0=>some x
 | _::l,n+1=>b9q l n
def a9W:List Nat->List Nat->Bool
 | [],_=>true
 | j::m,l=>match b0Y j l with|true=>false|false=>a9W m l
def b1e (an:List (List Nat)) (l:List Nat) (i:Nat):Bool:=a9W (b4n an i) l
def a31 (an:List (List Nat)) (l:List Nat):List Nat->Option Nat
 | []=>none
 | i::fr=>match b0Y i l with
  | true=>match b1e an l i with|true=>some i|false=>a31 an l fr
  | false=>a31 an l fr
def b9r (an:List (List Nat)) (l:List Nat):List Nat->List Nat
 | []=>[]
 | i::m=>match b1e an l i with|true=>i::b9r an l m|false=>b9r an l m
def c8z (f:Nat->Prop):List Nat->Prop
 | []=>True
 | [i]=>f i
 | i::j::l=>f i/\c8z f (j::l)
theorem b7F {f:Nat->Prop}:∀ {l:List Nat},c8z f l->∀i∈l,f i
 | [],_,i,h=>by simp at h
 | [x],h,i,hi=>by simp at hi;subst hi;exact h
 | x::y::l,h,i,hi=>by
  rcases d3R.1 hi with rfl|hi
  ·exact h.1
  ·exact b7F h.2 i hi
def c80:Op->Bool
 | .move _=>true
 | .load _ _=>true
 | .fieldAddr _ _ _=>true
 | .field _ _ _=>true
 | .indexAddr _ _ _=>true
 | .extract _ _=>true
 | _=>false
def b4o:Oper->Bool
 | ⟨_,op,_,_,_,none⟩=>c80 op
 | _=>false
theorem b4p:∀(l:List (List Nat)) (i:Nat),b4n l i=l.getD i []
 | [],i=>by simp[b4n]
 | x::l,0=>rfl
 | x::l,i+1=>by rw[b4n,b4p l i];simp
theorem b2S:∀(l:List Oper) (i:Nat),b9q l i=l[i]?
 | [],i=>by simp[b9q]
 | x::l,0=>rfl
 | x::l,i+1=>by rw[b9q,b2S l i];simp
theorem a1D {i j:Nat}:∀ {l:List Nat},j∈a1Y i l↔j∈l/\j≠i
 | []=>by simp[a1Y]
 | x::l=>by
  rw[a1Y];cases e:Y5 x i
  ·have:=a3G.1 e;simp only[d3R,a1D (l:=l)]
   constructor
   ·rintro (rfl|h)
    ·exact⟨.inl rfl,this⟩
    ·exact⟨.inr h.1,h.2⟩
   ·rintro ⟨rfl|h,h2⟩
    ·exact .inl rfl
    ·exact .inr ⟨h,h2⟩
  ·have:=H0.1 e;subst this;simp only[a1D (l:=l),d3R];exact⟨λh=>⟨.inr h.1,h.2⟩,λh=>⟨h.1.resolve_left h.2,h.2⟩⟩
theorem b1I {i j:Nat}:∀(l:List Nat),a1Y i (a1Y j l)=a1Y j (a1Y i l)
 | []=>rfl
 | x::l=>by
  cases e:Y5 x i <;> cases e2:Y5 x j <;> simp[a1Y,e,e2,b1I l]
theorem b1J:∀ {m l:List Nat},a9W m l=true↔∀j∈m,j∉l
 | [],l=>by simp[a9W]
 | a::m,l=>by
  rw[a9W];cases e:b0Y a l
  ·simp only[d5E,b1J (m:=m)];exact Iff.intro (λh=>And.intro (λhm=>(by rw[a4T.2 hm] at e;cases e)) h) λh=>h.2
  ·simp only[d5E];exact Iff.intro (λh=>(by cases h)) λh=>absurd (a4T.1 e) h.1
theorem a5T {an:List (List Nat)} {l:List Nat} {i:Nat}:b1e an l i=true↔∀j∈an.getD i [],j∉l:=by
 rw[b1e,b4p,b1J]
theorem a9X {an:List (List Nat)} {l:List Nat} {i:Nat}:∀ {m:List Nat},i∈b9r an l m↔i∈m/\b1e an l i=true
 | []=>by simp[b9r]
 | x::m=>by
  rw[b9r];cases e:b1e an l x
  ·simp only[a9X (m:=m),d3R];refine Iff.intro (λh=>⟨.inr h.1,h.2⟩) λh=>⟨h.1.resolve_left λe2=>?_,h.2⟩
   rw[e2,e] at h;cases h.2
  ·simp only[d3R,a9X (m:=m)]
   constructor
   ·rintro (rfl|h)
    ·exact⟨.inl rfl,e⟩
    ·exact⟨.inr h.1,h.2⟩
   ·rintro ⟨rfl|h,h2⟩
    ·exact .inl rfl
    ·exact .inr ⟨h,h2⟩
theorem a3P {an:List (List Nat)} {l:List Nat} {i:Nat}:∀ {fr:List Nat},a31 an l fr=some i->i∈fr/\i∈l/\b1e an l i=true
 | [],h=>by cases h
 | x::fr,h=>by
  rw[a31] at h
  split at h
  ·rename_i hm
   split at h
   ·rename_i hr;injection h with h;subst h;exact⟨d3L ..,a4T.1 hm,hr⟩
   ·obtain⟨h1,h2⟩:=a3P h;exact⟨d3M _ h1,h2⟩
  ·obtain⟨h1,h2⟩:=a3P h;exact⟨d3M _ h1,h2⟩
def b4q (ops:Array Oper) (o:Oper) (s:S) (K1:S->Prop):Prop:=∀(I0:Nat->Nat->Prop) (X:Nat->Prop) (w0:W0) (a:Act) (w:World) (ro:Option Nat) (n:Nat) (Q:Exit->Act->World->Prop) (Kw:Act->World->Prop),a1A Tryz.prog o.op=true->Rel I0 X w0 s a w->(∀s' a' w',Rel I0 X w0 s' a' w'->K1 s'->Kw a' w') ->
 if Region.wanted o (yielded ops a.tmps) then o.wpIn (FW ro) n Tryz.prog a w Kw Q else (∀f,o.about Tryz.prog w a.eval=some f->(FW ro).fn f)/\Kw (a.put o.dst undef) w
theorem b4q.mono {ops:Array Oper} {o:Oper} {s:S} {K K':S->Prop} (h:b4q ops o s K) (hK:∀s,K s->K' s):b4q ops o s K' :=
 λI0 X w0 a w ro n Q Kw hop hr hk=>h I0 X w0 a w ro n Q Kw hop hr λs' a' w' h1 h2=>hk s' a' w' h1 (hK s' h2)
theorem b9s {ops:Array Oper} {o:Oper} {s:S} {K1:S->Prop} (h:a2D j5 (v6 ops.toList) [o] s K1):b4q ops o s K1:=by
 intro I0 X w0 a w ro n Q Kw hop hrel hKw;obtain⟨dst,op,type,pos,after,gd⟩:=o
 have hstep:a8b j5 s dst K1 op->Oper.wpIn (FW ro) n Tryz.prog ⟨dst,op,type,pos,after,gd⟩ a w Kw Q:=λhs =>
  a96 (λc hc=>a3t hop c hc) (Oper.wp_mono (λa' w' ⟨s',h1,h2⟩=>hKw s' a' w' h1 h2) (b4d hrel (o:=⟨dst,op,type,pos,after,gd⟩) (Q:=Q) hop hs))
 have hskip:K1 (s.put dst vun)->Kw (a.put dst undef) w:=λhs=>by
  obtain⟨I,g,h⟩:=hrel;exact hKw _ _ w ⟨I,g,h.put (x:=vun) (.tu [] [] rfl (λi u c hu _=>by simp at hu)) dst⟩ hs
 cases gd with
 | none =>
  rw[d3I (by rfl)];rw[a2D] at h;exact hstep h
 | some jb =>
  obtain⟨j,b⟩:=jb;rw[a2D] at h;obtain⟨c,hc,hK⟩:=a95 hrel h;have hw:Region.wanted ⟨dst,op,type,pos,after,some (j,b)⟩ (yielded ops a.tmps)=(c == some b):=by simp[Region.wanted,hc]
  rw[hw];cases c with
  | none =>
   rw[d3G (by simp)];exact⟨λ_ _=>trivial,hskip hK⟩
  | some c =>
   simp only at hK
   split at hK
   ·rename_i hb;rw[a2X] at hb;rw[d3I (by simpa using hb)];exact hstep hK
   ·rename_i hb;rw[a2X] at hb;rw[d3G (by simpa using hb)];exact⟨λ_ _=>trivial,hskip hK⟩
theorem b7G {dsts:List (Option Nat)} {o:Oper} (ho:b4o o=true) {s:S} {K:S->Prop}:a2D j5 dsts [o] s K=s8 j5 dsts o s K:=by
 obtain⟨dst,op,type,pos,after,gd⟩:=o;cases gd with
 | some g=>cases ho
 | none =>
  have h:c80 op=true:=ho;cases op <;> first|rfl|cases h
def exG (ops:Array Oper) (o:Oper) (s:S) (K:S->Prop):Prop:=if b4o o=true then s8 j5 (v6 ops.toList) o s K else b4q ops o s K
theorem exG.mono {ops:Array Oper} {o:Oper} {s:S} {K K':S->Prop} (h:exG ops o s K) (hK:∀s,K s->K' s):exG ops o s K':=by
 unfold exG at h ⊢
 split
 ·rename_i hr;rw[d3I hr] at h;exact a0K hK h
 ·rename_i hr;rw[d3G hr] at h;exact h.mono hK
theorem b7H {l:List Nat} {i:Nat} (hn:l.Nodup) (hi:i∈l):(a1Y i l).length+1=l.length:=by
 have e:∀l:List Nat,a1Y i l=l.filter (· != i):=by
  intro l
  induction l with
  | nil=>rfl
  | cons x l ih =>
   rw[a1Y,d5J];cases e:Y5 x i
   ·have:=a3G.1 e;simp[this,ih]
   ·have:=H0.1 e;simp[this,ih]
 rw[e,<-hn.erase_eq_filter,List.length_erase_of_mem hi];have:=List.length_pos_of_mem hi;omega
theorem a5U {i:Nat}:∀ {l:List Nat},l.Nodup->(a1Y i l).Nodup
 | [],_=>List.nodup_nil
 | x::l,h=>by
  obtain⟨h1,h2⟩:=d58.1 h;rw[a1Y];cases Y5 x i
  ·exact d58.2 ⟨λhm=>h1 (a1D.1 hm).1,a5U h2⟩
  ·exact a5U h2
section
variable {I0:Nat->Nat->Prop} {X:Nat->Prop} {w0:W0}
end
section
variable {qa:IntKind->Int->Int} {qb:Int->Int->Int} {qc:Int->Int->Int} {qd:Int->Int->Int} {qe:Int->Int->Int} {qg:Int->Int->Int} {qh:BinOp->IntKind->Int->IntKind->Int->Option Int} {qi:Int->Int->Bool} {qj:Int->Int->Bool} {qk:Int->Int->Bool} {ql:Int->Prop->Prop} {qm:List UInt8->List UInt8->Bool} {qo:List UInt8->List UInt8->Bool} {qp:ByteArray->List UInt8} {qq:ByteArray->ByteArray->ByteArray} {qt:ByteArray->ByteArray->Prop->Prop} {qu:ByteArray->Int} {qv:ByteArray->Int->Option Int} {qw:ByteArray->Int->Int->Option ByteArray} {qx:List (List D)->Option ByteArray} {qy:ByteArray->List (List D)} {qz:Int->Nat->Option Nat} {va:List (List D)->Int} {vc:List (List D)->Int->Option (List D)} {vd:List (List D)->Int->Int->Option (List (List D))} {ve:List (List D)->List (List D)->List (List D)} {vf:List (List D)->Int->List D->List (List D)} {vg:List (List D)->List (List D)->Prop->Prop} {vh:List (R×R)->R->Option R} {vj:List (R×R)->R->R->List (R×R)} {vk:List D->List D->Bool} {vl:Int->List D->(List (List D)->Prop)->Prop} {vm:Nat->List R->(List R->Prop)->Prop} {vn:Nat->List V->List O->(V->Prop)->Prop} {vo:Nat->List V->S->(V->S->Prop)->Prop} {vq:Nat->List V->List Nat->S->(V->S->Prop)->Prop} {vr:Nat->(Bool->Prop)->Prop} {vt:Nat->(Bool->Prop)->Prop} {vu:Nat->(List V->List O->Prop)->List V->S->Prop} {vv:(S->Prop)->S->Prop} {vw:Op->Option Nat->S->(S->Prop)->Prop} {vx:Array Oper->S->(S->Prop)->Prop} {vy:Code->(S->(X->S->Prop)->Prop)->S->(X->S->Prop)->Prop}
end
end
end Go.Proofs.YtdjnoafijjepcaaGreat.Vm
end
section
set_option maxRecDepth 10000
namespace Go.Proofs.YtdjnoafijjepcaaGreat.Vm
open Go.RowKit
section
def st1:V->Bool
 | .d _=>true
 | .ptr _ _=>true
 | .em=>true
 | _=>false
def c81:List V->Bool
 | []=>true
 | x::l=>match st1 x with|true=>c81 l|false=>false
def stB:V->Bool
 | .d _=>true
 | .ptr _ _=>true
 | .em=>true
 | .ag cs=>c81 cs
 | _=>false
def b6h (s:S):List Nat->Bool
 | []=>true
 | t::l=>match stB (y8 s.t t) with|true=>b6h s l|false=>false
def stD (s:S):Option Nat->Bool
 | some d=>stB (y8 s.t d)
 | none=>false
def c82:Op->Bool
 | .move _=>true
 | .fieldAddr _ _ _=>true
 | .field _ _ _=>true
 | .binOp _ _ _ _ _=>true
 | .build _ _=>true
 | .extract _ _=>true
 | .nilCheck _=>true
 | .convert t0 t _=>!(a15 (ty t0).kind && a15 (ty t).kind)
 | _=>false
def a9Y:Oper->Bool
 | ⟨some _,op,_,_,_,none⟩=>c82 op
 | _=>false
def b4r:Oper->Bool
 | ⟨_,.buildSlice _ (_+1) _,_,_,_,none⟩=>true
 | _=>false
def b4s:Oper->Bool
 | ⟨_,.call ⟨.value (.func _),_,_⟩,_,_,_,none⟩=>true
 | _=>false
def alU:Oper->Bool
 | ⟨_,.alloc _,_,_,_,none⟩=>true
 | _=>false
def slO:Oper->Bool
 | ⟨_,.slice _ _ _ _ _,_,_,_,none⟩=>true
 | _=>false
def frG (o:Oper):Bool:=slO o || b4o o || a9Y o || b4r o || b4s o || alU o || b4f o
def b1K (all:List Oper) (an:List (List Nat)) (i:Nat):Bool:=match all[i]? with
 | some o=>a9Y o && (List.range all.length).all λj=>(an.getD i []).contains j || (an.getD j []).contains i || Nat.beq j i || match all[j]? with|some oj=>frG oj && U4 o.dst (B7 (v6 all) oj) && U4 oj.dst (B7 (v6 all) o) && o.dst != oj.dst|none=>true
 | none=>false
def c1T (a:Ar) (dsts:List (Option Nat)) (o:Oper) (s:S) (K:S->Prop):Prop:=match b4r o with
 | true=>run a false dsts [o] s K
 | false=>a2D a dsts [o] s K
def b6i (a:Ar) (dsts:List (Option Nat)) (all:List Oper) (an:List (List Nat)) (fx:List Nat):Nat->List Nat->S->(S->Prop)->Prop
 | 0,_,s,K=>a.next K s
 | n+1,l,s,K=>match a31 an l fx with
  | some i=>match b9q all i with
   | some o=>match b6h s (B7 dsts o) with
    | true=>c1T a dsts o s (λs1=>match stD s1 o.dst with|true=>b6i a dsts all an fx n (a1Y i l) s1 K|false=>False)
    | false=>False
   | none=>False
  | none=>c8z (λi=>match b9q all i with
   | some o=>c1T a dsts o s (λs=>b6i a dsts all an fx n (a1Y i l) s K)
   | none=>False) (b9r an l l)
def b7I (ops:Array Oper) (fx:List Nat):Bool :=
 let an:=N6 ops.toList []
 (List.range ops.size).all (λi=>(an.getD i []).all λj=>Nat.blt j i) && fx.all (b1K ops.toList an)
theorem b4t {v:V} (h:stB v=true) (k:Nat):J2 k v=v:=by
 cases v with
 | d x=>rfl
 | ptr j o=>rfl
 | em=>rfl
 | ag cs =>
  rw[stB] at h;rw[J2]
  congr 1
  induction cs with
  | nil=>rfl
  | cons x l ih =>
   rw[c81] at h
   split at h
   ·rename_i hx;rw[E6,ih h]
    congr 1
    cases x <;> first|rfl|cases hx
   ·cases h
 | _=>cases h
theorem b1L:∀(ks:List Nat) (l:List V) (i:Nat),stB (y8 l i)=true->y8 (E5 ks l) i=y8 l i
 | [],l,i,h=>rfl
 | k::ks,l,i,h=>by
  have e:y8 (I8 k l) i=y8 l i:=by rw[a2c,b4t h]
  rw[E5,b1L ks (I8 k l) i (by rw[e];exact h),e]
theorem b1M {v:V} (h:stB v=true):∀(ks:List Nat) (l:List V) (i:Nat),E5 ks (H5 l i v)=H5 (E5 ks l) i v
 | [],l,i=>rfl
 | k::ks,l,i=>by rw[E5,a72,b4t h,b1M h ks,E5]
theorem b2T {s:S}:∀ {l:List Nat},b6h s l=true->∀t∈l,stB (y8 s.t t)=true
 | [],_,t,ht=>by simp at ht
 | x::l,h,t,ht=>by
  rw[b6h] at h
  split at h
  ·rename_i hx
   rcases d3R.1 ht with rfl|ht
   ·exact hx
   ·exact b2T h t ht
  ·cases h
theorem b7J {s:S}:∀ {l:List Nat},(∀t∈l,stB (y8 s.t t)=true)->b6h s l=true
 | [],_=>rfl
 | x::l,h=>by
  rw[b6h,h x (d3L ..)];exact b7J λt ht=>h t (d3M _ ht)
theorem b6j {op:Op} (h:c82 op=true):a5J op=true:=by cases op <;> first|rfl|cases h
theorem a9Z {o:Oper} (h:a9Y o=true):∃d op ty p a,o=⟨some d,op,ty,p,a,none⟩/\c82 op=true:=by
 obtain⟨dst,op,ty,p,a,gd⟩:=o;cases dst with
 | none=>cases h
 | some d =>
  cases gd with
  | none=>exact⟨d,op,ty,p,a,rfl,h⟩
  | some g=>cases h
theorem b2U {dsts:List (Option Nat)} {o:Oper} (ho:a9Y o=true) {s:S} {K:S->Prop}:a2D j5 dsts [o] s K=s8 j5 dsts o s K:=by
 obtain⟨d,op,ty',p,a,rfl,h⟩:=a9Z ho;cases op
 case convert t0 t x =>
  have e:d05 s (.convert t0 t x)=false:=by
   have h:(!(a15 (ty t0).kind && a15 (ty t).kind))=true:=h;show (match a15 (ty t0).kind with|true=>a15 (ty t).kind|false=>false)=false;generalize a15 (ty t0).kind=x at *;generalize a15 (ty t).kind=y at *;cases x <;> cases y <;> first|rfl|cases h
  show a8b j5 s (some d) (λs=>K s) _=_;unfold a8b;rw[e];rfl
 all_goals first|rfl|cases h
theorem b7K {o:Oper} (h:b4r o=true):∃dst t n ps ty p a,o=⟨dst,.buildSlice t (n+1) ps,ty,p,a,none⟩:=by
 obtain⟨dst,op,ty,p,a,gd⟩:=o;unfold b4r at h
 split at h
 ·rename_i e;injection e with e1 e2 e3 e4 e5 e6;subst e1 e2 e6;exact⟨_,_,_,_,_,_,_,rfl⟩
 ·cases h
theorem d2G {ops:Array Oper} {o:Oper} (hl:b4r o=true) {s:S} {K1:S->Prop} (h:s8 j5 (v6 ops.toList) o s K1):b4q ops o s K1:=by
 obtain⟨dst,t,m,ps,type,pos,after,rfl⟩:=b7K hl;intro I0 X w0 a w ro n Q Kw hop hrel hKw;rw[d3I (by rfl)];obtain⟨I,g,hr⟩:=hrel;exact a96 (λc hc=>a3t hop c hc) (Oper.wp_mono (λa' w' ⟨s',h1,h2⟩=>hKw s' a' w' h1 h2) (b2I hr (m:=false) (o:=⟨dst,.buildSlice t (m+1) ps,type,pos,after,none⟩) (Q:=Q) hop h))
theorem b7L {dsts:List (Option Nat)} {o:Oper} (ho:slO o=true) {s:S} {K:S->Prop}:a2D j5 dsts [o] s K=s8 j5 dsts o s K:=by
 obtain⟨dst,op,type,pos,after,gd⟩:=o;cases gd <;> cases op <;> first|rfl|cases ho
def a8k (o:Oper):Bool:=slO o || b4o o || a9Y o || b4r o
theorem c1U {o:Oper} (h:a8k o=true):a61 o.op=true:=by
 unfold a8k at h;rw[d41,d41,d41] at h
 rcases h with ((h|h)|h)|h
 ·obtain⟨dst,op,type,pos,after,gd⟩:=o;cases gd <;> cases op <;> first|rfl|cases h
 ·obtain⟨dst,op,type,pos,after,gd⟩:=o;cases gd with
  | some g=>cases h
  | none=>have h:c80 op=true:=h;cases op <;> first|rfl|cases h
 ·obtain⟨d,op,ty,p,a,rfl,h⟩:=a9Z h;cases op <;> first|rfl|cases h
 ·obtain⟨dst,t,m,ps,type,pos,after,rfl⟩:=b7K h;rfl
def exH (ops:Array Oper) (o:Oper) (s:S) (K:S->Prop):Prop:=if a8k o=true then s8 j5 (v6 ops.toList) o s K else if (b4s o || alU o)=true then a2D j5 (v6 ops.toList) [o] s K else if b4f o=true then s8 j5 (v6 ops.toList) o s K else b4q ops o s K
theorem b7M {dsts:List (Option Nat)} {o:Oper} (ho:b4f o=true) {s:S} {K:S->Prop}:a2D j5 dsts [o] s K=s8 j5 dsts o s K:=by
 obtain⟨dst,op,type,pos,after,gd⟩:=o;cases gd <;> cases dst <;> cases op <;> first|rfl|cases ho
theorem b4v {o:Oper} (h:b4s o=true):∃dst f args ts ty p a,o=⟨dst,.call ⟨.value (.func f),args,ts⟩,ty,p,a,none⟩:=by
 obtain⟨dst,op,ty,p,a,gd⟩:=o;unfold b4s at h
 split at h
 ·rename_i e;injection e with e1 e2 e3 e4 e5 e6;subst e1 e2 e6;exact⟨_,_,_,_,_,_,_,rfl⟩
 ·cases h
theorem c1V {o:Oper} (h:alU o=true):∃dst e ty p a,o=⟨dst,.alloc e,ty,p,a,none⟩:=by
 obtain⟨dst,op,ty,p,a,gd⟩:=o;unfold alU at h
 split at h
 ·rename_i e;injection e with e1 e2 e3 e4 e5 e6;subst e1 e2 e6;exact⟨_,_,_,_,_,rfl⟩
 ·cases h
theorem d0T {dsts:List (Option Nat)} {dst:Option Nat} {f:Nat} {args:Array Operand} {ts:Array TypeId} {ty:TypeId} {p:String} {a:Array Edge} {s:S} {K:S->Prop}:a2D j5 dsts [⟨dst,.call ⟨.value (.func f),args,ts⟩,ty,p,a,none⟩] s K=Y9 f (N3 s.get args.toList) s.o (λu o' ks=>K (S.put ⟨E5 ks s.t,o'⟩ dst u)):=rfl
theorem c76 {dsts:List (Option Nat)} {dst:Option Nat} {e:Nat} {ty:TypeId} {p:String} {a:Array Edge} {s:S} {K:S->Prop}:a2D j5 dsts [⟨dst,.alloc e,ty,p,a,none⟩] s K=match a5p (K9 (Vm.ty e).zero) with
  | true=>K ((s.obj (a7o e)).put dst (.ptr (w8 s.o) 0))
  | false=>False:=rfl
theorem exH.mono {ops:Array Oper} {o:Oper} {s:S} {K K':S->Prop} (h:exH ops o s K) (hK:∀s,K s->K' s):exH ops o s K':=by
 unfold exH at h ⊢
 split at h
 ·rename_i hr;rw[d3I hr];exact a0K hK h
 ·rename_i hr;rw[d3G hr]
  split at h
  ·rename_i hc;rw[d3I hc];rw[d41] at hc
   rcases hc with hc|hc
   ·obtain⟨dst,f,args,ts,ty,p,a,rfl⟩:=b4v hc;rw[d0T] at h ⊢;exact h.mono λ_ _ _ hx=>hK _ hx
   ·obtain⟨dst,e,ty,p,a,rfl⟩:=c1V hc;rw[c76] at h ⊢
    split at h
    ·exact hK _ h
    ·exact h.elim
  ·rename_i hc;rw[d3G hc]
   split at h
   ·rename_i hs;rw[d3I hs];exact a0K hK h
   ·rename_i hs;rw[d3G hs];exact h.mono hK
theorem exH.sem {ops:Array Oper} {o:Oper} {s:S} {K:S->Prop} (h:exH ops o s K):b4q ops o s K:=by
 unfold exH at h
 split at h
 ·rename_i hr;unfold a8k at hr;rw[d41,d41,d41] at hr
  rcases hr with ((hr|hr)|hr)|hr
  ·rw[<-b7L hr] at h;exact b9s h
  ·rw[<-b7G hr] at h;exact b9s h
  ·rw[<-b2U hr] at h;exact b9s h
  ·exact d2G hr h
 ·split at h
  ·exact b9s h
  ·split at h
   ·rename_i hs;rw[<-b7M hs] at h;exact b9s h
   ·exact h
theorem exH.of {ops:Array Oper} {o:Oper} {s:S} {K:S->Prop} (h:c1T j5 (v6 ops.toList) o s K):exH ops o s K:=by
 unfold c1T at h;unfold exH
 split at h
 ·rename_i hl;rw[d3I (by unfold a8k;rw[hl,Bool.or_true])];exact h
 ·rename_i hl
  split
  ·rename_i hr;unfold a8k at hr;rw[hl,Bool.or_false,d41,d41] at hr
   rcases hr with (hr|hr)|hr
   ·rw[<-b7L hr];exact h
   ·rw[<-b7G hr];exact h
   ·rw[<-b2U hr];exact h
  ·split
   ·exact h
   ·split
    ·rename_i hs;rw[<-b7M hs];exact h
    ·exact b9s h
theorem c1W {ops:Array Oper} {o:Oper} (hf:frG o=true) {d:Nat} {v:V} {s:S} {K:S->Prop} (hl:U4 (some d) (B7 (v6 ops.toList) o)=true) (h:exH ops o (s.put (some d) v) K):exH ops o s (λs'=>∃ks o' u,s'=S.put ⟨E5 ks s.t,o'⟩ o.dst u/\K (S.put ⟨E5 ks (s.put (some d) v).t,o'⟩ o.dst u)):=by
 unfold exH at h ⊢
 split at h
 ·rename_i hr;rw[d3I hr];obtain⟨u,h1,h2⟩:=a63 (c1U hr) h;exact h2 s _ (T1 (P1 hl)).symm ⟨[],s.o,u,rfl,h1⟩
 ·rename_i hr;rw[d3G hr]
  by_cases hc:(b4s o || alU o)=true
  case neg =>
   have hs:b4f o=true:=by
    unfold frG at hf;unfold a8k at hr;cases h1:b4o o <;> cases h2:a9Y o <;> cases h3:b4r o <;> cases h4:slO o <;> simp_all
   rw[d3G hc,d3I hs] at h ⊢;obtain⟨o',h1,h2⟩:=a9B hs h
   have hd:o.dst=none:=by
    unfold b4f at hs;simp only[d3N,d5L] at hs;exact hs.2
   exact h2 s _ rfl (λt ht=>(a2d hl t ht).symm) ⟨[],o',.em,by rw[hd];rfl,by rw[hd];exact h1⟩
  rw[d3I hc] at h ⊢;rw[d41] at hc
  rcases hc with hc|hc
  ·obtain⟨dst,f,args,ts,ty,p,a,rfl⟩:=b4v hc;rw[d0T] at h ⊢
   have hargs:∀l:List Operand,(∀z∈l,z∈args.toList)->N3 (s.put (some d) v).get l=N3 s.get l:=by
    intro l
    induction l with
    | nil=>intro _;rfl
    | cons z l ih =>
     intro hz;rw[N3,N3,ih λz' h'=>hz z' (d3M _ h')]
     congr 1
     cases z with
     | tmp i =>
      show y8 (s.put (some d) v).t i=y8 s.t i;refine a2d hl i ?_;unfold B7;refine d4P _ (a62 ?_);have h0:Operand.tmp i∈args:=by simpa using hz _ (d3L ..)
      simp[Op.operands,Call.operands,h0]
     | _=>rfl
   rw[hargs _ λz hz=>hz] at h;exact h.mono λu o' ks hx=>⟨ks,o',u,rfl,hx⟩
  ·obtain⟨dst,e,ty,p,a,rfl⟩:=c1V hc;rw[c76] at h ⊢
   split at h
   ·exact⟨[],_,_,rfl,h⟩
   ·exact h.elim
def PtB (dsts:List (Option Nat)) (o:Oper) (s:S) (v:V):Prop:=∀(s':S) (K':S->Prop),a9A (B7 dsts o) s s'->K' (s'.put o.dst v)->s8 j5 dsts o s' K'
def b9t (ops:Array Oper) (K:S->Prop):Nat->List Nat->S->Prop
 | 0,l,s=>j5.next K s
 | n+1,l,s=>(∃i o v,i∈l/\b1e (N6 ops.toList []) l i=true/\b1K ops.toList (N6 ops.toList []) i=true/\ops.toList[i]?=some o/\b6h s (B7 (v6 ops.toList) o)=true/\stB v=true/\PtB (v6 ops.toList) o s v/\b9t ops K n (a1Y i l) (s.put o.dst v)) \/
   ∀i,i∈l->b1e (N6 ops.toList []) l i=true->∃o,ops.toList[i]?=some o/\exH ops o s (b9t ops K n (a1Y i l))
theorem b6k {ops:Array Oper} {fx:List Nat} (hfx:∀i∈fx,b1K ops.toList (N6 ops.toList []) i=true):∀ {n:Nat} {l:List Nat} {s:S} {K:S->Prop},b6i j5 (v6 ops.toList) ops.toList (N6 ops.toList []) fx n l s K->b9t ops K n l s
 | 0,l,s,K,h=>h
 | n+1,l,s,K,h=>by
  rw[b6i] at h
  split at h
  ·rename_i i hi;obtain⟨h1,h2,h3⟩:=a3P hi
   split at h <;> try exact h.elim
   rename_i o ho;rw[b2S] at ho
   split at h <;> try exact h.elim
   rename_i hst
   have hb:a9Y o=true:=by
    have:=hfx i h1;unfold b1K at this;rw[ho] at this;simp only[d3N] at this;exact this.1
   have hnl:b4r o=false:=by
    obtain⟨d,op,ty,p,a,rfl,hop⟩:=a9Z hb;cases op <;> first|rfl|cases hop
   unfold c1T at h;rw[hnl] at h;simp only at h;rw[b2U hb] at h;obtain⟨d,op,ty,p,a,e,hop⟩:=a9Z hb;obtain⟨v,g1,g2⟩:=a64 (by rw[e];exact b6j hop) h
   split at g1 <;> try exact g1.elim
   rename_i hsd;refine .inl ⟨i,o,v,h2,h3,hfx i h1,ho,hst,?_,g2,b6k hfx g1⟩;rw[e] at hsd;have hsd:stB (y8 (H5 s.t d v) d)=true:=hsd
   rcases a2Z (v:=v) (l:=s.t) (i:=d) with e2|e2
   ·rw[e2] at hsd;exact hsd
   ·rw[e2] at hsd;cases hsd
  ·refine .inr λi hi hr=>?_
   have h4:=b7F h i (a9X.2 ⟨hi,hr⟩)
   split at h4 <;> try exact h4.elim
   rename_i o ho;rw[b2S] at ho;exact⟨o,ho,(exH.of h4).mono λs hs=>b6k hfx hs⟩
theorem b4w {ops:Array Oper} {K:S->Prop}:∀ {n:Nat} {l:List Nat} {s:S},b9t ops K (n+1) l s->l.Nodup->l.length=n+1->∀ {j:Nat} {oj:Oper},j∈l->b1e (N6 ops.toList []) l j=true->ops.toList[j]?=some oj->exH ops oj s (b9t ops K n (a1Y j l))
 | n,l,s,h,hn,hl,j,oj,hj,hr,ho=>by
  rcases h with⟨i,o,v,hi,hri,hf,hoi,hst,hv,hpt,h⟩|h
  ·have hf0:=hf;unfold b1K at hf;rw[hoi] at hf;simp only[d3N] at hf
   by_cases e:i=j
   ·subst e;rw[hoi] at ho;cases ho;unfold exH;rw[d3I (by unfold a8k;rw[hf.1,Bool.or_true,Bool.true_or])];exact hpt s _ (λ_ _=>rfl) h
   ·cases n with
    | zero =>
     match l,hl with
     | [x],_=>simp at hi hj;omega
    | succ n =>
     have hd:=b7H hn hi;have h1:=b4w h (a5U hn) (by omega) (a1D.2 ⟨hj,λe2=>e e2.symm⟩) (a5T.2 λk hk hm=>a5T.1 hr k hk (a1D.1 hm).1) ho;have hjlt:j<ops.toList.length:=(d3J.1 ho).1;have h2:=d4f.1 hf.2 j (by simpa using hjlt);rw[ho] at h2;simp only[d41,d3N,d4O,Nat.beq_eq] at h2;obtain⟨d,op,ty,p,a,eo,hop⟩:=a9Z hf.1
     rcases h2 with ((h2|h2)|h2)|⟨⟨⟨h2,h3⟩,h4⟩,h5⟩
     ·exact absurd hj (a5T.1 hri j h2)
     ·exact absurd hi (a5T.1 hr i h2)
     ·exact absurd h2.symm e
     ·have hdst:o.dst=some d:=by rw[eo]
      rw[hdst] at h1 h3 h5;refine(c1W h2 h3 h1).mono λs' ⟨ks,o',u,e1,hK⟩=>?_
      have hsame:a9A (B7 (v6 ops.toList) o) s s':=λt ht=>by
       rw[e1,a2d h4 t ht];exact b1L ks s.t t (b2T hst t ht)
      refine .inl ⟨i,o,v,a1D.2 ⟨hi,e⟩,a5T.2 λk hk hm=>a5T.1 hri k hk (a1D.1 hm).1,hf0,hoi,b7J λt ht=>by rw[hsame t ht];exact b2T hst t ht,hv,λs2 K' hs hk=>hpt s2 K' (λt ht=>(hs t ht).trans (hsame t ht)) hk,?_⟩;rw[b1I,hdst,e1]
      have hcm:(S.put ⟨E5 ks s.t,o'⟩ oj.dst u).put (some d) v=S.put ⟨E5 ks (s.put (some d) v).t,o'⟩ oj.dst u:=by
       rw[a3w (λz hz hz'=>by rw[hz,<-hz'] at h5;simp at h5)];show S.put ⟨H5 (E5 ks s.t) d v,o'⟩ oj.dst u=S.put ⟨E5 ks (H5 s.t d v),o'⟩ oj.dst u;rw[b1M hv]
      rw[hcm];exact hK
  ·obtain⟨o,ho',h⟩:=h j hj hr;rw[ho] at ho';cases ho';exact h
section
variable {I0:Nat->Nat->Prop} {X:Nat->Prop} {w0:W0}
theorem c83 {ro:Option Nat} {n:Nat} {ops:Array Oper} {Q:Exit->Act->World->Prop} {K:S->Prop} (hQ:∀s' a' w',Rel I0 X w0 s' a' w'->K s'->Q .normal a' w') (hok:∀o∈ops.toList,a1A Tryz.prog o.op=true) (hd:∀i,i<ops.size->∀j∈(N6 ops.toList []).getD i [],j<i):∀(fuel:Nat) (l:List Nat) (listed:Array Bool) (s:S) (a:Act) (w:World),l.length=fuel->listed.size=ops.size->l.Pairwise (·<·)->(∀i,i∈l↔i<ops.size/\listed.getD i true=false)->(∀i,i<ops.size->listed.getD i false=true->∀j∈(N6 ops.toList []).getD i [],listed.getD j false=true)->Rel I0 X w0 s a w->b9t ops K fuel l s->wpAnyIn (FW ro) n Tryz.prog .any ops Q fuel listed a w:=by
 intro fuel
 induction fuel with
 | zero =>
  intro l listed s a w hl hsz hp hmem hcl hrel hK;obtain rfl:=List.length_eq_zero_iff.1 hl;obtain⟨F,hg,hk⟩:=hK;obtain⟨s',hf,hr'⟩:=hg _ _ _ _ _ hrel;refine⟨?_,hQ _ _ _ hr' (hk s' hf)⟩;cases hr:Region.ready .any ops listed with
  | nil=>rfl
  | cons x xs =>
   obtain⟨h1,o,h2,_⟩:=mem_ready.1 (show x∈Region.ready .any ops listed by rw[hr];exact d3L ..);have:=(hmem x).2 ⟨(d3Z.1 h2).1,h1⟩
   simp at this
 | succ fuel ih =>
  intro l listed s a w hl hsz hp hmem hcl hrel hK
  have un:∀j,j∈l->listed.getD j false=true->False:=λj hj h=>by
   obtain⟨h1,h2⟩:=(hmem j).1 hj
   simp[hsz,h1] at h h2
   rw[h2] at h;cases h
  refine⟨λhr=>?_,λi hi=>?_⟩
  ·exfalso;cases l with
   | nil=>simp at hl
   | cons i0 rest =>
    obtain⟨h1,h2⟩:=(hmem i0).1 (d3L ..);obtain⟨o,ho⟩:∃o,ops[i0]?=some o:=⟨_,d4I h1⟩
    have:i0∈Region.ready .any ops listed:=mem_ready.2 ⟨h2,o,ho,λe he hb=>by
     have h3:e.on∈(N6 ops.toList []).getD i0 []:=by
      rw[b72 ho (hd i0 h1)];exact d40.2 ⟨e.on,a9O he hb,d3L ..⟩
     have h4:=hd i0 h1 _ h3
     have h5:¬(e.on∈i0::rest):=λhm=>by
      rcases d3R.1 hm with hm|hm
      ·omega
      ·have:=(d4C.1 hp).1 _ hm;omega
     have h6:listed.getD e.on true=true:=by
      cases hx:listed.getD e.on true with
      | true=>rfl
      | false=>exact absurd ((hmem e.on).2 ⟨by omega,hx⟩) h5
     have hlt:e.on<listed.size:=by omega
     simpa [hlt] using h6⟩
    rw[hr] at this
    simp at this
  ·obtain⟨h1,o,ho,hall⟩:=mem_ready.1 hi;have hlt:=(d3Z.1 ho).1;have hil:i∈l:=(hmem i).2 ⟨hlt,h1⟩
   have han:∀j∈(N6 ops.toList []).getD i [],listed.getD j false=true:=λj hj=>by
    rw[b72 ho (hd i hlt)] at hj;obtain⟨k,hk,hj⟩:=d40.1 hj;obtain⟨e,he,hek⟩:=d4U.1 hk;obtain⟨he1,he2⟩:=d5y.1 he;subst hek;have h3:=hall e (by simpa using he1) he2
    rcases d3R.1 hj with rfl|hj
    ·exact h3
    ·have:e.on<ops.size:=by
      rcases d4F e.on listed.size with h'|h'
      ·omega
      ·simp[Array.getElem?_eq_none h'] at h3
     exact hcl _ this h3 j hj
   have hot:ops.toList[i]?=some o:=by rw[d4B];exact ho
   have hnd:l.Nodup:=hp.imp λh=>Nat.ne_of_lt h
   have hf:=(b4w hK hnd hl hil (a5T.2 λj hj hm=>un j hm (han j hj)) hot).sem
   have key:=hf I0 X w0 a w ro n Q (wpAnyIn (FW ro) n Tryz.prog .any ops Q fuel (listed.setIfInBounds i true)) (hok o (d3U hot)) hrel (λs' a' w' hrel' hK'=>by
    have hsub:(a1Y i l).Pairwise (·<·):=by
     have e:∀l:List Nat,(a1Y i l).Sublist l:=by
      intro l
      induction l with
      | nil=>exact .slnil
      | cons x l ih =>
       rw[a1Y];cases Y5 x i
       ·exact ih.cons_cons x
       ·exact ih.cons x
     exact hp.sublist (e l)
    refine ih (a1Y i l) _ s' a' w' (by have:=b7H hnd hil;omega) (by simpa using hsz) hsub (λk=>?_) (λk hk hkl j hj=>?_) hrel' hK'
    ·rw[a1D]
     by_cases hik:i=k
     ·subst hik;refine⟨λhm=>absurd rfl hm.2,λhm=>?_⟩;have h6:=hm.2;have hlt':i<listed.size:=by omega
      simp[hlt'] at h6
     ·rw[getD_set_ne true hik,<-hmem k];exact⟨λh=>h.1,λh=>⟨h,λe=>hik e.symm⟩⟩
    ·by_cases hik:i=k
     ·subst hik;exact getD_set_true (han j hj)
     ·rw[getD_set_ne false hik] at hkl
      exact getD_set_true (hcl k hk hkl j hj))
   unfold wpOpIn;rw[ho];simp only
   split at key
   ·rename_i hw;rw[d3I hw];exact key
   ·rename_i hw;rw[d3G hw];exact key
end
theorem c5q {ops:Array Oper} {fx:List Nat} (hp:b7I ops fx=true) {s:S} {K:S->Prop} (h:b6i j5 (v6 ops.toList) ops.toList (N6 ops.toList []) fx ops.size (List.range ops.size) s K):j5.reg ops s K:=by
 intro I0 X w0 a w ro n Q hok hrel hQ;unfold b7I at hp;simp only[d3N] at hp
 have hd:∀i,i<ops.size->∀j∈(N6 ops.toList []).getD i [],j<i:=λi hi j hj=>by
  have h1:=d4f.1 hp.1 i (by simpa using hi)
  simpa [d4W] using d4f.1 h1 j hj
 have hfx:∀i∈fx,b1K ops.toList (N6 ops.toList []) i=true:=λi hi=>d4f.1 hp.2 i hi
 refine c83 hQ hok hd ops.size (List.range ops.size) _ s a w (by simp) (by simp) List.pairwise_lt_range (λi=>?_) (λi hi h=>?_) hrel (b6k hfx h)
 ·rw[d6a];exact⟨λhi=>⟨hi,by simp[hi]⟩,λh=>h.1⟩
 ·simp[hi] at h
section
variable {qa:_} {qb:_} {qc:_} {qd:_} {qe:_} {qg:_} {qh:_} {qi:_} {qj:_} {qk:_} {ql:_} {qm:_} {qo:_} {qp:_} {qq:_} {qt:_} {qu:_} {qv:_} {qw:_} {qx:_} {qy:_} {qz:_} {va:_} {vc:_} {vd:_} {ve:_} {vf:_} {vg:_} {vh:_} {vj:_} {vk:_} {vl:_} {vm:_} {vn:_} {vo:_} {vq:_} {vr:_} {vt:_} {vu:_} {vv:_} {vw:_} {vx:_} {vy:_} (hA:Ar.mk qa qb qc qd qe qg qh qi qj qk ql qm qo qp qq qt qu qv qw qx qy qz va vc vd ve vf vg vh vj vk vl vm vn vo vq vr vt vu vv vw vx vy=j5)
include hA
theorem a8K {ops:Array Oper} (fx:List Nat) (hp:b7I ops fx=true) {s:S} {K:S->Prop} (h:b6i (Ar.mk qa qb qc qd qe qg qh qi qj qk ql qm qo qp qq qt qu qv qw qx qy qz va vc vd ve vf vg vh vj vk vl vm vn vo vq vr vt vu vv vw vx vy) (v6 ops.toList) ops.toList (N6 ops.toList []) fx ops.size (List.range ops.size) s K):vx ops s K:=by
 have e:vx=j5.reg:=congrArg Ar.reg hA;rw[e];rw[hA] at h;exact c5q hp h
end
end
end Go.Proofs.YtdjnoafijjepcaaGreat.Vm
end
section
namespace Go.Proofs.YtdjnoafijjepcaaGreat.Vm
open Go.RowKit
set_option maxRecDepth 100000
set_option maxHeartbeats 4000000
section
section
variable {qa:_} {qb:_} {qc:_} {qd:_} {qe:_} {qg:_} {qh:_} {qi:_} {qj:_} {qk:_} {ql:_} {qm:_} {qo:_} {qp:_} {qq:_} {qt:_} {qu:_} {qv:_} {qw:_} {qx:_} {qy:_} {qz:_} {va:_} {vc:_} {vd:_} {ve:_} {vf:_} {vg:_} {vh:_} {vj:_} {vk:_} {vl:_} {vm:_} {vn:_} {vo:_} {vq:_} {vr:_} {vt:_} {vu:_} {vv:_} {vw:_} {vx:_} {vy:_} (hA:Ar.mk qa qb qc qd qe qg qh qi qj qk ql qm qo qp qq qt qu qv qw qx qy qz va vc vd ve vf vg vh vj vk vl vm vn vo vq vr vt vu vv vw vx vy=j5)
include hA
theorem ew {k:IntKind} {x y z:Int} (h:k.wrap (x+y)=z):qa k (qb x y)=z:=by
 obtain⟨e1,e2,_⟩:=m6 hA;rw[e1,e2,h]
theorem eb {x y:Int} {b:Bool} (h:(x == y)=b):qk x y=b:=by
 obtain⟨_,_,_,_,_,_,_,_,e9⟩:=m6 hA;rw[e9,h]
theorem ebr {x:Int}:qk x x=true:=eb hA (d4G x)
theorem el {x y:Int} {b:Bool} (h:decide (x<y)=b):qi x y=b:=by
 obtain⟨_,_,_,_,_,_,e7,_⟩:=m6 hA;rw[e7,h]
theorem eln {x:Int} {r:List (List D)} {b:Bool} (h:decide (x<(r.length:Int))=b):qi x (va r)=b:=by
 obtain⟨e,_⟩:=B3 hA;rw[e,el hA h]
theorem eg {r:List (List D)} {a:Int} {c:List D} (h:j5.get r a=some c):vc r a=some c:=by
 have e:vc=j5.get:=congrArg Ar.get hA;rw[e,h]
theorem ea (x y:List (List D)):ve x y=x++y:=by
 obtain⟨_,_,_,e⟩:=B3 hA;rw[e]
theorem es {x y:ByteArray} {b:Bool} (h:(x.toList == y.toList)=b):qm (qp x) (qp y)=b:=by
 obtain⟨s1,_,s3,_⟩:=G1 hA;rw[s1,s3,s3,h]
theorem esl (x y:ByteArray):qm (qp x) (qp y)=(x.data.toList == y.data.toList):=by
 obtain⟨s1,_,s3,_⟩:=G1 hA;rw[s1,s3,s3,ByteArray.toList_eq,ByteArray.toList_eq]
theorem esr {x:ByteArray}:qm (qp x) (qp x)=true:=es hA (d4G _)
theorem c84 {ops:Array Oper} {n:Nat} (hn:ops.size=n) (fx:List Nat) (hp:b7I ops fx=true) {s:S} {K:S->Prop} (s':S) (h:∀K:S->Prop,K s'->b6i (Ar.mk qa qb qc qd qe qg qh qi qj qk ql qm qo qp qq qt qu qv qw qx qy qz va vc vd ve vf vg vh vj vk vl vm vn vo vq vr vt vu vv vw vx vy) (v6 ops.toList) ops.toList (N6 ops.toList []) fx ops.size (List.range ops.size) s K) (hK:K s'):vx ops s K:=a8K hA fx hp (h K hK)
theorem B8 {f:Nat} {vs vs' r:List V} {s:S} {K:V->S->Prop} (ks:List Nat) {os' o2:List O} (h:y7 f vs' os' (λres os=>res=r/\os=o2)) (hK:K (a1i (upT ks (w8 s.o) r)) (a3i ks o2 s)) (hs:SubOk ks vs' os' vs s:=by exact⟨rfl,rfl,rfl,rfl,rfl,rfl,rfl⟩):vo f vs s K :=
 A1 hA ks h hs λ_ _ ⟨e1,e2⟩=>by rw[e1,e2];exact hK
theorem cx {f:Nat} {vs vs' r:List V} {l:List Nat} {s:S} {K:V->S->Prop} (ks:List Nat) {os' o2:List O} (h:y7 f vs' os' (λres os=>res=r/\os=o2)) (hK:K (a1i (upT ks (w8 s.o) r)) ⟨s.t,J6 ks (a0t ks (w8 s.o) o2) s.o⟩) (hb:b6d os'=true:=by rfl) (hs:SubOk ks vs' os' vs s:=by exact⟨rfl,rfl,rfl,rfl,rfl,rfl,rfl⟩)
  (hk:a3H l s.t s.o (J6 ks (a0t ks (w8 s.o) o2) s.o):=by repeat (first|exact a9S _ _ _|refine a8j (λk hk=>by injection hk with hk;subst hk;rfl) ?_)):vq f vs l s K :=
 b4l hA ks (y7.box h hb) hs λ_ _ ⟨e1,e2⟩=>by rw[e1,e2];exact⟨hk,hK⟩
theorem rdx {f:Nat} {vs vs' r:List V} {s:S} {K:V->S->Prop} (ks:List Nat) {os':List O} (h:E8 f vs' os' (λres o2=>res=r/\o2=os')) (hK:K (a1i (upT ks (w8 s.o) r)) s) (hs:SubOk ks vs' os' vs s:=by exact⟨rfl,rfl,rfl,rfl,rfl,rfl,rfl⟩) (hb:J6 ks (a0t ks (w8 s.o) os') s.o=s.o:=by rfl):vo f vs s K :=
 a9V hA ks h hs hb λ_ e=>by rw[e];exact hK
theorem rdq {f:Nat} {vs vs' r:List V} {o:List O} {K:V->Prop} (ks:List Nat) {os':List O} (h:E8 f vs' os' (λres o2=>res=r/\o2=os')) (hK:K (a1i (upT ks (w8 o) r))) (hs:SubOk ks vs' os' vs ⟨[],o⟩:=by exact⟨rfl,rfl,rfl,rfl,rfl,rfl,rfl⟩) (hb:J6 ks (a0t ks (w8 o) os') o=o:=by rfl):vn f vs o K:=b2R hA ks h hs hb hK
theorem eL {L z:Int} (hL:0<=L/\L<=1048576) (e:z=L+1):qa .i64 (qb L 1)=z:=ew hA (by rw[IntWalk.i64_in _ (by omega)];exact e.symm)
end
theorem fin {p:Prop} (h:p:=by
  iterate 2 (all_goals try cbv;repeat' (first|(with_reducible apply j6 hA;exact hk)|((first|with_reducible apply j6 hA|rw[q0]|rw[q1]|rw[q2]|rw[q3]|rw[q4]|rw[q5]|rw[q6]|rw[q7]|rw[ew hA w0]|rw[ew hA w1]|rw[ew hA w2]|rw[ew hA w3]|rw[ew hA w4]|rw[ew hA w5]|rw[ew hA w6]|rw[ew hA w7]|rw[qL]|rw[eb hA b0]|rw[eb hA b1]|rw[eb hA b2]|rw[eb hA b3]|rw[eb hA b4]|rw[eb hA b5]|rw[eb hA b6]|rw[eb hA b7]|rw[eb hA b8]|rw[eb hA b9]|rw[el hA l0]|rw[el hA l1]|rw[el hA l2]|rw[el hA l3]|rw[eln hA l0]|rw[eln hA l1]|rw[eg hA g0]|rw[eg hA g1]|rw[eg hA g2]|rw[eg hA g3]|rw[eg hA g4]|rw[eg hA g5]|rw[es hA x0]|rw[es hA x1]|rw[es hA x2]|rw[es hA x3]|rw[esl hA]|rw[ebr hA]|rw[esr hA]|rw[ea hA]|refine B8 hA [0,1] p0 ?_|refine cx hA [0,1] p0 ?_|refine B8 hA [0,1] p1 ?_|refine cx hA [0,1] p1 ?_|refine B8 hA [0,1] p2 ?_|refine cx hA [0,1] p2 ?_|refine B8 hA [0,1] p3 ?_|refine cx hA [0,1] p3 ?_|refine B8 hA [0,1] p4 ?_|refine cx hA [0,1] p4 ?_|refine B8 hA [0,1] p5 ?_|refine cx hA [0,1] p5 ?_|refine B8 hA [0,1] p6 ?_|refine cx hA [0,1] p6 ?_|refine B8 hA [0,1] p7 ?_|refine cx hA [0,1] p7 ?_|refine B8 hA [0,1] p8 ?_|refine cx hA [0,1] p8 ?_|refine B8 hA [0,1] p9 ?_|refine cx hA [0,1] p9 ?_|refine B8 hA [0,1] p10 ?_|refine cx hA [0,1] p10 ?_|refine B8 hA [0,1] p11 ?_|refine cx hA [0,1] p11 ?_|refine B8 hA [0,1] p12 ?_|refine cx hA [0,1] p12 ?_|refine B8 hA [0,1] p13 ?_|refine cx hA [0,1] p13 ?_|refine j8 hA _ h0 rfl ?_|refine l9 hA _ h0 ?_|refine W9 hA _ h0 rfl ?_|refine j8 hA _ h1 rfl ?_|refine l9 hA _ h1 ?_|refine W9 hA _ h1 rfl ?_|refine j8 hA _ h2 rfl ?_|refine l9 hA _ h2 ?_|refine W9 hA _ h2 rfl ?_|refine j8 hA _ h3 rfl ?_|refine l9 hA _ h3 ?_|refine W9 hA _ h3 rfl ?_|refine j8 hA _ h4 rfl ?_|refine l9 hA _ h4 ?_|refine W9 hA _ h4 rfl ?_|refine j8 hA _ h5 rfl ?_|refine l9 hA _ h5 ?_|refine W9 hA _ h5 rfl ?_|refine j8 hA _ h6 rfl ?_|refine l9 hA _ h6 ?_|refine W9 hA _ h6 rfl ?_|refine j8 hA _ h7 rfl ?_|refine l9 hA _ h7 ?_|refine W9 hA _ h7 rfl ?_|refine j8 hA _ h8 rfl ?_|refine l9 hA _ h8 ?_|refine W9 hA _ h8 rfl ?_|refine j8 hA _ h9 rfl ?_|refine l9 hA _ h9 ?_|refine W9 hA _ h9 rfl ?_|refine j8 hA _ h10 rfl ?_|refine l9 hA _ h10 ?_|refine W9 hA _ h10 rfl ?_|refine j8 hA _ h11 rfl ?_|refine l9 hA _ h11 ?_|refine W9 hA _ h11 rfl ?_|refine rdx hA [] o0 ?_|refine rdq hA [] o0 ?_|refine rdx hA [] o1 ?_|refine rdq hA [] o1 ?_|refine rdx hA [] o2 ?_|refine rdq hA [] o2 ?_|refine rdx hA [] o3 ?_|refine rdq hA [] o3 ?_|refine a6C hA (a30 (ks:=[]) o0 ⟨rfl,rfl,rfl,rfl,rfl,rfl,rfl⟩ rfl) ?_|refine a6C hA (a30 (ks:=[]) o1 ⟨rfl,rfl,rfl,rfl,rfl,rfl,rfl⟩ rfl) ?_|refine a6C hA (a30 (ks:=[]) o2 ⟨rfl,rfl,rfl,rfl,rfl,rfl,rfl⟩ rfl) ?_|refine a6C hA (a30 (ks:=[]) o3 ⟨rfl,rfl,rfl,rfl,rfl,rfl,rfl⟩ rfl) ?_|refine rdx hA [1] r0 ?_|refine rdq hA [1] r0 ?_|refine rdx hA [1] r1 ?_|refine rdq hA [1] r1 ?_|refine rdx hA [1] r2 ?_|refine rdq hA [1] r2 ?_|refine B8 hA [1] t0 ?_|refine E2 hA true ?_|refine a3c hA true ?_|(refine F3 hA (by first|(simp only[d3O,d3Y];omega)|omega) ?_)|(show vx _ _ _;refine c84 hA (n:=12) rfl [0,2,4,6,8,10] (by kernel_rfl) _ (by intro K hk;exact fin) ?_)|(show vx _ _ _;refine c84 hA (n:=11) rfl [0,3,4,5] (by kernel_rfl) _ (by intro K hk;exact fin) ?_));cbv)|with_reducible apply And.intro))
  all_goals try first|(exact hK _ rfl;done)|exact n7 hA [0,1] ⟨rfl,rfl,rfl,rfl,rfl,rfl,rfl,rfl⟩ ⟨rfl,rfl⟩|(refine⟨_,hi,hm,?_⟩;cbv)):p:=h
theorem wk {f:Nat} {fn:Func} {c:Code} {rs q:List R} (hf:Tryz.prog.funcs[f]?=some fn) (hb:fn.body=some c) (hn:(fn.name != "runtime.NumGoroutine")=true:=by kernel_rfl) (hc:y6 Tryz.prog c=true:=by kernel_rfl) (hr:T3 fn.results.toList=true:=by kernel_rfl)
  (h:∀qa qb qc qd qe qg qh qi qj qk ql qm qo qp qq qt qu qv qw qx qy qz va vc vd ve vf vg vh vj vk vl vm vn vo vq vr vt vu vv vw vx vy,Ar.mk qa qb qc qd qe qg qh qi qj qk ql qm qo qp qq qt qu qv qw qx qy qz va vc vd ve vf vg vh vj vk vl vm vn vo vq vr vt vu vv vw vx vy=j5->E9 (Ar.mk qa qb qc qd qe qg qh qi qj qk ql qm qo qp qq qt qu qv qw qx qy qz va vc vd ve vf vg vh vj vk vl vm vn vo vq vr vt vu vv vw vx vy) c (a45 rs (fn.ntmps - G7 rs)) (λx s=>c1N (Ar.mk qa qb qc qd qe qg qh qi qj qk ql qm qo qp qq qt qu qv qw qx qy qz va vc vd ve vf vg vh vj vk vl vm vn vo vq vr vt vu vv vw vx vy) fn.results.toList q x s):=by
  intro _ _ _ _ _ _ _ _ _ _ _ _ _ _ _ _ _ _ _ _ _ _ _ _ _ _ _ _ _ _ _ _ _ _ _ _ _ _ _ _ _ vx _ hA
  exact fin):o8 f rs q:=a6A hf hb hn hc hr h
theorem wko {f:Nat} {fn:Func} {c:Code} {vs:List V} {os:List O} {Q:List V->List O->Prop} (hf:Tryz.prog.funcs[f]?=some fn) (hb:fn.body=some c) (hn:(fn.name != "runtime.NumGoroutine")=true:=by kernel_rfl) (hc:y6 Tryz.prog c=true:=by kernel_rfl) (hr:T3 fn.results.toList=true:=by kernel_rfl)
  (h:∀qa qb qc qd qe qg qh qi qj qk ql qm qo qp qq qt qu qv qw qx qy qz va vc vd ve vf vg vh vj vk vl vm vn vo vq vr vt vu vv vw vx vy,Ar.mk qa qb qc qd qe qg qh qi qj qk ql qm qo qp qq qt qu qv qw qx qy qz va vc vd ve vf vg vh vj vk vl vm vn vo vq vr vt vu vv vw vx vy=j5->E9 (Ar.mk qa qb qc qd qe qg qh qi qj qk ql qm qo qp qq qt qu qv qw qx qy qz va vc vd ve vf vg vh vj vk vl vm vn vo vq vr vt vu vv vw vx vy) c (a3a vs os (fn.ntmps - G7 vs)) (λx s=>c5m (Ar.mk qa qb qc qd qe qg qh qi qj qk ql qm qo qp qq qt qu qv qw qx qy qz va vc vd ve vf vg vh vj vk vl vm vn vo vq vr vt vu vv vw vx vy) (w8 os) Q fn.results.toList x s):=by
  intro _ _ _ _ _ _ _ _ _ _ _ _ _ _ _ _ _ _ _ _ _ _ _ _ _ _ _ _ _ _ _ _ _ _ _ _ _ _ _ _ _ vx _ hA
  (try obtain⟨_,_,_⟩:=s0);(try obtain⟨_,_,_⟩:=s1);(try obtain⟨_,_,_⟩:=s2);(try obtain⟨_,_,_⟩:=s3);(try obtain⟨_,_,_⟩:=s4);(try obtain⟨_,_,_⟩:=s5);(try obtain⟨_,_,_⟩:=s6)
  (try have hL:=And.intro hL1 hL2);(try (obtain⟨L1,hLe⟩:∃L1,L1=L+1:=⟨_,rfl⟩;have qL:=eL hA hL hLe;simp only[<-hLe] at *))
  exact fin):y7 f vs os Q:=a9Q hf hb hn hc hr h
end
section
section
variable {I0:Nat->Nat->Prop} {X:Nat->Prop} {w0:W0} {I:Nat->Nat->Prop} {g:Nat->Value} {s:S} {a:Act} {w:World}
end
end
def d0U (w:World) (v v':Value) (w':World):Prop:=(∃g,v.ownBlock=some g/\v'.ownBlock=some g/\w.grownBy w' (some g))\/(Below w.heap.size w w'/\(v'.ownBlock=none\/v'.ownBlock=some w.heap.size))
theorem b0a {P:Program} (w:World) (t u ty e:TypeId) (i:TypeInfo) (ht:P.underlying t=some (.slice e)) (hu:P.underlying u=some .string) (hi:P.info? e=some i) (hz:i.zero=some (.int .u8 0)) (hsize:i.size=1) (hby:i.bytes=1)
  (v:Value) (n:Nat) (xs:List Value) (hown:w.ownsRow 0 e 1 v n xs) (s:ByteArray) (h63:n+s.size<=maxLen) (hbytes:n+s.size<=140737488355328) :
  ∃v' w',(Builtin.append_ #[t,u] ty #[v,.string s]).run P w=.ok v' w'/\w'.ownsRow 0 e 1 v' (n+s.size) (xs++Lib.strCells s)/\d0U w v v' w':=by
 obtain⟨v',w',hr,h2,h3,h4⟩:=Lib.run_append_own_string (P:=P) w 0 t u ty e i ht hu hi hz hsize hby v n xs hown s h63 hbytes (d4o _);refine⟨v',w',hr,h2,?_⟩;have hxl:xs.length=n:=by simpa using hown.1
 rcases hown.2 with⟨rfl,rfl⟩|⟨g,cap,cur,rfl,hbg,hg,hnc,hcm,hcs,htake⟩
 ·refine .inr ⟨⟨h3.os,h3.tape,h3.output,h3.size,λk hk=>h3.block k hk (by simp[Value.ownBlock])⟩,?_⟩
  by_cases hm:s.size=0
  ·rw[h4.2 ⟨rfl,hm⟩];exact .inl rfl
  ·have hrn:=run_append_nil_string (P:=P) w t u ty e i (.int .u8 0) ht hu hi hz s (by omega) (by unfold maxLen at h63;omega) (by rw[hby];omega);rw[hr] at hrn;injection hrn with e1 e2;rw[e1];exact .inr rfl
 ·by_cases hroom:n+s.size<=cap
  ·have hrr:=Lib.run_append_room_string (P:=P) w t u ty e i ht hu hi hsize g n cap cur hg s hroom (by omega);rw[hr] at hrr;injection hrr with e1 e2;rw[e1];exact .inl ⟨g,rfl,rfl,h3⟩
  ·have holds:∀j u,xs[j]?=some u->w.cell? ((⟨g,0,none⟩:Addr).add j)=some u:=hown.cells (g:=g) rfl;have hrg:=Lib.run_append_grow_string (P:=P) w t u ty e i (.int .u8 0) ht hu hi hz ⟨g,0,none⟩ n cap xs (by rw[hsize];simpa using hxl) holds s (by omega) (by unfold maxLen at h63;omega) (by rw[hby];exact growslice_fits (by omega) (by omega));rw[hr] at hrg;injection hrg with e1 e2;rw[e1,e2];exact .inr ⟨((Below.refl _ _).drew).alloc (d3Q _) _,.inr rfl⟩
theorem c1X {w:World} {b T:Nat} {cur:Array Value} (h:w.heap[b]?=some (.cells cur T (0,0))) (i:Nat):w.cell? ⟨b,i,none⟩=cur[i]?:=by
 unfold World.cell?;rw[h]
 simp
def rS (ss:List ByteArray):List (List D):=ss.map λs=>[.sc (.string s)]
theorem c86 (ss:List ByteArray):(rS ss).length=ss.length:=by rw[rS,d4g]
theorem c1Y {ss:List ByteArray} {k:Nat} {x:ByteArray} (h:ss[k]?=some x):(rS ss)[k]?=some [.sc (.string x)]:=by rw[rS,d4p,h];rfl
def btl (b:ByteArray):List UInt8:=b.data.toList
theorem a3Q (b:ByteArray):b.toList=btl b:=ByteArray.toList_eq b
theorem P3 (b:ByteArray):(btl b).length=b.size:=by unfold btl;rw[d4K];rfl
theorem a5b {b:ByteArray} {k:Nat} {c:UInt8} (h:(btl b)[k]?=some c):j5.sget b (k:Int)=some (c.toNat:Int):=by
 show (if 0<=(k:Int) then (b[(k:Int).toNat]?).map (λc=>(c.toNat:Int)) else none)=_;rw[d3I (by omega)]
 have e:b[(k:Int).toNat]?=(btl b)[k]?:=by
  rw[btl,d4B];rfl
 rw[e,h];rfl
theorem L3 {b c:Bool} (h:c=b):(some (R.one (D.sc (.bool c)))=some (R.one (D.sc (.bool b))))/\True:=⟨by rw[h],trivial⟩
theorem c1Z {k:IntKind} {b c:Int} (h:c=b):(some (R.one (D.sc (.int k c)))=some (R.one (D.sc (.int k b))))/\True:=⟨by rw[h],trivial⟩
def rU (l:List UInt8):List (List D):=l.map λc=>[.sc (.int .u8 (c.toNat:Int))]
theorem b2V (l:List UInt8):(rU l).length=l.length:=by unfold rU;rw[d4g]
theorem c87 (l:List UInt8):∀r∈rU l,r.length=1:=λr hr=>by
 unfold rU at hr;obtain⟨c,_,rfl⟩:=d4U.1 hr;rfl
theorem b6l {I:Nat->Nat->Prop} {w:World} (s:ByteArray):F8 I w (Lib.strCells s) (rU (btl s)).flatten:=by
 have key:∀l:List UInt8,F8 I w (l.map λb=>Value.int .u8 b.toNat) (rU l).flatten:=by
  intro l
  induction l with
  | nil=>exact .nil I w
  | cons c l ih=>exact .cons (.sc _ rfl) ih
 exact key _
section
section
variable {I0:Nat->Nat->Prop} {X:Nat->Prop} {w0:W0} {I:Nat->Nat->Prop} {g:Nat->Value} {s:S} {a:Act} {w:World}
theorem a5V {s:S} {k:Nat} {j:Nat} (h:U7 ⟨s.t,s.o.set k .dead⟩ j):j≠k/\U7 s j:=by
 obtain⟨o,ho,hd⟩:=h
 by_cases e:k=j
 ·subst e;simp only at ho;have hlt:=(d3J.1 ho).1;rw[d4k] at hlt;rw[d4v hlt] at ho;cases ho;exact absurd rfl hd
 ·simp only[d4i e] at ho;exact⟨d5V e,o,ho,hd⟩
theorem RelI.deadTo (h:RelI I0 X w0 I g s a w) {k:Nat} {o:O} (hk:s.o[k]?=some o) (hd:o≠.dead) {w':World} {b:Nat} (hb:gbl (g k) b) (hos:w'.os=w.os) (htp:w'.tape=w.tape) (hou:w'.output=w.output) (hsz:w'.heap.size=w.heap.size)
  (hoth:∀c,c≠b->w'.heap[c]?=w.heap[c]?) (hcell:∀i,w'.cell? ⟨b,i,none⟩=w.cell? ⟨b,i,none⟩):RelI I0 X w0 I g ⟨s.t,s.o.set k .dead⟩ a w':=by
 have hm:=(h.obj k o hk).blk hd b hb
 have hkp:C3 I w w':=λb' n hb' i hi=>by
  by_cases e:b'=b
  ·subst e;exact hcell i
  ·exact a4u (hoth b' e) i
 refine⟨h.im,λb' n hb'=>by rw[hsz];exact h.lt b' n hb',⟨hos.trans h.fr.os,htp.trans h.fr.tape,hou.trans h.fr.output,by rw[hsz];exact h.fr.size,λb' hb' hX=>?_⟩,h.kp.trans λb' n hb' i hi=>hkp b' n (h.im b' n hb') i hi,by simp only[d4k];exact h.lo,h.st,λi x hx=>?_,λi j b hi hj=>h.dis i j b (a5V hi).2 (a5V hj).2,λi hi=>h.out i (by simpa using hi),h.tmp.mono (λ_ _ h=>h) hkp,h.dfr⟩
 ·rw[hoth b' λe=>?_]
  ·exact h.fr.block b' hb' hX
  ·subst e
   rcases hm.2 with h1|h1
   ·omega
   ·exact hX h1
 ·by_cases hxd:x=.dead
  ·subst hxd;exact True.intro
  ·have h1:=a5V (s:=s) (k:=k) ⟨x,hx,hxd⟩;simp only[d4i (d5V h1.1)] at hx;refine(h.obj i x hx).keep (λ_ _ h=>h) hkp (λb' hb'=>hoth b' λe=>?_) λ_ _ _ h=>h
   subst e;exact h1.1 (h.dis i k b' ⟨x,hx,hxd⟩ ⟨o,hk,hd⟩ hb' hb)
end
end
section
section
variable {qa:_} {qb:_} {qc:_} {qd:_} {qe:_} {qg:_} {qh:_} {qi:_} {qj:_} {qk:_} {ql:_} {qm:_} {qo:_} {qp:_} {qq:_} {qt:_} {qu:_} {qv:_} {qw:_} {qx:_} {qy:_} {qz:_} {va:_} {vc:_} {vd:_} {ve:_} {vf:_} {vg:_} {vh:_} {vj:_} {vk:_} {vl:_} {vm:_} {vn:_} {vo:_} {vq:_} {vr:_} {vt:_} {vu:_} {vv:_} {vw:_} {vx:_} {vy:_} (hA:Ar.mk qa qb qc qd qe qg qh qi qj qk ql qm qo qp qq qt qu qv qw qx qy qz va vc vd ve vf vg vh vj vk vl vm vn vo vq vr vt vu vv vw vx vy=j5)
include hA
theorem esu {k:IntKind} {x y z:Int} (h:k.wrap (x - y)=z):qa k (qc x y)=z:=by
 obtain⟨e1,e2,e3,e4,e5,e6,_⟩:=m6 hA;simp only[e1,e3,e4,e5,e6,h]
theorem emu {k:IntKind} {x y z:Int} (h:k.wrap (x * y)=z):qa k (qd x y)=z:=by
 obtain⟨e1,e2,e3,e4,e5,e6,_⟩:=m6 hA;simp only[e1,e3,e4,e5,e6,h]
theorem equ {k:IntKind} {x y z:Int} (h:k.wrap (x.tdiv y)=z):qa k (qe x y)=z:=by
 obtain⟨e1,e2,e3,e4,e5,e6,_⟩:=m6 hA;simp only[e1,e3,e4,e5,e6,h]
theorem ere {x y z:Int} (h:x.tmod y=z):qg x y=z:=by
 obtain⟨_,_,_,_,_,e6,_⟩:=m6 hA;rw[e6,h]
theorem ewp {k:IntKind} {x z:Int} (h:k.wrap x=z):qa k x=z:=by
 obtain⟨e1,_⟩:=m6 hA;rw[e1,h]
theorem em {x y:Int} {b:Bool} (h:decide (x<=y)=b):qj x y=b:=by
 obtain⟨_,_,_,_,_,_,_,e8,_⟩:=m6 hA;rw[e8,h]
theorem en {r:List (List D)} {n:Int} (h:(r.length:Int)=n):va r=n:=by
 obtain⟨e,_⟩:=B3 hA;rw[e,h]
theorem ebi {op:BinOp} {k k':IntKind} {x y z:Int} (h:Z1 op k x k' y=some z):qh op k x k' y=some z:=by rw[a6D hA,h]
theorem esb {r q:List (List D)} {a b:Int} (h:j5.sub2 r a b=some q):vd r a b=some q:=by
 obtain⟨_,_,e,_⟩:=B3 hA;rw[e,h]
end
theorem d2H {p:Prop} (h:p:=by
  iterate 2 (all_goals try cbv;repeat' ((first|with_reducible apply j6 hA|rw[ew hA w0]|rw[ew hA w1]|rw[ew hA w2]|rw[ew hA w3]|rw[ew hA w4]|rw[ew hA w5]|rw[esu hA d0]|rw[esu hA d1]|rw[esu hA d2]|rw[esu hA d3]|rw[emu hA c0]|rw[emu hA c1]|rw[emu hA c2]|rw[equ hA k0]|rw[equ hA k1]|rw[equ hA k2]|rw[equ hA k3]|rw[ere hA i0]|rw[ere hA i1]|rw[ere hA i2]|rw[ere hA i3]|rw[ewp hA u0]|rw[ewp hA u1]|rw[ewp hA u2]|rw[ewp hA u3]|rw[ewp hA u4]|rw[ewp hA u5]|rw[eb hA b0]|rw[eb hA b1]|rw[eb hA b2]|rw[eb hA b3]|rw[eb hA b4]|rw[eb hA b5]|rw[eb hA b6]|rw[eb hA b7]|rw[eb hA b8]|rw[eb hA b9]|rw[el hA l0]|rw[el hA l1]|rw[el hA l2]|rw[el hA l3]|rw[el hA l4]|rw[el hA l5]|rw[em hA m0]|rw[em hA m1]|rw[em hA m2]|rw[em hA m3]|rw[em hA m4]|rw[em hA m5]|rw[en hA n0]|rw[en hA n1]|rw[en hA n2]|rw[eg hA g0]|rw[eg hA g1]|rw[eg hA g2]|rw[eg hA g3]|rw[eg hA g4]|rw[ebi hA v0]|rw[ebi hA v1]|rw[ebi hA v2]|rw[ebi hA v3]|rw[ebi hA v4]|rw[ebi hA v5]|rw[esb hA y0]|rw[esb hA y1]|rw[esb hA y2]|rw[es hA x0]|rw[es hA x1]|rw[es hA x2]|rw[esl hA]|rw[ebr hA]|rw[esr hA]|rw[ea hA]|refine b7A hA (by decide) ?_|refine B8 hA [0] p0 ?_|refine B8 hA [0] p1 ?_|refine B8 hA [0] p2 ?_|refine B8 hA [0] p3 ?_|refine B8 hA [0] p4 ?_|refine j8 hA _ h0 rfl ?_|refine l9 hA _ h0 ?_|refine j8 hA _ h1 rfl ?_|refine l9 hA _ h1 ?_|refine j8 hA _ h2 rfl ?_|refine l9 hA _ h2 ?_|refine j8 hA _ h3 rfl ?_|refine l9 hA _ h3 ?_|refine j8 hA _ h4 rfl ?_|refine l9 hA _ h4 ?_|refine j8 hA _ h5 rfl ?_|refine l9 hA _ h5 ?_|refine j8 hA _ h6 rfl ?_|refine l9 hA _ h6 ?_|refine j8 hA _ h7 rfl ?_|refine l9 hA _ h7 ?_|refine E2 hA true ?_|refine a3c hA true ?_|(refine F3 hA (by first|(simp only[d3O,d3Y];omega)|omega) ?_));cbv))
  all_goals try first|exact n7 hA [0] ⟨rfl,rfl,rfl,rfl,rfl,rfl,rfl,rfl⟩ ⟨rfl,rfl⟩|(refine⟨_,hi,hm,?_⟩;cbv)):p:=h
theorem wk2 {f:Nat} {fn:Func} {c:Code} {rs q:List R} (hf:Tryz.prog.funcs[f]?=some fn) (hb:fn.body=some c) (hn:(fn.name != "runtime.NumGoroutine")=true:=by kernel_rfl) (hc:y6 Tryz.prog c=true:=by kernel_rfl) (hr:T3 fn.results.toList=true:=by kernel_rfl)
  (h:∀qa qb qc qd qe qg qh qi qj qk ql qm qo qp qq qt qu qv qw qx qy qz va vc vd ve vf vg vh vj vk vl vm vn vo vq vr vt vu vv vw vx vy,Ar.mk qa qb qc qd qe qg qh qi qj qk ql qm qo qp qq qt qu qv qw qx qy qz va vc vd ve vf vg vh vj vk vl vm vn vo vq vr vt vu vv vw vx vy=j5->E9 (Ar.mk qa qb qc qd qe qg qh qi qj qk ql qm qo qp qq qt qu qv qw qx qy qz va vc vd ve vf vg vh vj vk vl vm vn vo vq vr vt vu vv vw vx vy) c (a45 rs (fn.ntmps - G7 rs)) (λx s=>c1N (Ar.mk qa qb qc qd qe qg qh qi qj qk ql qm qo qp qq qt qu qv qw qx qy qz va vc vd ve vf vg vh vj vk vl vm vn vo vq vr vt vu vv vw vx vy) fn.results.toList q x s):=by
  intro _ _ _ _ _ _ _ _ _ _ _ _ _ _ _ _ _ _ _ _ _ _ _ _ _ _ _ _ _ _ _ _ _ _ _ _ _ _ _ _ _ vx _ hA
  exact d2H):o8 f rs q:=a6A hf hb hn hc hr h
end
end Go.Proofs.YtdjnoafijjepcaaGreat.Vm
end
section
namespace Go.Proofs.YtdjnoafijjepcaaGreat
open Go.RowKit
set_option maxRecDepth 100000
set_option maxHeartbeats 4000000
def Byt (l:List Int):Prop:=∀x∈l,0<=x/\x<=255
theorem Z8 {l:List Int} (h:Byt l) (i:Nat):0<=gb l i/\gb l i<=255:=by
 unfold gb;rw[d3W];cases e:l[i]? with
 | none=>simp
 | some x=>exact h x (d3U e)
theorem a32 {l:List Int} (h:Byt l) (a:Nat):Byt (l.drop a):=λx hx=>h x (d50 hx)
def Y0 (c:Int):Int:=if c<128 then 1 else if 192<=c/\c<224 then 2 else if 224<=c/\c<240 then 3 else if 240<=c/\c<248 then 4 else 0
theorem b7N (c:Int):0<=Y0 c/\Y0 c<=4:=by unfold Y0;repeat' split <;> omega
def isB (r:Int):Bool:=decide (0<=r) && (decide (r<=1114111) && (decide (r<55296) || decide (57343<r)))
theorem a2K (r:Int):isB r=true↔0<=r/\r<=1114111/\(r<55296\/57343<r):=by unfold isB;simp only[d3N,d41,d5q]
def a33 (r:Int):Int:=if r<128 then 1 else if r<2048 then 2 else if r<65536 then 3 else 4
def Z9 (n c:Int):Int:=if n=1 then c else if n=2 then c % 32 else if n=3 then c % 16 else c % 8
def N7 (l:List Int) (m:Int):Nat->Int
 | 0=>m
 | k+1=>N7 l m k * 64+gb l (k+1) % 64
def a0a (l:List Int):Nat->Bool
 | 0=>true
 | k+1=>a0a l k && decide (gb l (k+1) / 64=2)
def a0b (l:List Int):Int×Int :=
 if Y0 (gb l 0)=0\/(l.length:Int)<Y0 (gb l 0) then (0,0) else
 if a0a l ((Y0 (gb l 0)).toNat - 1)=true/\isB (N7 l (Z9 (Y0 (gb l 0)) (gb l 0)) ((Y0 (gb l 0)).toNat - 1))=true/\a33 (N7 l (Z9 (Y0 (gb l 0)) (gb l 0)) ((Y0 (gb l 0)).toNat - 1))=Y0 (gb l 0)
 then (N7 l (Z9 (Y0 (gb l 0)) (gb l 0)) ((Y0 (gb l 0)).toNat - 1),Y0 (gb l 0)) else (0,0)

def c2a (n:Nat):Int:=if n=2 then 192 else if n=3 then 224 else if n=4 then 240 else 0
def b9u (l:List Int) (m:Int):Nat->Int
 | 0=>m
 | k+1=>64 * b9u l m k+gb l (k+1) - 128
def a7C (l:List Int) (n:Nat):Int:=b9u l (gb l 0 - c2a n) (n - 1)
theorem c79 {l:List Int} (h:1<=l.length):l.take 1=[gb l 0]:=by
 match l,h with
 | a::_,_=>rfl
theorem c7A {l:List Int} (h:2<=l.length):l.take 2=[gb l 0,gb l 1]:=by
 match l,h with
 | a::b::_,_=>rfl
theorem b1O {l:List Int}:a0b l=(0,0)\/(1<=(a0b l).2/\(a0b l).2<=4/\(a0b l).2<=l.length):=by
 unfold a0b;have h:=b7N (gb l 0)
 split
 ·exact .inl rfl
 ·rename_i h0
  split
  ·right;simp only;omega
  ·exact .inl rfl

def V (l:List Int):Nat->Prop
 | 1=>gb l 0<128
 | 2=>192<=gb l 0/\gb l 0<224/\128<=gb l 1/\gb l 1<192/\128<=(gb l 0 - 192) * 64+(gb l 1 - 128)
 | 3=>224<=gb l 0/\gb l 0<240/\128<=gb l 1/\gb l 1<192/\128<=gb l 2/\gb l 2<192/\2048<=(gb l 0 - 224) * 4096+(gb l 1 - 128) * 64+(gb l 2 - 128) /\
   ((gb l 0 - 224) * 4096+(gb l 1 - 128) * 64+(gb l 2 - 128)<55296\/57343<(gb l 0 - 224) * 4096+(gb l 1 - 128) * 64+(gb l 2 - 128))
 | 4=>240<=gb l 0/\gb l 0<248/\128<=gb l 1/\gb l 1<192/\128<=gb l 2/\gb l 2<192/\128<=gb l 3/\gb l 3<192 /\
   65536<=(gb l 0 - 240) * 262144+(gb l 1 - 128) * 4096+(gb l 2 - 128) * 64+(gb l 3 - 128)/\(gb l 0 - 240) * 262144+(gb l 1 - 128) * 4096+(gb l 2 - 128) * 64+(gb l 3 - 128)<=1114111
 | _=>False
theorem c2b (l:List Int):a7C l 1=gb l 0:=by simp[a7C,b9u,c2a]
theorem c2c (l:List Int):a7C l 2=(gb l 0 - 192) * 64+(gb l 1 - 128):=by simp[a7C,b9u,c2a];omega
theorem c2d (l:List Int):a7C l 3=(gb l 0 - 224) * 4096+(gb l 1 - 128) * 64+(gb l 2 - 128):=by simp[a7C,b9u,c2a];omega
theorem c2e (l:List Int):a7C l 4=(gb l 0 - 240) * 262144+(gb l 1 - 128) * 4096+(gb l 2 - 128) * 64+(gb l 3 - 128):=by simp[a7C,b9u,c2a];omega
def a0M (l:List Int) (n:Nat):Int:=N7 l (Z9 n (gb l 0)) (n - 1)
theorem a0p {l:List Int} {n:Nat} (h:Y0 (gb l 0)=n) (h0:n≠0) :
  a0b l=if n<=l.length/\a0a l (n - 1)=true/\isB (a0M l n)=true/\a33 (a0M l n)=n then (a0M l n,(n:Int)) else (0,0):=by
 unfold a0b a0M;rw[h];simp only[d4j]
 by_cases hl:n<=l.length
 ·rw[d3G (by omega)];simp only[hl,true_and]
 ·rw[d3I (by omega),d3G (λhh=>hl hh.1)]
theorem b9v {l:List Int} (h:Y0 (gb l 0)=0):a0b l=(0,0):=by unfold a0b;rw[d3I (.inl h)]
theorem a8M {r:Int}:(a33 r=1↔r<128)/\(a33 r=2↔¬r<128/\r<2048)/\(a33 r=3↔¬r<2048/\r<65536)/\(a33 r=4↔¬r<65536):=by
 unfold a33
 by_cases a:r<128
 ·simp[a];omega
 by_cases b:r<2048
 ·simp[a,b];omega
 by_cases c:r<65536 <;> simp[a,b,c] <;> omega
theorem b2W {l:List Int} (hb:Byt l) (n:Nat) (hn:n<=l.length) (hv:V l n):a0b l=(a7C l n,(n:Int)):=by
 have b0:=Z8 hb 0;have b1:=Z8 hb 1;have b2:=Z8 hb 2;have b3:=Z8 hb 3;have sz:=@a8M (a0M l n)
 match n,hn,hv with
 | 1,hn,hv =>
  simp only[V] at hv;have hl:Y0 (gb l 0)=(1:Nat):=by unfold Y0;rw[d3I hv];rfl
  have e:a0M l 1=a7C l 1:=by rw[c2b];simp[a0M,N7,Z9]
  rw[a0p hl (by omega),e];rw[e] at sz;rw[d3I ⟨hn,rfl,by rw[a2K,c2b];omega,by rw[show ((1:Nat):Int)=1 from rfl,sz.1,c2b];exact hv⟩]
 | 2,hn,hv =>
  simp only[V] at hv;have hl:Y0 (gb l 0)=(2:Nat):=by unfold Y0;rw[d3G (by omega),d3I (by omega)];rfl
  have e:a0M l 2=a7C l 2:=by rw[c2c];simp[a0M,N7,Z9];omega
  have c:a0a l 1=true:=by simp[a0a];omega
  rw[a0p hl (by omega),e];rw[e] at sz;rw[d3I ⟨hn,c,by rw[a2K,c2c];omega,by rw[show ((2:Nat):Int)=2 from rfl,sz.2.1,c2c];omega⟩]
 | 3,hn,hv =>
  simp only[V] at hv;have hl:Y0 (gb l 0)=(3:Nat):=by unfold Y0;rw[d3G (by omega),d3G (by omega),d3I (by omega)];rfl
  have e:a0M l 3=a7C l 3:=by rw[c2d];simp[a0M,N7,Z9];omega
  have c:a0a l 2=true:=by simp[a0a];omega
  rw[a0p hl (by omega),e];rw[e] at sz;rw[d3I ⟨hn,c,by rw[a2K,c2d];omega,by rw[show ((3:Nat):Int)=3 from rfl,sz.2.2.1,c2d];omega⟩]
 | 4,hn,hv =>
  simp only[V] at hv;have hl:Y0 (gb l 0)=(4:Nat):=by unfold Y0;rw[d3G (by omega),d3G (by omega),d3G (by omega),d3I (by omega)];rfl
  have e:a0M l 4=a7C l 4:=by rw[c2e];simp[a0M,N7,Z9];omega
  have c:a0a l 3=true:=by simp[a0a];omega
  rw[a0p hl (by omega),e];rw[e] at sz;rw[d3I ⟨hn,c,by rw[a2K,c2e];omega,by rw[show ((4:Nat):Int)=4 from rfl,sz.2.2.2,c2e];omega⟩]
theorem c2f {l:List Int} (hb:Byt l):a0b l=(0,0)\/∃n:Nat,n<=l.length/\1<=n/\n<=4/\V l n:=by
 have b0:=Z8 hb 0;have b1:=Z8 hb 1;have b2:=Z8 hb 2;have b3:=Z8 hb 3
 have hk:Y0 (gb l 0)=0\/(Y0 (gb l 0)=(1:Nat)/\gb l 0<128)\/(Y0 (gb l 0)=(2:Nat)/\192<=gb l 0/\gb l 0<224)\/(Y0 (gb l 0)=(3:Nat)/\224<=gb l 0/\gb l 0<240)\/(Y0 (gb l 0)=(4:Nat)/\240<=gb l 0/\gb l 0<248):=by
  unfold Y0
  repeat' split
  all_goals simp
  all_goals omega
 rcases hk with h|⟨h,k⟩|⟨h,k⟩|⟨h,k⟩|⟨h,k⟩
 ·exact .inl (b9v h)
 ·rw[a0p h (by omega)]
  split
  ·rename_i g;right;exact⟨1,g.1,by omega,by omega,k⟩
  ·exact .inl rfl
 ·have sz:=@a8M (a0M l 2);rw[a0p h (by omega)]
  split
  ·rename_i g;right;obtain⟨g1,g2,g3,g4⟩:=g;rw[a2K] at g3;rw[show ((2:Nat):Int)=2 from rfl,sz.2.1] at g4
   simp[a0a] at g2
   simp[a0M,N7,Z9] at g3 g4
   exact⟨2,g1,by omega,by omega,by simp only[V];omega⟩
  ·exact .inl rfl
 ·have sz:=@a8M (a0M l 3);rw[a0p h (by omega)]
  split
  ·rename_i g;right;obtain⟨g1,g2,g3,g4⟩:=g;rw[a2K] at g3;rw[show ((3:Nat):Int)=3 from rfl,sz.2.2.1] at g4
   simp[a0a] at g2
   simp[a0M,N7,Z9] at g3 g4
   exact⟨3,g1,by omega,by omega,by simp only[V];omega⟩
  ·exact .inl rfl
 ·have sz:=@a8M (a0M l 4);rw[a0p h (by omega)]
  split
  ·rename_i g;right;obtain⟨g1,g2,g3,g4⟩:=g;rw[a2K] at g3;rw[show ((4:Nat):Int)=4 from rfl,sz.2.2.2] at g4
   simp[a0a] at g2
   simp[a0M,N7,Z9] at g3 g4
   exact⟨4,g1,by omega,by omega,by simp only[V];omega⟩
  ·exact .inl rfl
def nx (l:List Int) (a:Nat):Nat:=(a0b (l.drop a)).2.toNat
def rn (l:List Int) (a:Nat):Int:=(a0b (l.drop a)).1
theorem b7O (l:List Int) (a:Nat):(a0b (l.drop a)).2=(nx l a:Int):=by
 unfold nx;have:=b1O (l:=l.drop a)
 rcases this with h|h
 ·rw[h];rfl
 ·omega
theorem c2g {l:List Int} {a:Nat} (h:nx l a≠0):1<=nx l a/\nx l a<=4/\(a<l.length->a+nx l a<=l.length):=by
 have h1:=b1O (l:=l.drop a);have h2:=b7O l a;rw[d4l] at h1
 rcases h1 with h1|h1
 ·rw[h1] at h2;simp at h2;omega
 ·omega
theorem c5r (l:List Int) (a:Nat):a0b (l.drop a)=(rn l a,(nx l a:Int)):=by
 rw[<-b7O];rfl
end Go.Proofs.YtdjnoafijjepcaaGreat
end
section
namespace Go.Proofs.YtdjnoafijjepcaaGreat.Vm
open Go.RowKit
set_option maxRecDepth 100000
set_option maxHeartbeats 4000000
def Z4 (l:List Int):List (List D):=l.map λc=>[.sc (.int .u8 c)]
theorem a0Y (l:List Int):(Z4 l).length=l.length:=by unfold Z4;rw[d4g]
theorem a3R {l:List Int} {k:Nat} (h:k<l.length):j5.get (Z4 l) (k:Int)=some [.sc (.int .u8 (gb l k))]:=by
 show (if (0:Int)<=(k:Int) then (Z4 l)[((k:Int)).toNat]? else none)=_;rw[d3I (by omega),show ((k:Int)).toNat=k by omega];unfold Z4 gb;rw[d4p,d3H h,d3W,d3H h];rfl
theorem a3S {l:List Int} {a b:Nat} (h:a<=b) (hb:b<=l.length):j5.sub2 (Z4 l) (a:Int) (b:Int)=some (Z4 ((l.drop a).take (b - a))):=by
 show (if 0<=(a:Int)/\(a:Int)<=(b:Int)/\(b:Int)<=((Z4 l).length:Int) then some (((Z4 l).drop ((a:Int)).toNat).take (((b:Int)).toNat - ((a:Int)).toNat)) else none)=_;rw[d3I ⟨by omega,by omega,by rw[a0Y];omega⟩];unfold Z4;rw[List.map_take,List.map_drop];rfl
abbrev b1N (f:Nat) (k:IntKind) (x:Int) (r:D):Prop:=o8 f [.one (.sc (.int k x))] [.one r]
theorem d0W {r:Int} {c0 c1 c2 c3:Bool} (m0:decide (0<=r)=c0) (l0:decide (r<55296)=c1) (l1:decide (57343<r)=c2) (m1:decide (r<=1114111)=c3):b1N 88 .i32 r (.sc (.bool (c0 && c3 && (c1 || c2)))):=by
 cases c0 <;> cases c1 <;> cases c2 <;> cases c3 <;> exact wk2 Tryz.func88 rfl
theorem d0X (r:Int):b1N 88 .i32 r (.sc (.bool (isB r))):=by
 have h:=d0W (r:=r) rfl rfl rfl rfl
 have e:(decide (0<=r) && decide (r<=1114111) && (decide (r<55296) || decide (57343<r)))=isB r:=by
  rw[d5r,a2K];simp only[d41,d3N,d5q];omega
 rw[e] at h;exact h
theorem c88 (r:Int):b1N 89 .i32 r (.sc (.int .i64 (a33 r))):=by
 unfold a33
 by_cases h1:r<128
 ·rw[d3I h1];have l0:=d3S h1;exact wk2 Tryz.func89 rfl
 rw[d3G h1];have l0:=d3P h1
 by_cases h2:r<2048
 ·rw[d3I h2];have l1:=d3S h2;exact wk2 Tryz.func89 rfl
 rw[d3G h2];have l1:=d3P h2
 by_cases h3:r<65536
 ·rw[d3I h3];have l2:=d3S h3;exact wk2 Tryz.func89 rfl
 rw[d3G h3];have l2:=d3P h3;exact wk2 Tryz.func89 rfl
theorem b4x (c:Int) (n:Nat) (hn:n<=8):Z1 .shr .u8 c .u64 (n:Int)=some (c / 2 ^ n):=by
 show some (c.fdiv (2 ^ (min n 8)))=_;rw[d5Q hn,Int.fdiv_eq_ediv_of_nonneg _ (Int.le_of_lt (Int.pow_pos (by decide)))]
theorem c7B {c:Int} (hc:0<=c/\c<=255):b1N 87 .u8 c (.sc (.int .i64 (Y0 c))):=by
 have v0:Z1 .shr .u8 c .u64 7=some (c / 128):=b4x c 7 (by decide);have v1:Z1 .shr .u8 c .u64 5=some (c / 32):=b4x c 5 (by decide);have v2:Z1 .shr .u8 c .u64 4=some (c / 16):=b4x c 4 (by decide);have v3:Z1 .shr .u8 c .u64 3=some (c / 8):=b4x c 3 (by decide);have hb:∀ {x y:Int},x=y->(x == y)=true:=λh=>by rw[h];exact d4G _
 obtain⟨z0,e0⟩:∃z,z=c / 128:=⟨_,rfl⟩;obtain⟨z1,e1⟩:∃z,z=c / 32:=⟨_,rfl⟩;obtain⟨z2,e2⟩:∃z,z=c / 16:=⟨_,rfl⟩;obtain⟨z3,e3⟩:∃z,z=c / 8:=⟨_,rfl⟩;rw[<-e0] at v0;rw[<-e1] at v1;rw[<-e2] at v2;rw[<-e3] at v3;unfold Y0
 by_cases h1:c<128
 ·rw[d3I h1];have b0:=hb (show z0=0 by omega);exact wk2 Tryz.func87 rfl
 rw[d3G h1];have b0:=d3T (show z0≠0 by omega)
 by_cases h2:192<=c/\c<224
 ·rw[d3I h2];have b1:=hb (show z1=6 by omega);exact wk2 Tryz.func87 rfl
 rw[d3G h2];have b1:=d3T (show z1≠6 by omega)
 by_cases h3:224<=c/\c<240
 ·rw[d3I h3];have b2:=hb (show z2=14 by omega);exact wk2 Tryz.func87 rfl
 rw[d3G h3];have b2:=d3T (show z2≠14 by omega)
 by_cases h4:240<=c/\c<248
 ·rw[d3I h4];have b3:=hb (show z3=30 by omega);exact wk2 Tryz.func87 rfl
 rw[d3G h4];have b3:=d3T (show z3≠30 by omega);exact wk2 Tryz.func87 rfl
theorem a6E {k:IntKind} {n j:Nat} (hk:k.bits=n) (hj:j<=n) {x:Int} (hx:0<=x) (hx2:x<2 ^ n) (hw:∀y:Int,0<=y->y<=x->k.wrap y=y) (hq:keq k k=true):Z1 .and k x k (2 ^ j - 1)=some (x % 2 ^ j):=by
 obtain⟨a,rfl⟩:∃a:Nat,x=(a:Int):=⟨x.toNat,by omega⟩;unfold Z1;simp only[hq]
 have e:(BitVec.ofInt k.bits ((a:Nat):Int) &&& BitVec.ofInt k.bits (2 ^ j - 1)).toNat=a % 2 ^ j:=by
  rw[hk,BitVec.toNat_and,show ((2:Int) ^ j - 1)=((2 ^ j - 1:Nat):Int) by rw[Int.natCast_sub (Nat.one_le_two_pow)];push_cast;rfl,d5H,d5H,d5S,d5S];have h2:a<2 ^ n:=by exact_mod_cast hx2
  have h3:2 ^ j - 1<2 ^ n:=d4M (Nat.sub_lt (Nat.two_pow_pos j) (by decide)) (Nat.pow_le_pow_right (by decide) hj);rw[d6k h2,d6k h3,Nat.and_two_pow_sub_one_eq_mod]
 rw[e];have e2:((a % 2 ^ j:Nat):Int)=(a:Int) % 2 ^ j:=by push_cast;rfl
 rw[<-e2,hw _ (by omega) (by exact_mod_cast Nat.mod_le a _)]
theorem c5s {x d:Int} (hx:0<=x) (hx2:x<=33554431) (hd:0<=d/\d<64):Z1 .or .i32 (x * 64) .i32 d=some (x * 64+d):=by
 obtain⟨a,rfl⟩:∃a:Nat,x=(a:Int):=⟨x.toNat,by omega⟩;obtain⟨b,rfl⟩:∃b:Nat,d=(b:Int):=⟨d.toNat,by omega⟩;unfold Z1;simp only[show keq IntKind.i32 IntKind.i32=true from rfl]
 have e:(BitVec.ofInt IntKind.i32.bits ((a:Nat) * 64:Int) ||| BitVec.ofInt IntKind.i32.bits ((b:Nat):Int)).toNat=64 * a+b:=by
  rw[show ((a:Nat) * 64:Int)=((64 * a:Nat):Int) by push_cast;omega,BitVec.toNat_or,d5H,d5H,d5S,d5S,show IntKind.i32.bits=32 from rfl];rw[d6k (by omega),d6k (by omega)];have:=Nat.two_pow_add_eq_or_of_lt (i:=6) (b:=b) (by omega) a
  simpa using this.symm
 rw[e,IntWalk.i32_in _ (by omega)]
 push_cast
 congr 1
 omega
theorem c2h {x:Int} (hx:0<=x/\x<=33554431):Z1 .shl .i32 x .u64 6=some (x * 64):=by
 show some (IntKind.i32.wrap (x * 2 ^ (min 6 32)))=_;rw[show (2:Int) ^ (min 6 32)=64 from rfl,IntWalk.i32_in _ (by omega)]
theorem c89 {l:List Int} (hb:Byt l) {m:Int} (hm:0<=m/\m<=127):∀k:Nat,k<=3->0<=N7 l m k/\N7 l m k<=33554431
 | 0,_=>by rw[N7];omega
 | 1,_=>by rw[N7,N7];have:=Z8 hb 1;omega
 | 2,_=>by rw[N7,N7,N7];have:=Z8 hb 1;have:=Z8 hb 2;omega
 | 3,_=>by rw[N7,N7,N7,N7];have:=Z8 hb 1;have:=Z8 hb 2;have:=Z8 hb 3;omega
 | k+4,h=>by omega
theorem d2I {l:List Int} (hb:Byt l) {m:Int} (hm:0<=m/\m<=127):∀k:Nat,k<=2->N7 l m k<=524287
 | 0,_=>by rw[N7];omega
 | 1,_=>by rw[N7,N7];have:=Z8 hb 1;omega
 | 2,_=>by rw[N7,N7,N7];have:=Z8 hb 1;have:=Z8 hb 2;omega
 | k+3,h=>by omega
theorem b7P {l:List Int} {k:Nat} (h:a0a l k=false):∀j,a0a l (k+j)=false
 | 0=>h
 | j+1=>by show (a0a l (k+j) && _)=false;rw[b7P h j];rfl
def d0Y (l:List Int) (m:Int) (e:Nat) (x:Int×Int):Prop:=∃k:Nat,x.1=(k:Int)/\k<=e/\x.2=N7 l m k/\a0a l k=true
theorem c8A {l:List Int} (hb:Byt l) {n:Nat} (hn1:1<=n) (hn4:n<=4) (hln:n<=l.length) (hl:l.length<=1048576) (hz:Y0 (gb l 0)=n):o8 74 [.one (.sl 1 (Z4 l))] [.one (.sc (.int .i32 (a0b l).1)),.one (.sc (.int .i64 (a0b l).2))]:=by
 have hc:=Z8 hb 0;have h0:=c7B hc;rw[hz] at h0;rw[a0p hz (by omega)];unfold a0M
 have hm:0<=Z9 n (gb l 0)/\Z9 n (gb l 0)<=127:=by
  unfold Z9;unfold Y0 at hz
  split at hz <;> repeat' split
  all_goals omega
 have hmask:(n=1/\Z9 n (gb l 0)=gb l 0)\/(1<n/\∃s p q:Int,IntKind.i64.wrap (7 - (n:Int))=s/\Z1 .shl .i32 1 .i64 s=some p/\IntKind.i32.wrap (p - 1)=q/\Z1 .and .i32 (gb l 0) .i32 q=some (Z9 n (gb l 0))):=by
  have hw:∀y:Int,0<=y->y<=gb l 0->IntKind.i32.wrap y=y:=λy h1 h2=>IntWalk.i32_in _ (by omega)
  rcases (show n=1\/n=2\/n=3\/n=4 by omega) with rfl|rfl|rfl|rfl
  ·exact .inl ⟨rfl,rfl⟩
  ·exact .inr ⟨by decide,5,32,31,by rw[IntWalk.i64_in _ (by omega)];rfl,rfl,by rw[IntWalk.i32_in _ (by omega)];rfl,a6E (k:=.i32) (n:=32) (j:=5) rfl (by decide) hc.1 (by omega) hw rfl⟩
  ·exact .inr ⟨by decide,4,16,15,by rw[IntWalk.i64_in _ (by omega)];rfl,rfl,by rw[IntWalk.i32_in _ (by omega)];rfl,a6E (k:=.i32) (n:=32) (j:=4) rfl (by decide) hc.1 (by omega) hw rfl⟩
  ·exact .inr ⟨by decide,3,8,7,by rw[IntWalk.i64_in _ (by omega)];rfl,rfl,by rw[IntWalk.i32_in _ (by omega)];rfl,a6E (k:=.i32) (n:=32) (j:=3) rfl (by decide) hc.1 (by omega) hw rfl⟩
 have g0:j5.get (Z4 l) 0=some [.sc (.int .u8 (gb l 0))]:=a3R (l:=l) (k:=0) (by omega);have y0:j5.sub2 (Z4 l) 1 (n:Int)=some (Z4 ((l.drop 1).take (n - 1))):=a3S (a:=1) (b:=n) hn1 hln
 have hgt:∀k:Nat,k<n - 1->j5.get (Z4 ((l.drop 1).take (n - 1))) (k:Int)=some [.sc (.int .u8 (gb l (k+1)))]:=λk hk=>by
  rw[a3R (by rw[d4n,d4l];omega)];unfold gb;rw[d3W,d4y,d3I hk,d4r,d3W,d5Z]
 have hln2:((Z4 ((l.drop 1).take (n - 1))).length:Int)=((n - 1:Nat):Int):=by rw[a0Y,d4n,d4l];omega
 have u0:IntKind.i32.wrap (gb l 0)=gb l 0:=IntWalk.i32_in _ (by omega);have hbd:=c89 hb hm;have hbd2:=d2I hb hm;have hN:((Z4 l).length:Int)=(l.length:Int):=by rw[a0Y]
 have hgk:∀k,0<=gb l k/\gb l k<=255:=Z8 hb;obtain⟨M,hM⟩:∃M,M=Z9 n (gb l 0):=⟨_,rfl⟩;rw[<-hM] at hbd hbd2 hmask ⊢;obtain⟨z,hzz⟩:∃z:Int,z=(n:Int):=⟨_,rfl⟩;rw[<-hzz] at h0 y0 hmask;obtain⟨e,he⟩:∃e,e=n - 1:=⟨_,rfl⟩;rw[<-he] at hln2 hgt y0 ⊢;obtain⟨P,hP⟩:∃P:Int×Int,P=if n<=l.length/\a0a l e=true/\isB (N7 l M e)=true/\a33 (N7 l M e)=n then (N7 l M e,(n:Int)) else (0,0):=⟨_,rfl⟩
 rw[<-hP];have hPn:¬(a0a l e=true/\isB (N7 l M e)=true/\a33 (N7 l M e)=n)->P=(0,0):=λh=>by rw[hP,d3G (λhh=>h hh.2)]
 have hPy:a0a l e=true->isB (N7 l M e)=true->a33 (N7 l M e)=n->P=(N7 l M e,z):=λh1 h2 h3=>by rw[hP,d3I ⟨hln,h1,h2,h3⟩,hzz]
 have b0:(z == 0)=false:=d3T (by omega);have l0:decide ((l.length:Int)<z)=false:=d3P (by omega);have hi0:∀inv,inv=d0Y l M e->inv (0,M):=λinv h=>by rw[h];exact⟨0,rfl,d4o _,rfl,rfl⟩
 obtain⟨inv,hv⟩:∃inv,inv=d0Y l M e:=⟨_,rfl⟩;replace hi0:=hi0 inv hv;generalize hE:Z4 ((l.drop 1).take e)=R2 at *;obtain⟨R1,hR1⟩:∃R1,R1=Z4 l:=⟨_,rfl⟩;rw[<-hR1] at hN g0 y0 ⊢;obtain⟨c0,hc0⟩:∃c0,c0=gb l 0:=⟨_,rfl⟩;rw[<-hc0] at g0 h0 u0 hmask;obtain⟨N,hNN⟩:∃N:Int,N=(l.length:Int):=⟨_,rfl⟩;rw[<-hNN] at hN l0;clear hP;refine Q5 Tryz.func74 rfl ?_;intro qa qb _ _ _ _ _ qi _ qk _ _ _ _ _ _ _ _ _ _ _ _ va;intros;rename_i hA;obtain⟨e1,e2,e3,e4,e5,e6,e7,e8,e9⟩:=m6 hA;obtain⟨r1,r2,r3,r4⟩:=B3 hA;have q1:=eg hA g0;have q2:=eb hA b0;have q3:qi (va R1) z=false:=by rw[en hA hN,e7];exact l0
 have q4:=ewp hA u0;have q5:=esb hA y0;have hlz:va R2=(e:Int):=en hA hln2
 rcases hmask with⟨hn,hMc⟩|⟨hn,s,p,q,d0,v0,d1,v1⟩
 case' inl =>
  have q6:qi 1 z=false:=el hA (d3P (by omega));subst hMc
  iterate 2 (try cbv;repeat ((first|with_reducible apply j6 hA|rw[q1]|rw[q2]|rw[q3]|rw[q4]|rw[q5]|rw[q6]|refine j8 hA _ h0 rfl ?_|refine l9 hA _ h0 ?_);cbv))
 case' inr =>
  have q6:qi 1 z=true:=el hA (d3S (by omega));have q7:=esu hA d0;have q8:=ebi hA v0;have q9:=esu hA d1;have q10:=ebi hA v1
  iterate 2 (try cbv;repeat ((first|with_reducible apply j6 hA|rw[q1]|rw[q2]|rw[q3]|rw[q4]|rw[q5]|rw[q6]|rw[q7]|rw[q8]|rw[q9]|rw[q10]|refine j8 hA _ h0 rfl ?_|refine l9 hA _ h0 ?_);cbv))
 all_goals
  refine n9 hA (γ:=Int×Int) (λx=>[(36,vi .i64 x.1),(5,vi .i32 x.2),(7,.jk)]) (λx=>[]) inv (λx=>e - x.1.toNat) (0,M) hi0 ?_ ?_
  ·cbv
  ·intro x hinv;obtain⟨i,r⟩:=x;cbv;refine gn ?_;try simp only[nc] at *
   rw[hv] at hinv;obtain⟨k,hi,hk,hr,hct⟩:=hinv;replace hi:i=(k:Int):=hi;replace hr:r=N7 l M k:=hr
   by_cases h9:k<e
   ·have l1:decide (i<(e:Int))=true:=d3S (by omega);have t0:qi i (va R2)=true:=by rw[hlz];exact el hA l1
    have g1:=hgt k h9;rw[<-hi] at g1;have hck:=hgk (k+1);have hac:N7 l M (k+1)=N7 l M k * 64+gb l (k+1) % 64:=by rw[N7]
    have hcs:a0a l (k+1)=(a0a l k && decide (gb l (k+1) / 64=2)):=by rw[a0a]
    have v2:Z1 .shr .u8 (gb l (k+1)) .u64 6=some (gb l (k+1) / 64):=b4x _ 6 (by decide);obtain⟨c1,hc1⟩:∃c1,c1=gb l (k+1):=⟨_,rfl⟩;rw[<-hc1] at g1 hck hac hcs v2;obtain⟨f,hf⟩:∃f,f=c1 / 64:=⟨_,rfl⟩;rw[<-hf] at v2 hcs;have t1:=eg hA g1;have t2:=ebi hA v2
    by_cases h2:f=2
    ·have b2:(f == 2)=true:=by rw[h2];rfl
     have t3:=eb hA b2;have v3:Z1 .shl .i32 r .u64 6=some (r * 64):=c2h (by rw[hr];exact hbd k (by omega));have v4:Z1 .and .u8 c1 .u8 63=some (c1 % 64):=a6E (k:=.u8) (n:=8) (j:=6) rfl (by decide) hck.1 (by omega) (λy h1 h2=>IntWalk.u8_in _ (by omega)) rfl;have v5:Z1 .or .i32 (r * 64) .i32 (c1 % 64)=some (r * 64+c1 % 64):=c5s (by rw[hr];exact(hbd k (by omega)).1) (by rw[hr];exact(hbd k (by omega)).2) (by omega);have u1:IntKind.i32.wrap (c1 % 64)=c1 % 64:=IntWalk.i32_in _ (by omega);have hn1:r * 64+c1 % 64=N7 l M (k+1):=by rw[hac,hr]
     have hct1:a0a l (k+1)=true:=by rw[hcs,hct,h2];rfl
     obtain⟨s1,hs1⟩:∃s1,s1=r * 64:=⟨_,rfl⟩;obtain⟨s2,hs2⟩:∃s2,s2=c1 % 64:=⟨_,rfl⟩;obtain⟨s3,hs3⟩:∃s3,s3=r * 64+c1 % 64:=⟨_,rfl⟩;rw[<-hs3] at v5 hn1;rw[<-hs1] at v3 v5;rw[<-hs2] at v4 v5 u1;have t4:=ebi hA v3;have t5:=ebi hA v4;have t6:=ebi hA v5;have t7:=ewp hA u1;have hz1:qa .i64 (qb i 1)=((k+1:Nat):Int):=ew hA (by rw[IntWalk.i64_in _ (by omega)];omega);have hi':inv (qa .i64 (qb i 1),s3):=by rw[hv];exact⟨k+1,hz1,h9,hn1,hct1⟩
     have hm':e - (qa .i64 (qb i 1)).toNat<e - i.toNat:=by rw[hz1,hi];omega
     rw[t0]
     try cbv;refine gr ?_;try simp only[nc] at *
     refine⟨_,hi',hm',?_⟩;cbv
    ·have b2:(f == 2)=false:=d3T h2;have t3:=eb hA b2
     have hPz:P=(0,0):=hPn λhh=>by
      have h5:=b7P (l:=l) (k:=k+1) (by rw[hcs,d3P h2,d5a]) (e - (k+1));rw[show k+1+(e - (k+1))=e by omega] at h5;rw[h5] at hh;exact absurd hh.1 (by decide)
     rw[hPz,t0]
     try cbv;exact fr
   ·have l1:decide (i<(e:Int))=false:=d3P (by omega);have t0:qi i (va R2)=false:=by rw[hlz];exact el hA l1
    have hke:k=e:=by omega
    subst hke;rw[<-hr] at hPn hPy;have h1:=d0X r;have h2:=c88 r;rw[t0];cases hB:isB r
    ·rw[hB] at h1;have hPz:P=(0,0):=hPn λhh=>by rw[hB] at hh;exact absurd hh.2.1 (by decide)
     rw[hPz]
     try cbv;exact fr
    ·rw[hB] at h1;obtain⟨y,hy⟩:∃y,y=a33 r:=⟨_,rfl⟩;rw[<-hy] at h2 hPn hPy
     by_cases h3:y=z
     ·have hPz:P=(r,z):=hPy hct hB (by omega);rw[hPz];have t3:qk y z=true:=eb hA (by rw[h3];exact d4G _)
      try cbv;exact fr
     ·have hPz:P=(0,0):=hPn λhh=>by omega
      rw[hPz];have t3:qk y z=false:=eb hA (d3T h3)
      try cbv;exact fr
section
theorem c8B {l:List Int} (hb:Byt l) (h1:1<=l.length) (hl:l.length<=1048576):o8 74 [.one (.sl 1 (Z4 l))] [.one (.sc (.int .i32 (a0b l).1)),.one (.sc (.int .i64 (a0b l).2))]:=by
 have hc:=Z8 hb 0;have h0:=c7B hc;have hz:=b7N (gb l 0);have g0:j5.get (Z4 l) 0=some [.sc (.int .u8 (gb l 0))]:=a3R (l:=l) (k:=0) (by omega);have n0:((Z4 l).length:Int)=(l.length:Int):=by rw[a0Y]
 obtain⟨n,hn⟩:∃n:Nat,Y0 (gb l 0)=n:=⟨(Y0 (gb l 0)).toNat,by omega⟩
 by_cases hn0:n=0
 ·have e:a0b l=(0,0):=by unfold a0b;rw[d3I (.inl (by omega))]
  rw[e];rw[show Y0 (gb l 0)=0 by omega] at h0;generalize gb l 0=c at *;generalize Z4 l=R at *;exact wk2 Tryz.func74 rfl
 by_cases hln:n<=l.length
 ·exact c8A hb (by omega) (by omega) hln hl hn
 ·have e:a0b l=(0,0):=by unfold a0b;rw[d3I (.inr (by omega))]
  rw[e];obtain⟨z,hzz⟩:∃z,z=Y0 (gb l 0):=⟨_,rfl⟩;obtain⟨N,hN⟩:∃N,N=(l.length:Int):=⟨_,rfl⟩;rw[<-hzz] at h0;rw[<-hN] at n0;have b0:(z == 0)=false:=d3T (by omega);have l0:decide (N<z)=true:=d3S (by omega);generalize gb l 0=c at *;generalize Z4 l=R at *;exact wk2 Tryz.func74 rfl
theorem d0Z {l:List Int} (hb:Byt l) {a:Nat} (ha:a<l.length) (hl:l.length<=1048576):o8 48 [.one (.sl 1 (Z4 l)),.one (.sc (.int .i64 (a:Int)))] [.one (.sc (.int .i32 (if nx l a=0 then 0 else rn l a))),.one (.sc (.int .i64 (nx l a:Int))),.one (.sc (.int .u8 (if nx l a=0 then 3 else 0)))]:=by
 have h0:=c8B (a32 hb a) (by rw[d4l];omega) (by rw[d4l];omega);rw[c5r l a] at h0;have n0:((Z4 l).length:Int)=(l.length:Int):=by rw[a0Y]
 have y0:j5.sub2 (Z4 l) (a:Int) (l.length:Int)=some (Z4 (l.drop a)):=by
  rw[a3S (d5K ha) (d3Q _),d4z (by rw[d4l];omega)]
 have l0:decide ((a:Int)<0)=false:=d3P (by omega);have m0:decide ((l.length:Int)<=(a:Int))=false:=d3P (by omega);generalize Z4 (l.drop a)=R2 at *;generalize Z4 l=R at *;obtain⟨N,hN⟩:∃N,N=(l.length:Int):=⟨_,rfl⟩;obtain⟨z,hz⟩:∃z,z=(a:Int):=⟨_,rfl⟩;obtain⟨n,hn⟩:∃n,n=(nx l a:Int):=⟨_,rfl⟩;rw[<-hN] at n0 y0 m0;rw[<-hz] at y0 l0 m0 ⊢;rw[<-hn] at h0 ⊢;generalize rn l a=r at *
 by_cases h:nx l a=0
 ·rw[d3I h,d3I h];have b0:(n == 0)=true:=by rw[hn,h];rfl
  have hn0:n=0:=by omega
  rw[hn0] at h0 b0 ⊢;clear hn hn0;exact wk2 Tryz.func48 rfl
 ·rw[d3G h,d3G h];have b0:(n == 0)=false:=d3T (by omega);exact wk2 Tryz.func48 rfl
section
variable {r z1 z2 z3 z4 z5 z6 z7 z8 z9 z10 z11:Int}
end
end
theorem a07 (l:List Int) (a k:Nat):gb (l.drop a) k=gb l (a+k):=by
 unfold gb;rw[d3W,d4r,d3W]
end Go.Proofs.YtdjnoafijjepcaaGreat.Vm
end
section
namespace Go.Proofs.YtdjnoafijjepcaaGreat
open Go.RowKit
set_option maxRecDepth 100000
set_option maxHeartbeats 4000000
def a0Z (c:Int):Bool:=decide (97<=c) && decide (c<=122)
def a48 (c:Int):Bool:=decide (65<=c) && decide (c<=90)
def I4 (c:Int):Bool:=decide (48<=c) && decide (c<=57)
def H2 (c:Int):Bool:=a0Z c || (a48 c || (I4 c || c == 95))
theorem b1P (c:Int):a0Z c=true↔97<=c/\c<=122:=by unfold a0Z;simp
theorem b1Q (c:Int):a48 c=true↔65<=c/\c<=90:=by unfold a48;simp
theorem a5c (c:Int):I4 c=true↔48<=c/\c<=57:=by unfold I4;simp
theorem c2i (c:Int):H2 c=true↔(97<=c/\c<=122)\/(65<=c/\c<=90)\/(48<=c/\c<=57)\/c=95:=by
 unfold H2;simp[b1P,b1Q,a5c]
theorem c5t (c:Int):H2 c=false↔¬((97<=c/\c<=122)\/(65<=c/\c<=90)\/(48<=c/\c<=57)\/c=95):=by rw[<-c2i];simp
def a6F (c:Int):Int:=if a0Z c then 1 else if a48 c then 2 else if I4 c then 3 else if c=95 then 4 else 0
def C6 (s:ByteArray):List Int:=s.data.toList.map λb=>(b.toNat:Int)
theorem a0z (s:ByteArray):(C6 s).length=s.size:=by unfold C6;rw[d4g,d4K];rfl
theorem b2X (s:ByteArray) (k:Nat) (h:k<s.size):(s[k].toNat:Int)=gb (C6 s) k:=by
 have h':k<s.data.size:=h
 have e:(C6 s)[k]?=some ((s.data[k].toNat:Nat):Int):=by
  unfold C6;rw[d4p,d4B,d4I h'];rfl
 unfold gb;rw[d3W,e];rfl
def c2j (l:List Int) (i:Nat):Bool:=a0Z (gb l i) || (decide (0<i) && (I4 (gb l i) || gb l i == 95))
def a3T (l:List Int):Bool:=decide (0<l.length) && (List.range l.length).all (c2j l)
def a00:List Int->Int->Int
 | [],n=>n
 | c::l,n=>a00 l (10 * n+(c - 48))
theorem b9w (l:List Int) (c n:Int):a00 (l++[c]) n=10 * a00 l n+(c - 48):=by
 induction l generalizing n with
 | nil=>rfl
 | cons d l ih=>simp only[d43,a00];exact ih _
def a5W (l:List Int):Prop:=∀x∈l,48<=x/\x<=57
theorem b7Q {l:List Int} (h:a5W l) {n:Int} (hn:0<=n):n<=a00 l n:=by
 induction l generalizing n with
 | nil=>exact d6v _
 | cons c l ih =>
  have hc:=h c (by simp);have:=ih (λx hx=>h x (by simp[hx])) (n:=10 * n+(c - 48)) (by omega);simp only[a00];omega
theorem b9x {l:List Int} (h:a5W l) (k:Nat):a00 (l.take k) 0<=a00 l 0:=by
 have h1:∀(a b:List Int) (n:Int),a00 (a++b) n=a00 b (a00 a n):=by
  intro a
  induction a with
  | nil=>intro b n;rfl
  | cons c a ih=>intro b n;exact ih b _
 have h2:=b7Q (λx hx=>h x (d5z hx):a5W (l.take k)) (n:=0) (by omega);have h3:=b7Q (λx hx=>h x (d50 hx):a5W (l.drop k)) (n:=a00 (l.take k) 0) h2;rw[<-h1,d46] at h3;exact h3
theorem b9y {l:List Int} {k:Nat} (hk:k<l.length):a00 (l.take (k+1)) 0=10 * a00 (l.take k) 0+(gb l k - 48):=by rw[c4Q hk,b9w]
def ten:Nat->Int
 | 0=>1
 | n+1=>10 * ten n
theorem c5u (n:Nat):0<ten n:=by induction n <;> simp[ten];omega
theorem c2k (l:List Int) (n:Int):a00 l n=n * ten l.length+a00 l 0:=by
 induction l generalizing n with
 | nil=>simp[a00,ten]
 | cons c l ih =>
  simp only[a00,d3O,ten];rw[ih (10 * n+(c - 48)),ih (10 * 0+(c - 48))]
  grind
theorem c5v {l:List Int} (h:a5W l):0<=a00 l 0/\a00 l 0<ten l.length:=by
 induction l with
 | nil=>simp[a00,ten]
 | cons c l ih =>
  have hc:=h c (by simp);have hi:=ih λx hx=>h x (by simp[hx])
  simp only[a00,d3O,ten];rw[c2k];have hp:=c5u l.length;have h1:(10 * 0+(c - 48)) * ten l.length<=9 * ten l.length:=Int.mul_le_mul_of_nonneg_right (by omega) (Int.le_of_lt hp);have h2:0<=(10 * 0+(c - 48)) * ten l.length:=Int.mul_nonneg (by omega) (Int.le_of_lt hp);omega
section
def Y3:List ByteArray:=[⟨#[102,117,110]⟩,⟨#[114,101,99]⟩,⟨#[108,101,116]⟩,⟨#[105,110]⟩,⟨#[105,102]⟩,⟨#[116,104,101,110]⟩,⟨#[101,108,115,101]⟩,⟨#[99,97,115,101]⟩,⟨#[111,102]⟩,⟨#[101,110,100]⟩,⟨#[116,114,117,101]⟩,⟨#[102,97,108,115,101]⟩,⟨#[100,101,102]⟩,⟨#[73,110,116]⟩,⟨#[66,111,111,108]⟩]
def c2l:List ByteArray:=[⟨#[61,61]⟩,⟨#[61,62]⟩,⟨#[58,61]⟩,⟨#[45,62]⟩,⟨#[40]⟩,⟨#[41]⟩,⟨#[123]⟩,⟨#[125]⟩,⟨#[60]⟩,⟨#[62]⟩,⟨#[61]⟩,⟨#[44]⟩,⟨#[58]⟩,⟨#[59]⟩,⟨#[124]⟩,⟨#[46]⟩,⟨#[92]⟩,⟨#[64]⟩,⟨#[94]⟩,⟨#[63]⟩,⟨#[43]⟩,⟨#[45]⟩,⟨#[42]⟩,⟨#[47]⟩,⟨#[37]⟩]
def a6G:List Int:=[40,41,123,125,60,62,61,44,58,59,124,46,92,64,94,63,43,45,42,47,37]
def inB (ws:List ByteArray) (s:ByteArray):Bool:=ws.any λw=>w.toList == s.toList
def a7D (s:ByteArray):Bool:=inB Y3 s
def a81 (a b:Int):Bool:=(a == 61 && b == 61) || ((a == 61 && b == 62) || ((a == 58 && b == 61) || (a == 45 && b == 62)))
def C4 (l:List Int):Nat:=if 2<=l.length/\a81 (gb l 0) (gb l 1)=true then 2 else if gb l 0∈a6G then 1 else 0
theorem b7R (l:List Int) (h:1<=l.length):C4 l<=2/\C4 l<=l.length:=by unfold C4;split;omega;split <;> omega
structure Tok where
 kind:Int
 text:ByteArray
 n:Int
 at_:Int
def a2q (l:List Int):Int×Int :=
 if (gb l 0=48/\1<l.length)\/¬(l.all I4=true) then (0,4) else if 9223372036854775807<a00 l 0 then (0,7) else (a00 l 0,0)
def L8 (s:ByteArray) (at_:Int):Tok×Int :=
 if I4 (gb (C6 s) 0)=true then (⟨2,⟨#[]⟩,(a2q (C6 s)).1,at_⟩,(a2q (C6 s)).2) else
 if a7D s=true then (⟨3,s,0,at_⟩,0) else if a3T (C6 s)=false then (⟨1,s,0,at_⟩,4) else
 if 32<(C6 s).length then (⟨1,s,0,at_⟩,7) else (⟨1,s,0,at_⟩,0)
def J9 (c:Int):Bool:=c == 32 || (c == 9 || (c == 13 || c == 10))
def G9 (l:List Int) (a:Nat):List Int:=(l.drop a).takeWhile H2
def body (rec_:Nat->Bool->List Tok->List Tok×Int×Int) (l:List Int) (a:Nat) (rem:Bool) (out:List Tok):List Tok×Int×Int :=
 if a<l.length then
  if nx l a=0 then ([],a,3)
  else if rem=true then rec_ (a+nx l a) (gb l a != 10) out
  else if J9 (gb l a)=true then rec_ (a+1) false out
  else if gb l a=35 then rec_ (a+1) true out
  else if H2 (gb l a)=true then
   if (L8 (strOfNums (G9 l a)) a).2=0 then rec_ (a+(G9 l a).length) false (out++[(L8 (strOfNums (G9 l a)) a).1]) else ([],a,(L8 (strOfNums (G9 l a)) a).2)
  else if C4 (l.drop a)=0 then ([],a,4)
  else rec_ (a+C4 (l.drop a)) false (out++[⟨3,strOfNums ((l.drop a).take (C4 (l.drop a))),0,a⟩])
 else (out++[⟨4,⟨#[]⟩,0,l.length⟩],0,0)
def b0b (l:List Int):Nat->Nat->Bool->List Tok->List Tok×Int×Int
 | 0=>λ_ _ _=>([],0,0)
 | f+1=>λa rem out=>body (b0b l f) l a rem out
theorem a5d {l:List Int} {a:Nat} (h:a<l.length) (hr:H2 (gb l a)=true):0<(G9 l a).length:=by
 unfold G9;rw[d4c h];have:l[a]=gb l a:=by unfold gb;simp[h]
 rw[d5u,this,hr]
 simp
theorem a5X {r1 r2:Nat->Bool->List Tok->List Tok×Int×Int} {l:List Int} {a:Nat} (h:∀a',a<l.length->a<a'->r1 a'=r2 a') (rem:Bool) (out:List Tok):body r1 l a rem out=body r2 l a rem out:=by
 unfold body
 by_cases ha:a<l.length
 ·rw[d3I ha,d3I ha]
  by_cases h0:nx l a=0
  ·rw[d3I h0,d3I h0]
  rw[d3G h0,d3G h0];rw[h (a+nx l a) ha (by omega),h (a+1) ha (by omega)]
  by_cases hr:H2 (gb l a)=true
  ·rw[h _ ha (by have:=a5d ha hr;omega:a<a+(G9 l a).length)];simp only[hr,d5R]
  ·have hr':H2 (gb l a)=false:=by simpa using hr
   simp only[hr',d5l,d6l]
   by_cases hs:C4 (l.drop a)=0
   ·simp only[hs,d5R]
   ·rw[h _ ha (by omega:a<a+C4 (l.drop a))]
 ·rw[d3G ha,d3G ha]
theorem b9z (l:List Int):∀(n f g a:Nat),l.length - a<=n->l.length - a<f->l.length - a<g->b0b l f a=b0b l g a:=by
 intro n
 induction n with
 | zero =>
  intro f g a hn hf hg;obtain⟨f,rfl⟩:∃k,f=k+1:=⟨f - 1,by omega⟩;obtain⟨g,rfl⟩:∃k,g=k+1:=⟨g - 1,by omega⟩
  funext rem out
  exact a5X (λa' h _=>by omega) rem out
 | succ n ih =>
  intro f g a hn hf hg;obtain⟨f,rfl⟩:∃k,f=k+1:=⟨f - 1,by omega⟩;obtain⟨g,rfl⟩:∃k,g=k+1:=⟨g - 1,by omega⟩
  funext rem out
  exact a5X (λa' h h'=>ih f g a' (by omega) (by omega) (by omega)) rem out
def n8 (l:List Int) (a:Nat) (rem:Bool) (out:List Tok):List Tok×Int×Int:=b0b l (l.length - a+1) a rem out
theorem a09 (l:List Int) (a:Nat) (rem:Bool) (out:List Tok):n8 l a rem out=body (n8 l) l a rem out:=by
 show body (b0b l (l.length - a)) l a rem out=_;refine a5X (λa' h h'=>?_) rem out
 funext rem out
 show b0b l (l.length - a) a' rem out=b0b l (l.length - a'+1) a' rem out;rw[b9z l (l.length - a') (l.length - a) (l.length - a'+1) a' (by omega) (by omega) (by omega)]
section
variable {l:List Int} {a:Nat} {rem:Bool} {out:List Tok}
theorem a34 (h:l.length<=a):n8 l a rem out=(out++[⟨4,⟨#[]⟩,0,l.length⟩],0,0):=by rw[a09];unfold body;rw[d3G (by omega)]
theorem b0c (h:a<l.length) (h0:nx l a=0):n8 l a rem out=([],(a:Int),3):=by rw[a09];unfold body;rw[d3I h,d3I h0]
theorem a49 (h:a<l.length) (h0:nx l a≠0):n8 l a true out=n8 l (a+nx l a) (gb l a != 10) out:=by rw[a09];unfold body;rw[d3I h,d3G h0,d3I rfl]
theorem a3U (h:a<l.length) (h0:nx l a≠0) (hb:J9 (gb l a)=true):n8 l a false out=n8 l (a+1) false out:=by rw[a09];unfold body;rw[d3I h,d3G h0,d3G (by decide),d3I hb]
theorem a7E (h:a<l.length) (h0:nx l a≠0) (hb:gb l a=35):n8 l a false out=n8 l (a+1) true out:=by rw[a09];unfold body;rw[d3I h,d3G h0,d3G (by decide),d3G (by rw[hb];decide),d3I hb]
theorem a6H (h:a<l.length) (h0:nx l a≠0) (hb:J9 (gb l a)=false) (hh:gb l a≠35) (hr:H2 (gb l a)=true) :
  n8 l a false out=if (L8 (strOfNums (G9 l a)) a).2=0 then n8 l (a+(G9 l a).length) false (out++[(L8 (strOfNums (G9 l a)) a).1]) else ([],(a:Int),(L8 (strOfNums (G9 l a)) a).2):=by
 rw[a09];unfold body;rw[d3I h,d3G h0,d3G (by decide),d3G (by rw[hb];decide),d3G hh,d3I hr]
theorem a8l (h:a<l.length) (h0:nx l a≠0) (hb:J9 (gb l a)=false) (hh:gb l a≠35) (hr:H2 (gb l a)=false) (hs:C4 (l.drop a)=0):n8 l a false out=([],(a:Int),4):=by
 rw[a09];unfold body;rw[d3I h,d3G h0,d3G (by decide),d3G (by rw[hb];decide),d3G hh,d3G (by rw[hr];decide),d3I hs]
theorem a7F (h:a<l.length) (h0:nx l a≠0) (hb:J9 (gb l a)=false) (hh:gb l a≠35) (hr:H2 (gb l a)=false) (hs:C4 (l.drop a)≠0) :
  n8 l a false out=n8 l (a+C4 (l.drop a)) false (out++[⟨3,strOfNums ((l.drop a).take (C4 (l.drop a))),0,a⟩]):=by
 rw[a09];unfold body;rw[d3I h,d3G h0,d3G (by decide),d3G (by rw[hb];decide),d3G hh,d3G (by rw[hr];decide),d3G hs]
end
theorem a01 {l:List Int} {a:Nat} (hb:Byt l) (h:a<l.length) (hc:gb l a<128):nx l a=1:=by
 have h1:=b2W (a32 hb a) 1 (by rw[d4l];omega) (by simp only[V];rw[a07];exact hc);unfold nx;rw[h1];rfl
theorem a35 (c:Int):J9 c=true↔c=32\/c=9\/c=13\/c=10:=by unfold J9;simp
theorem b0d (c:Int):J9 c=false↔¬(c=32\/c=9\/c=13\/c=10):=by rw[<-a35];simp
theorem b90 {c:Int} (h:c∈a6G):37<=c/\c<=125:=by simp[a6G] at h;omega
end
end Go.Proofs.YtdjnoafijjepcaaGreat
end
section
namespace Go.Proofs.YtdjnoafijjepcaaGreat.Vm
open Go.RowKit
set_option maxRecDepth 100000
set_option maxHeartbeats 4000000
def okB (first:Bool) (c:Int):Bool:=a0Z c || (!first && (I4 c || c == 95))
def okL:Bool->List UInt8->Bool
 | _,[]=>true
 | f,c::l=>okB f (c.toNat:Int) && okL false l
def Q6 (s:ByteArray):Bool:=okL true (btl s) && decide (0<s.size)
def A3 (s:ByteArray):Bool:=decide (s.size<=32) && (Q6 s && !a7D s)
theorem b6m {l:List UInt8} {k:Nat} {c:UInt8} (h:l[k]?=some c):okL (k == 0) (l.drop k)=(okB (k == 0) (c.toNat:Int) && okL (k+1 == 0) (l.drop (k+1))):=by
 obtain⟨hi,e⟩:=d3J.1 h;rw[d4c hi,e,okL];rfl
theorem b7S (c:Int):o8 68 [.one (.sc (.int .u8 c))] [.one (.sc (.bool (a0Z c)))]:=by
 generalize hb:a0Z c=b;unfold a0Z at hb;refine Q5 Tryz.func68 rfl ?_;intro _ _ _ _ _ _ _ _ qj;intros;rename_i hA;cbv;refine gn ?_;obtain⟨e1,e2,e3,e4,e5,e6,e7,e8,e9⟩:=m6 hA;rw[<-e8,<-e8] at hb;cases h1:qj 97 c
 ·cbv;refine gn ?_;rw[h1] at hb;exact L3 hb
 ·cbv;refine gn ?_;rw[h1] at hb;exact L3 hb
theorem a8N (c:Int):o8 70 [.one (.sc (.int .u8 c))] [.one (.sc (.bool (I4 c)))]:=by
 generalize hb:I4 c=b;unfold I4 at hb;refine Q5 Tryz.func70 rfl ?_;intro _ _ _ _ _ _ _ _ qj;intros;rename_i hA;cbv;refine gn ?_;obtain⟨e1,e2,e3,e4,e5,e6,e7,e8,e9⟩:=m6 hA;rw[<-e8,<-e8] at hb;cases h1:qj 48 c
 ·cbv;refine gn ?_;rw[h1] at hb;exact L3 hb
 ·cbv;refine gn ?_;rw[h1] at hb;exact L3 hb
theorem b4y (s:ByteArray) (hs:s.size<=4611686018427387904):o8 73 [.one (.sc (.string s))] [.one (.sc (.bool (Q6 s)))]:=by
 generalize hb:Q6 s=b;unfold Q6 at hb;refine Q5 Tryz.func73 rfl ?_;intro qa qb _ _ _ _ _ qi _ qk _ qm _ qp _ _ qu qv;intros;rename_i hA;cbv;refine gn ?_;obtain⟨e1,e2,e3,e4,e5,e6,e7,e8,e9⟩:=m6 hA;obtain⟨s1,s2,s3,s4,s5,s6,-⟩:=G1 hA;refine n9 hA (γ:=Int) (λz=>[(7,vi .i64 z)]) (λ_=>[]) (λz=>∃k:Nat,z=(k:Int)/\k<=s.size/\(okL (k == 0) ((btl s).drop k) && decide (0<s.size))=b) (λz=>s.size - z.toNat) 0 ?_ ?_ ?_
 ·exact⟨0,rfl,d4o _,hb⟩
 ·cbv
 ·intro z hinv;cbv;refine gn ?_;obtain⟨k,hz,hk,hE⟩:=hinv;replace hz:z=(k:Int):=hz;replace s5:qu s=((s.size:Nat):Int):=s5 s;have hlt:qi z (qu s)=decide (k<s.size):=by rw[e7,s5,hz];exact d3X.2 (by omega)
  by_cases h9:k<s.size
  ·rw[d3S h9] at hlt;obtain⟨c,hc⟩:∃c,(btl s)[k]?=some c:=⟨_,d3H (by rw[P3];exact h9)⟩;have g1:qv s z=some (c.toNat:Int):=by rw[s6,hz];exact a5b hc
   rw[b6m hc] at hE;have hd1:=b7S (c.toNat:Int);have hd2:=a8N (c.toNat:Int)
   have hz0:qk z 0=(k == 0):=by
    rw[e9,hz];cases k with
    | zero=>rfl
    | succ k=>exact d4x.2 (by omega)
   have hz1:qa .i64 (qb z 1)=((k+1:Nat):Int):=by rw[e1,e2,hz,IntWalk.i64_in _ (by omega)];omega
   have hm:s.size - (qa .i64 (qb z 1)).toNat<s.size - z.toNat:=by rw[hz1,hz];omega
   have h95:qk (c.toNat:Int) 95=((c.toNat:Int) == 95):=e9 _ _;unfold okB at hE;generalize (c.toNat:Int)=cc at *;generalize a0Z cc=q1 at *;generalize I4 cc=q2 at *;generalize (cc == 95)=q3 at *;generalize (k == 0)=q0 at *;rw[hlt];cbv;refine gn ?_;rw[g1];cbv;refine gn ?_;refine j8 hA _ hd1 ?_ ?_
   ·rfl
   cases q1
   ·cbv;refine gn ?_;rw[hz0];cases q0
    ·cbv;refine gn ?_;refine j8 hA _ hd2 ?_ ?_
     ·rfl
     cases q2
     ·cbv;refine gn ?_;rw[h95];cases q3
      ·cbv;refine gn ?_;exact L3 hE
      ·cbv;refine gn ?_;exact⟨_,⟨k+1,hz1,h9,hE⟩,hm,by cbv⟩
     ·cbv;refine gn ?_;exact⟨_,⟨k+1,hz1,h9,hE⟩,hm,by cbv⟩
    ·cbv;refine gn ?_;exact L3 hE
   ·cbv;refine gn ?_;exact⟨_,⟨k+1,hz1,h9,hE⟩,hm,by cbv⟩
  ·rw[d3P h9] at hlt;have hk:k=s.size:=by omega
   rw[hk,d4w (by rw[P3];exact d3Q _),okL] at hE
   have hq:qm (qp s) (qp ⟨⟨[]⟩⟩)=!b:=by
    rw[s1,s3,s3,a3Q,a3Q,<-hE,d59];cases h:btl s with
    | nil=>rw[<-P3,h];rfl
    | cons x l=>rw[<-P3,h,d3S (show 0<(x::l).length by simp)];rfl
   rw[hlt];cbv;refine gn ?_;rw[hq];exact L3 (by cases b <;> rfl)
theorem c2n {s:ByteArray} (h:∀x∈Y3,(s.toList == x.toList)=false):a7D s=false:=by
 unfold a7D inB;rw[List.any_eq_false];intro x hx;have:=h x hx;rw[Bool.beq_comm] at this;rw[this]
 decide
theorem L9 {s x:ByteArray} (hx:x∈Y3) (h:(s.toList == x.toList)=true):a7D s=true:=by
 unfold a7D inB;rw[d6j];exact⟨x,hx,by rw[Bool.beq_comm];exact h⟩
theorem c7C (s:ByteArray):o8 72 [.one (.sc (.string s))] [.one (.sc (.bool (a7D s)))]:=by
 generalize hb:a7D s=b;refine Q5 Tryz.func72 rfl ?_;intro _ _ _ _ _ _ _ _ _ _ _ qm _ qp;intros;rename_i hA;cbv;refine gn ?_;obtain⟨s1,s2,s3,s4,s5,s6,-⟩:=G1 hA;cases g0:qm (qp s) (qp ⟨⟨[102,117,110]⟩⟩)
 rotate_left
 ·cbv;refine gn ?_;refine L3 ?_;rw[<-hb];rw[s1,s3,s3] at g0;exact(L9 (x:=⟨⟨[102,117,110]⟩⟩) (by unfold Y3;repeat first|exact d3L ..|apply d3M) g0).symm
 cbv;refine gn ?_;cases g1:qm (qp s) (qp ⟨⟨[114,101,99]⟩⟩)
 rotate_left
 ·cbv;refine gn ?_;refine L3 ?_;rw[<-hb];rw[s1,s3,s3] at g1;exact(L9 (x:=⟨⟨[114,101,99]⟩⟩) (by unfold Y3;repeat first|exact d3L ..|apply d3M) g1).symm
 cbv;refine gn ?_;cases g2:qm (qp s) (qp ⟨⟨[108,101,116]⟩⟩)
 rotate_left
 ·cbv;refine gn ?_;refine L3 ?_;rw[<-hb];rw[s1,s3,s3] at g2;exact(L9 (x:=⟨⟨[108,101,116]⟩⟩) (by unfold Y3;repeat first|exact d3L ..|apply d3M) g2).symm
 cbv;refine gn ?_;cases g3:qm (qp s) (qp ⟨⟨[105,110]⟩⟩)
 rotate_left
 ·cbv;refine gn ?_;refine L3 ?_;rw[<-hb];rw[s1,s3,s3] at g3;exact(L9 (x:=⟨⟨[105,110]⟩⟩) (by unfold Y3;repeat first|exact d3L ..|apply d3M) g3).symm
 cbv;refine gn ?_;cases g4:qm (qp s) (qp ⟨⟨[105,102]⟩⟩)
 rotate_left
 ·cbv;refine gn ?_;refine L3 ?_;rw[<-hb];rw[s1,s3,s3] at g4;exact(L9 (x:=⟨⟨[105,102]⟩⟩) (by unfold Y3;repeat first|exact d3L ..|apply d3M) g4).symm
 cbv;refine gn ?_;cases g5:qm (qp s) (qp ⟨⟨[116,104,101,110]⟩⟩)
 rotate_left
 ·cbv;refine gn ?_;refine L3 ?_;rw[<-hb];rw[s1,s3,s3] at g5;exact(L9 (x:=⟨⟨[116,104,101,110]⟩⟩) (by unfold Y3;repeat first|exact d3L ..|apply d3M) g5).symm
 cbv;refine gn ?_;cases g6:qm (qp s) (qp ⟨⟨[101,108,115,101]⟩⟩)
 rotate_left
 ·cbv;refine gn ?_;refine L3 ?_;rw[<-hb];rw[s1,s3,s3] at g6;exact(L9 (x:=⟨⟨[101,108,115,101]⟩⟩) (by unfold Y3;repeat first|exact d3L ..|apply d3M) g6).symm
 cbv;refine gn ?_;cases g7:qm (qp s) (qp ⟨⟨[99,97,115,101]⟩⟩)
 rotate_left
 ·cbv;refine gn ?_;refine L3 ?_;rw[<-hb];rw[s1,s3,s3] at g7;exact(L9 (x:=⟨⟨[99,97,115,101]⟩⟩) (by unfold Y3;repeat first|exact d3L ..|apply d3M) g7).symm
 cbv;refine gn ?_;cases g8:qm (qp s) (qp ⟨⟨[111,102]⟩⟩)
 rotate_left
 ·cbv;refine gn ?_;refine L3 ?_;rw[<-hb];rw[s1,s3,s3] at g8;exact(L9 (x:=⟨⟨[111,102]⟩⟩) (by unfold Y3;repeat first|exact d3L ..|apply d3M) g8).symm
 cbv;refine gn ?_;cases g9:qm (qp s) (qp ⟨⟨[101,110,100]⟩⟩)
 rotate_left
 ·cbv;refine gn ?_;refine L3 ?_;rw[<-hb];rw[s1,s3,s3] at g9;exact(L9 (x:=⟨⟨[101,110,100]⟩⟩) (by unfold Y3;repeat first|exact d3L ..|apply d3M) g9).symm
 cbv;refine gn ?_;cases g10:qm (qp s) (qp ⟨⟨[116,114,117,101]⟩⟩)
 rotate_left
 ·cbv;refine gn ?_;refine L3 ?_;rw[<-hb];rw[s1,s3,s3] at g10;exact(L9 (x:=⟨⟨[116,114,117,101]⟩⟩) (by unfold Y3;repeat first|exact d3L ..|apply d3M) g10).symm
 cbv;refine gn ?_;cases g11:qm (qp s) (qp ⟨⟨[102,97,108,115,101]⟩⟩)
 rotate_left
 ·cbv;refine gn ?_;refine L3 ?_;rw[<-hb];rw[s1,s3,s3] at g11;exact(L9 (x:=⟨⟨[102,97,108,115,101]⟩⟩) (by unfold Y3;repeat first|exact d3L ..|apply d3M) g11).symm
 cbv;refine gn ?_;cases g12:qm (qp s) (qp ⟨⟨[100,101,102]⟩⟩)
 rotate_left
 ·cbv;refine gn ?_;refine L3 ?_;rw[<-hb];rw[s1,s3,s3] at g12;exact(L9 (x:=⟨⟨[100,101,102]⟩⟩) (by unfold Y3;repeat first|exact d3L ..|apply d3M) g12).symm
 cbv;refine gn ?_;cases g13:qm (qp s) (qp ⟨⟨[73,110,116]⟩⟩)
 rotate_left
 ·cbv;refine gn ?_;refine L3 ?_;rw[<-hb];rw[s1,s3,s3] at g13;exact(L9 (x:=⟨⟨[73,110,116]⟩⟩) (by unfold Y3;repeat first|exact d3L ..|apply d3M) g13).symm
 cbv;refine gn ?_;cases g14:qm (qp s) (qp ⟨⟨[66,111,111,108]⟩⟩)
 rotate_left
 ·cbv;refine gn ?_;refine L3 ?_;rw[<-hb];rw[s1,s3,s3] at g14;exact(L9 (x:=⟨⟨[66,111,111,108]⟩⟩) (by unfold Y3;repeat first|exact d3L ..|apply d3M) g14).symm
 cbv;refine gn ?_;refine L3 ?_;rw[<-hb]
 symm
 apply c2n
 intro x hx;rw[s1,s3,s3] at g0 g1 g2 g3 g4 g5 g6 g7 g8 g9 g10 g11 g12 g13 g14;unfold Y3 at hx;simp only[d3R,d5h,d6b] at hx
 rcases hx with rfl|rfl|rfl|rfl|rfl|rfl|rfl|rfl|rfl|rfl|rfl|rfl|rfl|rfl|rfl
 ·exact g0
 ·exact g1
 ·exact g2
 ·exact g3
 ·exact g4
 ·exact g5
 ·exact g6
 ·exact g7
 ·exact g8
 ·exact g9
 ·exact g10
 ·exact g11
 ·exact g12
 ·exact g13
 ·exact g14
theorem b4z (s:ByteArray) (hs:s.size<=4611686018427387904):o8 59 [.one (.sc (.string s))] [.one (.sc (.bool (A3 s)))]:=by
 have h1:=b4y s hs;have h2:=c7C s;generalize hb:A3 s=b;unfold A3 at hb;refine Q5 Tryz.func59 rfl ?_;intro _ _ _ _ _ _ _ _ qj _ _ _ _ _ _ _ qu;intros;rename_i hA;cbv;refine gn ?_;obtain⟨e1,e2,e3,e4,e5,e6,e7,e8,e9⟩:=m6 hA;obtain⟨s1,s2,s3,s4,s5,s6,-⟩:=G1 hA;have hle:qj (qu s) 32=decide (s.size<=32):=by rw[e8,s5];exact d3X.2 (by omega)
 generalize decide (s.size<=32)=q at *;generalize Q6 s=q1 at *;generalize a7D s=q2 at *;rw[hle];cases q
 ·cbv;refine gn ?_;exact L3 hb
 ·cbv;refine gn ?_;refine j8 hA _ h1 ?_ ?_
  ·rfl
  cases q1
  ·cbv;refine gn ?_;exact L3 hb
  ·cbv;refine gn ?_;refine j8 hA _ h2 ?_ ?_
   ·rfl
   cbv;refine gn ?_;exact L3 hb
end Go.Proofs.YtdjnoafijjepcaaGreat.Vm
end
section
namespace Go.Proofs.YtdjnoafijjepcaaGreat
open Go.RowKit
set_option maxRecDepth 100000
set_option maxHeartbeats 4000000
theorem b92 {l:List Int} (h:gb l 0=48) (h1:1<l.length):a2q l=(0,4):=by unfold a2q;rw[d3I (.inl ⟨h,h1⟩)]
theorem c2o {l:List Int} {k:Nat} (hk:k<l.length) (h:I4 (gb l k)=false):a2q l=(0,4):=by
 unfold a2q
 rw[d3I (.inr (λha=>by
  have:=(d4f.1 ha) _ (b5F hk)
  rw[h] at this;cases this))]
theorem b93 {l:List Int} (h:∀i,i<l.length->I4 (gb l i)=true):l.all I4=true/\a5W l:=by
 have hx:∀x∈l,I4 x=true:=λx hx=>by
  obtain⟨i,hi,rfl⟩:=List.getElem_of_mem hx;have:=h i hi;unfold gb at this
  simpa [hi] using this
 exact⟨d4f.2 hx,λx hm=>(a5c x).1 (hx x hm)⟩
theorem b6n {l:List Int} (h0:¬(gb l 0=48/\1<l.length)) (ha:l.all I4=true) (h:9223372036854775807<a00 l 0):a2q l=(0,7):=by
 unfold a2q;rw[d3G (λhh=>by rcases hh with h1|h1;exact h0 h1;exact h1 ha),d3I h]
theorem c5x {l:List Int} (h0:¬(gb l 0=48/\1<l.length)) (ha:l.all I4=true) (h:¬9223372036854775807<a00 l 0):a2q l=(a00 l 0,0):=by
 unfold a2q;rw[d3G (λhh=>by rcases hh with h1|h1;exact h0 h1;exact h1 ha),d3G h]
end Go.Proofs.YtdjnoafijjepcaaGreat
end
section
namespace Go.Proofs.YtdjnoafijjepcaaGreat.Vm
open Go.RowKit
set_option maxRecDepth 100000
set_option maxHeartbeats 4000000
theorem b1R {s:ByteArray} {k:Nat} (h:k<(C6 s).length):j5.sget s (k:Int)=some (gb (C6 s) k):=by
 rw[a0z] at h;have hc:(btl s)[k]?=some s[k]:=by rw[btl,d4B];exact d4I h
 rw[a5b hc,b2X s k h]
theorem c2p (s:ByteArray) (h1:1<=s.size) (hm:s.size<=1048576):o8 71 [.one (.sc (.string s))] [.one (.sc (.int .i64 (a2q (C6 s)).1)),.one (.sc (.bool (decide ((a2q (C6 s)).2=0)))),.one (.sc (.int .u8 (a2q (C6 s)).2))]:=by
 have hget:=λk (h:k<(C6 s).length)=>b1R h
 have hlen:(s.size:Int)=((C6 s).length:Int):=by rw[a0z]
 have h1':1<=(C6 s).length:=by rw[a0z];exact h1
 have hm':(C6 s).length<=1048576:=by rw[a0z];exact hm
 have hby:∀k,k<(C6 s).length->0<=gb (C6 s) k/\gb (C6 s) k<=255:=λk h=>by
  rw[a0z] at h;rw[<-b2X s k h];have:=s[k].toNat_lt;omega
 generalize C6 s=l at *;obtain⟨p,o,c,hp⟩:∃p o c,p=(a2q l).1/\o=decide ((a2q l).2=0)/\c=(a2q l).2:=⟨_,_,_,rfl,rfl,rfl⟩;rw[<-hp.1,<-hp.2.1,<-hp.2.2];have hv:∀ {n e:Int},a2q l=(n,e)->p=n/\o=decide (e=0)/\c=e:=λh=>by rw[h] at hp;exact hp
 clear hp;obtain⟨N,hN⟩:∃N,N=(l.length:Int):=⟨_,rfl⟩;rw[<-hN] at hlen;have g0:=hget 0 (by omega);obtain⟨c0,hc0⟩:∃c0,c0=gb l 0:=⟨_,rfl⟩;rw[<-hc0] at g0;obtain⟨inv,hi⟩:∃inv:Int->Prop,inv=λz=>∃k:Nat,z=(k:Int)/\k<=l.length/\∀i,i<k->I4 (gb l i)=true:=⟨_,rfl⟩
 have hi0:inv 0:=by rw[hi];exact⟨0,rfl,d4o _,λi h=>by omega⟩
 obtain⟨inv2,hi2⟩:∃inv2:Int×Int->Prop,inv2=λx=>∃k:Nat,x.2=(k:Int)/\k<=l.length/\0<=x.1/\x.1<=9223372036854775807/\x.1=a00 (l.take k) 0:=⟨_,rfl⟩
 have hi20:inv2 (0,0):=by rw[hi2];exact⟨0,rfl,d4o _,by decide,by decide,rfl⟩
 refine Q5 Tryz.func71 rfl ?_;intro qa qb qc qd qe _ _ qi _ qk _ _ _ _ _ _ qu qv;intros;rename_i hA;obtain⟨e1,e2,e3,e4,e5,e6,e7,e8,e9⟩:=m6 hA;obtain⟨s1,s2,s3,s4,s5,s6,-⟩:=G1 hA;have q0:qu s=N:=by rw[s5];exact hlen
 have q1:qv s 0=some c0:=by rw[s6];exact g0
 by_cases hz:c0=48/\1<l.length
 ·obtain⟨rfl,rfl,rfl⟩:=hv (b92 (by omega) hz.2);have t0:qk c0 48=true:=eb hA (by rw[hz.1];rfl);have t1:qi 1 N=true:=el hA (d3S (by omega))
  try cbv;exact fr
 have HZ:=hz
 have t4:(c0 == 48)=false\/((c0 == 48)=true/\decide (1<N)=false):=by
  by_cases h:c0=48
  ·exact .inr ⟨by rw[h];rfl,d3P (by omega)⟩
  ·exact .inl (d3T h)
 rcases t4 with t0|⟨t0,t1⟩
 case' inl =>
  replace t0:=eb hA t0
  iterate 2 (try cbv;repeat ((first|with_reducible apply j6 hA|rw[q0]|rw[q1]|rw[t0]);cbv))
 case' inr =>
  replace t0:=eb hA t0;replace t1:=el hA t1
  iterate 2 (try cbv;repeat ((first|with_reducible apply j6 hA|rw[q0]|rw[q1]|rw[t0]|rw[t1]);cbv))
 all_goals
  refine n9 hA (γ:=Int) (λz=>[(18,vi .i64 z)]) (λ_=>[]) inv (λz=>l.length - z.toNat) 0 hi0 ?_ ?_
  ·cbv
  ·intro z hinv;cbv;refine gn ?_;try simp only[nc] at *
   rw[hi] at hinv;obtain⟨k,hz,hk,hE⟩:=hinv;replace hz:z=(k:Int):=hz
   by_cases h9:k<l.length
   ·have p0:qi z N=true:=el hA (d3S (by omega));have p1:qv s z=some (gb l k):=by rw[s6,hz];exact hget k h9
    have hd:=a8N (gb l k);have p2:qa .i64 (qb z 1)=((k+1:Nat):Int):=ew hA (by rw[IntWalk.i64_in _ (by omega)];omega)
    have hf:I4 (gb l k)=true->inv ((k+1:Nat):Int):=λh=>by
     rw[hi];refine⟨k+1,rfl,by omega,λi h'=>?_⟩
     by_cases e:i=k
     ·rw[e];exact h
     ·exact hE i (by omega)
    have hb:=λh=>hv (c2o (k:=k) h9 h)
    have hm:l.length - ((k+1:Nat):Int).toNat<l.length - z.toNat:=by omega
    generalize gb l k=c1 at *;generalize I4 c1=d at *;generalize ((k+1:Nat):Int)=z1 at *;cases d
    ·obtain⟨rfl,rfl,rfl⟩:=hb rfl
     try cbv;exact fr
    ·have hg:=hf rfl;clear hf
     try cbv;refine gr ?_;try simp only[nc] at *
     refine⟨z1,hg,hm,?_⟩;cbv
   ·have p0:qi z N=false:=el hA (d3P (by omega));have hall:=b93 (l:=l) (λi hi=>hE i (by omega))
    try cbv;refine gr ?_;try simp only[nc] at *
    refine n9 hA (γ:=Int×Int) (λx=>[(5,vi .u64 x.1),(29,vi .i64 x.2)]) (λ_=>[]) inv2 (λx=>l.length - x.2.toNat) (0,0) hi20 ?_ ?_
    ·cbv
    ·intro x hinv2;obtain⟨n,i⟩:=x;cbv;refine gn ?_;try simp only[nc] at *
     rw[hi2] at hinv2;obtain⟨j,hi,hj,hn0,hn1,hn⟩:=hinv2;replace hi:i=(j:Int):=hi;replace hn0:0<=n:=hn0;replace hn1:n<=9223372036854775807:=hn1;replace hn:n=a00 (l.take j) 0:=hn
     by_cases h8:j<l.length
     ·have p1:qi i N=true:=el hA (d3S (by omega));have p2:qv s i=some (gb l j):=by rw[s6,hi];exact hget j h8
      have hdg:=hall.2 _ (b5F (l:=l) (i:=j) h8);have hst:=b9y (l:=l) (k:=j) h8;have hmo:=b9x hall.2 (j+1);rw[<-hn] at hst;obtain⟨c1,hc1⟩:∃c1,c1=gb l j:=⟨_,rfl⟩;rw[<-hc1] at p2 hdg hst;obtain⟨d,hd⟩:∃d,d=c1 - 48:=⟨_,rfl⟩;have p3:qa .u8 (qc c1 48)=d:=esu hA (by rw[IntWalk.u8_in _ (by omega)];exact hd.symm);have p4:qa .u64 d=d:=ewp hA (IntWalk.u64_in _ (by omega));obtain⟨m,hm1⟩:∃m,m=9223372036854775807 - d:=⟨_,rfl⟩;have p5:qa .u64 (qc 9223372036854775807 d)=m:=esu hA (by rw[IntWalk.u64_in _ (by omega)];exact hm1.symm);obtain⟨q,hq⟩:∃q,q=m / 10:=⟨_,rfl⟩;have p6:qa .u64 (qe m 10)=q:=equ hA (by rw[Int.tdiv_eq_ediv_of_nonneg (by omega),IntWalk.u64_in _ (by omega)];exact hq.symm)
      by_cases h7:q<n
      ·obtain⟨rfl,rfl,rfl⟩:=hv (b6n (λh=>HZ ⟨by omega,h.2⟩) hall.1 (by omega));have p7:qi q n=true:=el hA (d3S h7)
       iterate 2 (try cbv;repeat ((first|with_reducible apply j6 hA|rw[p1]|rw[p2]|rw[p3]|rw[p4]|rw[p5]|rw[p6]|rw[p7]|refine b7A hA (by decide) ?_);cbv))
      ·have p7:qi q n=false:=el hA (d3P h7);obtain⟨n10,h10⟩:∃n10,n10=10 * n:=⟨_,rfl⟩;have p8:qa .u64 (qd n 10)=n10:=emu hA (by rw[IntWalk.u64_in _ (by omega)];omega);obtain⟨n2,h2⟩:∃n2,n2=n10+d:=⟨_,rfl⟩;have p9:qa .u64 (qb n10 d)=n2:=ew hA (by rw[IntWalk.u64_in _ (by omega)];exact h2.symm);have pa:qa .i64 (qb i 1)=((j+1:Nat):Int):=ew hA (by rw[IntWalk.i64_in _ (by omega)];omega);have hf:inv2 (n2,((j+1:Nat):Int)):=by rw[hi2];exact⟨j+1,rfl,by omega,by show 0<=n2;omega,by show n2<=_;omega,by show n2=_;omega⟩
       have hm:l.length - ((j+1:Nat):Int).toNat<l.length - i.toNat:=by omega
       generalize ((j+1:Nat):Int)=z1 at *
       iterate 2 (try cbv;repeat ((first|with_reducible apply j6 hA|rw[p1]|rw[p2]|rw[p3]|rw[p4]|rw[p5]|rw[p6]|rw[p7]|rw[p8]|rw[p9]|rw[pa]|refine b7A hA (by decide) ?_);cbv))
       try simp (maxSteps:=4000000) only [nc] at *
       refine⟨(n2,z1),hf,hm,?_⟩;cbv
     ·have p1:qi i N=false:=el hA (d3P (by omega));rw[d4z (by omega)] at hn;obtain⟨rfl,rfl,rfl⟩:=hv (c5x (λh=>HZ ⟨by omega,h.2⟩) hall.1 (by omega));have p2:qa .i64 (a00 l 0)=a00 l 0:=ewp hA (IntWalk.i64_in _ (by omega));generalize a00 l 0=n3 at *;subst hn
      try cbv;exact fr
theorem b94 (s:ByteArray):Q6 s=a3T (C6 s):=by
 have key:∀n k:Nat,k+n=s.size->(okL (k == 0) ((btl s).drop k)=true↔∀i,k<=i->i<s.size->c2j (C6 s) i=true):=by
  intro n
  induction n with
  | zero =>
   intro k hk;rw[d4w (by rw[P3];omega),okL];exact⟨λ_ i h1 h2=>by omega,λ_=>rfl⟩
  | succ n ih =>
   intro k hk;have hk':k<s.size:=by omega
   have hc:(btl s)[k]?=some s[k]:=by rw[btl,d4B];exact d4I hk'
   rw[b6m hc,d3N,ih (k+1) (by omega),b2X s k hk']
   have e:okB (k == 0) (gb (C6 s) k)=c2j (C6 s) k:=by
    unfold okB c2j;cases k <;> simp
   rw[e]
   constructor
   ·rintro ⟨h1,h2⟩ i h3 h4
    by_cases h:i=k
    ·rw[h];exact h1
    ·exact h2 i (by omega) h4
   ·exact λh=>⟨h k (d3Q _) hk',λi h3 h4=>h i (by omega) h4⟩
 have h0:=key s.size 0 (by omega);rw[show ((0:Nat) == 0)=true from rfl,d5b] at h0;unfold Q6 a3T;rw[a0z,Bool.and_comm]
 congr 1
 rw[d5r,h0,d4f];exact⟨λh i hi=>h i (d4o _) (d6a.1 hi),λh i _ hi=>h i (d6a.2 hi)⟩
def c2q (t:Tok):List D:=[.sc (.int .u8 t.kind),.sc (.string t.text),.sc (.int .i64 t.n),.sc (.int .i64 t.at_)]
theorem d1a (s:ByteArray) (z:Int) (h1:1<=s.size) (hm:s.size<=1048576):o8 46 [.one (.sc (.string s)),.one (.sc (.int .i64 z))] [.ag (c2q (L8 s z).1),.one (.sc (.int .u8 (L8 s z).2))]:=by
 have g0:=b1R (s:=s) (k:=0) (by rw[a0z];exact h1);have k0:=c2p s h1 hm;have k1:=c7C s;have k2:=b4y s (by omega);have k3:=a8N (gb (C6 s) 0);rw[b94] at k2;have hlen:(s.size:Int)=((C6 s).length:Int):=by rw[a0z]
 have h9:decide ((32:Int)<(s.size:Int))=decide (32<(C6 s).length):=d3X.2 (by omega);unfold c2q L8;generalize (a2q (C6 s)).1=n1 at *;generalize (a2q (C6 s)).2=n2 at *;generalize gb (C6 s) 0=c at *;generalize decide (n2=0)=ok at *;obtain⟨N,hN⟩:∃N,N=(s.size:Int):=⟨_,rfl⟩;rw[<-hN] at h9;clear hlen;obtain⟨d,hd⟩:∃d,d=I4 c:=⟨_,rfl⟩;obtain⟨o,ho⟩:∃o,o=a7D s:=⟨_,rfl⟩;obtain⟨v,hv⟩:∃v,v=a3T (C6 s):=⟨_,rfl⟩;obtain⟨g,hg⟩:∃g,g=decide (32<(C6 s).length):=⟨_,rfl⟩;rw[<-hd] at k3 ⊢;rw[<-ho] at k1 ⊢;rw[<-hv] at k2 ⊢;rw[<-hg] at h9;have hgl:(32<(C6 s).length)=(g=true):=by rw[hg,d5q]
 simp only[hgl];clear hgl;clear hd ho hv hg h1 hm;refine Q5 Tryz.func46 rfl ?_;intro _ _ _ _ _ _ _ _ _ _ _ _ _ _ _ _ qu qv;intros;rename_i hA;obtain⟨s1,s2,s3,s4,s5,s6,-⟩:=G1 hA;have q0:qu s=N:=by rw[s5];exact hN.symm
 have q1:qv s 0=some c:=by rw[s6];exact g0
 have q2:=el hA h9;cases d
 ·cases o
  ·cases v
   ·try cbv;exact fr
   ·cases g
    ·try cbv;exact fr
    ·try cbv;exact fr
  ·try cbv;exact fr
 ·try cbv;exact fr
end Go.Proofs.YtdjnoafijjepcaaGreat.Vm
end
section
namespace Go.Proofs.YtdjnoafijjepcaaGreat
open Go.RowKit
set_option maxRecDepth 100000
set_option maxHeartbeats 4000000
theorem c5y {a b:Int} (ha:0<=a/\a<=255) (hb:0<=b/\b<=255) (x y:UInt8):((strOfNums [a,b]).toList == [x,y])=((a == (x.toNat:Int)) && (b == (y.toNat:Int))):=by
 rw[ByteArray.toList_eq,strOfNums_data];rw[d5r];simp only[d4a,d47,d4H,d3N,List.cons.injEq,and_true]
 have k:∀(c:Int) (z:UInt8),0<=c/\c<=255->(UInt8.ofNat c.toNat=z↔c=(z.toNat:Int)):=λc z hc=>by
  rw[<-d6o,UInt8.toNat_ofNat'];have:=z.toNat_lt;omega
 rw[k a x ha,k b y hb]
theorem c2r {l:List Int} (h:2<=l.length) (hd:a81 (gb l 0) (gb l 1)=true):strOfNums (l.take (C4 l))=strOfNums [gb l 0,gb l 1]:=by
 have:C4 l=2:=by unfold C4;rw[d3I ⟨h,hd⟩]
 rw[this,c7A h]
theorem c2s {l:List Int} (h:1<=l.length) (hn:¬(2<=l.length/\a81 (gb l 0) (gb l 1)=true)) (hc:gb l 0∈a6G):strOfNums (l.take (C4 l))=strOfNums [gb l 0]:=by
 have:C4 l=1:=by unfold C4;rw[d3G hn,d3I hc]
 rw[this,c79 h]
theorem b95 {l:List Int} (hn:¬(2<=l.length/\a81 (gb l 0) (gb l 1)=true)) (hc:gb l 0∉a6G):strOfNums (l.take (C4 l))=⟨#[]⟩:=by
 have:C4 l=0:=by unfold C4;rw[d3G hn,d3G hc]
 rw[this];rfl
theorem c2t (c:Int):c∈a6G↔c=40\/c=41\/c=123\/c=125\/c=60\/c=62\/c=61\/c=44\/c=58\/c=59\/c=124\/c=46\/c=92\/c=64\/c=94\/c=63\/c=43\/c=45\/c=42\/c=47\/c=37:=by simp[a6G]
end Go.Proofs.YtdjnoafijjepcaaGreat
end
