/- Part 4 of the proof. Conditions: none. -/
import Derived.Test.YtlofmibkljoapaaDoorO1
import Derived.Test.YtlofmibkljoapaaDoorO3
import Derived.Laws.BytesArg
import Derived.Lib.Join
import Derived.IntWalk
import Derived.Test.YtlofmibkljoapaaDoorO0
set_option linter.all false
set_option linter.unusedVariables false
set_option linter.unusedSimpArgs false
section
namespace Go.Proofs.YtlofmibkljoapaaDoor.Vm
open Go.RowKit
set_option maxRecDepth 100000
set_option maxHeartbeats 4000000
section
def o9 (P:Program):Code->Bool
 | .region _ ops d=>b37 P ops.toList && (!d || (a7m ops || b83 ops.toList))
 | .seq c d=>o9 P c && o9 P d
 | .cond _ c d=>o9 P c && o9 P d
 | .block _ c=>o9 P c
 | .loop c=>o9 P c
 | _=>true
def toE:X->Exit
 | .normal=>.normal
 | .exit i=>.exit i
 | .ret=>.ret
section
variable {I0:Nat->Nat->Prop} {X:Nat->Prop} {w0:W0}
theorem G1 {ro:Option Nat} {n:Nat}:∀(c:Code) (s:S) (a:Act) (w:World) (K:Vm.X->S->Prop) (Q:Exit->Act->World->Prop),o9 Tryd.prog c=true->U8 I0 X w0 s a w->w5 a7 c s K->(∀e s' a' w',U8 I0 X w0 s' a' w'->K e s'->Q (toE e) a' w')->c.wpIn (FW ro) n Tryd.prog Q a w
 | .skip,s,a,w,K,Q,_,h,hK,hQ=>wpIn_skip (hQ _ _ _ _ h hK)
 | .region id ops d,s,a,w,K,Q,hok,h,hK,hQ=>by
  simp only[o9,c2B,c38,c49] at hok;have hops:∀o∈ops.toList,U9 Tryd.prog o.op=true:=c3a.1 hok.1;cases d with
  | false=>exact wpIn_region_list (b2m (λs' a' w' h' hk=>hQ .normal _ _ _ h' hk) _ s a w hops h hK)
  | true =>
   rw[w5] at hK
   split at hK
   ·refine wpIn_region_any (by kernel_rfl) (hK I0 X w0 a w.drew ro n Q hops ?_ λs' a' w' h' hk=>hQ .normal _ _ _ h' hk);obtain⟨I,g,h⟩:=h;exact⟨I,g,h.drew⟩
   rename_i hodd
   split at hK <;> try exact hK.elim
   rename_i hpre;have hodd:b83 ops.toList=false:=by rw[b6v,c4M] at hodd;exact hodd.2
   have hd:a7m ops=true:=(hok.2.resolve_left (by simp)).resolve_right (by rw[hodd];decide);refine wpIn_region_any (by kernel_rfl) (b8A (λs' a' w' h' hk=>hQ .normal _ _ _ h' hk) hok.1 hd ?_ hpre hK);obtain⟨I,g,h⟩:=h;exact⟨I,g,h.drew⟩
 | .seq c d,s,a,w,K,Q,hok,h,hK,hQ=>by
  simp only[o9,c2B] at hok;refine wpIn_seq (G1 c s a w _ _ hok.1 h hK λe s' a' w' h' hk=>?_);cases e with
  | normal =>
   obtain⟨F,hg,hk⟩:=hk;obtain⟨s2,hf,h2⟩:=hg _ _ _ _ _ h';exact G1 d s2 a' w' K Q hok.2 h2 (hk s2 hf) hQ
  | exit i=>exact hQ (.exit i) _ _ _ h' hk
  | ret=>exact hQ .ret _ _ _ h' hk
 | .cond c x y,s,a,w,K,Q,hok,h,hK,hQ=>by
  simp only[o9,c2B] at hok;rw[w5] at hK;obtain⟨I,g,h1⟩:=h;have hc:=h1.get c
  split at hK <;> try exact hK.elim
  rename_i b hb;rw[hb] at hc;refine wpIn_cond hc.sc ?_;cases b with
  | true=>exact G1 x s a w K Q hok.1 ⟨I,g,h1⟩ hK hQ
  | false=>exact G1 y s a w K Q hok.2 ⟨I,g,h1⟩ hK hQ
 | .block id c,s,a,w,K,Q,hok,h,hK,hQ=>by
  refine wpIn_block (G1 c s a w _ _ hok h hK λe s' a' w' h' hk=>?_);cases e with
  | normal=>exact hQ .normal _ _ _ h' hk
  | exit i =>
   rw[a1v] at hk;show (if i=id then Q .normal a' w' else Q (.exit i) a' w')
   split at hk
   ·rename_i he;rw[w8] at he;rw[c2E he];exact hQ .normal _ _ _ h' hk
   ·rename_i he;rw[Y0] at he;rw[c2H he];exact hQ (.exit i) _ _ _ h' hk
  | ret=>exact hQ .ret _ _ _ h' hk
 | .loop c,s,a,w,K,Q,hok,h,hK,hQ=>by
  have key:∀R:S->S->Prop,(∀s s',R s s'->w0.n<=s'.o.length->∀a w,U8 I0 X w0 s a w->U8 I0 X w0 s' a w)->a8t R (λs K=>w5 a7 c s K) s K->(Code.loop c).wpIn (FW ro) n Tryd.prog Q a w:=λR hR hK=>by
   obtain⟨γ,st,inv,μ,hlen,⟨x0,hw,h0⟩,hround⟩:=hK
   have hn:∀x,inv x->w0.n<=(st x).o.length:=λx hx=>by
    have h1:=hlen x hx;rw[m7,m7] at h1;obtain⟨I,g,h⟩:=h;exact c3E h.lo h1
   refine wpIn_loop_ghost (λm a w=>∃x,inv x/\U8 I0 X w0 (st x) a w/\μ x=m) (μ x0) ⟨x0,h0,hR _ _ hw (hn x0 h0) _ _ h,rfl⟩ ?_
   rintro m a1 w1 ⟨x,hx,h1,rfl⟩
   refine G1 c (st x) a1 w1 _ _ hok h1 (hround x hx) λe s2 a2 w2 h2 hk=>?_
   cases e with
   | normal =>
    obtain⟨y,hy,hlt,hwk⟩:=hk;exact⟨μ y,hlt,y,hy,hR _ _ hwk (hn y hy) _ _ h2,rfl⟩
   | exit i=>exact hQ (.exit i) _ _ _ h2 hk
   | ret=>exact hQ .ret _ _ _ h2 hk
  have hlo:w0.n<=j2 s.o:=by obtain⟨I,g,h⟩:=h;rw[m7];exact h.lo
  rcases hK with hK|hK|hK
  ·exact key weak (λ_ _ hw hn a w h=>h.weak hn (.inr hw)) hK
  ·exact key Eq (λ_ _ hw hn a w h=>h.weak hn (.inl hw)) hK
  ·exact key (b6r (j2 s.o)) (λ_ _ hw _ a w h=>hw I0 X w0 a w hlo h) hK
 | .exit i,s,a,w,K,Q,_,h,hK,hQ=>wpIn_exit (hQ _ _ _ _ h hK)
 | .ret,s,a,w,K,Q,_,h,hK,hQ=>wpIn_ret (hQ _ _ _ _ h hK)
 | .rangeFunc f ps x y,s,a,w,K,Q,_,h,hK,hQ=>by cases hK
 | .scope c,s,a,w,K,Q,_,h,hK,hQ=>by cases hK
 | .label l,s,a,w,K,Q,_,h,hK,hQ=>by cases hK
 | .goto l,s,a,w,K,Q,_,h,hK,hQ=>by cases hK
 | .refuse y,s,a,w,K,Q,_,h,hK,hQ=>by cases hK
theorem a4J (c:Code) (s:S) (a:Act) (w:World) (K:Vm.X->S->Prop) (Q:Exit->Act->World->Prop) (hok:o9 Tryd.prog c=true) (h:U8 I0 X w0 s a w) (hK:w5 a7 c s K) (hQ:∀e s' a' w',U8 I0 X w0 s' a' w'->K e s'->Q (toE e) a' w'):c.wp Tryd.prog Q a w :=
 wpIn_wide.1 (G1 (ro:=none) (n:=0) c s a w K Q hok h hK hQ)
end
def a7p (a:Ar) (s:S):List ResultVar->List R->Prop
 | [],[]=>True
 | .tmp t::l,r::q=>toR s.o (m8 s.t t)=some r/\a7p a s l q
 | .cell b t::l,r::q=>B1 a s.o (λy=>toR s.o y=some r) t (m8 s.t b)/\a7p a s l q
 | _,_=>False
def c0m (a:Ar) (l:List ResultVar) (q:List R):X->S->Prop
 | .exit _,_=>False
 | .normal,s=>a7p a s l q
 | .ret,s=>a7p a s l q
def M5:List ResultVar->Bool
 | []=>true
 | .tmp _::l=>M5 l
 | .cell _ t::l=>c8 t && M5 l
def uns:Nat->List V
 | 0=>[]
 | n+1=>U7::uns n
theorem a3Y:∀n,uns n=List.replicate n U7
 | 0=>rfl
 | n+1=>by rw[uns,a3Y n];rfl
def a1B (rs:List R) (n:Nat):S:=⟨a1S (b0y rs) (uns n),[]⟩
section
variable {I0:Nat->Nat->Prop} {X:Nat->Prop} {w0:W0} {I:Nat->Nat->Prop} {g:Nat->Value} {s:S} {a:Act} {w:World}
def a8k (tmps:Array Value):ResultVar->Sem Value
 | .tmp t=>pure (tmps.getD t undef)
 | .cell b t=>do loadVar t (<-asAddr (tmps.getD b undef))
theorem a2L {t:Nat} {v u:Value} (h:(Instr.loadAt t v).run Tryd.prog w=.ok u w):(do loadVar t (<-asAddr v)).run Tryd.prog w=.ok u w:=by
 unfold Instr.loadAt Instr.sureAddr at h
 split at h
 ·simpa [asAddr] using h
 ·simp[stuck] at h
theorem b2w (h:RelI I0 X w0 I g s a w):∀ {l:List ResultVar} {q:List R},M5 l=true->a7p a7 s l q->∃vs:List Value,(l.mapM (a8k a.tmps)).run Tryd.prog w=.ok vs w/\a3A I w vs q
 | [],[],_,_=>⟨[],rfl,trivial⟩
 | [],_::_,_,h=>h.elim
 | .tmp t::l,[],_,h=>h.elim
 | .cell b t::l,[],_,h=>h.elim
 | .tmp t::l,r::q,hok,hr=>by
  obtain⟨vs,h1,h2⟩:=b2w h (l:=l) (q:=q) hok hr.2;have h3:=a67 h (h.get (.tmp t)) hr.1;refine⟨a.eval (.tmp t)::vs,?_,h3,h2⟩;rw[c4C];simp only[Sem.run_bind,h1,Result.andThen_ok,a8k,Sem.run_pure];rfl
 | .cell b t::l,r::q,hok,hr=>by
  rw[M5,c2B] at hok;obtain⟨vs,h1,h2⟩:=b2w h (l:=l) (q:=q) hok.2 hr.2;obtain⟨v,x,h3,h5,h6⟩:=a5q h hok.1 (h.get (.tmp b)) hr.1;refine⟨v::vs,?_,a67 h h5 h6,h2⟩;have h7:=a2L h3;rw[c4C];simp only[Sem.run_bind,a8k,Sem.run_pure] at h7 ⊢;have h8:((asAddr (a.tmps.getD b undef)).run Tryd.prog w).andThen (λa w'=>(loadVar t a).run Tryd.prog w')=.ok v w:=h7;rw[h8,Result.andThen_ok,h1];rfl
theorem a7q (h:RelI I0 X w0 I g s a w) {fn:Func} {q:List R} (hok:M5 fn.results.toList=true) (hr:a7p a7 s fn.results.toList q):∃v,(results fn a.tmps).run Tryd.prog w=.ok v w/\a28 I w v q:=by
 obtain⟨vs,h1,h2⟩:=b2w h hok hr
 have h3:(fn.results.mapM (a8k a.tmps)).run Tryd.prog w=.ok vs.toArray w:=by
  rw[Array.mapM_eq_mapM_toList]
  simp[h1]
 have h4:(results fn a.tmps).run Tryd.prog w=.ok (if h:vs.toArray.size=1 then vs.toArray[0] else .tuple vs.toArray) w:=by
  have h5:results fn a.tmps=(do let vs <-fn.results.mapM (a8k a.tmps);pure (if h:vs.size=1 then vs[0] else .tuple vs)):=by
   unfold results
   congr 1
  rw[h5,Sem.run_bind,h3];rfl
 refine⟨_,h4,?_⟩;have hl:=h2.len
 match q,vs,h2,hl with
 | [r],[v],h2,_=>exact h2.1
 | [],[],h2,_=>exact⟨[],rfl,h2⟩
 | r::r'::q,v::v'::vs,h2,_=>exact⟨_,by simp,h2⟩
theorem b0U {I0:Nat->Nat->Prop} {w:World} {rs:List R} {args:List Value} (hI:Wld I0 w) (hat:a3A I0 w args rs) (n:Nat):RelI I0 (λ_=>False) ⟨w,λ_=>.nilFunc,0,[]⟩ I0 (λ_=>.nilFunc) (a1B rs n) { tmps:=args.toArray++Array.replicate n undef,defers:=[] } w:=by
 refine⟨λ_ _ h=>h,λb k hb=>⟨hI.1 b k hb,λ_=>.inl hb⟩,Fr.refl _ _,n7.refl _ _,c3d _,λk hk=>absurd hk (c4O _),λk o ho=>by simp[a1B] at ho,λj k b hj=>?_,λ_ _=>rfl,?_,rfl,hI.2⟩
 ·obtain⟨o,ho,_⟩:=hj
  simp[a1B] at ho
 ·show f9 I0 w _ (args.toArray++Array.replicate n undef).toList (a1S (b0y rs) (uns n));rw[T7,c4c,a3Y];refine(a4y _ hat).append ?_;rw[c3T];refine⟨by simp,λi u c hu hc=>?_⟩;rw[c3M] at hu hc
  split at hu
  ·rename_i hi;rw[c2E hi] at hc;injection hu with hu;injection hc with hc;subst hu;subst hc;exact .tu [] [] rfl λi u c hu _=>by simp at hu
  ·cases hu
theorem a2a {f:Nat} {fn:Func} {c:Code} {rs q:List R} (hf:Tryd.prog.funcs[f]?=some fn) (hb:fn.body=some c) (hn:(fn.name != "runtime.NumGoroutine")=true) (hc:o9 Tryd.prog c=true) (hr:M5 fn.results.toList=true)
  (h:∀qa qb qc qd qe qf qg qh qi qj qk ql qm qo qp qq qs qt qu qv qw qx qy qz va vc vd ve vf vg vh vj vk vl vp vq vr vt vu vv vw vx vy,Ar.mk qa qb qc qd qe qf qg qh qi qj qk ql qm qo qp qq qs qt qu qv qw qx qy qz va vc vd ve vf vg vh vj vk vl vp vq vr vt vu vv vw vx vy=a7->w5 (Ar.mk qa qb qc qd qe qf qg qh qi qj qk ql qm qo qp qq qs qt qu qv qw qx qy qz va vc vd ve vf vg vh vj vk vl vp vq vr vt vu vv vw vx vy) c (a1B rs (fn.ntmps - m9 rs)) (λx s=>c0m (Ar.mk qa qb qc qd qe qf qg qh qi qj qk ql qm qo qp qq qs qt qu qv qw qx qy qz va vc vd ve vf vg vh vj vk vl vp vq vr vt vu vv vw vx vy) fn.results.toList q x s)):m6 f rs q:=by
 refine⟨by unfold a0U;rw[hf];simp only[hn,hb];rfl,?_⟩;intro I w args hI hat;have hlen:=hat.len;refine calls_of_wp hf hb ?_;have hsz:args.toArray.size=m9 rs:=by rw[x7];simp[hlen]
 rw[hsz];refine a4J (I0:=I) (X:=λ_=>False) (w0:=⟨w,λ_=>.nilFunc,0,[]⟩) c _ _ _ _ _ hc ⟨I,_,b0U hI hat _⟩ (h _ _ _ _ _ _ _ _ _ _ _ _ _ _ _ _ _ _ _ _ _ _ _ _ _ _ _ _ _ _ _ _ _ _ _ _ _ _ _ _ _ _ _ (show Ar.mk a7.wrap a7.add a7.sub a7.mul a7.quo a7.rem a7.bits a7.lt a7.le a7.eq a7.nz a7.seq a7.slt a7.bytes a7.cat a7.fits a7.slen a7.sget a7.ssub a7.txt a7.byt a7.nat a7.len a7.get a7.sub2 a7.app a7.set a7.room a7.mlook a7.mput a7.deq a7.rep a7.call a7.calld a7.callo a7.callx a7.new a7.lit a7.keep a7.next a7.ext a7.reg a7.loop=a7 from rfl)) λe s' a' w' hrel hk=>?_
 have key:a7p a7 s' fn.results.toList q->a'.defers=[]/\∃v,(results fn a'.tmps).run Tryd.prog w'=.ok v w'/\∃v',Ending.returned v=.returned v'/\a28 (nxt I w w') w' v' q/\Below w.heap.size w w':=λhk=>by
  obtain⟨I',g',h'⟩:=hrel;obtain⟨v,h1,h2⟩:=a7q h' hr hk;refine⟨h'.dfr.1,v,h1,v,rfl,?_,⟨h'.fr.os,h'.fr.tape,h'.fr.output,h'.fr.size,λb hb=>h'.fr.block b hb (λhx=>hx)⟩⟩
  have hnx:∀b k,I' b k->nxt I w w' b k:=λb k hbk=>by
   obtain⟨h3,h4⟩:=h'.lt b k hbk
   rcases c3o b w.heap.size with hlt|hge
   ·exact .inl ((h4 hlt).resolve_right (λhx=>hx))
   ·exact .inr ⟨hge,h3⟩
  match q,h2 with
  | [],⟨us,e,hu⟩=>exact⟨us,e,hu.mono hnx (n7.refl _ _)⟩
  | [r],hu=>exact AtR.mono hnx (n7.refl _ _) hu
  | r::r'::q,⟨us,e,hu⟩=>exact⟨us,e,hu.mono hnx (n7.refl _ _)⟩
 cases e with
 | normal=>exact key hk
 | exit i=>exact hk.elim
 | ret=>exact key hk
def I9 (a:Ar) (s:S):List ResultVar->(List V->Prop)->Prop
 | [],K=>K []
 | .tmp t::l,K=>I9 a s l (λvs=>K (m8 s.t t::vs))
 | .cell b t::l,K=>B1 a s.o (λy=>I9 a s l (λvs=>K (y::vs))) t (m8 s.t b)
def c0n (a:Ar) (n:Nat) (Q:List V->List O->Prop) (l:List ResultVar):Vm.X->S->Prop
 | .exit _,_=>False
 | .normal,s=>I9 a s l (λvs=>a.keep n Q vs s)
 | .ret,s=>I9 a s l (λvs=>a.keep n Q vs s)
def a2M (vs:List V) (os:List O) (n:Nat):S:=⟨a1S vs (uns n),os⟩
theorem a9G (h:RelI I0 X w0 I g s a w):∀ {l:List ResultVar} {K:List V->Prop},M5 l=true->I9 a7 s l K->∃us vs,(l.mapM (a8k a.tmps)).run Tryd.prog w=.ok us w/\f9 I w g us vs/\K vs
 | [],K,_,h=>⟨[],[],rfl,.nil I w g,h⟩
 | .tmp t::l,K,hok,hr=>by
  obtain⟨us,vs,h1,h2,h3⟩:=a9G h (l:=l) hok hr;refine⟨a.eval (.tmp t)::us,m8 s.t t::vs,?_,.cons (h.get (.tmp t)) h2,h3⟩;rw[c4C];simp only[Sem.run_bind,h1,Result.andThen_ok,a8k,Sem.run_pure];rfl
 | .cell b t::l,K,hok,hr=>by
  rw[M5,c2B] at hok;obtain⟨v,x,h3,h5,h6⟩:=a5q h hok.1 (h.get (.tmp b)) hr;obtain⟨us,vs,h1,h2,h4⟩:=a9G h (l:=l) hok.2 h6;refine⟨v::us,x::vs,?_,.cons h5 h2,h4⟩;have h7:=a2L h3;rw[c4C];simp only[Sem.run_bind,a8k,Sem.run_pure] at h7 ⊢;have h8:((asAddr (a.tmps.getD b undef)).run Tryd.prog w).andThen (λa w'=>(loadVar t a).run Tryd.prog w')=.ok v w:=h7;rw[h8,Result.andThen_ok,h1];rfl
theorem a0p (h:RelI I0 X w0 I g s a w) {fn:Func} {K:List V->Prop} (hok:M5 fn.results.toList=true) (hr:I9 a7 s fn.results.toList K):∃us vs,(results fn a.tmps).run Tryd.prog w=.ok (pkg us) w/\f9 I w g us vs/\K vs:=by
 obtain⟨us,vs,h1,h2,h3⟩:=a9G h hok hr;refine⟨us,vs,?_,h2,h3⟩
 have h4:(fn.results.mapM (a8k a.tmps)).run Tryd.prog w=.ok us.toArray w:=by
  rw[Array.mapM_eq_mapM_toList]
  simp[h1]
 have h5:results fn a.tmps=(do let vs <-fn.results.mapM (a8k a.tmps);pure (if h:vs.size=1 then vs[0] else .tuple vs)):=by
  unfold results
  congr 1
 rw[h5,Sem.run_bind,h4]
 match us with
 | []=>rfl
 | [u]=>rfl
 | u::u'::us =>
  show Result.ok _ w=_;rw[dif_neg (by simp)];rfl
theorem b0V {f:Nat} {fn:Func} {c:Code} {vs:List V} {os:List O} {Q:List V->List O->Prop} (hf:Tryd.prog.funcs[f]?=some fn) (hb:fn.body=some c) (hn:(fn.name != "runtime.NumGoroutine")=true) (hc:o9 Tryd.prog c=true) (hr:M5 fn.results.toList=true)
  (h:∀qa qb qc qd qe qf qg qh qi qj qk ql qm qo qp qq qs qt qu qv qw qx qy qz va vc vd ve vf vg vh vj vk vl vp vq vr vt vu vv vw vx vy,Ar.mk qa qb qc qd qe qf qg qh qi qj qk ql qm qo qp qq qs qt qu qv qw qx qy qz va vc vd ve vf vg vh vj vk vl vp vq vr vt vu vv vw vx vy=a7->w5 (Ar.mk qa qb qc qd qe qf qg qh qi qj qk ql qm qo qp qq qs qt qu qv qw qx qy qz va vc vd ve vf vg vh vj vk vl vp vq vr vt vu vv vw vx vy) c (a2M vs os (fn.ntmps - m9 vs)) (λx s=>c0n (Ar.mk qa qb qc qd qe qf qg qh qi qj qk ql qm qo qp qq qs qt qu qv qw qx qy qz va vc vd ve vf vg vh vj vk vl vp vq vr vt vu vv vw vx vy) (j2 os) Q fn.results.toList x s)):j3 f vs os Q:=by
 refine⟨by unfold a0U;rw[hf];simp only[hn,hb];rfl,?_⟩;intro I w g args hrel;have hv:f9 I w g args vs:=hrel.tmp;refine calls_of_wp hf hb ?_;have hsz:args.toArray.size=m9 vs:=by rw[x7];simp[hv.1]
 rw[hsz]
 have hstart:RelI I (Xof g os) ⟨w,g,os.length,[]⟩ I g (a2M vs os (fn.ntmps - m9 vs)) { tmps:=args.toArray++Array.replicate (fn.ntmps - m9 vs) undef,defers:=[] } w:=by
  refine⟨hrel.im,hrel.lt,hrel.fr,hrel.kp,hrel.lo,hrel.st,hrel.obj,hrel.dis,hrel.out,?_,rfl,hrel.dfr.2⟩;show f9 I w _ (args.toArray++Array.replicate (fn.ntmps - m9 vs) undef).toList (a1S vs (uns (fn.ntmps - m9 vs)));rw[T7,c4c,a3Y];refine hv.append ?_;rw[c3T];refine⟨by simp,λi u c hu hc=>?_⟩;rw[c3M] at hu hc
  split at hu
  ·rename_i hi;rw[c2E hi] at hc;injection hu with hu;injection hc with hc;subst hu;subst hc;exact .tu [] [] rfl λi u c hu _=>by simp at hu
  ·cases hu
 refine a4J (I0:=I) (X:=Xof g os) (w0:=⟨w,g,os.length,[]⟩) c _ _ _ _ _ hc ⟨I,_,hstart⟩ (h _ _ _ _ _ _ _ _ _ _ _ _ _ _ _ _ _ _ _ _ _ _ _ _ _ _ _ _ _ _ _ _ _ _ _ _ _ _ _ _ _ _ _ (show Ar.mk a7.wrap a7.add a7.sub a7.mul a7.quo a7.rem a7.bits a7.lt a7.le a7.eq a7.nz a7.seq a7.slt a7.bytes a7.cat a7.fits a7.slen a7.sget a7.ssub a7.txt a7.byt a7.nat a7.len a7.get a7.sub2 a7.app a7.set a7.room a7.mlook a7.mput a7.deq a7.rep a7.call a7.calld a7.callo a7.callx a7.new a7.lit a7.keep a7.next a7.ext a7.reg a7.loop=a7 from rfl)) λe s' a' w' hrel2 hk=>?_
 have key:I9 a7 s' fn.results.toList (λvs=>a7.keep (j2 os) Q vs s')->a'.defers=[]/\∃v,(results fn a'.tmps).run Tryd.prog w'=.ok v w'/\∃us res os2 I' g',Ending.returned v=.returned (pkg us)/\Q res os2/\RelI I (Xof g os) ⟨w,g,os.length,[]⟩ I' g' ⟨res,os2⟩ { tmps:=us.toArray,defers:=[] } w':=λhk=>by
  obtain⟨I',g',h'⟩:=hrel2;obtain⟨us,vs',h1,h2,ks,res',os',hko,hQ⟩:=a0p h' hr hk;rw[m7] at hko;exact⟨h'.dfr.1,_,h1,us,res',os',I',_,rfl,hQ,b3w h' rfl hko h2⟩
 cases e with
 | normal=>exact key hk
 | exit i=>exact hk.elim
 | ret=>exact key hk
end
/-! A call whose body is walked in place. -/
section
variable {I0:Nat->Nat->Prop} {X:Nat->Prop} {w0:W0} {I:Nat->Nat->Prop} {g:Nat->Value} {s:S} {a:Act} {w:World}
def L3 (vs:List V) (o:List O) (n:Nat):S:=⟨a1S vs (uns n),o6 o (.kl [])⟩
def a1q:Nat->List O->List O
 | 0,_=>[]
 | _+1,[]=>[]
 | n+1,x::l=>x::a1q n l
theorem a2N:∀(n:Nat) (l:List O),a1q n l=l.take n
 | 0,l=>by simp[a1q]
 | n+1,[]=>by simp[a1q]
 | n+1,x::l=>by simp[a1q,a2N n l]
def c0o (n:Nat):V->Bool
 | .tu vs=>a91 n vs
 | x=>b9U n x
theorem b3N {I:Nat->Nat->Prop} {w:World} {g g':Nat->Value} {n:Nat} (hg:∀k,k<n->g' k=g k) {v:Value} {x:V} (h:AtV I w g v x) (hl:c0o n x=true):AtV I w g' v x:=by
 unfold c0o at hl
 split at hl
 ·obtain⟨us,rfl,h2⟩:=h.untu;exact a0S (a9B hg h2 hl)
 ·exact b38 hg h hl
def b0W (n:Nat) (x:V) (o:List O):List O:=match c0o n x with
 | true=>match a1U n (a1q n o) with|true=>a1q n o|false=>A2 o n .dead
 | false=>A2 o n .dead
def a3I (n:Nat) (K:V->List O->List Nat->Prop) (res:List V) (s:S):Prop:=match m5 s.o n with
 | .kl ks=>K (a23 res) (b0W n (a23 res) s.o) ks
 | _=>False
def a3Z (a:Ar) (n:Nat) (K:V->List O->List Nat->Prop) (l:List ResultVar):Vm.X->S->Prop
 | .exit _,_=>False
 | .normal,s=>I9 a s l (λvs=>a3I n K vs s)
 | .ret,s=>I9 a s l (λvs=>a3I n K vs s)
theorem b3O {g:Nat->Value} {vs:List V} {us:List Value} (h:f9 I w g us vs):AtV I w g (pkg us) (a23 vs):=b6o h
theorem RelI.rebase (h:RelI I0 X w0 I g s a w) {us:List Value} {vs:List V} (hv:f9 I w g us vs):∃g',(∀k,k<s.o.length->g' k=g k)/\g' s.o.length=.agg ((List.range s.o.length).map g).toArray /\
  RelI I (Xof g' (o6 s.o (.kl []))) ⟨w,g',s.o.length+1,[]⟩ I g' ⟨vs,o6 s.o (.kl [])⟩ { tmps:=us.toArray,defers:=[] } w:=by
 obtain⟨ghost,hgh⟩:∃v:Value,v=.agg ((List.range s.o.length).map g).toArray:=⟨_,rfl⟩
 have h1:=h.newObj (.kl []) ghost ⟨((List.range s.o.length).map g).toArray,by rw[d9,hgh],by simp,λj u hu=>.inr (.inl (by
  have hj:j<s.o.length:=by have:=(c2I.1 hu).1;simpa using this
  rw[r8 (by omega)];simp only[c3W,c3i,List.getElem?_range hj,c3F,Option.some.injEq] at hu
  exact hu))⟩ (λj b _ _=>by rw[hgh];exact λh=>h)
 have hg:∀k,k<s.o.length->upd g s.o.length ghost k=g k:=λk hk=>r8 (by omega)
 have hlen:(s.obj (.kl [])).o.length=s.o.length+1:=by show (o6 s.o _).length=_;rw[a0m];simp
 refine⟨upd g s.o.length ghost,hg,by rw[d9,hgh],λ_ _ h=>h,λb k hb=>⟨(h.lt b k hb).1,λ_=>.inl hb⟩,Fr.refl _ _,n7.refl _ _,by rw[a0m];simp,λ_ _ _=>rfl,λk o ho=>?_,h1.dis,h1.out,hv.more (h.fresh _),rfl,h.tabs λb ⟨k,o,ho,hd,hg⟩=>((h1.obj k o ho).blk hd b hg).2⟩;have hob:=h1.obj k o ho;have hX:∀b,M9 (upd g s.o.length ghost k) b->o≠.dead->a12 (Xof (upd g s.o.length ghost) (o6 s.o (.kl []))) ⟨w,upd g s.o.length ghost,s.o.length+1,[]⟩ b:=λb hb hd=>.inr ⟨k,o,ho,hd,hb⟩
 cases o with
 | dead=>exact True.intro
 | box cs =>
  obtain⟨b,us,t,e1,e2,e3,e4,e5,e6⟩:=hob;exact⟨b,us,t,e1,e2,e3,e4,e5,hX b (by rw[e1];rfl) (by simp)⟩
 | row z e rows =>
  obtain⟨us,e1,e2,e3,e4⟩:=hob;exact⟨us,e1,e2,e3,λb hb=>⟨(e4 b hb).1,(e4 b hb).2.1,hX b ((a0T e1).2 hb) (by simp)⟩⟩
 | mp kt es =>
  obtain⟨b,l,c,e1,e2,e3,e4,e5⟩:=hob;exact⟨b,l,c,e1,e2,e3,e4,hX b (by rw[e1];rfl) (by simp)⟩
 | ob T vs =>
  obtain⟨b,e1,e2,e4,e5⟩:=hob;exact⟨b,e1,e2,e4,hX b (by rw[e1];rfl) (by simp)⟩
 | it P =>
  obtain⟨A,n,cap,F,e1,e2,e3,e4⟩:=hob;exact⟨A,n,cap,F,e1,e2,e3,λb hb=>⟨(e4 b hb).1,(e4 b hb).2.1,hX b (by rw[e1,z8];exact hb) (by simp)⟩⟩
 | kl ks=>exact hob
theorem RelI.unbase (h:RelI I0 X w0 I g s a w) {g':Nat->Value} {os2:List O} {t2:List V} {a2:Act} {w':World} {I2:Nat->Nat->Prop} {g2:Nat->Value} {ks:List Nat} (hg:∀k,k<s.o.length->g' k=g k) (hgn:g' s.o.length=.agg ((List.range s.o.length).map g).toArray)
  (h2:RelI I (Xof g' (o6 s.o (.kl []))) ⟨w,g',s.o.length+1,[]⟩ I2 g2 ⟨t2,os2⟩ a2 w') (hk:os2[s.o.length]?=some (.kl ks)):f9 I2 w' (a2D s.o.length g2) a.tmps.toList (z6 ks s.t)/\RelI I0 X w0 I2 g2 ⟨z6 ks s.t,os2.set s.o.length .dead⟩ a w':=by
 have hlo:s.o.length+1<=os2.length:=h2.lo
 have hX:∀b,Xof g' (o6 s.o (.kl [])) b->b<w.heap.size/\a12 X w0 b:=λb ⟨k,o,ho,hd,hb⟩=>by
  rw[a0m] at ho
  rcases c3o k s.o.length with hlt|hge
  ·rw[c2R hlt] at ho;rw[hg k hlt] at hb;exact(h.obj k o ho).blk hd b hb
  ·have hlt:=(c25.1 ho).1;rw[c29,c4r] at hlt;have:k=s.o.length:=by omega
   subst this;rw[hgn] at hb;exact hb.elim
 have hM:∀b,a12 (Xof g' (o6 s.o (.kl []))) ⟨w,g',s.o.length+1,[]⟩ b->a12 X w0 b:=λb hb=>by
  rcases hb with hb|hb
  ·exact .inl (c3E h.fr.size hb)
  ·exact(hX b hb).2
 have hst:∀k,k<s.o.length->H6 (g k)=true->g2 k=g k:=λk hk hr=>by
  rw[<-hg k hk] at hr ⊢;exact h2.st k (Nat.lt_succ_of_lt hk) hr
 have hkl:∀k,k<s.o.length->k∉ks->g2 k=g k\/g k=.nilFunc:=λk hk0 hks=>by
  obtain⟨us,e1,e2,e3⟩:=h2.obj _ _ hk;have e4:=h2.st s.o.length (Nat.lt_succ_self _) (by show H6 (g' s.o.length)=true;rw[hgn];rfl);have e5:g2 s.o.length=g' s.o.length:=e4;rw[e5,hgn] at e1;have e1:=Value.agg.inj e1;have hu:us[k]?=some (g k):=by rw[<-e1];simp[hk0]
  rcases e3 k _ hu with e6|e6|e6
  ·exact .inr e6
  ·exact .inl e6
  ·exact absurd e6 hks
 have hget:∀(k:Nat) (o:O),(os2.set s.o.length O.dead)[k]?=some o->o=O.dead\/os2[k]?=some o:=λk o ho=>by
  by_cases e:s.o.length=k
  ·subst e;rw[c2S (by omega)] at ho;exact .inl (Option.some.inj ho).symm
  ·rw[c2L e] at ho;exact .inr ho
 have hlv:∀k,A1 ⟨z6 ks s.t,os2.set s.o.length .dead⟩ k->A1 ⟨t2,os2⟩ k:=λk ⟨o,ho,hd⟩=>⟨o,(hget k o ho).resolve_left hd,hd⟩
 have hcut:f9 I2 w' (a2D s.o.length g2) a.tmps.toList (z6 ks s.t):=by
  classical
  have h3:f9 I w (λk=>if k<s.o.length then g2 k else g k) a.tmps.toList (z6 ks s.t):=by
   refine a5m ks (λk=>if g k=.nilFunc/\k<s.o.length then g2 k else g k) (λj hj=>?_) (λj hr=>?_) (h.tmp.more λk hk=>?_)
   ·by_cases hlt:j<s.o.length
    ·rw[c2E hlt]
     rcases hkl j hlt hj with e|e
     ·by_cases e':g j=.nilFunc
      ·rw[c2E ⟨e',hlt⟩]
      ·rw[c2H (λh=>e' h.1)];exact e
     ·rw[c2E ⟨e,hlt⟩]
    ·rw[c2H hlt,c2H (λh=>hlt h.2)]
   ·by_cases hlt:j<s.o.length
    ·rw[c2E hlt]
     by_cases e':g j=.nilFunc
     ·rw[c2E ⟨e',hlt⟩]
     ·rw[c2H (λh=>e' h.1)] at hr ⊢;exact hst j hlt hr
    ·rw[c2H hlt,c2H (λh=>hlt h.2)]
   ·rw[c2H (λh=>hk h.1)]
  refine(h3.more λk hk=>?_).mono (λb k hb=>h2.im b k hb) h2.kp;unfold a2D
  by_cases hc:k<s.o.length
  ·rw[c2E hc,c2E hc]
  ·rw[c2H hc] at hk;exact absurd (h.out k (by omega)) hk
 refine⟨hcut,?_⟩;refine⟨λb k hb=>h2.im b k (h.im b k hb),λb k hb=>⟨(h2.lt b k hb).1,λhlt=>?_⟩,⟨h2.fr.os.trans h.fr.os,h2.fr.tape.trans h.fr.tape,h2.fr.output.trans h.fr.output,c3E h.fr.size h2.fr.size,λb hb hx=>?_⟩,h.kp.trans λb k hb i hi=>h2.kp b k (h.im b k hb) i hi,?_,λk hk' hr=>?_,λk o ho=>?_,λj k b hj hk'=>h2.dis j k b (hlv j hj) (hlv k hk'),λk hk'=>?_,?_,h.dfr⟩
 ·rcases (h2.lt b k hb).2 (c3y hlt h.fr.size) with h3|h3
  ·exact(h.lt b k h3).2 hlt
  ·rcases (hX b h3).2 with h4|h4
   ·omega
   ·exact .inr h4
 ·refine(h2.fr.block b (c3y hb h.fr.size) λhx'=>?_).trans (h.fr.block b hb hx)
  rcases (hX b hx').2 with h4|h4
  ·omega
  ·exact hx h4
 ·show w0.n<=(os2.set s.o.length .dead).length;have:=h.lo;rw[c2K];omega
 ·have e:=h.st k hk' hr;have hlt:k<s.o.length:=c3y hk' h.lo;rw[<-e] at hr ⊢;exact hst k hlt hr
 ·rcases hget k o ho with rfl|ho
  ·exact True.intro
  have hob:=h2.obj k o ho;cases o with
  | dead=>exact True.intro
  | box cs =>
   obtain⟨b,us,t,e1,e2,e3,e4,e5,e6⟩:=hob;exact⟨b,us,t,e1,e2,e3,e4,e5,hM b e6⟩
  | row z e rows =>
   obtain⟨us,e1,e2,e3,e4⟩:=hob;exact⟨us,e1,e2,e3,λb hb=>⟨(e4 b hb).1,(e4 b hb).2.1,hM b (e4 b hb).2.2⟩⟩
  | mp kt es =>
   obtain⟨b,l,c,e1,e2,e3,e4,e5⟩:=hob;exact⟨b,l,c,e1,e2,e3,e4,hM b e5⟩
  | ob T vs =>
   obtain⟨b,e1,e2,e4,e5⟩:=hob;exact⟨b,e1,e2,e4,hM b e5⟩
  | it P =>
   obtain⟨A,n,cap,F,e1,e2,e3,e4⟩:=hob;exact⟨A,n,cap,F,e1,e2,e3,λb hb=>⟨(e4 b hb).1,(e4 b hb).2.1,hM b (e4 b hb).2.2⟩⟩
  | kl js=>exact hob
 ·have hk':(os2.set s.o.length .dead).length<=k:=hk';rw[c2K] at hk';exact h2.out k hk'
 ·exact(hcut.more λk hk=>by unfold a2D at hk ⊢;split at hk <;> first|rw[c2E (by assumption)]|exact absurd rfl hk)
theorem RelI.trim (h:RelI I0 X w0 I g s a w) {n:Nat} (hn:w0.n<=n) (hnl:n<=s.o.length) (h1:f9 I w (a2D n g) a.tmps.toList s.t) (h2:a1U n (s.o.take n)=true):RelI I0 X w0 I (a2D n g) ⟨s.t,s.o.take n⟩ a w:=by
 have hl:(s.o.take n).length=n:=by simp;omega
 have hg:∀k,k<n->a2D n g k=g k:=λk hk=>c2E hk
 have hget:∀k o,(s.o.take n)[k]?=some o->k<n/\s.o[k]?=some o:=λk o ho=>by
  rw[c3g] at ho
  split at ho
  ·exact⟨by assumption,ho⟩
  ·cases ho
 have hlv:∀k,A1 ⟨s.t,s.o.take n⟩ k->k<n/\A1 s k:=λk ⟨o,ho,hd⟩=>⟨(hget k o ho).1,o,(hget k o ho).2,hd⟩
 refine⟨h.im,h.lt,h.fr,h.kp,by show w0.n<=(s.o.take n).length;omega,λk hk hr=>(hg k (by omega)).trans (h.st k hk hr),λk o ho=>?_,λj k b hj hk hbj hbk=>?_,λk hk=>c2H (by have hk:(s.o.take n).length<=k:=hk;omega),h1,h.dfr⟩
 ·obtain⟨hk,hso⟩:=hget k o ho;have hob:=h.obj k o hso;cases o with
  | dead=>exact True.intro
  | box cs =>
   obtain⟨b,us,t,e1,e2,e3,e4⟩:=hob;exact⟨b,us,t,(hg k hk).trans e1,e2,a6p hg e3 (a40 h2 ho),e4⟩
  | row z e rows =>
   obtain⟨us,e1,e2,e3,e4⟩:=hob;exact⟨us,by rw[hg k hk];exact e1,e2,e3,by rw[hg k hk];exact e4⟩
  | mp kt es =>
   obtain⟨b,l,c,e1,e2⟩:=hob;exact⟨b,l,c,(hg k hk).trans e1,e2⟩
  | ob T vs =>
   obtain⟨b,e1,e2⟩:=hob;exact⟨b,(hg k hk).trans e1,e2⟩
  | it P =>
   obtain⟨A,n',cap,F,e1,e2⟩:=hob;exact⟨A,n',cap,F,(hg k hk).trans e1,e2⟩
  | kl ks =>
   obtain⟨us,e1,e2,e3⟩:=hob;refine⟨us,(hg k hk).trans e1,e2,λj u hu=>?_⟩;have hj:=(c2I.1 hu).1
   rcases e3 j u hu with e4|e4|e4
   ·exact .inl e4
   ·exact .inr (.inl ((hg j (by omega)).trans e4))
   ·exact .inr (.inr e4)
 ·obtain⟨hj1,hj2⟩:=hlv j hj;obtain⟨hk1,hk2⟩:=hlv k hk;rw[hg j hj1] at hbj;rw[hg k hk1] at hbk;exact h.dis j k b hj2 hk2 hbj hbk
theorem a9H {f:Nat} {fn:Func} {c:Code} {vs:List V} {o:List O} {K:V->List O->List Nat->Prop} (hf:Tryd.prog.funcs[f]?=some fn) (hb:fn.body=some c) (hn:(fn.name != "runtime.NumGoroutine")=true) (hc:o9 Tryd.prog c=true) (hr:M5 fn.results.toList=true)
  (h:w5 a7 c (L3 vs o (fn.ntmps - m9 vs)) (λx s=>a3Z a7 (j2 o) K fn.results.toList x s)):M8 f vs o K:=by
 refine⟨by unfold a0U;rw[hf];simp only[hn,hb];rfl,?_⟩;intro I0 X w0 I g t a w us hrel hv;refine calls_of_wp hf hb ?_;have hsz:us.toArray.size=m9 vs:=by rw[x7];simp[hv.1]
 rw[hsz];obtain⟨g',hg,hgn,h1⟩:=hrel.rebase hv
 have hstart:RelI I (Xof g' (o6 o (.kl []))) ⟨w,g',o.length+1,[]⟩ I g' (L3 vs o (fn.ntmps - m9 vs)) { tmps:=us.toArray++Array.replicate (fn.ntmps - m9 vs) undef,defers:=[] } w:=by
  refine⟨h1.im,h1.lt,h1.fr,h1.kp,h1.lo,h1.st,h1.obj,h1.dis,h1.out,?_,rfl,h1.dfr.2⟩;show f9 I w _ (us.toArray++Array.replicate (fn.ntmps - m9 vs) undef).toList (a1S vs (uns (fn.ntmps - m9 vs)));rw[T7,c4c,a3Y];refine f9.append h1.tmp ?_;rw[c3T];refine⟨by simp,λi u c hu hc=>?_⟩;rw[c3M] at hu hc
  split at hu
  ·rename_i hi;rw[c2E hi] at hc;injection hu with hu;injection hc with hc;subst hu;subst hc;exact .tu [] [] rfl λi u c hu _=>by simp at hu
  ·cases hu
 refine a4J c _ _ _ _ _ hc ⟨I,_,hstart⟩ h λe s' a' w' hrel2 hk=>?_
 have key:I9 a7 s' fn.results.toList (λvs=>a3I (j2 o) K vs s')->a'.defers=[]/\∃v,(results fn a'.tmps).run Tryd.prog w'=.ok v w'/\∃v' x o' ks I' g',Ending.returned v=.returned v'/\RelI I0 X w0 I' g' ⟨z6 ks t,o'⟩ a w'/\AtV I' w' g' v' x/\K x o' ks:=λhk=>by
  obtain⟨I2,g2,h2⟩:=hrel2;obtain⟨us2,res,r1,r2,r3⟩:=a0p h2 hr hk;unfold a3I at r3
  split at r3 <;> try exact r3.elim
  rename_i ks hks;have hks':=j1 hks (by simp);rw[m7] at hks' r3;obtain⟨hcut,h3⟩:=hrel.unbase hg hgn h2 hks';have hlo:o.length+1<=s'.o.length:=h2.lo;have hx:=b3O r2;refine⟨h2.dfr.1,_,r1,pkg us2,a23 res,b0W o.length (a23 res) s'.o,ks,I2,?_⟩;unfold b0W at r3 ⊢
  split
  ·rename_i hl2;rw[hl2] at r3;simp only at r3
   split
   ·rename_i hlo2;rw[hlo2] at r3;simp only at r3;rw[a2N] at hlo2 r3 ⊢
    have e:(s'.o.set o.length .dead).take o.length=s'.o.take o.length:=by
     rw[c4l (c2A _)]
    have h4:=h3.trim (n:=o.length) hrel.lo (by show o.length<=(s'.o.set _ _).length;rw[c2K];omega) hcut (by show a1U _ ((s'.o.set _ _).take _)=true;rw[e];exact hlo2);refine⟨a2D o.length g2,rfl,?_,b3N (λk hk=>c2E hk) hx hl2,r3⟩;have h5:(⟨z6 ks t,(s'.o.set o.length .dead).take o.length⟩:S)=⟨z6 ks t,s'.o.take o.length⟩:=by rw[e]
    rw[<-h5];exact h4
   ·rename_i hlo2;rw[hlo2] at r3;simp only at r3;rw[x5] at r3 ⊢;exact⟨g2,rfl,h3,hx,r3⟩
  ·rename_i hl2;rw[hl2] at r3;simp only at r3;rw[x5] at r3 ⊢;exact⟨g2,rfl,h3,hx,r3⟩
 cases e with
 | normal=>exact key hk
 | exit i=>exact hk.elim
 | ret=>exact key hk
def geN (n:Nat):List Nat->Bool
 | []=>true
 | k::l=>match Nat.ble n k with|true=>geN n l|false=>false
theorem b6K {n:Nat}:∀ {l:List Nat},geN n l=true->∀k∈l,n<=k
 | [],_,k,hk=>by simp at hk
 | j::l,h,k,hk=>by
  rw[geN] at h
  split at h
  ·rename_i hj
   rcases c2C.1 hk with rfl|hk
   ·exact c3u hj
   ·exact b6K h k hk
  ·cases h
theorem b8B {f:Nat} {fn:Func} {c:Code} {vs:List V} {o:List O} {K:V->List O->Prop} (hf:Tryd.prog.funcs[f]?=some fn) (hb:fn.body=some c) (hn:(fn.name != "runtime.NumGoroutine")=true) (hc:o9 Tryd.prog c=true) (hr:M5 fn.results.toList=true)
  (h:w5 a7 c (L3 vs o (fn.ntmps - m9 vs)) (λx s=>a3Z a7 (j2 o) (λx o' ks=>geN (j2 o) ks=true/\K x o') fn.results.toList x s)):a1V f vs o K:=by
 refine⟨by unfold a0U;rw[hf];simp only[hn,hb];rfl,?_⟩;intro I0 X w0 I g t a w us hrel hv;refine calls_of_wp hf hb ?_;have hsz:us.toArray.size=m9 vs:=by rw[x7];simp[hv.1]
 rw[hsz];obtain⟨g',hg,hgn,h1⟩:=hrel.rebase hv
 have hstart:RelI I (Xof g' (o6 o (.kl []))) ⟨w,g',o.length+1,[]⟩ I g' (L3 vs o (fn.ntmps - m9 vs)) { tmps:=us.toArray++Array.replicate (fn.ntmps - m9 vs) undef,defers:=[] } w:=by
  refine⟨h1.im,h1.lt,h1.fr,h1.kp,h1.lo,h1.st,h1.obj,h1.dis,h1.out,?_,rfl,h1.dfr.2⟩;show f9 I w _ (us.toArray++Array.replicate (fn.ntmps - m9 vs) undef).toList (a1S vs (uns (fn.ntmps - m9 vs)));rw[T7,c4c,a3Y];refine f9.append h1.tmp ?_;rw[c3T];refine⟨by simp,λi u c hu hc=>?_⟩;rw[c3M] at hu hc
  split at hu
  ·rename_i hi;rw[c2E hi] at hc;injection hu with hu;injection hc with hc;subst hu;subst hc;exact .tu [] [] rfl λi u c hu _=>by simp at hu
  ·cases hu
 refine a4J c _ _ _ _ _ hc ⟨I,_,hstart⟩ h λe s' a' w' hrel2 hk=>?_
 have key:I9 a7 s' fn.results.toList (λvs=>a3I (j2 o) (λx o' ks=>geN (j2 o) ks=true/\K x o') vs s')->a'.defers=[]/\∃v,(results fn a'.tmps).run Tryd.prog w'=.ok v w'/\∃v' x o' I' g',Ending.returned v=.returned v'/\RelI I0 X w0 I' g' ⟨t,o'⟩ a w'/\AtV I' w' g' v' x/\K x o':=λhk=>by
  obtain⟨I2,g2,h2⟩:=hrel2;obtain⟨us2,res,r1,r2,r3⟩:=a0p h2 hr hk;unfold a3I at r3
  split at r3 <;> try exact r3.elim
  rename_i ks hks;have hks':=j1 hks (by simp);rw[m7] at hks' r3
  have hge:geN o.length ks=true:=by
   have h7:=r3.1;exact h7
  replace r3:=r3.2;obtain⟨hcut,h3⟩:=hrel.unbase hg hgn h2 hks';have hlo:o.length+1<=s'.o.length:=h2.lo;have hx:=b3O r2
  have hgg:∀k,g k≠.nilFunc->k<o.length/\g2 k=g k:=λk hk=>by
   have hkn:k<o.length:=by
    rcases c3o k o.length with h8|h8
    ·exact h8
    ·exact absurd (hrel.out k h8) hk
   obtain⟨us3,e1,e2,e3⟩:=h2.obj _ _ hks'
   have e4:g2 o.length=.agg ((List.range o.length).map g).toArray:=by
    have h9:=h2.st o.length (by show o.length<o.length+1;omega) (by show H6 (g' o.length)=true;rw[hgn];rfl);rw[h9];exact hgn
   rw[e1] at e4;have e4:=Value.agg.inj e4
   have e5:us3[k]?=some (g k):=by
    rw[e4]
    simp[hkn]
   rcases e3 k _ e5 with h9|h9|h9
   ·exact absurd h9 hk
   ·exact⟨hkn,h9⟩
   ·have:=b6K hge _ h9;omega
  have htmp:=(hrel.tmp.mono h2.im h2.kp).more λk hk=>(hgg k hk).2
  have htmp2:f9 I2 w' (a2D o.length g2) a.tmps.toList t:=(hrel.tmp.mono h2.im h2.kp).more λk hk=>by unfold a2D;rw[c2E (hgg k hk).1];exact(hgg k hk).2
  refine⟨h2.dfr.1,_,r1,pkg us2,a23 res,b0W o.length (a23 res) s'.o,I2,?_⟩;unfold b0W at r3 ⊢
  split
  ·rename_i hl2;rw[hl2] at r3;simp only at r3
   split
   ·rename_i hlo2;rw[hlo2] at r3;simp only at r3;rw[a2N] at hlo2 r3 ⊢
    have e:(s'.o.set o.length .dead).take o.length=s'.o.take o.length:=by
     rw[c4l (c2A _)]
    have h4:=h3.trim (n:=o.length) hrel.lo (by show o.length<=(s'.o.set _ _).length;rw[c2K];omega) hcut (by show a1U _ ((s'.o.set _ _).take _)=true;rw[e];exact hlo2);refine⟨a2D o.length g2,rfl,?_,b3N (λk hk=>c2E hk) hx hl2,r3⟩;have h5:(⟨t,(s'.o.set o.length .dead).take o.length⟩:S)=⟨t,s'.o.take o.length⟩:=by rw[e]
    rw[<-h5];exact⟨h4.im,h4.lt,h4.fr,h4.kp,h4.lo,h4.st,h4.obj,h4.dis,h4.out,htmp2,h4.dfr⟩
   ·rename_i hlo2;rw[hlo2] at r3;simp only at r3;rw[x5] at r3 ⊢;exact⟨g2,rfl,⟨h3.im,h3.lt,h3.fr,h3.kp,h3.lo,h3.st,h3.obj,h3.dis,h3.out,htmp,h3.dfr⟩,hx,r3⟩
  ·rename_i hl2;rw[hl2] at r3;simp only at r3;rw[x5] at r3 ⊢;exact⟨g2,rfl,⟨h3.im,h3.lt,h3.fr,h3.kp,h3.lo,h3.st,h3.obj,h3.dis,h3.out,htmp,h3.dfr⟩,hx,r3⟩
 cases e with
 | normal=>exact key hk
 | exit i=>exact hk.elim
 | ret=>exact key hk
theorem b3P {n:Nat} (hout:∀k,n<=k->g k=.nilFunc):∀ {cs:List V} {us:List Value},f9 I w g us cs->(∀u∈us,u.oneCell'=true)->a68 n cs=true
 | [],us,h,_=>rfl
 | c::cs,us,h,h1=>by
  obtain⟨u,us',rfl,h2,h3⟩:=h.uncons
  have hlt:∀k,g k≠.nilFunc->Nat.blt k n=true:=λk hk=>by
   rw[c32]
   rcases c3o k n with h4|h4
   ·exact h4
   ·exact absurd (hout k h4) hk
  have hc:a2p n c=true:=by
   have hu:=h1 u (c27 ..);cases h2 with
   | d hh=>rfl
   | ag=>cases hu
   | tu=>cases hu
   | em=>rfl
   | own k A m cap hh=>exact hlt k (by intro e;rw[e] at hh;cases hh)
   | ptr k off b hh=>exact hlt k (by rw[hh];simp)
   | cl f us ks hl hh =>
    rw[a2p]
    have key:∀(ks:List Nat),(∀k∈ks,g k≠.nilFunc)->b4S n ks=true:=by
     intro ks
     induction ks with
     | nil=>intro _;rfl
     | cons k ks ih =>
      intro h;rw[b4S,hlt k (h k (c27 ..))];exact ih λk hk=>h k (c26 _ hk)
    refine key ks λk hk=>?_
    obtain⟨i,hi⟩:=c2Z.1 hk;have hlt':i<us.length:=by rw[hl];exact(c25.1 hi).1
    obtain⟨_,b,hb⟩:=hh i _ k (c28 hlt') hi;rw[hb];simp
   | el k i sz off b m cap hh=>exact hlt k (by rw[hh];simp)
   | ro b o off us cs hi hc hd=>rfl
   | mp k b hh=>exact hlt k (by rw[hh];simp)
   | bs k n' b cap hh hn=>exact hlt k (by rw[hh];simp)
   | jk v=>rfl
  rw[a68,hc];exact b3P hout h3 λu hu=>h1 u (c26 _ hu)
theorem RelI.low (h:RelI I0 X w0 I g s a w):a1U s.o.length s.o=true:=by
 have key:∀l:List O,(∀o∈l,∀cs,o=.box cs->a68 s.o.length cs=true)->a1U s.o.length l=true:=by
  intro l
  induction l with
  | nil=>intro _;rfl
  | cons o l ih =>
   intro h;have h2:=ih λo ho=>h o (c26 _ ho)
   cases o with
   | box cs=>rw[a1U,h _ (c27 ..) cs rfl];exact h2
   | _=>exact h2
 refine key s.o λo ho cs e=>?_
 subst e;obtain⟨k,hk⟩:=c2Z.1 ho;obtain⟨b,us,t,h1,h2,h3,h4,_⟩:=h.obj k _ hk;exact b3P h.out h3 h4
def a2O (p:Nat):List Nat->List Nat
 | []=>[]
 | k::l=>match Nat.ble p k with|true=>a2O p l|false=>k::a2O p l
def a7r (p:Nat):O->O
 | .kl ks=>.kl (a2O p ks)
 | x=>x
def C6:Nat->List O->List O
 | _,[]=>[]
 | p,x::l=>a7r p x::C6 (p+1) l
theorem a4a {p:Nat}:∀ {l:List Nat} {k:Nat},k∈l->k<p->k∈a2O p l
 | [],k,h,_=>by simp at h
 | j::l,k,h,hp=>by
  rw[a2O]
  split
  ·rename_i hj
   rcases c2C.1 h with rfl|h
   ·have:=c3u hj;omega
   ·exact a4a h hp
  ·rcases c2C.1 h with rfl|h
   ·exact c27 ..
   ·exact c26 _ (a4a h hp)
theorem a1C:∀(l:List O) (p i:Nat),(C6 p l)[i]?=(l[i]?).map (a7r (p+i))
 | [],p,i=>by simp[C6]
 | x::l,p,0=>by simp[C6]
 | x::l,p,i+1=>by rw[C6];simp only[c47];rw[a1C l (p+1) i];congr 2;omega
theorem a0L (p:Nat) (l:List O):(C6 p l).length=l.length:=by
 induction l generalizing p with
 | nil=>rfl
 | cons x l ih=>rw[C6,c2D,ih,c2D]
theorem b2x {p:Nat} {o:O} (h:a7r p o≠.dead):o≠.dead:=by rintro rfl;exact h rfl
theorem RelI.trimKl (h:RelI I0 X w0 I g s a w):RelI I0 X w0 I g ⟨s.t,C6 0 s.o⟩ a w:=by
 have hlv:∀k,A1 ⟨s.t,C6 0 s.o⟩ k->A1 s k:=λk ⟨o,ho,hd⟩=>by
  simp only[a1C,c3z] at ho;obtain⟨o',ho',rfl⟩:=ho;exact⟨o',ho',b2x hd⟩
 refine⟨h.im,h.lt,h.fr,h.kp,by rw[a0L];exact h.lo,h.st,λj o hj=>?_,λi j b hi hj=>h.dis i j b (hlv i hi) (hlv j hj),λj hj=>h.out j (by rw[a0L] at hj;exact hj),h.tmp,h.dfr⟩;simp only[a1C,c3z,c3v] at hj;obtain⟨o',ho',rfl⟩:=hj;have hob:=h.obj j o' ho';cases o' with
 | kl ks =>
  obtain⟨us,e1,e2,e3⟩:=hob;refine⟨us,e1,e2,λi u hu=>?_⟩
  rcases e3 i u hu with e4|e4|e4
  ·exact .inl e4
  ·exact .inr (.inl e4)
  ·have:=(c2I.1 hu).1;exact .inr (.inr (a4a e4 (by omega)))
 | _=>exact hob
theorem a4b {p:Nat}:∀ {l:List Nat} {k:Nat},k∈a2O p l->k∈l
 | [],k,h=>by simp[a2O] at h
 | j::l,k,h=>by
  rw[a2O] at h
  split at h
  ·exact c26 _ (a4b h)
  ·rcases c2C.1 h with rfl|h
   ·exact c27 ..
   ·exact c26 _ (a4b h)
theorem b2y {p:Nat} {o:O} (h:o≠.dead):a7r p o≠.dead:=by cases o <;> simp_all [a7r]
theorem RelI.untrim {t:List V} {o:List O} (h:RelI I0 X w0 I g ⟨t,C6 0 o⟩ a w):RelI I0 X w0 I g ⟨t,o⟩ a w:=by
 have hlv:∀k,A1 ⟨t,o⟩ k->A1 ⟨t,C6 0 o⟩ k:=λk ⟨x,hx,hd⟩=>⟨a7r (0+k) x,by simp only[a1C,hx];rfl,b2y hd⟩
 refine⟨h.im,h.lt,h.fr,h.kp,by have:=h.lo;rw[a0L] at this;exact this,h.st,λj x hj=>?_,λi j b hi hj=>h.dis i j b (hlv i hi) (hlv j hj),λj hj=>h.out j (by rw[a0L];exact hj),h.tmp,h.dfr⟩;have hob:=h.obj j (a7r (0+j) x) (by simp only[a1C];rw[show o[j]?=some x from hj];rfl);cases x with
 | kl ks =>
  obtain⟨us,e1,e2,e3⟩:=hob;refine⟨us,e1,e2,λi u hu=>?_⟩
  rcases e3 i u hu with e4|e4|e4
  ·exact .inl e4
  ·exact .inr (.inl e4)
  ·exact .inr (.inr (a4b e4))
 | _=>exact hob
def c1u (a:Ar) (o:List O) (l:List ResultVar) (q:List R):Vm.X->S->Prop
 | .exit _,_=>False
 | .normal,s=>I9 a s l λres=>m5 (C6 0 s.o) (j2 o)=.kl []/\a1q (j2 o) (C6 0 s.o)=C6 0 o/\a0A s.o res=some q
 | .ret,s=>I9 a s l λres=>m5 (C6 0 s.o) (j2 o)=.kl []/\a1q (j2 o) (C6 0 s.o)=C6 0 o/\a0A s.o res=some q
theorem b5j {us:List Value} {q:List R} (h:a3A I w us q):a28 I w (pkg us) q:=by
 match us,q,h with
 | [],[],h=>exact⟨[],rfl,h⟩
 | [u],[r],h=>exact h.1
 | u::u'::us,r::r'::q,h=>exact⟨_,rfl,h⟩
theorem c0p {f:Nat} {fn:Func} {c:Code} {vs:List V} {o:List O} {q:List R} (hf:Tryd.prog.funcs[f]?=some fn) (hb:fn.body=some c) (hn:(fn.name != "runtime.NumGoroutine")=true) (hc:o9 Tryd.prog c=true) (hr:M5 fn.results.toList=true)
  (h:w5 a7 c (L3 vs o (fn.ntmps - m9 vs)) (λx s=>c1u a7 o fn.results.toList q x s)):b6q f vs o (a2v q):=by
 refine⟨by unfold a0U;rw[hf];simp only[hn,hb];rfl,?_⟩;intro I0 X w0 I g t a w us hrel hv;refine calls_of_wp hf hb ?_;have hsz:us.toArray.size=m9 vs:=by rw[x7];simp[hv.1]
 rw[hsz];obtain⟨g',hg,hgn,h1⟩:=hrel.rebase hv
 have hstart:RelI I (Xof g' (o6 o (.kl []))) ⟨w,g',o.length+1,[]⟩ I g' (L3 vs o (fn.ntmps - m9 vs)) { tmps:=us.toArray++Array.replicate (fn.ntmps - m9 vs) undef,defers:=[] } w:=by
  refine⟨h1.im,h1.lt,h1.fr,h1.kp,h1.lo,h1.st,h1.obj,h1.dis,h1.out,?_,rfl,h1.dfr.2⟩;show f9 I w _ (us.toArray++Array.replicate (fn.ntmps - m9 vs) undef).toList (a1S vs (uns (fn.ntmps - m9 vs)));rw[T7,c4c,a3Y];refine f9.append h1.tmp ?_;rw[c3T];refine⟨by simp,λi u c hu hc=>?_⟩;rw[c3M] at hu hc
  split at hu
  ·rename_i hi;rw[c2E hi] at hc;injection hu with hu;injection hc with hc;subst hu;subst hc;exact .tu [] [] rfl λi u c hu _=>by simp at hu
  ·cases hu
 refine a4J c _ _ _ _ _ hc ⟨I,_,hstart⟩ h λe s' a' w' hrel2 hk=>?_
 have key:I9 a7 s' fn.results.toList (λres=>m5 (C6 0 s'.o) (j2 o)=.kl []/\a1q (j2 o) (C6 0 s'.o)=C6 0 o/\a0A s'.o res=some q)->a'.defers=[]/\∃v,(results fn a'.tmps).run Tryd.prog w'=.ok v w'/\∃v' I' g',Ending.returned v=.returned v'/\RelI I0 X w0 I' g' ⟨t,o⟩ a w'/\AtV I' w' g' v' (a2v q):=λhk=>by
  obtain⟨I2,g2,h2⟩:=hrel2;obtain⟨us2,res,r1,r2,r3,r4,r5⟩:=a0p h2 hr hk;have hks':=j1 r3 (by simp);rw[m7] at hks' r4;rw[a2N] at r4;have h2':=h2.trimKl;obtain⟨hcut,h3⟩:=hrel.unbase hg hgn h2' hks';have hlo:o.length+1<=s'.o.length:=h2.lo
  have e:((C6 0 s'.o).set o.length .dead).take o.length=C6 0 o:=by
   rw[c4l (c2A _),r4]
  have h4:=h3.trim (n:=o.length) hrel.lo (by show o.length<=((C6 0 s'.o).set _ _).length;rw[c2K,a0L];omega) hcut (by show a1U _ (((C6 0 s'.o).set _ _).take _)=true;rw[e];have:=hrel.trimKl.low;rw[a0L] at this;exact this);have h5:(⟨z6 [] t,((C6 0 s'.o).set o.length .dead).take o.length⟩:S)=⟨t,C6 0 o⟩:=by rw[e];rfl
  refine⟨h2.dfr.1,_,r1,pkg us2,I2,a2D o.length g2,rfl,RelI.untrim ?_,a6k _ (b5j (a4z h2 r2 r5))⟩;rw[<-h5];exact h4
 cases e with
 | normal=>exact key hk
 | exit i=>exact hk.elim
 | ret=>exact key hk
end
def a54 (i:Nat):List V->Bool
 | []=>false
 | .own k::l=>match B8 k i with|true=>true|false=>a54 i l
 | _::l=>a54 i l
def b3Q:Nat->List V->Bool
 | 0,_=>true
 | n+1,vs=>match a54 n vs with|true=>b3Q n vs|false=>false
theorem a8G {i:Nat}:∀ {l:List V},a54 i l=true->∃p:Nat,l[p]?=some (V.own i)
 | [],h=>by cases h
 | x::l,h=>by
  have step:a54 i l=true->∃p:Nat,(x::l)[p]?=some (V.own i):=λh=>by
   obtain⟨p,hp⟩:=a8G h;exact⟨p+1,by simpa using hp⟩
  unfold a54 at h
  split at h
  ·cases ‹_=[]›
  ·rename_i k l' e;injection e with e1 e2;subst e1;subst e2
   split at h
   ·rename_i hk;rw[w8] at hk;subst hk;exact⟨0,rfl⟩
   ·exact step h
  ·rename_i e;injection e with e1 e2;subst e2;exact step h
theorem b0X:∀ {n:Nat} {vs:List V},b3Q n vs=true->∀i,i<n->∃p:Nat,vs[p]?=some (V.own i)
 | 0,_,_,i,hi=>absurd hi (c4O _)
 | n+1,vs,h,i,hi=>by
  rw[b3Q] at h
  split at h
  ·rename_i h1
   by_cases e:i=n
   ·subst e;exact a8G h1
   ·exact b0X h i (by omega)
  ·cases h
theorem c1v {I:Nat->Nat->Prop} {w:World} {g:Nat->Value}:∀ {res:List V} {v:Value},AtV I w g v (a23 res)->∃us,v=pkg us/\f9 I w g us res
 | [],v,h=>by
  obtain⟨us,rfl,h2⟩:=AtV.untu h;exact⟨us,by rw[h2.unnil];rfl,h2⟩
 | [r],v,h=>⟨[v],rfl,.cons h (.nil I w g)⟩
 | r::r'::res,v,h=>by
  obtain⟨us,rfl,h2⟩:=AtV.untu h;obtain⟨u,us',rfl,_,h4⟩:=h2.uncons;obtain⟨u',us'',rfl,_,_⟩:=h4.uncons;exact⟨_,rfl,h2⟩
def b8C:Nat->List O->Bool
 | 0,_=>true
 | n+1,.row _ _ _::l=>b8C n l
 | _,_=>false
theorem a9I:∀ {n:Nat} {l:List O},b8C n l=true->∀i,i<n->∃z e r,l[i]?=some (O.row z e r)
 | 0,_,_,i,hi=>absurd hi (c4O _)
 | n+1,[],h,_,_=>by cases h
 | n+1,o::l,h,i,hi=>by
  cases o with
  | row z e r =>
   cases i with
   | zero=>exact⟨z,e,r,rfl⟩
   | succ i=>exact a9I (n:=n) (l:=l) h i (by omega)
  | _=>cases h
theorem a0q {f:Nat} {fn:Func} {c:Code} {vs:List V} {os:List O} {Q:List V->List O->Prop} (hf:Tryd.prog.funcs[f]?=some fn) (hb:fn.body=some c) (hn:(fn.name != "runtime.NumGoroutine")=true) (hc:o9 Tryd.prog c=true) (hr:M5 fn.results.toList=true) (hs:b3Q (j2 os) vs=true) (hos:b8C (j2 os) os=true) (hq:∀res o',Q res o'->b8C (j2 os) o'=true)
  (h:∀qa qb qc qd qe qf qg qh qi qj qk ql qm qo qp qq qs qt qu qv qw qx qy qz va vc vd ve vf vg vh vj vk vl vp vq vr vt vu vv vw vx vy,Ar.mk qa qb qc qd qe qf qg qh qi qj qk ql qm qo qp qq qs qt qu qv qw qx qy qz va vc vd ve vf vg vh vj vk vl vp vq vr vt vu vv vw vx vy=a7->∀K:V->List O->List Nat->Prop,(∀res o',Q res o'->K (a23 res) o' [])->w5 (Ar.mk qa qb qc qd qe qf qg qh qi qj qk ql qm qo qp qq qs qt qu qv qw qx qy qz va vc vd ve vf vg vh vj vk vl vp vq vr vt vu vv vw vx vy) c (L3 vs os (fn.ntmps - m9 vs)) (λx s=>a3Z (Ar.mk qa qb qc qd qe qf qg qh qi qj qk ql qm qo qp qq qs qt qu qv qw qx qy qz va vc vd ve vf vg vh vj vk vl vp vq vr vt vu vv vw vx vy) (j2 os) K fn.results.toList x s)):a0W f vs os Q:=by
 have h0:=a9H (K:=λx o' ks=>ks=[]/\∃res,x=a23 res/\Q res o') (vs:=vs) (o:=os) hf hb hn hc hr (h _ _ _ _ _ _ _ _ _ _ _ _ _ _ _ _ _ _ _ _ _ _ _ _ _ _ _ _ _ _ _ _ _ _ _ _ _ _ _ _ _ _ _ (show Ar.mk a7.wrap a7.add a7.sub a7.mul a7.quo a7.rem a7.bits a7.lt a7.le a7.eq a7.nz a7.seq a7.slt a7.bytes a7.cat a7.fits a7.slen a7.sget a7.ssub a7.txt a7.byt a7.nat a7.len a7.get a7.sub2 a7.app a7.set a7.room a7.mlook a7.mput a7.deq a7.rep a7.call a7.calld a7.callo a7.callx a7.new a7.lit a7.keep a7.next a7.ext a7.reg a7.loop=a7 from rfl) _ λres o' hq=>⟨rfl,res,rfl,hq⟩);refine⟨h0.1,λI w g args hrel=>?_⟩;refine(h0.2 I (Xof g os) ⟨w,g,os.length,[]⟩ I g vs { tmps:=args.toArray,defers:=[] } w args hrel hrel.tmp).mono ?_
 rintro e w' ⟨v,x,o',ks,I',g',rfl,h',hv,rfl,res,rfl,hQ⟩
 obtain⟨us,rfl,hus⟩:=c1v hv;refine⟨us,res,o',I',g',rfl,⟨hQ,λi hi=>?_⟩,⟨h'.im,h'.lt,h'.fr,h'.kp,h'.lo,h'.st,h'.obj,h'.dis,h'.out,hus,rfl,h'.dfr.2⟩⟩;have hq2:=hq _ _ hQ;rw[m7] at hs hos hq2;obtain⟨p,hp⟩:=b0X hs i hi;obtain⟨z1,f1,r1,ho1⟩:=a9I hos i hi;obtain⟨z2,f2,r2,ho2⟩:=a9I hq2 i hi;obtain⟨us1,hw1,_⟩:=hrel.obj i _ ho1;obtain⟨us2,hw2,_⟩:=h'.obj i _ ho2;have e1:f9 I w g args vs:=hrel.tmp;have e2:f9 I' w' g' args vs:=h'.tmp;have hlt:p<args.length:=by rw[e1.1];exact(c25.1 hp).1
 have ha:args[p]?=some args[p]:=c28 hlt;rw[<-a27 hw1,<-a27 hw2,<-(e1.2 p _ _ ha hp).unown.1,<-(e2.2 p _ _ ha hp).unown.1]
section
variable {f:Nat} {fn:Func} {c:Code}
theorem Y8 {rs q:List R} (hf:Tryd.prog.funcs[f]?=some fn) (hb:fn.body=some c) (h:∀qa qb qc qd qe qf qg qh qi qj qk ql qm qo qp qq qs qt qu qv qw qx qy qz va vc vd ve vf vg vh vj vk vl vp vq vr vt vu vv vw vx vy,Ar.mk qa qb qc qd qe qf qg qh qi qj qk ql qm qo qp qq qs qt qu qv qw qx qy qz va vc vd ve vf vg vh vj vk vl vp vq vr vt vu vv vw vx vy=a7->w5 (Ar.mk qa qb qc qd qe qf qg qh qi qj qk ql qm qo qp qq qs qt qu qv qw qx qy qz va vc vd ve vf vg vh vj vk vl vp vq vr vt vu vv vw vx vy) c (a1B rs (fn.ntmps - m9 rs)) (λx s=>c0m (Ar.mk qa qb qc qd qe qf qg qh qi qj qk ql qm qo qp qq qs qt qu qv qw qx qy qz va vc vd ve vf vg vh vj vk vl vp vq vr vt vu vv vw vx vy) fn.results.toList q x s)) (hn:(fn.name != "runtime.NumGoroutine")=true:=by kernel_rfl) (hc:o9 Tryd.prog c=true:=by kernel_rfl) (hr:M5 fn.results.toList=true:=by kernel_rfl):m6 f rs q:=a2a hf hb hn hc hr h
theorem so9 {vs:List V} {os:List O} {Q:List V->List O->Prop} (hf:Tryd.prog.funcs[f]?=some fn) (hb:fn.body=some c) (h:∀qa qb qc qd qe qf qg qh qi qj qk ql qm qo qp qq qs qt qu qv qw qx qy qz va vc vd ve vf vg vh vj vk vl vp vq vr vt vu vv vw vx vy,Ar.mk qa qb qc qd qe qf qg qh qi qj qk ql qm qo qp qq qs qt qu qv qw qx qy qz va vc vd ve vf vg vh vj vk vl vp vq vr vt vu vv vw vx vy=a7->w5 (Ar.mk qa qb qc qd qe qf qg qh qi qj qk ql qm qo qp qq qs qt qu qv qw qx qy qz va vc vd ve vf vg vh vj vk vl vp vq vr vt vu vv vw vx vy) c (a2M vs os (fn.ntmps - m9 vs)) (λx s=>c0n (Ar.mk qa qb qc qd qe qf qg qh qi qj qk ql qm qo qp qq qs qt qu qv qw qx qy qz va vc vd ve vf vg vh vj vk vl vp vq vr vt vu vv vw vx vy) (j2 os) Q fn.results.toList x s)) (hn:(fn.name != "runtime.NumGoroutine")=true:=by kernel_rfl) (hc:o9 Tryd.prog c=true:=by kernel_rfl) (hr:M5 fn.results.toList=true:=by kernel_rfl):j3 f vs os Q:=b0V hf hb hn hc hr h
end
end
section
def wrO:List Oper->List Nat->List Nat
 | [],acc=>acc
 | ⟨some d,_,_,_,_,_⟩::l,acc=>d::wrO l acc
 | _::l,acc=>wrO l acc
def wr:Code->List Nat->List Nat
 | .region _ ops _,acc=>wrO ops.toList acc
 | .seq c d,acc=>wr c (wr d acc)
 | .cond _ c d,acc=>wr c (wr d acc)
 | .block _ c,acc=>wr c acc
 | .loop c,acc=>wr c acc
 | _,acc=>acc
def b6L:List Nat->List V->List V
 | [],t=>t
 | i::l,t=>b6L l (G7 t i .jk)
def b3R:List (Nat×V)->List V->List V
 | [],t=>t
 | (i,v)::l,t=>b3R l (G7 t i v)
def b3S:List (Nat×O)->List O->List O
 | [],o=>o
 | (k,x)::l,o=>b3S l (A2 o k x)
theorem a8H:∀(l:List (Nat×O)) (o:List O),(b3S l o).length=o.length
 | [],_=>rfl
 | (k,x)::l,o=>by rw[b3S,a8H l,x5,c2K]
def head (c:Code) (s:S) (l:List (Nat×V)) (m:List (Nat×O)):S:=⟨b3R l (b6L (wr c []) s.t),b3S m s.o⟩
def H7:Code->Code
 | .seq c _=>c
 | c=>c
def f7:Code->Code
 | .seq _ c=>c
 | c=>c
section
variable {I0:Nat->Nat->Prop} {X:Nat->Prop} {w0:W0} {I:Nat->Nat->Prop} {g:Nat->Value} {s:S} {a:Act} {w:World}
theorem RelI.reread (h:RelI I0 X w0 I g s a w) {i:Nat} {x:V} (hx:∀v,a.tmps.toList[i]?=some v->AtV I w g v x):RelI I0 X w0 I g ⟨G7 s.t i x,s.o⟩ a w:=by
 refine⟨h.im,h.lt,h.fr,h.kp,h.lo,h.st,h.obj,h.dis,h.out,?_,h.dfr⟩;rw[N7];refine⟨by rw[c2K];exact h.tmp.1,λj v y hv hy=>?_⟩
 by_cases hji:i=j
 ·subst hji;have hlt:i<s.t.length:=by have:=(c25.1 hy).1;rw[c2K] at this;exact this
  rw[c2S hlt] at hy;cases hy;exact hx v hv
 ·rw[c2L hji] at hy;exact h.tmp.2 j v y hv hy
end
theorem v7.own (s:S) (i e:Nat) (z:Bool) (hi:m8 s.t i=.em):v7 s ⟨G7 s.t i (.own (j2 s.o)),o6 s.o (.row z e [])⟩:=by
 rintro I0 X w0 a w ⟨I,g,h⟩
 have h2:=h.newObj (.row z e []) (.slice none 0 0) ⟨[],by rw[d9];exact World.ownsRow_nil w 0 e _,by simp,s8.nil I w,λb hb=>by rw[d9] at hb;cases hb⟩ (λj b _ _ hb=>by cases hb);refine⟨I,upd g s.o.length (.slice none 0 0),?_⟩;have h3:RelI I0 X w0 I (upd g s.o.length (.slice none 0 0)) ⟨s.t,o6 s.o (.row z e [])⟩ a w:=h2;refine h3.reread λv hv=>?_
 have hs:=Q0 hi (by simp);have h4:=h.tmp.2 i v _ hv hs;rw[h4.unem];exact .own _ _ _ _ (by rw[m7,d9];rfl)
theorem v7.weaker (s s':S) (hw:Vm.weak s s') (hl:j2 s.o=j2 s'.o):v7 s s':=λI0 X w0 a w h=>h.weak (by
 obtain⟨I,g,h⟩:=h;have:=h.lo;rw[<-m7,<-hl,m7]
 exact this) (.inr hw)
section
variable {qa:IntKind->Int->Int} {qb:Int->Int->Int} {qc:Int->Int->Int} {qd:Int->Int->Int} {qe:Int->Int->Int} {qf:Int->Int->Int} {qg:BinOp->IntKind->Int->IntKind->Int->Option Int} {qh:Int->Int->Bool} {qi:Int->Int->Bool} {qj:Int->Int->Bool} {qk:Int->Prop->Prop} {ql:List UInt8->List UInt8->Bool} {qm:List UInt8->List UInt8->Bool} {qo:ByteArray->List UInt8} {qp:ByteArray->ByteArray->ByteArray} {qq:ByteArray->ByteArray->Prop->Prop} {qs:ByteArray->Int} {qt:ByteArray->Int->Option Int} {qu:ByteArray->Int->Int->Option ByteArray} {qv:List (List D)->Option ByteArray} {qw:ByteArray->List (List D)} {qx:Int->Nat->Option Nat} {qy:List (List D)->Int} {qz:List (List D)->Int->Option (List D)} {va:List (List D)->Int->Int->Option (List (List D))} {vc:List (List D)->List (List D)->List (List D)} {vd:List (List D)->Int->List D->List (List D)} {ve:List (List D)->List (List D)->Prop->Prop} {vf:List (R×R)->R->Option R} {vg:List (R×R)->R->R->List (R×R)} {vh:List D->List D->Bool} {vj:Int->List D->(List (List D)->Prop)->Prop} {vk:Nat->List R->(List R->Prop)->Prop} {vl:Nat->List V->List O->(V->Prop)->Prop} {vp:Nat->List V->S->(V->S->Prop)->Prop} {vq:Nat->List V->List Nat->S->(V->S->Prop)->Prop} {vr:Nat->(Bool->Prop)->Prop} {vt:Nat->(Bool->Prop)->Prop} {vu:Nat->(List V->List O->Prop)->List V->S->Prop} {vv:(S->Prop)->S->Prop} {vw:Op->Option Nat->S->(S->Prop)->Prop} {vx:Array Oper->S->(S->Prop)->Prop} {vy:Code->(S->(X->S->Prop)->Prop)->S->(X->S->Prop)->Prop}
theorem l9 (hA:Ar.mk qa qb qc qd qe qf qg qh qi qj qk ql qm qo qp qq qs qt qu qv qw qx qy qz va vc vd ve vf vg vh vj vk vl vp vq vr vt vu vv vw vx vy=a7) {c:Code} {body:S->(X->S->Prop)->Prop} {s:S} {K:X->S->Prop} {γ:Type} (slots:γ->List (Nat×V)) (objs:γ->List (Nat×O)) (inv:γ->Prop) (μ:γ->Nat) (x0:γ) (h0:inv x0) (hw:weak s (head c s (slots x0) (objs x0)))
  (hr:∀x,inv x->body (head c s (slots x) (objs x)) (λe s'=>a3P (λs2=>∃y,inv y/\μ y<μ x/\weak s2 (head c s (slots y) (objs y))) K e s')):vy c body s K:=by
 have e:vy=a7.loop:=congrArg Ar.loop hA;rw[e];exact .inl ⟨γ,λx=>head c s (slots x) (objs x),inv,μ,λx _=>by rw[m7,m7];exact Nat.le_of_eq (a8H _ _).symm,⟨x0,hw,h0⟩,hr⟩
theorem b5 (hA:Ar.mk qa qb qc qd qe qf qg qh qi qj qk ql qm qo qp qq qs qt qu qv qw qx qy qz va vc vd ve vf vg vh vj vk vl vp vq vr vt vu vv vw vx vy=a7) {N:S->Prop} {s:S} (h:N s):vv N s:=by
 have e:vv=a7.next:=congrArg Ar.next hA
 rw[e];exact⟨λs2=>s2=s,λ_ _ _ _ _ h=>⟨_,rfl,h⟩,λs2 e=>by subst e;exact h⟩
theorem A4 (hA:Ar.mk qa qb qc qd qe qf qg qh qi qj qk ql qm qo qp qq qs qt qu qv qw qx qy qz va vc vd ve vf vg vh vj vk vl vp vq vr vt vu vv vw vx vy=a7) {N:S->Prop} {s:S} (s':S) (hg:v7 s s') (h:N s'):vv N s:=by
 have e:vv=a7.next:=congrArg Ar.next hA
 rw[e];exact⟨λs2=>s2=s',λ_ _ _ _ _ hr=>⟨_,rfl,hg _ _ _ _ _ hr⟩,λs2 e=>by subst e;exact h⟩
theorem a7s (hA:Ar.mk qa qb qc qd qe qf qg qh qi qj qk ql qm qo qp qq qs qt qu qv qw qx qy qz va vc vd ve vf vg vh vj vk vl vp vq vr vt vu vv vw vx vy=a7) {op:Op} {dst:Option Nat} {s:S} {K:S->Prop} (h:a7.ext op dst s K):vw op dst s K:=by
 have e:vw=a7.ext:=congrArg Ar.ext hA;rw[e];exact h
theorem c0q (hA:Ar.mk qa qb qc qd qe qf qg qh qi qj qk ql qm qo qp qq qs qt qu qv qw qx qy qz va vc vd ve vf vg vh vj vk vl vp vq vr vt vu vv vw vx vy=a7) {N:S->Prop} {s:S} (ks:List Nat) (h:N ⟨s.t,frz ks s.o⟩):vv N s:=A4 hA _ (v7.frz s ks) h
theorem a55 (hA:Ar.mk qa qb qc qd qe qf qg qh qi qj qk ql qm qo qp qq qs qt qu qv qw qx qy qz va vc vd ve vf vg vh vj vk vl vp vq vr vt vu vv vw vx vy=a7) {N:S->Prop} {s:S} (i e:Nat) (z:Bool) (hi:m8 s.t i=.em) (h:N ⟨G7 s.t i (.own (j2 s.o)),o6 s.o (.row z e [])⟩):vv N s:=A4 hA _ (v7.own s i e z hi) h
theorem b9 (hA:Ar.mk qa qb qc qd qe qf qg qh qi qj qk ql qm qo qp qq qs qt qu qv qw qx qy qz va vc vd ve vf vg vh vj vk vl vp vq vr vt vu vv vw vx vy=a7) {f:Nat} {vs:List V} {s:S} {rs:List R} {K:V->S->Prop} (q:List R) (h:m6 f rs q) (hr:a0A s.o vs=some rs) (hK:K (a2v q) s):vp f vs s K:=by
 have e:vp=a7.callo:=congrArg Ar.callo hA;rw[e];exact(a6E h hr).mono λx o' ks ⟨e1,e2,e3⟩=>by subst e1;subst e2;subst e3;exact hK
theorem c5 (hA:Ar.mk qa qb qc qd qe qf qg qh qi qj qk ql qm qo qp qq qs qt qu qv qw qx qy qz va vc vd ve vf vg vh vj vk vl vp vq vr vt vu vv vw vx vy=a7) {f:Nat} {rs:List R} {K:List R->Prop} (q:List R) (h:m6 f rs q) (hK:K q):vk f rs K:=by
 have e:vk=a7.call:=congrArg Ar.call hA;rw[e];exact⟨q,h,hK⟩
theorem c7 (hA:Ar.mk qa qb qc qd qe qf qg qh qi qj qk ql qm qo qp qq qs qt qu qv qw qx qy qz va vc vd ve vf vg vh vj vk vl vp vq vr vt vu vv vw vx vy=a7) {f:Nat} {vs:List V} {s:S} {K:V->S->Prop} (ks:List Nat) {vs':List V} {os':List O} {Q:List V->List O->Prop} (h:j3 f vs' os' Q) (hs:SubOk ks vs' os' vs s) (hK:∀res os2,Q res os2->K (a23 (upT ks (j2 s.o) res)) (a1T ks os2 s)):vp f vs s K:=by
 have e:vp=a7.callo:=congrArg Ar.callo hA;rw[e];exact(b0A h hs).mono λx o' ks' ⟨e1,res,os2,hQ,e2,e3⟩=>by subst e1;subst e2;subst e3;exact hK res os2 hQ
theorem C3 (hA:Ar.mk qa qb qc qd qe qf qg qh qi qj qk ql qm qo qp qq qs qt qu qv qw qx qy qz va vc vd ve vf vg vh vj vk vl vp vq vr vt vu vv vw vx vy=a7) {f:Nat} {vs:List V} {s:S} {K:V->S->Prop} (ks:List Nat) {vs':List V} {os':List O} {Q:List V->List O->Prop} (h:a0W f vs' os' Q) (hs:SubOk ks vs' os' vs s) (hK:∀res os2,Q res os2->K (a23 (upT ks (j2 s.o) res)) ⟨s.t,I7 ks (a0B ks (j2 s.o) os2) s.o⟩):vp f vs s K:=by
 have e:vp=a7.callo:=congrArg Ar.callo hA;rw[e];exact(b09 h hs).mono λx o' ks' ⟨e1,res,os2,hQ,e2,e3⟩=>by subst e1;subst e2;subst e3;exact hK res os2 hQ
theorem d7 (hA:Ar.mk qa qb qc qd qe qf qg qh qi qj qk ql qm qo qp qq qs qt qu qv qw qx qy qz va vc vd ve vf vg vh vj vk vl vp vq vr vt vu vv vw vx vy=a7) {n:Nat} {Q:List V->List O->Prop} {res:List V} {s:S} (ks:List Nat) {res':List V} {os':List O} (h:KeepOk n ks res' os' res s) (hQ:Q res' os'):vu n Q res s:=by
 have e:vu=a7.keep:=congrArg Ar.keep hA;rw[e];exact⟨ks,res',os',h,hQ⟩
theorem b2z (hA:Ar.mk qa qb qc qd qe qf qg qh qi qj qk ql qm qo qp qq qs qt qu qv qw qx qy qz va vc vd ve vf vg vh vj vk vl vp vq vr vt vu vv vw vx vy=a7) {e:Nat} {K:Bool->Prop} (z:Bool) (h:K z):vr e K:=by
 have e1:vr=a7.new:=congrArg Ar.new hA;rw[e1];exact⟨z,h⟩
theorem P5 (hA:Ar.mk qa qb qc qd qe qf qg qh qi qj qk ql qm qo qp qq qs qt qu qv qw qx qy qz va vc vd ve vf vg vh vj vk vl vp vq vr vt vu vv vw vx vy=a7) {t:Nat} {K:Bool->Prop} (c:Bool) (h:K c):vt t K:=by
 have e:vt=a7.lit:=congrArg Ar.lit hA;rw[e];exact⟨c,h⟩
theorem j8 (hA:Ar.mk qa qb qc qd qe qf qg qh qi qj qk ql qm qo qp qq qs qt qu qv qw qx qy qz va vc vd ve vf vg vh vj vk vl vp vq vr vt vu vv vw vx vy=a7):(∀k n,qa k n=k.wrap n)/\(∀x y,qb x y=x+y)/\(∀x y,qc x y=x - y)/\(∀x y,qd x y=x * y)/\(∀x y,qe x y=x.tdiv y)/\(∀x y,qf x y=x.tmod y)/\(∀x y,qh x y=decide (x<y))/\(∀x y,qi x y=decide (x<=y))/\(∀x y,qj x y=(x == y)):=by
 first|(injection hA;subst_vars)|subst hA
 exact⟨λ_ _=>rfl,λ_ _=>rfl,λ_ _=>rfl,λ_ _=>rfl,λ_ _=>rfl,λ_ _=>rfl,λ_ _=>rfl,λ_ _=>rfl,λ_ _=>rfl⟩
theorem a4K (hA:Ar.mk qa qb qc qd qe qf qg qh qi qj qk ql qm qo qp qq qs qt qu qv qw qx qy qz va vc vd ve vf vg vh vj vk vl vp vq vr vt vu vv vw vx vy=a7):∀op k x k' y,qg op k x k' y=a62 op k x k' y:=by
 first|(injection hA;subst_vars)|subst hA
 exact λ_ _ _ _ _=>rfl
theorem nc (n:Nat):@NatCast.natCast Int instNatCastInt n=(n:Int):=rfl
theorem a6q (n:Int):a62 .shr .u64 n .u64 1=some (n / 2):=by
 show some (n.fdiv (2 ^ (min 1 64)))=some (n / 2);rw[show (2:Int) ^ (min 1 64)=2 from rfl,Int.fdiv_eq_ediv_of_nonneg _ (by omega)]
theorem A3 (hA:Ar.mk qa qb qc qd qe qf qg qh qi qj qk ql qm qo qp qq qs qt qu qv qw qx qy qz va vc vd ve vf vg vh vj vk vl vp vq vr vt vu vv vw vx vy=a7):(∀x y,ql x y=(x == y))/\(∀x y,qm x y=Op.bytesLess x y)/\(∀b,qo b=b.toList)/\(∀x y,qp x y=x++y)/\(∀b,qs b=(b.size:Int))/\(∀b n,qt b n=a7.sget b n)/\(∀b l h,qu b l h=a7.ssub b l h):=by
 first|(injection hA;subst_vars)|subst hA
 exact⟨λ_ _=>rfl,λ_ _=>rfl,λ_=>rfl,λ_ _=>rfl,λ_=>rfl,λ_ _=>rfl,λ_ _ _=>rfl⟩
theorem n9 (hA:Ar.mk qa qb qc qd qe qf qg qh qi qj qk ql qm qo qp qq qs qt qu qv qw qx qy qz va vc vd ve vf vg vh vj vk vl vp vq vr vt vu vv vw vx vy=a7):(∀r,qy r=(r.length:Int))/\(∀r n,qz r n=if 0<=n then r[n.toNat]? else none)/\(∀r l h,va r l h=a7.sub2 r l h)/\(∀x y,vc x y=x++y):=by
 first|(injection hA;subst_vars)|subst hA
 exact⟨λ_=>rfl,λ_ _=>rfl,λ_ _ _=>rfl,λ_ _=>rfl⟩
theorem H2 (hA:Ar.mk qa qb qc qd qe qf qg qh qi qj qk ql qm qo qp qq qs qt qu qv qw qx qy qz va vc vd ve vf vg vh vj vk vl vp vq vr vt vu vv vw vx vy=a7):(∀es r,vf es r=a1u es r)/\(∀es r q,vg es r q=a0y es r q)/\(∀i n,qx i n=a7.nat i n)/\∀rows i y,vd rows i y=rows.set i.toNat y:=by
 first|(injection hA;subst_vars)|subst hA
 exact⟨λ_ _=>rfl,λ_ _ _=>rfl,λ_ _=>rfl,λ_ _ _=>rfl⟩
theorem a9J (hA:Ar.mk qa qb qc qd qe qf qg qh qi qj qk ql qm qo qp qq qs qt qu qv qw qx qy qz va vc vd ve vf vg vh vj vk vl vp vq vr vt vu vv vw vx vy=a7) {x y:ByteArray} {k:Prop} (h:x.size+y.size<=4611686018427387904) (hk:k):qq x y k:=by
 have e:qq=a7.fits:=congrArg Ar.fits hA;rw[e];exact⟨h,hk⟩
theorem K4 (hA:Ar.mk qa qb qc qd qe qf qg qh qi qj qk ql qm qo qp qq qs qt qu qv qw qx qy qz va vc vd ve vf vg vh vj vk vl vp vq vr vt vu vv vw vx vy=a7) {x y:List (List D)} {k:Prop} (h:x.length+y.length<=137438953472) (hk:k):ve x y k:=by
 have e:ve=a7.room:=congrArg Ar.room hA;rw[e];exact⟨h,hk⟩
theorem b20 (hA:Ar.mk qa qb qc qd qe qf qg qh qi qj qk ql qm qo qp qq qs qt qu qv qw qx qy qz va vc vd ve vf vg vh vj vk vl vp vq vr vt vu vv vw vx vy=a7) {f:Nat} {fn:Func} {c:Code} {vs:List V} {s:S} {K:V->S->Prop} (hf:Tryd.prog.funcs[f]?=some fn) (hb:fn.body=some c) (hn:(fn.name != "runtime.NumGoroutine")=true) (hc:o9 Tryd.prog c=true) (hr:M5 fn.results.toList=true)
  (h:w5 (Ar.mk qa qb qc qd qe qf qg qh qi qj qk ql qm qo qp qq qs qt qu qv qw qx qy qz va vc vd ve vf vg vh vj vk vl vp vq vr vt vu vv vw vx vy) c (L3 vs s.o (fn.ntmps - m9 vs)) (λx s2=>a3Z (Ar.mk qa qb qc qd qe qf qg qh qi qj qk ql qm qo qp qq qs qt qu qv qw qx qy qz va vc vd ve vf vg vh vj vk vl vp vq vr vt vu vv vw vx vy) (j2 s.o) (λv o' ks=>K v ⟨z6 ks s.t,o'⟩) fn.results.toList x s2)):vp f vs s K:=by
 have e:vp=a7.callo:=congrArg Ar.callo hA;rw[hA] at h;rw[e];exact a9H hf hb hn hc hr h
end
end
theorem gn {P Q:Prop} (hq:Q) (h:Q->P:=by
  intro hq
  try cbv
  repeat ((with_reducible apply b5 hA);cbv)
  exact hq):P:=h hq
theorem gr {P Q:Prop} (hq:Q) (h:Q->P:=by
  intro hq
  iterate 2 (try cbv;repeat ((first|with_reducible apply b5 hA|rw[q0]|rw[q1]|rw[q2]|rw[q3]|rw[q4]|rw[q5]|rw[q6]|rw[q7]|rw[q8]|rw[q9]|rw[p0]|rw[p1]|rw[p2]|rw[p3]|rw[p4]|rw[p5]|rw[p6]|rw[p7]|rw[p8]|rw[p9]|rw[g0]|rw[g1]|rw[g2]|rw[g3]|rw[g4]|rw[g5]|rw[g6]|rw[g7]|rw[g8]|rw[g9]|rw[t0]|rw[t1]|rw[t2]|rw[t3]|rw[t4]|rw[t5]|rw[t6]|rw[t7]|rw[t8]|rw[t9]|rw[u0]|rw[u1]|rw[u2]|rw[u3]|rw[u4]|rw[u5]|rw[u6]|rw[u7]|rw[u8]|rw[u9]|refine b9 hA _ h0 rfl ?_|refine c5 hA _ h0 ?_|refine b9 hA _ h1 rfl ?_|refine c5 hA _ h1 ?_|refine b9 hA _ h2 rfl ?_|refine c5 hA _ h2 ?_|refine b9 hA _ h3 rfl ?_|refine c5 hA _ h3 ?_|refine b9 hA _ h4 rfl ?_|refine c5 hA _ h4 ?_|refine b9 hA _ c0 rfl ?_|refine c5 hA _ c0 ?_|refine b9 hA _ c1 rfl ?_|refine c5 hA _ c1 ?_|refine b9 hA _ c2 rfl ?_|refine c5 hA _ c2 ?_|refine b9 hA _ d0 rfl ?_|refine c5 hA _ d0 ?_|refine b9 hA _ k0 rfl ?_|refine c5 hA _ k0 ?_|refine b9 hA _ k1 rfl ?_|refine c5 hA _ k1 ?_|refine b9 hA _ k2 rfl ?_|refine c5 hA _ k2 ?_|refine b9 hA _ k3 rfl ?_|refine c5 hA _ k3 ?_|refine b9 hA _ hd rfl ?_|refine c5 hA _ hd ?_|refine b9 hA _ hc rfl ?_|refine c5 hA _ hc ?_|refine b9 hA _ hr rfl ?_|refine c5 hA _ hr ?_|refine b9 hA _ hT rfl ?_|refine c5 hA _ hT ?_|refine b9 hA _ kO rfl ?_|refine c5 hA _ kO ?_|refine P5 hA true ?_|refine K4 hA (by first|(simp only[c2D,c2N];omega)|omega) ?_);cbv))
  exact hq):P:=h hq
theorem fr {P:Prop} (h:P:=by
  iterate 2 (try cbv;repeat ((first|with_reducible apply b5 hA|rw[q0]|rw[q1]|rw[q2]|rw[q3]|rw[q4]|rw[q5]|rw[q6]|rw[q7]|rw[q8]|rw[q9]|rw[p0]|rw[p1]|rw[p2]|rw[p3]|rw[p4]|rw[p5]|rw[p6]|rw[p7]|rw[p8]|rw[p9]|rw[g0]|rw[g1]|rw[g2]|rw[g3]|rw[g4]|rw[g5]|rw[g6]|rw[g7]|rw[g8]|rw[g9]|rw[t0]|rw[t1]|rw[t2]|rw[t3]|rw[t4]|rw[t5]|rw[t6]|rw[t7]|rw[t8]|rw[t9]|rw[u0]|rw[u1]|rw[u2]|rw[u3]|rw[u4]|rw[u5]|rw[u6]|rw[u7]|rw[u8]|rw[u9]|refine b9 hA _ h0 rfl ?_|refine c5 hA _ h0 ?_|refine b9 hA _ h1 rfl ?_|refine c5 hA _ h1 ?_|refine b9 hA _ h2 rfl ?_|refine c5 hA _ h2 ?_|refine b9 hA _ h3 rfl ?_|refine c5 hA _ h3 ?_|refine b9 hA _ h4 rfl ?_|refine c5 hA _ h4 ?_|refine b9 hA _ c0 rfl ?_|refine c5 hA _ c0 ?_|refine b9 hA _ c1 rfl ?_|refine c5 hA _ c1 ?_|refine b9 hA _ c2 rfl ?_|refine c5 hA _ c2 ?_|refine b9 hA _ d0 rfl ?_|refine c5 hA _ d0 ?_|refine b9 hA _ k0 rfl ?_|refine c5 hA _ k0 ?_|refine b9 hA _ k1 rfl ?_|refine c5 hA _ k1 ?_|refine b9 hA _ k2 rfl ?_|refine c5 hA _ k2 ?_|refine b9 hA _ k3 rfl ?_|refine c5 hA _ k3 ?_|refine b9 hA _ hd rfl ?_|refine c5 hA _ hd ?_|refine b9 hA _ hc rfl ?_|refine c5 hA _ hc ?_|refine b9 hA _ hr rfl ?_|refine c5 hA _ hr ?_|refine b9 hA _ hT rfl ?_|refine c5 hA _ hT ?_|refine b9 hA _ kO rfl ?_|refine c5 hA _ kO ?_|refine P5 hA true ?_|refine K4 hA (by first|(simp only[c2D,c2N];omega)|omega) ?_);cbv))):P:=h
end Go.Proofs.YtlofmibkljoapaaDoor.Vm
end
section
namespace Go.Proofs.YtlofmibkljoapaaDoor
open Go.RowKit
set_option maxRecDepth 100000
set_option maxHeartbeats 4000000
def a7t (c:Int):Int:=if c<128 then 1 else if 192<=c/\c<224 then 2 else if 224<=c/\c<240 then 3 else if 240<=c/\c<248 then 4 else 0
def isB (r:Int):Bool:=decide (0<=r) && (decide (r<=1114111) && (decide (r<55296) || decide (57343<r)))
def c1w (r:Int):Int:=if r<128 then 1 else if r<2048 then 2 else if r<65536 then 3 else 4
def b21 (n c:Int):Int:=if n=1 then c else if n=2 then c % 32 else if n=3 then c % 16 else c % 8
def b8D (l:List Int) (m:Int):Nat->Int
 | 0=>m
 | k+1=>b8D l m k * 64+gb l (k+1) % 64
def b9F (l:List Int):Nat->Bool
 | 0=>true
 | k+1=>b9F l k && decide (gb l (k+1) / 64=2)
def c1x (l:List Int):Int×Int :=
 if a7t (gb l 0)=0\/(l.length:Int)<a7t (gb l 0) then (0,0) else
 if b9F l ((a7t (gb l 0)).toNat - 1)=true/\isB (b8D l (b21 (a7t (gb l 0)) (gb l 0)) ((a7t (gb l 0)).toNat - 1))=true/\c1w (b8D l (b21 (a7t (gb l 0)) (gb l 0)) ((a7t (gb l 0)).toNat - 1))=a7t (gb l 0)
 then (b8D l (b21 (a7t (gb l 0)) (gb l 0)) ((a7t (gb l 0)).toNat - 1),a7t (gb l 0)) else (0,0)

def V (l:List Int):Nat->Prop
 | 1=>gb l 0<128
 | 2=>192<=gb l 0/\gb l 0<224/\128<=gb l 1/\gb l 1<192/\128<=(gb l 0 - 192) * 64+(gb l 1 - 128)
 | 3=>224<=gb l 0/\gb l 0<240/\128<=gb l 1/\gb l 1<192/\128<=gb l 2/\gb l 2<192/\2048<=(gb l 0 - 224) * 4096+(gb l 1 - 128) * 64+(gb l 2 - 128) /\
   ((gb l 0 - 224) * 4096+(gb l 1 - 128) * 64+(gb l 2 - 128)<55296\/57343<(gb l 0 - 224) * 4096+(gb l 1 - 128) * 64+(gb l 2 - 128))
 | 4=>240<=gb l 0/\gb l 0<248/\128<=gb l 1/\gb l 1<192/\128<=gb l 2/\gb l 2<192/\128<=gb l 3/\gb l 3<192 /\
   65536<=(gb l 0 - 240) * 262144+(gb l 1 - 128) * 4096+(gb l 2 - 128) * 64+(gb l 3 - 128)/\(gb l 0 - 240) * 262144+(gb l 1 - 128) * 4096+(gb l 2 - 128) * 64+(gb l 3 - 128)<=1114111
 | _=>False
def nx (l:List Int) (a:Nat):Nat:=(c1x (l.drop a)).2.toNat
def Y9 (c:Int):Bool:=decide (97<=c) && decide (c<=122)
def a4c (c:Int):Bool:=decide (65<=c) && decide (c<=90)
def P6 (c:Int):Bool:=decide (48<=c) && decide (c<=57)
def b9G (c:Int):Bool:=Y9 c || (a4c c || (P6 c || c == 95))
theorem b5k (c:Int):Y9 c=true↔97<=c/\c<=122:=by unfold Y9;simp
theorem b5l (c:Int):a4c c=true↔65<=c/\c<=90:=by unfold a4c;simp
theorem b5m (c:Int):P6 c=true↔48<=c/\c<=57:=by unfold P6;simp
def a4L (c:Int):Int:=if Y9 c then 1 else if a4c c then 2 else if P6 c then 3 else if c=95 then 4 else 0
def a7u (s:ByteArray):List Int:=s.data.toList.map λb=>(b.toNat:Int)
def c2i (l:List Int) (i:Nat):Bool:=Y9 (gb l i) || (decide (0<i) && (P6 (gb l i) || gb l i == 95))
def b8E (l:List Int):Bool:=decide (0<l.length) && (List.range l.length).all (c2i l)
def c0r:List Int->Int->Int
 | [],n=>n
 | c::l,n=>c0r l (10 * n+(c - 48))
section
def J0:List ByteArray:=[⟨#[102,117,110]⟩,⟨#[114,101,99]⟩,⟨#[108,101,116]⟩,⟨#[105,110]⟩,⟨#[105,102]⟩,⟨#[116,104,101,110]⟩,⟨#[101,108,115,101]⟩,⟨#[99,97,115,101]⟩,⟨#[111,102]⟩,⟨#[101,110,100]⟩,⟨#[116,114,117,101]⟩,⟨#[102,97,108,115,101]⟩,⟨#[100,101,102]⟩,⟨#[73,110,116]⟩,⟨#[66,111,111,108]⟩]
def b6M:List ByteArray:=[⟨#[61,61]⟩,⟨#[61,62]⟩,⟨#[58,61]⟩,⟨#[45,62]⟩,⟨#[40]⟩,⟨#[41]⟩,⟨#[123]⟩,⟨#[125]⟩,⟨#[60]⟩,⟨#[62]⟩,⟨#[61]⟩,⟨#[44]⟩,⟨#[58]⟩,⟨#[59]⟩,⟨#[124]⟩,⟨#[46]⟩,⟨#[92]⟩,⟨#[64]⟩,⟨#[94]⟩,⟨#[63]⟩,⟨#[43]⟩,⟨#[45]⟩,⟨#[42]⟩,⟨#[47]⟩,⟨#[37]⟩]
def c2j:List Int:=[40,41,123,125,60,62,61,44,58,59,124,46,92,64,94,63,43,45,42,47,37]
def inB (ws:List ByteArray) (s:ByteArray):Bool:=ws.any λw=>w.toList == s.toList
def a8l (s:ByteArray):Bool:=inB J0 s
def c2k (a b:Int):Bool:=(a == 61 && b == 61) || ((a == 61 && b == 62) || ((a == 58 && b == 61) || (a == 45 && b == 62)))
def b6O (l:List Int):Nat:=if 2<=l.length/\c2k (gb l 0) (gb l 1)=true then 2 else if gb l 0∈c2j then 1 else 0
structure Tok where
 kind:Int
 text:ByteArray
 n:Int
 at_:Int
def Tok.cells (t:Tok):List Value:=[.int .u8 t.kind,.string t.text,.int .i64 t.n,.int .i64 t.at_]
def N4 (l:List Int):Int×Int :=
 if (gb l 0=48/\1<l.length)\/¬(l.all P6=true) then (0,4) else if 9223372036854775807<c0r l 0 then (0,7) else (c0r l 0,0)
def c0s (s:ByteArray) (at_:Int):Tok×Int :=
 if P6 (gb (a7u s) 0)=true then (⟨2,⟨#[]⟩,(N4 (a7u s)).1,at_⟩,(N4 (a7u s)).2) else
 if a8l s=true then (⟨3,s,0,at_⟩,0) else if b8E (a7u s)=false then (⟨1,s,0,at_⟩,4) else
 if 32<(a7u s).length then (⟨1,s,0,at_⟩,7) else (⟨1,s,0,at_⟩,0)
def c0t (c:Int):Bool:=c == 32 || (c == 9 || (c == 13 || c == 10))
def b3T (l:List Int) (a:Nat):List Int:=(l.drop a).takeWhile b9G
def body (rec_:Nat->Bool->List Tok->List Tok×Int×Int) (l:List Int) (a:Nat) (rem:Bool) (out:List Tok):List Tok×Int×Int :=
 if a<l.length then
  if nx l a=0 then ([],a,3)
  else if rem=true then rec_ (a+nx l a) (gb l a != 10) out
  else if c0t (gb l a)=true then rec_ (a+1) false out
  else if gb l a=35 then rec_ (a+1) true out
  else if b9G (gb l a)=true then
   if (c0s (strOfNums (b3T l a)) a).2=0 then rec_ (a+(b3T l a).length) false (out++[(c0s (strOfNums (b3T l a)) a).1]) else ([],a,(c0s (strOfNums (b3T l a)) a).2)
  else if b6O (l.drop a)=0 then ([],a,4)
  else rec_ (a+b6O (l.drop a)) false (out++[⟨3,strOfNums ((l.drop a).take (b6O (l.drop a))),0,a⟩])
 else (out++[⟨4,⟨#[]⟩,0,l.length⟩],0,0)
section
variable {l:List Int} {a:Nat} {rem:Bool} {out:List Tok}
end
end
inductive Ty where
 | mk (op:Int) (name:ByteArray) (n:Int) (kids:List Ty)
def Ty.op:Ty->Int|.mk op _ _ _=>op
def Ty.name:Ty->ByteArray|.mk _ nm _ _=>nm
def Ty.n:Ty->Int|.mk _ _ n _=>n
def Ty.kids:Ty->List Ty|.mk _ _ _ ks=>ks
theorem Ty.eta:∀t:Ty,t=.mk t.op t.name t.n t.kids|.mk _ _ _ _=>rfl
def a2P:Ty:=.mk 0 ⟨#[]⟩ 0 []
theorem Ty.sizeOf_kid {t x:Ty} (h:x∈t.kids):SizeOf.sizeOf x<SizeOf.sizeOf t:=by
 obtain⟨op,nm,n,ks⟩:=t;have:=List.sizeOf_lt_of_mem h;simp only[Ty.kids] at this;simp only[Ty.mk.sizeOf_spec];omega
theorem Ty.ind {P:Ty->Prop} (h:∀t,(∀x∈t.kids,P x)->P t) (t:Ty):P t:=h t λx _hx=>Ty.ind h x
termination_by SizeOf.sizeOf t
decreasing_by exact Ty.sizeOf_kid _hx
mutual
def Ty.parts:Ty->List Ty
 | .mk op nm n ks=>.mk op nm n ks::o5 ks
def o5:List Ty->List Ty
 | []=>[]
 | t::ts=>t.parts++o5 ts
end
theorem r6 (t:Ty):t.parts=t::o5 t.kids:=by
 obtain⟨op,nm,n,ks⟩:=t;rw[Ty.parts];rfl
theorem Q8:∀ts:List Ty,o5 ts=ts.flatMap Ty.parts
 | []=>by rw[o5];rfl
 | t::ts=>by rw[o5,Q8 ts];rfl
theorem d5 (t:Ty):t.parts=t::t.kids.flatMap Ty.parts:=by rw[r6,Q8]
theorem b0Y (ts:List Ty) (i:Nat) (t:Ty) (h:ts[i]?=some t):t.parts=t.parts/\(ts.take (i+1)).flatMap Ty.parts=(ts.take i).flatMap Ty.parts++t.parts:=by
 obtain⟨hi,e⟩:=c25.1 h;refine⟨rfl,?_⟩;rw[c4i hi,e]
 simp
theorem l6 (t:Ty):1<=t.parts.length:=by rw[r6];simp
theorem a3J:∀(ts:List Ty),ts.length<=(ts.flatMap Ty.parts).length/\∀x∈ts,x.parts.length<=(ts.flatMap Ty.parts).length
 | []=>by simp
 | u::us=>by
  have ih:=a3J us;have:=l6 u;simp only[c3H,c29,c2D];refine⟨by omega,λx hx=>?_⟩
  rcases c2C.1 hx with rfl|hx
  ·omega
  ·have:=ih.2 x hx;omega
theorem o7 (t:Ty):t.kids.length<t.parts.length/\∀x∈t.kids,x.parts.length<t.parts.length:=by
 rw[d5,c2D];have:=a3J t.kids;exact⟨by omega,λx hx=>by have:=this.2 x hx;omega⟩
def x6 (op:Int):Option (List Int) :=
 if op=1\/op=2\/op=3\/op=7\/op=8\/op=9\/op=10 then some [] else if op=4 then some [116,116] else if op=5\/op=6 then some [114] else if op=11 then some [116,114] else none
def a2Q (isWord:ByteArray->Bool) (t:Ty) (s:Int):Bool :=
 match x6 t.op with
 | none=>false
 | some k=>(decide (8<=t.op) == (s == 114)) && (decide (t.kids.length=k.length) && ((if t.op=11 then isWord t.name else decide (t.name.toList=[])) && (decide (0<=t.n) && (decide (t.op=7\/t.op=10) || decide (t.n=0)))))
mutual
def c9 (isWord:ByteArray->Bool):Ty->Int->Bool
 | .mk op nm n ks,s=>a2Q isWord (.mk op nm n ks) s && n6 isWord ks ((x6 op).getD [])
def n6 (isWord:ByteArray->Bool):List Ty->List Int->Bool
 | [],_=>true
 | t::ts,k::ks=>c9 isWord t k && n6 isWord ts ks
 | _::_,[]=>false
end
theorem a2R (iw:ByteArray->Bool) (t:Ty) (s:Int):c9 iw t s=(a2Q iw t s && n6 iw t.kids ((x6 t.op).getD [])):=by
 obtain⟨op,nm,n,ks⟩:=t;rw[c9];rfl
mutual
def J9:Ty->Ty->Bool
 | .mk o m n ks,.mk o' m' n' ks'=>(o == o') && ((m.toList == m'.toList) && ((n == n') && B5 ks ks'))
def B5:List Ty->List Ty->Bool
 | [],[]=>true
 | t::ts,u::us=>J9 t u && B5 ts us
 | _,_=>false
end
theorem a0F {a b:ByteArray}:a.toList=b.toList↔a=b:=by
 constructor
 ·intro h;rw[ByteArray.toList_eq,ByteArray.toList_eq] at h
  apply c4X
  exact Array.toList_inj.1 h
 ·rintro rfl;rfl
mutual
theorem a56:∀a b:Ty,J9 a b=true↔a=b
 | .mk o m n ks,.mk o' m' n' ks'=>by
  rw[J9];simp only[c2B,c3q,Ty.mk.injEq,a7v ks ks',a0F]
theorem a7v:∀a b:List Ty,B5 a b=true↔a=b
 | [],[]=>by rw[B5];simp
 | t::ts,u::us=>by
  rw[B5];simp only[c2B,List.cons.injEq,a56 t u,a7v ts us]
 | [],_::_=>by simp[B5]
 | _::_,[]=>by simp[B5]
end
def B9 (x y:Ty):Bool:=(x.op == 7) && ((y.op == 10) && (x.n == y.n))
def M6 (t:Ty):Bool:=t.parts.all λx=>t.parts.all λy=>!B9 x y
end Go.Proofs.YtlofmibkljoapaaDoor
end
section
namespace Go.Proofs.YtlofmibkljoapaaDoor.Vm
open Go.RowKit
set_option maxRecDepth 100000
set_option maxHeartbeats 4000000
theorem a3v {t:Ty} {x y:Ty} (hx:x∈t.parts) (hy:y∈t.parts) (h:B9 x y=true):M6 t=false:=by
 unfold M6;rw[List.all_eq_false];refine⟨x,hx,?_⟩
 have:(t.parts.all λy=>!B9 x y)=false:=by
  rw[List.all_eq_false];exact⟨y,hy,by rw[h];decide⟩
 rw[this]
 decide
theorem a1D {t:Ty} (h:∀x∈t.parts,∀y∈t.parts,B9 x y=false):M6 t=true:=by
 unfold M6;rw[c3a];intro x hx;rw[c3a];intro y hy;rw[h x hx y hy];rfl
def vbl (t:Ty):Option (Int×Bool):=if t.op=7 then some (t.n,false) else if t.op=10 then some (t.n,true) else none
def a7w {α:Type} (s:Int->Option α) (n:Int) (r:α):Int->Option α:=λx=>if x=n then some r else s x
def E6:List Ty->(Int->Option Bool)->Option (Int->Option Bool)
 | [],s=>some s
 | t::ts,s=>match vbl t with
  | none=>E6 ts s
  | some p=>if s p.1=some (!p.2) then none else E6 ts (a7w s p.1 p.2)
theorem a2S:∀(a b:List Ty) (s:Int->Option Bool),E6 (a++b) s=(E6 a s).bind (E6 b)
 | [],b,s=>rfl
 | t::ts,b,s=>by
  rw[c3C,E6,E6];cases vbl t with
  | none=>exact a2S ts b s
  | some p =>
   simp only
   split
   ·rfl
   ·exact a2S ts b _
theorem a9K:∀(ts:List Ty) (s:Int->Option Bool),(E6 ts s).isSome=true↔(∀x∈ts,∀p,vbl x=some p->s p.1≠some (!p.2))/\∀x∈ts,∀y∈ts,∀p q,vbl x=some p->vbl y=some q->p.1=q.1->p.2=q.2
 | [],s=>by simp[E6]
 | t::ts,s=>by
  rw[E6];cases hv:vbl t with
  | none =>
   simp only;rw[a9K ts s]
   constructor
   ·rintro ⟨h1,h2⟩
    refine⟨λx hx p hp=>?_,λx hx y hy p q hp hq e=>?_⟩
    ·rcases c2C.1 hx with rfl|hx
     ·rw[hv] at hp;cases hp
     ·exact h1 x hx p hp
    ·rcases c2C.1 hx with rfl|hx
     ·rw[hv] at hp;cases hp
     ·rcases c2C.1 hy with rfl|hy
      ·rw[hv] at hq;cases hq
      ·exact h2 x hx y hy p q hp hq e
   ·rintro ⟨h1,h2⟩
    exact⟨λx hx=>h1 x (c26 _ hx),λx hx y hy=>h2 x (c26 _ hx) y (c26 _ hy)⟩
  | some p =>
   obtain⟨n,r⟩:=p;simp only
   by_cases hs:s n=some (!r)
   ·rw[c2E hs]
    constructor
    ·intro h;cases h
    ·rintro ⟨h1,_⟩
     exact absurd hs (h1 t (c27 ..) _ hv)
   ·rw[c2H hs,a9K ts]
    constructor
    ·rintro ⟨h1,h2⟩
     have h3:∀x∈ts,∀p,vbl x=some p->p.1=n->p.2=r:=λx hx p hp e=>by
      have:=h1 x hx p hp;unfold a7w at this;rw[c2E e] at this;cases r <;> cases hp2:p.2 <;> simp_all
     refine⟨λx hx p hp=>?_,λx hx y hy p q hp hq e=>?_⟩
     ·rcases c2C.1 hx with rfl|hx
      ·rw[hv] at hp;cases hp;exact hs
      ·by_cases e:p.1=n
       ·rw[h3 x hx p hp e,e];exact hs
       ·have:=h1 x hx p hp;unfold a7w at this;rw[c2H e] at this;exact this
     ·rcases c2C.1 hx with rfl|hx
      ·rw[hv] at hp;cases hp
       rcases c2C.1 hy with rfl|hy
       ·rw[hv] at hq;cases hq;rfl
       ·exact(h3 y hy q hq e.symm).symm
      ·rcases c2C.1 hy with rfl|hy
       ·rw[hv] at hq;cases hq;exact h3 x (by assumption) p hp e
       ·exact h2 x (by assumption) y hy p q hp hq e
    ·rintro ⟨h1,h2⟩
     refine⟨λx hx p hp=>?_,λx hx y hy=>h2 x (c26 _ hx) y (c26 _ hy)⟩;unfold a7w
     by_cases e:p.1=n
     ·rw[c2E e,<-h2 t (c27 ..) x (c26 _ hx) (n,r) p hv hp e.symm];cases r <;> simp
     ·rw[c2H e];exact h1 x (c26 _ hx) p hp
theorem b5n (t:Ty):(E6 t.parts λ_=>none).isSome=M6 t:=by
 rw[c4P,a9K]
 constructor
 ·rintro ⟨_,h⟩
  refine a1D λx hx y hy=>?_
  cases hc:B9 x y with
  | false=>rfl
  | true =>
   unfold B9 at hc;simp only[c2B,c3q] at hc;have:=h x hx y hy (x.n,false) (y.n,true) (by unfold vbl;rw[c2E hc.1]) (by unfold vbl;rw[c2H (by rw[hc.2.1];decide),c2E hc.2.1]) hc.2.2;cases this
 ·intro h;refine⟨by simp,λx hx y hy p q hp hq e=>?_⟩;unfold M6 at h;rw[c3a] at h;have hxy:=h x hx;have hyx:=h y hy;rw[c3a] at hxy hyx;have h1:=hxy y hy;have h2:=hyx x hx;unfold B9 at h1 h2;unfold vbl at hp hq
  split at hp
  ·rename_i ex;cases hp
   split at hq
   ·cases hq;rfl
   ·split at hq
    ·rename_i ey;cases hq;simp only at e
     simp[ex,ey,e] at h1
    ·cases hq
  ·split at hp
   ·rename_i ex;cases hp
    split at hq
    ·rename_i ey;cases hq;simp only at e
     simp[ex,ey,e] at h2
    ·split at hq
     ·cases hq;rfl
     ·cases hq
   ·cases hp
def rS (ss:List ByteArray):List (List D):=ss.map λs=>[.sc (.string s)]
theorem c0u (ss:List ByteArray):(rS ss).length=ss.length:=by rw[rS,c3f]
theorem c0v {ss:List ByteArray} {k:Nat} {x:ByteArray} (h:ss[k]?=some x):(rS ss)[k]?=some [.sc (.string x)]:=by rw[rS,c3i,h];rfl
def P0 (b:ByteArray):List UInt8:=b.data.toList
theorem a2b (b:ByteArray):b.toList=P0 b:=ByteArray.toList_eq b
theorem B3 (b:ByteArray):(P0 b).length=b.size:=by unfold P0;rw[c4z];rfl
theorem a6r {b:ByteArray} {k:Nat} {c:UInt8} (h:(P0 b)[k]?=some c):a7.sget b (k:Int)=some (c.toNat:Int):=by
 show (if 0<=(k:Int) then (b[(k:Int).toNat]?).map (λc=>(c.toNat:Int)) else none)=_;rw[c2E (by omega)]
 have e:b[(k:Int).toNat]?=(P0 b)[k]?:=by
  rw[P0,c3w];rfl
 rw[e,h];rfl
theorem C5 {b c:Bool} (h:c=b):(some (R.one (D.sc (.bool c)))=some (R.one (D.sc (.bool b))))/\True:=⟨by rw[h],trivial⟩
theorem b6P {k:IntKind} {b c:Int} (h:c=b):(some (R.one (D.sc (.int k c)))=some (R.one (D.sc (.int k b))))/\True:=⟨by rw[h],trivial⟩
def okB (first:Bool) (c:Int):Bool:=Y9 c || (!first && (P6 c || c == 95))
def okL:Bool->List UInt8->Bool
 | _,[]=>true
 | f,c::l=>okB f (c.toNat:Int) && okL false l
def U0 (s:ByteArray):Bool:=okL true (P0 s) && decide (0<s.size)
def j4 (s:ByteArray):Bool:=decide (s.size<=32) && (U0 s && !a8l s)
theorem b6Q {l:List UInt8} {k:Nat} {c:UInt8} (h:l[k]?=some c):okL (k == 0) (l.drop k)=(okB (k == 0) (c.toNat:Int) && okL (k+1 == 0) (l.drop (k+1))):=by
 obtain⟨hi,e⟩:=c25.1 h;rw[c2X hi,e,okL];rfl
theorem b8G (c:Int):m6 84 [.one (.sc (.int .u8 c))] [.one (.sc (.bool (Y9 c)))]:=by
 generalize hb:Y9 c=b;unfold Y9 at hb;refine Y8 Tryd.func84 rfl ?_;intro _ _ _ _ _ _ _ _ qi;intros;rename_i hA;cbv;refine gn ?_;obtain⟨e1,e2,e3,e4,e5,e6,e7,e8,e9⟩:=j8 hA;rw[<-e8,<-e8] at hb;cases h1:qi 97 c
 ·cbv;refine gn ?_;rw[h1] at hb;exact C5 hb
 ·cbv;refine gn ?_;rw[h1] at hb;exact C5 hb
theorem b8H (c:Int):m6 85 [.one (.sc (.int .u8 c))] [.one (.sc (.bool (P6 c)))]:=by
 generalize hb:P6 c=b;unfold P6 at hb;refine Y8 Tryd.func85 rfl ?_;intro _ _ _ _ _ _ _ _ qi;intros;rename_i hA;cbv;refine gn ?_;obtain⟨e1,e2,e3,e4,e5,e6,e7,e8,e9⟩:=j8 hA;rw[<-e8,<-e8] at hb;cases h1:qi 48 c
 ·cbv;refine gn ?_;rw[h1] at hb;exact C5 hb
 ·cbv;refine gn ?_;rw[h1] at hb;exact C5 hb
theorem b6R (s:ByteArray) (hs:s.size<=4611686018427387904):m6 73 [.one (.sc (.string s))] [.one (.sc (.bool (U0 s)))]:=by
 generalize hb:U0 s=b;unfold U0 at hb;refine Y8 Tryd.func73 rfl ?_;intro qa qb _ _ _ _ _ qh _ qj _ ql _ qo _ _ qs qt;intros;rename_i hA;cbv;refine gn ?_;obtain⟨e1,e2,e3,e4,e5,e6,e7,e8,e9⟩:=j8 hA;obtain⟨s1,s2,s3,s4,s5,s6,-⟩:=A3 hA;refine l9 hA (γ:=Int) (λz=>[(7,vi .i64 z)]) (λ_=>[]) (λz=>∃k:Nat,z=(k:Int)/\k<=s.size/\(okL (k == 0) ((P0 s).drop k) && decide (0<s.size))=b) (λz=>s.size - z.toNat) 0 ?_ ?_ ?_
 ·exact⟨0,rfl,c3d _,hb⟩
 ·cbv
 ·intro z hinv;cbv;refine gn ?_;obtain⟨k,hz,hk,hE⟩:=hinv;replace hz:z=(k:Int):=hz;replace s5:qs s=((s.size:Nat):Int):=s5 s;have hlt:qh z (qs s)=decide (k<s.size):=by rw[e7,s5,hz];exact c2Q.2 (by omega)
  by_cases h9:k<s.size
  ·rw[c2J h9] at hlt;obtain⟨c,hc⟩:∃c,(P0 s)[k]?=some c:=⟨_,c28 (by rw[B3];exact h9)⟩;have g1:qt s z=some (c.toNat:Int):=by rw[s6,hz];exact a6r hc
   rw[b6Q hc] at hE;have hd1:=b8G (c.toNat:Int);have hd2:=b8H (c.toNat:Int)
   have hz0:qj z 0=(k == 0):=by
    rw[e9,hz];cases k with
    | zero=>rfl
    | succ k=>exact c2O.2 (by omega)
   have hz1:qa .i64 (qb z 1)=((k+1:Nat):Int):=by rw[e1,e2,hz,IntWalk.i64_in _ (by omega)];omega
   have hm:s.size - (qa .i64 (qb z 1)).toNat<s.size - z.toNat:=by rw[hz1,hz];omega
   have h95:qj (c.toNat:Int) 95=((c.toNat:Int) == 95):=e9 _ _;unfold okB at hE;generalize (c.toNat:Int)=cc at *;generalize Y9 cc=q1 at *;generalize P6 cc=q2 at *;generalize (cc == 95)=q3 at *;generalize (k == 0)=q0 at *;rw[hlt];cbv;refine gn ?_;rw[g1];cbv;refine gn ?_;refine b9 hA _ hd1 ?_ ?_
   ·rfl
   cases q1
   ·cbv;refine gn ?_;rw[hz0];cases q0
    ·cbv;refine gn ?_;refine b9 hA _ hd2 ?_ ?_
     ·rfl
     cases q2
     ·cbv;refine gn ?_;rw[h95];cases q3
      ·cbv;refine gn ?_;exact C5 hE
      ·cbv;refine gn ?_;exact⟨_,⟨k+1,hz1,h9,hE⟩,hm,by cbv⟩
     ·cbv;refine gn ?_;exact⟨_,⟨k+1,hz1,h9,hE⟩,hm,by cbv⟩
    ·cbv;refine gn ?_;exact C5 hE
   ·cbv;refine gn ?_;exact⟨_,⟨k+1,hz1,h9,hE⟩,hm,by cbv⟩
  ·rw[c2G h9] at hlt;have hk:k=s.size:=by omega
   rw[hk,c3j (by rw[B3];exact c2A _),okL] at hE
   have hq:ql (qo s) (qo ⟨⟨[]⟩⟩)=!b:=by
    rw[s1,s3,s3,a2b,a2b,<-hE,c3R];cases h:P0 s with
    | nil=>rw[<-B3,h];rfl
    | cons x l=>rw[<-B3,h,c2J (show 0<(x::l).length by simp)];rfl
   rw[hlt];cbv;refine gn ?_;rw[hq];exact C5 (by cases b <;> rfl)
theorem b6S {s:ByteArray} (h:∀x∈J0,(s.toList == x.toList)=false):a8l s=false:=by
 unfold a8l inB;rw[List.any_eq_false];intro x hx;have:=h x hx;rw[Bool.beq_comm] at this;rw[this]
 decide
theorem E7 {s x:ByteArray} (hx:x∈J0) (h:(s.toList == x.toList)=true):a8l s=true:=by
 unfold a8l inB;rw[List.any_eq_true];exact⟨x,hx,by rw[Bool.beq_comm];exact h⟩
theorem c1z (s:ByteArray):m6 74 [.one (.sc (.string s))] [.one (.sc (.bool (a8l s)))]:=by
 generalize hb:a8l s=b;refine Y8 Tryd.func74 rfl ?_;intro _ _ _ _ _ _ _ _ _ _ _ ql _ qo;intros;rename_i hA;cbv;refine gn ?_;obtain⟨s1,s2,s3,s4,s5,s6,-⟩:=A3 hA;cases g0:ql (qo s) (qo ⟨⟨[102,117,110]⟩⟩)
 rotate_left
 ·cbv;refine gn ?_;refine C5 ?_;rw[<-hb];rw[s1,s3,s3] at g0;exact(E7 (x:=⟨⟨[102,117,110]⟩⟩) (by unfold J0;repeat first|exact c27 ..|apply c26) g0).symm
 cbv;refine gn ?_;cases g1:ql (qo s) (qo ⟨⟨[114,101,99]⟩⟩)
 rotate_left
 ·cbv;refine gn ?_;refine C5 ?_;rw[<-hb];rw[s1,s3,s3] at g1;exact(E7 (x:=⟨⟨[114,101,99]⟩⟩) (by unfold J0;repeat first|exact c27 ..|apply c26) g1).symm
 cbv;refine gn ?_;cases g2:ql (qo s) (qo ⟨⟨[108,101,116]⟩⟩)
 rotate_left
 ·cbv;refine gn ?_;refine C5 ?_;rw[<-hb];rw[s1,s3,s3] at g2;exact(E7 (x:=⟨⟨[108,101,116]⟩⟩) (by unfold J0;repeat first|exact c27 ..|apply c26) g2).symm
 cbv;refine gn ?_;cases g3:ql (qo s) (qo ⟨⟨[105,110]⟩⟩)
 rotate_left
 ·cbv;refine gn ?_;refine C5 ?_;rw[<-hb];rw[s1,s3,s3] at g3;exact(E7 (x:=⟨⟨[105,110]⟩⟩) (by unfold J0;repeat first|exact c27 ..|apply c26) g3).symm
 cbv;refine gn ?_;cases g4:ql (qo s) (qo ⟨⟨[105,102]⟩⟩)
 rotate_left
 ·cbv;refine gn ?_;refine C5 ?_;rw[<-hb];rw[s1,s3,s3] at g4;exact(E7 (x:=⟨⟨[105,102]⟩⟩) (by unfold J0;repeat first|exact c27 ..|apply c26) g4).symm
 cbv;refine gn ?_;cases g5:ql (qo s) (qo ⟨⟨[116,104,101,110]⟩⟩)
 rotate_left
 ·cbv;refine gn ?_;refine C5 ?_;rw[<-hb];rw[s1,s3,s3] at g5;exact(E7 (x:=⟨⟨[116,104,101,110]⟩⟩) (by unfold J0;repeat first|exact c27 ..|apply c26) g5).symm
 cbv;refine gn ?_;cases g6:ql (qo s) (qo ⟨⟨[101,108,115,101]⟩⟩)
 rotate_left
 ·cbv;refine gn ?_;refine C5 ?_;rw[<-hb];rw[s1,s3,s3] at g6;exact(E7 (x:=⟨⟨[101,108,115,101]⟩⟩) (by unfold J0;repeat first|exact c27 ..|apply c26) g6).symm
 cbv;refine gn ?_;cases g7:ql (qo s) (qo ⟨⟨[99,97,115,101]⟩⟩)
 rotate_left
 ·cbv;refine gn ?_;refine C5 ?_;rw[<-hb];rw[s1,s3,s3] at g7;exact(E7 (x:=⟨⟨[99,97,115,101]⟩⟩) (by unfold J0;repeat first|exact c27 ..|apply c26) g7).symm
 cbv;refine gn ?_;cases g8:ql (qo s) (qo ⟨⟨[111,102]⟩⟩)
 rotate_left
 ·cbv;refine gn ?_;refine C5 ?_;rw[<-hb];rw[s1,s3,s3] at g8;exact(E7 (x:=⟨⟨[111,102]⟩⟩) (by unfold J0;repeat first|exact c27 ..|apply c26) g8).symm
 cbv;refine gn ?_;cases g9:ql (qo s) (qo ⟨⟨[101,110,100]⟩⟩)
 rotate_left
 ·cbv;refine gn ?_;refine C5 ?_;rw[<-hb];rw[s1,s3,s3] at g9;exact(E7 (x:=⟨⟨[101,110,100]⟩⟩) (by unfold J0;repeat first|exact c27 ..|apply c26) g9).symm
 cbv;refine gn ?_;cases g10:ql (qo s) (qo ⟨⟨[116,114,117,101]⟩⟩)
 rotate_left
 ·cbv;refine gn ?_;refine C5 ?_;rw[<-hb];rw[s1,s3,s3] at g10;exact(E7 (x:=⟨⟨[116,114,117,101]⟩⟩) (by unfold J0;repeat first|exact c27 ..|apply c26) g10).symm
 cbv;refine gn ?_;cases g11:ql (qo s) (qo ⟨⟨[102,97,108,115,101]⟩⟩)
 rotate_left
 ·cbv;refine gn ?_;refine C5 ?_;rw[<-hb];rw[s1,s3,s3] at g11;exact(E7 (x:=⟨⟨[102,97,108,115,101]⟩⟩) (by unfold J0;repeat first|exact c27 ..|apply c26) g11).symm
 cbv;refine gn ?_;cases g12:ql (qo s) (qo ⟨⟨[100,101,102]⟩⟩)
 rotate_left
 ·cbv;refine gn ?_;refine C5 ?_;rw[<-hb];rw[s1,s3,s3] at g12;exact(E7 (x:=⟨⟨[100,101,102]⟩⟩) (by unfold J0;repeat first|exact c27 ..|apply c26) g12).symm
 cbv;refine gn ?_;cases g13:ql (qo s) (qo ⟨⟨[73,110,116]⟩⟩)
 rotate_left
 ·cbv;refine gn ?_;refine C5 ?_;rw[<-hb];rw[s1,s3,s3] at g13;exact(E7 (x:=⟨⟨[73,110,116]⟩⟩) (by unfold J0;repeat first|exact c27 ..|apply c26) g13).symm
 cbv;refine gn ?_;cases g14:ql (qo s) (qo ⟨⟨[66,111,111,108]⟩⟩)
 rotate_left
 ·cbv;refine gn ?_;refine C5 ?_;rw[<-hb];rw[s1,s3,s3] at g14;exact(E7 (x:=⟨⟨[66,111,111,108]⟩⟩) (by unfold J0;repeat first|exact c27 ..|apply c26) g14).symm
 cbv;refine gn ?_;refine C5 ?_;rw[<-hb]
 symm
 apply b6S
 intro x hx;rw[s1,s3,s3] at g0 g1 g2 g3 g4 g5 g6 g7 g8 g9 g10 g11 g12 g13 g14;unfold J0 at hx;simp only[c2C,List.not_mem_nil,or_false] at hx
 rcases hx with rfl|rfl|rfl|rfl|rfl|rfl|rfl|rfl|rfl|rfl|rfl|rfl|rfl|rfl|rfl
 ·exact g0
 ·exact g1
 ·exact g2
 ·exact g3
 ·exact g4
 ·exact g5
 ·exact g6
 ·exact g7
 ·exact g8
 ·exact g9
 ·exact g10
 ·exact g11
 ·exact g12
 ·exact g13
 ·exact g14
theorem b6T (s:ByteArray) (hs:s.size<=4611686018427387904):m6 53 [.one (.sc (.string s))] [.one (.sc (.bool (j4 s)))]:=by
 have h1:=b6R s hs;have h2:=c1z s;generalize hb:j4 s=b;unfold j4 at hb;refine Y8 Tryd.func53 rfl ?_;intro _ _ _ _ _ _ _ _ qi _ _ _ _ _ _ _ qs;intros;rename_i hA;cbv;refine gn ?_;obtain⟨e1,e2,e3,e4,e5,e6,e7,e8,e9⟩:=j8 hA;obtain⟨s1,s2,s3,s4,s5,s6,-⟩:=A3 hA;have hle:qi (qs s) 32=decide (s.size<=32):=by rw[e8,s5];exact c2Q.2 (by omega)
 generalize decide (s.size<=32)=q at *;generalize U0 s=q1 at *;generalize a8l s=q2 at *;rw[hle];cases q
 ·cbv;refine gn ?_;exact C5 hb
 ·cbv;refine gn ?_;refine b9 hA _ h1 ?_ ?_
  ·rfl
  cases q1
  ·cbv;refine gn ?_;exact C5 hb
  ·cbv;refine gn ?_;refine b9 hA _ h2 ?_ ?_
   ·rfl
   cbv;refine gn ?_;exact C5 hb
def kz:Bool->Bool->Bool->Bool->Int
 | true,_,_,_=>1
 | _,true,_,_=>2
 | _,_,true,_=>3
 | _,_,_,true=>4
 | _,_,_,_=>0
theorem c0w (c:Int):m6 79 [.one (.sc (.int .u8 c))] [.one (.sc (.int .i64 (a4L c)))]:=by
 obtain⟨p,hp⟩:∃p,Y9 c=p:=⟨_,rfl⟩;obtain⟨q,hq⟩:∃p,a4c c=p:=⟨_,rfl⟩;obtain⟨r,hr⟩:∃p,P6 c=p:=⟨_,rfl⟩;obtain⟨v,hv⟩:∃p,(c == 95)=p:=⟨_,rfl⟩
 have hb:a4L c=kz p q r v:=by
  unfold a4L;rw[hp,hq,hr];have h4:(c=95)=(v=true):=by rw[<-hv];simp
  simp only[h4];cases p <;> cases q <;> cases r <;> cases v <;> rfl
 generalize a4L c=b at *;unfold Y9 at hp;unfold a4c at hq;unfold P6 at hr;refine Y8 Tryd.func79 rfl ?_;intro _ _ _ _ _ _ _ _ qi;intros;rename_i hA;cbv;refine gn ?_;obtain⟨e1,e2,e3,e4,e5,e6,e7,e8,e9⟩:=j8 hA;rw[<-e8,<-e8] at hp hq hr;rw[<-e9] at hv;cases p
 ·have h:qi 97 c=false\/(qi 97 c=true/\qi c 122=false):=by cases h1:qi 97 c <;> simp_all
  rcases h with h|⟨h,h'⟩
  all_goals
   rw[h];cbv;refine gn ?_
   try (rw[h'];cbv)
   cases q
   ·have g:qi 65 c=false\/(qi 65 c=true/\qi c 90=false):=by cases h1:qi 65 c <;> simp_all
    rcases g with g|⟨g,g'⟩
    all_goals
     rw[g];cbv;refine gn ?_
     try (rw[g'];cbv)
     cases r
     ·have i:qi 48 c=false\/(qi 48 c=true/\qi c 57=false):=by cases h1:qi 48 c <;> simp_all
      rcases i with i|⟨i,i'⟩
      all_goals
       rw[i];cbv;refine gn ?_
       try (rw[i'];cbv)
       rw[hv];cases v
       ·cbv;refine gn ?_;exact b6P hb.symm
       ·cbv;refine gn ?_;exact b6P hb.symm
     ·have i:qi 48 c=true/\qi c 57=true:=by cases h1:qi 48 c <;> simp_all
      rw[i.1];cbv;refine gn ?_;rw[i.2];cbv;refine gn ?_;exact b6P hb.symm
   ·have g:qi 65 c=true/\qi c 90=true:=by cases h1:qi 65 c <;> simp_all
    rw[g.1];cbv;refine gn ?_;rw[g.2];cbv;refine gn ?_;exact b6P hb.symm
 ·have h:qi 97 c=true/\qi c 122=true:=by cases h1:qi 97 c <;> simp_all
  rw[h.1];cbv;refine gn ?_;rw[h.2];cbv;refine gn ?_;exact b6P hb.symm
theorem b8I (q:Bool) (c:Int):okB q c=!((a4L c == 0) || ((a4L c == 2) || (q && !(a4L c == 1)))):=by
 unfold okB a4L;have h4:(c=95)=((c == 95)=true):=by simp
 have hs:=b5k c;have hg:=b5l c;have hd:=b5m c;have h9:(c == 95)=true↔c=95:=by simp
 simp only[h4];generalize Y9 c=a1 at *;generalize a4c c=a2 at *;generalize P6 c=a3 at *;generalize (c == 95)=a4 at *;cases a1 <;> cases a2 <;> cases a3 <;> cases a4 <;> cases q <;> first|rfl|(exfalso;simp at hs hg hd h9;omega)
theorem b6U (s:ByteArray) (hs:s.size<=4611686018427387904):m6 62 [.one (.sc (.string s))] [.one (.sc (.bool (U0 s)))]:=by
 generalize hb:U0 s=b;unfold U0 at hb;refine Y8 Tryd.func62 rfl ?_;intro qa qb _ _ _ _ _ qh _ qj _ _ _ _ _ _ qs qt;intros;rename_i hA;cbv;refine gn ?_;obtain⟨e1,e2,e3,e4,e5,e6,e7,e8,e9⟩:=j8 hA;obtain⟨s1,s2,s3,s4,s5,s6,-⟩:=A3 hA;refine l9 hA (γ:=Int) (λz=>[(3,vi .i64 z)]) (λ_=>[]) (λz=>∃k:Nat,z=(k:Int)/\k<=s.size/\(okL (k == 0) ((P0 s).drop k) && decide (0<s.size))=b) (λz=>s.size - z.toNat) 0 ?_ ?_ ?_
 ·exact⟨0,rfl,c3d _,hb⟩
 ·cbv
 ·intro z hinv;cbv;refine gn ?_;obtain⟨k,hz,hk,hE⟩:=hinv;replace hz:z=(k:Int):=hz;replace s5:qs s=((s.size:Nat):Int):=s5 s;have hlt:qh z (qs s)=decide (k<s.size):=by rw[e7,s5,hz];exact c2Q.2 (by omega)
  by_cases h9:k<s.size
  ·rw[c2J h9] at hlt;obtain⟨c,hc⟩:∃c,(P0 s)[k]?=some c:=⟨_,c28 (by rw[B3];exact h9)⟩;have g1:qt s z=some (c.toNat:Int):=by rw[s6,hz];exact a6r hc
   rw[b6Q hc] at hE;have hd1:=c0w (c.toNat:Int)
   have hz0:qj z 0=(k == 0):=by
    rw[e9,hz];cases k with
    | zero=>rfl
    | succ k=>exact c2O.2 (by omega)
   have hz1:qa .i64 (qb z 1)=((k+1:Nat):Int):=by rw[e1,e2,hz,IntWalk.i64_in _ (by omega)];omega
   have hm:s.size - (qa .i64 (qb z 1)).toNat<s.size - z.toNat:=by rw[hz1,hz];omega
   rw[b8I] at hE;generalize a4L (c.toNat:Int)=kk at *;have k0:qj kk 0=(kk == 0):=e9 _ _;have k1:qj kk 1=(kk == 1):=e9 _ _;have k2:qj kk 2=(kk == 2):=e9 _ _;generalize (c.toNat:Int)=cc at *;generalize (kk == 0)=p0 at *;generalize (kk == 1)=p1 at *;generalize (kk == 2)=p2 at *;generalize (k == 0)=q0 at *;rw[hlt];cbv;refine gn ?_;rw[g1];cbv;refine gn ?_;refine b9 hA _ hd1 ?_ ?_
   ·rfl
   cbv;refine gn ?_;rw[k0];cases p0
   ·cbv;refine gn ?_;rw[k2];cases p2
    ·cbv;refine gn ?_;rw[hz0];cases q0
     ·cbv;refine gn ?_;exact⟨_,⟨k+1,hz1,h9,hE⟩,hm,by cbv⟩
     ·cbv;refine gn ?_;rw[k1];cases p1
      ·cbv;refine gn ?_;exact C5 hE
      ·cbv;refine gn ?_;exact⟨_,⟨k+1,hz1,h9,hE⟩,hm,by cbv⟩
    ·cbv;refine gn ?_;exact C5 hE
   ·cbv;refine gn ?_;exact C5 hE
  ·rw[c2G h9] at hlt;have hk:k=s.size:=by omega
   rw[hk,c3j (by rw[B3];exact c2A _),okL] at hE
   have hq:qh 0 (qs s)=b:=by
    rw[e7,s5,<-hE,c3R];exact c2Q.2 (by omega)
   rw[hlt];cbv;refine gn ?_;rw[hq];exact C5 rfl
theorem c10:m6 61 [] [.one (.sl 1 (rS J0)),.one (.sl 1 (rS b6M))]:=by
 refine Y8 Tryd.func61 rfl ?_;intros;rename_i hA;cbv
 repeat ((with_reducible first|apply b5 hA|apply P5 hA true);cbv)
theorem c2l (ws:List ByteArray) (x:ByteArray) (hn:ws.length<=1099511627776):m6 63 [.one (.sl 1 (rS ws)),.one (.sc (.string x))] [.one (.sc (.bool (inB ws x)))]:=by
 obtain⟨L,hL⟩:∃L,L=rS ws:=⟨_,rfl⟩;rw[<-hL];generalize hb:inB ws x=b;refine Y8 Tryd.func63 rfl ?_;intro qa qb _ _ _ _ _ qh _ _ _ ql _ qo _ _ _ _ _ _ _ _ qy qz;intros;rename_i hA;cbv;refine gn ?_;obtain⟨e1,e2,e3,e4,e5,e6,e7,e8,e9⟩:=j8 hA;obtain⟨s1,s2,s3,s4,s5,s6,-⟩:=A3 hA;obtain⟨r1,r2,-⟩:=n9 hA;refine l9 hA (γ:=Int) (λz=>[(5,vi .i64 z)]) (λ_=>[]) (λz=>∃k:Nat,z=(k:Int)/\k<=ws.length/\inB (ws.drop k) x=b) (λz=>ws.length - z.toNat) 0 ?_ ?_ ?_
 ·exact⟨0,rfl,c3d _,hb⟩
 ·cbv
 ·intro z hinv;cbv;refine gn ?_;obtain⟨k,hz,hk,hE⟩:=hinv;replace hz:z=(k:Int):=hz;have hlen:qy L=((ws.length:Nat):Int):=by rw[r1,hL,c0u]
  have hlt:qh z (qy L)=decide (k<ws.length):=by rw[e7,hlen,hz];exact c2Q.2 (by omega)
  by_cases h9:k<ws.length
  ·rw[c2J h9] at hlt;obtain⟨y,hy⟩:∃y,ws[k]?=some y:=⟨_,c28 h9⟩;have g1:qz L z=some [.sc (.string y)]:=by rw[r2,hz,c2E (by omega),hL];exact c0v hy
   have hdr:inB (ws.drop k) x=((y.toList == x.toList) || inB (ws.drop (k+1)) x):=by
    obtain⟨hi,e⟩:=c25.1 hy;rw[c2X hi,e];rfl
   rw[hdr] at hE;have hq:ql (qo y) (qo x)=(y.toList == x.toList):=by rw[s1,s3,s3]
   have hz1:qa .i64 (qb z 1)=((k+1:Nat):Int):=by rw[e1,e2,hz,IntWalk.i64_in _ (by omega)];omega
   have hm:ws.length - (qa .i64 (qb z 1)).toNat<ws.length - z.toNat:=by rw[hz1,hz];omega
   generalize (y.toList == x.toList)=q at *;rw[hlt];cbv;refine gn ?_;rw[g1];cbv;refine gn ?_;rw[hq];cases q
   ·cbv;refine gn ?_;exact⟨_,⟨k+1,hz1,h9,hE⟩,hm,by cbv⟩
   ·cbv;refine gn ?_;exact C5 hE
  ·rw[c2G h9] at hlt;rw[c3j (by omega)] at hE;rw[hlt];cbv;refine gn ?_;exact C5 hE
theorem b0Z (s:ByteArray) (hs:s.size<=4611686018427387904):m6 37 [.one (.sc (.string s))] [.one (.sc (.bool (j4 s)))]:=by
 have h0:=c10;have h1:=b6U s hs;have h2:=c2l J0 s (by decide)
 have hbb:j4 s=(U0 s && (!inB J0 s && decide (s.size<=32))):=by
  unfold j4 a8l;cases U0 s <;> cases inB J0 s <;> cases decide (s.size<=32) <;> rfl
 rw[hbb];generalize rS J0=L at *;generalize rS b6M=L2 at *;generalize inB J0 s=q2 at *;generalize U0 s=q1 at *;generalize hb:(q1 && (!q2 && decide (s.size<=32)))=b;refine Y8 Tryd.func37 rfl ?_;intro _ _ _ _ _ _ _ _ qi _ _ _ _ _ _ _ qs;intros;rename_i hA;cbv;refine gn ?_;obtain⟨e1,e2,e3,e4,e5,e6,e7,e8,e9⟩:=j8 hA;obtain⟨s1,s2,s3,s4,s5,s6,-⟩:=A3 hA;have hle:qi (qs s) 32=decide (s.size<=32):=by rw[e8,s5];exact c2Q.2 (by omega)
 generalize decide (s.size<=32)=q at *;refine b9 hA _ h0 ?_ ?_
 ·rfl
 cbv;refine gn ?_;refine b9 hA _ h1 ?_ ?_
 ·rfl
 cases q1
 ·cbv;refine gn ?_;exact C5 hb
 ·cbv;refine gn ?_;refine b9 hA _ h2 ?_ ?_
  ·rfl
  cases q2
  ·cbv;refine gn ?_;rw[hle];exact C5 hb
  ·cbv;refine gn ?_;exact C5 hb
mutual
def cT:Ty->List D
 | .mk op nm n ks=>[.sc (.int .u8 op),.sc (.string nm),.sc (.int .i64 n),.sl 4 (rT ks)]
def rT:List Ty->List (List D)
 | []=>[]
 | t::ts=>cT t::rT ts
end
theorem a2T:∀ts:List Ty,rT ts=ts.map cT
 | []=>by rw[rT];rfl
 | t::ts=>by rw[rT,a2T ts];rfl
theorem E8 (ts:List Ty):(rT ts).length=ts.length:=by rw[a2T,c3f]
theorem a04 {ts:List Ty} {k:Nat} {t:Ty} (h:ts[k]?=some t):(rT ts)[k]?=some (cT t):=by rw[a2T,c3i,h];rfl
theorem a9L:∀t:Ty,t.parts.length<=1048576->m6 13 [.ag (cT t)] [.one (.sl 4 (rT t.parts))]:=by
 intro t
 induction t using Ty.ind with
 | h t ih =>
  intro hN;have hkl:=o7 t;have hP:=r6 t;generalize t.parts=P at *;obtain⟨op,nm,n,ks⟩:=t;simp only[Ty.kids] at hkl ih hP;obtain⟨R,hR⟩:∃R,R=rT P:=⟨_,rfl⟩;rw[<-hR,cT];obtain⟨K,hK⟩:∃K,K=rT ks:=⟨_,rfl⟩;rw[<-hK];refine Y8 Tryd.func13 rfl ?_;intro qa qb _ _ _ _ _ qh _ _ _ _ _ _ _ _ _ _ _ _ _ _ qy qz _ vc;intros;rename_i hA;cbv
  repeat ((with_reducible first|apply b5 hA|apply P5 hA false|apply b2z hA true);cbv)
  obtain⟨e1,e2,e3,e4,e5,e6,e7,e8,e9⟩:=j8 hA;obtain⟨r1,r2,r3,r4⟩:=n9 hA;refine l9 hA (γ:=Int×List (List D)) (λx=>[(4,vi .i64 x.1),(3,.own 1),(6,.jk)]) (λx=>[(1,.row true 25 x.2)]) (λx=>∃k:Nat,x.1=(k:Int)/\k<=ks.length/\x.2++rT (o5 (ks.drop k))=R) (λx=>ks.length - x.1.toNat) (0,[cT (.mk op nm n ks)]) ?_ ?_ ?_
  ·exact⟨0,rfl,c3d _,by rw[hR,hP];rfl⟩
  ·rw[cT,<-hK];cbv
  ·intro x hinv;obtain⟨z,L⟩:=x;cbv;refine gn ?_;obtain⟨k,hz,hk,hE⟩:=hinv;have hz:z=(k:Int):=hz;replace hE:L++rT (o5 (ks.drop k))=R:=hE;have hlen:qy K=(ks.length:Int):=by rw[r1,hK,E8]
   have hlt:qh z (qy K)=decide (k<ks.length):=by rw[e7,hlen,hz];exact c2Q.2 (by omega)
   by_cases h9:k<ks.length
   ·rw[c2J h9] at hlt;obtain⟨x,hx⟩:∃x,ks[k]?=some x:=⟨_,c28 h9⟩;have g1:qz K z=some (cT x):=by rw[r2,hz,c2E (by omega),hK];exact a04 hx
    have hsp:=ih x (c2F hx) (by have:=hkl.2 x (c2F hx);omega)
    have hdr:ks.drop k=x::ks.drop (k+1):=by
     have h:=c2X h9;rw[c28 h9] at hx;rw[h,Option.some.inj hx]
    rw[hdr,o5] at hE;generalize x.parts=XP at *;obtain⟨o1,m1,n1,l1⟩:=x;rw[cT] at g1 hsp;generalize rT l1=L1 at *;obtain⟨Y,hY⟩:∃Y,Y=rT XP:=⟨_,rfl⟩;rw[<-hY] at hsp;rw[hlt];cbv;refine gn ?_;rw[g1];cbv;refine b9 hA _ hsp ?_ ?_
    ·rfl
    cbv;have hap:∀l m:List Ty,rT (l++m)=rT l++rT m:=λl m=>by rw[a2T,a2T,a2T,c3G]
    rw[hap,<-hY,<-c3m] at hE
    have hlenR:L.length+Y.length<=1048576:=by
     have h1:R.length<=1048576:=by rw[hR,E8];exact hN
     rw[<-hE,c29,c29] at h1;omega
    refine K4 hA (by omega) ?_;cbv;refine gn ?_;replace hz:z=(k:Int):=hz;have hz1:qa .i64 (qb z 1)=((k+1:Nat):Int):=by rw[e1,e2,hz,IntWalk.i64_in _ (by omega)];omega
    refine⟨(qa .i64 (qb z 1),vc L Y),⟨k+1,hz1,h9,by rw[r4];exact hE⟩,by show ks.length - (qa .i64 (qb z 1)).toNat<ks.length - z.toNat;rw[hz1,hz];omega,?_⟩;cbv
   ·rw[c2G h9] at hlt;rw[hlt];cbv;refine gn ?_
    have hE2:L=R:=by
     rw[c3j (by omega),o5] at hE;rw[<-hE];exact(c3b L).symm
    rw[hE2];exact⟨rfl,trivial⟩
end Go.Proofs.YtlofmibkljoapaaDoor.Vm
end
