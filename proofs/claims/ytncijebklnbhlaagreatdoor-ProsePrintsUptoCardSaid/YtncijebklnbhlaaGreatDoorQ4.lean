/- Part 4 of the proof. Conditions: none. -/
import Derived.Test.YtncijebklnbhlaaGreatDoorQ1
import Derived.Test.YtncijebklnbhlaaGreatDoorQ3
import Derived.Laws.BytesArg
import Derived.Lib.Join
import Derived.IntWalk
set_option linter.all false
set_option linter.unusedVariables false
set_option linter.unusedSimpArgs false
section
namespace Go.Proofs.YtncijebklnbhlaaGreatDoor.Vm
open Go.RowKit
set_option maxRecDepth 100000
set_option maxHeartbeats 4000000
section
def y6 (P:Program):Code->Bool
 | .region _ ops d=>b2n P ops.toList && (!d || (a6p ops || b4L ops.toList))
 | .seq c d=>y6 P c && y6 P d
 | .cond _ c d=>y6 P c && y6 P d
 | .block _ c=>y6 P c
 | .loop c=>y6 P c
 | _=>true
def toE:X->Exit
 | .normal=>.normal
 | .exit i=>.exit i
 | .ret=>.ret
section
variable {I0:Nat->Nat->Prop} {X:Nat->Prop} {w0:W0}
theorem M6 {ro:Option Nat} {n:Nat}:∀(c:Code) (s:S) (a:Act) (w:World) (K:Vm.X->S->Prop) (Q:Exit->Act->World->Prop),y6 Tryz.prog c=true->Z3 I0 X w0 s a w->B7 j1 c s K->(∀e s' a' w',Z3 I0 X w0 s' a' w'->K e s'->Q (toE e) a' w')->c.wpIn (FW ro) n Tryz.prog Q a w
 | .skip,s,a,w,K,Q,_,h,hK,hQ=>wpIn_skip (hQ _ _ _ _ h hK)
 | .region id ops d,s,a,w,K,Q,hok,h,hK,hQ=>by
  simp only[y6,Bool.and_eq_true,Bool.or_eq_true,Bool.not_eq_true'] at hok;have hops:∀o∈ops.toList,Z8 Tryz.prog o.op=true:=List.all_eq_true.1 hok.1;cases d with
  | false=>exact wpIn_region_list (b0V (λs' a' w' h' hk=>hQ .normal _ _ _ h' hk) _ s a w hops h hK)
  | true =>
   rw[B7] at hK
   split at hK
   ·refine wpIn_region_any (by kernel_rfl) (hK I0 X w0 a w.drew ro n Q hops ?_ λs' a' w' h' hk=>hQ .normal _ _ _ h' hk);obtain⟨I,g,h⟩:=h;exact⟨I,g,h.drew⟩
   rename_i hodd
   split at hK <;> try exact hK.elim
   rename_i hpre;have hodd:b4L ops.toList=false:=by rw[b46,Bool.or_eq_false_iff] at hodd;exact hodd.2
   have hd:a6p ops=true:=(hok.2.resolve_left (by simp)).resolve_right (by rw[hodd];decide);refine wpIn_region_any (by kernel_rfl) (b6R (λs' a' w' h' hk=>hQ .normal _ _ _ h' hk) hok.1 hd ?_ hpre hK);obtain⟨I,g,h⟩:=h;exact⟨I,g,h.drew⟩
 | .seq c d,s,a,w,K,Q,hok,h,hK,hQ=>by
  simp only[y6,Bool.and_eq_true] at hok;refine wpIn_seq (M6 c s a w _ _ hok.1 h hK λe s' a' w' h' hk=>?_);cases e with
  | normal =>
   obtain⟨F,hg,hk⟩:=hk;obtain⟨s2,hf,h2⟩:=hg _ _ _ _ _ h';exact M6 d s2 a' w' K Q hok.2 h2 (hk s2 hf) hQ
  | exit i=>exact hQ (.exit i) _ _ _ h' hk
  | ret=>exact hQ .ret _ _ _ h' hk
 | .cond c x y,s,a,w,K,Q,hok,h,hK,hQ=>by
  simp only[y6,Bool.and_eq_true] at hok;rw[B7] at hK;obtain⟨I,g,h1⟩:=h;have hc:=h1.get c
  split at hK <;> try exact hK.elim
  rename_i b hb;rw[hb] at hc;refine wpIn_cond hc.sc ?_;cases b with
  | true=>exact M6 x s a w K Q hok.1 ⟨I,g,h1⟩ hK hQ
  | false=>exact M6 y s a w K Q hok.2 ⟨I,g,h1⟩ hK hQ
 | .block id c,s,a,w,K,Q,hok,h,hK,hQ=>by
  refine wpIn_block (M6 c s a w _ _ hok h hK λe s' a' w' h' hk=>?_);cases e with
  | normal=>exact hQ .normal _ _ _ h' hk
  | exit i =>
   rw[b4p] at hk;show (if i=id then Q .normal a' w' else Q (.exit i) a' w')
   split at hk
   ·rename_i he;rw[B2] at he;rw[if_pos he];exact hQ .normal _ _ _ h' hk
   ·rename_i he;rw[a1l] at he;rw[if_neg he];exact hQ (.exit i) _ _ _ h' hk
  | ret=>exact hQ .ret _ _ _ h' hk
 | .loop c,s,a,w,K,Q,hok,h,hK,hQ=>by
  have key:∀R:S->S->Prop,(∀s s',R s s'->w0.n<=s'.o.length->∀a w,Z3 I0 X w0 s a w->Z3 I0 X w0 s' a w)->a9z R (λs K=>B7 j1 c s K) s K->(Code.loop c).wpIn (FW ro) n Tryz.prog Q a w:=λR hR hK=>by
   obtain⟨γ,st,inv,μ,hlen,⟨x0,hw,h0⟩,hround⟩:=hK
   have hn:∀x,inv x->w0.n<=(st x).o.length:=λx hx=>by
    have h1:=hlen x hx;rw[r6,r6] at h1;obtain⟨I,g,h⟩:=h;exact Nat.le_trans h.lo h1
   refine wpIn_loop_ghost (λm a w=>∃x,inv x/\Z3 I0 X w0 (st x) a w/\μ x=m) (μ x0) ⟨x0,h0,hR _ _ hw (hn x0 h0) _ _ h,rfl⟩ ?_
   rintro m a1 w1 ⟨x,hx,h1,rfl⟩
   refine M6 c (st x) a1 w1 _ _ hok h1 (hround x hx) λe s2 a2 w2 h2 hk=>?_
   cases e with
   | normal =>
    obtain⟨y,hy,hlt,hwk⟩:=hk;exact⟨μ y,hlt,y,hy,hR _ _ hwk (hn y hy) _ _ h2,rfl⟩
   | exit i=>exact hQ (.exit i) _ _ _ h2 hk
   | ret=>exact hQ .ret _ _ _ h2 hk
  have hlo:w0.n<=o7 s.o:=by obtain⟨I,g,h⟩:=h;rw[r6];exact h.lo
  rcases hK with hK|hK|hK
  ·exact key weak (λ_ _ hw hn a w h=>h.weak hn (.inr hw)) hK
  ·exact key Eq (λ_ _ hw hn a w h=>h.weak hn (.inl hw)) hK
  ·exact key (a1o (o7 s.o)) (λ_ _ hw _ a w h=>hw I0 X w0 a w hlo h) hK
 | .exit i,s,a,w,K,Q,_,h,hK,hQ=>wpIn_exit (hQ _ _ _ _ h hK)
 | .ret,s,a,w,K,Q,_,h,hK,hQ=>wpIn_ret (hQ _ _ _ _ h hK)
 | .rangeFunc f ps x y,s,a,w,K,Q,_,h,hK,hQ=>by cases hK
 | .scope c,s,a,w,K,Q,_,h,hK,hQ=>by cases hK
 | .label l,s,a,w,K,Q,_,h,hK,hQ=>by cases hK
 | .goto l,s,a,w,K,Q,_,h,hK,hQ=>by cases hK
 | .refuse y,s,a,w,K,Q,_,h,hK,hQ=>by cases hK
theorem a8A (c:Code) (s:S) (a:Act) (w:World) (K:Vm.X->S->Prop) (Q:Exit->Act->World->Prop) (hok:y6 Tryz.prog c=true) (h:Z3 I0 X w0 s a w) (hK:B7 j1 c s K) (hQ:∀e s' a' w',Z3 I0 X w0 s' a' w'->K e s'->Q (toE e) a' w'):c.wp Tryz.prog Q a w :=
 wpIn_wide.1 (M6 (ro:=none) (n:=0) c s a w K Q hok h hK hQ)
end
def a8B (a:Ar) (s:S):List ResultVar->List R->Prop
 | [],[]=>True
 | .tmp t::l,r::q=>toR s.o (o6 s.t t)=some r/\a8B a s l q
 | .cell b t::l,r::q=>E0 a s.o (λy=>toR s.o y=some r) t (o6 s.t b)/\a8B a s l q
 | _,_=>False
def b6S (a:Ar) (l:List ResultVar) (q:List R):X->S->Prop
 | .exit _,_=>False
 | .normal,s=>a8B a s l q
 | .ret,s=>a8B a s l q
def Q8:List ResultVar->Bool
 | []=>true
 | .tmp _::l=>Q8 l
 | .cell _ t::l=>j6 t && Q8 l
def uns:Nat->List V
 | 0=>[]
 | n+1=>T1::uns n
theorem a8C:∀n,uns n=List.replicate n T1
 | 0=>rfl
 | n+1=>by rw[uns,a8C n];rfl
def a2N (rs:List R) (n:Nat):S:=⟨a2B (a9n rs) (uns n),[]⟩
section
variable {I0:Nat->Nat->Prop} {X:Nat->Prop} {w0:W0} {I:Nat->Nat->Prop} {g:Nat->Value} {s:S} {a:Act} {w:World}
def a7f (tmps:Array Value):ResultVar->Sem Value
 | .tmp t=>pure (tmps.getD t undef)
 | .cell b t=>do loadVar t (<-asAddr (tmps.getD b undef))
theorem a1Z {t:Nat} {v u:Value} (h:(Instr.loadAt t v).run Tryz.prog w=.ok u w):(do loadVar t (<-asAddr v)).run Tryz.prog w=.ok u w:=by
 unfold Instr.loadAt Instr.sureAddr at h
 split at h
 ·simpa [asAddr] using h
 ·simp[stuck] at h
theorem b1g (h:RelI I0 X w0 I g s a w):∀ {l:List ResultVar} {q:List R},Q8 l=true->a8B j1 s l q->∃vs:List Value,(l.mapM (a7f a.tmps)).run Tryz.prog w=.ok vs w/\a4i I w vs q
 | [],[],_,_=>⟨[],rfl,trivial⟩
 | [],_::_,_,h=>h.elim
 | .tmp t::l,[],_,h=>h.elim
 | .cell b t::l,[],_,h=>h.elim
 | .tmp t::l,r::q,hok,hr=>by
  obtain⟨vs,h1,h2⟩:=b1g h (l:=l) (q:=q) hok hr.2;have h3:=a59 h (h.get (.tmp t)) hr.1;refine⟨a.eval (.tmp t)::vs,?_,h3,h2⟩;rw[List.mapM_cons];simp only[Sem.run_bind,h1,Result.andThen_ok,a7f,Sem.run_pure];rfl
 | .cell b t::l,r::q,hok,hr=>by
  rw[Q8,Bool.and_eq_true] at hok;obtain⟨vs,h1,h2⟩:=b1g h (l:=l) (q:=q) hok.2 hr.2;obtain⟨v,x,h3,h5,h6⟩:=a4p h hok.1 (h.get (.tmp b)) hr.1;refine⟨v::vs,?_,a59 h h5 h6,h2⟩;have h7:=a1Z h3;rw[List.mapM_cons];simp only[Sem.run_bind,a7f,Sem.run_pure] at h7 ⊢;have h8:((asAddr (a.tmps.getD b undef)).run Tryz.prog w).andThen (λa w'=>(loadVar t a).run Tryz.prog w')=.ok v w:=h7;rw[h8,Result.andThen_ok,h1];rfl
theorem a6s (h:RelI I0 X w0 I g s a w) {fn:Func} {q:List R} (hok:Q8 fn.results.toList=true) (hr:a8B j1 s fn.results.toList q):∃v,(results fn a.tmps).run Tryz.prog w=.ok v w/\a2H I w v q:=by
 obtain⟨vs,h1,h2⟩:=b1g h hok hr
 have h3:(fn.results.mapM (a7f a.tmps)).run Tryz.prog w=.ok vs.toArray w:=by
  rw[Array.mapM_eq_mapM_toList]
  simp[h1]
 have h4:(results fn a.tmps).run Tryz.prog w=.ok (if h:vs.toArray.size=1 then vs.toArray[0] else .tuple vs.toArray) w:=by
  have h5:results fn a.tmps=(do let vs <-fn.results.mapM (a7f a.tmps);pure (if h:vs.size=1 then vs[0] else .tuple vs)):=by
   unfold results
   congr 1
  rw[h5,Sem.run_bind,h3];rfl
 refine⟨_,h4,?_⟩;have hl:=h2.len
 match q,vs,h2,hl with
 | [r],[v],h2,_=>exact h2.1
 | [],[],h2,_=>exact⟨[],rfl,h2⟩
 | r::r'::q,v::v'::vs,h2,_=>exact⟨_,by simp,h2⟩
theorem a9G {I0:Nat->Nat->Prop} {w:World} {rs:List R} {args:List Value} (hI:Wld I0 w) (hat:a4i I0 w args rs) (n:Nat):RelI I0 (λ_=>False) ⟨w,λ_=>.nilFunc,0,[]⟩ I0 (λ_=>.nilFunc) (a2N rs n) { tmps:=args.toArray++Array.replicate n undef,defers:=[] } w:=by
 refine⟨λ_ _ h=>h,λb k hb=>⟨hI.1 b k hb,λ_=>.inl hb⟩,Fr.refl _ _,A1.refl _ _,Nat.zero_le _,λk hk=>absurd hk (Nat.not_lt_zero _),λk o ho=>by simp[a2N] at ho,λj k b hj=>?_,λ_ _=>rfl,?_,rfl,hI.2⟩
 ·obtain⟨o,ho,_⟩:=hj
  simp[a2N] at ho
 ·show n6 I0 w _ (args.toArray++Array.replicate n undef).toList (a2B (a9n rs) (uns n));rw[a08,Array.toList_append,a8C];refine(a3s _ hat).append ?_;rw[Array.toList_replicate];refine⟨by simp,λi u c hu hc=>?_⟩;rw[List.getElem?_replicate] at hu hc
  split at hu
  ·rename_i hi;rw[if_pos hi] at hc;injection hu with hu;injection hc with hc;subst hu;subst hc;exact .tu [] [] rfl λi u c hu _=>by simp at hu
  ·cases hu
theorem a5q {f:Nat} {fn:Func} {c:Code} {rs q:List R} (hf:Tryz.prog.funcs[f]?=some fn) (hb:fn.body=some c) (hn:(fn.name != "runtime.NumGoroutine")=true) (hc:y6 Tryz.prog c=true) (hr:Q8 fn.results.toList=true)
  (h:∀qa qb qc qd qe qf qg qh qi qj qk ql qm qo qp qq qt qu qv qw qx qy qz va vc vd ve vf vg vh vj vk vl vm vn vo vp vq vr vt vu vv vw,Ar.mk qa qb qc qd qe qf qg qh qi qj qk ql qm qo qp qq qt qu qv qw qx qy qz va vc vd ve vf vg vh vj vk vl vm vn vo vp vq vr vt vu vv vw=j1->B7 (Ar.mk qa qb qc qd qe qf qg qh qi qj qk ql qm qo qp qq qt qu qv qw qx qy qz va vc vd ve vf vg vh vj vk vl vm vn vo vp vq vr vt vu vv vw) c (a2N rs (fn.ntmps - G5 rs)) (λx s=>b6S (Ar.mk qa qb qc qd qe qf qg qh qi qj qk ql qm qo qp qq qt qu qv qw qx qy qz va vc vd ve vf vg vh vj vk vl vm vn vo vp vq vr vt vu vv vw) fn.results.toList q x s)):j5 f rs q:=by
 refine⟨by unfold a0T;rw[hf];simp only[hn,hb];rfl,?_⟩;intro I w args hI hat;have hlen:=hat.len;refine calls_of_wp hf hb ?_;have hsz:args.toArray.size=G5 rs:=by rw[J2];simp[hlen]
 rw[hsz];refine a8A (I0:=I) (X:=λ_=>False) (w0:=⟨w,λ_=>.nilFunc,0,[]⟩) c _ _ _ _ _ hc ⟨I,_,a9G hI hat _⟩ (h _ _ _ _ _ _ _ _ _ _ _ _ _ _ _ _ _ _ _ _ _ _ _ _ _ _ _ _ _ _ _ _ _ _ _ _ _ _ _ _ _ _ _ (show Ar.mk j1.wrap j1.add j1.sub j1.mul j1.quo j1.rem j1.bits j1.lt j1.le j1.eq j1.nz j1.seq j1.slt j1.bytes j1.cat j1.fits j1.slen j1.sget j1.ssub j1.txt j1.byt j1.nat j1.len j1.get j1.sub2 j1.app j1.set j1.room j1.mlook j1.mput j1.deq j1.rep j1.call j1.calld j1.callo j1.callx j1.new j1.lit j1.keep j1.next j1.ext j1.reg j1.loop=j1 from rfl)) λe s' a' w' hrel hk=>?_
 have key:a8B j1 s' fn.results.toList q->a'.defers=[]/\∃v,(results fn a'.tmps).run Tryz.prog w'=.ok v w'/\∃v',Ending.returned v=.returned v'/\a2H (nxt I w w') w' v' q/\Below w.heap.size w w':=λhk=>by
  obtain⟨I',g',h'⟩:=hrel;obtain⟨v,h1,h2⟩:=a6s h' hr hk;refine⟨h'.dfr.1,v,h1,v,rfl,?_,⟨h'.fr.os,h'.fr.tape,h'.fr.output,h'.fr.size,λb hb=>h'.fr.block b hb (λhx=>hx)⟩⟩
  have hnx:∀b k,I' b k->nxt I w w' b k:=λb k hbk=>by
   obtain⟨h3,h4⟩:=h'.lt b k hbk
   rcases Nat.lt_or_ge b w.heap.size with hlt|hge
   ·exact .inl ((h4 hlt).resolve_right (λhx=>hx))
   ·exact .inr ⟨hge,h3⟩
  match q,h2 with
  | [],⟨us,e,hu⟩=>exact⟨us,e,hu.mono hnx (A1.refl _ _)⟩
  | [r],hu=>exact AtR.mono hnx (A1.refl _ _) hu
  | r::r'::q,⟨us,e,hu⟩=>exact⟨us,e,hu.mono hnx (A1.refl _ _)⟩
 cases e with
 | normal=>exact key hk
 | exit i=>exact hk.elim
 | ret=>exact key hk
def a7g (a:Ar) (s:S):List ResultVar->(List V->Prop)->Prop
 | [],K=>K []
 | .tmp t::l,K=>a7g a s l (λvs=>K (o6 s.t t::vs))
 | .cell b t::l,K=>E0 a s.o (λy=>a7g a s l (λvs=>K (y::vs))) t (o6 s.t b)
def b8O (a:Ar) (n:Nat) (Q:List V->List O->Prop) (l:List ResultVar):Vm.X->S->Prop
 | .exit _,_=>False
 | .normal,s=>a7g a s l (λvs=>a.keep n Q vs s)
 | .ret,s=>a7g a s l (λvs=>a.keep n Q vs s)
def a8D (vs:List V) (os:List O) (n:Nat):S:=⟨a2B vs (uns n),os⟩
theorem a8E (h:RelI I0 X w0 I g s a w):∀ {l:List ResultVar} {K:List V->Prop},Q8 l=true->a7g j1 s l K->∃us vs,(l.mapM (a7f a.tmps)).run Tryz.prog w=.ok us w/\n6 I w g us vs/\K vs
 | [],K,_,h=>⟨[],[],rfl,.nil I w g,h⟩
 | .tmp t::l,K,hok,hr=>by
  obtain⟨us,vs,h1,h2,h3⟩:=a8E h (l:=l) hok hr;refine⟨a.eval (.tmp t)::us,o6 s.t t::vs,?_,.cons (h.get (.tmp t)) h2,h3⟩;rw[List.mapM_cons];simp only[Sem.run_bind,h1,Result.andThen_ok,a7f,Sem.run_pure];rfl
 | .cell b t::l,K,hok,hr=>by
  rw[Q8,Bool.and_eq_true] at hok;obtain⟨v,x,h3,h5,h6⟩:=a4p h hok.1 (h.get (.tmp b)) hr;obtain⟨us,vs,h1,h2,h4⟩:=a8E h (l:=l) hok.2 h6;refine⟨v::us,x::vs,?_,.cons h5 h2,h4⟩;have h7:=a1Z h3;rw[List.mapM_cons];simp only[Sem.run_bind,a7f,Sem.run_pure] at h7 ⊢;have h8:((asAddr (a.tmps.getD b undef)).run Tryz.prog w).andThen (λa w'=>(loadVar t a).run Tryz.prog w')=.ok v w:=h7;rw[h8,Result.andThen_ok,h1];rfl
theorem a4T (h:RelI I0 X w0 I g s a w) {fn:Func} {K:List V->Prop} (hok:Q8 fn.results.toList=true) (hr:a7g j1 s fn.results.toList K):∃us vs,(results fn a.tmps).run Tryz.prog w=.ok (pkg us) w/\n6 I w g us vs/\K vs:=by
 obtain⟨us,vs,h1,h2,h3⟩:=a8E h hok hr;refine⟨us,vs,?_,h2,h3⟩
 have h4:(fn.results.mapM (a7f a.tmps)).run Tryz.prog w=.ok us.toArray w:=by
  rw[Array.mapM_eq_mapM_toList]
  simp[h1]
 have h5:results fn a.tmps=(do let vs <-fn.results.mapM (a7f a.tmps);pure (if h:vs.size=1 then vs[0] else .tuple vs)):=by
  unfold results
  congr 1
 rw[h5,Sem.run_bind,h4]
 match us with
 | []=>rfl
 | [u]=>rfl
 | u::u'::us =>
  show Result.ok _ w=_;rw[dif_neg (by simp)];rfl
theorem a9H {f:Nat} {fn:Func} {c:Code} {vs:List V} {os:List O} {Q:List V->List O->Prop} (hf:Tryz.prog.funcs[f]?=some fn) (hb:fn.body=some c) (hn:(fn.name != "runtime.NumGoroutine")=true) (hc:y6 Tryz.prog c=true) (hr:Q8 fn.results.toList=true)
  (h:∀qa qb qc qd qe qf qg qh qi qj qk ql qm qo qp qq qt qu qv qw qx qy qz va vc vd ve vf vg vh vj vk vl vm vn vo vp vq vr vt vu vv vw,Ar.mk qa qb qc qd qe qf qg qh qi qj qk ql qm qo qp qq qt qu qv qw qx qy qz va vc vd ve vf vg vh vj vk vl vm vn vo vp vq vr vt vu vv vw=j1->B7 (Ar.mk qa qb qc qd qe qf qg qh qi qj qk ql qm qo qp qq qt qu qv qw qx qy qz va vc vd ve vf vg vh vj vk vl vm vn vo vp vq vr vt vu vv vw) c (a8D vs os (fn.ntmps - G5 vs)) (λx s=>b8O (Ar.mk qa qb qc qd qe qf qg qh qi qj qk ql qm qo qp qq qt qu qv qw qx qy qz va vc vd ve vf vg vh vj vk vl vm vn vo vp vq vr vt vu vv vw) (o7 os) Q fn.results.toList x s)):B0 f vs os Q:=by
 refine⟨by unfold a0T;rw[hf];simp only[hn,hb];rfl,?_⟩;intro I w g args hrel;have hv:n6 I w g args vs:=hrel.tmp;refine calls_of_wp hf hb ?_;have hsz:args.toArray.size=G5 vs:=by rw[J2];simp[hv.1]
 rw[hsz]
 have hstart:RelI I (Xof g os) ⟨w,g,os.length,[]⟩ I g (a8D vs os (fn.ntmps - G5 vs)) { tmps:=args.toArray++Array.replicate (fn.ntmps - G5 vs) undef,defers:=[] } w:=by
  refine⟨hrel.im,hrel.lt,hrel.fr,hrel.kp,hrel.lo,hrel.st,hrel.obj,hrel.dis,hrel.out,?_,rfl,hrel.dfr.2⟩;show n6 I w _ (args.toArray++Array.replicate (fn.ntmps - G5 vs) undef).toList (a2B vs (uns (fn.ntmps - G5 vs)));rw[a08,Array.toList_append,a8C];refine hv.append ?_;rw[Array.toList_replicate];refine⟨by simp,λi u c hu hc=>?_⟩;rw[List.getElem?_replicate] at hu hc
  split at hu
  ·rename_i hi;rw[if_pos hi] at hc;injection hu with hu;injection hc with hc;subst hu;subst hc;exact .tu [] [] rfl λi u c hu _=>by simp at hu
  ·cases hu
 refine a8A (I0:=I) (X:=Xof g os) (w0:=⟨w,g,os.length,[]⟩) c _ _ _ _ _ hc ⟨I,_,hstart⟩ (h _ _ _ _ _ _ _ _ _ _ _ _ _ _ _ _ _ _ _ _ _ _ _ _ _ _ _ _ _ _ _ _ _ _ _ _ _ _ _ _ _ _ _ (show Ar.mk j1.wrap j1.add j1.sub j1.mul j1.quo j1.rem j1.bits j1.lt j1.le j1.eq j1.nz j1.seq j1.slt j1.bytes j1.cat j1.fits j1.slen j1.sget j1.ssub j1.txt j1.byt j1.nat j1.len j1.get j1.sub2 j1.app j1.set j1.room j1.mlook j1.mput j1.deq j1.rep j1.call j1.calld j1.callo j1.callx j1.new j1.lit j1.keep j1.next j1.ext j1.reg j1.loop=j1 from rfl)) λe s' a' w' hrel2 hk=>?_
 have key:a7g j1 s' fn.results.toList (λvs=>j1.keep (o7 os) Q vs s')->a'.defers=[]/\∃v,(results fn a'.tmps).run Tryz.prog w'=.ok v w'/\∃us res os2 I' g',Ending.returned v=.returned (pkg us)/\Q res os2/\RelI I (Xof g os) ⟨w,g,os.length,[]⟩ I' g' ⟨res,os2⟩ { tmps:=us.toArray,defers:=[] } w':=λhk=>by
  obtain⟨I',g',h'⟩:=hrel2;obtain⟨us,vs',h1,h2,ks,res',os',hko,hQ⟩:=a4T h' hr hk;rw[r6] at hko;exact⟨h'.dfr.1,_,h1,us,res',os',I',_,rfl,hQ,b67 h' rfl hko h2⟩
 cases e with
 | normal=>exact key hk
 | exit i=>exact hk.elim
 | ret=>exact key hk
end
/-! A call whose body is walked in place. -/
section
variable {I0:Nat->Nat->Prop} {X:Nat->Prop} {w0:W0} {I:Nat->Nat->Prop} {g:Nat->Value} {s:S} {a:Act} {w:World}
def a6t (vs:List V) (o:List O) (n:Nat):S:=⟨a2B vs (uns n),y8 o (.kl [])⟩
def a3H:Nat->List O->List O
 | 0,_=>[]
 | _+1,[]=>[]
 | n+1,x::l=>x::a3H n l
theorem a6u:∀(n:Nat) (l:List O),a3H n l=l.take n
 | 0,l=>by simp[a3H]
 | n+1,[]=>by simp[a3H]
 | n+1,x::l=>by simp[a3H,a6u n l]
def b8P (n:Nat):V->Bool
 | .tu vs=>a8u n vs
 | x=>b86 n x
theorem b6T {I:Nat->Nat->Prop} {w:World} {g g':Nat->Value} {n:Nat} (hg:∀k,k<n->g' k=g k) {v:Value} {x:V} (h:AtV I w g v x) (hl:b8P n x=true):AtV I w g' v x:=by
 unfold b8P at hl
 split at hl
 ·obtain⟨us,rfl,h2⟩:=h.untu;exact a0G (a86 hg h2 hl)
 ·exact b2o hg h hl
def b5a (n:Nat) (x:V) (o:List O):List O:=match b8P n x with
 | true=>match a1P n (a3H n o) with|true=>a3H n o|false=>J8 o n .dead
 | false=>J8 o n .dead
def b2x (n:Nat) (K:V->List O->List Nat->Prop) (res:List V) (s:S):Prop:=match y5 s.o n with
 | .kl ks=>K (a0u res) (b5a n (a0u res) s.o) ks
 | _=>False
def b6U (a:Ar) (n:Nat) (K:V->List O->List Nat->Prop) (l:List ResultVar):Vm.X->S->Prop
 | .exit _,_=>False
 | .normal,s=>a7g a s l (λvs=>b2x n K vs s)
 | .ret,s=>a7g a s l (λvs=>b2x n K vs s)
theorem b6V {g:Nat->Value} {vs:List V} {us:List Value} (h:n6 I w g us vs):AtV I w g (pkg us) (a0u vs):=b41 h
theorem RelI.rebase (h:RelI I0 X w0 I g s a w) {us:List Value} {vs:List V} (hv:n6 I w g us vs):∃g',(∀k,k<s.o.length->g' k=g k)/\g' s.o.length=.agg ((List.range s.o.length).map g).toArray /\
  RelI I (Xof g' (y8 s.o (.kl []))) ⟨w,g',s.o.length+1,[]⟩ I g' ⟨vs,y8 s.o (.kl [])⟩ { tmps:=us.toArray,defers:=[] } w:=by
 obtain⟨ghost,hgh⟩:∃v:Value,v=.agg ((List.range s.o.length).map g).toArray:=⟨_,rfl⟩
 have h1:=h.newObj (.kl []) ghost ⟨((List.range s.o.length).map g).toArray,by rw[n7,hgh],by simp,λj u hu=>.inr (.inl (by
  have hj:j<s.o.length:=by have:=(Array.getElem?_eq_some_iff.1 hu).1;simpa using this
  rw[A2 (by omega)];simp only[List.getElem?_toArray,List.getElem?_map,List.getElem?_range hj,Option.map_some,Option.some.injEq] at hu
  exact hu))⟩ (λj b _ _=>by rw[hgh];exact λh=>h)
 have hg:∀k,k<s.o.length->upd g s.o.length ghost k=g k:=λk hk=>A2 (by omega)
 have hlen:(s.obj (.kl [])).o.length=s.o.length+1:=by show (y8 s.o _).length=_;rw[Z4];simp
 refine⟨upd g s.o.length ghost,hg,by rw[n7,hgh],λ_ _ h=>h,λb k hb=>⟨(h.lt b k hb).1,λ_=>.inl hb⟩,Fr.refl _ _,A1.refl _ _,by rw[Z4];simp,λ_ _ _=>rfl,λk o ho=>?_,h1.dis,h1.out,hv.more (h.fresh _),rfl,h.tabs λb ⟨k,o,ho,hd,hg⟩=>((h1.obj k o ho).blk hd b hg).2⟩;have hob:=h1.obj k o ho;have hX:∀b,gbl (upd g s.o.length ghost k) b->o≠.dead->a1k (Xof (upd g s.o.length ghost) (y8 s.o (.kl []))) ⟨w,upd g s.o.length ghost,s.o.length+1,[]⟩ b:=λb hb hd=>.inr ⟨k,o,ho,hd,hb⟩
 cases o with
 | dead=>exact True.intro
 | box cs =>
  obtain⟨b,us,t,e1,e2,e3,e4,e5,e6⟩:=hob;exact⟨b,us,t,e1,e2,e3,e4,e5,hX b (by rw[e1];rfl) (by simp)⟩
 | row z e rows =>
  obtain⟨us,e1,e2,e3,e4⟩:=hob;exact⟨us,e1,e2,e3,λb hb=>⟨(e4 b hb).1,(e4 b hb).2.1,hX b ((a0w e1).2 hb) (by simp)⟩⟩
 | mp kt es =>
  obtain⟨b,l,c,e1,e2,e3,e4,e5⟩:=hob;exact⟨b,l,c,e1,e2,e3,e4,hX b (by rw[e1];rfl) (by simp)⟩
 | ob T vs =>
  obtain⟨b,e1,e2,e4,e5⟩:=hob;exact⟨b,e1,e2,e4,hX b (by rw[e1];rfl) (by simp)⟩
 | it P =>
  obtain⟨A,n,cap,F,e1,e2,e3,e4⟩:=hob;exact⟨A,n,cap,F,e1,e2,e3,λb hb=>⟨(e4 b hb).1,(e4 b hb).2.1,hX b (by rw[e1,a0P];exact hb) (by simp)⟩⟩
 | kl ks=>exact hob
theorem RelI.unbase (h:RelI I0 X w0 I g s a w) {g':Nat->Value} {os2:List O} {t2:List V} {a2:Act} {w':World} {I2:Nat->Nat->Prop} {g2:Nat->Value} {ks:List Nat} (hg:∀k,k<s.o.length->g' k=g k) (hgn:g' s.o.length=.agg ((List.range s.o.length).map g).toArray)
  (h2:RelI I (Xof g' (y8 s.o (.kl []))) ⟨w,g',s.o.length+1,[]⟩ I2 g2 ⟨t2,os2⟩ a2 w') (hk:os2[s.o.length]?=some (.kl ks)):n6 I2 w' (a4u s.o.length g2) a.tmps.toList (A7 ks s.t)/\RelI I0 X w0 I2 g2 ⟨A7 ks s.t,os2.set s.o.length .dead⟩ a w':=by
 have hlo:s.o.length+1<=os2.length:=h2.lo
 have hX:∀b,Xof g' (y8 s.o (.kl [])) b->b<w.heap.size/\a1k X w0 b:=λb ⟨k,o,ho,hd,hb⟩=>by
  rw[Z4] at ho
  rcases Nat.lt_or_ge k s.o.length with hlt|hge
  ·rw[List.getElem?_append_left hlt] at ho;rw[hg k hlt] at hb;exact(h.obj k o ho).blk hd b hb
  ·have hlt:=(List.getElem?_eq_some_iff.1 ho).1;rw[List.length_append,List.length_singleton] at hlt;have:k=s.o.length:=by omega
   subst this;rw[hgn] at hb;exact hb.elim
 have hM:∀b,a1k (Xof g' (y8 s.o (.kl []))) ⟨w,g',s.o.length+1,[]⟩ b->a1k X w0 b:=λb hb=>by
  rcases hb with hb|hb
  ·exact .inl (Nat.le_trans h.fr.size hb)
  ·exact(hX b hb).2
 have hst:∀k,k<s.o.length->Q0 (g k)=true->g2 k=g k:=λk hk hr=>by
  rw[<-hg k hk] at hr ⊢;exact h2.st k (Nat.lt_succ_of_lt hk) hr
 have hkl:∀k,k<s.o.length->k∉ks->g2 k=g k\/g k=.nilFunc:=λk hk0 hks=>by
  obtain⟨us,e1,e2,e3⟩:=h2.obj _ _ hk;have e4:=h2.st s.o.length (Nat.lt_succ_self _) (by show Q0 (g' s.o.length)=true;rw[hgn];rfl);have e5:g2 s.o.length=g' s.o.length:=e4;rw[e5,hgn] at e1;have e1:=Value.agg.inj e1;have hu:us[k]?=some (g k):=by rw[<-e1];simp[hk0]
  rcases e3 k _ hu with e6|e6|e6
  ·exact .inr e6
  ·exact .inl e6
  ·exact absurd e6 hks
 have hget:∀(k:Nat) (o:O),(os2.set s.o.length O.dead)[k]?=some o->o=O.dead\/os2[k]?=some o:=λk o ho=>by
  by_cases e:s.o.length=k
  ·subst e;rw[List.getElem?_set_self (by omega)] at ho;exact .inl (Option.some.inj ho).symm
  ·rw[List.getElem?_set_ne e] at ho;exact .inr ho
 have hlv:∀k,J1 ⟨A7 ks s.t,os2.set s.o.length .dead⟩ k->J1 ⟨t2,os2⟩ k:=λk ⟨o,ho,hd⟩=>⟨o,(hget k o ho).resolve_left hd,hd⟩
 have hcut:n6 I2 w' (a4u s.o.length g2) a.tmps.toList (A7 ks s.t):=by
  classical
  have h3:n6 I w (λk=>if k<s.o.length then g2 k else g k) a.tmps.toList (A7 ks s.t):=by
   refine a4m ks (λk=>if g k=.nilFunc/\k<s.o.length then g2 k else g k) (λj hj=>?_) (λj hr=>?_) (h.tmp.more λk hk=>?_)
   ·by_cases hlt:j<s.o.length
    ·rw[if_pos hlt]
     rcases hkl j hlt hj with e|e
     ·by_cases e':g j=.nilFunc
      ·rw[if_pos ⟨e',hlt⟩]
      ·rw[if_neg (λh=>e' h.1)];exact e
     ·rw[if_pos ⟨e,hlt⟩]
    ·rw[if_neg hlt,if_neg (λh=>hlt h.2)]
   ·by_cases hlt:j<s.o.length
    ·rw[if_pos hlt]
     by_cases e':g j=.nilFunc
     ·rw[if_pos ⟨e',hlt⟩]
     ·rw[if_neg (λh=>e' h.1)] at hr ⊢;exact hst j hlt hr
    ·rw[if_neg hlt,if_neg (λh=>hlt h.2)]
   ·rw[if_neg (λh=>hk h.1)]
  refine(h3.more λk hk=>?_).mono (λb k hb=>h2.im b k hb) h2.kp;unfold a4u
  by_cases hc:k<s.o.length
  ·rw[if_pos hc,if_pos hc]
  ·rw[if_neg hc] at hk;exact absurd (h.out k (by omega)) hk
 refine⟨hcut,?_⟩;refine⟨λb k hb=>h2.im b k (h.im b k hb),λb k hb=>⟨(h2.lt b k hb).1,λhlt=>?_⟩,⟨h2.fr.os.trans h.fr.os,h2.fr.tape.trans h.fr.tape,h2.fr.output.trans h.fr.output,Nat.le_trans h.fr.size h2.fr.size,λb hb hx=>?_⟩,h.kp.trans λb k hb i hi=>h2.kp b k (h.im b k hb) i hi,?_,λk hk' hr=>?_,λk o ho=>?_,λj k b hj hk'=>h2.dis j k b (hlv j hj) (hlv k hk'),λk hk'=>?_,?_,h.dfr⟩
 ·rcases (h2.lt b k hb).2 (Nat.lt_of_lt_of_le hlt h.fr.size) with h3|h3
  ·exact(h.lt b k h3).2 hlt
  ·rcases (hX b h3).2 with h4|h4
   ·omega
   ·exact .inr h4
 ·refine(h2.fr.block b (Nat.lt_of_lt_of_le hb h.fr.size) λhx'=>?_).trans (h.fr.block b hb hx)
  rcases (hX b hx').2 with h4|h4
  ·omega
  ·exact hx h4
 ·show w0.n<=(os2.set s.o.length .dead).length;have:=h.lo;rw[List.length_set];omega
 ·have e:=h.st k hk' hr;have hlt:k<s.o.length:=Nat.lt_of_lt_of_le hk' h.lo;rw[<-e] at hr ⊢;exact hst k hlt hr
 ·rcases hget k o ho with rfl|ho
  ·exact True.intro
  have hob:=h2.obj k o ho;cases o with
  | dead=>exact True.intro
  | box cs =>
   obtain⟨b,us,t,e1,e2,e3,e4,e5,e6⟩:=hob;exact⟨b,us,t,e1,e2,e3,e4,e5,hM b e6⟩
  | row z e rows =>
   obtain⟨us,e1,e2,e3,e4⟩:=hob;exact⟨us,e1,e2,e3,λb hb=>⟨(e4 b hb).1,(e4 b hb).2.1,hM b (e4 b hb).2.2⟩⟩
  | mp kt es =>
   obtain⟨b,l,c,e1,e2,e3,e4,e5⟩:=hob;exact⟨b,l,c,e1,e2,e3,e4,hM b e5⟩
  | ob T vs =>
   obtain⟨b,e1,e2,e4,e5⟩:=hob;exact⟨b,e1,e2,e4,hM b e5⟩
  | it P =>
   obtain⟨A,n,cap,F,e1,e2,e3,e4⟩:=hob;exact⟨A,n,cap,F,e1,e2,e3,λb hb=>⟨(e4 b hb).1,(e4 b hb).2.1,hM b (e4 b hb).2.2⟩⟩
  | kl js=>exact hob
 ·have hk':(os2.set s.o.length .dead).length<=k:=hk';rw[List.length_set] at hk';exact h2.out k hk'
 ·exact(hcut.more λk hk=>by unfold a4u at hk ⊢;split at hk <;> first|rw[if_pos (by assumption)]|exact absurd rfl hk)
theorem RelI.trim (h:RelI I0 X w0 I g s a w) {n:Nat} (hn:w0.n<=n) (hnl:n<=s.o.length) (h1:n6 I w (a4u n g) a.tmps.toList s.t) (h2:a1P n (s.o.take n)=true):RelI I0 X w0 I (a4u n g) ⟨s.t,s.o.take n⟩ a w:=by
 have hl:(s.o.take n).length=n:=by simp;omega
 have hg:∀k,k<n->a4u n g k=g k:=λk hk=>if_pos hk
 have hget:∀k o,(s.o.take n)[k]?=some o->k<n/\s.o[k]?=some o:=λk o ho=>by
  rw[List.getElem?_take] at ho
  split at ho
  ·exact⟨by assumption,ho⟩
  ·cases ho
 have hlv:∀k,J1 ⟨s.t,s.o.take n⟩ k->k<n/\J1 s k:=λk ⟨o,ho,hd⟩=>⟨(hget k o ho).1,o,(hget k o ho).2,hd⟩
 refine⟨h.im,h.lt,h.fr,h.kp,by show w0.n<=(s.o.take n).length;omega,λk hk hr=>(hg k (by omega)).trans (h.st k hk hr),λk o ho=>?_,λj k b hj hk hbj hbk=>?_,λk hk=>if_neg (by have hk:(s.o.take n).length<=k:=hk;omega),h1,h.dfr⟩
 ·obtain⟨hk,hso⟩:=hget k o ho;have hob:=h.obj k o hso;cases o with
  | dead=>exact True.intro
  | box cs =>
   obtain⟨b,us,t,e1,e2,e3,e4⟩:=hob;exact⟨b,us,t,(hg k hk).trans e1,e2,a5o hg e3 (a3u h2 ho),e4⟩
  | row z e rows =>
   obtain⟨us,e1,e2,e3,e4⟩:=hob;exact⟨us,by rw[hg k hk];exact e1,e2,e3,by rw[hg k hk];exact e4⟩
  | mp kt es =>
   obtain⟨b,l,c,e1,e2⟩:=hob;exact⟨b,l,c,(hg k hk).trans e1,e2⟩
  | ob T vs =>
   obtain⟨b,e1,e2⟩:=hob;exact⟨b,(hg k hk).trans e1,e2⟩
  | it P =>
   obtain⟨A,n',cap,F,e1,e2⟩:=hob;exact⟨A,n',cap,F,(hg k hk).trans e1,e2⟩
  | kl ks =>
   obtain⟨us,e1,e2,e3⟩:=hob;refine⟨us,(hg k hk).trans e1,e2,λj u hu=>?_⟩;have hj:=(Array.getElem?_eq_some_iff.1 hu).1
   rcases e3 j u hu with e4|e4|e4
   ·exact .inl e4
   ·exact .inr (.inl ((hg j (by omega)).trans e4))
   ·exact .inr (.inr e4)
 ·obtain⟨hj1,hj2⟩:=hlv j hj;obtain⟨hk1,hk2⟩:=hlv k hk;rw[hg j hj1] at hbj;rw[hg k hk1] at hbk;exact h.dis j k b hj2 hk2 hbj hbk
theorem b5b {f:Nat} {fn:Func} {c:Code} {vs:List V} {o:List O} {K:V->List O->List Nat->Prop} (hf:Tryz.prog.funcs[f]?=some fn) (hb:fn.body=some c) (hn:(fn.name != "runtime.NumGoroutine")=true) (hc:y6 Tryz.prog c=true) (hr:Q8 fn.results.toList=true)
  (h:B7 j1 c (a6t vs o (fn.ntmps - G5 vs)) (λx s=>b6U j1 (o7 o) K fn.results.toList x s)):N3 f vs o K:=by
 refine⟨by unfold a0T;rw[hf];simp only[hn,hb];rfl,?_⟩;intro I0 X w0 I g t a w us hrel hv;refine calls_of_wp hf hb ?_;have hsz:us.toArray.size=G5 vs:=by rw[J2];simp[hv.1]
 rw[hsz];obtain⟨g',hg,hgn,h1⟩:=hrel.rebase hv
 have hstart:RelI I (Xof g' (y8 o (.kl []))) ⟨w,g',o.length+1,[]⟩ I g' (a6t vs o (fn.ntmps - G5 vs)) { tmps:=us.toArray++Array.replicate (fn.ntmps - G5 vs) undef,defers:=[] } w:=by
  refine⟨h1.im,h1.lt,h1.fr,h1.kp,h1.lo,h1.st,h1.obj,h1.dis,h1.out,?_,rfl,h1.dfr.2⟩;show n6 I w _ (us.toArray++Array.replicate (fn.ntmps - G5 vs) undef).toList (a2B vs (uns (fn.ntmps - G5 vs)));rw[a08,Array.toList_append,a8C];refine n6.append h1.tmp ?_;rw[Array.toList_replicate];refine⟨by simp,λi u c hu hc=>?_⟩;rw[List.getElem?_replicate] at hu hc
  split at hu
  ·rename_i hi;rw[if_pos hi] at hc;injection hu with hu;injection hc with hc;subst hu;subst hc;exact .tu [] [] rfl λi u c hu _=>by simp at hu
  ·cases hu
 refine a8A c _ _ _ _ _ hc ⟨I,_,hstart⟩ h λe s' a' w' hrel2 hk=>?_
 have key:a7g j1 s' fn.results.toList (λvs=>b2x (o7 o) K vs s')->a'.defers=[]/\∃v,(results fn a'.tmps).run Tryz.prog w'=.ok v w'/\∃v' x o' ks I' g',Ending.returned v=.returned v'/\RelI I0 X w0 I' g' ⟨A7 ks t,o'⟩ a w'/\AtV I' w' g' v' x/\K x o' ks:=λhk=>by
  obtain⟨I2,g2,h2⟩:=hrel2;obtain⟨us2,res,r1,r2,r3⟩:=a4T h2 hr hk;unfold b2x at r3
  split at r3 <;> try exact r3.elim
  rename_i ks hks;have hks':=A5 hks (by simp);rw[r6] at hks' r3;obtain⟨hcut,h3⟩:=hrel.unbase hg hgn h2 hks';have hlo:o.length+1<=s'.o.length:=h2.lo;have hx:=b6V r2;refine⟨h2.dfr.1,_,r1,pkg us2,a0u res,b5a o.length (a0u res) s'.o,ks,I2,?_⟩;unfold b5a at r3 ⊢
  split
  ·rename_i hl2;rw[hl2] at r3;simp only at r3
   split
   ·rename_i hlo2;rw[hlo2] at r3;simp only at r3;rw[a6u] at hlo2 r3 ⊢
    have e:(s'.o.set o.length .dead).take o.length=s'.o.take o.length:=by
     rw[List.take_set_of_le (Nat.le_refl _)]
    have h4:=h3.trim (n:=o.length) hrel.lo (by show o.length<=(s'.o.set _ _).length;rw[List.length_set];omega) hcut (by show a1P _ ((s'.o.set _ _).take _)=true;rw[e];exact hlo2);refine⟨a4u o.length g2,rfl,?_,b6T (λk hk=>if_pos hk) hx hl2,r3⟩;have h5:(⟨A7 ks t,(s'.o.set o.length .dead).take o.length⟩:S)=⟨A7 ks t,s'.o.take o.length⟩:=by rw[e]
    rw[<-h5];exact h4
   ·rename_i hlo2;rw[hlo2] at r3;simp only at r3;rw[H5] at r3 ⊢;exact⟨g2,rfl,h3,hx,r3⟩
  ·rename_i hl2;rw[hl2] at r3;simp only at r3;rw[H5] at r3 ⊢;exact⟨g2,rfl,h3,hx,r3⟩
 cases e with
 | normal=>exact key hk
 | exit i=>exact hk.elim
 | ret=>exact key hk
theorem b2y {n:Nat} (hout:∀k,n<=k->g k=.nilFunc):∀ {cs:List V} {us:List Value},n6 I w g us cs->(∀u∈us,u.oneCell'=true)->a5A n cs=true
 | [],us,h,_=>rfl
 | c::cs,us,h,h1=>by
  obtain⟨u,us',rfl,h2,h3⟩:=h.uncons
  have hlt:∀k,g k≠.nilFunc->Nat.blt k n=true:=λk hk=>by
   rw[Nat.blt_eq]
   rcases Nat.lt_or_ge k n with h4|h4
   ·exact h4
   ·exact absurd (hout k h4) hk
  have hc:a1B n c=true:=by
   have hu:=h1 u (List.mem_cons_self ..);cases h2 with
   | d hh=>rfl
   | ag=>cases hu
   | tu=>cases hu
   | em=>rfl
   | own k A m cap hh=>exact hlt k (by intro e;rw[e] at hh;cases hh)
   | ptr k off b hh=>exact hlt k (by rw[hh];simp)
   | cl f us ks hl hh =>
    rw[a1B]
    have key:∀(ks:List Nat),(∀k∈ks,g k≠.nilFunc)->b3l n ks=true:=by
     intro ks
     induction ks with
     | nil=>intro _;rfl
     | cons k ks ih =>
      intro h;rw[b3l,hlt k (h k (List.mem_cons_self ..))];exact ih λk hk=>h k (List.mem_cons_of_mem _ hk)
    refine key ks λk hk=>?_
    obtain⟨i,hi⟩:=List.mem_iff_getElem?.1 hk;have hlt':i<us.length:=by rw[hl];exact(List.getElem?_eq_some_iff.1 hi).1
    obtain⟨_,b,hb⟩:=hh i _ k (List.getElem?_eq_getElem hlt') hi;rw[hb];simp
   | el k i sz off b m cap hh=>exact hlt k (by rw[hh];simp)
   | ro b o off us cs hi hc hd=>rfl
   | mp k b hh=>exact hlt k (by rw[hh];simp)
   | bs k n' b cap hh hn=>exact hlt k (by rw[hh];simp)
   | jk v=>rfl
  rw[a5A,hc];exact b2y hout h3 λu hu=>h1 u (List.mem_cons_of_mem _ hu)
theorem RelI.low (h:RelI I0 X w0 I g s a w):a1P s.o.length s.o=true:=by
 have key:∀l:List O,(∀o∈l,∀cs,o=.box cs->a5A s.o.length cs=true)->a1P s.o.length l=true:=by
  intro l
  induction l with
  | nil=>intro _;rfl
  | cons o l ih =>
   intro h;have h2:=ih λo ho=>h o (List.mem_cons_of_mem _ ho)
   cases o with
   | box cs=>rw[a1P,h _ (List.mem_cons_self ..) cs rfl];exact h2
   | _=>exact h2
 refine key s.o λo ho cs e=>?_
 subst e;obtain⟨k,hk⟩:=List.mem_iff_getElem?.1 ho;obtain⟨b,us,t,h1,h2,h3,h4,_⟩:=h.obj k _ hk;exact b2y h.out h3 h4
end
def a41 (i:Nat):List V->Bool
 | []=>false
 | .own k::l=>match K7 k i with|true=>true|false=>a41 i l
 | _::l=>a41 i l
def b2z:Nat->List V->Bool
 | 0,_=>true
 | n+1,vs=>match a41 n vs with|true=>b2z n vs|false=>false
theorem a7H {i:Nat}:∀ {l:List V},a41 i l=true->∃p:Nat,l[p]?=some (V.own i)
 | [],h=>by cases h
 | x::l,h=>by
  have B6:a41 i l=true->∃p:Nat,(x::l)[p]?=some (V.own i):=λh=>by
   obtain⟨p,hp⟩:=a7H h;exact⟨p+1,by simpa using hp⟩
  unfold a41 at h
  split at h
  ·cases ‹_=[]›
  ·rename_i k l' e;injection e with e1 e2;subst e1;subst e2
   split at h
   ·rename_i hk;rw[B2] at hk;subst hk;exact⟨0,rfl⟩
   ·exact B6 h
  ·rename_i e;injection e with e1 e2;subst e2;exact B6 h
theorem a9I:∀ {n:Nat} {vs:List V},b2z n vs=true->∀i,i<n->∃p:Nat,vs[p]?=some (V.own i)
 | 0,_,_,i,hi=>absurd hi (Nat.not_lt_zero _)
 | n+1,vs,h,i,hi=>by
  rw[b2z] at h
  split at h
  ·rename_i h1
   by_cases e:i=n
   ·subst e;exact a7H h1
   ·exact a9I h i (by omega)
  ·cases h
theorem c01 {I:Nat->Nat->Prop} {w:World} {g:Nat->Value}:∀ {res:List V} {v:Value},AtV I w g v (a0u res)->∃us,v=pkg us/\n6 I w g us res
 | [],v,h=>by
  obtain⟨us,rfl,h2⟩:=AtV.untu h;exact⟨us,by rw[h2.unnil];rfl,h2⟩
 | [r],v,h=>⟨[v],rfl,.cons h (.nil I w g)⟩
 | r::r'::res,v,h=>by
  obtain⟨us,rfl,h2⟩:=AtV.untu h;obtain⟨u,us',rfl,_,h4⟩:=h2.uncons;obtain⟨u',us'',rfl,_,_⟩:=h4.uncons;exact⟨_,rfl,h2⟩
def b6W:Nat->List O->Bool
 | 0,_=>true
 | n+1,.row _ _ _::l=>b6W n l
 | _,_=>false
theorem a8F:∀ {n:Nat} {l:List O},b6W n l=true->∀i,i<n->∃z e r,l[i]?=some (O.row z e r)
 | 0,_,_,i,hi=>absurd hi (Nat.not_lt_zero _)
 | n+1,[],h,_,_=>by cases h
 | n+1,o::l,h,i,hi=>by
  cases o with
  | row z e r =>
   cases i with
   | zero=>exact⟨z,e,r,rfl⟩
   | succ i=>exact a8F (n:=n) (l:=l) h i (by omega)
  | _=>cases h
theorem Z9 {f:Nat} {fn:Func} {c:Code} {vs:List V} {os:List O} {Q:List V->List O->Prop} (hf:Tryz.prog.funcs[f]?=some fn) (hb:fn.body=some c) (hn:(fn.name != "runtime.NumGoroutine")=true) (hc:y6 Tryz.prog c=true) (hr:Q8 fn.results.toList=true) (hs:b2z (o7 os) vs=true) (hos:b6W (o7 os) os=true) (hq:∀res o',Q res o'->b6W (o7 os) o'=true)
  (h:∀qa qb qc qd qe qf qg qh qi qj qk ql qm qo qp qq qt qu qv qw qx qy qz va vc vd ve vf vg vh vj vk vl vm vn vo vp vq vr vt vu vv vw,Ar.mk qa qb qc qd qe qf qg qh qi qj qk ql qm qo qp qq qt qu qv qw qx qy qz va vc vd ve vf vg vh vj vk vl vm vn vo vp vq vr vt vu vv vw=j1->∀K:V->List O->List Nat->Prop,(∀res o',Q res o'->K (a0u res) o' [])->B7 (Ar.mk qa qb qc qd qe qf qg qh qi qj qk ql qm qo qp qq qt qu qv qw qx qy qz va vc vd ve vf vg vh vj vk vl vm vn vo vp vq vr vt vu vv vw) c (a6t vs os (fn.ntmps - G5 vs)) (λx s=>b6U (Ar.mk qa qb qc qd qe qf qg qh qi qj qk ql qm qo qp qq qt qu qv qw qx qy qz va vc vd ve vf vg vh vj vk vl vm vn vo vp vq vr vt vu vv vw) (o7 os) K fn.results.toList x s)):K3 f vs os Q:=by
 have h0:=b5b (K:=λx o' ks=>ks=[]/\∃res,x=a0u res/\Q res o') (vs:=vs) (o:=os) hf hb hn hc hr (h _ _ _ _ _ _ _ _ _ _ _ _ _ _ _ _ _ _ _ _ _ _ _ _ _ _ _ _ _ _ _ _ _ _ _ _ _ _ _ _ _ _ _ (show Ar.mk j1.wrap j1.add j1.sub j1.mul j1.quo j1.rem j1.bits j1.lt j1.le j1.eq j1.nz j1.seq j1.slt j1.bytes j1.cat j1.fits j1.slen j1.sget j1.ssub j1.txt j1.byt j1.nat j1.len j1.get j1.sub2 j1.app j1.set j1.room j1.mlook j1.mput j1.deq j1.rep j1.call j1.calld j1.callo j1.callx j1.new j1.lit j1.keep j1.next j1.ext j1.reg j1.loop=j1 from rfl) _ λres o' hq=>⟨rfl,res,rfl,hq⟩);refine⟨h0.1,λI w g args hrel=>?_⟩;refine(h0.2 I (Xof g os) ⟨w,g,os.length,[]⟩ I g vs { tmps:=args.toArray,defers:=[] } w args hrel hrel.tmp).mono ?_
 rintro e w' ⟨v,x,o',ks,I',g',rfl,h',hv,rfl,res,rfl,hQ⟩
 obtain⟨us,rfl,hus⟩:=c01 hv;refine⟨us,res,o',I',g',rfl,⟨hQ,λi hi=>?_⟩,⟨h'.im,h'.lt,h'.fr,h'.kp,h'.lo,h'.st,h'.obj,h'.dis,h'.out,hus,rfl,h'.dfr.2⟩⟩;have hq2:=hq _ _ hQ;rw[r6] at hs hos hq2;obtain⟨p,hp⟩:=a9I hs i hi;obtain⟨z1,f1,r1,ho1⟩:=a8F hos i hi;obtain⟨z2,f2,r2,ho2⟩:=a8F hq2 i hi;obtain⟨us1,hw1,_⟩:=hrel.obj i _ ho1;obtain⟨us2,hw2,_⟩:=h'.obj i _ ho2;have e1:n6 I w g args vs:=hrel.tmp;have e2:n6 I' w' g' args vs:=h'.tmp;have hlt:p<args.length:=by rw[e1.1];exact(List.getElem?_eq_some_iff.1 hp).1
 have ha:args[p]?=some args[p]:=List.getElem?_eq_getElem hlt;rw[<-a1O hw1,<-a1O hw2,<-(e1.2 p _ _ ha hp).unown.1,<-(e2.2 p _ _ ha hp).unown.1]
section
variable {f:Nat} {fn:Func} {c:Code}
theorem C2 {rs q:List R} (hf:Tryz.prog.funcs[f]?=some fn) (hb:fn.body=some c) (h:∀qa qb qc qd qe qf qg qh qi qj qk ql qm qo qp qq qt qu qv qw qx qy qz va vc vd ve vf vg vh vj vk vl vm vn vo vp vq vr vt vu vv vw,Ar.mk qa qb qc qd qe qf qg qh qi qj qk ql qm qo qp qq qt qu qv qw qx qy qz va vc vd ve vf vg vh vj vk vl vm vn vo vp vq vr vt vu vv vw=j1->B7 (Ar.mk qa qb qc qd qe qf qg qh qi qj qk ql qm qo qp qq qt qu qv qw qx qy qz va vc vd ve vf vg vh vj vk vl vm vn vo vp vq vr vt vu vv vw) c (a2N rs (fn.ntmps - G5 rs)) (λx s=>b6S (Ar.mk qa qb qc qd qe qf qg qh qi qj qk ql qm qo qp qq qt qu qv qw qx qy qz va vc vd ve vf vg vh vj vk vl vm vn vo vp vq vr vt vu vv vw) fn.results.toList q x s)) (hn:(fn.name != "runtime.NumGoroutine")=true:=by kernel_rfl) (hc:y6 Tryz.prog c=true:=by kernel_rfl) (hr:Q8 fn.results.toList=true:=by kernel_rfl):j5 f rs q:=a5q hf hb hn hc hr h
theorem so9 {vs:List V} {os:List O} {Q:List V->List O->Prop} (hf:Tryz.prog.funcs[f]?=some fn) (hb:fn.body=some c) (h:∀qa qb qc qd qe qf qg qh qi qj qk ql qm qo qp qq qt qu qv qw qx qy qz va vc vd ve vf vg vh vj vk vl vm vn vo vp vq vr vt vu vv vw,Ar.mk qa qb qc qd qe qf qg qh qi qj qk ql qm qo qp qq qt qu qv qw qx qy qz va vc vd ve vf vg vh vj vk vl vm vn vo vp vq vr vt vu vv vw=j1->B7 (Ar.mk qa qb qc qd qe qf qg qh qi qj qk ql qm qo qp qq qt qu qv qw qx qy qz va vc vd ve vf vg vh vj vk vl vm vn vo vp vq vr vt vu vv vw) c (a8D vs os (fn.ntmps - G5 vs)) (λx s=>b8O (Ar.mk qa qb qc qd qe qf qg qh qi qj qk ql qm qo qp qq qt qu qv qw qx qy qz va vc vd ve vf vg vh vj vk vl vm vn vo vp vq vr vt vu vv vw) (o7 os) Q fn.results.toList x s)) (hn:(fn.name != "runtime.NumGoroutine")=true:=by kernel_rfl) (hc:y6 Tryz.prog c=true:=by kernel_rfl) (hr:Q8 fn.results.toList=true:=by kernel_rfl):B0 f vs os Q:=a9H hf hb hn hc hr h
end
end
section
def wrO:List Oper->List Nat->List Nat
 | [],acc=>acc
 | ⟨some d,_,_,_,_,_⟩::l,acc=>d::wrO l acc
 | _::l,acc=>wrO l acc
def wr:Code->List Nat->List Nat
 | .region _ ops _,acc=>wrO ops.toList acc
 | .seq c d,acc=>wr c (wr d acc)
 | .cond _ c d,acc=>wr c (wr d acc)
 | .block _ c,acc=>wr c acc
 | .loop c,acc=>wr c acc
 | _,acc=>acc
def b1h:List Nat->List V->List V
 | [],t=>t
 | i::l,t=>b1h l (I4 t i .jk)
def a9J:List (Nat×V)->List V->List V
 | [],t=>t
 | (i,v)::l,t=>a9J l (I4 t i v)
def a7I:List (Nat×O)->List O->List O
 | [],o=>o
 | (k,x)::l,o=>a7I l (J8 o k x)
theorem a42:∀(l:List (Nat×O)) (o:List O),(a7I l o).length=o.length
 | [],_=>rfl
 | (k,x)::l,o=>by rw[a7I,a42 l,H5,List.length_set]
def head (c:Code) (s:S) (l:List (Nat×V)) (m:List (Nat×O)):S:=⟨a9J l (b1h (wr c []) s.t),a7I m s.o⟩
def I7:Code->Code
 | .seq c _=>c
 | c=>c
def m7:Code->Code
 | .seq _ c=>c
 | c=>c
section
variable {I0:Nat->Nat->Prop} {X:Nat->Prop} {w0:W0} {I:Nat->Nat->Prop} {g:Nat->Value} {s:S} {a:Act} {w:World}
theorem RelI.reread (h:RelI I0 X w0 I g s a w) {i:Nat} {x:V} (hx:∀v,a.tmps.toList[i]?=some v->AtV I w g v x):RelI I0 X w0 I g ⟨I4 s.t i x,s.o⟩ a w:=by
 refine⟨h.im,h.lt,h.fr,h.kp,h.lo,h.st,h.obj,h.dis,h.out,?_,h.dfr⟩;rw[a07];refine⟨by rw[List.length_set];exact h.tmp.1,λj v y hv hy=>?_⟩
 by_cases hji:i=j
 ·subst hji;have hlt:i<s.t.length:=by have:=(List.getElem?_eq_some_iff.1 hy).1;rw[List.length_set] at this;exact this
  rw[List.getElem?_set_self hlt] at hy;cases hy;exact hx v hv
 ·rw[List.getElem?_set_ne hji] at hy;exact h.tmp.2 j v y hv hy
end
theorem E2.own (s:S) (i e:Nat) (z:Bool) (hi:o6 s.t i=.em):E2 s ⟨I4 s.t i (.own (o7 s.o)),y8 s.o (.row z e [])⟩:=by
 rintro I0 X w0 a w ⟨I,g,h⟩
 have h2:=h.newObj (.row z e []) (.slice none 0 0) ⟨[],by rw[n7];exact World.ownsRow_nil w 0 e _,by simp,A8.nil I w,λb hb=>by rw[n7] at hb;cases hb⟩ (λj b _ _ hb=>by cases hb);refine⟨I,upd g s.o.length (.slice none 0 0),?_⟩;have h3:RelI I0 X w0 I (upd g s.o.length (.slice none 0 0)) ⟨s.t,y8 s.o (.row z e [])⟩ a w:=h2;refine h3.reread λv hv=>?_
 have hs:=U6 hi (by simp);have h4:=h.tmp.2 i v _ hv hs;rw[h4.unem];exact .own _ _ _ _ (by rw[r6,n7];rfl)
theorem E2.weaker (s s':S) (hw:Vm.weak s s') (hl:o7 s.o=o7 s'.o):E2 s s':=λI0 X w0 a w h=>h.weak (by
 obtain⟨I,g,h⟩:=h;have:=h.lo;rw[<-r6,<-hl,r6]
 exact this) (.inr hw)
section
variable {qa:IntKind->Int->Int} {qb:Int->Int->Int} {qc:Int->Int->Int} {qd:Int->Int->Int} {qe:Int->Int->Int} {qf:Int->Int->Int} {qg:BinOp->IntKind->Int->IntKind->Int->Option Int} {qh:Int->Int->Bool} {qi:Int->Int->Bool} {qj:Int->Int->Bool} {qk:Int->Prop->Prop} {ql:List UInt8->List UInt8->Bool} {qm:List UInt8->List UInt8->Bool} {qo:ByteArray->List UInt8} {qp:ByteArray->ByteArray->ByteArray} {qq:ByteArray->ByteArray->Prop->Prop} {qt:ByteArray->Int} {qu:ByteArray->Int->Option Int} {qv:ByteArray->Int->Int->Option ByteArray} {qw:List (List D)->Option ByteArray} {qx:ByteArray->List (List D)} {qy:Int->Nat->Option Nat} {qz:List (List D)->Int} {va:List (List D)->Int->Option (List D)} {vc:List (List D)->Int->Int->Option (List (List D))} {vd:List (List D)->List (List D)->List (List D)} {ve:List (List D)->Int->List D->List (List D)} {vf:List (List D)->List (List D)->Prop->Prop} {vg:List (R×R)->R->Option R} {vh:List (R×R)->R->R->List (R×R)} {vj:List D->List D->Bool} {vk:Int->List D->(List (List D)->Prop)->Prop} {vl:Nat->List R->(List R->Prop)->Prop} {vm:Nat->List V->List O->(V->Prop)->Prop} {vn:Nat->List V->S->(V->S->Prop)->Prop} {vo:Nat->List V->List Nat->S->(V->S->Prop)->Prop} {vp:Nat->(Bool->Prop)->Prop} {vq:Nat->(Bool->Prop)->Prop} {vr:Nat->(List V->List O->Prop)->List V->S->Prop} {vt:(S->Prop)->S->Prop} {vu:Op->Option Nat->S->(S->Prop)->Prop} {vv:Array Oper->S->(S->Prop)->Prop} {vw:Code->(S->(X->S->Prop)->Prop)->S->(X->S->Prop)->Prop}
theorem o5 (hA:Ar.mk qa qb qc qd qe qf qg qh qi qj qk ql qm qo qp qq qt qu qv qw qx qy qz va vc vd ve vf vg vh vj vk vl vm vn vo vp vq vr vt vu vv vw=j1) {c:Code} {body:S->(X->S->Prop)->Prop} {s:S} {K:X->S->Prop} {γ:Type} (slots:γ->List (Nat×V)) (objs:γ->List (Nat×O)) (inv:γ->Prop) (μ:γ->Nat) (x0:γ) (h0:inv x0) (hw:weak s (head c s (slots x0) (objs x0)))
  (hr:∀x,inv x->body (head c s (slots x) (objs x)) (λe s'=>a8i (λs2=>∃y,inv y/\μ y<μ x/\weak s2 (head c s (slots y) (objs y))) K e s')):vw c body s K:=by
 have e:vw=j1.loop:=congrArg Ar.loop hA;rw[e];exact .inl ⟨γ,λx=>head c s (slots x) (objs x),inv,μ,λx _=>by rw[r6,r6];exact Nat.le_of_eq (a42 _ _).symm,⟨x0,hw,h0⟩,hr⟩
theorem j2 (hA:Ar.mk qa qb qc qd qe qf qg qh qi qj qk ql qm qo qp qq qt qu qv qw qx qy qz va vc vd ve vf vg vh vj vk vl vm vn vo vp vq vr vt vu vv vw=j1) {N:S->Prop} {s:S} (h:N s):vt N s:=by
 have e:vt=j1.next:=congrArg Ar.next hA
 rw[e];exact⟨λs2=>s2=s,λ_ _ _ _ _ h=>⟨_,rfl,h⟩,λs2 e=>by subst e;exact h⟩
theorem T6 (hA:Ar.mk qa qb qc qd qe qf qg qh qi qj qk ql qm qo qp qq qt qu qv qw qx qy qz va vc vd ve vf vg vh vj vk vl vm vn vo vp vq vr vt vu vv vw=j1) {N:S->Prop} {s:S} (s':S) (hg:E2 s s') (h:N s'):vt N s:=by
 have e:vt=j1.next:=congrArg Ar.next hA
 rw[e];exact⟨λs2=>s2=s',λ_ _ _ _ _ hr=>⟨_,rfl,hg _ _ _ _ _ hr⟩,λs2 e=>by subst e;exact h⟩
theorem b5c (hA:Ar.mk qa qb qc qd qe qf qg qh qi qj qk ql qm qo qp qq qt qu qv qw qx qy qz va vc vd ve vf vg vh vj vk vl vm vn vo vp vq vr vt vu vv vw=j1) {N:S->Prop} {s:S} (ks:List Nat) (h:N ⟨s.t,frz ks s.o⟩):vt N s:=T6 hA _ (E2.frz s ks) h
theorem a1v (hA:Ar.mk qa qb qc qd qe qf qg qh qi qj qk ql qm qo qp qq qt qu qv qw qx qy qz va vc vd ve vf vg vh vj vk vl vm vn vo vp vq vr vt vu vv vw=j1) {N:S->Prop} {s:S} (i e:Nat) (z:Bool) (hi:o6 s.t i=.em) (h:N ⟨I4 s.t i (.own (o7 s.o)),y8 s.o (.row z e [])⟩):vt N s:=T6 hA _ (E2.own s i e z hi) h
theorem j3 (hA:Ar.mk qa qb qc qd qe qf qg qh qi qj qk ql qm qo qp qq qt qu qv qw qx qy qz va vc vd ve vf vg vh vj vk vl vm vn vo vp vq vr vt vu vv vw=j1) {f:Nat} {vs:List V} {s:S} {rs:List R} {K:V->S->Prop} (q:List R) (h:j5 f rs q) (hr:a7b s.o vs=some rs) (hK:K (b3g q) s):vn f vs s K:=by
 have e:vn=j1.callo:=congrArg Ar.callo hA;rw[e];exact(a5H h hr).mono λx o' ks ⟨e1,e2,e3⟩=>by subst e1;subst e2;subst e3;exact hK
theorem j4 (hA:Ar.mk qa qb qc qd qe qf qg qh qi qj qk ql qm qo qp qq qt qu qv qw qx qy qz va vc vd ve vf vg vh vj vk vl vm vn vo vp vq vr vt vu vv vw=j1) {f:Nat} {rs:List R} {K:List R->Prop} (q:List R) (h:j5 f rs q) (hK:K q):vl f rs K:=by
 have e:vl=j1.call:=congrArg Ar.call hA;rw[e];exact⟨q,h,hK⟩
theorem l9 (hA:Ar.mk qa qb qc qd qe qf qg qh qi qj qk ql qm qo qp qq qt qu qv qw qx qy qz va vc vd ve vf vg vh vj vk vl vm vn vo vp vq vr vt vu vv vw=j1) {f:Nat} {vs:List V} {s:S} {K:V->S->Prop} (ks:List Nat) {vs':List V} {os':List O} {Q:List V->List O->Prop} (h:B0 f vs' os' Q) (hs:SubOk ks vs' os' vs s) (hK:∀res os2,Q res os2->K (a0u (upT ks (o7 s.o) res)) (a0t ks os2 s)):vn f vs s K:=by
 have e:vn=j1.callo:=congrArg Ar.callo hA;rw[e];exact(a90 h hs).mono λx o' ks' ⟨e1,res,os2,hQ,e2,e3⟩=>by subst e1;subst e2;subst e3;exact hK res os2 hQ
theorem E7 (hA:Ar.mk qa qb qc qd qe qf qg qh qi qj qk ql qm qo qp qq qt qu qv qw qx qy qz va vc vd ve vf vg vh vj vk vl vm vn vo vp vq vr vt vu vv vw=j1) {f:Nat} {vs:List V} {s:S} {K:V->S->Prop} (ks:List Nat) {vs':List V} {os':List O} {Q:List V->List O->Prop} (h:K3 f vs' os' Q) (hs:SubOk ks vs' os' vs s) (hK:∀res os2,Q res os2->K (a0u (upT ks (o7 s.o) res)) ⟨s.t,E1 ks (N2 ks (o7 s.o) os2) s.o⟩):vn f vs s K:=by
 have e:vn=j1.callo:=congrArg Ar.callo hA;rw[e];exact(a1R h hs).mono λx o' ks' ⟨e1,res,os2,hQ,e2,e3⟩=>by subst e1;subst e2;subst e3;exact hK res os2 hQ
theorem b5d (hA:Ar.mk qa qb qc qd qe qf qg qh qi qj qk ql qm qo qp qq qt qu qv qw qx qy qz va vc vd ve vf vg vh vj vk vl vm vn vo vp vq vr vt vu vv vw=j1) {f:Nat} {vs:List V} {l:List Nat} {s:S} {K:V->S->Prop} (ks:List Nat) {vs':List V} {os':List O} {Q:List V->List O->Prop} (h:K3 f vs' os' Q) (hs:SubOk ks vs' os' vs s) (hK:∀res os2,Q res os2->a1n l s.t s.o (E1 ks (N2 ks (o7 s.o) os2) s.o)/\K (a0u (upT ks (o7 s.o) res)) ⟨s.t,E1 ks (N2 ks (o7 s.o) os2) s.o⟩):vo f vs l s K:=by
 have e:vo=j1.callx:=congrArg Ar.callx hA;rw[e];exact N3.x ((a1R h hs).mono λx o' ks' ⟨e1,res,os2,hQ,e2,e3⟩=>⟨e1,by subst e2;subst e3;exact hK res os2 hQ⟩)
theorem a3I (hA:Ar.mk qa qb qc qd qe qf qg qh qi qj qk ql qm qo qp qq qt qu qv qw qx qy qz va vc vd ve vf vg vh vj vk vl vm vn vo vp vq vr vt vu vv vw=j1) {f:Nat} {vs:List V} {l:List Nat} {s:S} {K:V->S->Prop} {x:V} (h:a5G f vs s.o x) (hK:K x s):vo f vs l s K:=by
 have e:vo=j1.callx:=congrArg Ar.callx hA;rw[e];exact h.x.mono λy o' ⟨e1,e2⟩=>by subst e1;subst e2;exact⟨λ_ _ _ _=>rfl,hK⟩
theorem K4 (hA:Ar.mk qa qb qc qd qe qf qg qh qi qj qk ql qm qo qp qq qt qu qv qw qx qy qz va vc vd ve vf vg vh vj vk vl vm vn vo vp vq vr vt vu vv vw=j1) {f:Nat} {vs:List V} {l:List Nat} {s:S} {rs:List R} {K:V->S->Prop} (q:List R) (h:j5 f rs q) (hr:a7b s.o vs=some rs) (hK:K (b3g q) s):vo f vs l s K:=by
 have e:vo=j1.callx:=congrArg Ar.callx hA;rw[e];exact N3.x ((a5H h hr).mono λx o' ks ⟨e1,e2,e3⟩=>⟨e3,by subst e1;subst e2;exact⟨λ_ _ _ _=>rfl,hK⟩⟩)
theorem b1i (t:List V) (o o':List O):a1n [] t o o':=λi hi=>by simp at hi
theorem a9K {i:Nat} {l:List Nat} {t:List V} {o o':List O} (h:∀k,b8f (o6 t i)=some k->y5 o' k=y5 o k) (hl:a1n l t o o'):a1n (i::l) t o o':=λj hj k hk=>by
 rcases List.mem_cons.1 hj with rfl|hj
 ·exact h k hk
 ·exact hl j hj k hk
def b1j:List O->Bool
 | []=>true
 | .box _::l=>b1j l
 | .mp _ _::l=>b1j l
 | .ob _ _::l=>b1j l
 | _=>false
theorem b20 {X:Nat->Prop} {w0:W0} {I:Nat->Nat->Prop} {w:World} {g:Nat->Value}:∀ {l:List O} {i:Nat} {o:O},b1j l=true->l[i]?=some o->∀ {k:Nat},U4 X w0 I w g k o->Q0 (g k)=true
 | [],i,o,_,h,_,_=>by simp at h
 | x::l,0,o,hb,h,k,ho=>by
  simp at h
  subst h;cases x with
  | box cs=>obtain⟨b,us,t,e,_⟩:=ho;rw[e];rfl
  | mp kt es=>obtain⟨b,l,c,e,_⟩:=ho;rw[e];rfl
  | ob T vs=>obtain⟨b,e,_⟩:=ho;rw[e];rfl
  | _=>cases hb
 | x::l,i+1,o,hb,h,k,ho=>by
  have hb:b1j l=true:=by cases x <;> first|exact hb|cases hb
  exact b20 hb (by simpa using h) ho
theorem B0.box {f:Nat} {vs:List V} {os:List O} {Q:List V->List O->Prop} (h:B0 f vs os Q) (hb:b1j os=true):K3 f vs os Q :=
 ⟨h.1,λI w g args hrel=>(h.2 I w g args hrel).mono λe w' ⟨us,res,os2,I',g',e1,hQ,h'⟩=>⟨us,res,os2,I',g',e1,⟨hQ,λi hi=>h'.st i hi (b20 hb (List.getElem?_eq_getElem hi) (hrel.obj i _ (List.getElem?_eq_getElem hi)))⟩,h'⟩⟩
theorem r7 (hA:Ar.mk qa qb qc qd qe qf qg qh qi qj qk ql qm qo qp qq qt qu qv qw qx qy qz va vc vd ve vf vg vh vj vk vl vm vn vo vp vq vr vt vu vv vw=j1) {n:Nat} {Q:List V->List O->Prop} {res:List V} {s:S} (ks:List Nat) {res':List V} {os':List O} (h:KeepOk n ks res' os' res s) (hQ:Q res' os'):vr n Q res s:=by
 have e:vr=j1.keep:=congrArg Ar.keep hA;rw[e];exact⟨ks,res',os',h,hQ⟩
theorem a3e (hA:Ar.mk qa qb qc qd qe qf qg qh qi qj qk ql qm qo qp qq qt qu qv qw qx qy qz va vc vd ve vf vg vh vj vk vl vm vn vo vp vq vr vt vu vv vw=j1) {e:Nat} {K:Bool->Prop} (z:Bool) (h:K z):vp e K:=by
 have e1:vp=j1.new:=congrArg Ar.new hA;rw[e1];exact⟨z,h⟩
theorem y7 (hA:Ar.mk qa qb qc qd qe qf qg qh qi qj qk ql qm qo qp qq qt qu qv qw qx qy qz va vc vd ve vf vg vh vj vk vl vm vn vo vp vq vr vt vu vv vw=j1) {t:Nat} {K:Bool->Prop} (c:Bool) (h:K c):vq t K:=by
 have e:vq=j1.lit:=congrArg Ar.lit hA;rw[e];exact⟨c,h⟩
theorem l7 (hA:Ar.mk qa qb qc qd qe qf qg qh qi qj qk ql qm qo qp qq qt qu qv qw qx qy qz va vc vd ve vf vg vh vj vk vl vm vn vo vp vq vr vt vu vv vw=j1):(∀k n,qa k n=k.wrap n)/\(∀x y,qb x y=x+y)/\(∀x y,qc x y=x - y)/\(∀x y,qd x y=x * y)/\(∀x y,qe x y=x.tdiv y)/\(∀x y,qf x y=x.tmod y)/\(∀x y,qh x y=decide (x<y))/\(∀x y,qi x y=decide (x<=y))/\(∀x y,qj x y=(x == y)):=by
 first|(injection hA;subst_vars)|subst hA
 exact⟨λ_ _=>rfl,λ_ _=>rfl,λ_ _=>rfl,λ_ _=>rfl,λ_ _=>rfl,λ_ _=>rfl,λ_ _=>rfl,λ_ _=>rfl,λ_ _=>rfl⟩
theorem a5r (hA:Ar.mk qa qb qc qd qe qf qg qh qi qj qk ql qm qo qp qq qt qu qv qw qx qy qz va vc vd ve vf vg vh vj vk vl vm vn vo vp vq vr vt vu vv vw=j1):∀op k x k' y,qg op k x k' y=a5z op k x k' y:=by
 first|(injection hA;subst_vars)|subst hA
 exact λ_ _ _ _ _=>rfl
theorem nc (n:Nat):@NatCast.natCast Int instNatCastInt n=(n:Int):=rfl
theorem a5s (n:Int):a5z .shr .u64 n .u64 1=some (n / 2):=by
 show some (n.fdiv (2 ^ (min 1 64)))=some (n / 2);rw[show (2:Int) ^ (min 1 64)=2 from rfl,Int.fdiv_eq_ediv_of_nonneg _ (by omega)]
theorem o8 (hA:Ar.mk qa qb qc qd qe qf qg qh qi qj qk ql qm qo qp qq qt qu qv qw qx qy qz va vc vd ve vf vg vh vj vk vl vm vn vo vp vq vr vt vu vv vw=j1):(∀x y,ql x y=(x == y))/\(∀x y,qm x y=Op.bytesLess x y)/\(∀b,qo b=b.toList)/\(∀x y,qp x y=x++y)/\(∀b,qt b=(b.size:Int))/\(∀b n,qu b n=j1.sget b n)/\(∀b l h,qv b l h=j1.ssub b l h):=by
 first|(injection hA;subst_vars)|subst hA
 exact⟨λ_ _=>rfl,λ_ _=>rfl,λ_=>rfl,λ_ _=>rfl,λ_=>rfl,λ_ _=>rfl,λ_ _ _=>rfl⟩
theorem a8G (hA:Ar.mk qa qb qc qd qe qf qg qh qi qj qk ql qm qo qp qq qt qu qv qw qx qy qz va vc vd ve vf vg vh vj vk vl vm vn vo vp vq vr vt vu vv vw=j1):(∀r,qw r=a5i r)/\(∀s,qx s=a52 s):=by
 first|(injection hA;subst_vars)|subst hA
 exact⟨λ_=>rfl,λ_=>rfl⟩
theorem n8 (hA:Ar.mk qa qb qc qd qe qf qg qh qi qj qk ql qm qo qp qq qt qu qv qw qx qy qz va vc vd ve vf vg vh vj vk vl vm vn vo vp vq vr vt vu vv vw=j1):(∀r,qz r=(r.length:Int))/\(∀r n,va r n=if 0<=n then r[n.toNat]? else none)/\(∀r l h,vc r l h=j1.sub2 r l h)/\(∀x y,vd x y=x++y):=by
 first|(injection hA;subst_vars)|subst hA
 exact⟨λ_=>rfl,λ_ _=>rfl,λ_ _ _=>rfl,λ_ _=>rfl⟩
theorem a2a (hA:Ar.mk qa qb qc qd qe qf qg qh qi qj qk ql qm qo qp qq qt qu qv qw qx qy qz va vc vd ve vf vg vh vj vk vl vm vn vo vp vq vr vt vu vv vw=j1):(∀es r,vg es r=a2A es r)/\(∀es r q,vh es r q=a0E es r q)/\(∀i n,qy i n=j1.nat i n)/\∀rows i y,ve rows i y=rows.set i.toNat y:=by
 first|(injection hA;subst_vars)|subst hA
 exact⟨λ_ _=>rfl,λ_ _ _=>rfl,λ_ _=>rfl,λ_ _ _=>rfl⟩
theorem b8l (hA:Ar.mk qa qb qc qd qe qf qg qh qi qj qk ql qm qo qp qq qt qu qv qw qx qy qz va vc vd ve vf vg vh vj vk vl vm vn vo vp vq vr vt vu vv vw=j1) {x:Int} {k:Prop} (h:x≠0) (hk:k):qk x k:=by
 have e:qk=j1.nz:=congrArg Ar.nz hA;rw[e];exact⟨h,hk⟩
theorem n9 (hA:Ar.mk qa qb qc qd qe qf qg qh qi qj qk ql qm qo qp qq qt qu qv qw qx qy qz va vc vd ve vf vg vh vj vk vl vm vn vo vp vq vr vt vu vv vw=j1) {x y:ByteArray} {k:Prop} (h:x.size+y.size<=4611686018427387904) (hk:k):qq x y k:=by
 have e:qq=j1.fits:=congrArg Ar.fits hA;rw[e];exact⟨h,hk⟩
theorem y9 (hA:Ar.mk qa qb qc qd qe qf qg qh qi qj qk ql qm qo qp qq qt qu qv qw qx qy qz va vc vd ve vf vg vh vj vk vl vm vn vo vp vq vr vt vu vv vw=j1) {x y:List (List D)} {k:Prop} (h:x.length+y.length<=137438953472) (hk:k):vf x y k:=by
 have e:vf=j1.room:=congrArg Ar.room hA;rw[e];exact⟨h,hk⟩
theorem b8Q (hA:Ar.mk qa qb qc qd qe qf qg qh qi qj qk ql qm qo qp qq qt qu qv qw qx qy qz va vc vd ve vf vg vh vj vk vl vm vn vo vp vq vr vt vu vv vw=j1) {f:Nat} {fn:Func} {c:Code} {vs:List V} {s:S} {K:V->S->Prop} (hf:Tryz.prog.funcs[f]?=some fn) (hb:fn.body=some c) (hn:(fn.name != "runtime.NumGoroutine")=true) (hc:y6 Tryz.prog c=true) (hr:Q8 fn.results.toList=true)
  (h:B7 (Ar.mk qa qb qc qd qe qf qg qh qi qj qk ql qm qo qp qq qt qu qv qw qx qy qz va vc vd ve vf vg vh vj vk vl vm vn vo vp vq vr vt vu vv vw) c (a6t vs s.o (fn.ntmps - G5 vs)) (λx s2=>b6U (Ar.mk qa qb qc qd qe qf qg qh qi qj qk ql qm qo qp qq qt qu qv qw qx qy qz va vc vd ve vf vg vh vj vk vl vm vn vo vp vq vr vt vu vv vw) (o7 s.o) (λv o' ks=>K v ⟨A7 ks s.t,o'⟩) fn.results.toList x s2)):vn f vs s K:=by
 have e:vn=j1.callo:=congrArg Ar.callo hA;rw[hA] at h;rw[e];exact b5b hf hb hn hc hr h
end
end
theorem gn {P Q:Prop} (hq:Q) (h:Q->P:=by
  intro hq
  try cbv
  repeat ((with_reducible apply j2 hA);cbv)
  exact hq):P:=h hq
theorem gr {P Q:Prop} (hq:Q) (h:Q->P:=by
  intro hq
  iterate 2 (try cbv;repeat ((first|with_reducible apply j2 hA|rw[q0]|rw[q1]|rw[q2]|rw[q3]|rw[q4]|rw[q5]|rw[q6]|rw[q7]|rw[q8]|rw[q9]|rw[p0]|rw[p1]|rw[p2]|rw[p3]|rw[p4]|rw[p5]|rw[p6]|rw[p7]|rw[p8]|rw[p9]|rw[g0]|rw[g1]|rw[g2]|rw[g3]|rw[g4]|rw[g5]|rw[g6]|rw[g7]|rw[g8]|rw[g9]|rw[t0]|rw[t1]|rw[t2]|rw[t3]|rw[t4]|rw[t5]|rw[t6]|rw[t7]|rw[t8]|rw[t9]|rw[u0]|rw[u1]|rw[u2]|rw[u3]|rw[u4]|rw[u5]|rw[u6]|rw[u7]|rw[u8]|rw[u9]|refine j3 hA _ h0 rfl ?_|refine j4 hA _ h0 ?_|refine j3 hA _ h1 rfl ?_|refine j4 hA _ h1 ?_|refine j3 hA _ h2 rfl ?_|refine j4 hA _ h2 ?_|refine j3 hA _ h3 rfl ?_|refine j4 hA _ h3 ?_|refine j3 hA _ h4 rfl ?_|refine j4 hA _ h4 ?_|refine j3 hA _ c0 rfl ?_|refine j4 hA _ c0 ?_|refine j3 hA _ c1 rfl ?_|refine j4 hA _ c1 ?_|refine j3 hA _ c2 rfl ?_|refine j4 hA _ c2 ?_|refine j3 hA _ d0 rfl ?_|refine j4 hA _ d0 ?_|refine j3 hA _ k0 rfl ?_|refine j4 hA _ k0 ?_|refine j3 hA _ k1 rfl ?_|refine j4 hA _ k1 ?_|refine j3 hA _ k2 rfl ?_|refine j4 hA _ k2 ?_|refine j3 hA _ k3 rfl ?_|refine j4 hA _ k3 ?_|refine j3 hA _ hd rfl ?_|refine j4 hA _ hd ?_|refine j3 hA _ hc rfl ?_|refine j4 hA _ hc ?_|refine j3 hA _ hr rfl ?_|refine j4 hA _ hr ?_|refine j3 hA _ hT rfl ?_|refine j4 hA _ hT ?_|refine j3 hA _ kO rfl ?_|refine j4 hA _ kO ?_|refine y7 hA true ?_|refine y9 hA (by first|(simp only[List.length_cons,List.length_nil];omega)|omega) ?_);cbv))
  exact hq):P:=h hq
theorem fr {P:Prop} (h:P:=by
  iterate 2 (try cbv;repeat ((first|with_reducible apply j2 hA|rw[q0]|rw[q1]|rw[q2]|rw[q3]|rw[q4]|rw[q5]|rw[q6]|rw[q7]|rw[q8]|rw[q9]|rw[p0]|rw[p1]|rw[p2]|rw[p3]|rw[p4]|rw[p5]|rw[p6]|rw[p7]|rw[p8]|rw[p9]|rw[g0]|rw[g1]|rw[g2]|rw[g3]|rw[g4]|rw[g5]|rw[g6]|rw[g7]|rw[g8]|rw[g9]|rw[t0]|rw[t1]|rw[t2]|rw[t3]|rw[t4]|rw[t5]|rw[t6]|rw[t7]|rw[t8]|rw[t9]|rw[u0]|rw[u1]|rw[u2]|rw[u3]|rw[u4]|rw[u5]|rw[u6]|rw[u7]|rw[u8]|rw[u9]|refine j3 hA _ h0 rfl ?_|refine j4 hA _ h0 ?_|refine j3 hA _ h1 rfl ?_|refine j4 hA _ h1 ?_|refine j3 hA _ h2 rfl ?_|refine j4 hA _ h2 ?_|refine j3 hA _ h3 rfl ?_|refine j4 hA _ h3 ?_|refine j3 hA _ h4 rfl ?_|refine j4 hA _ h4 ?_|refine j3 hA _ c0 rfl ?_|refine j4 hA _ c0 ?_|refine j3 hA _ c1 rfl ?_|refine j4 hA _ c1 ?_|refine j3 hA _ c2 rfl ?_|refine j4 hA _ c2 ?_|refine j3 hA _ d0 rfl ?_|refine j4 hA _ d0 ?_|refine j3 hA _ k0 rfl ?_|refine j4 hA _ k0 ?_|refine j3 hA _ k1 rfl ?_|refine j4 hA _ k1 ?_|refine j3 hA _ k2 rfl ?_|refine j4 hA _ k2 ?_|refine j3 hA _ k3 rfl ?_|refine j4 hA _ k3 ?_|refine j3 hA _ hd rfl ?_|refine j4 hA _ hd ?_|refine j3 hA _ hc rfl ?_|refine j4 hA _ hc ?_|refine j3 hA _ hr rfl ?_|refine j4 hA _ hr ?_|refine j3 hA _ hT rfl ?_|refine j4 hA _ hT ?_|refine j3 hA _ kO rfl ?_|refine j4 hA _ kO ?_|refine y7 hA true ?_|refine y9 hA (by first|(simp only[List.length_cons,List.length_nil];omega)|omega) ?_);cbv))):P:=h
end Go.Proofs.YtncijebklnbhlaaGreatDoor.Vm
end
section
namespace Go.Proofs.YtncijebklnbhlaaGreatDoor
open Go.RowKit
set_option maxRecDepth 100000
set_option maxHeartbeats 4000000
def a6v (c:Int):Int:=if c<128 then 1 else if 192<=c/\c<224 then 2 else if 224<=c/\c<240 then 3 else if 240<=c/\c<248 then 4 else 0
def isB (r:Int):Bool:=decide (0<=r) && (decide (r<=1114111) && (decide (r<55296) || decide (57343<r)))
def c02 (r:Int):Int:=if r<128 then 1 else if r<2048 then 2 else if r<65536 then 3 else 4
def b1k (n c:Int):Int:=if n=1 then c else if n=2 then c % 32 else if n=3 then c % 16 else c % 8
def b6X (l:List Int) (m:Int):Nat->Int
 | 0=>m
 | k+1=>b6X l m k * 64+gb l (k+1) % 64
def b8m (l:List Int):Nat->Bool
 | 0=>true
 | k+1=>b8m l k && decide (gb l (k+1) / 64=2)
def c03 (l:List Int):Int×Int :=
 if a6v (gb l 0)=0\/(l.length:Int)<a6v (gb l 0) then (0,0) else
 if b8m l ((a6v (gb l 0)).toNat - 1)=true/\isB (b6X l (b1k (a6v (gb l 0)) (gb l 0)) ((a6v (gb l 0)).toNat - 1))=true/\c02 (b6X l (b1k (a6v (gb l 0)) (gb l 0)) ((a6v (gb l 0)).toNat - 1))=a6v (gb l 0)
 then (b6X l (b1k (a6v (gb l 0)) (gb l 0)) ((a6v (gb l 0)).toNat - 1),a6v (gb l 0)) else (0,0)

def V (l:List Int):Nat->Prop
 | 1=>gb l 0<128
 | 2=>192<=gb l 0/\gb l 0<224/\128<=gb l 1/\gb l 1<192/\128<=(gb l 0 - 192) * 64+(gb l 1 - 128)
 | 3=>224<=gb l 0/\gb l 0<240/\128<=gb l 1/\gb l 1<192/\128<=gb l 2/\gb l 2<192/\2048<=(gb l 0 - 224) * 4096+(gb l 1 - 128) * 64+(gb l 2 - 128) /\
   ((gb l 0 - 224) * 4096+(gb l 1 - 128) * 64+(gb l 2 - 128)<55296\/57343<(gb l 0 - 224) * 4096+(gb l 1 - 128) * 64+(gb l 2 - 128))
 | 4=>240<=gb l 0/\gb l 0<248/\128<=gb l 1/\gb l 1<192/\128<=gb l 2/\gb l 2<192/\128<=gb l 3/\gb l 3<192 /\
   65536<=(gb l 0 - 240) * 262144+(gb l 1 - 128) * 4096+(gb l 2 - 128) * 64+(gb l 3 - 128)/\(gb l 0 - 240) * 262144+(gb l 1 - 128) * 4096+(gb l 2 - 128) * 64+(gb l 3 - 128)<=1114111
 | _=>False
def nx (l:List Int) (a:Nat):Nat:=(c03 (l.drop a)).2.toNat
def W5 (c:Int):Bool:=decide (97<=c) && decide (c<=122)
def a3f (c:Int):Bool:=decide (65<=c) && decide (c<=90)
def P6 (c:Int):Bool:=decide (48<=c) && decide (c<=57)
def b8n (c:Int):Bool:=W5 c || (a3f c || (P6 c || c == 95))
theorem b3z (c:Int):W5 c=true↔97<=c/\c<=122:=by unfold W5;simp
theorem b30 (c:Int):a3f c=true↔65<=c/\c<=90:=by unfold a3f;simp
theorem b31 (c:Int):P6 c=true↔48<=c/\c<=57:=by unfold P6;simp
def a3J (c:Int):Int:=if W5 c then 1 else if a3f c then 2 else if P6 c then 3 else if c=95 then 4 else 0
def a6w (s:ByteArray):List Int:=s.data.toList.map λb=>(b.toNat:Int)
def c10 (l:List Int) (i:Nat):Bool:=W5 (gb l i) || (decide (0<i) && (P6 (gb l i) || gb l i == 95))
def b6Y (l:List Int):Bool:=decide (0<l.length) && (List.range l.length).all (c10 l)
def b8R:List Int->Int->Int
 | [],n=>n
 | c::l,n=>b8R l (10 * n+(c - 48))
section
def K5:List ByteArray:=[⟨#[102,117,110]⟩,⟨#[114,101,99]⟩,⟨#[108,101,116]⟩,⟨#[105,110]⟩,⟨#[105,102]⟩,⟨#[116,104,101,110]⟩,⟨#[101,108,115,101]⟩,⟨#[99,97,115,101]⟩,⟨#[111,102]⟩,⟨#[101,110,100]⟩,⟨#[116,114,117,101]⟩,⟨#[102,97,108,115,101]⟩,⟨#[100,101,102]⟩,⟨#[73,110,116]⟩,⟨#[66,111,111,108]⟩]
def b5e:List ByteArray:=[⟨#[61,61]⟩,⟨#[61,62]⟩,⟨#[58,61]⟩,⟨#[45,62]⟩,⟨#[40]⟩,⟨#[41]⟩,⟨#[123]⟩,⟨#[125]⟩,⟨#[60]⟩,⟨#[62]⟩,⟨#[61]⟩,⟨#[44]⟩,⟨#[58]⟩,⟨#[59]⟩,⟨#[124]⟩,⟨#[46]⟩,⟨#[92]⟩,⟨#[64]⟩,⟨#[94]⟩,⟨#[63]⟩,⟨#[43]⟩,⟨#[45]⟩,⟨#[42]⟩,⟨#[47]⟩,⟨#[37]⟩]
def c11:List Int:=[40,41,123,125,60,62,61,44,58,59,124,46,92,64,94,63,43,45,42,47,37]
def inB (ws:List ByteArray) (s:ByteArray):Bool:=ws.any λw=>w.toList == s.toList
def a7h (s:ByteArray):Bool:=inB K5 s
def c12 (a b:Int):Bool:=(a == 61 && b == 61) || ((a == 61 && b == 62) || ((a == 58 && b == 61) || (a == 45 && b == 62)))
def b5g (l:List Int):Nat:=if 2<=l.length/\c12 (gb l 0) (gb l 1)=true then 2 else if gb l 0∈c11 then 1 else 0
structure Tok where
 kind:Int
 text:ByteArray
 n:Int
 at_:Int
def Tok.cells (t:Tok):List Value:=[.int .u8 t.kind,.string t.text,.int .i64 t.n,.int .i64 t.at_]
def c04 (l:List Int):Int×Int :=
 if (gb l 0=48/\1<l.length)\/¬(l.all P6=true) then (0,4) else if 9223372036854775807<b8R l 0 then (0,7) else (b8R l 0,0)
def b8S (s:ByteArray) (at_:Int):Tok×Int :=
 if P6 (gb (a6w s) 0)=true then (⟨2,⟨#[]⟩,(c04 (a6w s)).1,at_⟩,(c04 (a6w s)).2) else
 if a7h s=true then (⟨3,s,0,at_⟩,0) else if b6Y (a6w s)=false then (⟨1,s,0,at_⟩,4) else
 if 32<(a6w s).length then (⟨1,s,0,at_⟩,7) else (⟨1,s,0,at_⟩,0)
def b8T (c:Int):Bool:=c == 32 || (c == 9 || (c == 13 || c == 10))
def b21 (l:List Int) (a:Nat):List Int:=(l.drop a).takeWhile b8n
def body (rec_:Nat->Bool->List Tok->List Tok×Int×Int) (l:List Int) (a:Nat) (rem:Bool) (out:List Tok):List Tok×Int×Int :=
 if a<l.length then
  if nx l a=0 then ([],a,3)
  else if rem=true then rec_ (a+nx l a) (gb l a != 10) out
  else if b8T (gb l a)=true then rec_ (a+1) false out
  else if gb l a=35 then rec_ (a+1) true out
  else if b8n (gb l a)=true then
   if (b8S (strOfNums (b21 l a)) a).2=0 then rec_ (a+(b21 l a).length) false (out++[(b8S (strOfNums (b21 l a)) a).1]) else ([],a,(b8S (strOfNums (b21 l a)) a).2)
  else if b5g (l.drop a)=0 then ([],a,4)
  else rec_ (a+b5g (l.drop a)) false (out++[⟨3,strOfNums ((l.drop a).take (b5g (l.drop a))),0,a⟩])
 else (out++[⟨4,⟨#[]⟩,0,l.length⟩],0,0)
section
variable {l:List Int} {a:Nat} {rem:Bool} {out:List Tok}
end
end
inductive Ty where
 | mk (op:Int) (name:ByteArray) (n:Int) (kids:List Ty)
def Ty.op:Ty->Int|.mk op _ _ _=>op
def Ty.name:Ty->ByteArray|.mk _ nm _ _=>nm
def Ty.n:Ty->Int|.mk _ _ n _=>n
def Ty.kids:Ty->List Ty|.mk _ _ _ ks=>ks
theorem Ty.eta:∀t:Ty,t=.mk t.op t.name t.n t.kids|.mk _ _ _ _=>rfl
def b5h:Ty:=.mk 0 ⟨#[]⟩ 0 []
theorem Ty.sizeOf_kid {t x:Ty} (h:x∈t.kids):SizeOf.sizeOf x<SizeOf.sizeOf t:=by
 obtain⟨op,nm,n,ks⟩:=t;have:=List.sizeOf_lt_of_mem h;simp only[Ty.kids] at this;simp only[Ty.mk.sizeOf_spec];omega
theorem Ty.ind {P:Ty->Prop} (h:∀t,(∀x∈t.kids,P x)->P t) (t:Ty):P t:=h t λx _hx=>Ty.ind h x
termination_by SizeOf.sizeOf t
decreasing_by exact Ty.sizeOf_kid _hx
mutual
def Ty.parts:Ty->List Ty
 | .mk op nm n ks=>.mk op nm n ks::v8 ks
def v8:List Ty->List Ty
 | []=>[]
 | t::ts=>t.parts++v8 ts
end
theorem A3 (t:Ty):t.parts=t::v8 t.kids:=by
 obtain⟨op,nm,n,ks⟩:=t;rw[Ty.parts];rfl
theorem Q9:∀ts:List Ty,v8 ts=ts.flatMap Ty.parts
 | []=>by rw[v8];rfl
 | t::ts=>by rw[v8,Q9 ts];rfl
theorem o9 (t:Ty):t.parts=t::t.kids.flatMap Ty.parts:=by rw[A3,Q9]
theorem a9L (ts:List Ty) (i:Nat) (t:Ty) (h:ts[i]?=some t):t.parts=t.parts/\(ts.take (i+1)).flatMap Ty.parts=(ts.take i).flatMap Ty.parts++t.parts:=by
 obtain⟨hi,e⟩:=List.getElem?_eq_some_iff.1 h;refine⟨rfl,?_⟩;rw[List.take_succ_eq_append_getElem hi,e]
 simp
theorem v6 (t:Ty):1<=t.parts.length:=by rw[A3];simp
theorem a2O:∀(ts:List Ty),ts.length<=(ts.flatMap Ty.parts).length/\∀x∈ts,x.parts.length<=(ts.flatMap Ty.parts).length
 | []=>by simp
 | u::us=>by
  have ih:=a2O us;have:=v6 u;simp only[List.flatMap_cons,List.length_append,List.length_cons];refine⟨by omega,λx hx=>?_⟩
  rcases List.mem_cons.1 hx with rfl|hx
  ·omega
  ·have:=ih.2 x hx;omega
theorem A4 (t:Ty):t.kids.length<t.parts.length/\∀x∈t.kids,x.parts.length<t.parts.length:=by
 rw[o9,List.length_cons];have:=a2O t.kids;exact⟨by omega,λx hx=>by have:=this.2 x hx;omega⟩
def C3 (op:Int):Option (List Int) :=
 if op=1\/op=2\/op=3\/op=7\/op=8\/op=9\/op=10 then some [] else if op=4 then some [116,116] else if op=5\/op=6 then some [114] else if op=11 then some [116,114] else none
def a2b (isWord:ByteArray->Bool) (t:Ty) (s:Int):Bool :=
 match C3 t.op with
 | none=>false
 | some k=>(decide (8<=t.op) == (s == 114)) && (decide (t.kids.length=k.length) && ((if t.op=11 then isWord t.name else decide (t.name.toList=[])) && (decide (0<=t.n) && (decide (t.op=7\/t.op=10) || decide (t.n=0)))))
mutual
def m8 (isWord:ByteArray->Bool):Ty->Int->Bool
 | .mk op nm n ks,s=>a2b isWord (.mk op nm n ks) s && v7 isWord ks ((C3 op).getD [])
def v7 (isWord:ByteArray->Bool):List Ty->List Int->Bool
 | [],_=>true
 | t::ts,k::ks=>m8 isWord t k && v7 isWord ts ks
 | _::_,[]=>false
end
theorem a2c (iw:ByteArray->Bool) (t:Ty) (s:Int):m8 iw t s=(a2b iw t s && v7 iw t.kids ((C3 t.op).getD [])):=by
 obtain⟨op,nm,n,ks⟩:=t;rw[m8];rfl
def W6 (x y:Ty):Bool:=(x.op == 7) && ((y.op == 10) && (x.n == y.n))
def a0B (t:Ty):Bool:=t.parts.all λx=>t.parts.all λy=>!W6 x y
end Go.Proofs.YtncijebklnbhlaaGreatDoor
end
section
namespace Go.Proofs.YtncijebklnbhlaaGreatDoor.Vm
open Go.RowKit
set_option maxRecDepth 100000
set_option maxHeartbeats 4000000
theorem b6Z {t:Ty} {x y:Ty} (hx:x∈t.parts) (hy:y∈t.parts) (h:W6 x y=true):a0B t=false:=by
 unfold a0B;rw[List.all_eq_false];refine⟨x,hx,?_⟩
 have:(t.parts.all λy=>!W6 x y)=false:=by
  rw[List.all_eq_false];exact⟨y,hy,by rw[h];decide⟩
 rw[this]
 decide
theorem a9M {t:Ty} (h:∀x∈t.parts,∀y∈t.parts,W6 x y=false):a0B t=true:=by
 unfold a0B;rw[List.all_eq_true];intro x hx;rw[List.all_eq_true];intro y hy;rw[h x hx y hy];rfl
def vbl (t:Ty):Option (Int×Bool):=if t.op=7 then some (t.n,false) else if t.op=10 then some (t.n,true) else none
def a6x {α:Type} (s:Int->Option α) (n:Int) (r:α):Int->Option α:=λx=>if x=n then some r else s x
def F9:List Ty->(Int->Option Bool)->Option (Int->Option Bool)
 | [],s=>some s
 | t::ts,s=>match vbl t with
  | none=>F9 ts s
  | some p=>if s p.1=some (!p.2) then none else F9 ts (a6x s p.1 p.2)
theorem a2d:∀(a b:List Ty) (s:Int->Option Bool),F9 (a++b) s=(F9 a s).bind (F9 b)
 | [],b,s=>rfl
 | t::ts,b,s=>by
  rw[List.cons_append,F9,F9];cases vbl t with
  | none=>exact a2d ts b s
  | some p =>
   simp only
   split
   ·rfl
   ·exact a2d ts b _
theorem a8H:∀(ts:List Ty) (s:Int->Option Bool),(F9 ts s).isSome=true↔(∀x∈ts,∀p,vbl x=some p->s p.1≠some (!p.2))/\∀x∈ts,∀y∈ts,∀p q,vbl x=some p->vbl y=some q->p.1=q.1->p.2=q.2
 | [],s=>by simp[F9]
 | t::ts,s=>by
  rw[F9];cases hv:vbl t with
  | none =>
   simp only;rw[a8H ts s]
   constructor
   ·rintro ⟨h1,h2⟩
    refine⟨λx hx p hp=>?_,λx hx y hy p q hp hq e=>?_⟩
    ·rcases List.mem_cons.1 hx with rfl|hx
     ·rw[hv] at hp;cases hp
     ·exact h1 x hx p hp
    ·rcases List.mem_cons.1 hx with rfl|hx
     ·rw[hv] at hp;cases hp
     ·rcases List.mem_cons.1 hy with rfl|hy
      ·rw[hv] at hq;cases hq
      ·exact h2 x hx y hy p q hp hq e
   ·rintro ⟨h1,h2⟩
    exact⟨λx hx=>h1 x (List.mem_cons_of_mem _ hx),λx hx y hy=>h2 x (List.mem_cons_of_mem _ hx) y (List.mem_cons_of_mem _ hy)⟩
  | some p =>
   obtain⟨n,r⟩:=p;simp only
   by_cases hs:s n=some (!r)
   ·rw[if_pos hs]
    constructor
    ·intro h;cases h
    ·rintro ⟨h1,_⟩
     exact absurd hs (h1 t (List.mem_cons_self ..) _ hv)
   ·rw[if_neg hs,a8H ts]
    constructor
    ·rintro ⟨h1,h2⟩
     have h3:∀x∈ts,∀p,vbl x=some p->p.1=n->p.2=r:=λx hx p hp e=>by
      have:=h1 x hx p hp;unfold a6x at this;rw[if_pos e] at this;cases r <;> cases hp2:p.2 <;> simp_all
     refine⟨λx hx p hp=>?_,λx hx y hy p q hp hq e=>?_⟩
     ·rcases List.mem_cons.1 hx with rfl|hx
      ·rw[hv] at hp;cases hp;exact hs
      ·by_cases e:p.1=n
       ·rw[h3 x hx p hp e,e];exact hs
       ·have:=h1 x hx p hp;unfold a6x at this;rw[if_neg e] at this;exact this
     ·rcases List.mem_cons.1 hx with rfl|hx
      ·rw[hv] at hp;cases hp
       rcases List.mem_cons.1 hy with rfl|hy
       ·rw[hv] at hq;cases hq;rfl
       ·exact(h3 y hy q hq e.symm).symm
      ·rcases List.mem_cons.1 hy with rfl|hy
       ·rw[hv] at hq;cases hq;exact h3 x (by assumption) p hp e
       ·exact h2 x (by assumption) y hy p q hp hq e
    ·rintro ⟨h1,h2⟩
     refine⟨λx hx p hp=>?_,λx hx y hy=>h2 x (List.mem_cons_of_mem _ hx) y (List.mem_cons_of_mem _ hy)⟩;unfold a6x
     by_cases e:p.1=n
     ·rw[if_pos e,<-h2 t (List.mem_cons_self ..) x (List.mem_cons_of_mem _ hx) (n,r) p hv hp e.symm];cases r <;> simp
     ·rw[if_neg e];exact h1 x (List.mem_cons_of_mem _ hx) p hp
theorem b32 (t:Ty):(F9 t.parts λ_=>none).isSome=a0B t:=by
 rw[Bool.eq_iff_iff,a8H]
 constructor
 ·rintro ⟨_,h⟩
  refine a9M λx hx y hy=>?_
  cases hc:W6 x y with
  | false=>rfl
  | true =>
   unfold W6 at hc;simp only[Bool.and_eq_true,beq_iff_eq] at hc;have:=h x hx y hy (x.n,false) (y.n,true) (by unfold vbl;rw[if_pos hc.1]) (by unfold vbl;rw[if_neg (by rw[hc.2.1];decide),if_pos hc.2.1]) hc.2.2;cases this
 ·intro h;refine⟨by simp,λx hx y hy p q hp hq e=>?_⟩;unfold a0B at h;rw[List.all_eq_true] at h;have hxy:=h x hx;have hyx:=h y hy;rw[List.all_eq_true] at hxy hyx;have h1:=hxy y hy;have h2:=hyx x hx;unfold W6 at h1 h2;unfold vbl at hp hq
  split at hp
  ·rename_i ex;cases hp
   split at hq
   ·cases hq;rfl
   ·split at hq
    ·rename_i ey;cases hq;simp only at e
     simp[ex,ey,e] at h1
    ·cases hq
  ·split at hp
   ·rename_i ex;cases hp
    split at hq
    ·rename_i ey;cases hq;simp only at e
     simp[ex,ey,e] at h2
    ·split at hq
     ·cases hq;rfl
     ·cases hq
   ·cases hp
def rS (ss:List ByteArray):List (List D):=ss.map λs=>[.sc (.string s)]
theorem a6y (ss:List ByteArray):(rS ss).length=ss.length:=by rw[rS,List.length_map]
theorem b5i {ss:List ByteArray} {k:Nat} {x:ByteArray} (h:ss[k]?=some x):(rS ss)[k]?=some [.sc (.string x)]:=by rw[rS,List.getElem?_map,h];rfl
theorem b23:∀(ss:List ByteArray) (i:Nat),(rS ss).flatten[i]?=(ss[i]?).map λs=>D.sc (.string s)
 | [],i=>by simp[rS]
 | s::ss,0=>by simp[rS]
 | s::ss,i+1=>by
  have:=b23 ss i;simp only[rS,List.map_cons,List.flatten_cons,List.singleton_append,List.getElem?_cons_succ] at this ⊢;exact this
def H3 (b:ByteArray):List UInt8:=b.data.toList
theorem a1w (b:ByteArray):b.toList=H3 b:=ByteArray.toList_eq b
theorem B8 (b:ByteArray):(H3 b).length=b.size:=by unfold H3;rw[Array.length_toList];rfl
theorem a3K {a b:ByteArray} (h:H3 a=H3 b):a=b:=by
 apply ByteArray.ext
 exact Array.toList_inj.1 h
theorem a3L {b:ByteArray} {k:Nat} {c:UInt8} (h:(H3 b)[k]?=some c):j1.sget b (k:Int)=some (c.toNat:Int):=by
 show (if 0<=(k:Int) then (b[(k:Int).toNat]?).map (λc=>(c.toNat:Int)) else none)=_;rw[if_pos (by omega)]
 have e:b[(k:Int).toNat]?=(H3 b)[k]?:=by
  rw[H3,Array.getElem?_toList];rfl
 rw[e,h];rfl
theorem F0 {b c:Bool} (h:c=b):(some (R.one (D.sc (.bool c)))=some (R.one (D.sc (.bool b))))/\True:=⟨by rw[h],trivial⟩
theorem b5j {k:IntKind} {b c:Int} (h:c=b):(some (R.one (D.sc (.int k c)))=some (R.one (D.sc (.int k b))))/\True:=⟨by rw[h],trivial⟩
def okB (first:Bool) (c:Int):Bool:=W5 c || (!first && (P6 c || c == 95))
def okL:Bool->List UInt8->Bool
 | _,[]=>true
 | f,c::l=>okB f (c.toNat:Int) && okL false l
def M7 (s:ByteArray):Bool:=okL true (H3 s) && decide (0<s.size)
def r5 (s:ByteArray):Bool:=decide (s.size<=32) && (M7 s && !a7h s)
theorem b5k {l:List UInt8} {k:Nat} {c:UInt8} (h:l[k]?=some c):okL (k == 0) (l.drop k)=(okB (k == 0) (c.toNat:Int) && okL (k+1 == 0) (l.drop (k+1))):=by
 obtain⟨hi,e⟩:=List.getElem?_eq_some_iff.1 h;rw[List.drop_eq_getElem_cons hi,e,okL];rfl
theorem b7b (c:Int):j5 90 [.one (.sc (.int .u8 c))] [.one (.sc (.bool (W5 c)))]:=by
 generalize hb:W5 c=b;unfold W5 at hb;refine C2 Tryz.func90 rfl ?_;intro _ _ _ _ _ _ _ _ qi;intros;rename_i hA;cbv;refine gn ?_;obtain⟨e1,e2,e3,e4,e5,e6,e7,e8,e9⟩:=l7 hA;rw[<-e8,<-e8] at hb;cases h1:qi 97 c
 ·cbv;refine gn ?_;rw[h1] at hb;exact F0 hb
 ·cbv;refine gn ?_;rw[h1] at hb;exact F0 hb
theorem b7c (c:Int):j5 91 [.one (.sc (.int .u8 c))] [.one (.sc (.bool (P6 c)))]:=by
 generalize hb:P6 c=b;unfold P6 at hb;refine C2 Tryz.func91 rfl ?_;intro _ _ _ _ _ _ _ _ qi;intros;rename_i hA;cbv;refine gn ?_;obtain⟨e1,e2,e3,e4,e5,e6,e7,e8,e9⟩:=l7 hA;rw[<-e8,<-e8] at hb;cases h1:qi 48 c
 ·cbv;refine gn ?_;rw[h1] at hb;exact F0 hb
 ·cbv;refine gn ?_;rw[h1] at hb;exact F0 hb
theorem b5l (s:ByteArray) (hs:s.size<=4611686018427387904):j5 73 [.one (.sc (.string s))] [.one (.sc (.bool (M7 s)))]:=by
 generalize hb:M7 s=b;unfold M7 at hb;refine C2 Tryz.func73 rfl ?_;intro qa qb _ _ _ _ _ qh _ qj _ ql _ qo _ _ qt qu;intros;rename_i hA;cbv;refine gn ?_;obtain⟨e1,e2,e3,e4,e5,e6,e7,e8,e9⟩:=l7 hA;obtain⟨s1,s2,s3,s4,s5,s6,-⟩:=o8 hA;refine o5 hA (γ:=Int) (λz=>[(7,vi .i64 z)]) (λ_=>[]) (λz=>∃k:Nat,z=(k:Int)/\k<=s.size/\(okL (k == 0) ((H3 s).drop k) && decide (0<s.size))=b) (λz=>s.size - z.toNat) 0 ?_ ?_ ?_
 ·exact⟨0,rfl,Nat.zero_le _,hb⟩
 ·cbv
 ·intro z hinv;cbv;refine gn ?_;obtain⟨k,hz,hk,hE⟩:=hinv;replace hz:z=(k:Int):=hz;replace s5:qt s=((s.size:Nat):Int):=s5 s;have hlt:qh z (qt s)=decide (k<s.size):=by rw[e7,s5,hz];exact decide_eq_decide.2 (by omega)
  by_cases h9:k<s.size
  ·rw[decide_eq_true h9] at hlt;obtain⟨c,hc⟩:∃c,(H3 s)[k]?=some c:=⟨_,List.getElem?_eq_getElem (by rw[B8];exact h9)⟩;have g1:qu s z=some (c.toNat:Int):=by rw[s6,hz];exact a3L hc
   rw[b5k hc] at hE;have hd1:=b7b (c.toNat:Int);have hd2:=b7c (c.toNat:Int)
   have hz0:qj z 0=(k == 0):=by
    rw[e9,hz];cases k with
    | zero=>rfl
    | succ k=>exact beq_eq_false_iff_ne.2 (by omega)
   have hz1:qa .i64 (qb z 1)=((k+1:Nat):Int):=by rw[e1,e2,hz,IntWalk.i64_in _ (by omega)];omega
   have hm:s.size - (qa .i64 (qb z 1)).toNat<s.size - z.toNat:=by rw[hz1,hz];omega
   have h95:qj (c.toNat:Int) 95=((c.toNat:Int) == 95):=e9 _ _;unfold okB at hE;generalize (c.toNat:Int)=cc at *;generalize W5 cc=q1 at *;generalize P6 cc=q2 at *;generalize (cc == 95)=q3 at *;generalize (k == 0)=q0 at *;rw[hlt];cbv;refine gn ?_;rw[g1];cbv;refine gn ?_;refine j3 hA _ hd1 ?_ ?_
   ·rfl
   cases q1
   ·cbv;refine gn ?_;rw[hz0];cases q0
    ·cbv;refine gn ?_;refine j3 hA _ hd2 ?_ ?_
     ·rfl
     cases q2
     ·cbv;refine gn ?_;rw[h95];cases q3
      ·cbv;refine gn ?_;exact F0 hE
      ·cbv;refine gn ?_;exact⟨_,⟨k+1,hz1,h9,hE⟩,hm,by cbv⟩
     ·cbv;refine gn ?_;exact⟨_,⟨k+1,hz1,h9,hE⟩,hm,by cbv⟩
    ·cbv;refine gn ?_;exact F0 hE
   ·cbv;refine gn ?_;exact⟨_,⟨k+1,hz1,h9,hE⟩,hm,by cbv⟩
  ·rw[decide_eq_false h9] at hlt;have hk:k=s.size:=by omega
   rw[hk,List.drop_eq_nil_of_le (by rw[B8];exact Nat.le_refl _),okL] at hE
   have hq:ql (qo s) (qo ⟨⟨[]⟩⟩)=!b:=by
    rw[s1,s3,s3,a1w,a1w,<-hE,Bool.true_and];cases h:H3 s with
    | nil=>rw[<-B8,h];rfl
    | cons x l=>rw[<-B8,h,decide_eq_true (show 0<(x::l).length by simp)];rfl
   rw[hlt];cbv;refine gn ?_;rw[hq];exact F0 (by cases b <;> rfl)
theorem b5m {s:ByteArray} (h:∀x∈K5,(s.toList == x.toList)=false):a7h s=false:=by
 unfold a7h inB;rw[List.any_eq_false];intro x hx;have:=h x hx;rw[Bool.beq_comm] at this;rw[this]
 decide
theorem G0 {s x:ByteArray} (hx:x∈K5) (h:(s.toList == x.toList)=true):a7h s=true:=by
 unfold a7h inB;rw[List.any_eq_true];exact⟨x,hx,by rw[Bool.beq_comm];exact h⟩
theorem c06 (s:ByteArray):j5 74 [.one (.sc (.string s))] [.one (.sc (.bool (a7h s)))]:=by
 generalize hb:a7h s=b;refine C2 Tryz.func74 rfl ?_;intro _ _ _ _ _ _ _ _ _ _ _ ql _ qo;intros;rename_i hA;cbv;refine gn ?_;obtain⟨s1,s2,s3,s4,s5,s6,-⟩:=o8 hA;cases g0:ql (qo s) (qo ⟨⟨[102,117,110]⟩⟩)
 rotate_left
 ·cbv;refine gn ?_;refine F0 ?_;rw[<-hb];rw[s1,s3,s3] at g0;exact(G0 (x:=⟨⟨[102,117,110]⟩⟩) (by unfold K5;repeat first|exact List.mem_cons_self ..|apply List.mem_cons_of_mem) g0).symm
 cbv;refine gn ?_;cases g1:ql (qo s) (qo ⟨⟨[114,101,99]⟩⟩)
 rotate_left
 ·cbv;refine gn ?_;refine F0 ?_;rw[<-hb];rw[s1,s3,s3] at g1;exact(G0 (x:=⟨⟨[114,101,99]⟩⟩) (by unfold K5;repeat first|exact List.mem_cons_self ..|apply List.mem_cons_of_mem) g1).symm
 cbv;refine gn ?_;cases g2:ql (qo s) (qo ⟨⟨[108,101,116]⟩⟩)
 rotate_left
 ·cbv;refine gn ?_;refine F0 ?_;rw[<-hb];rw[s1,s3,s3] at g2;exact(G0 (x:=⟨⟨[108,101,116]⟩⟩) (by unfold K5;repeat first|exact List.mem_cons_self ..|apply List.mem_cons_of_mem) g2).symm
 cbv;refine gn ?_;cases g3:ql (qo s) (qo ⟨⟨[105,110]⟩⟩)
 rotate_left
 ·cbv;refine gn ?_;refine F0 ?_;rw[<-hb];rw[s1,s3,s3] at g3;exact(G0 (x:=⟨⟨[105,110]⟩⟩) (by unfold K5;repeat first|exact List.mem_cons_self ..|apply List.mem_cons_of_mem) g3).symm
 cbv;refine gn ?_;cases g4:ql (qo s) (qo ⟨⟨[105,102]⟩⟩)
 rotate_left
 ·cbv;refine gn ?_;refine F0 ?_;rw[<-hb];rw[s1,s3,s3] at g4;exact(G0 (x:=⟨⟨[105,102]⟩⟩) (by unfold K5;repeat first|exact List.mem_cons_self ..|apply List.mem_cons_of_mem) g4).symm
 cbv;refine gn ?_;cases g5:ql (qo s) (qo ⟨⟨[116,104,101,110]⟩⟩)
 rotate_left
 ·cbv;refine gn ?_;refine F0 ?_;rw[<-hb];rw[s1,s3,s3] at g5;exact(G0 (x:=⟨⟨[116,104,101,110]⟩⟩) (by unfold K5;repeat first|exact List.mem_cons_self ..|apply List.mem_cons_of_mem) g5).symm
 cbv;refine gn ?_;cases g6:ql (qo s) (qo ⟨⟨[101,108,115,101]⟩⟩)
 rotate_left
 ·cbv;refine gn ?_;refine F0 ?_;rw[<-hb];rw[s1,s3,s3] at g6;exact(G0 (x:=⟨⟨[101,108,115,101]⟩⟩) (by unfold K5;repeat first|exact List.mem_cons_self ..|apply List.mem_cons_of_mem) g6).symm
 cbv;refine gn ?_;cases g7:ql (qo s) (qo ⟨⟨[99,97,115,101]⟩⟩)
 rotate_left
 ·cbv;refine gn ?_;refine F0 ?_;rw[<-hb];rw[s1,s3,s3] at g7;exact(G0 (x:=⟨⟨[99,97,115,101]⟩⟩) (by unfold K5;repeat first|exact List.mem_cons_self ..|apply List.mem_cons_of_mem) g7).symm
 cbv;refine gn ?_;cases g8:ql (qo s) (qo ⟨⟨[111,102]⟩⟩)
 rotate_left
 ·cbv;refine gn ?_;refine F0 ?_;rw[<-hb];rw[s1,s3,s3] at g8;exact(G0 (x:=⟨⟨[111,102]⟩⟩) (by unfold K5;repeat first|exact List.mem_cons_self ..|apply List.mem_cons_of_mem) g8).symm
 cbv;refine gn ?_;cases g9:ql (qo s) (qo ⟨⟨[101,110,100]⟩⟩)
 rotate_left
 ·cbv;refine gn ?_;refine F0 ?_;rw[<-hb];rw[s1,s3,s3] at g9;exact(G0 (x:=⟨⟨[101,110,100]⟩⟩) (by unfold K5;repeat first|exact List.mem_cons_self ..|apply List.mem_cons_of_mem) g9).symm
 cbv;refine gn ?_;cases g10:ql (qo s) (qo ⟨⟨[116,114,117,101]⟩⟩)
 rotate_left
 ·cbv;refine gn ?_;refine F0 ?_;rw[<-hb];rw[s1,s3,s3] at g10;exact(G0 (x:=⟨⟨[116,114,117,101]⟩⟩) (by unfold K5;repeat first|exact List.mem_cons_self ..|apply List.mem_cons_of_mem) g10).symm
 cbv;refine gn ?_;cases g11:ql (qo s) (qo ⟨⟨[102,97,108,115,101]⟩⟩)
 rotate_left
 ·cbv;refine gn ?_;refine F0 ?_;rw[<-hb];rw[s1,s3,s3] at g11;exact(G0 (x:=⟨⟨[102,97,108,115,101]⟩⟩) (by unfold K5;repeat first|exact List.mem_cons_self ..|apply List.mem_cons_of_mem) g11).symm
 cbv;refine gn ?_;cases g12:ql (qo s) (qo ⟨⟨[100,101,102]⟩⟩)
 rotate_left
 ·cbv;refine gn ?_;refine F0 ?_;rw[<-hb];rw[s1,s3,s3] at g12;exact(G0 (x:=⟨⟨[100,101,102]⟩⟩) (by unfold K5;repeat first|exact List.mem_cons_self ..|apply List.mem_cons_of_mem) g12).symm
 cbv;refine gn ?_;cases g13:ql (qo s) (qo ⟨⟨[73,110,116]⟩⟩)
 rotate_left
 ·cbv;refine gn ?_;refine F0 ?_;rw[<-hb];rw[s1,s3,s3] at g13;exact(G0 (x:=⟨⟨[73,110,116]⟩⟩) (by unfold K5;repeat first|exact List.mem_cons_self ..|apply List.mem_cons_of_mem) g13).symm
 cbv;refine gn ?_;cases g14:ql (qo s) (qo ⟨⟨[66,111,111,108]⟩⟩)
 rotate_left
 ·cbv;refine gn ?_;refine F0 ?_;rw[<-hb];rw[s1,s3,s3] at g14;exact(G0 (x:=⟨⟨[66,111,111,108]⟩⟩) (by unfold K5;repeat first|exact List.mem_cons_self ..|apply List.mem_cons_of_mem) g14).symm
 cbv;refine gn ?_;refine F0 ?_;rw[<-hb]
 symm
 apply b5m
 intro x hx;rw[s1,s3,s3] at g0 g1 g2 g3 g4 g5 g6 g7 g8 g9 g10 g11 g12 g13 g14;unfold K5 at hx;simp only[List.mem_cons,List.not_mem_nil,or_false] at hx
 rcases hx with rfl|rfl|rfl|rfl|rfl|rfl|rfl|rfl|rfl|rfl|rfl|rfl|rfl|rfl|rfl
 ·exact g0
 ·exact g1
 ·exact g2
 ·exact g3
 ·exact g4
 ·exact g5
 ·exact g6
 ·exact g7
 ·exact g8
 ·exact g9
 ·exact g10
 ·exact g11
 ·exact g12
 ·exact g13
 ·exact g14
theorem a9N (s:ByteArray) (hs:s.size<=4611686018427387904):j5 59 [.one (.sc (.string s))] [.one (.sc (.bool (r5 s)))]:=by
 have h1:=b5l s hs;have h2:=c06 s;generalize hb:r5 s=b;unfold r5 at hb;refine C2 Tryz.func59 rfl ?_;intro _ _ _ _ _ _ _ _ qi _ _ _ _ _ _ _ qt;intros;rename_i hA;cbv;refine gn ?_;obtain⟨e1,e2,e3,e4,e5,e6,e7,e8,e9⟩:=l7 hA;obtain⟨s1,s2,s3,s4,s5,s6,-⟩:=o8 hA;have hle:qi (qt s) 32=decide (s.size<=32):=by rw[e8,s5];exact decide_eq_decide.2 (by omega)
 generalize decide (s.size<=32)=q at *;generalize M7 s=q1 at *;generalize a7h s=q2 at *;rw[hle];cases q
 ·cbv;refine gn ?_;exact F0 hb
 ·cbv;refine gn ?_;refine j3 hA _ h1 ?_ ?_
  ·rfl
  cases q1
  ·cbv;refine gn ?_;exact F0 hb
  ·cbv;refine gn ?_;refine j3 hA _ h2 ?_ ?_
   ·rfl
   cbv;refine gn ?_;exact F0 hb
def kz:Bool->Bool->Bool->Bool->Int
 | true,_,_,_=>1
 | _,true,_,_=>2
 | _,_,true,_=>3
 | _,_,_,true=>4
 | _,_,_,_=>0
theorem b8U (c:Int):j5 66 [.one (.sc (.int .u8 c))] [.one (.sc (.int .i64 (a3J c)))]:=by
 obtain⟨p,hp⟩:∃p,W5 c=p:=⟨_,rfl⟩;obtain⟨q,hq⟩:∃p,a3f c=p:=⟨_,rfl⟩;obtain⟨r,hr⟩:∃p,P6 c=p:=⟨_,rfl⟩;obtain⟨v,hv⟩:∃p,(c == 95)=p:=⟨_,rfl⟩
 have hb:a3J c=kz p q r v:=by
  unfold a3J;rw[hp,hq,hr];have h4:(c=95)=(v=true):=by rw[<-hv];simp
  simp only[h4];cases p <;> cases q <;> cases r <;> cases v <;> rfl
 generalize a3J c=b at *;unfold W5 at hp;unfold a3f at hq;unfold P6 at hr;refine C2 Tryz.func66 rfl ?_;intro _ _ _ _ _ _ _ _ qi;intros;rename_i hA;cbv;refine gn ?_;obtain⟨e1,e2,e3,e4,e5,e6,e7,e8,e9⟩:=l7 hA;rw[<-e8,<-e8] at hp hq hr;rw[<-e9] at hv;cases p
 ·have h:qi 97 c=false\/(qi 97 c=true/\qi c 122=false):=by cases h1:qi 97 c <;> simp_all
  rcases h with h|⟨h,h'⟩
  all_goals
   rw[h];cbv;refine gn ?_
   try (rw[h'];cbv)
   cases q
   ·have g:qi 65 c=false\/(qi 65 c=true/\qi c 90=false):=by cases h1:qi 65 c <;> simp_all
    rcases g with g|⟨g,g'⟩
    all_goals
     rw[g];cbv;refine gn ?_
     try (rw[g'];cbv)
     cases r
     ·have i:qi 48 c=false\/(qi 48 c=true/\qi c 57=false):=by cases h1:qi 48 c <;> simp_all
      rcases i with i|⟨i,i'⟩
      all_goals
       rw[i];cbv;refine gn ?_
       try (rw[i'];cbv)
       rw[hv];cases v
       ·cbv;refine gn ?_;exact b5j hb.symm
       ·cbv;refine gn ?_;exact b5j hb.symm
     ·have i:qi 48 c=true/\qi c 57=true:=by cases h1:qi 48 c <;> simp_all
      rw[i.1];cbv;refine gn ?_;rw[i.2];cbv;refine gn ?_;exact b5j hb.symm
   ·have g:qi 65 c=true/\qi c 90=true:=by cases h1:qi 65 c <;> simp_all
    rw[g.1];cbv;refine gn ?_;rw[g.2];cbv;refine gn ?_;exact b5j hb.symm
 ·have h:qi 97 c=true/\qi c 122=true:=by cases h1:qi 97 c <;> simp_all
  rw[h.1];cbv;refine gn ?_;rw[h.2];cbv;refine gn ?_;exact b5j hb.symm
theorem b7d (q:Bool) (c:Int):okB q c=!((a3J c == 0) || ((a3J c == 2) || (q && !(a3J c == 1)))):=by
 unfold okB a3J;have h4:(c=95)=((c == 95)=true):=by simp
 have hs:=b3z c;have hg:=b30 c;have hd:=b31 c;have h9:(c == 95)=true↔c=95:=by simp
 simp only[h4];generalize W5 c=a1 at *;generalize a3f c=a2 at *;generalize P6 c=a3 at *;generalize (c == 95)=a4 at *;cases a1 <;> cases a2 <;> cases a3 <;> cases a4 <;> cases q <;> first|rfl|(exfalso;simp at hs hg hd h9;omega)
theorem b5n (s:ByteArray) (hs:s.size<=4611686018427387904):j5 49 [.one (.sc (.string s))] [.one (.sc (.bool (M7 s)))]:=by
 generalize hb:M7 s=b;unfold M7 at hb;refine C2 Tryz.func49 rfl ?_;intro qa qb _ _ _ _ _ qh _ qj _ _ _ _ _ _ qt qu;intros;rename_i hA;cbv;refine gn ?_;obtain⟨e1,e2,e3,e4,e5,e6,e7,e8,e9⟩:=l7 hA;obtain⟨s1,s2,s3,s4,s5,s6,-⟩:=o8 hA;refine o5 hA (γ:=Int) (λz=>[(3,vi .i64 z)]) (λ_=>[]) (λz=>∃k:Nat,z=(k:Int)/\k<=s.size/\(okL (k == 0) ((H3 s).drop k) && decide (0<s.size))=b) (λz=>s.size - z.toNat) 0 ?_ ?_ ?_
 ·exact⟨0,rfl,Nat.zero_le _,hb⟩
 ·cbv
 ·intro z hinv;cbv;refine gn ?_;obtain⟨k,hz,hk,hE⟩:=hinv;replace hz:z=(k:Int):=hz;replace s5:qt s=((s.size:Nat):Int):=s5 s;have hlt:qh z (qt s)=decide (k<s.size):=by rw[e7,s5,hz];exact decide_eq_decide.2 (by omega)
  by_cases h9:k<s.size
  ·rw[decide_eq_true h9] at hlt;obtain⟨c,hc⟩:∃c,(H3 s)[k]?=some c:=⟨_,List.getElem?_eq_getElem (by rw[B8];exact h9)⟩;have g1:qu s z=some (c.toNat:Int):=by rw[s6,hz];exact a3L hc
   rw[b5k hc] at hE;have hd1:=b8U (c.toNat:Int)
   have hz0:qj z 0=(k == 0):=by
    rw[e9,hz];cases k with
    | zero=>rfl
    | succ k=>exact beq_eq_false_iff_ne.2 (by omega)
   have hz1:qa .i64 (qb z 1)=((k+1:Nat):Int):=by rw[e1,e2,hz,IntWalk.i64_in _ (by omega)];omega
   have hm:s.size - (qa .i64 (qb z 1)).toNat<s.size - z.toNat:=by rw[hz1,hz];omega
   rw[b7d] at hE;generalize a3J (c.toNat:Int)=kk at *;have k0:qj kk 0=(kk == 0):=e9 _ _;have k1:qj kk 1=(kk == 1):=e9 _ _;have k2:qj kk 2=(kk == 2):=e9 _ _;generalize (c.toNat:Int)=cc at *;generalize (kk == 0)=p0 at *;generalize (kk == 1)=p1 at *;generalize (kk == 2)=p2 at *;generalize (k == 0)=q0 at *;rw[hlt];cbv;refine gn ?_;rw[g1];cbv;refine gn ?_;refine j3 hA _ hd1 ?_ ?_
   ·rfl
   cbv;refine gn ?_;rw[k0];cases p0
   ·cbv;refine gn ?_;rw[k2];cases p2
    ·cbv;refine gn ?_;rw[hz0];cases q0
     ·cbv;refine gn ?_;exact⟨_,⟨k+1,hz1,h9,hE⟩,hm,by cbv⟩
     ·cbv;refine gn ?_;rw[k1];cases p1
      ·cbv;refine gn ?_;exact F0 hE
      ·cbv;refine gn ?_;exact⟨_,⟨k+1,hz1,h9,hE⟩,hm,by cbv⟩
    ·cbv;refine gn ?_;exact F0 hE
   ·cbv;refine gn ?_;exact F0 hE
  ·rw[decide_eq_false h9] at hlt;have hk:k=s.size:=by omega
   rw[hk,List.drop_eq_nil_of_le (by rw[B8];exact Nat.le_refl _),okL] at hE
   have hq:qh 0 (qt s)=b:=by
    rw[e7,s5,<-hE,Bool.true_and];exact decide_eq_decide.2 (by omega)
   rw[hlt];cbv;refine gn ?_;rw[hq];exact F0 rfl
theorem c07:j5 48 [] [.one (.sl 1 (rS K5)),.one (.sl 1 (rS b5e))]:=by
 refine C2 Tryz.func48 rfl ?_;intros;rename_i hA;cbv
 repeat ((with_reducible first|apply j2 hA|apply y7 hA true);cbv)
theorem c13 (ws:List ByteArray) (x:ByteArray) (hn:ws.length<=1099511627776):j5 50 [.one (.sl 1 (rS ws)),.one (.sc (.string x))] [.one (.sc (.bool (inB ws x)))]:=by
 obtain⟨L,hL⟩:∃L,L=rS ws:=⟨_,rfl⟩;rw[<-hL];generalize hb:inB ws x=b;refine C2 Tryz.func50 rfl ?_;intro qa qb _ _ _ _ _ qh _ _ _ ql _ qo _ _ _ _ _ _ _ _ qz va;intros;rename_i hA;cbv;refine gn ?_;obtain⟨e1,e2,e3,e4,e5,e6,e7,e8,e9⟩:=l7 hA;obtain⟨s1,s2,s3,s4,s5,s6,-⟩:=o8 hA;obtain⟨r1,r2,-⟩:=n8 hA;refine o5 hA (γ:=Int) (λz=>[(5,vi .i64 z)]) (λ_=>[]) (λz=>∃k:Nat,z=(k:Int)/\k<=ws.length/\inB (ws.drop k) x=b) (λz=>ws.length - z.toNat) 0 ?_ ?_ ?_
 ·exact⟨0,rfl,Nat.zero_le _,hb⟩
 ·cbv
 ·intro z hinv;cbv;refine gn ?_;obtain⟨k,hz,hk,hE⟩:=hinv;replace hz:z=(k:Int):=hz;have hlen:qz L=((ws.length:Nat):Int):=by rw[r1,hL,a6y]
  have hlt:qh z (qz L)=decide (k<ws.length):=by rw[e7,hlen,hz];exact decide_eq_decide.2 (by omega)
  by_cases h9:k<ws.length
  ·rw[decide_eq_true h9] at hlt;obtain⟨y,hy⟩:∃y,ws[k]?=some y:=⟨_,List.getElem?_eq_getElem h9⟩;have g1:va L z=some [.sc (.string y)]:=by rw[r2,hz,if_pos (by omega),hL];exact b5i hy
   have hdr:inB (ws.drop k) x=((y.toList == x.toList) || inB (ws.drop (k+1)) x):=by
    obtain⟨hi,e⟩:=List.getElem?_eq_some_iff.1 hy;rw[List.drop_eq_getElem_cons hi,e];rfl
   rw[hdr] at hE;have hq:ql (qo y) (qo x)=(y.toList == x.toList):=by rw[s1,s3,s3]
   have hz1:qa .i64 (qb z 1)=((k+1:Nat):Int):=by rw[e1,e2,hz,IntWalk.i64_in _ (by omega)];omega
   have hm:ws.length - (qa .i64 (qb z 1)).toNat<ws.length - z.toNat:=by rw[hz1,hz];omega
   generalize (y.toList == x.toList)=q at *;rw[hlt];cbv;refine gn ?_;rw[g1];cbv;refine gn ?_;rw[hq];cases q
   ·cbv;refine gn ?_;exact⟨_,⟨k+1,hz1,h9,hE⟩,hm,by cbv⟩
   ·cbv;refine gn ?_;exact F0 hE
  ·rw[decide_eq_false h9] at hlt;rw[List.drop_eq_nil_of_le (by omega)] at hE;rw[hlt];cbv;refine gn ?_;exact F0 hE
theorem a2e (s:ByteArray) (hs:s.size<=4611686018427387904):j5 30 [.one (.sc (.string s))] [.one (.sc (.bool (r5 s)))]:=by
 have h0:=c07;have h1:=b5n s hs;have h2:=c13 K5 s (by decide)
 have hbb:r5 s=(M7 s && (!inB K5 s && decide (s.size<=32))):=by
  unfold r5 a7h;cases M7 s <;> cases inB K5 s <;> cases decide (s.size<=32) <;> rfl
 rw[hbb];generalize rS K5=L at *;generalize rS b5e=L2 at *;generalize inB K5 s=q2 at *;generalize M7 s=q1 at *;generalize hb:(q1 && (!q2 && decide (s.size<=32)))=b;refine C2 Tryz.func30 rfl ?_;intro _ _ _ _ _ _ _ _ qi _ _ _ _ _ _ _ qt;intros;rename_i hA;cbv;refine gn ?_;obtain⟨e1,e2,e3,e4,e5,e6,e7,e8,e9⟩:=l7 hA;obtain⟨s1,s2,s3,s4,s5,s6,-⟩:=o8 hA;have hle:qi (qt s) 32=decide (s.size<=32):=by rw[e8,s5];exact decide_eq_decide.2 (by omega)
 generalize decide (s.size<=32)=q at *;refine j3 hA _ h0 ?_ ?_
 ·rfl
 cbv;refine gn ?_;refine j3 hA _ h1 ?_ ?_
 ·rfl
 cases q1
 ·cbv;refine gn ?_;exact F0 hb
 ·cbv;refine gn ?_;refine j3 hA _ h2 ?_ ?_
  ·rfl
  cases q2
  ·cbv;refine gn ?_;rw[hle];exact F0 hb
  ·cbv;refine gn ?_;exact F0 hb
mutual
def cT:Ty->List D
 | .mk op nm n ks=>[.sc (.int .u8 op),.sc (.string nm),.sc (.int .i64 n),.sl 4 (rT ks)]
def rT:List Ty->List (List D)
 | []=>[]
 | t::ts=>cT t::rT ts
end
theorem a2f:∀ts:List Ty,rT ts=ts.map cT
 | []=>by rw[rT];rfl
 | t::ts=>by rw[rT,a2f ts];rfl
theorem L4 (ts:List Ty):(rT ts).length=ts.length:=by rw[a2f,List.length_map]
theorem a0L {ts:List Ty} {k:Nat} {t:Ty} (h:ts[k]?=some t):(rT ts)[k]?=some (cT t):=by rw[a2f,List.getElem?_map,h];rfl
theorem a8I:∀t:Ty,t.parts.length<=1048576->j5 10 [.ag (cT t)] [.one (.sl 4 (rT t.parts))]:=by
 intro t
 induction t using Ty.ind with
 | h t ih =>
  intro hN;have hkl:=A4 t;have hP:=A3 t;generalize t.parts=P at *;obtain⟨op,nm,n,ks⟩:=t;simp only[Ty.kids] at hkl ih hP;obtain⟨R,hR⟩:∃R,R=rT P:=⟨_,rfl⟩;rw[<-hR,cT];obtain⟨K,hK⟩:∃K,K=rT ks:=⟨_,rfl⟩;rw[<-hK];refine C2 Tryz.func10 rfl ?_;intro qa qb _ _ _ _ _ qh _ _ _ _ _ _ _ _ _ _ _ _ _ _ qz va _ vd;intros;rename_i hA;cbv
  repeat ((with_reducible first|apply j2 hA|apply y7 hA false|apply a3e hA true);cbv)
  obtain⟨e1,e2,e3,e4,e5,e6,e7,e8,e9⟩:=l7 hA;obtain⟨r1,r2,r3,r4⟩:=n8 hA;refine o5 hA (γ:=Int×List (List D)) (λx=>[(4,vi .i64 x.1),(3,.own 1),(6,.jk)]) (λx=>[(1,.row true 25 x.2)]) (λx=>∃k:Nat,x.1=(k:Int)/\k<=ks.length/\x.2++rT (v8 (ks.drop k))=R) (λx=>ks.length - x.1.toNat) (0,[cT (.mk op nm n ks)]) ?_ ?_ ?_
  ·exact⟨0,rfl,Nat.zero_le _,by rw[hR,hP];rfl⟩
  ·rw[cT,<-hK];cbv
  ·intro x hinv;obtain⟨z,L⟩:=x;cbv;refine gn ?_;obtain⟨k,hz,hk,hE⟩:=hinv;have hz:z=(k:Int):=hz;replace hE:L++rT (v8 (ks.drop k))=R:=hE;have hlen:qz K=(ks.length:Int):=by rw[r1,hK,L4]
   have hlt:qh z (qz K)=decide (k<ks.length):=by rw[e7,hlen,hz];exact decide_eq_decide.2 (by omega)
   by_cases h9:k<ks.length
   ·rw[decide_eq_true h9] at hlt;obtain⟨x,hx⟩:∃x,ks[k]?=some x:=⟨_,List.getElem?_eq_getElem h9⟩;have g1:va K z=some (cT x):=by rw[r2,hz,if_pos (by omega),hK];exact a0L hx
    have hsp:=ih x (List.mem_of_getElem? hx) (by have:=hkl.2 x (List.mem_of_getElem? hx);omega)
    have hdr:ks.drop k=x::ks.drop (k+1):=by
     have h:=List.drop_eq_getElem_cons h9;rw[List.getElem?_eq_getElem h9] at hx;rw[h,Option.some.inj hx]
    rw[hdr,v8] at hE;generalize x.parts=XP at *;obtain⟨o1,m1,n1,l1⟩:=x;rw[cT] at g1 hsp;generalize rT l1=L1 at *;obtain⟨Y,hY⟩:∃Y,Y=rT XP:=⟨_,rfl⟩;rw[<-hY] at hsp;rw[hlt];cbv;refine gn ?_;rw[g1];cbv;refine j3 hA _ hsp ?_ ?_
    ·rfl
    cbv;have hap:∀l m:List Ty,rT (l++m)=rT l++rT m:=λl m=>by rw[a2f,a2f,a2f,List.map_append]
    rw[hap,<-hY,<-List.append_assoc] at hE
    have hlenR:L.length+Y.length<=1048576:=by
     have h1:R.length<=1048576:=by rw[hR,L4];exact hN
     rw[<-hE,List.length_append,List.length_append] at h1;omega
    refine y9 hA (by omega) ?_;cbv;refine gn ?_;replace hz:z=(k:Int):=hz;have hz1:qa .i64 (qb z 1)=((k+1:Nat):Int):=by rw[e1,e2,hz,IntWalk.i64_in _ (by omega)];omega
    refine⟨(qa .i64 (qb z 1),vd L Y),⟨k+1,hz1,h9,by rw[r4];exact hE⟩,by show ks.length - (qa .i64 (qb z 1)).toNat<ks.length - z.toNat;rw[hz1,hz];omega,?_⟩;cbv
   ·rw[decide_eq_false h9] at hlt;rw[hlt];cbv;refine gn ?_
    have hE2:L=R:=by
     rw[List.drop_eq_nil_of_le (by omega),v8] at hE;rw[<-hE];exact(List.append_nil L).symm
    rw[hE2];exact⟨rfl,trivial⟩
end Go.Proofs.YtncijebklnbhlaaGreatDoor.Vm
end
