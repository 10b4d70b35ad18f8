/- Part 4 of the proof. Conditions: none. -/
import Derived.Test.YtlofmibkljoapaaDoorN1
import Derived.Test.YtlofmibkljoapaaDoorN3
import Derived.Laws.BytesArg
import Derived.Lib.Join
import Derived.IntWalk
import Derived.Test.YtlofmibkljoapaaDoorN0
set_option linter.all false
set_option linter.unusedVariables false
set_option linter.unusedSimpArgs false
section
namespace Go.Proofs.YtlofmibkljoapaaDoor.Vm
open Go.RowKit
set_option maxRecDepth 100000
set_option maxHeartbeats 4000000
section
def r8 (P:Program):Code->Bool
 | .region _ ops d=>b3Z P ops.toList && (!d || (a73 ops || b9p ops.toList))
 | .seq c d=>r8 P c && r8 P d
 | .cond _ c d=>r8 P c && r8 P d
 | .block _ c=>r8 P c
 | .loop c=>r8 P c
 | _=>true
def toE:X->Exit
 | .normal=>.normal
 | .exit i=>.exit i
 | .ret=>.ret
section
variable {I0:Nat->Nat->Prop} {X:Nat->Prop} {w0:W0}
theorem H2 {ro:Option Nat} {n:Nat}:∀(c:Code) (s:S) (a:Act) (w:World) (K:Vm.X->S->Prop) (Q:Exit->Act->World->Prop),r8 Tryd.prog c=true->Z4 I0 X w0 s a w->x5 a7 c s K->(∀e s' a' w',Z4 I0 X w0 s' a' w'->K e s'->Q (toE e) a' w')->c.wpIn (FW ro) n Tryd.prog Q a w
 | .skip,s,a,w,K,Q,_,h,hK,hQ=>wpIn_skip (hQ _ _ _ _ h hK)
 | .region id ops d,s,a,w,K,Q,hok,h,hK,hQ=>by
  simp only[r8,c3D,c45,c5G] at hok;have hops:∀o∈ops.toList,Z0 Tryd.prog o.op=true:=c4g.1 hok.1;cases d with
  | false=>exact wpIn_region_list (b28 (λs' a' w' h' hk=>hQ .normal _ _ _ h' hk) _ s a w hops h hK)
  | true =>
   rw[x5] at hK
   split at hK
   ·refine wpIn_region_any (by kernel_rfl) (hK I0 X w0 a w.drew ro n Q hops ?_ λs' a' w' h' hk=>hQ .normal _ _ _ h' hk);obtain⟨I,g,h⟩:=h;exact⟨I,g,h.drew⟩
   rename_i hodd
   split at hK <;> try exact hK.elim
   rename_i hpre;have hodd:b9p ops.toList=false:=by rw[b6V,c54] at hodd;exact hodd.2
   have hd:a73 ops=true:=(hok.2.resolve_left (by simp)).resolve_right (by rw[hodd];decide);refine wpIn_region_any (by kernel_rfl) (b9w (λs' a' w' h' hk=>hQ .normal _ _ _ h' hk) hok.1 hd ?_ hpre hK);obtain⟨I,g,h⟩:=h;exact⟨I,g,h.drew⟩
 | .seq c d,s,a,w,K,Q,hok,h,hK,hQ=>by
  simp only[r8,c3D] at hok;refine wpIn_seq (H2 c s a w _ _ hok.1 h hK λe s' a' w' h' hk=>?_);cases e with
  | normal =>
   obtain⟨F,hg,hk⟩:=hk;obtain⟨s2,hf,h2⟩:=hg _ _ _ _ _ h';exact H2 d s2 a' w' K Q hok.2 h2 (hk s2 hf) hQ
  | exit i=>exact hQ (.exit i) _ _ _ h' hk
  | ret=>exact hQ .ret _ _ _ h' hk
 | .cond c x y,s,a,w,K,Q,hok,h,hK,hQ=>by
  simp only[r8,c3D] at hok;rw[x5] at hK;obtain⟨I,g,h1⟩:=h;have hc:=h1.get c
  split at hK <;> try exact hK.elim
  rename_i b hb;rw[hb] at hc;refine wpIn_cond hc.sc ?_;cases b with
  | true=>exact H2 x s a w K Q hok.1 ⟨I,g,h1⟩ hK hQ
  | false=>exact H2 y s a w K Q hok.2 ⟨I,g,h1⟩ hK hQ
 | .block id c,s,a,w,K,Q,hok,h,hK,hQ=>by
  refine wpIn_block (H2 c s a w _ _ hok h hK λe s' a' w' h' hk=>?_);cases e with
  | normal=>exact hQ .normal _ _ _ h' hk
  | exit i =>
   rw[a12] at hk;show (if i=id then Q .normal a' w' else Q (.exit i) a' w')
   split at hk
   ·rename_i he;rw[y9] at he;rw[c3E he];exact hQ .normal _ _ _ h' hk
   ·rename_i he;rw[a0V] at he;rw[c3G he];exact hQ (.exit i) _ _ _ h' hk
  | ret=>exact hQ .ret _ _ _ h' hk
 | .loop c,s,a,w,K,Q,hok,h,hK,hQ=>by
  have key:∀R:S->S->Prop,(∀s s',R s s'->w0.n<=s'.o.length->∀a w,Z4 I0 X w0 s a w->Z4 I0 X w0 s' a w)->a86 R (λs K=>x5 a7 c s K) s K->(Code.loop c).wpIn (FW ro) n Tryd.prog Q a w:=λR hR hK=>by
   obtain⟨γ,st,inv,μ,hlen,⟨x0,hw,h0⟩,hround⟩:=hK
   have hn:∀x,inv x->w0.n<=(st x).o.length:=λx hx=>by
    have h1:=hlen x hx;rw[l9,l9] at h1;obtain⟨I,g,h⟩:=h;exact c4E h.lo h1
   refine wpIn_loop_ghost (λm a w=>∃x,inv x/\Z4 I0 X w0 (st x) a w/\μ x=m) (μ x0) ⟨x0,h0,hR _ _ hw (hn x0 h0) _ _ h,rfl⟩ ?_
   rintro m a1 w1 ⟨x,hx,h1,rfl⟩
   refine H2 c (st x) a1 w1 _ _ hok h1 (hround x hx) λe s2 a2 w2 h2 hk=>?_
   cases e with
   | normal =>
    obtain⟨y,hy,hlt,hwk⟩:=hk;exact⟨μ y,hlt,y,hy,hR _ _ hwk (hn y hy) _ _ h2,rfl⟩
   | exit i=>exact hQ (.exit i) _ _ _ h2 hk
   | ret=>exact hQ .ret _ _ _ h2 hk
  have hlo:w0.n<=j6 s.o:=by obtain⟨I,g,h⟩:=h;rw[l9];exact h.lo
  rcases hK with hK|hK|hK
  ·exact key weak (λ_ _ hw hn a w h=>h.weak hn (.inr hw)) hK
  ·exact key Eq (λ_ _ hw hn a w h=>h.weak hn (.inl hw)) hK
  ·exact key (a2b (j6 s.o)) (λ_ _ hw _ a w h=>hw I0 X w0 a w hlo h) hK
 | .exit i,s,a,w,K,Q,_,h,hK,hQ=>wpIn_exit (hQ _ _ _ _ h hK)
 | .ret,s,a,w,K,Q,_,h,hK,hQ=>wpIn_ret (hQ _ _ _ _ h hK)
 | .rangeFunc f ps x y,s,a,w,K,Q,_,h,hK,hQ=>by cases hK
 | .scope c,s,a,w,K,Q,_,h,hK,hQ=>by cases hK
 | .label l,s,a,w,K,Q,_,h,hK,hQ=>by cases hK
 | .goto l,s,a,w,K,Q,_,h,hK,hQ=>by cases hK
 | .refuse y,s,a,w,K,Q,_,h,hK,hQ=>by cases hK
theorem a4P (c:Code) (s:S) (a:Act) (w:World) (K:Vm.X->S->Prop) (Q:Exit->Act->World->Prop) (hok:r8 Tryd.prog c=true) (h:Z4 I0 X w0 s a w) (hK:x5 a7 c s K) (hQ:∀e s' a' w',Z4 I0 X w0 s' a' w'->K e s'->Q (toE e) a' w'):c.wp Tryd.prog Q a w :=
 wpIn_wide.1 (H2 (ro:=none) (n:=0) c s a w K Q hok h hK hQ)
end
def a76 (a:Ar) (s:S):List ResultVar->List R->Prop
 | [],[]=>True
 | .tmp t::l,r::q=>toR s.o (m5 s.t t)=some r/\a76 a s l q
 | .cell b t::l,r::q=>C1 a s.o (λy=>toR s.o y=some r) t (m5 s.t b)/\a76 a s l q
 | _,_=>False
def c1c (a:Ar) (l:List ResultVar) (q:List R):X->S->Prop
 | .exit _,_=>False
 | .normal,s=>a76 a s l q
 | .ret,s=>a76 a s l q
def P5:List ResultVar->Bool
 | []=>true
 | .tmp _::l=>P5 l
 | .cell _ t::l=>d4 t && P5 l
def uns:Nat->List V
 | 0=>[]
 | n+1=>Y9::uns n
theorem a4i:∀n,uns n=List.replicate n Y9
 | 0=>rfl
 | n+1=>by rw[uns,a4i n];rfl
def a1I (rs:List R) (n:Nat):S:=⟨a1X (b0G rs) (uns n),[]⟩
section
variable {I0:Nat->Nat->Prop} {X:Nat->Prop} {w0:W0} {I:Nat->Nat->Prop} {g:Nat->Value} {s:S} {a:Act} {w:World}
def a80 (tmps:Array Value):ResultVar->Sem Value
 | .tmp t=>pure (tmps.getD t undef)
 | .cell b t=>do loadVar t (<-asAddr (tmps.getD b undef))
theorem a2R {t:Nat} {v u:Value} (h:(Instr.loadAt t v).run Tryd.prog w=.ok u w):(do loadVar t (<-asAddr v)).run Tryd.prog w=.ok u w:=by
 unfold Instr.loadAt Instr.sureAddr at h
 split at h
 ·simpa [asAddr] using h
 ·simp[stuck] at h
theorem b2I (h:RelI I0 X w0 I g s a w):∀ {l:List ResultVar} {q:List R},P5 l=true->a76 a7 s l q->∃vs:List Value,(l.mapM (a80 a.tmps)).run Tryd.prog w=.ok vs w/\a3I I w vs q
 | [],[],_,_=>⟨[],rfl,trivial⟩
 | [],_::_,_,h=>h.elim
 | .tmp t::l,[],_,h=>h.elim
 | .cell b t::l,[],_,h=>h.elim
 | .tmp t::l,r::q,hok,hr=>by
  obtain⟨vs,h1,h2⟩:=b2I h (l:=l) (q:=q) hok hr.2;have h3:=a6O h (h.get (.tmp t)) hr.1;refine⟨a.eval (.tmp t)::vs,?_,h3,h2⟩;rw[c5H];simp only[Sem.run_bind,h1,Result.andThen_ok,a80,Sem.run_pure];rfl
 | .cell b t::l,r::q,hok,hr=>by
  rw[P5,c3D] at hok;obtain⟨vs,h1,h2⟩:=b2I h (l:=l) (q:=q) hok.2 hr.2;obtain⟨v,x,h3,h5,h6⟩:=a58 h hok.1 (h.get (.tmp b)) hr.1;refine⟨v::vs,?_,a6O h h5 h6,h2⟩;have h7:=a2R h3;rw[c5H];simp only[Sem.run_bind,a80,Sem.run_pure] at h7 ⊢;have h8:((asAddr (a.tmps.getD b undef)).run Tryd.prog w).andThen (λa w'=>(loadVar t a).run Tryd.prog w')=.ok v w:=h7;rw[h8,Result.andThen_ok,h1];rfl
theorem a77 (h:RelI I0 X w0 I g s a w) {fn:Func} {q:List R} (hok:P5 fn.results.toList=true) (hr:a76 a7 s fn.results.toList q):∃v,(results fn a.tmps).run Tryd.prog w=.ok v w/\a2E I w v q:=by
 obtain⟨vs,h1,h2⟩:=b2I h hok hr
 have h3:(fn.results.mapM (a80 a.tmps)).run Tryd.prog w=.ok vs.toArray w:=by
  rw[Array.mapM_eq_mapM_toList]
  simp[h1]
 have h4:(results fn a.tmps).run Tryd.prog w=.ok (if h:vs.toArray.size=1 then vs.toArray[0] else .tuple vs.toArray) w:=by
  have h5:results fn a.tmps=(do let vs <-fn.results.mapM (a80 a.tmps);pure (if h:vs.size=1 then vs[0] else .tuple vs)):=by
   unfold results
   congr 1
  rw[h5,Sem.run_bind,h3];rfl
 refine⟨_,h4,?_⟩;have hl:=h2.len
 match q,vs,h2,hl with
 | [r],[v],h2,_=>exact h2.1
 | [],[],h2,_=>exact⟨[],rfl,h2⟩
 | r::r'::q,v::v'::vs,h2,_=>exact⟨_,by simp,h2⟩
theorem b1n {I0:Nat->Nat->Prop} {w:World} {rs:List R} {args:List Value} (hI:Wld I0 w) (hat:a3I I0 w args rs) (n:Nat):RelI I0 (λ_=>False) ⟨w,λ_=>.nilFunc,0,[]⟩ I0 (λ_=>.nilFunc) (a1I rs n) { tmps:=args.toArray++Array.replicate n undef,defers:=[] } w:=by
 refine⟨λ_ _ h=>h,λb k hb=>⟨hI.1 b k hb,λ_=>.inl hb⟩,Fr.refl _ _,o6.refl _ _,c4e _,λk hk=>absurd hk (c5S _),λk o ho=>by simp[a1I] at ho,λj k b hj=>?_,λ_ _=>rfl,?_,rfl,hI.2⟩
 ·obtain⟨o,ho,_⟩:=hj
  simp[a1I] at ho
 ·show j2 I0 w _ (args.toArray++Array.replicate n undef).toList (a1X (b0G rs) (uns n));rw[W8,c5i,a4i];refine(a44 _ hat).append ?_;rw[c4Z];refine⟨by simp,λi u c hu hc=>?_⟩;rw[c4N] at hu hc
  split at hu
  ·rename_i hi;rw[c3E hi] at hc;injection hu with hu;injection hc with hc;subst hu;subst hc;exact .tu [] [] rfl λi u c hu _=>by simp at hu
  ·cases hu
theorem a1v {f:Nat} {fn:Func} {c:Code} {rs q:List R} (hf:Tryd.prog.funcs[f]?=some fn) (hb:fn.body=some c) (hn:(fn.name != "runtime.NumGoroutine")=true) (hc:r8 Tryd.prog c=true) (hr:P5 fn.results.toList=true)
  (h:∀qa qb qc qd qe qf qg qh qi qj qk ql qm qo qp qq qs qt qu qv qw qx qy qz vc vd ve vf vg vh vj vk vl vp vq vr vt vu vv vw vx vy vz,Ar.mk qa qb qc qd qe qf qg qh qi qj qk ql qm qo qp qq qs qt qu qv qw qx qy qz vc vd ve vf vg vh vj vk vl vp vq vr vt vu vv vw vx vy vz=a7->x5 (Ar.mk qa qb qc qd qe qf qg qh qi qj qk ql qm qo qp qq qs qt qu qv qw qx qy qz vc vd ve vf vg vh vj vk vl vp vq vr vt vu vv vw vx vy vz) c (a1I rs (fn.ntmps - n7 rs)) (λx s=>c1c (Ar.mk qa qb qc qd qe qf qg qh qi qj qk ql qm qo qp qq qs qt qu qv qw qx qy qz vc vd ve vf vg vh vj vk vl vp vq vr vt vu vv vw vx vy vz) fn.results.toList q x s)):l6 f rs q:=by
 refine⟨by unfold a0X;rw[hf];simp only[hn,hb];rfl,?_⟩;intro I w args hI hat;have hlen:=hat.len;refine calls_of_wp hf hb ?_;have hsz:args.toArray.size=n7 rs:=by rw[y8];simp[hlen]
 rw[hsz];refine a4P (I0:=I) (X:=λ_=>False) (w0:=⟨w,λ_=>.nilFunc,0,[]⟩) c _ _ _ _ _ hc ⟨I,_,b1n hI hat _⟩ (h _ _ _ _ _ _ _ _ _ _ _ _ _ _ _ _ _ _ _ _ _ _ _ _ _ _ _ _ _ _ _ _ _ _ _ _ _ _ _ _ _ _ _ (show Ar.mk a7.wrap a7.add a7.sub a7.mul a7.quo a7.rem a7.bits a7.lt a7.le a7.eq a7.nz a7.seq a7.slt a7.bytes a7.cat a7.fits a7.slen a7.sget a7.ssub a7.txt a7.byt a7.nat a7.len a7.get a7.sub2 a7.app a7.set a7.room a7.mlook a7.mput a7.deq a7.rep a7.call a7.calld a7.callo a7.callx a7.new a7.lit a7.keep a7.next a7.ext a7.reg a7.loop=a7 from rfl)) λe s' a' w' hrel hk=>?_
 have key:a76 a7 s' fn.results.toList q->a'.defers=[]/\∃v,(results fn a'.tmps).run Tryd.prog w'=.ok v w'/\∃v',Ending.returned v=.returned v'/\a2E (nxt I w w') w' v' q/\Below w.heap.size w w':=λhk=>by
  obtain⟨I',g',h'⟩:=hrel;obtain⟨v,h1,h2⟩:=a77 h' hr hk;refine⟨h'.dfr.1,v,h1,v,rfl,?_,⟨h'.fr.os,h'.fr.tape,h'.fr.output,h'.fr.size,λb hb=>h'.fr.block b hb (λhx=>hx)⟩⟩
  have hnx:∀b k,I' b k->nxt I w w' b k:=λb k hbk=>by
   obtain⟨h3,h4⟩:=h'.lt b k hbk
   rcases c4q b w.heap.size with hlt|hge
   ·exact .inl ((h4 hlt).resolve_right (λhx=>hx))
   ·exact .inr ⟨hge,h3⟩
  match q,h2 with
  | [],⟨us,e,hu⟩=>exact⟨us,e,hu.mono hnx (o6.refl _ _)⟩
  | [r],hu=>exact AtR.mono hnx (o6.refl _ _) hu
  | r::r'::q,⟨us,e,hu⟩=>exact⟨us,e,hu.mono hnx (o6.refl _ _)⟩
 cases e with
 | normal=>exact key hk
 | exit i=>exact hk.elim
 | ret=>exact key hk
def K4 (a:Ar) (s:S):List ResultVar->(List V->Prop)->Prop
 | [],K=>K []
 | .tmp t::l,K=>K4 a s l (λvs=>K (m5 s.t t::vs))
 | .cell b t::l,K=>C1 a s.o (λy=>K4 a s l (λvs=>K (y::vs))) t (m5 s.t b)
def c1d (a:Ar) (n:Nat) (Q:List V->List O->Prop) (l:List ResultVar):Vm.X->S->Prop
 | .exit _,_=>False
 | .normal,s=>K4 a s l (λvs=>a.keep n Q vs s)
 | .ret,s=>K4 a s l (λvs=>a.keep n Q vs s)
def a2S (vs:List V) (os:List O) (n:Nat):S:=⟨a1X vs (uns n),os⟩
theorem a9R (h:RelI I0 X w0 I g s a w):∀ {l:List ResultVar} {K:List V->Prop},P5 l=true->K4 a7 s l K->∃us vs,(l.mapM (a80 a.tmps)).run Tryd.prog w=.ok us w/\j2 I w g us vs/\K vs
 | [],K,_,h=>⟨[],[],rfl,.nil I w g,h⟩
 | .tmp t::l,K,hok,hr=>by
  obtain⟨us,vs,h1,h2,h3⟩:=a9R h (l:=l) hok hr;refine⟨a.eval (.tmp t)::us,m5 s.t t::vs,?_,.cons (h.get (.tmp t)) h2,h3⟩;rw[c5H];simp only[Sem.run_bind,h1,Result.andThen_ok,a80,Sem.run_pure];rfl
 | .cell b t::l,K,hok,hr=>by
  rw[P5,c3D] at hok;obtain⟨v,x,h3,h5,h6⟩:=a58 h hok.1 (h.get (.tmp b)) hr;obtain⟨us,vs,h1,h2,h4⟩:=a9R h (l:=l) hok.2 h6;refine⟨v::us,x::vs,?_,.cons h5 h2,h4⟩;have h7:=a2R h3;rw[c5H];simp only[Sem.run_bind,a80,Sem.run_pure] at h7 ⊢;have h8:((asAddr (a.tmps.getD b undef)).run Tryd.prog w).andThen (λa w'=>(loadVar t a).run Tryd.prog w')=.ok v w:=h7;rw[h8,Result.andThen_ok,h1];rfl
theorem a0v (h:RelI I0 X w0 I g s a w) {fn:Func} {K:List V->Prop} (hok:P5 fn.results.toList=true) (hr:K4 a7 s fn.results.toList K):∃us vs,(results fn a.tmps).run Tryd.prog w=.ok (pkg us) w/\j2 I w g us vs/\K vs:=by
 obtain⟨us,vs,h1,h2,h3⟩:=a9R h hok hr;refine⟨us,vs,?_,h2,h3⟩
 have h4:(fn.results.mapM (a80 a.tmps)).run Tryd.prog w=.ok us.toArray w:=by
  rw[Array.mapM_eq_mapM_toList]
  simp[h1]
 have h5:results fn a.tmps=(do let vs <-fn.results.mapM (a80 a.tmps);pure (if h:vs.size=1 then vs[0] else .tuple vs)):=by
  unfold results
  congr 1
 rw[h5,Sem.run_bind,h4]
 match us with
 | []=>rfl
 | [u]=>rfl
 | u::u'::us =>
  show Result.ok _ w=_;rw[dif_neg (by simp)];rfl
theorem b1o {f:Nat} {fn:Func} {c:Code} {vs:List V} {os:List O} {Q:List V->List O->Prop} (hf:Tryd.prog.funcs[f]?=some fn) (hb:fn.body=some c) (hn:(fn.name != "runtime.NumGoroutine")=true) (hc:r8 Tryd.prog c=true) (hr:P5 fn.results.toList=true)
  (h:∀qa qb qc qd qe qf qg qh qi qj qk ql qm qo qp qq qs qt qu qv qw qx qy qz vc vd ve vf vg vh vj vk vl vp vq vr vt vu vv vw vx vy vz,Ar.mk qa qb qc qd qe qf qg qh qi qj qk ql qm qo qp qq qs qt qu qv qw qx qy qz vc vd ve vf vg vh vj vk vl vp vq vr vt vu vv vw vx vy vz=a7->x5 (Ar.mk qa qb qc qd qe qf qg qh qi qj qk ql qm qo qp qq qs qt qu qv qw qx qy qz vc vd ve vf vg vh vj vk vl vp vq vr vt vu vv vw vx vy vz) c (a2S vs os (fn.ntmps - n7 vs)) (λx s=>c1d (Ar.mk qa qb qc qd qe qf qg qh qi qj qk ql qm qo qp qq qs qt qu qv qw qx qy qz vc vd ve vf vg vh vj vk vl vp vq vr vt vu vv vw vx vy vz) (j6 os) Q fn.results.toList x s)):o5 f vs os Q:=by
 refine⟨by unfold a0X;rw[hf];simp only[hn,hb];rfl,?_⟩;intro I w g args hrel;have hv:j2 I w g args vs:=hrel.tmp;refine calls_of_wp hf hb ?_;have hsz:args.toArray.size=n7 vs:=by rw[y8];simp[hv.1]
 rw[hsz]
 have hstart:RelI I (Xof g os) ⟨w,g,os.length,[]⟩ I g (a2S vs os (fn.ntmps - n7 vs)) { tmps:=args.toArray++Array.replicate (fn.ntmps - n7 vs) undef,defers:=[] } w:=by
  refine⟨hrel.im,hrel.lt,hrel.fr,hrel.kp,hrel.lo,hrel.st,hrel.obj,hrel.dis,hrel.out,?_,rfl,hrel.dfr.2⟩;show j2 I w _ (args.toArray++Array.replicate (fn.ntmps - n7 vs) undef).toList (a1X vs (uns (fn.ntmps - n7 vs)));rw[W8,c5i,a4i];refine hv.append ?_;rw[c4Z];refine⟨by simp,λi u c hu hc=>?_⟩;rw[c4N] at hu hc
  split at hu
  ·rename_i hi;rw[c3E hi] at hc;injection hu with hu;injection hc with hc;subst hu;subst hc;exact .tu [] [] rfl λi u c hu _=>by simp at hu
  ·cases hu
 refine a4P (I0:=I) (X:=Xof g os) (w0:=⟨w,g,os.length,[]⟩) c _ _ _ _ _ hc ⟨I,_,hstart⟩ (h _ _ _ _ _ _ _ _ _ _ _ _ _ _ _ _ _ _ _ _ _ _ _ _ _ _ _ _ _ _ _ _ _ _ _ _ _ _ _ _ _ _ _ (show Ar.mk a7.wrap a7.add a7.sub a7.mul a7.quo a7.rem a7.bits a7.lt a7.le a7.eq a7.nz a7.seq a7.slt a7.bytes a7.cat a7.fits a7.slen a7.sget a7.ssub a7.txt a7.byt a7.nat a7.len a7.get a7.sub2 a7.app a7.set a7.room a7.mlook a7.mput a7.deq a7.rep a7.call a7.calld a7.callo a7.callx a7.new a7.lit a7.keep a7.next a7.ext a7.reg a7.loop=a7 from rfl)) λe s' a' w' hrel2 hk=>?_
 have key:K4 a7 s' fn.results.toList (λvs=>a7.keep (j6 os) Q vs s')->a'.defers=[]/\∃v,(results fn a'.tmps).run Tryd.prog w'=.ok v w'/\∃us res os2 I' g',Ending.returned v=.returned (pkg us)/\Q res os2/\RelI I (Xof g os) ⟨w,g,os.length,[]⟩ I' g' ⟨res,os2⟩ { tmps:=us.toArray,defers:=[] } w':=λhk=>by
  obtain⟨I',g',h'⟩:=hrel2;obtain⟨us,vs',h1,h2,ks,res',os',hko,hQ⟩:=a0v h' hr hk;rw[l9] at hko;exact⟨h'.dfr.1,_,h1,us,res',os',I',_,rfl,hQ,b3O h' rfl hko h2⟩
 cases e with
 | normal=>exact key hk
 | exit i=>exact hk.elim
 | ret=>exact key hk
end
/-! A call whose body is walked in place. -/
section
variable {I0:Nat->Nat->Prop} {X:Nat->Prop} {w0:W0} {I:Nat->Nat->Prop} {g:Nat->Value} {s:S} {a:Act} {w:World}
def N5 (vs:List V) (o:List O) (n:Nat):S:=⟨a1X vs (uns n),o9 o (.kl [])⟩
def a1w:Nat->List O->List O
 | 0,_=>[]
 | _+1,[]=>[]
 | n+1,x::l=>x::a1w n l
theorem a2T:∀(n:Nat) (l:List O),a1w n l=l.take n
 | 0,l=>by simp[a1w]
 | n+1,[]=>by simp[a1w]
 | n+1,x::l=>by simp[a1w,a2T n l]
def c1e (n:Nat):V->Bool
 | .tu vs=>a9C n vs
 | x=>c0K n x
theorem b4p {I:Nat->Nat->Prop} {w:World} {g g':Nat->Value} {n:Nat} (hg:∀k,k<n->g' k=g k) {v:Value} {x:V} (h:AtV I w g v x) (hl:c1e n x=true):AtV I w g' v x:=by
 unfold c1e at hl
 split at hl
 ·obtain⟨us,rfl,h2⟩:=h.untu;exact a0U (a9M hg h2 hl)
 ·exact b4a hg h hl
def b1p (n:Nat) (x:V) (o:List O):List O:=match c1e n x with
 | true=>match a1Z n (a1w n o) with|true=>a1w n o|false=>B5 o n .dead
 | false=>B5 o n .dead
def a3S (n:Nat) (K:V->List O->List Nat->Prop) (res:List V) (s:S):Prop:=match m7 s.o n with
 | .kl ks=>K (a29 res) (b1p n (a29 res) s.o) ks
 | _=>False
def a4Q (a:Ar) (n:Nat) (K:V->List O->List Nat->Prop) (l:List ResultVar):Vm.X->S->Prop
 | .exit _,_=>False
 | .normal,s=>K4 a s l (λvs=>a3S n K vs s)
 | .ret,s=>K4 a s l (λvs=>a3S n K vs s)
theorem b4q {g:Nat->Value} {vs:List V} {us:List Value} (h:j2 I w g us vs):AtV I w g (pkg us) (a29 vs):=b6P h
theorem RelI.rebase (h:RelI I0 X w0 I g s a w) {us:List Value} {vs:List V} (hv:j2 I w g us vs):∃g',(∀k,k<s.o.length->g' k=g k)/\g' s.o.length=.agg ((List.range s.o.length).map g).toArray /\
  RelI I (Xof g' (o9 s.o (.kl []))) ⟨w,g',s.o.length+1,[]⟩ I g' ⟨vs,o9 s.o (.kl [])⟩ { tmps:=us.toArray,defers:=[] } w:=by
 obtain⟨ghost,hgh⟩:∃v:Value,v=.agg ((List.range s.o.length).map g).toArray:=⟨_,rfl⟩
 have h1:=h.newObj (.kl []) ghost ⟨((List.range s.o.length).map g).toArray,by rw[i7,hgh],by simp,λj u hu=>.inr (.inl (by
  have hj:j<s.o.length:=by have:=(c3L.1 hu).1;simpa using this
  rw[n8 (by omega)];simp only[c5m,c4j,List.getElem?_range hj,c4G,Option.some.injEq] at hu
  exact hu))⟩ (λj b _ _=>by rw[hgh];exact λh=>h)
 have hg:∀k,k<s.o.length->upd g s.o.length ghost k=g k:=λk hk=>n8 (by omega)
 have hlen:(s.obj (.kl [])).o.length=s.o.length+1:=by show (o9 s.o _).length=_;rw[a0s];simp
 refine⟨upd g s.o.length ghost,hg,by rw[i7,hgh],λ_ _ h=>h,λb k hb=>⟨(h.lt b k hb).1,λ_=>.inl hb⟩,Fr.refl _ _,o6.refl _ _,by rw[a0s];simp,λ_ _ _=>rfl,λk o ho=>?_,h1.dis,h1.out,hv.more (h.fresh _),rfl,h.tabs λb ⟨k,o,ho,hd,hg⟩=>((h1.obj k o ho).blk hd b hg).2⟩;have hob:=h1.obj k o ho;have hX:∀b,P0 (upd g s.o.length ghost k) b->o≠.dead->a19 (Xof (upd g s.o.length ghost) (o9 s.o (.kl []))) ⟨w,upd g s.o.length ghost,s.o.length+1,[]⟩ b:=λb hb hd=>.inr ⟨k,o,ho,hd,hb⟩
 cases o with
 | dead=>exact True.intro
 | box cs =>
  obtain⟨b,us,t,e1,e2,e3,e4,e5,e6⟩:=hob;exact⟨b,us,t,e1,e2,e3,e4,e5,hX b (by rw[e1];rfl) (by simp)⟩
 | row z e rows =>
  obtain⟨us,e1,e2,e3,e4⟩:=hob;exact⟨us,e1,e2,e3,λb hb=>⟨(e4 b hb).1,(e4 b hb).2.1,hX b ((a0W e1).2 hb) (by simp)⟩⟩
 | mp kt es =>
  obtain⟨b,l,c,e1,e2,e3,e4,e5⟩:=hob;exact⟨b,l,c,e1,e2,e3,e4,hX b (by rw[e1];rfl) (by simp)⟩
 | ob T vs =>
  obtain⟨b,e1,e2,e4,e5⟩:=hob;exact⟨b,e1,e2,e4,hX b (by rw[e1];rfl) (by simp)⟩
 | it P =>
  obtain⟨A,n,cap,F,e1,e2,e3,e4⟩:=hob;exact⟨A,n,cap,F,e1,e2,e3,λb hb=>⟨(e4 b hb).1,(e4 b hb).2.1,hX b (by rw[e1,B0];exact hb) (by simp)⟩⟩
 | kl ks=>exact hob
theorem RelI.unbase (h:RelI I0 X w0 I g s a w) {g':Nat->Value} {os2:List O} {t2:List V} {a2:Act} {w':World} {I2:Nat->Nat->Prop} {g2:Nat->Value} {ks:List Nat} (hg:∀k,k<s.o.length->g' k=g k) (hgn:g' s.o.length=.agg ((List.range s.o.length).map g).toArray)
  (h2:RelI I (Xof g' (o9 s.o (.kl []))) ⟨w,g',s.o.length+1,[]⟩ I2 g2 ⟨t2,os2⟩ a2 w') (hk:os2[s.o.length]?=some (.kl ks)):j2 I2 w' (a2J s.o.length g2) a.tmps.toList (A7 ks s.t)/\RelI I0 X w0 I2 g2 ⟨A7 ks s.t,os2.set s.o.length .dead⟩ a w':=by
 have hlo:s.o.length+1<=os2.length:=h2.lo
 have hX:∀b,Xof g' (o9 s.o (.kl [])) b->b<w.heap.size/\a19 X w0 b:=λb ⟨k,o,ho,hd,hb⟩=>by
  rw[a0s] at ho
  rcases c4q k s.o.length with hlt|hge
  ·rw[c3S hlt] at ho;rw[hg k hlt] at hb;exact(h.obj k o ho).blk hd b hb
  ·have hlt:=(c35.1 ho).1;rw[c37,c43] at hlt;have:k=s.o.length:=by omega
   subst this;rw[hgn] at hb;exact hb.elim
 have hM:∀b,a19 (Xof g' (o9 s.o (.kl []))) ⟨w,g',s.o.length+1,[]⟩ b->a19 X w0 b:=λb hb=>by
  rcases hb with hb|hb
  ·exact .inl (c4E h.fr.size hb)
  ·exact(hX b hb).2
 have hst:∀k,k<s.o.length->J9 (g k)=true->g2 k=g k:=λk hk hr=>by
  rw[<-hg k hk] at hr ⊢;exact h2.st k (Nat.lt_succ_of_lt hk) hr
 have hkl:∀k,k<s.o.length->k∉ks->g2 k=g k\/g k=.nilFunc:=λk hk0 hks=>by
  obtain⟨us,e1,e2,e3⟩:=h2.obj _ _ hk;have e4:=h2.st s.o.length (Nat.lt_succ_self _) (by show J9 (g' s.o.length)=true;rw[hgn];rfl);have e5:g2 s.o.length=g' s.o.length:=e4;rw[e5,hgn] at e1;have e1:=Value.agg.inj e1;have hu:us[k]?=some (g k):=by rw[<-e1];simp[hk0]
  rcases e3 k _ hu with e6|e6|e6
  ·exact .inr e6
  ·exact .inl e6
  ·exact absurd e6 hks
 have hget:∀(k:Nat) (o:O),(os2.set s.o.length O.dead)[k]?=some o->o=O.dead\/os2[k]?=some o:=λk o ho=>by
  by_cases e:s.o.length=k
  ·subst e;rw[c3V (by omega)] at ho;exact .inl (Option.some.inj ho).symm
  ·rw[c3O e] at ho;exact .inr ho
 have hlv:∀k,B1 ⟨A7 ks s.t,os2.set s.o.length .dead⟩ k->B1 ⟨t2,os2⟩ k:=λk ⟨o,ho,hd⟩=>⟨o,(hget k o ho).resolve_left hd,hd⟩
 have hcut:j2 I2 w' (a2J s.o.length g2) a.tmps.toList (A7 ks s.t):=by
  classical
  have h3:j2 I w (λk=>if k<s.o.length then g2 k else g k) a.tmps.toList (A7 ks s.t):=by
   refine a54 ks (λk=>if g k=.nilFunc/\k<s.o.length then g2 k else g k) (λj hj=>?_) (λj hr=>?_) (h.tmp.more λk hk=>?_)
   ·by_cases hlt:j<s.o.length
    ·rw[c3E hlt]
     rcases hkl j hlt hj with e|e
     ·by_cases e':g j=.nilFunc
      ·rw[c3E ⟨e',hlt⟩]
      ·rw[c3G (λh=>e' h.1)];exact e
     ·rw[c3E ⟨e,hlt⟩]
    ·rw[c3G hlt,c3G (λh=>hlt h.2)]
   ·by_cases hlt:j<s.o.length
    ·rw[c3E hlt]
     by_cases e':g j=.nilFunc
     ·rw[c3E ⟨e',hlt⟩]
     ·rw[c3G (λh=>e' h.1)] at hr ⊢;exact hst j hlt hr
    ·rw[c3G hlt,c3G (λh=>hlt h.2)]
   ·rw[c3G (λh=>hk h.1)]
  refine(h3.more λk hk=>?_).mono (λb k hb=>h2.im b k hb) h2.kp;unfold a2J
  by_cases hc:k<s.o.length
  ·rw[c3E hc,c3E hc]
  ·rw[c3G hc] at hk;exact absurd (h.out k (by omega)) hk
 refine⟨hcut,?_⟩;refine⟨λb k hb=>h2.im b k (h.im b k hb),λb k hb=>⟨(h2.lt b k hb).1,λhlt=>?_⟩,⟨h2.fr.os.trans h.fr.os,h2.fr.tape.trans h.fr.tape,h2.fr.output.trans h.fr.output,c4E h.fr.size h2.fr.size,λb hb hx=>?_⟩,h.kp.trans λb k hb i hi=>h2.kp b k (h.im b k hb) i hi,?_,λk hk' hr=>?_,λk o ho=>?_,λj k b hj hk'=>h2.dis j k b (hlv j hj) (hlv k hk'),λk hk'=>?_,?_,h.dfr⟩
 ·rcases (h2.lt b k hb).2 (c4y hlt h.fr.size) with h3|h3
  ·exact(h.lt b k h3).2 hlt
  ·rcases (hX b h3).2 with h4|h4
   ·omega
   ·exact .inr h4
 ·refine(h2.fr.block b (c4y hb h.fr.size) λhx'=>?_).trans (h.fr.block b hb hx)
  rcases (hX b hx').2 with h4|h4
  ·omega
  ·exact hx h4
 ·show w0.n<=(os2.set s.o.length .dead).length;have:=h.lo;rw[c3N];omega
 ·have e:=h.st k hk' hr;have hlt:k<s.o.length:=c4y hk' h.lo;rw[<-e] at hr ⊢;exact hst k hlt hr
 ·rcases hget k o ho with rfl|ho
  ·exact True.intro
  have hob:=h2.obj k o ho;cases o with
  | dead=>exact True.intro
  | box cs =>
   obtain⟨b,us,t,e1,e2,e3,e4,e5,e6⟩:=hob;exact⟨b,us,t,e1,e2,e3,e4,e5,hM b e6⟩
  | row z e rows =>
   obtain⟨us,e1,e2,e3,e4⟩:=hob;exact⟨us,e1,e2,e3,λb hb=>⟨(e4 b hb).1,(e4 b hb).2.1,hM b (e4 b hb).2.2⟩⟩
  | mp kt es =>
   obtain⟨b,l,c,e1,e2,e3,e4,e5⟩:=hob;exact⟨b,l,c,e1,e2,e3,e4,hM b e5⟩
  | ob T vs =>
   obtain⟨b,e1,e2,e4,e5⟩:=hob;exact⟨b,e1,e2,e4,hM b e5⟩
  | it P =>
   obtain⟨A,n,cap,F,e1,e2,e3,e4⟩:=hob;exact⟨A,n,cap,F,e1,e2,e3,λb hb=>⟨(e4 b hb).1,(e4 b hb).2.1,hM b (e4 b hb).2.2⟩⟩
  | kl js=>exact hob
 ·have hk':(os2.set s.o.length .dead).length<=k:=hk';rw[c3N] at hk';exact h2.out k hk'
 ·exact(hcut.more λk hk=>by unfold a2J at hk ⊢;split at hk <;> first|rw[c3E (by assumption)]|exact absurd rfl hk)
theorem RelI.trim (h:RelI I0 X w0 I g s a w) {n:Nat} (hn:w0.n<=n) (hnl:n<=s.o.length) (h1:j2 I w (a2J n g) a.tmps.toList s.t) (h2:a1Z n (s.o.take n)=true):RelI I0 X w0 I (a2J n g) ⟨s.t,s.o.take n⟩ a w:=by
 have hl:(s.o.take n).length=n:=by simp;omega
 have hg:∀k,k<n->a2J n g k=g k:=λk hk=>c3E hk
 have hget:∀k o,(s.o.take n)[k]?=some o->k<n/\s.o[k]?=some o:=λk o ho=>by
  rw[c4l] at ho
  split at ho
  ·exact⟨by assumption,ho⟩
  ·cases ho
 have hlv:∀k,B1 ⟨s.t,s.o.take n⟩ k->k<n/\B1 s k:=λk ⟨o,ho,hd⟩=>⟨(hget k o ho).1,o,(hget k o ho).2,hd⟩
 refine⟨h.im,h.lt,h.fr,h.kp,by show w0.n<=(s.o.take n).length;omega,λk hk hr=>(hg k (by omega)).trans (h.st k hk hr),λk o ho=>?_,λj k b hj hk hbj hbk=>?_,λk hk=>c3G (by have hk:(s.o.take n).length<=k:=hk;omega),h1,h.dfr⟩
 ·obtain⟨hk,hso⟩:=hget k o ho;have hob:=h.obj k o hso;cases o with
  | dead=>exact True.intro
  | box cs =>
   obtain⟨b,us,t,e1,e2,e3,e4⟩:=hob;exact⟨b,us,t,(hg k hk).trans e1,e2,a6A hg e3 (a48 h2 ho),e4⟩
  | row z e rows =>
   obtain⟨us,e1,e2,e3,e4⟩:=hob;exact⟨us,by rw[hg k hk];exact e1,e2,e3,by rw[hg k hk];exact e4⟩
  | mp kt es =>
   obtain⟨b,l,c,e1,e2⟩:=hob;exact⟨b,l,c,(hg k hk).trans e1,e2⟩
  | ob T vs =>
   obtain⟨b,e1,e2⟩:=hob;exact⟨b,(hg k hk).trans e1,e2⟩
  | it P =>
   obtain⟨A,n',cap,F,e1,e2⟩:=hob;exact⟨A,n',cap,F,(hg k hk).trans e1,e2⟩
  | kl ks =>
   obtain⟨us,e1,e2,e3⟩:=hob;refine⟨us,(hg k hk).trans e1,e2,λj u hu=>?_⟩;have hj:=(c3L.1 hu).1
   rcases e3 j u hu with e4|e4|e4
   ·exact .inl e4
   ·exact .inr (.inl ((hg j (by omega)).trans e4))
   ·exact .inr (.inr e4)
 ·obtain⟨hj1,hj2⟩:=hlv j hj;obtain⟨hk1,hk2⟩:=hlv k hk;rw[hg j hj1] at hbj;rw[hg k hk1] at hbk;exact h.dis j k b hj2 hk2 hbj hbk
theorem b2J {f:Nat} {fn:Func} {c:Code} {vs:List V} {o:List O} {K:V->List O->List Nat->Prop} (hf:Tryd.prog.funcs[f]?=some fn) (hb:fn.body=some c) (hn:(fn.name != "runtime.NumGoroutine")=true) (hc:r8 Tryd.prog c=true) (hr:P5 fn.results.toList=true)
  (h:x5 a7 c (N5 vs o (fn.ntmps - n7 vs)) (λx s=>a4Q a7 (j6 o) K fn.results.toList x s)):Z9 f vs o K:=by
 refine⟨by unfold a0X;rw[hf];simp only[hn,hb];rfl,?_⟩;intro I0 X w0 I g t a w us hrel hv;refine calls_of_wp hf hb ?_;have hsz:us.toArray.size=n7 vs:=by rw[y8];simp[hv.1]
 rw[hsz];obtain⟨g',hg,hgn,h1⟩:=hrel.rebase hv
 have hstart:RelI I (Xof g' (o9 o (.kl []))) ⟨w,g',o.length+1,[]⟩ I g' (N5 vs o (fn.ntmps - n7 vs)) { tmps:=us.toArray++Array.replicate (fn.ntmps - n7 vs) undef,defers:=[] } w:=by
  refine⟨h1.im,h1.lt,h1.fr,h1.kp,h1.lo,h1.st,h1.obj,h1.dis,h1.out,?_,rfl,h1.dfr.2⟩;show j2 I w _ (us.toArray++Array.replicate (fn.ntmps - n7 vs) undef).toList (a1X vs (uns (fn.ntmps - n7 vs)));rw[W8,c5i,a4i];refine j2.append h1.tmp ?_;rw[c4Z];refine⟨by simp,λi u c hu hc=>?_⟩;rw[c4N] at hu hc
  split at hu
  ·rename_i hi;rw[c3E hi] at hc;injection hu with hu;injection hc with hc;subst hu;subst hc;exact .tu [] [] rfl λi u c hu _=>by simp at hu
  ·cases hu
 refine a4P c _ _ _ _ _ hc ⟨I,_,hstart⟩ h λe s' a' w' hrel2 hk=>?_
 have key:K4 a7 s' fn.results.toList (λvs=>a3S (j6 o) K vs s')->a'.defers=[]/\∃v,(results fn a'.tmps).run Tryd.prog w'=.ok v w'/\∃v' x o' ks I' g',Ending.returned v=.returned v'/\RelI I0 X w0 I' g' ⟨A7 ks t,o'⟩ a w'/\AtV I' w' g' v' x/\K x o' ks:=λhk=>by
  obtain⟨I2,g2,h2⟩:=hrel2;obtain⟨us2,res,r1,r2,r3⟩:=a0v h2 hr hk;unfold a3S at r3
  split at r3 <;> try exact r3.elim
  rename_i ks hks;have hks':=j8 hks (by simp);rw[l9] at hks' r3;obtain⟨hcut,h3⟩:=hrel.unbase hg hgn h2 hks';have hlo:o.length+1<=s'.o.length:=h2.lo;have hx:=b4q r2;refine⟨h2.dfr.1,_,r1,pkg us2,a29 res,b1p o.length (a29 res) s'.o,ks,I2,?_⟩;unfold b1p at r3 ⊢
  split
  ·rename_i hl2;rw[hl2] at r3;simp only at r3
   split
   ·rename_i hlo2;rw[hlo2] at r3;simp only at r3;rw[a2T] at hlo2 r3 ⊢
    have e:(s'.o.set o.length .dead).take o.length=s'.o.take o.length:=by
     rw[c5t (c3A _)]
    have h4:=h3.trim (n:=o.length) hrel.lo (by show o.length<=(s'.o.set _ _).length;rw[c3N];omega) hcut (by show a1Z _ ((s'.o.set _ _).take _)=true;rw[e];exact hlo2);refine⟨a2J o.length g2,rfl,?_,b4p (λk hk=>c3E hk) hx hl2,r3⟩;have h5:(⟨A7 ks t,(s'.o.set o.length .dead).take o.length⟩:S)=⟨A7 ks t,s'.o.take o.length⟩:=by rw[e]
    rw[<-h5];exact h4
   ·rename_i hlo2;rw[hlo2] at r3;simp only at r3;rw[y5] at r3 ⊢;exact⟨g2,rfl,h3,hx,r3⟩
  ·rename_i hl2;rw[hl2] at r3;simp only at r3;rw[y5] at r3 ⊢;exact⟨g2,rfl,h3,hx,r3⟩
 cases e with
 | normal=>exact key hk
 | exit i=>exact hk.elim
 | ret=>exact key hk
def geN (n:Nat):List Nat->Bool
 | []=>true
 | k::l=>match Nat.ble n k with|true=>geN n l|false=>false
theorem b7u {n:Nat}:∀ {l:List Nat},geN n l=true->∀k∈l,n<=k
 | [],_,k,hk=>by simp at hk
 | j::l,h,k,hk=>by
  rw[geN] at h
  split at h
  ·rename_i hj
   rcases c3F.1 hk with rfl|hk
   ·exact c4p hj
   ·exact b7u h k hk
  ·cases h
theorem b9x {f:Nat} {fn:Func} {c:Code} {vs:List V} {o:List O} {K:V->List O->Prop} (hf:Tryd.prog.funcs[f]?=some fn) (hb:fn.body=some c) (hn:(fn.name != "runtime.NumGoroutine")=true) (hc:r8 Tryd.prog c=true) (hr:P5 fn.results.toList=true)
  (h:x5 a7 c (N5 vs o (fn.ntmps - n7 vs)) (λx s=>a4Q a7 (j6 o) (λx o' ks=>geN (j6 o) ks=true/\K x o') fn.results.toList x s)):a2a f vs o K:=by
 refine⟨by unfold a0X;rw[hf];simp only[hn,hb];rfl,?_⟩;intro I0 X w0 I g t a w us hrel hv;refine calls_of_wp hf hb ?_;have hsz:us.toArray.size=n7 vs:=by rw[y8];simp[hv.1]
 rw[hsz];obtain⟨g',hg,hgn,h1⟩:=hrel.rebase hv
 have hstart:RelI I (Xof g' (o9 o (.kl []))) ⟨w,g',o.length+1,[]⟩ I g' (N5 vs o (fn.ntmps - n7 vs)) { tmps:=us.toArray++Array.replicate (fn.ntmps - n7 vs) undef,defers:=[] } w:=by
  refine⟨h1.im,h1.lt,h1.fr,h1.kp,h1.lo,h1.st,h1.obj,h1.dis,h1.out,?_,rfl,h1.dfr.2⟩;show j2 I w _ (us.toArray++Array.replicate (fn.ntmps - n7 vs) undef).toList (a1X vs (uns (fn.ntmps - n7 vs)));rw[W8,c5i,a4i];refine j2.append h1.tmp ?_;rw[c4Z];refine⟨by simp,λi u c hu hc=>?_⟩;rw[c4N] at hu hc
  split at hu
  ·rename_i hi;rw[c3E hi] at hc;injection hu with hu;injection hc with hc;subst hu;subst hc;exact .tu [] [] rfl λi u c hu _=>by simp at hu
  ·cases hu
 refine a4P c _ _ _ _ _ hc ⟨I,_,hstart⟩ h λe s' a' w' hrel2 hk=>?_
 have key:K4 a7 s' fn.results.toList (λvs=>a3S (j6 o) (λx o' ks=>geN (j6 o) ks=true/\K x o') vs s')->a'.defers=[]/\∃v,(results fn a'.tmps).run Tryd.prog w'=.ok v w'/\∃v' x o' I' g',Ending.returned v=.returned v'/\RelI I0 X w0 I' g' ⟨t,o'⟩ a w'/\AtV I' w' g' v' x/\K x o':=λhk=>by
  obtain⟨I2,g2,h2⟩:=hrel2;obtain⟨us2,res,r1,r2,r3⟩:=a0v h2 hr hk;unfold a3S at r3
  split at r3 <;> try exact r3.elim
  rename_i ks hks;have hks':=j8 hks (by simp);rw[l9] at hks' r3
  have hge:geN o.length ks=true:=by
   have h7:=r3.1;exact h7
  replace r3:=r3.2;obtain⟨hcut,h3⟩:=hrel.unbase hg hgn h2 hks';have hlo:o.length+1<=s'.o.length:=h2.lo;have hx:=b4q r2
  have hgg:∀k,g k≠.nilFunc->k<o.length/\g2 k=g k:=λk hk=>by
   have hkn:k<o.length:=by
    rcases c4q k o.length with h8|h8
    ·exact h8
    ·exact absurd (hrel.out k h8) hk
   obtain⟨us3,e1,e2,e3⟩:=h2.obj _ _ hks'
   have e4:g2 o.length=.agg ((List.range o.length).map g).toArray:=by
    have h9:=h2.st o.length (by show o.length<o.length+1;omega) (by show J9 (g' o.length)=true;rw[hgn];rfl);rw[h9];exact hgn
   rw[e1] at e4;have e4:=Value.agg.inj e4
   have e5:us3[k]?=some (g k):=by
    rw[e4]
    simp[hkn]
   rcases e3 k _ e5 with h9|h9|h9
   ·exact absurd h9 hk
   ·exact⟨hkn,h9⟩
   ·have:=b7u hge _ h9;omega
  have htmp:=(hrel.tmp.mono h2.im h2.kp).more λk hk=>(hgg k hk).2
  have htmp2:j2 I2 w' (a2J o.length g2) a.tmps.toList t:=(hrel.tmp.mono h2.im h2.kp).more λk hk=>by unfold a2J;rw[c3E (hgg k hk).1];exact(hgg k hk).2
  refine⟨h2.dfr.1,_,r1,pkg us2,a29 res,b1p o.length (a29 res) s'.o,I2,?_⟩;unfold b1p at r3 ⊢
  split
  ·rename_i hl2;rw[hl2] at r3;simp only at r3
   split
   ·rename_i hlo2;rw[hlo2] at r3;simp only at r3;rw[a2T] at hlo2 r3 ⊢
    have e:(s'.o.set o.length .dead).take o.length=s'.o.take o.length:=by
     rw[c5t (c3A _)]
    have h4:=h3.trim (n:=o.length) hrel.lo (by show o.length<=(s'.o.set _ _).length;rw[c3N];omega) hcut (by show a1Z _ ((s'.o.set _ _).take _)=true;rw[e];exact hlo2);refine⟨a2J o.length g2,rfl,?_,b4p (λk hk=>c3E hk) hx hl2,r3⟩;have h5:(⟨t,(s'.o.set o.length .dead).take o.length⟩:S)=⟨t,s'.o.take o.length⟩:=by rw[e]
    rw[<-h5];exact⟨h4.im,h4.lt,h4.fr,h4.kp,h4.lo,h4.st,h4.obj,h4.dis,h4.out,htmp2,h4.dfr⟩
   ·rename_i hlo2;rw[hlo2] at r3;simp only at r3;rw[y5] at r3 ⊢;exact⟨g2,rfl,⟨h3.im,h3.lt,h3.fr,h3.kp,h3.lo,h3.st,h3.obj,h3.dis,h3.out,htmp,h3.dfr⟩,hx,r3⟩
  ·rename_i hl2;rw[hl2] at r3;simp only at r3;rw[y5] at r3 ⊢;exact⟨g2,rfl,⟨h3.im,h3.lt,h3.fr,h3.kp,h3.lo,h3.st,h3.obj,h3.dis,h3.out,htmp,h3.dfr⟩,hx,r3⟩
 cases e with
 | normal=>exact key hk
 | exit i=>exact hk.elim
 | ret=>exact key hk
theorem b4r {n:Nat} (hout:∀k,n<=k->g k=.nilFunc):∀ {cs:List V} {us:List Value},j2 I w g us cs->(∀u∈us,u.oneCell'=true)->a6P n cs=true
 | [],us,h,_=>rfl
 | c::cs,us,h,h1=>by
  obtain⟨u,us',rfl,h2,h3⟩:=h.uncons
  have hlt:∀k,g k≠.nilFunc->Nat.blt k n=true:=λk hk=>by
   rw[c42]
   rcases c4q k n with h4|h4
   ·exact h4
   ·exact absurd (hout k h4) hk
  have hc:a2x n c=true:=by
   have hu:=h1 u (c38 ..);cases h2 with
   | d hh=>rfl
   | ag=>cases hu
   | tu=>cases hu
   | em=>rfl
   | own k A m cap hh=>exact hlt k (by intro e;rw[e] at hh;cases hh)
   | ptr k off b hh=>exact hlt k (by rw[hh];simp)
   | cl f us ks hl hh =>
    rw[a2x]
    have key:∀(ks:List Nat),(∀k∈ks,g k≠.nilFunc)->b5z n ks=true:=by
     intro ks
     induction ks with
     | nil=>intro _;rfl
     | cons k ks ih =>
      intro h;rw[b5z,hlt k (h k (c38 ..))];exact ih λk hk=>h k (c36 _ hk)
    refine key ks λk hk=>?_
    obtain⟨i,hi⟩:=c4f.1 hk;have hlt':i<us.length:=by rw[hl];exact(c35.1 hi).1
    obtain⟨_,b,hb⟩:=hh i _ k (c39 hlt') hi;rw[hb];simp
   | el k i sz off b m cap hh=>exact hlt k (by rw[hh];simp)
   | ro b o off us cs hi hc hd=>rfl
   | mp k b hh=>exact hlt k (by rw[hh];simp)
   | bs k n' b cap hh hn=>exact hlt k (by rw[hh];simp)
   | jk v=>rfl
  rw[a6P,hc];exact b4r hout h3 λu hu=>h1 u (c36 _ hu)
theorem RelI.low (h:RelI I0 X w0 I g s a w):a1Z s.o.length s.o=true:=by
 have key:∀l:List O,(∀o∈l,∀cs,o=.box cs->a6P s.o.length cs=true)->a1Z s.o.length l=true:=by
  intro l
  induction l with
  | nil=>intro _;rfl
  | cons o l ih =>
   intro h;have h2:=ih λo ho=>h o (c36 _ ho)
   cases o with
   | box cs=>rw[a1Z,h _ (c38 ..) cs rfl];exact h2
   | _=>exact h2
 refine key s.o λo ho cs e=>?_
 subst e;obtain⟨k,hk⟩:=c4f.1 ho;obtain⟨b,us,t,h1,h2,h3,h4,_⟩:=h.obj k _ hk;exact b4r h.out h3 h4
def a2U (p:Nat):List Nat->List Nat
 | []=>[]
 | k::l=>match Nat.ble p k with|true=>a2U p l|false=>k::a2U p l
def a78 (p:Nat):O->O
 | .kl ks=>.kl (a2U p ks)
 | x=>x
def E6:Nat->List O->List O
 | _,[]=>[]
 | p,x::l=>a78 p x::E6 (p+1) l
theorem a4j {p:Nat}:∀ {l:List Nat} {k:Nat},k∈l->k<p->k∈a2U p l
 | [],k,h,_=>by simp at h
 | j::l,k,h,hp=>by
  rw[a2U]
  split
  ·rename_i hj
   rcases c3F.1 h with rfl|h
   ·have:=c4p hj;omega
   ·exact a4j h hp
  ·rcases c3F.1 h with rfl|h
   ·exact c38 ..
   ·exact c36 _ (a4j h hp)
theorem a1J:∀(l:List O) (p i:Nat),(E6 p l)[i]?=(l[i]?).map (a78 (p+i))
 | [],p,i=>by simp[E6]
 | x::l,p,0=>by simp[E6]
 | x::l,p,i+1=>by rw[E6];simp only[c5E];rw[a1J l (p+1) i];congr 2;omega
theorem a0M (p:Nat) (l:List O):(E6 p l).length=l.length:=by
 induction l generalizing p with
 | nil=>rfl
 | cons x l ih=>rw[E6,c3C,ih,c3C]
theorem b2K {p:Nat} {o:O} (h:a78 p o≠.dead):o≠.dead:=by rintro rfl;exact h rfl
theorem RelI.trimKl (h:RelI I0 X w0 I g s a w):RelI I0 X w0 I g ⟨s.t,E6 0 s.o⟩ a w:=by
 have hlv:∀k,B1 ⟨s.t,E6 0 s.o⟩ k->B1 s k:=λk ⟨o,ho,hd⟩=>by
  simp only[a1J,c40] at ho;obtain⟨o',ho',rfl⟩:=ho;exact⟨o',ho',b2K hd⟩
 refine⟨h.im,h.lt,h.fr,h.kp,by rw[a0M];exact h.lo,h.st,λj o hj=>?_,λi j b hi hj=>h.dis i j b (hlv i hi) (hlv j hj),λj hj=>h.out j (by rw[a0M] at hj;exact hj),h.tmp,h.dfr⟩;simp only[a1J,c40,c4z] at hj;obtain⟨o',ho',rfl⟩:=hj;have hob:=h.obj j o' ho';cases o' with
 | kl ks =>
  obtain⟨us,e1,e2,e3⟩:=hob;refine⟨us,e1,e2,λi u hu=>?_⟩
  rcases e3 i u hu with e4|e4|e4
  ·exact .inl e4
  ·exact .inr (.inl e4)
  ·have:=(c3L.1 hu).1;exact .inr (.inr (a4j e4 (by omega)))
 | _=>exact hob
theorem a4k {p:Nat}:∀ {l:List Nat} {k:Nat},k∈a2U p l->k∈l
 | [],k,h=>by simp[a2U] at h
 | j::l,k,h=>by
  rw[a2U] at h
  split at h
  ·exact c36 _ (a4k h)
  ·rcases c3F.1 h with rfl|h
   ·exact c38 ..
   ·exact c36 _ (a4k h)
theorem b2L {p:Nat} {o:O} (h:o≠.dead):a78 p o≠.dead:=by cases o <;> simp_all [a78]
theorem RelI.untrim {t:List V} {o:List O} (h:RelI I0 X w0 I g ⟨t,E6 0 o⟩ a w):RelI I0 X w0 I g ⟨t,o⟩ a w:=by
 have hlv:∀k,B1 ⟨t,o⟩ k->B1 ⟨t,E6 0 o⟩ k:=λk ⟨x,hx,hd⟩=>⟨a78 (0+k) x,by simp only[a1J,hx];rfl,b2L hd⟩
 refine⟨h.im,h.lt,h.fr,h.kp,by have:=h.lo;rw[a0M] at this;exact this,h.st,λj x hj=>?_,λi j b hi hj=>h.dis i j b (hlv i hi) (hlv j hj),λj hj=>h.out j (by rw[a0M];exact hj),h.tmp,h.dfr⟩;have hob:=h.obj j (a78 (0+j) x) (by simp only[a1J];rw[show o[j]?=some x from hj];rfl);cases x with
 | kl ks =>
  obtain⟨us,e1,e2,e3⟩:=hob;refine⟨us,e1,e2,λi u hu=>?_⟩
  rcases e3 i u hu with e4|e4|e4
  ·exact .inl e4
  ·exact .inr (.inl e4)
  ·exact .inr (.inr (a4k e4))
 | _=>exact hob
def c2p (a:Ar) (o:List O) (l:List ResultVar) (q:List R):Vm.X->S->Prop
 | .exit _,_=>False
 | .normal,s=>K4 a s l λres=>m7 (E6 0 s.o) (j6 o)=.kl []/\a1w (j6 o) (E6 0 s.o)=E6 0 o/\a0E s.o res=some q
 | .ret,s=>K4 a s l λres=>m7 (E6 0 s.o) (j6 o)=.kl []/\a1w (j6 o) (E6 0 s.o)=E6 0 o/\a0E s.o res=some q
theorem b5G {us:List Value} {q:List R} (h:a3I I w us q):a2E I w (pkg us) q:=by
 match us,q,h with
 | [],[],h=>exact⟨[],rfl,h⟩
 | [u],[r],h=>exact h.1
 | u::u'::us,r::r'::q,h=>exact⟨_,rfl,h⟩
theorem c1f {f:Nat} {fn:Func} {c:Code} {vs:List V} {o:List O} {q:List R} (hf:Tryd.prog.funcs[f]?=some fn) (hb:fn.body=some c) (hn:(fn.name != "runtime.NumGoroutine")=true) (hc:r8 Tryd.prog c=true) (hr:P5 fn.results.toList=true)
  (h:x5 a7 c (N5 vs o (fn.ntmps - n7 vs)) (λx s=>c2p a7 o fn.results.toList q x s)):b6R f vs o (a22 q):=by
 refine⟨by unfold a0X;rw[hf];simp only[hn,hb];rfl,?_⟩;intro I0 X w0 I g t a w us hrel hv;refine calls_of_wp hf hb ?_;have hsz:us.toArray.size=n7 vs:=by rw[y8];simp[hv.1]
 rw[hsz];obtain⟨g',hg,hgn,h1⟩:=hrel.rebase hv
 have hstart:RelI I (Xof g' (o9 o (.kl []))) ⟨w,g',o.length+1,[]⟩ I g' (N5 vs o (fn.ntmps - n7 vs)) { tmps:=us.toArray++Array.replicate (fn.ntmps - n7 vs) undef,defers:=[] } w:=by
  refine⟨h1.im,h1.lt,h1.fr,h1.kp,h1.lo,h1.st,h1.obj,h1.dis,h1.out,?_,rfl,h1.dfr.2⟩;show j2 I w _ (us.toArray++Array.replicate (fn.ntmps - n7 vs) undef).toList (a1X vs (uns (fn.ntmps - n7 vs)));rw[W8,c5i,a4i];refine j2.append h1.tmp ?_;rw[c4Z];refine⟨by simp,λi u c hu hc=>?_⟩;rw[c4N] at hu hc
  split at hu
  ·rename_i hi;rw[c3E hi] at hc;injection hu with hu;injection hc with hc;subst hu;subst hc;exact .tu [] [] rfl λi u c hu _=>by simp at hu
  ·cases hu
 refine a4P c _ _ _ _ _ hc ⟨I,_,hstart⟩ h λe s' a' w' hrel2 hk=>?_
 have key:K4 a7 s' fn.results.toList (λres=>m7 (E6 0 s'.o) (j6 o)=.kl []/\a1w (j6 o) (E6 0 s'.o)=E6 0 o/\a0E s'.o res=some q)->a'.defers=[]/\∃v,(results fn a'.tmps).run Tryd.prog w'=.ok v w'/\∃v' I' g',Ending.returned v=.returned v'/\RelI I0 X w0 I' g' ⟨t,o⟩ a w'/\AtV I' w' g' v' (a22 q):=λhk=>by
  obtain⟨I2,g2,h2⟩:=hrel2;obtain⟨us2,res,r1,r2,r3,r4,r5⟩:=a0v h2 hr hk;have hks':=j8 r3 (by simp);rw[l9] at hks' r4;rw[a2T] at r4;have h2':=h2.trimKl;obtain⟨hcut,h3⟩:=hrel.unbase hg hgn h2' hks';have hlo:o.length+1<=s'.o.length:=h2.lo
  have e:((E6 0 s'.o).set o.length .dead).take o.length=E6 0 o:=by
   rw[c5t (c3A _),r4]
  have h4:=h3.trim (n:=o.length) hrel.lo (by show o.length<=((E6 0 s'.o).set _ _).length;rw[c3N,a0M];omega) hcut (by show a1Z _ (((E6 0 s'.o).set _ _).take _)=true;rw[e];have:=hrel.trimKl.low;rw[a0M] at this;exact this);have h5:(⟨A7 [] t,((E6 0 s'.o).set o.length .dead).take o.length⟩:S)=⟨t,E6 0 o⟩:=by rw[e];rfl
  refine⟨h2.dfr.1,_,r1,pkg us2,I2,a2J o.length g2,rfl,RelI.untrim ?_,a65 _ (b5G (a47 h2 r2 r5))⟩;rw[<-h5];exact h4
 cases e with
 | normal=>exact key hk
 | exit i=>exact hk.elim
 | ret=>exact key hk
end
def a5K (i:Nat):List V->Bool
 | []=>false
 | .own k::l=>match H5 k i with|true=>true|false=>a5K i l
 | _::l=>a5K i l
def b4s:Nat->List V->Bool
 | 0,_=>true
 | n+1,vs=>match a5K n vs with|true=>b4s n vs|false=>false
theorem a8T {i:Nat}:∀ {l:List V},a5K i l=true->∃p:Nat,l[p]?=some (V.own i)
 | [],h=>by cases h
 | x::l,h=>by
  have step:a5K i l=true->∃p:Nat,(x::l)[p]?=some (V.own i):=λh=>by
   obtain⟨p,hp⟩:=a8T h;exact⟨p+1,by simpa using hp⟩
  unfold a5K at h
  split at h
  ·cases ‹_=[]›
  ·rename_i k l' e;injection e with e1 e2;subst e1;subst e2
   split at h
   ·rename_i hk;rw[y9] at hk;subst hk;exact⟨0,rfl⟩
   ·exact step h
  ·rename_i e;injection e with e1 e2;subst e2;exact step h
theorem b1q:∀ {n:Nat} {vs:List V},b4s n vs=true->∀i,i<n->∃p:Nat,vs[p]?=some (V.own i)
 | 0,_,_,i,hi=>absurd hi (c5S _)
 | n+1,vs,h,i,hi=>by
  rw[b4s] at h
  split at h
  ·rename_i h1
   by_cases e:i=n
   ·subst e;exact a8T h1
   ·exact b1q h i (by omega)
  ·cases h
theorem c2q {I:Nat->Nat->Prop} {w:World} {g:Nat->Value}:∀ {res:List V} {v:Value},AtV I w g v (a29 res)->∃us,v=pkg us/\j2 I w g us res
 | [],v,h=>by
  obtain⟨us,rfl,h2⟩:=AtV.untu h;exact⟨us,by rw[h2.unnil];rfl,h2⟩
 | [r],v,h=>⟨[v],rfl,.cons h (.nil I w g)⟩
 | r::r'::res,v,h=>by
  obtain⟨us,rfl,h2⟩:=AtV.untu h;obtain⟨u,us',rfl,_,h4⟩:=h2.uncons;obtain⟨u',us'',rfl,_,_⟩:=h4.uncons;exact⟨_,rfl,h2⟩
def b9y:Nat->List O->Bool
 | 0,_=>true
 | n+1,.row _ _ _::l=>b9y n l
 | _,_=>false
theorem a9S:∀ {n:Nat} {l:List O},b9y n l=true->∀i,i<n->∃z e r,l[i]?=some (O.row z e r)
 | 0,_,_,i,hi=>absurd hi (c5S _)
 | n+1,[],h,_,_=>by cases h
 | n+1,o::l,h,i,hi=>by
  cases o with
  | row z e r =>
   cases i with
   | zero=>exact⟨z,e,r,rfl⟩
   | succ i=>exact a9S (n:=n) (l:=l) h i (by omega)
  | _=>cases h
theorem a0w {f:Nat} {fn:Func} {c:Code} {vs:List V} {os:List O} {Q:List V->List O->Prop} (hf:Tryd.prog.funcs[f]?=some fn) (hb:fn.body=some c) (hn:(fn.name != "runtime.NumGoroutine")=true) (hc:r8 Tryd.prog c=true) (hr:P5 fn.results.toList=true) (hs:b4s (j6 os) vs=true) (hos:b9y (j6 os) os=true) (hq:∀res o',Q res o'->b9y (j6 os) o'=true)
  (h:∀qa qb qc qd qe qf qg qh qi qj qk ql qm qo qp qq qs qt qu qv qw qx qy qz vc vd ve vf vg vh vj vk vl vp vq vr vt vu vv vw vx vy vz,Ar.mk qa qb qc qd qe qf qg qh qi qj qk ql qm qo qp qq qs qt qu qv qw qx qy qz vc vd ve vf vg vh vj vk vl vp vq vr vt vu vv vw vx vy vz=a7->∀K:V->List O->List Nat->Prop,(∀res o',Q res o'->K (a29 res) o' [])->x5 (Ar.mk qa qb qc qd qe qf qg qh qi qj qk ql qm qo qp qq qs qt qu qv qw qx qy qz vc vd ve vf vg vh vj vk vl vp vq vr vt vu vv vw vx vy vz) c (N5 vs os (fn.ntmps - n7 vs)) (λx s=>a4Q (Ar.mk qa qb qc qd qe qf qg qh qi qj qk ql qm qo qp qq qs qt qu qv qw qx qy qz vc vd ve vf vg vh vj vk vl vp vq vr vt vu vv vw vx vy vz) (j6 os) K fn.results.toList x s)):a0Z f vs os Q:=by
 have h0:=b2J (K:=λx o' ks=>ks=[]/\∃res,x=a29 res/\Q res o') (vs:=vs) (o:=os) hf hb hn hc hr (h _ _ _ _ _ _ _ _ _ _ _ _ _ _ _ _ _ _ _ _ _ _ _ _ _ _ _ _ _ _ _ _ _ _ _ _ _ _ _ _ _ _ _ (show Ar.mk a7.wrap a7.add a7.sub a7.mul a7.quo a7.rem a7.bits a7.lt a7.le a7.eq a7.nz a7.seq a7.slt a7.bytes a7.cat a7.fits a7.slen a7.sget a7.ssub a7.txt a7.byt a7.nat a7.len a7.get a7.sub2 a7.app a7.set a7.room a7.mlook a7.mput a7.deq a7.rep a7.call a7.calld a7.callo a7.callx a7.new a7.lit a7.keep a7.next a7.ext a7.reg a7.loop=a7 from rfl) _ λres o' hq=>⟨rfl,res,rfl,hq⟩);refine⟨h0.1,λI w g args hrel=>?_⟩;refine(h0.2 I (Xof g os) ⟨w,g,os.length,[]⟩ I g vs { tmps:=args.toArray,defers:=[] } w args hrel hrel.tmp).mono ?_
 rintro e w' ⟨v,x,o',ks,I',g',rfl,h',hv,rfl,res,rfl,hQ⟩
 obtain⟨us,rfl,hus⟩:=c2q hv;refine⟨us,res,o',I',g',rfl,⟨hQ,λi hi=>?_⟩,⟨h'.im,h'.lt,h'.fr,h'.kp,h'.lo,h'.st,h'.obj,h'.dis,h'.out,hus,rfl,h'.dfr.2⟩⟩;have hq2:=hq _ _ hQ;rw[l9] at hs hos hq2;obtain⟨p,hp⟩:=b1q hs i hi;obtain⟨z1,f1,r1,ho1⟩:=a9S hos i hi;obtain⟨z2,f2,r2,ho2⟩:=a9S hq2 i hi;obtain⟨us1,hw1,_⟩:=hrel.obj i _ ho1;obtain⟨us2,hw2,_⟩:=h'.obj i _ ho2;have e1:j2 I w g args vs:=hrel.tmp;have e2:j2 I' w' g' args vs:=h'.tmp;have hlt:p<args.length:=by rw[e1.1];exact(c35.1 hp).1
 have ha:args[p]?=some args[p]:=c39 hlt;rw[<-a2D hw1,<-a2D hw2,<-(e1.2 p _ _ ha hp).unown.1,<-(e2.2 p _ _ ha hp).unown.1]
section
variable {f:Nat} {fn:Func} {c:Code}
theorem K7 {rs q:List R} (hf:Tryd.prog.funcs[f]?=some fn) (hb:fn.body=some c) (h:∀qa qb qc qd qe qf qg qh qi qj qk ql qm qo qp qq qs qt qu qv qw qx qy qz vc vd ve vf vg vh vj vk vl vp vq vr vt vu vv vw vx vy vz,Ar.mk qa qb qc qd qe qf qg qh qi qj qk ql qm qo qp qq qs qt qu qv qw qx qy qz vc vd ve vf vg vh vj vk vl vp vq vr vt vu vv vw vx vy vz=a7->x5 (Ar.mk qa qb qc qd qe qf qg qh qi qj qk ql qm qo qp qq qs qt qu qv qw qx qy qz vc vd ve vf vg vh vj vk vl vp vq vr vt vu vv vw vx vy vz) c (a1I rs (fn.ntmps - n7 rs)) (λx s=>c1c (Ar.mk qa qb qc qd qe qf qg qh qi qj qk ql qm qo qp qq qs qt qu qv qw qx qy qz vc vd ve vf vg vh vj vk vl vp vq vr vt vu vv vw vx vy vz) fn.results.toList q x s)) (hn:(fn.name != "runtime.NumGoroutine")=true:=by kernel_rfl) (hc:r8 Tryd.prog c=true:=by kernel_rfl) (hr:P5 fn.results.toList=true:=by kernel_rfl):l6 f rs q:=a1v hf hb hn hc hr h
theorem so9 {vs:List V} {os:List O} {Q:List V->List O->Prop} (hf:Tryd.prog.funcs[f]?=some fn) (hb:fn.body=some c) (h:∀qa qb qc qd qe qf qg qh qi qj qk ql qm qo qp qq qs qt qu qv qw qx qy qz vc vd ve vf vg vh vj vk vl vp vq vr vt vu vv vw vx vy vz,Ar.mk qa qb qc qd qe qf qg qh qi qj qk ql qm qo qp qq qs qt qu qv qw qx qy qz vc vd ve vf vg vh vj vk vl vp vq vr vt vu vv vw vx vy vz=a7->x5 (Ar.mk qa qb qc qd qe qf qg qh qi qj qk ql qm qo qp qq qs qt qu qv qw qx qy qz vc vd ve vf vg vh vj vk vl vp vq vr vt vu vv vw vx vy vz) c (a2S vs os (fn.ntmps - n7 vs)) (λx s=>c1d (Ar.mk qa qb qc qd qe qf qg qh qi qj qk ql qm qo qp qq qs qt qu qv qw qx qy qz vc vd ve vf vg vh vj vk vl vp vq vr vt vu vv vw vx vy vz) (j6 os) Q fn.results.toList x s)) (hn:(fn.name != "runtime.NumGoroutine")=true:=by kernel_rfl) (hc:r8 Tryd.prog c=true:=by kernel_rfl) (hr:P5 fn.results.toList=true:=by kernel_rfl):o5 f vs os Q:=b1o hf hb hn hc hr h
end
end
section
def wrO:List Oper->List Nat->List Nat
 | [],acc=>acc
 | ⟨some d,_,_,_,_,_⟩::l,acc=>d::wrO l acc
 | _::l,acc=>wrO l acc
def wr:Code->List Nat->List Nat
 | .region _ ops _,acc=>wrO ops.toList acc
 | .seq c d,acc=>wr c (wr d acc)
 | .cond _ c d,acc=>wr c (wr d acc)
 | .block _ c,acc=>wr c acc
 | .loop c,acc=>wr c acc
 | _,acc=>acc
def b2M:List Nat->List V->List V
 | [],t=>t
 | i::l,t=>b2M l (G5 t i .jk)
def b1r:List (Nat×V)->List V->List V
 | [],t=>t
 | (i,v)::l,t=>b1r l (G5 t i v)
def a8U:List (Nat×O)->List O->List O
 | [],o=>o
 | (k,x)::l,o=>a8U l (B5 o k x)
theorem a5L:∀(l:List (Nat×O)) (o:List O),(a8U l o).length=o.length
 | [],_=>rfl
 | (k,x)::l,o=>by rw[a8U,a5L l,y5,c3N]
def head (c:Code) (s:S) (l:List (Nat×V)) (m:List (Nat×O)):S:=⟨b1r l (b2M (wr c []) s.t),a8U m s.o⟩
def I6:Code->Code
 | .seq c _=>c
 | c=>c
def j0:Code->Code
 | .seq _ c=>c
 | c=>c
section
variable {I0:Nat->Nat->Prop} {X:Nat->Prop} {w0:W0} {I:Nat->Nat->Prop} {g:Nat->Value} {s:S} {a:Act} {w:World}
theorem RelI.reread (h:RelI I0 X w0 I g s a w) {i:Nat} {x:V} (hx:∀v,a.tmps.toList[i]?=some v->AtV I w g v x):RelI I0 X w0 I g ⟨G5 s.t i x,s.o⟩ a w:=by
 refine⟨h.im,h.lt,h.fr,h.kp,h.lo,h.st,h.obj,h.dis,h.out,?_,h.dfr⟩;rw[Q5];refine⟨by rw[c3N];exact h.tmp.1,λj v y hv hy=>?_⟩
 by_cases hji:i=j
 ·subst hji;have hlt:i<s.t.length:=by have:=(c35.1 hy).1;rw[c3N] at this;exact this
  rw[c3V hlt] at hy;cases hy;exact hx v hv
 ·rw[c3O hji] at hy;exact h.tmp.2 j v y hv hy
end
theorem v7.own (s:S) (i e:Nat) (z:Bool) (hi:m5 s.t i=.em):v7 s ⟨G5 s.t i (.own (j6 s.o)),o9 s.o (.row z e [])⟩:=by
 rintro I0 X w0 a w ⟨I,g,h⟩
 have h2:=h.newObj (.row z e []) (.slice none 0 0) ⟨[],by rw[i7];exact World.ownsRow_nil w 0 e _,by simp,s9.nil I w,λb hb=>by rw[i7] at hb;cases hb⟩ (λj b _ _ hb=>by cases hb);refine⟨I,upd g s.o.length (.slice none 0 0),?_⟩;have h3:RelI I0 X w0 I (upd g s.o.length (.slice none 0 0)) ⟨s.t,o9 s.o (.row z e [])⟩ a w:=h2;refine h3.reread λv hv=>?_
 have hs:=K6 hi (by simp);have h4:=h.tmp.2 i v _ hv hs;rw[h4.unem];exact .own _ _ _ _ (by rw[l9,i7];rfl)
theorem v7.weaker (s s':S) (hw:Vm.weak s s') (hl:j6 s.o=j6 s'.o):v7 s s':=λI0 X w0 a w h=>h.weak (by
 obtain⟨I,g,h⟩:=h;have:=h.lo;rw[<-l9,<-hl,l9]
 exact this) (.inr hw)
section
variable {qa:IntKind->Int->Int} {qb:Int->Int->Int} {qc:Int->Int->Int} {qd:Int->Int->Int} {qe:Int->Int->Int} {qf:Int->Int->Int} {qg:BinOp->IntKind->Int->IntKind->Int->Option Int} {qh:Int->Int->Bool} {qi:Int->Int->Bool} {qj:Int->Int->Bool} {qk:Int->Prop->Prop} {ql:List UInt8->List UInt8->Bool} {qm:List UInt8->List UInt8->Bool} {qo:ByteArray->List UInt8} {qp:ByteArray->ByteArray->ByteArray} {qq:ByteArray->ByteArray->Prop->Prop} {qs:ByteArray->Int} {qt:ByteArray->Int->Option Int} {qu:ByteArray->Int->Int->Option ByteArray} {qv:List (List D)->Option ByteArray} {qw:ByteArray->List (List D)} {qx:Int->Nat->Option Nat} {qy:List (List D)->Int} {qz:List (List D)->Int->Option (List D)} {vc:List (List D)->Int->Int->Option (List (List D))} {vd:List (List D)->List (List D)->List (List D)} {ve:List (List D)->Int->List D->List (List D)} {vf:List (List D)->List (List D)->Prop->Prop} {vg:List (R×R)->R->Option R} {vh:List (R×R)->R->R->List (R×R)} {vj:List D->List D->Bool} {vk:Int->List D->(List (List D)->Prop)->Prop} {vl:Nat->List R->(List R->Prop)->Prop} {vp:Nat->List V->List O->(V->Prop)->Prop} {vq:Nat->List V->S->(V->S->Prop)->Prop} {vr:Nat->List V->List Nat->S->(V->S->Prop)->Prop} {vt:Nat->(Bool->Prop)->Prop} {vu:Nat->(Bool->Prop)->Prop} {vv:Nat->(List V->List O->Prop)->List V->S->Prop} {vw:(S->Prop)->S->Prop} {vx:Op->Option Nat->S->(S->Prop)->Prop} {vy:Array Oper->S->(S->Prop)->Prop} {vz:Code->(S->(X->S->Prop)->Prop)->S->(X->S->Prop)->Prop}
theorem l7 (hA:Ar.mk qa qb qc qd qe qf qg qh qi qj qk ql qm qo qp qq qs qt qu qv qw qx qy qz vc vd ve vf vg vh vj vk vl vp vq vr vt vu vv vw vx vy vz=a7) {c:Code} {body:S->(X->S->Prop)->Prop} {s:S} {K:X->S->Prop} {γ:Type} (slots:γ->List (Nat×V)) (objs:γ->List (Nat×O)) (inv:γ->Prop) (μ:γ->Nat) (x0:γ) (h0:inv x0) (hw:weak s (head c s (slots x0) (objs x0)))
  (hr:∀x,inv x->body (head c s (slots x) (objs x)) (λe s'=>a2z (λs2=>∃y,inv y/\μ y<μ x/\weak s2 (head c s (slots y) (objs y))) K e s')):vz c body s K:=by
 have e:vz=a7.loop:=congrArg Ar.loop hA;rw[e];exact .inl ⟨γ,λx=>head c s (slots x) (objs x),inv,μ,λx _=>by rw[l9,l9];exact Nat.le_of_eq (a5L _ _).symm,⟨x0,hw,h0⟩,hr⟩
theorem b6 (hA:Ar.mk qa qb qc qd qe qf qg qh qi qj qk ql qm qo qp qq qs qt qu qv qw qx qy qz vc vd ve vf vg vh vj vk vl vp vq vr vt vu vv vw vx vy vz=a7) {N:S->Prop} {s:S} (h:N s):vw N s:=by
 have e:vw=a7.next:=congrArg Ar.next hA
 rw[e];exact⟨λs2=>s2=s,λ_ _ _ _ _ h=>⟨_,rfl,h⟩,λs2 e=>by subst e;exact h⟩
theorem E3 (hA:Ar.mk qa qb qc qd qe qf qg qh qi qj qk ql qm qo qp qq qs qt qu qv qw qx qy qz vc vd ve vf vg vh vj vk vl vp vq vr vt vu vv vw vx vy vz=a7) {N:S->Prop} {s:S} (s':S) (hg:v7 s s') (h:N s'):vw N s:=by
 have e:vw=a7.next:=congrArg Ar.next hA
 rw[e];exact⟨λs2=>s2=s',λ_ _ _ _ _ hr=>⟨_,rfl,hg _ _ _ _ _ hr⟩,λs2 e=>by subst e;exact h⟩
theorem a79 (hA:Ar.mk qa qb qc qd qe qf qg qh qi qj qk ql qm qo qp qq qs qt qu qv qw qx qy qz vc vd ve vf vg vh vj vk vl vp vq vr vt vu vv vw vx vy vz=a7) {op:Op} {dst:Option Nat} {s:S} {K:S->Prop} (h:a7.ext op dst s K):vx op dst s K:=by
 have e:vx=a7.ext:=congrArg Ar.ext hA;rw[e];exact h
theorem b7v (hA:Ar.mk qa qb qc qd qe qf qg qh qi qj qk ql qm qo qp qq qs qt qu qv qw qx qy qz vc vd ve vf vg vh vj vk vl vp vq vr vt vu vv vw vx vy vz=a7) {N:S->Prop} {s:S} (ks:List Nat) (h:N ⟨s.t,frz ks s.o⟩):vw N s:=E3 hA _ (v7.frz s ks) h
theorem a2g (hA:Ar.mk qa qb qc qd qe qf qg qh qi qj qk ql qm qo qp qq qs qt qu qv qw qx qy qz vc vd ve vf vg vh vj vk vl vp vq vr vt vu vv vw vx vy vz=a7) {N:S->Prop} {s:S} (i e:Nat) (z:Bool) (hi:m5 s.t i=.em) (h:N ⟨G5 s.t i (.own (j6 s.o)),o9 s.o (.row z e [])⟩):vw N s:=E3 hA _ (v7.own s i e z hi) h
theorem c5 (hA:Ar.mk qa qb qc qd qe qf qg qh qi qj qk ql qm qo qp qq qs qt qu qv qw qx qy qz vc vd ve vf vg vh vj vk vl vp vq vr vt vu vv vw vx vy vz=a7) {f:Nat} {vs:List V} {s:S} {rs:List R} {K:V->S->Prop} (q:List R) (h:l6 f rs q) (hr:a0E s.o vs=some rs) (hK:K (a22 q) s):vq f vs s K:=by
 have e:vq=a7.callo:=congrArg Ar.callo hA;rw[e];exact(a6V h hr).mono λx o' ks ⟨e1,e2,e3⟩=>by subst e1;subst e2;subst e3;exact hK
theorem c7 (hA:Ar.mk qa qb qc qd qe qf qg qh qi qj qk ql qm qo qp qq qs qt qu qv qw qx qy qz vc vd ve vf vg vh vj vk vl vp vq vr vt vu vv vw vx vy vz=a7) {f:Nat} {rs:List R} {K:List R->Prop} (q:List R) (h:l6 f rs q) (hK:K q):vl f rs K:=by
 have e:vl=a7.call:=congrArg Ar.call hA;rw[e];exact⟨q,h,hK⟩
theorem d7 (hA:Ar.mk qa qb qc qd qe qf qg qh qi qj qk ql qm qo qp qq qs qt qu qv qw qx qy qz vc vd ve vf vg vh vj vk vl vp vq vr vt vu vv vw vx vy vz=a7) {f:Nat} {vs:List V} {s:S} {K:V->S->Prop} (ks:List Nat) {vs':List V} {os':List O} {Q:List V->List O->Prop} (h:o5 f vs' os' Q) (hs:SubOk ks vs' os' vs s) (hK:∀res os2,Q res os2->K (a29 (upT ks (j6 s.o) res)) (a1q ks os2 s)):vq f vs s K:=by
 have e:vq=a7.callo:=congrArg Ar.callo hA;rw[e];exact(b0T h hs).mono λx o' ks' ⟨e1,res,os2,hQ,e2,e3⟩=>by subst e1;subst e2;subst e3;exact hK res os2 hQ
theorem F7 (hA:Ar.mk qa qb qc qd qe qf qg qh qi qj qk ql qm qo qp qq qs qt qu qv qw qx qy qz vc vd ve vf vg vh vj vk vl vp vq vr vt vu vv vw vx vy vz=a7) {f:Nat} {vs:List V} {s:S} {K:V->S->Prop} (ks:List Nat) {vs':List V} {os':List O} {Q:List V->List O->Prop} (h:a0Z f vs' os' Q) (hs:SubOk ks vs' os' vs s) (hK:∀res os2,Q res os2->K (a29 (upT ks (j6 s.o) res)) ⟨s.t,J8 ks (a0F ks (j6 s.o) os2) s.o⟩):vq f vs s K:=by
 have e:vq=a7.callo:=congrArg Ar.callo hA;rw[e];exact(b0S h hs).mono λx o' ks' ⟨e1,res,os2,hQ,e2,e3⟩=>by subst e1;subst e2;subst e3;exact hK res os2 hQ
theorem i6 (hA:Ar.mk qa qb qc qd qe qf qg qh qi qj qk ql qm qo qp qq qs qt qu qv qw qx qy qz vc vd ve vf vg vh vj vk vl vp vq vr vt vu vv vw vx vy vz=a7) {n:Nat} {Q:List V->List O->Prop} {res:List V} {s:S} (ks:List Nat) {res':List V} {os':List O} (h:KeepOk n ks res' os' res s) (hQ:Q res' os'):vv n Q res s:=by
 have e:vv=a7.keep:=congrArg Ar.keep hA;rw[e];exact⟨ks,res',os',h,hQ⟩
theorem b7w (hA:Ar.mk qa qb qc qd qe qf qg qh qi qj qk ql qm qo qp qq qs qt qu qv qw qx qy qz vc vd ve vf vg vh vj vk vl vp vq vr vt vu vv vw vx vy vz=a7) {e:Nat} {K:Bool->Prop} (z:Bool) (h:K z):vt e K:=by
 have e1:vt=a7.new:=congrArg Ar.new hA;rw[e1];exact⟨z,h⟩
theorem z6 (hA:Ar.mk qa qb qc qd qe qf qg qh qi qj qk ql qm qo qp qq qs qt qu qv qw qx qy qz vc vd ve vf vg vh vj vk vl vp vq vr vt vu vv vw vx vy vz=a7) {t:Nat} {K:Bool->Prop} (c:Bool) (h:K c):vu t K:=by
 have e:vu=a7.lit:=congrArg Ar.lit hA;rw[e];exact⟨c,h⟩
theorem j3 (hA:Ar.mk qa qb qc qd qe qf qg qh qi qj qk ql qm qo qp qq qs qt qu qv qw qx qy qz vc vd ve vf vg vh vj vk vl vp vq vr vt vu vv vw vx vy vz=a7):(∀k n,qa k n=k.wrap n)/\(∀x y,qb x y=x+y)/\(∀x y,qc x y=x - y)/\(∀x y,qd x y=x * y)/\(∀x y,qe x y=x.tdiv y)/\(∀x y,qf x y=x.tmod y)/\(∀x y,qh x y=decide (x<y))/\(∀x y,qi x y=decide (x<=y))/\(∀x y,qj x y=(x == y)):=by
 first|(injection hA;subst_vars)|subst hA
 exact⟨λ_ _=>rfl,λ_ _=>rfl,λ_ _=>rfl,λ_ _=>rfl,λ_ _=>rfl,λ_ _=>rfl,λ_ _=>rfl,λ_ _=>rfl,λ_ _=>rfl⟩
theorem a33 (hA:Ar.mk qa qb qc qd qe qf qg qh qi qj qk ql qm qo qp qq qs qt qu qv qw qx qy qz vc vd ve vf vg vh vj vk vl vp vq vr vt vu vv vw vx vy vz=a7):∀op k x k' y,qg op k x k' y=a6I op k x k' y:=by
 first|(injection hA;subst_vars)|subst hA
 exact λ_ _ _ _ _=>rfl
theorem nc (n:Nat):@NatCast.natCast Int instNatCastInt n=(n:Int):=rfl
theorem a6B (n:Int):a6I .shr .u64 n .u64 1=some (n / 2):=by
 show some (n.fdiv (2 ^ (min 1 64)))=some (n / 2);rw[show (2:Int) ^ (min 1 64)=2 from rfl,Int.fdiv_eq_ediv_of_nonneg _ (by omega)]
theorem w7 (hA:Ar.mk qa qb qc qd qe qf qg qh qi qj qk ql qm qo qp qq qs qt qu qv qw qx qy qz vc vd ve vf vg vh vj vk vl vp vq vr vt vu vv vw vx vy vz=a7):(∀x y,ql x y=(x == y))/\(∀x y,qm x y=Op.bytesLess x y)/\(∀b,qo b=b.toList)/\(∀x y,qp x y=x++y)/\(∀b,qs b=(b.size:Int))/\(∀b n,qt b n=a7.sget b n)/\(∀b l h,qu b l h=a7.ssub b l h):=by
 first|(injection hA;subst_vars)|subst hA
 exact⟨λ_ _=>rfl,λ_ _=>rfl,λ_=>rfl,λ_ _=>rfl,λ_=>rfl,λ_ _=>rfl,λ_ _ _=>rfl⟩
theorem b9z (hA:Ar.mk qa qb qc qd qe qf qg qh qi qj qk ql qm qo qp qq qs qt qu qv qw qx qy qz vc vd ve vf vg vh vj vk vl vp vq vr vt vu vv vw vx vy vz=a7):(∀r,qv r=a64 r)/\(∀s,qw s=a6J s):=by
 first|(injection hA;subst_vars)|subst hA
 exact⟨λ_=>rfl,λ_=>rfl⟩
theorem m8 (hA:Ar.mk qa qb qc qd qe qf qg qh qi qj qk ql qm qo qp qq qs qt qu qv qw qx qy qz vc vd ve vf vg vh vj vk vl vp vq vr vt vu vv vw vx vy vz=a7):(∀r,qy r=(r.length:Int))/\(∀r n,qz r n=if 0<=n then r[n.toNat]? else none)/\(∀r l h,vc r l h=a7.sub2 r l h)/\(∀x y,vd x y=x++y):=by
 first|(injection hA;subst_vars)|subst hA
 exact⟨λ_=>rfl,λ_ _=>rfl,λ_ _ _=>rfl,λ_ _=>rfl⟩
theorem N6 (hA:Ar.mk qa qb qc qd qe qf qg qh qi qj qk ql qm qo qp qq qs qt qu qv qw qx qy qz vc vd ve vf vg vh vj vk vl vp vq vr vt vu vv vw vx vy vz=a7):(∀es r,vg es r=a11 es r)/\(∀es r q,vh es r q=a05 es r q)/\(∀i n,qx i n=a7.nat i n)/\∀rows i y,ve rows i y=rows.set i.toNat y:=by
 first|(injection hA;subst_vars)|subst hA
 exact⟨λ_ _=>rfl,λ_ _ _=>rfl,λ_ _=>rfl,λ_ _ _=>rfl⟩
theorem c01 (hA:Ar.mk qa qb qc qd qe qf qg qh qi qj qk ql qm qo qp qq qs qt qu qv qw qx qy qz vc vd ve vf vg vh vj vk vl vp vq vr vt vu vv vw vx vy vz=a7) {x:Int} {k:Prop} (h:x≠0) (hk:k):qk x k:=by
 have e:qk=a7.nz:=congrArg Ar.nz hA;rw[e];exact⟨h,hk⟩
theorem A6 (hA:Ar.mk qa qb qc qd qe qf qg qh qi qj qk ql qm qo qp qq qs qt qu qv qw qx qy qz vc vd ve vf vg vh vj vk vl vp vq vr vt vu vv vw vx vy vz=a7) {x y:ByteArray} {k:Prop} (h:x.size+y.size<=4611686018427387904) (hk:k):qq x y k:=by
 have e:qq=a7.fits:=congrArg Ar.fits hA;rw[e];exact⟨h,hk⟩
theorem w8 (hA:Ar.mk qa qb qc qd qe qf qg qh qi qj qk ql qm qo qp qq qs qt qu qv qw qx qy qz vc vd ve vf vg vh vj vk vl vp vq vr vt vu vv vw vx vy vz=a7) {x y:List (List D)} {k:Prop} (h:x.length+y.length<=137438953472) (hk:k):vf x y k:=by
 have e:vf=a7.room:=congrArg Ar.room hA;rw[e];exact⟨h,hk⟩
theorem b7x (hA:Ar.mk qa qb qc qd qe qf qg qh qi qj qk ql qm qo qp qq qs qt qu qv qw qx qy qz vc vd ve vf vg vh vj vk vl vp vq vr vt vu vv vw vx vy vz=a7) {f:Nat} {fn:Func} {c:Code} {vs:List V} {s:S} {K:V->S->Prop} (hf:Tryd.prog.funcs[f]?=some fn) (hb:fn.body=some c) (hn:(fn.name != "runtime.NumGoroutine")=true) (hc:r8 Tryd.prog c=true) (hr:P5 fn.results.toList=true)
  (h:x5 (Ar.mk qa qb qc qd qe qf qg qh qi qj qk ql qm qo qp qq qs qt qu qv qw qx qy qz vc vd ve vf vg vh vj vk vl vp vq vr vt vu vv vw vx vy vz) c (N5 vs s.o (fn.ntmps - n7 vs)) (λx s2=>a4Q (Ar.mk qa qb qc qd qe qf qg qh qi qj qk ql qm qo qp qq qs qt qu qv qw qx qy qz vc vd ve vf vg vh vj vk vl vp vq vr vt vu vv vw vx vy vz) (j6 s.o) (λv o' ks=>K v ⟨A7 ks s.t,o'⟩) fn.results.toList x s2)):vq f vs s K:=by
 have e:vq=a7.callo:=congrArg Ar.callo hA;rw[hA] at h;rw[e];exact b2J hf hb hn hc hr h
end
end
theorem gn {P Q:Prop} (hq:Q) (h:Q->P:=by
  intro hq
  try cbv
  repeat ((with_reducible apply b6 hA);cbv)
  exact hq):P:=h hq
theorem gr {P Q:Prop} (hq:Q) (h:Q->P:=by
  intro hq
  iterate 2 (try cbv;repeat ((first|with_reducible apply b6 hA|rw[q0]|rw[q1]|rw[q2]|rw[q3]|rw[q4]|rw[q5]|rw[q6]|rw[q7]|rw[q8]|rw[q9]|rw[p0]|rw[p1]|rw[p2]|rw[p3]|rw[p4]|rw[p5]|rw[p6]|rw[p7]|rw[p8]|rw[p9]|rw[g0]|rw[g1]|rw[g2]|rw[g3]|rw[g4]|rw[g5]|rw[g6]|rw[g7]|rw[g8]|rw[g9]|rw[t0]|rw[t1]|rw[t2]|rw[t3]|rw[t4]|rw[t5]|rw[t6]|rw[t7]|rw[t8]|rw[t9]|rw[u0]|rw[u1]|rw[u2]|rw[u3]|rw[u4]|rw[u5]|rw[u6]|rw[u7]|rw[u8]|rw[u9]|refine c5 hA _ h0 rfl ?_|refine c7 hA _ h0 ?_|refine c5 hA _ h1 rfl ?_|refine c7 hA _ h1 ?_|refine c5 hA _ h2 rfl ?_|refine c7 hA _ h2 ?_|refine c5 hA _ h3 rfl ?_|refine c7 hA _ h3 ?_|refine c5 hA _ h4 rfl ?_|refine c7 hA _ h4 ?_|refine c5 hA _ c0 rfl ?_|refine c7 hA _ c0 ?_|refine c5 hA _ c1 rfl ?_|refine c7 hA _ c1 ?_|refine c5 hA _ c2 rfl ?_|refine c7 hA _ c2 ?_|refine c5 hA _ d0 rfl ?_|refine c7 hA _ d0 ?_|refine c5 hA _ k0 rfl ?_|refine c7 hA _ k0 ?_|refine c5 hA _ k1 rfl ?_|refine c7 hA _ k1 ?_|refine c5 hA _ k2 rfl ?_|refine c7 hA _ k2 ?_|refine c5 hA _ k3 rfl ?_|refine c7 hA _ k3 ?_|refine c5 hA _ hd rfl ?_|refine c7 hA _ hd ?_|refine c5 hA _ hc rfl ?_|refine c7 hA _ hc ?_|refine c5 hA _ hr rfl ?_|refine c7 hA _ hr ?_|refine c5 hA _ hT rfl ?_|refine c7 hA _ hT ?_|refine c5 hA _ kO rfl ?_|refine c7 hA _ kO ?_|refine z6 hA true ?_|refine w8 hA (by first|(simp only[c3C,c3H];omega)|omega) ?_);cbv))
  exact hq):P:=h hq
theorem fr {P:Prop} (h:P:=by
  iterate 2 (try cbv;repeat ((first|with_reducible apply b6 hA|rw[q0]|rw[q1]|rw[q2]|rw[q3]|rw[q4]|rw[q5]|rw[q6]|rw[q7]|rw[q8]|rw[q9]|rw[p0]|rw[p1]|rw[p2]|rw[p3]|rw[p4]|rw[p5]|rw[p6]|rw[p7]|rw[p8]|rw[p9]|rw[g0]|rw[g1]|rw[g2]|rw[g3]|rw[g4]|rw[g5]|rw[g6]|rw[g7]|rw[g8]|rw[g9]|rw[t0]|rw[t1]|rw[t2]|rw[t3]|rw[t4]|rw[t5]|rw[t6]|rw[t7]|rw[t8]|rw[t9]|rw[u0]|rw[u1]|rw[u2]|rw[u3]|rw[u4]|rw[u5]|rw[u6]|rw[u7]|rw[u8]|rw[u9]|refine c5 hA _ h0 rfl ?_|refine c7 hA _ h0 ?_|refine c5 hA _ h1 rfl ?_|refine c7 hA _ h1 ?_|refine c5 hA _ h2 rfl ?_|refine c7 hA _ h2 ?_|refine c5 hA _ h3 rfl ?_|refine c7 hA _ h3 ?_|refine c5 hA _ h4 rfl ?_|refine c7 hA _ h4 ?_|refine c5 hA _ c0 rfl ?_|refine c7 hA _ c0 ?_|refine c5 hA _ c1 rfl ?_|refine c7 hA _ c1 ?_|refine c5 hA _ c2 rfl ?_|refine c7 hA _ c2 ?_|refine c5 hA _ d0 rfl ?_|refine c7 hA _ d0 ?_|refine c5 hA _ k0 rfl ?_|refine c7 hA _ k0 ?_|refine c5 hA _ k1 rfl ?_|refine c7 hA _ k1 ?_|refine c5 hA _ k2 rfl ?_|refine c7 hA _ k2 ?_|refine c5 hA _ k3 rfl ?_|refine c7 hA _ k3 ?_|refine c5 hA _ hd rfl ?_|refine c7 hA _ hd ?_|refine c5 hA _ hc rfl ?_|refine c7 hA _ hc ?_|refine c5 hA _ hr rfl ?_|refine c7 hA _ hr ?_|refine c5 hA _ hT rfl ?_|refine c7 hA _ hT ?_|refine c5 hA _ kO rfl ?_|refine c7 hA _ kO ?_|refine z6 hA true ?_|refine w8 hA (by first|(simp only[c3C,c3H];omega)|omega) ?_);cbv))):P:=h
end Go.Proofs.YtlofmibkljoapaaDoor.Vm
end
section
namespace Go.Proofs.YtlofmibkljoapaaDoor
open Go.RowKit
set_option maxRecDepth 100000
set_option maxHeartbeats 4000000
def a7A (c:Int):Int:=if c<128 then 1 else if 192<=c/\c<224 then 2 else if 224<=c/\c<240 then 3 else if 240<=c/\c<248 then 4 else 0
def isB (r:Int):Bool:=decide (0<=r) && (decide (r<=1114111) && (decide (r<55296) || decide (57343<r)))
def c2r (r:Int):Int:=if r<128 then 1 else if r<2048 then 2 else if r<65536 then 3 else 4
def b2N (n c:Int):Int:=if n=1 then c else if n=2 then c % 32 else if n=3 then c % 16 else c % 8
def b90 (l:List Int) (m:Int):Nat->Int
 | 0=>m
 | k+1=>b90 l m k * 64+gb l (k+1) % 64
def c02 (l:List Int):Nat->Bool
 | 0=>true
 | k+1=>c02 l k && decide (gb l (k+1) / 64=2)
def c03 (l:List Int):Int×Int :=
 if a7A (gb l 0)=0\/(l.length:Int)<a7A (gb l 0) then (0,0) else
 if c02 l ((a7A (gb l 0)).toNat - 1)=true/\isB (b90 l (b2N (a7A (gb l 0)) (gb l 0)) ((a7A (gb l 0)).toNat - 1))=true/\c2r (b90 l (b2N (a7A (gb l 0)) (gb l 0)) ((a7A (gb l 0)).toNat - 1))=a7A (gb l 0)
 then (b90 l (b2N (a7A (gb l 0)) (gb l 0)) ((a7A (gb l 0)).toNat - 1),a7A (gb l 0)) else (0,0)

def V (l:List Int):Nat->Prop
 | 1=>gb l 0<128
 | 2=>192<=gb l 0/\gb l 0<224/\128<=gb l 1/\gb l 1<192/\128<=(gb l 0 - 192) * 64+(gb l 1 - 128)
 | 3=>224<=gb l 0/\gb l 0<240/\128<=gb l 1/\gb l 1<192/\128<=gb l 2/\gb l 2<192/\2048<=(gb l 0 - 224) * 4096+(gb l 1 - 128) * 64+(gb l 2 - 128) /\
   ((gb l 0 - 224) * 4096+(gb l 1 - 128) * 64+(gb l 2 - 128)<55296\/57343<(gb l 0 - 224) * 4096+(gb l 1 - 128) * 64+(gb l 2 - 128))
 | 4=>240<=gb l 0/\gb l 0<248/\128<=gb l 1/\gb l 1<192/\128<=gb l 2/\gb l 2<192/\128<=gb l 3/\gb l 3<192 /\
   65536<=(gb l 0 - 240) * 262144+(gb l 1 - 128) * 4096+(gb l 2 - 128) * 64+(gb l 3 - 128)/\(gb l 0 - 240) * 262144+(gb l 1 - 128) * 4096+(gb l 2 - 128) * 64+(gb l 3 - 128)<=1114111
 | _=>False
def nx (l:List Int) (a:Nat):Nat:=(c03 (l.drop a)).2.toNat
def rn (l:List Int) (a:Nat):Int:=(c03 (l.drop a)).1
def T1 (c:Int):Bool:=decide (97<=c) && decide (c<=122)
def a4l (c:Int):Bool:=decide (65<=c) && decide (c<=90)
def N7 (c:Int):Bool:=decide (48<=c) && decide (c<=57)
def c04 (c:Int):Bool:=T1 c || (a4l c || (N7 c || c == 95))
theorem a8V (c:Int):T1 c=true↔97<=c/\c<=122:=by unfold T1;simp
theorem b5H (c:Int):a4l c=true↔65<=c/\c<=90:=by unfold a4l;simp
theorem b5I (c:Int):N7 c=true↔48<=c/\c<=57:=by unfold N7;simp
def a4R (c:Int):Int:=if T1 c then 1 else if a4l c then 2 else if N7 c then 3 else if c=95 then 4 else 0
def a7B (s:ByteArray):List Int:=s.data.toList.map λb=>(b.toNat:Int)
def c3b (l:List Int) (i:Nat):Bool:=T1 (gb l i) || (decide (0<i) && (N7 (gb l i) || gb l i == 95))
def b91 (l:List Int):Bool:=decide (0<l.length) && (List.range l.length).all (c3b l)
def c1g:List Int->Int->Int
 | [],n=>n
 | c::l,n=>c1g l (10 * n+(c - 48))
section
def K5:List ByteArray:=[⟨#[102,117,110]⟩,⟨#[114,101,99]⟩,⟨#[108,101,116]⟩,⟨#[105,110]⟩,⟨#[105,102]⟩,⟨#[116,104,101,110]⟩,⟨#[101,108,115,101]⟩,⟨#[99,97,115,101]⟩,⟨#[111,102]⟩,⟨#[101,110,100]⟩,⟨#[116,114,117,101]⟩,⟨#[102,97,108,115,101]⟩,⟨#[100,101,102]⟩,⟨#[73,110,116]⟩,⟨#[66,111,111,108]⟩]
def b7y:List ByteArray:=[⟨#[61,61]⟩,⟨#[61,62]⟩,⟨#[58,61]⟩,⟨#[45,62]⟩,⟨#[40]⟩,⟨#[41]⟩,⟨#[123]⟩,⟨#[125]⟩,⟨#[60]⟩,⟨#[62]⟩,⟨#[61]⟩,⟨#[44]⟩,⟨#[58]⟩,⟨#[59]⟩,⟨#[124]⟩,⟨#[46]⟩,⟨#[92]⟩,⟨#[64]⟩,⟨#[94]⟩,⟨#[63]⟩,⟨#[43]⟩,⟨#[45]⟩,⟨#[42]⟩,⟨#[47]⟩,⟨#[37]⟩]
def c3c:List Int:=[40,41,123,125,60,62,61,44,58,59,124,46,92,64,94,63,43,45,42,47,37]
def inB (ws:List ByteArray) (s:ByteArray):Bool:=ws.any λw=>w.toList == s.toList
def a81 (s:ByteArray):Bool:=inB K5 s
def c3d (a b:Int):Bool:=(a == 61 && b == 61) || ((a == 61 && b == 62) || ((a == 58 && b == 61) || (a == 45 && b == 62)))
def b70 (l:List Int):Nat:=if 2<=l.length/\c3d (gb l 0) (gb l 1)=true then 2 else if gb l 0∈c3c then 1 else 0
structure Tok where
 kind:Int
 text:ByteArray
 n:Int
 at_:Int
def Tok.cells (t:Tok):List Value:=[.int .u8 t.kind,.string t.text,.int .i64 t.n,.int .i64 t.at_]
def C3 (l:List Int):Int×Int :=
 if (gb l 0=48/\1<l.length)\/¬(l.all N7=true) then (0,4) else if 9223372036854775807<c1g l 0 then (0,7) else (c1g l 0,0)
def c1h (s:ByteArray) (at_:Int):Tok×Int :=
 if N7 (gb (a7B s) 0)=true then (⟨2,⟨#[]⟩,(C3 (a7B s)).1,at_⟩,(C3 (a7B s)).2) else
 if a81 s=true then (⟨3,s,0,at_⟩,0) else if b91 (a7B s)=false then (⟨1,s,0,at_⟩,4) else
 if 32<(a7B s).length then (⟨1,s,0,at_⟩,7) else (⟨1,s,0,at_⟩,0)
def c1i (c:Int):Bool:=c == 32 || (c == 9 || (c == 13 || c == 10))
def b4t (l:List Int) (a:Nat):List Int:=(l.drop a).takeWhile c04
def body (rec_:Nat->Bool->List Tok->List Tok×Int×Int) (l:List Int) (a:Nat) (rem:Bool) (out:List Tok):List Tok×Int×Int :=
 if a<l.length then
  if nx l a=0 then ([],a,3)
  else if rem=true then rec_ (a+nx l a) (gb l a != 10) out
  else if c1i (gb l a)=true then rec_ (a+1) false out
  else if gb l a=35 then rec_ (a+1) true out
  else if c04 (gb l a)=true then
   if (c1h (strOfNums (b4t l a)) a).2=0 then rec_ (a+(b4t l a).length) false (out++[(c1h (strOfNums (b4t l a)) a).1]) else ([],a,(c1h (strOfNums (b4t l a)) a).2)
  else if b70 (l.drop a)=0 then ([],a,4)
  else rec_ (a+b70 (l.drop a)) false (out++[⟨3,strOfNums ((l.drop a).take (b70 (l.drop a))),0,a⟩])
 else (out++[⟨4,⟨#[]⟩,0,l.length⟩],0,0)
section
variable {l:List Int} {a:Nat} {rem:Bool} {out:List Tok}
end
end
inductive Ty where
 | mk (op:Int) (name:ByteArray) (n:Int) (kids:List Ty)
def Ty.op:Ty->Int|.mk op _ _ _=>op
def Ty.name:Ty->ByteArray|.mk _ nm _ _=>nm
def Ty.n:Ty->Int|.mk _ _ n _=>n
def Ty.kids:Ty->List Ty|.mk _ _ _ ks=>ks
theorem Ty.eta:∀t:Ty,t=.mk t.op t.name t.n t.kids|.mk _ _ _ _=>rfl
def a9T:Ty:=.mk 0 ⟨#[]⟩ 0 []
theorem Ty.sizeOf_kid {t x:Ty} (h:x∈t.kids):SizeOf.sizeOf x<SizeOf.sizeOf t:=by
 obtain⟨op,nm,n,ks⟩:=t;have:=List.sizeOf_lt_of_mem h;simp only[Ty.kids] at this;simp only[Ty.mk.sizeOf_spec];omega
theorem Ty.ind {P:Ty->Prop} (h:∀t,(∀x∈t.kids,P x)->P t) (t:Ty):P t:=h t λx _hx=>Ty.ind h x
termination_by SizeOf.sizeOf t
decreasing_by exact Ty.sizeOf_kid _hx
mutual
def Ty.parts:Ty->List Ty
 | .mk op nm n ks=>.mk op nm n ks::o8 ks
def o8:List Ty->List Ty
 | []=>[]
 | t::ts=>t.parts++o8 ts
end
theorem r7 (t:Ty):t.parts=t::o8 t.kids:=by
 obtain⟨op,nm,n,ks⟩:=t;rw[Ty.parts];rfl
theorem U3:∀ts:List Ty,o8 ts=ts.flatMap Ty.parts
 | []=>by rw[o8];rfl
 | t::ts=>by rw[o8,U3 ts];rfl
theorem d9 (t:Ty):t.parts=t::t.kids.flatMap Ty.parts:=by rw[r7,U3]
theorem b1s (ts:List Ty) (i:Nat) (t:Ty) (h:ts[i]?=some t):t.parts=t.parts/\(ts.take (i+1)).flatMap Ty.parts=(ts.take i).flatMap Ty.parts++t.parts:=by
 obtain⟨hi,e⟩:=c35.1 h;refine⟨rfl,?_⟩;rw[c5p hi,e]
 simp
theorem j5 (t:Ty):1<=t.parts.length:=by rw[r7];simp
theorem a3T:∀(ts:List Ty),ts.length<=(ts.flatMap Ty.parts).length/\∀x∈ts,x.parts.length<=(ts.flatMap Ty.parts).length
 | []=>by simp
 | u::us=>by
  have ih:=a3T us;have:=j5 u;simp only[c4H,c37,c3C];refine⟨by omega,λx hx=>?_⟩
  rcases c3F.1 hx with rfl|hx
  ·omega
  ·have:=ih.2 x hx;omega
theorem m9 (t:Ty):t.kids.length<t.parts.length/\∀x∈t.kids,x.parts.length<t.parts.length:=by
 rw[d9,c3C];have:=a3T t.kids;exact⟨by omega,λx hx=>by have:=this.2 x hx;omega⟩
def y6 (op:Int):Option (List Int) :=
 if op=1\/op=2\/op=3\/op=7\/op=8\/op=9\/op=10 then some [] else if op=4 then some [116,116] else if op=5\/op=6 then some [114] else if op=11 then some [116,114] else none
def a2V (isWord:ByteArray->Bool) (t:Ty) (s:Int):Bool :=
 match y6 t.op with
 | none=>false
 | some k=>(decide (8<=t.op) == (s == 114)) && (decide (t.kids.length=k.length) && ((if t.op=11 then isWord t.name else decide (t.name.toList=[])) && (decide (0<=t.n) && (decide (t.op=7\/t.op=10) || decide (t.n=0)))))
mutual
def c8 (isWord:ByteArray->Bool):Ty->Int->Bool
 | .mk op nm n ks,s=>a2V isWord (.mk op nm n ks) s && n6 isWord ks ((y6 op).getD [])
def n6 (isWord:ByteArray->Bool):List Ty->List Int->Bool
 | [],_=>true
 | t::ts,k::ks=>c8 isWord t k && n6 isWord ts ks
 | _::_,[]=>false
end
theorem a2W (iw:ByteArray->Bool) (t:Ty) (s:Int):c8 iw t s=(a2V iw t s && n6 iw t.kids ((y6 t.op).getD [])):=by
 obtain⟨op,nm,n,ks⟩:=t;rw[c8];rfl
mutual
def L4:Ty->Ty->Bool
 | .mk o m n ks,.mk o' m' n' ks'=>(o == o') && ((m.toList == m'.toList) && ((n == n') && C5 ks ks'))
def C5:List Ty->List Ty->Bool
 | [],[]=>true
 | t::ts,u::us=>L4 t u && C5 ts us
 | _,_=>false
end
theorem a0J {a b:ByteArray}:a.toList=b.toList↔a=b:=by
 constructor
 ·intro h;rw[ByteArray.toList_eq,ByteArray.toList_eq] at h
  apply c5q
  exact Array.toList_inj.1 h
 ·rintro rfl;rfl
mutual
theorem a5M:∀a b:Ty,L4 a b=true↔a=b
 | .mk o m n ks,.mk o' m' n' ks'=>by
  rw[L4];simp only[c3D,c4v,Ty.mk.injEq,a7C ks ks',a0J]
theorem a7C:∀a b:List Ty,C5 a b=true↔a=b
 | [],[]=>by rw[C5];simp
 | t::ts,u::us=>by
  rw[C5];simp only[c3D,List.cons.injEq,a5M t u,a7C ts us]
 | [],_::_=>by simp[C5]
 | _::_,[]=>by simp[C5]
end
def F8 (x y:Ty):Bool:=(x.op == 7) && ((y.op == 10) && (x.n == y.n))
def P6 (t:Ty):Bool:=t.parts.all λx=>t.parts.all λy=>!F8 x y
end Go.Proofs.YtlofmibkljoapaaDoor
end
section
namespace Go.Proofs.YtlofmibkljoapaaDoor.Vm
open Go.RowKit
set_option maxRecDepth 100000
set_option maxHeartbeats 4000000
theorem a4S {t:Ty} {x y:Ty} (hx:x∈t.parts) (hy:y∈t.parts) (h:F8 x y=true):P6 t=false:=by
 unfold P6;rw[List.all_eq_false];refine⟨x,hx,?_⟩
 have:(t.parts.all λy=>!F8 x y)=false:=by
  rw[List.all_eq_false];exact⟨y,hy,by rw[h];decide⟩
 rw[this]
 decide
theorem a2X {t:Ty} (h:∀x∈t.parts,∀y∈t.parts,F8 x y=false):P6 t=true:=by
 unfold P6;rw[c4g];intro x hx;rw[c4g];intro y hy;rw[h x hx y hy];rfl
def vbl (t:Ty):Option (Int×Bool):=if t.op=7 then some (t.n,false) else if t.op=10 then some (t.n,true) else none
def a7D {α:Type} (s:Int->Option α) (n:Int) (r:α):Int->Option α:=λx=>if x=n then some r else s x
def F9:List Ty->(Int->Option Bool)->Option (Int->Option Bool)
 | [],s=>some s
 | t::ts,s=>match vbl t with
  | none=>F9 ts s
  | some p=>if s p.1=some (!p.2) then none else F9 ts (a7D s p.1 p.2)
theorem a2Y:∀(a b:List Ty) (s:Int->Option Bool),F9 (a++b) s=(F9 a s).bind (F9 b)
 | [],b,s=>rfl
 | t::ts,b,s=>by
  rw[c4r,F9,F9];cases vbl t with
  | none=>exact a2Y ts b s
  | some p =>
   simp only
   split
   ·rfl
   ·exact a2Y ts b _
theorem a9U:∀(ts:List Ty) (s:Int->Option Bool),(F9 ts s).isSome=true↔(∀x∈ts,∀p,vbl x=some p->s p.1≠some (!p.2))/\∀x∈ts,∀y∈ts,∀p q,vbl x=some p->vbl y=some q->p.1=q.1->p.2=q.2
 | [],s=>by simp[F9]
 | t::ts,s=>by
  rw[F9];cases hv:vbl t with
  | none =>
   simp only;rw[a9U ts s]
   constructor
   ·rintro ⟨h1,h2⟩
    refine⟨λx hx p hp=>?_,λx hx y hy p q hp hq e=>?_⟩
    ·rcases c3F.1 hx with rfl|hx
     ·rw[hv] at hp;cases hp
     ·exact h1 x hx p hp
    ·rcases c3F.1 hx with rfl|hx
     ·rw[hv] at hp;cases hp
     ·rcases c3F.1 hy with rfl|hy
      ·rw[hv] at hq;cases hq
      ·exact h2 x hx y hy p q hp hq e
   ·rintro ⟨h1,h2⟩
    exact⟨λx hx=>h1 x (c36 _ hx),λx hx y hy=>h2 x (c36 _ hx) y (c36 _ hy)⟩
  | some p =>
   obtain⟨n,r⟩:=p;simp only
   by_cases hs:s n=some (!r)
   ·rw[c3E hs]
    constructor
    ·intro h;cases h
    ·rintro ⟨h1,_⟩
     exact absurd hs (h1 t (c38 ..) _ hv)
   ·rw[c3G hs,a9U ts]
    constructor
    ·rintro ⟨h1,h2⟩
     have h3:∀x∈ts,∀p,vbl x=some p->p.1=n->p.2=r:=λx hx p hp e=>by
      have:=h1 x hx p hp;unfold a7D at this;rw[c3E e] at this;cases r <;> cases hp2:p.2 <;> simp_all
     refine⟨λx hx p hp=>?_,λx hx y hy p q hp hq e=>?_⟩
     ·rcases c3F.1 hx with rfl|hx
      ·rw[hv] at hp;cases hp;exact hs
      ·by_cases e:p.1=n
       ·rw[h3 x hx p hp e,e];exact hs
       ·have:=h1 x hx p hp;unfold a7D at this;rw[c3G e] at this;exact this
     ·rcases c3F.1 hx with rfl|hx
      ·rw[hv] at hp;cases hp
       rcases c3F.1 hy with rfl|hy
       ·rw[hv] at hq;cases hq;rfl
       ·exact(h3 y hy q hq e.symm).symm
      ·rcases c3F.1 hy with rfl|hy
       ·rw[hv] at hq;cases hq;exact h3 x (by assumption) p hp e
       ·exact h2 x (by assumption) y hy p q hp hq e
    ·rintro ⟨h1,h2⟩
     refine⟨λx hx p hp=>?_,λx hx y hy=>h2 x (c36 _ hx) y (c36 _ hy)⟩;unfold a7D
     by_cases e:p.1=n
     ·rw[c3E e,<-h2 t (c38 ..) x (c36 _ hx) (n,r) p hv hp e.symm];cases r <;> simp
     ·rw[c3G e];exact h1 x (c36 _ hx) p hp
theorem b5J (t:Ty):(F9 t.parts λ_=>none).isSome=P6 t:=by
 rw[c58,a9U]
 constructor
 ·rintro ⟨_,h⟩
  refine a2X λx hx y hy=>?_
  cases hc:F8 x y with
  | false=>rfl
  | true =>
   unfold F8 at hc;simp only[c3D,c4v] at hc;have:=h x hx y hy (x.n,false) (y.n,true) (by unfold vbl;rw[c3E hc.1]) (by unfold vbl;rw[c3G (by rw[hc.2.1];decide),c3E hc.2.1]) hc.2.2;cases this
 ·intro h;refine⟨by simp,λx hx y hy p q hp hq e=>?_⟩;unfold P6 at h;rw[c4g] at h;have hxy:=h x hx;have hyx:=h y hy;rw[c4g] at hxy hyx;have h1:=hxy y hy;have h2:=hyx x hx;unfold F8 at h1 h2;unfold vbl at hp hq
  split at hp
  ·rename_i ex;cases hp
   split at hq
   ·cases hq;rfl
   ·split at hq
    ·rename_i ey;cases hq;simp only at e
     simp[ex,ey,e] at h1
    ·cases hq
  ·split at hp
   ·rename_i ex;cases hp
    split at hq
    ·rename_i ey;cases hq;simp only at e
     simp[ex,ey,e] at h2
    ·split at hq
     ·cases hq;rfl
     ·cases hq
   ·cases hp
def rS (ss:List ByteArray):List (List D):=ss.map λs=>[.sc (.string s)]
theorem c1j (ss:List ByteArray):(rS ss).length=ss.length:=by rw[rS,c4h]
theorem c1k {ss:List ByteArray} {k:Nat} {x:ByteArray} (h:ss[k]?=some x):(rS ss)[k]?=some [.sc (.string x)]:=by rw[rS,c4j,h];rfl
def I5 (b:ByteArray):List UInt8:=b.data.toList
theorem a2h (b:ByteArray):b.toList=I5 b:=ByteArray.toList_eq b
theorem B3 (b:ByteArray):(I5 b).length=b.size:=by unfold I5;rw[c5r];rfl
theorem a4T {b:ByteArray} {k:Nat} {c:UInt8} (h:(I5 b)[k]?=some c):a7.sget b (k:Int)=some (c.toNat:Int):=by
 show (if 0<=(k:Int) then (b[(k:Int).toNat]?).map (λc=>(c.toNat:Int)) else none)=_;rw[c3E (by omega)]
 have e:b[(k:Int).toNat]?=(I5 b)[k]?:=by
  rw[I5,c4w];rfl
 rw[e,h];rfl
theorem E4 {b c:Bool} (h:c=b):(some (R.one (D.sc (.bool c)))=some (R.one (D.sc (.bool b))))/\True:=⟨by rw[h],trivial⟩
theorem b71 {k:IntKind} {b c:Int} (h:c=b):(some (R.one (D.sc (.int k c)))=some (R.one (D.sc (.int k b))))/\True:=⟨by rw[h],trivial⟩
def okB (first:Bool) (c:Int):Bool:=T1 c || (!first && (N7 c || c == 95))
def okL:Bool->List UInt8->Bool
 | _,[]=>true
 | f,c::l=>okB f (c.toNat:Int) && okL false l
def Q8 (s:ByteArray):Bool:=okL true (I5 s) && decide (0<s.size)
def f8 (s:ByteArray):Bool:=decide (s.size<=32) && (Q8 s && !a81 s)
theorem b72 {l:List UInt8} {k:Nat} {c:UInt8} (h:l[k]?=some c):okL (k == 0) (l.drop k)=(okB (k == 0) (c.toNat:Int) && okL (k+1 == 0) (l.drop (k+1))):=by
 obtain⟨hi,e⟩:=c35.1 h;rw[c3U hi,e,okL];rfl
theorem b92 (c:Int):l6 84 [.one (.sc (.int .u8 c))] [.one (.sc (.bool (T1 c)))]:=by
 generalize hb:T1 c=b;unfold T1 at hb;refine K7 Tryd.func84 rfl ?_;intro _ _ _ _ _ _ _ _ qi;intros;rename_i hA;cbv;refine gn ?_;obtain⟨e1,e2,e3,e4,e5,e6,e7,e8,e9⟩:=j3 hA;rw[<-e8,<-e8] at hb;cases h1:qi 97 c
 ·cbv;refine gn ?_;rw[h1] at hb;exact E4 hb
 ·cbv;refine gn ?_;rw[h1] at hb;exact E4 hb
theorem b93 (c:Int):l6 85 [.one (.sc (.int .u8 c))] [.one (.sc (.bool (N7 c)))]:=by
 generalize hb:N7 c=b;unfold N7 at hb;refine K7 Tryd.func85 rfl ?_;intro _ _ _ _ _ _ _ _ qi;intros;rename_i hA;cbv;refine gn ?_;obtain⟨e1,e2,e3,e4,e5,e6,e7,e8,e9⟩:=j3 hA;rw[<-e8,<-e8] at hb;cases h1:qi 48 c
 ·cbv;refine gn ?_;rw[h1] at hb;exact E4 hb
 ·cbv;refine gn ?_;rw[h1] at hb;exact E4 hb
theorem b73 (s:ByteArray) (hs:s.size<=4611686018427387904):l6 73 [.one (.sc (.string s))] [.one (.sc (.bool (Q8 s)))]:=by
 generalize hb:Q8 s=b;unfold Q8 at hb;refine K7 Tryd.func73 rfl ?_;intro qa qb _ _ _ _ _ qh _ qj _ ql _ qo _ _ qs qt;intros;rename_i hA;cbv;refine gn ?_;obtain⟨e1,e2,e3,e4,e5,e6,e7,e8,e9⟩:=j3 hA;obtain⟨s1,s2,s3,s4,s5,s6,-⟩:=w7 hA;refine l7 hA (γ:=Int) (λz=>[(7,vi .i64 z)]) (λ_=>[]) (λz=>∃k:Nat,z=(k:Int)/\k<=s.size/\(okL (k == 0) ((I5 s).drop k) && decide (0<s.size))=b) (λz=>s.size - z.toNat) 0 ?_ ?_ ?_
 ·exact⟨0,rfl,c4e _,hb⟩
 ·cbv
 ·intro z hinv;cbv;refine gn ?_;obtain⟨k,hz,hk,hE⟩:=hinv;replace hz:z=(k:Int):=hz;replace s5:qs s=((s.size:Nat):Int):=s5 s;have hlt:qh z (qs s)=decide (k<s.size):=by rw[e7,s5,hz];exact c3M.2 (by omega)
  by_cases h9:k<s.size
  ·rw[c3K h9] at hlt;obtain⟨c,hc⟩:∃c,(I5 s)[k]?=some c:=⟨_,c39 (by rw[B3];exact h9)⟩;have g1:qt s z=some (c.toNat:Int):=by rw[s6,hz];exact a4T hc
   rw[b72 hc] at hE;have hd1:=b92 (c.toNat:Int);have hd2:=b93 (c.toNat:Int)
   have hz0:qj z 0=(k == 0):=by
    rw[e9,hz];cases k with
    | zero=>rfl
    | succ k=>exact c3R.2 (by omega)
   have hz1:qa .i64 (qb z 1)=((k+1:Nat):Int):=by rw[e1,e2,hz,IntWalk.i64_in _ (by omega)];omega
   have hm:s.size - (qa .i64 (qb z 1)).toNat<s.size - z.toNat:=by rw[hz1,hz];omega
   have h95:qj (c.toNat:Int) 95=((c.toNat:Int) == 95):=e9 _ _;unfold okB at hE;generalize (c.toNat:Int)=cc at *;generalize T1 cc=q1 at *;generalize N7 cc=q2 at *;generalize (cc == 95)=q3 at *;generalize (k == 0)=q0 at *;rw[hlt];cbv;refine gn ?_;rw[g1];cbv;refine gn ?_;refine c5 hA _ hd1 ?_ ?_
   ·rfl
   cases q1
   ·cbv;refine gn ?_;rw[hz0];cases q0
    ·cbv;refine gn ?_;refine c5 hA _ hd2 ?_ ?_
     ·rfl
     cases q2
     ·cbv;refine gn ?_;rw[h95];cases q3
      ·cbv;refine gn ?_;exact E4 hE
      ·cbv;refine gn ?_;exact⟨_,⟨k+1,hz1,h9,hE⟩,hm,by cbv⟩
     ·cbv;refine gn ?_;exact⟨_,⟨k+1,hz1,h9,hE⟩,hm,by cbv⟩
    ·cbv;refine gn ?_;exact E4 hE
   ·cbv;refine gn ?_;exact⟨_,⟨k+1,hz1,h9,hE⟩,hm,by cbv⟩
  ·rw[c3I h9] at hlt;have hk:k=s.size:=by omega
   rw[hk,c4m (by rw[B3];exact c3A _),okL] at hE
   have hq:ql (qo s) (qo ⟨⟨[]⟩⟩)=!b:=by
    rw[s1,s3,s3,a2h,a2h,<-hE,c4O];cases h:I5 s with
    | nil=>rw[<-B3,h];rfl
    | cons x l=>rw[<-B3,h,c3K (show 0<(x::l).length by simp)];rfl
   rw[hlt];cbv;refine gn ?_;rw[hq];exact E4 (by cases b <;> rfl)
theorem b74 {s:ByteArray} (h:∀x∈K5,(s.toList == x.toList)=false):a81 s=false:=by
 unfold a81 inB;rw[List.any_eq_false];intro x hx;have:=h x hx;rw[Bool.beq_comm] at this;rw[this]
 decide
theorem G0 {s x:ByteArray} (hx:x∈K5) (h:(s.toList == x.toList)=true):a81 s=true:=by
 unfold a81 inB;rw[List.any_eq_true];exact⟨x,hx,by rw[Bool.beq_comm];exact h⟩
theorem c2s (s:ByteArray):l6 74 [.one (.sc (.string s))] [.one (.sc (.bool (a81 s)))]:=by
 generalize hb:a81 s=b;refine K7 Tryd.func74 rfl ?_;intro _ _ _ _ _ _ _ _ _ _ _ ql _ qo;intros;rename_i hA;cbv;refine gn ?_;obtain⟨s1,s2,s3,s4,s5,s6,-⟩:=w7 hA;cases g0:ql (qo s) (qo ⟨⟨[102,117,110]⟩⟩)
 rotate_left
 ·cbv;refine gn ?_;refine E4 ?_;rw[<-hb];rw[s1,s3,s3] at g0;exact(G0 (x:=⟨⟨[102,117,110]⟩⟩) (by unfold K5;repeat first|exact c38 ..|apply c36) g0).symm
 cbv;refine gn ?_;cases g1:ql (qo s) (qo ⟨⟨[114,101,99]⟩⟩)
 rotate_left
 ·cbv;refine gn ?_;refine E4 ?_;rw[<-hb];rw[s1,s3,s3] at g1;exact(G0 (x:=⟨⟨[114,101,99]⟩⟩) (by unfold K5;repeat first|exact c38 ..|apply c36) g1).symm
 cbv;refine gn ?_;cases g2:ql (qo s) (qo ⟨⟨[108,101,116]⟩⟩)
 rotate_left
 ·cbv;refine gn ?_;refine E4 ?_;rw[<-hb];rw[s1,s3,s3] at g2;exact(G0 (x:=⟨⟨[108,101,116]⟩⟩) (by unfold K5;repeat first|exact c38 ..|apply c36) g2).symm
 cbv;refine gn ?_;cases g3:ql (qo s) (qo ⟨⟨[105,110]⟩⟩)
 rotate_left
 ·cbv;refine gn ?_;refine E4 ?_;rw[<-hb];rw[s1,s3,s3] at g3;exact(G0 (x:=⟨⟨[105,110]⟩⟩) (by unfold K5;repeat first|exact c38 ..|apply c36) g3).symm
 cbv;refine gn ?_;cases g4:ql (qo s) (qo ⟨⟨[105,102]⟩⟩)
 rotate_left
 ·cbv;refine gn ?_;refine E4 ?_;rw[<-hb];rw[s1,s3,s3] at g4;exact(G0 (x:=⟨⟨[105,102]⟩⟩) (by unfold K5;repeat first|exact c38 ..|apply c36) g4).symm
 cbv;refine gn ?_;cases g5:ql (qo s) (qo ⟨⟨[116,104,101,110]⟩⟩)
 rotate_left
 ·cbv;refine gn ?_;refine E4 ?_;rw[<-hb];rw[s1,s3,s3] at g5;exact(G0 (x:=⟨⟨[116,104,101,110]⟩⟩) (by unfold K5;repeat first|exact c38 ..|apply c36) g5).symm
 cbv;refine gn ?_;cases g6:ql (qo s) (qo ⟨⟨[101,108,115,101]⟩⟩)
 rotate_left
 ·cbv;refine gn ?_;refine E4 ?_;rw[<-hb];rw[s1,s3,s3] at g6;exact(G0 (x:=⟨⟨[101,108,115,101]⟩⟩) (by unfold K5;repeat first|exact c38 ..|apply c36) g6).symm
 cbv;refine gn ?_;cases g7:ql (qo s) (qo ⟨⟨[99,97,115,101]⟩⟩)
 rotate_left
 ·cbv;refine gn ?_;refine E4 ?_;rw[<-hb];rw[s1,s3,s3] at g7;exact(G0 (x:=⟨⟨[99,97,115,101]⟩⟩) (by unfold K5;repeat first|exact c38 ..|apply c36) g7).symm
 cbv;refine gn ?_;cases g8:ql (qo s) (qo ⟨⟨[111,102]⟩⟩)
 rotate_left
 ·cbv;refine gn ?_;refine E4 ?_;rw[<-hb];rw[s1,s3,s3] at g8;exact(G0 (x:=⟨⟨[111,102]⟩⟩) (by unfold K5;repeat first|exact c38 ..|apply c36) g8).symm
 cbv;refine gn ?_;cases g9:ql (qo s) (qo ⟨⟨[101,110,100]⟩⟩)
 rotate_left
 ·cbv;refine gn ?_;refine E4 ?_;rw[<-hb];rw[s1,s3,s3] at g9;exact(G0 (x:=⟨⟨[101,110,100]⟩⟩) (by unfold K5;repeat first|exact c38 ..|apply c36) g9).symm
 cbv;refine gn ?_;cases g10:ql (qo s) (qo ⟨⟨[116,114,117,101]⟩⟩)
 rotate_left
 ·cbv;refine gn ?_;refine E4 ?_;rw[<-hb];rw[s1,s3,s3] at g10;exact(G0 (x:=⟨⟨[116,114,117,101]⟩⟩) (by unfold K5;repeat first|exact c38 ..|apply c36) g10).symm
 cbv;refine gn ?_;cases g11:ql (qo s) (qo ⟨⟨[102,97,108,115,101]⟩⟩)
 rotate_left
 ·cbv;refine gn ?_;refine E4 ?_;rw[<-hb];rw[s1,s3,s3] at g11;exact(G0 (x:=⟨⟨[102,97,108,115,101]⟩⟩) (by unfold K5;repeat first|exact c38 ..|apply c36) g11).symm
 cbv;refine gn ?_;cases g12:ql (qo s) (qo ⟨⟨[100,101,102]⟩⟩)
 rotate_left
 ·cbv;refine gn ?_;refine E4 ?_;rw[<-hb];rw[s1,s3,s3] at g12;exact(G0 (x:=⟨⟨[100,101,102]⟩⟩) (by unfold K5;repeat first|exact c38 ..|apply c36) g12).symm
 cbv;refine gn ?_;cases g13:ql (qo s) (qo ⟨⟨[73,110,116]⟩⟩)
 rotate_left
 ·cbv;refine gn ?_;refine E4 ?_;rw[<-hb];rw[s1,s3,s3] at g13;exact(G0 (x:=⟨⟨[73,110,116]⟩⟩) (by unfold K5;repeat first|exact c38 ..|apply c36) g13).symm
 cbv;refine gn ?_;cases g14:ql (qo s) (qo ⟨⟨[66,111,111,108]⟩⟩)
 rotate_left
 ·cbv;refine gn ?_;refine E4 ?_;rw[<-hb];rw[s1,s3,s3] at g14;exact(G0 (x:=⟨⟨[66,111,111,108]⟩⟩) (by unfold K5;repeat first|exact c38 ..|apply c36) g14).symm
 cbv;refine gn ?_;refine E4 ?_;rw[<-hb]
 symm
 apply b74
 intro x hx;rw[s1,s3,s3] at g0 g1 g2 g3 g4 g5 g6 g7 g8 g9 g10 g11 g12 g13 g14;unfold K5 at hx;simp only[c3F,List.not_mem_nil,or_false] at hx
 rcases hx with rfl|rfl|rfl|rfl|rfl|rfl|rfl|rfl|rfl|rfl|rfl|rfl|rfl|rfl|rfl
 ·exact g0
 ·exact g1
 ·exact g2
 ·exact g3
 ·exact g4
 ·exact g5
 ·exact g6
 ·exact g7
 ·exact g8
 ·exact g9
 ·exact g10
 ·exact g11
 ·exact g12
 ·exact g13
 ·exact g14
theorem b75 (s:ByteArray) (hs:s.size<=4611686018427387904):l6 53 [.one (.sc (.string s))] [.one (.sc (.bool (f8 s)))]:=by
 have h1:=b73 s hs;have h2:=c2s s;generalize hb:f8 s=b;unfold f8 at hb;refine K7 Tryd.func53 rfl ?_;intro _ _ _ _ _ _ _ _ qi _ _ _ _ _ _ _ qs;intros;rename_i hA;cbv;refine gn ?_;obtain⟨e1,e2,e3,e4,e5,e6,e7,e8,e9⟩:=j3 hA;obtain⟨s1,s2,s3,s4,s5,s6,-⟩:=w7 hA;have hle:qi (qs s) 32=decide (s.size<=32):=by rw[e8,s5];exact c3M.2 (by omega)
 generalize decide (s.size<=32)=q at *;generalize Q8 s=q1 at *;generalize a81 s=q2 at *;rw[hle];cases q
 ·cbv;refine gn ?_;exact E4 hb
 ·cbv;refine gn ?_;refine c5 hA _ h1 ?_ ?_
  ·rfl
  cases q1
  ·cbv;refine gn ?_;exact E4 hb
  ·cbv;refine gn ?_;refine c5 hA _ h2 ?_ ?_
   ·rfl
   cbv;refine gn ?_;exact E4 hb
def kz:Bool->Bool->Bool->Bool->Int
 | true,_,_,_=>1
 | _,true,_,_=>2
 | _,_,true,_=>3
 | _,_,_,true=>4
 | _,_,_,_=>0
theorem c1m (c:Int):l6 79 [.one (.sc (.int .u8 c))] [.one (.sc (.int .i64 (a4R c)))]:=by
 obtain⟨p,hp⟩:∃p,T1 c=p:=⟨_,rfl⟩;obtain⟨q,hq⟩:∃p,a4l c=p:=⟨_,rfl⟩;obtain⟨r,hr⟩:∃p,N7 c=p:=⟨_,rfl⟩;obtain⟨v,hv⟩:∃p,(c == 95)=p:=⟨_,rfl⟩
 have hb:a4R c=kz p q r v:=by
  unfold a4R;rw[hp,hq,hr];have h4:(c=95)=(v=true):=by rw[<-hv];simp
  simp only[h4];cases p <;> cases q <;> cases r <;> cases v <;> rfl
 generalize a4R c=b at *;unfold T1 at hp;unfold a4l at hq;unfold N7 at hr;refine K7 Tryd.func79 rfl ?_;intro _ _ _ _ _ _ _ _ qi;intros;rename_i hA;cbv;refine gn ?_;obtain⟨e1,e2,e3,e4,e5,e6,e7,e8,e9⟩:=j3 hA;rw[<-e8,<-e8] at hp hq hr;rw[<-e9] at hv;cases p
 ·have h:qi 97 c=false\/(qi 97 c=true/\qi c 122=false):=by cases h1:qi 97 c <;> simp_all
  rcases h with h|⟨h,h'⟩
  all_goals
   rw[h];cbv;refine gn ?_
   try (rw[h'];cbv)
   cases q
   ·have g:qi 65 c=false\/(qi 65 c=true/\qi c 90=false):=by cases h1:qi 65 c <;> simp_all
    rcases g with g|⟨g,g'⟩
    all_goals
     rw[g];cbv;refine gn ?_
     try (rw[g'];cbv)
     cases r
     ·have i:qi 48 c=false\/(qi 48 c=true/\qi c 57=false):=by cases h1:qi 48 c <;> simp_all
      rcases i with i|⟨i,i'⟩
      all_goals
       rw[i];cbv;refine gn ?_
       try (rw[i'];cbv)
       rw[hv];cases v
       ·cbv;refine gn ?_;exact b71 hb.symm
       ·cbv;refine gn ?_;exact b71 hb.symm
     ·have i:qi 48 c=true/\qi c 57=true:=by cases h1:qi 48 c <;> simp_all
      rw[i.1];cbv;refine gn ?_;rw[i.2];cbv;refine gn ?_;exact b71 hb.symm
   ·have g:qi 65 c=true/\qi c 90=true:=by cases h1:qi 65 c <;> simp_all
    rw[g.1];cbv;refine gn ?_;rw[g.2];cbv;refine gn ?_;exact b71 hb.symm
 ·have h:qi 97 c=true/\qi c 122=true:=by cases h1:qi 97 c <;> simp_all
  rw[h.1];cbv;refine gn ?_;rw[h.2];cbv;refine gn ?_;exact b71 hb.symm
theorem b94 (q:Bool) (c:Int):okB q c=!((a4R c == 0) || ((a4R c == 2) || (q && !(a4R c == 1)))):=by
 unfold okB a4R;have h4:(c=95)=((c == 95)=true):=by simp
 have hs:=a8V c;have hg:=b5H c;have hd:=b5I c;have h9:(c == 95)=true↔c=95:=by simp
 simp only[h4];generalize T1 c=a1 at *;generalize a4l c=a2 at *;generalize N7 c=a3 at *;generalize (c == 95)=a4 at *;cases a1 <;> cases a2 <;> cases a3 <;> cases a4 <;> cases q <;> first|rfl|(exfalso;simp at hs hg hd h9;omega)
theorem b76 (s:ByteArray) (hs:s.size<=4611686018427387904):l6 62 [.one (.sc (.string s))] [.one (.sc (.bool (Q8 s)))]:=by
 generalize hb:Q8 s=b;unfold Q8 at hb;refine K7 Tryd.func62 rfl ?_;intro qa qb _ _ _ _ _ qh _ qj _ _ _ _ _ _ qs qt;intros;rename_i hA;cbv;refine gn ?_;obtain⟨e1,e2,e3,e4,e5,e6,e7,e8,e9⟩:=j3 hA;obtain⟨s1,s2,s3,s4,s5,s6,-⟩:=w7 hA;refine l7 hA (γ:=Int) (λz=>[(3,vi .i64 z)]) (λ_=>[]) (λz=>∃k:Nat,z=(k:Int)/\k<=s.size/\(okL (k == 0) ((I5 s).drop k) && decide (0<s.size))=b) (λz=>s.size - z.toNat) 0 ?_ ?_ ?_
 ·exact⟨0,rfl,c4e _,hb⟩
 ·cbv
 ·intro z hinv;cbv;refine gn ?_;obtain⟨k,hz,hk,hE⟩:=hinv;replace hz:z=(k:Int):=hz;replace s5:qs s=((s.size:Nat):Int):=s5 s;have hlt:qh z (qs s)=decide (k<s.size):=by rw[e7,s5,hz];exact c3M.2 (by omega)
  by_cases h9:k<s.size
  ·rw[c3K h9] at hlt;obtain⟨c,hc⟩:∃c,(I5 s)[k]?=some c:=⟨_,c39 (by rw[B3];exact h9)⟩;have g1:qt s z=some (c.toNat:Int):=by rw[s6,hz];exact a4T hc
   rw[b72 hc] at hE;have hd1:=c1m (c.toNat:Int)
   have hz0:qj z 0=(k == 0):=by
    rw[e9,hz];cases k with
    | zero=>rfl
    | succ k=>exact c3R.2 (by omega)
   have hz1:qa .i64 (qb z 1)=((k+1:Nat):Int):=by rw[e1,e2,hz,IntWalk.i64_in _ (by omega)];omega
   have hm:s.size - (qa .i64 (qb z 1)).toNat<s.size - z.toNat:=by rw[hz1,hz];omega
   rw[b94] at hE;generalize a4R (c.toNat:Int)=kk at *;have k0:qj kk 0=(kk == 0):=e9 _ _;have k1:qj kk 1=(kk == 1):=e9 _ _;have k2:qj kk 2=(kk == 2):=e9 _ _;generalize (c.toNat:Int)=cc at *;generalize (kk == 0)=p0 at *;generalize (kk == 1)=p1 at *;generalize (kk == 2)=p2 at *;generalize (k == 0)=q0 at *;rw[hlt];cbv;refine gn ?_;rw[g1];cbv;refine gn ?_;refine c5 hA _ hd1 ?_ ?_
   ·rfl
   cbv;refine gn ?_;rw[k0];cases p0
   ·cbv;refine gn ?_;rw[k2];cases p2
    ·cbv;refine gn ?_;rw[hz0];cases q0
     ·cbv;refine gn ?_;exact⟨_,⟨k+1,hz1,h9,hE⟩,hm,by cbv⟩
     ·cbv;refine gn ?_;rw[k1];cases p1
      ·cbv;refine gn ?_;exact E4 hE
      ·cbv;refine gn ?_;exact⟨_,⟨k+1,hz1,h9,hE⟩,hm,by cbv⟩
    ·cbv;refine gn ?_;exact E4 hE
   ·cbv;refine gn ?_;exact E4 hE
  ·rw[c3I h9] at hlt;have hk:k=s.size:=by omega
   rw[hk,c4m (by rw[B3];exact c3A _),okL] at hE
   have hq:qh 0 (qs s)=b:=by
    rw[e7,s5,<-hE,c4O];exact c3M.2 (by omega)
   rw[hlt];cbv;refine gn ?_;rw[hq];exact E4 rfl
theorem c2t:l6 61 [] [.one (.sl 1 (rS K5)),.one (.sl 1 (rS b7y))]:=by
 refine K7 Tryd.func61 rfl ?_;intros;rename_i hA;cbv
 repeat ((with_reducible first|apply b6 hA|apply z6 hA true);cbv)
theorem c3e (ws:List ByteArray) (x:ByteArray) (hn:ws.length<=1099511627776):l6 63 [.one (.sl 1 (rS ws)),.one (.sc (.string x))] [.one (.sc (.bool (inB ws x)))]:=by
 obtain⟨L,hL⟩:∃L,L=rS ws:=⟨_,rfl⟩;rw[<-hL];generalize hb:inB ws x=b;refine K7 Tryd.func63 rfl ?_;intro qa qb _ _ _ _ _ qh _ _ _ ql _ qo _ _ _ _ _ _ _ _ qy qz;intros;rename_i hA;cbv;refine gn ?_;obtain⟨e1,e2,e3,e4,e5,e6,e7,e8,e9⟩:=j3 hA;obtain⟨s1,s2,s3,s4,s5,s6,-⟩:=w7 hA;obtain⟨r1,r2,-⟩:=m8 hA;refine l7 hA (γ:=Int) (λz=>[(5,vi .i64 z)]) (λ_=>[]) (λz=>∃k:Nat,z=(k:Int)/\k<=ws.length/\inB (ws.drop k) x=b) (λz=>ws.length - z.toNat) 0 ?_ ?_ ?_
 ·exact⟨0,rfl,c4e _,hb⟩
 ·cbv
 ·intro z hinv;cbv;refine gn ?_;obtain⟨k,hz,hk,hE⟩:=hinv;replace hz:z=(k:Int):=hz;have hlen:qy L=((ws.length:Nat):Int):=by rw[r1,hL,c1j]
  have hlt:qh z (qy L)=decide (k<ws.length):=by rw[e7,hlen,hz];exact c3M.2 (by omega)
  by_cases h9:k<ws.length
  ·rw[c3K h9] at hlt;obtain⟨y,hy⟩:∃y,ws[k]?=some y:=⟨_,c39 h9⟩;have g1:qz L z=some [.sc (.string y)]:=by rw[r2,hz,c3E (by omega),hL];exact c1k hy
   have hdr:inB (ws.drop k) x=((y.toList == x.toList) || inB (ws.drop (k+1)) x):=by
    obtain⟨hi,e⟩:=c35.1 hy;rw[c3U hi,e];rfl
   rw[hdr] at hE;have hq:ql (qo y) (qo x)=(y.toList == x.toList):=by rw[s1,s3,s3]
   have hz1:qa .i64 (qb z 1)=((k+1:Nat):Int):=by rw[e1,e2,hz,IntWalk.i64_in _ (by omega)];omega
   have hm:ws.length - (qa .i64 (qb z 1)).toNat<ws.length - z.toNat:=by rw[hz1,hz];omega
   generalize (y.toList == x.toList)=q at *;rw[hlt];cbv;refine gn ?_;rw[g1];cbv;refine gn ?_;rw[hq];cases q
   ·cbv;refine gn ?_;exact⟨_,⟨k+1,hz1,h9,hE⟩,hm,by cbv⟩
   ·cbv;refine gn ?_;exact E4 hE
  ·rw[c3I h9] at hlt;rw[c4m (by omega)] at hE;rw[hlt];cbv;refine gn ?_;exact E4 hE
theorem b1t (s:ByteArray) (hs:s.size<=4611686018427387904):l6 37 [.one (.sc (.string s))] [.one (.sc (.bool (f8 s)))]:=by
 have h0:=c2t;have h1:=b76 s hs;have h2:=c3e K5 s (by decide)
 have hbb:f8 s=(Q8 s && (!inB K5 s && decide (s.size<=32))):=by
  unfold f8 a81;cases Q8 s <;> cases inB K5 s <;> cases decide (s.size<=32) <;> rfl
 rw[hbb];generalize rS K5=L at *;generalize rS b7y=L2 at *;generalize inB K5 s=q2 at *;generalize Q8 s=q1 at *;generalize hb:(q1 && (!q2 && decide (s.size<=32)))=b;refine K7 Tryd.func37 rfl ?_;intro _ _ _ _ _ _ _ _ qi _ _ _ _ _ _ _ qs;intros;rename_i hA;cbv;refine gn ?_;obtain⟨e1,e2,e3,e4,e5,e6,e7,e8,e9⟩:=j3 hA;obtain⟨s1,s2,s3,s4,s5,s6,-⟩:=w7 hA;have hle:qi (qs s) 32=decide (s.size<=32):=by rw[e8,s5];exact c3M.2 (by omega)
 generalize decide (s.size<=32)=q at *;refine c5 hA _ h0 ?_ ?_
 ·rfl
 cbv;refine gn ?_;refine c5 hA _ h1 ?_ ?_
 ·rfl
 cases q1
 ·cbv;refine gn ?_;exact E4 hb
 ·cbv;refine gn ?_;refine c5 hA _ h2 ?_ ?_
  ·rfl
  cases q2
  ·cbv;refine gn ?_;rw[hle];exact E4 hb
  ·cbv;refine gn ?_;exact E4 hb
mutual
def cT:Ty->List D
 | .mk op nm n ks=>[.sc (.int .u8 op),.sc (.string nm),.sc (.int .i64 n),.sl 4 (rT ks)]
def rT:List Ty->List (List D)
 | []=>[]
 | t::ts=>cT t::rT ts
end
theorem a2Z:∀ts:List Ty,rT ts=ts.map cT
 | []=>by rw[rT];rfl
 | t::ts=>by rw[rT,a2Z ts];rfl
theorem B7 (ts:List Ty):(rT ts).length=ts.length:=by rw[a2Z,c4h]
theorem T3 {ts:List Ty} {k:Nat} {t:Ty} (h:ts[k]?=some t):(rT ts)[k]?=some (cT t):=by rw[a2Z,c4j,h];rfl
theorem a9V:∀t:Ty,t.parts.length<=1048576->l6 13 [.ag (cT t)] [.one (.sl 4 (rT t.parts))]:=by
 intro t
 induction t using Ty.ind with
 | h t ih =>
  intro hN;have hkl:=m9 t;have hP:=r7 t;generalize t.parts=P at *;obtain⟨op,nm,n,ks⟩:=t;simp only[Ty.kids] at hkl ih hP;obtain⟨R,hR⟩:∃R,R=rT P:=⟨_,rfl⟩;rw[<-hR,cT];obtain⟨K,hK⟩:∃K,K=rT ks:=⟨_,rfl⟩;rw[<-hK];refine K7 Tryd.func13 rfl ?_;intro qa qb _ _ _ _ _ qh _ _ _ _ _ _ _ _ _ _ _ _ _ _ qy qz _ vd;intros;rename_i hA;cbv
  repeat ((with_reducible first|apply b6 hA|apply z6 hA false|apply b7w hA true);cbv)
  obtain⟨e1,e2,e3,e4,e5,e6,e7,e8,e9⟩:=j3 hA;obtain⟨r1,r2,r3,r4⟩:=m8 hA;refine l7 hA (γ:=Int×List (List D)) (λx=>[(4,vi .i64 x.1),(3,.own 1),(6,.jk)]) (λx=>[(1,.row true 25 x.2)]) (λx=>∃k:Nat,x.1=(k:Int)/\k<=ks.length/\x.2++rT (o8 (ks.drop k))=R) (λx=>ks.length - x.1.toNat) (0,[cT (.mk op nm n ks)]) ?_ ?_ ?_
  ·exact⟨0,rfl,c4e _,by rw[hR,hP];rfl⟩
  ·rw[cT,<-hK];cbv
  ·intro x hinv;obtain⟨z,L⟩:=x;cbv;refine gn ?_;obtain⟨k,hz,hk,hE⟩:=hinv;have hz:z=(k:Int):=hz;replace hE:L++rT (o8 (ks.drop k))=R:=hE;have hlen:qy K=(ks.length:Int):=by rw[r1,hK,B7]
   have hlt:qh z (qy K)=decide (k<ks.length):=by rw[e7,hlen,hz];exact c3M.2 (by omega)
   by_cases h9:k<ks.length
   ·rw[c3K h9] at hlt;obtain⟨x,hx⟩:∃x,ks[k]?=some x:=⟨_,c39 h9⟩;have g1:qz K z=some (cT x):=by rw[r2,hz,c3E (by omega),hK];exact T3 hx
    have hsp:=ih x (c3J hx) (by have:=hkl.2 x (c3J hx);omega)
    have hdr:ks.drop k=x::ks.drop (k+1):=by
     have h:=c3U h9;rw[c39 h9] at hx;rw[h,Option.some.inj hx]
    rw[hdr,o8] at hE;generalize x.parts=XP at *;obtain⟨o1,m1,n1,l1⟩:=x;rw[cT] at g1 hsp;generalize rT l1=L1 at *;obtain⟨Y,hY⟩:∃Y,Y=rT XP:=⟨_,rfl⟩;rw[<-hY] at hsp;rw[hlt];cbv;refine gn ?_;rw[g1];cbv;refine c5 hA _ hsp ?_ ?_
    ·rfl
    cbv;have hap:∀l m:List Ty,rT (l++m)=rT l++rT m:=λl m=>by rw[a2Z,a2Z,a2Z,c4J]
    rw[hap,<-hY,<-c4c] at hE
    have hlenR:L.length+Y.length<=1048576:=by
     have h1:R.length<=1048576:=by rw[hR,B7];exact hN
     rw[<-hE,c37,c37] at h1;omega
    refine w8 hA (by omega) ?_;cbv;refine gn ?_;replace hz:z=(k:Int):=hz;have hz1:qa .i64 (qb z 1)=((k+1:Nat):Int):=by rw[e1,e2,hz,IntWalk.i64_in _ (by omega)];omega
    refine⟨(qa .i64 (qb z 1),vd L Y),⟨k+1,hz1,h9,by rw[r4];exact hE⟩,by show ks.length - (qa .i64 (qb z 1)).toNat<ks.length - z.toNat;rw[hz1,hz];omega,?_⟩;cbv
   ·rw[c3I h9] at hlt;rw[hlt];cbv;refine gn ?_
    have hE2:L=R:=by
     rw[c4m (by omega),o8] at hE;rw[<-hE];exact(c3X L).symm
    rw[hE2];exact⟨rfl,trivial⟩
end Go.Proofs.YtlofmibkljoapaaDoor.Vm
end
