/- Part 4 of the proof. Conditions: none. -/
import Derived.Test.YtahpnackkmbmgaaF1
import Derived.Test.YtahpnackkmbmgaaF3
import Derived.Lib.Builder
import Derived.Laws.Externs
import Derived.Lib.Walk
import Derived.Lib.AppendStr
import Derived.Lib.Hide
import Derived.Lib.Join
import Derived.Lib.UnsafeStr
import Derived.IntWalk
import Derived.Laws.BytesArg
import Derived.Test.YtahpnackkmbmgaaF0
set_option linter.all false
set_option linter.unusedVariables false
set_option linter.unusedSimpArgs false
section
namespace Go.Proofs.Ytahpnackkmbmgaa.Vm
open Go.RowKit
set_option maxRecDepth 100000
set_option maxHeartbeats 4000000
section
def o4 (P:Program):Code→Bool
 | .region _ ops d=>b83 P ops.toList && (!d || (b0I ops || c4r ops.toList))
 | .seq c d=>o4 P c && o4 P d
 | .cond _ c d=>o4 P c && o4 P d
 | .block _ c=>o4 P c
 | .loop c=>o4 P c
 | _=>true
def toE:X→Exit
 | .normal=>.normal
 | .exit i=>.exit i
 | .ret=>.ret
section
variable {I0:Nat→Nat→Prop} {X:Nat→Prop} {w0:W0}
theorem J2 {ro:Option Nat} {n:Nat}:∀(c:Code) (s:S) (a:Act) (w:World) (K:Vm.X→S→Prop) (Q:Exit→Act→World→Prop),o4 Try.prog c=true→Rel I0 X w0 s a w→B4 f7 c s K→(∀e s' a' w',Rel I0 X w0 s' a' w'→K e s'→Q (toE e) a' w')→c.wpIn (FW ro) n Try.prog Q a w
 | .skip,s,a,w,K,Q,_,h,hK,hQ=>wpIn_skip (hQ _ _ _ _ h hK)
 | .region id ops d,s,a,w,K,Q,hok,h,hK,hQ=>by
  simp only [o4,c8Z,c96,d0x] at hok
  have hops:∀o∈ops.toList,a05 Try.prog o.op=true:=c9s.1 hok.1
  cases d with
  | false=>exact wpIn_region_list (b3z (fun s' a' w' h' hk=>hQ .normal _ _ _ h' hk) _ s a w hops h hK)
  | true =>
   rw [B4] at hK
   split at hK
   ·refine wpIn_region_any (by kernel_rfl) (hK I0 X w0 a w.drew ro n Q hops ?_ fun s' a' w' h' hk=>hQ .normal _ _ _ h' hk)
    obtain ⟨I,g,h⟩:=h
    exact ⟨I,g,h.drew⟩
   rename_i hodd
   split at hK <;> try exact hK.elim
   rename_i hpre
   have hodd:c4r ops.toList=false:=by rw [b8m,d1i] at hodd;exact hodd.2
   have hd:b0I ops=true:=(hok.2.resolve_left (by simp)).resolve_right (by rw [hodd];decide)
   refine wpIn_region_any (by kernel_rfl) (c18 (fun s' a' w' h' hk=>hQ .normal _ _ _ h' hk) hok.1 hd ?_ hpre hK)
   obtain ⟨I,g,h⟩:=h
   exact ⟨I,g,h.drew⟩
 | .seq c d,s,a,w,K,Q,hok,h,hK,hQ=>by
  simp only [o4,c8Z] at hok
  refine wpIn_seq (J2 c s a w _ _ hok.1 h hK fun e s' a' w' h' hk=>?_)
  cases e with
  | normal =>
   obtain ⟨F,hg,hk⟩:=hk
   obtain ⟨s2,hf,h2⟩:=hg _ _ _ _ _ h'
   exact J2 d s2 a' w' K Q hok.2 h2 (hk s2 hf) hQ
  | exit i=>exact hQ (.exit i) _ _ _ h' hk
  | ret=>exact hQ .ret _ _ _ h' hk
 | .cond c x y,s,a,w,K,Q,hok,h,hK,hQ=>by
  simp only [o4,c8Z] at hok
  rw [B4] at hK
  obtain ⟨I,g,h1⟩:=h
  have hc:=h1.get c
  split at hK <;> try exact hK.elim
  rename_i b hb
  rw [hb] at hc
  refine wpIn_cond hc.sc ?_
  cases b with
  | true=>exact J2 x s a w K Q hok.1 ⟨I,g,h1⟩ hK hQ
  | false=>exact J2 y s a w K Q hok.2 ⟨I,g,h1⟩ hK hQ
 | .block id c,s,a,w,K,Q,hok,h,hK,hQ=>by
  refine wpIn_block (J2 c s a w _ _ hok h hK fun e s' a' w' h' hk=>?_)
  cases e with
  | normal=>exact hQ .normal _ _ _ h' hk
  | exit i =>
   rw [b7T] at hk
   show (if i=id then Q .normal a' w' else Q (.exit i) a' w')
   split at hk
   ·rename_i he;rw [C1] at he;rw [c8Y he];exact hQ .normal _ _ _ h' hk
   ·rename_i he;rw [a2R] at he;rw [c8W he];exact hQ (.exit i) _ _ _ h' hk
  | ret=>exact hQ .ret _ _ _ h' hk
 | .loop c,s,a,w,K,Q,hok,h,hK,hQ=>by
  have key:∀R:S→S→Prop,(∀s s',R s s'→w0.n≤s'.o.length→∀a w,Rel I0 X w0 s a w→Rel I0 X w0 s' a w)→b1O R (fun s K=>B4 f7 c s K) s K→(Code.loop c).wpIn (FW ro) n Try.prog Q a w:=fun R hR hK=>by
   obtain ⟨γ,st,inv,μ,hlen,⟨x0,hw,h0⟩,hround⟩:=hK
   have hn:∀x,inv x→w0.n≤(st x).o.length:=fun x hx=>by
    have h1:=hlen x hx
    rw [o9,o9] at h1
    obtain ⟨I,g,h⟩:=h
    exact d0k h.lo h1
   refine wpIn_loop_ghost (fun m a w=>∃x,inv x∧Rel I0 X w0 (st x) a w∧μ x=m) (μ x0) ⟨x0,h0,hR _ _ hw (hn x0 h0) _ _ h,rfl⟩ ?_
   rintro m a1 w1 ⟨x,hx,h1,rfl⟩
   refine J2 c (st x) a1 w1 _ _ hok h1 (hround x hx) fun e s2 a2 w2 h2 hk=>?_
   cases e with
   | normal =>
    obtain ⟨y,hy,hlt,hwk⟩:=hk
    exact ⟨μ y,hlt,y,hy,hR _ _ hwk (hn y hy) _ _ h2,rfl⟩
   | exit i=>exact hQ (.exit i) _ _ _ h2 hk
   | ret=>exact hQ .ret _ _ _ h2 hk
  have hlo:w0.n≤m7 s.o:=by obtain ⟨I,g,h⟩:=h;rw [o9];exact h.lo
  rcases hK with hK|hK|hK
  ·exact key weak (fun _ _ hw hn a w h=>h.weak hn (.inr hw)) hK
  ·exact key Eq (fun _ _ hw hn a w h=>h.weak hn (.inl hw)) hK
  ·exact key (b8i (m7 s.o)) (fun _ _ hw _ a w h=>hw I0 X w0 a w hlo h) hK
 | .exit i,s,a,w,K,Q,_,h,hK,hQ=>wpIn_exit (hQ _ _ _ _ h hK)
 | .ret,s,a,w,K,Q,_,h,hK,hQ=>wpIn_ret (hQ _ _ _ _ h hK)
 | .rangeFunc f ps x y,s,a,w,K,Q,_,h,hK,hQ=>by cases hK
 | .scope c,s,a,w,K,Q,_,h,hK,hQ=>by cases hK
 | .label l,s,a,w,K,Q,_,h,hK,hQ=>by cases hK
 | .goto l,s,a,w,K,Q,_,h,hK,hQ=>by cases hK
 | .refuse y,s,a,w,K,Q,_,h,hK,hQ=>by cases hK
theorem a6Y (c:Code) (s:S) (a:Act) (w:World) (K:Vm.X→S→Prop) (Q:Exit→Act→World→Prop) (hok:o4 Try.prog c=true) (h:Rel I0 X w0 s a w) (hK:B4 f7 c s K) (hQ:∀e s' a' w',Rel I0 X w0 s' a' w'→K e s'→Q (toE e) a' w'):c.wp Try.prog Q a w :=
 wpIn_wide.1 (J2 (ro:=none) (n:=0) c s a w K Q hok h hK hQ)
end
def b0J (a:Ar) (s:S):List ResultVar→List R→Prop
 | [],[]=>True
 | .tmp t::l,r::q=>toR s.o (n6 s.t t)=some r∧b0J a s l q
 | .cell b t::l,r::q=>G3 a s.o (fun y=>toR s.o y=some r) t (n6 s.t b)∧b0J a s l q
 | _,_=>False
def c19 (a:Ar) (l:List ResultVar) (q:List R):X→S→Prop
 | .exit _,_=>False
 | .normal,s=>b0J a s l q
 | .ret,s=>b0J a s l q
def J9:List ResultVar→Bool
 | []=>true
 | .tmp _::l=>J9 l
 | .cell _ t::l=>f9 t && J9 l
def uns:Nat→List V
 | 0=>[]
 | n+1=>Z6::uns n
theorem a5Y:∀n,uns n=List.replicate n Z6
 | 0=>rfl
 | n+1=>by rw [uns,a5Y n];rfl
def a3X (rs:List R) (n:Nat):S:=⟨a2G (b1A rs) (uns n),[]⟩
section
variable {I0:Nat→Nat→Prop} {X:Nat→Prop} {w0:W0} {I:Nat→Nat→Prop} {g:Nat→Value} {s:S} {a:Act} {w:World}
def a9j (tmps:Array Value):ResultVar→Sem Value
 | .tmp t=>pure (tmps.getD t undef)
 | .cell b t=>do loadVar t (←asAddr (tmps.getD b undef))
theorem a3g {t:Nat} {v u:Value} (h:(Instr.loadAt t v).run Try.prog w=.ok u w):(do loadVar t (←asAddr v)).run Try.prog w=.ok u w:=by
 unfold Instr.loadAt Instr.sureAddr at h
 split at h
 ·simpa [asAddr] using h
 ·simp [stuck] at h
theorem b3B (h:RelI I0 X w0 I g s a w):∀ {l:List ResultVar} {q:List R},J9 l=true→b0J f7 s l q→∃vs:List Value,(l.mapM (a9j a.tmps)).run Try.prog w=.ok vs w∧a4h I w vs q
 | [],[],_,_=>⟨[],rfl,trivial⟩
 | [],_::_,_,h=>h.elim
 | .tmp t::l,[],_,h=>h.elim
 | .cell b t::l,[],_,h=>h.elim
 | .tmp t::l,r::q,hok,hr=>by
  obtain ⟨vs,h1,h2⟩:=b3B h (l:=l) (q:=q) hok hr.2
  have h3:=a5I h (h.get (.tmp t)) hr.1
  refine ⟨a.eval (.tmp t)::vs,?_,h3,h2⟩
  rw [d0X]
  simp only [Sem.run_bind,h1,Result.andThen_ok,a9j,Sem.run_pure]
  rfl
 | .cell b t::l,r::q,hok,hr=>by
  rw [J9,c8Z] at hok
  obtain ⟨vs,h1,h2⟩:=b3B h (l:=l) (q:=q) hok.2 hr.2
  obtain ⟨v,x,h3,h5,h6⟩:=a5O h hok.1 (h.get (.tmp b)) hr.1
  refine ⟨v::vs,?_,a5I h h5 h6,h2⟩
  have h7:=a3g h3
  rw [d0X]
  simp only [Sem.run_bind,a9j,Sem.run_pure] at h7 ⊢
  have h8:((asAddr (a.tmps.getD b undef)).run Try.prog w).andThen (fun a w'=>(loadVar t a).run Try.prog w')=.ok v w:=h7
  rw [h8,Result.andThen_ok,h1]
  rfl
theorem a8b (h:RelI I0 X w0 I g s a w) {fn:Func} {q:List R} (hok:J9 fn.results.toList=true) (hr:b0J f7 s fn.results.toList q):∃v,(results fn a.tmps).run Try.prog w=.ok v w∧a2C I w v q:=by
 obtain ⟨vs,h1,h2⟩:=b3B h hok hr
 have h3:(fn.results.mapM (a9j a.tmps)).run Try.prog w=.ok vs.toArray w:=by
  rw [Array.mapM_eq_mapM_toList]
  simp [h1]
 have h4:(results fn a.tmps).run Try.prog w=.ok (if h:vs.toArray.size=1 then vs.toArray[0] else .tuple vs.toArray) w:=by
  have h5:results fn a.tmps=(do let vs ←fn.results.mapM (a9j a.tmps);pure (if h:vs.size=1 then vs[0] else .tuple vs)):=by
   unfold results
   congr 1
  rw [h5,Sem.run_bind,h3]
  rfl
 refine ⟨_,h4,?_⟩
 have hl:=h2.len
 match q,vs,h2,hl with
 | [r],[v],h2,_=>exact h2.1
 | [],[],h2,_=>exact ⟨[],rfl,h2⟩
 | r::r'::q,v::v'::vs,h2,_=>exact ⟨_,by simp,h2⟩
theorem b2h {I0:Nat→Nat→Prop} {w:World} {rs:List R} {args:List Value} (hI:Wld I0 w) (hat:a4h I0 w args rs) (n:Nat):RelI I0 (fun _=>False) ⟨w,fun _=>.nilFunc,0,[]⟩ I0 (fun _=>.nilFunc) (a3X rs n) { tmps:=args.toArray++Array.replicate n undef,defers:=[] } w:=by
 refine ⟨fun _ _ h=>h,fun b k hb=>⟨hI.1 b k hb,fun _=>.inl hb⟩,Fr.refl _ _,y9.refl _ _,c95 _,fun k hk=>absurd hk (d1k _),fun k o ho=>by simp [a3X] at ho,fun j k b hj=>?_,fun _ _=>rfl,?_,rfl,hI.2⟩
 ·obtain ⟨o,ho,_⟩:=hj
  simp [a3X] at ho
 ·show j8 I0 w _ (args.toArray++Array.replicate n undef).toList (a2G (b1A rs) (uns n))
  rw [a0s,d06,a5Y]
  refine (a4H _ hat).append ?_
  rw [d0z]
  refine ⟨by simp,fun i u c hu hc=>?_⟩
  rw [d0l] at hu hc
  split at hu
  ·rename_i hi
   rw [c8Y hi] at hc
   injection hu with hu
   injection hc with hc
   subst hu;subst hc
   exact .tu [] [] rfl fun i u c hu _=>by simp at hu
  ·cases hu
theorem b0K {f:Nat} {fn:Func} {c:Code} {rs q:List R} (hf:Try.prog.funcs[f]?=some fn) (hb:fn.body=some c) (hn:(fn.name != "runtime.NumGoroutine")=true) (hc:o4 Try.prog c=true) (hr:J9 fn.results.toList=true)
  (h:∀qa qb qc qd qe qg qh qi qj qk ql qm qo qp qq qt qu qv qw qx qy qz va vc vd ve vf vg vh vj vk vl vm vn vo vp vq vr vt vu vv vw vx,Ar.mk qa qb qc qd qe qg qh qi qj qk ql qm qo qp qq qt qu qv qw qx qy qz va vc vd ve vf vg vh vj vk vl vm vn vo vp vq vr vt vu vv vw vx=f7→B4 (Ar.mk qa qb qc qd qe qg qh qi qj qk ql qm qo qp qq qt qu qv qw qx qy qz va vc vd ve vf vg vh vj vk vl vm vn vo vp vq vr vt vu vv vw vx) c (a3X rs (fn.ntmps - C4 rs)) (fun x s=>c19 (Ar.mk qa qb qc qd qe qg qh qi qj qk ql qm qo qp qq qt qu qv qw qx qy qz va vc vd ve vf vg vh vj vk vl vm vn vo vp vq vr vt vu vv vw vx) fn.results.toList q x s)):A0 f rs q:=by
 refine ⟨by unfold a2q;rw [hf];simp only [hn,hb];rfl,?_⟩
 intro I w args hI hat
 have hlen:=hat.len
 refine calls_of_wp hf hb ?_
 have hsz:args.toArray.size=C4 rs:=by rw [H4];simp [hlen]
 rw [hsz]
 refine a6Y (I0:=I) (X:=fun _=>False) (w0:=⟨w,fun _=>.nilFunc,0,[]⟩) c _ _ _ _ _ hc ⟨I,_,b2h hI hat _⟩ (h _ _ _ _ _ _ _ _ _ _ _ _ _ _ _ _ _ _ _ _ _ _ _ _ _ _ _ _ _ _ _ _ _ _ _ _ _ _ _ _ _ _ _ (show Ar.mk f7.wrap f7.add f7.sub f7.mul f7.quo f7.rem f7.bits f7.lt f7.le f7.eq f7.nz f7.seq f7.slt f7.bytes f7.cat f7.fits f7.slen f7.sget f7.ssub f7.txt f7.byt f7.nat f7.len f7.get f7.sub2 f7.app f7.set f7.room f7.mlook f7.mput f7.deq f7.rep f7.call f7.calld f7.callo f7.callx f7.new f7.lit f7.keep f7.next f7.ext f7.reg f7.loop=f7 from rfl)) fun e s' a' w' hrel hk=>?_
 have key:b0J f7 s' fn.results.toList q→a'.defers=[]∧∃v,(results fn a'.tmps).run Try.prog w'=.ok v w'∧∃v',Ending.returned v=.returned v'∧a2C (nxt I w w') w' v' q∧Below w.heap.size w w':=fun hk=>by
  obtain ⟨I',g',h'⟩:=hrel
  obtain ⟨v,h1,h2⟩:=a8b h' hr hk
  refine ⟨h'.dfr.1,v,h1,v,rfl,?_,⟨h'.fr.os,h'.fr.tape,h'.fr.output,h'.fr.size,fun b hb=>h'.fr.block b hb (fun hx=>hx)⟩⟩
  have hnx:∀b k,I' b k→nxt I w w' b k:=fun b k hbk=>by
   obtain ⟨h3,h4⟩:=h'.lt b k hbk
   rcases c9N b w.heap.size with hlt|hge
   ·exact .inl ((h4 hlt).resolve_right (fun hx=>hx))
   ·exact .inr ⟨hge,h3⟩
  match q,h2 with
  | [],⟨us,e,hu⟩=>exact ⟨us,e,hu.mono hnx (y9.refl _ _)⟩
  | [r],hu=>exact AtR.mono hnx (y9.refl _ _) hu
  | r::r'::q,⟨us,e,hu⟩=>exact ⟨us,e,hu.mono hnx (y9.refl _ _)⟩
 cases e with
 | normal=>exact key hk
 | exit i=>exact hk.elim
 | ret=>exact key hk
def a4q (a:Ar) (s:S):List ResultVar→(List V→Prop)→Prop
 | [],K=>K []
 | .tmp t::l,K=>a4q a s l (fun vs=>K (n6 s.t t::vs))
 | .cell b t::l,K=>G3 a s.o (fun y=>a4q a s l (fun vs=>K (y::vs))) t (n6 s.t b)
def c1A (a:Ar) (n:Nat) (Q:List V→List O→Prop) (l:List ResultVar):Vm.X→S→Prop
 | .exit _,_=>False
 | .normal,s=>a4q a s l (fun vs=>a.keep n Q vs s)
 | .ret,s=>a4q a s l (fun vs=>a.keep n Q vs s)
def a1J (vs:List V) (os:List O) (n:Nat):S:=⟨a2G vs (uns n),os⟩
theorem b0L (h:RelI I0 X w0 I g s a w):∀ {l:List ResultVar} {K:List V→Prop},J9 l=true→a4q f7 s l K→∃us vs,(l.mapM (a9j a.tmps)).run Try.prog w=.ok us w∧j8 I w g us vs∧K vs
 | [],K,_,h=>⟨[],[],rfl,.nil I w g,h⟩
 | .tmp t::l,K,hok,hr=>by
  obtain ⟨us,vs,h1,h2,h3⟩:=b0L h (l:=l) hok hr
  refine ⟨a.eval (.tmp t)::us,n6 s.t t::vs,?_,.cons (h.get (.tmp t)) h2,h3⟩
  rw [d0X]
  simp only [Sem.run_bind,h1,Result.andThen_ok,a9j,Sem.run_pure]
  rfl
 | .cell b t::l,K,hok,hr=>by
  rw [J9,c8Z] at hok
  obtain ⟨v,x,h3,h5,h6⟩:=a5O h hok.1 (h.get (.tmp b)) hr
  obtain ⟨us,vs,h1,h2,h4⟩:=b0L h (l:=l) hok.2 h6
  refine ⟨v::us,x::vs,?_,.cons h5 h2,h4⟩
  have h7:=a3g h3
  rw [d0X]
  simp only [Sem.run_bind,a9j,Sem.run_pure] at h7 ⊢
  have h8:((asAddr (a.tmps.getD b undef)).run Try.prog w).andThen (fun a w'=>(loadVar t a).run Try.prog w')=.ok v w:=h7
  rw [h8,Result.andThen_ok,h1]
  rfl
theorem a17 (h:RelI I0 X w0 I g s a w) {fn:Func} {K:List V→Prop} (hok:J9 fn.results.toList=true) (hr:a4q f7 s fn.results.toList K):∃us vs,(results fn a.tmps).run Try.prog w=.ok (pkg us) w∧j8 I w g us vs∧K vs:=by
 obtain ⟨us,vs,h1,h2,h3⟩:=b0L h hok hr
 refine ⟨us,vs,?_,h2,h3⟩
 have h4:(fn.results.mapM (a9j a.tmps)).run Try.prog w=.ok us.toArray w:=by
  rw [Array.mapM_eq_mapM_toList]
  simp [h1]
 have h5:results fn a.tmps=(do let vs ←fn.results.mapM (a9j a.tmps);pure (if h:vs.size=1 then vs[0] else .tuple vs)):=by
  unfold results
  congr 1
 rw [h5,Sem.run_bind,h4]
 match us with
 | []=>rfl
 | [u]=>rfl
 | u::u'::us =>
  show Result.ok _ w=_
  rw [dif_neg (by simp)]
  rfl
theorem a8c {f:Nat} {fn:Func} {c:Code} {vs:List V} {os:List O} {Q:List V→List O→Prop} (hf:Try.prog.funcs[f]?=some fn) (hb:fn.body=some c) (hn:(fn.name != "runtime.NumGoroutine")=true) (hc:o4 Try.prog c=true) (hr:J9 fn.results.toList=true)
  (h:∀qa qb qc qd qe qg qh qi qj qk ql qm qo qp qq qt qu qv qw qx qy qz va vc vd ve vf vg vh vj vk vl vm vn vo vp vq vr vt vu vv vw vx,Ar.mk qa qb qc qd qe qg qh qi qj qk ql qm qo qp qq qt qu qv qw qx qy qz va vc vd ve vf vg vh vj vk vl vm vn vo vp vq vr vt vu vv vw vx=f7→B4 (Ar.mk qa qb qc qd qe qg qh qi qj qk ql qm qo qp qq qt qu qv qw qx qy qz va vc vd ve vf vg vh vj vk vl vm vn vo vp vq vr vt vu vv vw vx) c (a1J vs os (fn.ntmps - C4 vs)) (fun x s=>c1A (Ar.mk qa qb qc qd qe qg qh qi qj qk ql qm qo qp qq qt qu qv qw qx qy qz va vc vd ve vf vg vh vj vk vl vm vn vo vp vq vr vt vu vv vw vx) (m7 os) Q fn.results.toList x s)):n7 f vs os Q:=by
 refine ⟨by unfold a2q;rw [hf];simp only [hn,hb];rfl,?_⟩
 intro I w g args hrel
 have hv:j8 I w g args vs:=hrel.tmp
 refine calls_of_wp hf hb ?_
 have hsz:args.toArray.size=C4 vs:=by rw [H4];simp [hv.1]
 rw [hsz]
 have hstart:RelI I (Xof g os) ⟨w,g,os.length,[]⟩ I g (a1J vs os (fn.ntmps - C4 vs)) { tmps:=args.toArray++Array.replicate (fn.ntmps - C4 vs) undef,defers:=[] } w:=by
  refine ⟨hrel.im,hrel.lt,hrel.fr,hrel.kp,hrel.lo,hrel.st,hrel.obj,hrel.dis,hrel.out,?_,rfl,hrel.dfr.2⟩
  show j8 I w _ (args.toArray++Array.replicate (fn.ntmps - C4 vs) undef).toList (a2G vs (uns (fn.ntmps - C4 vs)))
  rw [a0s,d06,a5Y]
  refine hv.append ?_
  rw [d0z]
  refine ⟨by simp,fun i u c hu hc=>?_⟩
  rw [d0l] at hu hc
  split at hu
  ·rename_i hi
   rw [c8Y hi] at hc
   injection hu with hu
   injection hc with hc
   subst hu;subst hc
   exact .tu [] [] rfl fun i u c hu _=>by simp at hu
  ·cases hu
 refine a6Y (I0:=I) (X:=Xof g os) (w0:=⟨w,g,os.length,[]⟩) c _ _ _ _ _ hc ⟨I,_,hstart⟩ (h _ _ _ _ _ _ _ _ _ _ _ _ _ _ _ _ _ _ _ _ _ _ _ _ _ _ _ _ _ _ _ _ _ _ _ _ _ _ _ _ _ _ _ (show Ar.mk f7.wrap f7.add f7.sub f7.mul f7.quo f7.rem f7.bits f7.lt f7.le f7.eq f7.nz f7.seq f7.slt f7.bytes f7.cat f7.fits f7.slen f7.sget f7.ssub f7.txt f7.byt f7.nat f7.len f7.get f7.sub2 f7.app f7.set f7.room f7.mlook f7.mput f7.deq f7.rep f7.call f7.calld f7.callo f7.callx f7.new f7.lit f7.keep f7.next f7.ext f7.reg f7.loop=f7 from rfl)) fun e s' a' w' hrel2 hk=>?_
 have key:a4q f7 s' fn.results.toList (fun vs=>f7.keep (m7 os) Q vs s')→a'.defers=[]∧∃v,(results fn a'.tmps).run Try.prog w'=.ok v w'∧∃us res os2 I' g',Ending.returned v=.returned (pkg us)∧Q res os2∧RelI I (Xof g os) ⟨w,g,os.length,[]⟩ I' g' ⟨res,os2⟩ { tmps:=us.toArray,defers:=[] } w':=fun hk=>by
  obtain ⟨I',g',h'⟩:=hrel2
  obtain ⟨us,vs',h1,h2,ks,res',os',hko,hQ⟩:=a17 h' hr hk
  rw [o9] at hko
  exact ⟨h'.dfr.1,_,h1,us,res',os',I',_,rfl,hQ,b45 h' rfl hko h2⟩
 cases e with
 | normal=>exact key hk
 | exit i=>exact hk.elim
 | ret=>exact key hk
end
/-! A call whose body is walked in place. -/
section
variable {I0:Nat→Nat→Prop} {X:Nat→Prop} {w0:W0} {I:Nat→Nat→Prop} {g:Nat→Value} {s:S} {a:Act} {w:World}
def a3h (vs:List V) (o:List O) (n:Nat):S:=⟨a2G vs (uns n),r9 o (.kl [])⟩
def a3Y:Nat→List O→List O
 | 0,_=>[]
 | _+1,[]=>[]
 | n+1,x::l=>x::a3Y n l
theorem a5e:∀(n:Nat) (l:List O),a3Y n l=l.take n
 | 0,l=>by simp [a3Y]
 | n+1,[]=>by simp [a3Y]
 | n+1,x::l=>by simp [a3Y,a5e n l]
def c1B (n:Nat):V→Bool
 | .tu vs=>a9g n vs
 | x=>c4e n x
theorem b4N {I:Nat→Nat→Prop} {w:World} {g g':Nat→Value} {n:Nat} (hg:∀k,k<n→g' k=g k) {v:Value} {x:V} (h:AtV I w g v x) (hl:c1B n x=true):AtV I w g' v x:=by
 unfold c1B at hl
 split at hl
 ·obtain ⟨us,rfl,h2⟩:=h.untu
  exact a1D (a6W hg h2 hl)
 ·exact b4E hg h hl
def b8I (n:Nat) (x:V) (o:List O):List O:=match c1B n x with
 | true=>match a1U n (a3Y n o) with|true=>a3Y n o|false=>G8 o n .dead
 | false=>G8 o n .dead
def b4O (n:Nat) (K:V→List O→List Nat→Prop) (res:List V) (s:S):Prop:=match y6 s.o n with
 | .kl ks=>K (Z8 res) (b8I n (Z8 res) s.o) ks
 | _=>False
def c1C (a:Ar) (n:Nat) (K:V→List O→List Nat→Prop) (l:List ResultVar):Vm.X→S→Prop
 | .exit _,_=>False
 | .normal,s=>a4q a s l (fun vs=>b4O n K vs s)
 | .ret,s=>a4q a s l (fun vs=>b4O n K vs s)
theorem b4P {g:Nat→Value} {vs:List V} {us:List Value} (h:j8 I w g us vs):AtV I w g (pkg us) (Z8 vs):=b8g h
theorem RelI.rebase (h:RelI I0 X w0 I g s a w) {us:List Value} {vs:List V} (hv:j8 I w g us vs):∃g',(∀k,k<s.o.length→g' k=g k)∧g' s.o.length=.agg ((List.range s.o.length).map g).toArray ∧
  RelI I (Xof g' (r9 s.o (.kl []))) ⟨w,g',s.o.length+1,[]⟩ I g' ⟨vs,r9 s.o (.kl [])⟩ { tmps:=us.toArray,defers:=[] } w:=by
 obtain ⟨ghost,hgh⟩:∃v:Value,v=.agg ((List.range s.o.length).map g).toArray:=⟨_,rfl⟩
 have h1:=h.newObj (.kl []) ghost ⟨((List.range s.o.length).map g).toArray,by rw [n8,hgh],by simp,fun j u hu=>.inr (.inl (by
  have hj:j<s.o.length:=by have:=(c9g.1 hu).1;simpa using this
  rw [E0 (by omega)]
  simp only [d0B,c9v,List.getElem?_range hj,d0b,Option.some.injEq] at hu
  exact hu))⟩ (fun j b _ _=>by rw [hgh];exact fun h=>h)
 have hg:∀k,k<s.o.length→upd g s.o.length ghost k=g k:=fun k hk=>E0 (by omega)
 have hlen:(s.obj (.kl [])).o.length=s.o.length+1:=by show (r9 s.o _).length=_;rw [a01];simp
 refine ⟨upd g s.o.length ghost,hg,by rw [n8,hgh],fun _ _ h=>h,fun b k hb=>⟨(h.lt b k hb).1,fun _=>.inl hb⟩,Fr.refl _ _,y9.refl _ _,by rw [a01];simp,fun _ _ _=>rfl,fun k o ho=>?_,h1.dis,h1.out,hv.more (h.fresh _),rfl,h.tabs fun b ⟨k,o,ho,hd,hg⟩=>((h1.obj k o ho).blk hd b hg).2⟩
 have hob:=h1.obj k o ho
 have hX:∀b,gbl (upd g s.o.length ghost k) b→o≠.dead→a2o (Xof (upd g s.o.length ghost) (r9 s.o (.kl []))) ⟨w,upd g s.o.length ghost,s.o.length+1,[]⟩ b:=fun b hb hd=>.inr ⟨k,o,ho,hd,hb⟩
 cases o with
 | dead=>exact True.intro
 | box cs =>
  obtain ⟨b,us,t,e1,e2,e3,e4,e5,e6⟩:=hob
  exact ⟨b,us,t,e1,e2,e3,e4,e5,hX b (by rw [e1];rfl) (by simp)⟩
 | row z e rows =>
  obtain ⟨us,e1,e2,e3,e4⟩:=hob
  exact ⟨us,e1,e2,e3,fun b hb=>⟨(e4 b hb).1,(e4 b hb).2.1,hX b ((a1S e1).2 hb) (by simp)⟩⟩
 | mp kt es =>
  obtain ⟨b,l,c,e1,e2,e3,e4,e5⟩:=hob
  exact ⟨b,l,c,e1,e2,e3,e4,hX b (by rw [e1];rfl) (by simp)⟩
 | ob T vs =>
  obtain ⟨b,e1,e2,e4,e5⟩:=hob
  exact ⟨b,e1,e2,e4,hX b (by rw [e1];rfl) (by simp)⟩
 | it P =>
  obtain ⟨A,n,cap,F,e1,e2,e3,e4⟩:=hob
  exact ⟨A,n,cap,F,e1,e2,e3,fun b hb=>⟨(e4 b hb).1,(e4 b hb).2.1,hX b (by rw [e1,a1Q];exact hb) (by simp)⟩⟩
 | kl ks=>exact hob
theorem RelI.unbase (h:RelI I0 X w0 I g s a w) {g':Nat→Value} {os2:List O} {t2:List V} {a2:Act} {w':World} {I2:Nat→Nat→Prop} {g2:Nat→Value} {ks:List Nat} (hg:∀k,k<s.o.length→g' k=g k) (hgn:g' s.o.length=.agg ((List.range s.o.length).map g).toArray)
  (h2:RelI I (Xof g' (r9 s.o (.kl []))) ⟨w,g',s.o.length+1,[]⟩ I2 g2 ⟨t2,os2⟩ a2 w') (hk:os2[s.o.length]?=some (.kl ks)):j8 I2 w' (a4T s.o.length g2) a.tmps.toList (A2 ks s.t)∧RelI I0 X w0 I2 g2 ⟨A2 ks s.t,os2.set s.o.length .dead⟩ a w':=by
 have hlo:s.o.length+1≤os2.length:=h2.lo
 have hX:∀b,Xof g' (r9 s.o (.kl [])) b→b<w.heap.size∧a2o X w0 b:=fun b ⟨k,o,ho,hd,hb⟩=>by
  rw [a01] at ho
  rcases c9N k s.o.length with hlt|hge
  ·rw [c9l hlt] at ho
   rw [hg k hlt] at hb
   exact (h.obj k o ho).blk hd b hb
  ·have hlt:=(c8S.1 ho).1
   rw [c8U,d00] at hlt
   have:k=s.o.length:=by omega
   subst this
   rw [hgn] at hb
   exact hb.elim
 have hM:∀b,a2o (Xof g' (r9 s.o (.kl []))) ⟨w,g',s.o.length+1,[]⟩ b→a2o X w0 b:=fun b hb=>by
  rcases hb with hb|hb
  ·exact .inl (d0k h.fr.size hb)
  ·exact (hX b hb).2
 have hst:∀k,k<s.o.length→W7 (g k)=true→g2 k=g k:=fun k hk hr=>by
  rw [←hg k hk] at hr ⊢
  exact h2.st k (Nat.lt_succ_of_lt hk) hr
 have hkl:∀k,k<s.o.length→k∉ks→g2 k=g k∨g k=.nilFunc:=fun k hk0 hks=>by
  obtain ⟨us,e1,e2,e3⟩:=h2.obj _ _ hk
  have e4:=h2.st s.o.length (Nat.lt_succ_self _) (by show W7 (g' s.o.length)=true;rw [hgn];rfl)
  have e5:g2 s.o.length=g' s.o.length:=e4
  rw [e5,hgn] at e1
  have e1:=Value.agg.inj e1
  have hu:us[k]?=some (g k):=by rw [←e1];simp [hk0]
  rcases e3 k _ hu with e6|e6|e6
  ·exact .inr e6
  ·exact .inl e6
  ·exact absurd e6 hks
 have hget:∀(k:Nat) (o:O),(os2.set s.o.length O.dead)[k]?=some o→o=O.dead∨os2[k]?=some o:=fun k o ho=>by
  by_cases e:s.o.length=k
  ·subst e
   rw [c93 (by omega)] at ho
   exact .inl (Option.some.inj ho).symm
  ·rw [c9p e] at ho
   exact .inr ho
 have hlv:∀k,M5 ⟨A2 ks s.t,os2.set s.o.length .dead⟩ k→M5 ⟨t2,os2⟩ k:=fun k ⟨o,ho,hd⟩=>⟨o,(hget k o ho).resolve_left hd,hd⟩
 have hcut:j8 I2 w' (a4T s.o.length g2) a.tmps.toList (A2 ks s.t):=by
  classical
  have h3:j8 I w (fun k=>if k<s.o.length then g2 k else g k) a.tmps.toList (A2 ks s.t):=by
   refine a5L ks (fun k=>if g k=.nilFunc∧k<s.o.length then g2 k else g k) (fun j hj=>?_) (fun j hr=>?_) (h.tmp.more fun k hk=>?_)
   ·by_cases hlt:j<s.o.length
    ·rw [c8Y hlt]
     rcases hkl j hlt hj with e|e
     ·by_cases e':g j=.nilFunc
      ·rw [c8Y ⟨e',hlt⟩]
      ·rw [c8W (fun h=>e' h.1)];exact e
     ·rw [c8Y ⟨e,hlt⟩]
    ·rw [c8W hlt,c8W (fun h=>hlt h.2)]
   ·by_cases hlt:j<s.o.length
    ·rw [c8Y hlt]
     by_cases e':g j=.nilFunc
     ·rw [c8Y ⟨e',hlt⟩]
     ·rw [c8W (fun h=>e' h.1)] at hr ⊢
      exact hst j hlt hr
    ·rw [c8W hlt,c8W (fun h=>hlt h.2)]
   ·rw [c8W (fun h=>hk h.1)]
  refine (h3.more fun k hk=>?_).mono (fun b k hb=>h2.im b k hb) h2.kp
  unfold a4T
  by_cases hc:k<s.o.length
  ·rw [c8Y hc,c8Y hc]
  ·rw [c8W hc] at hk
   exact absurd (h.out k (by omega)) hk
 refine ⟨hcut,?_⟩
 refine ⟨fun b k hb=>h2.im b k (h.im b k hb),fun b k hb=>⟨(h2.lt b k hb).1,fun hlt=>?_⟩,⟨h2.fr.os.trans h.fr.os,h2.fr.tape.trans h.fr.tape,h2.fr.output.trans h.fr.output,d0k h.fr.size h2.fr.size,fun b hb hx=>?_⟩,h.kp.trans fun b k hb i hi=>h2.kp b k (h.im b k hb) i hi,?_,fun k hk' hr=>?_,fun k o ho=>?_,fun j k b hj hk'=>h2.dis j k b (hlv j hj) (hlv k hk'),fun k hk'=>?_,?_,h.dfr⟩
 ·rcases (h2.lt b k hb).2 (c9U hlt h.fr.size) with h3|h3
  ·exact (h.lt b k h3).2 hlt
  ·rcases (hX b h3).2 with h4|h4
   ·omega
   ·exact .inr h4
 ·refine (h2.fr.block b (c9U hb h.fr.size) fun hx'=>?_).trans (h.fr.block b hb hx)
  rcases (hX b hx').2 with h4|h4
  ·omega
  ·exact hx h4
 ·show w0.n≤(os2.set s.o.length .dead).length
  have:=h.lo
  rw [c9u]
  omega
 ·have e:=h.st k hk' hr
  have hlt:k<s.o.length:=c9U hk' h.lo
  rw [←e] at hr ⊢
  exact hst k hlt hr
 ·rcases hget k o ho with rfl|ho
  ·exact True.intro
  have hob:=h2.obj k o ho
  cases o with
  | dead=>exact True.intro
  | box cs =>
   obtain ⟨b,us,t,e1,e2,e3,e4,e5,e6⟩:=hob
   exact ⟨b,us,t,e1,e2,e3,e4,e5,hM b e6⟩
  | row z e rows =>
   obtain ⟨us,e1,e2,e3,e4⟩:=hob
   exact ⟨us,e1,e2,e3,fun b hb=>⟨(e4 b hb).1,(e4 b hb).2.1,hM b (e4 b hb).2.2⟩⟩
  | mp kt es =>
   obtain ⟨b,l,c,e1,e2,e3,e4,e5⟩:=hob
   exact ⟨b,l,c,e1,e2,e3,e4,hM b e5⟩
  | ob T vs =>
   obtain ⟨b,e1,e2,e4,e5⟩:=hob
   exact ⟨b,e1,e2,e4,hM b e5⟩
  | it P =>
   obtain ⟨A,n,cap,F,e1,e2,e3,e4⟩:=hob
   exact ⟨A,n,cap,F,e1,e2,e3,fun b hb=>⟨(e4 b hb).1,(e4 b hb).2.1,hM b (e4 b hb).2.2⟩⟩
  | kl js=>exact hob
 ·have hk':(os2.set s.o.length .dead).length≤k:=hk'
  rw [c9u] at hk'
  exact h2.out k hk'
 ·exact (hcut.more fun k hk=>by unfold a4T at hk ⊢;split at hk <;> first|rw [c8Y (by assumption)]|exact absurd rfl hk)
theorem RelI.trim (h:RelI I0 X w0 I g s a w) {n:Nat} (hn:w0.n≤n) (hnl:n≤s.o.length) (h1:j8 I w (a4T n g) a.tmps.toList s.t) (h2:a1U n (s.o.take n)=true):RelI I0 X w0 I (a4T n g) ⟨s.t,s.o.take n⟩ a w:=by
 have hl:(s.o.take n).length=n:=by simp;omega
 have hg:∀k,k<n→a4T n g k=g k:=fun k hk=>c8Y hk
 have hget:∀k o,(s.o.take n)[k]?=some o→k<n∧s.o[k]?=some o:=fun k o ho=>by
  rw [c91] at ho
  split at ho
  ·exact ⟨by assumption,ho⟩
  ·cases ho
 have hlv:∀k,M5 ⟨s.t,s.o.take n⟩ k→k<n∧M5 s k:=fun k ⟨o,ho,hd⟩=>⟨(hget k o ho).1,o,(hget k o ho).2,hd⟩
 refine ⟨h.im,h.lt,h.fr,h.kp,by show w0.n≤(s.o.take n).length;omega,fun k hk hr=>(hg k (by omega)).trans (h.st k hk hr),fun k o ho=>?_,fun j k b hj hk hbj hbk=>?_,fun k hk=>c8W (by have hk:(s.o.take n).length≤k:=hk;omega),h1,h.dfr⟩
 ·obtain ⟨hk,hso⟩:=hget k o ho
  have hob:=h.obj k o hso
  cases o with
  | dead=>exact True.intro
  | box cs =>
   obtain ⟨b,us,t,e1,e2,e3,e4⟩:=hob
   exact ⟨b,us,t,(hg k hk).trans e1,e2,a6V hg e3 (a4J h2 ho),e4⟩
  | row z e rows =>
   obtain ⟨us,e1,e2,e3,e4⟩:=hob
   exact ⟨us,by rw [hg k hk];exact e1,e2,e3,by rw [hg k hk];exact e4⟩
  | mp kt es =>
   obtain ⟨b,l,c,e1,e2⟩:=hob
   exact ⟨b,l,c,(hg k hk).trans e1,e2⟩
  | ob T vs =>
   obtain ⟨b,e1,e2⟩:=hob
   exact ⟨b,(hg k hk).trans e1,e2⟩
  | it P =>
   obtain ⟨A,n',cap,F,e1,e2⟩:=hob
   exact ⟨A,n',cap,F,(hg k hk).trans e1,e2⟩
  | kl ks =>
   obtain ⟨us,e1,e2,e3⟩:=hob
   refine ⟨us,(hg k hk).trans e1,e2,fun j u hu=>?_⟩
   have hj:=(c9g.1 hu).1
   rcases e3 j u hu with e4|e4|e4
   ·exact .inl e4
   ·exact .inr (.inl ((hg j (by omega)).trans e4))
   ·exact .inr (.inr e4)
 ·obtain ⟨hj1,hj2⟩:=hlv j hj
  obtain ⟨hk1,hk2⟩:=hlv k hk
  rw [hg j hj1] at hbj
  rw [hg k hk1] at hbk
  exact h.dis j k b hj2 hk2 hbj hbk
theorem b8J {f:Nat} {fn:Func} {c:Code} {vs:List V} {o:List O} {K:V→List O→List Nat→Prop} (hf:Try.prog.funcs[f]?=some fn) (hb:fn.body=some c) (hn:(fn.name != "runtime.NumGoroutine")=true) (hc:o4 Try.prog c=true) (hr:J9 fn.results.toList=true)
  (h:B4 f7 c (a3h vs o (fn.ntmps - C4 vs)) (fun x s=>c1C f7 (m7 o) K fn.results.toList x s)):L8 f vs o K:=by
 refine ⟨by unfold a2q;rw [hf];simp only [hn,hb];rfl,?_⟩
 intro I0 X w0 I g t a w us hrel hv
 refine calls_of_wp hf hb ?_
 have hsz:us.toArray.size=C4 vs:=by rw [H4];simp [hv.1]
 rw [hsz]
 obtain ⟨g',hg,hgn,h1⟩:=hrel.rebase hv
 have hstart:RelI I (Xof g' (r9 o (.kl []))) ⟨w,g',o.length+1,[]⟩ I g' (a3h vs o (fn.ntmps - C4 vs)) { tmps:=us.toArray++Array.replicate (fn.ntmps - C4 vs) undef,defers:=[] } w:=by
  refine ⟨h1.im,h1.lt,h1.fr,h1.kp,h1.lo,h1.st,h1.obj,h1.dis,h1.out,?_,rfl,h1.dfr.2⟩
  show j8 I w _ (us.toArray++Array.replicate (fn.ntmps - C4 vs) undef).toList (a2G vs (uns (fn.ntmps - C4 vs)))
  rw [a0s,d06,a5Y]
  refine j8.append h1.tmp ?_
  rw [d0z]
  refine ⟨by simp,fun i u c hu hc=>?_⟩
  rw [d0l] at hu hc
  split at hu
  ·rename_i hi
   rw [c8Y hi] at hc
   injection hu with hu
   injection hc with hc
   subst hu;subst hc
   exact .tu [] [] rfl fun i u c hu _=>by simp at hu
  ·cases hu
 refine a6Y c _ _ _ _ _ hc ⟨I,_,hstart⟩ h fun e s' a' w' hrel2 hk=>?_
 have key:a4q f7 s' fn.results.toList (fun vs=>b4O (m7 o) K vs s')→a'.defers=[]∧∃v,(results fn a'.tmps).run Try.prog w'=.ok v w'∧∃v' x o' ks I' g',Ending.returned v=.returned v'∧RelI I0 X w0 I' g' ⟨A2 ks t,o'⟩ a w'∧AtV I' w' g' v' x∧K x o' ks:=fun hk=>by
  obtain ⟨I2,g2,h2⟩:=hrel2
  obtain ⟨us2,res,r1,r2,r3⟩:=a17 h2 hr hk
  unfold b4O at r3
  split at r3 <;> try exact r3.elim
  rename_i ks hks
  have hks':=A6 hks (by simp)
  rw [o9] at hks' r3
  obtain ⟨hcut,h3⟩:=hrel.unbase hg hgn h2 hks'
  have hlo:o.length+1≤s'.o.length:=h2.lo
  have hx:=b4P r2
  refine ⟨h2.dfr.1,_,r1,pkg us2,Z8 res,b8I o.length (Z8 res) s'.o,ks,I2,?_⟩
  unfold b8I at r3 ⊢
  split
  ·rename_i hl2
   rw [hl2] at r3
   simp only at r3
   split
   ·rename_i hlo2
    rw [hlo2] at r3
    simp only at r3
    rw [a5e] at hlo2 r3 ⊢
    have e:(s'.o.set o.length .dead).take o.length=s'.o.take o.length:=by
     rw [d0M (c9c _)]
    have h4:=h3.trim (n:=o.length) hrel.lo (by show o.length≤(s'.o.set _ _).length;rw [c9u];omega) hcut (by show a1U _ ((s'.o.set _ _).take _)=true;rw [e];exact hlo2)
    refine ⟨a4T o.length g2,rfl,?_,b4N (fun k hk=>c8Y hk) hx hl2,r3⟩
    have h5:(⟨A2 ks t,(s'.o.set o.length .dead).take o.length⟩:S)=⟨A2 ks t,s'.o.take o.length⟩:=by rw [e]
    rw [←h5]
    exact h4
   ·rename_i hlo2
    rw [hlo2] at r3
    simp only at r3
    rw [G7] at r3 ⊢
    exact ⟨g2,rfl,h3,hx,r3⟩
  ·rename_i hl2
   rw [hl2] at r3
   simp only at r3
   rw [G7] at r3 ⊢
   exact ⟨g2,rfl,h3,hx,r3⟩
 cases e with
 | normal=>exact key hk
 | exit i=>exact hk.elim
 | ret=>exact key hk
theorem b4Q {n:Nat} (hout:∀k,n≤k→g k=.nilFunc):∀ {cs:List V} {us:List Value},j8 I w g us cs→(∀u∈us,u.oneCell'=true)→a7v n cs=true
 | [],us,h,_=>rfl
 | c::cs,us,h,h1=>by
  obtain ⟨u,us',rfl,h2,h3⟩:=h.uncons
  have hlt:∀k,g k≠.nilFunc→Nat.blt k n=true:=fun k hk=>by
   rw [d0d]
   rcases c9N k n with h4|h4
   ·exact h4
   ·exact absurd (hout k h4) hk
  have hc:a2H n c=true:=by
   have hu:=h1 u (c8V ..)
   cases h2 with
   | d hh=>rfl
   | ag=>cases hu
   | tu=>cases hu
   | em=>rfl
   | own k A m cap hh=>exact hlt k (by intro e;rw [e] at hh;cases hh)
   | ptr k off b hh=>exact hlt k (by rw [hh];simp)
   | cl f us ks hl hh =>
    rw [a2H]
    have key:∀(ks:List Nat),(∀k∈ks,g k≠.nilFunc)→b6e n ks=true:=by
     intro ks
     induction ks with
     | nil=>intro _;rfl
     | cons k ks ih =>
      intro h
      rw [b6e,hlt k (h k (c8V ..))]
      exact ih fun k hk=>h k (c8X _ hk)
    refine key ks fun k hk=>?_
    obtain ⟨i,hi⟩:=c9A.1 hk
    have hlt':i<us.length:=by rw [hl];exact (c8S.1 hi).1
    obtain ⟨_,b,hb⟩:=hh i _ k (c8T hlt') hi
    rw [hb];simp
   | el k i sz off b m cap hh=>exact hlt k (by rw [hh];simp)
   | ro b o off us cs hi hc hd=>rfl
   | mp k b hh=>exact hlt k (by rw [hh];simp)
   | bs k n' b cap hh hn=>exact hlt k (by rw [hh];simp)
   | jk v=>rfl
  rw [a7v,hc]
  exact b4Q hout h3 fun u hu=>h1 u (c8X _ hu)
theorem RelI.low (h:RelI I0 X w0 I g s a w):a1U s.o.length s.o=true:=by
 have key:∀l:List O,(∀o∈l,∀cs,o=.box cs→a7v s.o.length cs=true)→a1U s.o.length l=true:=by
  intro l
  induction l with
  | nil=>intro _;rfl
  | cons o l ih =>
   intro h
   have h2:=ih fun o ho=>h o (c8X _ ho)
   cases o with
   | box cs=>rw [a1U,h _ (c8V ..) cs rfl];exact h2
   | _=>exact h2
 refine key s.o fun o ho cs e=>?_
 subst e
 obtain ⟨k,hk⟩:=c9A.1 ho
 obtain ⟨b,us,t,h1,h2,h3,h4,_⟩:=h.obj k _ hk
 exact b4Q h.out h3 h4
def a8d (p:Nat):List Nat→List Nat
 | []=>[]
 | k::l=>match Nat.ble p k with|true=>a8d p l|false=>k::a8d p l
def b8K (p:Nat):O→O
 | .kl ks=>.kl (a8d p ks)
 | x=>x
def a1o:Nat→List O→List O
 | _,[]=>[]
 | p,x::l=>b8K p x::a1o (p+1) l
theorem a4r {p:Nat}:∀ {l:List Nat} {k:Nat},k∈l→k<p→k∈a8d p l
 | [],k,h,_=>by simp at h
 | j::l,k,h,hp=>by
  rw [a8d]
  split
  ·rename_i hj
   rcases c9e.1 h with rfl|h
   ·have:=d0D hj;omega
   ·exact a4r h hp
  ·rcases c9e.1 h with rfl|h
   ·exact c8V ..
   ·exact c8X _ (a4r h hp)
theorem a5Z:∀(l:List O) (p i:Nat),(a1o p l)[i]?=(l[i]?).map (b8K (p+i))
 | [],p,i=>by simp [a1o]
 | x::l,p,0=>by simp [a1o]
 | x::l,p,i+1=>by rw [a1o];simp only [d0w];rw [a5Z l (p+1) i];congr 2;omega
theorem a6a (p:Nat) (l:List O):(a1o p l).length=l.length:=by
 induction l generalizing p with
 | nil=>rfl
 | cons x l ih=>rw [a1o,c9a,ih,c9a]
theorem b3C {p:Nat} {o:O} (h:b8K p o≠.dead):o≠.dead:=by rintro rfl;exact h rfl
theorem RelI.trimKl (h:RelI I0 X w0 I g s a w):RelI I0 X w0 I g ⟨s.t,a1o 0 s.o⟩ a w:=by
 have hlv:∀k,M5 ⟨s.t,a1o 0 s.o⟩ k→M5 s k:=fun k ⟨o,ho,hd⟩=>by
  simp only [a5Z,c9Z] at ho
  obtain ⟨o',ho',rfl⟩:=ho
  exact ⟨o',ho',b3C hd⟩
 refine ⟨h.im,h.lt,h.fr,h.kp,by rw [a6a];exact h.lo,h.st,fun j o hj=>?_,fun i j b hi hj=>h.dis i j b (hlv i hi) (hlv j hj),fun j hj=>h.out j (by rw [a6a] at hj;exact hj),h.tmp,h.dfr⟩
 simp only [a5Z,c9Z,c9L] at hj
 obtain ⟨o',ho',rfl⟩:=hj
 have hob:=h.obj j o' ho'
 cases o' with
 | kl ks =>
  obtain ⟨us,e1,e2,e3⟩:=hob
  refine ⟨us,e1,e2,fun i u hu=>?_⟩
  rcases e3 i u hu with e4|e4|e4
  ·exact .inl e4
  ·exact .inr (.inl e4)
  ·have:=(c9g.1 hu).1
   exact .inr (.inr (a4r e4 (by omega)))
 | _=>exact hob
end
def a6b (i:Nat):List V→Bool
 | []=>false
 | .own k::l=>match L7 k i with|true=>true|false=>a6b i l
 | _::l=>a6b i l
def b4R:Nat→List V→Bool
 | 0,_=>true
 | n+1,vs=>match a6b n vs with|true=>b4R n vs|false=>false
theorem a9I {i:Nat}:∀ {l:List V},a6b i l=true→∃p:Nat,l[p]?=some (V.own i)
 | [],h=>by cases h
 | x::l,h=>by
  have C9:a6b i l=true→∃p:Nat,(x::l)[p]?=some (V.own i):=fun h=>by
   obtain ⟨p,hp⟩:=a9I h
   exact ⟨p+1,by simpa using hp⟩
  unfold a6b at h
  split at h
  ·cases ‹_=[]›
  ·rename_i k l' e
   injection e with e1 e2
   subst e1;subst e2
   split at h
   ·rename_i hk
    rw [C1] at hk
    subst hk
    exact ⟨0,rfl⟩
   ·exact C9 h
  ·rename_i e
   injection e with e1 e2
   subst e2
   exact C9 h
theorem b2i:∀ {n:Nat} {vs:List V},b4R n vs=true→∀i,i<n→∃p:Nat,vs[p]?=some (V.own i)
 | 0,_,_,i,hi=>absurd hi (d1k _)
 | n+1,vs,h,i,hi=>by
  rw [b4R] at h
  split at h
  ·rename_i h1
   by_cases e:i=n
   ·subst e;exact a9I h1
   ·exact b2i h i (by omega)
  ·cases h
theorem c34 {I:Nat→Nat→Prop} {w:World} {g:Nat→Value}:∀ {res:List V} {v:Value},AtV I w g v (Z8 res)→∃us,v=pkg us∧j8 I w g us res
 | [],v,h=>by
  obtain ⟨us,rfl,h2⟩:=AtV.untu h
  exact ⟨us,by rw [h2.unnil];rfl,h2⟩
 | [r],v,h=>⟨[v],rfl,.cons h (.nil I w g)⟩
 | r::r'::res,v,h=>by
  obtain ⟨us,rfl,h2⟩:=AtV.untu h
  obtain ⟨u,us',rfl,_,h4⟩:=h2.uncons
  obtain ⟨u',us'',rfl,_,_⟩:=h4.uncons
  exact ⟨_,rfl,h2⟩
def c1D:Nat→List O→Bool
 | 0,_=>true
 | n+1,.row _ _ _::l=>c1D n l
 | _,_=>false
theorem b0M:∀ {n:Nat} {l:List O},c1D n l=true→∀i,i<n→∃z e r,l[i]?=some (O.row z e r)
 | 0,_,_,i,hi=>absurd hi (d1k _)
 | n+1,[],h,_,_=>by cases h
 | n+1,o::l,h,i,hi=>by
  cases o with
  | row z e r =>
   cases i with
   | zero=>exact ⟨z,e,r,rfl⟩
   | succ i=>exact b0M (n:=n) (l:=l) h i (by omega)
  | _=>cases h
theorem a06 {f:Nat} {fn:Func} {c:Code} {vs:List V} {os:List O} {Q:List V→List O→Prop} (hf:Try.prog.funcs[f]?=some fn) (hb:fn.body=some c) (hn:(fn.name != "runtime.NumGoroutine")=true) (hc:o4 Try.prog c=true) (hr:J9 fn.results.toList=true) (hs:b4R (m7 os) vs=true) (hos:c1D (m7 os) os=true) (hq:∀res o',Q res o'→c1D (m7 os) o'=true)
  (h:∀qa qb qc qd qe qg qh qi qj qk ql qm qo qp qq qt qu qv qw qx qy qz va vc vd ve vf vg vh vj vk vl vm vn vo vp vq vr vt vu vv vw vx,Ar.mk qa qb qc qd qe qg qh qi qj qk ql qm qo qp qq qt qu qv qw qx qy qz va vc vd ve vf vg vh vj vk vl vm vn vo vp vq vr vt vu vv vw vx=f7→∀K:V→List O→List Nat→Prop,(∀res o',Q res o'→K (Z8 res) o' [])→B4 (Ar.mk qa qb qc qd qe qg qh qi qj qk ql qm qo qp qq qt qu qv qw qx qy qz va vc vd ve vf vg vh vj vk vl vm vn vo vp vq vr vt vu vv vw vx) c (a3h vs os (fn.ntmps - C4 vs)) (fun x s=>c1C (Ar.mk qa qb qc qd qe qg qh qi qj qk ql qm qo qp qq qt qu qv qw qx qy qz va vc vd ve vf vg vh vj vk vl vm vn vo vp vq vr vt vu vv vw vx) (m7 os) K fn.results.toList x s)):A4 f vs os Q:=by
 have h0:=b8J (K:=fun x o' ks=>ks=[]∧∃res,x=Z8 res∧Q res o') (vs:=vs) (o:=os) hf hb hn hc hr (h _ _ _ _ _ _ _ _ _ _ _ _ _ _ _ _ _ _ _ _ _ _ _ _ _ _ _ _ _ _ _ _ _ _ _ _ _ _ _ _ _ _ _ (show Ar.mk f7.wrap f7.add f7.sub f7.mul f7.quo f7.rem f7.bits f7.lt f7.le f7.eq f7.nz f7.seq f7.slt f7.bytes f7.cat f7.fits f7.slen f7.sget f7.ssub f7.txt f7.byt f7.nat f7.len f7.get f7.sub2 f7.app f7.set f7.room f7.mlook f7.mput f7.deq f7.rep f7.call f7.calld f7.callo f7.callx f7.new f7.lit f7.keep f7.next f7.ext f7.reg f7.loop=f7 from rfl) _ fun res o' hq=>⟨rfl,res,rfl,hq⟩)
 refine ⟨h0.1,fun I w g args hrel=>?_⟩
 refine (h0.2 I (Xof g os) ⟨w,g,os.length,[]⟩ I g vs { tmps:=args.toArray,defers:=[] } w args hrel hrel.tmp).mono ?_
 rintro e w' ⟨v,x,o',ks,I',g',rfl,h',hv,rfl,res,rfl,hQ⟩
 obtain ⟨us,rfl,hus⟩:=c34 hv
 refine ⟨us,res,o',I',g',rfl,⟨hQ,fun i hi=>?_⟩,⟨h'.im,h'.lt,h'.fr,h'.kp,h'.lo,h'.st,h'.obj,h'.dis,h'.out,hus,rfl,h'.dfr.2⟩⟩
 have hq2:=hq _ _ hQ
 rw [o9] at hs hos hq2
 obtain ⟨p,hp⟩:=b2i hs i hi
 obtain ⟨z1,f1,r1,ho1⟩:=b0M hos i hi
 obtain ⟨z2,f2,r2,ho2⟩:=b0M hq2 i hi
 obtain ⟨us1,hw1,_⟩:=hrel.obj i _ ho1
 obtain ⟨us2,hw2,_⟩:=h'.obj i _ ho2
 have e1:j8 I w g args vs:=hrel.tmp
 have e2:j8 I' w' g' args vs:=h'.tmp
 have hlt:p<args.length:=by rw [e1.1];exact (c8S.1 hp).1
 have ha:args[p]?=some args[p]:=c8T hlt
 rw [←a1E hw1,←a1E hw2,←(e1.2 p _ _ ha hp).unown.1,←(e2.2 p _ _ ha hp).unown.1]
section
variable {f:Nat} {fn:Func} {c:Code}
theorem sp9 {rs q:List R} (hf:Try.prog.funcs[f]?=some fn) (hb:fn.body=some c) (h:∀qa qb qc qd qe qg qh qi qj qk ql qm qo qp qq qt qu qv qw qx qy qz va vc vd ve vf vg vh vj vk vl vm vn vo vp vq vr vt vu vv vw vx,Ar.mk qa qb qc qd qe qg qh qi qj qk ql qm qo qp qq qt qu qv qw qx qy qz va vc vd ve vf vg vh vj vk vl vm vn vo vp vq vr vt vu vv vw vx=f7→B4 (Ar.mk qa qb qc qd qe qg qh qi qj qk ql qm qo qp qq qt qu qv qw qx qy qz va vc vd ve vf vg vh vj vk vl vm vn vo vp vq vr vt vu vv vw vx) c (a3X rs (fn.ntmps - C4 rs)) (fun x s=>c19 (Ar.mk qa qb qc qd qe qg qh qi qj qk ql qm qo qp qq qt qu qv qw qx qy qz va vc vd ve vf vg vh vj vk vl vm vn vo vp vq vr vt vu vv vw vx) fn.results.toList q x s)) (hn:(fn.name != "runtime.NumGoroutine")=true:=by kernel_rfl) (hc:o4 Try.prog c=true:=by kernel_rfl) (hr:J9 fn.results.toList=true:=by kernel_rfl):A0 f rs q:=b0K hf hb hn hc hr h
theorem N9 {vs:List V} {os:List O} {Q:List V→List O→Prop} (hf:Try.prog.funcs[f]?=some fn) (hb:fn.body=some c) (h:∀qa qb qc qd qe qg qh qi qj qk ql qm qo qp qq qt qu qv qw qx qy qz va vc vd ve vf vg vh vj vk vl vm vn vo vp vq vr vt vu vv vw vx,Ar.mk qa qb qc qd qe qg qh qi qj qk ql qm qo qp qq qt qu qv qw qx qy qz va vc vd ve vf vg vh vj vk vl vm vn vo vp vq vr vt vu vv vw vx=f7→B4 (Ar.mk qa qb qc qd qe qg qh qi qj qk ql qm qo qp qq qt qu qv qw qx qy qz va vc vd ve vf vg vh vj vk vl vm vn vo vp vq vr vt vu vv vw vx) c (a1J vs os (fn.ntmps - C4 vs)) (fun x s=>c1A (Ar.mk qa qb qc qd qe qg qh qi qj qk ql qm qo qp qq qt qu qv qw qx qy qz va vc vd ve vf vg vh vj vk vl vm vn vo vp vq vr vt vu vv vw vx) (m7 os) Q fn.results.toList x s)) (hn:(fn.name != "runtime.NumGoroutine")=true:=by kernel_rfl) (hc:o4 Try.prog c=true:=by kernel_rfl) (hr:J9 fn.results.toList=true:=by kernel_rfl):n7 f vs os Q:=a8c hf hb hn hc hr h
end
end
section
def wrO:List Oper→List Nat→List Nat
 | [],acc=>acc
 | ⟨some d,_,_,_,_,_⟩::l,acc=>d::wrO l acc
 | _::l,acc=>wrO l acc
def wr:Code→List Nat→List Nat
 | .region _ ops _,acc=>wrO ops.toList acc
 | .seq c d,acc=>wr c (wr d acc)
 | .cond _ c d,acc=>wr c (wr d acc)
 | .block _ c,acc=>wr c acc
 | .loop c,acc=>wr c acc
 | _,acc=>acc
def b8L:List Nat→List V→List V
 | [],t=>t
 | i::l,t=>b8L l (E6 t i .jk)
def b4S:List (Nat×V)→List V→List V
 | [],t=>t
 | (i,v)::l,t=>b4S l (E6 t i v)
def b4T:List (Nat×O)→List O→List O
 | [],o=>o
 | (k,x)::l,o=>b4T l (G8 o k x)
theorem a9J:∀(l:List (Nat×O)) (o:List O),(b4T l o).length=o.length
 | [],_=>rfl
 | (k,x)::l,o=>by rw [b4T,a9J l,G7,c9u]
def head (c:Code) (s:S) (l:List (Nat×V)) (m:List (Nat×O)):S:=⟨b4S l (b8L (wr c []) s.t),b4T m s.o⟩
def K2:Code→Code
 | .seq c _=>c
 | c=>c
def j6:Code→Code
 | .seq _ c=>c
 | c=>c
section
variable {I0:Nat→Nat→Prop} {X:Nat→Prop} {w0:W0} {I:Nat→Nat→Prop} {g:Nat→Value} {s:S} {a:Act} {w:World}
theorem RelI.reread (h:RelI I0 X w0 I g s a w) {i:Nat} {x:V} (hx:∀v,a.tmps.toList[i]?=some v→AtV I w g v x):RelI I0 X w0 I g ⟨E6 s.t i x,s.o⟩ a w:=by
 refine ⟨h.im,h.lt,h.fr,h.kp,h.lo,h.st,h.obj,h.dis,h.out,?_,h.dfr⟩
 rw [a0q]
 refine ⟨by rw [c9u];exact h.tmp.1,fun j v y hv hy=>?_⟩
 by_cases hji:i=j
 ·subst hji
  have hlt:i<s.t.length:=by have:=(c8S.1 hy).1;rw [c9u] at this;exact this
  rw [c93 hlt] at hy
  cases hy
  exact hx v hv
 ·rw [c9p hji] at hy
  exact h.tmp.2 j v y hv hy
end
theorem K8.own (s:S) (i e:Nat) (z:Bool) (hi:n6 s.t i=.em):K8 s ⟨E6 s.t i (.own (m7 s.o)),r9 s.o (.row z e [])⟩:=by
 rintro I0 X w0 a w ⟨I,g,h⟩
 have h2:=h.newObj (.row z e []) (.slice none 0 0) ⟨[],by rw [n8];exact World.ownsRow_nil w 0 e _,by simp,B0.nil I w,fun b hb=>by rw [n8] at hb;cases hb⟩ (fun j b _ _ hb=>by cases hb)
 refine ⟨I,upd g s.o.length (.slice none 0 0),?_⟩
 have h3:RelI I0 X w0 I (upd g s.o.length (.slice none 0 0)) ⟨s.t,r9 s.o (.row z e [])⟩ a w:=h2
 refine h3.reread fun v hv=>?_
 have hs:=a0Y hi (by simp)
 have h4:=h.tmp.2 i v _ hv hs
 rw [h4.unem]
 exact .own _ _ _ _ (by rw [o9,n8];rfl)
theorem K8.weaker (s s':S) (hw:Vm.weak s s') (hl:m7 s.o=m7 s'.o):K8 s s':=fun I0 X w0 a w h=>h.weak (by
 obtain ⟨I,g,h⟩:=h
 have:=h.lo
 rw [←o9,←hl,o9]
 exact this) (.inr hw)
section
variable {qa:IntKind→Int→Int} {qb:Int→Int→Int} {qc:Int→Int→Int} {qd:Int→Int→Int} {qe:Int→Int→Int} {qg:Int→Int→Int} {qh:BinOp→IntKind→Int→IntKind→Int→Option Int} {qi:Int→Int→Bool} {qj:Int→Int→Bool} {qk:Int→Int→Bool} {ql:Int→Prop→Prop} {qm:List UInt8→List UInt8→Bool} {qo:List UInt8→List UInt8→Bool} {qp:ByteArray→List UInt8} {qq:ByteArray→ByteArray→ByteArray} {qt:ByteArray→ByteArray→Prop→Prop} {qu:ByteArray→Int} {qv:ByteArray→Int→Option Int} {qw:ByteArray→Int→Int→Option ByteArray} {qx:List (List D)→Option ByteArray} {qy:ByteArray→List (List D)} {qz:Int→Nat→Option Nat} {va:List (List D)→Int} {vc:List (List D)→Int→Option (List D)} {vd:List (List D)→Int→Int→Option (List (List D))} {ve:List (List D)→List (List D)→List (List D)} {vf:List (List D)→Int→List D→List (List D)} {vg:List (List D)→List (List D)→Prop→Prop} {vh:List (R×R)→R→Option R} {vj:List (R×R)→R→R→List (R×R)} {vk:List D→List D→Bool} {vl:Int→List D→(List (List D)→Prop)→Prop} {vm:Nat→List R→(List R→Prop)→Prop} {vn:Nat→List V→List O→(V→Prop)→Prop} {vo:Nat→List V→S→(V→S→Prop)→Prop} {vp:Nat→List V→List Nat→S→(V→S→Prop)→Prop} {vq:Nat→(Bool→Prop)→Prop} {vr:Nat→(Bool→Prop)→Prop} {vt:Nat→(List V→List O→Prop)→List V→S→Prop} {vu:(S→Prop)→S→Prop} {vv:Op→Option Nat→S→(S→Prop)→Prop} {vw:Array Oper→S→(S→Prop)→Prop} {vx:Code→(S→(X→S→Prop)→Prop)→S→(X→S→Prop)→Prop}
theorem o7 (hA:Ar.mk qa qb qc qd qe qg qh qi qj qk ql qm qo qp qq qt qu qv qw qx qy qz va vc vd ve vf vg vh vj vk vl vm vn vo vp vq vr vt vu vv vw vx=f7) {c:Code} {body:S→(X→S→Prop)→Prop} {s:S} {K:X→S→Prop} {γ:Type} (slots:γ→List (Nat×V)) (objs:γ→List (Nat×O)) (inv:γ→Prop) (μ:γ→Nat) (x0:γ) (h0:inv x0) (hw:weak s (head c s (slots x0) (objs x0)))
  (hr:∀x,inv x→body (head c s (slots x) (objs x)) (fun e s'=>b3m (fun s2=>∃y,inv y∧μ y<μ x∧weak s2 (head c s (slots y) (objs y))) K e s')):vx c body s K:=by
 have e:vx=f7.loop:=congrArg Ar.loop hA
 rw [e]
 exact .inl ⟨γ,fun x=>head c s (slots x) (objs x),inv,μ,fun x _=>by rw [o9,o9];exact Nat.le_of_eq (a9J _ _).symm,⟨x0,hw,h0⟩,hr⟩
theorem f8 (hA:Ar.mk qa qb qc qd qe qg qh qi qj qk ql qm qo qp qq qt qu qv qw qx qy qz va vc vd ve vf vg vh vj vk vl vm vn vo vp vq vr vt vu vv vw vx=f7) {N:S→Prop} {s:S} (h:N s):vu N s:=by
 have e:vu=f7.next:=congrArg Ar.next hA
 rw [e]
 exact ⟨fun s2=>s2=s,fun _ _ _ _ _ h=>⟨_,rfl,h⟩,fun s2 e=>by subst e;exact h⟩
theorem a07 (hA:Ar.mk qa qb qc qd qe qg qh qi qj qk ql qm qo qp qq qt qu qv qw qx qy qz va vc vd ve vf vg vh vj vk vl vm vn vo vp vq vr vt vu vv vw vx=f7) {N:S→Prop} {s:S} (s':S) (hg:K8 s s') (h:N s'):vu N s:=by
 have e:vu=f7.next:=congrArg Ar.next hA
 rw [e]
 exact ⟨fun s2=>s2=s',fun _ _ _ _ _ hr=>⟨_,rfl,hg _ _ _ _ _ hr⟩,fun s2 e=>by subst e;exact h⟩
theorem c4x (hA:Ar.mk qa qb qc qd qe qg qh qi qj qk ql qm qo qp qq qt qu qv qw qx qy qz va vc vd ve vf vg vh vj vk vl vm vn vo vp vq vr vt vu vv vw vx=f7) {op:Op} {dst:Option Nat} {s:S} {K:S→Prop} (h:f7.ext op dst s K):vv op dst s K:=by
 have e:vv=f7.ext:=congrArg Ar.ext hA
 rw [e]
 exact h
theorem c4y (hA:Ar.mk qa qb qc qd qe qg qh qi qj qk ql qm qo qp qq qt qu qv qw qx qy qz va vc vd ve vf vg vh vj vk vl vm vn vo vp vq vr vt vu vv vw vx=f7) {N:S→Prop} {s:S} (ks:List Nat) (h:N ⟨s.t,frz ks s.o⟩):vu N s:=a07 hA _ (K8.frz s ks) h
theorem a3j (hA:Ar.mk qa qb qc qd qe qg qh qi qj qk ql qm qo qp qq qt qu qv qw qx qy qz va vc vd ve vf vg vh vj vk vl vm vn vo vp vq vr vt vu vv vw vx=f7) {N:S→Prop} {s:S} (i e:Nat) (z:Bool) (hi:n6 s.t i=.em) (h:N ⟨E6 s.t i (.own (m7 s.o)),r9 s.o (.row z e [])⟩):vu N s:=a07 hA _ (K8.own s i e z hi) h
theorem i9 (hA:Ar.mk qa qb qc qd qe qg qh qi qj qk ql qm qo qp qq qt qu qv qw qx qy qz va vc vd ve vf vg vh vj vk vl vm vn vo vp vq vr vt vu vv vw vx=f7) {f:Nat} {vs:List V} {s:S} {rs:List R} {K:V→S→Prop} (q:List R) (h:A0 f rs q) (hr:a9d s.o vs=some rs) (hK:K (b5Z q) s):vo f vs s K:=by
 have e:vo=f7.callo:=congrArg Ar.callo hA
 rw [e]
 exact (a72 h hr).mono fun x o' ks ⟨e1,e2,e3⟩=>by subst e1;subst e2;subst e3;exact hK
theorem j5 (hA:Ar.mk qa qb qc qd qe qg qh qi qj qk ql qm qo qp qq qt qu qv qw qx qy qz va vc vd ve vf vg vh vj vk vl vm vn vo vp vq vr vt vu vv vw vx=f7) {f:Nat} {rs:List R} {K:List R→Prop} (q:List R) (h:A0 f rs q) (hK:K q):vm f rs K:=by
 have e:vm=f7.call:=congrArg Ar.call hA
 rw [e]
 exact ⟨q,h,hK⟩
theorem o6 (hA:Ar.mk qa qb qc qd qe qg qh qi qj qk ql qm qo qp qq qt qu qv qw qx qy qz va vc vd ve vf vg vh vj vk vl vm vn vo vp vq vr vt vu vv vw vx=f7) {f:Nat} {vs:List V} {s:S} {K:V→S→Prop} (ks:List Nat) {vs':List V} {os':List O} {Q:List V→List O→Prop} (h:n7 f vs' os' Q) (hs:SubOk ks vs' os' vs s) (hK:∀res os2,Q res os2→K (Z8 (upT ks (m7 s.o) res)) (a2P ks os2 s)):vo f vs s K:=by
 have e:vo=f7.callo:=congrArg Ar.callo hA
 rw [e]
 exact (b1P h hs).mono fun x o' ks' ⟨e1,res,os2,hQ,e2,e3⟩=>by subst e1;subst e2;subst e3;exact hK res os2 hQ
theorem F0 (hA:Ar.mk qa qb qc qd qe qg qh qi qj qk ql qm qo qp qq qt qu qv qw qx qy qz va vc vd ve vf vg vh vj vk vl vm vn vo vp vq vr vt vu vv vw vx=f7) {f:Nat} {vs:List V} {s:S} {K:V→S→Prop} (ks:List Nat) {vs':List V} {os':List O} {Q:List V→List O→Prop} (h:A4 f vs' os' Q) (hs:SubOk ks vs' os' vs s) (hK:∀res os2,Q res os2→K (Z8 (upT ks (m7 s.o) res)) ⟨s.t,E7 ks (N8 ks (m7 s.o) os2) s.o⟩):vo f vs s K:=by
 have e:vo=f7.callo:=congrArg Ar.callo hA
 rw [e]
 exact (a2X h hs).mono fun x o' ks' ⟨e1,res,os2,hQ,e2,e3⟩=>by subst e1;subst e2;subst e3;exact hK res os2 hQ
theorem b2j (hA:Ar.mk qa qb qc qd qe qg qh qi qj qk ql qm qo qp qq qt qu qv qw qx qy qz va vc vd ve vf vg vh vj vk vl vm vn vo vp vq vr vt vu vv vw vx=f7) {f:Nat} {vs:List V} {l:List Nat} {s:S} {K:V→S→Prop} (ks:List Nat) {vs':List V} {os':List O} {Q:List V→List O→Prop} (h:A4 f vs' os' Q) (hs:SubOk ks vs' os' vs s) (hK:∀res os2,Q res os2→a2r l s.t s.o (E7 ks (N8 ks (m7 s.o) os2) s.o)∧K (Z8 (upT ks (m7 s.o) res)) ⟨s.t,E7 ks (N8 ks (m7 s.o) os2) s.o⟩):vp f vs l s K:=by
 have e:vp=f7.callx:=congrArg Ar.callx hA
 rw [e]
 exact L8.x ((a2X h hs).mono fun x o' ks' ⟨e1,res,os2,hQ,e2,e3⟩=>⟨e1,by subst e2;subst e3;exact hK res os2 hQ⟩)
theorem a5f (hA:Ar.mk qa qb qc qd qe qg qh qi qj qk ql qm qo qp qq qt qu qv qw qx qy qz va vc vd ve vf vg vh vj vk vl vm vn vo vp vq vr vt vu vv vw vx=f7) {f:Nat} {vs:List V} {l:List Nat} {s:S} {K:V→S→Prop} {x:V} (h:a71 f vs s.o x) (hK:K x s):vp f vs l s K:=by
 have e:vp=f7.callx:=congrArg Ar.callx hA
 rw [e]
 exact h.x.mono fun y o' ⟨e1,e2⟩=>by subst e1;subst e2;exact ⟨fun _ _ _ _=>rfl,hK⟩
theorem K9 (hA:Ar.mk qa qb qc qd qe qg qh qi qj qk ql qm qo qp qq qt qu qv qw qx qy qz va vc vd ve vf vg vh vj vk vl vm vn vo vp vq vr vt vu vv vw vx=f7) {f:Nat} {vs:List V} {l:List Nat} {s:S} {rs:List R} {K:V→S→Prop} (q:List R) (h:A0 f rs q) (hr:a9d s.o vs=some rs) (hK:K (b5Z q) s):vp f vs l s K:=by
 have e:vp=f7.callx:=congrArg Ar.callx hA
 rw [e]
 exact L8.x ((a72 h hr).mono fun x o' ks ⟨e1,e2,e3⟩=>⟨e3,by subst e1;subst e2;exact ⟨fun _ _ _ _=>rfl,hK⟩⟩)
theorem a8e (t:List V) (o o':List O):a2r [] t o o':=fun i hi=>by simp at hi
theorem a6z {i:Nat} {l:List Nat} {t:List V} {o o':List O} (h:∀k,c3y (n6 t i)=some k→y6 o' k=y6 o k) (hl:a2r l t o o'):a2r (i::l) t o o':=fun j hj k hk=>by
 rcases c9e.1 hj with rfl|hj
 ·exact h k hk
 ·exact hl j hj k hk
def b3D:List O→Bool
 | []=>true
 | .box _::l=>b3D l
 | .mp _ _::l=>b3D l
 | .ob _ _::l=>b3D l
 | _=>false
theorem b4U {X:Nat→Prop} {w0:W0} {I:Nat→Nat→Prop} {w:World} {g:Nat→Value}:∀ {l:List O} {i:Nat} {o:O},b3D l=true→l[i]?=some o→∀ {k:Nat},a0b X w0 I w g k o→W7 (g k)=true
 | [],i,o,_,h,_,_=>by simp at h
 | x::l,0,o,hb,h,k,ho=>by
  simp at h
  subst h
  cases x with
  | box cs=>obtain ⟨b,us,t,e,_⟩:=ho;rw [e];rfl
  | mp kt es=>obtain ⟨b,l,c,e,_⟩:=ho;rw [e];rfl
  | ob T vs=>obtain ⟨b,e,_⟩:=ho;rw [e];rfl
  | _=>cases hb
 | x::l,i+1,o,hb,h,k,ho=>by
  have hb:b3D l=true:=by cases x <;> first|exact hb|cases hb
  exact b4U hb (by simpa using h) ho
theorem n7.box {f:Nat} {vs:List V} {os:List O} {Q:List V→List O→Prop} (h:n7 f vs os Q) (hb:b3D os=true):A4 f vs os Q :=
 ⟨h.1,fun I w g args hrel=>(h.2 I w g args hrel).mono fun e w' ⟨us,res,os2,I',g',e1,hQ,h'⟩=>⟨us,res,os2,I',g',e1,⟨hQ,fun i hi=>h'.st i hi (b4U hb (c8T hi) (hrel.obj i _ (c8T hi)))⟩,h'⟩⟩
theorem j9 (hA:Ar.mk qa qb qc qd qe qg qh qi qj qk ql qm qo qp qq qt qu qv qw qx qy qz va vc vd ve vf vg vh vj vk vl vm vn vo vp vq vr vt vu vv vw vx=f7) {n:Nat} {Q:List V→List O→Prop} {res:List V} {s:S} (ks:List Nat) {res':List V} {os':List O} (h:KeepOk n ks res' os' res s) (hQ:Q res' os'):vt n Q res s:=by
 have e:vt=f7.keep:=congrArg Ar.keep hA
 rw [e]
 exact ⟨ks,res',os',h,hQ⟩
theorem a2x (hA:Ar.mk qa qb qc qd qe qg qh qi qj qk ql qm qo qp qq qt qu qv qw qx qy qz va vc vd ve vf vg vh vj vk vl vm vn vo vp vq vr vt vu vv vw vx=f7) {e:Nat} {K:Bool→Prop} (z:Bool) (h:K z):vq e K:=by
 have e1:vq=f7.new:=congrArg Ar.new hA
 rw [e1]
 exact ⟨z,h⟩
theorem C2 (hA:Ar.mk qa qb qc qd qe qg qh qi qj qk ql qm qo qp qq qt qu qv qw qx qy qz va vc vd ve vf vg vh vj vk vl vm vn vo vp vq vr vt vu vv vw vx=f7) {t:Nat} {K:Bool→Prop} (c:Bool) (h:K c):vr t K:=by
 have e:vr=f7.lit:=congrArg Ar.lit hA
 rw [e]
 exact ⟨c,h⟩
theorem m6 (hA:Ar.mk qa qb qc qd qe qg qh qi qj qk ql qm qo qp qq qt qu qv qw qx qy qz va vc vd ve vf vg vh vj vk vl vm vn vo vp vq vr vt vu vv vw vx=f7):(∀k n,qa k n=k.wrap n)∧(∀x y,qb x y=x+y)∧(∀x y,qc x y=x - y)∧(∀x y,qd x y=x * y)∧(∀x y,qe x y=x.tdiv y)∧(∀x y,qg x y=x.tmod y)∧(∀x y,qi x y=decide (x<y))∧(∀x y,qj x y=decide (x≤y))∧(∀x y,qk x y=(x == y)):=by
 first|(injection hA;subst_vars)|subst hA
 exact ⟨fun _ _=>rfl,fun _ _=>rfl,fun _ _=>rfl,fun _ _=>rfl,fun _ _=>rfl,fun _ _=>rfl,fun _ _=>rfl,fun _ _=>rfl,fun _ _=>rfl⟩
theorem a5g (hA:Ar.mk qa qb qc qd qe qg qh qi qj qk ql qm qo qp qq qt qu qv qw qx qy qz va vc vd ve vf vg vh vj vk vl vm vn vo vp vq vr vt vu vv vw vx=f7):∀op k x k' y,qh op k x k' y=M1 op k x k' y:=by
 first|(injection hA;subst_vars)|subst hA
 exact fun _ _ _ _ _=>rfl
theorem nc (n:Nat):@NatCast.natCast Int instNatCastInt n=(n:Int):=rfl
theorem a6Z (n:Int):M1 .shr .u64 n .u64 1=some (n / 2):=by
 show some (n.fdiv (2 ^ (min 1 64)))=some (n / 2)
 rw [show (2:Int) ^ (min 1 64)=2 from rfl,Int.fdiv_eq_ediv_of_nonneg _ (by omega)]
theorem I3 (hA:Ar.mk qa qb qc qd qe qg qh qi qj qk ql qm qo qp qq qt qu qv qw qx qy qz va vc vd ve vf vg vh vj vk vl vm vn vo vp vq vr vt vu vv vw vx=f7):(∀x y,qm x y=(x == y))∧(∀x y,qo x y=Op.bytesLess x y)∧(∀b,qp b=b.toList)∧(∀x y,qq x y=x++y)∧(∀b,qu b=(b.size:Int))∧(∀b n,qv b n=f7.sget b n)∧(∀b l h,qw b l h=f7.ssub b l h):=by
 first|(injection hA;subst_vars)|subst hA
 exact ⟨fun _ _=>rfl,fun _ _=>rfl,fun _=>rfl,fun _ _=>rfl,fun _=>rfl,fun _ _=>rfl,fun _ _ _=>rfl⟩
theorem b0N (hA:Ar.mk qa qb qc qd qe qg qh qi qj qk ql qm qo qp qq qt qu qv qw qx qy qz va vc vd ve vf vg vh vj vk vl vm vn vo vp vq vr vt vu vv vw vx=f7):(∀r,qx r=a3z r)∧(∀s,qy s=a7n s):=by
 first|(injection hA;subst_vars)|subst hA
 exact ⟨fun _=>rfl,fun _=>rfl⟩
theorem C7 (hA:Ar.mk qa qb qc qd qe qg qh qi qj qk ql qm qo qp qq qt qu qv qw qx qy qz va vc vd ve vf vg vh vj vk vl vm vn vo vp vq vr vt vu vv vw vx=f7):(∀r,va r=(r.length:Int))∧(∀r n,vc r n=if 0≤n then r[n.toNat]? else none)∧(∀r l h,vd r l h=f7.sub2 r l h)∧(∀x y,ve x y=x++y):=by
 first|(injection hA;subst_vars)|subst hA
 exact ⟨fun _=>rfl,fun _ _=>rfl,fun _ _ _=>rfl,fun _ _=>rfl⟩
theorem a0J (hA:Ar.mk qa qb qc qd qe qg qh qi qj qk ql qm qo qp qq qt qu qv qw qx qy qz va vc vd ve vf vg vh vj vk vl vm vn vo vp vq vr vt vu vv vw vx=f7):(∀es r,vh es r=a3O es r)∧(∀es r q,vj es r q=a2N es r q)∧(∀i n,qz i n=f7.nat i n)∧∀rows i y,vf rows i y=rows.set i.toNat y:=by
 first|(injection hA;subst_vars)|subst hA
 exact ⟨fun _ _=>rfl,fun _ _ _=>rfl,fun _ _=>rfl,fun _ _ _=>rfl⟩
theorem b2k (hA:Ar.mk qa qb qc qd qe qg qh qi qj qk ql qm qo qp qq qt qu qv qw qx qy qz va vc vd ve vf vg vh vj vk vl vm vn vo vp vq vr vt vu vv vw vx=f7) {x:Int} {k:Prop} (h:x≠0) (hk:k):ql x k:=by
 have e:ql=f7.nz:=congrArg Ar.nz hA
 rw [e]
 exact ⟨h,hk⟩
theorem a3A (hA:Ar.mk qa qb qc qd qe qg qh qi qj qk ql qm qo qp qq qt qu qv qw qx qy qz va vc vd ve vf vg vh vj vk vl vm vn vo vp vq vr vt vu vv vw vx=f7) {x y:ByteArray} {k:Prop} (h:x.size+y.size≤4611686018427387904) (hk:k):qt x y k:=by
 have e:qt=f7.fits:=congrArg Ar.fits hA
 rw [e]
 exact ⟨h,hk⟩
theorem E2 (hA:Ar.mk qa qb qc qd qe qg qh qi qj qk ql qm qo qp qq qt qu qv qw qx qy qz va vc vd ve vf vg vh vj vk vl vm vn vo vp vq vr vt vu vv vw vx=f7) {x y:List (List D)} {k:Prop} (h:x.length+y.length≤137438953472) (hk:k):vg x y k:=by
 have e:vg=f7.room:=congrArg Ar.room hA
 rw [e]
 exact ⟨h,hk⟩
theorem a8f (hA:Ar.mk qa qb qc qd qe qg qh qi qj qk ql qm qo qp qq qt qu qv qw qx qy qz va vc vd ve vf vg vh vj vk vl vm vn vo vp vq vr vt vu vv vw vx=f7) {f:Nat} {fn:Func} {c:Code} {vs:List V} {s:S} {K:V→S→Prop} (hf:Try.prog.funcs[f]?=some fn) (hb:fn.body=some c) (hn:(fn.name != "runtime.NumGoroutine")=true) (hc:o4 Try.prog c=true) (hr:J9 fn.results.toList=true)
  (h:B4 (Ar.mk qa qb qc qd qe qg qh qi qj qk ql qm qo qp qq qt qu qv qw qx qy qz va vc vd ve vf vg vh vj vk vl vm vn vo vp vq vr vt vu vv vw vx) c (a3h vs s.o (fn.ntmps - C4 vs)) (fun x s2=>c1C (Ar.mk qa qb qc qd qe qg qh qi qj qk ql qm qo qp qq qt qu qv qw qx qy qz va vc vd ve vf vg vh vj vk vl vm vn vo vp vq vr vt vu vv vw vx) (m7 s.o) (fun v o' ks=>K v ⟨A2 ks s.t,o'⟩) fn.results.toList x s2)):vo f vs s K:=by
 have e:vo=f7.callo:=congrArg Ar.callo hA
 rw [hA] at h
 rw [e]
 exact b8J hf hb hn hc hr h
end
end
theorem gn {P Q:Prop} (hq:Q) (h:Q→P:=by
  intro hq
  try cbv
  repeat ((with_reducible apply f8 hA);cbv)
  exact hq):P:=h hq
theorem gr {P Q:Prop} (hq:Q) (h:Q→P:=by
  intro hq
  iterate 2 (try cbv;repeat ((first|with_reducible apply f8 hA|rw [q0]|rw [q1]|rw [q2]|rw [q3]|rw [q4]|rw [q5]|rw [q6]|rw [q7]|rw [q8]|rw [q9]|rw [p0]|rw [p1]|rw [p2]|rw [p3]|rw [p4]|rw [p5]|rw [p6]|rw [p7]|rw [p8]|rw [p9]|rw [g0]|rw [g1]|rw [g2]|rw [g3]|rw [g4]|rw [g5]|rw [g6]|rw [g7]|rw [g8]|rw [g9]|rw [t0]|rw [t1]|rw [t2]|rw [t3]|rw [t4]|rw [t5]|rw [t6]|rw [t7]|rw [t8]|rw [t9]|rw [u0]|rw [u1]|rw [u2]|rw [u3]|rw [u4]|rw [u5]|rw [u6]|rw [u7]|rw [u8]|rw [u9]|refine i9 hA _ h0 rfl ?_|refine j5 hA _ h0 ?_|refine i9 hA _ h1 rfl ?_|refine j5 hA _ h1 ?_|refine i9 hA _ h2 rfl ?_|refine j5 hA _ h2 ?_|refine i9 hA _ h3 rfl ?_|refine j5 hA _ h3 ?_|refine i9 hA _ h4 rfl ?_|refine j5 hA _ h4 ?_|refine i9 hA _ c0 rfl ?_|refine j5 hA _ c0 ?_|refine i9 hA _ c1 rfl ?_|refine j5 hA _ c1 ?_|refine i9 hA _ c2 rfl ?_|refine j5 hA _ c2 ?_|refine i9 hA _ d0 rfl ?_|refine j5 hA _ d0 ?_|refine i9 hA _ k0 rfl ?_|refine j5 hA _ k0 ?_|refine i9 hA _ k1 rfl ?_|refine j5 hA _ k1 ?_|refine i9 hA _ k2 rfl ?_|refine j5 hA _ k2 ?_|refine i9 hA _ k3 rfl ?_|refine j5 hA _ k3 ?_|refine i9 hA _ hd rfl ?_|refine j5 hA _ hd ?_|refine i9 hA _ hc rfl ?_|refine j5 hA _ hc ?_|refine i9 hA _ hr rfl ?_|refine j5 hA _ hr ?_|refine i9 hA _ hT rfl ?_|refine j5 hA _ hT ?_|refine i9 hA _ kO rfl ?_|refine j5 hA _ kO ?_|refine C2 hA true ?_|refine E2 hA (by first|(simp only [c9a,c9n];omega)|omega) ?_);cbv))
  exact hq):P:=h hq
theorem fr {P:Prop} (h:P:=by
  iterate 2 (try cbv;repeat ((first|with_reducible apply f8 hA|rw [q0]|rw [q1]|rw [q2]|rw [q3]|rw [q4]|rw [q5]|rw [q6]|rw [q7]|rw [q8]|rw [q9]|rw [p0]|rw [p1]|rw [p2]|rw [p3]|rw [p4]|rw [p5]|rw [p6]|rw [p7]|rw [p8]|rw [p9]|rw [g0]|rw [g1]|rw [g2]|rw [g3]|rw [g4]|rw [g5]|rw [g6]|rw [g7]|rw [g8]|rw [g9]|rw [t0]|rw [t1]|rw [t2]|rw [t3]|rw [t4]|rw [t5]|rw [t6]|rw [t7]|rw [t8]|rw [t9]|rw [u0]|rw [u1]|rw [u2]|rw [u3]|rw [u4]|rw [u5]|rw [u6]|rw [u7]|rw [u8]|rw [u9]|refine i9 hA _ h0 rfl ?_|refine j5 hA _ h0 ?_|refine i9 hA _ h1 rfl ?_|refine j5 hA _ h1 ?_|refine i9 hA _ h2 rfl ?_|refine j5 hA _ h2 ?_|refine i9 hA _ h3 rfl ?_|refine j5 hA _ h3 ?_|refine i9 hA _ h4 rfl ?_|refine j5 hA _ h4 ?_|refine i9 hA _ c0 rfl ?_|refine j5 hA _ c0 ?_|refine i9 hA _ c1 rfl ?_|refine j5 hA _ c1 ?_|refine i9 hA _ c2 rfl ?_|refine j5 hA _ c2 ?_|refine i9 hA _ d0 rfl ?_|refine j5 hA _ d0 ?_|refine i9 hA _ k0 rfl ?_|refine j5 hA _ k0 ?_|refine i9 hA _ k1 rfl ?_|refine j5 hA _ k1 ?_|refine i9 hA _ k2 rfl ?_|refine j5 hA _ k2 ?_|refine i9 hA _ k3 rfl ?_|refine j5 hA _ k3 ?_|refine i9 hA _ hd rfl ?_|refine j5 hA _ hd ?_|refine i9 hA _ hc rfl ?_|refine j5 hA _ hc ?_|refine i9 hA _ hr rfl ?_|refine j5 hA _ hr ?_|refine i9 hA _ hT rfl ?_|refine j5 hA _ hT ?_|refine i9 hA _ kO rfl ?_|refine j5 hA _ kO ?_|refine C2 hA true ?_|refine E2 hA (by first|(simp only [c9a,c9n];omega)|omega) ?_);cbv))):P:=h
section
theorem c4z (os:List O) (d:D):toD os .jk≠some d:=fun h=>by rw [toD] at h <;> first|cases h|simp
theorem K8.read (s:S) (i:Nat) (d:D) (hi:toD s.o (n6 s.t i)=some d):K8 s ⟨E6 s.t i (.d d),s.o⟩:=by
 rintro I0 X w0 a w ⟨I,g,h⟩
 have hj:n6 s.t i≠.jk:=fun e=>c4z _ _ (e ▸ hi)
 exact ⟨I,g,h.reread fun v hv=>.d (a7u h (h.tmp.2 i v _ hv (a0Y rfl hj)) hi)⟩
theorem K8.nil (s:S) (i z:Nat) (L:List (List D)) (hL:L=[]) (hi:n6 s.t i=.em):K8 s ⟨E6 s.t i (.d (.sl z L)),s.o⟩:=by
 subst hL
 rintro I0 X w0 a w ⟨I,g,h⟩
 refine ⟨I,g,h.reread fun v hv=>?_⟩
 have h4:=h.tmp.2 i v _ hv (a0Y hi (by simp))
 rw [h4.unem]
 exact .d (.nil _ _ _)
section
variable {qa:_} {qb:_} {qc:_} {qd:_} {qe:_} {qg:_} {qh:_} {qi:_} {qj:_} {qk:_} {ql:_} {qm:_} {qo:_} {qp:_} {qq:_} {qt:_} {qu:_} {qv:_} {qw:_} {qx:_} {qy:_} {qz:_} {va:_} {vc:_} {vd:_} {ve:_} {vf:_} {vg:_} {vh:_} {vj:_} {vk:_} {vl:_} {vm:_} {vn:_} {vo:_} {vp:_} {vq:_} {vr:_} {vt:_} {vu:_} {vv:_} {vw:_} {vx:_} (hA:Ar.mk qa qb qc qd qe qg qh qi qj qk ql qm qo qp qq qt qu qv qw qx qy qz va vc vd ve vf vg vh vj vk vl vm vn vo vp vq vr vt vu vv vw vx=f7)
include hA
theorem b3E {N:S→Prop} {s:S} (i z:Nat) (L:List (List D)) (hL:L=[]) (hi:n6 s.t i=.em) (h:N ⟨E6 s.t i (.d (.sl z L)),s.o⟩):vu N s:=a07 hA _ (K8.nil s i z L hL hi) h
theorem a2c {N:S→Prop} {s:S} (i k:Nat) (d:D) (hk:n6 s.t i=.own k) (hi:toD s.o (.own k)=some d) (h:N ⟨E6 s.t i (.d d),s.o⟩):vu N s:=a07 hA _ (K8.read s i d (hk ▸ hi)) h
end
end
section
section
variable {I0:Nat→Nat→Prop} {X:Nat→Prop} {w0:W0} {I:Nat→Nat→Prop} {g:Nat→Value} {s:S} {a:Act} {w:World}
end
section
variable {qa:IntKind→Int→Int} {qb:Int→Int→Int} {qc:Int→Int→Int} {qd:Int→Int→Int} {qe:Int→Int→Int} {qg:Int→Int→Int} {qh:BinOp→IntKind→Int→IntKind→Int→Option Int} {qi:Int→Int→Bool} {qj:Int→Int→Bool} {qk:Int→Int→Bool} {ql:Int→Prop→Prop} {qm:List UInt8→List UInt8→Bool} {qo:List UInt8→List UInt8→Bool} {qp:ByteArray→List UInt8} {qq:ByteArray→ByteArray→ByteArray} {qt:ByteArray→ByteArray→Prop→Prop} {qu:ByteArray→Int} {qv:ByteArray→Int→Option Int} {qw:ByteArray→Int→Int→Option ByteArray} {qx:List (List D)→Option ByteArray} {qy:ByteArray→List (List D)} {qz:Int→Nat→Option Nat} {va:List (List D)→Int} {vc:List (List D)→Int→Option (List D)} {vd:List (List D)→Int→Int→Option (List (List D))} {ve:List (List D)→List (List D)→List (List D)} {vf:List (List D)→Int→List D→List (List D)} {vg:List (List D)→List (List D)→Prop→Prop} {vh:List (R×R)→R→Option R} {vj:List (R×R)→R→R→List (R×R)} {vk:List D→List D→Bool} {vl:Int→List D→(List (List D)→Prop)→Prop} {vm:Nat→List R→(List R→Prop)→Prop} {vn:Nat→List V→List O→(V→Prop)→Prop} {vo:Nat→List V→S→(V→S→Prop)→Prop} {vp:Nat→List V→List Nat→S→(V→S→Prop)→Prop} {vq:Nat→(Bool→Prop)→Prop} {vr:Nat→(Bool→Prop)→Prop} {vt:Nat→(List V→List O→Prop)→List V→S→Prop} {vu:(S→Prop)→S→Prop} {vv:Op→Option Nat→S→(S→Prop)→Prop} {vw:Array Oper→S→(S→Prop)→Prop} {vx:Code→(S→(X→S→Prop)→Prop)→S→(X→S→Prop)→Prop}
end
end
section
section
variable {I0:Nat→Nat→Prop} {X:Nat→Prop} {w0:W0} {I:Nat→Nat→Prop} {g:Nat→Value} {s:S} {a:Act} {w:World}
theorem j8.reset {us:List Value} {cs:List V} {i:Nat} {x:V} (h:j8 I w g us cs) (hx:∀v,us[i]?=some v→AtV I w g v x):j8 I w g us (cs.set i x):=by
 refine ⟨by rw [c9u];exact h.1,fun j v y hv hy=>?_⟩
 by_cases hji:i=j
 ·subst hji
  have hlt:i<cs.length:=by have:=(c8S.1 hy).1;rw [c9u] at this;exact this
  rw [c93 hlt] at hy
  cases hy
  exact hx v hv
 ·rw [c9p hji] at hy
  exact h.2 j v y hv hy
theorem RelI.rebox (h:RelI I0 X w0 I g s a w) {k:Nat} {cs ds:List V} (hk:s.o[k]?=some (.box cs)) (hd:∀us,j8 I w g us cs→j8 I w g us ds):RelI I0 X w0 I g ⟨s.t,s.o.set k (.box ds)⟩ a w:=by
 have hlt:=(c8S.1 hk).1
 have a2P:∀i,M5 ⟨s.t,s.o.set k (.box ds)⟩ i→M5 s i:=fun i hl=>by
  obtain ⟨o,ho,hdd⟩:=hl
  by_cases hik:k=i
  ·subst hik;exact ⟨_,hk,by simp⟩
  ·simp only [c9p hik] at ho
   exact ⟨o,ho,hdd⟩
 refine ⟨h.im,h.lt,h.fr,h.kp,by simp only [c9u];exact h.lo,h.st,fun i o ho=>?_,fun i j b hi hj=>h.dis i j b (a2P i hi) (a2P j hj),fun i hi=>h.out i (by simpa using hi),h.tmp,h.dfr⟩
 by_cases hik:k=i
 ·subst hik
  simp only [c93 hlt] at ho
  cases ho
  obtain ⟨b,us,t,h1,h2,h3,h4⟩:=h.obj k _ hk
  exact ⟨b,us,t,h1,h2,hd us h3,h4⟩
 ·simp only [c9p hik] at ho
  exact h.obj i o ho
end
theorem K8.ownBox (s:S) (k i e:Nat) (z:Bool) {cs:List V} (hk:y6 s.o k=.box cs) (hi:n6 cs i=.em):K8 s ⟨s.t,G8 (r9 s.o (.row z e [])) k (.box (E6 cs i (.own (m7 s.o))))⟩:=by
 rintro I0 X w0 a w ⟨I,g,h⟩
 have hk2:=A6 hk (by simp)
 have hlt:=(c8S.1 hk2).1
 have h2:=h.newObj (.row z e []) (.slice none 0 0) ⟨[],by rw [n8];exact World.ownsRow_nil w 0 e _,by simp,B0.nil I w,fun b hb=>by rw [n8] at hb;cases hb⟩ (fun j b _ _ hb=>by cases hb)
 have h3:RelI I0 X w0 I (upd g s.o.length (.slice none 0 0)) ⟨s.t,r9 s.o (.row z e [])⟩ a w:=h2
 refine ⟨I,upd g s.o.length (.slice none 0 0),?_⟩
 rw [G7,a0q]
 refine h3.rebox (cs:=cs) (by show (r9 s.o _)[k]?=_;rw [a01,c9l hlt];exact hk2) fun us hus=>hus.reset fun v hv=>?_
 have hs:=a0Y hi (by simp)
 have h4:=hus.2 i v _ hv hs
 rw [h4.unem]
 exact .own _ _ _ _ (by rw [o9,n8];rfl)
section
variable {qa:_} {qb:_} {qc:_} {qd:_} {qe:_} {qg:_} {qh:_} {qi:_} {qj:_} {qk:_} {ql:_} {qm:_} {qo:_} {qp:_} {qq:_} {qt:_} {qu:_} {qv:_} {qw:_} {qx:_} {qy:_} {qz:_} {va:_} {vc:_} {vd:_} {ve:_} {vf:_} {vg:_} {vh:_} {vj:_} {vk:_} {vl:_} {vm:_} {vn:_} {vo:_} {vp:_} {vq:_} {vr:_} {vt:_} {vu:_} {vv:_} {vw:_} {vx:_} (hA:Ar.mk qa qb qc qd qe qg qh qi qj qk ql qm qo qp qq qt qu qv qw qx qy qz va vc vd ve vf vg vh vj vk vl vm vn vo vp vq vr vt vu vv vw vx=f7)
include hA
theorem b6s {N:S→Prop} {s:S} (k i e:Nat) (z:Bool) {cs:List V} (hk:y6 s.o k=.box cs) (hi:n6 cs i=.em) (h:N ⟨s.t,G8 (r9 s.o (.row z e [])) k (.box (E6 cs i (.own (m7 s.o))))⟩):vu N s:=a07 hA _ (K8.ownBox s k i e z hk hi) h
end
end
section
def a4s:List O→Bool
 | []=>true
 | .box _::l=>a4s l
 | .row _ _ _::l=>a4s l
 | .mp _ _::l=>a4s l
 | _=>false
theorem a3B:∀ {l:List O},a4s l=true→∀ {i:Nat} {o:O},l[i]?=some o→(∃cs,o=.box cs)∨(∃z e r,o=.row z e r)∨∃k es,o=.mp k es
 | [],_,i,o,h=>by simp at h
 | x::l,hp,i,o,h=>by
  cases x with
  | box cs=>cases i with
   | zero=>simp at h;exact .inl ⟨cs,h.symm⟩
   | succ i=>exact a3B (l:=l) hp (i:=i) (by simpa using h)
  | row z e r=>cases i with
   | zero=>simp at h;exact .inr (.inl ⟨z,e,r,h.symm⟩)
   | succ i=>exact a3B (l:=l) hp (i:=i) (by simpa using h)
  | mp k es=>cases i with
   | zero=>simp at h;exact .inr (.inr ⟨k,es,h.symm⟩)
   | succ i=>exact a3B (l:=l) hp (i:=i) (by simpa using h)
  | _=>cases hp
def c35 (k:Nat):Option O→V
 | some (.row _ _ _)=>.own k
 | _=>.jk
def a9K (os:List O):List V:=(List.range os.length).map fun k=>c35 k os[k]?
theorem a8g {f:Nat} {vs:List V} {os:List O} {Q:List V→Prop} (hos:a4s os=true) (h:L8 f vs os fun x o' ks=>ks=[]∧o'=os∧∃res,x=Z8 res∧Q res):A4 f vs os (fun res o2=>Q res∧o2=os):=by
 refine ⟨h.1,fun I w g args hrel=>?_⟩
 have hargs:j8 I w g args vs:=hrel.tmp
 have hself:j8 I w g ((List.range os.length).map fun k=>gv (g k)) (a9K os):=by
  refine ⟨by unfold a9K;simp,fun i u c hu hc=>?_⟩
  unfold a9K at hc
  rw [c9v] at hu hc
  cases hr:(List.range os.length)[i]? with
  | none=>rw [hr] at hu;cases hu
  | some k =>
   rw [hr] at hu hc
   simp only [d0b,Option.some.injEq] at hu hc
   subst hu
   subst hc
   have hk:k<os.length:=by
    have:=c9h hr
    simpa using this
   cases ho:os[k]? with
   | none=>exact AtV.jk _
   | some o =>
    cases o with
    | row z e rows =>
     obtain ⟨us,hw,_⟩:=hrel.obj k _ ho
     have e:=a1E hw
     obtain ⟨A,cap,hs⟩:=a1a hw
     show AtV I w g (gv (g k)) (.own k)
     rw [e,hs]
     exact .own _ _ _ _ (by rw [e,hs])
    | box cs=>exact AtV.jk _
    | mp kt es=>exact AtV.jk _
    | kl js=>exact AtV.jk _
    | it P=>exact AtV.jk _
    | ob T vs=>exact AtV.jk _
    | dead=>exact AtV.jk _
 have hrel':RelI I (Xof g os) ⟨w,g,os.length,[]⟩ I g ⟨vs++a9K os,os⟩ { tmps:=(args++(List.range os.length).map fun k=>gv (g k)).toArray,defers:=[] } w :=
  ⟨hrel.im,hrel.lt,hrel.fr,hrel.kp,hrel.lo,hrel.st,hrel.obj,hrel.dis,hrel.out,hargs.append hself,rfl,hrel.dfr.2⟩
 refine (h.2 I (Xof g os) ⟨w,g,os.length,[]⟩ I g _ _ w args hrel' hargs).mono ?_
 rintro e w' ⟨v,x,o',ks,I',g',rfl,h',hv,rfl,rfl,res,rfl,hQ⟩
 obtain ⟨us,rfl,hus⟩:=c34 hv
 refine ⟨us,res,_,I',g',rfl,⟨⟨hQ,rfl⟩,fun i hi=>?_⟩,⟨h'.im,h'.lt,h'.fr,h'.kp,h'.lo,h'.st,h'.obj,h'.dis,h'.out,hus,rfl,h'.dfr.2⟩⟩
 have ho:o'[i]?=some o'[i]:=c8T hi
 rcases a3B hos ho with ⟨cs,e⟩|⟨z,et,r,e⟩|⟨k,es,e⟩
 ·rw [e] at ho
  obtain ⟨b,us,t,h1,_⟩:=hrel.obj i _ ho
  exact h'.st i hi (by show W7 (g i)=true;rw [h1];rfl)
 ·rw [e] at ho
  obtain ⟨us1,hw1,_⟩:=hrel.obj i _ ho
  obtain ⟨us2,hw2,_⟩:=h'.obj i _ ho
  have e2:j8 I' w' g' (args++(List.range o'.length).map fun k=>gv (g k)) (vs++a9K o'):=h'.tmp
  have e3:=e2.2 (args.length+i) (gv (g i)) (.own i) (by rw [c9b (by omega)];simp [hi]) (by
   rw [hargs.1,c9b (by omega)]
   unfold a9K
   simp [hi,e,c35])
  rw [←a1E hw1,←a1E hw2]
  exact e3.unown.1.symm
 ·rw [e] at ho
  obtain ⟨b,us,t,h1,_⟩:=hrel.obj i _ ho
  exact h'.st i hi (by show W7 (g i)=true;rw [h1];rfl)
def c36 (os:List O) (x:V):V:=match toR os x with|some r=>b7K r|none=>x
def a3Z (os:List O):List V→List V
 | []=>[]
 | x::l=>c36 os x::a3Z os l
theorem b0O {I0:Nat→Nat→Prop} {X:Nat→Prop} {w0:W0} {I:Nat→Nat→Prop} {g:Nat→Value} {s:S} {a:Act} {w:World} (h:RelI I0 X w0 I g s a w):∀ {us:List Value} {vs:List V},j8 I w g us vs→j8 I w g us (a3Z s.o vs)
 | us,[],hv=>hv
 | us,x::vs,hv=>by
  obtain ⟨u,us',rfl,h1,h2⟩:=hv.uncons
  refine .cons ?_ (b0O h h2)
  unfold c36
  split
  ·rename_i r hr
   exact a6P g (a5I h h1 hr)
  ·exact h1
def b4V (n:Nat) (K:List V→List O→Prop) (res:List V) (s:S):Prop:=match y6 (a1o 0 s.o) n with
 | .kl []=>match c1B n (Z8 (a3Z s.o res)) with|true=>K (a3Z s.o res) (a3Y n (a1o 0 s.o))|false=>False
 | _=>False
def c6p (a:Ar) (n:Nat) (K:List V→List O→Prop) (l:List ResultVar):Vm.X→S→Prop
 | .exit _,_=>False
 | .normal,s=>a4q a s l (fun vs=>b4V n K vs s)
 | .ret,s=>a4q a s l (fun vs=>b4V n K vs s)
theorem c40 {f:Nat} {fn:Func} {c:Code} {vs:List V} {o:List O} {Q:List V→Prop} (ho:a4s o=true) (hf:Try.prog.funcs[f]?=some fn) (hb:fn.body=some c) (hn:(fn.name != "runtime.NumGoroutine")=true) (hc:o4 Try.prog c=true) (hr:J9 fn.results.toList=true)
  (h:B4 f7 c (a3h vs o (fn.ntmps - C4 vs)) (fun x s=>c6p f7 (m7 o) (fun res o'=>o'=o∧Q res) fn.results.toList x s)):L8 f vs o fun x o' ks=>ks=[]∧o'=o∧∃res,x=Z8 res∧Q res:=by
 refine ⟨by unfold a2q;rw [hf];simp only [hn,hb];rfl,?_⟩
 intro I0 X w0 I g t a w us hrel hv
 refine calls_of_wp hf hb ?_
 have hsz:us.toArray.size=C4 vs:=by rw [H4];simp [hv.1]
 rw [hsz]
 obtain ⟨g',hg,hgn,h1⟩:=hrel.rebase hv
 have hstart:RelI I (Xof g' (r9 o (.kl []))) ⟨w,g',o.length+1,[]⟩ I g' (a3h vs o (fn.ntmps - C4 vs)) { tmps:=us.toArray++Array.replicate (fn.ntmps - C4 vs) undef,defers:=[] } w:=by
  refine ⟨h1.im,h1.lt,h1.fr,h1.kp,h1.lo,h1.st,h1.obj,h1.dis,h1.out,?_,rfl,h1.dfr.2⟩
  show j8 I w _ (us.toArray++Array.replicate (fn.ntmps - C4 vs) undef).toList (a2G vs (uns (fn.ntmps - C4 vs)))
  rw [a0s,d06,a5Y]
  refine j8.append h1.tmp ?_
  rw [d0z]
  refine ⟨by simp,fun i u c hu hc=>?_⟩
  rw [d0l] at hu hc
  split at hu
  ·rename_i hi
   rw [c8Y hi] at hc
   injection hu with hu
   injection hc with hc
   subst hu;subst hc
   exact .tu [] [] rfl fun i u c hu _=>by simp at hu
  ·cases hu
 refine a6Y c _ _ _ _ _ hc ⟨I,_,hstart⟩ h fun e s' a' w' hrel2 hk=>?_
 have key:a4q f7 s' fn.results.toList (fun res=>b4V (m7 o) (fun res o'=>o'=o∧Q res) res s')→a'.defers=[]∧∃v,(results fn a'.tmps).run Try.prog w'=.ok v w'∧∃v' x o' ks I' g',Ending.returned v=.returned v'∧RelI I0 X w0 I' g' ⟨A2 ks t,o'⟩ a w'∧AtV I' w' g' v' x∧ks=[]∧o'=o∧∃res,x=Z8 res∧Q res:=fun hk=>by
  obtain ⟨I2,g2,h2⟩:=hrel2
  obtain ⟨us2,res,r1,r2,r3⟩:=a17 h2 hr hk
  unfold b4V at r3
  split at r3 <;> try exact r3.elim
  rename_i hks
  split at r3 <;> try exact r3.elim
  rename_i hlow
  obtain ⟨r4,hQ⟩:=r3
  have hks':=A6 hks (by simp)
  rw [o9] at hks' r4 hlow
  rw [a5e] at r4
  have h2':=h2.trimKl
  obtain ⟨hcut,h3⟩:=hrel.unbase hg hgn h2' hks'
  have e:((a1o 0 s'.o).set o.length .dead).take o.length=o:=by
   rw [d0M (c9c _),r4]
  have h4:=h3.trim (n:=o.length) hrel.lo (by show o.length≤((a1o 0 s'.o).set _ _).length;rw [c9u,a6a];have:=h2.lo;show o.length≤s'.o.length;have h5:o.length+1≤s'.o.length:=h2.lo;omega) hcut (by show a1U _ (((a1o 0 s'.o).set _ _).take _)=true;rw [e];have:=hrel.low;exact this)
  have h5:(⟨A2 [] t,((a1o 0 s'.o).set o.length .dead).take o.length⟩:S)=⟨t,o⟩:=by rw [e];rfl
  refine ⟨h2.dfr.1,_,r1,pkg us2,Z8 (a3Z s'.o res),o,[],I2,a4T o.length g2,rfl,?_,b4N (fun k hk=>c8Y hk) (b4P (b0O h2 r2)) hlow,rfl,rfl,_,rfl,hQ⟩
  show RelI I0 X w0 I2 _ ⟨t,o⟩ a w'
  rw [←h5]
  exact h4
 cases e with
 | normal=>exact key hk
 | exit i=>exact hk.elim
 | ret=>exact key hk
theorem a1p {f:Nat} {fn:Func} {c:Code} {vs:List V} {os:List O} {Q:List V→Prop} (hf:Try.prog.funcs[f]?=some fn) (hb:fn.body=some c) (hn:(fn.name != "runtime.NumGoroutine")=true) (hc:o4 Try.prog c=true) (hr:J9 fn.results.toList=true) (hos:a4s os=true)
  (h:∀qa qb qc qd qe qg qh qi qj qk ql qm qo qp qq qt qu qv qw qx qy qz va vc vd ve vf vg vh vj vk vl vm vn vo vp vq vr vt vu vv vw vx,Ar.mk qa qb qc qd qe qg qh qi qj qk ql qm qo qp qq qt qu qv qw qx qy qz va vc vd ve vf vg vh vj vk vl vm vn vo vp vq vr vt vu vv vw vx=f7→∀K:List V→List O→Prop,(∀res,Q res→K res os)→B4 (Ar.mk qa qb qc qd qe qg qh qi qj qk ql qm qo qp qq qt qu qv qw qx qy qz va vc vd ve vf vg vh vj vk vl vm vn vo vp vq vr vt vu vv vw vx) c (a3h vs os (fn.ntmps - C4 vs)) (fun x s=>c6p (Ar.mk qa qb qc qd qe qg qh qi qj qk ql qm qo qp qq qt qu qv qw qx qy qz va vc vd ve vf vg vh vj vk vl vm vn vo vp vq vr vt vu vv vw vx) (m7 os) K fn.results.toList x s)):A4 f vs os (fun res o2=>Q res∧o2=os) :=
 a8g hos (c40 hos hf hb hn hc hr (h _ _ _ _ _ _ _ _ _ _ _ _ _ _ _ _ _ _ _ _ _ _ _ _ _ _ _ _ _ _ _ _ _ _ _ _ _ _ _ _ _ _ _ (show Ar.mk f7.wrap f7.add f7.sub f7.mul f7.quo f7.rem f7.bits f7.lt f7.le f7.eq f7.nz f7.seq f7.slt f7.bytes f7.cat f7.fits f7.slen f7.sget f7.ssub f7.txt f7.byt f7.nat f7.len f7.get f7.sub2 f7.app f7.set f7.room f7.mlook f7.mput f7.deq f7.rep f7.call f7.calld f7.callo f7.callx f7.new f7.lit f7.keep f7.next f7.ext f7.reg f7.loop=f7 from rfl) _ fun res hq=>⟨rfl,hq⟩))
theorem a2d {f:Nat} {vs vs':List V} {os':List O} {o:List O} {ks:List Nat} {r:List V} (h:A4 f vs' os' (fun res o2=>res=r∧o2=os')) (hs:SubOk ks vs' os' vs ⟨[],o⟩) (hb:E7 ks (N8 ks (m7 o) os') o=o):a71 f vs o (Z8 (upT ks (m7 o) r)):=by
 have h1:=a2X h hs
 refine ⟨h1.1,fun I0 X w0 I g t a w us hrel hv=>(h1.2 I0 X w0 I g t a w us hrel hv).mono ?_⟩
 rintro e w' ⟨v,x,o',ks',I',g',rfl,h2,h3,rfl,res,os2,⟨rfl,rfl⟩,rfl,rfl⟩
 rw [hb] at h2
 exact ⟨_,I',g',rfl,h2,h3⟩
section
variable {qa:_} {qb:_} {qc:_} {qd:_} {qe:_} {qg:_} {qh:_} {qi:_} {qj:_} {qk:_} {ql:_} {qm:_} {qo:_} {qp:_} {qq:_} {qt:_} {qu:_} {qv:_} {qw:_} {qx:_} {qy:_} {qz:_} {va:_} {vc:_} {vd:_} {ve:_} {vf:_} {vg:_} {vh:_} {vj:_} {vk:_} {vl:_} {vm:_} {vn:_} {vo:_} {vp:_} {vq:_} {vr:_} {vt:_} {vu:_} {vv:_} {vw:_} {vx:_} (hA:Ar.mk qa qb qc qd qe qg qh qi qj qk ql qm qo qp qq qt qu qv qw qx qy qz va vc vd ve vf vg vh vj vk vl vm vn vo vp vq vr vt vu vv vw vx=f7)
include hA
theorem a8h {f:Nat} {vs:List V} {s:S} {K:V→S→Prop} (ks:List Nat) {vs':List V} {os':List O} {Q:List V→Prop} (h:A4 f vs' os' (fun res o2=>Q res∧o2=os')) (hs:SubOk ks vs' os' vs s) (hb:E7 ks (N8 ks (m7 s.o) os') s.o=s.o) (hK:∀res,Q res→K (Z8 (upT ks (m7 s.o) res)) s):vo f vs s K :=
 F0 hA ks h hs fun res os2 ⟨hq,e⟩=>by subst e;rw [hb];exact hK res hq
theorem b0P {f:Nat} {vs:List V} {o:List O} {K:V→Prop} (ks:List Nat) {vs':List V} {os':List O} {r:List V} (h:A4 f vs' os' (fun res o2=>res=r∧o2=os')) (hs:SubOk ks vs' os' vs ⟨[],o⟩) (hb:E7 ks (N8 ks (m7 o) os') o=o) (hK:K (Z8 (upT ks (m7 o) r))):vn f vs o K:=by
 have e:vn=f7.calld:=congrArg Ar.calld hA
 rw [e]
 exact ⟨_,a2d h hs hb,hK⟩
end
end
def dd:List Nat→List Nat
 | []=>[]
 | x::l=>match l.any (Nat.beq x) with|true=>dd l|false=>x::dd l
section
def a0S (i:Nat):List Nat→List Nat
 | []=>[]
 | x::l=>match L7 x i with|true=>a0S i l|false=>x::a0S i l
def b2l:List (List Nat)→Nat→List Nat
 | [],_=>[]
 | x::_,0=>x
 | _::l,n+1=>b2l l n
def b6t:List Oper→Nat→Option Oper
 | [],_=>none
 | x::_,0=>some x
 | _::l,n+1=>b6t l n
def a8i:List Nat→List Nat→Bool
 | [],_=>true
 | j::m,l=>match a9f j l with|true=>false|false=>a8i m l
def a9k (an:List (List Nat)) (l:List Nat) (i:Nat):Bool:=a8i (b2l an i) l
def a2e (an:List (List Nat)) (l:List Nat):List Nat→Option Nat
 | []=>none
 | i::fr=>match a9f i l with
  | true=>match a9k an l i with|true=>some i|false=>a2e an l fr
  | false=>a2e an l fr
def b6u (an:List (List Nat)) (l:List Nat):List Nat→List Nat
 | []=>[]
 | i::m=>match a9k an l i with|true=>i::b6u an l m|false=>b6u an l m
def c41 (f:Nat→Prop):List Nat→Prop
 | []=>True
 | [i]=>f i
 | i::j::l=>f i∧c41 f (j::l)
theorem b4W {f:Nat→Prop}:∀ {l:List Nat},c41 f l→∀i∈l,f i
 | [],_,i,h=>by simp at h
 | [x],h,i,hi=>by simp at hi;subst hi;exact h
 | x::y::l,h,i,hi=>by
  rcases c9e.1 hi with rfl|hi
  ·exact h.1
  ·exact b4W h.2 i hi
def c42:Op→Bool
 | .move _=>true
 | .load _ _=>true
 | .fieldAddr _ _ _=>true
 | .field _ _ _=>true
 | .indexAddr _ _ _=>true
 | .extract _ _=>true
 | _=>false
def b2m:Oper→Bool
 | ⟨_,op,_,_,_,none⟩=>c42 op
 | _=>false
theorem b2n:∀(l:List (List Nat)) (i:Nat),b2l l i=l.getD i []
 | [],i=>by simp [b2l]
 | x::l,0=>rfl
 | x::l,i+1=>by rw [b2l,b2n l i];simp
theorem b0Q:∀(l:List Oper) (i:Nat),b6t l i=l[i]?
 | [],i=>by simp [b6t]
 | x::l,0=>rfl
 | x::l,i+1=>by rw [b6t,b0Q l i];simp
theorem a08 {i j:Nat}:∀ {l:List Nat},j∈a0S i l↔j∈l∧j≠i
 | []=>by simp [a0S]
 | x::l=>by
  rw [a0S]
  cases e:L7 x i
  ·have:=a2R.1 e
   simp only [c9e,a08 (l:=l)]
   constructor
   ·rintro (rfl|h)
    ·exact ⟨.inl rfl,this⟩
    ·exact ⟨.inr h.1,h.2⟩
   ·rintro ⟨rfl|h,h2⟩
    ·exact .inl rfl
    ·exact .inr ⟨h,h2⟩
  ·have:=C1.1 e
   subst this
   simp only [a08 (l:=l),c9e]
   exact ⟨fun h=>⟨.inr h.1,h.2⟩,fun h=>⟨h.1.resolve_left h.2,h.2⟩⟩
theorem a9L {i j:Nat}:∀(l:List Nat),a0S i (a0S j l)=a0S j (a0S i l)
 | []=>rfl
 | x::l=>by
  cases e:L7 x i <;> cases e2:L7 x j <;> simp [a0S,e,e2,a9L l]
theorem a9M:∀ {m l:List Nat},a8i m l=true↔∀j∈m,j∉l
 | [],l=>by simp [a8i]
 | a::m,l=>by
  rw [a8i]
  cases e:a9f a l
  ·simp only [d0f,a9M (m:=m)]
   exact Iff.intro (fun h=>And.intro (fun hm=>(by rw [a32.2 hm] at e;cases e)) h) fun h=>h.2
  ·simp only [d0f]
   exact Iff.intro (fun h=>(by cases h)) fun h=>absurd (a32.1 e) h.1
theorem a4t {an:List (List Nat)} {l:List Nat} {i:Nat}:a9k an l i=true↔∀j∈an.getD i [],j∉l:=by
 rw [a9k,b2n,a9M]
theorem a8j {an:List (List Nat)} {l:List Nat} {i:Nat}:∀ {m:List Nat},i∈b6u an l m↔i∈m∧a9k an l i=true
 | []=>by simp [b6u]
 | x::m=>by
  rw [b6u]
  cases e:a9k an l x
  ·simp only [a8j (m:=m),c9e]
   refine Iff.intro (fun h=>⟨.inr h.1,h.2⟩) fun h=>⟨h.1.resolve_left fun e2=>?_,h.2⟩
   rw [e2,e] at h
   cases h.2
  ·simp only [c9e,a8j (m:=m)]
   constructor
   ·rintro (rfl|h)
    ·exact ⟨.inl rfl,e⟩
    ·exact ⟨.inr h.1,h.2⟩
   ·rintro ⟨rfl|h,h2⟩
    ·exact .inl rfl
    ·exact .inr ⟨h,h2⟩
theorem a2y {an:List (List Nat)} {l:List Nat} {i:Nat}:∀ {fr:List Nat},a2e an l fr=some i→i∈fr∧i∈l∧a9k an l i=true
 | [],h=>by cases h
 | x::fr,h=>by
  rw [a2e] at h
  split at h
  ·rename_i hm
   split at h
   ·rename_i hr
    injection h with h
    subst h
    exact ⟨c8V ..,a32.1 hm,hr⟩
   ·obtain ⟨h1,h2⟩:=a2y h
    exact ⟨c8X _ h1,h2⟩
  ·obtain ⟨h1,h2⟩:=a2y h
   exact ⟨c8X _ h1,h2⟩
def b2o (ops:Array Oper) (o:Oper) (s:S) (K1:S→Prop):Prop:=∀(I0:Nat→Nat→Prop) (X:Nat→Prop) (w0:W0) (a:Act) (w:World) (ro:Option Nat) (n:Nat) (Q:Exit→Act→World→Prop) (Kw:Act→World→Prop),a05 Try.prog o.op=true→Rel I0 X w0 s a w→(∀s' a' w',Rel I0 X w0 s' a' w'→K1 s'→Kw a' w') →
 if Region.wanted o (yielded ops a.tmps) then o.wpIn (FW ro) n Try.prog a w Kw Q else (∀f,o.about Try.prog w a.eval=some f→(FW ro).fn f)∧Kw (a.put o.dst undef) w
theorem b2o.mono {ops:Array Oper} {o:Oper} {s:S} {K K':S→Prop} (h:b2o ops o s K) (hK:∀s,K s→K' s):b2o ops o s K' :=
 fun I0 X w0 a w ro n Q Kw hop hr hk=>h I0 X w0 a w ro n Q Kw hop hr fun s' a' w' h1 h2=>hk s' a' w' h1 (hK s' h2)
theorem b6v {ops:Array Oper} {o:Oper} {s:S} {K1:S→Prop} (h:a12 f7 (l8 ops.toList) [o] s K1):b2o ops o s K1:=by
 intro I0 X w0 a w ro n Q Kw hop hrel hKw
 obtain ⟨dst,op,type,pos,after,gd⟩:=o
 have hstep:a6s f7 s dst K1 op→Oper.wpIn (FW ro) n Try.prog ⟨dst,op,type,pos,after,gd⟩ a w Kw Q:=fun hs =>
  a95 (fun c hc=>a1W hop c hc) (Oper.wp_mono (fun a' w' ⟨s',h1,h2⟩=>hKw s' a' w' h1 h2) (b2b hrel (o:=⟨dst,op,type,pos,after,gd⟩) (Q:=Q) hop hs))
 have hskip:K1 (s.put dst Z6)→Kw (a.put dst undef) w:=fun hs=>by
  obtain ⟨I,g,h⟩:=hrel
  exact hKw _ _ w ⟨I,g,h.put (x:=Z6) (.tu [] [] rfl (fun i u c hu _=>by simp at hu)) dst⟩ hs
 cases gd with
 | none =>
  rw [c8Y (by rfl)]
  rw [a12] at h
  exact hstep h
 | some jb =>
  obtain ⟨j,b⟩:=jb
  rw [a12] at h
  obtain ⟨c,hc,hK⟩:=a7K hrel h
  have hw:Region.wanted ⟨dst,op,type,pos,after,some (j,b)⟩ (yielded ops a.tmps)=(c == some b):=by simp [Region.wanted,hc]
  rw [hw]
  cases c with
  | none =>
   rw [c8W (by simp)]
   exact ⟨fun _ _=>trivial,hskip hK⟩
  | some c =>
   simp only at hK
   split at hK
   ·rename_i hb
    rw [a1G] at hb
    rw [c8Y (by simpa using hb)]
    exact hstep hK
   ·rename_i hb
    rw [a1G] at hb
    rw [c8W (by simpa using hb)]
    exact ⟨fun _ _=>trivial,hskip hK⟩
theorem b4X {dsts:List (Option Nat)} {o:Oper} (ho:b2m o=true) {s:S} {K:S→Prop}:a12 f7 dsts [o] s K=l6 f7 dsts o s K:=by
 obtain ⟨dst,op,type,pos,after,gd⟩:=o
 cases gd with
 | some g=>cases ho
 | none =>
  have h:c42 op=true:=ho
  cases op <;> first|rfl|cases h
def exG (ops:Array Oper) (o:Oper) (s:S) (K:S→Prop):Prop:=if b2m o=true then l6 f7 (l8 ops.toList) o s K else b2o ops o s K
theorem exG.mono {ops:Array Oper} {o:Oper} {s:S} {K K':S→Prop} (h:exG ops o s K) (hK:∀s,K s→K' s):exG ops o s K':=by
 unfold exG at h ⊢
 split
 ·rename_i hr
  rw [c8Y hr] at h
  exact U4 hK h
 ·rename_i hr
  rw [c8W hr] at h
  exact h.mono hK
theorem b4Y {l:List Nat} {i:Nat} (hn:l.Nodup) (hi:i∈l):(a0S i l).length+1=l.length:=by
 have e:∀l:List Nat,a0S i l=l.filter (· != i):=by
  intro l
  induction l with
  | nil=>rfl
  | cons x l ih =>
   rw [a0S,d0H]
   cases e:L7 x i
   ·have:=a2R.1 e;simp [this,ih]
   ·have:=C1.1 e;simp [this,ih]
 rw [e,←hn.erase_eq_filter,List.length_erase_of_mem hi]
 have:=List.length_pos_of_mem hi
 omega
theorem a4u {i:Nat}:∀ {l:List Nat},l.Nodup→(a0S i l).Nodup
 | [],_=>List.nodup_nil
 | x::l,h=>by
  obtain ⟨h1,h2⟩:=d08.1 h
  rw [a0S]
  cases L7 x i
  ·exact d08.2 ⟨fun hm=>h1 (a08.1 hm).1,a4u h2⟩
  ·exact a4u h2
section
variable {I0:Nat→Nat→Prop} {X:Nat→Prop} {w0:W0}
end
section
variable {qa:IntKind→Int→Int} {qb:Int→Int→Int} {qc:Int→Int→Int} {qd:Int→Int→Int} {qe:Int→Int→Int} {qg:Int→Int→Int} {qh:BinOp→IntKind→Int→IntKind→Int→Option Int} {qi:Int→Int→Bool} {qj:Int→Int→Bool} {qk:Int→Int→Bool} {ql:Int→Prop→Prop} {qm:List UInt8→List UInt8→Bool} {qo:List UInt8→List UInt8→Bool} {qp:ByteArray→List UInt8} {qq:ByteArray→ByteArray→ByteArray} {qt:ByteArray→ByteArray→Prop→Prop} {qu:ByteArray→Int} {qv:ByteArray→Int→Option Int} {qw:ByteArray→Int→Int→Option ByteArray} {qx:List (List D)→Option ByteArray} {qy:ByteArray→List (List D)} {qz:Int→Nat→Option Nat} {va:List (List D)→Int} {vc:List (List D)→Int→Option (List D)} {vd:List (List D)→Int→Int→Option (List (List D))} {ve:List (List D)→List (List D)→List (List D)} {vf:List (List D)→Int→List D→List (List D)} {vg:List (List D)→List (List D)→Prop→Prop} {vh:List (R×R)→R→Option R} {vj:List (R×R)→R→R→List (R×R)} {vk:List D→List D→Bool} {vl:Int→List D→(List (List D)→Prop)→Prop} {vm:Nat→List R→(List R→Prop)→Prop} {vn:Nat→List V→List O→(V→Prop)→Prop} {vo:Nat→List V→S→(V→S→Prop)→Prop} {vp:Nat→List V→List Nat→S→(V→S→Prop)→Prop} {vq:Nat→(Bool→Prop)→Prop} {vr:Nat→(Bool→Prop)→Prop} {vt:Nat→(List V→List O→Prop)→List V→S→Prop} {vu:(S→Prop)→S→Prop} {vv:Op→Option Nat→S→(S→Prop)→Prop} {vw:Array Oper→S→(S→Prop)→Prop} {vx:Code→(S→(X→S→Prop)→Prop)→S→(X→S→Prop)→Prop}
end
end
end Go.Proofs.Ytahpnackkmbmgaa.Vm
end
section
set_option maxRecDepth 10000
namespace Go.Proofs.Ytahpnackkmbmgaa.Vm
open Go.RowKit
section
def st1:V→Bool
 | .d _=>true
 | .ptr _ _=>true
 | .em=>true
 | _=>false
def c43:List V→Bool
 | []=>true
 | x::l=>match st1 x with|true=>c43 l|false=>false
def stB:V→Bool
 | .d _=>true
 | .ptr _ _=>true
 | .em=>true
 | .ag cs=>c43 cs
 | _=>false
def b3F (s:S):List Nat→Bool
 | []=>true
 | t::l=>match stB (n6 s.t t) with|true=>b3F s l|false=>false
def stD (s:S):Option Nat→Bool
 | some d=>stB (n6 s.t d)
 | none=>false
def c44:Op→Bool
 | .move _=>true
 | .fieldAddr _ _ _=>true
 | .field _ _ _=>true
 | .binOp _ _ _ _ _=>true
 | .build _ _=>true
 | .extract _ _=>true
 | .nilCheck _=>true
 | .convert t0 t _=>!(a0z (ty t0).kind && a0z (ty t).kind)
 | _=>false
def a8k:Oper→Bool
 | ⟨some _,op,_,_,_,none⟩=>c44 op
 | _=>false
def b2p:Oper→Bool
 | ⟨_,.buildSlice _ (_+1) _,_,_,_,none⟩=>true
 | _=>false
def b2q:Oper→Bool
 | ⟨_,.call ⟨.value (.func _),_,_⟩,_,_,_,none⟩=>true
 | _=>false
def alU:Oper→Bool
 | ⟨_,.alloc _,_,_,_,none⟩=>true
 | _=>false
def slO:Oper→Bool
 | ⟨_,.slice _ _ _ _ _,_,_,_,none⟩=>true
 | _=>false
def frG (o:Oper):Bool:=slO o || b2m o || a8k o || b2p o || b2q o || alU o || b2d o
def a9N (all:List Oper) (an:List (List Nat)) (i:Nat):Bool:=match all[i]? with
 | some o=>a8k o && (List.range all.length).all fun j=>(an.getD i []).contains j || (an.getD j []).contains i || Nat.beq j i || match all[j]? with|some oj=>frG oj && J8 o.dst (v6 (l8 all) oj) && J8 oj.dst (v6 (l8 all) o) && o.dst != oj.dst|none=>true
 | none=>false
def b8M (a:Ar) (dsts:List (Option Nat)) (o:Oper) (s:S) (K:S→Prop):Prop:=match b2p o with
 | true=>run a false dsts [o] s K
 | false=>a12 a dsts [o] s K
def b3G (a:Ar) (dsts:List (Option Nat)) (all:List Oper) (an:List (List Nat)) (fx:List Nat):Nat→List Nat→S→(S→Prop)→Prop
 | 0,_,s,K=>a.next K s
 | n+1,l,s,K=>match a2e an l fx with
  | some i=>match b6t all i with
   | some o=>match b3F s (v6 dsts o) with
    | true=>b8M a dsts o s (fun s1=>match stD s1 o.dst with|true=>b3G a dsts all an fx n (a0S i l) s1 K|false=>False)
    | false=>False
   | none=>False
  | none=>c41 (fun i=>match b6t all i with
   | some o=>b8M a dsts o s (fun s=>b3G a dsts all an fx n (a0S i l) s K)
   | none=>False) (b6u an l l)
def b4Z (ops:Array Oper) (fx:List Nat):Bool :=
 let an:=H9 ops.toList []
 (List.range ops.size).all (fun i=>(an.getD i []).all fun j=>Nat.blt j i) && fx.all (a9N ops.toList an)
theorem b2r {v:V} (h:stB v=true) (k:Nat):E3 k v=v:=by
 cases v with
 | d x=>rfl
 | ptr j o=>rfl
 | em=>rfl
 | ag cs =>
  rw [stB] at h
  rw [E3]
  congr 1
  induction cs with
  | nil=>rfl
  | cons x l ih =>
   rw [c43] at h
   split at h
   ·rename_i hx
    rw [A3,ih h]
    congr 1
    cases x <;> first|rfl|cases hx
   ·cases h
 | _=>cases h
theorem a9O:∀(ks:List Nat) (l:List V) (i:Nat),stB (n6 l i)=true→n6 (A2 ks l) i=n6 l i
 | [],l,i,h=>rfl
 | k::ks,l,i,h=>by
  have e:n6 (H3 k l) i=n6 l i:=by rw [a1c,b2r h]
  rw [A2,a9O ks (H3 k l) i (by rw [e];exact h),e]
theorem a9P {v:V} (h:stB v=true):∀(ks:List Nat) (l:List V) (i:Nat),A2 ks (E6 l i v)=E6 (A2 ks l) i v
 | [],l,i=>rfl
 | k::ks,l,i=>by rw [A2,a5U,b2r h,a9P h ks,A2]
theorem b0R {s:S}:∀ {l:List Nat},b3F s l=true→∀t∈l,stB (n6 s.t t)=true
 | [],_,t,ht=>by simp at ht
 | x::l,h,t,ht=>by
  rw [b3F] at h
  split at h
  ·rename_i hx
   rcases c9e.1 ht with rfl|ht
   ·exact hx
   ·exact b0R h t ht
  ·cases h
theorem b5a {s:S}:∀ {l:List Nat},(∀t∈l,stB (n6 s.t t)=true)→b3F s l=true
 | [],_=>rfl
 | x::l,h=>by
  rw [b3F,h x (c8V ..)]
  exact b5a fun t ht=>h t (c8X _ ht)
theorem b3H {op:Op} (h:c44 op=true):a4k op=true:=by cases op <;> first|rfl|cases h
theorem a8l {o:Oper} (h:a8k o=true):∃d op ty p a,o=⟨some d,op,ty,p,a,none⟩∧c44 op=true:=by
 obtain ⟨dst,op,ty,p,a,gd⟩:=o
 cases dst with
 | none=>cases h
 | some d =>
  cases gd with
  | none=>exact ⟨d,op,ty,p,a,rfl,h⟩
  | some g=>cases h
theorem b0S {dsts:List (Option Nat)} {o:Oper} (ho:a8k o=true) {s:S} {K:S→Prop}:a12 f7 dsts [o] s K=l6 f7 dsts o s K:=by
 obtain ⟨d,op,ty',p,a,rfl,h⟩:=a8l ho
 cases op
 case convert t0 t x =>
  have e:c5S s (.convert t0 t x)=false:=by
   have h:(!(a0z (ty t0).kind && a0z (ty t).kind))=true:=h
   show (match a0z (ty t0).kind with|true=>a0z (ty t).kind|false=>false)=false
   generalize a0z (ty t0).kind=x at *
   generalize a0z (ty t).kind=y at *
   cases x <;> cases y <;> first|rfl|cases h
  show a6s f7 s (some d) (fun s=>K s) _=_
  unfold a6s
  rw [e]
  rfl
 all_goals first|rfl|cases h
theorem b5b {o:Oper} (h:b2p o=true):∃dst t n ps ty p a,o=⟨dst,.buildSlice t (n+1) ps,ty,p,a,none⟩:=by
 obtain ⟨dst,op,ty,p,a,gd⟩:=o
 unfold b2p at h
 split at h
 ·rename_i e
  injection e with e1 e2 e3 e4 e5 e6
  subst e1 e2 e6
  exact ⟨_,_,_,_,_,_,_,rfl⟩
 ·cases h
theorem c7T {ops:Array Oper} {o:Oper} (hl:b2p o=true) {s:S} {K1:S→Prop} (h:l6 f7 (l8 ops.toList) o s K1):b2o ops o s K1:=by
 obtain ⟨dst,t,m,ps,type,pos,after,rfl⟩:=b5b hl
 intro I0 X w0 a w ro n Q Kw hop hrel hKw
 rw [c8Y (by rfl)]
 obtain ⟨I,g,hr⟩:=hrel
 exact a95 (fun c hc=>a1W hop c hc) (Oper.wp_mono (fun a' w' ⟨s',h1,h2⟩=>hKw s' a' w' h1 h2) (b0C hr (m:=false) (o:=⟨dst,.buildSlice t (m+1) ps,type,pos,after,none⟩) (Q:=Q) hop h))
theorem b5c {dsts:List (Option Nat)} {o:Oper} (ho:slO o=true) {s:S} {K:S→Prop}:a12 f7 dsts [o] s K=l6 f7 dsts o s K:=by
 obtain ⟨dst,op,type,pos,after,gd⟩:=o
 cases gd <;> cases op <;> first|rfl|cases ho
def a60 (o:Oper):Bool:=slO o || b2m o || a8k o || b2p o
theorem b8N {o:Oper} (h:a60 o=true):a4V o.op=true:=by
 unfold a60 at h
 rw [c96,c96,c96] at h
 rcases h with ((h|h)|h)|h
 ·obtain ⟨dst,op,type,pos,after,gd⟩:=o
  cases gd <;> cases op <;> first|rfl|cases h
 ·obtain ⟨dst,op,type,pos,after,gd⟩:=o
  cases gd with
  | some g=>cases h
  | none=>have h:c42 op=true:=h;cases op <;> first|rfl|cases h
 ·obtain ⟨d,op,ty,p,a,rfl,h⟩:=a8l h
  cases op <;> first|rfl|cases h
 ·obtain ⟨dst,t,m,ps,type,pos,after,rfl⟩:=b5b h
  rfl
def exH (ops:Array Oper) (o:Oper) (s:S) (K:S→Prop):Prop:=if a60 o=true then l6 f7 (l8 ops.toList) o s K else if (b2q o || alU o)=true then a12 f7 (l8 ops.toList) [o] s K else if b2d o=true then l6 f7 (l8 ops.toList) o s K else b2o ops o s K
theorem b5d {dsts:List (Option Nat)} {o:Oper} (ho:b2d o=true) {s:S} {K:S→Prop}:a12 f7 dsts [o] s K=l6 f7 dsts o s K:=by
 obtain ⟨dst,op,type,pos,after,gd⟩:=o
 cases gd <;> cases dst <;> cases op <;> first|rfl|cases ho
theorem b2t {o:Oper} (h:b2q o=true):∃dst f args ts ty p a,o=⟨dst,.call ⟨.value (.func f),args,ts⟩,ty,p,a,none⟩:=by
 obtain ⟨dst,op,ty,p,a,gd⟩:=o
 unfold b2q at h
 split at h
 ·rename_i e
  injection e with e1 e2 e3 e4 e5 e6
  subst e1 e2 e6
  exact ⟨_,_,_,_,_,_,_,rfl⟩
 ·cases h
theorem b8O {o:Oper} (h:alU o=true):∃dst e ty p a,o=⟨dst,.alloc e,ty,p,a,none⟩:=by
 obtain ⟨dst,op,ty,p,a,gd⟩:=o
 unfold alU at h
 split at h
 ·rename_i e
  injection e with e1 e2 e3 e4 e5 e6
  subst e1 e2 e6
  exact ⟨_,_,_,_,_,rfl⟩
 ·cases h
theorem c6r {dsts:List (Option Nat)} {dst:Option Nat} {f:Nat} {args:Array Operand} {ts:Array TypeId} {ty:TypeId} {p:String} {a:Array Edge} {s:S} {K:S→Prop}:a12 f7 dsts [⟨dst,.call ⟨.value (.func f),args,ts⟩,ty,p,a,none⟩] s K=L8 f (H0 s.get args.toList) s.o (fun u o' ks=>K (S.put ⟨A2 ks s.t,o'⟩ dst u)):=rfl
theorem c37 {dsts:List (Option Nat)} {dst:Option Nat} {e:Nat} {ty:TypeId} {p:String} {a:Array Edge} {s:S} {K:S→Prop}:a12 f7 dsts [⟨dst,.alloc e,ty,p,a,none⟩] s K=match a3N (F4 (Vm.ty e).zero) with
  | true=>K ((s.obj (a5F e)).put dst (.ptr (m7 s.o) 0))
  | false=>False:=rfl
theorem exH.mono {ops:Array Oper} {o:Oper} {s:S} {K K':S→Prop} (h:exH ops o s K) (hK:∀s,K s→K' s):exH ops o s K':=by
 unfold exH at h ⊢
 split at h
 ·rename_i hr
  rw [c8Y hr]
  exact U4 hK h
 ·rename_i hr
  rw [c8W hr]
  split at h
  ·rename_i hc
   rw [c8Y hc]
   rw [c96] at hc
   rcases hc with hc|hc
   ·obtain ⟨dst,f,args,ts,ty,p,a,rfl⟩:=b2t hc
    rw [c6r] at h ⊢
    exact h.mono fun _ _ _ hx=>hK _ hx
   ·obtain ⟨dst,e,ty,p,a,rfl⟩:=b8O hc
    rw [c37] at h ⊢
    split at h
    ·exact hK _ h
    ·exact h.elim
  ·rename_i hc
   rw [c8W hc]
   split at h
   ·rename_i hs
    rw [c8Y hs]
    exact U4 hK h
   ·rename_i hs
    rw [c8W hs]
    exact h.mono hK
theorem exH.sem {ops:Array Oper} {o:Oper} {s:S} {K:S→Prop} (h:exH ops o s K):b2o ops o s K:=by
 unfold exH at h
 split at h
 ·rename_i hr
  unfold a60 at hr
  rw [c96,c96,c96] at hr
  rcases hr with ((hr|hr)|hr)|hr
  ·rw [←b5c hr] at h
   exact b6v h
  ·rw [←b4X hr] at h
   exact b6v h
  ·rw [←b0S hr] at h
   exact b6v h
  ·exact c7T hr h
 ·split at h
  ·exact b6v h
  ·split at h
   ·rename_i hs
    rw [←b5d hs] at h
    exact b6v h
   ·exact h
theorem exH.of {ops:Array Oper} {o:Oper} {s:S} {K:S→Prop} (h:b8M f7 (l8 ops.toList) o s K):exH ops o s K:=by
 unfold b8M at h
 unfold exH
 split at h
 ·rename_i hl
  rw [c8Y (by unfold a60;rw [hl,Bool.or_true])]
  exact h
 ·rename_i hl
  split
  ·rename_i hr
   unfold a60 at hr
   rw [hl,Bool.or_false,c96,c96] at hr
   rcases hr with (hr|hr)|hr
   ·rw [←b5c hr]
    exact h
   ·rw [←b4X hr]
    exact h
   ·rw [←b0S hr]
    exact h
  ·split
   ·exact h
   ·split
    ·rename_i hs
     rw [←b5d hs]
     exact h
    ·exact b6v h
theorem b8P {ops:Array Oper} {o:Oper} (hf:frG o=true) {d:Nat} {v:V} {s:S} {K:S→Prop} (hl:J8 (some d) (v6 (l8 ops.toList) o)=true) (h:exH ops o (s.put (some d) v) K):exH ops o s (fun s'=>∃ks o' u,s'=S.put ⟨A2 ks s.t,o'⟩ o.dst u∧K (S.put ⟨A2 ks (s.put (some d) v).t,o'⟩ o.dst u)):=by
 unfold exH at h ⊢
 split at h
 ·rename_i hr
  rw [c8Y hr]
  obtain ⟨u,h1,h2⟩:=a4X (b8N hr) h
  exact h2 s _ (J6 (H6 hl)).symm ⟨[],s.o,u,rfl,h1⟩
 ·rename_i hr
  rw [c8W hr]
  by_cases hc:(b2q o || alU o)=true
  case neg =>
   have hs:b2d o=true:=by
    unfold frG at hf
    unfold a60 at hr
    cases h1:b2m o <;> cases h2:a8k o <;> cases h3:b2p o <;> cases h4:slO o <;> simp_all
   rw [c8W hc,c8Y hs] at h ⊢
   obtain ⟨o',h1,h2⟩:=a7P hs h
   have hd:o.dst=none:=by
    unfold b2d at hs
    simp only [c8Z,d0K] at hs
    exact hs.2
   exact h2 s _ rfl (fun t ht=>(a1d hl t ht).symm) ⟨[],o',.em,by rw [hd];rfl,by rw [hd];exact h1⟩
  rw [c8Y hc] at h ⊢
  rw [c96] at hc
  rcases hc with hc|hc
  ·obtain ⟨dst,f,args,ts,ty,p,a,rfl⟩:=b2t hc
   rw [c6r] at h ⊢
   have hargs:∀l:List Operand,(∀z∈l,z∈args.toList)→H0 (s.put (some d) v).get l=H0 s.get l:=by
    intro l
    induction l with
    | nil=>intro _;rfl
    | cons z l ih =>
     intro hz
     rw [H0,H0,ih fun z' h'=>hz z' (c8X _ h')]
     congr 1
     cases z with
     | tmp i =>
      show n6 (s.put (some d) v).t i=n6 s.t i
      refine a1d hl i ?_
      unfold v6
      refine c9X _ (a4W ?_)
      have h0:Operand.tmp i∈args:=by simpa using hz _ (c8V ..)
      simp [Op.operands,Call.operands,h0]
     | _=>rfl
   rw [hargs _ fun z hz=>hz] at h
   exact h.mono fun u o' ks hx=>⟨ks,o',u,rfl,hx⟩
  ·obtain ⟨dst,e,ty,p,a,rfl⟩:=b8O hc
   rw [c37] at h ⊢
   split at h
   ·exact ⟨[],_,_,rfl,h⟩
   ·exact h.elim
def PtB (dsts:List (Option Nat)) (o:Oper) (s:S) (v:V):Prop:=∀(s':S) (K':S→Prop),a7O (v6 dsts o) s s'→K' (s'.put o.dst v)→l6 f7 dsts o s' K'
def b6w (ops:Array Oper) (K:S→Prop):Nat→List Nat→S→Prop
 | 0,l,s=>f7.next K s
 | n+1,l,s=>(∃i o v,i∈l∧a9k (H9 ops.toList []) l i=true∧a9N ops.toList (H9 ops.toList []) i=true∧ops.toList[i]?=some o∧b3F s (v6 (l8 ops.toList) o)=true∧stB v=true∧PtB (l8 ops.toList) o s v∧b6w ops K n (a0S i l) (s.put o.dst v)) ∨
   ∀i,i∈l→a9k (H9 ops.toList []) l i=true→∃o,ops.toList[i]?=some o∧exH ops o s (b6w ops K n (a0S i l))
theorem b3I {ops:Array Oper} {fx:List Nat} (hfx:∀i∈fx,a9N ops.toList (H9 ops.toList []) i=true):∀ {n:Nat} {l:List Nat} {s:S} {K:S→Prop},b3G f7 (l8 ops.toList) ops.toList (H9 ops.toList []) fx n l s K→b6w ops K n l s
 | 0,l,s,K,h=>h
 | n+1,l,s,K,h=>by
  rw [b3G] at h
  split at h
  ·rename_i i hi
   obtain ⟨h1,h2,h3⟩:=a2y hi
   split at h <;> try exact h.elim
   rename_i o ho
   rw [b0Q] at ho
   split at h <;> try exact h.elim
   rename_i hst
   have hb:a8k o=true:=by
    have:=hfx i h1
    unfold a9N at this
    rw [ho] at this
    simp only [c8Z] at this
    exact this.1
   have hnl:b2p o=false:=by
    obtain ⟨d,op,ty,p,a,rfl,hop⟩:=a8l hb
    cases op <;> first|rfl|cases hop
   unfold b8M at h
   rw [hnl] at h
   simp only at h
   rw [b0S hb] at h
   obtain ⟨d,op,ty,p,a,e,hop⟩:=a8l hb
   obtain ⟨v,g1,g2⟩:=a4Y (by rw [e];exact b3H hop) h
   split at g1 <;> try exact g1.elim
   rename_i hsd
   refine .inl ⟨i,o,v,h2,h3,hfx i h1,ho,hst,?_,g2,b3I hfx g1⟩
   rw [e] at hsd
   have hsd:stB (n6 (E6 s.t d v) d)=true:=hsd
   rcases a1I (v:=v) (l:=s.t) (i:=d) with e2|e2
   ·rw [e2] at hsd;exact hsd
   ·rw [e2] at hsd;cases hsd
  ·refine .inr fun i hi hr=>?_
   have h4:=b4W h i (a8j.2 ⟨hi,hr⟩)
   split at h4 <;> try exact h4.elim
   rename_i o ho
   rw [b0Q] at ho
   exact ⟨o,ho,(exH.of h4).mono fun s hs=>b3I hfx hs⟩
theorem b2u {ops:Array Oper} {K:S→Prop}:∀ {n:Nat} {l:List Nat} {s:S},b6w ops K (n+1) l s→l.Nodup→l.length=n+1→∀ {j:Nat} {oj:Oper},j∈l→a9k (H9 ops.toList []) l j=true→ops.toList[j]?=some oj→exH ops oj s (b6w ops K n (a0S j l))
 | n,l,s,h,hn,hl,j,oj,hj,hr,ho=>by
  rcases h with ⟨i,o,v,hi,hri,hf,hoi,hst,hv,hpt,h⟩|h
  ·have hf0:=hf
   unfold a9N at hf
   rw [hoi] at hf
   simp only [c8Z] at hf
   by_cases e:i=j
   ·subst e
    rw [hoi] at ho
    cases ho
    unfold exH
    rw [c8Y (by unfold a60;rw [hf.1,Bool.or_true,Bool.true_or])]
    exact hpt s _ (fun _ _=>rfl) h
   ·cases n with
    | zero =>
     match l,hl with
     | [x],_=>simp at hi hj;omega
    | succ n =>
     have hd:=b4Y hn hi
     have h1:=b2u h (a4u hn) (by omega) (a08.2 ⟨hj,fun e2=>e e2.symm⟩) (a4t.2 fun k hk hm=>a4t.1 hr k hk (a08.1 hm).1) ho
     have hjlt:j<ops.toList.length:=(c8S.1 ho).1
     have h2:=c9s.1 hf.2 j (by simpa using hjlt)
     rw [ho] at h2
     simp only [c96,c8Z,c9W,Nat.beq_eq] at h2
     obtain ⟨d,op,ty,p,a,eo,hop⟩:=a8l hf.1
     rcases h2 with ((h2|h2)|h2)|⟨⟨⟨h2,h3⟩,h4⟩,h5⟩
     ·exact absurd hj (a4t.1 hri j h2)
     ·exact absurd hi (a4t.1 hr i h2)
     ·exact absurd h2.symm e
     ·have hdst:o.dst=some d:=by rw [eo]
      rw [hdst] at h1 h3 h5
      refine (b8P h2 h3 h1).mono fun s' ⟨ks,o',u,e1,hK⟩=>?_
      have hsame:a7O (v6 (l8 ops.toList) o) s s':=fun t ht=>by
       rw [e1,a1d h4 t ht]
       exact a9O ks s.t t (b0R hst t ht)
      refine .inl ⟨i,o,v,a08.2 ⟨hi,e⟩,a4t.2 fun k hk hm=>a4t.1 hri k hk (a08.1 hm).1,hf0,hoi,b5a fun t ht=>by rw [hsame t ht];exact b0R hst t ht,hv,fun s2 K' hs hk=>hpt s2 K' (fun t ht=>(hs t ht).trans (hsame t ht)) hk,?_⟩
      rw [a9L,hdst,e1]
      have hcm:(S.put ⟨A2 ks s.t,o'⟩ oj.dst u).put (some d) v=S.put ⟨A2 ks (s.put (some d) v).t,o'⟩ oj.dst u:=by
       rw [a1Z (fun z hz hz'=>by rw [hz,←hz'] at h5;simp at h5)]
       show S.put ⟨E6 (A2 ks s.t) d v,o'⟩ oj.dst u=S.put ⟨A2 ks (E6 s.t d v),o'⟩ oj.dst u
       rw [a9P hv]
      rw [hcm]
      exact hK
  ·obtain ⟨o,ho',h⟩:=h j hj hr
   rw [ho] at ho'
   cases ho'
   exact h
section
variable {I0:Nat→Nat→Prop} {X:Nat→Prop} {w0:W0}
theorem c45 {ro:Option Nat} {n:Nat} {ops:Array Oper} {Q:Exit→Act→World→Prop} {K:S→Prop} (hQ:∀s' a' w',Rel I0 X w0 s' a' w'→K s'→Q .normal a' w') (hok:∀o∈ops.toList,a05 Try.prog o.op=true) (hd:∀i,i<ops.size→∀j∈(H9 ops.toList []).getD i [],j<i):∀(fuel:Nat) (l:List Nat) (listed:Array Bool) (s:S) (a:Act) (w:World),l.length=fuel→listed.size=ops.size→l.Pairwise (·<·)→(∀i,i∈l↔i<ops.size∧listed.getD i true=false)→(∀i,i<ops.size→listed.getD i false=true→∀j∈(H9 ops.toList []).getD i [],listed.getD j false=true)→Rel I0 X w0 s a w→b6w ops K fuel l s→wpAnyIn (FW ro) n Try.prog .any ops Q fuel listed a w:=by
 intro fuel
 induction fuel with
 | zero =>
  intro l listed s a w hl hsz hp hmem hcl hrel hK
  obtain rfl:=List.length_eq_zero_iff.1 hl
  obtain ⟨F,hg,hk⟩:=hK
  obtain ⟨s',hf,hr'⟩:=hg _ _ _ _ _ hrel
  refine ⟨?_,hQ _ _ _ hr' (hk s' hf)⟩
  cases hr:Region.ready .any ops listed with
  | nil=>rfl
  | cons x xs =>
   obtain ⟨h1,o,h2,_⟩:=mem_ready.1 (show x∈Region.ready .any ops listed by rw [hr];exact c8V ..)
   have:=(hmem x).2 ⟨(c9g.1 h2).1,h1⟩
   simp at this
 | succ fuel ih =>
  intro l listed s a w hl hsz hp hmem hcl hrel hK
  have un:∀j,j∈l→listed.getD j false=true→False:=fun j hj h=>by
   obtain ⟨h1,h2⟩:=(hmem j).1 hj
   simp [hsz,h1] at h h2
   rw [h2] at h;cases h
  refine ⟨fun hr=>?_,fun i hi=>?_⟩
  ·exfalso
   cases l with
   | nil=>simp at hl
   | cons i0 rest =>
    obtain ⟨h1,h2⟩:=(hmem i0).1 (c8V ..)
    obtain ⟨o,ho⟩:∃o,ops[i0]?=some o:=⟨_,c9P h1⟩
    have:i0∈Region.ready .any ops listed:=mem_ready.2 ⟨h2,o,ho,fun e he hb=>by
     have h3:e.on∈(H9 ops.toList []).getD i0 []:=by
      rw [b4M ho (hd i0 h1)]
      exact c9K.2 ⟨e.on,a8a he hb,c8V ..⟩
     have h4:=hd i0 h1 _ h3
     have h5:¬(e.on∈i0::rest):=fun hm=>by
      rcases c9e.1 hm with hm|hm
      ·omega
      ·have:=(c9E.1 hp).1 _ hm
       omega
     have h6:listed.getD e.on true=true:=by
      cases hx:listed.getD e.on true with
      | true=>rfl
      | false=>exact absurd ((hmem e.on).2 ⟨by omega,hx⟩) h5
     have hlt:e.on<listed.size:=by omega
     simpa [hlt] using h6⟩
    rw [hr] at this
    simp at this
  ·obtain ⟨h1,o,ho,hall⟩:=mem_ready.1 hi
   have hlt:=(c9g.1 ho).1
   have hil:i∈l:=(hmem i).2 ⟨hlt,h1⟩
   have han:∀j∈(H9 ops.toList []).getD i [],listed.getD j false=true:=fun j hj=>by
    rw [b4M ho (hd i hlt)] at hj
    obtain ⟨k,hk,hj⟩:=c9K.1 hj
    obtain ⟨e,he,hek⟩:=d0o.1 hk
    obtain ⟨he1,he2⟩:=d02.1 he
    subst hek
    have h3:=hall e (by simpa using he1) he2
    rcases c9e.1 hj with rfl|hj
    ·exact h3
    ·have:e.on<ops.size:=by
      rcases c9N e.on listed.size with h'|h'
      ·omega
      ·simp [Array.getElem?_eq_none h'] at h3
     exact hcl _ this h3 j hj
   have hot:ops.toList[i]?=some o:=by rw [c9D];exact ho
   have hnd:l.Nodup:=hp.imp fun h=>Nat.ne_of_lt h
   have hf:=(b2u hK hnd hl hil (a4t.2 fun j hj hm=>un j hm (han j hj)) hot).sem
   have key:=hf I0 X w0 a w ro n Q (wpAnyIn (FW ro) n Try.prog .any ops Q fuel (listed.setIfInBounds i true)) (hok o (c9h hot)) hrel (fun s' a' w' hrel' hK'=>by
    have hsub:(a0S i l).Pairwise (·<·):=by
     have e:∀l:List Nat,(a0S i l).Sublist l:=by
      intro l
      induction l with
      | nil=>exact .slnil
      | cons x l ih =>
       rw [a0S]
       cases L7 x i
       ·exact ih.cons_cons x
       ·exact ih.cons x
     exact hp.sublist (e l)
    refine ih (a0S i l) _ s' a' w' (by have:=b4Y hnd hil;omega) (by simpa using hsz) hsub (fun k=>?_) (fun k hk hkl j hj=>?_) hrel' hK'
    ·rw [a08]
     by_cases hik:i=k
     ·subst hik
      refine ⟨fun hm=>absurd rfl hm.2,fun hm=>?_⟩
      have h6:=hm.2
      have hlt':i<listed.size:=by omega
      simp [hlt'] at h6
     ·rw [getD_set_ne true hik,←hmem k]
      exact ⟨fun h=>h.1,fun h=>⟨h,fun e=>hik e.symm⟩⟩
    ·by_cases hik:i=k
     ·subst hik
      exact getD_set_true (han j hj)
     ·rw [getD_set_ne false hik] at hkl
      exact getD_set_true (hcl k hk hkl j hj))
   unfold wpOpIn
   rw [ho]
   simp only
   split at key
   ·rename_i hw
    rw [c8Y hw]
    exact key
   ·rename_i hw
    rw [c8W hw]
    exact key
end
theorem c1E {ops:Array Oper} {fx:List Nat} (hp:b4Z ops fx=true) {s:S} {K:S→Prop} (h:b3G f7 (l8 ops.toList) ops.toList (H9 ops.toList []) fx ops.size (List.range ops.size) s K):f7.reg ops s K:=by
 intro I0 X w0 a w ro n Q hok hrel hQ
 unfold b4Z at hp
 simp only [c8Z] at hp
 have hd:∀i,i<ops.size→∀j∈(H9 ops.toList []).getD i [],j<i:=fun i hi j hj=>by
  have h1:=c9s.1 hp.1 i (by simpa using hi)
  simpa [d0d] using c9s.1 h1 j hj
 have hfx:∀i∈fx,a9N ops.toList (H9 ops.toList []) i=true:=fun i hi=>c9s.1 hp.2 i hi
 refine c45 hQ hok hd ops.size (List.range ops.size) _ s a w (by simp) (by simp) List.pairwise_lt_range (fun i=>?_) (fun i hi h=>?_) hrel (b3I hfx h)
 ·rw [d0Y]
  exact ⟨fun hi=>⟨hi,by simp [hi]⟩,fun h=>h.1⟩
 ·simp [hi] at h
section
variable {qa:_} {qb:_} {qc:_} {qd:_} {qe:_} {qg:_} {qh:_} {qi:_} {qj:_} {qk:_} {ql:_} {qm:_} {qo:_} {qp:_} {qq:_} {qt:_} {qu:_} {qv:_} {qw:_} {qx:_} {qy:_} {qz:_} {va:_} {vc:_} {vd:_} {ve:_} {vf:_} {vg:_} {vh:_} {vj:_} {vk:_} {vl:_} {vm:_} {vn:_} {vo:_} {vp:_} {vq:_} {vr:_} {vt:_} {vu:_} {vv:_} {vw:_} {vx:_} (hA:Ar.mk qa qb qc qd qe qg qh qi qj qk ql qm qo qp qq qt qu qv qw qx qy qz va vc vd ve vf vg vh vj vk vl vm vn vo vp vq vr vt vu vv vw vx=f7)
include hA
theorem a7a {ops:Array Oper} (fx:List Nat) (hp:b4Z ops fx=true) {s:S} {K:S→Prop} (h:b3G (Ar.mk qa qb qc qd qe qg qh qi qj qk ql qm qo qp qq qt qu qv qw qx qy qz va vc vd ve vf vg vh vj vk vl vm vn vo vp vq vr vt vu vv vw vx) (l8 ops.toList) ops.toList (H9 ops.toList []) fx ops.size (List.range ops.size) s K):vw ops s K:=by
 have e:vw=f7.reg:=congrArg Ar.reg hA
 rw [e]
 rw [hA] at h
 exact c1E hp h
end
end
end Go.Proofs.Ytahpnackkmbmgaa.Vm
end
section
namespace Go.Proofs.Ytahpnackkmbmgaa.Vm
open Go.RowKit
set_option maxRecDepth 100000
set_option maxHeartbeats 4000000
section
section
variable {qa:_} {qb:_} {qc:_} {qd:_} {qe:_} {qg:_} {qh:_} {qi:_} {qj:_} {qk:_} {ql:_} {qm:_} {qo:_} {qp:_} {qq:_} {qt:_} {qu:_} {qv:_} {qw:_} {qx:_} {qy:_} {qz:_} {va:_} {vc:_} {vd:_} {ve:_} {vf:_} {vg:_} {vh:_} {vj:_} {vk:_} {vl:_} {vm:_} {vn:_} {vo:_} {vp:_} {vq:_} {vr:_} {vt:_} {vu:_} {vv:_} {vw:_} {vx:_} (hA:Ar.mk qa qb qc qd qe qg qh qi qj qk ql qm qo qp qq qt qu qv qw qx qy qz va vc vd ve vf vg vh vj vk vl vm vn vo vp vq vr vt vu vv vw vx=f7)
include hA
theorem ew {k:IntKind} {x y z:Int} (h:k.wrap (x+y)=z):qa k (qb x y)=z:=by
 obtain ⟨e1,e2,_⟩:=m6 hA
 rw [e1,e2,h]
theorem eb {x y:Int} {b:Bool} (h:(x == y)=b):qk x y=b:=by
 obtain ⟨_,_,_,_,_,_,_,_,e9⟩:=m6 hA
 rw [e9,h]
theorem ebr {x:Int}:qk x x=true:=eb hA (c9T x)
theorem el {x y:Int} {b:Bool} (h:decide (x<y)=b):qi x y=b:=by
 obtain ⟨_,_,_,_,_,_,e7,_⟩:=m6 hA
 rw [e7,h]
theorem eln {x:Int} {r:List (List D)} {b:Bool} (h:decide (x<(r.length:Int))=b):qi x (va r)=b:=by
 obtain ⟨e,_⟩:=C7 hA
 rw [e,el hA h]
theorem eg {r:List (List D)} {a:Int} {c:List D} (h:f7.get r a=some c):vc r a=some c:=by
 have e:vc=f7.get:=congrArg Ar.get hA
 rw [e,h]
theorem ea (x y:List (List D)):ve x y=x++y:=by
 obtain ⟨_,_,_,e⟩:=C7 hA
 rw [e]
theorem es {x y:ByteArray} {b:Bool} (h:(x.toList == y.toList)=b):qm (qp x) (qp y)=b:=by
 obtain ⟨s1,_,s3,_⟩:=I3 hA
 rw [s1,s3,s3,h]
theorem esl (x y:ByteArray):qm (qp x) (qp y)=(x.data.toList == y.data.toList):=by
 obtain ⟨s1,_,s3,_⟩:=I3 hA
 rw [s1,s3,s3,ByteArray.toList_eq,ByteArray.toList_eq]
theorem esr {x:ByteArray}:qm (qp x) (qp x)=true:=es hA (c9T _)
theorem c47 {ops:Array Oper} {n:Nat} (hn:ops.size=n) (fx:List Nat) (hp:b4Z ops fx=true) {s:S} {K:S→Prop} (s':S) (h:∀K:S→Prop,K s'→b3G (Ar.mk qa qb qc qd qe qg qh qi qj qk ql qm qo qp qq qt qu qv qw qx qy qz va vc vd ve vf vg vh vj vk vl vm vn vo vp vq vr vt vu vv vw vx) (l8 ops.toList) ops.toList (H9 ops.toList []) fx ops.size (List.range ops.size) s K) (hK:K s'):vw ops s K:=a7a hA fx hp (h K hK)
theorem v7 {f:Nat} {vs vs' r:List V} {s:S} {K:V→S→Prop} (ks:List Nat) {os' o2:List O} (h:n7 f vs' os' (fun res os=>res=r∧os=o2)) (hK:K (Z8 (upT ks (m7 s.o) r)) (a2P ks o2 s)) (hs:SubOk ks vs' os' vs s:=by exact ⟨rfl,rfl,rfl,rfl,rfl,rfl,rfl⟩):vo f vs s K :=
 o6 hA ks h hs fun _ _ ⟨e1,e2⟩=>by rw [e1,e2];exact hK
theorem cx {f:Nat} {vs vs' r:List V} {l:List Nat} {s:S} {K:V→S→Prop} (ks:List Nat) {os' o2:List O} (h:n7 f vs' os' (fun res os=>res=r∧os=o2)) (hK:K (Z8 (upT ks (m7 s.o) r)) ⟨s.t,E7 ks (N8 ks (m7 s.o) o2) s.o⟩) (hb:b3D os'=true:=by rfl) (hs:SubOk ks vs' os' vs s:=by exact ⟨rfl,rfl,rfl,rfl,rfl,rfl,rfl⟩)
  (hk:a2r l s.t s.o (E7 ks (N8 ks (m7 s.o) o2) s.o):=by repeat (first|exact a8e _ _ _|refine a6z (fun k hk=>by injection hk with hk;subst hk;rfl) ?_)):vp f vs l s K :=
 b2j hA ks (n7.box h hb) hs fun _ _ ⟨e1,e2⟩=>by rw [e1,e2];exact ⟨hk,hK⟩
theorem rdx {f:Nat} {vs vs' r:List V} {s:S} {K:V→S→Prop} (ks:List Nat) {os':List O} (h:A4 f vs' os' (fun res o2=>res=r∧o2=os')) (hK:K (Z8 (upT ks (m7 s.o) r)) s) (hs:SubOk ks vs' os' vs s:=by exact ⟨rfl,rfl,rfl,rfl,rfl,rfl,rfl⟩) (hb:E7 ks (N8 ks (m7 s.o) os') s.o=s.o:=by rfl):vo f vs s K :=
 a8h hA ks h hs hb fun _ e=>by rw [e];exact hK
theorem rdq {f:Nat} {vs vs' r:List V} {o:List O} {K:V→Prop} (ks:List Nat) {os':List O} (h:A4 f vs' os' (fun res o2=>res=r∧o2=os')) (hK:K (Z8 (upT ks (m7 o) r))) (hs:SubOk ks vs' os' vs ⟨[],o⟩:=by exact ⟨rfl,rfl,rfl,rfl,rfl,rfl,rfl⟩) (hb:E7 ks (N8 ks (m7 o) os') o=o:=by rfl):vn f vs o K:=b0P hA ks h hs hb hK
theorem eL {L z:Int} (hL:0≤L∧L≤1048576) (e:z=L+1):qa .i64 (qb L 1)=z:=ew hA (by rw [IntWalk.i64_in _ (by omega)];exact e.symm)
end
theorem T1 {p:Prop} (h:p:=by
  iterate 2 (all_goals try cbv;repeat' (first|(with_reducible apply f8 hA;exact hk)|((first|with_reducible apply f8 hA|rw [q0]|rw [q1]|rw [q2]|rw [q3]|rw [q4]|rw [q5]|rw [q6]|rw [q7]|rw [ew hA w0]|rw [ew hA w1]|rw [ew hA w2]|rw [ew hA w3]|rw [ew hA w4]|rw [ew hA w5]|rw [ew hA w6]|rw [ew hA w7]|rw [qL]|rw [eb hA b0]|rw [eb hA b1]|rw [eb hA b2]|rw [eb hA b3]|rw [eb hA b4]|rw [eb hA b5]|rw [eb hA b6]|rw [eb hA b7]|rw [eb hA b8]|rw [eb hA b9]|rw [el hA l0]|rw [el hA l1]|rw [el hA l2]|rw [el hA l3]|rw [eln hA l0]|rw [eln hA l1]|rw [eg hA g0]|rw [eg hA g1]|rw [eg hA g2]|rw [eg hA g3]|rw [eg hA g4]|rw [eg hA g5]|rw [es hA x0]|rw [es hA x1]|rw [es hA x2]|rw [es hA x3]|rw [esl hA]|rw [ebr hA]|rw [esr hA]|rw [ea hA]|refine v7 hA [0,1] p0 ?_|refine cx hA [0,1] p0 ?_|refine v7 hA [0,1] p1 ?_|refine cx hA [0,1] p1 ?_|refine v7 hA [0,1] p2 ?_|refine cx hA [0,1] p2 ?_|refine v7 hA [0,1] p3 ?_|refine cx hA [0,1] p3 ?_|refine v7 hA [0,1] p4 ?_|refine cx hA [0,1] p4 ?_|refine v7 hA [0,1] p5 ?_|refine cx hA [0,1] p5 ?_|refine v7 hA [0,1] p6 ?_|refine cx hA [0,1] p6 ?_|refine v7 hA [0,1] p7 ?_|refine cx hA [0,1] p7 ?_|refine v7 hA [0,1] p8 ?_|refine cx hA [0,1] p8 ?_|refine v7 hA [0,1] p9 ?_|refine cx hA [0,1] p9 ?_|refine v7 hA [0,1] p10 ?_|refine cx hA [0,1] p10 ?_|refine v7 hA [0,1] p11 ?_|refine cx hA [0,1] p11 ?_|refine v7 hA [0,1] p12 ?_|refine cx hA [0,1] p12 ?_|refine v7 hA [0,1] p13 ?_|refine cx hA [0,1] p13 ?_|refine i9 hA _ h0 rfl ?_|refine j5 hA _ h0 ?_|refine K9 hA _ h0 rfl ?_|refine i9 hA _ h1 rfl ?_|refine j5 hA _ h1 ?_|refine K9 hA _ h1 rfl ?_|refine i9 hA _ h2 rfl ?_|refine j5 hA _ h2 ?_|refine K9 hA _ h2 rfl ?_|refine i9 hA _ h3 rfl ?_|refine j5 hA _ h3 ?_|refine K9 hA _ h3 rfl ?_|refine i9 hA _ h4 rfl ?_|refine j5 hA _ h4 ?_|refine K9 hA _ h4 rfl ?_|refine i9 hA _ h5 rfl ?_|refine j5 hA _ h5 ?_|refine K9 hA _ h5 rfl ?_|refine i9 hA _ h6 rfl ?_|refine j5 hA _ h6 ?_|refine K9 hA _ h6 rfl ?_|refine i9 hA _ h7 rfl ?_|refine j5 hA _ h7 ?_|refine K9 hA _ h7 rfl ?_|refine i9 hA _ h8 rfl ?_|refine j5 hA _ h8 ?_|refine K9 hA _ h8 rfl ?_|refine i9 hA _ h9 rfl ?_|refine j5 hA _ h9 ?_|refine K9 hA _ h9 rfl ?_|refine i9 hA _ h10 rfl ?_|refine j5 hA _ h10 ?_|refine K9 hA _ h10 rfl ?_|refine i9 hA _ h11 rfl ?_|refine j5 hA _ h11 ?_|refine K9 hA _ h11 rfl ?_|refine rdx hA [] o0 ?_|refine rdq hA [] o0 ?_|refine rdx hA [] o1 ?_|refine rdq hA [] o1 ?_|refine rdx hA [] o2 ?_|refine rdq hA [] o2 ?_|refine rdx hA [] o3 ?_|refine rdq hA [] o3 ?_|refine a5f hA (a2d (ks:=[]) o0 ⟨rfl,rfl,rfl,rfl,rfl,rfl,rfl⟩ rfl) ?_|refine a5f hA (a2d (ks:=[]) o1 ⟨rfl,rfl,rfl,rfl,rfl,rfl,rfl⟩ rfl) ?_|refine a5f hA (a2d (ks:=[]) o2 ⟨rfl,rfl,rfl,rfl,rfl,rfl,rfl⟩ rfl) ?_|refine a5f hA (a2d (ks:=[]) o3 ⟨rfl,rfl,rfl,rfl,rfl,rfl,rfl⟩ rfl) ?_|refine rdx hA [1] r0 ?_|refine rdq hA [1] r0 ?_|refine rdx hA [1] r1 ?_|refine rdq hA [1] r1 ?_|refine rdx hA [1] r2 ?_|refine rdq hA [1] r2 ?_|refine v7 hA [1] t0 ?_|refine C2 hA true ?_|refine a2x hA true ?_|(refine E2 hA (by first|(simp only [c9a,c9n];omega)|omega) ?_)|(show vw _ _ _;refine c47 hA (n:=12) rfl [0,2,4,6,8,10] (by kernel_rfl) _ (by intro K hk;exact T1) ?_)|(show vw _ _ _;refine c47 hA (n:=11) rfl [0,3,4,5] (by kernel_rfl) _ (by intro K hk;exact T1) ?_));cbv)|with_reducible apply And.intro))
  all_goals try first|(exact hK _ rfl;done)|exact j9 hA [0,1] ⟨rfl,rfl,rfl,rfl,rfl,rfl,rfl,rfl⟩ ⟨rfl,rfl⟩|(refine ⟨_,hi,hm,?_⟩;cbv)):p:=h
theorem wk {f:Nat} {fn:Func} {c:Code} {rs q:List R} (hf:Try.prog.funcs[f]?=some fn) (hb:fn.body=some c) (hn:(fn.name != "runtime.NumGoroutine")=true:=by kernel_rfl) (hc:o4 Try.prog c=true:=by kernel_rfl) (hr:J9 fn.results.toList=true:=by kernel_rfl)
  (h:∀qa qb qc qd qe qg qh qi qj qk ql qm qo qp qq qt qu qv qw qx qy qz va vc vd ve vf vg vh vj vk vl vm vn vo vp vq vr vt vu vv vw vx,Ar.mk qa qb qc qd qe qg qh qi qj qk ql qm qo qp qq qt qu qv qw qx qy qz va vc vd ve vf vg vh vj vk vl vm vn vo vp vq vr vt vu vv vw vx=f7→B4 (Ar.mk qa qb qc qd qe qg qh qi qj qk ql qm qo qp qq qt qu qv qw qx qy qz va vc vd ve vf vg vh vj vk vl vm vn vo vp vq vr vt vu vv vw vx) c (a3X rs (fn.ntmps - C4 rs)) (fun x s=>c19 (Ar.mk qa qb qc qd qe qg qh qi qj qk ql qm qo qp qq qt qu qv qw qx qy qz va vc vd ve vf vg vh vj vk vl vm vn vo vp vq vr vt vu vv vw vx) fn.results.toList q x s):=by
  intro _ _ _ _ _ _ _ _ _ _ _ _ _ _ _ _ _ _ _ _ _ _ _ _ _ _ _ _ _ _ _ _ _ _ _ _ _ _ _ _ _ vw _ hA
  exact T1):A0 f rs q:=b0K hf hb hn hc hr h
theorem wko {f:Nat} {fn:Func} {c:Code} {vs:List V} {os:List O} {Q:List V→List O→Prop} (hf:Try.prog.funcs[f]?=some fn) (hb:fn.body=some c) (hn:(fn.name != "runtime.NumGoroutine")=true:=by kernel_rfl) (hc:o4 Try.prog c=true:=by kernel_rfl) (hr:J9 fn.results.toList=true:=by kernel_rfl)
  (h:∀qa qb qc qd qe qg qh qi qj qk ql qm qo qp qq qt qu qv qw qx qy qz va vc vd ve vf vg vh vj vk vl vm vn vo vp vq vr vt vu vv vw vx,Ar.mk qa qb qc qd qe qg qh qi qj qk ql qm qo qp qq qt qu qv qw qx qy qz va vc vd ve vf vg vh vj vk vl vm vn vo vp vq vr vt vu vv vw vx=f7→B4 (Ar.mk qa qb qc qd qe qg qh qi qj qk ql qm qo qp qq qt qu qv qw qx qy qz va vc vd ve vf vg vh vj vk vl vm vn vo vp vq vr vt vu vv vw vx) c (a1J vs os (fn.ntmps - C4 vs)) (fun x s=>c1A (Ar.mk qa qb qc qd qe qg qh qi qj qk ql qm qo qp qq qt qu qv qw qx qy qz va vc vd ve vf vg vh vj vk vl vm vn vo vp vq vr vt vu vv vw vx) (m7 os) Q fn.results.toList x s):=by
  intro _ _ _ _ _ _ _ _ _ _ _ _ _ _ _ _ _ _ _ _ _ _ _ _ _ _ _ _ _ _ _ _ _ _ _ _ _ _ _ _ _ vw _ hA
  (try obtain ⟨_,_,_⟩:=s0);(try obtain ⟨_,_,_⟩:=s1);(try obtain ⟨_,_,_⟩:=s2);(try obtain ⟨_,_,_⟩:=s3);(try obtain ⟨_,_,_⟩:=s4);(try obtain ⟨_,_,_⟩:=s5);(try obtain ⟨_,_,_⟩:=s6)
  (try have hL:=And.intro hL1 hL2);(try (obtain ⟨L1,hLe⟩:∃L1,L1=L+1:=⟨_,rfl⟩;have qL:=eL hA hL hLe;simp only [←hLe] at *))
  exact T1):n7 f vs os Q:=a8c hf hb hn hc hr h
end
section
section
variable {I0:Nat→Nat→Prop} {X:Nat→Prop} {w0:W0} {I:Nat→Nat→Prop} {g:Nat→Value} {s:S} {a:Act} {w:World}
end
end
theorem b8Q {w:World} {b T:Nat} {cur:Array Value} (h:w.heap[b]?=some (.cells cur T (0,0))) (i:Nat):w.cell? ⟨b,i,none⟩=cur[i]?:=by
 unfold World.cell?
 rw [h]
 simp
def btl (b:ByteArray):List UInt8:=b.data.toList
theorem a4v (b:ByteArray):b.toList=btl b:=ByteArray.toList_eq b
theorem a7c (a b:ByteArray):btl (a++b)=btl a++btl b:=by unfold btl;simp [ByteArray.data_append]
theorem L4 (b:ByteArray):(btl b).length=b.size:=by unfold btl;rw [d0q];rfl
theorem b5e {b:ByteArray} {k:Nat} {c:UInt8} (h:(btl b)[k]?=some c):f7.sget b (k:Int)=some (c.toNat:Int):=by
 show (if 0≤(k:Int) then (b[(k:Int).toNat]?).map (fun c=>(c.toNat:Int)) else none)=_
 rw [c8Y (by omega)]
 have e:b[(k:Int).toNat]?=(btl b)[k]?:=by
  rw [btl,c9D]
  rfl
 rw [e,h]
 rfl
theorem a09 {b c:Bool} (h:c=b):(some (R.one (D.sc (.bool c)))=some (R.one (D.sc (.bool b))))∧True:=⟨by rw [h],trivial⟩
def rU (l:List UInt8):List (List D):=l.map fun c=>[.sc (.int .u8 (c.toNat:Int))]
section
section
variable {I0:Nat→Nat→Prop} {X:Nat→Prop} {w0:W0} {I:Nat→Nat→Prop} {g:Nat→Value} {s:S} {a:Act} {w:World}
theorem a4w {s:S} {k:Nat} {j:Nat} (h:M5 ⟨s.t,s.o.set k .dead⟩ j):j≠k∧M5 s j:=by
 obtain ⟨o,ho,hd⟩:=h
 by_cases e:k=j
 ·subst e
  simp only at ho
  have hlt:=(c8S.1 ho).1
  rw [c9u] at hlt
  rw [c93 hlt] at ho
  cases ho
  exact absurd rfl hd
 ·simp only [c9p e] at ho
  exact ⟨d1n e,o,ho,hd⟩
theorem RelI.deadTo (h:RelI I0 X w0 I g s a w) {k:Nat} {o:O} (hk:s.o[k]?=some o) (hd:o≠.dead) {w':World} {b:Nat} (hb:gbl (g k) b) (hos:w'.os=w.os) (htp:w'.tape=w.tape) (hou:w'.output=w.output) (hsz:w'.heap.size=w.heap.size)
  (hoth:∀c,c≠b→w'.heap[c]?=w.heap[c]?) (hcell:∀i,w'.cell? ⟨b,i,none⟩=w.cell? ⟨b,i,none⟩):RelI I0 X w0 I g ⟨s.t,s.o.set k .dead⟩ a w':=by
 have hm:=(h.obj k o hk).blk hd b hb
 have hkp:y9 I w w':=fun b' n hb' i hi=>by
  by_cases e:b'=b
  ·subst e;exact hcell i
  ·exact a2T (hoth b' e) i
 refine ⟨h.im,fun b' n hb'=>by rw [hsz];exact h.lt b' n hb',⟨hos.trans h.fr.os,htp.trans h.fr.tape,hou.trans h.fr.output,by rw [hsz];exact h.fr.size,fun b' hb' hX=>?_⟩,h.kp.trans fun b' n hb' i hi=>hkp b' n (h.im b' n hb') i hi,by simp only [c9u];exact h.lo,h.st,fun i x hx=>?_,fun i j b hi hj=>h.dis i j b (a4w hi).2 (a4w hj).2,fun i hi=>h.out i (by simpa using hi),h.tmp.mono (fun _ _ h=>h) hkp,h.dfr⟩
 ·rw [hoth b' fun e=>?_]
  ·exact h.fr.block b' hb' hX
  ·subst e
   rcases hm.2 with h1|h1
   ·omega
   ·exact hX h1
 ·by_cases hxd:x=.dead
  ·subst hxd;exact True.intro
  ·have h1:=a4w (s:=s) (k:=k) ⟨x,hx,hxd⟩
   simp only [c9p (d1n h1.1)] at hx
   refine (h.obj i x hx).keep (fun _ _ h=>h) hkp (fun b' hb'=>hoth b' fun e=>?_) fun _ _ _ h=>h
   subst e
   exact h1.1 (h.dis i k b' ⟨x,hx,hxd⟩ ⟨o,hk,hd⟩ hb' hb)
end
end
section
section
variable {qa:_} {qb:_} {qc:_} {qd:_} {qe:_} {qg:_} {qh:_} {qi:_} {qj:_} {qk:_} {ql:_} {qm:_} {qo:_} {qp:_} {qq:_} {qt:_} {qu:_} {qv:_} {qw:_} {qx:_} {qy:_} {qz:_} {va:_} {vc:_} {vd:_} {ve:_} {vf:_} {vg:_} {vh:_} {vj:_} {vk:_} {vl:_} {vm:_} {vn:_} {vo:_} {vp:_} {vq:_} {vr:_} {vt:_} {vu:_} {vv:_} {vw:_} {vx:_} (hA:Ar.mk qa qb qc qd qe qg qh qi qj qk ql qm qo qp qq qt qu qv qw qx qy qz va vc vd ve vf vg vh vj vk vl vm vn vo vp vq vr vt vu vv vw vx=f7)
include hA
theorem esu {k:IntKind} {x y z:Int} (h:k.wrap (x - y)=z):qa k (qc x y)=z:=by
 obtain ⟨e1,e2,e3,e4,e5,e6,_⟩:=m6 hA
 simp only [e1,e3,e4,e5,e6,h]
theorem emu {k:IntKind} {x y z:Int} (h:k.wrap (x * y)=z):qa k (qd x y)=z:=by
 obtain ⟨e1,e2,e3,e4,e5,e6,_⟩:=m6 hA
 simp only [e1,e3,e4,e5,e6,h]
theorem equ {k:IntKind} {x y z:Int} (h:k.wrap (x.tdiv y)=z):qa k (qe x y)=z:=by
 obtain ⟨e1,e2,e3,e4,e5,e6,_⟩:=m6 hA
 simp only [e1,e3,e4,e5,e6,h]
theorem ere {x y z:Int} (h:x.tmod y=z):qg x y=z:=by
 obtain ⟨_,_,_,_,_,e6,_⟩:=m6 hA
 rw [e6,h]
theorem ewp {k:IntKind} {x z:Int} (h:k.wrap x=z):qa k x=z:=by
 obtain ⟨e1,_⟩:=m6 hA
 rw [e1,h]
theorem em {x y:Int} {b:Bool} (h:decide (x≤y)=b):qj x y=b:=by
 obtain ⟨_,_,_,_,_,_,_,e8,_⟩:=m6 hA
 rw [e8,h]
theorem en {r:List (List D)} {n:Int} (h:(r.length:Int)=n):va r=n:=by
 obtain ⟨e,_⟩:=C7 hA
 rw [e,h]
theorem ebi {op:BinOp} {k k':IntKind} {x y z:Int} (h:M1 op k x k' y=some z):qh op k x k' y=some z:=by rw [a5g hA,h]
theorem esb {r q:List (List D)} {a b:Int} (h:f7.sub2 r a b=some q):vd r a b=some q:=by
 obtain ⟨_,_,e,_⟩:=C7 hA
 rw [e,h]
end
theorem c7U {p:Prop} (h:p:=by
  iterate 2 (all_goals try cbv;repeat' ((first|with_reducible apply f8 hA|rw [ew hA w0]|rw [ew hA w1]|rw [ew hA w2]|rw [ew hA w3]|rw [ew hA w4]|rw [ew hA w5]|rw [esu hA d0]|rw [esu hA d1]|rw [esu hA d2]|rw [esu hA d3]|rw [emu hA c0]|rw [emu hA c1]|rw [emu hA c2]|rw [equ hA k0]|rw [equ hA k1]|rw [equ hA k2]|rw [equ hA k3]|rw [ere hA i0]|rw [ere hA i1]|rw [ere hA i2]|rw [ere hA i3]|rw [ewp hA u0]|rw [ewp hA u1]|rw [ewp hA u2]|rw [ewp hA u3]|rw [ewp hA u4]|rw [ewp hA u5]|rw [eb hA b0]|rw [eb hA b1]|rw [eb hA b2]|rw [eb hA b3]|rw [eb hA b4]|rw [eb hA b5]|rw [eb hA b6]|rw [eb hA b7]|rw [eb hA b8]|rw [eb hA b9]|rw [el hA l0]|rw [el hA l1]|rw [el hA l2]|rw [el hA l3]|rw [el hA l4]|rw [el hA l5]|rw [em hA m0]|rw [em hA m1]|rw [em hA m2]|rw [em hA m3]|rw [em hA m4]|rw [em hA m5]|rw [en hA n0]|rw [en hA n1]|rw [en hA n2]|rw [eg hA g0]|rw [eg hA g1]|rw [eg hA g2]|rw [eg hA g3]|rw [eg hA g4]|rw [ebi hA v0]|rw [ebi hA v1]|rw [ebi hA v2]|rw [ebi hA v3]|rw [ebi hA v4]|rw [ebi hA v5]|rw [esb hA y0]|rw [esb hA y1]|rw [esb hA y2]|rw [es hA x0]|rw [es hA x1]|rw [es hA x2]|rw [esl hA]|rw [ebr hA]|rw [esr hA]|rw [ea hA]|refine b2k hA (by decide) ?_|refine v7 hA [0] p0 ?_|refine v7 hA [0] p1 ?_|refine v7 hA [0] p2 ?_|refine v7 hA [0] p3 ?_|refine v7 hA [0] p4 ?_|refine i9 hA _ h0 rfl ?_|refine j5 hA _ h0 ?_|refine i9 hA _ h1 rfl ?_|refine j5 hA _ h1 ?_|refine i9 hA _ h2 rfl ?_|refine j5 hA _ h2 ?_|refine i9 hA _ h3 rfl ?_|refine j5 hA _ h3 ?_|refine i9 hA _ h4 rfl ?_|refine j5 hA _ h4 ?_|refine i9 hA _ h5 rfl ?_|refine j5 hA _ h5 ?_|refine i9 hA _ h6 rfl ?_|refine j5 hA _ h6 ?_|refine i9 hA _ h7 rfl ?_|refine j5 hA _ h7 ?_|refine C2 hA true ?_|refine a2x hA true ?_|(refine E2 hA (by first|(simp only [c9a,c9n];omega)|omega) ?_));cbv))
  all_goals try first|exact j9 hA [0] ⟨rfl,rfl,rfl,rfl,rfl,rfl,rfl,rfl⟩ ⟨rfl,rfl⟩|(refine ⟨_,hi,hm,?_⟩;cbv)):p:=h
theorem wk2 {f:Nat} {fn:Func} {c:Code} {rs q:List R} (hf:Try.prog.funcs[f]?=some fn) (hb:fn.body=some c) (hn:(fn.name != "runtime.NumGoroutine")=true:=by kernel_rfl) (hc:o4 Try.prog c=true:=by kernel_rfl) (hr:J9 fn.results.toList=true:=by kernel_rfl)
  (h:∀qa qb qc qd qe qg qh qi qj qk ql qm qo qp qq qt qu qv qw qx qy qz va vc vd ve vf vg vh vj vk vl vm vn vo vp vq vr vt vu vv vw vx,Ar.mk qa qb qc qd qe qg qh qi qj qk ql qm qo qp qq qt qu qv qw qx qy qz va vc vd ve vf vg vh vj vk vl vm vn vo vp vq vr vt vu vv vw vx=f7→B4 (Ar.mk qa qb qc qd qe qg qh qi qj qk ql qm qo qp qq qt qu qv qw qx qy qz va vc vd ve vf vg vh vj vk vl vm vn vo vp vq vr vt vu vv vw vx) c (a3X rs (fn.ntmps - C4 rs)) (fun x s=>c19 (Ar.mk qa qb qc qd qe qg qh qi qj qk ql qm qo qp qq qt qu qv qw qx qy qz va vc vd ve vf vg vh vj vk vl vm vn vo vp vq vr vt vu vv vw vx) fn.results.toList q x s):=by
  intro _ _ _ _ _ _ _ _ _ _ _ _ _ _ _ _ _ _ _ _ _ _ _ _ _ _ _ _ _ _ _ _ _ _ _ _ _ _ _ _ _ vw _ hA
  exact c7U):A0 f rs q:=b0K hf hb hn hc hr h
end
end Go.Proofs.Ytahpnackkmbmgaa.Vm
end
section
namespace Go.Proofs.Ytahpnackkmbmgaa
open Go.RowKit
set_option maxRecDepth 100000
set_option maxHeartbeats 4000000
def Byt (l:List Int):Prop:=∀x∈l,0≤x∧x≤255
theorem Y3 {l:List Int} (h:Byt l) (i:Nat):0≤gb l i∧gb l i≤255:=by
 unfold gb
 rw [c9k]
 cases e:l[i]? with
 | none=>simp
 | some x=>exact h x (c9h e)
theorem a8m {l:List Int} (h:Byt l) (a:Nat):Byt (l.drop a):=fun x hx=>h x (d04 hx)
def T3 (c:Int):Int:=if c<128 then 1 else if 192≤c∧c<224 then 2 else if 224≤c∧c<240 then 3 else if 240≤c∧c<248 then 4 else 0
theorem b5g (c:Int):0≤T3 c∧T3 c≤4:=by unfold T3;repeat' split <;> omega
def isB (r:Int):Bool:=decide (0≤r) && (decide (r≤1114111) && (decide (r<55296) || decide (57343<r)))
theorem a5h (r:Int):isB r=true↔0≤r∧r≤1114111∧(r<55296∨57343<r):=by unfold isB;simp only [c8Z,c96,d0p]
def a2f (r:Int):Int:=if r<128 then 1 else if r<2048 then 2 else if r<65536 then 3 else 4
def Y4 (n c:Int):Int:=if n=1 then c else if n=2 then c % 32 else if n=3 then c % 16 else c % 8
def J0 (l:List Int) (m:Int):Nat→Int
 | 0=>m
 | k+1=>J0 l m k * 64+gb l (k+1) % 64
def U5 (l:List Int):Nat→Bool
 | 0=>true
 | k+1=>U5 l k && decide (gb l (k+1) / 64=2)
def U6 (l:List Int):Int×Int :=
 if T3 (gb l 0)=0∨(l.length:Int)<T3 (gb l 0) then (0,0) else
 if U5 l ((T3 (gb l 0)).toNat - 1)=true∧isB (J0 l (Y4 (T3 (gb l 0)) (gb l 0)) ((T3 (gb l 0)).toNat - 1))=true∧a2f (J0 l (Y4 (T3 (gb l 0)) (gb l 0)) ((T3 (gb l 0)).toNat - 1))=T3 (gb l 0)
 then (J0 l (Y4 (T3 (gb l 0)) (gb l 0)) ((T3 (gb l 0)).toNat - 1),T3 (gb l 0)) else (0,0)

def b8R (n:Nat):Int:=if n=2 then 192 else if n=3 then 224 else if n=4 then 240 else 0
def b6x (l:List Int) (m:Int):Nat→Int
 | 0=>m
 | k+1=>64 * b6x l m k+gb l (k+1) - 128
def a6c (l:List Int) (n:Nat):Int:=b6x l (gb l 0 - b8R n) (n - 1)
theorem c38 {l:List Int} (h:1≤l.length):l.take 1=[gb l 0]:=by
 match l,h with
 | a::_,_=>rfl
theorem c39 {l:List Int} (h:2≤l.length):l.take 2=[gb l 0,gb l 1]:=by
 match l,h with
 | a::b::_,_=>rfl
theorem a9R {l:List Int}:U6 l=(0,0)∨(1≤(U6 l).2∧(U6 l).2≤4∧(U6 l).2≤l.length):=by
 unfold U6
 have h:=b5g (gb l 0)
 split
 ·exact .inl rfl
 ·rename_i h0
  split
  ·right;simp only;omega
  ·exact .inl rfl

def V (l:List Int):Nat→Prop
 | 1=>gb l 0<128
 | 2=>192≤gb l 0∧gb l 0<224∧128≤gb l 1∧gb l 1<192∧128≤(gb l 0 - 192) * 64+(gb l 1 - 128)
 | 3=>224≤gb l 0∧gb l 0<240∧128≤gb l 1∧gb l 1<192∧128≤gb l 2∧gb l 2<192∧2048≤(gb l 0 - 224) * 4096+(gb l 1 - 128) * 64+(gb l 2 - 128) ∧
   ((gb l 0 - 224) * 4096+(gb l 1 - 128) * 64+(gb l 2 - 128)<55296∨57343<(gb l 0 - 224) * 4096+(gb l 1 - 128) * 64+(gb l 2 - 128))
 | 4=>240≤gb l 0∧gb l 0<248∧128≤gb l 1∧gb l 1<192∧128≤gb l 2∧gb l 2<192∧128≤gb l 3∧gb l 3<192 ∧
   65536≤(gb l 0 - 240) * 262144+(gb l 1 - 128) * 4096+(gb l 2 - 128) * 64+(gb l 3 - 128)∧(gb l 0 - 240) * 262144+(gb l 1 - 128) * 4096+(gb l 2 - 128) * 64+(gb l 3 - 128)≤1114111
 | _=>False
theorem b8S (l:List Int):a6c l 1=gb l 0:=by simp [a6c,b6x,b8R]
theorem b8T (l:List Int):a6c l 2=(gb l 0 - 192) * 64+(gb l 1 - 128):=by simp [a6c,b6x,b8R];omega
theorem b8U (l:List Int):a6c l 3=(gb l 0 - 224) * 4096+(gb l 1 - 128) * 64+(gb l 2 - 128):=by simp [a6c,b6x,b8R];omega
theorem b8V (l:List Int):a6c l 4=(gb l 0 - 240) * 262144+(gb l 1 - 128) * 4096+(gb l 2 - 128) * 64+(gb l 3 - 128):=by simp [a6c,b6x,b8R];omega
def a18 (l:List Int) (n:Nat):Int:=J0 l (Y4 n (gb l 0)) (n - 1)
theorem a2g {l:List Int} {n:Nat} (h:T3 (gb l 0)=n) (h0:n≠0) :
  U6 l=if n≤l.length∧U5 l (n - 1)=true∧isB (a18 l n)=true∧a2f (a18 l n)=n then (a18 l n,(n:Int)) else (0,0):=by
 unfold U6 a18
 rw [h]
 simp only [c9o]
 by_cases hl:n≤l.length
 ·rw [c8W (by omega)]
  simp only [hl,true_and]
 ·rw [c8Y (by omega),c8W (fun hh=>hl hh.1)]
theorem c1F {r:Int}:(a2f r=1↔r<128)∧(a2f r=2↔¬r<128∧r<2048)∧(a2f r=3↔¬r<2048∧r<65536)∧(a2f r=4↔¬r<65536):=by
 unfold a2f
 by_cases a:r<128
 ·simp [a];omega
 by_cases b:r<2048
 ·simp [a,b];omega
 by_cases c:r<65536 <;> simp [a,b,c] <;> omega
theorem c1G {l:List Int} (hb:Byt l) (n:Nat) (hn:n≤l.length) (hv:V l n):U6 l=(a6c l n,(n:Int)):=by
 have b0:=Y3 hb 0
 have b1:=Y3 hb 1
 have b2:=Y3 hb 2
 have b3:=Y3 hb 3
 have sz:=@c1F (a18 l n)
 match n,hn,hv with
 | 1,hn,hv =>
  simp only [V] at hv
  have hl:T3 (gb l 0)=(1:Nat):=by unfold T3;rw [c8Y hv];rfl
  have e:a18 l 1=a6c l 1:=by rw [b8S];simp [a18,J0,Y4]
  rw [a2g hl (by omega),e]
  rw [e] at sz
  rw [c8Y ⟨hn,rfl,by rw [a5h,b8S];omega,by rw [show ((1:Nat):Int)=1 from rfl,sz.1,b8S];exact hv⟩]
 | 2,hn,hv =>
  simp only [V] at hv
  have hl:T3 (gb l 0)=(2:Nat):=by unfold T3;rw [c8W (by omega),c8Y (by omega)];rfl
  have e:a18 l 2=a6c l 2:=by rw [b8T];simp [a18,J0,Y4];omega
  have c:U5 l 1=true:=by simp [U5];omega
  rw [a2g hl (by omega),e]
  rw [e] at sz
  rw [c8Y ⟨hn,c,by rw [a5h,b8T];omega,by rw [show ((2:Nat):Int)=2 from rfl,sz.2.1,b8T];omega⟩]
 | 3,hn,hv =>
  simp only [V] at hv
  have hl:T3 (gb l 0)=(3:Nat):=by unfold T3;rw [c8W (by omega),c8W (by omega),c8Y (by omega)];rfl
  have e:a18 l 3=a6c l 3:=by rw [b8U];simp [a18,J0,Y4];omega
  have c:U5 l 2=true:=by simp [U5];omega
  rw [a2g hl (by omega),e]
  rw [e] at sz
  rw [c8Y ⟨hn,c,by rw [a5h,b8U];omega,by rw [show ((3:Nat):Int)=3 from rfl,sz.2.2.1,b8U];omega⟩]
 | 4,hn,hv =>
  simp only [V] at hv
  have hl:T3 (gb l 0)=(4:Nat):=by unfold T3;rw [c8W (by omega),c8W (by omega),c8W (by omega),c8Y (by omega)];rfl
  have e:a18 l 4=a6c l 4:=by rw [b8V];simp [a18,J0,Y4];omega
  have c:U5 l 3=true:=by simp [U5];omega
  rw [a2g hl (by omega),e]
  rw [e] at sz
  rw [c8Y ⟨hn,c,by rw [a5h,b8V];omega,by rw [show ((4:Nat):Int)=4 from rfl,sz.2.2.2,b8V];omega⟩]
def nx (l:List Int) (a:Nat):Nat:=(U6 (l.drop a)).2.toNat
def rn (l:List Int) (a:Nat):Int:=(U6 (l.drop a)).1
theorem b5h (l:List Int) (a:Nat):(U6 (l.drop a)).2=(nx l a:Int):=by
 unfold nx
 have:=a9R (l:=l.drop a)
 rcases this with h|h
 ·rw [h];rfl
 ·omega
theorem c6u {l:List Int} {a:Nat} (h:nx l a≠0):1≤nx l a∧nx l a≤4∧(a<l.length→a+nx l a≤l.length):=by
 have h1:=a9R (l:=l.drop a)
 have h2:=b5h l a
 rw [c9z] at h1
 rcases h1 with h1|h1
 ·rw [h1] at h2;simp at h2;omega
 ·omega
theorem c1H (l:List Int) (a:Nat):U6 (l.drop a)=(rn l a,(nx l a:Int)):=by
 rw [←b5h];rfl
end Go.Proofs.Ytahpnackkmbmgaa
end
section
namespace Go.Proofs.Ytahpnackkmbmgaa.Vm
open Go.RowKit
set_option maxRecDepth 100000
set_option maxHeartbeats 4000000
def M6 (l:List Int):List (List D):=l.map fun c=>[.sc (.int .u8 c)]
theorem Y5 (l:List Int):(M6 l).length=l.length:=by unfold M6;rw [c9r]
theorem a2z {l:List Int} {k:Nat} (h:k<l.length):f7.get (M6 l) (k:Int)=some [.sc (.int .u8 (gb l k))]:=by
 show (if (0:Int)≤(k:Int) then (M6 l)[((k:Int)).toNat]? else none)=_
 rw [c8Y (by omega),show ((k:Int)).toNat=k by omega]
 unfold M6 gb
 rw [c9v,c8T h,c9k,c8T h]
 rfl
theorem a20 {l:List Int} {a b:Nat} (h:a≤b) (hb:b≤l.length):f7.sub2 (M6 l) (a:Int) (b:Int)=some (M6 ((l.drop a).take (b - a))):=by
 show (if 0≤(a:Int)∧(a:Int)≤(b:Int)∧(b:Int)≤((M6 l).length:Int) then some (((M6 l).drop ((a:Int)).toNat).take (((b:Int)).toNat - ((a:Int)).toNat)) else none)=_
 rw [c8Y ⟨by omega,by omega,by rw [Y5];omega⟩]
 unfold M6
 rw [List.map_take,List.map_drop]
 rfl
abbrev b1N (f:Nat) (k:IntKind) (x:Int) (r:D):Prop:=A0 f [.one (.sc (.int k x))] [.one r]
theorem c6v {r:Int} {c0 c1 c2 c3:Bool} (m0:decide (0≤r)=c0) (l0:decide (r<55296)=c1) (l1:decide (57343<r)=c2) (m1:decide (r≤1114111)=c3):b1N 114 .i32 r (.sc (.bool (c0 && c3 && (c1 || c2)))):=by
 cases c0 <;> cases c1 <;> cases c2 <;> cases c3 <;> exact wk2 Try.func114 rfl
theorem c6w (r:Int):b1N 114 .i32 r (.sc (.bool (isB r))):=by
 have h:=c6v (r:=r) rfl rfl rfl rfl
 have e:(decide (0≤r) && decide (r≤1114111) && (decide (r<55296) || decide (57343<r)))=isB r:=by
  rw [d09,a5h]
  simp only [c96,c8Z,d0p]
  omega
 rw [e] at h
 exact h
theorem c49 (r:Int):b1N 115 .i32 r (.sc (.int .i64 (a2f r))):=by
 unfold a2f
 by_cases h1:r<128
 ·rw [c8Y h1]
  have l0:=c9j h1
  exact wk2 Try.func115 rfl
 rw [c8W h1]
 have l0:=c9d h1
 by_cases h2:r<2048
 ·rw [c8Y h2]
  have l1:=c9j h2
  exact wk2 Try.func115 rfl
 rw [c8W h2]
 have l1:=c9d h2
 by_cases h3:r<65536
 ·rw [c8Y h3]
  have l2:=c9j h3
  exact wk2 Try.func115 rfl
 rw [c8W h3]
 have l2:=c9d h3
 exact wk2 Try.func115 rfl
theorem b2v (c:Int) (n:Nat) (hn:n≤8):M1 .shr .u8 c .u64 (n:Int)=some (c / 2 ^ n):=by
 show some (c.fdiv (2 ^ (min n 8)))=_
 rw [d1j hn,Int.fdiv_eq_ediv_of_nonneg _ (Int.le_of_lt (Int.pow_pos (by decide)))]
theorem c3A {c:Int} (hc:0≤c∧c≤255):b1N 113 .u8 c (.sc (.int .i64 (T3 c))):=by
 have v0:M1 .shr .u8 c .u64 7=some (c / 128):=b2v c 7 (by decide)
 have v1:M1 .shr .u8 c .u64 5=some (c / 32):=b2v c 5 (by decide)
 have v2:M1 .shr .u8 c .u64 4=some (c / 16):=b2v c 4 (by decide)
 have v3:M1 .shr .u8 c .u64 3=some (c / 8):=b2v c 3 (by decide)
 have hb:∀ {x y:Int},x=y→(x == y)=true:=fun h=>by rw [h];exact c9T _
 obtain ⟨z0,e0⟩:∃z,z=c / 128:=⟨_,rfl⟩
 obtain ⟨z1,e1⟩:∃z,z=c / 32:=⟨_,rfl⟩
 obtain ⟨z2,e2⟩:∃z,z=c / 16:=⟨_,rfl⟩
 obtain ⟨z3,e3⟩:∃z,z=c / 8:=⟨_,rfl⟩
 rw [←e0] at v0
 rw [←e1] at v1
 rw [←e2] at v2
 rw [←e3] at v3
 unfold T3
 by_cases h1:c<128
 ·rw [c8Y h1]
  have b0:=hb (show z0=0 by omega)
  exact wk2 Try.func113 rfl
 rw [c8W h1]
 have b0:=c9f (show z0≠0 by omega)
 by_cases h2:192≤c∧c<224
 ·rw [c8Y h2]
  have b1:=hb (show z1=6 by omega)
  exact wk2 Try.func113 rfl
 rw [c8W h2]
 have b1:=c9f (show z1≠6 by omega)
 by_cases h3:224≤c∧c<240
 ·rw [c8Y h3]
  have b2:=hb (show z2=14 by omega)
  exact wk2 Try.func113 rfl
 rw [c8W h3]
 have b2:=c9f (show z2≠14 by omega)
 by_cases h4:240≤c∧c<248
 ·rw [c8Y h4]
  have b3:=hb (show z3=30 by omega)
  exact wk2 Try.func113 rfl
 rw [c8W h4]
 have b3:=c9f (show z3≠30 by omega)
 exact wk2 Try.func113 rfl
theorem a5i {k:IntKind} {n j:Nat} (hk:k.bits=n) (hj:j≤n) {x:Int} (hx:0≤x) (hx2:x<2 ^ n) (hw:∀y:Int,0≤y→y≤x→k.wrap y=y) (hq:keq k k=true):M1 .and k x k (2 ^ j - 1)=some (x % 2 ^ j):=by
 obtain ⟨a,rfl⟩:∃a:Nat,x=(a:Int):=⟨x.toNat,by omega⟩
 unfold M1
 simp only [hq]
 have e:(BitVec.ofInt k.bits ((a:Nat):Int) &&& BitVec.ofInt k.bits (2 ^ j - 1)).toNat=a % 2 ^ j:=by
  rw [hk,BitVec.toNat_and,show ((2:Int) ^ j - 1)=((2 ^ j - 1:Nat):Int) by rw [Int.natCast_sub (Nat.one_le_two_pow)];push_cast;rfl,d0G,d0G,d0S,d0S]
  have h2:a<2 ^ n:=by exact_mod_cast hx2
  have h3:2 ^ j - 1<2 ^ n:=c9U (Nat.sub_lt (Nat.two_pow_pos j) (by decide)) (Nat.pow_le_pow_right (by decide) hj)
  rw [d1e h2,d1e h3,Nat.and_two_pow_sub_one_eq_mod]
 rw [e]
 have e2:((a % 2 ^ j:Nat):Int)=(a:Int) % 2 ^ j:=by push_cast;rfl
 rw [←e2,hw _ (by omega) (by exact_mod_cast Nat.mod_le a _)]
theorem c1I {x d:Int} (hx:0≤x) (hx2:x≤33554431) (hd:0≤d∧d<64):M1 .or .i32 (x * 64) .i32 d=some (x * 64+d):=by
 obtain ⟨a,rfl⟩:∃a:Nat,x=(a:Int):=⟨x.toNat,by omega⟩
 obtain ⟨b,rfl⟩:∃b:Nat,d=(b:Int):=⟨d.toNat,by omega⟩
 unfold M1
 simp only [show keq IntKind.i32 IntKind.i32=true from rfl]
 have e:(BitVec.ofInt IntKind.i32.bits ((a:Nat) * 64:Int) ||| BitVec.ofInt IntKind.i32.bits ((b:Nat):Int)).toNat=64 * a+b:=by
  rw [show ((a:Nat) * 64:Int)=((64 * a:Nat):Int) by push_cast;omega,BitVec.toNat_or,d0G,d0G,d0S,d0S,show IntKind.i32.bits=32 from rfl]
  rw [d1e (by omega),d1e (by omega)]
  have:=Nat.two_pow_add_eq_or_of_lt (i:=6) (b:=b) (by omega) a
  simpa using this.symm
 rw [e,IntWalk.i32_in _ (by omega)]
 push_cast
 congr 1
 omega
theorem b8W {x:Int} (hx:0≤x∧x≤33554431):M1 .shl .i32 x .u64 6=some (x * 64):=by
 show some (IntKind.i32.wrap (x * 2 ^ (min 6 32)))=_
 rw [show (2:Int) ^ (min 6 32)=64 from rfl,IntWalk.i32_in _ (by omega)]
theorem c4A {l:List Int} (hb:Byt l) {m:Int} (hm:0≤m∧m≤127):∀k:Nat,k≤3→0≤J0 l m k∧J0 l m k≤33554431
 | 0,_=>by rw [J0];omega
 | 1,_=>by rw [J0,J0];have:=Y3 hb 1;omega
 | 2,_=>by rw [J0,J0,J0];have:=Y3 hb 1;have:=Y3 hb 2;omega
 | 3,_=>by rw [J0,J0,J0,J0];have:=Y3 hb 1;have:=Y3 hb 2;have:=Y3 hb 3;omega
 | k+4,h=>by omega
theorem c7V {l:List Int} (hb:Byt l) {m:Int} (hm:0≤m∧m≤127):∀k:Nat,k≤2→J0 l m k≤524287
 | 0,_=>by rw [J0];omega
 | 1,_=>by rw [J0,J0];have:=Y3 hb 1;omega
 | 2,_=>by rw [J0,J0,J0];have:=Y3 hb 1;have:=Y3 hb 2;omega
 | k+3,h=>by omega
theorem b5i {l:List Int} {k:Nat} (h:U5 l k=false):∀j,U5 l (k+j)=false
 | 0=>h
 | j+1=>by show (U5 l (k+j) && _)=false;rw [b5i h j];rfl
def c6x (l:List Int) (m:Int) (e:Nat) (x:Int×Int):Prop:=∃k:Nat,x.1=(k:Int)∧k≤e∧x.2=J0 l m k∧U5 l k=true
theorem c4C {l:List Int} (hb:Byt l) {n:Nat} (hn1:1≤n) (hn4:n≤4) (hln:n≤l.length) (hl:l.length≤1048576) (hz:T3 (gb l 0)=n):A0 104 [.one (.sl 1 (M6 l))] [.one (.sc (.int .i32 (U6 l).1)),.one (.sc (.int .i64 (U6 l).2))]:=by
 have hc:=Y3 hb 0
 have h0:=c3A hc
 rw [hz] at h0
 rw [a2g hz (by omega)]
 unfold a18
 have hm:0≤Y4 n (gb l 0)∧Y4 n (gb l 0)≤127:=by
  unfold Y4
  unfold T3 at hz
  split at hz <;> repeat' split
  all_goals omega
 have hmask:(n=1∧Y4 n (gb l 0)=gb l 0)∨(1<n∧∃s p q:Int,IntKind.i64.wrap (7 - (n:Int))=s∧M1 .shl .i32 1 .i64 s=some p∧IntKind.i32.wrap (p - 1)=q∧M1 .and .i32 (gb l 0) .i32 q=some (Y4 n (gb l 0))):=by
  have hw:∀y:Int,0≤y→y≤gb l 0→IntKind.i32.wrap y=y:=fun y h1 h2=>IntWalk.i32_in _ (by omega)
  rcases (show n=1∨n=2∨n=3∨n=4 by omega) with rfl|rfl|rfl|rfl
  ·exact .inl ⟨rfl,rfl⟩
  ·exact .inr ⟨by decide,5,32,31,by rw [IntWalk.i64_in _ (by omega)];rfl,rfl,by rw [IntWalk.i32_in _ (by omega)];rfl,a5i (k:=.i32) (n:=32) (j:=5) rfl (by decide) hc.1 (by omega) hw rfl⟩
  ·exact .inr ⟨by decide,4,16,15,by rw [IntWalk.i64_in _ (by omega)];rfl,rfl,by rw [IntWalk.i32_in _ (by omega)];rfl,a5i (k:=.i32) (n:=32) (j:=4) rfl (by decide) hc.1 (by omega) hw rfl⟩
  ·exact .inr ⟨by decide,3,8,7,by rw [IntWalk.i64_in _ (by omega)];rfl,rfl,by rw [IntWalk.i32_in _ (by omega)];rfl,a5i (k:=.i32) (n:=32) (j:=3) rfl (by decide) hc.1 (by omega) hw rfl⟩
 have g0:f7.get (M6 l) 0=some [.sc (.int .u8 (gb l 0))]:=a2z (l:=l) (k:=0) (by omega)
 have y0:f7.sub2 (M6 l) 1 (n:Int)=some (M6 ((l.drop 1).take (n - 1))):=a20 (a:=1) (b:=n) hn1 hln
 have hgt:∀k:Nat,k<n - 1→f7.get (M6 ((l.drop 1).take (n - 1))) (k:Int)=some [.sc (.int .u8 (gb l (k+1)))]:=fun k hk=>by
  rw [a2z (by rw [c92,c9z];omega)]
  unfold gb
  rw [c9k,c91,c8Y hk,c9x,c9k,d1o]
 have hln2:((M6 ((l.drop 1).take (n - 1))).length:Int)=((n - 1:Nat):Int):=by rw [Y5,c92,c9z];omega
 have u0:IntKind.i32.wrap (gb l 0)=gb l 0:=IntWalk.i32_in _ (by omega)
 have hbd:=c4A hb hm
 have hbd2:=c7V hb hm
 have hN:((M6 l).length:Int)=(l.length:Int):=by rw [Y5]
 have hgk:∀k,0≤gb l k∧gb l k≤255:=Y3 hb
 obtain ⟨M,hM⟩:∃M,M=Y4 n (gb l 0):=⟨_,rfl⟩
 rw [←hM] at hbd hbd2 hmask ⊢
 obtain ⟨z,hzz⟩:∃z:Int,z=(n:Int):=⟨_,rfl⟩
 rw [←hzz] at h0 y0 hmask
 obtain ⟨e,he⟩:∃e,e=n - 1:=⟨_,rfl⟩
 rw [←he] at hln2 hgt y0 ⊢
 obtain ⟨P,hP⟩:∃P:Int×Int,P=if n≤l.length∧U5 l e=true∧isB (J0 l M e)=true∧a2f (J0 l M e)=n then (J0 l M e,(n:Int)) else (0,0):=⟨_,rfl⟩
 rw [←hP]
 have hPn:¬(U5 l e=true∧isB (J0 l M e)=true∧a2f (J0 l M e)=n)→P=(0,0):=fun h=>by rw [hP,c8W (fun hh=>h hh.2)]
 have hPy:U5 l e=true→isB (J0 l M e)=true→a2f (J0 l M e)=n→P=(J0 l M e,z):=fun h1 h2 h3=>by rw [hP,c8Y ⟨hln,h1,h2,h3⟩,hzz]
 have b0:(z == 0)=false:=c9f (by omega)
 have l0:decide ((l.length:Int)<z)=false:=c9d (by omega)
 have hi0:∀inv,inv=c6x l M e→inv (0,M):=fun inv h=>by rw [h];exact ⟨0,rfl,c95 _,rfl,rfl⟩
 obtain ⟨inv,hv⟩:∃inv,inv=c6x l M e:=⟨_,rfl⟩
 replace hi0:=hi0 inv hv
 generalize hE:M6 ((l.drop 1).take e)=R2 at *
 obtain ⟨R1,hR1⟩:∃R1,R1=M6 l:=⟨_,rfl⟩
 rw [←hR1] at hN g0 y0 ⊢
 obtain ⟨c0,hc0⟩:∃c0,c0=gb l 0:=⟨_,rfl⟩
 rw [←hc0] at g0 h0 u0 hmask
 obtain ⟨N,hNN⟩:∃N:Int,N=(l.length:Int):=⟨_,rfl⟩
 rw [←hNN] at hN l0
 clear hP
 refine sp9 Try.func104 rfl ?_;intro qa qb _ _ _ _ _ qi _ qk _ _ _ _ _ _ _ _ _ _ _ _ va;intros;rename_i hA
 obtain ⟨e1,e2,e3,e4,e5,e6,e7,e8,e9⟩:=m6 hA
 obtain ⟨r1,r2,r3,r4⟩:=C7 hA
 have q1:=eg hA g0
 have q2:=eb hA b0
 have q3:qi (va R1) z=false:=by rw [en hA hN,e7];exact l0
 have q4:=ewp hA u0
 have q5:=esb hA y0
 have hlz:va R2=(e:Int):=en hA hln2
 rcases hmask with ⟨hn,hMc⟩|⟨hn,s,p,q,d0,v0,d1,v1⟩
 case' inl =>
  have q6:qi 1 z=false:=el hA (c9d (by omega))
  subst hMc
  iterate 2 (try cbv;repeat ((first|with_reducible apply f8 hA|rw [q1]|rw [q2]|rw [q3]|rw [q4]|rw [q5]|rw [q6]|refine i9 hA _ h0 rfl ?_|refine j5 hA _ h0 ?_);cbv))
 case' inr =>
  have q6:qi 1 z=true:=el hA (c9j (by omega))
  have q7:=esu hA d0
  have q8:=ebi hA v0
  have q9:=esu hA d1
  have q10:=ebi hA v1
  iterate 2 (try cbv;repeat ((first|with_reducible apply f8 hA|rw [q1]|rw [q2]|rw [q3]|rw [q4]|rw [q5]|rw [q6]|rw [q7]|rw [q8]|rw [q9]|rw [q10]|refine i9 hA _ h0 rfl ?_|refine j5 hA _ h0 ?_);cbv))
 all_goals
  refine o7 hA (γ:=Int×Int) (fun x=>[(36,vi .i64 x.1),(5,vi .i32 x.2),(7,.jk)]) (fun x=>[]) inv (fun x=>e - x.1.toNat) (0,M) hi0 ?_ ?_
  ·cbv
  ·intro x hinv
   obtain ⟨i,r⟩:=x
   cbv;refine gn ?_;try simp only [nc] at *
   rw [hv] at hinv
   obtain ⟨k,hi,hk,hr,hct⟩:=hinv
   replace hi:i=(k:Int):=hi
   replace hr:r=J0 l M k:=hr
   by_cases h9:k<e
   ·have l1:decide (i<(e:Int))=true:=c9j (by omega)
    have t0:qi i (va R2)=true:=by rw [hlz];exact el hA l1
    have g1:=hgt k h9
    rw [←hi] at g1
    have hck:=hgk (k+1)
    have hac:J0 l M (k+1)=J0 l M k * 64+gb l (k+1) % 64:=by rw [J0]
    have hcs:U5 l (k+1)=(U5 l k && decide (gb l (k+1) / 64=2)):=by rw [U5]
    have v2:M1 .shr .u8 (gb l (k+1)) .u64 6=some (gb l (k+1) / 64):=b2v _ 6 (by decide)
    obtain ⟨c1,hc1⟩:∃c1,c1=gb l (k+1):=⟨_,rfl⟩
    rw [←hc1] at g1 hck hac hcs v2
    obtain ⟨f,hf⟩:∃f,f=c1 / 64:=⟨_,rfl⟩
    rw [←hf] at v2 hcs
    have t1:=eg hA g1
    have t2:=ebi hA v2
    by_cases h2:f=2
    ·have b2:(f == 2)=true:=by rw [h2];rfl
     have t3:=eb hA b2
     have v3:M1 .shl .i32 r .u64 6=some (r * 64):=b8W (by rw [hr];exact hbd k (by omega))
     have v4:M1 .and .u8 c1 .u8 63=some (c1 % 64):=a5i (k:=.u8) (n:=8) (j:=6) rfl (by decide) hck.1 (by omega) (fun y h1 h2=>IntWalk.u8_in _ (by omega)) rfl
     have v5:M1 .or .i32 (r * 64) .i32 (c1 % 64)=some (r * 64+c1 % 64):=c1I (by rw [hr];exact (hbd k (by omega)).1) (by rw [hr];exact (hbd k (by omega)).2) (by omega)
     have u1:IntKind.i32.wrap (c1 % 64)=c1 % 64:=IntWalk.i32_in _ (by omega)
     have hn1:r * 64+c1 % 64=J0 l M (k+1):=by rw [hac,hr]
     have hct1:U5 l (k+1)=true:=by rw [hcs,hct,h2];rfl
     obtain ⟨s1,hs1⟩:∃s1,s1=r * 64:=⟨_,rfl⟩
     obtain ⟨s2,hs2⟩:∃s2,s2=c1 % 64:=⟨_,rfl⟩
     obtain ⟨s3,hs3⟩:∃s3,s3=r * 64+c1 % 64:=⟨_,rfl⟩
     rw [←hs3] at v5 hn1
     rw [←hs1] at v3 v5
     rw [←hs2] at v4 v5 u1
     have t4:=ebi hA v3
     have t5:=ebi hA v4
     have t6:=ebi hA v5
     have t7:=ewp hA u1
     have hz1:qa .i64 (qb i 1)=((k+1:Nat):Int):=ew hA (by rw [IntWalk.i64_in _ (by omega)];omega)
     have hi':inv (qa .i64 (qb i 1),s3):=by rw [hv];exact ⟨k+1,hz1,h9,hn1,hct1⟩
     have hm':e - (qa .i64 (qb i 1)).toNat<e - i.toNat:=by rw [hz1,hi];omega
     rw [t0]
     try cbv;refine gr ?_;try simp only [nc] at *
     refine ⟨_,hi',hm',?_⟩
     cbv
    ·have b2:(f == 2)=false:=c9f h2
     have t3:=eb hA b2
     have hPz:P=(0,0):=hPn fun hh=>by
      have h5:=b5i (l:=l) (k:=k+1) (by rw [hcs,c9d h2,d0Z]) (e - (k+1))
      rw [show k+1+(e - (k+1))=e by omega] at h5
      rw [h5] at hh
      exact absurd hh.1 (by decide)
     rw [hPz,t0]
     try cbv;exact fr
   ·have l1:decide (i<(e:Int))=false:=c9d (by omega)
    have t0:qi i (va R2)=false:=by rw [hlz];exact el hA l1
    have hke:k=e:=by omega
    subst hke
    rw [←hr] at hPn hPy
    have h1:=c6w r
    have h2:=c49 r
    rw [t0]
    cases hB:isB r
    ·rw [hB] at h1
     have hPz:P=(0,0):=hPn fun hh=>by rw [hB] at hh;exact absurd hh.2.1 (by decide)
     rw [hPz]
     try cbv;exact fr
    ·rw [hB] at h1
     obtain ⟨y,hy⟩:∃y,y=a2f r:=⟨_,rfl⟩
     rw [←hy] at h2 hPn hPy
     by_cases h3:y=z
     ·have hPz:P=(r,z):=hPy hct hB (by omega)
      rw [hPz]
      have t3:qk y z=true:=eb hA (by rw [h3];exact c9T _)
      try cbv;exact fr
     ·have hPz:P=(0,0):=hPn fun hh=>by omega
      rw [hPz]
      have t3:qk y z=false:=eb hA (c9f h3)
      try cbv;exact fr
section
theorem c4D {l:List Int} (hb:Byt l) (h1:1≤l.length) (hl:l.length≤1048576):A0 104 [.one (.sl 1 (M6 l))] [.one (.sc (.int .i32 (U6 l).1)),.one (.sc (.int .i64 (U6 l).2))]:=by
 have hc:=Y3 hb 0
 have h0:=c3A hc
 have hz:=b5g (gb l 0)
 have g0:f7.get (M6 l) 0=some [.sc (.int .u8 (gb l 0))]:=a2z (l:=l) (k:=0) (by omega)
 have n0:((M6 l).length:Int)=(l.length:Int):=by rw [Y5]
 obtain ⟨n,hn⟩:∃n:Nat,T3 (gb l 0)=n:=⟨(T3 (gb l 0)).toNat,by omega⟩
 by_cases hn0:n=0
 ·have e:U6 l=(0,0):=by unfold U6;rw [c8Y (.inl (by omega))]
  rw [e]
  rw [show T3 (gb l 0)=0 by omega] at h0
  generalize gb l 0=c at *
  generalize M6 l=R at *
  exact wk2 Try.func104 rfl
 by_cases hln:n≤l.length
 ·exact c4C hb (by omega) (by omega) hln hl hn
 ·have e:U6 l=(0,0):=by unfold U6;rw [c8Y (.inr (by omega))]
  rw [e]
  obtain ⟨z,hzz⟩:∃z,z=T3 (gb l 0):=⟨_,rfl⟩
  obtain ⟨N,hN⟩:∃N,N=(l.length:Int):=⟨_,rfl⟩
  rw [←hzz] at h0
  rw [←hN] at n0
  have b0:(z == 0)=false:=c9f (by omega)
  have l0:decide (N<z)=true:=c9j (by omega)
  generalize gb l 0=c at *
  generalize M6 l=R at *
  exact wk2 Try.func104 rfl
theorem c6y {l:List Int} (hb:Byt l) {a:Nat} (ha:a<l.length) (hl:l.length≤1048576):A0 87 [.one (.sl 1 (M6 l)),.one (.sc (.int .i64 (a:Int)))] [.one (.sc (.int .i32 (if nx l a=0 then 0 else rn l a))),.one (.sc (.int .i64 (nx l a:Int))),.one (.sc (.int .u8 (if nx l a=0 then 3 else 0)))]:=by
 have h0:=c4D (a8m hb a) (by rw [c9z];omega) (by rw [c9z];omega)
 rw [c1H l a] at h0
 have n0:((M6 l).length:Int)=(l.length:Int):=by rw [Y5]
 have y0:f7.sub2 (M6 l) (a:Int) (l.length:Int)=some (M6 (l.drop a)):=by
  rw [a20 (d0I ha) (c9c _),c9J (by rw [c9z];omega)]
 have l0:decide ((a:Int)<0)=false:=c9d (by omega)
 have m0:decide ((l.length:Int)≤(a:Int))=false:=c9d (by omega)
 generalize M6 (l.drop a)=R2 at *
 generalize M6 l=R at *
 obtain ⟨N,hN⟩:∃N,N=(l.length:Int):=⟨_,rfl⟩
 obtain ⟨z,hz⟩:∃z,z=(a:Int):=⟨_,rfl⟩
 obtain ⟨n,hn⟩:∃n,n=(nx l a:Int):=⟨_,rfl⟩
 rw [←hN] at n0 y0 m0
 rw [←hz] at y0 l0 m0 ⊢
 rw [←hn] at h0 ⊢
 generalize rn l a=r at *
 by_cases h:nx l a=0
 ·rw [c8Y h,c8Y h]
  have b0:(n == 0)=true:=by rw [hn,h];rfl
  have hn0:n=0:=by omega
  rw [hn0] at h0 b0 ⊢
  clear hn hn0
  exact wk2 Try.func87 rfl
 ·rw [c8W h,c8W h]
  have b0:(n == 0)=false:=c9f (by omega)
  exact wk2 Try.func87 rfl
section
variable {r z1 z2 z3 z4 z5 z6 z7 z8 z9 z10 z11:Int}
end
end
theorem a30 (l:List Int) (a k:Nat):gb (l.drop a) k=gb l (a+k):=by
 unfold gb
 rw [c9k,c9x,c9k]
end Go.Proofs.Ytahpnackkmbmgaa.Vm
end
section
namespace Go.Proofs.Ytahpnackkmbmgaa
open Go.RowKit
set_option maxRecDepth 100000
set_option maxHeartbeats 4000000
def a3k (c:Int):Bool:=decide (97≤c) && decide (c≤122)
def b8X (c:Int):Bool:=decide (65≤c) && decide (c≤90)
def F5 (c:Int):Bool:=decide (48≤c) && decide (c≤57)
def F3 (c:Int):Bool:=a3k c || (b8X c || (F5 c || c == 95))
theorem b6y (c:Int):F5 c=true↔48≤c∧c≤57:=by unfold F5;simp
def r8 (s:ByteArray):List Int:=s.data.toList.map fun b=>(b.toNat:Int)
theorem P5 (s:ByteArray):(r8 s).length=s.size:=by unfold r8;rw [c9r,d0q];rfl
theorem b0T (s:ByteArray) (k:Nat) (h:k<s.size):(s[k].toNat:Int)=gb (r8 s) k:=by
 have h':k<s.data.size:=h
 have e:(r8 s)[k]?=some ((s.data[k].toNat:Nat):Int):=by
  unfold r8
  rw [c9v,c9D,c9P h']
  rfl
 unfold gb
 rw [c9k,e]
 rfl
def b8Y (l:List Int) (i:Nat):Bool:=a3k (gb l i) || (decide (0<i) && (F5 (gb l i) || gb l i == 95))
def a0T (l:List Int):Bool:=decide (0<l.length) && (List.range l.length).all (b8Y l)
def a0U:List Int→Int→Int
 | [],n=>n
 | c::l,n=>a0U l (10 * n+(c - 48))
theorem b6z (l:List Int) (c n:Int):a0U (l++[c]) n=10 * a0U l n+(c - 48):=by
 induction l generalizing n with
 | nil=>rfl
 | cons d l ih=>simp only [c9G,a0U];exact ih _
def a8n (l:List Int):Prop:=∀x∈l,48≤x∧x≤57
theorem b5j {l:List Int} (h:a8n l) {n:Int} (hn:0≤n):n≤a0U l n:=by
 induction l generalizing n with
 | nil=>exact Int.le_refl _
 | cons c l ih =>
  have hc:=h c (by simp)
  have:=ih (fun x hx=>h x (by simp [hx])) (n:=10 * n+(c - 48)) (by omega)
  simp only [a0U];omega
theorem b60 {l:List Int} (h:a8n l) (k:Nat):a0U (l.take k) 0≤a0U l 0:=by
 have h1:∀(a b:List Int) (n:Int),a0U (a++b) n=a0U b (a0U a n):=by
  intro a
  induction a with
  | nil=>intro b n;rfl
  | cons c a ih=>intro b n;exact ih b _
 have h2:=b5j (fun x hx=>h x (d03 hx):a8n (l.take k)) (n:=0) (by omega)
 have h3:=b5j (fun x hx=>h x (d04 hx):a8n (l.drop k)) (n:=a0U (l.take k) 0) h2
 rw [←h1,d0a] at h3
 exact h3
theorem b61 {l:List Int} {k:Nat} (hk:k<l.length):a0U (l.take (k+1)) 0=10 * a0U (l.take k) 0+(gb l k - 48):=by rw [c1j hk,b6z]
section
def N4:List ByteArray:=[⟨#[102,117,110]⟩,⟨#[114,101,99]⟩,⟨#[108,101,116]⟩,⟨#[105,110]⟩,⟨#[105,102]⟩,⟨#[116,104,101,110]⟩,⟨#[101,108,115,101]⟩,⟨#[99,97,115,101]⟩,⟨#[111,102]⟩,⟨#[101,110,100]⟩,⟨#[116,114,117,101]⟩,⟨#[102,97,108,115,101]⟩,⟨#[100,101,102]⟩,⟨#[73,110,116]⟩,⟨#[66,111,111,108]⟩]
def a6G:List Int:=[40,41,123,125,60,62,61,44,58,59,124,46,92,64,94,63,43,45,42,47,37]
def inB (ws:List ByteArray) (s:ByteArray):Bool:=ws.any fun w=>w.toList == s.toList
def a5j (s:ByteArray):Bool:=inB N4 s
def b2w (a b:Int):Bool:=(a == 61 && b == 61) || ((a == 61 && b == 62) || ((a == 58 && b == 61) || (a == 45 && b == 62)))
def B8 (l:List Int):Nat:=if 2≤l.length∧b2w (gb l 0) (gb l 1)=true then 2 else if gb l 0∈a6G then 1 else 0
theorem c1J (l:List Int) (h:1≤l.length):B8 l≤2∧B8 l≤l.length:=by unfold B8;split;omega;split <;> omega
structure Tok where
 kind:Int
 text:ByteArray
 n:Int
 at_:Int
def a13 (l:List Int):Int×Int :=
 if (gb l 0=48∧1<l.length)∨¬(l.all F5=true) then (0,4) else if 9223372036854775807<a0U l 0 then (0,7) else (a0U l 0,0)
def a0K (s:ByteArray) (at_:Int):Tok×Int :=
 if F5 (gb (r8 s) 0)=true then (⟨2,⟨#[]⟩,(a13 (r8 s)).1,at_⟩,(a13 (r8 s)).2) else
 if a5j s=true then (⟨3,s,0,at_⟩,0) else if a0T (r8 s)=false then (⟨1,s,0,at_⟩,4) else
 if 32<(r8 s).length then (⟨1,s,0,at_⟩,7) else (⟨1,s,0,at_⟩,0)
def M8 (c:Int):Bool:=c == 32 || (c == 9 || (c == 13 || c == 10))
def L5 (l:List Int) (a:Nat):List Int:=(l.drop a).takeWhile F3
def body (rec_:Nat→Bool→List Tok→List Tok×Int×Int) (l:List Int) (a:Nat) (rem:Bool) (out:List Tok):List Tok×Int×Int :=
 if a<l.length then
  if nx l a=0 then ([],a,3)
  else if rem=true then rec_ (a+nx l a) (gb l a != 10) out
  else if M8 (gb l a)=true then rec_ (a+1) false out
  else if gb l a=35 then rec_ (a+1) true out
  else if F3 (gb l a)=true then
   if (a0K (strOfNums (L5 l a)) a).2=0 then rec_ (a+(L5 l a).length) false (out++[(a0K (strOfNums (L5 l a)) a).1]) else ([],a,(a0K (strOfNums (L5 l a)) a).2)
  else if B8 (l.drop a)=0 then ([],a,4)
  else rec_ (a+B8 (l.drop a)) false (out++[⟨3,strOfNums ((l.drop a).take (B8 (l.drop a))),0,a⟩])
 else (out++[⟨4,⟨#[]⟩,0,l.length⟩],0,0)
def a8o (l:List Int):Nat→Nat→Bool→List Tok→List Tok×Int×Int
 | 0=>fun _ _ _=>([],0,0)
 | f+1=>fun a rem out=>body (a8o l f) l a rem out
theorem b5k {l:List Int} {a:Nat} (h:a<l.length) (hr:F3 (gb l a)=true):0<(L5 l a).length:=by
 unfold L5
 rw [c98 h]
 have:l[a]=gb l a:=by unfold gb;simp [h]
 rw [List.takeWhile_cons,this,hr]
 simp
theorem a4x {r1 r2:Nat→Bool→List Tok→List Tok×Int×Int} {l:List Int} {a:Nat} (h:∀a',a<l.length→a<a'→r1 a'=r2 a') (rem:Bool) (out:List Tok):body r1 l a rem out=body r2 l a rem out:=by
 unfold body
 by_cases ha:a<l.length
 ·rw [c8Y ha,c8Y ha]
  by_cases h0:nx l a=0
  ·rw [c8Y h0,c8Y h0]
  rw [c8W h0,c8W h0]
  rw [h (a+nx l a) ha (by omega),h (a+1) ha (by omega)]
  by_cases hr:F3 (gb l a)=true
  ·rw [h _ ha (by have:=b5k ha hr;omega:a<a+(L5 l a).length)]
   simp only [hr,d0V]
  ·have hr':F3 (gb l a)=false:=by simpa using hr
   simp only [hr',d0r,d1r]
   by_cases hs:B8 (l.drop a)=0
   ·simp only [hs,d0V]
   ·rw [h _ ha (by omega:a<a+B8 (l.drop a))]
 ·rw [c8W ha,c8W ha]
theorem b62 (l:List Int):∀(n f g a:Nat),l.length - a≤n→l.length - a<f→l.length - a<g→a8o l f a=a8o l g a:=by
 intro n
 induction n with
 | zero =>
  intro f g a hn hf hg
  obtain ⟨f,rfl⟩:∃k,f=k+1:=⟨f - 1,by omega⟩
  obtain ⟨g,rfl⟩:∃k,g=k+1:=⟨g - 1,by omega⟩
  funext rem out
  exact a4x (fun a' h _=>by omega) rem out
 | succ n ih =>
  intro f g a hn hf hg
  obtain ⟨f,rfl⟩:∃k,f=k+1:=⟨f - 1,by omega⟩
  obtain ⟨g,rfl⟩:∃k,g=k+1:=⟨g - 1,by omega⟩
  funext rem out
  exact a4x (fun a' h h'=>ih f g a' (by omega) (by omega) (by omega)) rem out
def m9 (l:List Int) (a:Nat) (rem:Bool) (out:List Tok):List Tok×Int×Int:=a8o l (l.length - a+1) a rem out
theorem a0V (l:List Int) (a:Nat) (rem:Bool) (out:List Tok):m9 l a rem out=body (m9 l) l a rem out:=by
 show body (a8o l (l.length - a)) l a rem out=_
 refine a4x (fun a' h h'=>?_) rem out
 funext rem out
 show a8o l (l.length - a) a' rem out=a8o l (l.length - a'+1) a' rem out
 rw [b62 l (l.length - a') (l.length - a) (l.length - a'+1) a' (by omega) (by omega) (by omega)]
section
variable {l:List Int} {a:Nat} {rem:Bool} {out:List Tok}
theorem a5k (h:l.length≤a):m9 l a rem out=(out++[⟨4,⟨#[]⟩,0,l.length⟩],0,0):=by rw [a0V];unfold body;rw [c8W (by omega)]
theorem b2x (h:a<l.length) (h0:nx l a=0):m9 l a rem out=([],(a:Int),3):=by rw [a0V];unfold body;rw [c8Y h,c8Y h0]
theorem a8p (h:a<l.length) (h0:nx l a≠0):m9 l a true out=m9 l (a+nx l a) (gb l a != 10) out:=by rw [a0V];unfold body;rw [c8Y h,c8W h0,c8Y rfl]
theorem a4y (h:a<l.length) (h0:nx l a≠0) (hb:M8 (gb l a)=true):m9 l a false out=m9 l (a+1) false out:=by rw [a0V];unfold body;rw [c8Y h,c8W h0,c8W (by decide),c8Y hb]
theorem b63 (h:a<l.length) (h0:nx l a≠0) (hb:gb l a=35):m9 l a false out=m9 l (a+1) true out:=by rw [a0V];unfold body;rw [c8Y h,c8W h0,c8W (by decide),c8W (by rw [hb];decide),c8Y hb]
theorem a8q (h:a<l.length) (h0:nx l a≠0) (hb:M8 (gb l a)=false) (hh:gb l a≠35) (hr:F3 (gb l a)=true) :
  m9 l a false out=if (a0K (strOfNums (L5 l a)) a).2=0 then m9 l (a+(L5 l a).length) false (out++[(a0K (strOfNums (L5 l a)) a).1]) else ([],(a:Int),(a0K (strOfNums (L5 l a)) a).2):=by
 rw [a0V];unfold body;rw [c8Y h,c8W h0,c8W (by decide),c8W (by rw [hb];decide),c8W hh,c8Y hr]
theorem b2y (h:a<l.length) (h0:nx l a≠0) (hb:M8 (gb l a)=false) (hh:gb l a≠35) (hr:F3 (gb l a)=false) (hs:B8 (l.drop a)=0):m9 l a false out=([],(a:Int),4):=by
 rw [a0V];unfold body;rw [c8Y h,c8W h0,c8W (by decide),c8W (by rw [hb];decide),c8W hh,c8W (by rw [hr];decide),c8Y hs]
theorem a9S (h:a<l.length) (h0:nx l a≠0) (hb:M8 (gb l a)=false) (hh:gb l a≠35) (hr:F3 (gb l a)=false) (hs:B8 (l.drop a)≠0) :
  m9 l a false out=m9 l (a+B8 (l.drop a)) false (out++[⟨3,strOfNums ((l.drop a).take (B8 (l.drop a))),0,a⟩]):=by
 rw [a0V];unfold body;rw [c8Y h,c8W h0,c8W (by decide),c8W (by rw [hb];decide),c8W hh,c8W (by rw [hr];decide),c8W hs]
end
theorem Y6 {l:List Int} {a:Nat} (hb:Byt l) (h:a<l.length) (hc:gb l a<128):nx l a=1:=by
 have h1:=c1G (a8m hb a) 1 (by rw [c9z];omega) (by simp only [V];rw [a30];exact hc)
 unfold nx;rw [h1];rfl
theorem a3C (c:Int):M8 c=true↔c=32∨c=9∨c=13∨c=10:=by unfold M8;simp
theorem b2z (c:Int):M8 c=false↔¬(c=32∨c=9∨c=13∨c=10):=by rw [←a3C];simp
theorem b64 {c:Int} (h:c∈a6G):37≤c∧c≤125:=by simp [a6G] at h;omega
end
end Go.Proofs.Ytahpnackkmbmgaa
end
section
namespace Go.Proofs.Ytahpnackkmbmgaa.Vm
open Go.RowKit
set_option maxRecDepth 100000
set_option maxHeartbeats 4000000
def okB (first:Bool) (c:Int):Bool:=a3k c || (!first && (F5 c || c == 95))
def okL:Bool→List UInt8→Bool
 | _,[]=>true
 | f,c::l=>okB f (c.toNat:Int) && okL false l
def a19 (s:ByteArray):Bool:=okL true (btl s) && decide (0<s.size)
def B2 (s:ByteArray):Bool:=decide (s.size≤32) && (a19 s && !a5j s)
theorem b9a {l:List UInt8} {k:Nat} {c:UInt8} (h:l[k]?=some c):okL (k == 0) (l.drop k)=(okB (k == 0) (c.toNat:Int) && okL (k+1 == 0) (l.drop (k+1))):=by
 obtain ⟨hi,e⟩:=c8S.1 h
 rw [c98 hi,e,okL]
 rfl
theorem b5l (c:Int):A0 74 [.one (.sc (.int .u8 c))] [.one (.sc (.bool (a3k c)))]:=by
 generalize hb:a3k c=b
 unfold a3k at hb
 refine sp9 Try.func74 rfl ?_;intro _ _ _ _ _ _ _ _ qj;intros;rename_i hA
 cbv;refine gn ?_
 obtain ⟨e1,e2,e3,e4,e5,e6,e7,e8,e9⟩:=m6 hA
 rw [←e8,←e8] at hb
 cases h1:qj 97 c
 ·cbv;refine gn ?_
  rw [h1] at hb
  exact a09 hb
 ·cbv;refine gn ?_
  rw [h1] at hb
  exact a09 hb
theorem a7d (c:Int):A0 75 [.one (.sc (.int .u8 c))] [.one (.sc (.bool (F5 c)))]:=by
 generalize hb:F5 c=b
 unfold F5 at hb
 refine sp9 Try.func75 rfl ?_;intro _ _ _ _ _ _ _ _ qj;intros;rename_i hA
 cbv;refine gn ?_
 obtain ⟨e1,e2,e3,e4,e5,e6,e7,e8,e9⟩:=m6 hA
 rw [←e8,←e8] at hb
 cases h1:qj 48 c
 ·cbv;refine gn ?_
  rw [h1] at hb
  exact a09 hb
 ·cbv;refine gn ?_
  rw [h1] at hb
  exact a09 hb
theorem b20 (s:ByteArray) (hs:s.size≤4611686018427387904):A0 44 [.one (.sc (.string s))] [.one (.sc (.bool (a19 s)))]:=by
 generalize hb:a19 s=b
 unfold a19 at hb
 refine sp9 Try.func44 rfl ?_;intro qa qb _ _ _ _ _ qi _ qk _ qm _ qp _ _ qu qv;intros;rename_i hA
 cbv;refine gn ?_
 obtain ⟨e1,e2,e3,e4,e5,e6,e7,e8,e9⟩:=m6 hA
 obtain ⟨s1,s2,s3,s4,s5,s6,-⟩:=I3 hA
 refine o7 hA (γ:=Int) (fun z=>[(7,vi .i64 z)]) (fun _=>[]) (fun z=>∃k:Nat,z=(k:Int)∧k≤s.size∧(okL (k == 0) ((btl s).drop k) && decide (0<s.size))=b) (fun z=>s.size - z.toNat) 0 ?_ ?_ ?_
 ·exact ⟨0,rfl,c95 _,hb⟩
 ·cbv
 ·intro z hinv
  cbv;refine gn ?_
  obtain ⟨k,hz,hk,hE⟩:=hinv
  replace hz:z=(k:Int):=hz
  replace s5:qu s=((s.size:Nat):Int):=s5 s
  have hlt:qi z (qu s)=decide (k<s.size):=by rw [e7,s5,hz];exact c9w.2 (by omega)
  by_cases h9:k<s.size
  ·rw [c9j h9] at hlt
   obtain ⟨c,hc⟩:∃c,(btl s)[k]?=some c:=⟨_,c8T (by rw [L4];exact h9)⟩
   have g1:qv s z=some (c.toNat:Int):=by rw [s6,hz];exact b5e hc
   rw [b9a hc] at hE
   have hd1:=b5l (c.toNat:Int)
   have hd2:=a7d (c.toNat:Int)
   have hz0:qk z 0=(k == 0):=by
    rw [e9,hz]
    cases k with
    | zero=>rfl
    | succ k=>exact c94.2 (by omega)
   have hz1:qa .i64 (qb z 1)=((k+1:Nat):Int):=by rw [e1,e2,hz,IntWalk.i64_in _ (by omega)];omega
   have hm:s.size - (qa .i64 (qb z 1)).toNat<s.size - z.toNat:=by rw [hz1,hz];omega
   have h95:qk (c.toNat:Int) 95=((c.toNat:Int) == 95):=e9 _ _
   unfold okB at hE
   generalize (c.toNat:Int)=cc at *
   generalize a3k cc=q1 at *
   generalize F5 cc=q2 at *
   generalize (cc == 95)=q3 at *
   generalize (k == 0)=q0 at *
   rw [hlt]
   cbv;refine gn ?_
   rw [g1]
   cbv;refine gn ?_
   refine i9 hA _ hd1 ?_ ?_
   ·rfl
   cases q1
   ·cbv;refine gn ?_
    rw [hz0]
    cases q0
    ·cbv;refine gn ?_
     refine i9 hA _ hd2 ?_ ?_
     ·rfl
     cases q2
     ·cbv;refine gn ?_
      rw [h95]
      cases q3
      ·cbv;refine gn ?_
       exact a09 hE
      ·cbv;refine gn ?_
       exact ⟨_,⟨k+1,hz1,h9,hE⟩,hm,by cbv⟩
     ·cbv;refine gn ?_
      exact ⟨_,⟨k+1,hz1,h9,hE⟩,hm,by cbv⟩
    ·cbv;refine gn ?_
     exact a09 hE
   ·cbv;refine gn ?_
    exact ⟨_,⟨k+1,hz1,h9,hE⟩,hm,by cbv⟩
  ·rw [c9d h9] at hlt
   have hk:k=s.size:=by omega
   rw [hk,c9R (by rw [L4];exact c9c _),okL] at hE
   have hq:qm (qp s) (qp ⟨⟨[]⟩⟩)=!b:=by
    rw [s1,s3,s3,a4v,a4v,←hE,d0N]
    cases h:btl s with
    | nil=>rw [←L4,h];rfl
    | cons x l=>rw [←L4,h,c9j (show 0<(x::l).length by simp)];rfl
   rw [hlt]
   cbv;refine gn ?_
   rw [hq]
   exact a09 (by cases b <;> rfl)
theorem b9b {s:ByteArray} (h:∀x∈N4,(s.toList == x.toList)=false):a5j s=false:=by
 unfold a5j inB
 rw [List.any_eq_false]
 intro x hx
 have:=h x hx
 rw [Bool.beq_comm] at this
 rw [this]
 decide
theorem G5 {s x:ByteArray} (hx:x∈N4) (h:(s.toList == x.toList)=true):a5j s=true:=by
 unfold a5j inB
 rw [List.any_eq_true]
 exact ⟨x,hx,by rw [Bool.beq_comm];exact h⟩
theorem c3C (s:ByteArray):A0 45 [.one (.sc (.string s))] [.one (.sc (.bool (a5j s)))]:=by
 generalize hb:a5j s=b
 refine sp9 Try.func45 rfl ?_;intro _ _ _ _ _ _ _ _ _ _ _ qm _ qp;intros;rename_i hA
 cbv;refine gn ?_
 obtain ⟨s1,s2,s3,s4,s5,s6,-⟩:=I3 hA
 cases g0:qm (qp s) (qp ⟨⟨[102,117,110]⟩⟩)
 rotate_left
 ·cbv;refine gn ?_
  refine a09 ?_
  rw [←hb]
  rw [s1,s3,s3] at g0
  exact (G5 (x:=⟨⟨[102,117,110]⟩⟩) (by unfold N4;repeat first|exact c8V ..|apply c8X) g0).symm
 cbv;refine gn ?_
 cases g1:qm (qp s) (qp ⟨⟨[114,101,99]⟩⟩)
 rotate_left
 ·cbv;refine gn ?_
  refine a09 ?_
  rw [←hb]
  rw [s1,s3,s3] at g1
  exact (G5 (x:=⟨⟨[114,101,99]⟩⟩) (by unfold N4;repeat first|exact c8V ..|apply c8X) g1).symm
 cbv;refine gn ?_
 cases g2:qm (qp s) (qp ⟨⟨[108,101,116]⟩⟩)
 rotate_left
 ·cbv;refine gn ?_
  refine a09 ?_
  rw [←hb]
  rw [s1,s3,s3] at g2
  exact (G5 (x:=⟨⟨[108,101,116]⟩⟩) (by unfold N4;repeat first|exact c8V ..|apply c8X) g2).symm
 cbv;refine gn ?_
 cases g3:qm (qp s) (qp ⟨⟨[105,110]⟩⟩)
 rotate_left
 ·cbv;refine gn ?_
  refine a09 ?_
  rw [←hb]
  rw [s1,s3,s3] at g3
  exact (G5 (x:=⟨⟨[105,110]⟩⟩) (by unfold N4;repeat first|exact c8V ..|apply c8X) g3).symm
 cbv;refine gn ?_
 cases g4:qm (qp s) (qp ⟨⟨[105,102]⟩⟩)
 rotate_left
 ·cbv;refine gn ?_
  refine a09 ?_
  rw [←hb]
  rw [s1,s3,s3] at g4
  exact (G5 (x:=⟨⟨[105,102]⟩⟩) (by unfold N4;repeat first|exact c8V ..|apply c8X) g4).symm
 cbv;refine gn ?_
 cases g5:qm (qp s) (qp ⟨⟨[116,104,101,110]⟩⟩)
 rotate_left
 ·cbv;refine gn ?_
  refine a09 ?_
  rw [←hb]
  rw [s1,s3,s3] at g5
  exact (G5 (x:=⟨⟨[116,104,101,110]⟩⟩) (by unfold N4;repeat first|exact c8V ..|apply c8X) g5).symm
 cbv;refine gn ?_
 cases g6:qm (qp s) (qp ⟨⟨[101,108,115,101]⟩⟩)
 rotate_left
 ·cbv;refine gn ?_
  refine a09 ?_
  rw [←hb]
  rw [s1,s3,s3] at g6
  exact (G5 (x:=⟨⟨[101,108,115,101]⟩⟩) (by unfold N4;repeat first|exact c8V ..|apply c8X) g6).symm
 cbv;refine gn ?_
 cases g7:qm (qp s) (qp ⟨⟨[99,97,115,101]⟩⟩)
 rotate_left
 ·cbv;refine gn ?_
  refine a09 ?_
  rw [←hb]
  rw [s1,s3,s3] at g7
  exact (G5 (x:=⟨⟨[99,97,115,101]⟩⟩) (by unfold N4;repeat first|exact c8V ..|apply c8X) g7).symm
 cbv;refine gn ?_
 cases g8:qm (qp s) (qp ⟨⟨[111,102]⟩⟩)
 rotate_left
 ·cbv;refine gn ?_
  refine a09 ?_
  rw [←hb]
  rw [s1,s3,s3] at g8
  exact (G5 (x:=⟨⟨[111,102]⟩⟩) (by unfold N4;repeat first|exact c8V ..|apply c8X) g8).symm
 cbv;refine gn ?_
 cases g9:qm (qp s) (qp ⟨⟨[101,110,100]⟩⟩)
 rotate_left
 ·cbv;refine gn ?_
  refine a09 ?_
  rw [←hb]
  rw [s1,s3,s3] at g9
  exact (G5 (x:=⟨⟨[101,110,100]⟩⟩) (by unfold N4;repeat first|exact c8V ..|apply c8X) g9).symm
 cbv;refine gn ?_
 cases g10:qm (qp s) (qp ⟨⟨[116,114,117,101]⟩⟩)
 rotate_left
 ·cbv;refine gn ?_
  refine a09 ?_
  rw [←hb]
  rw [s1,s3,s3] at g10
  exact (G5 (x:=⟨⟨[116,114,117,101]⟩⟩) (by unfold N4;repeat first|exact c8V ..|apply c8X) g10).symm
 cbv;refine gn ?_
 cases g11:qm (qp s) (qp ⟨⟨[102,97,108,115,101]⟩⟩)
 rotate_left
 ·cbv;refine gn ?_
  refine a09 ?_
  rw [←hb]
  rw [s1,s3,s3] at g11
  exact (G5 (x:=⟨⟨[102,97,108,115,101]⟩⟩) (by unfold N4;repeat first|exact c8V ..|apply c8X) g11).symm
 cbv;refine gn ?_
 cases g12:qm (qp s) (qp ⟨⟨[100,101,102]⟩⟩)
 rotate_left
 ·cbv;refine gn ?_
  refine a09 ?_
  rw [←hb]
  rw [s1,s3,s3] at g12
  exact (G5 (x:=⟨⟨[100,101,102]⟩⟩) (by unfold N4;repeat first|exact c8V ..|apply c8X) g12).symm
 cbv;refine gn ?_
 cases g13:qm (qp s) (qp ⟨⟨[73,110,116]⟩⟩)
 rotate_left
 ·cbv;refine gn ?_
  refine a09 ?_
  rw [←hb]
  rw [s1,s3,s3] at g13
  exact (G5 (x:=⟨⟨[73,110,116]⟩⟩) (by unfold N4;repeat first|exact c8V ..|apply c8X) g13).symm
 cbv;refine gn ?_
 cases g14:qm (qp s) (qp ⟨⟨[66,111,111,108]⟩⟩)
 rotate_left
 ·cbv;refine gn ?_
  refine a09 ?_
  rw [←hb]
  rw [s1,s3,s3] at g14
  exact (G5 (x:=⟨⟨[66,111,111,108]⟩⟩) (by unfold N4;repeat first|exact c8V ..|apply c8X) g14).symm
 cbv;refine gn ?_
 refine a09 ?_
 rw [←hb]
 symm
 apply b9b
 intro x hx
 rw [s1,s3,s3] at g0 g1 g2 g3 g4 g5 g6 g7 g8 g9 g10 g11 g12 g13 g14
 unfold N4 at hx
 simp only [c9e,d0J,or_false] at hx
 rcases hx with rfl|rfl|rfl|rfl|rfl|rfl|rfl|rfl|rfl|rfl|rfl|rfl|rfl|rfl|rfl
 ·exact g0
 ·exact g1
 ·exact g2
 ·exact g3
 ·exact g4
 ·exact g5
 ·exact g6
 ·exact g7
 ·exact g8
 ·exact g9
 ·exact g10
 ·exact g11
 ·exact g12
 ·exact g13
 ·exact g14
theorem b9c (s:ByteArray) (hs:s.size≤4611686018427387904):A0 20 [.one (.sc (.string s))] [.one (.sc (.bool (B2 s)))]:=by
 have h1:=b20 s hs
 have h2:=c3C s
 generalize hb:B2 s=b
 unfold B2 at hb
 refine sp9 Try.func20 rfl ?_;intro _ _ _ _ _ _ _ _ qj _ _ _ _ _ _ _ qu;intros;rename_i hA
 cbv;refine gn ?_
 obtain ⟨e1,e2,e3,e4,e5,e6,e7,e8,e9⟩:=m6 hA
 obtain ⟨s1,s2,s3,s4,s5,s6,-⟩:=I3 hA
 have hle:qj (qu s) 32=decide (s.size≤32):=by rw [e8,s5];exact c9w.2 (by omega)
 generalize decide (s.size≤32)=q at *
 generalize a19 s=q1 at *
 generalize a5j s=q2 at *
 rw [hle]
 cases q
 ·cbv;refine gn ?_
  exact a09 hb
 ·cbv;refine gn ?_
  refine i9 hA _ h1 ?_ ?_
  ·rfl
  cases q1
  ·cbv;refine gn ?_
   exact a09 hb
  ·cbv;refine gn ?_
   refine i9 hA _ h2 ?_ ?_
   ·rfl
   cbv;refine gn ?_
   exact a09 hb
end Go.Proofs.Ytahpnackkmbmgaa.Vm
end
section
namespace Go.Proofs.Ytahpnackkmbmgaa
open Go.RowKit
set_option maxRecDepth 100000
set_option maxHeartbeats 4000000
theorem b65 {l:List Int} (h:gb l 0=48) (h1:1<l.length):a13 l=(0,4):=by unfold a13;rw [c8Y (.inl ⟨h,h1⟩)]
theorem b9d {l:List Int} {k:Nat} (hk:k<l.length) (h:F5 (gb l k)=false):a13 l=(0,4):=by
 unfold a13
 rw [c8Y (.inr (fun ha=>by
  have:=(c9s.1 ha) _ (b7W hk)
  rw [h] at this;cases this))]
theorem b66 {l:List Int} (h:∀i,i<l.length→F5 (gb l i)=true):l.all F5=true∧a8n l:=by
 have hx:∀x∈l,F5 x=true:=fun x hx=>by
  obtain ⟨i,hi,rfl⟩:=List.getElem_of_mem hx
  have:=h i hi
  unfold gb at this
  simpa [hi] using this
 exact ⟨c9s.2 hx,fun x hm=>(b6y x).1 (hx x hm)⟩
theorem b3J {l:List Int} (h0:¬(gb l 0=48∧1<l.length)) (ha:l.all F5=true) (h:9223372036854775807<a0U l 0):a13 l=(0,7):=by
 unfold a13;rw [c8W (fun hh=>by rcases hh with h1|h1;exact h0 h1;exact h1 ha),c8Y h]
theorem c1K {l:List Int} (h0:¬(gb l 0=48∧1<l.length)) (ha:l.all F5=true) (h:¬9223372036854775807<a0U l 0):a13 l=(a0U l 0,0):=by
 unfold a13;rw [c8W (fun hh=>by rcases hh with h1|h1;exact h0 h1;exact h1 ha),c8W h]
end Go.Proofs.Ytahpnackkmbmgaa
end
section
namespace Go.Proofs.Ytahpnackkmbmgaa.Vm
open Go.RowKit
set_option maxRecDepth 100000
set_option maxHeartbeats 4000000
theorem a9T {s:ByteArray} {k:Nat} (h:k<(r8 s).length):f7.sget s (k:Int)=some (gb (r8 s) k):=by
 rw [P5] at h
 have hc:(btl s)[k]?=some s[k]:=by rw [btl,c9D];exact c9P h
 rw [b5e hc,b0T s k h]
theorem b9e (s:ByteArray) (h1:1≤s.size) (hm:s.size≤1048576):A0 103 [.one (.sc (.string s))] [.one (.sc (.int .i64 (a13 (r8 s)).1)),.one (.sc (.bool (decide ((a13 (r8 s)).2=0)))),.one (.sc (.int .u8 (a13 (r8 s)).2))]:=by
 have hget:=fun k (h:k<(r8 s).length)=>a9T h
 have hlen:(s.size:Int)=((r8 s).length:Int):=by rw [P5]
 have h1':1≤(r8 s).length:=by rw [P5];exact h1
 have hm':(r8 s).length≤1048576:=by rw [P5];exact hm
 have hby:∀k,k<(r8 s).length→0≤gb (r8 s) k∧gb (r8 s) k≤255:=fun k h=>by
  rw [P5] at h;rw [←b0T s k h];have:=s[k].toNat_lt;omega
 generalize r8 s=l at *
 obtain ⟨p,o,c,hp⟩:∃p o c,p=(a13 l).1∧o=decide ((a13 l).2=0)∧c=(a13 l).2:=⟨_,_,_,rfl,rfl,rfl⟩
 rw [←hp.1,←hp.2.1,←hp.2.2]
 have hv:∀ {n e:Int},a13 l=(n,e)→p=n∧o=decide (e=0)∧c=e:=fun h=>by rw [h] at hp;exact hp
 clear hp
 obtain ⟨N,hN⟩:∃N,N=(l.length:Int):=⟨_,rfl⟩
 rw [←hN] at hlen
 have g0:=hget 0 (by omega)
 obtain ⟨c0,hc0⟩:∃c0,c0=gb l 0:=⟨_,rfl⟩
 rw [←hc0] at g0
 obtain ⟨inv,hi⟩:∃inv:Int→Prop,inv=fun z=>∃k:Nat,z=(k:Int)∧k≤l.length∧∀i,i<k→F5 (gb l i)=true:=⟨_,rfl⟩
 have hi0:inv 0:=by rw [hi];exact ⟨0,rfl,c95 _,fun i h=>by omega⟩
 obtain ⟨inv2,hi2⟩:∃inv2:Int×Int→Prop,inv2=fun x=>∃k:Nat,x.2=(k:Int)∧k≤l.length∧0≤x.1∧x.1≤9223372036854775807∧x.1=a0U (l.take k) 0:=⟨_,rfl⟩
 have hi20:inv2 (0,0):=by rw [hi2];exact ⟨0,rfl,c95 _,by decide,by decide,rfl⟩
 refine sp9 Try.func103 rfl ?_;intro qa qb qc qd qe _ _ qi _ qk _ _ _ _ _ _ qu qv;intros;rename_i hA
 obtain ⟨e1,e2,e3,e4,e5,e6,e7,e8,e9⟩:=m6 hA
 obtain ⟨s1,s2,s3,s4,s5,s6,-⟩:=I3 hA
 have q0:qu s=N:=by rw [s5];exact hlen
 have q1:qv s 0=some c0:=by rw [s6];exact g0
 by_cases hz:c0=48∧1<l.length
 ·obtain ⟨rfl,rfl,rfl⟩:=hv (b65 (by omega) hz.2)
  have t0:qk c0 48=true:=eb hA (by rw [hz.1];rfl)
  have t1:qi 1 N=true:=el hA (c9j (by omega))
  try cbv;exact fr
 have HZ:=hz
 have t4:(c0 == 48)=false∨((c0 == 48)=true∧decide (1<N)=false):=by
  by_cases h:c0=48
  ·exact .inr ⟨by rw [h];rfl,c9d (by omega)⟩
  ·exact .inl (c9f h)
 rcases t4 with t0|⟨t0,t1⟩
 case' inl =>
  replace t0:=eb hA t0
  iterate 2 (try cbv;repeat ((first|with_reducible apply f8 hA|rw [q0]|rw [q1]|rw [t0]);cbv))
 case' inr =>
  replace t0:=eb hA t0
  replace t1:=el hA t1
  iterate 2 (try cbv;repeat ((first|with_reducible apply f8 hA|rw [q0]|rw [q1]|rw [t0]|rw [t1]);cbv))
 all_goals
  refine o7 hA (γ:=Int) (fun z=>[(18,vi .i64 z)]) (fun _=>[]) inv (fun z=>l.length - z.toNat) 0 hi0 ?_ ?_
  ·cbv
  ·intro z hinv
   cbv;refine gn ?_;try simp only [nc] at *
   rw [hi] at hinv
   obtain ⟨k,hz,hk,hE⟩:=hinv
   replace hz:z=(k:Int):=hz
   by_cases h9:k<l.length
   ·have p0:qi z N=true:=el hA (c9j (by omega))
    have p1:qv s z=some (gb l k):=by rw [s6,hz];exact hget k h9
    have hd:=a7d (gb l k)
    have p2:qa .i64 (qb z 1)=((k+1:Nat):Int):=ew hA (by rw [IntWalk.i64_in _ (by omega)];omega)
    have hf:F5 (gb l k)=true→inv ((k+1:Nat):Int):=fun h=>by
     rw [hi]
     refine ⟨k+1,rfl,by omega,fun i h'=>?_⟩
     by_cases e:i=k
     ·rw [e];exact h
     ·exact hE i (by omega)
    have hb:=fun h=>hv (b9d (k:=k) h9 h)
    have hm:l.length - ((k+1:Nat):Int).toNat<l.length - z.toNat:=by omega
    generalize gb l k=c1 at *
    generalize F5 c1=d at *
    generalize ((k+1:Nat):Int)=z1 at *
    cases d
    ·obtain ⟨rfl,rfl,rfl⟩:=hb rfl
     try cbv;exact fr
    ·have hg:=hf rfl
     clear hf
     try cbv;refine gr ?_;try simp only [nc] at *
     refine ⟨z1,hg,hm,?_⟩
     cbv
   ·have p0:qi z N=false:=el hA (c9d (by omega))
    have hall:=b66 (l:=l) (fun i hi=>hE i (by omega))
    try cbv;refine gr ?_;try simp only [nc] at *
    refine o7 hA (γ:=Int×Int) (fun x=>[(5,vi .u64 x.1),(29,vi .i64 x.2)]) (fun _=>[]) inv2 (fun x=>l.length - x.2.toNat) (0,0) hi20 ?_ ?_
    ·cbv
    ·intro x hinv2
     obtain ⟨n,i⟩:=x
     cbv;refine gn ?_;try simp only [nc] at *
     rw [hi2] at hinv2
     obtain ⟨j,hi,hj,hn0,hn1,hn⟩:=hinv2
     replace hi:i=(j:Int):=hi
     replace hn0:0≤n:=hn0
     replace hn1:n≤9223372036854775807:=hn1
     replace hn:n=a0U (l.take j) 0:=hn
     by_cases h8:j<l.length
     ·have p1:qi i N=true:=el hA (c9j (by omega))
      have p2:qv s i=some (gb l j):=by rw [s6,hi];exact hget j h8
      have hdg:=hall.2 _ (b7W (l:=l) (i:=j) h8)
      have hst:=b61 (l:=l) (k:=j) h8
      have hmo:=b60 hall.2 (j+1)
      rw [←hn] at hst
      obtain ⟨c1,hc1⟩:∃c1,c1=gb l j:=⟨_,rfl⟩
      rw [←hc1] at p2 hdg hst
      obtain ⟨d,hd⟩:∃d,d=c1 - 48:=⟨_,rfl⟩
      have p3:qa .u8 (qc c1 48)=d:=esu hA (by rw [IntWalk.u8_in _ (by omega)];exact hd.symm)
      have p4:qa .u64 d=d:=ewp hA (IntWalk.u64_in _ (by omega))
      obtain ⟨m,hm1⟩:∃m,m=9223372036854775807 - d:=⟨_,rfl⟩
      have p5:qa .u64 (qc 9223372036854775807 d)=m:=esu hA (by rw [IntWalk.u64_in _ (by omega)];exact hm1.symm)
      obtain ⟨q,hq⟩:∃q,q=m / 10:=⟨_,rfl⟩
      have p6:qa .u64 (qe m 10)=q:=equ hA (by rw [Int.tdiv_eq_ediv_of_nonneg (by omega),IntWalk.u64_in _ (by omega)];exact hq.symm)
      by_cases h7:q<n
      ·obtain ⟨rfl,rfl,rfl⟩:=hv (b3J (fun h=>HZ ⟨by omega,h.2⟩) hall.1 (by omega))
       have p7:qi q n=true:=el hA (c9j h7)
       iterate 2 (try cbv;repeat ((first|with_reducible apply f8 hA|rw [p1]|rw [p2]|rw [p3]|rw [p4]|rw [p5]|rw [p6]|rw [p7]|refine b2k hA (by decide) ?_);cbv))
      ·have p7:qi q n=false:=el hA (c9d h7)
       obtain ⟨n10,h10⟩:∃n10,n10=10 * n:=⟨_,rfl⟩
       have p8:qa .u64 (qd n 10)=n10:=emu hA (by rw [IntWalk.u64_in _ (by omega)];omega)
       obtain ⟨n2,h2⟩:∃n2,n2=n10+d:=⟨_,rfl⟩
       have p9:qa .u64 (qb n10 d)=n2:=ew hA (by rw [IntWalk.u64_in _ (by omega)];exact h2.symm)
       have pa:qa .i64 (qb i 1)=((j+1:Nat):Int):=ew hA (by rw [IntWalk.i64_in _ (by omega)];omega)
       have hf:inv2 (n2,((j+1:Nat):Int)):=by rw [hi2];exact ⟨j+1,rfl,by omega,by show 0≤n2;omega,by show n2≤_;omega,by show n2=_;omega⟩
       have hm:l.length - ((j+1:Nat):Int).toNat<l.length - i.toNat:=by omega
       generalize ((j+1:Nat):Int)=z1 at *
       iterate 2 (try cbv;repeat ((first|with_reducible apply f8 hA|rw [p1]|rw [p2]|rw [p3]|rw [p4]|rw [p5]|rw [p6]|rw [p7]|rw [p8]|rw [p9]|rw [pa]|refine b2k hA (by decide) ?_);cbv))
       try simp (maxSteps:=4000000) only [nc] at *
       refine ⟨(n2,z1),hf,hm,?_⟩
       cbv
     ·have p1:qi i N=false:=el hA (c9d (by omega))
      rw [c9J (by omega)] at hn
      obtain ⟨rfl,rfl,rfl⟩:=hv (c1K (fun h=>HZ ⟨by omega,h.2⟩) hall.1 (by omega))
      have p2:qa .i64 (a0U l 0)=a0U l 0:=ewp hA (IntWalk.i64_in _ (by omega))
      generalize a0U l 0=n3 at *
      subst hn
      try cbv;exact fr
theorem b67 (s:ByteArray):a19 s=a0T (r8 s):=by
 have key:∀n k:Nat,k+n=s.size→(okL (k == 0) ((btl s).drop k)=true↔∀i,k≤i→i<s.size→b8Y (r8 s) i=true):=by
  intro n
  induction n with
  | zero =>
   intro k hk
   rw [c9R (by rw [L4];omega),okL]
   exact ⟨fun _ i h1 h2=>by omega,fun _=>rfl⟩
  | succ n ih =>
   intro k hk
   have hk':k<s.size:=by omega
   have hc:(btl s)[k]?=some s[k]:=by rw [btl,c9D];exact c9P hk'
   rw [b9a hc,c8Z,ih (k+1) (by omega),b0T s k hk']
   have e:okB (k == 0) (gb (r8 s) k)=b8Y (r8 s) k:=by
    unfold okB b8Y
    cases k <;> simp
   rw [e]
   constructor
   ·rintro ⟨h1,h2⟩ i h3 h4
    by_cases h:i=k
    ·rw [h];exact h1
    ·exact h2 i (by omega) h4
   ·exact fun h=>⟨h k (c9c _) hk',fun i h3 h4=>h i (by omega) h4⟩
 have h0:=key s.size 0 (by omega)
 rw [show ((0:Nat) == 0)=true from rfl,d07] at h0
 unfold a19 a0T
 rw [P5,Bool.and_comm]
 congr 1
 rw [d09,h0,c9s]
 exact ⟨fun h i hi=>h i (c95 _) (d0Y.1 hi),fun h i _ hi=>h i (d0Y.2 hi)⟩
def b9f (t:Tok):List D:=[.sc (.int .u8 t.kind),.sc (.string t.text),.sc (.int .i64 t.n),.sc (.int .i64 t.at_)]
theorem c6z (s:ByteArray) (z:Int) (h1:1≤s.size) (hm:s.size≤1048576):A0 85 [.one (.sc (.string s)),.one (.sc (.int .i64 z))] [.ag (b9f (a0K s z).1),.one (.sc (.int .u8 (a0K s z).2))]:=by
 have g0:=a9T (s:=s) (k:=0) (by rw [P5];exact h1)
 have k0:=b9e s h1 hm
 have k1:=c3C s
 have k2:=b20 s (by omega)
 have k3:=a7d (gb (r8 s) 0)
 rw [b67] at k2
 have hlen:(s.size:Int)=((r8 s).length:Int):=by rw [P5]
 have h9:decide ((32:Int)<(s.size:Int))=decide (32<(r8 s).length):=c9w.2 (by omega)
 unfold b9f a0K
 generalize (a13 (r8 s)).1=n1 at *
 generalize (a13 (r8 s)).2=n2 at *
 generalize gb (r8 s) 0=c at *
 generalize decide (n2=0)=ok at *
 obtain ⟨N,hN⟩:∃N,N=(s.size:Int):=⟨_,rfl⟩
 rw [←hN] at h9
 clear hlen
 obtain ⟨d,hd⟩:∃d,d=F5 c:=⟨_,rfl⟩
 obtain ⟨o,ho⟩:∃o,o=a5j s:=⟨_,rfl⟩
 obtain ⟨v,hv⟩:∃v,v=a0T (r8 s):=⟨_,rfl⟩
 obtain ⟨g,hg⟩:∃g,g=decide (32<(r8 s).length):=⟨_,rfl⟩
 rw [←hd] at k3 ⊢
 rw [←ho] at k1 ⊢
 rw [←hv] at k2 ⊢
 rw [←hg] at h9
 have hgl:(32<(r8 s).length)=(g=true):=by rw [hg,d0p]
 simp only [hgl]
 clear hgl
 clear hd ho hv hg h1 hm
 refine sp9 Try.func85 rfl ?_;intro _ _ _ _ _ _ _ _ _ _ _ _ _ _ _ _ qu qv;intros;rename_i hA
 obtain ⟨s1,s2,s3,s4,s5,s6,-⟩:=I3 hA
 have q0:qu s=N:=by rw [s5];exact hN.symm
 have q1:qv s 0=some c:=by rw [s6];exact g0
 have q2:=el hA h9
 cases d
 ·cases o
  ·cases v
   ·try cbv;exact fr
   ·cases g
    ·try cbv;exact fr
    ·try cbv;exact fr
  ·try cbv;exact fr
 ·try cbv;exact fr
end Go.Proofs.Ytahpnackkmbmgaa.Vm
end
section
namespace Go.Proofs.Ytahpnackkmbmgaa
open Go.RowKit
set_option maxRecDepth 100000
set_option maxHeartbeats 4000000
theorem c1L {a b:Int} (ha:0≤a∧a≤255) (hb:0≤b∧b≤255) (x y:UInt8):((strOfNums [a,b]).toList == [x,y])=((a == (x.toNat:Int)) && (b == (y.toNat:Int))):=by
 rw [ByteArray.toList_eq,strOfNums_data]
 rw [d09]
 simp only [c9m,c9O,d0c,c8Z,List.cons.injEq,and_true]
 have k:∀(c:Int) (z:UInt8),0≤c∧c≤255→(UInt8.ofNat c.toNat=z↔c=(z.toNat:Int)):=fun c z hc=>by
  rw [←d1l,UInt8.toNat_ofNat']
  have:=z.toNat_lt
  omega
 rw [k a x ha,k b y hb]
theorem b9g {l:List Int} (h:2≤l.length) (hd:b2w (gb l 0) (gb l 1)=true):strOfNums (l.take (B8 l))=strOfNums [gb l 0,gb l 1]:=by
 have:B8 l=2:=by unfold B8;rw [c8Y ⟨h,hd⟩]
 rw [this,c39 h]
theorem b9h {l:List Int} (h:1≤l.length) (hn:¬(2≤l.length∧b2w (gb l 0) (gb l 1)=true)) (hc:gb l 0∈a6G):strOfNums (l.take (B8 l))=strOfNums [gb l 0]:=by
 have:B8 l=1:=by unfold B8;rw [c8W hn,c8Y hc]
 rw [this,c38 h]
theorem b68 {l:List Int} (hn:¬(2≤l.length∧b2w (gb l 0) (gb l 1)=true)) (hc:gb l 0∉a6G):strOfNums (l.take (B8 l))=⟨#[]⟩:=by
 have:B8 l=0:=by unfold B8;rw [c8W hn,c8W hc]
 rw [this];rfl
theorem b9i (c:Int):c∈a6G↔c=40∨c=41∨c=123∨c=125∨c=60∨c=62∨c=61∨c=44∨c=58∨c=59∨c=124∨c=46∨c=92∨c=64∨c=94∨c=63∨c=43∨c=45∨c=42∨c=47∨c=37:=by simp [a6G]
end Go.Proofs.Ytahpnackkmbmgaa
end
