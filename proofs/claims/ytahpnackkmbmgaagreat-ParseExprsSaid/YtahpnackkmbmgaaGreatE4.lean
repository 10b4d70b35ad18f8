/- Part 4 of the proof. Conditions: none. -/
import Derived.Test.YtahpnackkmbmgaaGreatE1
import Derived.Test.YtahpnackkmbmgaaGreatE3
import Derived.Lib.Builder
import Derived.Laws.Externs
import Derived.Lib.Walk
import Derived.Lib.AppendStr
import Derived.Lib.Hide
import Derived.Lib.Join
import Derived.Lib.UnsafeStr
import Derived.IntWalk
import Derived.Laws.BytesArg
import Derived.Test.YtahpnackkmbmgaaGreatE0
set_option linter.all false
set_option linter.unusedVariables false
set_option linter.unusedSimpArgs false
section
namespace Go.Proofs.YtahpnackkmbmgaaGreat.Vm
open Go.RowKit
set_option maxRecDepth 100000
set_option maxHeartbeats 4000000
section
def w8 (P:Program):Code→Bool
 | .region _ ops d=>c0E P ops.toList && (!d || (b2v ops || c6w ops.toList))
 | .seq c d=>w8 P c && w8 P d
 | .cond _ c d=>w8 P c && w8 P d
 | .block _ c=>w8 P c
 | .loop c=>w8 P c
 | _=>true
def toE:X→Exit
 | .normal=>.normal
 | .exit i=>.exit i
 | .ret=>.ret
section
variable {I0:Nat→Nat→Prop} {X:Nat→Prop} {w0:W0}
theorem N6 {ro:Option Nat} {n:Nat}:∀(c:Code) (s:S) (a:Act) (w:World) (K:Vm.X→S→Prop) (Q:Exit→Act→World→Prop),w8 Tryz.prog c=true→Rel I0 X w0 s a w→E1 f7 c s K→(∀e s' a' w',Rel I0 X w0 s' a' w'→K e s'→Q (toE e) a' w')→c.wpIn (FW ro) n Tryz.prog Q a w
 | .skip,s,a,w,K,Q,_,h,hK,hQ=>wpIn_skip (hQ _ _ _ _ h hK)
 | .region id ops d,s,a,w,K,Q,hok,h,hK,hQ=>by
  simp only [w8,d2Z,d36,d42] at hok
  have hops:∀o∈ops.toList,a1y Tryz.prog o.op=true:=d3z.1 hok.1
  cases d with
  | false=>exact wpIn_region_list (b5x (fun s' a' w' h' hk=>hQ .normal _ _ _ h' hk) _ s a w hops h hK)
  | true =>
   rw [E1] at hK
   split at hK
   ·refine wpIn_region_any (by kernel_rfl) (hK I0 X w0 a w.drew ro n Q hops ?_ fun s' a' w' h' hk=>hQ .normal _ _ _ h' hk)
    obtain ⟨I,g,h⟩:=h
    exact ⟨I,g,h.drew⟩
   rename_i hodd
   split at hK <;> try exact hK.elim
   rename_i hpre
   have hodd:c6w ops.toList=false:=by rw [c0x,d4G] at hodd;exact hodd.2
   have hd:b2v ops=true:=(hok.2.resolve_left (by simp)).resolve_right (by rw [hodd];decide)
   refine wpIn_region_any (by kernel_rfl) (c3L (fun s' a' w' h' hk=>hQ .normal _ _ _ h' hk) hok.1 hd ?_ hpre hK)
   obtain ⟨I,g,h⟩:=h
   exact ⟨I,g,h.drew⟩
 | .seq c d,s,a,w,K,Q,hok,h,hK,hQ=>by
  simp only [w8,d2Z] at hok
  refine wpIn_seq (N6 c s a w _ _ hok.1 h hK fun e s' a' w' h' hk=>?_)
  cases e with
  | normal =>
   obtain ⟨F,hg,hk⟩:=hk
   obtain ⟨s2,hf,h2⟩:=hg _ _ _ _ _ h'
   exact N6 d s2 a' w' K Q hok.2 h2 (hk s2 hf) hQ
  | exit i=>exact hQ (.exit i) _ _ _ h' hk
  | ret=>exact hQ .ret _ _ _ h' hk
 | .cond c x y,s,a,w,K,Q,hok,h,hK,hQ=>by
  simp only [w8,d2Z] at hok
  rw [E1] at hK
  obtain ⟨I,g,h1⟩:=h
  have hc:=h1.get c
  split at hK <;> try exact hK.elim
  rename_i b hb
  rw [hb] at hc
  refine wpIn_cond hc.sc ?_
  cases b with
  | true=>exact N6 x s a w K Q hok.1 ⟨I,g,h1⟩ hK hQ
  | false=>exact N6 y s a w K Q hok.2 ⟨I,g,h1⟩ hK hQ
 | .block id c,s,a,w,K,Q,hok,h,hK,hQ=>by
  refine wpIn_block (N6 c s a w _ _ hok h hK fun e s' a' w' h' hk=>?_)
  cases e with
  | normal=>exact hQ .normal _ _ _ h' hk
  | exit i =>
   rw [c0g] at hk
   show (if i=id then Q .normal a' w' else Q (.exit i) a' w')
   split at hk
   ·rename_i he;rw [F5] at he;rw [d2S he];exact hQ .normal _ _ _ h' hk
   ·rename_i he;rw [a3q] at he;rw [d2T he];exact hQ (.exit i) _ _ _ h' hk
  | ret=>exact hQ .ret _ _ _ h' hk
 | .loop c,s,a,w,K,Q,hok,h,hK,hQ=>by
  have key:∀R:S→S→Prop,(∀s s',R s s'→w0.n≤s'.o.length→∀a w,Rel I0 X w0 s a w→Rel I0 X w0 s' a w)→b37 R (fun s K=>E1 f7 c s K) s K→(Code.loop c).wpIn (FW ro) n Tryz.prog Q a w:=fun R hR hK=>by
   obtain ⟨γ,st,inv,μ,hlen,⟨x0,hw,h0⟩,hround⟩:=hK
   have hn:∀x,inv x→w0.n≤(st x).o.length:=fun x hx=>by
    have h1:=hlen x hx
    rw [y5,y5] at h1
    obtain ⟨I,g,h⟩:=h
    exact d4q h.lo h1
   refine wpIn_loop_ghost (fun m a w=>∃x,inv x∧Rel I0 X w0 (st x) a w∧μ x=m) (μ x0) ⟨x0,h0,hR _ _ hw (hn x0 h0) _ _ h,rfl⟩ ?_
   rintro m a1 w1 ⟨x,hx,h1,rfl⟩
   refine N6 c (st x) a1 w1 _ _ hok h1 (hround x hx) fun e s2 a2 w2 h2 hk=>?_
   cases e with
   | normal =>
    obtain ⟨y,hy,hlt,hwk⟩:=hk
    exact ⟨μ y,hlt,y,hy,hR _ _ hwk (hn y hy) _ _ h2,rfl⟩
   | exit i=>exact hQ (.exit i) _ _ _ h2 hk
   | ret=>exact hQ .ret _ _ _ h2 hk
  have hlo:w0.n≤r8 s.o:=by obtain ⟨I,g,h⟩:=h;rw [y5];exact h.lo
  rcases hK with hK|hK|hK
  ·exact key weak (fun _ _ hw hn a w h=>h.weak hn (.inr hw)) hK
  ·exact key Eq (fun _ _ hw hn a w h=>h.weak hn (.inl hw)) hK
  ·exact key (a3u (r8 s.o)) (fun _ _ hw _ a w h=>hw I0 X w0 a w hlo h) hK
 | .exit i,s,a,w,K,Q,_,h,hK,hQ=>wpIn_exit (hQ _ _ _ _ h hK)
 | .ret,s,a,w,K,Q,_,h,hK,hQ=>wpIn_ret (hQ _ _ _ _ h hK)
 | .rangeFunc f ps x y,s,a,w,K,Q,_,h,hK,hQ=>by cases hK
 | .scope c,s,a,w,K,Q,_,h,hK,hQ=>by cases hK
 | .label l,s,a,w,K,Q,_,h,hK,hQ=>by cases hK
 | .goto l,s,a,w,K,Q,_,h,hK,hQ=>by cases hK
 | .refuse y,s,a,w,K,Q,_,h,hK,hQ=>by cases hK
theorem a8s (c:Code) (s:S) (a:Act) (w:World) (K:Vm.X→S→Prop) (Q:Exit→Act→World→Prop) (hok:w8 Tryz.prog c=true) (h:Rel I0 X w0 s a w) (hK:E1 f7 c s K) (hQ:∀e s' a' w',Rel I0 X w0 s' a' w'→K e s'→Q (toE e) a' w'):c.wp Tryz.prog Q a w :=
 wpIn_wide.1 (N6 (ro:=none) (n:=0) c s a w K Q hok h hK hQ)
end
def b2w (a:Ar) (s:S):List ResultVar→List R→Prop
 | [],[]=>True
 | .tmp t::l,r::q=>toR s.o (v7 s.t t)=some r∧b2w a s l q
 | .cell b t::l,r::q=>J8 a s.o (fun y=>toR s.o y=some r) t (v7 s.t b)∧b2w a s l q
 | _,_=>False
def c3M (a:Ar) (l:List ResultVar) (q:List R):X→S→Prop
 | .exit _,_=>False
 | .normal,s=>b2w a s l q
 | .ret,s=>b2w a s l q
def P3:List ResultVar→Bool
 | []=>true
 | .tmp _::l=>P3 l
 | .cell _ t::l=>j5 t && P3 l
def uns:Nat→List V
 | 0=>[]
 | n+1=>vun::uns n
theorem a7p:∀n,uns n=List.replicate n vun
 | 0=>rfl
 | n+1=>by rw [uns,a7p n];rfl
def a5h (rs:List R) (n:Nat):S:=⟨a3H (b3u rs) (uns n),[]⟩
section
variable {I0:Nat→Nat→Prop} {X:Nat→Prop} {w0:W0} {I:Nat→Nat→Prop} {g:Nat→Value} {s:S} {a:Act} {w:World}
def b09 (tmps:Array Value):ResultVar→Sem Value
 | .tmp t=>pure (tmps.getD t undef)
 | .cell b t=>do loadVar t (←asAddr (tmps.getD b undef))
theorem a4g {t:Nat} {v u:Value} (h:(Instr.loadAt t v).run Tryz.prog w=.ok u w):(do loadVar t (←asAddr v)).run Tryz.prog w=.ok u w:=by
 unfold Instr.loadAt Instr.sureAddr at h
 split at h
 ·simpa [asAddr] using h
 ·simp [stuck] at h
theorem b59 (h:RelI I0 X w0 I g s a w):∀ {l:List ResultVar} {q:List R},P3 l=true→b2w f7 s l q→∃vs:List Value,(l.mapM (b09 a.tmps)).run Tryz.prog w=.ok vs w∧a5u I w vs q
 | [],[],_,_=>⟨[],rfl,trivial⟩
 | [],_::_,_,h=>h.elim
 | .tmp t::l,[],_,h=>h.elim
 | .cell b t::l,[],_,h=>h.elim
 | .tmp t::l,r::q,hok,hr=>by
  obtain ⟨vs,h1,h2⟩:=b59 h (l:=l) (q:=q) hok hr.2
  have h3:=a6Z h (h.get (.tmp t)) hr.1
  refine ⟨a.eval (.tmp t)::vs,?_,h3,h2⟩
  rw [d4Y]
  simp only [Sem.run_bind,h1,Result.andThen_ok,b09,Sem.run_pure]
  rfl
 | .cell b t::l,r::q,hok,hr=>by
  rw [P3,d2Z] at hok
  obtain ⟨vs,h1,h2⟩:=b59 h (l:=l) (q:=q) hok.2 hr.2
  obtain ⟨v,x,h3,h5,h6⟩:=a7f h hok.1 (h.get (.tmp b)) hr.1
  refine ⟨v::vs,?_,a6Z h h5 h6,h2⟩
  have h7:=a4g h3
  rw [d4Y]
  simp only [Sem.run_bind,b09,Sem.run_pure] at h7 ⊢
  have h8:((asAddr (a.tmps.getD b undef)).run Tryz.prog w).andThen (fun a w'=>(loadVar t a).run Tryz.prog w')=.ok v w:=h7
  rw [h8,Result.andThen_ok,h1]
  rfl
theorem a9z (h:RelI I0 X w0 I g s a w) {fn:Func} {q:List R} (hok:P3 fn.results.toList=true) (hr:b2w f7 s fn.results.toList q):∃v,(results fn a.tmps).run Tryz.prog w=.ok v w∧a3D I w v q:=by
 obtain ⟨vs,h1,h2⟩:=b59 h hok hr
 have h3:(fn.results.mapM (b09 a.tmps)).run Tryz.prog w=.ok vs.toArray w:=by
  rw [Array.mapM_eq_mapM_toList]
  simp [h1]
 have h4:(results fn a.tmps).run Tryz.prog w=.ok (if h:vs.toArray.size=1 then vs.toArray[0] else .tuple vs.toArray) w:=by
  have h5:results fn a.tmps=(do let vs ←fn.results.mapM (b09 a.tmps);pure (if h:vs.size=1 then vs[0] else .tuple vs)):=by
   unfold results
   congr 1
  rw [h5,Sem.run_bind,h3]
  rfl
 refine ⟨_,h4,?_⟩
 have hl:=h2.len
 match q,vs,h2,hl with
 | [r],[v],h2,_=>exact h2.1
 | [],[],h2,_=>exact ⟨[],rfl,h2⟩
 | r::r'::q,v::v'::vs,h2,_=>exact ⟨_,by simp,h2⟩
theorem b3Q {I0:Nat→Nat→Prop} {w:World} {rs:List R} {args:List Value} (hI:Wld I0 w) (hat:a5u I0 w args rs) (n:Nat):RelI I0 (fun _=>False) ⟨w,fun _=>.nilFunc,0,[]⟩ I0 (fun _=>.nilFunc) (a5h rs n) { tmps:=args.toArray++Array.replicate n undef,defers:=[] } w:=by
 refine ⟨fun _ _ h=>h,fun b k hb=>⟨hI.1 b k hb,fun _=>.inl hb⟩,Fr.refl _ _,B7.refl _ _,d3t _,fun k hk=>absurd hk (d5n _),fun k o ho=>by simp [a5h] at ho,fun j k b hj=>?_,fun _ _=>rfl,?_,rfl,hI.2⟩
 ·obtain ⟨o,ho,_⟩:=hj
  simp [a5h] at ho
 ·show m8 I0 w _ (args.toArray++Array.replicate n undef).toList (a3H (b3u rs) (uns n))
  rw [a1i,d45,a7p]
  refine (a5U _ hat).append ?_
  rw [d40]
  refine ⟨by simp,fun i u c hu hc=>?_⟩
  rw [d4i] at hu hc
  split at hu
  ·rename_i hi
   rw [d2S hi] at hc
   injection hu with hu
   injection hc with hc
   subst hu;subst hc
   exact .tu [] [] rfl fun i u c hu _=>by simp at hu
  ·cases hu
theorem b2x {f:Nat} {fn:Func} {c:Code} {rs q:List R} (hf:Tryz.prog.funcs[f]?=some fn) (hb:fn.body=some c) (hn:(fn.name != "runtime.NumGoroutine")=true) (hc:w8 Tryz.prog c=true) (hr:P3 fn.results.toList=true)
  (h:∀qa qb qc qd qe qg qh qi qj qk ql qm qo qp qq qt qu qv qw qx qy qz va vc vd ve vf vg vh vj vk vl vm vn vo vp vq vr vt vu vv vw vx,Ar.mk qa qb qc qd qe qg qh qi qj qk ql qm qo qp qq qt qu qv qw qx qy qz va vc vd ve vf vg vh vj vk vl vm vn vo vp vq vr vt vu vv vw vx=f7→E1 (Ar.mk qa qb qc qd qe qg qh qi qj qk ql qm qo qp qq qt qu qv qw qx qy qz va vc vd ve vf vg vh vj vk vl vm vn vo vp vq vr vt vu vv vw vx) c (a5h rs (fn.ntmps - F4 rs)) (fun x s=>c3M (Ar.mk qa qb qc qd qe qg qh qi qj qk ql qm qo qp qq qt qu qv qw qx qy qz va vc vd ve vf vg vh vj vk vl vm vn vo vp vq vr vt vu vv vw vx) fn.results.toList q x s)):o9 f rs q:=by
 refine ⟨by unfold a3s;rw [hf];simp only [hn,hb];rfl,?_⟩
 intro I w args hI hat
 have hlen:=hat.len
 refine calls_of_wp hf hb ?_
 have hsz:args.toArray.size=F4 rs:=by rw [L9];simp [hlen]
 rw [hsz]
 refine a8s (I0:=I) (X:=fun _=>False) (w0:=⟨w,fun _=>.nilFunc,0,[]⟩) c _ _ _ _ _ hc ⟨I,_,b3Q hI hat _⟩ (h _ _ _ _ _ _ _ _ _ _ _ _ _ _ _ _ _ _ _ _ _ _ _ _ _ _ _ _ _ _ _ _ _ _ _ _ _ _ _ _ _ _ _ (show Ar.mk f7.wrap f7.add f7.sub f7.mul f7.quo f7.rem f7.bits f7.lt f7.le f7.eq f7.nz f7.seq f7.slt f7.bytes f7.cat f7.fits f7.slen f7.sget f7.ssub f7.txt f7.byt f7.nat f7.len f7.get f7.sub2 f7.app f7.set f7.room f7.mlook f7.mput f7.deq f7.rep f7.call f7.calld f7.callo f7.callx f7.new f7.lit f7.keep f7.next f7.ext f7.reg f7.loop=f7 from rfl)) fun e s' a' w' hrel hk=>?_
 have key:b2w f7 s' fn.results.toList q→a'.defers=[]∧∃v,(results fn a'.tmps).run Tryz.prog w'=.ok v w'∧∃v',Ending.returned v=.returned v'∧a3D (nxt I w w') w' v' q∧Below w.heap.size w w':=fun hk=>by
  obtain ⟨I',g',h'⟩:=hrel
  obtain ⟨v,h1,h2⟩:=a9z h' hr hk
  refine ⟨h'.dfr.1,v,h1,v,rfl,?_,⟨h'.fr.os,h'.fr.tape,h'.fr.output,h'.fr.size,fun b hb=>h'.fr.block b hb (fun hx=>hx)⟩⟩
  have hnx:∀b k,I' b k→nxt I w w' b k:=fun b k hbk=>by
   obtain ⟨h3,h4⟩:=h'.lt b k hbk
   rcases d3M b w.heap.size with hlt|hge
   ·exact .inl ((h4 hlt).resolve_right (fun hx=>hx))
   ·exact .inr ⟨hge,h3⟩
  match q,h2 with
  | [],⟨us,e,hu⟩=>exact ⟨us,e,hu.mono hnx (B7.refl _ _)⟩
  | [r],hu=>exact AtR.mono hnx (B7.refl _ _) hu
  | r::r'::q,⟨us,e,hu⟩=>exact ⟨us,e,hu.mono hnx (B7.refl _ _)⟩
 cases e with
 | normal=>exact key hk
 | exit i=>exact hk.elim
 | ret=>exact key hk
def a53 (a:Ar) (s:S):List ResultVar→(List V→Prop)→Prop
 | [],K=>K []
 | .tmp t::l,K=>a53 a s l (fun vs=>K (v7 s.t t::vs))
 | .cell b t::l,K=>J8 a s.o (fun y=>a53 a s l (fun vs=>K (y::vs))) t (v7 s.t b)
def c3N (a:Ar) (n:Nat) (Q:List V→List O→Prop) (l:List ResultVar):Vm.X→S→Prop
 | .exit _,_=>False
 | .normal,s=>a53 a s l (fun vs=>a.keep n Q vs s)
 | .ret,s=>a53 a s l (fun vs=>a.keep n Q vs s)
def a2D (vs:List V) (os:List O) (n:Nat):S:=⟨a3H vs (uns n),os⟩
theorem b2y (h:RelI I0 X w0 I g s a w):∀ {l:List ResultVar} {K:List V→Prop},P3 l=true→a53 f7 s l K→∃us vs,(l.mapM (b09 a.tmps)).run Tryz.prog w=.ok us w∧m8 I w g us vs∧K vs
 | [],K,_,h=>⟨[],[],rfl,.nil I w g,h⟩
 | .tmp t::l,K,hok,hr=>by
  obtain ⟨us,vs,h1,h2,h3⟩:=b2y h (l:=l) hok hr
  refine ⟨a.eval (.tmp t)::us,v7 s.t t::vs,?_,.cons (h.get (.tmp t)) h2,h3⟩
  rw [d4Y]
  simp only [Sem.run_bind,h1,Result.andThen_ok,b09,Sem.run_pure]
  rfl
 | .cell b t::l,K,hok,hr=>by
  rw [P3,d2Z] at hok
  obtain ⟨v,x,h3,h5,h6⟩:=a7f h hok.1 (h.get (.tmp b)) hr
  obtain ⟨us,vs,h1,h2,h4⟩:=b2y h (l:=l) hok.2 h6
  refine ⟨v::us,x::vs,?_,.cons h5 h2,h4⟩
  have h7:=a4g h3
  rw [d4Y]
  simp only [Sem.run_bind,b09,Sem.run_pure] at h7 ⊢
  have h8:((asAddr (a.tmps.getD b undef)).run Tryz.prog w).andThen (fun a w'=>(loadVar t a).run Tryz.prog w')=.ok v w:=h7
  rw [h8,Result.andThen_ok,h1]
  rfl
theorem a21 (h:RelI I0 X w0 I g s a w) {fn:Func} {K:List V→Prop} (hok:P3 fn.results.toList=true) (hr:a53 f7 s fn.results.toList K):∃us vs,(results fn a.tmps).run Tryz.prog w=.ok (pkg us) w∧m8 I w g us vs∧K vs:=by
 obtain ⟨us,vs,h1,h2,h3⟩:=b2y h hok hr
 refine ⟨us,vs,?_,h2,h3⟩
 have h4:(fn.results.mapM (b09 a.tmps)).run Tryz.prog w=.ok us.toArray w:=by
  rw [Array.mapM_eq_mapM_toList]
  simp [h1]
 have h5:results fn a.tmps=(do let vs ←fn.results.mapM (b09 a.tmps);pure (if h:vs.size=1 then vs[0] else .tuple vs)):=by
  unfold results
  congr 1
 rw [h5,Sem.run_bind,h4]
 match us with
 | []=>rfl
 | [u]=>rfl
 | u::u'::us =>
  show Result.ok _ w=_
  rw [dif_neg (by simp)]
  rfl
theorem a90 {f:Nat} {fn:Func} {c:Code} {vs:List V} {os:List O} {Q:List V→List O→Prop} (hf:Tryz.prog.funcs[f]?=some fn) (hb:fn.body=some c) (hn:(fn.name != "runtime.NumGoroutine")=true) (hc:w8 Tryz.prog c=true) (hr:P3 fn.results.toList=true)
  (h:∀qa qb qc qd qe qg qh qi qj qk ql qm qo qp qq qt qu qv qw qx qy qz va vc vd ve vf vg vh vj vk vl vm vn vo vp vq vr vt vu vv vw vx,Ar.mk qa qb qc qd qe qg qh qi qj qk ql qm qo qp qq qt qu qv qw qx qy qz va vc vd ve vf vg vh vj vk vl vm vn vo vp vq vr vt vu vv vw vx=f7→E1 (Ar.mk qa qb qc qd qe qg qh qi qj qk ql qm qo qp qq qt qu qv qw qx qy qz va vc vd ve vf vg vh vj vk vl vm vn vo vp vq vr vt vu vv vw vx) c (a2D vs os (fn.ntmps - F4 vs)) (fun x s=>c3N (Ar.mk qa qb qc qd qe qg qh qi qj qk ql qm qo qp qq qt qu qv qw qx qy qz va vc vd ve vf vg vh vj vk vl vm vn vo vp vq vr vt vu vv vw vx) (r8 os) Q fn.results.toList x s)):v8 f vs os Q:=by
 refine ⟨by unfold a3s;rw [hf];simp only [hn,hb];rfl,?_⟩
 intro I w g args hrel
 have hv:m8 I w g args vs:=hrel.tmp
 refine calls_of_wp hf hb ?_
 have hsz:args.toArray.size=F4 vs:=by rw [L9];simp [hv.1]
 rw [hsz]
 have hstart:RelI I (Xof g os) ⟨w,g,os.length,[]⟩ I g (a2D vs os (fn.ntmps - F4 vs)) { tmps:=args.toArray++Array.replicate (fn.ntmps - F4 vs) undef,defers:=[] } w:=by
  refine ⟨hrel.im,hrel.lt,hrel.fr,hrel.kp,hrel.lo,hrel.st,hrel.obj,hrel.dis,hrel.out,?_,rfl,hrel.dfr.2⟩
  show m8 I w _ (args.toArray++Array.replicate (fn.ntmps - F4 vs) undef).toList (a3H vs (uns (fn.ntmps - F4 vs)))
  rw [a1i,d45,a7p]
  refine hv.append ?_
  rw [d40]
  refine ⟨by simp,fun i u c hu hc=>?_⟩
  rw [d4i] at hu hc
  split at hu
  ·rename_i hi
   rw [d2S hi] at hc
   injection hu with hu
   injection hc with hc
   subst hu;subst hc
   exact .tu [] [] rfl fun i u c hu _=>by simp at hu
  ·cases hu
 refine a8s (I0:=I) (X:=Xof g os) (w0:=⟨w,g,os.length,[]⟩) c _ _ _ _ _ hc ⟨I,_,hstart⟩ (h _ _ _ _ _ _ _ _ _ _ _ _ _ _ _ _ _ _ _ _ _ _ _ _ _ _ _ _ _ _ _ _ _ _ _ _ _ _ _ _ _ _ _ (show Ar.mk f7.wrap f7.add f7.sub f7.mul f7.quo f7.rem f7.bits f7.lt f7.le f7.eq f7.nz f7.seq f7.slt f7.bytes f7.cat f7.fits f7.slen f7.sget f7.ssub f7.txt f7.byt f7.nat f7.len f7.get f7.sub2 f7.app f7.set f7.room f7.mlook f7.mput f7.deq f7.rep f7.call f7.calld f7.callo f7.callx f7.new f7.lit f7.keep f7.next f7.ext f7.reg f7.loop=f7 from rfl)) fun e s' a' w' hrel2 hk=>?_
 have key:a53 f7 s' fn.results.toList (fun vs=>f7.keep (r8 os) Q vs s')→a'.defers=[]∧∃v,(results fn a'.tmps).run Tryz.prog w'=.ok v w'∧∃us res os2 I' g',Ending.returned v=.returned (pkg us)∧Q res os2∧RelI I (Xof g os) ⟨w,g,os.length,[]⟩ I' g' ⟨res,os2⟩ { tmps:=us.toArray,defers:=[] } w':=fun hk=>by
  obtain ⟨I',g',h'⟩:=hrel2
  obtain ⟨us,vs',h1,h2,ks,res',os',hko,hQ⟩:=a21 h' hr hk
  rw [y5] at hko
  exact ⟨h'.dfr.1,_,h1,us,res',os',I',_,rfl,hQ,b69 h' rfl hko h2⟩
 cases e with
 | normal=>exact key hk
 | exit i=>exact hk.elim
 | ret=>exact key hk
end
/-! A call whose body is walked in place. -/
section
variable {I0:Nat→Nat→Prop} {X:Nat→Prop} {w0:W0} {I:Nat→Nat→Prop} {g:Nat→Value} {s:S} {a:Act} {w:World}
def a30 (vs:List V) (o:List O) (n:Nat):S:=⟨a3H vs (uns n),A1 o (.kl [])⟩
def a5i:Nat→List O→List O
 | 0,_=>[]
 | _+1,[]=>[]
 | n+1,x::l=>x::a5i n l
theorem a6s:∀(n:Nat) (l:List O),a5i n l=l.take n
 | 0,l=>by simp [a5i]
 | n+1,[]=>by simp [a5i]
 | n+1,x::l=>by simp [a5i,a6s n l]
def c3O (n:Nat):V→Bool
 | .tu vs=>b06 n vs
 | x=>c6j n x
theorem b6R {I:Nat→Nat→Prop} {w:World} {g g':Nat→Value} {n:Nat} (hg:∀k,k<n→g' k=g k) {v:Value} {x:V} (h:AtV I w g v x) (hl:c3O n x=true):AtV I w g' v x:=by
 unfold c3O at hl
 split at hl
 ·obtain ⟨us,rfl,h2⟩:=h.untu
  exact a27 (a8q hg h2 hl)
 ·exact b6I hg h hl
def c0T (n:Nat) (x:V) (o:List O):List O:=match c3O n x with
 | true=>match a2U n (a5i n o) with|true=>a5i n o|false=>J5 o n .dead
 | false=>J5 o n .dead
def b6S (n:Nat) (K:V→List O→List Nat→Prop) (res:List V) (s:S):Prop:=match A9 s.o n with
 | .kl ks=>K (a0K res) (c0T n (a0K res) s.o) ks
 | _=>False
def c3P (a:Ar) (n:Nat) (K:V→List O→List Nat→Prop) (l:List ResultVar):Vm.X→S→Prop
 | .exit _,_=>False
 | .normal,s=>a53 a s l (fun vs=>b6S n K vs s)
 | .ret,s=>a53 a s l (fun vs=>b6S n K vs s)
theorem b6T {g:Nat→Value} {vs:List V} {us:List Value} (h:m8 I w g us vs):AtV I w g (pkg us) (a0K vs):=c0s h
theorem RelI.rebase (h:RelI I0 X w0 I g s a w) {us:List Value} {vs:List V} (hv:m8 I w g us vs):∃g',(∀k,k<s.o.length→g' k=g k)∧g' s.o.length=.agg ((List.range s.o.length).map g).toArray ∧
  RelI I (Xof g' (A1 s.o (.kl []))) ⟨w,g',s.o.length+1,[]⟩ I g' ⟨vs,A1 s.o (.kl [])⟩ { tmps:=us.toArray,defers:=[] } w:=by
 obtain ⟨ghost,hgh⟩:∃v:Value,v=.agg ((List.range s.o.length).map g).toArray:=⟨_,rfl⟩
 have h1:=h.newObj (.kl []) ghost ⟨((List.range s.o.length).map g).toArray,by rw [r9,hgh],by simp,fun j u hu=>.inr (.inl (by
  have hj:j<s.o.length:=by have:=(d3i.1 hu).1;simpa using this
  rw [C3 (by omega)]
  simp only [d4A,d3u,List.getElem?_range hj,d4b,Option.some.injEq] at hu
  exact hu))⟩ (fun j b _ _=>by rw [hgh];exact fun h=>h)
 have hg:∀k,k<s.o.length→upd g s.o.length ghost k=g k:=fun k hk=>C3 (by omega)
 have hlen:(s.obj (.kl [])).o.length=s.o.length+1:=by show (A1 s.o _).length=_;rw [a1u];simp
 refine ⟨upd g s.o.length ghost,hg,by rw [r9,hgh],fun _ _ h=>h,fun b k hb=>⟨(h.lt b k hb).1,fun _=>.inl hb⟩,Fr.refl _ _,B7.refl _ _,by rw [a1u];simp,fun _ _ _=>rfl,fun k o ho=>?_,h1.dis,h1.out,hv.more (h.fresh _),rfl,h.tabs fun b ⟨k,o,ho,hd,hg⟩=>((h1.obj k o ho).blk hd b hg).2⟩
 have hob:=h1.obj k o ho
 have hX:∀b,gbl (upd g s.o.length ghost k) b→o≠.dead→a3p (Xof (upd g s.o.length ghost) (A1 s.o (.kl []))) ⟨w,upd g s.o.length ghost,s.o.length+1,[]⟩ b:=fun b hb hd=>.inr ⟨k,o,ho,hd,hb⟩
 cases o with
 | dead=>exact True.intro
 | box cs =>
  obtain ⟨b,us,t,e1,e2,e3,e4,e5,e6⟩:=hob
  exact ⟨b,us,t,e1,e2,e3,e4,e5,hX b (by rw [e1];rfl) (by simp)⟩
 | row z e rows =>
  obtain ⟨us,e1,e2,e3,e4⟩:=hob
  exact ⟨us,e1,e2,e3,fun b hb=>⟨(e4 b hb).1,(e4 b hb).2.1,hX b ((a2S e1).2 hb) (by simp)⟩⟩
 | mp kt es =>
  obtain ⟨b,l,c,e1,e2,e3,e4,e5⟩:=hob
  exact ⟨b,l,c,e1,e2,e3,e4,hX b (by rw [e1];rfl) (by simp)⟩
 | ob T vs =>
  obtain ⟨b,e1,e2,e4,e5⟩:=hob
  exact ⟨b,e1,e2,e4,hX b (by rw [e1];rfl) (by simp)⟩
 | it P =>
  obtain ⟨A,n,cap,F,e1,e2,e3,e4⟩:=hob
  exact ⟨A,n,cap,F,e1,e2,e3,fun b hb=>⟨(e4 b hb).1,(e4 b hb).2.1,hX b (by rw [e1,a2P];exact hb) (by simp)⟩⟩
 | kl ks=>exact hob
theorem RelI.unbase (h:RelI I0 X w0 I g s a w) {g':Nat→Value} {os2:List O} {t2:List V} {a2:Act} {w':World} {I2:Nat→Nat→Prop} {g2:Nat→Value} {ks:List Nat} (hg:∀k,k<s.o.length→g' k=g k) (hgn:g' s.o.length=.agg ((List.range s.o.length).map g).toArray)
  (h2:RelI I (Xof g' (A1 s.o (.kl []))) ⟨w,g',s.o.length+1,[]⟩ I2 g2 ⟨t2,os2⟩ a2 w') (hk:os2[s.o.length]?=some (.kl ks)):m8 I2 w' (a6h s.o.length g2) a.tmps.toList (C0 ks s.t)∧RelI I0 X w0 I2 g2 ⟨C0 ks s.t,os2.set s.o.length .dead⟩ a w':=by
 have hlo:s.o.length+1≤os2.length:=h2.lo
 have hX:∀b,Xof g' (A1 s.o (.kl [])) b→b<w.heap.size∧a3p X w0 b:=fun b ⟨k,o,ho,hd,hb⟩=>by
  rw [a1u] at ho
  rcases d3M k s.o.length with hlt|hge
  ·rw [d3n hlt] at ho
   rw [hg k hlt] at hb
   exact (h.obj k o ho).blk hd b hb
  ·have hlt:=(d2Q.1 ho).1
   rw [d2R,d4e] at hlt
   have:k=s.o.length:=by omega
   subst this
   rw [hgn] at hb
   exact hb.elim
 have hM:∀b,a3p (Xof g' (A1 s.o (.kl []))) ⟨w,g',s.o.length+1,[]⟩ b→a3p X w0 b:=fun b hb=>by
  rcases hb with hb|hb
  ·exact .inl (d4q h.fr.size hb)
  ·exact (hX b hb).2
 have hst:∀k,k<s.o.length→a0p (g k)=true→g2 k=g k:=fun k hk hr=>by
  rw [←hg k hk] at hr ⊢
  exact h2.st k (Nat.lt_succ_of_lt hk) hr
 have hkl:∀k,k<s.o.length→k∉ks→g2 k=g k∨g k=.nilFunc:=fun k hk0 hks=>by
  obtain ⟨us,e1,e2,e3⟩:=h2.obj _ _ hk
  have e4:=h2.st s.o.length (Nat.lt_succ_self _) (by show a0p (g' s.o.length)=true;rw [hgn];rfl)
  have e5:g2 s.o.length=g' s.o.length:=e4
  rw [e5,hgn] at e1
  have e1:=Value.agg.inj e1
  have hu:us[k]?=some (g k):=by rw [←e1];simp [hk0]
  rcases e3 k _ hu with e6|e6|e6
  ·exact .inr e6
  ·exact .inl e6
  ·exact absurd e6 hks
 have hget:∀(k:Nat) (o:O),(os2.set s.o.length O.dead)[k]?=some o→o=O.dead∨os2[k]?=some o:=fun k o ho=>by
  by_cases e:s.o.length=k
  ·subst e
   rw [d30 (by omega)] at ho
   exact .inl (Option.some.inj ho).symm
  ·rw [d3p e] at ho
   exact .inr ho
 have hlv:∀k,Q9 ⟨C0 ks s.t,os2.set s.o.length .dead⟩ k→Q9 ⟨t2,os2⟩ k:=fun k ⟨o,ho,hd⟩=>⟨o,(hget k o ho).resolve_left hd,hd⟩
 have hcut:m8 I2 w' (a6h s.o.length g2) a.tmps.toList (C0 ks s.t):=by
  classical
  have h3:m8 I w (fun k=>if k<s.o.length then g2 k else g k) a.tmps.toList (C0 ks s.t):=by
   refine a7c ks (fun k=>if g k=.nilFunc∧k<s.o.length then g2 k else g k) (fun j hj=>?_) (fun j hr=>?_) (h.tmp.more fun k hk=>?_)
   ·by_cases hlt:j<s.o.length
    ·rw [d2S hlt]
     rcases hkl j hlt hj with e|e
     ·by_cases e':g j=.nilFunc
      ·rw [d2S ⟨e',hlt⟩]
      ·rw [d2T (fun h=>e' h.1)];exact e
     ·rw [d2S ⟨e,hlt⟩]
    ·rw [d2T hlt,d2T (fun h=>hlt h.2)]
   ·by_cases hlt:j<s.o.length
    ·rw [d2S hlt]
     by_cases e':g j=.nilFunc
     ·rw [d2S ⟨e',hlt⟩]
     ·rw [d2T (fun h=>e' h.1)] at hr ⊢
      exact hst j hlt hr
    ·rw [d2T hlt,d2T (fun h=>hlt h.2)]
   ·rw [d2T (fun h=>hk h.1)]
  refine (h3.more fun k hk=>?_).mono (fun b k hb=>h2.im b k hb) h2.kp
  unfold a6h
  by_cases hc:k<s.o.length
  ·rw [d2S hc,d2S hc]
  ·rw [d2T hc] at hk
   exact absurd (h.out k (by omega)) hk
 refine ⟨hcut,?_⟩
 refine ⟨fun b k hb=>h2.im b k (h.im b k hb),fun b k hb=>⟨(h2.lt b k hb).1,fun hlt=>?_⟩,⟨h2.fr.os.trans h.fr.os,h2.fr.tape.trans h.fr.tape,h2.fr.output.trans h.fr.output,d4q h.fr.size h2.fr.size,fun b hb hx=>?_⟩,h.kp.trans fun b k hb i hi=>h2.kp b k (h.im b k hb) i hi,?_,fun k hk' hr=>?_,fun k o ho=>?_,fun j k b hj hk'=>h2.dis j k b (hlv j hj) (hlv k hk'),fun k hk'=>?_,?_,h.dfr⟩
 ·rcases (h2.lt b k hb).2 (d3R hlt h.fr.size) with h3|h3
  ·exact (h.lt b k h3).2 hlt
  ·rcases (hX b h3).2 with h4|h4
   ·omega
   ·exact .inr h4
 ·refine (h2.fr.block b (d3R hb h.fr.size) fun hx'=>?_).trans (h.fr.block b hb hx)
  rcases (hX b hx').2 with h4|h4
  ·omega
  ·exact hx h4
 ·show w0.n≤(os2.set s.o.length .dead).length
  have:=h.lo
  rw [d3s]
  omega
 ·have e:=h.st k hk' hr
  have hlt:k<s.o.length:=d3R hk' h.lo
  rw [←e] at hr ⊢
  exact hst k hlt hr
 ·rcases hget k o ho with rfl|ho
  ·exact True.intro
  have hob:=h2.obj k o ho
  cases o with
  | dead=>exact True.intro
  | box cs =>
   obtain ⟨b,us,t,e1,e2,e3,e4,e5,e6⟩:=hob
   exact ⟨b,us,t,e1,e2,e3,e4,e5,hM b e6⟩
  | row z e rows =>
   obtain ⟨us,e1,e2,e3,e4⟩:=hob
   exact ⟨us,e1,e2,e3,fun b hb=>⟨(e4 b hb).1,(e4 b hb).2.1,hM b (e4 b hb).2.2⟩⟩
  | mp kt es =>
   obtain ⟨b,l,c,e1,e2,e3,e4,e5⟩:=hob
   exact ⟨b,l,c,e1,e2,e3,e4,hM b e5⟩
  | ob T vs =>
   obtain ⟨b,e1,e2,e4,e5⟩:=hob
   exact ⟨b,e1,e2,e4,hM b e5⟩
  | it P =>
   obtain ⟨A,n,cap,F,e1,e2,e3,e4⟩:=hob
   exact ⟨A,n,cap,F,e1,e2,e3,fun b hb=>⟨(e4 b hb).1,(e4 b hb).2.1,hM b (e4 b hb).2.2⟩⟩
  | kl js=>exact hob
 ·have hk':(os2.set s.o.length .dead).length≤k:=hk'
  rw [d3s] at hk'
  exact h2.out k hk'
 ·exact (hcut.more fun k hk=>by unfold a6h at hk ⊢;split at hk <;> first|rw [d2S (by assumption)]|exact absurd rfl hk)
theorem RelI.trim (h:RelI I0 X w0 I g s a w) {n:Nat} (hn:w0.n≤n) (hnl:n≤s.o.length) (h1:m8 I w (a6h n g) a.tmps.toList s.t) (h2:a2U n (s.o.take n)=true):RelI I0 X w0 I (a6h n g) ⟨s.t,s.o.take n⟩ a w:=by
 have hl:(s.o.take n).length=n:=by simp;omega
 have hg:∀k,k<n→a6h n g k=g k:=fun k hk=>d2S hk
 have hget:∀k o,(s.o.take n)[k]?=some o→k<n∧s.o[k]?=some o:=fun k o ho=>by
  rw [d32] at ho
  split at ho
  ·exact ⟨by assumption,ho⟩
  ·cases ho
 have hlv:∀k,Q9 ⟨s.t,s.o.take n⟩ k→k<n∧Q9 s k:=fun k ⟨o,ho,hd⟩=>⟨(hget k o ho).1,o,(hget k o ho).2,hd⟩
 refine ⟨h.im,h.lt,h.fr,h.kp,by show w0.n≤(s.o.take n).length;omega,fun k hk hr=>(hg k (by omega)).trans (h.st k hk hr),fun k o ho=>?_,fun j k b hj hk hbj hbk=>?_,fun k hk=>d2T (by have hk:(s.o.take n).length≤k:=hk;omega),h1,h.dfr⟩
 ·obtain ⟨hk,hso⟩:=hget k o ho
  have hob:=h.obj k o hso
  cases o with
  | dead=>exact True.intro
  | box cs =>
   obtain ⟨b,us,t,e1,e2,e3,e4⟩:=hob
   exact ⟨b,us,t,(hg k hk).trans e1,e2,a8p hg e3 (a5W h2 ho),e4⟩
  | row z e rows =>
   obtain ⟨us,e1,e2,e3,e4⟩:=hob
   exact ⟨us,by rw [hg k hk];exact e1,e2,e3,by rw [hg k hk];exact e4⟩
  | mp kt es =>
   obtain ⟨b,l,c,e1,e2⟩:=hob
   exact ⟨b,l,c,(hg k hk).trans e1,e2⟩
  | ob T vs =>
   obtain ⟨b,e1,e2⟩:=hob
   exact ⟨b,(hg k hk).trans e1,e2⟩
  | it P =>
   obtain ⟨A,n',cap,F,e1,e2⟩:=hob
   exact ⟨A,n',cap,F,(hg k hk).trans e1,e2⟩
  | kl ks =>
   obtain ⟨us,e1,e2,e3⟩:=hob
   refine ⟨us,(hg k hk).trans e1,e2,fun j u hu=>?_⟩
   have hj:=(d3i.1 hu).1
   rcases e3 j u hu with e4|e4|e4
   ·exact .inl e4
   ·exact .inr (.inl ((hg j (by omega)).trans e4))
   ·exact .inr (.inr e4)
 ·obtain ⟨hj1,hj2⟩:=hlv j hj
  obtain ⟨hk1,hk2⟩:=hlv k hk
  rw [hg j hj1] at hbj
  rw [hg k hk1] at hbk
  exact h.dis j k b hj2 hk2 hbj hbk
theorem c0U {f:Nat} {fn:Func} {c:Code} {vs:List V} {o:List O} {K:V→List O→List Nat→Prop} (hf:Tryz.prog.funcs[f]?=some fn) (hb:fn.body=some c) (hn:(fn.name != "runtime.NumGoroutine")=true) (hc:w8 Tryz.prog c=true) (hr:P3 fn.results.toList=true)
  (h:E1 f7 c (a30 vs o (fn.ntmps - F4 vs)) (fun x s=>c3P f7 (r8 o) K fn.results.toList x s)):U9 f vs o K:=by
 refine ⟨by unfold a3s;rw [hf];simp only [hn,hb];rfl,?_⟩
 intro I0 X w0 I g t a w us hrel hv
 refine calls_of_wp hf hb ?_
 have hsz:us.toArray.size=F4 vs:=by rw [L9];simp [hv.1]
 rw [hsz]
 obtain ⟨g',hg,hgn,h1⟩:=hrel.rebase hv
 have hstart:RelI I (Xof g' (A1 o (.kl []))) ⟨w,g',o.length+1,[]⟩ I g' (a30 vs o (fn.ntmps - F4 vs)) { tmps:=us.toArray++Array.replicate (fn.ntmps - F4 vs) undef,defers:=[] } w:=by
  refine ⟨h1.im,h1.lt,h1.fr,h1.kp,h1.lo,h1.st,h1.obj,h1.dis,h1.out,?_,rfl,h1.dfr.2⟩
  show m8 I w _ (us.toArray++Array.replicate (fn.ntmps - F4 vs) undef).toList (a3H vs (uns (fn.ntmps - F4 vs)))
  rw [a1i,d45,a7p]
  refine m8.append h1.tmp ?_
  rw [d40]
  refine ⟨by simp,fun i u c hu hc=>?_⟩
  rw [d4i] at hu hc
  split at hu
  ·rename_i hi
   rw [d2S hi] at hc
   injection hu with hu
   injection hc with hc
   subst hu;subst hc
   exact .tu [] [] rfl fun i u c hu _=>by simp at hu
  ·cases hu
 refine a8s c _ _ _ _ _ hc ⟨I,_,hstart⟩ h fun e s' a' w' hrel2 hk=>?_
 have key:a53 f7 s' fn.results.toList (fun vs=>b6S (r8 o) K vs s')→a'.defers=[]∧∃v,(results fn a'.tmps).run Tryz.prog w'=.ok v w'∧∃v' x o' ks I' g',Ending.returned v=.returned v'∧RelI I0 X w0 I' g' ⟨C0 ks t,o'⟩ a w'∧AtV I' w' g' v' x∧K x o' ks:=fun hk=>by
  obtain ⟨I2,g2,h2⟩:=hrel2
  obtain ⟨us2,res,r1,r2,r3⟩:=a21 h2 hr hk
  unfold b6S at r3
  split at r3 <;> try exact r3.elim
  rename_i ks hks
  have hks':=B4 hks (by simp)
  rw [y5] at hks' r3
  obtain ⟨hcut,h3⟩:=hrel.unbase hg hgn h2 hks'
  have hlo:o.length+1≤s'.o.length:=h2.lo
  have hx:=b6T r2
  refine ⟨h2.dfr.1,_,r1,pkg us2,a0K res,c0T o.length (a0K res) s'.o,ks,I2,?_⟩
  unfold c0T at r3 ⊢
  split
  ·rename_i hl2
   rw [hl2] at r3
   simp only at r3
   split
   ·rename_i hlo2
    rw [hlo2] at r3
    simp only at r3
    rw [a6s] at hlo2 r3 ⊢
    have e:(s'.o.set o.length .dead).take o.length=s'.o.take o.length:=by
     rw [d4N (d3b _)]
    have h4:=h3.trim (n:=o.length) hrel.lo (by show o.length≤(s'.o.set _ _).length;rw [d3s];omega) hcut (by show a2U _ ((s'.o.set _ _).take _)=true;rw [e];exact hlo2)
    refine ⟨a6h o.length g2,rfl,?_,b6R (fun k hk=>d2S hk) hx hl2,r3⟩
    have h5:(⟨C0 ks t,(s'.o.set o.length .dead).take o.length⟩:S)=⟨C0 ks t,s'.o.take o.length⟩:=by rw [e]
    rw [←h5]
    exact h4
   ·rename_i hlo2
    rw [hlo2] at r3
    simp only at r3
    rw [H4] at r3 ⊢
    exact ⟨g2,rfl,h3,hx,r3⟩
  ·rename_i hl2
   rw [hl2] at r3
   simp only at r3
   rw [H4] at r3 ⊢
   exact ⟨g2,rfl,h3,hx,r3⟩
 cases e with
 | normal=>exact key hk
 | exit i=>exact hk.elim
 | ret=>exact key hk
theorem b6U {n:Nat} (hout:∀k,n≤k→g k=.nilFunc):∀ {cs:List V} {us:List Value},m8 I w g us cs→(∀u∈us,u.oneCell'=true)→a8J n cs=true
 | [],us,h,_=>rfl
 | c::cs,us,h,h1=>by
  obtain ⟨u,us',rfl,h2,h3⟩:=h.uncons
  have hlt:∀k,g k≠.nilFunc→Nat.blt k n=true:=fun k hk=>by
   rw [d3Z]
   rcases d3M k n with h4|h4
   ·exact h4
   ·exact absurd (hout k h4) hk
  have hc:a3I n c=true:=by
   have hu:=h1 u (d2V ..)
   cases h2 with
   | d hh=>rfl
   | ag=>cases hu
   | tu=>cases hu
   | em=>rfl
   | own k A m cap hh=>exact hlt k (by intro e;rw [e] at hh;cases hh)
   | ptr k off b hh=>exact hlt k (by rw [hh];simp)
   | cl f us ks hl hh =>
    rw [a3I]
    have key:∀(ks:List Nat),(∀k∈ks,g k≠.nilFunc)→b8j n ks=true:=by
     intro ks
     induction ks with
     | nil=>intro _;rfl
     | cons k ks ih =>
      intro h
      rw [b8j,hlt k (h k (d2V ..))]
      exact ih fun k hk=>h k (d2W _ hk)
    refine key ks fun k hk=>?_
    obtain ⟨i,hi⟩:=d39.1 hk
    have hlt':i<us.length:=by rw [hl];exact (d2Q.1 hi).1
    obtain ⟨_,b,hb⟩:=hh i _ k (d2P hlt') hi
    rw [hb];simp
   | el k i sz off b m cap hh=>exact hlt k (by rw [hh];simp)
   | ro b o off us cs hi hc hd=>rfl
   | mp k b hh=>exact hlt k (by rw [hh];simp)
   | bs k n' b cap hh hn=>exact hlt k (by rw [hh];simp)
   | jk v=>rfl
  rw [a8J,hc]
  exact b6U hout h3 fun u hu=>h1 u (d2W _ hu)
theorem RelI.low (h:RelI I0 X w0 I g s a w):a2U s.o.length s.o=true:=by
 have key:∀l:List O,(∀o∈l,∀cs,o=.box cs→a8J s.o.length cs=true)→a2U s.o.length l=true:=by
  intro l
  induction l with
  | nil=>intro _;rfl
  | cons o l ih =>
   intro h
   have h2:=ih fun o ho=>h o (d2W _ ho)
   cases o with
   | box cs=>rw [a2U,h _ (d2V ..) cs rfl];exact h2
   | _=>exact h2
 refine key s.o fun o ho cs e=>?_
 subst e
 obtain ⟨k,hk⟩:=d39.1 ho
 obtain ⟨b,us,t,h1,h2,h3,h4,_⟩:=h.obj k _ hk
 exact b6U h.out h3 h4
def a91 (p:Nat):List Nat→List Nat
 | []=>[]
 | k::l=>match Nat.ble p k with|true=>a91 p l|false=>k::a91 p l
def c0V (p:Nat):O→O
 | .kl ks=>.kl (a91 p ks)
 | x=>x
def a2i:Nat→List O→List O
 | _,[]=>[]
 | p,x::l=>c0V p x::a2i (p+1) l
theorem a54 {p:Nat}:∀ {l:List Nat} {k:Nat},k∈l→k<p→k∈a91 p l
 | [],k,h,_=>by simp at h
 | j::l,k,h,hp=>by
  rw [a91]
  split
  ·rename_i hj
   rcases d3d.1 h with rfl|h
   ·have:=d4f hj;omega
   ·exact a54 h hp
  ·rcases d3d.1 h with rfl|h
   ·exact d2V ..
   ·exact d2W _ (a54 h hp)
theorem a7q:∀(l:List O) (p i:Nat),(a2i p l)[i]?=(l[i]?).map (c0V (p+i))
 | [],p,i=>by simp [a2i]
 | x::l,p,0=>by simp [a2i]
 | x::l,p,i+1=>by rw [a2i];simp only [d46];rw [a7q l (p+1) i];congr 2;omega
theorem a7r (p:Nat) (l:List O):(a2i p l).length=l.length:=by
 induction l generalizing p with
 | nil=>rfl
 | cons x l ih=>rw [a2i,d2X,ih,d2X]
theorem b5A {p:Nat} {o:O} (h:c0V p o≠.dead):o≠.dead:=by rintro rfl;exact h rfl
theorem RelI.trimKl (h:RelI I0 X w0 I g s a w):RelI I0 X w0 I g ⟨s.t,a2i 0 s.o⟩ a w:=by
 have hlv:∀k,Q9 ⟨s.t,a2i 0 s.o⟩ k→Q9 s k:=fun k ⟨o,ho,hd⟩=>by
  simp only [a7q,d3V] at ho
  obtain ⟨o',ho',rfl⟩:=ho
  exact ⟨o',ho',b5A hd⟩
 refine ⟨h.im,h.lt,h.fr,h.kp,by rw [a7r];exact h.lo,h.st,fun j o hj=>?_,fun i j b hi hj=>h.dis i j b (hlv i hi) (hlv j hj),fun j hj=>h.out j (by rw [a7r] at hj;exact hj),h.tmp,h.dfr⟩
 simp only [a7q,d3V,d3P] at hj
 obtain ⟨o',ho',rfl⟩:=hj
 have hob:=h.obj j o' ho'
 cases o' with
 | kl ks =>
  obtain ⟨us,e1,e2,e3⟩:=hob
  refine ⟨us,e1,e2,fun i u hu=>?_⟩
  rcases e3 i u hu with e4|e4|e4
  ·exact .inl e4
  ·exact .inr (.inl e4)
  ·have:=(d3i.1 hu).1
   exact .inr (.inr (a54 e4 (by omega)))
 | _=>exact hob
end
def a7s (i:Nat):List V→Bool
 | []=>false
 | .own k::l=>match U7 k i with|true=>true|false=>a7s i l
 | _::l=>a7s i l
def b6V:Nat→List V→Bool
 | 0,_=>true
 | n+1,vs=>match a7s n vs with|true=>b6V n vs|false=>false
theorem b1i {i:Nat}:∀ {l:List V},a7s i l=true→∃p:Nat,l[p]?=some (V.own i)
 | [],h=>by cases h
 | x::l,h=>by
  have G4:a7s i l=true→∃p:Nat,(x::l)[p]?=some (V.own i):=fun h=>by
   obtain ⟨p,hp⟩:=b1i h
   exact ⟨p+1,by simpa using hp⟩
  unfold a7s at h
  split at h
  ·cases ‹_=[]›
  ·rename_i k l' e
   injection e with e1 e2
   subst e1;subst e2
   split at h
   ·rename_i hk
    rw [F5] at hk
    subst hk
    exact ⟨0,rfl⟩
   ·exact G4 h
  ·rename_i e
   injection e with e1 e2
   subst e2
   exact G4 h
theorem b3R:∀ {n:Nat} {vs:List V},b6V n vs=true→∀i,i<n→∃p:Nat,vs[p]?=some (V.own i)
 | 0,_,_,i,hi=>absurd hi (d5n _)
 | n+1,vs,h,i,hi=>by
  rw [b6V] at h
  split at h
  ·rename_i h1
   by_cases e:i=n
   ·subst e;exact b1i h1
   ·exact b3R h i (by omega)
  ·cases h
theorem c5B {I:Nat→Nat→Prop} {w:World} {g:Nat→Value}:∀ {res:List V} {v:Value},AtV I w g v (a0K res)→∃us,v=pkg us∧m8 I w g us res
 | [],v,h=>by
  obtain ⟨us,rfl,h2⟩:=AtV.untu h
  exact ⟨us,by rw [h2.unnil];rfl,h2⟩
 | [r],v,h=>⟨[v],rfl,.cons h (.nil I w g)⟩
 | r::r'::res,v,h=>by
  obtain ⟨us,rfl,h2⟩:=AtV.untu h
  obtain ⟨u,us',rfl,_,h4⟩:=h2.uncons
  obtain ⟨u',us'',rfl,_,_⟩:=h4.uncons
  exact ⟨_,rfl,h2⟩
def c3Q:Nat→List O→Bool
 | 0,_=>true
 | n+1,.row _ _ _::l=>c3Q n l
 | _,_=>false
theorem b2z:∀ {n:Nat} {l:List O},c3Q n l=true→∀i,i<n→∃z e r,l[i]?=some (O.row z e r)
 | 0,_,_,i,hi=>absurd hi (d5n _)
 | n+1,[],h,_,_=>by cases h
 | n+1,o::l,h,i,hi=>by
  cases o with
  | row z e r =>
   cases i with
   | zero=>exact ⟨z,e,r,rfl⟩
   | succ i=>exact b2z (n:=n) (l:=l) h i (by omega)
  | _=>cases h
theorem a10 {f:Nat} {fn:Func} {c:Code} {vs:List V} {os:List O} {Q:List V→List O→Prop} (hf:Tryz.prog.funcs[f]?=some fn) (hb:fn.body=some c) (hn:(fn.name != "runtime.NumGoroutine")=true) (hc:w8 Tryz.prog c=true) (hr:P3 fn.results.toList=true) (hs:b6V (r8 os) vs=true) (hos:c3Q (r8 os) os=true) (hq:∀res o',Q res o'→c3Q (r8 os) o'=true)
  (h:∀qa qb qc qd qe qg qh qi qj qk ql qm qo qp qq qt qu qv qw qx qy qz va vc vd ve vf vg vh vj vk vl vm vn vo vp vq vr vt vu vv vw vx,Ar.mk qa qb qc qd qe qg qh qi qj qk ql qm qo qp qq qt qu qv qw qx qy qz va vc vd ve vf vg vh vj vk vl vm vn vo vp vq vr vt vu vv vw vx=f7→∀K:V→List O→List Nat→Prop,(∀res o',Q res o'→K (a0K res) o' [])→E1 (Ar.mk qa qb qc qd qe qg qh qi qj qk ql qm qo qp qq qt qu qv qw qx qy qz va vc vd ve vf vg vh vj vk vl vm vn vo vp vq vr vt vu vv vw vx) c (a30 vs os (fn.ntmps - F4 vs)) (fun x s=>c3P (Ar.mk qa qb qc qd qe qg qh qi qj qk ql qm qo qp qq qt qu qv qw qx qy qz va vc vd ve vf vg vh vj vk vl vm vn vo vp vq vr vt vu vv vw vx) (r8 os) K fn.results.toList x s)):B0 f vs os Q:=by
 have h0:=c0U (K:=fun x o' ks=>ks=[]∧∃res,x=a0K res∧Q res o') (vs:=vs) (o:=os) hf hb hn hc hr (h _ _ _ _ _ _ _ _ _ _ _ _ _ _ _ _ _ _ _ _ _ _ _ _ _ _ _ _ _ _ _ _ _ _ _ _ _ _ _ _ _ _ _ (show Ar.mk f7.wrap f7.add f7.sub f7.mul f7.quo f7.rem f7.bits f7.lt f7.le f7.eq f7.nz f7.seq f7.slt f7.bytes f7.cat f7.fits f7.slen f7.sget f7.ssub f7.txt f7.byt f7.nat f7.len f7.get f7.sub2 f7.app f7.set f7.room f7.mlook f7.mput f7.deq f7.rep f7.call f7.calld f7.callo f7.callx f7.new f7.lit f7.keep f7.next f7.ext f7.reg f7.loop=f7 from rfl) _ fun res o' hq=>⟨rfl,res,rfl,hq⟩)
 refine ⟨h0.1,fun I w g args hrel=>?_⟩
 refine (h0.2 I (Xof g os) ⟨w,g,os.length,[]⟩ I g vs { tmps:=args.toArray,defers:=[] } w args hrel hrel.tmp).mono ?_
 rintro e w' ⟨v,x,o',ks,I',g',rfl,h',hv,rfl,res,rfl,hQ⟩
 obtain ⟨us,rfl,hus⟩:=c5B hv
 refine ⟨us,res,o',I',g',rfl,⟨hQ,fun i hi=>?_⟩,⟨h'.im,h'.lt,h'.fr,h'.kp,h'.lo,h'.st,h'.obj,h'.dis,h'.out,hus,rfl,h'.dfr.2⟩⟩
 have hq2:=hq _ _ hQ
 rw [y5] at hs hos hq2
 obtain ⟨p,hp⟩:=b3R hs i hi
 obtain ⟨z1,f1,r1,ho1⟩:=b2z hos i hi
 obtain ⟨z2,f2,r2,ho2⟩:=b2z hq2 i hi
 obtain ⟨us1,hw1,_⟩:=hrel.obj i _ ho1
 obtain ⟨us2,hw2,_⟩:=h'.obj i _ ho2
 have e1:m8 I w g args vs:=hrel.tmp
 have e2:m8 I' w' g' args vs:=h'.tmp
 have hlt:p<args.length:=by rw [e1.1];exact (d2Q.1 hp).1
 have ha:args[p]?=some args[p]:=d2P hlt
 rw [←a28 hw1,←a28 hw2,←(e1.2 p _ _ ha hp).unown.1,←(e2.2 p _ _ ha hp).unown.1]
section
variable {f:Nat} {fn:Func} {c:Code}
theorem N2 {rs q:List R} (hf:Tryz.prog.funcs[f]?=some fn) (hb:fn.body=some c) (h:∀qa qb qc qd qe qg qh qi qj qk ql qm qo qp qq qt qu qv qw qx qy qz va vc vd ve vf vg vh vj vk vl vm vn vo vp vq vr vt vu vv vw vx,Ar.mk qa qb qc qd qe qg qh qi qj qk ql qm qo qp qq qt qu qv qw qx qy qz va vc vd ve vf vg vh vj vk vl vm vn vo vp vq vr vt vu vv vw vx=f7→E1 (Ar.mk qa qb qc qd qe qg qh qi qj qk ql qm qo qp qq qt qu qv qw qx qy qz va vc vd ve vf vg vh vj vk vl vm vn vo vp vq vr vt vu vv vw vx) c (a5h rs (fn.ntmps - F4 rs)) (fun x s=>c3M (Ar.mk qa qb qc qd qe qg qh qi qj qk ql qm qo qp qq qt qu qv qw qx qy qz va vc vd ve vf vg vh vj vk vl vm vn vo vp vq vr vt vu vv vw vx) fn.results.toList q x s)) (hn:(fn.name != "runtime.NumGoroutine")=true:=by kernel_rfl) (hc:w8 Tryz.prog c=true:=by kernel_rfl) (hr:P3 fn.results.toList=true:=by kernel_rfl):o9 f rs q:=b2x hf hb hn hc hr h
theorem Z5 {vs:List V} {os:List O} {Q:List V→List O→Prop} (hf:Tryz.prog.funcs[f]?=some fn) (hb:fn.body=some c) (h:∀qa qb qc qd qe qg qh qi qj qk ql qm qo qp qq qt qu qv qw qx qy qz va vc vd ve vf vg vh vj vk vl vm vn vo vp vq vr vt vu vv vw vx,Ar.mk qa qb qc qd qe qg qh qi qj qk ql qm qo qp qq qt qu qv qw qx qy qz va vc vd ve vf vg vh vj vk vl vm vn vo vp vq vr vt vu vv vw vx=f7→E1 (Ar.mk qa qb qc qd qe qg qh qi qj qk ql qm qo qp qq qt qu qv qw qx qy qz va vc vd ve vf vg vh vj vk vl vm vn vo vp vq vr vt vu vv vw vx) c (a2D vs os (fn.ntmps - F4 vs)) (fun x s=>c3N (Ar.mk qa qb qc qd qe qg qh qi qj qk ql qm qo qp qq qt qu qv qw qx qy qz va vc vd ve vf vg vh vj vk vl vm vn vo vp vq vr vt vu vv vw vx) (r8 os) Q fn.results.toList x s)) (hn:(fn.name != "runtime.NumGoroutine")=true:=by kernel_rfl) (hc:w8 Tryz.prog c=true:=by kernel_rfl) (hr:P3 fn.results.toList=true:=by kernel_rfl):v8 f vs os Q:=a90 hf hb hn hc hr h
end
end
section
def wrO:List Oper→List Nat→List Nat
 | [],acc=>acc
 | ⟨some d,_,_,_,_,_⟩::l,acc=>d::wrO l acc
 | _::l,acc=>wrO l acc
def wr:Code→List Nat→List Nat
 | .region _ ops _,acc=>wrO ops.toList acc
 | .seq c d,acc=>wr c (wr d acc)
 | .cond _ c d,acc=>wr c (wr d acc)
 | .block _ c,acc=>wr c acc
 | .loop c,acc=>wr c acc
 | _,acc=>acc
def b5B:List Nat→List V→List V
 | [],t=>t
 | i::l,t=>b5B l (H0 t i .jk)
def b3S:List (Nat×V)→List V→List V
 | [],t=>t
 | (i,v)::l,t=>b3S l (H0 t i v)
def b1j:List (Nat×O)→List O→List O
 | [],o=>o
 | (k,x)::l,o=>b1j l (J5 o k x)
theorem a7t:∀(l:List (Nat×O)) (o:List O),(b1j l o).length=o.length
 | [],_=>rfl
 | (k,x)::l,o=>by rw [b1j,a7t l,H4,d3s]
def head (c:Code) (s:S) (l:List (Nat×V)) (m:List (Nat×O)):S:=⟨b3S l (b5B (wr c []) s.t),b1j m s.o⟩
def Q7:Code→Code
 | .seq c _=>c
 | c=>c
def m6:Code→Code
 | .seq _ c=>c
 | c=>c
section
variable {I0:Nat→Nat→Prop} {X:Nat→Prop} {w0:W0} {I:Nat→Nat→Prop} {g:Nat→Value} {s:S} {a:Act} {w:World}
theorem RelI.reread (h:RelI I0 X w0 I g s a w) {i:Nat} {x:V} (hx:∀v,a.tmps.toList[i]?=some v→AtV I w g v x):RelI I0 X w0 I g ⟨H0 s.t i x,s.o⟩ a w:=by
 refine ⟨h.im,h.lt,h.fr,h.kp,h.lo,h.st,h.obj,h.dis,h.out,?_,h.dfr⟩
 rw [a1g]
 refine ⟨by rw [d3s];exact h.tmp.1,fun j v y hv hy=>?_⟩
 by_cases hji:i=j
 ·subst hji
  have hlt:i<s.t.length:=by have:=(d2Q.1 hy).1;rw [d3s] at this;exact this
  rw [d30 hlt] at hy
  cases hy
  exact hx v hv
 ·rw [d3p hji] at hy
  exact h.tmp.2 j v y hv hy
end
theorem P0.own (s:S) (i e:Nat) (z:Bool) (hi:v7 s.t i=.em):P0 s ⟨H0 s.t i (.own (r8 s.o)),A1 s.o (.row z e [])⟩:=by
 rintro I0 X w0 a w ⟨I,g,h⟩
 have h2:=h.newObj (.row z e []) (.slice none 0 0) ⟨[],by rw [r9];exact World.ownsRow_nil w 0 e _,by simp,E0.nil I w,fun b hb=>by rw [r9] at hb;cases hb⟩ (fun j b _ _ hb=>by cases hb)
 refine ⟨I,upd g s.o.length (.slice none 0 0),?_⟩
 have h3:RelI I0 X w0 I (upd g s.o.length (.slice none 0 0)) ⟨s.t,A1 s.o (.row z e [])⟩ a w:=h2
 refine h3.reread fun v hv=>?_
 have hs:=a0Q hi (by simp)
 have h4:=h.tmp.2 i v _ hv hs
 rw [h4.unem]
 exact .own _ _ _ _ (by rw [y5,r9];rfl)
theorem P0.weaker (s s':S) (hw:Vm.weak s s') (hl:r8 s.o=r8 s'.o):P0 s s':=fun I0 X w0 a w h=>h.weak (by
 obtain ⟨I,g,h⟩:=h
 have:=h.lo
 rw [←y5,←hl,y5]
 exact this) (.inr hw)
section
variable {qa:IntKind→Int→Int} {qb:Int→Int→Int} {qc:Int→Int→Int} {qd:Int→Int→Int} {qe:Int→Int→Int} {qg:Int→Int→Int} {qh:BinOp→IntKind→Int→IntKind→Int→Option Int} {qi:Int→Int→Bool} {qj:Int→Int→Bool} {qk:Int→Int→Bool} {ql:Int→Prop→Prop} {qm:List UInt8→List UInt8→Bool} {qo:List UInt8→List UInt8→Bool} {qp:ByteArray→List UInt8} {qq:ByteArray→ByteArray→ByteArray} {qt:ByteArray→ByteArray→Prop→Prop} {qu:ByteArray→Int} {qv:ByteArray→Int→Option Int} {qw:ByteArray→Int→Int→Option ByteArray} {qx:List (List D)→Option ByteArray} {qy:ByteArray→List (List D)} {qz:Int→Nat→Option Nat} {va:List (List D)→Int} {vc:List (List D)→Int→Option (List D)} {vd:List (List D)→Int→Int→Option (List (List D))} {ve:List (List D)→List (List D)→List (List D)} {vf:List (List D)→Int→List D→List (List D)} {vg:List (List D)→List (List D)→Prop→Prop} {vh:List (R×R)→R→Option R} {vj:List (R×R)→R→R→List (R×R)} {vk:List D→List D→Bool} {vl:Int→List D→(List (List D)→Prop)→Prop} {vm:Nat→List R→(List R→Prop)→Prop} {vn:Nat→List V→List O→(V→Prop)→Prop} {vo:Nat→List V→S→(V→S→Prop)→Prop} {vp:Nat→List V→List Nat→S→(V→S→Prop)→Prop} {vq:Nat→(Bool→Prop)→Prop} {vr:Nat→(Bool→Prop)→Prop} {vt:Nat→(List V→List O→Prop)→List V→S→Prop} {vu:(S→Prop)→S→Prop} {vv:Op→Option Nat→S→(S→Prop)→Prop} {vw:Array Oper→S→(S→Prop)→Prop} {vx:Code→(S→(X→S→Prop)→Prop)→S→(X→S→Prop)→Prop}
theorem j9 (hA:Ar.mk qa qb qc qd qe qg qh qi qj qk ql qm qo qp qq qt qu qv qw qx qy qz va vc vd ve vf vg vh vj vk vl vm vn vo vp vq vr vt vu vv vw vx=f7) {c:Code} {body:S→(X→S→Prop)→Prop} {s:S} {K:X→S→Prop} {γ:Type} (slots:γ→List (Nat×V)) (objs:γ→List (Nat×O)) (inv:γ→Prop) (μ:γ→Nat) (x0:γ) (h0:inv x0) (hw:weak s (head c s (slots x0) (objs x0)))
  (hr:∀x,inv x→body (head c s (slots x) (objs x)) (fun e s'=>b1Y (fun s2=>∃y,inv y∧μ y<μ x∧weak s2 (head c s (slots y) (objs y))) K e s')):vx c body s K:=by
 have e:vx=f7.loop:=congrArg Ar.loop hA
 rw [e]
 exact .inl ⟨γ,fun x=>head c s (slots x) (objs x),inv,μ,fun x _=>by rw [y5,y5];exact Nat.le_of_eq (a7t _ _).symm,⟨x0,hw,h0⟩,hr⟩
theorem f8 (hA:Ar.mk qa qb qc qd qe qg qh qi qj qk ql qm qo qp qq qt qu qv qw qx qy qz va vc vd ve vf vg vh vj vk vl vm vn vo vp vq vr vt vu vv vw vx=f7) {N:S→Prop} {s:S} (h:N s):vu N s:=by
 have e:vu=f7.next:=congrArg Ar.next hA
 rw [e]
 exact ⟨fun s2=>s2=s,fun _ _ _ _ _ h=>⟨_,rfl,h⟩,fun s2 e=>by subst e;exact h⟩
theorem a11 (hA:Ar.mk qa qb qc qd qe qg qh qi qj qk ql qm qo qp qq qt qu qv qw qx qy qz va vc vd ve vf vg vh vj vk vl vm vn vo vp vq vr vt vu vv vw vx=f7) {N:S→Prop} {s:S} (s':S) (hg:P0 s s') (h:N s'):vu N s:=by
 have e:vu=f7.next:=congrArg Ar.next hA
 rw [e]
 exact ⟨fun s2=>s2=s',fun _ _ _ _ _ hr=>⟨_,rfl,hg _ _ _ _ _ hr⟩,fun s2 e=>by subst e;exact h⟩
theorem c62 (hA:Ar.mk qa qb qc qd qe qg qh qi qj qk ql qm qo qp qq qt qu qv qw qx qy qz va vc vd ve vf vg vh vj vk vl vm vn vo vp vq vr vt vu vv vw vx=f7) {op:Op} {dst:Option Nat} {s:S} {K:S→Prop} (h:f7.ext op dst s K):vv op dst s K:=by
 have e:vv=f7.ext:=congrArg Ar.ext hA
 rw [e]
 exact h
theorem c0W (hA:Ar.mk qa qb qc qd qe qg qh qi qj qk ql qm qo qp qq qt qu qv qw qx qy qz va vc vd ve vf vg vh vj vk vl vm vn vo vp vq vr vt vu vv vw vx=f7) {N:S→Prop} {s:S} (ks:List Nat) (h:N ⟨s.t,frz ks s.o⟩):vu N s:=a11 hA _ (P0.frz s ks) h
theorem a2j (hA:Ar.mk qa qb qc qd qe qg qh qi qj qk ql qm qo qp qq qt qu qv qw qx qy qz va vc vd ve vf vg vh vj vk vl vm vn vo vp vq vr vt vu vv vw vx=f7) {N:S→Prop} {s:S} (i e:Nat) (z:Bool) (hi:v7 s.t i=.em) (h:N ⟨H0 s.t i (.own (r8 s.o)),A1 s.o (.row z e [])⟩):vu N s:=a11 hA _ (P0.own s i e z hi) h
theorem f9 (hA:Ar.mk qa qb qc qd qe qg qh qi qj qk ql qm qo qp qq qt qu qv qw qx qy qz va vc vd ve vf vg vh vj vk vl vm vn vo vp vq vr vt vu vv vw vx=f7) {f:Nat} {vs:List V} {s:S} {rs:List R} {K:V→S→Prop} (q:List R) (h:o9 f rs q) (hr:b03 s.o vs=some rs) (hK:K (b8d q) s):vo f vs s K:=by
 have e:vo=f7.callo:=congrArg Ar.callo hA
 rw [e]
 exact (a8Q h hr).mono fun x o' ks ⟨e1,e2,e3⟩=>by subst e1;subst e2;subst e3;exact hK
theorem i7 (hA:Ar.mk qa qb qc qd qe qg qh qi qj qk ql qm qo qp qq qt qu qv qw qx qy qz va vc vd ve vf vg vh vj vk vl vm vn vo vp vq vr vt vu vv vw vx=f7) {f:Nat} {rs:List R} {K:List R→Prop} (q:List R) (h:o9 f rs q) (hK:K q):vm f rs K:=by
 have e:vm=f7.call:=congrArg Ar.call hA
 rw [e]
 exact ⟨q,h,hK⟩
theorem y6 (hA:Ar.mk qa qb qc qd qe qg qh qi qj qk ql qm qo qp qq qt qu qv qw qx qy qz va vc vd ve vf vg vh vj vk vl vm vn vo vp vq vr vt vu vv vw vx=f7) {f:Nat} {vs:List V} {s:S} {K:V→S→Prop} (ks:List Nat) {vs':List V} {os':List O} {Q:List V→List O→Prop} (h:v8 f vs' os' Q) (hs:SubOk ks vs' os' vs s) (hK:∀res os2,Q res os2→K (a0K (upT ks (r8 s.o) res)) (a2O ks os2 s)):vo f vs s K:=by
 have e:vo=f7.callo:=congrArg Ar.callo hA
 rw [e]
 exact (b38 h hs).mono fun x o' ks' ⟨e1,res,os2,hQ,e2,e3⟩=>by subst e1;subst e2;subst e3;exact hK res os2 hQ
theorem I4 (hA:Ar.mk qa qb qc qd qe qg qh qi qj qk ql qm qo qp qq qt qu qv qw qx qy qz va vc vd ve vf vg vh vj vk vl vm vn vo vp vq vr vt vu vv vw vx=f7) {f:Nat} {vs:List V} {s:S} {K:V→S→Prop} (ks:List Nat) {vs':List V} {os':List O} {Q:List V→List O→Prop} (h:B0 f vs' os' Q) (hs:SubOk ks vs' os' vs s) (hK:∀res os2,Q res os2→K (a0K (upT ks (r8 s.o) res)) ⟨s.t,H3 ks (Z9 ks (r8 s.o) os2) s.o⟩):vo f vs s K:=by
 have e:vo=f7.callo:=congrArg Ar.callo hA
 rw [e]
 exact (a3X h hs).mono fun x o' ks' ⟨e1,res,os2,hQ,e2,e3⟩=>by subst e1;subst e2;subst e3;exact hK res os2 hQ
theorem b3T (hA:Ar.mk qa qb qc qd qe qg qh qi qj qk ql qm qo qp qq qt qu qv qw qx qy qz va vc vd ve vf vg vh vj vk vl vm vn vo vp vq vr vt vu vv vw vx=f7) {f:Nat} {vs:List V} {l:List Nat} {s:S} {K:V→S→Prop} (ks:List Nat) {vs':List V} {os':List O} {Q:List V→List O→Prop} (h:B0 f vs' os' Q) (hs:SubOk ks vs' os' vs s) (hK:∀res os2,Q res os2→a3t l s.t s.o (H3 ks (Z9 ks (r8 s.o) os2) s.o)∧K (a0K (upT ks (r8 s.o) res)) ⟨s.t,H3 ks (Z9 ks (r8 s.o) os2) s.o⟩):vp f vs l s K:=by
 have e:vp=f7.callx:=congrArg Ar.callx hA
 rw [e]
 exact U9.x ((a3X h hs).mono fun x o' ks' ⟨e1,res,os2,hQ,e2,e3⟩=>⟨e1,by subst e2;subst e3;exact hK res os2 hQ⟩)
theorem a6t (hA:Ar.mk qa qb qc qd qe qg qh qi qj qk ql qm qo qp qq qt qu qv qw qx qy qz va vc vd ve vf vg vh vj vk vl vm vn vo vp vq vr vt vu vv vw vx=f7) {f:Nat} {vs:List V} {l:List Nat} {s:S} {K:V→S→Prop} {x:V} (h:a8P f vs s.o x) (hK:K x s):vp f vs l s K:=by
 have e:vp=f7.callx:=congrArg Ar.callx hA
 rw [e]
 exact h.x.mono fun y o' ⟨e1,e2⟩=>by subst e1;subst e2;exact ⟨fun _ _ _ _=>rfl,hK⟩
theorem U3 (hA:Ar.mk qa qb qc qd qe qg qh qi qj qk ql qm qo qp qq qt qu qv qw qx qy qz va vc vd ve vf vg vh vj vk vl vm vn vo vp vq vr vt vu vv vw vx=f7) {f:Nat} {vs:List V} {l:List Nat} {s:S} {rs:List R} {K:V→S→Prop} (q:List R) (h:o9 f rs q) (hr:b03 s.o vs=some rs) (hK:K (b8d q) s):vp f vs l s K:=by
 have e:vp=f7.callx:=congrArg Ar.callx hA
 rw [e]
 exact U9.x ((a8Q h hr).mono fun x o' ks ⟨e1,e2,e3⟩=>⟨e3,by subst e1;subst e2;exact ⟨fun _ _ _ _=>rfl,hK⟩⟩)
theorem a92 (t:List V) (o o':List O):a3t [] t o o':=fun i hi=>by simp at hi
theorem a7J {i:Nat} {l:List Nat} {t:List V} {o o':List O} (h:∀k,c55 (v7 t i)=some k→A9 o' k=A9 o k) (hl:a3t l t o o'):a3t (i::l) t o o':=fun j hj k hk=>by
 rcases d3d.1 hj with rfl|hj
 ·exact h k hk
 ·exact hl j hj k hk
def b5C:List O→Bool
 | []=>true
 | .box _::l=>b5C l
 | .mp _ _::l=>b5C l
 | .ob _ _::l=>b5C l
 | _=>false
theorem b6W {X:Nat→Prop} {w0:W0} {I:Nat→Nat→Prop} {w:World} {g:Nat→Value}:∀ {l:List O} {i:Nat} {o:O},b5C l=true→l[i]?=some o→∀ {k:Nat},a0M X w0 I w g k o→a0p (g k)=true
 | [],i,o,_,h,_,_=>by simp at h
 | x::l,0,o,hb,h,k,ho=>by
  simp at h
  subst h
  cases x with
  | box cs=>obtain ⟨b,us,t,e,_⟩:=ho;rw [e];rfl
  | mp kt es=>obtain ⟨b,l,c,e,_⟩:=ho;rw [e];rfl
  | ob T vs=>obtain ⟨b,e,_⟩:=ho;rw [e];rfl
  | _=>cases hb
 | x::l,i+1,o,hb,h,k,ho=>by
  have hb:b5C l=true:=by cases x <;> first|exact hb|cases hb
  exact b6W hb (by simpa using h) ho
theorem v8.box {f:Nat} {vs:List V} {os:List O} {Q:List V→List O→Prop} (h:v8 f vs os Q) (hb:b5C os=true):B0 f vs os Q :=
 ⟨h.1,fun I w g args hrel=>(h.2 I w g args hrel).mono fun e w' ⟨us,res,os2,I',g',e1,hQ,h'⟩=>⟨us,res,os2,I',g',e1,⟨hQ,fun i hi=>h'.st i hi (b6W hb (d2P hi) (hrel.obj i _ (d2P hi)))⟩,h'⟩⟩
theorem m9 (hA:Ar.mk qa qb qc qd qe qg qh qi qj qk ql qm qo qp qq qt qu qv qw qx qy qz va vc vd ve vf vg vh vj vk vl vm vn vo vp vq vr vt vu vv vw vx=f7) {n:Nat} {Q:List V→List O→Prop} {res:List V} {s:S} (ks:List Nat) {res':List V} {os':List O} (h:KeepOk n ks res' os' res s) (hQ:Q res' os'):vt n Q res s:=by
 have e:vt=f7.keep:=congrArg Ar.keep hA
 rw [e]
 exact ⟨ks,res',os',h,hQ⟩
theorem a1E (hA:Ar.mk qa qb qc qd qe qg qh qi qj qk ql qm qo qp qq qt qu qv qw qx qy qz va vc vd ve vf vg vh vj vk vl vm vn vo vp vq vr vt vu vv vw vx=f7) {e:Nat} {K:Bool→Prop} (z:Bool) (h:K z):vq e K:=by
 have e1:vq=f7.new:=congrArg Ar.new hA
 rw [e1]
 exact ⟨z,h⟩
theorem A6 (hA:Ar.mk qa qb qc qd qe qg qh qi qj qk ql qm qo qp qq qt qu qv qw qx qy qz va vc vd ve vf vg vh vj vk vl vm vn vo vp vq vr vt vu vv vw vx=f7) {t:Nat} {K:Bool→Prop} (c:Bool) (h:K c):vr t K:=by
 have e:vr=f7.lit:=congrArg Ar.lit hA
 rw [e]
 exact ⟨c,h⟩
theorem j7 (hA:Ar.mk qa qb qc qd qe qg qh qi qj qk ql qm qo qp qq qt qu qv qw qx qy qz va vc vd ve vf vg vh vj vk vl vm vn vo vp vq vr vt vu vv vw vx=f7):(∀k n,qa k n=k.wrap n)∧(∀x y,qb x y=x+y)∧(∀x y,qc x y=x - y)∧(∀x y,qd x y=x * y)∧(∀x y,qe x y=x.tdiv y)∧(∀x y,qg x y=x.tmod y)∧(∀x y,qi x y=decide (x<y))∧(∀x y,qj x y=decide (x≤y))∧(∀x y,qk x y=(x == y)):=by
 first|(injection hA;subst_vars)|subst hA
 exact ⟨fun _ _=>rfl,fun _ _=>rfl,fun _ _=>rfl,fun _ _=>rfl,fun _ _=>rfl,fun _ _=>rfl,fun _ _=>rfl,fun _ _=>rfl,fun _ _=>rfl⟩
theorem a6u (hA:Ar.mk qa qb qc qd qe qg qh qi qj qk ql qm qo qp qq qt qu qv qw qx qy qz va vc vd ve vf vg vh vj vk vl vm vn vo vp vq vr vt vu vv vw vx=f7):∀op k x k' y,qh op k x k' y=W6 op k x k' y:=by
 first|(injection hA;subst_vars)|subst hA
 exact fun _ _ _ _ _=>rfl
theorem nc (n:Nat):@NatCast.natCast Int instNatCastInt n=(n:Int):=rfl
theorem a8t (n:Int):W6 .shr .u64 n .u64 1=some (n / 2):=by
 show some (n.fdiv (2 ^ (min 1 64)))=some (n / 2)
 rw [show (2:Int) ^ (min 1 64)=2 from rfl,Int.fdiv_eq_ediv_of_nonneg _ (by omega)]
theorem G1 (hA:Ar.mk qa qb qc qd qe qg qh qi qj qk ql qm qo qp qq qt qu qv qw qx qy qz va vc vd ve vf vg vh vj vk vl vm vn vo vp vq vr vt vu vv vw vx=f7):(∀x y,qm x y=(x == y))∧(∀x y,qo x y=Op.bytesLess x y)∧(∀b,qp b=b.toList)∧(∀x y,qq x y=x++y)∧(∀b,qu b=(b.size:Int))∧(∀b n,qv b n=f7.sget b n)∧(∀b l h,qw b l h=f7.ssub b l h):=by
 first|(injection hA;subst_vars)|subst hA
 exact ⟨fun _ _=>rfl,fun _ _=>rfl,fun _=>rfl,fun _ _=>rfl,fun _=>rfl,fun _ _=>rfl,fun _ _ _=>rfl⟩
theorem b20 (hA:Ar.mk qa qb qc qd qe qg qh qi qj qk ql qm qo qp qq qt qu qv qw qx qy qz va vc vd ve vf vg vh vj vk vl vm vn vo vp vq vr vt vu vv vw vx=f7):(∀r,qx r=a49 r)∧(∀s,qy s=a8B s):=by
 first|(injection hA;subst_vars)|subst hA
 exact ⟨fun _=>rfl,fun _=>rfl⟩
theorem A8 (hA:Ar.mk qa qb qc qd qe qg qh qi qj qk ql qm qo qp qq qt qu qv qw qx qy qz va vc vd ve vf vg vh vj vk vl vm vn vo vp vq vr vt vu vv vw vx=f7):(∀r,va r=(r.length:Int))∧(∀r n,vc r n=if 0≤n then r[n.toNat]? else none)∧(∀r l h,vd r l h=f7.sub2 r l h)∧(∀x y,ve x y=x++y):=by
 first|(injection hA;subst_vars)|subst hA
 exact ⟨fun _=>rfl,fun _ _=>rfl,fun _ _ _=>rfl,fun _ _=>rfl⟩
theorem a0U (hA:Ar.mk qa qb qc qd qe qg qh qi qj qk ql qm qo qp qq qt qu qv qw qx qy qz va vc vd ve vf vg vh vj vk vl vm vn vo vp vq vr vt vu vv vw vx=f7):(∀es r,vh es r=a4X es r)∧(∀es r q,vj es r q=a3P es r q)∧(∀i n,qz i n=f7.nat i n)∧∀rows i y,vf rows i y=rows.set i.toNat y:=by
 first|(injection hA;subst_vars)|subst hA
 exact ⟨fun _ _=>rfl,fun _ _ _=>rfl,fun _ _=>rfl,fun _ _ _=>rfl⟩
theorem b6X (hA:Ar.mk qa qb qc qd qe qg qh qi qj qk ql qm qo qp qq qt qu qv qw qx qy qz va vc vd ve vf vg vh vj vk vl vm vn vo vp vq vr vt vu vv vw vx=f7) {x:Int} {k:Prop} (h:x≠0) (hk:k):ql x k:=by
 have e:ql=f7.nz:=congrArg Ar.nz hA
 rw [e]
 exact ⟨h,hk⟩
theorem B3 (hA:Ar.mk qa qb qc qd qe qg qh qi qj qk ql qm qo qp qq qt qu qv qw qx qy qz va vc vd ve vf vg vh vj vk vl vm vn vo vp vq vr vt vu vv vw vx=f7) {x y:List (List D)} {k:Prop} (h:x.length+y.length≤137438953472) (hk:k):vg x y k:=by
 have e:vg=f7.room:=congrArg Ar.room hA
 rw [e]
 exact ⟨h,hk⟩
theorem a93 (hA:Ar.mk qa qb qc qd qe qg qh qi qj qk ql qm qo qp qq qt qu qv qw qx qy qz va vc vd ve vf vg vh vj vk vl vm vn vo vp vq vr vt vu vv vw vx=f7) {f:Nat} {fn:Func} {c:Code} {vs:List V} {s:S} {K:V→S→Prop} (hf:Tryz.prog.funcs[f]?=some fn) (hb:fn.body=some c) (hn:(fn.name != "runtime.NumGoroutine")=true) (hc:w8 Tryz.prog c=true) (hr:P3 fn.results.toList=true)
  (h:E1 (Ar.mk qa qb qc qd qe qg qh qi qj qk ql qm qo qp qq qt qu qv qw qx qy qz va vc vd ve vf vg vh vj vk vl vm vn vo vp vq vr vt vu vv vw vx) c (a30 vs s.o (fn.ntmps - F4 vs)) (fun x s2=>c3P (Ar.mk qa qb qc qd qe qg qh qi qj qk ql qm qo qp qq qt qu qv qw qx qy qz va vc vd ve vf vg vh vj vk vl vm vn vo vp vq vr vt vu vv vw vx) (r8 s.o) (fun v o' ks=>K v ⟨C0 ks s.t,o'⟩) fn.results.toList x s2)):vo f vs s K:=by
 have e:vo=f7.callo:=congrArg Ar.callo hA
 rw [hA] at h
 rw [e]
 exact c0U hf hb hn hc hr h
end
end
section
theorem c63 (os:List O) (d:D):toD os .jk≠some d:=fun h=>by rw [toD] at h <;> first|cases h|simp
theorem P0.read (s:S) (i:Nat) (d:D) (hi:toD s.o (v7 s.t i)=some d):P0 s ⟨H0 s.t i (.d d),s.o⟩:=by
 rintro I0 X w0 a w ⟨I,g,h⟩
 have hj:v7 s.t i≠.jk:=fun e=>c63 _ _ (e ▸ hi)
 exact ⟨I,g,h.reread fun v hv=>.d (a8I h (h.tmp.2 i v _ hv (a0Q rfl hj)) hi)⟩
theorem P0.nil (s:S) (i z:Nat) (L:List (List D)) (hL:L=[]) (hi:v7 s.t i=.em):P0 s ⟨H0 s.t i (.d (.sl z L)),s.o⟩:=by
 subst hL
 rintro I0 X w0 a w ⟨I,g,h⟩
 refine ⟨I,g,h.reread fun v hv=>?_⟩
 have h4:=h.tmp.2 i v _ hv (a0Q hi (by simp))
 rw [h4.unem]
 exact .d (.nil _ _ _)
section
variable {qa:_} {qb:_} {qc:_} {qd:_} {qe:_} {qg:_} {qh:_} {qi:_} {qj:_} {qk:_} {ql:_} {qm:_} {qo:_} {qp:_} {qq:_} {qt:_} {qu:_} {qv:_} {qw:_} {qx:_} {qy:_} {qz:_} {va:_} {vc:_} {vd:_} {ve:_} {vf:_} {vg:_} {vh:_} {vj:_} {vk:_} {vl:_} {vm:_} {vn:_} {vo:_} {vp:_} {vq:_} {vr:_} {vt:_} {vu:_} {vv:_} {vw:_} {vx:_} (hA:Ar.mk qa qb qc qd qe qg qh qi qj qk ql qm qo qp qq qt qu qv qw qx qy qz va vc vd ve vf vg vh vj vk vl vm vn vo vp vq vr vt vu vv vw vx=f7)
include hA
theorem a55 {N:S→Prop} {s:S} (i z:Nat) (L:List (List D)) (hL:L=[]) (hi:v7 s.t i=.em) (h:N ⟨H0 s.t i (.d (.sl z L)),s.o⟩):vu N s:=a11 hA _ (P0.nil s i z L hL hi) h
theorem a12 {N:S→Prop} {s:S} (i k:Nat) (d:D) (hk:v7 s.t i=.own k) (hi:toD s.o (.own k)=some d) (h:N ⟨H0 s.t i (.d d),s.o⟩):vu N s:=a11 hA _ (P0.read s i d (hk ▸ hi)) h
end
end
section
section
variable {I0:Nat→Nat→Prop} {X:Nat→Prop} {w0:W0} {I:Nat→Nat→Prop} {g:Nat→Value} {s:S} {a:Act} {w:World}
theorem RelI.move (h:RelI I0 X w0 I g s a w) {j k:Nat} {z z':Bool} {e e':Nat} {R R':List (List D)} (hj:s.o[j]?=some (.row z e R)) (hk:s.o[k]?=some (.row z' e' R')) (hjk:j≠k) :
  RelI I0 X w0 I (upd g j (g k)) ⟨H9 j s.t,((C7 j s.o).set k .dead).set j (.row z' e' R')⟩ a w:=by
 have hlt:=(d2Q.1 hj).1
 have hltk:=(d2Q.1 hk).1
 obtain ⟨usj,hown,_⟩:=h.obj j _ hj
 have hnp:a0p (g j)=true→upd g j (g k) j=g j:=fun hr=>by rcases hown.2 with ⟨e1,_⟩|⟨_,_,_,e1,_⟩ <;> rw [e1] at hr <;> cases hr
 have hg':∀i,i≠j→upd g j (g k) i=g i:=fun i hi=>C3 hi
 have hlk:Q9 s k:=⟨_,hk,by simp⟩
 have hget:∀i o,(((C7 j s.o).set k .dead).set j (.row z' e' R'))[i]?=some o→o≠.dead→(i=j∧o=.row z' e' R')∨(i≠j∧i≠k∧(C7 j s.o)[i]?=some o):=fun i o ho hd=>by
  by_cases hij:j=i
  ·subst hij
   rw [d30 (by rw [d3s,L8];exact hlt)] at ho
   injection ho with ho
   exact .inl ⟨rfl,ho.symm⟩
  ·rw [d3p hij] at ho
   by_cases hik:k=i
   ·subst hik
    rw [d30 (by rw [L8];exact hltk)] at ho
    injection ho with ho
    exact absurd ho.symm hd
   ·rw [d3p hik] at ho
    exact .inr ⟨d4R hij,d4R hik,ho⟩
 refine ⟨h.im,h.lt,h.fr,h.kp,by simp only [d3s,L8];exact h.lo,fun i hi hr=>?_,fun i o ho=>?_,fun i i' b hi hi' hb hb'=>?_,fun i hi=>?_,a3S hg' hnp h.tmp,h.dfr⟩
 ·have e:=h.st i hi hr
  refine (hg' i fun ej=>?_).trans e
  subst ej
  rw [←e] at hr
  rcases hown.2 with ⟨e1,_⟩|⟨_,_,_,e1,_⟩ <;> rw [e1] at hr <;> cases hr
 ·by_cases hd:o=.dead
  ·subst hd;exact True.intro
  rcases hget i o ho hd with ⟨rfl,rfl⟩|⟨hij,hik,ho⟩
  ·obtain ⟨us,h1,h2,h3,h4⟩:=h.obj k _ hk
   exact ⟨us,by rw [r9];exact h1,h2,h3,by rw [r9];exact h4⟩
  ·obtain ⟨o',ho',hdd,hsh⟩:=a0q j s.o i o ho
   have hob:=h.obj i o' ho'
   rcases hsh with ⟨cs,rfl,rfl⟩|⟨ks,rfl,rfl⟩|⟨rfl,hnb,hnf⟩
   ·obtain ⟨b,us,t,h1,h2,h3,h4⟩:=hob
    exact ⟨b,us,t,by rw [C3 hij];exact h1,h2,a2Q hg' hnp h3,h4⟩
   ·obtain ⟨us,h1,h2,h3⟩:=hob
    refine ⟨us,by rw [C3 hij];exact h1,h2,fun i2 u hu=>?_⟩
    by_cases e:i2=j
    ·exact .inr (.inr (by rw [e];exact d2V ..))
    ·rcases h3 i2 u hu with h4|h4|h4
     ·exact .inl h4
     ·exact .inr (.inl (by rw [C3 e];exact h4))
     ·exact .inr (.inr (d2W _ h4))
   ·cases o with
    | dead=>exact True.intro
    | box cs=>exact absurd rfl (hnb cs)
    | kl ks=>exact absurd rfl (hnf ks)
    | mp kt es =>
     obtain ⟨b,l,c,h1,h2⟩:=hob
     exact ⟨b,l,c,by rw [C3 hij];exact h1,h2⟩
    | ob T vs =>
     obtain ⟨b,h1,h2⟩:=hob
     exact ⟨b,by rw [C3 hij];exact h1,h2⟩
    | it P =>
     obtain ⟨A,n,cap,F,h1,h2⟩:=hob
     exact ⟨A,n,cap,F,by rw [C3 hij];exact h1,h2⟩
    | row z2 e2 rows =>
     obtain ⟨us,h1,h2,h3,h4⟩:=hob
     exact ⟨us,by rw [C3 hij];exact h1,h2,h3,by rw [C3 hij];exact h4⟩
 ·have a2O:∀i,Q9 ⟨H9 j s.t,((C7 j s.o).set k .dead).set j (.row z' e' R')⟩ i→∃i2,Q9 s i2∧upd g j (g k) i=g i2∧((i=j∧i2=k)∨(i≠j∧i2=i∧i≠k)):=fun i hl=>by
   obtain ⟨o,ho,hd⟩:=hl
   rcases hget i o ho hd with ⟨rfl,rfl⟩|⟨hij,hik,ho⟩
   ·exact ⟨k,hlk,r9 ..,.inl ⟨rfl,rfl⟩⟩
   ·obtain ⟨o',ho',hdd,_⟩:=a0q j s.o i o ho
    exact ⟨i,⟨o',ho',hdd hd⟩,C3 hij,.inr ⟨hij,rfl,hik⟩⟩
  obtain ⟨i2,l2,e2,c2⟩:=a2O i hi
  obtain ⟨i3,l3,e3,c3⟩:=a2O i' hi'
  rw [e2] at hb
  rw [e3] at hb'
  have:=h.dis i2 i3 b l2 l3 hb hb'
  omega
 ·simp only [d3s,L8] at hi
  rw [C3 (by omega)]
  exact h.out i hi
end
theorem P0.move (s:S) (i j k:Nat) (hjk:U7 j k=false) {z z':Bool} {e e':Nat} {R R':List (List D)} (hi:v7 s.t i=.own k) (hj:A9 s.o j=.row z e R) (hk:A9 s.o k=.row z' e' R') :
  P0 s ⟨H0 (H9 j s.t) i (.own j),J5 (J5 (C7 j s.o) k .dead) j (.row z' e' R')⟩:=by
 rintro I0 X w0 a w ⟨I,g,h⟩
 have hne:j≠k:=a3q.1 hjk
 have h2:=h.move (B4 hj (by simp)) (B4 hk (by simp)) hne
 refine ⟨I,upd g j (g k),?_⟩
 rw [H4,H4]
 refine RelI.reread (s:=⟨H9 j s.t,((C7 j s.o).set k .dead).set j (.row z' e' R')⟩) h2 fun v hv=>?_
 have h4:=h.tmp.2 i v _ hv (a0Q hi (by simp))
 cases h4 with
 | own _ A n cap hg=>exact .own _ _ _ _ (by rw [r9];exact hg)
theorem a3u.of {n:Nat} {s s1 s2:S} (h:P0 s s1) (hw:weak s1 s2) (hl:n≤r8 s2.o):a3u n s s2:=fun I0 X w0 a w hn hr=>(h _ _ _ _ _ hr).weak (d4q hn (by rw [←y5];exact hl)) (.inr hw)
def b6Y (c:Code) (s:S) (l:List (Nat×V)) (m:List (Nat×O)) (x:List O):S:=⟨b3S l (b5B (wr c []) s.t),b8g (b1j m s.o) x⟩
section
variable {qa:_} {qb:_} {qc:_} {qd:_} {qe:_} {qg:_} {qh:_} {qi:_} {qj:_} {qk:_} {ql:_} {qm:_} {qo:_} {qp:_} {qq:_} {qt:_} {qu:_} {qv:_} {qw:_} {qx:_} {qy:_} {qz:_} {va:_} {vc:_} {vd:_} {ve:_} {vf:_} {vg:_} {vh:_} {vj:_} {vk:_} {vl:_} {vm:_} {vn:_} {vo:_} {vp:_} {vq:_} {vr:_} {vt:_} {vu:_} {vv:_} {vw:_} {vx:_} (hA:Ar.mk qa qb qc qd qe qg qh qi qj qk ql qm qo qp qq qt qu qv qw qx qy qz va vc vd ve vf vg vh vj vk vl vm vn vo vp vq vr vt vu vv vw vx=f7)
include hA
theorem c0X {c:Code} {body:S→(X→S→Prop)→Prop} {s:S} {K:X→S→Prop} {γ:Type} (slots:γ→List (Nat×V)) (objs:γ→List (Nat×O)) (xs:γ→List O) (inv:γ→Prop) (μ:γ→Nat) (x0:γ) (h0:inv x0) (hw:a3u (r8 s.o) s (b6Y c s (slots x0) (objs x0) (xs x0)))
  (hr:∀x,inv x→body (b6Y c s (slots x) (objs x) (xs x)) (fun e s'=>b1Y (fun s2=>∃y,inv y∧μ y<μ x∧a3u (r8 s.o) s2 (b6Y c s (slots y) (objs y) (xs y))) K e s')):vx c body s K:=by
 have e:vx=f7.loop:=congrArg Ar.loop hA
 rw [e]
 exact .inr (.inr ⟨γ,fun x=>b6Y c s (slots x) (objs x) (xs x),inv,μ,fun x _=>by
  show r8 s.o≤r8 (b8g (b1j (objs x) s.o) (xs x))
  rw [y5,y5,a5X,d2R,a7t]
  exact Nat.le_add_right _ _,⟨x0,hw,h0⟩,hr⟩)
end
end
section
section
variable {I0:Nat→Nat→Prop} {X:Nat→Prop} {w0:W0} {I:Nat→Nat→Prop} {g:Nat→Value} {s:S} {a:Act} {w:World}
theorem m8.reset {us:List Value} {cs:List V} {i:Nat} {x:V} (h:m8 I w g us cs) (hx:∀v,us[i]?=some v→AtV I w g v x):m8 I w g us (cs.set i x):=by
 refine ⟨by rw [d3s];exact h.1,fun j v y hv hy=>?_⟩
 by_cases hji:i=j
 ·subst hji
  have hlt:i<cs.length:=by have:=(d2Q.1 hy).1;rw [d3s] at this;exact this
  rw [d30 hlt] at hy
  cases hy
  exact hx v hv
 ·rw [d3p hji] at hy
  exact h.2 j v y hv hy
theorem RelI.rebox (h:RelI I0 X w0 I g s a w) {k:Nat} {cs ds:List V} (hk:s.o[k]?=some (.box cs)) (hd:∀us,m8 I w g us cs→m8 I w g us ds):RelI I0 X w0 I g ⟨s.t,s.o.set k (.box ds)⟩ a w:=by
 have hlt:=(d2Q.1 hk).1
 have a2O:∀i,Q9 ⟨s.t,s.o.set k (.box ds)⟩ i→Q9 s i:=fun i hl=>by
  obtain ⟨o,ho,hdd⟩:=hl
  by_cases hik:k=i
  ·subst hik;exact ⟨_,hk,by simp⟩
  ·simp only [d3p hik] at ho
   exact ⟨o,ho,hdd⟩
 refine ⟨h.im,h.lt,h.fr,h.kp,by simp only [d3s];exact h.lo,h.st,fun i o ho=>?_,fun i j b hi hj=>h.dis i j b (a2O i hi) (a2O j hj),fun i hi=>h.out i (by simpa using hi),h.tmp,h.dfr⟩
 by_cases hik:k=i
 ·subst hik
  simp only [d30 hlt] at ho
  cases ho
  obtain ⟨b,us,t,h1,h2,h3,h4⟩:=h.obj k _ hk
  exact ⟨b,us,t,h1,h2,hd us h3,h4⟩
 ·simp only [d3p hik] at ho
  exact h.obj i o ho
end
theorem P0.ownBox (s:S) (k i e:Nat) (z:Bool) {cs:List V} (hk:A9 s.o k=.box cs) (hi:v7 cs i=.em):P0 s ⟨s.t,J5 (A1 s.o (.row z e [])) k (.box (H0 cs i (.own (r8 s.o))))⟩:=by
 rintro I0 X w0 a w ⟨I,g,h⟩
 have hk2:=B4 hk (by simp)
 have hlt:=(d2Q.1 hk2).1
 have h2:=h.newObj (.row z e []) (.slice none 0 0) ⟨[],by rw [r9];exact World.ownsRow_nil w 0 e _,by simp,E0.nil I w,fun b hb=>by rw [r9] at hb;cases hb⟩ (fun j b _ _ hb=>by cases hb)
 have h3:RelI I0 X w0 I (upd g s.o.length (.slice none 0 0)) ⟨s.t,A1 s.o (.row z e [])⟩ a w:=h2
 refine ⟨I,upd g s.o.length (.slice none 0 0),?_⟩
 rw [H4,a1g]
 refine h3.rebox (cs:=cs) (by show (A1 s.o _)[k]?=_;rw [a1u,d3n hlt];exact hk2) fun us hus=>hus.reset fun v hv=>?_
 have hs:=a0Q hi (by simp)
 have h4:=hus.2 i v _ hv hs
 rw [h4.unem]
 exact .own _ _ _ _ (by rw [y5,r9];rfl)
section
variable {qa:_} {qb:_} {qc:_} {qd:_} {qe:_} {qg:_} {qh:_} {qi:_} {qj:_} {qk:_} {ql:_} {qm:_} {qo:_} {qp:_} {qq:_} {qt:_} {qu:_} {qv:_} {qw:_} {qx:_} {qy:_} {qz:_} {va:_} {vc:_} {vd:_} {ve:_} {vf:_} {vg:_} {vh:_} {vj:_} {vk:_} {vl:_} {vm:_} {vn:_} {vo:_} {vp:_} {vq:_} {vr:_} {vt:_} {vu:_} {vv:_} {vw:_} {vx:_} (hA:Ar.mk qa qb qc qd qe qg qh qi qj qk ql qm qo qp qq qt qu qv qw qx qy qz va vc vd ve vf vg vh vj vk vl vm vn vo vp vq vr vt vu vv vw vx=f7)
include hA
theorem a7u {N:S→Prop} {s:S} (k i e:Nat) (z:Bool) {cs:List V} (hk:A9 s.o k=.box cs) (hi:v7 cs i=.em) (h:N ⟨s.t,J5 (A1 s.o (.row z e [])) k (.box (H0 cs i (.own (r8 s.o))))⟩):vu N s:=a11 hA _ (P0.ownBox s k i e z hk hi) h
end
end
section
def a56:List O→Bool
 | []=>true
 | .box _::l=>a56 l
 | .row _ _ _::l=>a56 l
 | .mp _ _::l=>a56 l
 | _=>false
theorem a4J:∀ {l:List O},a56 l=true→∀ {i:Nat} {o:O},l[i]?=some o→(∃cs,o=.box cs)∨(∃z e r,o=.row z e r)∨∃k es,o=.mp k es
 | [],_,i,o,h=>by simp at h
 | x::l,hp,i,o,h=>by
  cases x with
  | box cs=>cases i with
   | zero=>simp at h;exact .inl ⟨cs,h.symm⟩
   | succ i=>exact a4J (l:=l) hp (i:=i) (by simpa using h)
  | row z e r=>cases i with
   | zero=>simp at h;exact .inr (.inl ⟨z,e,r,h.symm⟩)
   | succ i=>exact a4J (l:=l) hp (i:=i) (by simpa using h)
  | mp k es=>cases i with
   | zero=>simp at h;exact .inr (.inr ⟨k,es,h.symm⟩)
   | succ i=>exact a4J (l:=l) hp (i:=i) (by simpa using h)
  | _=>cases hp
def c5C (k:Nat):Option O→V
 | some (.row _ _ _)=>.own k
 | _=>.jk
def b1k (os:List O):List V:=(List.range os.length).map fun k=>c5C k os[k]?
theorem a94 {f:Nat} {vs:List V} {os:List O} {Q:List V→Prop} (hos:a56 os=true) (h:U9 f vs os fun x o' ks=>ks=[]∧o'=os∧∃res,x=a0K res∧Q res):B0 f vs os (fun res o2=>Q res∧o2=os):=by
 refine ⟨h.1,fun I w g args hrel=>?_⟩
 have hargs:m8 I w g args vs:=hrel.tmp
 have hself:m8 I w g ((List.range os.length).map fun k=>gv (g k)) (b1k os):=by
  refine ⟨by unfold b1k;simp,fun i u c hu hc=>?_⟩
  unfold b1k at hc
  rw [d3u] at hu hc
  cases hr:(List.range os.length)[i]? with
  | none=>rw [hr] at hu;cases hu
  | some k =>
   rw [hr] at hu hc
   simp only [d4b,Option.some.injEq] at hu hc
   subst hu
   subst hc
   have hk:k<os.length:=by
    have:=d3e hr
    simpa using this
   cases ho:os[k]? with
   | none=>exact AtV.jk _
   | some o =>
    cases o with
    | row z e rows =>
     obtain ⟨us,hw,_⟩:=hrel.obj k _ ho
     have e:=a28 hw
     obtain ⟨A,cap,hs⟩:=a1V hw
     show AtV I w g (gv (g k)) (.own k)
     rw [e,hs]
     exact .own _ _ _ _ (by rw [e,hs])
    | box cs=>exact AtV.jk _
    | mp kt es=>exact AtV.jk _
    | kl js=>exact AtV.jk _
    | it P=>exact AtV.jk _
    | ob T vs=>exact AtV.jk _
    | dead=>exact AtV.jk _
 have hrel':RelI I (Xof g os) ⟨w,g,os.length,[]⟩ I g ⟨vs++b1k os,os⟩ { tmps:=(args++(List.range os.length).map fun k=>gv (g k)).toArray,defers:=[] } w :=
  ⟨hrel.im,hrel.lt,hrel.fr,hrel.kp,hrel.lo,hrel.st,hrel.obj,hrel.dis,hrel.out,hargs.append hself,rfl,hrel.dfr.2⟩
 refine (h.2 I (Xof g os) ⟨w,g,os.length,[]⟩ I g _ _ w args hrel' hargs).mono ?_
 rintro e w' ⟨v,x,o',ks,I',g',rfl,h',hv,rfl,rfl,res,rfl,hQ⟩
 obtain ⟨us,rfl,hus⟩:=c5B hv
 refine ⟨us,res,_,I',g',rfl,⟨⟨hQ,rfl⟩,fun i hi=>?_⟩,⟨h'.im,h'.lt,h'.fr,h'.kp,h'.lo,h'.st,h'.obj,h'.dis,h'.out,hus,rfl,h'.dfr.2⟩⟩
 have ho:o'[i]?=some o'[i]:=d2P hi
 rcases a4J hos ho with ⟨cs,e⟩|⟨z,et,r,e⟩|⟨k,es,e⟩
 ·rw [e] at ho
  obtain ⟨b,us,t,h1,_⟩:=hrel.obj i _ ho
  exact h'.st i hi (by show a0p (g i)=true;rw [h1];rfl)
 ·rw [e] at ho
  obtain ⟨us1,hw1,_⟩:=hrel.obj i _ ho
  obtain ⟨us2,hw2,_⟩:=h'.obj i _ ho
  have e2:m8 I' w' g' (args++(List.range o'.length).map fun k=>gv (g k)) (vs++b1k o'):=h'.tmp
  have e3:=e2.2 (args.length+i) (gv (g i)) (.own i) (by rw [d3h (by omega)];simp [hi]) (by
   rw [hargs.1,d3h (by omega)]
   unfold b1k
   simp [hi,e,c5C])
  rw [←a28 hw1,←a28 hw2]
  exact e3.unown.1.symm
 ·rw [e] at ho
  obtain ⟨b,us,t,h1,_⟩:=hrel.obj i _ ho
  exact h'.st i hi (by show a0p (g i)=true;rw [h1];rfl)
def c5D (os:List O) (x:V):V:=match toR os x with|some r=>b9X r|none=>x
def a5j (os:List O):List V→List V
 | []=>[]
 | x::l=>c5D os x::a5j os l
theorem b21 {I0:Nat→Nat→Prop} {X:Nat→Prop} {w0:W0} {I:Nat→Nat→Prop} {g:Nat→Value} {s:S} {a:Act} {w:World} (h:RelI I0 X w0 I g s a w):∀ {us:List Value} {vs:List V},m8 I w g us vs→m8 I w g us (a5j s.o vs)
 | us,[],hv=>hv
 | us,x::vs,hv=>by
  obtain ⟨u,us',rfl,h1,h2⟩:=hv.uncons
  refine .cons ?_ (b21 h h2)
  unfold c5D
  split
  ·rename_i r hr
   exact a8k g (a6Z h h1 hr)
  ·exact h1
def b6Z (n:Nat) (K:List V→List O→Prop) (res:List V) (s:S):Prop:=match A9 (a2i 0 s.o) n with
 | .kl []=>match c3O n (a0K (a5j s.o res)) with|true=>K (a5j s.o res) (a5i n (a2i 0 s.o))|false=>False
 | _=>False
def c64 (a:Ar) (n:Nat) (K:List V→List O→Prop) (l:List ResultVar):Vm.X→S→Prop
 | .exit _,_=>False
 | .normal,s=>a53 a s l (fun vs=>b6Z n K vs s)
 | .ret,s=>a53 a s l (fun vs=>b6Z n K vs s)
theorem c65 {f:Nat} {fn:Func} {c:Code} {vs:List V} {o:List O} {Q:List V→Prop} (ho:a56 o=true) (hf:Tryz.prog.funcs[f]?=some fn) (hb:fn.body=some c) (hn:(fn.name != "runtime.NumGoroutine")=true) (hc:w8 Tryz.prog c=true) (hr:P3 fn.results.toList=true)
  (h:E1 f7 c (a30 vs o (fn.ntmps - F4 vs)) (fun x s=>c64 f7 (r8 o) (fun res o'=>o'=o∧Q res) fn.results.toList x s)):U9 f vs o fun x o' ks=>ks=[]∧o'=o∧∃res,x=a0K res∧Q res:=by
 refine ⟨by unfold a3s;rw [hf];simp only [hn,hb];rfl,?_⟩
 intro I0 X w0 I g t a w us hrel hv
 refine calls_of_wp hf hb ?_
 have hsz:us.toArray.size=F4 vs:=by rw [L9];simp [hv.1]
 rw [hsz]
 obtain ⟨g',hg,hgn,h1⟩:=hrel.rebase hv
 have hstart:RelI I (Xof g' (A1 o (.kl []))) ⟨w,g',o.length+1,[]⟩ I g' (a30 vs o (fn.ntmps - F4 vs)) { tmps:=us.toArray++Array.replicate (fn.ntmps - F4 vs) undef,defers:=[] } w:=by
  refine ⟨h1.im,h1.lt,h1.fr,h1.kp,h1.lo,h1.st,h1.obj,h1.dis,h1.out,?_,rfl,h1.dfr.2⟩
  show m8 I w _ (us.toArray++Array.replicate (fn.ntmps - F4 vs) undef).toList (a3H vs (uns (fn.ntmps - F4 vs)))
  rw [a1i,d45,a7p]
  refine m8.append h1.tmp ?_
  rw [d40]
  refine ⟨by simp,fun i u c hu hc=>?_⟩
  rw [d4i] at hu hc
  split at hu
  ·rename_i hi
   rw [d2S hi] at hc
   injection hu with hu
   injection hc with hc
   subst hu;subst hc
   exact .tu [] [] rfl fun i u c hu _=>by simp at hu
  ·cases hu
 refine a8s c _ _ _ _ _ hc ⟨I,_,hstart⟩ h fun e s' a' w' hrel2 hk=>?_
 have key:a53 f7 s' fn.results.toList (fun res=>b6Z (r8 o) (fun res o'=>o'=o∧Q res) res s')→a'.defers=[]∧∃v,(results fn a'.tmps).run Tryz.prog w'=.ok v w'∧∃v' x o' ks I' g',Ending.returned v=.returned v'∧RelI I0 X w0 I' g' ⟨C0 ks t,o'⟩ a w'∧AtV I' w' g' v' x∧ks=[]∧o'=o∧∃res,x=a0K res∧Q res:=fun hk=>by
  obtain ⟨I2,g2,h2⟩:=hrel2
  obtain ⟨us2,res,r1,r2,r3⟩:=a21 h2 hr hk
  unfold b6Z at r3
  split at r3 <;> try exact r3.elim
  rename_i hks
  split at r3 <;> try exact r3.elim
  rename_i hlow
  obtain ⟨r4,hQ⟩:=r3
  have hks':=B4 hks (by simp)
  rw [y5] at hks' r4 hlow
  rw [a6s] at r4
  have h2':=h2.trimKl
  obtain ⟨hcut,h3⟩:=hrel.unbase hg hgn h2' hks'
  have e:((a2i 0 s'.o).set o.length .dead).take o.length=o:=by
   rw [d4N (d3b _),r4]
  have h4:=h3.trim (n:=o.length) hrel.lo (by show o.length≤((a2i 0 s'.o).set _ _).length;rw [d3s,a7r];have:=h2.lo;show o.length≤s'.o.length;have h5:o.length+1≤s'.o.length:=h2.lo;omega) hcut (by show a2U _ (((a2i 0 s'.o).set _ _).take _)=true;rw [e];have:=hrel.low;exact this)
  have h5:(⟨C0 [] t,((a2i 0 s'.o).set o.length .dead).take o.length⟩:S)=⟨t,o⟩:=by rw [e];rfl
  refine ⟨h2.dfr.1,_,r1,pkg us2,a0K (a5j s'.o res),o,[],I2,a6h o.length g2,rfl,?_,b6R (fun k hk=>d2S hk) (b6T (b21 h2 r2)) hlow,rfl,rfl,_,rfl,hQ⟩
  show RelI I0 X w0 I2 _ ⟨t,o⟩ a w'
  rw [←h5]
  exact h4
 cases e with
 | normal=>exact key hk
 | exit i=>exact hk.elim
 | ret=>exact key hk
theorem a06 {f:Nat} {fn:Func} {c:Code} {vs:List V} {os:List O} {Q:List V→Prop} (hf:Tryz.prog.funcs[f]?=some fn) (hb:fn.body=some c) (hn:(fn.name != "runtime.NumGoroutine")=true) (hc:w8 Tryz.prog c=true) (hr:P3 fn.results.toList=true) (hos:a56 os=true)
  (h:∀qa qb qc qd qe qg qh qi qj qk ql qm qo qp qq qt qu qv qw qx qy qz va vc vd ve vf vg vh vj vk vl vm vn vo vp vq vr vt vu vv vw vx,Ar.mk qa qb qc qd qe qg qh qi qj qk ql qm qo qp qq qt qu qv qw qx qy qz va vc vd ve vf vg vh vj vk vl vm vn vo vp vq vr vt vu vv vw vx=f7→∀K:List V→List O→Prop,(∀res,Q res→K res os)→E1 (Ar.mk qa qb qc qd qe qg qh qi qj qk ql qm qo qp qq qt qu qv qw qx qy qz va vc vd ve vf vg vh vj vk vl vm vn vo vp vq vr vt vu vv vw vx) c (a30 vs os (fn.ntmps - F4 vs)) (fun x s=>c64 (Ar.mk qa qb qc qd qe qg qh qi qj qk ql qm qo qp qq qt qu qv qw qx qy qz va vc vd ve vf vg vh vj vk vl vm vn vo vp vq vr vt vu vv vw vx) (r8 os) K fn.results.toList x s)):B0 f vs os (fun res o2=>Q res∧o2=os) :=
 a94 hos (c65 hos hf hb hn hc hr (h _ _ _ _ _ _ _ _ _ _ _ _ _ _ _ _ _ _ _ _ _ _ _ _ _ _ _ _ _ _ _ _ _ _ _ _ _ _ _ _ _ _ _ (show Ar.mk f7.wrap f7.add f7.sub f7.mul f7.quo f7.rem f7.bits f7.lt f7.le f7.eq f7.nz f7.seq f7.slt f7.bytes f7.cat f7.fits f7.slen f7.sget f7.ssub f7.txt f7.byt f7.nat f7.len f7.get f7.sub2 f7.app f7.set f7.room f7.mlook f7.mput f7.deq f7.rep f7.call f7.calld f7.callo f7.callx f7.new f7.lit f7.keep f7.next f7.ext f7.reg f7.loop=f7 from rfl) _ fun res hq=>⟨rfl,hq⟩))
theorem a3c {f:Nat} {vs vs':List V} {os':List O} {o:List O} {ks:List Nat} {r:List V} (h:B0 f vs' os' (fun res o2=>res=r∧o2=os')) (hs:SubOk ks vs' os' vs ⟨[],o⟩) (hb:H3 ks (Z9 ks (r8 o) os') o=o):a8P f vs o (a0K (upT ks (r8 o) r)):=by
 have h1:=a3X h hs
 refine ⟨h1.1,fun I0 X w0 I g t a w us hrel hv=>(h1.2 I0 X w0 I g t a w us hrel hv).mono ?_⟩
 rintro e w' ⟨v,x,o',ks',I',g',rfl,h2,h3,rfl,res,os2,⟨rfl,rfl⟩,rfl,rfl⟩
 rw [hb] at h2
 exact ⟨_,I',g',rfl,h2,h3⟩
section
variable {qa:_} {qb:_} {qc:_} {qd:_} {qe:_} {qg:_} {qh:_} {qi:_} {qj:_} {qk:_} {ql:_} {qm:_} {qo:_} {qp:_} {qq:_} {qt:_} {qu:_} {qv:_} {qw:_} {qx:_} {qy:_} {qz:_} {va:_} {vc:_} {vd:_} {ve:_} {vf:_} {vg:_} {vh:_} {vj:_} {vk:_} {vl:_} {vm:_} {vn:_} {vo:_} {vp:_} {vq:_} {vr:_} {vt:_} {vu:_} {vv:_} {vw:_} {vx:_} (hA:Ar.mk qa qb qc qd qe qg qh qi qj qk ql qm qo qp qq qt qu qv qw qx qy qz va vc vd ve vf vg vh vj vk vl vm vn vo vp vq vr vt vu vv vw vx=f7)
include hA
theorem a6v {f:Nat} {vs:List V} {s:S} {K:V→S→Prop} (ks:List Nat) {vs':List V} {os':List O} {Q:List V→Prop} (h:B0 f vs' os' (fun res o2=>Q res∧o2=os')) (hs:SubOk ks vs' os' vs s) (hb:H3 ks (Z9 ks (r8 s.o) os') s.o=s.o) (hK:∀res,Q res→K (a0K (upT ks (r8 s.o) res)) s):vo f vs s K :=
 I4 hA ks h hs fun res os2 ⟨hq,e⟩=>by subst e;rw [hb];exact hK res hq
theorem b22 {f:Nat} {vs:List V} {o:List O} {K:V→Prop} (ks:List Nat) {vs':List V} {os':List O} {r:List V} (h:B0 f vs' os' (fun res o2=>res=r∧o2=os')) (hs:SubOk ks vs' os' vs ⟨[],o⟩) (hb:H3 ks (Z9 ks (r8 o) os') o=o) (hK:K (a0K (upT ks (r8 o) r))):vn f vs o K:=by
 have e:vn=f7.calld:=congrArg Ar.calld hA
 rw [e]
 exact ⟨_,a3c h hs hb,hK⟩
end
end
def dd:List Nat→List Nat
 | []=>[]
 | x::l=>match l.any (Nat.beq x) with|true=>dd l|false=>x::dd l
section
def a1P (i:Nat):List Nat→List Nat
 | []=>[]
 | x::l=>match U7 x i with|true=>a1P i l|false=>x::a1P i l
def b3U:List (List Nat)→Nat→List Nat
 | [],_=>[]
 | x::_,0=>x
 | _::l,n+1=>b3U l n
def b8x:List Oper→Nat→Option Oper
 | [],_=>none
 | x::_,0=>some x
 | _::l,n+1=>b8x l n
def a95:List Nat→List Nat→Bool
 | [],_=>true
 | j::m,l=>match b05 j l with|true=>false|false=>a95 m l
def b0A (an:List (List Nat)) (l:List Nat) (i:Nat):Bool:=a95 (b3U an i) l
def a3d (an:List (List Nat)) (l:List Nat):List Nat→Option Nat
 | []=>none
 | i::fr=>match b05 i l with
  | true=>match b0A an l i with|true=>some i|false=>a3d an l fr
  | false=>a3d an l fr
def b8y (an:List (List Nat)) (l:List Nat):List Nat→List Nat
 | []=>[]
 | i::m=>match b0A an l i with|true=>i::b8y an l m|false=>b8y an l m
def c66 (f:Nat→Prop):List Nat→Prop
 | []=>True
 | [i]=>f i
 | i::j::l=>f i∧c66 f (j::l)
theorem b7a {f:Nat→Prop}:∀ {l:List Nat},c66 f l→∀i∈l,f i
 | [],_,i,h=>by simp at h
 | [x],h,i,hi=>by simp at hi;subst hi;exact h
 | x::y::l,h,i,hi=>by
  rcases d3d.1 hi with rfl|hi
  ·exact h.1
  ·exact b7a h.2 i hi
def c67:Op→Bool
 | .move _=>true
 | .load _ _=>true
 | .fieldAddr _ _ _=>true
 | .field _ _ _=>true
 | .indexAddr _ _ _=>true
 | .extract _ _=>true
 | _=>false
def b7b:Oper→Bool
 | ⟨_,op,_,_,_,none⟩=>c67 op
 | _=>false
theorem b3V:∀(l:List (List Nat)) (i:Nat),b3U l i=l.getD i []
 | [],i=>by simp [b3U]
 | x::l,0=>rfl
 | x::l,i+1=>by rw [b3U,b3V l i];simp
theorem b23:∀(l:List Oper) (i:Nat),b8x l i=l[i]?
 | [],i=>by simp [b8x]
 | x::l,0=>rfl
 | x::l,i+1=>by rw [b8x,b23 l i];simp
theorem a13 {i j:Nat}:∀ {l:List Nat},j∈a1P i l↔j∈l∧j≠i
 | []=>by simp [a1P]
 | x::l=>by
  rw [a1P]
  cases e:U7 x i
  ·have:=a3q.1 e
   simp only [d3d,a13 (l:=l)]
   constructor
   ·rintro (rfl|h)
    ·exact ⟨.inl rfl,this⟩
    ·exact ⟨.inr h.1,h.2⟩
   ·rintro ⟨rfl|h,h2⟩
    ·exact .inl rfl
    ·exact .inr ⟨h,h2⟩
  ·have:=F5.1 e
   subst this
   simp only [a13 (l:=l),d3d]
   exact ⟨fun h=>⟨.inr h.1,h.2⟩,fun h=>⟨h.1.resolve_left h.2,h.2⟩⟩
theorem b1l {i j:Nat}:∀(l:List Nat),a1P i (a1P j l)=a1P j (a1P i l)
 | []=>rfl
 | x::l=>by
  cases e:U7 x i <;> cases e2:U7 x j <;> simp [a1P,e,e2,b1l l]
theorem b1m:∀ {m l:List Nat},a95 m l=true↔∀j∈m,j∉l
 | [],l=>by simp [a95]
 | a::m,l=>by
  rw [a95]
  cases e:b05 a l
  ·simp only [d4F,b1m (m:=m)]
   exact Iff.intro (fun h=>And.intro (fun hm=>(by rw [a4B.2 hm] at e;cases e)) h) fun h=>h.2
  ·simp only [d4F]
   exact Iff.intro (fun h=>(by cases h)) fun h=>absurd (a4B.1 e) h.1
theorem a57 {an:List (List Nat)} {l:List Nat} {i:Nat}:b0A an l i=true↔∀j∈an.getD i [],j∉l:=by
 rw [b0A,b3V,b1m]
theorem a96 {an:List (List Nat)} {l:List Nat} {i:Nat}:∀ {m:List Nat},i∈b8y an l m↔i∈m∧b0A an l i=true
 | []=>by simp [b8y]
 | x::m=>by
  rw [b8y]
  cases e:b0A an l x
  ·simp only [a96 (m:=m),d3d]
   refine Iff.intro (fun h=>⟨.inr h.1,h.2⟩) fun h=>⟨h.1.resolve_left fun e2=>?_,h.2⟩
   rw [e2,e] at h
   cases h.2
  ·simp only [d3d,a96 (m:=m)]
   constructor
   ·rintro (rfl|h)
    ·exact ⟨.inl rfl,e⟩
    ·exact ⟨.inr h.1,h.2⟩
   ·rintro ⟨rfl|h,h2⟩
    ·exact .inl rfl
    ·exact .inr ⟨h,h2⟩
theorem a31 {an:List (List Nat)} {l:List Nat} {i:Nat}:∀ {fr:List Nat},a3d an l fr=some i→i∈fr∧i∈l∧b0A an l i=true
 | [],h=>by cases h
 | x::fr,h=>by
  rw [a3d] at h
  split at h
  ·rename_i hm
   split at h
   ·rename_i hr
    injection h with h
    subst h
    exact ⟨d2V ..,a4B.1 hm,hr⟩
   ·obtain ⟨h1,h2⟩:=a31 h
    exact ⟨d2W _ h1,h2⟩
  ·obtain ⟨h1,h2⟩:=a31 h
   exact ⟨d2W _ h1,h2⟩
def b5D (ops:Array Oper) (o:Oper) (s:S) (K1:S→Prop):Prop:=∀(I0:Nat→Nat→Prop) (X:Nat→Prop) (w0:W0) (a:Act) (w:World) (ro:Option Nat) (n:Nat) (Q:Exit→Act→World→Prop) (Kw:Act→World→Prop),a1y Tryz.prog o.op=true→Rel I0 X w0 s a w→(∀s' a' w',Rel I0 X w0 s' a' w'→K1 s'→Kw a' w') →
 if Region.wanted o (yielded ops a.tmps) then o.wpIn (FW ro) n Tryz.prog a w Kw Q else (∀f,o.about Tryz.prog w a.eval=some f→(FW ro).fn f)∧Kw (a.put o.dst undef) w
theorem b5D.mono {ops:Array Oper} {o:Oper} {s:S} {K K':S→Prop} (h:b5D ops o s K) (hK:∀s,K s→K' s):b5D ops o s K' :=
 fun I0 X w0 a w ro n Q Kw hop hr hk=>h I0 X w0 a w ro n Q Kw hop hr fun s' a' w' h1 h2=>hk s' a' w' h1 (hK s' h2)
theorem b8z {ops:Array Oper} {o:Oper} {s:S} {K1:S→Prop} (h:a2w f7 (o6 ops.toList) [o] s K1):b5D ops o s K1:=by
 intro I0 X w0 a w ro n Q Kw hop hrel hKw
 obtain ⟨dst,op,type,pos,after,gd⟩:=o
 have hstep:a7C f7 s dst K1 op→Oper.wpIn (FW ro) n Tryz.prog ⟨dst,op,type,pos,after,gd⟩ a w Kw Q:=fun hs =>
  b0V (fun c hc=>a2W hop c hc) (Oper.wp_mono (fun a' w' ⟨s',h1,h2⟩=>hKw s' a' w' h1 h2) (b3K hrel (o:=⟨dst,op,type,pos,after,gd⟩) (Q:=Q) hop hs))
 have hskip:K1 (s.put dst vun)→Kw (a.put dst undef) w:=fun hs=>by
  obtain ⟨I,g,h⟩:=hrel
  exact hKw _ _ w ⟨I,g,h.put (x:=vun) (.tu [] [] rfl (fun i u c hu _=>by simp at hu)) dst⟩ hs
 cases gd with
 | none =>
  rw [d2S (by rfl)]
  rw [a2w] at h
  exact hstep h
 | some jb =>
  obtain ⟨j,b⟩:=jb
  rw [a2w] at h
  obtain ⟨c,hc,hK⟩:=a9i hrel h
  have hw:Region.wanted ⟨dst,op,type,pos,after,some (j,b)⟩ (yielded ops a.tmps)=(c == some b):=by simp [Region.wanted,hc]
  rw [hw]
  cases c with
  | none =>
   rw [d2T (by simp)]
   exact ⟨fun _ _=>trivial,hskip hK⟩
  | some c =>
   simp only at hK
   split at hK
   ·rename_i hb
    rw [a2A] at hb
    rw [d2S (by simpa using hb)]
    exact hstep hK
   ·rename_i hb
    rw [a2A] at hb
    rw [d2T (by simpa using hb)]
    exact ⟨fun _ _=>trivial,hskip hK⟩
theorem b7c {dsts:List (Option Nat)} {o:Oper} (ho:b7b o=true) {s:S} {K:S→Prop}:a2w f7 dsts [o] s K=o4 f7 dsts o s K:=by
 obtain ⟨dst,op,type,pos,after,gd⟩:=o
 cases gd with
 | some g=>cases ho
 | none =>
  have h:c67 op=true:=ho
  cases op <;> first|rfl|cases h
theorem b7d {l:List Nat} {i:Nat} (hn:l.Nodup) (hi:i∈l):(a1P i l).length+1=l.length:=by
 have e:∀l:List Nat,a1P i l=l.filter (· != i):=by
  intro l
  induction l with
  | nil=>rfl
  | cons x l ih =>
   rw [a1P,d4J]
   cases e:U7 x i
   ·have:=a3q.1 e;simp [this,ih]
   ·have:=F5.1 e;simp [this,ih]
 rw [e,←hn.erase_eq_filter,List.length_erase_of_mem hi]
 have:=List.length_pos_of_mem hi
 omega
theorem a58 {i:Nat}:∀ {l:List Nat},l.Nodup→(a1P i l).Nodup
 | [],_=>List.nodup_nil
 | x::l,h=>by
  obtain ⟨h1,h2⟩:=d47.1 h
  rw [a1P]
  cases U7 x i
  ·exact d47.2 ⟨fun hm=>h1 (a13.1 hm).1,a58 h2⟩
  ·exact a58 h2
section
variable {I0:Nat→Nat→Prop} {X:Nat→Prop} {w0:W0}
end
section
variable {qa:IntKind→Int→Int} {qb:Int→Int→Int} {qc:Int→Int→Int} {qd:Int→Int→Int} {qe:Int→Int→Int} {qg:Int→Int→Int} {qh:BinOp→IntKind→Int→IntKind→Int→Option Int} {qi:Int→Int→Bool} {qj:Int→Int→Bool} {qk:Int→Int→Bool} {ql:Int→Prop→Prop} {qm:List UInt8→List UInt8→Bool} {qo:List UInt8→List UInt8→Bool} {qp:ByteArray→List UInt8} {qq:ByteArray→ByteArray→ByteArray} {qt:ByteArray→ByteArray→Prop→Prop} {qu:ByteArray→Int} {qv:ByteArray→Int→Option Int} {qw:ByteArray→Int→Int→Option ByteArray} {qx:List (List D)→Option ByteArray} {qy:ByteArray→List (List D)} {qz:Int→Nat→Option Nat} {va:List (List D)→Int} {vc:List (List D)→Int→Option (List D)} {vd:List (List D)→Int→Int→Option (List (List D))} {ve:List (List D)→List (List D)→List (List D)} {vf:List (List D)→Int→List D→List (List D)} {vg:List (List D)→List (List D)→Prop→Prop} {vh:List (R×R)→R→Option R} {vj:List (R×R)→R→R→List (R×R)} {vk:List D→List D→Bool} {vl:Int→List D→(List (List D)→Prop)→Prop} {vm:Nat→List R→(List R→Prop)→Prop} {vn:Nat→List V→List O→(V→Prop)→Prop} {vo:Nat→List V→S→(V→S→Prop)→Prop} {vp:Nat→List V→List Nat→S→(V→S→Prop)→Prop} {vq:Nat→(Bool→Prop)→Prop} {vr:Nat→(Bool→Prop)→Prop} {vt:Nat→(List V→List O→Prop)→List V→S→Prop} {vu:(S→Prop)→S→Prop} {vv:Op→Option Nat→S→(S→Prop)→Prop} {vw:Array Oper→S→(S→Prop)→Prop} {vx:Code→(S→(X→S→Prop)→Prop)→S→(X→S→Prop)→Prop}
end
end
end Go.Proofs.YtahpnackkmbmgaaGreat.Vm
end
section
set_option maxRecDepth 10000
namespace Go.Proofs.YtahpnackkmbmgaaGreat.Vm
open Go.RowKit
section
def st1:V→Bool
 | .d _=>true
 | .ptr _ _=>true
 | .em=>true
 | _=>false
def c68:List V→Bool
 | []=>true
 | x::l=>match st1 x with|true=>c68 l|false=>false
def stB:V→Bool
 | .d _=>true
 | .ptr _ _=>true
 | .em=>true
 | .ag cs=>c68 cs
 | _=>false
def b5E (s:S):List Nat→Bool
 | []=>true
 | t::l=>match stB (v7 s.t t) with|true=>b5E s l|false=>false
def stD (s:S):Option Nat→Bool
 | some d=>stB (v7 s.t d)
 | none=>false
def c69:Op→Bool
 | .move _=>true
 | .fieldAddr _ _ _=>true
 | .field _ _ _=>true
 | .binOp _ _ _ _ _=>true
 | .build _ _=>true
 | .extract _ _=>true
 | .nilCheck _=>true
 | .convert t0 t _=>!(a1s (ty t0).kind && a1s (ty t).kind)
 | _=>false
def a97:Oper→Bool
 | ⟨some _,op,_,_,_,none⟩=>c69 op
 | _=>false
def b3W:Oper→Bool
 | ⟨_,.buildSlice _ (_+1) _,_,_,_,none⟩=>true
 | _=>false
def b3X:Oper→Bool
 | ⟨_,.call ⟨.value (.func _),_,_⟩,_,_,_,none⟩=>true
 | _=>false
def alU:Oper→Bool
 | ⟨_,.alloc _,_,_,_,none⟩=>true
 | _=>false
def slO:Oper→Bool
 | ⟨_,.slice _ _ _ _ _,_,_,_,none⟩=>true
 | _=>false
def frG (o:Oper):Bool:=slO o || b7b o || a97 o || b3W o || b3X o || alU o || b3M o
def b1n (all:List Oper) (an:List (List Nat)) (i:Nat):Bool:=match all[i]? with
 | some o=>a97 o && (List.range all.length).all fun j=>(an.getD i []).contains j || (an.getD j []).contains i || Nat.beq j i || match all[j]? with|some oj=>frG oj && Q6 o.dst (A3 (o6 all) oj) && Q6 oj.dst (A3 (o6 all) o) && o.dst != oj.dst|none=>true
 | none=>false
def c0Y (a:Ar) (dsts:List (Option Nat)) (o:Oper) (s:S) (K:S→Prop):Prop:=match b3W o with
 | true=>run a false dsts [o] s K
 | false=>a2w a dsts [o] s K
def b5F (a:Ar) (dsts:List (Option Nat)) (all:List Oper) (an:List (List Nat)) (fx:List Nat):Nat→List Nat→S→(S→Prop)→Prop
 | 0,_,s,K=>a.next K s
 | n+1,l,s,K=>match a3d an l fx with
  | some i=>match b8x all i with
   | some o=>match b5E s (A3 dsts o) with
    | true=>c0Y a dsts o s (fun s1=>match stD s1 o.dst with|true=>b5F a dsts all an fx n (a1P i l) s1 K|false=>False)
    | false=>False
   | none=>False
  | none=>c66 (fun i=>match b8x all i with
   | some o=>c0Y a dsts o s (fun s=>b5F a dsts all an fx n (a1P i l) s K)
   | none=>False) (b8y an l l)
def b7e (ops:Array Oper) (fx:List Nat):Bool :=
 let an:=M6 ops.toList []
 (List.range ops.size).all (fun i=>(an.getD i []).all fun j=>Nat.blt j i) && fx.all (b1n ops.toList an)
theorem b3Y {v:V} (h:stB v=true) (k:Nat):H1 k v=v:=by
 cases v with
 | d x=>rfl
 | ptr j o=>rfl
 | em=>rfl
 | ag cs =>
  rw [stB] at h
  rw [H1]
  congr 1
  induction cs with
  | nil=>rfl
  | cons x l ih =>
   rw [c68] at h
   split at h
   ·rename_i hx
    rw [C1,ih h]
    congr 1
    cases x <;> first|rfl|cases hx
   ·cases h
 | _=>cases h
theorem b1o:∀(ks:List Nat) (l:List V) (i:Nat),stB (v7 l i)=true→v7 (C0 ks l) i=v7 l i
 | [],l,i,h=>rfl
 | k::ks,l,i,h=>by
  have e:v7 (H9 k l) i=v7 l i:=by rw [a1X,b3Y h]
  rw [C0,b1o ks (H9 k l) i (by rw [e];exact h),e]
theorem b1p {v:V} (h:stB v=true):∀(ks:List Nat) (l:List V) (i:Nat),C0 ks (H0 l i v)=H0 (C0 ks l) i v
 | [],l,i=>rfl
 | k::ks,l,i=>by rw [C0,a7l,b3Y h,b1p h ks,C0]
theorem b24 {s:S}:∀ {l:List Nat},b5E s l=true→∀t∈l,stB (v7 s.t t)=true
 | [],_,t,ht=>by simp at ht
 | x::l,h,t,ht=>by
  rw [b5E] at h
  split at h
  ·rename_i hx
   rcases d3d.1 ht with rfl|ht
   ·exact hx
   ·exact b24 h t ht
  ·cases h
theorem b7f {s:S}:∀ {l:List Nat},(∀t∈l,stB (v7 s.t t)=true)→b5E s l=true
 | [],_=>rfl
 | x::l,h=>by
  rw [b5E,h x (d2V ..)]
  exact b7f fun t ht=>h t (d2W _ ht)
theorem b5G {op:Op} (h:c69 op=true):a5x op=true:=by cases op <;> first|rfl|cases h
theorem a98 {o:Oper} (h:a97 o=true):∃d op ty p a,o=⟨some d,op,ty,p,a,none⟩∧c69 op=true:=by
 obtain ⟨dst,op,ty,p,a,gd⟩:=o
 cases dst with
 | none=>cases h
 | some d =>
  cases gd with
  | none=>exact ⟨d,op,ty,p,a,rfl,h⟩
  | some g=>cases h
theorem b25 {dsts:List (Option Nat)} {o:Oper} (ho:a97 o=true) {s:S} {K:S→Prop}:a2w f7 dsts [o] s K=o4 f7 dsts o s K:=by
 obtain ⟨d,op,ty',p,a,rfl,h⟩:=a98 ho
 cases op
 case convert t0 t x =>
  have e:c8B s (.convert t0 t x)=false:=by
   have h:(!(a1s (ty t0).kind && a1s (ty t).kind))=true:=h
   show (match a1s (ty t0).kind with|true=>a1s (ty t).kind|false=>false)=false
   generalize a1s (ty t0).kind=x at *
   generalize a1s (ty t).kind=y at *
   cases x <;> cases y <;> first|rfl|cases h
  show a7C f7 s (some d) (fun s=>K s) _=_
  unfold a7C
  rw [e]
  rfl
 all_goals first|rfl|cases h
theorem b7g {o:Oper} (h:b3W o=true):∃dst t n ps ty p a,o=⟨dst,.buildSlice t (n+1) ps,ty,p,a,none⟩:=by
 obtain ⟨dst,op,ty,p,a,gd⟩:=o
 unfold b3W at h
 split at h
 ·rename_i e
  injection e with e1 e2 e3 e4 e5 e6
  subst e1 e2 e6
  exact ⟨_,_,_,_,_,_,_,rfl⟩
 ·cases h
theorem d1d {ops:Array Oper} {o:Oper} (hl:b3W o=true) {s:S} {K1:S→Prop} (h:o4 f7 (o6 ops.toList) o s K1):b5D ops o s K1:=by
 obtain ⟨dst,t,m,ps,type,pos,after,rfl⟩:=b7g hl
 intro I0 X w0 a w ro n Q Kw hop hrel hKw
 rw [d2S (by rfl)]
 obtain ⟨I,g,hr⟩:=hrel
 exact b0V (fun c hc=>a2W hop c hc) (Oper.wp_mono (fun a' w' ⟨s',h1,h2⟩=>hKw s' a' w' h1 h2) (b2p hr (m:=false) (o:=⟨dst,.buildSlice t (m+1) ps,type,pos,after,none⟩) (Q:=Q) hop h))
theorem b7h {dsts:List (Option Nat)} {o:Oper} (ho:slO o=true) {s:S} {K:S→Prop}:a2w f7 dsts [o] s K=o4 f7 dsts o s K:=by
 obtain ⟨dst,op,type,pos,after,gd⟩:=o
 cases gd <;> cases op <;> first|rfl|cases ho
def a7K (o:Oper):Bool:=slO o || b7b o || a97 o || b3W o
theorem c0Z {o:Oper} (h:a7K o=true):a6j o.op=true:=by
 unfold a7K at h
 rw [d36,d36,d36] at h
 rcases h with ((h|h)|h)|h
 ·obtain ⟨dst,op,type,pos,after,gd⟩:=o
  cases gd <;> cases op <;> first|rfl|cases h
 ·obtain ⟨dst,op,type,pos,after,gd⟩:=o
  cases gd with
  | some g=>cases h
  | none=>have h:c67 op=true:=h;cases op <;> first|rfl|cases h
 ·obtain ⟨d,op,ty,p,a,rfl,h⟩:=a98 h
  cases op <;> first|rfl|cases h
 ·obtain ⟨dst,t,m,ps,type,pos,after,rfl⟩:=b7g h
  rfl
def exH (ops:Array Oper) (o:Oper) (s:S) (K:S→Prop):Prop:=if a7K o=true then o4 f7 (o6 ops.toList) o s K else if (b3X o || alU o)=true then a2w f7 (o6 ops.toList) [o] s K else if b3M o=true then o4 f7 (o6 ops.toList) o s K else b5D ops o s K
theorem b7i {dsts:List (Option Nat)} {o:Oper} (ho:b3M o=true) {s:S} {K:S→Prop}:a2w f7 dsts [o] s K=o4 f7 dsts o s K:=by
 obtain ⟨dst,op,type,pos,after,gd⟩:=o
 cases gd <;> cases dst <;> cases op <;> first|rfl|cases ho
theorem b4a {o:Oper} (h:b3X o=true):∃dst f args ts ty p a,o=⟨dst,.call ⟨.value (.func f),args,ts⟩,ty,p,a,none⟩:=by
 obtain ⟨dst,op,ty,p,a,gd⟩:=o
 unfold b3X at h
 split at h
 ·rename_i e
  injection e with e1 e2 e3 e4 e5 e6
  subst e1 e2 e6
  exact ⟨_,_,_,_,_,_,_,rfl⟩
 ·cases h
theorem c1a {o:Oper} (h:alU o=true):∃dst e ty p a,o=⟨dst,.alloc e,ty,p,a,none⟩:=by
 obtain ⟨dst,op,ty,p,a,gd⟩:=o
 unfold alU at h
 split at h
 ·rename_i e
  injection e with e1 e2 e3 e4 e5 e6
  subst e1 e2 e6
  exact ⟨_,_,_,_,_,rfl⟩
 ·cases h
theorem c8Z {dsts:List (Option Nat)} {dst:Option Nat} {f:Nat} {args:Array Operand} {ts:Array TypeId} {ty:TypeId} {p:String} {a:Array Edge} {s:S} {K:S→Prop}:a2w f7 dsts [⟨dst,.call ⟨.value (.func f),args,ts⟩,ty,p,a,none⟩] s K=U9 f (L4 s.get args.toList) s.o (fun u o' ks=>K (S.put ⟨C0 ks s.t,o'⟩ dst u)):=rfl
theorem c5E {dsts:List (Option Nat)} {dst:Option Nat} {e:Nat} {ty:TypeId} {p:String} {a:Array Edge} {s:S} {K:S→Prop}:a2w f7 dsts [⟨dst,.alloc e,ty,p,a,none⟩] s K=match a4W (I7 (Vm.ty e).zero) with
  | true=>K ((s.obj (a6V e)).put dst (.ptr (r8 s.o) 0))
  | false=>False:=rfl
theorem exH.mono {ops:Array Oper} {o:Oper} {s:S} {K K':S→Prop} (h:exH ops o s K) (hK:∀s,K s→K' s):exH ops o s K':=by
 unfold exH at h ⊢
 split at h
 ·rename_i hr
  rw [d2S hr]
  exact a1z hK h
 ·rename_i hr
  rw [d2T hr]
  split at h
  ·rename_i hc
   rw [d2S hc]
   rw [d36] at hc
   rcases hc with hc|hc
   ·obtain ⟨dst,f,args,ts,ty,p,a,rfl⟩:=b4a hc
    rw [c8Z] at h ⊢
    exact h.mono fun _ _ _ hx=>hK _ hx
   ·obtain ⟨dst,e,ty,p,a,rfl⟩:=c1a hc
    rw [c5E] at h ⊢
    split at h
    ·exact hK _ h
    ·exact h.elim
  ·rename_i hc
   rw [d2T hc]
   split at h
   ·rename_i hs
    rw [d2S hs]
    exact a1z hK h
   ·rename_i hs
    rw [d2T hs]
    exact h.mono hK
theorem exH.sem {ops:Array Oper} {o:Oper} {s:S} {K:S→Prop} (h:exH ops o s K):b5D ops o s K:=by
 unfold exH at h
 split at h
 ·rename_i hr
  unfold a7K at hr
  rw [d36,d36,d36] at hr
  rcases hr with ((hr|hr)|hr)|hr
  ·rw [←b7h hr] at h
   exact b8z h
  ·rw [←b7c hr] at h
   exact b8z h
  ·rw [←b25 hr] at h
   exact b8z h
  ·exact d1d hr h
 ·split at h
  ·exact b8z h
  ·split at h
   ·rename_i hs
    rw [←b7i hs] at h
    exact b8z h
   ·exact h
theorem exH.of {ops:Array Oper} {o:Oper} {s:S} {K:S→Prop} (h:c0Y f7 (o6 ops.toList) o s K):exH ops o s K:=by
 unfold c0Y at h
 unfold exH
 split at h
 ·rename_i hl
  rw [d2S (by unfold a7K;rw [hl,Bool.or_true])]
  exact h
 ·rename_i hl
  split
  ·rename_i hr
   unfold a7K at hr
   rw [hl,Bool.or_false,d36,d36] at hr
   rcases hr with (hr|hr)|hr
   ·rw [←b7h hr]
    exact h
   ·rw [←b7c hr]
    exact h
   ·rw [←b25 hr]
    exact h
  ·split
   ·exact h
   ·split
    ·rename_i hs
     rw [←b7i hs]
     exact h
    ·exact b8z h
theorem c1b {ops:Array Oper} {o:Oper} (hf:frG o=true) {d:Nat} {v:V} {s:S} {K:S→Prop} (hl:Q6 (some d) (A3 (o6 ops.toList) o)=true) (h:exH ops o (s.put (some d) v) K):exH ops o s (fun s'=>∃ks o' u,s'=S.put ⟨C0 ks s.t,o'⟩ o.dst u∧K (S.put ⟨C0 ks (s.put (some d) v).t,o'⟩ o.dst u)):=by
 unfold exH at h ⊢
 split at h
 ·rename_i hr
  rw [d2S hr]
  obtain ⟨u,h1,h2⟩:=a6l (c0Z hr) h
  exact h2 s _ (P1 (M2 hl)).symm ⟨[],s.o,u,rfl,h1⟩
 ·rename_i hr
  rw [d2T hr]
  by_cases hc:(b3X o || alU o)=true
  case neg =>
   have hs:b3M o=true:=by
    unfold frG at hf
    unfold a7K at hr
    cases h1:b7b o <;> cases h2:a97 o <;> cases h3:b3W o <;> cases h4:slO o <;> simp_all
   rw [d2T hc,d2S hs] at h ⊢
   obtain ⟨o',h1,h2⟩:=a9n hs h
   have hd:o.dst=none:=by
    unfold b3M at hs
    simp only [d2Z,d4L] at hs
    exact hs.2
   exact h2 s _ rfl (fun t ht=>(a1Y hl t ht).symm) ⟨[],o',.em,by rw [hd];rfl,by rw [hd];exact h1⟩
  rw [d2S hc] at h ⊢
  rw [d36] at hc
  rcases hc with hc|hc
  ·obtain ⟨dst,f,args,ts,ty,p,a,rfl⟩:=b4a hc
   rw [c8Z] at h ⊢
   have hargs:∀l:List Operand,(∀z∈l,z∈args.toList)→L4 (s.put (some d) v).get l=L4 s.get l:=by
    intro l
    induction l with
    | nil=>intro _;rfl
    | cons z l ih =>
     intro hz
     rw [L4,L4,ih fun z' h'=>hz z' (d2W _ h')]
     congr 1
     cases z with
     | tmp i =>
      show v7 (s.put (some d) v).t i=v7 s.t i
      refine a1Y hl i ?_
      unfold A3
      refine d4C _ (a6k ?_)
      have h0:Operand.tmp i∈args:=by simpa using hz _ (d2V ..)
      simp [Op.operands,Call.operands,h0]
     | _=>rfl
   rw [hargs _ fun z hz=>hz] at h
   exact h.mono fun u o' ks hx=>⟨ks,o',u,rfl,hx⟩
  ·obtain ⟨dst,e,ty,p,a,rfl⟩:=c1a hc
   rw [c5E] at h ⊢
   split at h
   ·exact ⟨[],_,_,rfl,h⟩
   ·exact h.elim
def PtB (dsts:List (Option Nat)) (o:Oper) (s:S) (v:V):Prop:=∀(s':S) (K':S→Prop),a9m (A3 dsts o) s s'→K' (s'.put o.dst v)→o4 f7 dsts o s' K'
def b80 (ops:Array Oper) (K:S→Prop):Nat→List Nat→S→Prop
 | 0,l,s=>f7.next K s
 | n+1,l,s=>(∃i o v,i∈l∧b0A (M6 ops.toList []) l i=true∧b1n ops.toList (M6 ops.toList []) i=true∧ops.toList[i]?=some o∧b5E s (A3 (o6 ops.toList) o)=true∧stB v=true∧PtB (o6 ops.toList) o s v∧b80 ops K n (a1P i l) (s.put o.dst v)) ∨
   ∀i,i∈l→b0A (M6 ops.toList []) l i=true→∃o,ops.toList[i]?=some o∧exH ops o s (b80 ops K n (a1P i l))
theorem b5H {ops:Array Oper} {fx:List Nat} (hfx:∀i∈fx,b1n ops.toList (M6 ops.toList []) i=true):∀ {n:Nat} {l:List Nat} {s:S} {K:S→Prop},b5F f7 (o6 ops.toList) ops.toList (M6 ops.toList []) fx n l s K→b80 ops K n l s
 | 0,l,s,K,h=>h
 | n+1,l,s,K,h=>by
  rw [b5F] at h
  split at h
  ·rename_i i hi
   obtain ⟨h1,h2,h3⟩:=a31 hi
   split at h <;> try exact h.elim
   rename_i o ho
   rw [b23] at ho
   split at h <;> try exact h.elim
   rename_i hst
   have hb:a97 o=true:=by
    have:=hfx i h1
    unfold b1n at this
    rw [ho] at this
    simp only [d2Z] at this
    exact this.1
   have hnl:b3W o=false:=by
    obtain ⟨d,op,ty,p,a,rfl,hop⟩:=a98 hb
    cases op <;> first|rfl|cases hop
   unfold c0Y at h
   rw [hnl] at h
   simp only at h
   rw [b25 hb] at h
   obtain ⟨d,op,ty,p,a,e,hop⟩:=a98 hb
   obtain ⟨v,g1,g2⟩:=a6m (by rw [e];exact b5G hop) h
   split at g1 <;> try exact g1.elim
   rename_i hsd
   refine .inl ⟨i,o,v,h2,h3,hfx i h1,ho,hst,?_,g2,b5H hfx g1⟩
   rw [e] at hsd
   have hsd:stB (v7 (H0 s.t d v) d)=true:=hsd
   rcases a2C (v:=v) (l:=s.t) (i:=d) with e2|e2
   ·rw [e2] at hsd;exact hsd
   ·rw [e2] at hsd;cases hsd
  ·refine .inr fun i hi hr=>?_
   have h4:=b7a h i (a96.2 ⟨hi,hr⟩)
   split at h4 <;> try exact h4.elim
   rename_i o ho
   rw [b23] at ho
   exact ⟨o,ho,(exH.of h4).mono fun s hs=>b5H hfx hs⟩
theorem b4b {ops:Array Oper} {K:S→Prop}:∀ {n:Nat} {l:List Nat} {s:S},b80 ops K (n+1) l s→l.Nodup→l.length=n+1→∀ {j:Nat} {oj:Oper},j∈l→b0A (M6 ops.toList []) l j=true→ops.toList[j]?=some oj→exH ops oj s (b80 ops K n (a1P j l))
 | n,l,s,h,hn,hl,j,oj,hj,hr,ho=>by
  rcases h with ⟨i,o,v,hi,hri,hf,hoi,hst,hv,hpt,h⟩|h
  ·have hf0:=hf
   unfold b1n at hf
   rw [hoi] at hf
   simp only [d2Z] at hf
   by_cases e:i=j
   ·subst e
    rw [hoi] at ho
    cases ho
    unfold exH
    rw [d2S (by unfold a7K;rw [hf.1,Bool.or_true,Bool.true_or])]
    exact hpt s _ (fun _ _=>rfl) h
   ·cases n with
    | zero =>
     match l,hl with
     | [x],_=>simp at hi hj;omega
    | succ n =>
     have hd:=b7d hn hi
     have h1:=b4b h (a58 hn) (by omega) (a13.2 ⟨hj,fun e2=>e e2.symm⟩) (a57.2 fun k hk hm=>a57.1 hr k hk (a13.1 hm).1) ho
     have hjlt:j<ops.toList.length:=(d2Q.1 ho).1
     have h2:=d3z.1 hf.2 j (by simpa using hjlt)
     rw [ho] at h2
     simp only [d36,d2Z,d3Y,Nat.beq_eq] at h2
     obtain ⟨d,op,ty,p,a,eo,hop⟩:=a98 hf.1
     rcases h2 with ((h2|h2)|h2)|⟨⟨⟨h2,h3⟩,h4⟩,h5⟩
     ·exact absurd hj (a57.1 hri j h2)
     ·exact absurd hi (a57.1 hr i h2)
     ·exact absurd h2.symm e
     ·have hdst:o.dst=some d:=by rw [eo]
      rw [hdst] at h1 h3 h5
      refine (c1b h2 h3 h1).mono fun s' ⟨ks,o',u,e1,hK⟩=>?_
      have hsame:a9m (A3 (o6 ops.toList) o) s s':=fun t ht=>by
       rw [e1,a1Y h4 t ht]
       exact b1o ks s.t t (b24 hst t ht)
      refine .inl ⟨i,o,v,a13.2 ⟨hi,e⟩,a57.2 fun k hk hm=>a57.1 hri k hk (a13.1 hm).1,hf0,hoi,b7f fun t ht=>by rw [hsame t ht];exact b24 hst t ht,hv,fun s2 K' hs hk=>hpt s2 K' (fun t ht=>(hs t ht).trans (hsame t ht)) hk,?_⟩
      rw [b1l,hdst,e1]
      have hcm:(S.put ⟨C0 ks s.t,o'⟩ oj.dst u).put (some d) v=S.put ⟨C0 ks (s.put (some d) v).t,o'⟩ oj.dst u:=by
       rw [a2Z (fun z hz hz'=>by rw [hz,←hz'] at h5;simp at h5)]
       show S.put ⟨H0 (C0 ks s.t) d v,o'⟩ oj.dst u=S.put ⟨C0 ks (H0 s.t d v),o'⟩ oj.dst u
       rw [b1p hv]
      rw [hcm]
      exact hK
  ·obtain ⟨o,ho',h⟩:=h j hj hr
   rw [ho] at ho'
   cases ho'
   exact h
section
variable {I0:Nat→Nat→Prop} {X:Nat→Prop} {w0:W0}
theorem c6A {ro:Option Nat} {n:Nat} {ops:Array Oper} {Q:Exit→Act→World→Prop} {K:S→Prop} (hQ:∀s' a' w',Rel I0 X w0 s' a' w'→K s'→Q .normal a' w') (hok:∀o∈ops.toList,a1y Tryz.prog o.op=true) (hd:∀i,i<ops.size→∀j∈(M6 ops.toList []).getD i [],j<i):∀(fuel:Nat) (l:List Nat) (listed:Array Bool) (s:S) (a:Act) (w:World),l.length=fuel→listed.size=ops.size→l.Pairwise (·<·)→(∀i,i∈l↔i<ops.size∧listed.getD i true=false)→(∀i,i<ops.size→listed.getD i false=true→∀j∈(M6 ops.toList []).getD i [],listed.getD j false=true)→Rel I0 X w0 s a w→b80 ops K fuel l s→wpAnyIn (FW ro) n Tryz.prog .any ops Q fuel listed a w:=by
 intro fuel
 induction fuel with
 | zero =>
  intro l listed s a w hl hsz hp hmem hcl hrel hK
  obtain rfl:=List.length_eq_zero_iff.1 hl
  obtain ⟨F,hg,hk⟩:=hK
  obtain ⟨s',hf,hr'⟩:=hg _ _ _ _ _ hrel
  refine ⟨?_,hQ _ _ _ hr' (hk s' hf)⟩
  cases hr:Region.ready .any ops listed with
  | nil=>rfl
  | cons x xs =>
   obtain ⟨h1,o,h2,_⟩:=mem_ready.1 (show x∈Region.ready .any ops listed by rw [hr];exact d2V ..)
   have:=(hmem x).2 ⟨(d3i.1 h2).1,h1⟩
   simp at this
 | succ fuel ih =>
  intro l listed s a w hl hsz hp hmem hcl hrel hK
  have un:∀j,j∈l→listed.getD j false=true→False:=fun j hj h=>by
   obtain ⟨h1,h2⟩:=(hmem j).1 hj
   simp [hsz,h1] at h h2
   rw [h2] at h;cases h
  refine ⟨fun hr=>?_,fun i hi=>?_⟩
  ·exfalso
   cases l with
   | nil=>simp at hl
   | cons i0 rest =>
    obtain ⟨h1,h2⟩:=(hmem i0).1 (d2V ..)
    obtain ⟨o,ho⟩:∃o,ops[i0]?=some o:=⟨_,d3N h1⟩
    have:i0∈Region.ready .any ops listed:=mem_ready.2 ⟨h2,o,ho,fun e he hb=>by
     have h3:e.on∈(M6 ops.toList []).getD i0 []:=by
      rw [b6Q ho (hd i0 h1)]
      exact d3K.2 ⟨e.on,a9y he hb,d2V ..⟩
     have h4:=hd i0 h1 _ h3
     have h5:¬(e.on∈i0::rest):=fun hm=>by
      rcases d3d.1 hm with hm|hm
      ·omega
      ·have:=(d3G.1 hp).1 _ hm
       omega
     have h6:listed.getD e.on true=true:=by
      cases hx:listed.getD e.on true with
      | true=>rfl
      | false=>exact absurd ((hmem e.on).2 ⟨by omega,hx⟩) h5
     have hlt:e.on<listed.size:=by omega
     simpa [hlt] using h6⟩
    rw [hr] at this
    simp at this
  ·obtain ⟨h1,o,ho,hall⟩:=mem_ready.1 hi
   have hlt:=(d3i.1 ho).1
   have hil:i∈l:=(hmem i).2 ⟨hlt,h1⟩
   have han:∀j∈(M6 ops.toList []).getD i [],listed.getD j false=true:=fun j hj=>by
    rw [b6Q ho (hd i hlt)] at hj
    obtain ⟨k,hk,hj⟩:=d3K.1 hj
    obtain ⟨e,he,hek⟩:=d4r.1 hk
    obtain ⟨he1,he2⟩:=d41.1 he
    subst hek
    have h3:=hall e (by simpa using he1) he2
    rcases d3d.1 hj with rfl|hj
    ·exact h3
    ·have:e.on<ops.size:=by
      rcases d3M e.on listed.size with h'|h'
      ·omega
      ·simp [Array.getElem?_eq_none h'] at h3
     exact hcl _ this h3 j hj
   have hot:ops.toList[i]?=some o:=by rw [d3E];exact ho
   have hnd:l.Nodup:=hp.imp fun h=>Nat.ne_of_lt h
   have hf:=(b4b hK hnd hl hil (a57.2 fun j hj hm=>un j hm (han j hj)) hot).sem
   have key:=hf I0 X w0 a w ro n Q (wpAnyIn (FW ro) n Tryz.prog .any ops Q fuel (listed.setIfInBounds i true)) (hok o (d3e hot)) hrel (fun s' a' w' hrel' hK'=>by
    have hsub:(a1P i l).Pairwise (·<·):=by
     have e:∀l:List Nat,(a1P i l).Sublist l:=by
      intro l
      induction l with
      | nil=>exact .slnil
      | cons x l ih =>
       rw [a1P]
       cases U7 x i
       ·exact ih.cons_cons x
       ·exact ih.cons x
     exact hp.sublist (e l)
    refine ih (a1P i l) _ s' a' w' (by have:=b7d hnd hil;omega) (by simpa using hsz) hsub (fun k=>?_) (fun k hk hkl j hj=>?_) hrel' hK'
    ·rw [a13]
     by_cases hik:i=k
     ·subst hik
      refine ⟨fun hm=>absurd rfl hm.2,fun hm=>?_⟩
      have h6:=hm.2
      have hlt':i<listed.size:=by omega
      simp [hlt'] at h6
     ·rw [getD_set_ne true hik,←hmem k]
      exact ⟨fun h=>h.1,fun h=>⟨h,fun e=>hik e.symm⟩⟩
    ·by_cases hik:i=k
     ·subst hik
      exact getD_set_true (han j hj)
     ·rw [getD_set_ne false hik] at hkl
      exact getD_set_true (hcl k hk hkl j hj))
   unfold wpOpIn
   rw [ho]
   simp only
   split at key
   ·rename_i hw
    rw [d2S hw]
    exact key
   ·rename_i hw
    rw [d2T hw]
    exact key
end
theorem c3R {ops:Array Oper} {fx:List Nat} (hp:b7e ops fx=true) {s:S} {K:S→Prop} (h:b5F f7 (o6 ops.toList) ops.toList (M6 ops.toList []) fx ops.size (List.range ops.size) s K):f7.reg ops s K:=by
 intro I0 X w0 a w ro n Q hok hrel hQ
 unfold b7e at hp
 simp only [d2Z] at hp
 have hd:∀i,i<ops.size→∀j∈(M6 ops.toList []).getD i [],j<i:=fun i hi j hj=>by
  have h1:=d3z.1 hp.1 i (by simpa using hi)
  simpa [d3Z] using d3z.1 h1 j hj
 have hfx:∀i∈fx,b1n ops.toList (M6 ops.toList []) i=true:=fun i hi=>d3z.1 hp.2 i hi
 refine c6A hQ hok hd ops.size (List.range ops.size) _ s a w (by simp) (by simp) List.pairwise_lt_range (fun i=>?_) (fun i hi h=>?_) hrel (b5H hfx h)
 ·rw [d4Z]
  exact ⟨fun hi=>⟨hi,by simp [hi]⟩,fun h=>h.1⟩
 ·simp [hi] at h
section
variable {qa:_} {qb:_} {qc:_} {qd:_} {qe:_} {qg:_} {qh:_} {qi:_} {qj:_} {qk:_} {ql:_} {qm:_} {qo:_} {qp:_} {qq:_} {qt:_} {qu:_} {qv:_} {qw:_} {qx:_} {qy:_} {qz:_} {va:_} {vc:_} {vd:_} {ve:_} {vf:_} {vg:_} {vh:_} {vj:_} {vk:_} {vl:_} {vm:_} {vn:_} {vo:_} {vp:_} {vq:_} {vr:_} {vt:_} {vu:_} {vv:_} {vw:_} {vx:_} (hA:Ar.mk qa qb qc qd qe qg qh qi qj qk ql qm qo qp qq qt qu qv qw qx qy qz va vc vd ve vf vg vh vj vk vl vm vn vo vp vq vr vt vu vv vw vx=f7)
include hA
theorem a8u {ops:Array Oper} (fx:List Nat) (hp:b7e ops fx=true) {s:S} {K:S→Prop} (h:b5F (Ar.mk qa qb qc qd qe qg qh qi qj qk ql qm qo qp qq qt qu qv qw qx qy qz va vc vd ve vf vg vh vj vk vl vm vn vo vp vq vr vt vu vv vw vx) (o6 ops.toList) ops.toList (M6 ops.toList []) fx ops.size (List.range ops.size) s K):vw ops s K:=by
 have e:vw=f7.reg:=congrArg Ar.reg hA
 rw [e]
 rw [hA] at h
 exact c3R hp h
end
end
end Go.Proofs.YtahpnackkmbmgaaGreat.Vm
end
section
namespace Go.Proofs.YtahpnackkmbmgaaGreat.Vm
open Go.RowKit
set_option maxRecDepth 100000
set_option maxHeartbeats 4000000
section
section
variable {qa:_} {qb:_} {qc:_} {qd:_} {qe:_} {qg:_} {qh:_} {qi:_} {qj:_} {qk:_} {ql:_} {qm:_} {qo:_} {qp:_} {qq:_} {qt:_} {qu:_} {qv:_} {qw:_} {qx:_} {qy:_} {qz:_} {va:_} {vc:_} {vd:_} {ve:_} {vf:_} {vg:_} {vh:_} {vj:_} {vk:_} {vl:_} {vm:_} {vn:_} {vo:_} {vp:_} {vq:_} {vr:_} {vt:_} {vu:_} {vv:_} {vw:_} {vx:_} (hA:Ar.mk qa qb qc qd qe qg qh qi qj qk ql qm qo qp qq qt qu qv qw qx qy qz va vc vd ve vf vg vh vj vk vl vm vn vo vp vq vr vt vu vv vw vx=f7)
include hA
theorem ew {k:IntKind} {x y z:Int} (h:k.wrap (x+y)=z):qa k (qb x y)=z:=by
 obtain ⟨e1,e2,_⟩:=j7 hA
 rw [e1,e2,h]
theorem eb {x y:Int} {b:Bool} (h:(x == y)=b):qk x y=b:=by
 obtain ⟨_,_,_,_,_,_,_,_,e9⟩:=j7 hA
 rw [e9,h]
theorem ebr {x:Int}:qk x x=true:=eb hA (d3C x)
theorem el {x y:Int} {b:Bool} (h:decide (x<y)=b):qi x y=b:=by
 obtain ⟨_,_,_,_,_,_,e7,_⟩:=j7 hA
 rw [e7,h]
theorem eln {x:Int} {r:List (List D)} {b:Bool} (h:decide (x<(r.length:Int))=b):qi x (va r)=b:=by
 obtain ⟨e,_⟩:=A8 hA
 rw [e,el hA h]
theorem eg {r:List (List D)} {a:Int} {c:List D} (h:f7.get r a=some c):vc r a=some c:=by
 have e:vc=f7.get:=congrArg Ar.get hA
 rw [e,h]
theorem ea (x y:List (List D)):ve x y=x++y:=by
 obtain ⟨_,_,_,e⟩:=A8 hA
 rw [e]
theorem es {x y:ByteArray} {b:Bool} (h:(x.toList == y.toList)=b):qm (qp x) (qp y)=b:=by
 obtain ⟨s1,_,s3,_⟩:=G1 hA
 rw [s1,s3,s3,h]
theorem esl (x y:ByteArray):qm (qp x) (qp y)=(x.data.toList == y.data.toList):=by
 obtain ⟨s1,_,s3,_⟩:=G1 hA
 rw [s1,s3,s3,ByteArray.toList_eq,ByteArray.toList_eq]
theorem esr {x:ByteArray}:qm (qp x) (qp x)=true:=es hA (d3C _)
theorem c6B {ops:Array Oper} {n:Nat} (hn:ops.size=n) (fx:List Nat) (hp:b7e ops fx=true) {s:S} {K:S→Prop} (s':S) (h:∀K:S→Prop,K s'→b5F (Ar.mk qa qb qc qd qe qg qh qi qj qk ql qm qo qp qq qt qu qv qw qx qy qz va vc vd ve vf vg vh vj vk vl vm vn vo vp vq vr vt vu vv vw vx) (o6 ops.toList) ops.toList (M6 ops.toList []) fx ops.size (List.range ops.size) s K) (hK:K s'):vw ops s K:=a8u hA fx hp (h K hK)
theorem A4 {f:Nat} {vs vs' r:List V} {s:S} {K:V→S→Prop} (ks:List Nat) {os' o2:List O} (h:v8 f vs' os' (fun res os=>res=r∧os=o2)) (hK:K (a0K (upT ks (r8 s.o) r)) (a2O ks o2 s)) (hs:SubOk ks vs' os' vs s:=by exact ⟨rfl,rfl,rfl,rfl,rfl,rfl,rfl⟩):vo f vs s K :=
 y6 hA ks h hs fun _ _ ⟨e1,e2⟩=>by rw [e1,e2];exact hK
theorem cx {f:Nat} {vs vs' r:List V} {l:List Nat} {s:S} {K:V→S→Prop} (ks:List Nat) {os' o2:List O} (h:v8 f vs' os' (fun res os=>res=r∧os=o2)) (hK:K (a0K (upT ks (r8 s.o) r)) ⟨s.t,H3 ks (Z9 ks (r8 s.o) o2) s.o⟩) (hb:b5C os'=true:=by rfl) (hs:SubOk ks vs' os' vs s:=by exact ⟨rfl,rfl,rfl,rfl,rfl,rfl,rfl⟩)
  (hk:a3t l s.t s.o (H3 ks (Z9 ks (r8 s.o) o2) s.o):=by repeat (first|exact a92 _ _ _|refine a7J (fun k hk=>by injection hk with hk;subst hk;rfl) ?_)):vp f vs l s K :=
 b3T hA ks (v8.box h hb) hs fun _ _ ⟨e1,e2⟩=>by rw [e1,e2];exact ⟨hk,hK⟩
theorem rdx {f:Nat} {vs vs' r:List V} {s:S} {K:V→S→Prop} (ks:List Nat) {os':List O} (h:B0 f vs' os' (fun res o2=>res=r∧o2=os')) (hK:K (a0K (upT ks (r8 s.o) r)) s) (hs:SubOk ks vs' os' vs s:=by exact ⟨rfl,rfl,rfl,rfl,rfl,rfl,rfl⟩) (hb:H3 ks (Z9 ks (r8 s.o) os') s.o=s.o:=by rfl):vo f vs s K :=
 a6v hA ks h hs hb fun _ e=>by rw [e];exact hK
theorem rdq {f:Nat} {vs vs' r:List V} {o:List O} {K:V→Prop} (ks:List Nat) {os':List O} (h:B0 f vs' os' (fun res o2=>res=r∧o2=os')) (hK:K (a0K (upT ks (r8 o) r))) (hs:SubOk ks vs' os' vs ⟨[],o⟩:=by exact ⟨rfl,rfl,rfl,rfl,rfl,rfl,rfl⟩) (hb:H3 ks (Z9 ks (r8 o) os') o=o:=by rfl):vn f vs o K:=b22 hA ks h hs hb hK
theorem eL {L z:Int} (hL:0≤L∧L≤1048576) (e:z=L+1):qa .i64 (qb L 1)=z:=ew hA (by rw [IntWalk.i64_in _ (by omega)];exact e.symm)
end
theorem I5 {p:Prop} (h:p:=by
  iterate 2 (all_goals try cbv;repeat' (first|(with_reducible apply f8 hA;exact hk)|((first|with_reducible apply f8 hA|rw [q0]|rw [q1]|rw [q2]|rw [q3]|rw [q4]|rw [q5]|rw [q6]|rw [q7]|rw [ew hA w0]|rw [ew hA w1]|rw [ew hA w2]|rw [ew hA w3]|rw [ew hA w4]|rw [ew hA w5]|rw [ew hA w6]|rw [ew hA w7]|rw [qL]|rw [eb hA b0]|rw [eb hA b1]|rw [eb hA b2]|rw [eb hA b3]|rw [eb hA b4]|rw [eb hA b5]|rw [eb hA b6]|rw [eb hA b7]|rw [eb hA b8]|rw [eb hA b9]|rw [el hA l0]|rw [el hA l1]|rw [el hA l2]|rw [el hA l3]|rw [eln hA l0]|rw [eln hA l1]|rw [eg hA g0]|rw [eg hA g1]|rw [eg hA g2]|rw [eg hA g3]|rw [eg hA g4]|rw [eg hA g5]|rw [es hA x0]|rw [es hA x1]|rw [es hA x2]|rw [es hA x3]|rw [esl hA]|rw [ebr hA]|rw [esr hA]|rw [ea hA]|refine A4 hA [0,1] p0 ?_|refine cx hA [0,1] p0 ?_|refine A4 hA [0,1] p1 ?_|refine cx hA [0,1] p1 ?_|refine A4 hA [0,1] p2 ?_|refine cx hA [0,1] p2 ?_|refine A4 hA [0,1] p3 ?_|refine cx hA [0,1] p3 ?_|refine A4 hA [0,1] p4 ?_|refine cx hA [0,1] p4 ?_|refine A4 hA [0,1] p5 ?_|refine cx hA [0,1] p5 ?_|refine A4 hA [0,1] p6 ?_|refine cx hA [0,1] p6 ?_|refine A4 hA [0,1] p7 ?_|refine cx hA [0,1] p7 ?_|refine A4 hA [0,1] p8 ?_|refine cx hA [0,1] p8 ?_|refine A4 hA [0,1] p9 ?_|refine cx hA [0,1] p9 ?_|refine A4 hA [0,1] p10 ?_|refine cx hA [0,1] p10 ?_|refine A4 hA [0,1] p11 ?_|refine cx hA [0,1] p11 ?_|refine A4 hA [0,1] p12 ?_|refine cx hA [0,1] p12 ?_|refine A4 hA [0,1] p13 ?_|refine cx hA [0,1] p13 ?_|refine f9 hA _ h0 rfl ?_|refine i7 hA _ h0 ?_|refine U3 hA _ h0 rfl ?_|refine f9 hA _ h1 rfl ?_|refine i7 hA _ h1 ?_|refine U3 hA _ h1 rfl ?_|refine f9 hA _ h2 rfl ?_|refine i7 hA _ h2 ?_|refine U3 hA _ h2 rfl ?_|refine f9 hA _ h3 rfl ?_|refine i7 hA _ h3 ?_|refine U3 hA _ h3 rfl ?_|refine f9 hA _ h4 rfl ?_|refine i7 hA _ h4 ?_|refine U3 hA _ h4 rfl ?_|refine f9 hA _ h5 rfl ?_|refine i7 hA _ h5 ?_|refine U3 hA _ h5 rfl ?_|refine f9 hA _ h6 rfl ?_|refine i7 hA _ h6 ?_|refine U3 hA _ h6 rfl ?_|refine f9 hA _ h7 rfl ?_|refine i7 hA _ h7 ?_|refine U3 hA _ h7 rfl ?_|refine f9 hA _ h8 rfl ?_|refine i7 hA _ h8 ?_|refine U3 hA _ h8 rfl ?_|refine f9 hA _ h9 rfl ?_|refine i7 hA _ h9 ?_|refine U3 hA _ h9 rfl ?_|refine f9 hA _ h10 rfl ?_|refine i7 hA _ h10 ?_|refine U3 hA _ h10 rfl ?_|refine f9 hA _ h11 rfl ?_|refine i7 hA _ h11 ?_|refine U3 hA _ h11 rfl ?_|refine rdx hA [] o0 ?_|refine rdq hA [] o0 ?_|refine rdx hA [] o1 ?_|refine rdq hA [] o1 ?_|refine rdx hA [] o2 ?_|refine rdq hA [] o2 ?_|refine rdx hA [] o3 ?_|refine rdq hA [] o3 ?_|refine a6t hA (a3c (ks:=[]) o0 ⟨rfl,rfl,rfl,rfl,rfl,rfl,rfl⟩ rfl) ?_|refine a6t hA (a3c (ks:=[]) o1 ⟨rfl,rfl,rfl,rfl,rfl,rfl,rfl⟩ rfl) ?_|refine a6t hA (a3c (ks:=[]) o2 ⟨rfl,rfl,rfl,rfl,rfl,rfl,rfl⟩ rfl) ?_|refine a6t hA (a3c (ks:=[]) o3 ⟨rfl,rfl,rfl,rfl,rfl,rfl,rfl⟩ rfl) ?_|refine rdx hA [1] r0 ?_|refine rdq hA [1] r0 ?_|refine rdx hA [1] r1 ?_|refine rdq hA [1] r1 ?_|refine rdx hA [1] r2 ?_|refine rdq hA [1] r2 ?_|refine A4 hA [1] t0 ?_|refine A6 hA true ?_|refine a1E hA true ?_|(refine B3 hA (by first|(simp only [d2X,d3g];omega)|omega) ?_)|(show vw _ _ _;refine c6B hA (n:=12) rfl [0,2,4,6,8,10] (by kernel_rfl) _ (by intro K hk;exact I5) ?_)|(show vw _ _ _;refine c6B hA (n:=11) rfl [0,3,4,5] (by kernel_rfl) _ (by intro K hk;exact I5) ?_));cbv)|with_reducible apply And.intro))
  all_goals try first|(exact hK _ rfl;done)|exact m9 hA [0,1] ⟨rfl,rfl,rfl,rfl,rfl,rfl,rfl,rfl⟩ ⟨rfl,rfl⟩|(refine ⟨_,hi,hm,?_⟩;cbv)):p:=h
theorem wk {f:Nat} {fn:Func} {c:Code} {rs q:List R} (hf:Tryz.prog.funcs[f]?=some fn) (hb:fn.body=some c) (hn:(fn.name != "runtime.NumGoroutine")=true:=by kernel_rfl) (hc:w8 Tryz.prog c=true:=by kernel_rfl) (hr:P3 fn.results.toList=true:=by kernel_rfl)
  (h:∀qa qb qc qd qe qg qh qi qj qk ql qm qo qp qq qt qu qv qw qx qy qz va vc vd ve vf vg vh vj vk vl vm vn vo vp vq vr vt vu vv vw vx,Ar.mk qa qb qc qd qe qg qh qi qj qk ql qm qo qp qq qt qu qv qw qx qy qz va vc vd ve vf vg vh vj vk vl vm vn vo vp vq vr vt vu vv vw vx=f7→E1 (Ar.mk qa qb qc qd qe qg qh qi qj qk ql qm qo qp qq qt qu qv qw qx qy qz va vc vd ve vf vg vh vj vk vl vm vn vo vp vq vr vt vu vv vw vx) c (a5h rs (fn.ntmps - F4 rs)) (fun x s=>c3M (Ar.mk qa qb qc qd qe qg qh qi qj qk ql qm qo qp qq qt qu qv qw qx qy qz va vc vd ve vf vg vh vj vk vl vm vn vo vp vq vr vt vu vv vw vx) fn.results.toList q x s):=by
  intro _ _ _ _ _ _ _ _ _ _ _ _ _ _ _ _ _ _ _ _ _ _ _ _ _ _ _ _ _ _ _ _ _ _ _ _ _ _ _ _ _ vw _ hA
  exact I5):o9 f rs q:=b2x hf hb hn hc hr h
theorem wkr {f:Nat} {fn:Func} {c:Code} {vs res:List V} (hf:Tryz.prog.funcs[f]?=some fn) (hb:fn.body=some c) (hn:(fn.name != "runtime.NumGoroutine")=true:=by kernel_rfl) (hc:w8 Tryz.prog c=true:=by kernel_rfl) (hr:P3 fn.results.toList=true:=by kernel_rfl)
  (h:∀qa qb qc qd qe qg qh qi qj qk ql qm qo qp qq qt qu qv qw qx qy qz va vc vd ve vf vg vh vj vk vl vm vn vo vp vq vr vt vu vv vw vx,Ar.mk qa qb qc qd qe qg qh qi qj qk ql qm qo qp qq qt qu qv qw qx qy qz va vc vd ve vf vg vh vj vk vl vm vn vo vp vq vr vt vu vv vw vx=f7→∀K:List V→List O→Prop,(∀r,r=res→K r [])→E1 (Ar.mk qa qb qc qd qe qg qh qi qj qk ql qm qo qp qq qt qu qv qw qx qy qz va vc vd ve vf vg vh vj vk vl vm vn vo vp vq vr vt vu vv vw vx) c (a30 vs [] (fn.ntmps - F4 vs)) (fun x s=>c64 (Ar.mk qa qb qc qd qe qg qh qi qj qk ql qm qo qp qq qt qu qv qw qx qy qz va vc vd ve vf vg vh vj vk vl vm vn vo vp vq vr vt vu vv vw vx) 0 K fn.results.toList x s):=by
  intro qa qb qc qd qe qg qh qi qj qk ql qm qo qp qq qt qu qv qw qx qy qz va vc vd ve vf vg vh vj vk vl vm vn vo vp vq vr vt vu vv vw vx hA K hK
  exact I5):B0 f vs [] (fun r o2=>r=res∧o2=[]):=a06 hf hb hn hc hr rfl h
theorem wko {f:Nat} {fn:Func} {c:Code} {vs:List V} {os:List O} {Q:List V→List O→Prop} (hf:Tryz.prog.funcs[f]?=some fn) (hb:fn.body=some c) (hn:(fn.name != "runtime.NumGoroutine")=true:=by kernel_rfl) (hc:w8 Tryz.prog c=true:=by kernel_rfl) (hr:P3 fn.results.toList=true:=by kernel_rfl)
  (h:∀qa qb qc qd qe qg qh qi qj qk ql qm qo qp qq qt qu qv qw qx qy qz va vc vd ve vf vg vh vj vk vl vm vn vo vp vq vr vt vu vv vw vx,Ar.mk qa qb qc qd qe qg qh qi qj qk ql qm qo qp qq qt qu qv qw qx qy qz va vc vd ve vf vg vh vj vk vl vm vn vo vp vq vr vt vu vv vw vx=f7→E1 (Ar.mk qa qb qc qd qe qg qh qi qj qk ql qm qo qp qq qt qu qv qw qx qy qz va vc vd ve vf vg vh vj vk vl vm vn vo vp vq vr vt vu vv vw vx) c (a2D vs os (fn.ntmps - F4 vs)) (fun x s=>c3N (Ar.mk qa qb qc qd qe qg qh qi qj qk ql qm qo qp qq qt qu qv qw qx qy qz va vc vd ve vf vg vh vj vk vl vm vn vo vp vq vr vt vu vv vw vx) (r8 os) Q fn.results.toList x s):=by
  intro _ _ _ _ _ _ _ _ _ _ _ _ _ _ _ _ _ _ _ _ _ _ _ _ _ _ _ _ _ _ _ _ _ _ _ _ _ _ _ _ _ vw _ hA
  (try obtain ⟨_,_,_⟩:=s0);(try obtain ⟨_,_,_⟩:=s1);(try obtain ⟨_,_,_⟩:=s2);(try obtain ⟨_,_,_⟩:=s3);(try obtain ⟨_,_,_⟩:=s4);(try obtain ⟨_,_,_⟩:=s5);(try obtain ⟨_,_,_⟩:=s6)
  (try have hL:=And.intro hL1 hL2);(try (obtain ⟨L1,hLe⟩:∃L1,L1=L+1:=⟨_,rfl⟩;have qL:=eL hA hL hLe;simp only [←hLe] at *))
  exact I5):v8 f vs os Q:=a90 hf hb hn hc hr h
end
theorem gn {P Q:Prop} (hq:Q) (h:Q→P:=by
  intro hq
  try cbv
  repeat ((with_reducible apply f8 hA);cbv)
  exact hq):P:=h hq
theorem gr {P Q:Prop} (hq:Q) (h:Q→P:=by
  intro hq
  iterate 2 (try cbv;repeat ((first|with_reducible apply f8 hA|rw [q0]|rw [q1]|rw [q2]|rw [q3]|rw [q4]|rw [q5]|rw [q6]|rw [q7]|rw [q8]|rw [q9]|rw [p0]|rw [p1]|rw [p2]|rw [p3]|rw [p4]|rw [p5]|rw [p6]|rw [p7]|rw [p8]|rw [p9]|rw [g0]|rw [g1]|rw [g2]|rw [g3]|rw [g4]|rw [g5]|rw [g6]|rw [g7]|rw [g8]|rw [g9]|rw [t0]|rw [t1]|rw [t2]|rw [t3]|rw [t4]|rw [t5]|rw [t6]|rw [t7]|rw [t8]|rw [t9]|rw [u0]|rw [u1]|rw [u2]|rw [u3]|rw [u4]|rw [u5]|rw [u6]|rw [u7]|rw [u8]|rw [u9]|refine f9 hA _ h0 rfl ?_|refine i7 hA _ h0 ?_|refine f9 hA _ h1 rfl ?_|refine i7 hA _ h1 ?_|refine f9 hA _ h2 rfl ?_|refine i7 hA _ h2 ?_|refine f9 hA _ h3 rfl ?_|refine i7 hA _ h3 ?_|refine f9 hA _ h4 rfl ?_|refine i7 hA _ h4 ?_|refine f9 hA _ c0 rfl ?_|refine i7 hA _ c0 ?_|refine f9 hA _ c1 rfl ?_|refine i7 hA _ c1 ?_|refine f9 hA _ c2 rfl ?_|refine i7 hA _ c2 ?_|refine f9 hA _ d0 rfl ?_|refine i7 hA _ d0 ?_|refine f9 hA _ k0 rfl ?_|refine i7 hA _ k0 ?_|refine f9 hA _ k1 rfl ?_|refine i7 hA _ k1 ?_|refine f9 hA _ k2 rfl ?_|refine i7 hA _ k2 ?_|refine f9 hA _ k3 rfl ?_|refine i7 hA _ k3 ?_|refine f9 hA _ hd rfl ?_|refine i7 hA _ hd ?_|refine f9 hA _ hc rfl ?_|refine i7 hA _ hc ?_|refine f9 hA _ hr rfl ?_|refine i7 hA _ hr ?_|refine f9 hA _ hT rfl ?_|refine i7 hA _ hT ?_|refine f9 hA _ kO rfl ?_|refine i7 hA _ kO ?_|refine A6 hA true ?_|refine B3 hA (by first|(simp only [d2X,d3g];omega)|omega) ?_);cbv))
  exact hq):P:=h hq
theorem fr {P:Prop} (h:P:=by
  iterate 2 (try cbv;repeat ((first|with_reducible apply f8 hA|rw [q0]|rw [q1]|rw [q2]|rw [q3]|rw [q4]|rw [q5]|rw [q6]|rw [q7]|rw [q8]|rw [q9]|rw [p0]|rw [p1]|rw [p2]|rw [p3]|rw [p4]|rw [p5]|rw [p6]|rw [p7]|rw [p8]|rw [p9]|rw [g0]|rw [g1]|rw [g2]|rw [g3]|rw [g4]|rw [g5]|rw [g6]|rw [g7]|rw [g8]|rw [g9]|rw [t0]|rw [t1]|rw [t2]|rw [t3]|rw [t4]|rw [t5]|rw [t6]|rw [t7]|rw [t8]|rw [t9]|rw [u0]|rw [u1]|rw [u2]|rw [u3]|rw [u4]|rw [u5]|rw [u6]|rw [u7]|rw [u8]|rw [u9]|refine f9 hA _ h0 rfl ?_|refine i7 hA _ h0 ?_|refine f9 hA _ h1 rfl ?_|refine i7 hA _ h1 ?_|refine f9 hA _ h2 rfl ?_|refine i7 hA _ h2 ?_|refine f9 hA _ h3 rfl ?_|refine i7 hA _ h3 ?_|refine f9 hA _ h4 rfl ?_|refine i7 hA _ h4 ?_|refine f9 hA _ c0 rfl ?_|refine i7 hA _ c0 ?_|refine f9 hA _ c1 rfl ?_|refine i7 hA _ c1 ?_|refine f9 hA _ c2 rfl ?_|refine i7 hA _ c2 ?_|refine f9 hA _ d0 rfl ?_|refine i7 hA _ d0 ?_|refine f9 hA _ k0 rfl ?_|refine i7 hA _ k0 ?_|refine f9 hA _ k1 rfl ?_|refine i7 hA _ k1 ?_|refine f9 hA _ k2 rfl ?_|refine i7 hA _ k2 ?_|refine f9 hA _ k3 rfl ?_|refine i7 hA _ k3 ?_|refine f9 hA _ hd rfl ?_|refine i7 hA _ hd ?_|refine f9 hA _ hc rfl ?_|refine i7 hA _ hc ?_|refine f9 hA _ hr rfl ?_|refine i7 hA _ hr ?_|refine f9 hA _ hT rfl ?_|refine i7 hA _ hT ?_|refine f9 hA _ kO rfl ?_|refine i7 hA _ kO ?_|refine A6 hA true ?_|refine B3 hA (by first|(simp only [d2X,d3g];omega)|omega) ?_);cbv))):P:=h
section
section
variable {I0:Nat→Nat→Prop} {X:Nat→Prop} {w0:W0} {I:Nat→Nat→Prop} {g:Nat→Value} {s:S} {a:Act} {w:World}
end
end
theorem c1c {w:World} {b T:Nat} {cur:Array Value} (h:w.heap[b]?=some (.cells cur T (0,0))) (i:Nat):w.cell? ⟨b,i,none⟩=cur[i]?:=by
 unfold World.cell?
 rw [h]
 simp
def rS (ss:List ByteArray):List (List D):=ss.map fun s=>[.sc (.string s)]
theorem c1d (ss:List ByteArray):(rS ss).length=ss.length:=by rw [rS,d3o]
theorem c1e {ss:List ByteArray} {k:Nat} {x:ByteArray} (h:ss[k]?=some x):(rS ss)[k]?=some [.sc (.string x)]:=by rw [rS,d3u,h];rfl
def btl (b:ByteArray):List UInt8:=b.data.toList
theorem a59 (b:ByteArray):b.toList=btl b:=ByteArray.toList_eq b
theorem a07 (b:ByteArray):(btl b).length=b.size:=by unfold btl;rw [d4l];rfl
theorem b26 {b:ByteArray} {k:Nat} {c:UInt8} (h:(btl b)[k]?=some c):f7.sget b (k:Int)=some (c.toNat:Int):=by
 show (if 0≤(k:Int) then (b[(k:Int).toNat]?).map (fun c=>(c.toNat:Int)) else none)=_
 rw [d2S (by omega)]
 have e:b[(k:Int).toNat]?=(btl b)[k]?:=by
  rw [btl,d3E]
  rfl
 rw [e,h]
 rfl
theorem a0c {b c:Bool} (h:c=b):(some (R.one (D.sc (.bool c)))=some (R.one (D.sc (.bool b))))∧True:=⟨by rw [h],trivial⟩
theorem c1f {k:IntKind} {b c:Int} (h:c=b):(some (R.one (D.sc (.int k c)))=some (R.one (D.sc (.int k b))))∧True:=⟨by rw [h],trivial⟩
def rU (l:List UInt8):List (List D):=l.map fun c=>[.sc (.int .u8 (c.toNat:Int))]
theorem c6D (l:List UInt8):(rU l).length=l.length:=by unfold rU;rw [d3o]
section
section
variable {I0:Nat→Nat→Prop} {X:Nat→Prop} {w0:W0} {I:Nat→Nat→Prop} {g:Nat→Value} {s:S} {a:Act} {w:World}
theorem a5A {s:S} {k:Nat} {j:Nat} (h:Q9 ⟨s.t,s.o.set k .dead⟩ j):j≠k∧Q9 s j:=by
 obtain ⟨o,ho,hd⟩:=h
 by_cases e:k=j
 ·subst e
  simp only at ho
  have hlt:=(d2Q.1 ho).1
  rw [d3s] at hlt
  rw [d30 hlt] at ho
  cases ho
  exact absurd rfl hd
 ·simp only [d3p e] at ho
  exact ⟨d4R e,o,ho,hd⟩
theorem RelI.deadTo (h:RelI I0 X w0 I g s a w) {k:Nat} {o:O} (hk:s.o[k]?=some o) (hd:o≠.dead) {w':World} {b:Nat} (hb:gbl (g k) b) (hos:w'.os=w.os) (htp:w'.tape=w.tape) (hou:w'.output=w.output) (hsz:w'.heap.size=w.heap.size)
  (hoth:∀c,c≠b→w'.heap[c]?=w.heap[c]?) (hcell:∀i,w'.cell? ⟨b,i,none⟩=w.cell? ⟨b,i,none⟩):RelI I0 X w0 I g ⟨s.t,s.o.set k .dead⟩ a w':=by
 have hm:=(h.obj k o hk).blk hd b hb
 have hkp:B7 I w w':=fun b' n hb' i hi=>by
  by_cases e:b'=b
  ·subst e;exact hcell i
  ·exact a3T (hoth b' e) i
 refine ⟨h.im,fun b' n hb'=>by rw [hsz];exact h.lt b' n hb',⟨hos.trans h.fr.os,htp.trans h.fr.tape,hou.trans h.fr.output,by rw [hsz];exact h.fr.size,fun b' hb' hX=>?_⟩,h.kp.trans fun b' n hb' i hi=>hkp b' n (h.im b' n hb') i hi,by simp only [d3s];exact h.lo,h.st,fun i x hx=>?_,fun i j b hi hj=>h.dis i j b (a5A hi).2 (a5A hj).2,fun i hi=>h.out i (by simpa using hi),h.tmp.mono (fun _ _ h=>h) hkp,h.dfr⟩
 ·rw [hoth b' fun e=>?_]
  ·exact h.fr.block b' hb' hX
  ·subst e
   rcases hm.2 with h1|h1
   ·omega
   ·exact hX h1
 ·by_cases hxd:x=.dead
  ·subst hxd;exact True.intro
  ·have h1:=a5A (s:=s) (k:=k) ⟨x,hx,hxd⟩
   simp only [d3p (d4R h1.1)] at hx
   refine (h.obj i x hx).keep (fun _ _ h=>h) hkp (fun b' hb'=>hoth b' fun e=>?_) fun _ _ _ h=>h
   subst e
   exact h1.1 (h.dis i k b' ⟨x,hx,hxd⟩ ⟨o,hk,hd⟩ hb' hb)
end
end
section
section
variable {qa:_} {qb:_} {qc:_} {qd:_} {qe:_} {qg:_} {qh:_} {qi:_} {qj:_} {qk:_} {ql:_} {qm:_} {qo:_} {qp:_} {qq:_} {qt:_} {qu:_} {qv:_} {qw:_} {qx:_} {qy:_} {qz:_} {va:_} {vc:_} {vd:_} {ve:_} {vf:_} {vg:_} {vh:_} {vj:_} {vk:_} {vl:_} {vm:_} {vn:_} {vo:_} {vp:_} {vq:_} {vr:_} {vt:_} {vu:_} {vv:_} {vw:_} {vx:_} (hA:Ar.mk qa qb qc qd qe qg qh qi qj qk ql qm qo qp qq qt qu qv qw qx qy qz va vc vd ve vf vg vh vj vk vl vm vn vo vp vq vr vt vu vv vw vx=f7)
include hA
theorem esu {k:IntKind} {x y z:Int} (h:k.wrap (x - y)=z):qa k (qc x y)=z:=by
 obtain ⟨e1,e2,e3,e4,e5,e6,_⟩:=j7 hA
 simp only [e1,e3,e4,e5,e6,h]
theorem emu {k:IntKind} {x y z:Int} (h:k.wrap (x * y)=z):qa k (qd x y)=z:=by
 obtain ⟨e1,e2,e3,e4,e5,e6,_⟩:=j7 hA
 simp only [e1,e3,e4,e5,e6,h]
theorem equ {k:IntKind} {x y z:Int} (h:k.wrap (x.tdiv y)=z):qa k (qe x y)=z:=by
 obtain ⟨e1,e2,e3,e4,e5,e6,_⟩:=j7 hA
 simp only [e1,e3,e4,e5,e6,h]
theorem ere {x y z:Int} (h:x.tmod y=z):qg x y=z:=by
 obtain ⟨_,_,_,_,_,e6,_⟩:=j7 hA
 rw [e6,h]
theorem ewp {k:IntKind} {x z:Int} (h:k.wrap x=z):qa k x=z:=by
 obtain ⟨e1,_⟩:=j7 hA
 rw [e1,h]
theorem em {x y:Int} {b:Bool} (h:decide (x≤y)=b):qj x y=b:=by
 obtain ⟨_,_,_,_,_,_,_,e8,_⟩:=j7 hA
 rw [e8,h]
theorem en {r:List (List D)} {n:Int} (h:(r.length:Int)=n):va r=n:=by
 obtain ⟨e,_⟩:=A8 hA
 rw [e,h]
theorem ebi {op:BinOp} {k k':IntKind} {x y z:Int} (h:W6 op k x k' y=some z):qh op k x k' y=some z:=by rw [a6u hA,h]
theorem esb {r q:List (List D)} {a b:Int} (h:f7.sub2 r a b=some q):vd r a b=some q:=by
 obtain ⟨_,_,e,_⟩:=A8 hA
 rw [e,h]
end
theorem d1g {p:Prop} (h:p:=by
  iterate 2 (all_goals try cbv;repeat' ((first|with_reducible apply f8 hA|rw [ew hA w0]|rw [ew hA w1]|rw [ew hA w2]|rw [ew hA w3]|rw [ew hA w4]|rw [ew hA w5]|rw [esu hA d0]|rw [esu hA d1]|rw [esu hA d2]|rw [esu hA d3]|rw [emu hA c0]|rw [emu hA c1]|rw [emu hA c2]|rw [equ hA k0]|rw [equ hA k1]|rw [equ hA k2]|rw [equ hA k3]|rw [ere hA i0]|rw [ere hA i1]|rw [ere hA i2]|rw [ere hA i3]|rw [ewp hA u0]|rw [ewp hA u1]|rw [ewp hA u2]|rw [ewp hA u3]|rw [ewp hA u4]|rw [ewp hA u5]|rw [eb hA b0]|rw [eb hA b1]|rw [eb hA b2]|rw [eb hA b3]|rw [eb hA b4]|rw [eb hA b5]|rw [eb hA b6]|rw [eb hA b7]|rw [eb hA b8]|rw [eb hA b9]|rw [el hA l0]|rw [el hA l1]|rw [el hA l2]|rw [el hA l3]|rw [el hA l4]|rw [el hA l5]|rw [em hA m0]|rw [em hA m1]|rw [em hA m2]|rw [em hA m3]|rw [em hA m4]|rw [em hA m5]|rw [en hA n0]|rw [en hA n1]|rw [en hA n2]|rw [eg hA g0]|rw [eg hA g1]|rw [eg hA g2]|rw [eg hA g3]|rw [eg hA g4]|rw [ebi hA v0]|rw [ebi hA v1]|rw [ebi hA v2]|rw [ebi hA v3]|rw [ebi hA v4]|rw [ebi hA v5]|rw [esb hA y0]|rw [esb hA y1]|rw [esb hA y2]|rw [es hA x0]|rw [es hA x1]|rw [es hA x2]|rw [esl hA]|rw [ebr hA]|rw [esr hA]|rw [ea hA]|refine b6X hA (by decide) ?_|refine A4 hA [0] p0 ?_|refine A4 hA [0] p1 ?_|refine A4 hA [0] p2 ?_|refine A4 hA [0] p3 ?_|refine A4 hA [0] p4 ?_|refine f9 hA _ h0 rfl ?_|refine i7 hA _ h0 ?_|refine f9 hA _ h1 rfl ?_|refine i7 hA _ h1 ?_|refine f9 hA _ h2 rfl ?_|refine i7 hA _ h2 ?_|refine f9 hA _ h3 rfl ?_|refine i7 hA _ h3 ?_|refine f9 hA _ h4 rfl ?_|refine i7 hA _ h4 ?_|refine f9 hA _ h5 rfl ?_|refine i7 hA _ h5 ?_|refine f9 hA _ h6 rfl ?_|refine i7 hA _ h6 ?_|refine f9 hA _ h7 rfl ?_|refine i7 hA _ h7 ?_|refine A6 hA true ?_|refine a1E hA true ?_|(refine B3 hA (by first|(simp only [d2X,d3g];omega)|omega) ?_));cbv))
  all_goals try first|exact m9 hA [0] ⟨rfl,rfl,rfl,rfl,rfl,rfl,rfl,rfl⟩ ⟨rfl,rfl⟩|(refine ⟨_,hi,hm,?_⟩;cbv)):p:=h
theorem wk2 {f:Nat} {fn:Func} {c:Code} {rs q:List R} (hf:Tryz.prog.funcs[f]?=some fn) (hb:fn.body=some c) (hn:(fn.name != "runtime.NumGoroutine")=true:=by kernel_rfl) (hc:w8 Tryz.prog c=true:=by kernel_rfl) (hr:P3 fn.results.toList=true:=by kernel_rfl)
  (h:∀qa qb qc qd qe qg qh qi qj qk ql qm qo qp qq qt qu qv qw qx qy qz va vc vd ve vf vg vh vj vk vl vm vn vo vp vq vr vt vu vv vw vx,Ar.mk qa qb qc qd qe qg qh qi qj qk ql qm qo qp qq qt qu qv qw qx qy qz va vc vd ve vf vg vh vj vk vl vm vn vo vp vq vr vt vu vv vw vx=f7→E1 (Ar.mk qa qb qc qd qe qg qh qi qj qk ql qm qo qp qq qt qu qv qw qx qy qz va vc vd ve vf vg vh vj vk vl vm vn vo vp vq vr vt vu vv vw vx) c (a5h rs (fn.ntmps - F4 rs)) (fun x s=>c3M (Ar.mk qa qb qc qd qe qg qh qi qj qk ql qm qo qp qq qt qu qv qw qx qy qz va vc vd ve vf vg vh vj vk vl vm vn vo vp vq vr vt vu vv vw vx) fn.results.toList q x s):=by
  intro _ _ _ _ _ _ _ _ _ _ _ _ _ _ _ _ _ _ _ _ _ _ _ _ _ _ _ _ _ _ _ _ _ _ _ _ _ _ _ _ _ vw _ hA
  exact d1g):o9 f rs q:=b2x hf hb hn hc hr h
end
end Go.Proofs.YtahpnackkmbmgaaGreat.Vm
end
section
namespace Go.Proofs.YtahpnackkmbmgaaGreat
open Go.RowKit
set_option maxRecDepth 100000
set_option maxHeartbeats 4000000
def Byt (l:List Int):Prop:=∀x∈l,0≤x∧x≤255
theorem G0 {l:List Int} (h:Byt l) (i:Nat):0≤gb l i∧gb l i≤255:=by
 unfold gb
 rw [d3k]
 cases e:l[i]? with
 | none=>simp
 | some x=>exact h x (d3e e)
theorem a6w {l:List Int} (h:Byt l) (a:Nat):Byt (l.drop a):=fun x hx=>h x (d4t hx)
def U4 (c:Int):Int:=if c<128 then 1 else if 192≤c∧c<224 then 2 else if 224≤c∧c<240 then 3 else if 240≤c∧c<248 then 4 else 0
theorem b7j (c:Int):0≤U4 c∧U4 c≤4:=by unfold U4;repeat' split <;> omega
def isB (r:Int):Bool:=decide (0≤r) && (decide (r≤1114111) && (decide (r<55296) || decide (57343<r)))
theorem W8 (r:Int):isB r=true↔0≤r∧r≤1114111∧(r<55296∨57343<r):=by unfold isB;simp only [d2Z,d36,d4d]
def a1M (r:Int):Int:=if r<128 then 1 else if r<2048 then 2 else if r<65536 then 3 else 4
def Y5 (n c:Int):Int:=if n=1 then c else if n=2 then c % 32 else if n=3 then c % 16 else c % 8
def L5 (l:List Int) (m:Int):Nat→Int
 | 0=>m
 | k+1=>L5 l m k * 64+gb l (k+1) % 64
def Y6 (l:List Int):Nat→Bool
 | 0=>true
 | k+1=>Y6 l k && decide (gb l (k+1) / 64=2)
def N3 (l:List Int):Int×Int :=
 if U4 (gb l 0)=0∨(l.length:Int)<U4 (gb l 0) then (0,0) else
 if Y6 l ((U4 (gb l 0)).toNat - 1)=true∧isB (L5 l (Y5 (U4 (gb l 0)) (gb l 0)) ((U4 (gb l 0)).toNat - 1))=true∧a1M (L5 l (Y5 (U4 (gb l 0)) (gb l 0)) ((U4 (gb l 0)).toNat - 1))=U4 (gb l 0)
 then (L5 l (Y5 (U4 (gb l 0)) (gb l 0)) ((U4 (gb l 0)).toNat - 1),U4 (gb l 0)) else (0,0)

def b0B (n:Nat):Int:=if n=2 then 192 else if n=3 then 224 else if n=4 then 240 else 0
def a1Q (l:List Int) (m:Int):Nat→Int
 | 0=>m
 | k+1=>64 * a1Q l m k+gb l (k+1) - 128
def a3K (l:List Int) (n:Nat):Int:=a1Q l (gb l 0 - b0B n) (n - 1)
def M7 (r:Int):List Int :=
 if r<128 then [r] else if r<2048 then [192+r / 64,128+r % 64] else if r<65536 then [224+r / 4096,128+r / 64 % 64,128+r % 64]
 else [240+r / 262144,128+r / 4096 % 64,128+r / 64 % 64,128+r % 64]
theorem b5I (r:Int):((M7 r).length:Int)=a1M r:=by
 unfold M7 a1M
 by_cases a:r<128
 ·simp [a]
 by_cases b:r<2048
 ·simp [a,b]
 by_cases c:r<65536 <;> simp [a,b,c]
def a0j (l:List Int) (n:Nat):Bool:=isB (a3K l n) && (M7 (a3K l n) == l.take n)

theorem c1g {l:List Int} (h:1≤l.length):l.take 1=[gb l 0]:=by
 match l,h with
 | a::_,_=>rfl
theorem c1h {l:List Int} (h:2≤l.length):l.take 2=[gb l 0,gb l 1]:=by
 match l,h with
 | a::b::_,_=>rfl
theorem c9b {l:List Int} (h:3≤l.length):l.take 3=[gb l 0,gb l 1,gb l 2]:=by
 match l,h with
 | a::b::c::_,_=>rfl
theorem c9c {l:List Int} (h:4≤l.length):l.take 4=[gb l 0,gb l 1,gb l 2,gb l 3]:=by
 match l,h with
 | a::b::c::d::_,_=>rfl

theorem b1q {l:List Int}:N3 l=(0,0)∨(1≤(N3 l).2∧(N3 l).2≤4∧(N3 l).2≤l.length):=by
 unfold N3
 have h:=b7j (gb l 0)
 split
 ·exact .inl rfl
 ·rename_i h0
  split
  ·right;simp only;omega
  ·exact .inl rfl

def V (l:List Int):Nat→Prop
 | 1=>gb l 0<128
 | 2=>192≤gb l 0∧gb l 0<224∧128≤gb l 1∧gb l 1<192∧128≤(gb l 0 - 192) * 64+(gb l 1 - 128)
 | 3=>224≤gb l 0∧gb l 0<240∧128≤gb l 1∧gb l 1<192∧128≤gb l 2∧gb l 2<192∧2048≤(gb l 0 - 224) * 4096+(gb l 1 - 128) * 64+(gb l 2 - 128) ∧
   ((gb l 0 - 224) * 4096+(gb l 1 - 128) * 64+(gb l 2 - 128)<55296∨57343<(gb l 0 - 224) * 4096+(gb l 1 - 128) * 64+(gb l 2 - 128))
 | 4=>240≤gb l 0∧gb l 0<248∧128≤gb l 1∧gb l 1<192∧128≤gb l 2∧gb l 2<192∧128≤gb l 3∧gb l 3<192 ∧
   65536≤(gb l 0 - 240) * 262144+(gb l 1 - 128) * 4096+(gb l 2 - 128) * 64+(gb l 3 - 128)∧(gb l 0 - 240) * 262144+(gb l 1 - 128) * 4096+(gb l 2 - 128) * 64+(gb l 3 - 128)≤1114111
 | _=>False
theorem b7k (l:List Int):a3K l 1=gb l 0:=by simp [a3K,a1Q,b0B]
theorem b7l (l:List Int):a3K l 2=(gb l 0 - 192) * 64+(gb l 1 - 128):=by simp [a3K,a1Q,b0B];omega
theorem b7m (l:List Int):a3K l 3=(gb l 0 - 224) * 4096+(gb l 1 - 128) * 64+(gb l 2 - 128):=by simp [a3K,a1Q,b0B];omega
theorem b7n (l:List Int):a3K l 4=(gb l 0 - 240) * 262144+(gb l 1 - 128) * 4096+(gb l 2 - 128) * 64+(gb l 3 - 128):=by simp [a3K,a1Q,b0B];omega
theorem c6E {r:Int} (h:r<128):M7 r=[r]:=by unfold M7;rw [d2S h]
theorem c6F {r:Int} (h:¬r<128) (h':r<2048):M7 r=[192+r / 64,128+r % 64]:=by unfold M7;rw [d2T h,d2S h']
theorem c6G {r:Int} (h:¬r<2048) (h':r<65536):M7 r=[224+r / 4096,128+r / 64 % 64,128+r % 64]:=by unfold M7;rw [d2T (by omega),d2T h,d2S h']
theorem c6H {r:Int} (h:¬r<65536):M7 r=[240+r / 262144,128+r / 4096 % 64,128+r / 64 % 64,128+r % 64]:=by unfold M7;rw [d2T (by omega),d2T (by omega),d2T h]
theorem a22 (r:Int) {P:Prop} (h1:r<128→M7 r=[r]→P) (h2:¬r<128→r<2048→M7 r=[192+r / 64,128+r % 64]→P)
  (h3:¬r<2048→r<65536→M7 r=[224+r / 4096,128+r / 64 % 64,128+r % 64]→P)
  (h4:¬r<65536→M7 r=[240+r / 262144,128+r / 4096 % 64,128+r / 64 % 64,128+r % 64]→P):P:=by
 by_cases a:r<128
 ·exact h1 a (c6E a)
 by_cases b:r<2048
 ·exact h2 a b (c6F a b)
 by_cases c:r<65536
 ·exact h3 b c (c6G b c)
 ·exact h4 c (c6H c)

theorem c6I {l:List Int} (hb:Byt l) (hl:1≤l.length):a0j l 1=true↔V l 1:=by
 have b0:=G0 hb 0
 unfold a0j V
 rw [c1g hl,b7k]
 simp only [d2Z,d3F,W8]
 generalize gb l 0=c at *
 refine a22 c ?_ ?_ ?_ ?_ <;> (intros;rename_i e;rw [e];simp;try omega)
theorem c6J {l:List Int} (hb:Byt l) (hl:2≤l.length):a0j l 2=true↔V l 2:=by
 have b0:=G0 hb 0
 have b1:=G0 hb 1
 unfold a0j V
 rw [c1h hl,b7l]
 simp only [d2Z,d3F,W8]
 generalize gb l 0=c at *
 generalize gb l 1=d at *
 refine a22 ((c - 192) * 64+(d - 128)) ?_ ?_ ?_ ?_ <;> (intros;rename_i e;rw [e];simp;try omega)
theorem c6K {l:List Int} (hb:Byt l) (hl:3≤l.length):a0j l 3=true↔V l 3:=by
 have b0:=G0 hb 0
 have b1:=G0 hb 1
 have b2:=G0 hb 2
 unfold a0j V
 rw [c9b hl,b7m]
 simp only [d2Z,d3F,W8]
 generalize gb l 0=c at *
 generalize gb l 1=d at *
 generalize gb l 2=f at *
 refine a22 ((c - 224) * 4096+(d - 128) * 64+(f - 128)) ?_ ?_ ?_ ?_ <;> (intros;rename_i e;rw [e];simp;try omega)
theorem c6L {l:List Int} (hb:Byt l) (hl:4≤l.length):a0j l 4=true↔V l 4:=by
 have b0:=G0 hb 0
 have b1:=G0 hb 1
 have b2:=G0 hb 2
 have b3:=G0 hb 3
 unfold a0j V
 rw [c9c hl,b7n]
 simp only [d2Z,d3F,W8]
 generalize gb l 0=c at *
 generalize gb l 1=d at *
 generalize gb l 2=f at *
 generalize gb l 3=g at *
 refine a22 ((c - 240) * 262144+(d - 128) * 4096+(f - 128) * 64+(g - 128)) ?_ ?_ ?_ ?_ <;> (intros;rename_i e;rw [e];simp;try omega)
def a0t (l:List Int) (n:Nat):Int:=L5 l (Y5 n (gb l 0)) (n - 1)
theorem Z2 {l:List Int} {n:Nat} (h:U4 (gb l 0)=n) (h0:n≠0) :
  N3 l=if n≤l.length∧Y6 l (n - 1)=true∧isB (a0t l n)=true∧a1M (a0t l n)=n then (a0t l n,(n:Int)) else (0,0):=by
 unfold N3 a0t
 rw [h]
 simp only [d3q]
 by_cases hl:n≤l.length
 ·rw [d2T (by omega)]
  simp only [hl,true_and]
 ·rw [d2S (by omega),d2T (fun hh=>hl hh.1)]
theorem b85 {l:List Int} (h:U4 (gb l 0)=0):N3 l=(0,0):=by unfold N3;rw [d2S (.inl h)]
theorem a8w {r:Int}:(a1M r=1↔r<128)∧(a1M r=2↔¬r<128∧r<2048)∧(a1M r=3↔¬r<2048∧r<65536)∧(a1M r=4↔¬r<65536):=by
 unfold a1M
 by_cases a:r<128
 ·simp [a];omega
 by_cases b:r<2048
 ·simp [a,b];omega
 by_cases c:r<65536 <;> simp [a,b,c] <;> omega
theorem b7o {l:List Int} (hb:Byt l) (n:Nat) (hn:n≤l.length) (hv:V l n):N3 l=(a3K l n,(n:Int)):=by
 have b0:=G0 hb 0
 have b1:=G0 hb 1
 have b2:=G0 hb 2
 have b3:=G0 hb 3
 have sz:=@a8w (a0t l n)
 match n,hn,hv with
 | 1,hn,hv =>
  simp only [V] at hv
  have hl:U4 (gb l 0)=(1:Nat):=by unfold U4;rw [d2S hv];rfl
  have e:a0t l 1=a3K l 1:=by rw [b7k];simp [a0t,L5,Y5]
  rw [Z2 hl (by omega),e]
  rw [e] at sz
  rw [d2S ⟨hn,rfl,by rw [W8,b7k];omega,by rw [show ((1:Nat):Int)=1 from rfl,sz.1,b7k];exact hv⟩]
 | 2,hn,hv =>
  simp only [V] at hv
  have hl:U4 (gb l 0)=(2:Nat):=by unfold U4;rw [d2T (by omega),d2S (by omega)];rfl
  have e:a0t l 2=a3K l 2:=by rw [b7l];simp [a0t,L5,Y5];omega
  have c:Y6 l 1=true:=by simp [Y6];omega
  rw [Z2 hl (by omega),e]
  rw [e] at sz
  rw [d2S ⟨hn,c,by rw [W8,b7l];omega,by rw [show ((2:Nat):Int)=2 from rfl,sz.2.1,b7l];omega⟩]
 | 3,hn,hv =>
  simp only [V] at hv
  have hl:U4 (gb l 0)=(3:Nat):=by unfold U4;rw [d2T (by omega),d2T (by omega),d2S (by omega)];rfl
  have e:a0t l 3=a3K l 3:=by rw [b7m];simp [a0t,L5,Y5];omega
  have c:Y6 l 2=true:=by simp [Y6];omega
  rw [Z2 hl (by omega),e]
  rw [e] at sz
  rw [d2S ⟨hn,c,by rw [W8,b7m];omega,by rw [show ((3:Nat):Int)=3 from rfl,sz.2.2.1,b7m];omega⟩]
 | 4,hn,hv =>
  simp only [V] at hv
  have hl:U4 (gb l 0)=(4:Nat):=by unfold U4;rw [d2T (by omega),d2T (by omega),d2T (by omega),d2S (by omega)];rfl
  have e:a0t l 4=a3K l 4:=by rw [b7n];simp [a0t,L5,Y5];omega
  have c:Y6 l 3=true:=by simp [Y6];omega
  rw [Z2 hl (by omega),e]
  rw [e] at sz
  rw [d2S ⟨hn,c,by rw [W8,b7n];omega,by rw [show ((4:Nat):Int)=4 from rfl,sz.2.2.2,b7n];omega⟩]
theorem c1i {l:List Int} (hb:Byt l):N3 l=(0,0)∨∃n:Nat,n≤l.length∧1≤n∧n≤4∧V l n:=by
 have b0:=G0 hb 0
 have b1:=G0 hb 1
 have b2:=G0 hb 2
 have b3:=G0 hb 3
 have hk:U4 (gb l 0)=0∨(U4 (gb l 0)=(1:Nat)∧gb l 0<128)∨(U4 (gb l 0)=(2:Nat)∧192≤gb l 0∧gb l 0<224)∨(U4 (gb l 0)=(3:Nat)∧224≤gb l 0∧gb l 0<240)∨(U4 (gb l 0)=(4:Nat)∧240≤gb l 0∧gb l 0<248):=by
  unfold U4
  repeat' split
  all_goals simp
  all_goals omega
 rcases hk with h|⟨h,k⟩|⟨h,k⟩|⟨h,k⟩|⟨h,k⟩
 ·exact .inl (b85 h)
 ·rw [Z2 h (by omega)]
  split
  ·rename_i g;right;exact ⟨1,g.1,by omega,by omega,k⟩
  ·exact .inl rfl
 ·have sz:=@a8w (a0t l 2)
  rw [Z2 h (by omega)]
  split
  ·rename_i g;right
   obtain ⟨g1,g2,g3,g4⟩:=g
   rw [W8] at g3
   rw [show ((2:Nat):Int)=2 from rfl,sz.2.1] at g4
   simp [Y6] at g2
   simp [a0t,L5,Y5] at g3 g4
   exact ⟨2,g1,by omega,by omega,by simp only [V];omega⟩
  ·exact .inl rfl
 ·have sz:=@a8w (a0t l 3)
  rw [Z2 h (by omega)]
  split
  ·rename_i g;right
   obtain ⟨g1,g2,g3,g4⟩:=g
   rw [W8] at g3
   rw [show ((3:Nat):Int)=3 from rfl,sz.2.2.1] at g4
   simp [Y6] at g2
   simp [a0t,L5,Y5] at g3 g4
   exact ⟨3,g1,by omega,by omega,by simp only [V];omega⟩
  ·exact .inl rfl
 ·have sz:=@a8w (a0t l 4)
  rw [Z2 h (by omega)]
  split
  ·rename_i g;right
   obtain ⟨g1,g2,g3,g4⟩:=g
   rw [W8] at g3
   rw [show ((4:Nat):Int)=4 from rfl,sz.2.2.2] at g4
   simp [Y6] at g2
   simp [a0t,L5,Y5] at g3 g4
   exact ⟨4,g1,by omega,by omega,by simp only [V];omega⟩
  ·exact .inl rfl
theorem b1r {l:List Int} (hb:Byt l) {n:Nat} (h1:1≤n) (h4:n≤4) (hl:n≤l.length):a0j l n=true↔V l n:=by
 obtain rfl|rfl|rfl|rfl:n=1∨n=2∨n=3∨n=4:=by omega
 ·exact c6I hb hl
 ·exact c6J hb hl
 ·exact c6K hb hl
 ·exact c6L hb hl
theorem b86 {l:List Int} (hb:Byt l) {n:Nat} (h1:1≤n) (h4:n≤4) (hl:n≤l.length) (h:a0j l n=true):N3 l=(a3K l n,(n:Int)) :=
 b7o hb n hl ((b1r hb h1 h4 hl).1 h)
theorem b4d {l:List Int} (hb:Byt l) (h:∀n,1≤n→n≤4→n≤l.length→a0j l n=false):N3 l=(0,0):=by
 rcases c1i hb with h0|⟨n,hl,h1,h4,hv⟩
 ·exact h0
 ·have:=(b1r hb h1 h4 hl).2 hv
  rw [h n h1 h4 hl] at this
  cases this
def nx (l:List Int) (a:Nat):Nat:=(N3 (l.drop a)).2.toNat
def rn (l:List Int) (a:Nat):Int:=(N3 (l.drop a)).1
theorem b7p (l:List Int) (a:Nat):(N3 (l.drop a)).2=(nx l a:Int):=by
 unfold nx
 have:=b1q (l:=l.drop a)
 rcases this with h|h
 ·rw [h];rfl
 ·omega
theorem c5F {l:List Int} {a:Nat} (h:nx l a≠0):1≤nx l a∧nx l a≤4∧(a<l.length→a+nx l a≤l.length):=by
 have h1:=b1q (l:=l.drop a)
 have h2:=b7p l a
 rw [d3x] at h1
 rcases h1 with h1|h1
 ·rw [h1] at h2;simp at h2;omega
 ·omega
theorem b7q (l:List Int) (a:Nat):N3 (l.drop a)=(rn l a,(nx l a:Int)):=by
 rw [←b7p];rfl
end Go.Proofs.YtahpnackkmbmgaaGreat
end
section
namespace Go.Proofs.YtahpnackkmbmgaaGreat.Vm
open Go.RowKit
set_option maxRecDepth 100000
set_option maxHeartbeats 4000000
def K7 (l:List Int):List (List D):=l.map fun c=>[.sc (.int .u8 c)]
theorem T3 (l:List Int):(K7 l).length=l.length:=by unfold K7;rw [d3o]
theorem a08 {l:List Int} {k:Nat} (h:k<l.length):f7.get (K7 l) (k:Int)=some [.sc (.int .u8 (gb l k))]:=by
 show (if (0:Int)≤(k:Int) then (K7 l)[((k:Int)).toNat]? else none)=_
 rw [d2S (by omega),show ((k:Int)).toNat=k by omega]
 unfold K7 gb
 rw [d3u,d2P h,d3k,d2P h]
 rfl
theorem a1R {l:List Int} {a b:Nat} (h:a≤b) (hb:b≤l.length):f7.sub2 (K7 l) (a:Int) (b:Int)=some (K7 ((l.drop a).take (b - a))):=by
 show (if 0≤(a:Int)∧(a:Int)≤(b:Int)∧(b:Int)≤((K7 l).length:Int) then some (((K7 l).drop ((a:Int)).toNat).take (((b:Int)).toNat - ((a:Int)).toNat)) else none)=_
 rw [d2S ⟨by omega,by omega,by rw [T3];omega⟩]
 unfold K7
 rw [List.map_take,List.map_drop]
 rfl
abbrev b1N (f:Nat) (k:IntKind) (x:Int) (r:D):Prop:=o9 f [.one (.sc (.int k x))] [.one r]
theorem d1h {r:Int} {c0 c1 c2 c3:Bool} (m0:decide (0≤r)=c0) (l0:decide (r<55296)=c1) (l1:decide (57343<r)=c2) (m1:decide (r≤1114111)=c3):b1N 83 .i64 r (.sc (.bool (c0 && c1 || c2 && c3))):=by
 cases c0 <;> cases c1 <;> cases c2 <;> cases c3 <;> exact wk2 Tryz.func83 rfl
theorem c9d {r:Int} {c0 c1 c2 c3:Bool} (m0:decide (0≤r)=c0) (l0:decide (r<55296)=c1) (l1:decide (57343<r)=c2) (m1:decide (r≤1114111)=c3):b1N 119 .i32 r (.sc (.bool (c0 && c3 && (c1 || c2)))):=by
 cases c0 <;> cases c1 <;> cases c2 <;> cases c3 <;> exact wk2 Tryz.func119 rfl
theorem c9e (r:Int):b1N 83 .i64 r (.sc (.bool (isB r))):=by
 have h:=d1h (r:=r) rfl rfl rfl rfl
 have e:(decide (0≤r) && decide (r<55296) || decide (57343<r) && decide (r≤1114111))=isB r:=by
  rw [d4w,W8]
  simp only [d36,d2Z,d4d]
  omega
 rw [e] at h
 exact h
theorem c9f (r:Int):b1N 119 .i32 r (.sc (.bool (isB r))):=by
 have h:=c9d (r:=r) rfl rfl rfl rfl
 have e:(decide (0≤r) && decide (r≤1114111) && (decide (r<55296) || decide (57343<r)))=isB r:=by
  rw [d4w,W8]
  simp only [d36,d2Z,d4d]
  omega
 rw [e] at h
 exact h
theorem c6M (r:Int):b1N 120 .i32 r (.sc (.int .i64 (a1M r))):=by
 unfold a1M
 by_cases h1:r<128
 ·rw [d2S h1]
  have l0:=d3a h1
  exact wk2 Tryz.func120 rfl
 rw [d2T h1]
 have l0:=d2U h1
 by_cases h2:r<2048
 ·rw [d2S h2]
  have l1:=d3a h2
  exact wk2 Tryz.func120 rfl
 rw [d2T h2]
 have l1:=d2U h2
 by_cases h3:r<65536
 ·rw [d2S h3]
  have l2:=d3a h3
  exact wk2 Tryz.func120 rfl
 rw [d2T h3]
 have l2:=d2U h3
 exact wk2 Tryz.func120 rfl
theorem b4f (c:Int) (n:Nat) (hn:n≤8):W6 .shr .u8 c .u64 (n:Int)=some (c / 2 ^ n):=by
 show some (c.fdiv (2 ^ (min n 8)))=_
 rw [d4Q hn,Int.fdiv_eq_ediv_of_nonneg _ (d5a (Int.pow_pos (by decide)))]
theorem c5G {c:Int} (hc:0≤c∧c≤255):b1N 118 .u8 c (.sc (.int .i64 (U4 c))):=by
 have v0:W6 .shr .u8 c .u64 7=some (c / 128):=b4f c 7 (by decide)
 have v1:W6 .shr .u8 c .u64 5=some (c / 32):=b4f c 5 (by decide)
 have v2:W6 .shr .u8 c .u64 4=some (c / 16):=b4f c 4 (by decide)
 have v3:W6 .shr .u8 c .u64 3=some (c / 8):=b4f c 3 (by decide)
 have hb:∀ {x y:Int},x=y→(x == y)=true:=fun h=>by rw [h];exact d3C _
 obtain ⟨z0,e0⟩:∃z,z=c / 128:=⟨_,rfl⟩
 obtain ⟨z1,e1⟩:∃z,z=c / 32:=⟨_,rfl⟩
 obtain ⟨z2,e2⟩:∃z,z=c / 16:=⟨_,rfl⟩
 obtain ⟨z3,e3⟩:∃z,z=c / 8:=⟨_,rfl⟩
 rw [←e0] at v0
 rw [←e1] at v1
 rw [←e2] at v2
 rw [←e3] at v3
 unfold U4
 by_cases h1:c<128
 ·rw [d2S h1]
  have b0:=hb (show z0=0 by omega)
  exact wk2 Tryz.func118 rfl
 rw [d2T h1]
 have b0:=d2Y (show z0≠0 by omega)
 by_cases h2:192≤c∧c<224
 ·rw [d2S h2]
  have b1:=hb (show z1=6 by omega)
  exact wk2 Tryz.func118 rfl
 rw [d2T h2]
 have b1:=d2Y (show z1≠6 by omega)
 by_cases h3:224≤c∧c<240
 ·rw [d2S h3]
  have b2:=hb (show z2=14 by omega)
  exact wk2 Tryz.func118 rfl
 rw [d2T h3]
 have b2:=d2Y (show z2≠14 by omega)
 by_cases h4:240≤c∧c<248
 ·rw [d2S h4]
  have b3:=hb (show z3=30 by omega)
  exact wk2 Tryz.func118 rfl
 rw [d2T h4]
 have b3:=d2Y (show z3≠30 by omega)
 exact wk2 Tryz.func118 rfl
theorem a6x {k:IntKind} {n j:Nat} (hk:k.bits=n) (hj:j≤n) {x:Int} (hx:0≤x) (hx2:x<2 ^ n) (hw:∀y:Int,0≤y→y≤x→k.wrap y=y) (hq:keq k k=true):W6 .and k x k (2 ^ j - 1)=some (x % 2 ^ j):=by
 obtain ⟨a,rfl⟩:∃a:Nat,x=(a:Int):=⟨x.toNat,by omega⟩
 unfold W6
 simp only [hq]
 have e:(BitVec.ofInt k.bits ((a:Nat):Int) &&& BitVec.ofInt k.bits (2 ^ j - 1)).toNat=a % 2 ^ j:=by
  rw [hk,BitVec.toNat_and,show ((2:Int) ^ j - 1)=((2 ^ j - 1:Nat):Int) by rw [Int.natCast_sub (Nat.one_le_two_pow)];push_cast;rfl,d4H,d4H,d4T,d4T]
  have h2:a<2 ^ n:=by exact_mod_cast hx2
  have h3:2 ^ j - 1<2 ^ n:=d3R (Nat.sub_lt (Nat.two_pow_pos j) (by decide)) (Nat.pow_le_pow_right (by decide) hj)
  rw [d5j h2,d5j h3,Nat.and_two_pow_sub_one_eq_mod]
 rw [e]
 have e2:((a % 2 ^ j:Nat):Int)=(a:Int) % 2 ^ j:=by push_cast;rfl
 rw [←e2,hw _ (by omega) (by exact_mod_cast Nat.mod_le a _)]
theorem c3S {x d:Int} (hx:0≤x) (hx2:x≤33554431) (hd:0≤d∧d<64):W6 .or .i32 (x * 64) .i32 d=some (x * 64+d):=by
 obtain ⟨a,rfl⟩:∃a:Nat,x=(a:Int):=⟨x.toNat,by omega⟩
 obtain ⟨b,rfl⟩:∃b:Nat,d=(b:Int):=⟨d.toNat,by omega⟩
 unfold W6
 simp only [show keq IntKind.i32 IntKind.i32=true from rfl]
 have e:(BitVec.ofInt IntKind.i32.bits ((a:Nat) * 64:Int) ||| BitVec.ofInt IntKind.i32.bits ((b:Nat):Int)).toNat=64 * a+b:=by
  rw [show ((a:Nat) * 64:Int)=((64 * a:Nat):Int) by push_cast;omega,BitVec.toNat_or,d4H,d4H,d4T,d4T,show IntKind.i32.bits=32 from rfl]
  rw [d5j (by omega),d5j (by omega)]
  have:=Nat.two_pow_add_eq_or_of_lt (i:=6) (b:=b) (by omega) a
  simpa using this.symm
 rw [e,IntWalk.i32_in _ (by omega)]
 push_cast
 congr 1
 omega
theorem c1j {x:Int} (hx:0≤x∧x≤33554431):W6 .shl .i32 x .u64 6=some (x * 64):=by
 show some (IntKind.i32.wrap (x * 2 ^ (min 6 32)))=_
 rw [show (2:Int) ^ (min 6 32)=64 from rfl,IntWalk.i32_in _ (by omega)]
theorem c6N {l:List Int} (hb:Byt l) {m:Int} (hm:0≤m∧m≤127):∀k:Nat,k≤3→0≤L5 l m k∧L5 l m k≤33554431
 | 0,_=>by rw [L5];omega
 | 1,_=>by rw [L5,L5];have:=G0 hb 1;omega
 | 2,_=>by rw [L5,L5,L5];have:=G0 hb 1;have:=G0 hb 2;omega
 | 3,_=>by rw [L5,L5,L5,L5];have:=G0 hb 1;have:=G0 hb 2;have:=G0 hb 3;omega
 | k+4,h=>by omega
theorem d1i {l:List Int} (hb:Byt l) {m:Int} (hm:0≤m∧m≤127):∀k:Nat,k≤2→L5 l m k≤524287
 | 0,_=>by rw [L5];omega
 | 1,_=>by rw [L5,L5];have:=G0 hb 1;omega
 | 2,_=>by rw [L5,L5,L5];have:=G0 hb 1;have:=G0 hb 2;omega
 | k+3,h=>by omega
theorem b7r {l:List Int} {k:Nat} (h:Y6 l k=false):∀j,Y6 l (k+j)=false
 | 0=>h
 | j+1=>by show (Y6 l (k+j) && _)=false;rw [b7r h j];rfl
def c9g (l:List Int) (m:Int) (e:Nat) (x:Int×Int):Prop:=∃k:Nat,x.1=(k:Int)∧k≤e∧x.2=L5 l m k∧Y6 l k=true
theorem c6O {l:List Int} (hb:Byt l) {n:Nat} (hn1:1≤n) (hn4:n≤4) (hln:n≤l.length) (hl:l.length≤1048576) (hz:U4 (gb l 0)=n):o9 105 [.one (.sl 1 (K7 l))] [.one (.sc (.int .i32 (N3 l).1)),.one (.sc (.int .i64 (N3 l).2))]:=by
 have hc:=G0 hb 0
 have h0:=c5G hc
 rw [hz] at h0
 rw [Z2 hz (by omega)]
 unfold a0t
 have hm:0≤Y5 n (gb l 0)∧Y5 n (gb l 0)≤127:=by
  unfold Y5
  unfold U4 at hz
  split at hz <;> repeat' split
  all_goals omega
 have hmask:(n=1∧Y5 n (gb l 0)=gb l 0)∨(1<n∧∃s p q:Int,IntKind.i64.wrap (7 - (n:Int))=s∧W6 .shl .i32 1 .i64 s=some p∧IntKind.i32.wrap (p - 1)=q∧W6 .and .i32 (gb l 0) .i32 q=some (Y5 n (gb l 0))):=by
  have hw:∀y:Int,0≤y→y≤gb l 0→IntKind.i32.wrap y=y:=fun y h1 h2=>IntWalk.i32_in _ (by omega)
  rcases (show n=1∨n=2∨n=3∨n=4 by omega) with rfl|rfl|rfl|rfl
  ·exact .inl ⟨rfl,rfl⟩
  ·exact .inr ⟨by decide,5,32,31,by rw [IntWalk.i64_in _ (by omega)];rfl,rfl,by rw [IntWalk.i32_in _ (by omega)];rfl,a6x (k:=.i32) (n:=32) (j:=5) rfl (by decide) hc.1 (by omega) hw rfl⟩
  ·exact .inr ⟨by decide,4,16,15,by rw [IntWalk.i64_in _ (by omega)];rfl,rfl,by rw [IntWalk.i32_in _ (by omega)];rfl,a6x (k:=.i32) (n:=32) (j:=4) rfl (by decide) hc.1 (by omega) hw rfl⟩
  ·exact .inr ⟨by decide,3,8,7,by rw [IntWalk.i64_in _ (by omega)];rfl,rfl,by rw [IntWalk.i32_in _ (by omega)];rfl,a6x (k:=.i32) (n:=32) (j:=3) rfl (by decide) hc.1 (by omega) hw rfl⟩
 have g0:f7.get (K7 l) 0=some [.sc (.int .u8 (gb l 0))]:=a08 (l:=l) (k:=0) (by omega)
 have y0:f7.sub2 (K7 l) 1 (n:Int)=some (K7 ((l.drop 1).take (n - 1))):=a1R (a:=1) (b:=n) hn1 hln
 have hgt:∀k:Nat,k<n - 1→f7.get (K7 ((l.drop 1).take (n - 1))) (k:Int)=some [.sc (.int .u8 (gb l (k+1)))]:=fun k hk=>by
  rw [a08 (by rw [d3v,d3x];omega)]
  unfold gb
  rw [d3k,d32,d2S hk,d3y,d3k,Nat.add_comm]
 have hln2:((K7 ((l.drop 1).take (n - 1))).length:Int)=((n - 1:Nat):Int):=by rw [T3,d3v,d3x];omega
 have u0:IntKind.i32.wrap (gb l 0)=gb l 0:=IntWalk.i32_in _ (by omega)
 have hbd:=c6N hb hm
 have hbd2:=d1i hb hm
 have hN:((K7 l).length:Int)=(l.length:Int):=by rw [T3]
 have hgk:∀k,0≤gb l k∧gb l k≤255:=G0 hb
 obtain ⟨M,hM⟩:∃M,M=Y5 n (gb l 0):=⟨_,rfl⟩
 rw [←hM] at hbd hbd2 hmask ⊢
 obtain ⟨z,hzz⟩:∃z:Int,z=(n:Int):=⟨_,rfl⟩
 rw [←hzz] at h0 y0 hmask
 obtain ⟨e,he⟩:∃e,e=n - 1:=⟨_,rfl⟩
 rw [←he] at hln2 hgt y0 ⊢
 obtain ⟨P,hP⟩:∃P:Int×Int,P=if n≤l.length∧Y6 l e=true∧isB (L5 l M e)=true∧a1M (L5 l M e)=n then (L5 l M e,(n:Int)) else (0,0):=⟨_,rfl⟩
 rw [←hP]
 have hPn:¬(Y6 l e=true∧isB (L5 l M e)=true∧a1M (L5 l M e)=n)→P=(0,0):=fun h=>by rw [hP,d2T (fun hh=>h hh.2)]
 have hPy:Y6 l e=true→isB (L5 l M e)=true→a1M (L5 l M e)=n→P=(L5 l M e,z):=fun h1 h2 h3=>by rw [hP,d2S ⟨hln,h1,h2,h3⟩,hzz]
 have b0:(z == 0)=false:=d2Y (by omega)
 have l0:decide ((l.length:Int)<z)=false:=d2U (by omega)
 have hi0:∀inv,inv=c9g l M e→inv (0,M):=fun inv h=>by rw [h];exact ⟨0,rfl,d3t _,rfl,rfl⟩
 obtain ⟨inv,hv⟩:∃inv,inv=c9g l M e:=⟨_,rfl⟩
 replace hi0:=hi0 inv hv
 generalize hE:K7 ((l.drop 1).take e)=R2 at *
 obtain ⟨R1,hR1⟩:∃R1,R1=K7 l:=⟨_,rfl⟩
 rw [←hR1] at hN g0 y0 ⊢
 obtain ⟨c0,hc0⟩:∃c0,c0=gb l 0:=⟨_,rfl⟩
 rw [←hc0] at g0 h0 u0 hmask
 obtain ⟨N,hNN⟩:∃N:Int,N=(l.length:Int):=⟨_,rfl⟩
 rw [←hNN] at hN l0
 clear hP
 refine N2 Tryz.func105 rfl ?_;intro qa qb _ _ _ _ _ qi _ qk _ _ _ _ _ _ _ _ _ _ _ _ va;intros;rename_i hA
 obtain ⟨e1,e2,e3,e4,e5,e6,e7,e8,e9⟩:=j7 hA
 obtain ⟨r1,r2,r3,r4⟩:=A8 hA
 have q1:=eg hA g0
 have q2:=eb hA b0
 have q3:qi (va R1) z=false:=by rw [en hA hN,e7];exact l0
 have q4:=ewp hA u0
 have q5:=esb hA y0
 have hlz:va R2=(e:Int):=en hA hln2
 rcases hmask with ⟨hn,hMc⟩|⟨hn,s,p,q,d0,v0,d1,v1⟩
 case' inl =>
  have q6:qi 1 z=false:=el hA (d2U (by omega))
  subst hMc
  iterate 2 (try cbv;repeat ((first|with_reducible apply f8 hA|rw [q1]|rw [q2]|rw [q3]|rw [q4]|rw [q5]|rw [q6]|refine f9 hA _ h0 rfl ?_|refine i7 hA _ h0 ?_);cbv))
 case' inr =>
  have q6:qi 1 z=true:=el hA (d3a (by omega))
  have q7:=esu hA d0
  have q8:=ebi hA v0
  have q9:=esu hA d1
  have q10:=ebi hA v1
  iterate 2 (try cbv;repeat ((first|with_reducible apply f8 hA|rw [q1]|rw [q2]|rw [q3]|rw [q4]|rw [q5]|rw [q6]|rw [q7]|rw [q8]|rw [q9]|rw [q10]|refine f9 hA _ h0 rfl ?_|refine i7 hA _ h0 ?_);cbv))
 all_goals
  refine j9 hA (γ:=Int×Int) (fun x=>[(36,vi .i64 x.1),(5,vi .i32 x.2),(7,.jk)]) (fun x=>[]) inv (fun x=>e - x.1.toNat) (0,M) hi0 ?_ ?_
  ·cbv
  ·intro x hinv
   obtain ⟨i,r⟩:=x
   cbv;refine gn ?_;try simp only [nc] at *
   rw [hv] at hinv
   obtain ⟨k,hi,hk,hr,hct⟩:=hinv
   replace hi:i=(k:Int):=hi
   replace hr:r=L5 l M k:=hr
   by_cases h9:k<e
   ·have l1:decide (i<(e:Int))=true:=d3a (by omega)
    have t0:qi i (va R2)=true:=by rw [hlz];exact el hA l1
    have g1:=hgt k h9
    rw [←hi] at g1
    have hck:=hgk (k+1)
    have hac:L5 l M (k+1)=L5 l M k * 64+gb l (k+1) % 64:=by rw [L5]
    have hcs:Y6 l (k+1)=(Y6 l k && decide (gb l (k+1) / 64=2)):=by rw [Y6]
    have v2:W6 .shr .u8 (gb l (k+1)) .u64 6=some (gb l (k+1) / 64):=b4f _ 6 (by decide)
    obtain ⟨c1,hc1⟩:∃c1,c1=gb l (k+1):=⟨_,rfl⟩
    rw [←hc1] at g1 hck hac hcs v2
    obtain ⟨f,hf⟩:∃f,f=c1 / 64:=⟨_,rfl⟩
    rw [←hf] at v2 hcs
    have t1:=eg hA g1
    have t2:=ebi hA v2
    by_cases h2:f=2
    ·have b2:(f == 2)=true:=by rw [h2];rfl
     have t3:=eb hA b2
     have v3:W6 .shl .i32 r .u64 6=some (r * 64):=c1j (by rw [hr];exact hbd k (by omega))
     have v4:W6 .and .u8 c1 .u8 63=some (c1 % 64):=a6x (k:=.u8) (n:=8) (j:=6) rfl (by decide) hck.1 (by omega) (fun y h1 h2=>IntWalk.u8_in _ (by omega)) rfl
     have v5:W6 .or .i32 (r * 64) .i32 (c1 % 64)=some (r * 64+c1 % 64):=c3S (by rw [hr];exact (hbd k (by omega)).1) (by rw [hr];exact (hbd k (by omega)).2) (by omega)
     have u1:IntKind.i32.wrap (c1 % 64)=c1 % 64:=IntWalk.i32_in _ (by omega)
     have hn1:r * 64+c1 % 64=L5 l M (k+1):=by rw [hac,hr]
     have hct1:Y6 l (k+1)=true:=by rw [hcs,hct,h2];rfl
     obtain ⟨s1,hs1⟩:∃s1,s1=r * 64:=⟨_,rfl⟩
     obtain ⟨s2,hs2⟩:∃s2,s2=c1 % 64:=⟨_,rfl⟩
     obtain ⟨s3,hs3⟩:∃s3,s3=r * 64+c1 % 64:=⟨_,rfl⟩
     rw [←hs3] at v5 hn1
     rw [←hs1] at v3 v5
     rw [←hs2] at v4 v5 u1
     have t4:=ebi hA v3
     have t5:=ebi hA v4
     have t6:=ebi hA v5
     have t7:=ewp hA u1
     have hz1:qa .i64 (qb i 1)=((k+1:Nat):Int):=ew hA (by rw [IntWalk.i64_in _ (by omega)];omega)
     have hi':inv (qa .i64 (qb i 1),s3):=by rw [hv];exact ⟨k+1,hz1,h9,hn1,hct1⟩
     have hm':e - (qa .i64 (qb i 1)).toNat<e - i.toNat:=by rw [hz1,hi];omega
     rw [t0]
     try cbv;refine gr ?_;try simp only [nc] at *
     refine ⟨_,hi',hm',?_⟩
     cbv
    ·have b2:(f == 2)=false:=d2Y h2
     have t3:=eb hA b2
     have hPz:P=(0,0):=hPn fun hh=>by
      have h5:=b7r (l:=l) (k:=k+1) (by rw [hcs,d2U h2,d4I]) (e - (k+1))
      rw [show k+1+(e - (k+1))=e by omega] at h5
      rw [h5] at hh
      exact absurd hh.1 (by decide)
     rw [hPz,t0]
     try cbv;exact fr
   ·have l1:decide (i<(e:Int))=false:=d2U (by omega)
    have t0:qi i (va R2)=false:=by rw [hlz];exact el hA l1
    have hke:k=e:=by omega
    subst hke
    rw [←hr] at hPn hPy
    have h1:=c9f r
    have h2:=c6M r
    rw [t0]
    cases hB:isB r
    ·rw [hB] at h1
     have hPz:P=(0,0):=hPn fun hh=>by rw [hB] at hh;exact absurd hh.2.1 (by decide)
     rw [hPz]
     try cbv;exact fr
    ·rw [hB] at h1
     obtain ⟨y,hy⟩:∃y,y=a1M r:=⟨_,rfl⟩
     rw [←hy] at h2 hPn hPy
     by_cases h3:y=z
     ·have hPz:P=(r,z):=hPy hct hB (by omega)
      rw [hPz]
      have t3:qk y z=true:=eb hA (by rw [h3];exact d3C _)
      try cbv;exact fr
     ·have hPz:P=(0,0):=hPn fun hh=>by omega
      rw [hPz]
      have t3:qk y z=false:=eb hA (d2Y h3)
      try cbv;exact fr
section
theorem c6P {l:List Int} (hb:Byt l) (h1:1≤l.length) (hl:l.length≤1048576):o9 105 [.one (.sl 1 (K7 l))] [.one (.sc (.int .i32 (N3 l).1)),.one (.sc (.int .i64 (N3 l).2))]:=by
 have hc:=G0 hb 0
 have h0:=c5G hc
 have hz:=b7j (gb l 0)
 have g0:f7.get (K7 l) 0=some [.sc (.int .u8 (gb l 0))]:=a08 (l:=l) (k:=0) (by omega)
 have n0:((K7 l).length:Int)=(l.length:Int):=by rw [T3]
 obtain ⟨n,hn⟩:∃n:Nat,U4 (gb l 0)=n:=⟨(U4 (gb l 0)).toNat,by omega⟩
 by_cases hn0:n=0
 ·have e:N3 l=(0,0):=by unfold N3;rw [d2S (.inl (by omega))]
  rw [e]
  rw [show U4 (gb l 0)=0 by omega] at h0
  generalize gb l 0=c at *
  generalize K7 l=R at *
  exact wk2 Tryz.func105 rfl
 by_cases hln:n≤l.length
 ·exact c6O hb (by omega) (by omega) hln hl hn
 ·have e:N3 l=(0,0):=by unfold N3;rw [d2S (.inr (by omega))]
  rw [e]
  obtain ⟨z,hzz⟩:∃z,z=U4 (gb l 0):=⟨_,rfl⟩
  obtain ⟨N,hN⟩:∃N,N=(l.length:Int):=⟨_,rfl⟩
  rw [←hzz] at h0
  rw [←hN] at n0
  have b0:(z == 0)=false:=d2Y (by omega)
  have l0:decide (N<z)=true:=d3a (by omega)
  generalize gb l 0=c at *
  generalize K7 l=R at *
  exact wk2 Tryz.func105 rfl
theorem c9h {l:List Int} (hb:Byt l) {a:Nat} (ha:a<l.length) (hl:l.length≤1048576):o9 77 [.one (.sl 1 (K7 l)),.one (.sc (.int .i64 (a:Int)))] [.one (.sc (.int .i32 (if nx l a=0 then 0 else rn l a))),.one (.sc (.int .i64 (nx l a:Int))),.one (.sc (.int .u8 (if nx l a=0 then 3 else 0)))]:=by
 have h0:=c6P (a6w hb a) (by rw [d3x];omega) (by rw [d3x];omega)
 rw [b7q l a] at h0
 have n0:((K7 l).length:Int)=(l.length:Int):=by rw [T3]
 have y0:f7.sub2 (K7 l) (a:Int) (l.length:Int)=some (K7 (l.drop a)):=by
  rw [a1R (d4K ha) (d3b _),d31 (by rw [d3x];omega)]
 have l0:decide ((a:Int)<0)=false:=d2U (by omega)
 have m0:decide ((l.length:Int)≤(a:Int))=false:=d2U (by omega)
 generalize K7 (l.drop a)=R2 at *
 generalize K7 l=R at *
 obtain ⟨N,hN⟩:∃N,N=(l.length:Int):=⟨_,rfl⟩
 obtain ⟨z,hz⟩:∃z,z=(a:Int):=⟨_,rfl⟩
 obtain ⟨n,hn⟩:∃n,n=(nx l a:Int):=⟨_,rfl⟩
 rw [←hN] at n0 y0 m0
 rw [←hz] at y0 l0 m0 ⊢
 rw [←hn] at h0 ⊢
 generalize rn l a=r at *
 by_cases h:nx l a=0
 ·rw [d2S h,d2S h]
  have b0:(n == 0)=true:=by rw [hn,h];rfl
  have hn0:n=0:=by omega
  rw [hn0] at h0 b0 ⊢
  clear hn hn0
  exact wk2 Tryz.func77 rfl
 ·rw [d2T h,d2T h]
  have b0:(n == 0)=false:=d2Y (by omega)
  exact wk2 Tryz.func77 rfl
theorem tdv {r k:Int} (h:0≤r) (h2:r≤1114111) (hk:1≤k):IntKind.i64.wrap (r.tdiv k)=r / k:=by
 have h3:r / k≤r:=Int.ediv_le_self _ h
 have h4:0≤r / k:=Int.ediv_nonneg h (by omega)
 rw [Int.tdiv_eq_ediv_of_nonneg h,IntWalk.i64_in _ (by omega)]
theorem tmd {r k:Int} (h:0≤r):r.tmod k=r % k:=Int.tmod_eq_emod_of_nonneg h
theorem adw {x y:Int} (h:0≤x+y∧x+y≤1048576):IntKind.i64.wrap (x+y)=x+y:=IntWalk.i64_in _ (by omega)
section
variable {r z1 z2 z3 z4 z5 z6 z7 z8 z9 z10 z11:Int}
theorem d1j (l0:decide (r<128)=true) (u0:IntKind.u8.wrap r=z1):b1N 84 .i64 r (.sl 1 [[.sc (.int .u8 z1)]]):=wk2 Tryz.func84 rfl
theorem d1k (l0:decide (r<128)=false) (l1:decide (r<2048)=true) (k0:IntKind.i64.wrap (r.tdiv 64)=z1) (w0:IntKind.i64.wrap (192+z1)=z2) (u0:IntKind.u8.wrap z2=z3) (i0:r.tmod 64=z4) (w1:IntKind.i64.wrap (128+z4)=z5) (u1:IntKind.u8.wrap z5=z6):b1N 84 .i64 r (.sl 1 [[.sc (.int .u8 z3)],[.sc (.int .u8 z6)]]):=wk2 Tryz.func84 rfl
theorem d1l (l0:decide (r<128)=false) (l1:decide (r<2048)=false) (l2:decide (r<65536)=true) (k0:IntKind.i64.wrap (r.tdiv 4096)=z1) (w0:IntKind.i64.wrap (224+z1)=z2) (u0:IntKind.u8.wrap z2=z3) (k1:IntKind.i64.wrap (r.tdiv 64)=z4) (i0:z4.tmod 64=z5) (w1:IntKind.i64.wrap (128+z5)=z6) (u1:IntKind.u8.wrap z6=z7) (i1:r.tmod 64=z8) (w2:IntKind.i64.wrap (128+z8)=z9) (u2:IntKind.u8.wrap z9=z10):b1N 84 .i64 r (.sl 1 [[.sc (.int .u8 z3)],[.sc (.int .u8 z7)],[.sc (.int .u8 z10)]]):=wk2 Tryz.func84 rfl
theorem d1m {y1 y2 y3:Int} (l0:decide (r<128)=false) (l1:decide (r<2048)=false) (l2:decide (r<65536)=false) (k0:IntKind.i64.wrap (r.tdiv 262144)=z1) (w0:IntKind.i64.wrap (240+z1)=z2) (u0:IntKind.u8.wrap z2=z3) (k2:IntKind.i64.wrap (r.tdiv 4096)=y1) (i2:y1.tmod 64=y2) (w3:IntKind.i64.wrap (128+y2)=y3) (u3:IntKind.u8.wrap y3=z11) (k1:IntKind.i64.wrap (r.tdiv 64)=z4) (i0:z4.tmod 64=z5) (w1:IntKind.i64.wrap (128+z5)=z6) (u1:IntKind.u8.wrap z6=z7) (i1:r.tmod 64=z8) (w2:IntKind.i64.wrap (128+z8)=z9) (u2:IntKind.u8.wrap z9=z10):b1N 84 .i64 r (.sl 1 [[.sc (.int .u8 z3)],[.sc (.int .u8 z11)],[.sc (.int .u8 z7)],[.sc (.int .u8 z10)]]):=wk2 Tryz.func84 rfl
end
theorem c3U {r:Int} (h:isB r=true):b1N 84 .i64 r (.sl 1 (K7 (M7 r))):=by
 rw [W8] at h
 have u8:∀x:Int,0≤x→x≤255→IntKind.u8.wrap x=x:=fun x h1 h2=>IntWalk.u8_in _ ⟨h1,h2⟩
 unfold M7
 by_cases h1:r<128
 ·rw [d2S h1]
  exact d1j (d3a h1) (u8 r h.1 (by omega))
 rw [d2T h1]
 by_cases h2:r<2048
 ·rw [d2S h2]
  exact d1k (d2U h1) (d3a h2) (tdv h.1 h.2.1 (by decide)) (adw (by omega)) (u8 _ (by omega) (by omega)) (tmd h.1) (adw (by omega)) (u8 _ (by omega) (by omega))
 rw [d2T h2]
 by_cases h3:r<65536
 ·rw [d2S h3]
  exact d1l (d2U h1) (d2U h2) (d3a h3) (tdv h.1 h.2.1 (by decide)) (adw (by omega)) (u8 _ (by omega) (by omega)) (tdv h.1 h.2.1 (by decide)) (tmd (by omega)) (adw (by omega)) (u8 _ (by omega) (by omega)) (tmd h.1) (adw (by omega)) (u8 _ (by omega) (by omega))
 rw [d2T h3]
 exact d1m (d2U h1) (d2U h2) (d2U h3) (tdv h.1 h.2.1 (by decide)) (adw (by omega)) (u8 _ (by omega) (by omega)) (tdv h.1 h.2.1 (by decide)) (tmd (by omega)) (adw (by omega)) (u8 _ (by omega) (by omega)) (tdv h.1 h.2.1 (by decide)) (tmd (by omega)) (adw (by omega)) (u8 _ (by omega) (by omega)) (tmd h.1) (adw (by omega)) (u8 _ (by omega) (by omega))
theorem d1n (a b:List Int) (ha:a.length≤1048576) (hb:b.length≤1048576):o9 13 [.one (.sl 1 (K7 a)),.one (.sl 1 (K7 b))] [.one (.sc (.bool (a == b)))]:=by
 have na:((K7 a).length:Int)=(a.length:Int):=by rw [T3]
 have nb:((K7 b).length:Int)=(b.length:Int):=by rw [T3]
 have ga:=fun k h=>a08 (l:=a) (k:=k) h
 have gb':=fun k h=>a08 (l:=b) (k:=k) h
 obtain ⟨A,hA'⟩:∃A,A=K7 a:=⟨_,rfl⟩
 obtain ⟨B,hB'⟩:∃B,B=K7 b:=⟨_,rfl⟩
 rw [←hA'] at na ga ⊢
 rw [←hB'] at nb gb' ⊢
 obtain ⟨t,ht⟩:∃t,t=(a == b):=⟨_,rfl⟩
 rw [←ht]
 by_cases hl:a.length=b.length
 ·obtain ⟨inv,hv⟩:∃inv:Int→Prop,inv=fun z=>∃k:Nat,z=(k:Int)∧k≤a.length∧a.take k=b.take k:=⟨_,rfl⟩
  have hi0:inv 0:=by rw [hv];exact ⟨0,rfl,d3t _,rfl⟩
  obtain ⟨N,hN⟩:∃N,N=(a.length:Int):=⟨_,rfl⟩
  rw [←hN] at na
  rw [←hl,←hN] at nb
  refine N2 Tryz.func13 rfl ?_;intro qa qb _ _ _ _ _ qi _ qk;intros;rename_i hA
  obtain ⟨e1,e2,e3,e4,e5,e6,e7,e8,e9⟩:=j7 hA
  have q0:=en hA na
  have q1:=en hA nb
  have q2:=ebr hA (x:=N)
  try cbv;refine gr ?_;try simp only [nc] at *
  refine j9 hA (γ:=Int) (fun x=>[(5,vi .i64 x)]) (fun x=>[]) inv (fun x=>a.length - x.toNat) 0 hi0 ?_ ?_
  ·cbv
  ·intro z hinv
   cbv;refine gn ?_;try simp only [nc] at *
   rw [hv] at hinv
   obtain ⟨k,hz,hk,hp⟩:=hinv
   replace hz:z=(k:Int):=hz
   have hlt:qi z N=decide (k<a.length):=by rw [e7,hN,hz];exact d3l.2 (by omega)
   by_cases h9:k<a.length
   ·rw [d3a h9] at hlt
    have g1:=ga k h9
    have g2:=gb' k (by omega)
    rw [←hz] at g1 g2
    have hta:a.take (k+1)=a.take k++[gb a k]:=by rw [d3T h9];unfold gb;rw [d3k,d2P h9];rfl
    have htb:b.take (k+1)=b.take k++[gb b k]:=by rw [d3T (show k<b.length by omega)];unfold gb;rw [d3k,d2P (show k<b.length by omega)];rfl
    generalize gb a k=c at *
    generalize gb b k=d at *
    have t1:=eg hA g1
    have t2:=eg hA g2
    by_cases h:c=d
    ·have t3:qk c d=true:=eb hA (by rw [h];exact d3C _)
     have hz1:qa .i64 (qb z 1)=((k+1:Nat):Int):=ew hA (by rw [IntWalk.i64_in _ (by omega)];omega)
     have hi:inv (qa .i64 (qb z 1)):=by rw [hv];exact ⟨k+1,hz1,h9,by rw [hta,htb,hp,h]⟩
     have hm:a.length - (qa .i64 (qb z 1)).toNat<a.length - z.toNat:=by rw [hz1,hz];omega
     clear hta htb
     iterate 2 (try cbv;repeat ((first|with_reducible apply f8 hA|rw [q0]|rw [q1]|rw [hlt]|rw [t1]|rw [t2]|rw [t3]);cbv))
     try simp (maxSteps:=4000000) only [nc] at *
     refine ⟨_,hi,hm,?_⟩
     cbv
    ·have t3:qk c d=false:=eb hA (d2Y h)
     have hf:t=false:=by
      rw [ht]
      refine d2Y fun e=>h ?_
      rw [e,hp.symm.trans (by rw [e])] at hta
      have:=hta.symm.trans htb
      simpa using this
     rw [hf]
     clear hta htb
     iterate 2 (try cbv;repeat ((first|with_reducible apply f8 hA|rw [q0]|rw [q1]|rw [hlt]|rw [t1]|rw [t2]|rw [t3]);cbv))
   ·rw [d2U h9] at hlt
    have ht1:t=true:=by
     rw [ht]
     have e:a=b:=by
      rw [d31 (by omega),d31 (by omega)] at hp
      exact hp
     rw [e]
     exact d3C _
    rw [ht1]
    iterate 2 (try cbv;repeat ((first|with_reducible apply f8 hA|rw [q0]|rw [q1]|rw [hlt]);cbv))
 ·have hf:t=false:=by rw [ht];exact d2Y fun e=>hl (by rw [e])
  rw [hf]
  obtain ⟨N,hN⟩:∃N,N=(a.length:Int):=⟨_,rfl⟩
  obtain ⟨M,hM⟩:∃M,M=(b.length:Int):=⟨_,rfl⟩
  rw [←hN] at na
  rw [←hM] at nb
  have n0:=na
  have n1:=nb
  have b0:(N == M)=false:=d2Y (by omega)
  exact wk2 Tryz.func13 rfl
end
theorem a3o (l:List Int) (a k:Nat):gb (l.drop a) k=gb l (a+k):=by
 unfold gb
 rw [d3k,d3y,d3k]
theorem c3V {L:List Int} (hb:Byt L) {m:Int} (hm:-240≤m∧m≤255):∀k:Nat,k≤3→-134217728≤a1Q L m k∧a1Q L m k≤134217728
 | 0,_=>by rw [a1Q];omega
 | 1,_=>by rw [a1Q,a1Q];have:=G0 hb (0+1);omega
 | 2,_=>by rw [a1Q,a1Q,a1Q];have:=G0 hb (0+1);have:=G0 hb (1+1);omega
 | 3,_=>by rw [a1Q,a1Q,a1Q,a1Q];have:=G0 hb (0+1);have:=G0 hb (1+1);have:=G0 hb (2+1);omega
 | k+4,h=>by omega
theorem c9i {l:List Int} (hb:Byt l) {a:Nat} (ha:a<l.length) (hl:l.length≤1048576):o9 50 [.one (.sl 1 (K7 l)),.one (.sc (.int .i64 (a:Int)))] [.one (.sc (.int .i64 (N3 (l.drop a)).1)),.one (.sc (.int .i64 (N3 (l.drop a)).2))]:=by
 obtain ⟨L,hL⟩:∃L,L=l.drop a:=⟨_,rfl⟩
 have hbL:Byt L:=by rw [hL];exact a6w hb a
 have hLl:L.length=l.length - a:=by rw [hL,d3x]
 rw [←hL]
 have hgb:∀k,gb L k=gb l (a+k):=fun k=>by rw [hL];exact a3o l a k
 have hget:∀k,k<L.length→f7.get (K7 l) ((a:Int)+(k:Int))=some [.sc (.int .u8 (gb L k))]:=fun k hk=>by
  rw [hgb,show (a:Int)+(k:Int)=((a+k:Nat):Int) by omega]
  exact a08 (by omega)
 have hsub:∀k,k≤L.length→f7.sub2 (K7 l) (a:Int) ((a:Int)+(k:Int))=some (K7 (L.take k)):=fun k hk=>by
  rw [show (a:Int)+(k:Int)=((a+k:Nat):Int) by omega,a1R (by omega) (by omega),hL,show a+k - a=k by omega]
 have hn0:((K7 l).length:Int)=(l.length:Int):=by rw [T3]
 have hwon:=fun n h1 h4 hl' h=>b86 hbL (n:=n) h1 h4 hl' h
 have hlost:=b4d hbL
 have hrb:=fun m hm k hk=>c3V hbL (m:=m) hm k hk
 have hg8:=fun k=>G0 hbL k
 have hsm:=fun r k (h:isB r=true)=>d1n (M7 r) (L.take k) (by have:=b5I r;unfold a1M at this;repeat' split at this <;> omega) (by rw [d3v];omega)
 have hBs:=fun r (h:isB r=true)=>c3U h
 generalize K7 l=R at *
 obtain ⟨A,hA'⟩:∃A,A=(a:Int):=⟨_,rfl⟩
 obtain ⟨N,hN⟩:∃N,N=(l.length:Int):=⟨_,rfl⟩
 rw [←hN] at hn0
 rw [←hA'] at hget hsub ⊢
 obtain ⟨P,hP⟩:∃P,P=N3 L:=⟨_,rfl⟩
 rw [←hP] at hwon hlost ⊢
 obtain ⟨inv,hv⟩:∃inv:Int→Prop,inv=fun z=>∃k:Nat,z=(k:Int)∧1≤k∧k≤5∧∀j,1≤j→j<k→j≤L.length→a0j L j=false:=⟨_,rfl⟩
 have hi0:inv 1:=by rw [hv];exact ⟨1,rfl,by decide,by decide,fun j h1 h2=>by omega⟩
 refine N2 Tryz.func50 rfl ?_;intro qa qb qc qd _ _ _ qi qj _ _ _ _ _ _ _ _ _ _ _ _ _ _ vc;intros;rename_i hA
 obtain ⟨e1,e2,e3,e4,e5,e6,e7,e8,e9⟩:=j7 hA
 have q0:=en hA hn0
 try cbv;refine gr ?_;try simp only [nc] at *
 refine j9 hA (γ:=Int) (fun x=>[(6,vi .i64 x),(7,.jk),(8,.jk)]) (fun x=>[]) inv (fun x=>5 - x.toNat) 1 hi0 ?_ ?_
 ·cbv
 ·intro z hinv
  cbv;refine gn ?_;try simp only [nc] at *
  rw [hv] at hinv
  obtain ⟨k,hz,hk1,hk5,hf⟩:=hinv
  replace hz:z=(k:Int):=hz
  by_cases h4:k≤4
  ·have t0:qj z 4=true:=em hA (d3a (by omega))
   obtain ⟨s,hs⟩:∃s,s=A+z:=⟨_,rfl⟩
   have t1:qa .i64 (qb A z)=s:=ew hA (by rw [IntWalk.i64_in _ (by omega)];exact hs.symm)
   by_cases hkl:k≤L.length
   ·have t2:qj s N=true:=em hA (d3a (by omega))
    have g0:=hget 0 (by omega)
    rw [show A+((0:Nat):Int)=A by omega] at g0
    have t3:=eg hA g0
    have u0:IntKind.i64.wrap (gb L 0)=gb L 0:=IntWalk.i64_in _ (by have:=hg8 0;omega)
    have t4:=ewp hA u0
    have hm0:-240≤gb L 0 - b0B k∧gb L 0 - b0B k≤255:=by
     have:=hg8 0
     unfold b0B
     repeat' split
     all_goals omega
    have hrefR:a3K L k=a1Q L (gb L 0 - b0B k) (k - 1):=rfl
    obtain ⟨M,hM⟩:∃M,M=gb L 0 - b0B k:=⟨_,rfl⟩
    rw [←hM] at hm0 hrefR
    have t5:(k=1∧M=gb L 0)∨(1<k∧∃o:Int,vc [[.sc (.int .i64 0)],[.sc (.int .i64 0)],[.sc (.int .i64 192)],[.sc (.int .i64 224)],[.sc (.int .i64 240)]] z=some [.sc (.int .i64 o)]∧qa .i64 (qc (gb L 0) o)=M):=by
     have hg0:=hg8 0
     rcases (show k=1∨k=2∨k=3∨k=4 by omega) with rfl|rfl|rfl|rfl
     ·exact .inl ⟨rfl,by rw [hM];show gb L 0 - 0=_;omega⟩
     ·exact .inr ⟨by decide,192,by rw [hz];exact eg hA rfl,esu hA (by rw [IntWalk.i64_in _ (by omega),hM];rfl)⟩
     ·exact .inr ⟨by decide,224,by rw [hz];exact eg hA rfl,esu hA (by rw [IntWalk.i64_in _ (by omega),hM];rfl)⟩
     ·exact .inr ⟨by decide,240,by rw [hz];exact eg hA rfl,esu hA (by rw [IntWalk.i64_in _ (by omega),hM];rfl)⟩
    obtain ⟨c0,hc0⟩:∃c0,c0=gb L 0:=⟨_,rfl⟩
    rw [←hc0] at t3 t4 t5
    obtain ⟨inv2,hv2⟩:∃inv2:Int×Int→Prop,inv2=fun x=>∃j:Nat,x.1=((j+1:Nat):Int)∧j≤k - 1∧x.2=a1Q L M j:=⟨_,rfl⟩
    have hi2:inv2 (1,M):=by rw [hv2];exact ⟨0,rfl,d3t _,rfl⟩
    rcases t5 with ⟨hk,hMc⟩|⟨hk,o,t6,t7⟩
    case' inl =>
     have t8:qi 1 z=false:=el hA (d2U (by omega))
     subst hMc
     iterate 2 (try cbv;repeat ((first|with_reducible apply f8 hA|rw [q0]|rw [t0]|rw [t1]|rw [t2]|rw [t3]|rw [t4]|rw [t8]);cbv))
    case' inr =>
     have t8:qi 1 z=true:=el hA (d3a (by omega))
     iterate 2 (try cbv;repeat ((first|with_reducible apply f8 hA|rw [q0]|rw [t0]|rw [t1]|rw [t2]|rw [t3]|rw [t4]|rw [t8]|rw [t6]|rw [t7]|refine A6 hA true ?_);cbv))
    all_goals
     refine j9 hA (γ:=Int×Int) (fun x=>[(8,vi .i64 x.1),(7,vi .i64 x.2)]) (fun x=>[]) inv2 (fun x=>k - x.1.toNat) (1,M) hi2 ?_ ?_
     ·cbv
     ·intro x hinv2
      obtain ⟨i,r⟩:=x
      cbv;refine gn ?_;try simp only [nc] at *
      rw [hv2] at hinv2
      obtain ⟨j,hi,hj,hr⟩:=hinv2
      replace hi:i=((j+1:Nat):Int):=hi
      replace hr:r=a1Q L M j:=hr
      by_cases h9:j<k - 1
      ·have p0:qi i z=true:=el hA (d3a (by omega))
       have g1:=hget (j+1) (by omega)
       have hrj:=hrb M hm0 j (by omega)
       have hg9:=hg8 (j+1)
       have hst:a1Q L M (j+1)=64 * a1Q L M j+gb L (j+1) - 128:=by rw [a1Q]
       obtain ⟨s1,hs1⟩:∃s1,s1=A+i:=⟨_,rfl⟩
       rw [show A+((j+1:Nat):Int)=s1 by omega] at g1
       obtain ⟨c1,hc1⟩:∃c1,c1=gb L (j+1):=⟨_,rfl⟩
       rw [←hc1] at g1 hg9 hst
       obtain ⟨m1,hm1⟩:∃m1,m1=64 * r:=⟨_,rfl⟩
       obtain ⟨m2,hm2⟩:∃m2,m2=m1+c1:=⟨_,rfl⟩
       obtain ⟨m3,hm3⟩:∃m3,m3=m2 - 128:=⟨_,rfl⟩
       have p1:qa .i64 (qd 64 r)=m1:=emu hA (by rw [IntWalk.i64_in _ (by omega)];exact hm1.symm)
       have p2:qa .i64 (qb A i)=s1:=ew hA (by rw [IntWalk.i64_in _ (by omega)];exact hs1.symm)
       have p3:=eg hA g1
       have p4:qa .i64 c1=c1:=ewp hA (IntWalk.i64_in _ (by omega))
       have p5:qa .i64 (qb m1 c1)=m2:=ew hA (by rw [IntWalk.i64_in _ (by omega)];exact hm2.symm)
       have p6:qa .i64 (qc m2 128)=m3:=esu hA (by rw [IntWalk.i64_in _ (by omega)];exact hm3.symm)
       have hz1:qa .i64 (qb i 1)=((j+1+1:Nat):Int):=ew hA (by rw [IntWalk.i64_in _ (by omega)];omega)
       have hi':inv2 (qa .i64 (qb i 1),m3):=by rw [hv2];exact ⟨j+1,hz1,h9,by rw [hst];omega⟩
       have hm':k - (qa .i64 (qb i 1)).toNat<k - i.toNat:=by rw [hz1,hi];omega
       try cbv;refine gr ?_;try simp only [nc] at *
       refine ⟨_,hi',hm',?_⟩
       cbv
      ·have p0:qi i z=false:=el hA (d2U (by omega))
       have hjk:j=k - 1:=by omega
       have hrr:r=a3K L k:=by rw [hr,hrefR,hjk]
       have h1:=c9e r
       cases hB:isB r
       ·rw [hB] at h1
        have hz1:qa .i64 (qb z 1)=((k+1:Nat):Int):=ew hA (by rw [IntWalk.i64_in _ (by omega)];omega)
        have hi':inv (qa .i64 (qb z 1)):=by
         rw [hv]
         refine ⟨k+1,hz1,by omega,by omega,fun j h1 h2 h3=>?_⟩
         by_cases h:j<k
         ·exact hf j h1 h h3
         ·rw [show j=k by omega];unfold a0j;rw [←hrr,hB];rfl
        have hm':5 - (qa .i64 (qb z 1)).toNat<5 - z.toNat:=by rw [hz1,hz];omega
        try cbv;refine gr ?_;try simp only [nc] at *
        refine ⟨_,hi',hm',?_⟩
        cbv
       ·rw [hB] at h1
        have h2:=hBs r hB
        have h3:=hsm r k hB
        have hy:=hsub k hkl
        rw [←hz,←hs] at hy
        have p7:=esb hA hy
        have hT:a0j L k=(M7 r == L.take k):=by unfold a0j;rw [←hrr,hB];rfl
        obtain ⟨b,hbb⟩:∃b,b=(M7 r == L.take k):=⟨_,rfl⟩
        rw [←hbb] at h3 hT
        generalize K7 (M7 r)=B1 at *
        generalize K7 (L.take k)=B2 at *
        cases b
        ·have hz1:qa .i64 (qb z 1)=((k+1:Nat):Int):=ew hA (by rw [IntWalk.i64_in _ (by omega)];omega)
         have hi':inv (qa .i64 (qb z 1)):=by
          rw [hv]
          refine ⟨k+1,hz1,by omega,by omega,fun j h1 h2 h3=>?_⟩
          by_cases h:j<k
          ·exact hf j h1 h h3
          ·rw [show j=k by omega];exact hT
         have hm':5 - (qa .i64 (qb z 1)).toNat<5 - z.toNat:=by rw [hz1,hz];omega
         try cbv;refine gr ?_;try simp only [nc] at *
         refine ⟨_,hi',hm',?_⟩
         cbv
        ·have hPz:P=(r,z):=by rw [hwon k hk1 h4 hkl hT,←hrr,hz]
         rw [hPz]
         try cbv;exact fr
   ·have t2:qj s N=false:=em hA (d2U (by omega))
    have hPz:P=(0,0):=hlost fun j h1 h2 h3=>hf j h1 (by omega) h3
    rw [hPz]
    try cbv;exact fr
  ·have t0:qj z 4=false:=em hA (d2U (by omega))
   have hPz:P=(0,0):=hlost fun j h1 h2 h3=>hf j h1 (by omega) h3
   rw [hPz]
   try cbv;exact fr
end Go.Proofs.YtahpnackkmbmgaaGreat.Vm
end
section
namespace Go.Proofs.YtahpnackkmbmgaaGreat
open Go.RowKit
set_option maxRecDepth 100000
set_option maxHeartbeats 4000000
def a09 (c:Int):Bool:=decide (97≤c) && decide (c≤122)
def a4h (c:Int):Bool:=decide (65≤c) && decide (c≤90)
def E9 (c:Int):Bool:=decide (48≤c) && decide (c≤57)
def I6 (c:Int):Bool:=a09 c || (a4h c || (E9 c || c == 95))
theorem a4K (c:Int):a09 c=true↔97≤c∧c≤122:=by unfold a09;simp
theorem a4L (c:Int):a4h c=true↔65≤c∧c≤90:=by unfold a4h;simp
theorem a3e (c:Int):E9 c=true↔48≤c∧c≤57:=by unfold E9;simp
theorem c1k (c:Int):I6 c=true↔(97≤c∧c≤122)∨(65≤c∧c≤90)∨(48≤c∧c≤57)∨c=95:=by
 unfold I6;simp [a4K,a4L,a3e]
def a0d (c:Int):Int:=if a09 c then 1 else if a4h c then 2 else if E9 c then 3 else if c=95 then 4 else 0
theorem b4g (c:Int):0<a0d c↔I6 c=true:=by
 unfold a0d
 rw [c1k]
 simp only [a4K,a4L,a3e]
 repeat' split
 all_goals omega
theorem a99 (c:Int):a0d c=3↔E9 c=true:=by
 unfold a0d
 simp only [a4K,a4L,a3e]
 repeat' split
 all_goals omega
def l7 (s:ByteArray):List Int:=s.data.toList.map fun b=>(b.toNat:Int)
theorem G6 (s:ByteArray):(l7 s).length=s.size:=by unfold l7;rw [d3o,d4l];rfl
theorem b27 (s:ByteArray) (k:Nat) (h:k<s.size):(s[k].toNat:Int)=gb (l7 s) k:=by
 have h':k<s.data.size:=h
 have e:(l7 s)[k]?=some ((s.data[k].toNat:Nat):Int):=by
  unfold l7
  rw [d3u,d3E,d3N h']
  rfl
 unfold gb
 rw [d3k,e]
 rfl
theorem c1l {l:List Int} (h:Byt l):l7 (strOfNums l)=l:=by
 unfold l7
 rw [strOfNums_data,d4X]
 conv=>rhs;rw [←List.map_id l]
 apply d4x
 intro x hx
 have:=h x hx
 simp only [Function.comp,d5w,id]
 omega
def c1m (l:List Int) (i:Nat):Bool:=a09 (gb l i) || (decide (0<i) && (E9 (gb l i) || gb l i == 95))
def a1S (l:List Int):Bool:=decide (0<l.length) && (List.range l.length).all (c1m l)
def N4:List Int→Int→Int
 | [],n=>n
 | c::l,n=>N4 l (10 * n+(c - 48))
theorem b87 (l:List Int) (c n:Int):N4 (l++[c]) n=10 * N4 l n+(c - 48):=by
 induction l generalizing n with
 | nil=>rfl
 | cons d l ih=>simp only [d3I,N4];exact ih _
def a0V (l:List Int):Prop:=∀x∈l,48≤x∧x≤57
theorem b7s {l:List Int} (h:a0V l) {n:Int} (hn:0≤n):n≤N4 l n:=by
 induction l generalizing n with
 | nil=>exact Int.le_refl _
 | cons c l ih =>
  have hc:=h c (by simp)
  have:=ih (fun x hx=>h x (by simp [hx])) (n:=10 * n+(c - 48)) (by omega)
  simp only [N4];omega
theorem b1s {l:List Int} (h:a0V l) (k:Nat):N4 (l.take k) 0≤N4 l 0:=by
 have h1:∀(a b:List Int) (n:Int),N4 (a++b) n=N4 b (N4 a n):=by
  intro a
  induction a with
  | nil=>intro b n;rfl
  | cons c a ih=>intro b n;exact ih b _
 have h2:=b7s (fun x hx=>h x (d4s hx):a0V (l.take k)) (n:=0) (by omega)
 have h3:=b7s (fun x hx=>h x (d4t hx):a0V (l.drop k)) (n:=N4 (l.take k) 0) h2
 rw [←h1,d3X] at h3
 exact h3
theorem b1t {l:List Int} {k:Nat} (hk:k<l.length):N4 (l.take (k+1)) 0=10 * N4 (l.take k) 0+(gb l k - 48):=by rw [c3z hk,b87]
def ten:Nat→Int
 | 0=>1
 | n+1=>10 * ten n
theorem a8x (n:Nat):0<ten n:=by induction n <;> simp [ten];omega
theorem a6y (l:List Int) (n:Int):N4 l n=n * ten l.length+N4 l 0:=by
 induction l generalizing n with
 | nil=>simp [N4,ten]
 | cons c l ih =>
  simp only [N4,d2X,ten]
  rw [ih (10 * n+(c - 48)),ih (10 * 0+(c - 48))]
  grind
theorem a8y {l:List Int} (h:a0V l):0≤N4 l 0∧N4 l 0<ten l.length:=by
 induction l with
 | nil=>simp [N4,ten]
 | cons c l ih =>
  have hc:=h c (by simp)
  have hi:=ih fun x hx=>h x (by simp [hx])
  simp only [N4,d2X,ten]
  rw [a6y]
  have hp:=a8x l.length
  have h1:(10 * 0+(c - 48)) * ten l.length≤9 * ten l.length:=d4o (by omega) (d5a hp)
  have h2:0≤(10 * 0+(c - 48)) * ten l.length:=Int.mul_nonneg (by omega) (d5a hp)
  omega
def a3E:List Int→List Int→Bool
 | a::l,b::m=>if a=b then a3E l m else decide (a<b)
 | [],_::_=>true
 | _,[]=>false
theorem b4h {a b:List Int} (ha:a0V a) (hb:a0V b) (h:a.length=b.length):a3E a b=true↔N4 a 0<N4 b 0:=by
 induction a generalizing b with
 | nil =>
  cases b with
  | nil=>simp [a3E]
  | cons _ _=>simp at h
 | cons x a ih =>
  cases b with
  | nil=>simp at h
  | cons y b =>
   have hx:=ha x (by simp)
   have hy:=hb y (by simp)
   have ha':a0V a:=fun z hz=>ha z (by simp [hz])
   have hb':a0V b:=fun z hz=>hb z (by simp [hz])
   have hl:a.length=b.length:=by simpa using h
   have i:=ih ha' hb' hl
   have la:=a8y ha'
   have lb:=a8y hb'
   simp only [a3E,N4]
   rw [a6y a,a6y b,←hl]
   rw [←hl] at lb
   have hp:=a8x a.length
   by_cases e:x=y
   ·rw [d2S e,i,e];omega
   ·rw [d2T e,d4d]
    constructor
    ·intro hlt
     have:(10 * 0+(x - 48)+1) * ten a.length≤(10 * 0+(y - 48)) * ten a.length:=d4o (by omega) (d5a hp)
     rw [Int.add_mul] at this
     omega
    ·intro hlt
     apply Decidable.byContradiction
     intro hn
     have:(10 * 0+(y - 48)+1) * ten a.length≤(10 * 0+(x - 48)) * ten a.length:=d4o (by omega) (d5a hp)
     rw [Int.add_mul] at this
     omega
section
def W9:List ByteArray:=[⟨#[102,117,110]⟩,⟨#[114,101,99]⟩,⟨#[108,101,116]⟩,⟨#[105,110]⟩,⟨#[105,102]⟩,⟨#[116,104,101,110]⟩,⟨#[101,108,115,101]⟩,⟨#[99,97,115,101]⟩,⟨#[111,102]⟩,⟨#[101,110,100]⟩,⟨#[116,114,117,101]⟩,⟨#[102,97,108,115,101]⟩,⟨#[100,101,102]⟩,⟨#[73,110,116]⟩,⟨#[66,111,111,108]⟩]
def H7:List ByteArray:=[⟨#[61,61]⟩,⟨#[61,62]⟩,⟨#[58,61]⟩,⟨#[45,62]⟩,⟨#[40]⟩,⟨#[41]⟩,⟨#[123]⟩,⟨#[125]⟩,⟨#[60]⟩,⟨#[62]⟩,⟨#[61]⟩,⟨#[44]⟩,⟨#[58]⟩,⟨#[59]⟩,⟨#[124]⟩,⟨#[46]⟩,⟨#[92]⟩,⟨#[64]⟩,⟨#[94]⟩,⟨#[63]⟩,⟨#[43]⟩,⟨#[45]⟩,⟨#[42]⟩,⟨#[47]⟩,⟨#[37]⟩]
def a2E:List (List Int):=[[61,61],[61,62],[58,61],[45,62],[40],[41],[123],[125],[60],[62],[61],[44],[58],[59],[124],[46],[92],[64],[94],[63],[43],[45],[42],[47],[37]]
def a7v:List Int:=[40,41,123,125,60,62,61,44,58,59,124,46,92,64,94,63,43,45,42,47,37]
def inB (ws:List ByteArray) (s:ByteArray):Bool:=ws.any fun w=>w.toList == s.toList
def a5B (s:ByteArray):Bool:=inB W9 s
def b28 (a b:Int):Bool:=(a == 61 && b == 61) || ((a == 61 && b == 62) || ((a == 58 && b == 61) || (a == 45 && b == 62)))
def E2 (l:List Int):Nat:=if 2≤l.length∧b28 (gb l 0) (gb l 1)=true then 2 else if gb l 0∈a7v then 1 else 0
theorem c3X (l:List Int) (h:1≤l.length):E2 l≤2∧E2 l≤l.length:=by unfold E2;split;omega;split <;> omega
structure Tok where
 kind:Int
 text:ByteArray
 n:Int
 at_:Int
def a0x (l:List Int):Int×Int :=
 if (gb l 0=48∧1<l.length)∨¬(l.all E9=true) then (0,4) else if 9223372036854775807<N4 l 0 then (0,7) else (N4 l 0,0)
def a0k (s:ByteArray) (at_:Int):Tok×Int :=
 if E9 (gb (l7 s) 0)=true then (⟨2,⟨#[]⟩,(a0x (l7 s)).1,at_⟩,(a0x (l7 s)).2) else
 if a5B s=true then (⟨3,s,0,at_⟩,0) else if a1S (l7 s)=false then (⟨1,s,0,at_⟩,4) else
 if 32<(l7 s).length then (⟨1,s,0,at_⟩,7) else (⟨1,s,0,at_⟩,0)
def L6 (c:Int):Bool:=c == 32 || (c == 9 || (c == 13 || c == 10))
def J2 (l:List Int) (a:Nat):List Int:=(l.drop a).takeWhile I6
def body (rec_:Nat→Bool→List Tok→List Tok×Int×Int) (l:List Int) (a:Nat) (rem:Bool) (out:List Tok):List Tok×Int×Int :=
 if a<l.length then
  if nx l a=0 then ([],a,3)
  else if rem=true then rec_ (a+nx l a) (gb l a != 10) out
  else if L6 (gb l a)=true then rec_ (a+1) false out
  else if gb l a=35 then rec_ (a+1) true out
  else if I6 (gb l a)=true then
   if (a0k (strOfNums (J2 l a)) a).2=0 then rec_ (a+(J2 l a).length) false (out++[(a0k (strOfNums (J2 l a)) a).1]) else ([],a,(a0k (strOfNums (J2 l a)) a).2)
  else if E2 (l.drop a)=0 then ([],a,4)
  else rec_ (a+E2 (l.drop a)) false (out++[⟨3,strOfNums ((l.drop a).take (E2 (l.drop a))),0,a⟩])
 else (out++[⟨4,⟨#[]⟩,0,l.length⟩],0,0)
def a9A (l:List Int):Nat→Nat→Bool→List Tok→List Tok×Int×Int
 | 0=>fun _ _ _=>([],0,0)
 | f+1=>fun a rem out=>body (a9A l f) l a rem out
theorem b29 {l:List Int} {a:Nat} (h:a<l.length) (hr:I6 (gb l a)=true):0<(J2 l a).length:=by
 unfold J2
 rw [d3r h]
 have:l[a]=gb l a:=by unfold gb;simp [h]
 rw [List.takeWhile_cons,this,hr]
 simp
theorem a5C {r1 r2:Nat→Bool→List Tok→List Tok×Int×Int} {l:List Int} {a:Nat} (h:∀a',a<l.length→a<a'→r1 a'=r2 a') (rem:Bool) (out:List Tok):body r1 l a rem out=body r2 l a rem out:=by
 unfold body
 by_cases ha:a<l.length
 ·rw [d2S ha,d2S ha]
  by_cases h0:nx l a=0
  ·rw [d2S h0,d2S h0]
  rw [d2T h0,d2T h0]
  rw [h (a+nx l a) ha (by omega),h (a+1) ha (by omega)]
  by_cases hr:I6 (gb l a)=true
  ·rw [h _ ha (by have:=b29 ha hr;omega:a<a+(J2 l a).length)]
   simp only [hr,d4S]
  ·have hr':I6 (gb l a)=false:=by simpa using hr
   simp only [hr',d4h,d5u]
   by_cases hs:E2 (l.drop a)=0
   ·simp only [hs,d4S]
   ·rw [h _ ha (by omega:a<a+E2 (l.drop a))]
 ·rw [d2T ha,d2T ha]
theorem b88 (l:List Int):∀(n f g a:Nat),l.length - a≤n→l.length - a<f→l.length - a<g→a9A l f a=a9A l g a:=by
 intro n
 induction n with
 | zero =>
  intro f g a hn hf hg
  obtain ⟨f,rfl⟩:∃k,f=k+1:=⟨f - 1,by omega⟩
  obtain ⟨g,rfl⟩:∃k,g=k+1:=⟨g - 1,by omega⟩
  funext rem out
  exact a5C (fun a' h _=>by omega) rem out
 | succ n ih =>
  intro f g a hn hf hg
  obtain ⟨f,rfl⟩:∃k,f=k+1:=⟨f - 1,by omega⟩
  obtain ⟨g,rfl⟩:∃k,g=k+1:=⟨g - 1,by omega⟩
  funext rem out
  exact a5C (fun a' h h'=>ih f g a' (by omega) (by omega) (by omega)) rem out
def o7 (l:List Int) (a:Nat) (rem:Bool) (out:List Tok):List Tok×Int×Int:=a9A l (l.length - a+1) a rem out
theorem a1n (l:List Int) (a:Nat) (rem:Bool) (out:List Tok):o7 l a rem out=body (o7 l) l a rem out:=by
 show body (a9A l (l.length - a)) l a rem out=_
 refine a5C (fun a' h h'=>?_) rem out
 funext rem out
 show a9A l (l.length - a) a' rem out=a9A l (l.length - a'+1) a' rem out
 rw [b88 l (l.length - a') (l.length - a) (l.length - a'+1) a' (by omega) (by omega) (by omega)]
section
variable {l:List Int} {a:Nat} {rem:Bool} {out:List Tok}
theorem a6z (h:l.length≤a):o7 l a rem out=(out++[⟨4,⟨#[]⟩,0,l.length⟩],0,0):=by rw [a1n];unfold body;rw [d2T (by omega)]
theorem a9B (h:a<l.length) (h0:nx l a=0):o7 l a rem out=([],(a:Int),3):=by rw [a1n];unfold body;rw [d2S h,d2S h0]
theorem a60 (h:a<l.length) (h0:nx l a≠0):o7 l a true out=o7 l (a+nx l a) (gb l a != 10) out:=by rw [a1n];unfold body;rw [d2S h,d2T h0,d2S rfl]
theorem a5D (h:a<l.length) (h0:nx l a≠0) (hb:L6 (gb l a)=true):o7 l a false out=o7 l (a+1) false out:=by rw [a1n];unfold body;rw [d2S h,d2T h0,d2T (by decide),d2S hb]
theorem b1u (h:a<l.length) (h0:nx l a≠0) (hb:gb l a=35):o7 l a false out=o7 l (a+1) true out:=by rw [a1n];unfold body;rw [d2S h,d2T h0,d2T (by decide),d2T (by rw [hb];decide),d2S hb]
theorem b4i (h:a<l.length) (h0:nx l a≠0) (hb:L6 (gb l a)=false) (hh:gb l a≠35) (hr:I6 (gb l a)=true) :
  o7 l a false out=if (a0k (strOfNums (J2 l a)) a).2=0 then o7 l (a+(J2 l a).length) false (out++[(a0k (strOfNums (J2 l a)) a).1]) else ([],(a:Int),(a0k (strOfNums (J2 l a)) a).2):=by
 rw [a1n];unfold body;rw [d2S h,d2T h0,d2T (by decide),d2T (by rw [hb];decide),d2T hh,d2S hr]
theorem a7L (h:a<l.length) (h0:nx l a≠0) (hb:L6 (gb l a)=false) (hh:gb l a≠35) (hr:I6 (gb l a)=false) (hs:E2 (l.drop a)=0):o7 l a false out=([],(a:Int),4):=by
 rw [a1n];unfold body;rw [d2S h,d2T h0,d2T (by decide),d2T (by rw [hb];decide),d2T hh,d2T (by rw [hr];decide),d2S hs]
theorem b1v (h:a<l.length) (h0:nx l a≠0) (hb:L6 (gb l a)=false) (hh:gb l a≠35) (hr:I6 (gb l a)=false) (hs:E2 (l.drop a)≠0) :
  o7 l a false out=o7 l (a+E2 (l.drop a)) false (out++[⟨3,strOfNums ((l.drop a).take (E2 (l.drop a))),0,a⟩]):=by
 rw [a1n];unfold body;rw [d2S h,d2T h0,d2T (by decide),d2T (by rw [hb];decide),d2T hh,d2T (by rw [hr];decide),d2T hs]
end
theorem a3f {l:List Int} {a:Nat} (hb:Byt l) (h:a<l.length) (hc:gb l a<128):nx l a=1:=by
 have h1:=b7o (a6w hb a) 1 (by rw [d3x];omega) (by simp only [V];rw [a3o];exact hc)
 unfold nx;rw [h1];rfl
theorem a3g (c:Int):L6 c=true↔c=32∨c=9∨c=13∨c=10:=by unfold L6;simp
theorem a9C (c:Int):L6 c=false↔¬(c=32∨c=9∨c=13∨c=10):=by rw [←a3g];simp
theorem b89 {c:Int} (h:c∈a7v):37≤c∧c≤125:=by simp [a7v] at h;omega
end
end Go.Proofs.YtahpnackkmbmgaaGreat
end
section
namespace Go.Proofs.YtahpnackkmbmgaaGreat.Vm
open Go.RowKit
set_option maxRecDepth 100000
set_option maxHeartbeats 4000000
def okB (first:Bool) (c:Int):Bool:=a09 c || (!first && (E9 c || c == 95))
def okL:Bool→List UInt8→Bool
 | _,[]=>true
 | f,c::l=>okB f (c.toNat:Int) && okL false l
def a0A (s:ByteArray):Bool:=okL true (btl s) && decide (0<s.size)
def E3 (s:ByteArray):Bool:=decide (s.size≤32) && (a0A s && !a5B s)
theorem b5J {l:List UInt8} {k:Nat} {c:UInt8} (h:l[k]?=some c):okL (k == 0) (l.drop k)=(okB (k == 0) (c.toNat:Int) && okL (k+1 == 0) (l.drop (k+1))):=by
 obtain ⟨hi,e⟩:=d2Q.1 h
 rw [d3r hi,e,okL]
 rfl
theorem b7t (c:Int):o9 99 [.one (.sc (.int .u8 c))] [.one (.sc (.bool (a09 c)))]:=by
 generalize hb:a09 c=b
 unfold a09 at hb
 refine N2 Tryz.func99 rfl ?_;intro _ _ _ _ _ _ _ _ qj;intros;rename_i hA
 cbv;refine gn ?_
 obtain ⟨e1,e2,e3,e4,e5,e6,e7,e8,e9⟩:=j7 hA
 rw [←e8,←e8] at hb
 cases h1:qj 97 c
 ·cbv;refine gn ?_
  rw [h1] at hb
  exact a0c hb
 ·cbv;refine gn ?_
  rw [h1] at hb
  exact a0c hb
theorem a8z (c:Int):o9 101 [.one (.sc (.int .u8 c))] [.one (.sc (.bool (E9 c)))]:=by
 generalize hb:E9 c=b
 unfold E9 at hb
 refine N2 Tryz.func101 rfl ?_;intro _ _ _ _ _ _ _ _ qj;intros;rename_i hA
 cbv;refine gn ?_
 obtain ⟨e1,e2,e3,e4,e5,e6,e7,e8,e9⟩:=j7 hA
 rw [←e8,←e8] at hb
 cases h1:qj 48 c
 ·cbv;refine gn ?_
  rw [h1] at hb
  exact a0c hb
 ·cbv;refine gn ?_
  rw [h1] at hb
  exact a0c hb
theorem b4j (s:ByteArray) (hs:s.size≤4611686018427387904):o9 104 [.one (.sc (.string s))] [.one (.sc (.bool (a0A s)))]:=by
 generalize hb:a0A s=b
 unfold a0A at hb
 refine N2 Tryz.func104 rfl ?_;intro qa qb _ _ _ _ _ qi _ qk _ qm _ qp _ _ qu qv;intros;rename_i hA
 cbv;refine gn ?_
 obtain ⟨e1,e2,e3,e4,e5,e6,e7,e8,e9⟩:=j7 hA
 obtain ⟨s1,s2,s3,s4,s5,s6,-⟩:=G1 hA
 refine j9 hA (γ:=Int) (fun z=>[(7,vi .i64 z)]) (fun _=>[]) (fun z=>∃k:Nat,z=(k:Int)∧k≤s.size∧(okL (k == 0) ((btl s).drop k) && decide (0<s.size))=b) (fun z=>s.size - z.toNat) 0 ?_ ?_ ?_
 ·exact ⟨0,rfl,d3t _,hb⟩
 ·cbv
 ·intro z hinv
  cbv;refine gn ?_
  obtain ⟨k,hz,hk,hE⟩:=hinv
  replace hz:z=(k:Int):=hz
  replace s5:qu s=((s.size:Nat):Int):=s5 s
  have hlt:qi z (qu s)=decide (k<s.size):=by rw [e7,s5,hz];exact d3l.2 (by omega)
  by_cases h9:k<s.size
  ·rw [d3a h9] at hlt
   obtain ⟨c,hc⟩:∃c,(btl s)[k]?=some c:=⟨_,d2P (by rw [a07];exact h9)⟩
   have g1:qv s z=some (c.toNat:Int):=by rw [s6,hz];exact b26 hc
   rw [b5J hc] at hE
   have hd1:=b7t (c.toNat:Int)
   have hd2:=a8z (c.toNat:Int)
   have hz0:qk z 0=(k == 0):=by
    rw [e9,hz]
    cases k with
    | zero=>rfl
    | succ k=>exact d34.2 (by omega)
   have hz1:qa .i64 (qb z 1)=((k+1:Nat):Int):=by rw [e1,e2,hz,IntWalk.i64_in _ (by omega)];omega
   have hm:s.size - (qa .i64 (qb z 1)).toNat<s.size - z.toNat:=by rw [hz1,hz];omega
   have h95:qk (c.toNat:Int) 95=((c.toNat:Int) == 95):=e9 _ _
   unfold okB at hE
   generalize (c.toNat:Int)=cc at *
   generalize a09 cc=q1 at *
   generalize E9 cc=q2 at *
   generalize (cc == 95)=q3 at *
   generalize (k == 0)=q0 at *
   rw [hlt]
   cbv;refine gn ?_
   rw [g1]
   cbv;refine gn ?_
   refine f9 hA _ hd1 ?_ ?_
   ·rfl
   cases q1
   ·cbv;refine gn ?_
    rw [hz0]
    cases q0
    ·cbv;refine gn ?_
     refine f9 hA _ hd2 ?_ ?_
     ·rfl
     cases q2
     ·cbv;refine gn ?_
      rw [h95]
      cases q3
      ·cbv;refine gn ?_
       exact a0c hE
      ·cbv;refine gn ?_
       exact ⟨_,⟨k+1,hz1,h9,hE⟩,hm,by cbv⟩
     ·cbv;refine gn ?_
      exact ⟨_,⟨k+1,hz1,h9,hE⟩,hm,by cbv⟩
    ·cbv;refine gn ?_
     exact a0c hE
   ·cbv;refine gn ?_
    exact ⟨_,⟨k+1,hz1,h9,hE⟩,hm,by cbv⟩
  ·rw [d2U h9] at hlt
   have hk:k=s.size:=by omega
   rw [hk,d3A (by rw [a07];exact d3b _),okL] at hE
   have hq:qm (qp s) (qp ⟨⟨[]⟩⟩)=!b:=by
    rw [s1,s3,s3,a59,a59,←hE,d44]
    cases h:btl s with
    | nil=>rw [←a07,h];rfl
    | cons x l=>rw [←a07,h,d3a (show 0<(x::l).length by simp)];rfl
   rw [hlt]
   cbv;refine gn ?_
   rw [hq]
   exact a0c (by cases b <;> rfl)
theorem c1n {s:ByteArray} (h:∀x∈W9,(s.toList == x.toList)=false):a5B s=false:=by
 unfold a5B inB
 rw [List.any_eq_false]
 intro x hx
 have:=h x hx
 rw [Bool.beq_comm] at this
 rw [this]
 decide
theorem K3 {s x:ByteArray} (hx:x∈W9) (h:(s.toList == x.toList)=true):a5B s=true:=by
 unfold a5B inB
 rw [List.any_eq_true]
 exact ⟨x,hx,by rw [Bool.beq_comm];exact h⟩
theorem c5H (s:ByteArray):o9 103 [.one (.sc (.string s))] [.one (.sc (.bool (a5B s)))]:=by
 generalize hb:a5B s=b
 refine N2 Tryz.func103 rfl ?_;intro _ _ _ _ _ _ _ _ _ _ _ qm _ qp;intros;rename_i hA
 cbv;refine gn ?_
 obtain ⟨s1,s2,s3,s4,s5,s6,-⟩:=G1 hA
 cases g0:qm (qp s) (qp ⟨⟨[102,117,110]⟩⟩)
 rotate_left
 ·cbv;refine gn ?_
  refine a0c ?_
  rw [←hb]
  rw [s1,s3,s3] at g0
  exact (K3 (x:=⟨⟨[102,117,110]⟩⟩) (by unfold W9;repeat first|exact d2V ..|apply d2W) g0).symm
 cbv;refine gn ?_
 cases g1:qm (qp s) (qp ⟨⟨[114,101,99]⟩⟩)
 rotate_left
 ·cbv;refine gn ?_
  refine a0c ?_
  rw [←hb]
  rw [s1,s3,s3] at g1
  exact (K3 (x:=⟨⟨[114,101,99]⟩⟩) (by unfold W9;repeat first|exact d2V ..|apply d2W) g1).symm
 cbv;refine gn ?_
 cases g2:qm (qp s) (qp ⟨⟨[108,101,116]⟩⟩)
 rotate_left
 ·cbv;refine gn ?_
  refine a0c ?_
  rw [←hb]
  rw [s1,s3,s3] at g2
  exact (K3 (x:=⟨⟨[108,101,116]⟩⟩) (by unfold W9;repeat first|exact d2V ..|apply d2W) g2).symm
 cbv;refine gn ?_
 cases g3:qm (qp s) (qp ⟨⟨[105,110]⟩⟩)
 rotate_left
 ·cbv;refine gn ?_
  refine a0c ?_
  rw [←hb]
  rw [s1,s3,s3] at g3
  exact (K3 (x:=⟨⟨[105,110]⟩⟩) (by unfold W9;repeat first|exact d2V ..|apply d2W) g3).symm
 cbv;refine gn ?_
 cases g4:qm (qp s) (qp ⟨⟨[105,102]⟩⟩)
 rotate_left
 ·cbv;refine gn ?_
  refine a0c ?_
  rw [←hb]
  rw [s1,s3,s3] at g4
  exact (K3 (x:=⟨⟨[105,102]⟩⟩) (by unfold W9;repeat first|exact d2V ..|apply d2W) g4).symm
 cbv;refine gn ?_
 cases g5:qm (qp s) (qp ⟨⟨[116,104,101,110]⟩⟩)
 rotate_left
 ·cbv;refine gn ?_
  refine a0c ?_
  rw [←hb]
  rw [s1,s3,s3] at g5
  exact (K3 (x:=⟨⟨[116,104,101,110]⟩⟩) (by unfold W9;repeat first|exact d2V ..|apply d2W) g5).symm
 cbv;refine gn ?_
 cases g6:qm (qp s) (qp ⟨⟨[101,108,115,101]⟩⟩)
 rotate_left
 ·cbv;refine gn ?_
  refine a0c ?_
  rw [←hb]
  rw [s1,s3,s3] at g6
  exact (K3 (x:=⟨⟨[101,108,115,101]⟩⟩) (by unfold W9;repeat first|exact d2V ..|apply d2W) g6).symm
 cbv;refine gn ?_
 cases g7:qm (qp s) (qp ⟨⟨[99,97,115,101]⟩⟩)
 rotate_left
 ·cbv;refine gn ?_
  refine a0c ?_
  rw [←hb]
  rw [s1,s3,s3] at g7
  exact (K3 (x:=⟨⟨[99,97,115,101]⟩⟩) (by unfold W9;repeat first|exact d2V ..|apply d2W) g7).symm
 cbv;refine gn ?_
 cases g8:qm (qp s) (qp ⟨⟨[111,102]⟩⟩)
 rotate_left
 ·cbv;refine gn ?_
  refine a0c ?_
  rw [←hb]
  rw [s1,s3,s3] at g8
  exact (K3 (x:=⟨⟨[111,102]⟩⟩) (by unfold W9;repeat first|exact d2V ..|apply d2W) g8).symm
 cbv;refine gn ?_
 cases g9:qm (qp s) (qp ⟨⟨[101,110,100]⟩⟩)
 rotate_left
 ·cbv;refine gn ?_
  refine a0c ?_
  rw [←hb]
  rw [s1,s3,s3] at g9
  exact (K3 (x:=⟨⟨[101,110,100]⟩⟩) (by unfold W9;repeat first|exact d2V ..|apply d2W) g9).symm
 cbv;refine gn ?_
 cases g10:qm (qp s) (qp ⟨⟨[116,114,117,101]⟩⟩)
 rotate_left
 ·cbv;refine gn ?_
  refine a0c ?_
  rw [←hb]
  rw [s1,s3,s3] at g10
  exact (K3 (x:=⟨⟨[116,114,117,101]⟩⟩) (by unfold W9;repeat first|exact d2V ..|apply d2W) g10).symm
 cbv;refine gn ?_
 cases g11:qm (qp s) (qp ⟨⟨[102,97,108,115,101]⟩⟩)
 rotate_left
 ·cbv;refine gn ?_
  refine a0c ?_
  rw [←hb]
  rw [s1,s3,s3] at g11
  exact (K3 (x:=⟨⟨[102,97,108,115,101]⟩⟩) (by unfold W9;repeat first|exact d2V ..|apply d2W) g11).symm
 cbv;refine gn ?_
 cases g12:qm (qp s) (qp ⟨⟨[100,101,102]⟩⟩)
 rotate_left
 ·cbv;refine gn ?_
  refine a0c ?_
  rw [←hb]
  rw [s1,s3,s3] at g12
  exact (K3 (x:=⟨⟨[100,101,102]⟩⟩) (by unfold W9;repeat first|exact d2V ..|apply d2W) g12).symm
 cbv;refine gn ?_
 cases g13:qm (qp s) (qp ⟨⟨[73,110,116]⟩⟩)
 rotate_left
 ·cbv;refine gn ?_
  refine a0c ?_
  rw [←hb]
  rw [s1,s3,s3] at g13
  exact (K3 (x:=⟨⟨[73,110,116]⟩⟩) (by unfold W9;repeat first|exact d2V ..|apply d2W) g13).symm
 cbv;refine gn ?_
 cases g14:qm (qp s) (qp ⟨⟨[66,111,111,108]⟩⟩)
 rotate_left
 ·cbv;refine gn ?_
  refine a0c ?_
  rw [←hb]
  rw [s1,s3,s3] at g14
  exact (K3 (x:=⟨⟨[66,111,111,108]⟩⟩) (by unfold W9;repeat first|exact d2V ..|apply d2W) g14).symm
 cbv;refine gn ?_
 refine a0c ?_
 rw [←hb]
 symm
 apply c1n
 intro x hx
 rw [s1,s3,s3] at g0 g1 g2 g3 g4 g5 g6 g7 g8 g9 g10 g11 g12 g13 g14
 unfold W9 at hx
 simp only [d3d,d4p,d5x] at hx
 rcases hx with rfl|rfl|rfl|rfl|rfl|rfl|rfl|rfl|rfl|rfl|rfl|rfl|rfl|rfl|rfl
 ·exact g0
 ·exact g1
 ·exact g2
 ·exact g3
 ·exact g4
 ·exact g5
 ·exact g6
 ·exact g7
 ·exact g8
 ·exact g9
 ·exact g10
 ·exact g11
 ·exact g12
 ·exact g13
 ·exact g14
theorem c1o (s:ByteArray) (hs:s.size≤4611686018427387904):o9 93 [.one (.sc (.string s))] [.one (.sc (.bool (E3 s)))]:=by
 have h1:=b4j s hs
 have h2:=c5H s
 generalize hb:E3 s=b
 unfold E3 at hb
 refine N2 Tryz.func93 rfl ?_;intro _ _ _ _ _ _ _ _ qj _ _ _ _ _ _ _ qu;intros;rename_i hA
 cbv;refine gn ?_
 obtain ⟨e1,e2,e3,e4,e5,e6,e7,e8,e9⟩:=j7 hA
 obtain ⟨s1,s2,s3,s4,s5,s6,-⟩:=G1 hA
 have hle:qj (qu s) 32=decide (s.size≤32):=by rw [e8,s5];exact d3l.2 (by omega)
 generalize decide (s.size≤32)=q at *
 generalize a0A s=q1 at *
 generalize a5B s=q2 at *
 rw [hle]
 cases q
 ·cbv;refine gn ?_
  exact a0c hb
 ·cbv;refine gn ?_
  refine f9 hA _ h1 ?_ ?_
  ·rfl
  cases q1
  ·cbv;refine gn ?_
   exact a0c hb
  ·cbv;refine gn ?_
   refine f9 hA _ h2 ?_ ?_
   ·rfl
   cbv;refine gn ?_
   exact a0c hb
end Go.Proofs.YtahpnackkmbmgaaGreat.Vm
end
section
namespace Go.Proofs.YtahpnackkmbmgaaGreat
open Go.RowKit
set_option maxRecDepth 100000
set_option maxHeartbeats 4000000
theorem b1w {l:List Int} (h:gb l 0=48) (h1:1<l.length):a0x l=(0,4):=by unfold a0x;rw [d2S (.inl ⟨h,h1⟩)]
theorem b4k {l:List Int} {k:Nat} (hk:k<l.length) (h:E9 (gb l k)=false):a0x l=(0,4):=by
 unfold a0x
 rw [d2S (.inr (fun ha=>by
  have:=(d3z.1 ha) _ (b5o hk)
  rw [h] at this;cases this))]
theorem b1x {l:List Int} (h:∀i,i<l.length→E9 (gb l i)=true):l.all E9=true∧a0V l:=by
 have hx:∀x∈l,E9 x=true:=fun x hx=>by
  obtain ⟨i,hi,rfl⟩:=d5r hx
  have:=h i hi
  unfold gb at this
  simpa [hi] using this
 exact ⟨d3z.2 hx,fun x hm=>(a3e x).1 (hx x hm)⟩
theorem a9D {l:List Int} (h0:¬(gb l 0=48∧1<l.length)) (ha:l.all E9=true) (h:9223372036854775807<N4 l 0):a0x l=(0,7):=by
 unfold a0x;rw [d2T (fun hh=>by rcases hh with h1|h1;exact h0 h1;exact h1 ha),d2S h]
theorem b7u {l:List Int} (h0:¬(gb l 0=48∧1<l.length)) (ha:l.all E9=true) (h:¬9223372036854775807<N4 l 0):a0x l=(N4 l 0,0):=by
 unfold a0x;rw [d2T (fun hh=>by rcases hh with h1|h1;exact h0 h1;exact h1 ha),d2T h]
end Go.Proofs.YtahpnackkmbmgaaGreat
end
section
namespace Go.Proofs.YtahpnackkmbmgaaGreat.Vm
open Go.RowKit
set_option maxRecDepth 100000
set_option maxHeartbeats 4000000
theorem a4M {s:ByteArray} {k:Nat} (h:k<(l7 s).length):f7.sget s (k:Int)=some (gb (l7 s) k):=by
 rw [G6] at h
 have hc:(btl s)[k]?=some s[k]:=by rw [btl,d3E];exact d3N h
 rw [b26 hc,b27 s k h]
theorem c1p (s:ByteArray) (h1:1≤s.size) (hm:s.size≤1048576):o9 102 [.one (.sc (.string s))] [.one (.sc (.int .i64 (a0x (l7 s)).1)),.one (.sc (.bool (decide ((a0x (l7 s)).2=0)))),.one (.sc (.int .u8 (a0x (l7 s)).2))]:=by
 have hget:=fun k (h:k<(l7 s).length)=>a4M h
 have hlen:(s.size:Int)=((l7 s).length:Int):=by rw [G6]
 have h1':1≤(l7 s).length:=by rw [G6];exact h1
 have hm':(l7 s).length≤1048576:=by rw [G6];exact hm
 have hby:∀k,k<(l7 s).length→0≤gb (l7 s) k∧gb (l7 s) k≤255:=fun k h=>by
  rw [G6] at h;rw [←b27 s k h];have:=s[k].toNat_lt;omega
 generalize l7 s=l at *
 obtain ⟨p,o,c,hp⟩:∃p o c,p=(a0x l).1∧o=decide ((a0x l).2=0)∧c=(a0x l).2:=⟨_,_,_,rfl,rfl,rfl⟩
 rw [←hp.1,←hp.2.1,←hp.2.2]
 have hv:∀ {n e:Int},a0x l=(n,e)→p=n∧o=decide (e=0)∧c=e:=fun h=>by rw [h] at hp;exact hp
 clear hp
 obtain ⟨N,hN⟩:∃N,N=(l.length:Int):=⟨_,rfl⟩
 rw [←hN] at hlen
 have g0:=hget 0 (by omega)
 obtain ⟨c0,hc0⟩:∃c0,c0=gb l 0:=⟨_,rfl⟩
 rw [←hc0] at g0
 obtain ⟨inv,hi⟩:∃inv:Int→Prop,inv=fun z=>∃k:Nat,z=(k:Int)∧k≤l.length∧∀i,i<k→E9 (gb l i)=true:=⟨_,rfl⟩
 have hi0:inv 0:=by rw [hi];exact ⟨0,rfl,d3t _,fun i h=>by omega⟩
 obtain ⟨inv2,hi2⟩:∃inv2:Int×Int→Prop,inv2=fun x=>∃k:Nat,x.2=(k:Int)∧k≤l.length∧0≤x.1∧x.1≤9223372036854775807∧x.1=N4 (l.take k) 0:=⟨_,rfl⟩
 have hi20:inv2 (0,0):=by rw [hi2];exact ⟨0,rfl,d3t _,by decide,by decide,rfl⟩
 refine N2 Tryz.func102 rfl ?_;intro qa qb qc qd qe _ _ qi _ qk _ _ _ _ _ _ qu qv;intros;rename_i hA
 obtain ⟨e1,e2,e3,e4,e5,e6,e7,e8,e9⟩:=j7 hA
 obtain ⟨s1,s2,s3,s4,s5,s6,-⟩:=G1 hA
 have q0:qu s=N:=by rw [s5];exact hlen
 have q1:qv s 0=some c0:=by rw [s6];exact g0
 by_cases hz:c0=48∧1<l.length
 ·obtain ⟨rfl,rfl,rfl⟩:=hv (b1w (by omega) hz.2)
  have t0:qk c0 48=true:=eb hA (by rw [hz.1];rfl)
  have t1:qi 1 N=true:=el hA (d3a (by omega))
  try cbv;exact fr
 have HZ:=hz
 have t4:(c0 == 48)=false∨((c0 == 48)=true∧decide (1<N)=false):=by
  by_cases h:c0=48
  ·exact .inr ⟨by rw [h];rfl,d2U (by omega)⟩
  ·exact .inl (d2Y h)
 rcases t4 with t0|⟨t0,t1⟩
 case' inl =>
  replace t0:=eb hA t0
  iterate 2 (try cbv;repeat ((first|with_reducible apply f8 hA|rw [q0]|rw [q1]|rw [t0]);cbv))
 case' inr =>
  replace t0:=eb hA t0
  replace t1:=el hA t1
  iterate 2 (try cbv;repeat ((first|with_reducible apply f8 hA|rw [q0]|rw [q1]|rw [t0]|rw [t1]);cbv))
 all_goals
  refine j9 hA (γ:=Int) (fun z=>[(18,vi .i64 z)]) (fun _=>[]) inv (fun z=>l.length - z.toNat) 0 hi0 ?_ ?_
  ·cbv
  ·intro z hinv
   cbv;refine gn ?_;try simp only [nc] at *
   rw [hi] at hinv
   obtain ⟨k,hz,hk,hE⟩:=hinv
   replace hz:z=(k:Int):=hz
   by_cases h9:k<l.length
   ·have p0:qi z N=true:=el hA (d3a (by omega))
    have p1:qv s z=some (gb l k):=by rw [s6,hz];exact hget k h9
    have hd:=a8z (gb l k)
    have p2:qa .i64 (qb z 1)=((k+1:Nat):Int):=ew hA (by rw [IntWalk.i64_in _ (by omega)];omega)
    have hf:E9 (gb l k)=true→inv ((k+1:Nat):Int):=fun h=>by
     rw [hi]
     refine ⟨k+1,rfl,by omega,fun i h'=>?_⟩
     by_cases e:i=k
     ·rw [e];exact h
     ·exact hE i (by omega)
    have hb:=fun h=>hv (b4k (k:=k) h9 h)
    have hm:l.length - ((k+1:Nat):Int).toNat<l.length - z.toNat:=by omega
    generalize gb l k=c1 at *
    generalize E9 c1=d at *
    generalize ((k+1:Nat):Int)=z1 at *
    cases d
    ·obtain ⟨rfl,rfl,rfl⟩:=hb rfl
     try cbv;exact fr
    ·have hg:=hf rfl
     clear hf
     try cbv;refine gr ?_;try simp only [nc] at *
     refine ⟨z1,hg,hm,?_⟩
     cbv
   ·have p0:qi z N=false:=el hA (d2U (by omega))
    have hall:=b1x (l:=l) (fun i hi=>hE i (by omega))
    try cbv;refine gr ?_;try simp only [nc] at *
    refine j9 hA (γ:=Int×Int) (fun x=>[(5,vi .u64 x.1),(29,vi .i64 x.2)]) (fun _=>[]) inv2 (fun x=>l.length - x.2.toNat) (0,0) hi20 ?_ ?_
    ·cbv
    ·intro x hinv2
     obtain ⟨n,i⟩:=x
     cbv;refine gn ?_;try simp only [nc] at *
     rw [hi2] at hinv2
     obtain ⟨j,hi,hj,hn0,hn1,hn⟩:=hinv2
     replace hi:i=(j:Int):=hi
     replace hn0:0≤n:=hn0
     replace hn1:n≤9223372036854775807:=hn1
     replace hn:n=N4 (l.take j) 0:=hn
     by_cases h8:j<l.length
     ·have p1:qi i N=true:=el hA (d3a (by omega))
      have p2:qv s i=some (gb l j):=by rw [s6,hi];exact hget j h8
      have hdg:=hall.2 _ (b5o (l:=l) (i:=j) h8)
      have hst:=b1t (l:=l) (k:=j) h8
      have hmo:=b1s hall.2 (j+1)
      rw [←hn] at hst
      obtain ⟨c1,hc1⟩:∃c1,c1=gb l j:=⟨_,rfl⟩
      rw [←hc1] at p2 hdg hst
      obtain ⟨d,hd⟩:∃d,d=c1 - 48:=⟨_,rfl⟩
      have p3:qa .u8 (qc c1 48)=d:=esu hA (by rw [IntWalk.u8_in _ (by omega)];exact hd.symm)
      have p4:qa .u64 d=d:=ewp hA (IntWalk.u64_in _ (by omega))
      obtain ⟨m,hm1⟩:∃m,m=9223372036854775807 - d:=⟨_,rfl⟩
      have p5:qa .u64 (qc 9223372036854775807 d)=m:=esu hA (by rw [IntWalk.u64_in _ (by omega)];exact hm1.symm)
      obtain ⟨q,hq⟩:∃q,q=m / 10:=⟨_,rfl⟩
      have p6:qa .u64 (qe m 10)=q:=equ hA (by rw [Int.tdiv_eq_ediv_of_nonneg (by omega),IntWalk.u64_in _ (by omega)];exact hq.symm)
      by_cases h7:q<n
      ·obtain ⟨rfl,rfl,rfl⟩:=hv (a9D (fun h=>HZ ⟨by omega,h.2⟩) hall.1 (by omega))
       have p7:qi q n=true:=el hA (d3a h7)
       iterate 2 (try cbv;repeat ((first|with_reducible apply f8 hA|rw [p1]|rw [p2]|rw [p3]|rw [p4]|rw [p5]|rw [p6]|rw [p7]|refine b6X hA (by decide) ?_);cbv))
      ·have p7:qi q n=false:=el hA (d2U h7)
       obtain ⟨n10,h10⟩:∃n10,n10=10 * n:=⟨_,rfl⟩
       have p8:qa .u64 (qd n 10)=n10:=emu hA (by rw [IntWalk.u64_in _ (by omega)];omega)
       obtain ⟨n2,h2⟩:∃n2,n2=n10+d:=⟨_,rfl⟩
       have p9:qa .u64 (qb n10 d)=n2:=ew hA (by rw [IntWalk.u64_in _ (by omega)];exact h2.symm)
       have pa:qa .i64 (qb i 1)=((j+1:Nat):Int):=ew hA (by rw [IntWalk.i64_in _ (by omega)];omega)
       have hf:inv2 (n2,((j+1:Nat):Int)):=by rw [hi2];exact ⟨j+1,rfl,by omega,by show 0≤n2;omega,by show n2≤_;omega,by show n2=_;omega⟩
       have hm:l.length - ((j+1:Nat):Int).toNat<l.length - i.toNat:=by omega
       generalize ((j+1:Nat):Int)=z1 at *
       iterate 2 (try cbv;repeat ((first|with_reducible apply f8 hA|rw [p1]|rw [p2]|rw [p3]|rw [p4]|rw [p5]|rw [p6]|rw [p7]|rw [p8]|rw [p9]|rw [pa]|refine b6X hA (by decide) ?_);cbv))
       try simp (maxSteps:=4000000) only [nc] at *
       refine ⟨(n2,z1),hf,hm,?_⟩
       cbv
     ·have p1:qi i N=false:=el hA (d2U (by omega))
      rw [d31 (by omega)] at hn
      obtain ⟨rfl,rfl,rfl⟩:=hv (b7u (fun h=>HZ ⟨by omega,h.2⟩) hall.1 (by omega))
      have p2:qa .i64 (N4 l 0)=N4 l 0:=ewp hA (IntWalk.i64_in _ (by omega))
      generalize N4 l 0=n3 at *
      subst hn
      try cbv;exact fr
theorem b1y (s:ByteArray):a0A s=a1S (l7 s):=by
 have key:∀n k:Nat,k+n=s.size→(okL (k == 0) ((btl s).drop k)=true↔∀i,k≤i→i<s.size→c1m (l7 s) i=true):=by
  intro n
  induction n with
  | zero =>
   intro k hk
   rw [d3A (by rw [a07];omega),okL]
   exact ⟨fun _ i h1 h2=>by omega,fun _=>rfl⟩
  | succ n ih =>
   intro k hk
   have hk':k<s.size:=by omega
   have hc:(btl s)[k]?=some s[k]:=by rw [btl,d3E];exact d3N hk'
   rw [b5J hc,d2Z,ih (k+1) (by omega),b27 s k hk']
   have e:okB (k == 0) (gb (l7 s) k)=c1m (l7 s) k:=by
    unfold okB c1m
    cases k <;> simp
   rw [e]
   constructor
   ·rintro ⟨h1,h2⟩ i h3 h4
    by_cases h:i=k
    ·rw [h];exact h1
    ·exact h2 i (by omega) h4
   ·exact fun h=>⟨h k (d3b _) hk',fun i h3 h4=>h i (by omega) h4⟩
 have h0:=key s.size 0 (by omega)
 rw [show ((0:Nat) == 0)=true from rfl,d4g] at h0
 unfold a0A a1S
 rw [G6,Bool.and_comm]
 congr 1
 rw [d4w,h0,d3z]
 exact ⟨fun h i hi=>h i (d3t _) (d4Z.1 hi),fun h i _ hi=>h i (d4Z.2 hi)⟩
def b4l (t:Tok):List D:=[.sc (.int .u8 t.kind),.sc (.string t.text),.sc (.int .i64 t.n),.sc (.int .i64 t.at_)]
theorem c9j (s:ByteArray) (z:Int) (h1:1≤s.size) (hm:s.size≤1048576):o9 75 [.one (.sc (.string s)),.one (.sc (.int .i64 z))] [.ag (b4l (a0k s z).1),.one (.sc (.int .u8 (a0k s z).2))]:=by
 have g0:=a4M (s:=s) (k:=0) (by rw [G6];exact h1)
 have k0:=c1p s h1 hm
 have k1:=c5H s
 have k2:=b4j s (by omega)
 have k3:=a8z (gb (l7 s) 0)
 rw [b1y] at k2
 have hlen:(s.size:Int)=((l7 s).length:Int):=by rw [G6]
 have h9:decide ((32:Int)<(s.size:Int))=decide (32<(l7 s).length):=d3l.2 (by omega)
 unfold b4l a0k
 generalize (a0x (l7 s)).1=n1 at *
 generalize (a0x (l7 s)).2=n2 at *
 generalize gb (l7 s) 0=c at *
 generalize decide (n2=0)=ok at *
 obtain ⟨N,hN⟩:∃N,N=(s.size:Int):=⟨_,rfl⟩
 rw [←hN] at h9
 clear hlen
 obtain ⟨d,hd⟩:∃d,d=E9 c:=⟨_,rfl⟩
 obtain ⟨o,ho⟩:∃o,o=a5B s:=⟨_,rfl⟩
 obtain ⟨v,hv⟩:∃v,v=a1S (l7 s):=⟨_,rfl⟩
 obtain ⟨g,hg⟩:∃g,g=decide (32<(l7 s).length):=⟨_,rfl⟩
 rw [←hd] at k3 ⊢
 rw [←ho] at k1 ⊢
 rw [←hv] at k2 ⊢
 rw [←hg] at h9
 have hgl:(32<(l7 s).length)=(g=true):=by rw [hg,d4d]
 simp only [hgl]
 clear hgl
 clear hd ho hv hg h1 hm
 refine N2 Tryz.func75 rfl ?_;intro _ _ _ _ _ _ _ _ _ _ _ _ _ _ _ _ qu qv;intros;rename_i hA
 obtain ⟨s1,s2,s3,s4,s5,s6,-⟩:=G1 hA
 have q0:qu s=N:=by rw [s5];exact hN.symm
 have q1:qv s 0=some c:=by rw [s6];exact g0
 have q2:=el hA h9
 cases d
 ·cases o
  ·cases v
   ·try cbv;exact fr
   ·cases g
    ·try cbv;exact fr
    ·try cbv;exact fr
  ·try cbv;exact fr
 ·try cbv;exact fr
end Go.Proofs.YtahpnackkmbmgaaGreat.Vm
end
section
namespace Go.Proofs.YtahpnackkmbmgaaGreat
open Go.RowKit
set_option maxRecDepth 100000
set_option maxHeartbeats 4000000
theorem c3Z {a b:Int} (ha:0≤a∧a≤255) (hb:0≤b∧b≤255) (x y:UInt8):((strOfNums [a,b]).toList == [x,y])=((a == (x.toNat:Int)) && (b == (y.toNat:Int))):=by
 rw [ByteArray.toList_eq,strOfNums_data]
 rw [d4w]
 simp only [d3c,d35,d3F,d2Z,List.cons.injEq,and_true]
 have k:∀(c:Int) (z:UInt8),0≤c∧c≤255→(UInt8.ofNat c.toNat=z↔c=(z.toNat:Int)):=fun c z hc=>by
  rw [←d48,d5w]
  have:=z.toNat_lt
  omega
 rw [k a x ha,k b y hb]
theorem c1q {l:List Int} (h:2≤l.length) (hd:b28 (gb l 0) (gb l 1)=true):strOfNums (l.take (E2 l))=strOfNums [gb l 0,gb l 1]:=by
 have:E2 l=2:=by unfold E2;rw [d2S ⟨h,hd⟩]
 rw [this,c1h h]
theorem c1r {l:List Int} (h:1≤l.length) (hn:¬(2≤l.length∧b28 (gb l 0) (gb l 1)=true)) (hc:gb l 0∈a7v):strOfNums (l.take (E2 l))=strOfNums [gb l 0]:=by
 have:E2 l=1:=by unfold E2;rw [d2T hn,d2S hc]
 rw [this,c1g h]
theorem b8B {l:List Int} (hn:¬(2≤l.length∧b28 (gb l 0) (gb l 1)=true)) (hc:gb l 0∉a7v):strOfNums (l.take (E2 l))=⟨#[]⟩:=by
 have:E2 l=0:=by unfold E2;rw [d2T hn,d2T hc]
 rw [this];rfl
theorem c1s (c:Int):c∈a7v↔c=40∨c=41∨c=123∨c=125∨c=60∨c=62∨c=61∨c=44∨c=58∨c=59∨c=124∨c=46∨c=92∨c=64∨c=94∨c=63∨c=43∨c=45∨c=42∨c=47∨c=37:=by simp [a7v]
end Go.Proofs.YtahpnackkmbmgaaGreat
end
