/- Part 12 of the proof: VExec, VLoop, VSee, VMove, VOwnBox, VBld1, VBld2, VStr, VBld3, VBld4, VTok, VWord, VRd, VEye1, VEyP, VTk5, VMd0, VMd1, VDraw2, VDraw3, VMd2, VMd3, VMd4. Conditions: none. -/
import Derived.Test.YtahpnackkmbmgaaGreatM1
import Derived.Test.YtahpnackkmbmgaaGreatM7
import Derived.Test.YtahpnackkmbmgaaGreatM9
import Derived.Test.YtahpnackkmbmgaaGreatM11
import Derived.Lib.Builder
import Derived.Laws.Externs
import Derived.Lib.Walk
import Derived.Lib.AppendStr
import Derived.Lib.Hide
import Derived.Lib.Join
import Derived.Lib.UnsafeStr
import Derived.IntWalk
set_option linter.all false
set_option linter.unusedVariables false
set_option linter.unusedSimpArgs false
section
namespace Go.Proofs.YtahpnackkmbmgaaGreat.Vm
open Go.RowKit
section
def okCode (P:Program):Code → Bool
 | .region _ ops d=>okOps P ops.toList && (!d || okDraw ops)
 | .seq c d=>okCode P c && okCode P d
 | .cond _ c d=>okCode P c && okCode P d
 | .block _ c=>okCode P c
 | .loop c=>okCode P c
 | _=>true
def toE:X → Exit
 | .normal=>.normal
 | .exit i=>.exit i
 | .ret=>.ret
section
variable {I0:Nat → Nat → Prop} {X:Nat → Prop} {w0:W0}
theorem exec_in {ro:Option Nat} {n:Nat}:∀ (c:Code) (s:S) (a:Act) (w:World) (K:Vm.X → S → Prop) (Q:Exit → Act → World → Prop),okCode Tryz.prog c = true → Rel I0 X w0 s a w → exec real c s K → (∀ e s' a' w',Rel I0 X w0 s' a' w' → K e s' → Q (toE e) a' w') → c.wpIn (FW ro) n Tryz.prog Q a w
 | .skip,s,a,w,K,Q,_,h,hK,hQ=>wpIn_skip (hQ _ _ _ _ h hK)
 | .region id ops d,s,a,w,K,Q,hok,h,hK,hQ=>by
  simp only [okCode,Bool.and_eq_true,Bool.or_eq_true,Bool.not_eq_true'] at hok
  have hops:∀ o ∈ ops.toList,okOp Tryz.prog o.op = true:=List.all_eq_true.1 hok.1
  cases d with
  | false=>exact wpIn_region_list (run_ok (fun s' a' w' h' hk=>hQ .normal _ _ _ h' hk) _ s a w hops h hK)
  | true =>
   rw [exec] at hK
   split at hK
   ·refine wpIn_region_any (by kernel_rfl) (hK I0 X w0 a w.drew ro n Q hops ?_ fun s' a' w' h' hk=>hQ .normal _ _ _ h' hk)
    obtain ⟨I,g,h⟩:=h
    exact ⟨I,g,h.drew⟩
   split at hK <;> try exact hK.elim
   rename_i hpre
   refine wpIn_region_any (by kernel_rfl) (draw_ok (fun s' a' w' h' hk=>hQ .normal _ _ _ h' hk) hok.1 (hok.2.resolve_left (by simp)) ?_ hpre hK)
   obtain ⟨I,g,h⟩:=h
   exact ⟨I,g,h.drew⟩
 | .seq c d,s,a,w,K,Q,hok,h,hK,hQ=>by
  simp only [okCode,Bool.and_eq_true] at hok
  refine wpIn_seq (exec_in c s a w _ _ hok.1 h hK fun e s' a' w' h' hk=>?_)
  cases e with
  | normal =>
   obtain ⟨F,hg,hk⟩:=hk
   obtain ⟨s2,hf,h2⟩:=hg _ _ _ _ _ h'
   exact exec_in d s2 a' w' K Q hok.2 h2 (hk s2 hf) hQ
  | exit i=>exact hQ (.exit i) _ _ _ h' hk
  | ret=>exact hQ .ret _ _ _ h' hk
 | .cond c x y,s,a,w,K,Q,hok,h,hK,hQ=>by
  simp only [okCode,Bool.and_eq_true] at hok
  rw [exec] at hK
  obtain ⟨I,g,h1⟩:=h
  have hc:=h1.get c
  split at hK <;> try exact hK.elim
  rename_i b hb
  rw [hb] at hc
  refine wpIn_cond hc.sc ?_
  cases b with
  | true=>exact exec_in x s a w K Q hok.1 ⟨I,g,h1⟩ hK hQ
  | false=>exact exec_in y s a w K Q hok.2 ⟨I,g,h1⟩ hK hQ
 | .block id c,s,a,w,K,Q,hok,h,hK,hQ=>by
  refine wpIn_block (exec_in c s a w _ _ hok h hK fun e s' a' w' h' hk=>?_)
  cases e with
  | normal=>exact hQ .normal _ _ _ h' hk
  | exit i =>
   rw [blockX] at hk
   show (if i = id then Q .normal a' w' else Q (.exit i) a' w')
   split at hk
   ·rename_i he;rw [eqN_is] at he;rw [if_pos he];exact hQ .normal _ _ _ h' hk
   ·rename_i he;rw [eqN_no] at he;rw [if_neg he];exact hQ (.exit i) _ _ _ h' hk
  | ret=>exact hQ .ret _ _ _ h' hk
 | .loop c,s,a,w,K,Q,hok,h,hK,hQ=>by
  have key:∀ R:S → S → Prop,(∀ s s',R s s' → w0.n ≤ s'.o.length → ∀ a w,Rel I0 X w0 s a w → Rel I0 X w0 s' a w) → loopR R (fun s K=>exec real c s K) s K → (Code.loop c).wpIn (FW ro) n Tryz.prog Q a w:=fun R hR hK=>by
   obtain ⟨γ,st,inv,μ,hlen,⟨x0,hw,h0⟩,hround⟩:=hK
   have hn:∀ x,inv x → w0.n ≤ (st x).o.length:=fun x hx=>by
    have h1:=hlen x hx
    rw [lenO_is,lenO_is] at h1
    obtain ⟨I,g,h⟩:=h
    exact Nat.le_trans h.lo h1
   refine wpIn_loop_ghost (fun m a w=>∃ x,inv x ∧ Rel I0 X w0 (st x) a w ∧ μ x = m) (μ x0) ⟨x0,h0,hR _ _ hw (hn x0 h0) _ _ h,rfl⟩ ?_
   rintro m a1 w1 ⟨x,hx,h1,rfl⟩
   refine exec_in c (st x) a1 w1 _ _ hok h1 (hround x hx) fun e s2 a2 w2 h2 hk=>?_
   cases e with
   | normal =>
    obtain ⟨y,hy,hlt,hwk⟩:=hk
    exact ⟨μ y,hlt,y,hy,hR _ _ hwk (hn y hy) _ _ h2,rfl⟩
   | exit i=>exact hQ (.exit i) _ _ _ h2 hk
   | ret=>exact hQ .ret _ _ _ h2 hk
  have hlo:w0.n ≤ lenO s.o:=by obtain ⟨I,g,h⟩:=h;rw [lenO_is];exact h.lo
  rcases hK with hK | hK | hK
  ·exact key weak (fun _ _ hw hn a w h=>h.weak hn (.inr hw)) hK
  ·exact key Eq (fun _ _ hw hn a w h=>h.weak hn (.inl hw)) hK
  ·exact key (GhostN (lenO s.o)) (fun _ _ hw _ a w h=>hw I0 X w0 a w hlo h) hK
 | .exit i,s,a,w,K,Q,_,h,hK,hQ=>wpIn_exit (hQ _ _ _ _ h hK)
 | .ret,s,a,w,K,Q,_,h,hK,hQ=>wpIn_ret (hQ _ _ _ _ h hK)
 | .rangeFunc f ps x y,s,a,w,K,Q,_,h,hK,hQ=>by cases hK
 | .scope c,s,a,w,K,Q,_,h,hK,hQ=>by cases hK
 | .label l,s,a,w,K,Q,_,h,hK,hQ=>by cases hK
 | .goto l,s,a,w,K,Q,_,h,hK,hQ=>by cases hK
 | .refuse y,s,a,w,K,Q,_,h,hK,hQ=>by cases hK
theorem exec_ok (c:Code) (s:S) (a:Act) (w:World) (K:Vm.X → S → Prop) (Q:Exit → Act → World → Prop) (hok:okCode Tryz.prog c = true) (h:Rel I0 X w0 s a w) (hK:exec real c s K) (hQ:∀ e s' a' w',Rel I0 X w0 s' a' w' → K e s' → Q (toE e) a' w'):c.wp Tryz.prog Q a w :=
 wpIn_wide.1 (exec_in (ro:=none) (n:=0) c s a w K Q hok h hK hQ)
end
def resS (a:Ar) (s:S):List ResultVar → List R → Prop
 | [],[]=>True
 | .tmp t :: l,r :: q=>toR s.o (getN s.t t) = some r ∧ resS a s l q
 | .cell b t :: l,r :: q=>loadV a s.o (fun y=>toR s.o y = some r) t (getN s.t b) ∧ resS a s l q
 | _,_=>False
def retK (a:Ar) (l:List ResultVar) (q:List R):X → S → Prop
 | .exit _,_=>False
 | .normal,s=>resS a s l q
 | .ret,s=>resS a s l q
def okRes:List ResultVar → Bool
 | []=>true
 | .tmp _ :: l=>okRes l
 | .cell _ t :: l=>tyKnown t && okRes l
def uns:Nat → List V
 | 0=>[]
 | n + 1=>vun :: uns n
theorem uns_is:∀ n,uns n = List.replicate n vun
 | 0=>rfl
 | n + 1=>by rw [uns,uns_is n];rfl
def start (rs:List R) (n:Nat):S:=⟨appV (resRs rs) (uns n),[]⟩
section
variable {I0:Nat → Nat → Prop} {X:Nat → Prop} {w0:W0} {I:Nat → Nat → Prop} {g:Nat → Value} {s:S} {a:Act} {w:World}
def rvOf (tmps:Array Value):ResultVar → Sem Value
 | .tmp t=>pure (tmps.getD t undef)
 | .cell b t=>do loadVar t (← asAddr (tmps.getD b undef))
theorem asAddr_of_load {t:Nat} {v u:Value} (h:(Instr.loadAt t v).run Tryz.prog w = .ok u w):(do loadVar t (← asAddr v)).run Tryz.prog w = .ok u w:=by
 unfold Instr.loadAt Instr.sureAddr at h
 split at h
 ·simpa [asAddr] using h
 ·simp [stuck] at h
theorem res_at (h:RelI I0 X w0 I g s a w):∀ {l:List ResultVar} {q:List R},okRes l = true → resS real s l q → ∃ vs:List Value,(l.mapM (rvOf a.tmps)).run Tryz.prog w = .ok vs w ∧ AtRs I w vs q
 | [],[],_,_=>⟨[],rfl,trivial⟩
 | [],_ :: _,_,h=>h.elim
 | .tmp t :: l,[],_,h=>h.elim
 | .cell b t :: l,[],_,h=>h.elim
 | .tmp t :: l,r :: q,hok,hr=>by
  obtain ⟨vs,h1,h2⟩:=res_at h (l:=l) (q:=q) hok hr.2
  have h3:=toR_at h (h.get (.tmp t)) hr.1
  refine ⟨a.eval (.tmp t) :: vs,?_,h3,h2⟩
  rw [List.mapM_cons]
  simp only [Sem.run_bind,h1,Result.andThen_ok,rvOf,Sem.run_pure]
  rfl
 | .cell b t :: l,r :: q,hok,hr=>by
  rw [okRes,Bool.and_eq_true] at hok
  obtain ⟨vs,h1,h2⟩:=res_at h (l:=l) (q:=q) hok.2 hr.2
  obtain ⟨v,x,h3,h5,h6⟩:=load_same h hok.1 (h.get (.tmp b)) hr.1
  refine ⟨v :: vs,?_,toR_at h h5 h6,h2⟩
  have h7:=asAddr_of_load h3
  rw [List.mapM_cons]
  simp only [Sem.run_bind,rvOf,Sem.run_pure] at h7 ⊢
  have h8:((asAddr (a.tmps.getD b undef)).run Tryz.prog w).andThen (fun a w'=>(loadVar t a).run Tryz.prog w') = .ok v w:=h7
  rw [h8,Result.andThen_ok,h1]
  rfl
theorem results_at (h:RelI I0 X w0 I g s a w) {fn:Func} {q:List R} (hok:okRes fn.results.toList = true) (hr:resS real s fn.results.toList q):∃ v,(results fn a.tmps).run Tryz.prog w = .ok v w ∧ AtRes I w v q:=by
 obtain ⟨vs,h1,h2⟩:=res_at h hok hr
 have h3:(fn.results.mapM (rvOf a.tmps)).run Tryz.prog w = .ok vs.toArray w:=by
  rw [Array.mapM_eq_mapM_toList]
  simp [h1]
 have h4:(results fn a.tmps).run Tryz.prog w = .ok (if h:vs.toArray.size = 1 then vs.toArray[0] else .tuple vs.toArray) w:=by
  have h5:results fn a.tmps = (do let vs ← fn.results.mapM (rvOf a.tmps);pure (if h:vs.size = 1 then vs[0] else .tuple vs)):=by
   unfold results
   congr 1
  rw [h5,Sem.run_bind,h3]
  rfl
 refine ⟨_,h4,?_⟩
 have hl:=h2.len
 match q,vs,h2,hl with
 | [r],[v],h2,_=>exact h2.1
 | [],[],h2,_=>exact ⟨[],rfl,h2⟩
 | r :: r' :: q,v :: v' :: vs,h2,_=>exact ⟨_,by simp,h2⟩
theorem start_at {I0:Nat → Nat → Prop} {w:World} {rs:List R} {args:List Value} (hI:Wld I0 w) (hat:AtRs I0 w args rs) (n:Nat):RelI I0 (fun _=>False) ⟨w,fun _=>.nilFunc,0,[]⟩ I0 (fun _=>.nilFunc) (start rs n) { tmps:=args.toArray ++ Array.replicate n undef,defers:=[] } w:=by
 refine ⟨fun _ _ h=>h,fun b k hb=>⟨hI.1 b k hb,fun _=>.inl hb⟩,Fr.refl _ _,Keeps.refl _ _,Nat.zero_le _,fun k hk=>absurd hk (Nat.not_lt_zero _),fun k o ho=>by simp [start] at ho,fun j k b hj=>?_,fun _ _=>rfl,?_,rfl,hI.2⟩
 ·obtain ⟨o,ho,_⟩:=hj
  simp [start] at ho
 ·show AtVs I0 w _ (args.toArray ++ Array.replicate n undef).toList (appV (resRs rs) (uns n))
  rw [appV_is,Array.toList_append,uns_is]
  refine (resRs_at _ hat).append ?_
  rw [Array.toList_replicate]
  refine ⟨by simp,fun i u c hu hc=>?_⟩
  rw [List.getElem?_replicate] at hu hc
  split at hu
  ·rename_i hi
   rw [if_pos hi] at hc
   injection hu with hu
   injection hc with hc
   subst hu;subst hc
   exact .tu [] [] rfl fun i u c hu _=>by simp at hu
  ·cases hu
theorem spec_of {f:Nat} {fn:Func} {c:Code} {rs q:List R} (hf:Tryz.prog.funcs[f]? = some fn) (hb:fn.body = some c) (hn:(fn.name != "runtime.NumGoroutine") = true) (hc:okCode Tryz.prog c = true) (hr:okRes fn.results.toList = true)
  (h:∀ qa qb qc qd qe qf qg qh qi qj qk ql qm qn qo qp qq qs qt qu qv qw qx qy qz va vc vd ve vf vg vh vj vk vl vm vn vo vp vq vr vt vu,Ar.mk qa qb qc qd qe qf qg qh qi qj qk ql qm qn qo qp qq qs qt qu qv qw qx qy qz va vc vd ve vf vg vh vj vk vl vm vn vo vp vq vr vt vu = real → exec (Ar.mk qa qb qc qd qe qf qg qh qi qj qk ql qm qn qo qp qq qs qt qu qv qw qx qy qz va vc vd ve vf vg vh vj vk vl vm vn vo vp vq vr vt vu) c (start rs (fn.ntmps - lenL rs)) (fun x s=>retK (Ar.mk qa qb qc qd qe qf qg qh qi qj qk ql qm qn qo qp qq qs qt qu qv qw qx qy qz va vc vd ve vf vg vh vj vk vl vm vn vo vp vq vr vt vu) fn.results.toList q x s)):Spec f rs q:=by
 refine ⟨by unfold fnOk;rw [hf];simp only [hn,hb];rfl,?_⟩
 intro I w args hI hat
 have hlen:=hat.len
 refine calls_of_wp hf hb ?_
 have hsz:args.toArray.size = lenL rs:=by rw [lenL_is];simp [hlen]
 rw [hsz]
 refine exec_ok (I0:=I) (X:=fun _=>False) (w0:=⟨w,fun _=>.nilFunc,0,[]⟩) c _ _ _ _ _ hc ⟨I,_,start_at hI hat _⟩ (h _ _ _ _ _ _ _ _ _ _ _ _ _ _ _ _ _ _ _ _ _ _ _ _ _ _ _ _ _ _ _ _ _ _ _ _ _ _ _ _ _ _ _ (show Ar.mk real.wrap real.add real.sub real.mul real.quo real.rem real.bits real.lt real.le real.eq real.nz real.seq real.slt real.bytes real.cat real.fits real.slen real.sget real.ssub real.txt real.byt real.nat real.len real.get real.sub2 real.app real.set real.room real.mlook real.mput real.deq real.rep real.call real.calld real.callo real.callx real.new real.lit real.keep real.next real.ext real.reg real.loop = real from rfl)) fun e s' a' w' hrel hk=>?_
 have key:resS real s' fn.results.toList q → a'.defers = [] ∧ ∃ v,(results fn a'.tmps).run Tryz.prog w' = .ok v w' ∧ ∃ v',Ending.returned v = .returned v' ∧ AtRes (nxt I w w') w' v' q ∧ Below w.heap.size w w':=fun hk=>by
  obtain ⟨I',g',h'⟩:=hrel
  obtain ⟨v,h1,h2⟩:=results_at h' hr hk
  refine ⟨h'.dfr.1,v,h1,v,rfl,?_,⟨h'.fr.os,h'.fr.tape,h'.fr.output,h'.fr.size,fun b hb=>h'.fr.block b hb (fun hx=>hx)⟩⟩
  have hnx:∀ b k,I' b k → nxt I w w' b k:=fun b k hbk=>by
   obtain ⟨h3,h4⟩:=h'.lt b k hbk
   rcases Nat.lt_or_ge b w.heap.size with hlt | hge
   ·exact .inl ((h4 hlt).resolve_right (fun hx=>hx))
   ·exact .inr ⟨hge,h3⟩
  match q,h2 with
  | [],⟨us,e,hu⟩=>exact ⟨us,e,hu.mono hnx (Keeps.refl _ _)⟩
  | [r],hu=>exact AtR.mono hnx (Keeps.refl _ _) hu
  | r :: r' :: q,⟨us,e,hu⟩=>exact ⟨us,e,hu.mono hnx (Keeps.refl _ _)⟩
 cases e with
 | normal=>exact key hk
 | exit i=>exact hk.elim
 | ret=>exact key hk
def resO (a:Ar) (s:S):List ResultVar → (List V → Prop) → Prop
 | [],K=>K []
 | .tmp t :: l,K=>resO a s l (fun vs=>K (getN s.t t :: vs))
 | .cell b t :: l,K=>loadV a s.o (fun y=>resO a s l (fun vs=>K (y :: vs))) t (getN s.t b)
def retO (a:Ar) (n:Nat) (Q:List V → List O → Prop) (l:List ResultVar):Vm.X → S → Prop
 | .exit _,_=>False
 | .normal,s=>resO a s l (fun vs=>a.keep n Q vs s)
 | .ret,s=>resO a s l (fun vs=>a.keep n Q vs s)
def startO (vs:List V) (os:List O) (n:Nat):S:=⟨appV vs (uns n),os⟩
theorem resO_at (h:RelI I0 X w0 I g s a w):∀ {l:List ResultVar} {K:List V → Prop},okRes l = true → resO real s l K → ∃ us vs,(l.mapM (rvOf a.tmps)).run Tryz.prog w = .ok us w ∧ AtVs I w g us vs ∧ K vs
 | [],K,_,h=>⟨[],[],rfl,.nil I w g,h⟩
 | .tmp t :: l,K,hok,hr=>by
  obtain ⟨us,vs,h1,h2,h3⟩:=resO_at h (l:=l) hok hr
  refine ⟨a.eval (.tmp t) :: us,getN s.t t :: vs,?_,.cons (h.get (.tmp t)) h2,h3⟩
  rw [List.mapM_cons]
  simp only [Sem.run_bind,h1,Result.andThen_ok,rvOf,Sem.run_pure]
  rfl
 | .cell b t :: l,K,hok,hr=>by
  rw [okRes,Bool.and_eq_true] at hok
  obtain ⟨v,x,h3,h5,h6⟩:=load_same h hok.1 (h.get (.tmp b)) hr
  obtain ⟨us,vs,h1,h2,h4⟩:=resO_at h (l:=l) hok.2 h6
  refine ⟨v :: us,x :: vs,?_,.cons h5 h2,h4⟩
  have h7:=asAddr_of_load h3
  rw [List.mapM_cons]
  simp only [Sem.run_bind,rvOf,Sem.run_pure] at h7 ⊢
  have h8:((asAddr (a.tmps.getD b undef)).run Tryz.prog w).andThen (fun a w'=>(loadVar t a).run Tryz.prog w') = .ok v w:=h7
  rw [h8,Result.andThen_ok,h1]
  rfl
theorem resultsO_at (h:RelI I0 X w0 I g s a w) {fn:Func} {K:List V → Prop} (hok:okRes fn.results.toList = true) (hr:resO real s fn.results.toList K):∃ us vs,(results fn a.tmps).run Tryz.prog w = .ok (pkg us) w ∧ AtVs I w g us vs ∧ K vs:=by
 obtain ⟨us,vs,h1,h2,h3⟩:=resO_at h hok hr
 refine ⟨us,vs,?_,h2,h3⟩
 have h4:(fn.results.mapM (rvOf a.tmps)).run Tryz.prog w = .ok us.toArray w:=by
  rw [Array.mapM_eq_mapM_toList]
  simp [h1]
 have h5:results fn a.tmps = (do let vs ← fn.results.mapM (rvOf a.tmps);pure (if h:vs.size = 1 then vs[0] else .tuple vs)):=by
  unfold results
  congr 1
 rw [h5,Sem.run_bind,h4]
 match us with
 | []=>rfl
 | [u]=>rfl
 | u :: u' :: us =>
  show Result.ok _ w = _
  rw [dif_neg (by simp)]
  rfl
theorem speco_of {f:Nat} {fn:Func} {c:Code} {vs:List V} {os:List O} {Q:List V → List O → Prop} (hf:Tryz.prog.funcs[f]? = some fn) (hb:fn.body = some c) (hn:(fn.name != "runtime.NumGoroutine") = true) (hc:okCode Tryz.prog c = true) (hr:okRes fn.results.toList = true)
  (h:∀ qa qb qc qd qe qf qg qh qi qj qk ql qm qn qo qp qq qs qt qu qv qw qx qy qz va vc vd ve vf vg vh vj vk vl vm vn vo vp vq vr vt vu,Ar.mk qa qb qc qd qe qf qg qh qi qj qk ql qm qn qo qp qq qs qt qu qv qw qx qy qz va vc vd ve vf vg vh vj vk vl vm vn vo vp vq vr vt vu = real → exec (Ar.mk qa qb qc qd qe qf qg qh qi qj qk ql qm qn qo qp qq qs qt qu qv qw qx qy qz va vc vd ve vf vg vh vj vk vl vm vn vo vp vq vr vt vu) c (startO vs os (fn.ntmps - lenL vs)) (fun x s=>retO (Ar.mk qa qb qc qd qe qf qg qh qi qj qk ql qm qn qo qp qq qs qt qu qv qw qx qy qz va vc vd ve vf vg vh vj vk vl vm vn vo vp vq vr vt vu) (lenO os) Q fn.results.toList x s)):SpecO f vs os Q:=by
 refine ⟨by unfold fnOk;rw [hf];simp only [hn,hb];rfl,?_⟩
 intro I w g args hrel
 have hv:AtVs I w g args vs:=hrel.tmp
 refine calls_of_wp hf hb ?_
 have hsz:args.toArray.size = lenL vs:=by rw [lenL_is];simp [hv.1]
 rw [hsz]
 have hstart:RelI I (Xof g os) ⟨w,g,os.length,[]⟩ I g (startO vs os (fn.ntmps - lenL vs)) { tmps:=args.toArray ++ Array.replicate (fn.ntmps - lenL vs) undef,defers:=[] } w:=by
  refine ⟨hrel.im,hrel.lt,hrel.fr,hrel.kp,hrel.lo,hrel.st,hrel.obj,hrel.dis,hrel.out,?_,rfl,hrel.dfr.2⟩
  show AtVs I w _ (args.toArray ++ Array.replicate (fn.ntmps - lenL vs) undef).toList (appV vs (uns (fn.ntmps - lenL vs)))
  rw [appV_is,Array.toList_append,uns_is]
  refine hv.append ?_
  rw [Array.toList_replicate]
  refine ⟨by simp,fun i u c hu hc=>?_⟩
  rw [List.getElem?_replicate] at hu hc
  split at hu
  ·rename_i hi
   rw [if_pos hi] at hc
   injection hu with hu
   injection hc with hc
   subst hu;subst hc
   exact .tu [] [] rfl fun i u c hu _=>by simp at hu
  ·cases hu
 refine exec_ok (I0:=I) (X:=Xof g os) (w0:=⟨w,g,os.length,[]⟩) c _ _ _ _ _ hc ⟨I,_,hstart⟩ (h _ _ _ _ _ _ _ _ _ _ _ _ _ _ _ _ _ _ _ _ _ _ _ _ _ _ _ _ _ _ _ _ _ _ _ _ _ _ _ _ _ _ _ (show Ar.mk real.wrap real.add real.sub real.mul real.quo real.rem real.bits real.lt real.le real.eq real.nz real.seq real.slt real.bytes real.cat real.fits real.slen real.sget real.ssub real.txt real.byt real.nat real.len real.get real.sub2 real.app real.set real.room real.mlook real.mput real.deq real.rep real.call real.calld real.callo real.callx real.new real.lit real.keep real.next real.ext real.reg real.loop = real from rfl)) fun e s' a' w' hrel2 hk=>?_
 have key:resO real s' fn.results.toList (fun vs=>real.keep (lenO os) Q vs s') → a'.defers = [] ∧ ∃ v,(results fn a'.tmps).run Tryz.prog w' = .ok v w' ∧ ∃ us res os2 I' g',Ending.returned v = .returned (pkg us) ∧ Q res os2 ∧ RelI I (Xof g os) ⟨w,g,os.length,[]⟩ I' g' ⟨res,os2⟩ { tmps:=us.toArray,defers:=[] } w':=fun hk=>by
  obtain ⟨I',g',h'⟩:=hrel2
  obtain ⟨us,vs',h1,h2,ks,res',os',hko,hQ⟩:=resultsO_at h' hr hk
  rw [lenO_is] at hko
  exact ⟨h'.dfr.1,_,h1,us,res',os',I',_,rfl,hQ,keep_at h' rfl hko h2⟩
 cases e with
 | normal=>exact key hk
 | exit i=>exact hk.elim
 | ret=>exact key hk
end
/-! A call whose body is walked in place. -/
section
variable {I0:Nat → Nat → Prop} {X:Nat → Prop} {w0:W0} {I:Nat → Nat → Prop} {g:Nat → Value} {s:S} {a:Act} {w:World}
def startI (vs:List V) (o:List O) (n:Nat):S:=⟨appV vs (uns n),snocO o (.kl [])⟩
def takeO:Nat → List O → List O
 | 0,_=>[]
 | _ + 1,[]=>[]
 | n + 1,x :: l=>x :: takeO n l
theorem takeO_is:∀ (n:Nat) (l:List O),takeO n l = l.take n
 | 0,l=>by simp [takeO]
 | n + 1,[]=>by simp [takeO]
 | n + 1,x :: l=>by simp [takeO,takeO_is n l]
def low3 (n:Nat):V → Bool
 | .tu vs=>lowT n vs
 | x=>low2 n x
theorem low3_at {I:Nat → Nat → Prop} {w:World} {g g':Nat → Value} {n:Nat} (hg:∀ k,k < n → g' k = g k) {v:Value} {x:V} (h:AtV I w g v x) (hl:low3 n x = true):AtV I w g' v x:=by
 unfold low3 at hl
 split at hl
 ·obtain ⟨us,rfl,h2⟩:=h.untu
  exact atV_tu (lowT_at hg h2 hl)
 ·exact low2_at hg h hl
def trimO (n:Nat) (x:V) (o:List O):List O:=match low3 n x with
 | true=>match lowO n (takeO n o) with | true=>takeO n o | false=>setO o n .dead
 | false=>setO o n .dead
def doneI (n:Nat) (K:V → List O → List Nat → Prop) (res:List V) (s:S):Prop:=match getO s.o n with
 | .kl ks=>K (pkgV res) (trimO n (pkgV res) s.o) ks
 | _=>False
def retI (a:Ar) (n:Nat) (K:V → List O → List Nat → Prop) (l:List ResultVar):Vm.X → S → Prop
 | .exit _,_=>False
 | .normal,s=>resO a s l (fun vs=>doneI n K vs s)
 | .ret,s=>resO a s l (fun vs=>doneI n K vs s)
theorem pkg_at' {g:Nat → Value} {vs:List V} {us:List Value} (h:AtVs I w g us vs):AtV I w g (pkg us) (pkgV vs):=pkg_at h
theorem RelI.rebase (h:RelI I0 X w0 I g s a w) {us:List Value} {vs:List V} (hv:AtVs I w g us vs):∃ g',(∀ k,k < s.o.length → g' k = g k) ∧ g' s.o.length = .agg ((List.range s.o.length).map g).toArray ∧
  RelI I (Xof g' (snocO s.o (.kl []))) ⟨w,g',s.o.length + 1,[]⟩ I g' ⟨vs,snocO s.o (.kl [])⟩ { tmps:=us.toArray,defers:=[] } w:=by
 obtain ⟨ghost,hgh⟩:∃ v:Value,v = .agg ((List.range s.o.length).map g).toArray:=⟨_,rfl⟩
 have h1:=h.newObj (.kl []) ghost ⟨((List.range s.o.length).map g).toArray,by rw [upd_same,hgh],by simp,fun j u hu=>.inr (.inl (by
  have hj:j < s.o.length:=by have:=(Array.getElem?_eq_some_iff.1 hu).1;simpa using this
  rw [upd_ne (by omega)]
  simp only [List.getElem?_toArray,List.getElem?_map,List.getElem?_range hj,Option.map_some,Option.some.injEq] at hu
  exact hu))⟩ (fun j b _ _=>by rw [hgh];exact fun h=>h)
 have hg:∀ k,k < s.o.length → upd g s.o.length ghost k = g k:=fun k hk=>upd_ne (by omega)
 have hlen:(s.obj (.kl [])).o.length = s.o.length + 1:=by show (snocO s.o _).length = _;rw [snocO_is];simp
 refine ⟨upd g s.o.length ghost,hg,by rw [upd_same,hgh],fun _ _ h=>h,fun b k hb=>⟨(h.lt b k hb).1,fun _=>.inl hb⟩,Fr.refl _ _,Keeps.refl _ _,by rw [snocO_is];simp,fun _ _ _=>rfl,fun k o ho=>?_,h1.dis,h1.out,hv.more (h.fresh _),rfl,h.tabs fun b ⟨k,o,ho,hd,hg⟩=>((h1.obj k o ho).blk hd b hg).2⟩
 have hob:=h1.obj k o ho
 have hX:∀ b,gbl (upd g s.o.length ghost k) b → o ≠ .dead → Mine (Xof (upd g s.o.length ghost) (snocO s.o (.kl []))) ⟨w,upd g s.o.length ghost,s.o.length + 1,[]⟩ b:=fun b hb hd=>.inr ⟨k,o,ho,hd,hb⟩
 cases o with
 | dead=>exact True.intro
 | box cs =>
  obtain ⟨b,us,t,e1,e2,e3,e4,e5,e6⟩:=hob
  exact ⟨b,us,t,e1,e2,e3,e4,e5,hX b (by rw [e1];rfl) (by simp)⟩
 | row z e rows =>
  obtain ⟨us,e1,e2,e3,e4⟩:=hob
  exact ⟨us,e1,e2,e3,fun b hb=>⟨(e4 b hb).1,(e4 b hb).2.1,hX b ((own_gblk e1).2 hb) (by simp)⟩⟩
 | mp kt es =>
  obtain ⟨b,l,c,e1,e2,e3,e4,e5⟩:=hob
  exact ⟨b,l,c,e1,e2,e3,e4,hX b (by rw [e1];rfl) (by simp)⟩
 | ob T vs =>
  obtain ⟨b,e1,e2,e4,e5⟩:=hob
  exact ⟨b,e1,e2,e4,hX b (by rw [e1];rfl) (by simp)⟩
 | it P =>
  obtain ⟨A,n,cap,F,e1,e2,e3,e4⟩:=hob
  exact ⟨A,n,cap,F,e1,e2,e3,fun b hb=>⟨(e4 b hb).1,(e4 b hb).2.1,hX b (by rw [e1,gbl_pack];exact hb) (by simp)⟩⟩
 | kl ks=>exact hob
theorem RelI.unbase (h:RelI I0 X w0 I g s a w) {g':Nat → Value} {os2:List O} {t2:List V} {a2:Act} {w':World} {I2:Nat → Nat → Prop} {g2:Nat → Value} {ks:List Nat} (hg:∀ k,k < s.o.length → g' k = g k) (hgn:g' s.o.length = .agg ((List.range s.o.length).map g).toArray)
  (h2:RelI I (Xof g' (snocO s.o (.kl []))) ⟨w,g',s.o.length + 1,[]⟩ I2 g2 ⟨t2,os2⟩ a2 w') (hk:os2[s.o.length]? = some (.kl ks)):AtVs I2 w' (cutG s.o.length g2) a.tmps.toList (killTs ks s.t) ∧ RelI I0 X w0 I2 g2 ⟨killTs ks s.t,os2.set s.o.length .dead⟩ a w':=by
 have hlo:s.o.length + 1 ≤ os2.length:=h2.lo
 have hX:∀ b,Xof g' (snocO s.o (.kl [])) b → b < w.heap.size ∧ Mine X w0 b:=fun b ⟨k,o,ho,hd,hb⟩=>by
  rw [snocO_is] at ho
  rcases Nat.lt_or_ge k s.o.length with hlt | hge
  ·rw [List.getElem?_append_left hlt] at ho
   rw [hg k hlt] at hb
   exact (h.obj k o ho).blk hd b hb
  ·have hlt:=(List.getElem?_eq_some_iff.1 ho).1
   rw [List.length_append,List.length_singleton] at hlt
   have:k = s.o.length:=by omega
   subst this
   rw [hgn] at hb
   exact hb.elim
 have hM:∀ b,Mine (Xof g' (snocO s.o (.kl []))) ⟨w,g',s.o.length + 1,[]⟩ b → Mine X w0 b:=fun b hb=>by
  rcases hb with hb | hb
  ·exact .inl (Nat.le_trans h.fr.size hb)
  ·exact (hX b hb).2
 have hst:∀ k,k < s.o.length → isRef (g k) = true → g2 k = g k:=fun k hk hr=>by
  rw [← hg k hk] at hr ⊢
  exact h2.st k (Nat.lt_succ_of_lt hk) hr
 have hkl:∀ k,k < s.o.length → k ∉ ks → g2 k = g k ∨ g k = .nilFunc:=fun k hk0 hks=>by
  obtain ⟨us,e1,e2,e3⟩:=h2.obj _ _ hk
  have e4:=h2.st s.o.length (Nat.lt_succ_self _) (by show isRef (g' s.o.length) = true;rw [hgn];rfl)
  have e5:g2 s.o.length = g' s.o.length:=e4
  rw [e5,hgn] at e1
  have e1:=Value.agg.inj e1
  have hu:us[k]? = some (g k):=by rw [← e1];simp [hk0]
  rcases e3 k _ hu with e6 | e6 | e6
  ·exact .inr e6
  ·exact .inl e6
  ·exact absurd e6 hks
 have hget:∀ (k:Nat) (o:O),(os2.set s.o.length O.dead)[k]? = some o → o = O.dead ∨ os2[k]? = some o:=fun k o ho=>by
  by_cases e:s.o.length = k
  ·subst e
   rw [List.getElem?_set_self (by omega)] at ho
   exact .inl (Option.some.inj ho).symm
  ·rw [List.getElem?_set_ne e] at ho
   exact .inr ho
 have hlv:∀ k,live ⟨killTs ks s.t,os2.set s.o.length .dead⟩ k → live ⟨t2,os2⟩ k:=fun k ⟨o,ho,hd⟩=>⟨o,(hget k o ho).resolve_left hd,hd⟩
 have hcut:AtVs I2 w' (cutG s.o.length g2) a.tmps.toList (killTs ks s.t):=by
  classical
  have h3:AtVs I w (fun k=>if k < s.o.length then g2 k else g k) a.tmps.toList (killTs ks s.t):=by
   refine killTs_at ks (fun k=>if g k = .nilFunc ∧ k < s.o.length then g2 k else g k) (fun j hj=>?_) (fun j hr=>?_) (h.tmp.more fun k hk=>?_)
   ·by_cases hlt:j < s.o.length
    ·rw [if_pos hlt]
     rcases hkl j hlt hj with e | e
     ·by_cases e':g j = .nilFunc
      ·rw [if_pos ⟨e',hlt⟩]
      ·rw [if_neg (fun h=>e' h.1)];exact e
     ·rw [if_pos ⟨e,hlt⟩]
    ·rw [if_neg hlt,if_neg (fun h=>hlt h.2)]
   ·by_cases hlt:j < s.o.length
    ·rw [if_pos hlt]
     by_cases e':g j = .nilFunc
     ·rw [if_pos ⟨e',hlt⟩]
     ·rw [if_neg (fun h=>e' h.1)] at hr ⊢
      exact hst j hlt hr
    ·rw [if_neg hlt,if_neg (fun h=>hlt h.2)]
   ·rw [if_neg (fun h=>hk h.1)]
  refine (h3.more fun k hk=>?_).mono (fun b k hb=>h2.im b k hb) h2.kp
  unfold cutG
  by_cases hc:k < s.o.length
  ·rw [if_pos hc,if_pos hc]
  ·rw [if_neg hc] at hk
   exact absurd (h.out k (by omega)) hk
 refine ⟨hcut,?_⟩
 refine ⟨fun b k hb=>h2.im b k (h.im b k hb),fun b k hb=>⟨(h2.lt b k hb).1,fun hlt=>?_⟩,⟨h2.fr.os.trans h.fr.os,h2.fr.tape.trans h.fr.tape,h2.fr.output.trans h.fr.output,Nat.le_trans h.fr.size h2.fr.size,fun b hb hx=>?_⟩,h.kp.trans fun b k hb i hi=>h2.kp b k (h.im b k hb) i hi,?_,fun k hk' hr=>?_,fun k o ho=>?_,fun j k b hj hk'=>h2.dis j k b (hlv j hj) (hlv k hk'),fun k hk'=>?_,?_,h.dfr⟩
 ·rcases (h2.lt b k hb).2 (Nat.lt_of_lt_of_le hlt h.fr.size) with h3 | h3
  ·exact (h.lt b k h3).2 hlt
  ·rcases (hX b h3).2 with h4 | h4
   ·omega
   ·exact .inr h4
 ·refine (h2.fr.block b (Nat.lt_of_lt_of_le hb h.fr.size) fun hx'=>?_).trans (h.fr.block b hb hx)
  rcases (hX b hx').2 with h4 | h4
  ·omega
  ·exact hx h4
 ·show w0.n ≤ (os2.set s.o.length .dead).length
  have:=h.lo
  rw [List.length_set]
  omega
 ·have e:=h.st k hk' hr
  have hlt:k < s.o.length:=Nat.lt_of_lt_of_le hk' h.lo
  rw [← e] at hr ⊢
  exact hst k hlt hr
 ·rcases hget k o ho with rfl | ho
  ·exact True.intro
  have hob:=h2.obj k o ho
  cases o with
  | dead=>exact True.intro
  | box cs =>
   obtain ⟨b,us,t,e1,e2,e3,e4,e5,e6⟩:=hob
   exact ⟨b,us,t,e1,e2,e3,e4,e5,hM b e6⟩
  | row z e rows =>
   obtain ⟨us,e1,e2,e3,e4⟩:=hob
   exact ⟨us,e1,e2,e3,fun b hb=>⟨(e4 b hb).1,(e4 b hb).2.1,hM b (e4 b hb).2.2⟩⟩
  | mp kt es =>
   obtain ⟨b,l,c,e1,e2,e3,e4,e5⟩:=hob
   exact ⟨b,l,c,e1,e2,e3,e4,hM b e5⟩
  | ob T vs =>
   obtain ⟨b,e1,e2,e4,e5⟩:=hob
   exact ⟨b,e1,e2,e4,hM b e5⟩
  | it P =>
   obtain ⟨A,n,cap,F,e1,e2,e3,e4⟩:=hob
   exact ⟨A,n,cap,F,e1,e2,e3,fun b hb=>⟨(e4 b hb).1,(e4 b hb).2.1,hM b (e4 b hb).2.2⟩⟩
  | kl js=>exact hob
 ·have hk':(os2.set s.o.length .dead).length ≤ k:=hk'
  rw [List.length_set] at hk'
  exact h2.out k hk'
 ·exact (hcut.more fun k hk=>by unfold cutG at hk ⊢;split at hk <;> first | rw [if_pos (by assumption)] | exact absurd rfl hk)
theorem RelI.trim (h:RelI I0 X w0 I g s a w) {n:Nat} (hn:w0.n ≤ n) (hnl:n ≤ s.o.length) (h1:AtVs I w (cutG n g) a.tmps.toList s.t) (h2:lowO n (s.o.take n) = true):RelI I0 X w0 I (cutG n g) ⟨s.t,s.o.take n⟩ a w:=by
 have hl:(s.o.take n).length = n:=by simp;omega
 have hg:∀ k,k < n → cutG n g k = g k:=fun k hk=>if_pos hk
 have hget:∀ k o,(s.o.take n)[k]? = some o → k < n ∧ s.o[k]? = some o:=fun k o ho=>by
  rw [List.getElem?_take] at ho
  split at ho
  ·exact ⟨by assumption,ho⟩
  ·cases ho
 have hlv:∀ k,live ⟨s.t,s.o.take n⟩ k → k < n ∧ live s k:=fun k ⟨o,ho,hd⟩=>⟨(hget k o ho).1,o,(hget k o ho).2,hd⟩
 refine ⟨h.im,h.lt,h.fr,h.kp,by show w0.n ≤ (s.o.take n).length;omega,fun k hk hr=>(hg k (by omega)).trans (h.st k hk hr),fun k o ho=>?_,fun j k b hj hk hbj hbk=>?_,fun k hk=>if_neg (by have hk:(s.o.take n).length ≤ k:=hk;omega),h1,h.dfr⟩
 ·obtain ⟨hk,hso⟩:=hget k o ho
  have hob:=h.obj k o hso
  cases o with
  | dead=>exact True.intro
  | box cs =>
   obtain ⟨b,us,t,e1,e2,e3,e4⟩:=hob
   exact ⟨b,us,t,(hg k hk).trans e1,e2,lowL_at hg e3 (lowO_at h2 ho),e4⟩
  | row z e rows =>
   obtain ⟨us,e1,e2,e3,e4⟩:=hob
   exact ⟨us,by rw [hg k hk];exact e1,e2,e3,by rw [hg k hk];exact e4⟩
  | mp kt es =>
   obtain ⟨b,l,c,e1,e2⟩:=hob
   exact ⟨b,l,c,(hg k hk).trans e1,e2⟩
  | ob T vs =>
   obtain ⟨b,e1,e2⟩:=hob
   exact ⟨b,(hg k hk).trans e1,e2⟩
  | it P =>
   obtain ⟨A,n',cap,F,e1,e2⟩:=hob
   exact ⟨A,n',cap,F,(hg k hk).trans e1,e2⟩
  | kl ks =>
   obtain ⟨us,e1,e2,e3⟩:=hob
   refine ⟨us,(hg k hk).trans e1,e2,fun j u hu=>?_⟩
   have hj:=(Array.getElem?_eq_some_iff.1 hu).1
   rcases e3 j u hu with e4 | e4 | e4
   ·exact .inl e4
   ·exact .inr (.inl ((hg j (by omega)).trans e4))
   ·exact .inr (.inr e4)
 ·obtain ⟨hj1,hj2⟩:=hlv j hj
  obtain ⟨hk1,hk2⟩:=hlv k hk
  rw [hg j hj1] at hbj
  rw [hg k hk1] at hbk
  exact h.dis j k b hj2 hk2 hbj hbk
theorem inl_ok {f:Nat} {fn:Func} {c:Code} {vs:List V} {o:List O} {K:V → List O → List Nat → Prop} (hf:Tryz.prog.funcs[f]? = some fn) (hb:fn.body = some c) (hn:(fn.name != "runtime.NumGoroutine") = true) (hc:okCode Tryz.prog c = true) (hr:okRes fn.results.toList = true)
  (h:exec real c (startI vs o (fn.ntmps - lenL vs)) (fun x s=>retI real (lenO o) K fn.results.toList x s)):SoundO f vs o K:=by
 refine ⟨by unfold fnOk;rw [hf];simp only [hn,hb];rfl,?_⟩
 intro I0 X w0 I g t a w us hrel hv
 refine calls_of_wp hf hb ?_
 have hsz:us.toArray.size = lenL vs:=by rw [lenL_is];simp [hv.1]
 rw [hsz]
 obtain ⟨g',hg,hgn,h1⟩:=hrel.rebase hv
 have hstart:RelI I (Xof g' (snocO o (.kl []))) ⟨w,g',o.length + 1,[]⟩ I g' (startI vs o (fn.ntmps - lenL vs)) { tmps:=us.toArray ++ Array.replicate (fn.ntmps - lenL vs) undef,defers:=[] } w:=by
  refine ⟨h1.im,h1.lt,h1.fr,h1.kp,h1.lo,h1.st,h1.obj,h1.dis,h1.out,?_,rfl,h1.dfr.2⟩
  show AtVs I w _ (us.toArray ++ Array.replicate (fn.ntmps - lenL vs) undef).toList (appV vs (uns (fn.ntmps - lenL vs)))
  rw [appV_is,Array.toList_append,uns_is]
  refine AtVs.append h1.tmp ?_
  rw [Array.toList_replicate]
  refine ⟨by simp,fun i u c hu hc=>?_⟩
  rw [List.getElem?_replicate] at hu hc
  split at hu
  ·rename_i hi
   rw [if_pos hi] at hc
   injection hu with hu
   injection hc with hc
   subst hu;subst hc
   exact .tu [] [] rfl fun i u c hu _=>by simp at hu
  ·cases hu
 refine exec_ok c _ _ _ _ _ hc ⟨I,_,hstart⟩ h fun e s' a' w' hrel2 hk=>?_
 have key:resO real s' fn.results.toList (fun vs=>doneI (lenO o) K vs s') → a'.defers = [] ∧ ∃ v,(results fn a'.tmps).run Tryz.prog w' = .ok v w' ∧ ∃ v' x o' ks I' g',Ending.returned v = .returned v' ∧ RelI I0 X w0 I' g' ⟨killTs ks t,o'⟩ a w' ∧ AtV I' w' g' v' x ∧ K x o' ks:=fun hk=>by
  obtain ⟨I2,g2,h2⟩:=hrel2
  obtain ⟨us2,res,r1,r2,r3⟩:=resultsO_at h2 hr hk
  unfold doneI at r3
  split at r3 <;> try exact r3.elim
  rename_i ks hks
  have hks':=getO_some hks (by simp)
  rw [lenO_is] at hks' r3
  obtain ⟨hcut,h3⟩:=hrel.unbase hg hgn h2 hks'
  have hlo:o.length + 1 ≤ s'.o.length:=h2.lo
  have hx:=pkg_at' r2
  refine ⟨h2.dfr.1,_,r1,pkg us2,pkgV res,trimO o.length (pkgV res) s'.o,ks,I2,?_⟩
  unfold trimO at r3 ⊢
  split
  ·rename_i hl2
   rw [hl2] at r3
   simp only at r3
   split
   ·rename_i hlo2
    rw [hlo2] at r3
    simp only at r3
    rw [takeO_is] at hlo2 r3 ⊢
    have e:(s'.o.set o.length .dead).take o.length = s'.o.take o.length:=by
     rw [List.take_set_of_le (Nat.le_refl _)]
    have h4:=h3.trim (n:=o.length) hrel.lo (by show o.length ≤ (s'.o.set _ _).length;rw [List.length_set];omega) hcut (by show lowO _ ((s'.o.set _ _).take _) = true;rw [e];exact hlo2)
    refine ⟨cutG o.length g2,rfl,?_,low3_at (fun k hk=>if_pos hk) hx hl2,r3⟩
    have h5:(⟨killTs ks t,(s'.o.set o.length .dead).take o.length⟩:S) = ⟨killTs ks t,s'.o.take o.length⟩:=by rw [e]
    rw [← h5]
    exact h4
   ·rename_i hlo2
    rw [hlo2] at r3
    simp only at r3
    rw [setO_is] at r3 ⊢
    exact ⟨g2,rfl,h3,hx,r3⟩
  ·rename_i hl2
   rw [hl2] at r3
   simp only at r3
   rw [setO_is] at r3 ⊢
   exact ⟨g2,rfl,h3,hx,r3⟩
 cases e with
 | normal=>exact key hk
 | exit i=>exact hk.elim
 | ret=>exact key hk
def geN (n:Nat):List Nat → Bool
 | []=>true
 | k :: l=>match Nat.ble n k with | true=>geN n l | false=>false
theorem geN_is {n:Nat}:∀ {l:List Nat},geN n l = true → ∀ k ∈ l,n ≤ k
 | [],_,k,hk=>by simp at hk
 | j :: l,h,k,hk=>by
  rw [geN] at h
  split at h
  ·rename_i hj
   rcases List.mem_cons.1 hk with rfl | hk
   ·exact Nat.le_of_ble_eq_true hj
   ·exact geN_is h k hk
  ·cases h
theorem inlx_ok {f:Nat} {fn:Func} {c:Code} {vs:List V} {o:List O} {K:V → List O → Prop} (hf:Tryz.prog.funcs[f]? = some fn) (hb:fn.body = some c) (hn:(fn.name != "runtime.NumGoroutine") = true) (hc:okCode Tryz.prog c = true) (hr:okRes fn.results.toList = true)
  (h:exec real c (startI vs o (fn.ntmps - lenL vs)) (fun x s=>retI real (lenO o) (fun x o' ks=>geN (lenO o) ks = true ∧ K x o') fn.results.toList x s)):SoundX f vs o K:=by
 refine ⟨by unfold fnOk;rw [hf];simp only [hn,hb];rfl,?_⟩
 intro I0 X w0 I g t a w us hrel hv
 refine calls_of_wp hf hb ?_
 have hsz:us.toArray.size = lenL vs:=by rw [lenL_is];simp [hv.1]
 rw [hsz]
 obtain ⟨g',hg,hgn,h1⟩:=hrel.rebase hv
 have hstart:RelI I (Xof g' (snocO o (.kl []))) ⟨w,g',o.length + 1,[]⟩ I g' (startI vs o (fn.ntmps - lenL vs)) { tmps:=us.toArray ++ Array.replicate (fn.ntmps - lenL vs) undef,defers:=[] } w:=by
  refine ⟨h1.im,h1.lt,h1.fr,h1.kp,h1.lo,h1.st,h1.obj,h1.dis,h1.out,?_,rfl,h1.dfr.2⟩
  show AtVs I w _ (us.toArray ++ Array.replicate (fn.ntmps - lenL vs) undef).toList (appV vs (uns (fn.ntmps - lenL vs)))
  rw [appV_is,Array.toList_append,uns_is]
  refine AtVs.append h1.tmp ?_
  rw [Array.toList_replicate]
  refine ⟨by simp,fun i u c hu hc=>?_⟩
  rw [List.getElem?_replicate] at hu hc
  split at hu
  ·rename_i hi
   rw [if_pos hi] at hc
   injection hu with hu
   injection hc with hc
   subst hu;subst hc
   exact .tu [] [] rfl fun i u c hu _=>by simp at hu
  ·cases hu
 refine exec_ok c _ _ _ _ _ hc ⟨I,_,hstart⟩ h fun e s' a' w' hrel2 hk=>?_
 have key:resO real s' fn.results.toList (fun vs=>doneI (lenO o) (fun x o' ks=>geN (lenO o) ks = true ∧ K x o') vs s') → a'.defers = [] ∧ ∃ v,(results fn a'.tmps).run Tryz.prog w' = .ok v w' ∧ ∃ v' x o' I' g',Ending.returned v = .returned v' ∧ RelI I0 X w0 I' g' ⟨t,o'⟩ a w' ∧ AtV I' w' g' v' x ∧ K x o':=fun hk=>by
  obtain ⟨I2,g2,h2⟩:=hrel2
  obtain ⟨us2,res,r1,r2,r3⟩:=resultsO_at h2 hr hk
  unfold doneI at r3
  split at r3 <;> try exact r3.elim
  rename_i ks hks
  have hks':=getO_some hks (by simp)
  rw [lenO_is] at hks' r3
  have hge:geN o.length ks = true:=by
   have h7:=r3.1
   exact h7
  replace r3:=r3.2
  obtain ⟨hcut,h3⟩:=hrel.unbase hg hgn h2 hks'
  have hlo:o.length + 1 ≤ s'.o.length:=h2.lo
  have hx:=pkg_at' r2
  have hgg:∀ k,g k ≠ .nilFunc → k < o.length ∧ g2 k = g k:=fun k hk=>by
   have hkn:k < o.length:=by
    rcases Nat.lt_or_ge k o.length with h8 | h8
    ·exact h8
    ·exact absurd (hrel.out k h8) hk
   obtain ⟨us3,e1,e2,e3⟩:=h2.obj _ _ hks'
   have e4:g2 o.length = .agg ((List.range o.length).map g).toArray:=by
    have h9:=h2.st o.length (by show o.length < o.length + 1;omega) (by show isRef (g' o.length) = true;rw [hgn];rfl)
    rw [h9];exact hgn
   rw [e1] at e4
   have e4:=Value.agg.inj e4
   have e5:us3[k]? = some (g k):=by
    rw [e4]
    simp [hkn]
   rcases e3 k _ e5 with h9 | h9 | h9
   ·exact absurd h9 hk
   ·exact ⟨hkn,h9⟩
   ·have:=geN_is hge _ h9
    omega
  have htmp:=(hrel.tmp.mono h2.im h2.kp).more fun k hk=>(hgg k hk).2
  have htmp2:AtVs I2 w' (cutG o.length g2) a.tmps.toList t:=(hrel.tmp.mono h2.im h2.kp).more fun k hk=>by unfold cutG;rw [if_pos (hgg k hk).1];exact (hgg k hk).2
  refine ⟨h2.dfr.1,_,r1,pkg us2,pkgV res,trimO o.length (pkgV res) s'.o,I2,?_⟩
  unfold trimO at r3 ⊢
  split
  ·rename_i hl2
   rw [hl2] at r3
   simp only at r3
   split
   ·rename_i hlo2
    rw [hlo2] at r3
    simp only at r3
    rw [takeO_is] at hlo2 r3 ⊢
    have e:(s'.o.set o.length .dead).take o.length = s'.o.take o.length:=by
     rw [List.take_set_of_le (Nat.le_refl _)]
    have h4:=h3.trim (n:=o.length) hrel.lo (by show o.length ≤ (s'.o.set _ _).length;rw [List.length_set];omega) hcut (by show lowO _ ((s'.o.set _ _).take _) = true;rw [e];exact hlo2)
    refine ⟨cutG o.length g2,rfl,?_,low3_at (fun k hk=>if_pos hk) hx hl2,r3⟩
    have h5:(⟨t,(s'.o.set o.length .dead).take o.length⟩:S) = ⟨t,s'.o.take o.length⟩:=by rw [e]
    rw [← h5]
    exact ⟨h4.im,h4.lt,h4.fr,h4.kp,h4.lo,h4.st,h4.obj,h4.dis,h4.out,htmp2,h4.dfr⟩
   ·rename_i hlo2
    rw [hlo2] at r3
    simp only at r3
    rw [setO_is] at r3 ⊢
    exact ⟨g2,rfl,⟨h3.im,h3.lt,h3.fr,h3.kp,h3.lo,h3.st,h3.obj,h3.dis,h3.out,htmp,h3.dfr⟩,hx,r3⟩
  ·rename_i hl2
   rw [hl2] at r3
   simp only at r3
   rw [setO_is] at r3 ⊢
   exact ⟨g2,rfl,⟨h3.im,h3.lt,h3.fr,h3.kp,h3.lo,h3.st,h3.obj,h3.dis,h3.out,htmp,h3.dfr⟩,hx,r3⟩
 cases e with
 | normal=>exact key hk
 | exit i=>exact hk.elim
 | ret=>exact key hk
theorem lowL_of {n:Nat} (hout:∀ k,n ≤ k → g k = .nilFunc):∀ {cs:List V} {us:List Value},AtVs I w g us cs → (∀ u ∈ us,u.oneCell' = true) → lowL n cs = true
 | [],us,h,_=>rfl
 | c :: cs,us,h,h1=>by
  obtain ⟨u,us',rfl,h2,h3⟩:=h.uncons
  have hlt:∀ k,g k ≠ .nilFunc → Nat.blt k n = true:=fun k hk=>by
   rw [Nat.blt_eq]
   rcases Nat.lt_or_ge k n with h4 | h4
   ·exact h4
   ·exact absurd (hout k h4) hk
  have hc:lowV n c = true:=by
   have hu:=h1 u (List.mem_cons_self ..)
   cases h2 with
   | d hh=>rfl
   | ag=>cases hu
   | tu=>cases hu
   | em=>rfl
   | own k A m cap hh=>exact hlt k (by intro e;rw [e] at hh;cases hh)
   | ptr k off b hh=>exact hlt k (by rw [hh];simp)
   | cl f us ks hl hh =>
    rw [lowV]
    have key:∀ (ks:List Nat),(∀ k ∈ ks,g k ≠ .nilFunc) → lowN n ks = true:=by
     intro ks
     induction ks with
     | nil=>intro _;rfl
     | cons k ks ih =>
      intro h
      rw [lowN,hlt k (h k (List.mem_cons_self ..))]
      exact ih fun k hk=>h k (List.mem_cons_of_mem _ hk)
    refine key ks fun k hk=>?_
    obtain ⟨i,hi⟩:=List.mem_iff_getElem?.1 hk
    have hlt':i < us.length:=by rw [hl];exact (List.getElem?_eq_some_iff.1 hi).1
    obtain ⟨_,b,hb⟩:=hh i _ k (List.getElem?_eq_getElem hlt') hi
    rw [hb];simp
   | el k i sz off b m cap hh=>exact hlt k (by rw [hh];simp)
   | ro b o off us cs hi hc hd=>rfl
   | mp k b hh=>exact hlt k (by rw [hh];simp)
   | bs k n' b cap hh hn=>exact hlt k (by rw [hh];simp)
   | jk v=>rfl
  rw [lowL,hc]
  exact lowL_of hout h3 fun u hu=>h1 u (List.mem_cons_of_mem _ hu)
theorem RelI.low (h:RelI I0 X w0 I g s a w):lowO s.o.length s.o = true:=by
 have key:∀ l:List O,(∀ o ∈ l,∀ cs,o = .box cs → lowL s.o.length cs = true) → lowO s.o.length l = true:=by
  intro l
  induction l with
  | nil=>intro _;rfl
  | cons o l ih =>
   intro h
   have h2:=ih fun o ho=>h o (List.mem_cons_of_mem _ ho)
   cases o with
   | box cs=>rw [lowO,h _ (List.mem_cons_self ..) cs rfl];exact h2
   | _=>exact h2
 refine key s.o fun o ho cs e=>?_
 subst e
 obtain ⟨k,hk⟩:=List.mem_iff_getElem?.1 ho
 obtain ⟨b,us,t,h1,h2,h3,h4,_⟩:=h.obj k _ hk
 exact lowL_of h.out h3 h4
def keepLt (p:Nat):List Nat → List Nat
 | []=>[]
 | k :: l=>match Nat.ble p k with | true=>keepLt p l | false=>k :: keepLt p l
def trim1 (p:Nat):O → O
 | .kl ks=>.kl (keepLt p ks)
 | x=>x
def trimK:Nat → List O → List O
 | _,[]=>[]
 | p,x :: l=>trim1 p x :: trimK (p + 1) l
theorem keepLt_mem {p:Nat}:∀ {l:List Nat} {k:Nat},k ∈ l → k < p → k ∈ keepLt p l
 | [],k,h,_=>by simp at h
 | j :: l,k,h,hp=>by
  rw [keepLt]
  split
  ·rename_i hj
   rcases List.mem_cons.1 h with rfl | h
   ·have:=Nat.le_of_ble_eq_true hj;omega
   ·exact keepLt_mem h hp
  ·rcases List.mem_cons.1 h with rfl | h
   ·exact List.mem_cons_self ..
   ·exact List.mem_cons_of_mem _ (keepLt_mem h hp)
theorem trimK_get:∀ (l:List O) (p i:Nat),(trimK p l)[i]? = (l[i]?).map (trim1 (p + i))
 | [],p,i=>by simp [trimK]
 | x :: l,p,0=>by simp [trimK]
 | x :: l,p,i + 1=>by rw [trimK];simp only [List.getElem?_cons_succ];rw [trimK_get l (p + 1) i];congr 2;omega
theorem trimK_len (p:Nat) (l:List O):(trimK p l).length = l.length:=by
 induction l generalizing p with
 | nil=>rfl
 | cons x l ih=>rw [trimK,List.length_cons,ih,List.length_cons]
theorem trim1_dead {p:Nat} {o:O} (h:trim1 p o ≠ .dead):o ≠ .dead:=by rintro rfl;exact h rfl
theorem RelI.trimKl (h:RelI I0 X w0 I g s a w):RelI I0 X w0 I g ⟨s.t,trimK 0 s.o⟩ a w:=by
 have hlv:∀ k,live ⟨s.t,trimK 0 s.o⟩ k → live s k:=fun k ⟨o,ho,hd⟩=>by
  simp only [trimK_get,Option.map_eq_some_iff] at ho
  obtain ⟨o',ho',rfl⟩:=ho
  exact ⟨o',ho',trim1_dead hd⟩
 refine ⟨h.im,h.lt,h.fr,h.kp,by rw [trimK_len];exact h.lo,h.st,fun j o hj=>?_,fun i j b hi hj=>h.dis i j b (hlv i hi) (hlv j hj),fun j hj=>h.out j (by rw [trimK_len] at hj;exact hj),h.tmp,h.dfr⟩
 simp only [trimK_get,Option.map_eq_some_iff,Nat.zero_add] at hj
 obtain ⟨o',ho',rfl⟩:=hj
 have hob:=h.obj j o' ho'
 cases o' with
 | kl ks =>
  obtain ⟨us,e1,e2,e3⟩:=hob
  refine ⟨us,e1,e2,fun i u hu=>?_⟩
  rcases e3 i u hu with e4 | e4 | e4
  ·exact .inl e4
  ·exact .inr (.inl e4)
  ·have:=(Array.getElem?_eq_some_iff.1 hu).1
   exact .inr (.inr (keepLt_mem e4 (by omega)))
 | _=>exact hob
theorem keepLt_sub {p:Nat}:∀ {l:List Nat} {k:Nat},k ∈ keepLt p l → k ∈ l
 | [],k,h=>by simp [keepLt] at h
 | j :: l,k,h=>by
  rw [keepLt] at h
  split at h
  ·exact List.mem_cons_of_mem _ (keepLt_sub h)
  ·rcases List.mem_cons.1 h with rfl | h
   ·exact List.mem_cons_self ..
   ·exact List.mem_cons_of_mem _ (keepLt_sub h)
theorem trim1_live {p:Nat} {o:O} (h:o ≠ .dead):trim1 p o ≠ .dead:=by cases o <;> simp_all [trim1]
theorem RelI.untrim {t:List V} {o:List O} (h:RelI I0 X w0 I g ⟨t,trimK 0 o⟩ a w):RelI I0 X w0 I g ⟨t,o⟩ a w:=by
 have hlv:∀ k,live ⟨t,o⟩ k → live ⟨t,trimK 0 o⟩ k:=fun k ⟨x,hx,hd⟩=>⟨trim1 (0 + k) x,by simp only [trimK_get,hx];rfl,trim1_live hd⟩
 refine ⟨h.im,h.lt,h.fr,h.kp,by have:=h.lo;rw [trimK_len] at this;exact this,h.st,fun j x hj=>?_,fun i j b hi hj=>h.dis i j b (hlv i hi) (hlv j hj),fun j hj=>h.out j (by rw [trimK_len];exact hj),h.tmp,h.dfr⟩
 have hob:=h.obj j (trim1 (0 + j) x) (by simp only [trimK_get];rw [show o[j]? = some x from hj];rfl)
 cases x with
 | kl ks =>
  obtain ⟨us,e1,e2,e3⟩:=hob
  refine ⟨us,e1,e2,fun i u hu=>?_⟩
  rcases e3 i u hu with e4 | e4 | e4
  ·exact .inl e4
  ·exact .inr (.inl e4)
  ·exact .inr (.inr (keepLt_sub e4))
 | _=>exact hob
def retQ (a:Ar) (o:List O) (l:List ResultVar) (q:List R):Vm.X → S → Prop
 | .exit _,_=>False
 | .normal,s=>resO a s l fun res=>getO (trimK 0 s.o) (lenO o) = .kl [] ∧ takeO (lenO o) (trimK 0 s.o) = trimK 0 o ∧ toRs s.o res = some q
 | .ret,s=>resO a s l fun res=>getO (trimK 0 s.o) (lenO o) = .kl [] ∧ takeO (lenO o) (trimK 0 s.o) = trimK 0 o ∧ toRs s.o res = some q
theorem atRes_pkg {us:List Value} {q:List R} (h:AtRs I w us q):AtRes I w (pkg us) q:=by
 match us,q,h with
 | [],[],h=>exact ⟨[],rfl,h⟩
 | [u],[r],h=>exact h.1
 | u :: u' :: us,r :: r' :: q,h=>exact ⟨_,rfl,h⟩
theorem qin_ok {f:Nat} {fn:Func} {c:Code} {vs:List V} {o:List O} {q:List R} (hf:Tryz.prog.funcs[f]? = some fn) (hb:fn.body = some c) (hn:(fn.name != "runtime.NumGoroutine") = true) (hc:okCode Tryz.prog c = true) (hr:okRes fn.results.toList = true)
  (h:exec real c (startI vs o (fn.ntmps - lenL vs)) (fun x s=>retQ real o fn.results.toList q x s)):SoundQ f vs o (resV q):=by
 refine ⟨by unfold fnOk;rw [hf];simp only [hn,hb];rfl,?_⟩
 intro I0 X w0 I g t a w us hrel hv
 refine calls_of_wp hf hb ?_
 have hsz:us.toArray.size = lenL vs:=by rw [lenL_is];simp [hv.1]
 rw [hsz]
 obtain ⟨g',hg,hgn,h1⟩:=hrel.rebase hv
 have hstart:RelI I (Xof g' (snocO o (.kl []))) ⟨w,g',o.length + 1,[]⟩ I g' (startI vs o (fn.ntmps - lenL vs)) { tmps:=us.toArray ++ Array.replicate (fn.ntmps - lenL vs) undef,defers:=[] } w:=by
  refine ⟨h1.im,h1.lt,h1.fr,h1.kp,h1.lo,h1.st,h1.obj,h1.dis,h1.out,?_,rfl,h1.dfr.2⟩
  show AtVs I w _ (us.toArray ++ Array.replicate (fn.ntmps - lenL vs) undef).toList (appV vs (uns (fn.ntmps - lenL vs)))
  rw [appV_is,Array.toList_append,uns_is]
  refine AtVs.append h1.tmp ?_
  rw [Array.toList_replicate]
  refine ⟨by simp,fun i u c hu hc=>?_⟩
  rw [List.getElem?_replicate] at hu hc
  split at hu
  ·rename_i hi
   rw [if_pos hi] at hc
   injection hu with hu
   injection hc with hc
   subst hu;subst hc
   exact .tu [] [] rfl fun i u c hu _=>by simp at hu
  ·cases hu
 refine exec_ok c _ _ _ _ _ hc ⟨I,_,hstart⟩ h fun e s' a' w' hrel2 hk=>?_
 have key:resO real s' fn.results.toList (fun res=>getO (trimK 0 s'.o) (lenO o) = .kl [] ∧ takeO (lenO o) (trimK 0 s'.o) = trimK 0 o ∧ toRs s'.o res = some q) → a'.defers = [] ∧ ∃ v,(results fn a'.tmps).run Tryz.prog w' = .ok v w' ∧ ∃ v' I' g',Ending.returned v = .returned v' ∧ RelI I0 X w0 I' g' ⟨t,o⟩ a w' ∧ AtV I' w' g' v' (resV q):=fun hk=>by
  obtain ⟨I2,g2,h2⟩:=hrel2
  obtain ⟨us2,res,r1,r2,r3,r4,r5⟩:=resultsO_at h2 hr hk
  have hks':=getO_some r3 (by simp)
  rw [lenO_is] at hks' r4
  rw [takeO_is] at r4
  have h2':=h2.trimKl
  obtain ⟨hcut,h3⟩:=hrel.unbase hg hgn h2' hks'
  have hlo:o.length + 1 ≤ s'.o.length:=h2.lo
  have e:((trimK 0 s'.o).set o.length .dead).take o.length = trimK 0 o:=by
   rw [List.take_set_of_le (Nat.le_refl _),r4]
  have h4:=h3.trim (n:=o.length) hrel.lo (by show o.length ≤ ((trimK 0 s'.o).set _ _).length;rw [List.length_set,trimK_len];omega) hcut (by show lowO _ (((trimK 0 s'.o).set _ _).take _) = true;rw [e];have:=hrel.trimKl.low;rw [trimK_len] at this;exact this)
  have h5:(⟨killTs [] t,((trimK 0 s'.o).set o.length .dead).take o.length⟩:S) = ⟨t,trimK 0 o⟩:=by rw [e];rfl
  refine ⟨h2.dfr.1,_,r1,pkg us2,I2,cutG o.length g2,rfl,RelI.untrim ?_,resV_at _ (atRes_pkg (toRs_at h2 r2 r5))⟩
  rw [← h5]
  exact h4
 cases e with
 | normal=>exact key hk
 | exit i=>exact hk.elim
 | ret=>exact key hk
end
theorem unpkg {I:Nat → Nat → Prop} {w:World} {g:Nat → Value}:∀ {res:List V} {v:Value},AtV I w g v (pkgV res) → ∃ us,v = pkg us ∧ AtVs I w g us res
 | [],v,h=>by
  obtain ⟨us,rfl,h2⟩:=AtV.untu h
  exact ⟨us,by rw [h2.unnil];rfl,h2⟩
 | [r],v,h=>⟨[v],rfl,.cons h (.nil I w g)⟩
 | r :: r' :: res,v,h=>by
  obtain ⟨us,rfl,h2⟩:=AtV.untu h
  obtain ⟨u,us',rfl,_,h4⟩:=h2.uncons
  obtain ⟨u',us'',rfl,_,_⟩:=h4.uncons
  exact ⟨_,rfl,h2⟩
end
section
def wrO:List Oper → List Nat → List Nat
 | [],acc=>acc
 | ⟨some d,_,_,_,_,_⟩ :: l,acc=>d :: wrO l acc
 | _ :: l,acc=>wrO l acc
def wr:Code → List Nat → List Nat
 | .region _ ops _,acc=>wrO ops.toList acc
 | .seq c d,acc=>wr c (wr d acc)
 | .cond _ c d,acc=>wr c (wr d acc)
 | .block _ c,acc=>wr c acc
 | .loop c,acc=>wr c acc
 | _,acc=>acc
def forget:List Nat → List V → List V
 | [],t=>t
 | i :: l,t=>forget l (setN t i .jk)
def setsT:List (Nat × V) → List V → List V
 | [],t=>t
 | (i,v) :: l,t=>setsT l (setN t i v)
def setsO:List (Nat × O) → List O → List O
 | [],o=>o
 | (k,x) :: l,o=>setsO l (setO o k x)
theorem setsO_len:∀ (l:List (Nat × O)) (o:List O),(setsO l o).length = o.length
 | [],_=>rfl
 | (k,x) :: l,o=>by rw [setsO,setsO_len l,setO_is,List.length_set]
def head (c:Code) (s:S) (l:List (Nat × V)) (m:List (Nat × O)):S:=⟨setsT l (forget (wr c []) s.t),setsO m s.o⟩
section
variable {I0:Nat → Nat → Prop} {X:Nat → Prop} {w0:W0} {I:Nat → Nat → Prop} {g:Nat → Value} {s:S} {a:Act} {w:World}
theorem RelI.reread (h:RelI I0 X w0 I g s a w) {i:Nat} {x:V} (hx:∀ v,a.tmps.toList[i]? = some v → AtV I w g v x):RelI I0 X w0 I g ⟨setN s.t i x,s.o⟩ a w:=by
 refine ⟨h.im,h.lt,h.fr,h.kp,h.lo,h.st,h.obj,h.dis,h.out,?_,h.dfr⟩
 rw [setN_is]
 refine ⟨by rw [List.length_set];exact h.tmp.1,fun j v y hv hy=>?_⟩
 by_cases hji:i = j
 ·subst hji
  have hlt:i < s.t.length:=by have:=(List.getElem?_eq_some_iff.1 hy).1;rw [List.length_set] at this;exact this
  rw [List.getElem?_set_self hlt] at hy
  cases hy
  exact hx v hv
 ·rw [List.getElem?_set_ne hji] at hy
  exact h.tmp.2 j v y hv hy
end
theorem Ghost.own (s:S) (i e:Nat) (z:Bool) (hi:getN s.t i = .em):Ghost s ⟨setN s.t i (.own (lenO s.o)),snocO s.o (.row z e [])⟩:=by
 rintro I0 X w0 a w ⟨I,g,h⟩
 have h2:=h.newObj (.row z e []) (.slice none 0 0) ⟨[],by rw [upd_same];exact World.ownsRow_nil w 0 e _,by simp,AtDs.nil I w,fun b hb=>by rw [upd_same] at hb;cases hb⟩ (fun j b _ _ hb=>by cases hb)
 refine ⟨I,upd g s.o.length (.slice none 0 0),?_⟩
 have h3:RelI I0 X w0 I (upd g s.o.length (.slice none 0 0)) ⟨s.t,snocO s.o (.row z e [])⟩ a w:=h2
 refine h3.reread fun v hv=>?_
 have hs:=getN_some hi (by simp)
 have h4:=h.tmp.2 i v _ hv hs
 rw [h4.unem]
 exact .own _ _ _ _ (by rw [lenO_is,upd_same];rfl)
section
variable {qa:IntKind → Int → Int} {qb:Int → Int → Int} {qc:Int → Int → Int} {qd:Int → Int → Int} {qe:Int → Int → Int} {qf:Int → Int → Int} {qg:BinOp → IntKind → Int → IntKind → Int → Option Int} {qh:Int → Int → Bool} {qi:Int → Int → Bool} {qj:Int → Int → Bool} {qk:Int → Prop → Prop} {ql:List UInt8 → List UInt8 → Bool} {qm:List UInt8 → List UInt8 → Bool} {qn:ByteArray → List UInt8} {qo:ByteArray → ByteArray → ByteArray} {qp:ByteArray → ByteArray → Prop → Prop} {qq:ByteArray → Int} {qs:ByteArray → Int → Option Int} {qt:ByteArray → Int → Int → Option ByteArray} {qu:List (List D) → Option ByteArray} {qv:ByteArray → List (List D)} {qw:Int → Nat → Option Nat} {qx:List (List D) → Int} {qy:List (List D) → Int → Option (List D)} {qz:List (List D) → Int → Int → Option (List (List D))} {va:List (List D) → List (List D) → List (List D)} {vc:List (List D) → Int → List D → List (List D)} {vd:List (List D) → List (List D) → Prop → Prop} {ve:List (R × R) → R → Option R} {vf:List (R × R) → R → R → List (R × R)} {vg:List D → List D → Bool} {vh:Int → List D → (List (List D) → Prop) → Prop} {vj:Nat → List R → (List R → Prop) → Prop} {vk:Nat → List V → List O → (V → Prop) → Prop} {vl:Nat → List V → S → (V → S → Prop) → Prop} {vm:Nat → List V → List Nat → S → (V → S → Prop) → Prop} {vn:Nat → (Bool → Prop) → Prop} {vo:Nat → (Bool → Prop) → Prop} {vp:Nat → (List V → List O → Prop) → List V → S → Prop} {vq:(S → Prop) → S → Prop} {vr:Op → Option Nat → S → (S → Prop) → Prop} {vt:Array Oper → S → (S → Prop) → Prop} {vu:Code → (S → (X → S → Prop) → Prop) → S → (X → S → Prop) → Prop}
theorem loop_at (hA:Ar.mk qa qb qc qd qe qf qg qh qi qj qk ql qm qn qo qp qq qs qt qu qv qw qx qy qz va vc vd ve vf vg vh vj vk vl vm vn vo vp vq vr vt vu = real) {c:Code} {body:S → (X → S → Prop) → Prop} {s:S} {K:X → S → Prop} {γ:Type} (slots:γ → List (Nat × V)) (objs:γ → List (Nat × O)) (inv:γ → Prop) (μ:γ → Nat) (x0:γ) (h0:inv x0) (hw:weak s (head c s (slots x0) (objs x0)))
  (hr:∀ x,inv x → body (head c s (slots x) (objs x)) (fun e s'=>roundX (fun s2=>∃ y,inv y ∧ μ y < μ x ∧ weak s2 (head c s (slots y) (objs y))) K e s')):vu c body s K:=by
 have e:vu = real.loop:=congrArg Ar.loop hA
 rw [e]
 exact .inl ⟨γ,fun x=>head c s (slots x) (objs x),inv,μ,fun x _=>by rw [lenO_is,lenO_is];exact Nat.le_of_eq (setsO_len _ _).symm,⟨x0,hw,h0⟩,hr⟩
theorem next_at (hA:Ar.mk qa qb qc qd qe qf qg qh qi qj qk ql qm qn qo qp qq qs qt qu qv qw qx qy qz va vc vd ve vf vg vh vj vk vl vm vn vo vp vq vr vt vu = real) {N:S → Prop} {s:S} (h:N s):vq N s:=by
 have e:vq = real.next:=congrArg Ar.next hA
 rw [e]
 exact ⟨fun s2=>s2 = s,fun _ _ _ _ _ h=>⟨_,rfl,h⟩,fun s2 e=>by subst e;exact h⟩
theorem ghost_at (hA:Ar.mk qa qb qc qd qe qf qg qh qi qj qk ql qm qn qo qp qq qs qt qu qv qw qx qy qz va vc vd ve vf vg vh vj vk vl vm vn vo vp vq vr vt vu = real) {N:S → Prop} {s:S} (s':S) (hg:Ghost s s') (h:N s'):vq N s:=by
 have e:vq = real.next:=congrArg Ar.next hA
 rw [e]
 exact ⟨fun s2=>s2 = s',fun _ _ _ _ _ hr=>⟨_,rfl,hg _ _ _ _ _ hr⟩,fun s2 e=>by subst e;exact h⟩
theorem ext_at (hA:Ar.mk qa qb qc qd qe qf qg qh qi qj qk ql qm qn qo qp qq qs qt qu qv qw qx qy qz va vc vd ve vf vg vh vj vk vl vm vn vo vp vq vr vt vu = real) {op:Op} {dst:Option Nat} {s:S} {K:S → Prop} (h:real.ext op dst s K):vr op dst s K:=by
 have e:vr = real.ext:=congrArg Ar.ext hA
 rw [e]
 exact h
theorem own_at (hA:Ar.mk qa qb qc qd qe qf qg qh qi qj qk ql qm qn qo qp qq qs qt qu qv qw qx qy qz va vc vd ve vf vg vh vj vk vl vm vn vo vp vq vr vt vu = real) {N:S → Prop} {s:S} (i e:Nat) (z:Bool) (hi:getN s.t i = .em) (h:N ⟨setN s.t i (.own (lenO s.o)),snocO s.o (.row z e [])⟩):vq N s:=ghost_at hA _ (Ghost.own s i e z hi) h
theorem call_at (hA:Ar.mk qa qb qc qd qe qf qg qh qi qj qk ql qm qn qo qp qq qs qt qu qv qw qx qy qz va vc vd ve vf vg vh vj vk vl vm vn vo vp vq vr vt vu = real) {f:Nat} {vs:List V} {s:S} {rs:List R} {K:V → S → Prop} (q:List R) (h:Spec f rs q) (hr:toRs s.o vs = some rs) (hK:K (resV q) s):vl f vs s K:=by
 have e:vl = real.callo:=congrArg Ar.callo hA
 rw [e]
 exact (sound_spec h hr).mono fun x o' ks ⟨e1,e2,e3⟩=>by subst e1;subst e2;subst e3;exact hK
theorem calm_at (hA:Ar.mk qa qb qc qd qe qf qg qh qi qj qk ql qm qn qo qp qq qs qt qu qv qw qx qy qz va vc vd ve vf vg vh vj vk vl vm vn vo vp vq vr vt vu = real) {f:Nat} {rs:List R} {K:List R → Prop} (q:List R) (h:Spec f rs q) (hK:K q):vj f rs K:=by
 have e:vj = real.call:=congrArg Ar.call hA
 rw [e]
 exact ⟨q,h,hK⟩
theorem callo_at (hA:Ar.mk qa qb qc qd qe qf qg qh qi qj qk ql qm qn qo qp qq qs qt qu qv qw qx qy qz va vc vd ve vf vg vh vj vk vl vm vn vo vp vq vr vt vu = real) {f:Nat} {vs:List V} {s:S} {K:V → S → Prop} (ks:List Nat) {vs':List V} {os':List O} {Q:List V → List O → Prop} (h:SpecO f vs' os' Q) (hs:SubOk ks vs' os' vs s) (hK:∀ res os2,Q res os2 → K (pkgV (upT ks (lenO s.o) res)) (back ks os2 s)):vl f vs s K:=by
 have e:vl = real.callo:=congrArg Ar.callo hA
 rw [e]
 exact (sound_speco h hs).mono fun x o' ks' ⟨e1,res,os2,hQ,e2,e3⟩=>by subst e1;subst e2;subst e3;exact hK res os2 hQ
theorem calls_at (hA:Ar.mk qa qb qc qd qe qf qg qh qi qj qk ql qm qn qo qp qq qs qt qu qv qw qx qy qz va vc vd ve vf vg vh vj vk vl vm vn vo vp vq vr vt vu = real) {f:Nat} {vs:List V} {s:S} {K:V → S → Prop} (ks:List Nat) {vs':List V} {os':List O} {Q:List V → List O → Prop} (h:SpecS f vs' os' Q) (hs:SubOk ks vs' os' vs s) (hK:∀ res os2,Q res os2 → K (pkgV (upT ks (lenO s.o) res)) ⟨s.t,backO ks (upOs ks (lenO s.o) os2) s.o⟩):vl f vs s K:=by
 have e:vl = real.callo:=congrArg Ar.callo hA
 rw [e]
 exact (sound_specs h hs).mono fun x o' ks' ⟨e1,res,os2,hQ,e2,e3⟩=>by subst e1;subst e2;subst e3;exact hK res os2 hQ
theorem keep_is (hA:Ar.mk qa qb qc qd qe qf qg qh qi qj qk ql qm qn qo qp qq qs qt qu qv qw qx qy qz va vc vd ve vf vg vh vj vk vl vm vn vo vp vq vr vt vu = real) {n:Nat} {Q:List V → List O → Prop} {res:List V} {s:S} (ks:List Nat) {res':List V} {os':List O} (h:KeepOk n ks res' os' res s) (hQ:Q res' os'):vp n Q res s:=by
 have e:vp = real.keep:=congrArg Ar.keep hA
 rw [e]
 exact ⟨ks,res',os',h,hQ⟩
theorem new_at (hA:Ar.mk qa qb qc qd qe qf qg qh qi qj qk ql qm qn qo qp qq qs qt qu qv qw qx qy qz va vc vd ve vf vg vh vj vk vl vm vn vo vp vq vr vt vu = real) {e:Nat} {K:Bool → Prop} (z:Bool) (h:K z):vn e K:=by
 have e1:vn = real.new:=congrArg Ar.new hA
 rw [e1]
 exact ⟨z,h⟩
theorem lit_at (hA:Ar.mk qa qb qc qd qe qf qg qh qi qj qk ql qm qn qo qp qq qs qt qu qv qw qx qy qz va vc vd ve vf vg vh vj vk vl vm vn vo vp vq vr vt vu = real) {t:Nat} {K:Bool → Prop} (c:Bool) (h:K c):vo t K:=by
 have e:vo = real.lit:=congrArg Ar.lit hA
 rw [e]
 exact ⟨c,h⟩
theorem ar_at (hA:Ar.mk qa qb qc qd qe qf qg qh qi qj qk ql qm qn qo qp qq qs qt qu qv qw qx qy qz va vc vd ve vf vg vh vj vk vl vm vn vo vp vq vr vt vu = real):(∀ k n,qa k n = k.wrap n) ∧ (∀ x y,qb x y = x + y) ∧ (∀ x y,qc x y = x - y) ∧ (∀ x y,qd x y = x * y) ∧ (∀ x y,qe x y = x.tdiv y) ∧ (∀ x y,qf x y = x.tmod y) ∧ (∀ x y,qh x y = decide (x < y)) ∧ (∀ x y,qi x y = decide (x ≤ y)) ∧ (∀ x y,qj x y = (x == y)):=by
 first | (injection hA;subst_vars) | subst hA
 exact ⟨fun _ _=>rfl,fun _ _=>rfl,fun _ _=>rfl,fun _ _=>rfl,fun _ _=>rfl,fun _ _=>rfl,fun _ _=>rfl,fun _ _=>rfl,fun _ _=>rfl⟩
theorem nc (n:Nat):@NatCast.natCast Int instNatCastInt n = (n:Int):=rfl
theorem str_at (hA:Ar.mk qa qb qc qd qe qf qg qh qi qj qk ql qm qn qo qp qq qs qt qu qv qw qx qy qz va vc vd ve vf vg vh vj vk vl vm vn vo vp vq vr vt vu = real):(∀ x y,ql x y = (x == y)) ∧ (∀ x y,qm x y = Op.bytesLess x y) ∧ (∀ b,qn b = b.toList) ∧ (∀ x y,qo x y = x ++ y) ∧ (∀ b,qq b = (b.size:Int)) ∧ (∀ b n,qs b n = real.sget b n) ∧ (∀ b l h,qt b l h = real.ssub b l h):=by
 first | (injection hA;subst_vars) | subst hA
 exact ⟨fun _ _=>rfl,fun _ _=>rfl,fun _=>rfl,fun _ _=>rfl,fun _=>rfl,fun _ _=>rfl,fun _ _ _=>rfl⟩
theorem row_at (hA:Ar.mk qa qb qc qd qe qf qg qh qi qj qk ql qm qn qo qp qq qs qt qu qv qw qx qy qz va vc vd ve vf vg vh vj vk vl vm vn vo vp vq vr vt vu = real):(∀ r,qx r = (r.length:Int)) ∧ (∀ r n,qy r n = if 0 ≤ n then r[n.toNat]? else none) ∧ (∀ r l h,qz r l h = real.sub2 r l h) ∧ (∀ x y,va x y = x ++ y):=by
 first | (injection hA;subst_vars) | subst hA
 exact ⟨fun _=>rfl,fun _ _=>rfl,fun _ _ _=>rfl,fun _ _=>rfl⟩
theorem nz_at (hA:Ar.mk qa qb qc qd qe qf qg qh qi qj qk ql qm qn qo qp qq qs qt qu qv qw qx qy qz va vc vd ve vf vg vh vj vk vl vm vn vo vp vq vr vt vu = real) {x:Int} {k:Prop} (h:x ≠ 0) (hk:k):qk x k:=by
 have e:qk = real.nz:=congrArg Ar.nz hA
 rw [e]
 exact ⟨h,hk⟩
theorem room_at (hA:Ar.mk qa qb qc qd qe qf qg qh qi qj qk ql qm qn qo qp qq qs qt qu qv qw qx qy qz va vc vd ve vf vg vh vj vk vl vm vn vo vp vq vr vt vu = real) {x y:List (List D)} {k:Prop} (h:x.length + y.length ≤ 137438953472) (hk:k):vd x y k:=by
 have e:vd = real.room:=congrArg Ar.room hA
 rw [e]
 exact ⟨h,hk⟩
theorem inl_at (hA:Ar.mk qa qb qc qd qe qf qg qh qi qj qk ql qm qn qo qp qq qs qt qu qv qw qx qy qz va vc vd ve vf vg vh vj vk vl vm vn vo vp vq vr vt vu = real) {f:Nat} {fn:Func} {c:Code} {vs:List V} {s:S} {K:V → S → Prop} (hf:Tryz.prog.funcs[f]? = some fn) (hb:fn.body = some c) (hn:(fn.name != "runtime.NumGoroutine") = true) (hc:okCode Tryz.prog c = true) (hr:okRes fn.results.toList = true)
  (h:exec (Ar.mk qa qb qc qd qe qf qg qh qi qj qk ql qm qn qo qp qq qs qt qu qv qw qx qy qz va vc vd ve vf vg vh vj vk vl vm vn vo vp vq vr vt vu) c (startI vs s.o (fn.ntmps - lenL vs)) (fun x s2=>retI (Ar.mk qa qb qc qd qe qf qg qh qi qj qk ql qm qn qo qp qq qs qt qu qv qw qx qy qz va vc vd ve vf vg vh vj vk vl vm vn vo vp vq vr vt vu) (lenO s.o) (fun v o' ks=>K v ⟨killTs ks s.t,o'⟩) fn.results.toList x s2)):vl f vs s K:=by
 have e:vl = real.callo:=congrArg Ar.callo hA
 rw [hA] at h
 rw [e]
 exact inl_ok hf hb hn hc hr h
end
end
section
theorem Ghost.nil (s:S) (i z:Nat) (L:List (List D)) (hL:L = []) (hi:getN s.t i = .em):Ghost s ⟨setN s.t i (.d (.sl z L)),s.o⟩:=by
 subst hL
 rintro I0 X w0 a w ⟨I,g,h⟩
 refine ⟨I,g,h.reread fun v hv=>?_⟩
 have h4:=h.tmp.2 i v _ hv (getN_some hi (by simp))
 rw [h4.unem]
 exact .d (.nil _ _ _)
section
variable {qa:IntKind → Int → Int} {qb:Int → Int → Int} {qc:Int → Int → Int} {qd:Int → Int → Int} {qe:Int → Int → Int} {qf:Int → Int → Int} {qg:BinOp → IntKind → Int → IntKind → Int → Option Int} {qh:Int → Int → Bool} {qi:Int → Int → Bool} {qj:Int → Int → Bool} {qk:Int → Prop → Prop} {ql:List UInt8 → List UInt8 → Bool} {qm:List UInt8 → List UInt8 → Bool} {qn:ByteArray → List UInt8} {qo:ByteArray → ByteArray → ByteArray} {qp:ByteArray → ByteArray → Prop → Prop} {qq:ByteArray → Int} {qs:ByteArray → Int → Option Int} {qt:ByteArray → Int → Int → Option ByteArray} {qu:List (List D) → Option ByteArray} {qv:ByteArray → List (List D)} {qw:Int → Nat → Option Nat} {qx:List (List D) → Int} {qy:List (List D) → Int → Option (List D)} {qz:List (List D) → Int → Int → Option (List (List D))} {va:List (List D) → List (List D) → List (List D)} {vc:List (List D) → Int → List D → List (List D)} {vd:List (List D) → List (List D) → Prop → Prop} {ve:List (R × R) → R → Option R} {vf:List (R × R) → R → R → List (R × R)} {vg:List D → List D → Bool} {vh:Int → List D → (List (List D) → Prop) → Prop} {vj:Nat → List R → (List R → Prop) → Prop} {vk:Nat → List V → List O → (V → Prop) → Prop} {vl:Nat → List V → S → (V → S → Prop) → Prop} {vm:Nat → List V → List Nat → S → (V → S → Prop) → Prop} {vn:Nat → (Bool → Prop) → Prop} {vo:Nat → (Bool → Prop) → Prop} {vp:Nat → (List V → List O → Prop) → List V → S → Prop} {vq:(S → Prop) → S → Prop} {vr:Op → Option Nat → S → (S → Prop) → Prop} {vt:Array Oper → S → (S → Prop) → Prop} {vu:Code → (S → (X → S → Prop) → Prop) → S → (X → S → Prop) → Prop}
theorem nil_at (hA:Ar.mk qa qb qc qd qe qf qg qh qi qj qk ql qm qn qo qp qq qs qt qu qv qw qx qy qz va vc vd ve vf vg vh vj vk vl vm vn vo vp vq vr vt vu = real) {N:S → Prop} {s:S} (i z:Nat) (L:List (List D)) (hL:L = []) (hi:getN s.t i = .em) (h:N ⟨setN s.t i (.d (.sl z L)),s.o⟩):vq N s:=ghost_at hA _ (Ghost.nil s i z L hL hi) h
end
end
section
section
variable {I0:Nat → Nat → Prop} {X:Nat → Prop} {w0:W0} {I:Nat → Nat → Prop} {g:Nat → Value} {s:S} {a:Act} {w:World}
end
section
variable {qa:IntKind → Int → Int} {qb:Int → Int → Int} {qc:Int → Int → Int} {qd:Int → Int → Int} {qe:Int → Int → Int} {qf:Int → Int → Int} {qg:BinOp → IntKind → Int → IntKind → Int → Option Int} {qh:Int → Int → Bool} {qi:Int → Int → Bool} {qj:Int → Int → Bool} {qk:Int → Prop → Prop} {ql:List UInt8 → List UInt8 → Bool} {qm:List UInt8 → List UInt8 → Bool} {qn:ByteArray → List UInt8} {qo:ByteArray → ByteArray → ByteArray} {qp:ByteArray → ByteArray → Prop → Prop} {qq:ByteArray → Int} {qs:ByteArray → Int → Option Int} {qt:ByteArray → Int → Int → Option ByteArray} {qu:List (List D) → Option ByteArray} {qv:ByteArray → List (List D)} {qw:Int → Nat → Option Nat} {qx:List (List D) → Int} {qy:List (List D) → Int → Option (List D)} {qz:List (List D) → Int → Int → Option (List (List D))} {va:List (List D) → List (List D) → List (List D)} {vc:List (List D) → Int → List D → List (List D)} {vd:List (List D) → List (List D) → Prop → Prop} {ve:List (R × R) → R → Option R} {vf:List (R × R) → R → R → List (R × R)} {vg:List D → List D → Bool} {vh:Int → List D → (List (List D) → Prop) → Prop} {vj:Nat → List R → (List R → Prop) → Prop} {vk:Nat → List V → List O → (V → Prop) → Prop} {vl:Nat → List V → S → (V → S → Prop) → Prop} {vm:Nat → List V → List Nat → S → (V → S → Prop) → Prop} {vn:Nat → (Bool → Prop) → Prop} {vo:Nat → (Bool → Prop) → Prop} {vp:Nat → (List V → List O → Prop) → List V → S → Prop} {vq:(S → Prop) → S → Prop} {vr:Op → Option Nat → S → (S → Prop) → Prop} {vt:Array Oper → S → (S → Prop) → Prop} {vu:Code → (S → (X → S → Prop) → Prop) → S → (X → S → Prop) → Prop}
end
end
section
section
variable {I0:Nat → Nat → Prop} {X:Nat → Prop} {w0:W0} {I:Nat → Nat → Prop} {g:Nat → Value} {s:S} {a:Act} {w:World}
end
section
variable {qa:IntKind → Int → Int} {qb:Int → Int → Int} {qc:Int → Int → Int} {qd:Int → Int → Int} {qe:Int → Int → Int} {qf:Int → Int → Int} {qg:BinOp → IntKind → Int → IntKind → Int → Option Int} {qh:Int → Int → Bool} {qi:Int → Int → Bool} {qj:Int → Int → Bool} {qk:Int → Prop → Prop} {ql:List UInt8 → List UInt8 → Bool} {qm:List UInt8 → List UInt8 → Bool} {qn:ByteArray → List UInt8} {qo:ByteArray → ByteArray → ByteArray} {qp:ByteArray → ByteArray → Prop → Prop} {qq:ByteArray → Int} {qs:ByteArray → Int → Option Int} {qt:ByteArray → Int → Int → Option ByteArray} {qu:List (List D) → Option ByteArray} {qv:ByteArray → List (List D)} {qw:Int → Nat → Option Nat} {qx:List (List D) → Int} {qy:List (List D) → Int → Option (List D)} {qz:List (List D) → Int → Int → Option (List (List D))} {va:List (List D) → List (List D) → List (List D)} {vc:List (List D) → Int → List D → List (List D)} {vd:List (List D) → List (List D) → Prop → Prop} {ve:List (R × R) → R → Option R} {vf:List (R × R) → R → R → List (R × R)} {vg:List D → List D → Bool} {vh:Int → List D → (List (List D) → Prop) → Prop} {vj:Nat → List R → (List R → Prop) → Prop} {vk:Nat → List V → List O → (V → Prop) → Prop} {vl:Nat → List V → S → (V → S → Prop) → Prop} {vm:Nat → List V → List Nat → S → (V → S → Prop) → Prop} {vn:Nat → (Bool → Prop) → Prop} {vo:Nat → (Bool → Prop) → Prop} {vp:Nat → (List V → List O → Prop) → List V → S → Prop} {vq:(S → Prop) → S → Prop} {vr:Op → Option Nat → S → (S → Prop) → Prop} {vt:Array Oper → S → (S → Prop) → Prop} {vu:Code → (S → (X → S → Prop) → Prop) → S → (X → S → Prop) → Prop}
end
end
end Go.Proofs.YtahpnackkmbmgaaGreat.Vm
end
section
namespace Go.Proofs.YtahpnackkmbmgaaGreat.Vm
open Go.RowKit
set_option maxRecDepth 100000
set_option maxHeartbeats 4000000
section
section
variable {I0:Nat → Nat → Prop} {X:Nat → Prop} {w0:W0} {I:Nat → Nat → Prop} {g:Nat → Value} {s:S} {a:Act} {w:World}
end
end
theorem cell_get {w:World} {b T:Nat} {cur:Array Value} (h:w.heap[b]? = some (.cells cur T (0,0))) (i:Nat):w.cell? ⟨b,i,none⟩ = cur[i]?:=by
 unfold World.cell?
 rw [h]
 simp
end Go.Proofs.YtahpnackkmbmgaaGreat.Vm
end
section
namespace Go.Proofs.YtahpnackkmbmgaaGreat.Vm
open Go.RowKit
def btl (b:ByteArray):List UInt8:=b.data.toList
end Go.Proofs.YtahpnackkmbmgaaGreat.Vm
end
section
namespace Go.Proofs.YtahpnackkmbmgaaGreat.Vm
open Go.RowKit
set_option maxRecDepth 100000
set_option maxHeartbeats 4000000
def rU (l:List UInt8):List (List D):=l.map fun c=>[.sc (.int .u8 (c.toNat:Int))]
theorem rU_len (l:List UInt8):(rU l).length = l.length:=by unfold rU;rw [List.length_map]
section
section
variable {I0:Nat → Nat → Prop} {X:Nat → Prop} {w0:W0} {I:Nat → Nat → Prop} {g:Nat → Value} {s:S} {a:Act} {w:World}
theorem live_dead2 {s:S} {k:Nat} {j:Nat} (h:live ⟨s.t,s.o.set k .dead⟩ j):j ≠ k ∧ live s j:=by
 obtain ⟨o,ho,hd⟩:=h
 by_cases e:k = j
 ·subst e
  simp only at ho
  have hlt:=(List.getElem?_eq_some_iff.1 ho).1
  rw [List.length_set] at hlt
  rw [List.getElem?_set_self hlt] at ho
  cases ho
  exact absurd rfl hd
 ·simp only [List.getElem?_set_ne e] at ho
  exact ⟨Ne.symm e,o,ho,hd⟩
theorem RelI.deadTo (h:RelI I0 X w0 I g s a w) {k:Nat} {o:O} (hk:s.o[k]? = some o) (hd:o ≠ .dead) {w':World} {b:Nat} (hb:gbl (g k) b) (hos:w'.os = w.os) (htp:w'.tape = w.tape) (hou:w'.output = w.output) (hsz:w'.heap.size = w.heap.size)
  (hoth:∀ c,c ≠ b → w'.heap[c]? = w.heap[c]?) (hcell:∀ i,w'.cell? ⟨b,i,none⟩ = w.cell? ⟨b,i,none⟩):RelI I0 X w0 I g ⟨s.t,s.o.set k .dead⟩ a w':=by
 have hm:=(h.obj k o hk).blk hd b hb
 have hkp:Keeps I w w':=fun b' n hb' i hi=>by
  by_cases e:b' = b
  ·subst e;exact hcell i
  ·exact blk_cell (hoth b' e) i
 refine ⟨h.im,fun b' n hb'=>by rw [hsz];exact h.lt b' n hb',⟨hos.trans h.fr.os,htp.trans h.fr.tape,hou.trans h.fr.output,by rw [hsz];exact h.fr.size,fun b' hb' hX=>?_⟩,h.kp.trans fun b' n hb' i hi=>hkp b' n (h.im b' n hb') i hi,by simp only [List.length_set];exact h.lo,h.st,fun i x hx=>?_,fun i j b hi hj=>h.dis i j b (live_dead2 hi).2 (live_dead2 hj).2,fun i hi=>h.out i (by simpa using hi),h.tmp.mono (fun _ _ h=>h) hkp,h.dfr⟩
 ·rw [hoth b' fun e=>?_]
  ·exact h.fr.block b' hb' hX
  ·subst e
   rcases hm.2 with h1 | h1
   ·omega
   ·exact hX h1
 ·by_cases hxd:x = .dead
  ·subst hxd;exact True.intro
  ·have h1:=live_dead2 (s:=s) (k:=k) ⟨x,hx,hxd⟩
   simp only [List.getElem?_set_ne (Ne.symm h1.1)] at hx
   refine (h.obj i x hx).keep (fun _ _ h=>h) hkp (fun b' hb'=>hoth b' fun e=>?_) fun _ _ _ h=>h
   subst e
   exact h1.1 (h.dis i k b' ⟨x,hx,hxd⟩ ⟨o,hk,hd⟩ hb' hb)
end
theorem row_cells {I:Nat → Nat → Prop} {w:World}:∀ (l:List UInt8) {us:List Value},AtDs I w us (rU l).flatten → us = l.map fun c=>Value.int .u8 c.toNat
 | [],us,h=>by
  have:=h.1
  simp [rU] at this
  exact this
 | c :: l,us,h=>by
  obtain ⟨u,us',rfl,h1,h2⟩:=AtDs.uncons (show AtDs I w us (.sc (.int .u8 (c.toNat:Int)) :: (rU l).flatten) from h)
  rw [row_cells l h2]
  cases h1
  rfl
end
end Go.Proofs.YtahpnackkmbmgaaGreat.Vm
end
section
namespace Go.Proofs.YtahpnackkmbmgaaGreat.Vm
open Go.RowKit
def tkD (t:Tok):List D:=[.sc (.int .u8 t.kind),.sc (.string t.text),.sc (.int .i64 t.n),.sc (.int .i64 t.at_)]
def rTk (ts:List Tok):List (List D):=ts.map tkD
def numsU (l:List UInt8):List Int:=l.map fun c=>(c.toNat:Int)
theorem rTk_len (ts:List Tok):(rTk ts).length = ts.length:=by unfold rTk;rw [List.length_map]
theorem rTk_get {ts:List Tok} {k:Nat} {t:Tok} (h:ts[k]? = some t):(rTk ts)[k]? = some (tkD t):=by unfold rTk;rw [List.getElem?_map,h];rfl
theorem gb_nums (l:List UInt8) (i:Nat) (c:UInt8) (h:l[i]? = some c):gb (numsU l) i = (c.toNat:Int):=by
 unfold gb numsU
 rw [List.getD_eq_getElem?_getD,List.getElem?_map,h]
 rfl
theorem byt_nums (l:List UInt8):Byt (numsU l):=fun x hx=>by
 unfold numsU at hx
 obtain ⟨c,_,rfl⟩:=List.mem_map.1 hx
 have:=c.toNat_lt
 omega
theorem tks_at_ds {I:Nat → Nat → Prop} {w:World}:∀ ts:List Tok,AtDs I w (ts.flatMap Tok.cells) (rTk ts).flatten
 | []=>.nil I w
 | t :: ts=>.cons (.sc _ rfl) (.cons (.sc _ rfl) (.cons (.sc _ rfl) (.cons (.sc _ rfl) (tks_at_ds ts))))
theorem toks_spec {f:Nat} {k:IntKind} (l:List UInt8) (hf:fnOk Tryz.prog f = true) (h:∀ (A:Option Addr) (cap:Nat) (w:World),l.length ≤ cap → SliceAt w .u8 A (numsU l) → Calls Tryz.prog f #[.slice A l.length cap] w (TksTold k (numsU l) w)) :
  Spec f [.one (.sl 1 (rU l))] [.one (.sl 4 (rTk (scanS (numsU l) 0 false []).1)),.one (.sc (.int .i64 (scanS (numsU l) 0 false []).2.1)),.one (.sc (.int k (scanS (numsU l) 0 false []).2.2))]:=by
 refine ⟨hf,fun I w args hI hat=>?_⟩
 match args,hat with
 | [v1],⟨h1,_⟩ =>
  have h1:AtD I w v1 (.sl 1 (rU l)):=h1
  obtain ⟨A,cap,rfl,hcap,hrows⟩:=h1.slice
  rw [rU_len] at hcap
  rw [rU_len]
  have hs:SliceAt w .u8 A (numsU l):=by
   rcases hrows with h0 | ⟨b,off,us,rfl,hup,hr,hlen,hc,hd⟩
   ·have:l = []:=by
     have:=congrArg List.length h0
     rw [rU_len] at this
     exact List.eq_nil_of_length_eq_zero this
    subst this
    exact .inl rfl
   ·by_cases hl:l = []
    ·subst hl;exact .inl rfl
    have hus:=row_cells l hd
    obtain ⟨hh,_,hib⟩:=hup
    refine .inr ⟨b,off,rfl,hI.1 _ _ hib,fun i hi=>?_⟩
    have hi':i < l.length:=by unfold numsU at hi;rw [List.length_map] at hi;exact hi
    have hg:l[i]? = some l[i]:=List.getElem?_eq_getElem hi'
    rw [hc i (.int .u8 (l[i].toNat:Int)) (by rw [hus,List.getElem?_map,hg];rfl),gb_nums l i _ hg]
  refine (h A cap w hcap hs).mono ?_
  rintro e w' ⟨v,rfl,ho,hb⟩
  refine ⟨_,rfl,?_,hb⟩
  refine ⟨[v,.int .i64 (scanS (numsU l) 0 false []).2.1,.int k (scanS (numsU l) 0 false []).2.2],rfl,?_,⟨.sc _ rfl,⟨.sc _ rfl,trivial⟩⟩⟩
  show AtD (nxt I w w') w' v (.sl 4 (rTk (scanS (numsU l) 0 false []).1))
  generalize (scanS (numsU l) 0 false []).1 = ts at *
  rcases ho.2 with ⟨e0,hz⟩ | ⟨g,cap',cur,e0,hbase,hg,hnc,hcm,hcs,htake⟩
  ·have:ts = []:=List.eq_nil_of_length_eq_zero hz
   subst this
   rw [e0]
   exact .nil _ _ _
  ·rw [e0,← rTk_len]
   refine .sl g 0 cap' 4 (rTk ts) (ts.flatMap Tok.cells) (by rw [rTk_len];exact hnc) ⟨_,Nat.le_refl _,.inr ⟨hbase,(Array.getElem?_eq_some_iff.1 hg).1⟩⟩ (fun r hr=>?_) ?_ (fun i u hu=>?_) ((tks_at_ds ts).2)
   ·unfold rTk at hr
    obtain ⟨t,_,rfl⟩:=List.mem_map.1 hr
    rfl
   ·rw [rTk_len];exact ho.1
   ·rw [Nat.zero_add,cell_get hg]
    have h5:(cur.toList.take (ts.length * 4))[i]? = some u:=by rw [htake];exact hu
    rw [List.getElem?_take] at h5
    split at h5
    ·simpa using h5
    ·cases h5
theorem Tokens_s (l:List UInt8) (hl:l.length ≤ 65536):Spec 17 [.one (.sl 1 (rU l))] [.one (.sl 4 (rTk (scanS (numsU l) 0 false []).1)),.one (.sc (.int .i64 (scanS (numsU l) 0 false []).2.1)),.one (.sc (.int .u8 (scanS (numsU l) 0 false []).2.2))] :=
 toks_spec l (by kernel_rfl) fun A cap w hcap hs=>Tokens_any A l.length cap (numsU l) w (by unfold numsU;rw [List.length_map]) hcap (by omega) (byt_nums l) hs hl
end Go.Proofs.YtahpnackkmbmgaaGreat.Vm
end
section
namespace Go.Proofs.YtahpnackkmbmgaaGreat.Vm
open Go.RowKit
set_option maxRecDepth 100000
set_option maxHeartbeats 4000000
def okB (first:Bool) (c:Int):Bool:=smallB c || (!first && (digitB c || c == 95))
def okL:Bool → List UInt8 → Bool
 | _,[]=>true
 | f,c :: l=>okB f (c.toNat:Int) && okL false l
def wordlyS (s:ByteArray):Bool:=okL true (btl s) && decide (0 < s.size)
def wordB (s:ByteArray):Bool:=decide (s.size ≤ 32) && (wordlyS s && !ownB s)
end Go.Proofs.YtahpnackkmbmgaaGreat.Vm
end
section
namespace Go.Proofs.YtahpnackkmbmgaaGreat.Vm
open Go.RowKit
section
def plainO:List O → Bool
 | []=>true
 | .box _ :: l=>plainO l
 | .row _ _ _ :: l=>plainO l
 | .mp _ _ :: l=>plainO l
 | _=>false
theorem plainO_at:∀ {l:List O},plainO l = true → ∀ {i:Nat} {o:O},l[i]? = some o → (∃ cs,o = .box cs) ∨ (∃ z e r,o = .row z e r) ∨ ∃ k es,o = .mp k es
 | [],_,i,o,h=>by simp at h
 | x :: l,hp,i,o,h=>by
  cases x with
  | box cs=>cases i with
   | zero=>simp at h;exact .inl ⟨cs,h.symm⟩
   | succ i=>exact plainO_at (l:=l) hp (i:=i) (by simpa using h)
  | row z e r=>cases i with
   | zero=>simp at h;exact .inr (.inl ⟨z,e,r,h.symm⟩)
   | succ i=>exact plainO_at (l:=l) hp (i:=i) (by simpa using h)
  | mp k es=>cases i with
   | zero=>simp at h;exact .inr (.inr ⟨k,es,h.symm⟩)
   | succ i=>exact plainO_at (l:=l) hp (i:=i) (by simpa using h)
  | _=>cases hp
def selfK (k:Nat):Option O → V
 | some (.row _ _ _)=>.own k
 | _=>.jk
def selfV (os:List O):List V:=(List.range os.length).map fun k=>selfK k os[k]?
theorem specs_of_sound {f:Nat} {vs:List V} {os:List O} {Q:List V → Prop} (hos:plainO os = true) (h:SoundO f vs os fun x o' ks=>ks = [] ∧ o' = os ∧ ∃ res,x = pkgV res ∧ Q res):SpecS f vs os (fun res o2=>Q res ∧ o2 = os):=by
 refine ⟨h.1,fun I w g args hrel=>?_⟩
 have hargs:AtVs I w g args vs:=hrel.tmp
 have hself:AtVs I w g ((List.range os.length).map fun k=>gv (g k)) (selfV os):=by
  refine ⟨by unfold selfV;simp,fun i u c hu hc=>?_⟩
  unfold selfV at hc
  rw [List.getElem?_map] at hu hc
  cases hr:(List.range os.length)[i]? with
  | none=>rw [hr] at hu;cases hu
  | some k =>
   rw [hr] at hu hc
   simp only [Option.map_some,Option.some.injEq] at hu hc
   subst hu
   subst hc
   have hk:k < os.length:=by
    have:=List.mem_of_getElem? hr
    simpa using this
   cases ho:os[k]? with
   | none=>exact AtV.jk _
   | some o =>
    cases o with
    | row z e rows =>
     obtain ⟨us,hw,_⟩:=hrel.obj k _ ho
     have e:=own_gv hw
     obtain ⟨A,cap,hs⟩:=own_slice hw
     show AtV I w g (gv (g k)) (.own k)
     rw [e,hs]
     exact .own _ _ _ _ (by rw [e,hs])
    | box cs=>exact AtV.jk _
    | mp kt es=>exact AtV.jk _
    | kl js=>exact AtV.jk _
    | it P=>exact AtV.jk _
    | ob T vs=>exact AtV.jk _
    | dead=>exact AtV.jk _
 have hrel':RelI I (Xof g os) ⟨w,g,os.length,[]⟩ I g ⟨vs ++ selfV os,os⟩ { tmps:=(args ++ (List.range os.length).map fun k=>gv (g k)).toArray,defers:=[] } w :=
  ⟨hrel.im,hrel.lt,hrel.fr,hrel.kp,hrel.lo,hrel.st,hrel.obj,hrel.dis,hrel.out,hargs.append hself,rfl,hrel.dfr.2⟩
 refine (h.2 I (Xof g os) ⟨w,g,os.length,[]⟩ I g _ _ w args hrel' hargs).mono ?_
 rintro e w' ⟨v,x,o',ks,I',g',rfl,h',hv,rfl,rfl,res,rfl,hQ⟩
 obtain ⟨us,rfl,hus⟩:=unpkg hv
 refine ⟨us,res,_,I',g',rfl,⟨⟨hQ,rfl⟩,fun i hi=>?_⟩,⟨h'.im,h'.lt,h'.fr,h'.kp,h'.lo,h'.st,h'.obj,h'.dis,h'.out,hus,rfl,h'.dfr.2⟩⟩
 have ho:o'[i]? = some o'[i]:=List.getElem?_eq_getElem hi
 rcases plainO_at hos ho with ⟨cs,e⟩ | ⟨z,et,r,e⟩ | ⟨k,es,e⟩
 ·rw [e] at ho
  obtain ⟨b,us,t,h1,_⟩:=hrel.obj i _ ho
  exact h'.st i hi (by show isRef (g i) = true;rw [h1];rfl)
 ·rw [e] at ho
  obtain ⟨us1,hw1,_⟩:=hrel.obj i _ ho
  obtain ⟨us2,hw2,_⟩:=h'.obj i _ ho
  have e2:AtVs I' w' g' (args ++ (List.range o'.length).map fun k=>gv (g k)) (vs ++ selfV o'):=h'.tmp
  have e3:=e2.2 (args.length + i) (gv (g i)) (.own i) (by rw [List.getElem?_append_right (by omega)];simp [hi]) (by
   rw [hargs.1,List.getElem?_append_right (by omega)]
   unfold selfV
   simp [hi,e,selfK])
  rw [← own_gv hw1,← own_gv hw2]
  exact e3.unown.1.symm
 ·rw [e] at ho
  obtain ⟨b,us,t,h1,_⟩:=hrel.obj i _ ho
  exact h'.st i hi (by show isRef (g i) = true;rw [h1];rfl)
def coerV (os:List O) (x:V):V:=match toR os x with | some r=>resR r | none=>x
def coerL (os:List O):List V → List V
 | []=>[]
 | x :: l=>coerV os x :: coerL os l
theorem coer_at {I0:Nat → Nat → Prop} {X:Nat → Prop} {w0:W0} {I:Nat → Nat → Prop} {g:Nat → Value} {s:S} {a:Act} {w:World} (h:RelI I0 X w0 I g s a w):∀ {us:List Value} {vs:List V},AtVs I w g us vs → AtVs I w g us (coerL s.o vs)
 | us,[],hv=>hv
 | us,x :: vs,hv=>by
  obtain ⟨u,us',rfl,h1,h2⟩:=hv.uncons
  refine .cons ?_ (coer_at h h2)
  unfold coerV
  split
  ·rename_i r hr
   exact resR_at g (toR_at h h1 hr)
  ·exact h1
def doneR (n:Nat) (K:List V → List O → Prop) (res:List V) (s:S):Prop:=match getO (trimK 0 s.o) n with
 | .kl []=>match low3 n (pkgV (coerL s.o res)) with | true=>K (coerL s.o res) (takeO n (trimK 0 s.o)) | false=>False
 | _=>False
def retR (a:Ar) (n:Nat) (K:List V → List O → Prop) (l:List ResultVar):Vm.X → S → Prop
 | .exit _,_=>False
 | .normal,s=>resO a s l (fun vs=>doneR n K vs s)
 | .ret,s=>resO a s l (fun vs=>doneR n K vs s)
theorem rin_ok {f:Nat} {fn:Func} {c:Code} {vs:List V} {o:List O} {Q:List V → Prop} (ho:plainO o = true) (hf:Tryz.prog.funcs[f]? = some fn) (hb:fn.body = some c) (hn:(fn.name != "runtime.NumGoroutine") = true) (hc:okCode Tryz.prog c = true) (hr:okRes fn.results.toList = true)
  (h:exec real c (startI vs o (fn.ntmps - lenL vs)) (fun x s=>retR real (lenO o) (fun res o'=>o' = o ∧ Q res) fn.results.toList x s)):SoundO f vs o fun x o' ks=>ks = [] ∧ o' = o ∧ ∃ res,x = pkgV res ∧ Q res:=by
 refine ⟨by unfold fnOk;rw [hf];simp only [hn,hb];rfl,?_⟩
 intro I0 X w0 I g t a w us hrel hv
 refine calls_of_wp hf hb ?_
 have hsz:us.toArray.size = lenL vs:=by rw [lenL_is];simp [hv.1]
 rw [hsz]
 obtain ⟨g',hg,hgn,h1⟩:=hrel.rebase hv
 have hstart:RelI I (Xof g' (snocO o (.kl []))) ⟨w,g',o.length + 1,[]⟩ I g' (startI vs o (fn.ntmps - lenL vs)) { tmps:=us.toArray ++ Array.replicate (fn.ntmps - lenL vs) undef,defers:=[] } w:=by
  refine ⟨h1.im,h1.lt,h1.fr,h1.kp,h1.lo,h1.st,h1.obj,h1.dis,h1.out,?_,rfl,h1.dfr.2⟩
  show AtVs I w _ (us.toArray ++ Array.replicate (fn.ntmps - lenL vs) undef).toList (appV vs (uns (fn.ntmps - lenL vs)))
  rw [appV_is,Array.toList_append,uns_is]
  refine AtVs.append h1.tmp ?_
  rw [Array.toList_replicate]
  refine ⟨by simp,fun i u c hu hc=>?_⟩
  rw [List.getElem?_replicate] at hu hc
  split at hu
  ·rename_i hi
   rw [if_pos hi] at hc
   injection hu with hu
   injection hc with hc
   subst hu;subst hc
   exact .tu [] [] rfl fun i u c hu _=>by simp at hu
  ·cases hu
 refine exec_ok c _ _ _ _ _ hc ⟨I,_,hstart⟩ h fun e s' a' w' hrel2 hk=>?_
 have key:resO real s' fn.results.toList (fun res=>doneR (lenO o) (fun res o'=>o' = o ∧ Q res) res s') → a'.defers = [] ∧ ∃ v,(results fn a'.tmps).run Tryz.prog w' = .ok v w' ∧ ∃ v' x o' ks I' g',Ending.returned v = .returned v' ∧ RelI I0 X w0 I' g' ⟨killTs ks t,o'⟩ a w' ∧ AtV I' w' g' v' x ∧ ks = [] ∧ o' = o ∧ ∃ res,x = pkgV res ∧ Q res:=fun hk=>by
  obtain ⟨I2,g2,h2⟩:=hrel2
  obtain ⟨us2,res,r1,r2,r3⟩:=resultsO_at h2 hr hk
  unfold doneR at r3
  split at r3 <;> try exact r3.elim
  rename_i hks
  split at r3 <;> try exact r3.elim
  rename_i hlow
  obtain ⟨r4,hQ⟩:=r3
  have hks':=getO_some hks (by simp)
  rw [lenO_is] at hks' r4 hlow
  rw [takeO_is] at r4
  have h2':=h2.trimKl
  obtain ⟨hcut,h3⟩:=hrel.unbase hg hgn h2' hks'
  have e:((trimK 0 s'.o).set o.length .dead).take o.length = o:=by
   rw [List.take_set_of_le (Nat.le_refl _),r4]
  have h4:=h3.trim (n:=o.length) hrel.lo (by show o.length ≤ ((trimK 0 s'.o).set _ _).length;rw [List.length_set,trimK_len];have:=h2.lo;show o.length ≤ s'.o.length;have h5:o.length + 1 ≤ s'.o.length:=h2.lo;omega) hcut (by show lowO _ (((trimK 0 s'.o).set _ _).take _) = true;rw [e];have:=hrel.low;exact this)
  have h5:(⟨killTs [] t,((trimK 0 s'.o).set o.length .dead).take o.length⟩:S) = ⟨t,o⟩:=by rw [e];rfl
  refine ⟨h2.dfr.1,_,r1,pkg us2,pkgV (coerL s'.o res),o,[],I2,cutG o.length g2,rfl,?_,low3_at (fun k hk=>if_pos hk) (pkg_at' (coer_at h2 r2)) hlow,rfl,rfl,_,rfl,hQ⟩
  show RelI I0 X w0 I2 _ ⟨t,o⟩ a w'
  rw [← h5]
  exact h4
 cases e with
 | normal=>exact key hk
 | exit i=>exact hk.elim
 | ret=>exact key hk
theorem specr_of {f:Nat} {fn:Func} {c:Code} {vs:List V} {os:List O} {Q:List V → Prop} (hf:Tryz.prog.funcs[f]? = some fn) (hb:fn.body = some c) (hn:(fn.name != "runtime.NumGoroutine") = true) (hc:okCode Tryz.prog c = true) (hr:okRes fn.results.toList = true) (hos:plainO os = true)
  (h:∀ qa qb qc qd qe qf qg qh qi qj qk ql qm qn qo qp qq qs qt qu qv qw qx qy qz va vc vd ve vf vg vh vj vk vl vm vn vo vp vq vr vt vu,Ar.mk qa qb qc qd qe qf qg qh qi qj qk ql qm qn qo qp qq qs qt qu qv qw qx qy qz va vc vd ve vf vg vh vj vk vl vm vn vo vp vq vr vt vu = real → ∀ K:List V → List O → Prop,(∀ res,Q res → K res os) → exec (Ar.mk qa qb qc qd qe qf qg qh qi qj qk ql qm qn qo qp qq qs qt qu qv qw qx qy qz va vc vd ve vf vg vh vj vk vl vm vn vo vp vq vr vt vu) c (startI vs os (fn.ntmps - lenL vs)) (fun x s=>retR (Ar.mk qa qb qc qd qe qf qg qh qi qj qk ql qm qn qo qp qq qs qt qu qv qw qx qy qz va vc vd ve vf vg vh vj vk vl vm vn vo vp vq vr vt vu) (lenO os) K fn.results.toList x s)):SpecS f vs os (fun res o2=>Q res ∧ o2 = os) :=
 specs_of_sound hos (rin_ok hos hf hb hn hc hr (h _ _ _ _ _ _ _ _ _ _ _ _ _ _ _ _ _ _ _ _ _ _ _ _ _ _ _ _ _ _ _ _ _ _ _ _ _ _ _ _ _ _ _ (show Ar.mk real.wrap real.add real.sub real.mul real.quo real.rem real.bits real.lt real.le real.eq real.nz real.seq real.slt real.bytes real.cat real.fits real.slen real.sget real.ssub real.txt real.byt real.nat real.len real.get real.sub2 real.app real.set real.room real.mlook real.mput real.deq real.rep real.call real.calld real.callo real.callx real.new real.lit real.keep real.next real.ext real.reg real.loop = real from rfl) _ fun res hq=>⟨rfl,hq⟩))
section
variable {qa:IntKind → Int → Int} {qb:Int → Int → Int} {qc:Int → Int → Int} {qd:Int → Int → Int} {qe:Int → Int → Int} {qf:Int → Int → Int} {qg:BinOp → IntKind → Int → IntKind → Int → Option Int} {qh:Int → Int → Bool} {qi:Int → Int → Bool} {qj:Int → Int → Bool} {qk:Int → Prop → Prop} {ql:List UInt8 → List UInt8 → Bool} {qm:List UInt8 → List UInt8 → Bool} {qn:ByteArray → List UInt8} {qo:ByteArray → ByteArray → ByteArray} {qp:ByteArray → ByteArray → Prop → Prop} {qq:ByteArray → Int} {qs:ByteArray → Int → Option Int} {qt:ByteArray → Int → Int → Option ByteArray} {qu:List (List D) → Option ByteArray} {qv:ByteArray → List (List D)} {qw:Int → Nat → Option Nat} {qx:List (List D) → Int} {qy:List (List D) → Int → Option (List D)} {qz:List (List D) → Int → Int → Option (List (List D))} {va:List (List D) → List (List D) → List (List D)} {vc:List (List D) → Int → List D → List (List D)} {vd:List (List D) → List (List D) → Prop → Prop} {ve:List (R × R) → R → Option R} {vf:List (R × R) → R → R → List (R × R)} {vg:List D → List D → Bool} {vh:Int → List D → (List (List D) → Prop) → Prop} {vj:Nat → List R → (List R → Prop) → Prop} {vk:Nat → List V → List O → (V → Prop) → Prop} {vl:Nat → List V → S → (V → S → Prop) → Prop} {vm:Nat → List V → List Nat → S → (V → S → Prop) → Prop} {vn:Nat → (Bool → Prop) → Prop} {vo:Nat → (Bool → Prop) → Prop} {vp:Nat → (List V → List O → Prop) → List V → S → Prop} {vq:(S → Prop) → S → Prop} {vr:Op → Option Nat → S → (S → Prop) → Prop} {vt:Array Oper → S → (S → Prop) → Prop} {vu:Code → (S → (X → S → Prop) → Prop) → S → (X → S → Prop) → Prop}
theorem rd_at (hA:Ar.mk qa qb qc qd qe qf qg qh qi qj qk ql qm qn qo qp qq qs qt qu qv qw qx qy qz va vc vd ve vf vg vh vj vk vl vm vn vo vp vq vr vt vu = real) {f:Nat} {vs:List V} {s:S} {K:V → S → Prop} (ks:List Nat) {vs':List V} {os':List O} {Q:List V → Prop} (h:SpecS f vs' os' (fun res o2=>Q res ∧ o2 = os')) (hs:SubOk ks vs' os' vs s) (hb:backO ks (upOs ks (lenO s.o) os') s.o = s.o) (hK:∀ res,Q res → K (pkgV (upT ks (lenO s.o) res)) s):vl f vs s K :=
 calls_at hA ks h hs fun res os2 ⟨hq,e⟩=>by subst e;rw [hb];exact hK res hq
end
end
end Go.Proofs.YtahpnackkmbmgaaGreat.Vm
end
section
namespace Go.Proofs.YtahpnackkmbmgaaGreat.Vm
open Go.RowKit
set_option maxRecDepth 100000
set_option maxHeartbeats 4000000
def rdB (T:List (List D)) (a:Int):List O:=[.box [.d (.sl 4 T),.d (.sc (.int .i64 a))]]
def eyB (e p:Int) (T:List (List D)) (a:Int):List O:=[.box [.ptr 1 0,.d (.sc (.int .u8 e)),.d (.sc (.int .i64 p))],.box [.d (.sl 4 T),.d (.sc (.int .i64 a))]]
def isG (t:Tok) (s:ByteArray):Bool:=(t.kind == 3) && (t.text.toList == s.toList)
theorem Clone_s (T:List (List D)) (hne:T ≠ []) (hl:T.length ≤ 1048576):Spec 42 [.one (.sl 4 T)] [.one (.sl 4 T)]:=by
 refine spec_of Tryz.func42 rfl (by kernel_rfl) (by kernel_rfl) (by kernel_rfl) fun qa qb qc qd qe qf qg qh qi qj qk ql qm qn qo qp qq qs qt qu qv qw qx qy qz va vc vd ve vf vg vh vj vk vl vm vn vo vp vq vr vt vu hA=>?_
 obtain ⟨r1,r2,r3,r4⟩:=row_at hA
 have q:qx T ≠ 0:=by
  rw [r1]
  cases T with
  | nil=>exact absurd rfl hne
  | cons x T=>simp;omega
 have q4:va [] T = T:=by rw [r4];rfl
 iterate 2 (try cbv;repeat ((first | with_reducible apply next_at hA | rw [q4] | refine nz_at hA q ?_ | refine new_at hA true ?_ | (refine room_at hA (by simp only [List.length_nil];omega) ?_));cbv))
 try simp (maxSteps:=4000000) only [nc] at *
theorem NewReader_s (T:List (List D)) (hne:T ≠ []) (hl:T.length ≤ 1048576):SpecO 18 [.d (.sl 4 T)] [] (fun res os=>res = [.ptr 0 0] ∧ os = rdB T 0):=by
 have h1:=Clone_s T hne hl
 unfold rdB
 refine speco_of Tryz.func18 rfl (by kernel_rfl) (by kernel_rfl) (by kernel_rfl) fun qa qb qc qd qe qf qg qh qi qj qk ql qm qn qo qp qq qs qt qu qv qw qx qy qz va vc vd ve vf vg vh vj vk vl vm vn vo vp vq vr vt vu hA=>?_
 iterate 2 (try cbv;repeat ((first | with_reducible apply next_at hA | refine call_at hA _ h1 rfl ?_ | refine calm_at hA _ h1 ?_);cbv))
 try simp (maxSteps:=4000000) only [nc] at *
 exact keep_is hA [0] (res':=[.ptr 0 0]) ⟨rfl,rfl,rfl,rfl,rfl,rfl,rfl,rfl⟩ ⟨rfl,rfl⟩
theorem Peek_s (ts:List Tok) (t:Tok) (a:Nat) (ht:ts[a]? = some t) (hl:ts.length ≤ 1048576):SpecS 21 [.ptr 0 0] (rdB (rTk ts) (a:Int)) (fun res os=>res = [.ag (ofD (tkD t))] ∧ os = rdB (rTk ts) (a:Int)):=by
 have hg:=rTk_get ht
 have hlt:=(List.getElem?_eq_some_iff.1 ht).1
 have hln:=rTk_len ts
 unfold tkD at hg ⊢
 unfold rdB
 generalize rTk ts = T at *
 generalize t.kind = tk at *
 generalize t.text = tx at *
 generalize t.n = tn at *
 generalize t.at_ = ta at *
 obtain ⟨z,hz⟩:∃ z,z = (a:Int):=⟨_,rfl⟩
 rw [← hz]
 refine specr_of Tryz.func21 rfl (by kernel_rfl) (by kernel_rfl) (by kernel_rfl) rfl fun qa qb qc qd qe qf qg qh qi qj qk ql qm qn qo qp qq qs qt qu qv qw qx qy qz va vc vd ve vf vg vh vj vk vl vm vn vo vp vq vr vt vu hA K hK=>?_
 obtain ⟨e1,e2,e3,e4,e5,e6,e7,e8,e9⟩:=ar_at hA
 obtain ⟨r1,r2,r3,r4⟩:=row_at hA
 have q1:qj (qx T) 0 = false:=by rw [e9,r1,hln];simp;intro h;rw [h] at hlt;simp at hlt
 have q2:qh z (qx T) = true:=by rw [e7,r1,hln,hz];exact decide_eq_true (by omega)
 have g:qy T z = some [.sc (.int .u8 tk),.sc (.string tx),.sc (.int .i64 tn),.sc (.int .i64 ta)]:=by rw [r2,hz,if_pos (by omega),show ((a:Int)).toNat = a by omega];exact hg
 iterate 2 (try cbv;repeat ((first | with_reducible apply next_at hA | rw [q1] | rw [q2] | rw [g]);cbv))
 try simp (maxSteps:=4000000) only [nc] at *
 exact hK _ rfl
theorem Is_s (ts:List Tok) (t:Tok) (a:Nat) (ht:ts[a]? = some t) (hl:ts.length ≤ 1048576) (s:ByteArray):SpecS 33 [.ptr 0 0,vs s] (rdB (rTk ts) (a:Int)) (fun res os=>res = [vb (isG t s)] ∧ os = rdB (rTk ts) (a:Int)):=by
 have hp:=Peek_s ts t a ht hl
 unfold isG
 unfold tkD rdB at hp
 unfold rdB
 generalize rTk ts = T at *
 generalize t.kind = tk at *
 generalize t.text = tx at *
 generalize t.n = tn at *
 generalize t.at_ = ta at *
 obtain ⟨z,hz⟩:∃ z,z = (a:Int):=⟨_,rfl⟩
 rw [← hz] at hp ⊢
 obtain ⟨b,hb⟩:∃ b,b = (tx.toList == s.toList):=⟨_,rfl⟩
 obtain ⟨c,hc⟩:∃ c,c = (tk == 3):=⟨_,rfl⟩
 rw [← hb,← hc]
 refine specr_of Tryz.func33 rfl (by kernel_rfl) (by kernel_rfl) (by kernel_rfl) rfl fun qa qb qc qd qe qf qg qh qi qj qk ql qm qn qo qp qq qs qt qu qv qw qx qy qz va vc vd ve vf vg vh vj vk vl vm vn vo vp vq vr vt vu hA K hK=>?_
 obtain ⟨e1,e2,e3,e4,e5,e6,e7,e8,e9⟩:=ar_at hA
 obtain ⟨s1,s2,s3,s4,s5,s6,s7⟩:=str_at hA
 have q1:qj tk 3 = c:=by rw [e9,hc]
 have q2:ql (qn tx) (qn s) = b:=by rw [s1,s3,s3,hb]
 cases c
 ·iterate 2 (try cbv;repeat ((first | with_reducible apply next_at hA | rw [q1] | (refine rd_at hA [0] hp ⟨rfl,rfl,rfl,rfl,rfl,rfl,rfl⟩ rfl ?_;rintro _ rfl));cbv))
  try simp (maxSteps:=4000000) only [nc] at *
  exact hK _ rfl
 ·iterate 2 (try cbv;repeat ((first | with_reducible apply next_at hA | rw [q1] | rw [q2] | (refine rd_at hA [0] hp ⟨rfl,rfl,rfl,rfl,rfl,rfl,rfl⟩ rfl ?_;rintro _ rfl));cbv))
  try simp (maxSteps:=4000000) only [nc] at *
  exact hK _ rfl
theorem Take_s (ts:List Tok) (t:Tok) (a:Nat) (ht:ts[a]? = some t) (hl:ts.length ≤ 1048576):SpecO 34 [.ptr 0 0] (rdB (rTk ts) (a:Int)) (fun res os=>res = [.ag (ofD (tkD t))] ∧ os = rdB (rTk ts) ((a + 1:Nat):Int)):=by
 have hp:=Peek_s ts t a ht hl
 have hlt:=(List.getElem?_eq_some_iff.1 ht).1
 have hln:=rTk_len ts
 unfold tkD rdB at hp
 unfold tkD rdB
 generalize rTk ts = T at *
 generalize t.kind = tk at *
 generalize t.text = tx at *
 generalize t.n = tn at *
 generalize t.at_ = ta at *
 obtain ⟨z,hz⟩:∃ z,z = (a:Int):=⟨_,rfl⟩
 obtain ⟨y,hy⟩:∃ y,y = ((a + 1:Nat):Int):=⟨_,rfl⟩
 rw [← hz] at hp ⊢
 rw [← hy]
 refine speco_of Tryz.func34 rfl (by kernel_rfl) (by kernel_rfl) (by kernel_rfl) fun qa qb qc qd qe qf qg qh qi qj qk ql qm qn qo qp qq qs qt qu qv qw qx qy qz va vc vd ve vf vg vh vj vk vl vm vn vo vp vq vr vt vu hA=>?_
 obtain ⟨e1,e2,e3,e4,e5,e6,e7,e8,e9⟩:=ar_at hA
 obtain ⟨r1,r2,r3,r4⟩:=row_at hA
 have q2:qh z (qx T) = true:=by rw [e7,r1,hln,hz];exact decide_eq_true (by omega)
 have q3:qa .i64 (qb z 1) = y:=by rw [e1,e2,hz,hy,IntWalk.i64_in _ (by omega)];omega
 iterate 2 (try cbv;repeat ((first | with_reducible apply next_at hA | rw [q2] | rw [q3] | (refine rd_at hA [0] hp ⟨rfl,rfl,rfl,rfl,rfl,rfl,rfl⟩ rfl ?_;rintro _ rfl));cbv))
 try simp (maxSteps:=4000000) only [nc] at *
 exact keep_is hA [0] ⟨rfl,rfl,rfl,rfl,rfl,rfl,rfl,rfl⟩ ⟨rfl,rfl⟩
theorem Skip_s (ts:List Tok) (t:Tok) (a:Nat) (ht:ts[a]? = some t) (hl:ts.length ≤ 1048576) (s:ByteArray):SpecO 59 [.ptr 0 0,vs s] (rdB (rTk ts) (a:Int)) (fun res os=>res = [vb (isG t s)] ∧ os = rdB (rTk ts) ((if isG t s = true then a + 1 else a:Nat):Int)):=by
 have hp:=Is_s ts t a ht hl s
 have hq:=Take_s ts t a ht hl
 unfold tkD rdB at hq
 unfold rdB at hp
 unfold rdB
 generalize rTk ts = T at *
 generalize t.kind = tk at *
 generalize t.text = tx at *
 generalize t.n = tn at *
 generalize t.at_ = ta at *
 generalize isG t s = b at *
 cases b
 ·rw [if_neg (by decide)]
  generalize ((a:Nat):Int) = z at *
  refine speco_of Tryz.func59 rfl (by kernel_rfl) (by kernel_rfl) (by kernel_rfl) fun qa qb qc qd qe qf qg qh qi qj qk ql qm qn qo qp qq qs qt qu qv qw qx qy qz va vc vd ve vf vg vh vj vk vl vm vn vo vp vq vr vt vu hA=>?_
  iterate 2 (try cbv;repeat ((first | with_reducible apply next_at hA | (refine rd_at hA [0] hp ⟨rfl,rfl,rfl,rfl,rfl,rfl,rfl⟩ rfl ?_;rintro _ rfl));cbv))
  try simp (maxSteps:=4000000) only [nc] at *
  exact keep_is hA [0] ⟨rfl,rfl,rfl,rfl,rfl,rfl,rfl,rfl⟩ ⟨rfl,rfl⟩
 ·rw [if_pos rfl]
  generalize ((a:Nat):Int) = z at *
  generalize ((a + 1:Nat):Int) = y at *
  refine speco_of Tryz.func59 rfl (by kernel_rfl) (by kernel_rfl) (by kernel_rfl) fun qa qb qc qd qe qf qg qh qi qj qk ql qm qn qo qp qq qs qt qu qv qw qx qy qz va vc vd ve vf vg vh vj vk vl vm vn vo vp vq vr vt vu hA=>?_
  iterate 2 (try cbv;repeat ((first | with_reducible apply next_at hA | (refine rd_at hA [0] hp ⟨rfl,rfl,rfl,rfl,rfl,rfl,rfl⟩ rfl ?_;rintro _ rfl) | (refine callo_at hA [0] hq ⟨rfl,rfl,rfl,rfl,rfl,rfl,rfl⟩ ?_;rintro _ _ ⟨rfl,rfl⟩));cbv))
  try simp (maxSteps:=4000000) only [nc] at *
  exact keep_is hA [0] ⟨rfl,rfl,rfl,rfl,rfl,rfl,rfl,rfl⟩ ⟨rfl,rfl⟩
end Go.Proofs.YtahpnackkmbmgaaGreat.Vm
end
section
namespace Go.Proofs.YtahpnackkmbmgaaGreat.Vm
open Go.RowKit
abbrev noS:ByteArray:=⟨#[]⟩
def tk0:Tok:=⟨4,noS,0,0⟩
def tkA (ts:List Tok) (a:Nat):Tok:=(ts[a]?).getD tk0
def EndsT (ts:List Tok):Prop:=∀ a,a < ts.length → (tkA ts a).kind ≠ 4 → a + 1 < ts.length
theorem tkA_is {ts:List Tok} {a:Nat} (h:a < ts.length):ts[a]? = some (tkA ts a):=by
 unfold tkA
 rw [List.getElem?_eq_getElem h]
 rfl
theorem isG_kind {t:Tok} {s:ByteArray} (h:isG t s = true):t.kind = 3:=by
 unfold isG at h
 rw [Bool.and_eq_true,beq_iff_eq] at h
 exact h.1
theorem okL_all:∀ (l:List UInt8) (f:Bool),(∀ (i:Nat) (c:UInt8),l[i]? = some c → okB (f && (i == 0)) (c.toNat:Int) = true) → okL f l = true
 | [],f,h=>rfl
 | c :: l,f,h=>by
  rw [okL,okL_all l false fun i x hx=>by
   have:=h (i + 1) x (by simpa using hx)
   simpa using this]
  have:=h 0 c rfl
  simp at this
  rw [this]
  rfl
theorem gb_of (s:ByteArray) (i:Nat) (c:UInt8) (h:(btl s)[i]? = some c):gb (numsOf s) i = (c.toNat:Int):=by
 unfold btl at h
 unfold gb numsOf
 rw [List.getD_eq_getElem?_getD,List.getElem?_map,h]
 rfl
theorem word_of (s:ByteArray) (h1:ownB s = false) (h2:wordlyB (numsOf s) = true) (h3:(numsOf s).length ≤ 32):wordB s = true:=by
 rw [nums_len] at h3
 unfold wordlyB at h2
 rw [Bool.and_eq_true,decide_eq_true_iff,List.all_eq_true,nums_len] at h2
 obtain ⟨h4,h5⟩:=h2
 unfold wordB wordlyS
 rw [h1,decide_eq_true h3,decide_eq_true h4,okL_all _ _ fun i c hc=>by
  have hi:i < s.size:=by
   have:=(List.getElem?_eq_some_iff.1 hc).1
   unfold btl at this
   rwa [Array.length_toList] at this
  have h6:=h5 i (List.mem_range.2 hi)
  unfold okAt at h6
  rw [gb_of s i c hc] at h6
  unfold okB
  by_cases hz:i = 0
  ·subst hz
   simpa using h6
  ·rw [decide_eq_true (by omega:0 < i)] at h6
   rw [show (i == 0) = false from beq_false_of_ne hz]
   simpa using h6]
 rfl
def TkOk (t:Tok):Prop:=t.kind ≠ 4 ∧ (t.kind = 1 → wordB t.text = true)
theorem runTk_ok (s:ByteArray) (a:Int) (h:(runS s a).2 = 0):TkOk (runS s a).1:=by
 unfold runS at h ⊢
 by_cases h1:digitB (gb (numsOf s) 0) = true
 ·rw [if_pos h1] at h ⊢
  exact ⟨show (2:Int) ≠ 4 by decide,fun h=>absurd (show (2:Int) = 1 from h) (by decide)⟩
 rw [if_neg h1] at h ⊢
 by_cases h2:ownB s = true
 ·rw [if_pos h2] at h ⊢
  exact ⟨show (3:Int) ≠ 4 by decide,fun h=>absurd (show (3:Int) = 1 from h) (by decide)⟩
 rw [if_neg h2] at h ⊢
 by_cases h3:wordlyB (numsOf s) = false
 ·rw [if_pos h3] at h
  exact absurd (show (4:Int) = 0 from h) (by decide)
 rw [if_neg h3] at h ⊢
 by_cases h4:32 < (numsOf s).length
 ·rw [if_pos h4] at h
  exact absurd (show (7:Int) = 0 from h) (by decide)
 rw [if_neg h4]
 exact ⟨show (1:Int) ≠ 4 by decide,fun _=>word_of s (Bool.eq_false_iff.2 h2) (by simpa using h3) (by omega)⟩
def TksOk (l:List Int) (r:List Tok × Int × Int) (n:Nat):Prop:=r.2.2 = 0 → ∃ pre,r.1 = pre ++ [⟨4,⟨#[]⟩,0,(l.length:Int)⟩] ∧ (∀ t ∈ pre,TkOk t) ∧ pre.length ≤ n
theorem scan_ok (l:List Int):∀ (m a:Nat) (rem:Bool) (out:List Tok) (n:Nat),l.length - a ≤ m → (∀ t ∈ out,TkOk t) → out.length + (l.length - a) ≤ n → TksOk l (scanS l a rem out) n
 | m,a,rem,out,n,hm,ho,hn=>by
  rw [scan_eq]
  unfold body
  by_cases ha:a < l.length
  ·rw [if_pos ha]
   have go:∀ (a':Nat) (rem:Bool) (out':List Tok),a < a' → (∀ t ∈ out',TkOk t) → out'.length ≤ out.length + 1 → TksOk l (scanS l a' rem out') n:=fun a' rem' out' h1 h2 h3=>by
    match m,hm with
    | 0,hm=>omega
    | m + 1,hm=>exact scan_ok l m a' rem' out' n (by omega) h2 (by omega)
   have bad:∀ (p c:Int),c ≠ 0 → TksOk l ([],p,c) n:=fun p c hc h=>absurd h hc
   have snoc:∀ t,TkOk t → ∀ x ∈ out ++ [t],TkOk x:=fun t ht x hx=>by
    rcases List.mem_append.1 hx with hx | hx
    ·exact ho x hx
    ·cases List.mem_singleton.1 hx;exact ht
   by_cases h0:nx l a = 0
   ·rw [if_pos h0];exact bad _ _ (by decide)
   rw [if_neg h0]
   by_cases h1:rem = true
   ·rw [if_pos h1];exact go _ _ _ (by omega) ho (by omega)
   rw [if_neg h1]
   by_cases h2:blankB (gb l a) = true
   ·rw [if_pos h2];exact go _ _ _ (by omega) ho (by omega)
   rw [if_neg h2]
   by_cases h3:gb l a = 35
   ·rw [if_pos h3];exact go _ _ _ (by omega) ho (by omega)
   rw [if_neg h3]
   by_cases h4:runsB (gb l a) = true
   ·rw [if_pos h4]
    by_cases h5:(runS (strOfNums (runAt l a)) a).2 = 0
    ·rw [if_pos h5]
     have:=run_pos ha h4
     exact go _ _ _ (by omega) (snoc _ (runTk_ok _ _ h5)) (by simp)
    ·rw [if_neg h5];exact bad _ _ h5
   rw [if_neg h4]
   by_cases h6:signS (l.drop a) = 0
   ·rw [if_pos h6];exact bad _ _ (by decide)
   rw [if_neg h6]
   exact go _ _ _ (by omega) (snoc _ ⟨show (3:Int) ≠ 4 by decide,fun h=>absurd (show (3:Int) = 1 from h) (by decide)⟩) (by simp)
  ·rw [if_neg ha]
   exact fun _=>⟨out,rfl,ho,by omega⟩
def NamesT (ts:List Tok):Prop:=∀ a,a < ts.length → (tkA ts a).kind = 1 → wordB (tkA ts a).text = true
theorem toks_ok (l:List Int) (h:(scanS l 0 false []).2.2 = 0):EndsT (scanS l 0 false []).1 ∧ NamesT (scanS l 0 false []).1 ∧ 0 < (scanS l 0 false []).1.length ∧ (scanS l 0 false []).1.length ≤ l.length + 1:=by
 obtain ⟨pre,h1,h2,h3⟩:=scan_ok l l.length 0 false [] l.length (by omega) (fun t ht=>by cases ht) (by simp) h
 rw [h1]
 have hin:∀ a,a < (pre ++ [(⟨4,⟨#[]⟩,0,(l.length:Int)⟩:Tok)]).length → (tkA (pre ++ [⟨4,⟨#[]⟩,0,(l.length:Int)⟩]) a) ∈ pre ∧ a < pre.length ∨ (tkA (pre ++ [⟨4,⟨#[]⟩,0,(l.length:Int)⟩]) a).kind = 4:=fun a ha=>by
  rw [List.length_append,List.length_singleton] at ha
  unfold tkA
  by_cases hp:a < pre.length
  ·left
   rw [List.getElem?_append_left hp,List.getElem?_eq_getElem hp]
   exact ⟨List.getElem_mem hp,hp⟩
  ·right
   have:a = pre.length:=by omega
   subst this
   rw [List.getElem?_append_right (Nat.le_refl _),Nat.sub_self]
   rfl
 refine ⟨fun a ha hk=>?_,fun a ha hk=>?_,by simp,by simp;omega⟩
 ·rcases hin a ha with ⟨_,hp⟩ | h4
  ·simp;omega
  ·exact absurd h4 hk
 ·rcases hin a ha with ⟨hm,_⟩ | h4
  ·exact (h2 _ hm).2 hk
  ·rw [h4] at hk;exact absurd hk (by decide)
def IncL:Int → List Tok → Prop
 | _,[]=>True
 | b,t :: ts=>b ≤ t.at_ ∧ IncL (t.at_ + 1) ts
theorem IncL.mono:∀ {ts:List Tok} {b c:Int},c ≤ b → IncL b ts → IncL c ts
 | [],_,_,_,_=>trivial
 | t :: ts,b,c,h,⟨h1,h2⟩=>⟨by omega,h2⟩
theorem runS_at (s:ByteArray) (a:Int):(runS s a).1.at_ = a:=by
 unfold runS
 repeat' split
 all_goals rfl
def IncR (l:List Int) (a:Nat) (out:List Tok) (r:List Tok × Int × Int):Prop:=r.2.2 = 0 → ∃ new,r.1 = out ++ new ∧ IncL (a:Int) new ∧ ∀ t ∈ new,t.at_ ≤ l.length
theorem scan_inc (l:List Int):∀ (m a:Nat) (rem:Bool) (out:List Tok),l.length - a ≤ m → a ≤ l.length → IncR l a out (scanS l a rem out)
 | m,a,rem,out,hm,hal=>by
  rw [scan_eq]
  unfold body
  by_cases ha:a < l.length
  ·rw [if_pos ha]
   have go:∀ (a':Nat) (rem:Bool) (out':List Tok),a < a' → a' ≤ l.length → IncR l a' out' (scanS l a' rem out'):=fun a' rem' out' h1 h2=>by
    match m,hm with
    | 0,hm=>omega
    | m + 1,hm=>exact scan_inc l m a' rem' out' (by omega) h2
   have skip:∀ (a':Nat) (rem:Bool),a < a' → a' ≤ l.length → IncR l a out (scanS l a' rem out):=fun a' rem' h1 h2 h0=>by
    obtain ⟨new,e,h3,h4⟩:=go a' rem' out h1 h2 h0
    exact ⟨new,e,h3.mono (by omega),h4⟩
   have one:∀ (a':Nat) (t:Tok),a < a' → a' ≤ l.length → t.at_ = (a:Int) → IncR l a out (scanS l a' false (out ++ [t])):=fun a' t h1 h2 ht h0=>by
    obtain ⟨new,e,h3,h4⟩:=go a' false (out ++ [t]) h1 h2 h0
    refine ⟨t :: new,by rw [e];simp,⟨by omega,h3.mono (by omega)⟩,fun x hx=>?_⟩
    rcases List.mem_cons.1 hx with rfl | hx
    ·omega
    ·exact h4 x hx
   have bad:∀ (p c:Int),c ≠ 0 → IncR l a out ([],p,c):=fun p c hc h=>absurd h hc
   by_cases h0:nx l a = 0
   ·rw [if_pos h0];exact bad _ _ (by decide)
   have hn:=nx_bd h0
   rw [if_neg h0]
   by_cases h1:rem = true
   ·rw [if_pos h1];exact skip _ _ (by omega) (hn.2.2 ha)
   rw [if_neg h1]
   by_cases h2:blankB (gb l a) = true
   ·rw [if_pos h2];exact skip _ _ (by omega) (by omega)
   rw [if_neg h2]
   by_cases h3:gb l a = 35
   ·rw [if_pos h3];exact skip _ _ (by omega) (by omega)
   rw [if_neg h3]
   by_cases h4:runsB (gb l a) = true
   ·rw [if_pos h4]
    by_cases h5:(runS (strOfNums (runAt l a)) a).2 = 0
    ·rw [if_pos h5]
     have:=run_pos ha h4
     have hle:(runAt l a).length ≤ l.length - a:=by
      unfold runAt
      have:=takeWhile_le runsB (l.drop a)
      rwa [List.length_drop] at this
     exact one _ _ (by omega) (by omega) (runS_at _ _)
    ·rw [if_neg h5];exact bad _ _ h5
   rw [if_neg h4]
   by_cases h6:signS (l.drop a) = 0
   ·rw [if_pos h6];exact bad _ _ (by decide)
   rw [if_neg h6]
   have:=sign_lt ha
   exact one _ _ (by omega) (by omega) rfl
  ·rw [if_neg ha]
   exact fun _=>⟨[⟨4,⟨#[]⟩,0,l.length⟩],rfl,⟨show (a:Int) ≤ (l.length:Int) by omega,trivial⟩,fun t ht=>by cases List.mem_singleton.1 ht;exact Int.le_refl _⟩
where takeWhile_le (p:Int → Bool):∀ m:List Int,(m.takeWhile p).length ≤ m.length
 | []=>Nat.le_refl _
 | x :: m=>by
  rw [List.takeWhile_cons]
  split
  ·simp only [List.length_cons];have:=takeWhile_le p m;omega
  ·simp
theorem inc_get:∀ {ts:List Tok} {b:Int} {i:Nat},IncL b ts → i < ts.length → b ≤ (tkA ts i).at_
 | t :: ts,b,0,h,_=>h.1
 | t :: ts,b,i + 1,h,hi=>by
  have:=inc_get (i:=i) h.2 (by simpa using hi)
  have e:tkA (t :: ts) (i + 1) = tkA ts i:=rfl
  rw [e]
  have:=h.1
  omega
theorem inc_two:∀ {ts:List Tok} {b:Int} {i j:Nat},IncL b ts → i < j → j < ts.length → (tkA ts i).at_ + 1 ≤ (tkA ts j).at_
 | t :: ts,b,0,j + 1,h,_,hj=>inc_get (i:=j) h.2 (by simpa using hj)
 | t :: ts,b,i + 1,j + 1,h,hij,hj=>inc_two (i:=i) (j:=j) h.2 (by omega) (by simpa using hj)
structure AtsT (n:Nat) (ts:List Tok):Prop where
 lo:∀ i,i < ts.length → 0 ≤ (tkA ts i).at_ ∧ (tkA ts i).at_ ≤ n
 up:∀ i j,i < j → j < ts.length → (tkA ts i).at_ + 1 ≤ (tkA ts j).at_
theorem ats_ok (l:List Int) (h:(scanS l 0 false []).2.2 = 0):AtsT l.length (scanS l 0 false []).1:=by
 obtain ⟨new,e,h1,h2⟩:=scan_inc l l.length 0 false [] (by omega) (by omega) h
 rw [e,List.nil_append]
 refine ⟨fun i hi=>⟨inc_get h1 hi,?_⟩,fun i j=>inc_two h1⟩
 have hg:=tkA_is hi
 exact h2 _ (List.mem_of_getElem? hg)
abbrev gDef:ByteArray:=⟨#[100,101,102]⟩
abbrev gEq:ByteArray:=⟨#[61]⟩
abbrev DefL:=List (ByteArray × List UInt8)
def cutU (l:List UInt8) (a b:Int):List UInt8:=(l.drop a.toNat).take (b.toNat - a.toNat)
def defEnd (ts:List Tok):Nat → Nat → Nat
 | 0,j=>j
 | k + 1,j=>if (tkA ts j).kind = 4 ∨ isG (tkA ts j) gDef = true then j else defEnd ts k (j + 1)
def hasD (out:DefL) (s:ByteArray):Bool:=out.any fun d=>d.1.toList == s.toList
def modW (l:List UInt8) (ts:List Tok):Nat → Nat → DefL → DefL × Int × Int
 | 0,_,_=>([],0,0)
 | k + 1,i,out =>
  if (tkA ts i).kind = 4 then (out,0,0)
  else if isG (tkA ts i) gDef = false then ([],(tkA ts i).at_,5)
  else if (tkA ts (i + 1)).kind ≠ 1 then ([],(tkA ts (i + 1)).at_,5)
  else if hasD out (tkA ts (i + 1)).text = true then ([],(tkA ts (i + 1)).at_,14)
  else if isG (tkA ts (i + 2)) gEq = false then ([],(tkA ts (i + 2)).at_,5)
  else modW l ts k (defEnd ts ts.length (i + 3)) (out ++ [((tkA ts (i + 1)).text,cutU l ((tkA ts (i + 2)).at_ + 1) (tkA ts (defEnd ts ts.length (i + 3))).at_)])
theorem defEnd_ge (ts:List Tok):∀ (k j:Nat),j ≤ defEnd ts k j
 | 0,j=>Nat.le_refl _
 | k + 1,j=>by
  rw [defEnd]
  split
  ·exact Nat.le_refl _
  ·exact Nat.le_trans (Nat.le_succ _) (defEnd_ge ts k (j + 1))
theorem defEnd_lt {ts:List Tok} (hE:EndsT ts):∀ (k j:Nat),j < ts.length → defEnd ts k j < ts.length
 | 0,j,h=>h
 | k + 1,j,h=>by
  rw [defEnd]
  split
  ·exact h
  ·rename_i hn
   exact defEnd_lt hE k (j + 1) (hE j h fun e=>hn (.inl e))
theorem defEnd_fuel {ts:List Tok} (hE:EndsT ts):∀ (k m j:Nat),j < ts.length → ts.length - j ≤ k → ts.length - j ≤ m → defEnd ts k j = defEnd ts m j
 | 0,m,j,h,h1,h2=>by omega
 | k + 1,0,j,h,h1,h2=>by omega
 | k + 1,m + 1,j,h,h1,h2=>by
  rw [defEnd,defEnd]
  split
  ·rfl
  ·rename_i hn
   have h3:=hE j h fun e=>hn (.inl e)
   exact defEnd_fuel hE k m (j + 1) h3 (by omega) (by omega)
theorem defEnd_step {ts:List Tok} (hE:EndsT ts) {j:Nat} (h:j < ts.length) (h1:(tkA ts j).kind ≠ 4) (h2:isG (tkA ts j) gDef = false):defEnd ts ts.length j = defEnd ts ts.length (j + 1) ∧ j + 1 < ts.length:=by
 have h3:=hE j h h1
 refine ⟨?_,h3⟩
 have e:defEnd ts ts.length j = defEnd ts (ts.length + 1) j:=defEnd_fuel hE _ _ j h (by omega) (by omega)
 rw [e,defEnd,if_neg (fun h=>h.elim h1 (fun h=>by rw [h2] at h;cases h))]
theorem defEnd_stop {ts:List Tok} {j:Nat} (h:j < ts.length) (h1:(tkA ts j).kind = 4 ∨ isG (tkA ts j) gDef = true):defEnd ts ts.length j = j:=by
 obtain ⟨n,hn⟩:∃ n,ts.length = n + 1:=⟨ts.length - 1,by omega⟩
 rw [hn,defEnd,if_pos h1]
theorem modW_fuel (l:List UInt8) {ts:List Tok} (hE:EndsT ts):∀ (k m i:Nat) (out:DefL),i < ts.length → ts.length - i ≤ k → ts.length - i ≤ m → modW l ts k i out = modW l ts m i out
 | 0,m,i,out,h,h1,h2=>by omega
 | k + 1,0,i,out,h,h1,h2=>by omega
 | k + 1,m + 1,i,out,h,h1,h2=>by
  rw [modW,modW]
  by_cases c1:(tkA ts i).kind = 4
  ·rw [if_pos c1,if_pos c1]
  rw [if_neg c1,if_neg c1]
  by_cases c2:isG (tkA ts i) gDef = false
  ·rw [if_pos c2,if_pos c2]
  rw [if_neg c2,if_neg c2]
  by_cases c3:(tkA ts (i + 1)).kind ≠ 1
  ·rw [if_pos c3,if_pos c3]
  rw [if_neg c3,if_neg c3]
  split
  ·rfl
  by_cases c5:isG (tkA ts (i + 2)) gEq = false
  ·rw [if_pos c5,if_pos c5]
  rw [if_neg c5,if_neg c5]
  have a1:=hE i h c1
  have a2:=hE (i + 1) a1 (by omega)
  have a3:=hE (i + 2) a2 (by rw [isG_kind (by simpa using c5:isG (tkA ts (i + 2)) gEq = true)];decide)
  have g1:=defEnd_ge ts ts.length (i + 3)
  have g2:=defEnd_lt hE ts.length (i + 3) a3
  exact modW_fuel l hE k m _ _ g2 (by omega) (by omega)
def moduleW (l:List UInt8):DefL × Int × Int :=
 if (scanS (numsU l) 0 false []).2.2 ≠ 0 then ([],(scanS (numsU l) 0 false []).2.1,(scanS (numsU l) 0 false []).2.2)
 else modW l (scanS (numsU l) 0 false []).1 (scanS (numsU l) 0 false []).1.length 0 []
end Go.Proofs.YtahpnackkmbmgaaGreat.Vm
end
section
namespace Go.Proofs.YtahpnackkmbmgaaGreat.Vm
open Go.RowKit
set_option maxRecDepth 100000
set_option maxHeartbeats 4000000
theorem pok_0 (T:List (List D)) (p z:Int):SpecS 20 [.ptr 0 0] (eyB 0 p T z) (fun res os=>res = [vb true] ∧ os = eyB 0 p T z):=by
 unfold eyB
 refine specr_of Tryz.func20 rfl (by kernel_rfl) (by kernel_rfl) (by kernel_rfl) rfl fun qa qb qc qd qe qf qg qh qi qj qk ql qm qn qo qp qq qs qt qu qv qw qx qy qz va vc vd ve vf vg vh vj vk vl vm vn vo vp vq vr vt vu hA K hK=>?_
 obtain ⟨e1,e2,e3,e4,e5,e6,e7,e8,e9⟩:=ar_at hA
 have q1:qj 0 0 = true:=by rw [e9];rfl
 iterate 2 (try cbv;repeat ((first | with_reducible apply next_at hA | rw [q1]);cbv))
 try simp (maxSteps:=4000000) only [nc] at *
 exact hK _ rfl
theorem pok_e (T:List (List D)) (e p z:Int) (he:e ≠ 0):SpecS 20 [.ptr 0 0] (eyB e p T z) (fun res os=>res = [vb false] ∧ os = eyB e p T z):=by
 unfold eyB
 refine specr_of Tryz.func20 rfl (by kernel_rfl) (by kernel_rfl) (by kernel_rfl) rfl fun qa qb qc qd qe qf qg qh qi qj qk ql qm qn qo qp qq qs qt qu qv qw qx qy qz va vc vd ve vf vg vh vj vk vl vm vn vo vp vq vr vt vu hA K hK=>?_
 obtain ⟨e1,e2,e3,e4,e5,e6,e7,e8,e9⟩:=ar_at hA
 have q1:qj e 0 = false:=by rw [e9];exact decide_eq_false he
 iterate 2 (try cbv;repeat ((first | with_reducible apply next_at hA | rw [q1]);cbv))
 try simp (maxSteps:=4000000) only [nc] at *
 exact hK _ rfl
theorem here_s (ts:List Tok) (t:Tok) (a:Nat) (ht:ts[a]? = some t) (hl:ts.length ≤ 1048576) (e p:Int):SpecS 29 [.ptr 0 0] (eyB e p (rTk ts) (a:Int)) (fun res os=>res = [vi .i64 t.at_] ∧ os = eyB e p (rTk ts) (a:Int)):=by
 have hp:=Peek_s ts t a ht hl
 unfold tkD rdB at hp
 unfold eyB
 generalize rTk ts = T at *
 generalize t.kind = tk at *
 generalize t.text = tx at *
 generalize t.n = tn at *
 generalize t.at_ = ta at *
 generalize ((a:Nat):Int) = z at *
 refine specr_of Tryz.func29 rfl (by kernel_rfl) (by kernel_rfl) (by kernel_rfl) rfl fun qa qb qc qd qe qf qg qh qi qj qk ql qm qn qo qp qq qs qt qu qv qw qx qy qz va vc vd ve vf vg vh vj vk vl vm vn vo vp vq vr vt vu hA K hK=>?_
 iterate 2 (try cbv;repeat ((first | with_reducible apply next_at hA | (refine rd_at hA [1] hp ⟨rfl,rfl,rfl,rfl,rfl,rfl,rfl⟩ rfl ?_;rintro _ rfl));cbv))
 try simp (maxSteps:=4000000) only [nc] at *
 exact hK _ rfl
def pz0:List V:=[vi .u8 0,vs ⟨#[]⟩,vs ⟨#[]⟩,vi .i64 0,vb false,vi .u8 0,vs ⟨#[]⟩,vi .i64 0,.em,.em,.em]
theorem pfail_ok (ts:List Tok) (t:Tok) (a:Nat) (ht:ts[a]? = some t) (hl:ts.length ≤ 1048576) (c:Int):SpecO 22 [.ptr 0 0,vi .u8 c] (eyB 0 0 (rTk ts) (a:Int)) (fun res os=>res = [.ag pz0] ∧ os = eyB c t.at_ (rTk ts) (a:Int)):=by
 have h1:=pok_0 (rTk ts) 0 (a:Int)
 have h2:=here_s ts t a ht hl 0 0
 unfold eyB at *
 unfold pz0
 generalize rTk ts = T at *
 generalize t.at_ = ta at *
 generalize ((a:Nat):Int) = z at *
 refine speco_of Tryz.func22 rfl (by kernel_rfl) (by kernel_rfl) (by kernel_rfl) fun qa qb qc qd qe qf qg qh qi qj qk ql qm qn qo qp qq qs qt qu qv qw qx qy qz va vc vd ve vf vg vh vj vk vl vm vn vo vp vq vr vt vu hA=>?_
 iterate 2 (try cbv;repeat ((first | with_reducible apply next_at hA | (refine rd_at hA [0,1] h1 ⟨rfl,rfl,rfl,rfl,rfl,rfl,rfl⟩ rfl ?_;rintro _ rfl) | (refine rd_at hA [0,1] h2 ⟨rfl,rfl,rfl,rfl,rfl,rfl,rfl⟩ rfl ?_;rintro _ rfl));cbv))
 try simp (maxSteps:=4000000) only [nc] at *
 exact keep_is hA [0,1] ⟨rfl,rfl,rfl,rfl,rfl,rfl,rfl,rfl⟩ ⟨rfl,rfl⟩
theorem pfail_err (T:List (List D)) (e p z c:Int) (he:e ≠ 0):SpecO 22 [.ptr 0 0,vi .u8 c] (eyB e p T z) (fun res os=>res = [.ag pz0] ∧ os = eyB e p T z):=by
 have h1:=pok_e T e p z he
 unfold eyB at *
 unfold pz0
 refine speco_of Tryz.func22 rfl (by kernel_rfl) (by kernel_rfl) (by kernel_rfl) fun qa qb qc qd qe qf qg qh qi qj qk ql qm qn qo qp qq qs qt qu qv qw qx qy qz va vc vd ve vf vg vh vj vk vl vm vn vo vp vq vr vt vu hA=>?_
 iterate 2 (try cbv;repeat ((first | with_reducible apply next_at hA | (refine rd_at hA [0,1] h1 ⟨rfl,rfl,rfl,rfl,rfl,rfl,rfl⟩ rfl ?_;rintro _ rfl));cbv))
 try simp (maxSteps:=4000000) only [nc] at *
 exact keep_is hA [0,1] ⟨rfl,rfl,rfl,rfl,rfl,rfl,rfl,rfl⟩ ⟨rfl,rfl⟩
theorem pwant_ok (ts:List Tok) (t:Tok) (a:Nat) (ht:ts[a]? = some t) (hl:ts.length ≤ 1048576) (s:ByteArray):SpecO 28 [.ptr 0 0,vs s] (eyB 0 0 (rTk ts) (a:Int)) (fun res os=>res = [] ∧ os = if isG t s = true then eyB 0 0 (rTk ts) ((a + 1:Nat):Int) else eyB 5 t.at_ (rTk ts) (a:Int)):=by
 have h1:=pok_0 (rTk ts) 0 (a:Int)
 have hq:=Skip_s ts t a ht hl s
 have hf:=pfail_ok ts t a ht hl 5
 unfold rdB at hq
 unfold eyB at *
 unfold pz0 at hf
 generalize rTk ts = T at *
 generalize t.at_ = ta at *
 cases hb:isG t s
 ·rw [hb,if_neg (by decide)] at hq
  rw [if_neg (by decide)]
  generalize ((a:Nat):Int) = z at *
  refine speco_of Tryz.func28 rfl (by kernel_rfl) (by kernel_rfl) (by kernel_rfl) fun qa qb qc qd qe qf qg qh qi qj qk ql qm qn qo qp qq qs qt qu qv qw qx qy qz va vc vd ve vf vg vh vj vk vl vm vn vo vp vq vr vt vu hA=>?_
  iterate 2 (try cbv;repeat ((first | with_reducible apply next_at hA | (refine rd_at hA [0,1] h1 ⟨rfl,rfl,rfl,rfl,rfl,rfl,rfl⟩ rfl ?_;rintro _ rfl) | (refine callo_at hA [1] hq ⟨rfl,rfl,rfl,rfl,rfl,rfl,rfl⟩ ?_;rintro _ _ ⟨rfl,rfl⟩) | (refine callo_at hA [0,1] hf ⟨rfl,rfl,rfl,rfl,rfl,rfl,rfl⟩ ?_;rintro _ _ ⟨rfl,rfl⟩));cbv))
  try simp (maxSteps:=4000000) only [nc] at *
  exact keep_is hA [0,1] ⟨rfl,rfl,rfl,rfl,rfl,rfl,rfl,rfl⟩ ⟨rfl,rfl⟩
 ·rw [hb,if_pos rfl] at hq
  rw [if_pos rfl]
  generalize ((a:Nat):Int) = z at *
  generalize ((a + 1:Nat):Int) = y at *
  refine speco_of Tryz.func28 rfl (by kernel_rfl) (by kernel_rfl) (by kernel_rfl) fun qa qb qc qd qe qf qg qh qi qj qk ql qm qn qo qp qq qs qt qu qv qw qx qy qz va vc vd ve vf vg vh vj vk vl vm vn vo vp vq vr vt vu hA=>?_
  iterate 2 (try cbv;repeat ((first | with_reducible apply next_at hA | (refine rd_at hA [0,1] h1 ⟨rfl,rfl,rfl,rfl,rfl,rfl,rfl⟩ rfl ?_;rintro _ rfl) | (refine callo_at hA [1] hq ⟨rfl,rfl,rfl,rfl,rfl,rfl,rfl⟩ ?_;rintro _ _ ⟨rfl,rfl⟩));cbv))
  try simp (maxSteps:=4000000) only [nc] at *
  exact keep_is hA [0,1] ⟨rfl,rfl,rfl,rfl,rfl,rfl,rfl,rfl⟩ ⟨rfl,rfl⟩
theorem pwant_err (T:List (List D)) (e p z:Int) (he:e ≠ 0) (s:ByteArray):SpecO 28 [.ptr 0 0,vs s] (eyB e p T z) (fun res os=>res = [] ∧ os = eyB e p T z):=by
 have h1:=pok_e T e p z he
 unfold eyB at *
 refine speco_of Tryz.func28 rfl (by kernel_rfl) (by kernel_rfl) (by kernel_rfl) fun qa qb qc qd qe qf qg qh qi qj qk ql qm qn qo qp qq qs qt qu qv qw qx qy qz va vc vd ve vf vg vh vj vk vl vm vn vo vp vq vr vt vu hA=>?_
 iterate 2 (try cbv;repeat ((first | with_reducible apply next_at hA | (refine rd_at hA [0,1] h1 ⟨rfl,rfl,rfl,rfl,rfl,rfl,rfl⟩ rfl ?_;rintro _ rfl));cbv))
 try simp (maxSteps:=4000000) only [nc] at *
 exact keep_is hA [0,1] ⟨rfl,rfl,rfl,rfl,rfl,rfl,rfl,rfl⟩ ⟨rfl,rfl⟩
theorem pword_ok (ts:List Tok) (t:Tok) (a:Nat) (ht:ts[a]? = some t) (hl:ts.length ≤ 1048576):SpecO 30 [.ptr 0 0] (eyB 0 0 (rTk ts) (a:Int)) (fun res os=>res = [vs (if t.kind = 1 then t.text else ⟨#[]⟩)] ∧ os = if t.kind = 1 then eyB 0 0 (rTk ts) ((a + 1:Nat):Int) else eyB 5 t.at_ (rTk ts) (a:Int)):=by
 have h1:=pok_0 (rTk ts) 0 (a:Int)
 have hp:=Peek_s ts t a ht hl
 have hq:=Take_s ts t a ht hl
 have hf:=pfail_ok ts t a ht hl 5
 unfold tkD rdB at hp hq
 unfold eyB at *
 unfold pz0 at hf
 generalize rTk ts = T at *
 generalize t.kind = tk at *
 generalize t.text = tx at *
 generalize t.n = tn at *
 generalize t.at_ = ta at *
 by_cases hb:tk = 1
 ·rw [if_pos hb,if_pos hb]
  generalize ((a:Nat):Int) = z at *
  generalize ((a + 1:Nat):Int) = y at *
  refine speco_of Tryz.func30 rfl (by kernel_rfl) (by kernel_rfl) (by kernel_rfl) fun qa qb qc qd qe qf qg qh qi qj qk ql qm qn qo qp qq qs qt qu qv qw qx qy qz va vc vd ve vf vg vh vj vk vl vm vn vo vp vq vr vt vu hA=>?_
  obtain ⟨e1,e2,e3,e4,e5,e6,e7,e8,e9⟩:=ar_at hA
  have q1:qj tk 1 = true:=by rw [e9];exact decide_eq_true hb
  clear hb
  iterate 2 (try cbv;repeat ((first | with_reducible apply next_at hA | rw [q1] | (refine rd_at hA [0,1] h1 ⟨rfl,rfl,rfl,rfl,rfl,rfl,rfl⟩ rfl ?_;rintro _ rfl) | (refine rd_at hA [1] hp ⟨rfl,rfl,rfl,rfl,rfl,rfl,rfl⟩ rfl ?_;rintro _ rfl) | (refine callo_at hA [1] hq ⟨rfl,rfl,rfl,rfl,rfl,rfl,rfl⟩ ?_;rintro _ _ ⟨rfl,rfl⟩));cbv))
  try simp (maxSteps:=4000000) only [nc] at *
  exact keep_is hA [0,1] ⟨rfl,rfl,rfl,rfl,rfl,rfl,rfl,rfl⟩ ⟨rfl,rfl⟩
 ·rw [if_neg hb,if_neg hb]
  generalize ((a:Nat):Int) = z at *
  refine speco_of Tryz.func30 rfl (by kernel_rfl) (by kernel_rfl) (by kernel_rfl) fun qa qb qc qd qe qf qg qh qi qj qk ql qm qn qo qp qq qs qt qu qv qw qx qy qz va vc vd ve vf vg vh vj vk vl vm vn vo vp vq vr vt vu hA=>?_
  obtain ⟨e1,e2,e3,e4,e5,e6,e7,e8,e9⟩:=ar_at hA
  have q1:qj tk 1 = false:=by rw [e9];exact decide_eq_false hb
  clear hb
  iterate 2 (try cbv;repeat ((first | with_reducible apply next_at hA | rw [q1] | (refine rd_at hA [0,1] h1 ⟨rfl,rfl,rfl,rfl,rfl,rfl,rfl⟩ rfl ?_;rintro _ rfl) | (refine rd_at hA [1] hp ⟨rfl,rfl,rfl,rfl,rfl,rfl,rfl⟩ rfl ?_;rintro _ rfl) | (refine callo_at hA [0,1] hf ⟨rfl,rfl,rfl,rfl,rfl,rfl,rfl⟩ ?_;rintro _ _ ⟨rfl,rfl⟩));cbv))
  try simp (maxSteps:=4000000) only [nc] at *
  exact keep_is hA [0,1] ⟨rfl,rfl,rfl,rfl,rfl,rfl,rfl,rfl⟩ ⟨rfl,rfl⟩
theorem pword_err (T:List (List D)) (e p z:Int) (he:e ≠ 0):SpecO 30 [.ptr 0 0] (eyB e p T z) (fun res os=>res = [vs ⟨#[]⟩] ∧ os = eyB e p T z):=by
 have h1:=pok_e T e p z he
 have hf:=pfail_err T e p z 5 he
 unfold eyB at *
 unfold pz0 at hf
 refine speco_of Tryz.func30 rfl (by kernel_rfl) (by kernel_rfl) (by kernel_rfl) fun qa qb qc qd qe qf qg qh qi qj qk ql qm qn qo qp qq qs qt qu qv qw qx qy qz va vc vd ve vf vg vh vj vk vl vm vn vo vp vq vr vt vu hA=>?_
 iterate 2 (try cbv;repeat ((first | with_reducible apply next_at hA | (refine rd_at hA [0,1] h1 ⟨rfl,rfl,rfl,rfl,rfl,rfl,rfl⟩ rfl ?_;rintro _ rfl) | (refine callo_at hA [0,1] hf ⟨rfl,rfl,rfl,rfl,rfl,rfl,rfl⟩ ?_;rintro _ _ ⟨rfl,rfl⟩));cbv))
 try simp (maxSteps:=4000000) only [nc] at *
 exact keep_is hA [0,1] ⟨rfl,rfl,rfl,rfl,rfl,rfl,rfl,rfl⟩ ⟨rfl,rfl⟩
end Go.Proofs.YtahpnackkmbmgaaGreat.Vm
end
section
namespace Go.Proofs.YtahpnackkmbmgaaGreat.Vm
open Go.RowKit

section
section
variable {I0:Nat → Nat → Prop} {X:Nat → Prop} {w0:W0}
end
section
variable {qa:IntKind → Int → Int} {qb:Int → Int → Int} {qc:Int → Int → Int} {qd:Int → Int → Int} {qe:Int → Int → Int} {qf:Int → Int → Int} {qg:BinOp → IntKind → Int → IntKind → Int → Option Int} {qh:Int → Int → Bool} {qi:Int → Int → Bool} {qj:Int → Int → Bool} {qk:Int → Prop → Prop} {ql:List UInt8 → List UInt8 → Bool} {qm:List UInt8 → List UInt8 → Bool} {qn:ByteArray → List UInt8} {qo:ByteArray → ByteArray → ByteArray} {qp:ByteArray → ByteArray → Prop → Prop} {qq:ByteArray → Int} {qs:ByteArray → Int → Option Int} {qt:ByteArray → Int → Int → Option ByteArray} {qu:List (List D) → Option ByteArray} {qv:ByteArray → List (List D)} {qw:Int → Nat → Option Nat} {qx:List (List D) → Int} {qy:List (List D) → Int → Option (List D)} {qz:List (List D) → Int → Int → Option (List (List D))} {va:List (List D) → List (List D) → List (List D)} {vc:List (List D) → Int → List D → List (List D)} {vd:List (List D) → List (List D) → Prop → Prop} {ve:List (R × R) → R → Option R} {vf:List (R × R) → R → R → List (R × R)} {vg:List D → List D → Bool} {vh:Int → List D → (List (List D) → Prop) → Prop} {vj:Nat → List R → (List R → Prop) → Prop} {vk:Nat → List V → List O → (V → Prop) → Prop} {vl:Nat → List V → S → (V → S → Prop) → Prop} {vm:Nat → List V → List Nat → S → (V → S → Prop) → Prop} {vn:Nat → (Bool → Prop) → Prop} {vo:Nat → (Bool → Prop) → Prop} {vp:Nat → (List V → List O → Prop) → List V → S → Prop} {vq:(S → Prop) → S → Prop} {vr:Op → Option Nat → S → (S → Prop) → Prop} {vt:Array Oper → S → (S → Prop) → Prop} {vu:Code → (S → (X → S → Prop) → Prop) → S → (X → S → Prop) → Prop}
end
end
end Go.Proofs.YtahpnackkmbmgaaGreat.Vm
end
section
namespace Go.Proofs.YtahpnackkmbmgaaGreat.Vm
open Go.RowKit
set_option maxRecDepth 100000
set_option maxHeartbeats 4000000
def rDf (out:DefL):List (List D):=out.map fun d=>[.sc (.string d.1),.sl 1 (rU d.2)]
theorem rDf_len (out:DefL):(rDf out).length = out.length:=by unfold rDf;rw [List.length_map]
theorem rDf_get {out:DefL} {k:Nat} {d:ByteArray × List UInt8} (h:out[k]? = some d):(rDf out)[k]? = some [.sc (.string d.1),.sl 1 (rU d.2)]:=by unfold rDf;rw [List.getElem?_map,h];rfl
theorem any_take {α:Type} {p:α → Bool} {l:List α} {k:Nat} {x:α} (hx:l[k]? = some x) (h:(l.take k).any p = false) (hp:p x = false):(l.take (k + 1)).any p = false:=by
 obtain ⟨hi,e⟩:=List.getElem?_eq_some_iff.1 hx
 rw [List.take_succ_eq_append_getElem hi,e,List.any_append,h]
 simp [hp]
theorem index_d (out:DefL) (s:ByteArray) (c:V) (hN:out.length ≤ 1048576) :
  SpecS 60 [.own 0,.cl 32 [1]] [.row true 46 (rDf out),.box [vs s,.em]] (fun r os=>(∃ z:Int,r = [vi .i64 z] ∧ decide (0 ≤ z) = hasD out s) ∧ os = [.row true 46 (rDf out),.box [vs s,.em]]):=by
 obtain ⟨L,hL⟩:∃ L,L = rDf out:=⟨_,rfl⟩
 rw [← hL]
 have hlen:L.length = out.length:=by rw [hL,rDf_len]
 obtain ⟨N,hNN⟩:∃ N,N = out.length:=⟨_,rfl⟩
 rw [← hNN] at hN hlen
 refine specr_of Tryz.func60 rfl (by kernel_rfl) (by kernel_rfl) (by kernel_rfl) rfl fun qa qb qc qd qe qf qg qh qi qj qk ql qm qn qo qp qq qs qt qu qv qw qx qy qz va vc vd ve vf vg vh vj vk vl vm vn vo vp vq vr vt vu hA K hK=>?_
 obtain ⟨e1,e2,e3,e4,e5,e6,e7,e8,e9⟩:=ar_at hA
 obtain ⟨r1,r2,r3,r4⟩:=row_at hA
 obtain ⟨s1,s2,s3,s4,s5,s6,s7⟩:=str_at hA
 cbv
 repeat ((with_reducible apply next_at hA);cbv)
 refine loop_at hA (γ:=Int) (fun x=>[(8,vi .i64 x)]) (fun x=>[]) (fun x=>∃ k:Nat,x = (k:Int) ∧ k ≤ N ∧ (out.take k).any (fun d=>d.1.toList == s.toList) = false) (fun x=>N - x.toNat) 0 ?_ ?_ ?_
 ·exact ⟨0,rfl,Nat.zero_le _,rfl⟩
 ·cbv
 ·intro z hinv
  cbv
  repeat ((with_reducible apply next_at hA);cbv)
  try simp (maxSteps:=4000000) only [nc] at *
  obtain ⟨k,hz,hk,hE⟩:=hinv
  replace hz:z = (k:Int):=hz
  have hlt:qh z (qx L) = decide (k < N):=by rw [e7,r1,hlen,hz];exact decide_eq_decide.2 (by omega)
  by_cases h9:k < N
  ·rw [decide_eq_true h9] at hlt
   obtain ⟨x,hx⟩:∃ x,out[k]? = some x:=⟨_,List.getElem?_eq_getElem (Nat.lt_of_lt_of_eq h9 hNN)⟩
   have hm:=List.mem_of_getElem? hx
   have hz1:qa .i64 (qb z 1) = ((k + 1:Nat):Int):=by rw [e1,e2,hz,IntWalk.i64_in _ (by omega)];omega
   have hmu:N - (qa .i64 (qb z 1)).toNat < N - z.toNat:=by rw [hz1,hz];omega
   have gx:qy L z = some [.sc (.string x.1),.sl 1 (rU x.2)]:=by rw [r2,hz,if_pos (by omega),hL,show ((k:Int)).toNat = k by omega,rDf_get hx]
   have hse:ql (qn x.1) (qn s) = (x.1.toList == s.toList):=by rw [s1,s3,s3]
   obtain ⟨nm,tx⟩:=x
   generalize rU tx = U at *
   cases hpx:(nm.toList == s.toList) with
   | true =>
    rw [hpx] at hse
    rw [hlt]
    iterate 2 (try cbv;repeat ((first | with_reducible apply next_at hA | rw [gx]);cbv))
    try simp (maxSteps:=4000000) only [nc] at *
    refine inl_at hA Tryz.func32 rfl (by kernel_rfl) (by kernel_rfl) (by kernel_rfl) ?_
    iterate 2 (try cbv;repeat ((first | with_reducible apply next_at hA | rw [gx] | rw [hse]);cbv))
    try simp (maxSteps:=4000000) only [nc] at *
    refine hK _ ⟨z,rfl,?_⟩
    unfold hasD
    rw [List.any_eq_true.2 ⟨_,hm,hpx⟩,hz]
    exact decide_eq_true (by omega)
   | false =>
    rw [hpx] at hse
    rw [hlt]
    iterate 2 (try cbv;repeat ((first | with_reducible apply next_at hA | rw [gx]);cbv))
    try simp (maxSteps:=4000000) only [nc] at *
    refine inl_at hA Tryz.func32 rfl (by kernel_rfl) (by kernel_rfl) (by kernel_rfl) ?_
    iterate 2 (try cbv;repeat ((first | with_reducible apply next_at hA | rw [gx] | rw [hse]);cbv))
    try simp (maxSteps:=4000000) only [nc] at *
    refine ⟨qa .i64 (qb z 1),⟨k + 1,hz1,h9,any_take hx hE hpx⟩,hmu,?_⟩
    cbv
  ·rw [decide_eq_false h9] at hlt
   rw [hlt]
   cbv
   repeat ((with_reducible apply next_at hA);cbv)
   refine hK _ ⟨-1,rfl,?_⟩
   unfold hasD
   rw [← List.take_of_length_le (l:=out) (i:=k) (Nat.le_trans (Nat.le_of_eq hNN.symm) (Nat.le_of_not_lt h9)),hE]
   rfl
theorem contains_d (out:DefL) (s:ByteArray) (hN:out.length ≤ 1048576) :
  SpecS 31 [.own 0,.cl 32 [1]] [.row true 46 (rDf out),.box [vs s,.em]] (fun r os=>r = [vb (hasD out s)] ∧ os = [.row true 46 (rDf out),.box [vs s,.em]]):=by
 have h:=index_d out s .jk hN
 generalize rDf out = L at *
 generalize hasD out s = b at *
 refine specr_of Tryz.func31 rfl (by kernel_rfl) (by kernel_rfl) (by kernel_rfl) rfl fun qa qb qc qd qe qf qg qh qi qj qk ql qm qn qo qp qq qs qt qu qv qw qx qy qz va vc vd ve vf vg vh vj vk vl vm vn vo vp vq vr vt vu hA K hK=>?_
 obtain ⟨e1,e2,e3,e4,e5,e6,e7,e8,e9⟩:=ar_at hA
 cbv
 repeat ((with_reducible apply next_at hA);cbv)
 refine rd_at hA [0,1] h ⟨rfl,rfl,rfl,rfl,rfl,rfl,rfl⟩ rfl ?_
 rintro _ ⟨z,rfl,hz⟩
 have hle:qi 0 z = b:=by rw [e8,hz]
 iterate 2 (try cbv;repeat ((first | with_reducible apply next_at hA | rw [hle]);cbv))
 try simp (maxSteps:=4000000) only [nc] at *
 exact hK _ rfl
theorem eql_sl {t e:Nat} (hu:Tryz.prog.underlying t = some (.slice e)) (A:Option Addr) (n c:Nat) (w:World):(binOp .eql t (.slice A n c) (.slice none 0 0)).run Tryz.prog w = .ok (.bool A.isNone) w:=by
 simp only [binOp,Sem.run_bind,eqs hu,Result.andThen_ok,Sem.run_pure]
theorem clone_nil (A:Option Addr) (cap:Nat) (w:World):Calls Tryz.prog 35 #[.slice A 0 cap] w (fun e w'=>∃ B c,e = .returned (.slice B 0 c) ∧ Below w.heap.size w w'):=by
 have hq:=fun A n c w=>eql_sl Tryz.underlying22 A n c w
 cases A with
 | none =>
  go_enter Tryz.func35,Tryz.ntmps35
  go_wp2_with fail
  go_ret
  exact ⟨_,_,rfl,Below.refl _ _⟩
 | some a =>
  go_enter Tryz.func35,Tryz.ntmps35
  go_wp2_with fail
  go_ret
  exact ⟨_,_,rfl,(Below.refl _ _).alloc (Nat.le_refl _) _⟩
theorem CloneB_0:Spec 35 [.one (.sl 1 [])] [.one (.sl 1 [])]:=by
 refine ⟨by kernel_rfl,fun I w args hI hat=>?_⟩
 match args,hat with
 | [v1],⟨h1,_⟩ =>
  have h1:AtD I w v1 (.sl 1 []):=h1
  obtain ⟨A,cap,rfl,_,_⟩:=h1.slice
  refine (clone_nil A cap w).mono ?_
  rintro e w' ⟨B,c,rfl,hb⟩
  exact ⟨_,rfl,.nil _ _ _,hb⟩
theorem CloneB_s (l:List UInt8) (hl:l.length ≤ 1048576):Spec 35 [.one (.sl 1 (rU l))] [.one (.sl 1 (rU l))]:=by
 have hln:=rU_len l
 generalize rU l = T at *
 by_cases hne:T = []
 ·subst hne
  exact CloneB_0
 ·refine spec_of Tryz.func35 rfl (by kernel_rfl) (by kernel_rfl) (by kernel_rfl) fun qa qb qc qd qe qf qg qh qi qj qk ql qm qn qo qp qq qs qt qu qv qw qx qy qz va vc vd ve vf vg vh vj vk vl vm vn vo vp vq vr vt vu hA=>?_
  obtain ⟨r1,r2,r3,r4⟩:=row_at hA
  have q:qx T ≠ 0:=by
   rw [r1]
   cases T with
   | nil=>exact absurd rfl hne
   | cons x T=>simp;omega
  have q4:va [] T = T:=by rw [r4];rfl
  iterate 2 (try cbv;repeat ((first | with_reducible apply next_at hA | rw [q4] | refine nz_at hA q ?_ | refine new_at hA true ?_ | (refine room_at hA (by simp only [List.length_nil];omega) ?_));cbv))
  try simp (maxSteps:=4000000) only [nc] at *
section
theorem modW_eq (l:List UInt8) {ts:List Tok} (hE:EndsT ts) {i:Nat} (out:DefL) (hi:i < ts.length):modW l ts ts.length i out =
  if (tkA ts i).kind = 4 then (out,0,0)
  else if isG (tkA ts i) gDef = false then ([],(tkA ts i).at_,5)
  else if (tkA ts (i + 1)).kind ≠ 1 then ([],(tkA ts (i + 1)).at_,5)
  else if hasD out (tkA ts (i + 1)).text = true then ([],(tkA ts (i + 1)).at_,14)
  else if isG (tkA ts (i + 2)) gEq = false then ([],(tkA ts (i + 2)).at_,5)
  else modW l ts ts.length (defEnd ts ts.length (i + 3)) (out ++ [((tkA ts (i + 1)).text,cutU l ((tkA ts (i + 2)).at_ + 1) (tkA ts (defEnd ts ts.length (i + 3))).at_)]):=by
 have e:modW l ts ts.length i out = modW l ts (ts.length + 1) i out:=modW_fuel l hE _ _ i out hi (by omega) (by omega)
 rw [e,modW]
abbrev PkN (T:List (List D)) (a k n p:Int) (s:ByteArray):Prop:=SpecS 21 [.ptr 0 0] [.box [.d (.sl 4 T),vi .i64 a]] (fun res os=>res = [.ag [vi .u8 k,vs s,vi .i64 n,vi .i64 p]] ∧ os = [.box [.d (.sl 4 T),vi .i64 a]])
abbrev IsN (T:List (List D)) (a:Int) (s:ByteArray) (b:Bool):Prop:=SpecS 33 [.ptr 0 0,vs s] [.box [.d (.sl 4 T),vi .i64 a]] (fun res os=>res = [vb b] ∧ os = [.box [.d (.sl 4 T),vi .i64 a]])
abbrev TaN (T:List (List D)) (a k n p a1:Int) (s:ByteArray):Prop:=SpecO 34 [.ptr 0 0] [.box [.d (.sl 4 T),vi .i64 a]] (fun res os=>res = [.ag [vi .u8 k,vs s,vi .i64 n,vi .i64 p]] ∧ os = [.box [.d (.sl 4 T),vi .i64 a1]])
abbrev eyZ (e p:Int) (T:List (List D)) (a:Int):List O:=[.box [.ptr 1 0,vi .u8 e,vi .i64 p],.box [.d (.sl 4 T),vi .i64 a]]
abbrev WtN (T:List (List D)) (s:ByteArray) (e p a e1 p1 a1:Int):Prop:=SpecO 28 [.ptr 0 0,vs s] (eyZ e p T a) (fun res os=>res = [] ∧ os = eyZ e1 p1 T a1)
abbrev WoN (T:List (List D)) (s:ByteArray) (e p a e1 p1 a1:Int):Prop:=SpecO 30 [.ptr 0 0] (eyZ e p T a) (fun res os=>res = [vs s] ∧ os = eyZ e1 p1 T a1)
abbrev HeN (T:List (List D)) (e p a q:Int):Prop:=SpecS 29 [.ptr 0 0] (eyZ e p T a) (fun res os=>res = [vi .i64 q] ∧ os = eyZ e p T a)
abbrev OkN (T:List (List D)) (e p a:Int) (b:Bool):Prop:=SpecS 20 [.ptr 0 0] (eyZ e p T a) (fun res os=>res = [vb b] ∧ os = eyZ e p T a)
section
variable {ts:List Tok} (hl:ts.length ≤ 1048576)
include hl
theorem pk_at {a:Nat} (ha:a < ts.length):PkN (rTk ts) (a:Int) (tkA ts a).kind (tkA ts a).n (tkA ts a).at_ (tkA ts a).text:=Peek_s ts (tkA ts a) a (tkA_is ha) hl
theorem is_at {a:Nat} (ha:a < ts.length) (s:ByteArray):IsN (rTk ts) (a:Int) s (isG (tkA ts a) s):=Is_s ts (tkA ts a) a (tkA_is ha) hl s
theorem ta_at {a:Nat} (ha:a < ts.length):TaN (rTk ts) (a:Int) (tkA ts a).kind (tkA ts a).n (tkA ts a).at_ ((a + 1:Nat):Int) (tkA ts a).text:=Take_s ts (tkA ts a) a (tkA_is ha) hl
theorem wt_y {a:Nat} (ha:a < ts.length) {s:ByteArray} (h:isG (tkA ts a) s = true):WtN (rTk ts) s 0 0 (a:Int) 0 0 ((a + 1:Nat):Int):=by
 have:=pwant_ok ts (tkA ts a) a (tkA_is ha) hl s
 rw [if_pos h] at this
 exact this
theorem wt_n {a:Nat} (ha:a < ts.length) {s:ByteArray} (h:isG (tkA ts a) s = false):WtN (rTk ts) s 0 0 (a:Int) 5 (tkA ts a).at_ (a:Int):=by
 have:=pwant_ok ts (tkA ts a) a (tkA_is ha) hl s
 rw [if_neg (by rw [h];decide)] at this
 exact this
theorem wo_y {a:Nat} (ha:a < ts.length) (h:(tkA ts a).kind = 1):WoN (rTk ts) (tkA ts a).text 0 0 (a:Int) 0 0 ((a + 1:Nat):Int):=by
 have:=pword_ok ts (tkA ts a) a (tkA_is ha) hl
 rw [if_pos h,if_pos h] at this
 exact this
theorem wo_n {a:Nat} (ha:a < ts.length) (h:(tkA ts a).kind ≠ 1):WoN (rTk ts) ⟨#[]⟩ 0 0 (a:Int) 5 (tkA ts a).at_ (a:Int):=by
 have:=pword_ok ts (tkA ts a) a (tkA_is ha) hl
 rw [if_neg h,if_neg h] at this
 exact this
theorem he_at {a:Nat} (ha:a < ts.length) (e p:Int):HeN (rTk ts) e p (a:Int) (tkA ts a).at_:=here_s ts (tkA ts a) a (tkA_is ha) hl e p
end
theorem wt_e (T:List (List D)) (s:ByteArray) (e p a:Int) (he:e ≠ 0):WtN T s e p a e p a:=pwant_err T e p a he s
theorem wo_e (T:List (List D)) (e p a:Int) (he:e ≠ 0):WoN T ⟨#[]⟩ e p a e p a:=pword_err T e p a he
theorem ok_y (T:List (List D)) (p a:Int):OkN T 0 p a true:=pok_0 T p a
theorem ok_n (T:List (List D)) (e p a:Int) (he:e ≠ 0):OkN T e p a false:=pok_e T e p a he
theorem cut_sub (l:List UInt8) (a b:Int) (ha:0 ≤ a) (hab:a ≤ b) (hb:b ≤ l.length):real.sub2 (rU l) a b = some (rU (cutU l a b)):=by
 show (if 0 ≤ a ∧ a ≤ b ∧ b ≤ (rU l).length then some (((rU l).drop a.toNat).take (b.toNat - a.toNat)) else none) = _
 rw [if_pos ⟨ha,hab,by rw [rU_len];exact hb⟩]
 unfold cutU rU
 rw [List.map_take,List.map_drop]
theorem rDf_snoc (out:DefL) (s:ByteArray) (t:List UInt8):rDf (out ++ [(s,t)]) = rDf out ++ [[.sc (.string s),.sl 1 (rU t)]]:=by unfold rDf;rw [List.map_append];rfl
abbrev MdN (B:List (List D)) (x:List (List D)) (p c:Int):Prop:=Spec 11 [.one (.sl 1 B)] [.one (.sl 2 x),.one (.sc (.int .i64 p)),.one (.sc (.int .u8 c))]
theorem md_tok {B T:List (List D)} {p c:Int} (hc:c ≠ 0) (hT:Spec 17 [.one (.sl 1 B)] [.one (.sl 4 T),.one (.sc (.int .i64 p)),.one (.sc (.int .u8 c))]):MdN B [] p c:=by
 refine spec_of Tryz.func11 rfl (by kernel_rfl) (by kernel_rfl) (by kernel_rfl) fun qa qb qc qd qe qf qg qh qi qj qk ql qm qn qo qp qq qs qt qu qv qw qx qy qz va vc vd ve vf vg vh vj vk vl vm vn vo vp vq vr vt vu hA=>?_
 obtain ⟨e1,e2,e3,e4,e5,e6,e7,e8,e9⟩:=ar_at hA
 have g1:qj c 0 = false:=by rw [e9];exact decide_eq_false hc
 iterate 2 (try cbv;repeat ((first | refine nil_at hA 2 2 [] rfl rfl ?_ | with_reducible apply next_at hA | rw [g1] | refine call_at hA _ hT rfl ?_ | refine calm_at hA _ hT ?_);cbv))
 try simp (maxSteps:=4000000) only [nc] at *
def MdIn2 (ts:List Tok) (k:Nat) (y:Int):Prop:=∃ j:Nat,y = (j:Int) ∧ k + 3 ≤ j ∧ j < ts.length ∧ defEnd ts ts.length (k + 3) = defEnd ts ts.length j
def MdInv (l:List UInt8) (ts:List Tok) (r:DefL × Int × Int) (x:Int × List (List D)):Prop:=∃ (k:Nat) (out:DefL),x.1 = (k:Int) ∧ x.2 = rDf out ∧ k < ts.length ∧ out.length ≤ k ∧ r = modW l ts ts.length k out
theorem md_ok (l:List UInt8) (hl:l.length ≤ 65536) {ts:List Tok} {p:Int} (hE:EndsT ts) (hat:AtsT l.length ts) (hpos:0 < ts.length) (hlt:ts.length ≤ 65537) (hT:Spec 17 [.one (.sl 1 (rU l))] [.one (.sl 4 (rTk ts)),.one (.sc (.int .i64 p)),.one (.sc (.int .u8 0))])
  (hN:SpecO 18 [.d (.sl 4 (rTk ts))] [] (fun res os=>res = [.ptr 0 0] ∧ os = [.box [.d (.sl 4 (rTk ts)),.d (.sc (.int .i64 0))]])) :
  MdN (rU l) (rDf (modW l ts ts.length 0 []).1) (modW l ts ts.length 0 []).2.1 (modW l ts ts.length 0 []).2.2:=by
 have hl2:ts.length ≤ 1048576:=by omega
 have hpk:=fun a ha=>pk_at hl2 (a:=a) ha
 have his:=fun a ha s=>is_at hl2 (a:=a) ha s
 have hta:=fun a ha=>ta_at hl2 (a:=a) ha
 have hwy:=fun a ha s=>wt_y hl2 (a:=a) ha (s:=s)
 have hwn:=fun a ha s=>wt_n hl2 (a:=a) ha (s:=s)
 have hoy:=fun a ha=>wo_y hl2 (a:=a) ha
 have hon:=fun a ha=>wo_n hl2 (a:=a) ha
 have hhe:=fun a ha=>he_at hl2 (a:=a) ha
 have hcd:=fun out s hN=>contains_d out s hN
 have hcut:∀ i j,i < j → j < ts.length → real.sub2 (rU l) ((tkA ts i).at_ + 1) (tkA ts j).at_ = some (rU (cutU l ((tkA ts i).at_ + 1) (tkA ts j).at_)):=fun i j hij hj=>cut_sub l _ _ (by have:=(hat.lo i (by omega)).1;omega) (hat.up i j hij hj) (hat.lo j hj).2
 have hbd:∀ i,i < ts.length → 0 ≤ (tkA ts i).at_ ∧ (tkA ts i).at_ ≤ 65536:=fun i hi=>⟨(hat.lo i hi).1,by have:=(hat.lo i hi).2;omega⟩
 have hcl2:∀ a b,(cutU l a b).length ≤ 1048576:=fun a b=>by unfold cutU;rw [List.length_take,List.length_drop];omega
 have hcl:=fun m (h:m.length ≤ 1048576)=>CloneB_s m h
 obtain ⟨rr,hrr⟩:∃ rr,rr = modW l ts ts.length 0 []:=⟨_,rfl⟩
 rw [← hrr]
 have hi0:MdInv l ts rr (0,[]):=⟨0,[],rfl,rfl,hpos,Nat.zero_le _,hrr⟩
 obtain ⟨inv,hi⟩:∃ inv,inv = MdInv l ts rr:=⟨_,rfl⟩
 rw [← hi] at hi0
 obtain ⟨mu,hmu⟩:∃ mu:Int × List (List D) → Nat,mu = fun x=>ts.length - x.1.toNat:=⟨_,rfl⟩
 obtain ⟨X,hX⟩:∃ X,X = rDf rr.1:=⟨_,rfl⟩
 rw [← hX]
 obtain ⟨P,hP⟩:∃ P,P = rr.2.1:=⟨_,rfl⟩
 rw [← hP]
 obtain ⟨C,hC⟩:∃ C,C = rr.2.2:=⟨_,rfl⟩
 rw [← hC]
 generalize rU l = U at *
 generalize rTk ts = T at *
 refine spec_of Tryz.func11 rfl (by kernel_rfl) (by kernel_rfl) (by kernel_rfl) fun qa qb qc qd qe qf qg qh qi qj qk ql qm qn qo qp qq qs qt qu qv qw qx qy qz va vc vd ve vf vg vh vj vk vl vm vn vo vp vq vr vt vu hA=>?_
 obtain ⟨e1,e2,e3,e4,e5,e6,e7,e8,e9⟩:=ar_at hA
 obtain ⟨r1,r2,r3,r4⟩:=row_at hA
 have g0:qj 0 0 = true:=by rw [e9];rfl
 iterate 2 (try cbv;repeat ((first | refine own_at hA 9 46 true rfl ?_ | with_reducible apply next_at hA | rw [g0] | refine call_at hA _ hT rfl ?_ | refine calm_at hA _ hT ?_ | (refine callo_at hA [] hN ⟨rfl,rfl,rfl,rfl,rfl,rfl,rfl⟩ ?_;rintro _ _ ⟨rfl,rfl⟩));cbv))
 try simp (maxSteps:=4000000) only [nc] at *
 refine loop_at hA (γ:=Int × List (List D)) (fun x=>[(9,.own 2),(13,.jk),(15,.jk),(25,.jk)]) (fun x=>[(0,.box [.d (.sl 4 T),vi .i64 x.1]),(2,.row true 46 x.2)]) inv mu (0,[]) hi0 ?_ ?_
 ·cbv
 ·intro x hinv
  obtain ⟨z,L⟩:=x
  cbv
  repeat ((with_reducible apply next_at hA);cbv)
  try simp (maxSteps:=4000000) only [nc] at *
  rw [hi] at hinv
  obtain ⟨k,out,hz,hL,hk,hol,hm⟩:=hinv
  replace hz:z = (k:Int):=hz
  replace hL:L = rDf out:=hL
  have hmz:mu (z,L) = ts.length - z.toNat:=by rw [hmu]
  rw [modW_eq l hE out hk] at hm
  have h0:=hpk k hk
  rw [← hz] at h0
  by_cases c1:(tkA ts k).kind = 4
  ·rw [if_pos c1] at hm
   rw [c1] at h0
   generalize (tkA ts k).n = n0 at *
   generalize (tkA ts k).at_ = p0 at *
   generalize (tkA ts k).text = s0 at *
   have q1:qj 4 4 = true:=by rw [e9];rfl
   have hXL:X = L:=by rw [hX,hm,hL]
   have hP0:P = 0:=by rw [hP,hm]
   have hC0:C = 0:=by rw [hC,hm]
   rw [hXL,hP0,hC0]
   iterate 2 (try cbv;repeat ((first | with_reducible apply next_at hA | rw [q1] | (refine rd_at hA [0] h0 ⟨rfl,rfl,rfl,rfl,rfl,rfl,rfl⟩ rfl ?_;rintro _ rfl));cbv))
   try simp (maxSteps:=4000000) only [nc] at *
  rw [if_neg c1] at hm
  have k1:=hE k hk c1
  by_cases c2:isG (tkA ts k) gDef = false
  ·rw [if_pos c2] at hm
   have w0:=hwn k hk gDef c2
   have h3:=hhe k hk 5 (tkA ts k).at_
   rw [← hz] at w0 h3
   have w1:=wo_e T 5 (tkA ts k).at_ z (by decide)
   have w2:=wt_e T gEq 5 (tkA ts k).at_ z (by decide)
   have w3:=ok_n T 5 (tkA ts k).at_ z (by decide)
   have q1:qj (tkA ts k).kind 4 = false:=by rw [e9];exact decide_eq_false c1
   have hX0:X = []:=by rw [hX,hm];rfl
   have hP0:P = (tkA ts k).at_:=by rw [hP,hm]
   have hC0:C = 5:=by rw [hC,hm]
   rw [hX0,hP0,hC0]
   clear hm c1 c2 k1
   generalize (tkA ts k).kind = k0 at *
   generalize (tkA ts k).n = n0 at *
   generalize (tkA ts k).at_ = p0 at *
   generalize (tkA ts k).text = s0 at *
   iterate 2 (try cbv;repeat ((first | refine nil_at hA 2 2 [] rfl rfl ?_ | with_reducible apply next_at hA | rw [q1] | (refine rd_at hA [0] h0 ⟨rfl,rfl,rfl,rfl,rfl,rfl,rfl⟩ rfl ?_;rintro _ rfl) | (refine callo_at hA [1,0] w0 ⟨rfl,rfl,rfl,rfl,rfl,rfl,rfl⟩ ?_;rintro _ _ ⟨rfl,rfl⟩) | (refine rd_at hA [1,0] h3 ⟨rfl,rfl,rfl,rfl,rfl,rfl,rfl⟩ rfl ?_;rintro _ rfl) | (refine callo_at hA [1,0] w1 ⟨rfl,rfl,rfl,rfl,rfl,rfl,rfl⟩ ?_;rintro _ _ ⟨rfl,rfl⟩) | (refine callo_at hA [1,0] w2 ⟨rfl,rfl,rfl,rfl,rfl,rfl,rfl⟩ ?_;rintro _ _ ⟨rfl,rfl⟩) | (refine rd_at hA [1,0] w3 ⟨rfl,rfl,rfl,rfl,rfl,rfl,rfl⟩ rfl ?_;rintro _ rfl));cbv))
   try simp (maxSteps:=4000000) only [nc] at *
  rw [if_neg c2] at hm
  replace c2:isG (tkA ts k) gDef = true:=by simpa using c2
  have w0:=hwy k hk gDef c2
  obtain ⟨z1,hz1⟩:∃ z1,z1 = ((k + 1:Nat):Int):=⟨_,rfl⟩
  have he1:=hhe (k + 1) k1 0 0
  rw [← hz,← hz1] at w0
  rw [← hz1] at he1
  have q1:qj (tkA ts k).kind 4 = false:=by rw [e9];exact decide_eq_false c1
  by_cases c3:(tkA ts (k + 1)).kind ≠ 1
  ·rw [if_pos c3] at hm
   have w1:=hon (k + 1) k1 c3
   have h3:=hhe (k + 1) k1 5 (tkA ts (k + 1)).at_
   rw [← hz1] at w1 h3
   have w2:=wt_e T gEq 5 (tkA ts (k + 1)).at_ z1 (by decide)
   have w3:=ok_n T 5 (tkA ts (k + 1)).at_ z1 (by decide)
   have hX0:X = []:=by rw [hX,hm];rfl
   have hP0:P = (tkA ts (k + 1)).at_:=by rw [hP,hm]
   have hC0:C = 5:=by rw [hC,hm]
   rw [hX0,hP0,hC0]
   clear hm c1 c2 c3 k1
   generalize (tkA ts k).kind = k0 at *
   generalize (tkA ts k).n = n0 at *
   generalize (tkA ts k).at_ = p0 at *
   generalize (tkA ts k).text = s0 at *
   generalize (tkA ts (k + 1)).kind = k1 at *
   generalize (tkA ts (k + 1)).n = n1 at *
   generalize (tkA ts (k + 1)).at_ = p1 at *
   generalize (tkA ts (k + 1)).text = s1 at *
   iterate 2 (try cbv;repeat ((first | refine nil_at hA 2 2 [] rfl rfl ?_ | with_reducible apply next_at hA | rw [q1] | (refine rd_at hA [0] h0 ⟨rfl,rfl,rfl,rfl,rfl,rfl,rfl⟩ rfl ?_;rintro _ rfl) | (refine callo_at hA [1,0] w0 ⟨rfl,rfl,rfl,rfl,rfl,rfl,rfl⟩ ?_;rintro _ _ ⟨rfl,rfl⟩) | (refine rd_at hA [1,0] he1 ⟨rfl,rfl,rfl,rfl,rfl,rfl,rfl⟩ rfl ?_;rintro _ rfl) | (refine callo_at hA [1,0] w1 ⟨rfl,rfl,rfl,rfl,rfl,rfl,rfl⟩ ?_;rintro _ _ ⟨rfl,rfl⟩) | (refine rd_at hA [1,0] h3 ⟨rfl,rfl,rfl,rfl,rfl,rfl,rfl⟩ rfl ?_;rintro _ rfl) | (refine callo_at hA [1,0] w2 ⟨rfl,rfl,rfl,rfl,rfl,rfl,rfl⟩ ?_;rintro _ _ ⟨rfl,rfl⟩) | (refine rd_at hA [1,0] w3 ⟨rfl,rfl,rfl,rfl,rfl,rfl,rfl⟩ rfl ?_;rintro _ rfl));cbv))
   try simp (maxSteps:=4000000) only [nc] at *
  rw [if_neg c3] at hm
  replace c3:(tkA ts (k + 1)).kind = 1:=Decidable.not_not.1 c3
  have k2:=hE (k + 1) k1 (by rw [c3];decide)
  have w1:=hoy (k + 1) k1 c3
  obtain ⟨z2,hz2⟩:∃ z2,z2 = ((k + 2:Nat):Int):=⟨_,rfl⟩
  rw [← hz1,show ((k + 1 + 1:Nat):Int) = z2 from hz2.symm] at w1
  have o2:=ok_y T 0 z2
  have hc1:=hcd out (tkA ts (k + 1)).text (by omega)
  rw [← hL] at hc1
  by_cases c4:hasD out (tkA ts (k + 1)).text = true
  ·rw [if_pos c4] at hm
   rw [c4] at hc1
   have h3:=hhe (k + 2) k2 14 (tkA ts (k + 1)).at_
   rw [← hz2] at h3
   have w2:=wt_e T gEq 14 (tkA ts (k + 1)).at_ z2 (by decide)
   have w3:=ok_n T 14 (tkA ts (k + 1)).at_ z2 (by decide)
   have hX0:X = []:=by rw [hX,hm];rfl
   have hP0:P = (tkA ts (k + 1)).at_:=by rw [hP,hm]
   have hC0:C = 14:=by rw [hC,hm]
   rw [hX0,hP0,hC0]
   clear hm c1 c2 c3 c4 k1 k2 hL
   generalize (tkA ts k).kind = k0 at *
   generalize (tkA ts k).n = n0 at *
   generalize (tkA ts k).at_ = p0 at *
   generalize (tkA ts k).text = s0 at *
   generalize (tkA ts (k + 1)).kind = k1 at *
   generalize (tkA ts (k + 1)).n = n1 at *
   generalize (tkA ts (k + 1)).at_ = p1 at *
   generalize (tkA ts (k + 1)).text = s1 at *
   generalize (tkA ts (k + 2)).kind = k2 at *
   generalize (tkA ts (k + 2)).n = n2 at *
   generalize (tkA ts (k + 2)).at_ = p2 at *
   generalize (tkA ts (k + 2)).text = s2 at *
   iterate 2 (try cbv;repeat ((first | refine nil_at hA 2 2 [] rfl rfl ?_ | with_reducible apply next_at hA | rw [q1] | (refine rd_at hA [0] h0 ⟨rfl,rfl,rfl,rfl,rfl,rfl,rfl⟩ rfl ?_;rintro _ rfl) | (refine callo_at hA [1,0] w0 ⟨rfl,rfl,rfl,rfl,rfl,rfl,rfl⟩ ?_;rintro _ _ ⟨rfl,rfl⟩) | (refine rd_at hA [1,0] he1 ⟨rfl,rfl,rfl,rfl,rfl,rfl,rfl⟩ rfl ?_;rintro _ rfl) | (refine callo_at hA [1,0] w1 ⟨rfl,rfl,rfl,rfl,rfl,rfl,rfl⟩ ?_;rintro _ _ ⟨rfl,rfl⟩) | (refine rd_at hA [1,0] o2 ⟨rfl,rfl,rfl,rfl,rfl,rfl,rfl⟩ rfl ?_;rintro _ rfl) | (refine rd_at hA [2,3] hc1 ⟨rfl,rfl,rfl,rfl,rfl,rfl,rfl⟩ rfl ?_;rintro _ rfl) | (refine rd_at hA [1,0] h3 ⟨rfl,rfl,rfl,rfl,rfl,rfl,rfl⟩ rfl ?_;rintro _ rfl) | (refine callo_at hA [1,0] w2 ⟨rfl,rfl,rfl,rfl,rfl,rfl,rfl⟩ ?_;rintro _ _ ⟨rfl,rfl⟩) | (refine rd_at hA [1,0] w3 ⟨rfl,rfl,rfl,rfl,rfl,rfl,rfl⟩ rfl ?_;rintro _ rfl));cbv))
   try simp (maxSteps:=4000000) only [nc] at *
  rw [if_neg c4] at hm
  replace c4:hasD out (tkA ts (k + 1)).text = false:=by simpa using c4
  rw [c4] at hc1
  have he2:=hhe (k + 2) k2 0 0
  rw [← hz2] at he2
  by_cases c5:isG (tkA ts (k + 2)) gEq = false
  ·rw [if_pos c5] at hm
   have w2:=hwn (k + 2) k2 gEq c5
   rw [← hz2] at w2
   have w3:=ok_n T 5 (tkA ts (k + 2)).at_ z2 (by decide)
   have hX0:X = []:=by rw [hX,hm];rfl
   have hP0:P = (tkA ts (k + 2)).at_:=by rw [hP,hm]
   have hC0:C = 5:=by rw [hC,hm]
   rw [hX0,hP0,hC0]
   clear hm c1 c2 c3 c4 c5 k1 k2 hL
   generalize (tkA ts k).kind = k0 at *
   generalize (tkA ts k).n = n0 at *
   generalize (tkA ts k).at_ = p0 at *
   generalize (tkA ts k).text = s0 at *
   generalize (tkA ts (k + 1)).kind = k1 at *
   generalize (tkA ts (k + 1)).n = n1 at *
   generalize (tkA ts (k + 1)).at_ = p1 at *
   generalize (tkA ts (k + 1)).text = s1 at *
   generalize (tkA ts (k + 2)).kind = k2 at *
   generalize (tkA ts (k + 2)).n = n2 at *
   generalize (tkA ts (k + 2)).at_ = p2 at *
   generalize (tkA ts (k + 2)).text = s2 at *
   iterate 2 (try cbv;repeat ((first | refine nil_at hA 2 2 [] rfl rfl ?_ | with_reducible apply next_at hA | rw [q1] | (refine rd_at hA [0] h0 ⟨rfl,rfl,rfl,rfl,rfl,rfl,rfl⟩ rfl ?_;rintro _ rfl) | (refine callo_at hA [1,0] w0 ⟨rfl,rfl,rfl,rfl,rfl,rfl,rfl⟩ ?_;rintro _ _ ⟨rfl,rfl⟩) | (refine rd_at hA [1,0] he1 ⟨rfl,rfl,rfl,rfl,rfl,rfl,rfl⟩ rfl ?_;rintro _ rfl) | (refine callo_at hA [1,0] w1 ⟨rfl,rfl,rfl,rfl,rfl,rfl,rfl⟩ ?_;rintro _ _ ⟨rfl,rfl⟩) | (refine rd_at hA [1,0] o2 ⟨rfl,rfl,rfl,rfl,rfl,rfl,rfl⟩ rfl ?_;rintro _ rfl) | (refine rd_at hA [2,3] hc1 ⟨rfl,rfl,rfl,rfl,rfl,rfl,rfl⟩ rfl ?_;rintro _ rfl) | (refine rd_at hA [1,0] he2 ⟨rfl,rfl,rfl,rfl,rfl,rfl,rfl⟩ rfl ?_;rintro _ rfl) | (refine callo_at hA [1,0] w2 ⟨rfl,rfl,rfl,rfl,rfl,rfl,rfl⟩ ?_;rintro _ _ ⟨rfl,rfl⟩) | (refine rd_at hA [1,0] w3 ⟨rfl,rfl,rfl,rfl,rfl,rfl,rfl⟩ rfl ?_;rintro _ rfl));cbv))
   try simp (maxSteps:=4000000) only [nc] at *
  rw [if_neg c5] at hm
  replace c5:isG (tkA ts (k + 2)) gEq = true:=by simpa using c5
  have k3:=hE (k + 2) k2 (by rw [isG_kind c5];decide)
  have w2:=hwy (k + 2) k2 gEq c5
  obtain ⟨z3,hz3⟩:∃ z3,z3 = ((k + 3:Nat):Int):=⟨_,rfl⟩
  rw [← hz2,show ((k + 2 + 1:Nat):Int) = z3 from hz3.symm] at w2
  have o3:=ok_y T 0 z3
  have hbd2:=hbd (k + 2) k2
  have hcu2:=hcut (k + 2)
  obtain ⟨inv2,hi2⟩:∃ inv2,inv2 = MdIn2 ts k:=⟨_,rfl⟩
  have hi20:inv2 z3:=by rw [hi2];exact ⟨k + 3,hz3,Nat.le_refl _,k3,rfl⟩
  obtain ⟨mu2,hmu2⟩:∃ mu2:Int → Nat,mu2 = fun y=>ts.length - y.toNat:=⟨_,rfl⟩
  obtain ⟨f1,hf1⟩:∃ f1,f1 = (tkA ts (k + 2)).at_ + 1:=⟨_,rfl⟩
  rw [← hf1] at hm
  have q2:qa .i64 (qb (tkA ts (k + 2)).at_ 1) = f1:=by rw [e1,e2,hf1,IntWalk.i64_in _ (by omega)]
  simp only [← hf1] at hcu2
  clear c1 c2 c3 c4 c5
  generalize (tkA ts k).kind = k0 at *
  generalize (tkA ts k).n = n0 at *
  generalize (tkA ts k).at_ = p0 at *
  generalize (tkA ts k).text = s0 at *
  generalize (tkA ts (k + 1)).kind = k1 at *
  generalize (tkA ts (k + 1)).n = n1 at *
  generalize (tkA ts (k + 1)).at_ = p1 at *
  generalize (tkA ts (k + 1)).text = s1 at *
  generalize (tkA ts (k + 2)).kind = k2 at *
  generalize (tkA ts (k + 2)).n = n2 at *
  generalize (tkA ts (k + 2)).at_ = p2 at *
  generalize (tkA ts (k + 2)).text = s2 at *
  iterate 2 (try cbv;repeat ((first | with_reducible apply next_at hA | rw [q1] | rw [q2] | (refine rd_at hA [0] h0 ⟨rfl,rfl,rfl,rfl,rfl,rfl,rfl⟩ rfl ?_;rintro _ rfl) | (refine callo_at hA [1,0] w0 ⟨rfl,rfl,rfl,rfl,rfl,rfl,rfl⟩ ?_;rintro _ _ ⟨rfl,rfl⟩) | (refine rd_at hA [1,0] he1 ⟨rfl,rfl,rfl,rfl,rfl,rfl,rfl⟩ rfl ?_;rintro _ rfl) | (refine callo_at hA [1,0] w1 ⟨rfl,rfl,rfl,rfl,rfl,rfl,rfl⟩ ?_;rintro _ _ ⟨rfl,rfl⟩) | (refine rd_at hA [1,0] o2 ⟨rfl,rfl,rfl,rfl,rfl,rfl,rfl⟩ rfl ?_;rintro _ rfl) | (refine rd_at hA [2,3] hc1 ⟨rfl,rfl,rfl,rfl,rfl,rfl,rfl⟩ rfl ?_;rintro _ rfl) | (refine rd_at hA [1,0] he2 ⟨rfl,rfl,rfl,rfl,rfl,rfl,rfl⟩ rfl ?_;rintro _ rfl) | (refine callo_at hA [1,0] w2 ⟨rfl,rfl,rfl,rfl,rfl,rfl,rfl⟩ ?_;rintro _ _ ⟨rfl,rfl⟩) | (refine rd_at hA [1,0] o3 ⟨rfl,rfl,rfl,rfl,rfl,rfl,rfl⟩ rfl ?_;rintro _ rfl));cbv))
  try simp (maxSteps:=4000000) only [nc] at *
  refine loop_at hA (γ:=Int) (fun y=>[]) (fun y=>[(0,.box [.d (.sl 4 T),vi .i64 y])]) inv2 mu2 z3 hi20 ?_ ?_
  ·cbv
  ·intro y hinv2
   cbv
   repeat ((with_reducible apply next_at hA);cbv)
   try simp (maxSteps:=4000000) only [nc] at *
   rw [hi2] at hinv2
   obtain ⟨j,hy,hkj,hj,hde⟩:=hinv2
   replace hy:y = (j:Int):=hy
   have i0:=his j hj gDef
   have j0:=hpk j hj
   have jh:=hhe j hj 0 0
   rw [← hy] at i0 j0 jh
   by_cases d1:isG (tkA ts j) gDef = true
   ·rw [d1] at i0
    have hdj:defEnd ts ts.length (k + 3) = j:=by rw [hde];exact defEnd_stop hj (.inr d1)
    rw [hdj] at hm
    have hcu:=hcu2 j (by omega) hj
    have hc9:=hcl (cutU l f1 (tkA ts j).at_) (hcl2 _ _)
    have hsn:=rDf_snoc out s1 (cutU l f1 (tkA ts j).at_)
    have hin:inv (y,L ++ [[.sc (.string s1),.sl 1 (rU (cutU l f1 (tkA ts j).at_))]]):=by
     rw [hi]
     exact ⟨j,_,hy,by rw [hL,hsn],hj,by rw [List.length_append,List.length_singleton];omega,hm⟩
    have hmu9:mu (y,L ++ [[.sc (.string s1),.sl 1 (rU (cutU l f1 (tkA ts j).at_))]]) < mu (z,L):=by rw [hmu];show ts.length - y.toNat < ts.length - z.toNat;omega
    have hLl:L.length ≤ 65537:=by rw [hL,rDf_len];omega
    clear hm hsn hde hdj
    generalize rU (cutU l f1 (tkA ts j).at_) = U9 at *
    generalize (tkA ts j).kind = k9 at *
    generalize (tkA ts j).n = n9 at *
    generalize (tkA ts j).at_ = p9 at *
    generalize (tkA ts j).text = s9 at *
    have q3:qz U f1 p9 = some U9:=by rw [r3];exact hcu
    have q4:va L [[.sc (.string s1),.sl 1 U9]] = L ++ [[.sc (.string s1),.sl 1 U9]]:=by rw [r4]
    clear hL
    iterate 2 (try cbv;repeat ((first | with_reducible apply next_at hA | rw [q2] | rw [q3] | rw [q4] | refine call_at hA _ hc9 rfl ?_ | refine calm_at hA _ hc9 ?_ | refine lit_at hA true ?_ | (refine room_at hA (by simp only [List.length_cons,List.length_nil];omega) ?_) | (refine rd_at hA [0] i0 ⟨rfl,rfl,rfl,rfl,rfl,rfl,rfl⟩ rfl ?_;rintro _ rfl) | (refine rd_at hA [1,0] jh ⟨rfl,rfl,rfl,rfl,rfl,rfl,rfl⟩ rfl ?_;rintro _ rfl));cbv))
    try simp (maxSteps:=4000000) only [nc] at *
    refine ⟨_,hin,hmu9,?_⟩
    cbv
   ·replace d1:isG (tkA ts j) gDef = false:=by simpa using d1
    rw [d1] at i0
    by_cases d2:(tkA ts j).kind = 4
    ·have q5:qj (tkA ts j).kind 4 = true:=by rw [e9];exact decide_eq_true d2
     have hdj:defEnd ts ts.length (k + 3) = j:=by rw [hde];exact defEnd_stop hj (.inl d2)
     rw [hdj] at hm
     have hcu:=hcu2 j (by omega) hj
     have hc9:=hcl (cutU l f1 (tkA ts j).at_) (hcl2 _ _)
     have hsn:=rDf_snoc out s1 (cutU l f1 (tkA ts j).at_)
     have hin:inv (y,L ++ [[.sc (.string s1),.sl 1 (rU (cutU l f1 (tkA ts j).at_))]]):=by
      rw [hi]
      exact ⟨j,_,hy,by rw [hL,hsn],hj,by rw [List.length_append,List.length_singleton];omega,hm⟩
     have hmu9:mu (y,L ++ [[.sc (.string s1),.sl 1 (rU (cutU l f1 (tkA ts j).at_))]]) < mu (z,L):=by rw [hmu];show ts.length - y.toNat < ts.length - z.toNat;omega
     have hLl:L.length ≤ 65537:=by rw [hL,rDf_len];omega
     clear hm hsn hde hdj
     generalize rU (cutU l f1 (tkA ts j).at_) = U9 at *
     generalize (tkA ts j).kind = k9 at *
     generalize (tkA ts j).n = n9 at *
     generalize (tkA ts j).at_ = p9 at *
     generalize (tkA ts j).text = s9 at *
     have q3:qz U f1 p9 = some U9:=by rw [r3];exact hcu
     have q4:va L [[.sc (.string s1),.sl 1 U9]] = L ++ [[.sc (.string s1),.sl 1 U9]]:=by rw [r4]
     clear hL
     iterate 2 (try cbv;repeat ((first | with_reducible apply next_at hA | rw [q2] | rw [q3] | rw [q4] | rw [q5] | refine call_at hA _ hc9 rfl ?_ | refine calm_at hA _ hc9 ?_ | refine lit_at hA true ?_ | (refine room_at hA (by simp only [List.length_cons,List.length_nil];omega) ?_) | (refine rd_at hA [0] i0 ⟨rfl,rfl,rfl,rfl,rfl,rfl,rfl⟩ rfl ?_;rintro _ rfl) | (refine rd_at hA [0] j0 ⟨rfl,rfl,rfl,rfl,rfl,rfl,rfl⟩ rfl ?_;rintro _ rfl) | (refine rd_at hA [1,0] jh ⟨rfl,rfl,rfl,rfl,rfl,rfl,rfl⟩ rfl ?_;rintro _ rfl));cbv))
     try simp (maxSteps:=4000000) only [nc] at *
     refine ⟨_,hin,hmu9,?_⟩
     cbv
    ·have q5:qj (tkA ts j).kind 4 = false:=by rw [e9];exact decide_eq_false d2
     obtain ⟨d3,d4⟩:=defEnd_step hE hj d2 d1
     have jt:=hta j hj
     obtain ⟨y1,hy1⟩:∃ y1,y1 = ((j + 1:Nat):Int):=⟨_,rfl⟩
     rw [← hy,← hy1] at jt
     have hin2:inv2 y1:=by rw [hi2];exact ⟨j + 1,hy1,by omega,d4,by rw [hde,d3]⟩
     have hmu9:mu2 y1 < mu2 y:=by rw [hmu2];show ts.length - y1.toNat < ts.length - y.toNat;omega
     clear hde d1 d2 d3 d4
     generalize (tkA ts j).kind = k9 at *
     generalize (tkA ts j).n = n9 at *
     generalize (tkA ts j).at_ = p9 at *
     generalize (tkA ts j).text = s9 at *
     iterate 2 (try cbv;repeat ((first | with_reducible apply next_at hA | rw [q5] | (refine rd_at hA [0] i0 ⟨rfl,rfl,rfl,rfl,rfl,rfl,rfl⟩ rfl ?_;rintro _ rfl) | (refine rd_at hA [0] j0 ⟨rfl,rfl,rfl,rfl,rfl,rfl,rfl⟩ rfl ?_;rintro _ rfl) | (refine callo_at hA [0] jt ⟨rfl,rfl,rfl,rfl,rfl,rfl,rfl⟩ ?_;rintro _ _ ⟨rfl,rfl⟩));cbv))
     try simp (maxSteps:=4000000) only [nc] at *
     refine ⟨_,hin2,hmu9,?_⟩
     cbv
theorem Module_s (l:List UInt8) (hl:l.length ≤ 65536):MdN (rU l) (rDf (moduleW l).1) (moduleW l).2.1 (moduleW l).2.2:=by
 have hT:=Tokens_s l hl
 have hok:=toks_ok (numsU l)
 have hat:=ats_ok (numsU l)
 have hln:(numsU l).length = l.length:=by unfold numsU;rw [List.length_map]
 unfold moduleW
 generalize scanS (numsU l) 0 false [] = r at *
 by_cases h0:r.2.2 = 0
 ·rw [if_neg (fun h=>h h0)]
  obtain ⟨hE,hN,hpos,hle⟩:=hok h0
  rw [h0] at hT
  have hne:rTk r.1 ≠ []:=fun h=>by have:=congrArg List.length h;rw [rTk_len] at this;simp at this;rw [this] at hpos;simp at hpos
  have hNR:=NewReader_s (rTk r.1) hne (by rw [rTk_len];omega)
  unfold rdB at hNR
  exact md_ok l hl hE (hln ▸ hat h0) hpos (by omega) hT hNR
 ·rw [if_pos h0]
  exact md_tok h0 hT
end
abbrev SgM (f:Nat) (T:List (List D)) (s:ByteArray) (a:Int) (b:Bool):Prop:=Spec f [.one (.sl 4 T),.one (.sc (.int .i64 a)),.one (.sc (.string s))] [.one (.sc (.bool b))]
theorem signM_s (ts:List Tok) (a:Nat) (ha:a < ts.length) (hl:ts.length ≤ 1048576) (s:ByteArray):SgM 61 (rTk ts) s (a:Int) (isG (tkA ts a) s):=by
 have hg:=rTk_get (tkA_is ha)
 have hln:=rTk_len ts
 unfold isG
 unfold tkD at hg
 generalize (tkA ts a).kind = tk at *
 generalize (tkA ts a).text = tx at *
 generalize (tkA ts a).n = tn at *
 generalize (tkA ts a).at_ = ta at *
 generalize rTk ts = T at *
 obtain ⟨z,hz⟩:∃ z,z = (a:Int):=⟨_,rfl⟩
 rw [← hz]
 obtain ⟨b,hb⟩:∃ b,b = (tx.toList == s.toList):=⟨_,rfl⟩
 obtain ⟨c,hc⟩:∃ c,c = (tk == 3):=⟨_,rfl⟩
 rw [← hb,← hc]
 refine spec_of Tryz.func61 rfl (by kernel_rfl) (by kernel_rfl) (by kernel_rfl) fun qa qb qc qd qe qf qg qh qi qj qk ql qm qn qo qp qq qs qt qu qv qw qx qy qz va vc vd ve vf vg vh vj vk vl vm vn vo vp vq vr vt vu hA=>?_
 obtain ⟨e1,e2,e3,e4,e5,e6,e7,e8,e9⟩:=ar_at hA
 obtain ⟨s1,s2,s3,s4,s5,s6,s7⟩:=str_at hA
 obtain ⟨r1,r2,r3,r4⟩:=row_at hA
 have q0:qh z (qx T) = true:=by rw [e7,r1,hln,hz];exact decide_eq_true (by omega)
 have q1:qj tk 3 = c:=by rw [e9,hc]
 have q2:ql (qn tx) (qn s) = b:=by rw [s1,s3,s3,hb]
 have g:qy T z = some [.sc (.int .u8 tk),.sc (.string tx),.sc (.int .i64 tn),.sc (.int .i64 ta)]:=by rw [r2,hz,if_pos (by omega),show ((a:Int)).toNat = a by omega];exact hg
 cases c
 ·iterate 2 (try cbv;repeat ((first | with_reducible apply next_at hA | rw [q0] | rw [q1] | rw [g]);cbv))
  try simp (maxSteps:=4000000) only [nc] at *
 ·iterate 2 (try cbv;repeat ((first | with_reducible apply next_at hA | rw [q0] | rw [q1] | rw [q2] | rw [g]);cbv))
  try simp (maxSteps:=4000000) only [nc] at *
theorem sign6_s {T:List (List D)} {s:ByteArray} {a:Int} {b:Bool} (h:SgM 61 T s a b):SgM 36 T s a b:=by
 refine spec_of Tryz.func36 rfl (by kernel_rfl) (by kernel_rfl) (by kernel_rfl) fun qa qb qc qd qe qf qg qh qi qj qk ql qm qn qo qp qq qs qt qu qv qw qx qy qz va vc vd ve vf vg vh vj vk vl vm vn vo vp vq vr vt vu hA=>?_
 iterate 2 (try cbv;repeat ((first | with_reducible apply next_at hA | refine call_at hA _ h rfl ?_ | refine calm_at hA _ h ?_);cbv))
 try simp (maxSteps:=4000000) only [nc] at *
abbrev MrN (B:List (List D)) (x:List (List D)) (p c:Int):Prop:=Spec 12 [.one (.sl 1 B)] [.one (.sl 2 x),.one (.sc (.int .i64 p)),.one (.sc (.int .i64 c))]
theorem mr_tok {B T:List (List D)} {p c:Int} (hc:c ≠ 0) (hT:Spec 24 [.one (.sl 1 B)] [.one (.sl 4 T),.one (.sc (.int .i64 p)),.one (.sc (.int .i64 c))]):MrN B [] p c:=by
 refine spec_of Tryz.func12 rfl (by kernel_rfl) (by kernel_rfl) (by kernel_rfl) fun qa qb qc qd qe qf qg qh qi qj qk ql qm qn qo qp qq qs qt qu qv qw qx qy qz va vc vd ve vf vg vh vj vk vl vm vn vo vp vq vr vt vu hA=>?_
 obtain ⟨e1,e2,e3,e4,e5,e6,e7,e8,e9⟩:=ar_at hA
 have g1:qj c 0 = false:=by rw [e9];exact decide_eq_false hc
 iterate 2 (try cbv;repeat ((first | refine nil_at hA 2 2 [] rfl rfl ?_ | with_reducible apply next_at hA | rw [g1] | refine call_at hA _ hT rfl ?_ | refine calm_at hA _ hT ?_);cbv))
 try simp (maxSteps:=4000000) only [nc] at *
def MrIn1 (out:DefL) (s:ByteArray) (y:Int):Prop:=∃ m:Nat,y = (m:Int) ∧ m ≤ out.length ∧ (out.take m).any (fun d=>d.1.toList == s.toList) = false
theorem mr_ok (l:List UInt8) (hl:l.length ≤ 65536) {ts:List Tok} {p:Int} (hE:EndsT ts) (hat:AtsT l.length ts) (hpos:0 < ts.length) (hlt:ts.length ≤ 65537) (hT:Spec 24 [.one (.sl 1 (rU l))] [.one (.sl 4 (rTk ts)),.one (.sc (.int .i64 p)),.one (.sc (.int .i64 0))]) :
  MrN (rU l) (rDf (modW l ts ts.length 0 []).1) (modW l ts ts.length 0 []).2.1 (modW l ts ts.length 0 []).2.2:=by
 have hl2:ts.length ≤ 1048576:=by omega
 have hsg:=fun a ha s=>sign6_s (signM_s ts a ha hl2 s)
 have hgt:∀ a,a < ts.length → (rTk ts)[a]? = some [.sc (.int .u8 (tkA ts a).kind),.sc (.string (tkA ts a).text),.sc (.int .i64 (tkA ts a).n),.sc (.int .i64 (tkA ts a).at_)]:=fun a ha=>rTk_get (tkA_is ha)
 have hcut:∀ i j,i < j → j < ts.length → real.sub2 (rU l) ((tkA ts i).at_ + 1) (tkA ts j).at_ = some (rU (cutU l ((tkA ts i).at_ + 1) (tkA ts j).at_)):=fun i j hij hj=>cut_sub l _ _ (by have:=(hat.lo i (by omega)).1;omega) (hat.up i j hij hj) (hat.lo j hj).2
 have hbd:∀ i,i < ts.length → 0 ≤ (tkA ts i).at_ ∧ (tkA ts i).at_ ≤ 65536:=fun i hi=>⟨(hat.lo i hi).1,by have:=(hat.lo i hi).2;omega⟩
 obtain ⟨rr,hrr⟩:∃ rr,rr = modW l ts ts.length 0 []:=⟨_,rfl⟩
 rw [← hrr]
 have hi0:MdInv l ts rr (0,[]):=⟨0,[],rfl,rfl,hpos,Nat.zero_le _,hrr⟩
 obtain ⟨inv,hi⟩:∃ inv,inv = MdInv l ts rr:=⟨_,rfl⟩
 rw [← hi] at hi0
 obtain ⟨mu,hmu⟩:∃ mu:Int × List (List D) → Nat,mu = fun x=>ts.length - x.1.toNat:=⟨_,rfl⟩
 obtain ⟨X,hX⟩:∃ X,X = rDf rr.1:=⟨_,rfl⟩
 rw [← hX]
 obtain ⟨P,hP⟩:∃ P,P = rr.2.1:=⟨_,rfl⟩
 rw [← hP]
 obtain ⟨C,hC⟩:∃ C,C = rr.2.2:=⟨_,rfl⟩
 rw [← hC]
 generalize rU l = U at *
 generalize rTk ts = T at *
 refine spec_of Tryz.func12 rfl (by kernel_rfl) (by kernel_rfl) (by kernel_rfl) fun qa qb qc qd qe qf qg qh qi qj qk ql qm qn qo qp qq qs qt qu qv qw qx qy qz va vc vd ve vf vg vh vj vk vl vm vn vo vp vq vr vt vu hA=>?_
 obtain ⟨e1,e2,e3,e4,e5,e6,e7,e8,e9⟩:=ar_at hA
 obtain ⟨r1,r2,r3,r4⟩:=row_at hA
 obtain ⟨s1,s2,s3,s4,s5,s6,s7⟩:=str_at hA
 have g0:qj 0 0 = true:=by rw [e9];rfl
 have gat:∀ (a:Nat) (y:Int),a < ts.length → y = (a:Int) → qy T y = some [.sc (.int .u8 (tkA ts a).kind),.sc (.string (tkA ts a).text),.sc (.int .i64 (tkA ts a).n),.sc (.int .i64 (tkA ts a).at_)]:=fun a y ha hy=>by rw [r2,hy,if_pos (by omega),show ((a:Int)).toNat = a by omega];exact hgt a ha
 iterate 2 (try cbv;repeat ((first | refine own_at hA 8 46 true rfl ?_ | with_reducible apply next_at hA | rw [g0] | refine call_at hA _ hT rfl ?_ | refine calm_at hA _ hT ?_);cbv))
 try simp (maxSteps:=4000000) only [nc] at *
 refine loop_at hA (γ:=Int × List (List D)) (fun x=>[(8,.own 0),(9,vi .i64 x.1),(12,.jk),(14,.jk)]) (fun x=>[(0,.row true 46 x.2)]) inv mu (0,[]) hi0 ?_ ?_
 ·cbv
 ·intro x hinv
  obtain ⟨z,L⟩:=x
  cbv
  repeat ((with_reducible apply next_at hA);cbv)
  try simp (maxSteps:=4000000) only [nc] at *
  rw [hi] at hinv
  obtain ⟨k,out,hz,hL,hk,hol,hm⟩:=hinv
  replace hz:z = (k:Int):=hz
  replace hL:L = rDf out:=hL
  rw [modW_eq l hE out hk] at hm
  have a0:=gat k z hk hz
  by_cases c1:(tkA ts k).kind = 4
  ·rw [if_pos c1] at hm
   have q1:qj (tkA ts k).kind 4 = true:=by rw [e9];exact decide_eq_true c1
   have hXL:X = L:=by rw [hX,hm,hL]
   have hP0:P = 0:=by rw [hP,hm]
   have hC0:C = 0:=by rw [hC,hm]
   rw [hXL,hP0,hC0]
   clear hm c1
   generalize (tkA ts k).kind = k0 at *
   generalize (tkA ts k).n = n0 at *
   generalize (tkA ts k).at_ = p0 at *
   generalize (tkA ts k).text = s0_ at *
   iterate 2 (try cbv;repeat ((first | with_reducible apply next_at hA | rw [a0] | rw [q1]);cbv))
   try simp (maxSteps:=4000000) only [nc] at *
  rw [if_neg c1] at hm
  have k1:=hE k hk c1
  have q1:qj (tkA ts k).kind 4 = false:=by rw [e9];exact decide_eq_false c1
  have g1:=hsg k hk gDef
  rw [← hz] at g1
  by_cases c2:isG (tkA ts k) gDef = false
  ·rw [if_pos c2] at hm
   rw [c2] at g1
   have hX0:X = []:=by rw [hX,hm];rfl
   have hP0:P = (tkA ts k).at_:=by rw [hP,hm]
   have hC0:C = 5:=by rw [hC,hm]
   rw [hX0,hP0,hC0]
   clear hm c1 c2 k1
   generalize (tkA ts k).kind = k0 at *
   generalize (tkA ts k).n = n0 at *
   generalize (tkA ts k).at_ = p0 at *
   generalize (tkA ts k).text = s0_ at *
   iterate 2 (try cbv;repeat ((first | refine nil_at hA 2 2 [] rfl rfl ?_ | with_reducible apply next_at hA | rw [a0] | rw [q1] | refine call_at hA _ g1 rfl ?_ | refine calm_at hA _ g1 ?_);cbv))
   try simp (maxSteps:=4000000) only [nc] at *
  rw [if_neg c2] at hm
  replace c2:isG (tkA ts k) gDef = true:=by simpa using c2
  rw [c2] at g1
  obtain ⟨z1,hz1⟩:∃ z1,z1 = ((k + 1:Nat):Int):=⟨_,rfl⟩
  have w1:qa .i64 (qb z 1) = z1:=by rw [e1,e2,hz,hz1,IntWalk.i64_in _ (by omega)];omega
  have a1:=gat (k + 1) z1 k1 hz1
  by_cases c3:(tkA ts (k + 1)).kind ≠ 1
  ·rw [if_pos c3] at hm
   have q2:qj (tkA ts (k + 1)).kind 1 = false:=by rw [e9];exact decide_eq_false c3
   have hX0:X = []:=by rw [hX,hm];rfl
   have hP0:P = (tkA ts (k + 1)).at_:=by rw [hP,hm]
   have hC0:C = 5:=by rw [hC,hm]
   rw [hX0,hP0,hC0]
   clear hm c1 c2 c3 k1
   generalize (tkA ts k).kind = k0 at *
   generalize (tkA ts k).n = n0 at *
   generalize (tkA ts k).at_ = p0 at *
   generalize (tkA ts k).text = s0_ at *
   generalize (tkA ts (k + 1)).kind = k1 at *
   generalize (tkA ts (k + 1)).n = n1 at *
   generalize (tkA ts (k + 1)).at_ = p1 at *
   generalize (tkA ts (k + 1)).text = s1_ at *
   iterate 2 (try cbv;repeat ((first | refine nil_at hA 2 2 [] rfl rfl ?_ | with_reducible apply next_at hA | rw [a0] | rw [a1] | rw [q1] | rw [q2] | rw [w1] | refine call_at hA _ g1 rfl ?_ | refine calm_at hA _ g1 ?_);cbv))
   try simp (maxSteps:=4000000) only [nc] at *
  rw [if_neg c3] at hm
  replace c3:(tkA ts (k + 1)).kind = 1:=Decidable.not_not.1 c3
  have q2:qj (tkA ts (k + 1)).kind 1 = true:=by rw [e9];exact decide_eq_true c3
  have k2:=hE (k + 1) k1 (by rw [c3];decide)
  have hout:out.length ≤ 65537:=by omega
  have hLl:L.length = out.length:=by rw [hL,rDf_len]
  obtain ⟨z2,hz2⟩:∃ z2,z2 = ((k + 2:Nat):Int):=⟨_,rfl⟩
  have w2:qa .i64 (qb z 2) = z2:=by rw [e1,e2,hz,hz2,IntWalk.i64_in _ (by omega)];omega
  have a2:=gat (k + 2) z2 k2 hz2
  have hbd2:=hbd (k + 2) k2
  have hcu2:=hcut (k + 2)
  obtain ⟨f1,hf1⟩:∃ f1,f1 = (tkA ts (k + 2)).at_ + 1:=⟨_,rfl⟩
  rw [← hf1] at hm
  have w4:qa .i64 (qb (tkA ts (k + 2)).at_ 1) = f1:=by rw [e1,e2,hf1,IntWalk.i64_in _ (by omega)]
  simp only [← hf1] at hcu2
  have g2:=hsg (k + 2) k2 gEq
  rw [← hz2] at g2
  have k3i:isG (tkA ts (k + 2)) gEq = true → k + 3 < ts.length:=fun h=>hE (k + 2) k2 (by rw [isG_kind h];decide)
  generalize isG (tkA ts (k + 2)) gEq = bq at *
  clear c1 c2 c3
  generalize (tkA ts k).kind = k0 at *
  generalize (tkA ts k).n = n0 at *
  generalize (tkA ts k).at_ = p0 at *
  generalize (tkA ts k).text = s0_ at *
  generalize (tkA ts (k + 1)).kind = k1 at *
  generalize (tkA ts (k + 1)).n = n1 at *
  generalize (tkA ts (k + 1)).at_ = p1 at *
  generalize (tkA ts (k + 1)).text = s1_ at *
  generalize (tkA ts (k + 2)).kind = k2 at *
  generalize (tkA ts (k + 2)).n = n2 at *
  generalize (tkA ts (k + 2)).at_ = p2 at *
  generalize (tkA ts (k + 2)).text = s2_ at *
  obtain ⟨hd,hhd⟩:∃ hd,hd = hasD out s1_:=⟨_,rfl⟩
  rw [← hhd] at hm
  obtain ⟨inv1,hi1⟩:∃ inv1,inv1 = MrIn1 out s1_:=⟨_,rfl⟩
  have hi10:inv1 0:=by rw [hi1];exact ⟨0,rfl,Nat.zero_le _,rfl⟩
  obtain ⟨mu1,hmu1⟩:∃ mu1:Int → Nat,mu1 = fun y=>out.length - y.toNat:=⟨_,rfl⟩
  iterate 2 (try cbv;repeat ((first | with_reducible apply next_at hA | rw [a0] | rw [a1] | rw [q1] | rw [q2] | rw [w1] | refine call_at hA _ g1 rfl ?_ | refine calm_at hA _ g1 ?_);cbv))
  try simp (maxSteps:=4000000) only [nc] at *
  refine loop_at hA (γ:=Int) (fun y=>[(10,vi .i64 y)]) (fun y=>[]) inv1 mu1 0 hi10 ?_ ?_
  ·cbv
  ·intro y hinv1
   cbv
   repeat ((with_reducible apply next_at hA);cbv)
   try simp (maxSteps:=4000000) only [nc] at *
   rw [hi1] at hinv1
   obtain ⟨m,hy,hmo,hany⟩:=hinv1
   replace hy:y = (m:Int):=hy
   have hlt2:qh y (qx L) = decide (m < out.length):=by rw [e7,r1,hLl,hy];exact decide_eq_decide.2 (by omega)
   by_cases h9:m < out.length
   ·rw [decide_eq_true h9] at hlt2
    obtain ⟨d,hd9⟩:∃ d,out[m]? = some d:=⟨_,List.getElem?_eq_getElem h9⟩
    have gx:qy L y = some [.sc (.string d.1),.sl 1 (rU d.2)]:=by rw [r2,hy,if_pos (by omega),hL,show ((m:Int)).toNat = m by omega,rDf_get hd9]
    have hse:ql (qn d.1) (qn s1_) = (d.1.toList == s1_.toList):=by rw [s1,s3,s3]
    cases hpx:(d.1.toList == s1_.toList) with
    | true =>
     rw [hpx] at hse
     have hd1:hd = true:=by rw [hhd];unfold hasD;exact List.any_eq_true.2 ⟨_,List.mem_of_getElem? hd9,hpx⟩
     rw [if_pos hd1] at hm
     have hX0:X = []:=by rw [hX,hm];rfl
     have hP0:P = p1:=by rw [hP,hm]
     have hC0:C = 14:=by rw [hC,hm]
     rw [hX0,hP0,hC0]
     clear hm hpx hd9 hany
     obtain ⟨dn,dt⟩:=d
     generalize rU dt = D9 at *
     rw [hlt2]
     iterate 2 (try cbv;repeat ((first | refine nil_at hA 2 2 [] rfl rfl ?_ | with_reducible apply next_at hA | rw [gx] | rw [a1] | rw [w1] | rw [hse]);cbv))
     try simp (maxSteps:=4000000) only [nc] at *
    | false =>
     rw [hpx] at hse
     have hy1:qa .i64 (qb y 1) = ((m + 1:Nat):Int):=by rw [e1,e2,hy,IntWalk.i64_in _ (by omega)];omega
     have hin1:inv1 (qa .i64 (qb y 1)):=by rw [hi1];exact ⟨m + 1,hy1,h9,any_take hd9 hany hpx⟩
     have hmu9:mu1 (qa .i64 (qb y 1)) < mu1 y:=by rw [hmu1,hy1];show out.length - ((m + 1:Nat):Int).toNat < out.length - y.toNat;omega
     clear hm hpx hd9 hany
     obtain ⟨dn,dt⟩:=d
     generalize rU dt = D9 at *
     rw [hlt2]
     iterate 2 (try cbv;repeat ((first | with_reducible apply next_at hA | rw [gx] | rw [a1] | rw [w1] | rw [hse]);cbv))
     try simp (maxSteps:=4000000) only [nc] at *
     refine ⟨_,hin1,hmu9,?_⟩
     cbv
   ·rw [decide_eq_false h9] at hlt2
    have hd0:hd = false:=by rw [hhd];unfold hasD;rw [← List.take_of_length_le (l:=out) (i:=m) (by omega)];exact hany
    rw [if_neg (by rw [hd0];decide)] at hm
    rw [hlt2]
    by_cases c5:bq = false
    ·rw [if_pos c5] at hm
     rw [c5] at g2
     have hX0:X = []:=by rw [hX,hm];rfl
     have hP0:P = p2:=by rw [hP,hm]
     have hC0:C = 5:=by rw [hC,hm]
     rw [hX0,hP0,hC0]
     clear hm
     iterate 2 (try cbv;repeat ((first | refine nil_at hA 2 2 [] rfl rfl ?_ | with_reducible apply next_at hA | rw [a2] | rw [w2] | refine call_at hA _ g2 rfl ?_ | refine calm_at hA _ g2 ?_);cbv))
     try simp (maxSteps:=4000000) only [nc] at *
    rw [if_neg c5] at hm
    replace c5:bq = true:=by simpa using c5
    rw [c5] at g2
    have k3:=k3i c5
    obtain ⟨z3,hz3⟩:∃ z3,z3 = ((k + 3:Nat):Int):=⟨_,rfl⟩
    have w3:qa .i64 (qb z 3) = z3:=by rw [e1,e2,hz,hz3,IntWalk.i64_in _ (by omega)];omega
    obtain ⟨inv2,hi2⟩:∃ inv2,inv2 = MdIn2 ts k:=⟨_,rfl⟩
    have hi20:inv2 z3:=by rw [hi2];exact ⟨k + 3,hz3,Nat.le_refl _,k3,rfl⟩
    obtain ⟨mu2,hmu2⟩:∃ mu2:Int → Nat,mu2 = fun y=>ts.length - y.toNat:=⟨_,rfl⟩
    iterate 2 (try cbv;repeat ((first | with_reducible apply next_at hA | rw [w2] | rw [w3] | refine call_at hA _ g2 rfl ?_ | refine calm_at hA _ g2 ?_);cbv))
    try simp (maxSteps:=4000000) only [nc] at *
    refine loop_at hA (γ:=Int) (fun y=>[(11,vi .i64 y)]) (fun y=>[]) inv2 mu2 z3 hi20 ?_ ?_
    ·cbv
    ·intro y2 hinv2
     cbv
     repeat ((with_reducible apply next_at hA);cbv)
     try simp (maxSteps:=4000000) only [nc] at *
     rw [hi2] at hinv2
     obtain ⟨j,hy2,hkj,hj,hde⟩:=hinv2
     replace hy2:y2 = (j:Int):=hy2
     have i0:=hsg j hj gDef
     rw [← hy2] at i0
     have j0:=gat j y2 hj hy2
     by_cases d2:(tkA ts j).kind = 4
     ·have q5:qj (tkA ts j).kind 4 = true:=by rw [e9];exact decide_eq_true d2
      have hdj:defEnd ts ts.length (k + 3) = j:=by rw [hde];exact defEnd_stop hj (.inl d2)
      rw [hdj] at hm
      have hcu:=hcu2 j (by omega) hj
      have hsn:=rDf_snoc out s1_ (cutU l f1 (tkA ts j).at_)
      have hin:inv (y2,L ++ [[.sc (.string s1_),.sl 1 (rU (cutU l f1 (tkA ts j).at_))]]):=by
       rw [hi]
       exact ⟨j,_,hy2,by rw [hL,hsn],hj,by rw [List.length_append,List.length_singleton];omega,hm⟩
      have hmu9:mu (y2,L ++ [[.sc (.string s1_),.sl 1 (rU (cutU l f1 (tkA ts j).at_))]]) < mu (z,L):=by rw [hmu];show ts.length - y2.toNat < ts.length - z.toNat;omega
      have hLl9:L.length ≤ 65537:=by omega
      clear hm hsn hde hdj
      generalize rU (cutU l f1 (tkA ts j).at_) = U9 at *
      generalize (tkA ts j).kind = k9 at *
      generalize (tkA ts j).n = n9 at *
      generalize (tkA ts j).at_ = p9 at *
      generalize (tkA ts j).text = s9_ at *
      have q3:qz U f1 p9 = some U9:=by rw [r3];exact hcu
      have q4:va L [[.sc (.string s1_),.sl 1 U9]] = L ++ [[.sc (.string s1_),.sl 1 U9]]:=by rw [r4]
      iterate 2 (try cbv;repeat ((first | with_reducible apply next_at hA | rw [j0] | rw [a1] | rw [a2] | rw [w1] | rw [w2] | rw [w4] | rw [q3] | rw [q4] | rw [q5] | refine lit_at hA true ?_ | (refine room_at hA (by simp only [List.length_cons,List.length_nil];omega) ?_));cbv))
      try simp (maxSteps:=4000000) only [nc] at *
      refine ⟨_,hin,hmu9,?_⟩
      cbv
     ·have q5:qj (tkA ts j).kind 4 = false:=by rw [e9];exact decide_eq_false d2
      by_cases d1:isG (tkA ts j) gDef = true
      ·rw [d1] at i0
       have hdj:defEnd ts ts.length (k + 3) = j:=by rw [hde];exact defEnd_stop hj (.inr d1)
       rw [hdj] at hm
       have hcu:=hcu2 j (by omega) hj
       have hsn:=rDf_snoc out s1_ (cutU l f1 (tkA ts j).at_)
       have hin:inv (y2,L ++ [[.sc (.string s1_),.sl 1 (rU (cutU l f1 (tkA ts j).at_))]]):=by
        rw [hi]
        exact ⟨j,_,hy2,by rw [hL,hsn],hj,by rw [List.length_append,List.length_singleton];omega,hm⟩
       have hmu9:mu (y2,L ++ [[.sc (.string s1_),.sl 1 (rU (cutU l f1 (tkA ts j).at_))]]) < mu (z,L):=by rw [hmu];show ts.length - y2.toNat < ts.length - z.toNat;omega
       have hLl9:L.length ≤ 65537:=by omega
       clear hm hsn hde hdj
       generalize rU (cutU l f1 (tkA ts j).at_) = U9 at *
       generalize (tkA ts j).kind = k9 at *
       generalize (tkA ts j).n = n9 at *
       generalize (tkA ts j).at_ = p9 at *
       generalize (tkA ts j).text = s9_ at *
       have q3:qz U f1 p9 = some U9:=by rw [r3];exact hcu
       have q4:va L [[.sc (.string s1_),.sl 1 U9]] = L ++ [[.sc (.string s1_),.sl 1 U9]]:=by rw [r4]
       iterate 2 (try cbv;repeat ((first | with_reducible apply next_at hA | rw [j0] | rw [a1] | rw [a2] | rw [w1] | rw [w2] | rw [w4] | rw [q3] | rw [q4] | rw [q5] | refine call_at hA _ i0 rfl ?_ | refine calm_at hA _ i0 ?_ | refine lit_at hA true ?_ | (refine room_at hA (by simp only [List.length_cons,List.length_nil];omega) ?_));cbv))
       try simp (maxSteps:=4000000) only [nc] at *
       refine ⟨_,hin,hmu9,?_⟩
       cbv
      ·replace d1:isG (tkA ts j) gDef = false:=by simpa using d1
       rw [d1] at i0
       obtain ⟨d3,d4⟩:=defEnd_step hE hj d2 d1
       obtain ⟨y9,hy9⟩:∃ y9,y9 = ((j + 1:Nat):Int):=⟨_,rfl⟩
       have w9:qa .i64 (qb y2 1) = y9:=by rw [e1,e2,hy2,hy9,IntWalk.i64_in _ (by omega)];omega
       have hin2:inv2 y9:=by rw [hi2];exact ⟨j + 1,hy9,by omega,d4,by rw [hde,d3]⟩
       have hmu9:mu2 y9 < mu2 y2:=by rw [hmu2];show ts.length - y9.toNat < ts.length - y2.toNat;omega
       clear hde d1 d2 d3 d4 hm
       generalize (tkA ts j).kind = k9 at *
       generalize (tkA ts j).n = n9 at *
       generalize (tkA ts j).at_ = p9 at *
       generalize (tkA ts j).text = s9_ at *
       iterate 2 (try cbv;repeat ((first | with_reducible apply next_at hA | rw [j0] | rw [w9] | rw [q5] | refine call_at hA _ i0 rfl ?_ | refine calm_at hA _ i0 ?_);cbv))
       try simp (maxSteps:=4000000) only [nc] at *
       refine ⟨_,hin2,hmu9,?_⟩
       cbv
end Go.Proofs.YtahpnackkmbmgaaGreat.Vm
end
