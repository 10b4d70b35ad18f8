/- Part 18 of the proof: VEyS, VRead1, VZ1. Conditions: none. -/
import Derived.Test.YtahpnackkmbmgaaGreatDoorR17
set_option linter.all false
set_option linter.unusedVariables false
set_option linter.unusedSimpArgs false
section
namespace Go.Proofs.YtahpnackkmbmgaaGreatDoor.Vm
open Go.RowKit
def NoV (t:Ty):Prop:=∀ x ∈ t.parts,x.op ≠ 7 ∧ x.op ≠ 10
def Rt (t:Ty) (s:Int):Prop:=shapeB wordB t s = true ∧ NoV t
theorem noS_nil:noS.toList = []:=by rw [ByteArray.toList_eq]
theorem NoV.mk {op:Int} {nm:ByteArray} {n:Int} {ks:List Ty} (h:op ≠ 7 ∧ op ≠ 10) (hk:∀ k ∈ ks,NoV k):NoV (.mk op nm n ks):=fun x hx=>by
 rw [parts_kids] at hx
 rcases List.mem_cons.1 hx with rfl | hx
 ·exact h
 ·obtain ⟨k,hkm,hxk⟩:=List.mem_flatMap.1 hx
  exact hk k hkm x hxk
theorem c3_no (op:Int) (h:op ≠ 11):c3B wordB op noS = true:=by unfold c3B;rw [if_neg h];exact decide_eq_true noS_nil
theorem rt_leaf (op s:Int) (h:op = 1 ∧ s = 116 ∨ op = 2 ∧ s = 116 ∨ op = 3 ∧ s = 116 ∨ op = 8 ∧ s = 114 ∨ op = 9 ∧ s = 114):Rt (lfT op) s:=by
 refine ⟨?_,NoV.mk (by omega) fun k hk=>by cases hk⟩
 have hk:kidsS op = some []:=by unfold kidsS;rw [if_pos (by omega)]
 rw [shape_some hk,c3_no op (by omega)]
 rcases h with ⟨rfl,rfl⟩ | ⟨rfl,rfl⟩ | ⟨rfl,rfl⟩ | ⟨rfl,rfl⟩ | ⟨rfl,rfl⟩ <;> rfl
theorem rt_fun {t u:Ty} (ht:Rt t 116) (hu:Rt u 116):Rt (.mk 4 noS 0 [t,u]) 116:=by
 refine ⟨?_,NoV.mk (by decide) fun k hk=>by
  rcases List.mem_cons.1 hk with rfl | hk
  ·exact ht.2
  ·cases List.mem_singleton.1 hk;exact hu.2⟩
 rw [shape_some (k:=[116,116]) rfl,c3_no 4 (by decide),shapesB,shapesB,ht.1,hu.1]
 rfl
theorem rt_row {t:Ty} (op:Int) (h:op = 5 ∨ op = 6) (ht:Rt t 114):Rt (.mk op noS 0 [t]) 116:=by
 refine ⟨?_,NoV.mk (by omega) fun k hk=>by cases List.mem_singleton.1 hk;exact ht.2⟩
 have hk:kidsS op = some [114]:=by rcases h with rfl | rfl <;> rfl
 rw [shape_some hk,c3_no op (by omega),shapesB,ht.1]
 rcases h with rfl | rfl <;> rfl
theorem rt_rowS {tl:Ty} (htl:Rt tl 114):∀ {l:List (ByteArray × Ty)},(∀ f ∈ l,wordB f.1 = true ∧ Rt f.2 116) → Rt (rowS l tl) 114
 | [],_=>htl
 | f :: l,h=>by
  have h1:=h f (List.mem_cons_self ..)
  have h2:=rt_rowS htl (l:=l) fun g hg=>h g (List.mem_cons_of_mem _ hg)
  rw [rowS_op_ne]
  refine ⟨?_,NoV.mk (by decide) fun k hk=>by
   rcases List.mem_cons.1 hk with rfl | hk
   ·exact h1.2.2
   ·cases List.mem_singleton.1 hk;exact h2.2⟩
  rw [shape_some (k:=[116,114]) rfl,shapesB,shapesB,h1.2.1,h2.1]
  unfold c3B
  rw [if_pos rfl,h1.1]
  rfl
theorem noV_once {t:Ty} (h:NoV t):onceB t = true:=by
 unfold onceB
 rw [List.all_eq_true]
 intro x hx
 rw [List.all_eq_true]
 intro y hy
 unfold clashB
 rw [beq_false_of_ne (h x hx).1]
 rfl
theorem Rt.right {t:Ty} {s:Int} (h:Rt t s):rightB t s = true:=by unfold rightB;rw [h.1,noV_once h.2];rfl
theorem Rt.either {t:Ty} (h:Rt t 116):eitherT t = true:=by unfold eitherT;rw [h.right];rfl
def RtR (ts:List Tok) (rd:PE → Ty × PE):Prop:=∀ p:PE,p.1 < ts.length → (rd p).2.2 = 0 → Rt (rd p).1 116
theorem want_0 {ts:List Tok} {s:ByteArray} {p:PE} (h:(wantP ts s p).2 = 0):p.2 = 0:=by
 unfold wantP at h
 by_cases h0:p.2 ≠ 0
 ·rw [if_pos h0] at h;exact h
 ·exact Decidable.not_not.1 h0
theorem rt_field {ts:List Tok} {rd:PE → Ty × PE} (hE:EndsT ts) (hN:NamesT ts) (hr:RtR ts rd) (p:PE) (hp:p.1 < ts.length) (h:(fieldW rd ts p).2.2 = 0):wordB (fieldW rd ts p).1.1 = true ∧ Rt (fieldW rd ts p).1.2 116:=by
 unfold fieldW at h ⊢
 by_cases hk:(tkA ts p.1).kind ≠ 1
 ·rw [if_pos hk] at h
  exact absurd h (failP_at 5 (by decide) p).2
 ·rw [if_neg hk] at h ⊢
  replace hk:=Decidable.not_not.1 hk
  exact ⟨hN _ hp hk,hr _ (wantP_lt hE (hE _ hp (by rw [hk];decide))).1 h⟩
theorem rt_fields {ts:List Tok} {rd:PE → Ty × PE} (hE:EndsT ts) (hN:NamesT ts) (hf:FitR ts rd) (hr:RtR ts rd):∀ (k:Nat) (p:PE) (l:List (ByteArray × Ty)),p.1 < ts.length → (p.2 = 0 → ∀ f ∈ l,wordB f.1 = true ∧ Rt f.2 116) → (fieldsW rd ts k p l).2.2 = 0 → ∀ f ∈ (fieldsW rd ts k p l).1,wordB f.1 = true ∧ Rt f.2 116
 | 0,p,l,_,h,h0=>h h0
 | k + 1,p,l,hp,h,h0=>by
  rw [fieldsW] at h0 ⊢
  by_cases hs:skB ts gComma p = true
  ·rw [if_pos hs] at h0 ⊢
   obtain ⟨s1,s2⟩:=skB_at hE hp hs
   refine rt_fields hE hN hf hr k _ _ (fit_field hE hf (p.1 + 1,0) s2).hi (fun h1 f hm=>?_) h0
   rcases List.mem_append.1 hm with hm | hm
   ·exact h s1 f hm
   ·cases List.mem_singleton.1 hm;exact rt_field hE hN hr (p.1 + 1,0) s2 h1
  ·rw [if_neg hs] at h0 ⊢;exact h h0
theorem rt_rowR {ts:List Tok} {rd:PE → Ty × PE} (hE:EndsT ts) (hN:NamesT ts) (hf:FitR ts rd) (hr:RtR ts rd) (p:PE) (hp:p.1 < ts.length) (h:(rowR rd ts p).2.2 = 0):Rt (rowR rd ts p).1 114:=by
 have hh:(headW rd ts p).2.2 = 0 → ∀ f ∈ (headW rd ts p).1,wordB f.1 = true ∧ Rt f.2 116:=by
  unfold headW
  by_cases hk:(tkA ts p.1).kind = 1
  ·rw [if_pos hk]
   intro h0
   exact rt_fields hE hN hf hr _ _ _ (fit_field hE hf p hp).hi (fun h1 f hm=>by cases List.mem_singleton.1 hm;exact rt_field hE hN hr p hp h1) h0
  ·rw [if_neg hk]
   intro _ f hm
   cases hm
 unfold rowR tlW at h ⊢
 by_cases hs:skB ts gBar (headW rd ts p).2 = true
 ·rw [if_pos hs] at h ⊢
  exact rt_rowS (rt_leaf 9 114 (by omega)) (hh (skB_at hE (fit_head hE hf p hp).hi hs).1)
 ·rw [if_neg hs] at h ⊢
  exact rt_rowS (rt_leaf 8 114 (by omega)) (hh h)
theorem rt_atom {ts:List Tok} {rd:PE → Ty × PE} (hE:EndsT ts) (hN:NamesT ts) (hf:FitR ts rd) (hr:RtR ts rd) (p:PE) (hp:p.1 < ts.length) (h:(atomW rd ts p).2.2 = 0):Rt (atomW rd ts p).1 116:=by
 unfold atomW at h ⊢
 by_cases h1:skB ts gInt p = true
 ·rw [if_pos h1];exact rt_leaf 1 116 (by omega)
 rw [if_neg h1] at h ⊢
 by_cases h2:skB ts gBool p = true
 ·rw [if_pos h2];exact rt_leaf 2 116 (by omega)
 rw [if_neg h2] at h ⊢
 by_cases h3:skB ts gDyn p = true
 ·rw [if_pos h3];exact rt_leaf 3 116 (by omega)
 rw [if_neg h3] at h ⊢
 by_cases h4:skB ts gOpen p = true
 ·rw [if_pos h4] at h ⊢
  exact hr (p.1 + 1,0) (skB_at hE hp h4).2 (want_0 h)
 rw [if_neg h4] at h ⊢
 by_cases h5:skB ts gRec p = true
 ·rw [if_pos h5] at h ⊢
  exact rt_row 5 (by omega) (rt_rowR hE hN hf hr (p.1 + 1,0) (skB_at hE hp h5).2 (want_0 h))
 rw [if_neg h5] at h ⊢
 by_cases h6:skB ts gVnt p = true
 ·rw [if_pos h6] at h ⊢
  exact rt_row 6 (by omega) (rt_rowR hE hN hf hr (p.1 + 1,0) (skB_at hE hp h6).2 (want_0 h))
 rw [if_neg h6] at h
 exact absurd h (failP_at 5 (by decide) p).2
theorem rt_whole {ts:List Tok} (hE:EndsT ts) (hN:NamesT ts):∀ n:Nat,RtR ts (wholeW ts n)
 | 0,p,hp,h=>by
  rw [wholeW] at h
  exact absurd h (failP_at 6 (by decide) p).2
 | n + 1,p,hp,h=>by
  have ih:=rt_whole hE hN n
  have hf:=fit_whole hE n
  rw [wholeW] at h ⊢
  by_cases h0:p.2 ≠ 0
  ·rw [if_pos h0] at h
   exact absurd h h0
  rw [if_neg h0] at h ⊢
  by_cases hs:skB ts gTo (atomW (wholeW ts n) ts p).2 = true
  ·rw [if_pos hs] at h ⊢
   have hfa:=fit_atom hE hf p hp
   obtain ⟨s1,s2⟩:=skB_at hE hfa.hi hs
   exact rt_fun (rt_atom hE hN hf ih p hp s1) (ih ((atomW (wholeW ts n) ts p).2.1 + 1,0) s2 h)
  ·rw [if_neg hs] at h ⊢
   exact rt_atom hE hN hf ih p hp h
end Go.Proofs.YtahpnackkmbmgaaGreatDoor.Vm
end
section
namespace Go.Proofs.YtahpnackkmbmgaaGreatDoor.Vm
open Go.RowKit
set_option maxRecDepth 100000
set_option maxHeartbeats 4000000
abbrev RdN (T:List (List D)) (L:Int) (x:List V) (a p c a1:Int):Prop:=SpecO 17 [.ptr 0 0,vi .i64 L] [.box [.d (.sl 4 T),.d (.sc (.int .i64 a))]] (fun res os=>res = [.ag x,.d (.sc (.int .i64 p)),.d (.sc (.int .u8 c))] ∧ os = [.box [.d (.sl 4 T),.d (.sc (.int .i64 a1))]])
theorem nil4b {I:Nat → Nat → Prop} {w:World} {g:Nat → Value} {us:List Value} {a b c x y:V} {z:Nat} (h:AtVs I w g us [.ag [a,b,c,.em],x,y]):AtVs I w g us [.ag [a,b,c,.d (.sl z [])],x,y] :=
 h.reset (i:=0) fun v hv=>by
  have h4:=h.2 0 v _ hv rfl
  obtain ⟨ks,rfl,h5⟩:=h4.unag
  exact atV_ag (h5.reset (i:=3) fun v hv=>by rw [(h5.2 3 v _ hv rfl).unem];exact .d (.nil _ _ _))
theorem read_err {T:List (List D)} {L a e q a1:Int} {t:Ty} (he:e ≠ 0) (h1:TyN 38 T L (ofD (cT t)) 0 0 a e q a1):RdN T L (ofD (cT zeroTy)) a q e a1:=by
 have h0:RdN T L [.d (.sc (.int .u8 0)),.d (.sc (.string noS)),.d (.sc (.int .i64 0)),.em] a q e a1:=by
  obtain ⟨c0,c1,c2,c3,hc⟩:=cT_four t
  rw [hc] at h1
  refine speco_of Tryz.func17 rfl (by kernel_rfl) (by kernel_rfl) (by kernel_rfl) fun qa qb qc qd qe qg qh qi qj qk ql qm qn qo qp qq qt qu qv qw qx qy qz va vc vd ve vf vg vh vj vk vl vm vn vo vp vq vr vt vu vv vw hA=>?_
  obtain ⟨ee1,ee2,e3,e4,e5,e6,e7,e8,e9⟩:=ar_at hA
  have g1:qk e 0 = false:=by rw [e9];exact decide_eq_false he
  iterate 2 (try cbv;repeat ((first | with_reducible apply next_at hA | rw [g1] | (refine callo_at hA [2,0] h1 ⟨rfl,rfl,rfl,rfl,rfl,rfl,rfl⟩ ?_;rintro _ _ ⟨rfl,rfl⟩));cbv))
  try simp (maxSteps:=4000000) only [nc] at *
  exact keep_is hA [0] ⟨rfl,rfl,rfl,rfl,rfl,rfl,rfl,rfl⟩ ⟨rfl,rfl⟩
 unfold RdN
 rw [zero_c]
 exact SpecO.reread h0 fun res os2 ⟨e1,e2⟩=>⟨_,⟨rfl,e2⟩,fun I w g us hv=>nil4b (e1 ▸ hv)⟩
theorem read_ok {T:List (List D)} {L a q a1:Int} {t:Ty} (ht:Sm t) (he:eitherT t = true) (h1:TyN 38 T L (ofD (cT t)) 0 0 a 0 q a1):RdN T L (ofD (cT (canonS t))) a 0 0 a1:=by
 have hcn:=Canon_s t ht
 rw [if_pos he] at hcn
 obtain ⟨c0,c1,c2,c3,hc⟩:=cT_four t
 obtain ⟨d0,d1,d2,d3,hd⟩:=cT_four (canonS t)
 rw [hc] at h1 hcn
 rw [hd] at hcn ⊢
 refine speco_of Tryz.func17 rfl (by kernel_rfl) (by kernel_rfl) (by kernel_rfl) fun qa qb qc qd qe qg qh qi qj qk ql qm qn qo qp qq qt qu qv qw qx qy qz va vc vd ve vf vg vh vj vk vl vm vn vo vp vq vr vt vu vv vw hA=>?_
 obtain ⟨ee1,ee2,e3,e4,e5,e6,e7,e8,e9⟩:=ar_at hA
 have g1:qk 0 0 = true:=by rw [e9];rfl
 iterate 2 (try cbv;repeat ((first | with_reducible apply next_at hA | rw [g1] | refine call_at hA _ hcn rfl ?_ | refine calm_at hA _ hcn ?_ | (refine callo_at hA [2,0] h1 ⟨rfl,rfl,rfl,rfl,rfl,rfl,rfl⟩ ?_;rintro _ _ ⟨rfl,rfl⟩));cbv))
 try simp (maxSteps:=4000000) only [nc] at *
 exact keep_is hA [0] ⟨rfl,rfl,rfl,rfl,rfl,rfl,rfl,rfl⟩ ⟨rfl,rfl⟩
def readW (ts:List Tok) (n a:Nat):Ty × Int × Int × Nat :=
 if (wholeW ts n (a,0)).2.2 ≠ 0 then (zeroTy,(tkA ts (wholeW ts n (a,0)).2.1).at_,(wholeW ts n (a,0)).2.2,(wholeW ts n (a,0)).2.1)
 else (canonS (wholeW ts n (a,0)).1,0,0,(wholeW ts n (a,0)).2.1)
theorem Read_s {ts:List Tok} (hE:EndsT ts) (hN:NamesT ts) (hl:ts.length ≤ 65537) (n:Nat) (L:Int) (hv:LvOk n L) (a:Nat) (ha:a < ts.length) :
  RdN (rTk ts) L (ofD (cT (readW ts n a).1)) (a:Int) (readW ts n a).2.1 (readW ts n a).2.2.1 ((readW ts n a).2.2.2:Int):=by
 have h:=whole_s hE hl n L hv (a,0) ha
 have hf:=(fit_whole hE n (a,0) ha).1
 have hrt:=rt_whole hE hN n (a,0) ha
 unfold readW
 generalize wholeW ts n (a,0) = r at *
 by_cases h0:r.2.2 ≠ 0
 ·rw [if_pos h0]
  have h2:=read_err h0 h
  rw [cQ_1 ts h0] at h2
  exact h2
 ·rw [if_neg h0]
  replace h0:=Decidable.not_not.1 h0
  unfold TyS at h
  rw [h0] at h
  exact read_ok (sm_of (hrt h0).1 (by have:=hf.sz;have:=hf.hi;omega)) (hrt h0).either h
theorem parse_tok {B T:List (List D)} {p c:Int} (hc:c ≠ 0) (hT:Spec 32 [.one (.sl 1 B)] [.one (.sl 4 T),.one (.sc (.int .i64 p)),.one (.sc (.int .u8 c))]):Spec 12 [.one (.sl 1 B)] [.ag (lf0 0),.one (.sc (.int .i64 p)),.one (.sc (.int .u8 c))]:=by
 unfold lf0
 refine spec_of Tryz.func12 rfl (by kernel_rfl) (by kernel_rfl) (by kernel_rfl) fun qa qb qc qd qe qg qh qi qj qk ql qm qn qo qp qq qt qu qv qw qx qy qz va vc vd ve vf vg vh vj vk vl vm vn vo vp vq vr vt vu vv vw hA=>?_
 obtain ⟨ee1,ee2,e3,e4,e5,e6,e7,e8,e9⟩:=ar_at hA
 have g1:qk c 0 = false:=by rw [e9];exact decide_eq_false hc
 iterate 2 (try cbv;repeat ((first | with_reducible apply next_at hA | rw [g1] | refine call_at hA _ hT rfl ?_ | refine calm_at hA _ hT ?_);cbv))
 try simp (maxSteps:=4000000) only [nc] at *
theorem parse_err {B T:List (List D)} {p p1 c1 a1:Int} {t:Ty} (hc:c1 ≠ 0) (hT:Spec 32 [.one (.sl 1 B)] [.one (.sl 4 T),.one (.sc (.int .i64 p)),.one (.sc (.int .u8 0))])
  (hN:SpecO 16 [.d (.sl 4 T)] [] (fun res os=>res = [.ptr 0 0] ∧ os = [.box [.d (.sl 4 T),.d (.sc (.int .i64 0))]])) (hR:RdN T 1 (ofD (cT t)) 0 p1 c1 a1):Spec 12 [.one (.sl 1 B)] [.ag (lf0 0),.one (.sc (.int .i64 p1)),.one (.sc (.int .u8 c1))]:=by
 obtain ⟨d0,d1,d2,d3,hd⟩:=cT_four t
 rw [hd] at hR
 unfold lf0
 refine spec_of Tryz.func12 rfl (by kernel_rfl) (by kernel_rfl) (by kernel_rfl) fun qa qb qc qd qe qg qh qi qj qk ql qm qn qo qp qq qt qu qv qw qx qy qz va vc vd ve vf vg vh vj vk vl vm vn vo vp vq vr vt vu vv vw hA=>?_
 obtain ⟨ee1,ee2,e3,e4,e5,e6,e7,e8,e9⟩:=ar_at hA
 have g0:qk 0 0 = true:=by rw [e9];rfl
 have g1:qk c1 0 = false:=by rw [e9];exact decide_eq_false hc
 iterate 2 (try cbv;repeat ((first | with_reducible apply next_at hA | rw [g0] | rw [g1] | refine call_at hA _ hT rfl ?_ | refine calm_at hA _ hT ?_ | (refine callo_at hA [] hN ⟨rfl,rfl,rfl,rfl,rfl,rfl,rfl⟩ ?_;rintro _ _ ⟨rfl,rfl⟩) | (refine callo_at hA [1] hR ⟨rfl,rfl,rfl,rfl,rfl,rfl,rfl⟩ ?_;rintro _ _ ⟨rfl,rfl⟩));cbv))
 try simp (maxSteps:=4000000) only [nc] at *
theorem parse_more {B T:List (List D)} {p p1 a1 k n0 p0:Int} {s0:ByteArray} {t:Ty} (hk:k ≠ 4) (hT:Spec 32 [.one (.sl 1 B)] [.one (.sl 4 T),.one (.sc (.int .i64 p)),.one (.sc (.int .u8 0))])
  (hN:SpecO 16 [.d (.sl 4 T)] [] (fun res os=>res = [.ptr 0 0] ∧ os = [.box [.d (.sl 4 T),.d (.sc (.int .i64 0))]])) (hR:RdN T 1 (ofD (cT t)) 0 p1 0 a1) (hp:SpecS 19 [.ptr 0 0] [.box [.d (.sl 4 T),.d (.sc (.int .i64 a1))]] (fun res os=>res = [.ag [.d (.sc (.int .u8 k)),.d (.sc (.string s0)),.d (.sc (.int .i64 n0)),.d (.sc (.int .i64 p0))]] ∧ os = [.box [.d (.sl 4 T),.d (.sc (.int .i64 a1))]])):Spec 12 [.one (.sl 1 B)] [.ag (lf0 0),.one (.sc (.int .i64 p0)),.one (.sc (.int .u8 5))]:=by
 obtain ⟨d0,d1,d2,d3,hd⟩:=cT_four t
 rw [hd] at hR
 unfold lf0
 refine spec_of Tryz.func12 rfl (by kernel_rfl) (by kernel_rfl) (by kernel_rfl) fun qa qb qc qd qe qg qh qi qj qk ql qm qn qo qp qq qt qu qv qw qx qy qz va vc vd ve vf vg vh vj vk vl vm vn vo vp vq vr vt vu vv vw hA=>?_
 obtain ⟨ee1,ee2,e3,e4,e5,e6,e7,e8,e9⟩:=ar_at hA
 have g0:qk 0 0 = true:=by rw [e9];rfl
 have g1:qk k 4 = false:=by rw [e9];exact decide_eq_false hk
 iterate 2 (try cbv;repeat ((first | with_reducible apply next_at hA | rw [g0] | rw [g1] | refine call_at hA _ hT rfl ?_ | refine calm_at hA _ hT ?_ | (refine callo_at hA [] hN ⟨rfl,rfl,rfl,rfl,rfl,rfl,rfl⟩ ?_;rintro _ _ ⟨rfl,rfl⟩) | (refine callo_at hA [1] hR ⟨rfl,rfl,rfl,rfl,rfl,rfl,rfl⟩ ?_;rintro _ _ ⟨rfl,rfl⟩) | (refine rd_at hA [1] hp ⟨rfl,rfl,rfl,rfl,rfl,rfl,rfl⟩ rfl ?_;rintro _ rfl));cbv))
 try simp (maxSteps:=4000000) only [nc] at *
theorem parse_ok {B T:List (List D)} {p p1 a1 n0 p0:Int} {s0:ByteArray} {t:Ty} (hT:Spec 32 [.one (.sl 1 B)] [.one (.sl 4 T),.one (.sc (.int .i64 p)),.one (.sc (.int .u8 0))])
  (hN:SpecO 16 [.d (.sl 4 T)] [] (fun res os=>res = [.ptr 0 0] ∧ os = [.box [.d (.sl 4 T),.d (.sc (.int .i64 0))]])) (hR:RdN T 1 (ofD (cT t)) 0 p1 0 a1) (hp:SpecS 19 [.ptr 0 0] [.box [.d (.sl 4 T),.d (.sc (.int .i64 a1))]] (fun res os=>res = [.ag [.d (.sc (.int .u8 4)),.d (.sc (.string s0)),.d (.sc (.int .i64 n0)),.d (.sc (.int .i64 p0))]] ∧ os = [.box [.d (.sl 4 T),.d (.sc (.int .i64 a1))]])):Spec 12 [.one (.sl 1 B)] [.ag (cT t),.one (.sc (.int .i64 0)),.one (.sc (.int .u8 0))]:=by
 obtain ⟨d0,d1,d2,d3,hd⟩:=cT_four t
 rw [hd] at hR ⊢
 refine spec_of Tryz.func12 rfl (by kernel_rfl) (by kernel_rfl) (by kernel_rfl) fun qa qb qc qd qe qg qh qi qj qk ql qm qn qo qp qq qt qu qv qw qx qy qz va vc vd ve vf vg vh vj vk vl vm vn vo vp vq vr vt vu vv vw hA=>?_
 obtain ⟨ee1,ee2,e3,e4,e5,e6,e7,e8,e9⟩:=ar_at hA
 have g0:qk 0 0 = true:=by rw [e9];rfl
 have g1:qk 4 4 = true:=by rw [e9];rfl
 iterate 2 (try cbv;repeat ((first | with_reducible apply next_at hA | rw [g0] | rw [g1] | refine call_at hA _ hT rfl ?_ | refine calm_at hA _ hT ?_ | (refine callo_at hA [] hN ⟨rfl,rfl,rfl,rfl,rfl,rfl,rfl⟩ ?_;rintro _ _ ⟨rfl,rfl⟩) | (refine callo_at hA [1] hR ⟨rfl,rfl,rfl,rfl,rfl,rfl,rfl⟩ ?_;rintro _ _ ⟨rfl,rfl⟩) | (refine rd_at hA [1] hp ⟨rfl,rfl,rfl,rfl,rfl,rfl,rfl⟩ rfl ?_;rintro _ rfl));cbv))
 try simp (maxSteps:=4000000) only [nc] at *
section
abbrev SgN (T:List (List D)) (s:ByteArray) (a:Int) (b:Bool):Prop:=Spec 40 [.one (.sl 4 T),.one (.sc (.int .i64 a)),.one (.sc (.string s))] [.one (.sc (.bool b))]
abbrev RdZ (f:Nat) (T:List (List D)) (a L:Int) (x:List D) (n c:Int):Prop:=Spec f [.one (.sl 4 T),.one (.sc (.int .i64 a)),.one (.sc (.int .i64 L))] [.ag x,.one (.sc (.int .i64 n)),.one (.sc (.int .i64 c))]
abbrev FdZ (T:List (List D)) (a L:Int) (x:List (List D)) (n c:Int):Prop:=Spec 66 [.one (.sl 4 T),.one (.sc (.int .i64 a)),.one (.sc (.int .i64 L))] [.one (.sl 5 x),.one (.sc (.int .i64 n)),.one (.sc (.int .i64 c))]
theorem sign_s (ts:List Tok) (a:Nat) (ha:a < ts.length) (hl:ts.length ≤ 1048576) (s:ByteArray):SgN (rTk ts) s (a:Int) (isG (tkA ts a) s):=by
 have hg:=rTk_get (tkA_is ha)
 have hln:=rTk_len ts
 unfold isG
 unfold tkD at hg
 generalize tkA ts a = t at *
 generalize rTk ts = T at *
 generalize t.kind = tk at *
 generalize t.text = tx at *
 generalize t.n = tn at *
 generalize t.at_ = ta at *
 obtain ⟨z,hz⟩:∃ z,z = (a:Int):=⟨_,rfl⟩
 rw [← hz]
 obtain ⟨b,hb⟩:∃ b,b = (tx.toList == s.toList):=⟨_,rfl⟩
 obtain ⟨c,hc⟩:∃ c,c = (tk == 3):=⟨_,rfl⟩
 rw [← hb,← hc]
 refine spec_of Tryz.func40 rfl (by kernel_rfl) (by kernel_rfl) (by kernel_rfl) fun qa qb qc qd qe qg qh qi qj qk ql qm qn qo qp qq qt qu qv qw qx qy qz va vc vd ve vf vg vh vj vk vl vm vn vo vp vq vr vt vu vv vw hA=>?_
 obtain ⟨e1,e2,e3,e4,e5,e6,e7,e8,e9⟩:=ar_at hA
 obtain ⟨r1,r2,r3,r4⟩:=row_at hA
 obtain ⟨s1,s2,s3,s4,s5,s6,s7⟩:=str_at hA
 have q1:qi z (qz T) = true:=by rw [e7,r1,hln,hz];exact decide_eq_true (by omega)
 have q2:qk tk 3 = c:=by rw [e9,hc]
 have q3:qm (qo tx) (qo s) = b:=by rw [s1,s3,s3,hb]
 have g:va T z = some [.sc (.int .u8 tk),.sc (.string tx),.sc (.int .i64 tn),.sc (.int .i64 ta)]:=by rw [r2,hz,if_pos (by omega),show ((a:Int)).toNat = a by omega];exact hg
 cases c
 ·iterate 2 (try cbv;repeat ((first | with_reducible apply next_at hA | rw [q1] | rw [q2] | rw [g]);cbv))
  try simp (maxSteps:=4000000) only [nc] at *
 ·iterate 2 (try cbv;repeat ((first | with_reducible apply next_at hA | rw [q1] | rw [q2] | rw [q3] | rw [g]);cbv))
  try simp (maxSteps:=4000000) only [nc] at *
section
variable {T:List (List D)} {a L a1 L1 n n1 c:Int} {t u:Ty}
theorem z_deep (hL:200 < L):RdZ 18 T a L (lf0 0) a 6:=by
 unfold lf0
 refine spec_of Tryz.func18 rfl (by kernel_rfl) (by kernel_rfl) (by kernel_rfl) fun qa qb qc qd qe qg qh qi qj qk ql qm qn qo qp qq qt qu qv qw qx qy qz va vc vd ve vf vg vh vj vk vl vm vn vo vp vq vr vt vu vv vw hA=>?_
 obtain ⟨e1,e2,e3,e4,e5,e6,e7,e8,e9⟩:=ar_at hA
 have g1:qi 200 L = true:=by rw [e7];exact decide_eq_true hL
 iterate 2 (try cbv;repeat ((first | with_reducible apply next_at hA | rw [g1]);cbv))
 try simp (maxSteps:=4000000) only [nc] at *
theorem z_err (hL:L ≤ 200) (hc:c ≠ 0) (h:RdZ 39 T a L (cT t) n c):RdZ 18 T a L (cT t) n c:=by
 obtain ⟨x0,x1,x2,x3,hx⟩:=cT_four t
 rw [hx] at h ⊢
 refine spec_of Tryz.func18 rfl (by kernel_rfl) (by kernel_rfl) (by kernel_rfl) fun qa qb qc qd qe qg qh qi qj qk ql qm qn qo qp qq qt qu qv qw qx qy qz va vc vd ve vf vg vh vj vk vl vm vn vo vp vq vr vt vu vv vw hA=>?_
 obtain ⟨e1,e2,e3,e4,e5,e6,e7,e8,e9⟩:=ar_at hA
 have g1:qi 200 L = false:=by rw [e7];exact decide_eq_false (by omega)
 have g2:qk c 0 = false:=by rw [e9];exact decide_eq_false hc
 iterate 2 (try cbv;repeat ((first | with_reducible apply next_at hA | rw [g1] | rw [g2] | refine call_at hA _ h rfl ?_ | refine calm_at hA _ h ?_);cbv))
 try simp (maxSteps:=4000000) only [nc] at *
theorem z_atom (hL:L ≤ 200) (h:RdZ 39 T a L (cT t) n 0) (hs:SgN T gTo n false):RdZ 18 T a L (cT t) n 0:=by
 obtain ⟨x0,x1,x2,x3,hx⟩:=cT_four t
 rw [hx] at h ⊢
 refine spec_of Tryz.func18 rfl (by kernel_rfl) (by kernel_rfl) (by kernel_rfl) fun qa qb qc qd qe qg qh qi qj qk ql qm qn qo qp qq qt qu qv qw qx qy qz va vc vd ve vf vg vh vj vk vl vm vn vo vp vq vr vt vu vv vw hA=>?_
 obtain ⟨e1,e2,e3,e4,e5,e6,e7,e8,e9⟩:=ar_at hA
 have g1:qi 200 L = false:=by rw [e7];exact decide_eq_false (by omega)
 have g2:qk 0 0 = true:=by rw [e9];rfl
 iterate 2 (try cbv;repeat ((first | with_reducible apply next_at hA | rw [g1] | rw [g2] | refine call_at hA _ h rfl ?_ | refine calm_at hA _ h ?_ | refine call_at hA _ hs rfl ?_ | refine calm_at hA _ hs ?_);cbv))
 try simp (maxSteps:=4000000) only [nc] at *
theorem z_fune (hL0:0 ≤ L) (hL:L ≤ 200) (hn0:0 ≤ n) (hn:n ≤ 1048576) (hc:c ≠ 0) (h:RdZ 39 T a L (cT t) n 0) (hs:SgN T gTo n true) (hr:RdZ 18 T (n + 1) (L + 1) (cT u) n1 c):RdZ 18 T a L (lf0 0) n1 c:=by
 obtain ⟨x0,x1,x2,x3,hx⟩:=cT_four t
 obtain ⟨y0,y1,y2,y3,hy⟩:=cT_four u
 rw [hx] at h
 rw [hy] at hr
 unfold lf0
 obtain ⟨L1,hL1⟩:∃ L1,L1 = L + 1:=⟨_,rfl⟩
 obtain ⟨n2,hn2⟩:∃ n2,n2 = n + 1:=⟨_,rfl⟩
 rw [← hL1,← hn2] at hr
 refine spec_of Tryz.func18 rfl (by kernel_rfl) (by kernel_rfl) (by kernel_rfl) fun qa qb qc qd qe qg qh qi qj qk ql qm qn qo qp qq qt qu qv qw qx qy qz va vc vd ve vf vg vh vj vk vl vm vn vo vp vq vr vt vu vv vw hA=>?_
 obtain ⟨e1,e2,e3,e4,e5,e6,e7,e8,e9⟩:=ar_at hA
 have g1:qi 200 L = false:=by rw [e7];exact decide_eq_false (by omega)
 have g2:qk 0 0 = true:=by rw [e9];rfl
 have g3:qa .i64 (qb n 1) = n2:=by rw [e1,e2,IntWalk.i64_in _ (by omega)];exact hn2.symm
 have g4:qa .i64 (qb L 1) = L1:=by rw [e1,e2,IntWalk.i64_in _ (by omega)];exact hL1.symm
 have g5:qk c 0 = false:=by rw [e9];exact decide_eq_false hc
 iterate 2 (try cbv;repeat ((first | with_reducible apply next_at hA | rw [g1] | rw [g2] | rw [g3] | rw [g4] | rw [g5] | refine call_at hA _ h rfl ?_ | refine calm_at hA _ h ?_ | refine call_at hA _ hs rfl ?_ | refine calm_at hA _ hs ?_ | refine call_at hA _ hr rfl ?_ | refine calm_at hA _ hr ?_);cbv))
 try simp (maxSteps:=4000000) only [nc] at *
theorem z_fun (hL0:0 ≤ L) (hL:L ≤ 200) (hn0:0 ≤ n) (hn:n ≤ 1048576) (h:RdZ 39 T a L (cT t) n 0) (hs:SgN T gTo n true) (hr:RdZ 18 T (n + 1) (L + 1) (cT u) n1 0):RdZ 18 T a L (cT (.mk 4 noS 0 [t,u])) n1 0:=by
 rw [show cT (.mk 4 noS 0 [t,u]) = [.sc (.int .u8 4),.sc (.string noS),.sc (.int .i64 0),.sl 4 [cT t,cT u]] by rw [cT,rT,rT,rT]]
 obtain ⟨x0,x1,x2,x3,hx⟩:=cT_four t
 obtain ⟨y0,y1,y2,y3,hy⟩:=cT_four u
 rw [hx] at h ⊢
 rw [hy] at hr ⊢
 obtain ⟨L1,hL1⟩:∃ L1,L1 = L + 1:=⟨_,rfl⟩
 obtain ⟨n2,hn2⟩:∃ n2,n2 = n + 1:=⟨_,rfl⟩
 rw [← hL1,← hn2] at hr
 refine spec_of Tryz.func18 rfl (by kernel_rfl) (by kernel_rfl) (by kernel_rfl) fun qa qb qc qd qe qg qh qi qj qk ql qm qn qo qp qq qt qu qv qw qx qy qz va vc vd ve vf vg vh vj vk vl vm vn vo vp vq vr vt vu vv vw hA=>?_
 obtain ⟨e1,e2,e3,e4,e5,e6,e7,e8,e9⟩:=ar_at hA
 have g1:qi 200 L = false:=by rw [e7];exact decide_eq_false (by omega)
 have g2:qk 0 0 = true:=by rw [e9];rfl
 have g3:qa .i64 (qb n 1) = n2:=by rw [e1,e2,IntWalk.i64_in _ (by omega)];exact hn2.symm
 have g4:qa .i64 (qb L 1) = L1:=by rw [e1,e2,IntWalk.i64_in _ (by omega)];exact hL1.symm
 iterate 2 (try cbv;repeat ((first | with_reducible apply next_at hA | rw [g1] | rw [g2] | rw [g3] | rw [g4] | refine call_at hA _ h rfl ?_ | refine calm_at hA _ h ?_ | refine call_at hA _ hs rfl ?_ | refine calm_at hA _ hs ?_ | refine call_at hA _ hr rfl ?_ | refine calm_at hA _ hr ?_ | refine lit_at hA true ?_);cbv))
 try simp (maxSteps:=4000000) only [nc] at *
end
end
end Go.Proofs.YtahpnackkmbmgaaGreatDoor.Vm
end
