/- Part 21 of the proof: VZ4, VZ5, VZ6, LRTok0. Conditions: none. -/
import Derived.Test.YtahpnackkmbmgaaGreatDoorR1
import Derived.Test.YtahpnackkmbmgaaGreatDoorR18
import Derived.Test.YtahpnackkmbmgaaGreatDoorR20
set_option linter.all false
set_option linter.unusedVariables false
set_option linter.unusedSimpArgs false
section
namespace Go.Proofs.YtahpnackkmbmgaaGreatDoor.Vm
open Go.RowKit
set_option maxRecDepth 100000
set_option maxHeartbeats 4000000
abbrev FdD (T:List (List D)) (a L:Int) (x:D) (n c:Int):Prop:=Spec 66 [.one (.sl 4 T),.one (.sc (.int .i64 a)),.one (.sc (.int .i64 L))] [.one x,.one (.sc (.int .i64 n)),.one (.sc (.int .i64 c))]
def TkAt (T:List (List D)) (a k:Int) (s:ByteArray):Prop:=0 ≤ a ∧ ∃ n0 p0:Int,T[a.toNat]? = some [.sc (.int .u8 k),.sc (.string s),.sc (.int .i64 n0),.sc (.int .i64 p0)]
theorem zf_none {T:List (List D)} {a L k:Int} {s0:ByteArray} (hT:T.length ≤ 1048576) (hk:k ≠ 1) (ht:TkAt T a k s0):FdD T a L (.sl 0 []) a 0:=by
 obtain ⟨ha,n0,p0,hg⟩:=ht
 have hlt:=(List.getElem?_eq_some_iff.1 hg).1
 refine spec_of Tryz.func66 rfl (by kernel_rfl) (by kernel_rfl) (by kernel_rfl) fun qa qb qc qd qe qg qh qi qj qk ql qm qn qo qp qq qt qu qv qw qx qy qz va vc vd ve vf vg vh vj vk vl vm vn vo vp vq vr vt vu vv vw hA=>?_
 obtain ⟨e1,e2,e3,e4,e5,e6,e7,e8,e9⟩:=ar_at hA
 obtain ⟨r1,r2,r3,r4⟩:=row_at hA
 have g1:va T a = some [.sc (.int .u8 k),.sc (.string s0),.sc (.int .i64 n0),.sc (.int .i64 p0)]:=by rw [r2,if_pos (by omega)];exact hg
 have g2:qk k 1 = false:=by rw [e9];exact decide_eq_false hk
 iterate 2 (try cbv;repeat ((first | with_reducible apply next_at hA | rw [g1] | rw [g2]);cbv))
 try simp (maxSteps:=4000000) only [nc] at *
def FdStep (T:List (List D)) (L:Int) (xd:D) (nf cf:Int) (inv:Int → List (List D) → Nat → Prop) (a:Int) (R:List (List D)) (m:Nat):Prop :=
 ∃ (k:Int) (s0:ByteArray),TkAt T a k s0 ∧ ((k ≠ 1 ∧ xd = .sl 0 [] ∧ nf = a ∧ cf = 5) ∨ (k = 1 ∧ ((SgN T gColon (a + 1) false ∧ xd = .sl 0 [] ∧ nf = a + 1 ∧ cf = 5) ∨
  (SgN T gColon (a + 1) true ∧ ∃ (x0 x1 x2 x3:D) (n c:Int),RdZ 18 T (a + 2) (L + 1) [x0,x1,x2,x3] n c ∧ ((c ≠ 0 ∧ xd = .sl 0 [] ∧ nf = n ∧ cf = c) ∨ (c = 0 ∧ 0 ≤ n ∧ n ≤ 1048576 ∧
   ((SgN T gComma n false ∧ xd = .sl 5 (R ++ [[.sc (.string s0),x0,x1,x2,x3]]) ∧ nf = n ∧ cf = 0) ∨ (∃ m2,SgN T gComma n true ∧ inv (n + 1) (R ++ [[.sc (.string s0),x0,x1,x2,x3]]) m2 ∧ m2 < m))))))))
theorem zf_some {T:List (List D)} {a L:Int} {s0:ByteArray} {xd:D} {nf cf:Int} {m0:Nat} (hT:T.length ≤ 1048576) (hL0:0 ≤ L) (hL:L ≤ 1048576) (ht:TkAt T a 1 s0) (inv:Int → List (List D) → Nat → Prop) (h0:inv a [] m0)
  (hst:∀ (a:Int) (R:List (List D)) (m:Nat),inv a R m → R.length < 1048576 ∧ FdStep T L xd nf cf inv a R m):FdD T a L xd nf cf:=by
 obtain ⟨ha,n0,p0,hg⟩:=ht
 have hlt:=(List.getElem?_eq_some_iff.1 hg).1
 obtain ⟨L1,hL1⟩:∃ L1,L1 = L + 1:=⟨_,rfl⟩
 refine spec_of Tryz.func66 rfl (by kernel_rfl) (by kernel_rfl) (by kernel_rfl) fun qa qb qc qd qe qg qh qi qj qk ql qm qn qo qp qq qt qu qv qw qx qy qz va vc vd ve vf vg vh vj vk vl vm vn vo vp vq vr vt vu vv vw hA=>?_
 obtain ⟨e1,e2,e3,e4,e5,e6,e7,e8,e9⟩:=ar_at hA
 obtain ⟨r1,r2,r3,r4⟩:=row_at hA
 have g1:va T a = some [.sc (.int .u8 1),.sc (.string s0),.sc (.int .i64 n0),.sc (.int .i64 p0)]:=by rw [r2,if_pos (by omega)];exact hg
 have g2:qk 1 1 = true:=by rw [e9];rfl
 have gL:qa .i64 (qb L 1) = L1:=by rw [e1,e2,IntWalk.i64_in _ (by omega)];exact hL1.symm
 have g00:qk 0 0 = true:=by rw [e9];rfl
 cbv
 with_reducible apply next_at hA
 cbv
 refine own_at hA 9 85 true rfl ?_
 cbv
 iterate 2 (try cbv;repeat ((first | with_reducible apply next_at hA | rw [g1] | rw [g2]);cbv))
 try simp (maxSteps:=4000000) only [nc] at *
 refine loop_at hA (γ:=Int × List (List D) × Nat) (fun x=>[(1,vi .i64 x.1),(9,.own 0)]) (fun x=>[(0,.row true 85 x.2.1)]) (fun x=>inv x.1 x.2.1 x.2.2) (fun x=>x.2.2) (a,[],m0) ?_ ?_ ?_
 ·exact h0
 ·cbv
 ·intro x hinv
  obtain ⟨z,R,m⟩:=x
  cbv
  obtain ⟨hlen,k,s1,⟨hz,n1,p1,hg1⟩,hs⟩:=hst z R m hinv
  have hlt1:=(List.getElem?_eq_some_iff.1 hg1).1
  have g3:va T z = some [.sc (.int .u8 k),.sc (.string s1),.sc (.int .i64 n1),.sc (.int .i64 p1)]:=by rw [r2,if_pos (by omega)];exact hg1
  clear h0 g1 hst hinv
  obtain ⟨b,hb⟩:∃ b,b = z + 1:=⟨_,rfl⟩
  obtain ⟨d,hd⟩:∃ d,d = z + 2:=⟨_,rfl⟩
  have gb:qa .i64 (qb z 1) = b:=by rw [e1,e2,IntWalk.i64_in _ (by omega)];exact hb.symm
  have gd:qa .i64 (qb z 2) = d:=by rw [e1,e2,IntWalk.i64_in _ (by omega)];exact hd.symm
  rw [← hb,← hd,← hL1] at hs
  rcases hs with ⟨hk,rfl,rfl,rfl⟩ | ⟨rfl,⟨hc,rfl,rfl,rfl⟩ | ⟨hc,x0,x1,x2,x3,n,c,hr,⟨hc0,rfl,rfl,rfl⟩ | ⟨rfl,hn0,hn,⟨hcm,rfl,rfl,rfl⟩ | ⟨m2,hcm,hi,hm⟩⟩⟩⟩
  ·have g4:qk k 1 = false:=by rw [e9];exact decide_eq_false hk
   iterate 2 (try cbv;repeat ((first | with_reducible apply next_at hA | rw [g3] | rw [g4]);cbv))
   try simp (maxSteps:=4000000) only [nc] at *
  ·iterate 2 (try cbv;repeat ((first | with_reducible apply next_at hA | rw [g3] | rw [g2] | rw [gb] | refine call_at hA _ hc rfl ?_ | refine calm_at hA _ hc ?_);cbv))
   try simp (maxSteps:=4000000) only [nc] at *
  ·have g5:qk cf 0 = false:=by rw [e9];exact decide_eq_false hc0
   iterate 2 (try cbv;repeat ((first | with_reducible apply next_at hA | rw [g3] | rw [g2] | rw [gb] | rw [gd] | rw [gL] | rw [g5] | refine call_at hA _ hc rfl ?_ | refine calm_at hA _ hc ?_ | refine call_at hA _ hr rfl ?_ | refine calm_at hA _ hr ?_);cbv))
   try simp (maxSteps:=4000000) only [nc] at *
  ·have g6:vd R [[.sc (.string s1),x0,x1,x2,x3]] = R ++ [[.sc (.string s1),x0,x1,x2,x3]]:=by rw [r4]
   obtain ⟨R2,hR2⟩:∃ R2,R2 = R ++ [[.sc (.string s1),x0,x1,x2,x3]]:=⟨_,rfl⟩
   rw [← hR2] at g6 ⊢
   iterate 2 (try cbv;repeat ((first | with_reducible apply next_at hA | rw [g3] | rw [g2] | rw [gb] | rw [gd] | rw [gL] | rw [g00] | rw [g6] | refine call_at hA _ hc rfl ?_ | refine calm_at hA _ hc ?_ | refine call_at hA _ hr rfl ?_ | refine calm_at hA _ hr ?_ | refine call_at hA _ hcm rfl ?_ | refine calm_at hA _ hcm ?_ | refine lit_at hA true ?_ | (refine room_at hA (by simp only [List.length_cons,List.length_nil];omega) ?_));cbv))
   try simp (maxSteps:=4000000) only [nc] at *
  ·have g6:vd R [[.sc (.string s1),x0,x1,x2,x3]] = R ++ [[.sc (.string s1),x0,x1,x2,x3]]:=by rw [r4]
   obtain ⟨R2,hR2⟩:∃ R2,R2 = R ++ [[.sc (.string s1),x0,x1,x2,x3]]:=⟨_,rfl⟩
   obtain ⟨q,hq⟩:∃ q,q = n + 1:=⟨_,rfl⟩
   have gq:qa .i64 (qb n 1) = q:=by rw [e1,e2,IntWalk.i64_in _ (by omega)];exact hq.symm
   rw [← hR2,← hq] at hi
   rw [← hR2] at g6
   iterate 2 (try cbv;repeat ((first | with_reducible apply next_at hA | rw [g3] | rw [g2] | rw [gb] | rw [gd] | rw [gL] | rw [g00] | rw [g6] | rw [gq] | refine call_at hA _ hc rfl ?_ | refine calm_at hA _ hc ?_ | refine call_at hA _ hr rfl ?_ | refine calm_at hA _ hr ?_ | refine call_at hA _ hcm rfl ?_ | refine calm_at hA _ hcm ?_ | refine lit_at hA true ?_ | (refine room_at hA (by simp only [List.length_cons,List.length_nil];omega) ?_));cbv))
   try simp (maxSteps:=4000000) only [nc] at *
   refine ⟨(q,R2,m2),hi,hm,?_⟩
   cbv
def CdOk (c:Int):Prop:=c = 0 ∨ c = 5 ∨ c = 6
def CdR (rd:PE → Ty × PE):Prop:=∀ p:PE,CdOk p.2 → CdOk (rd p).2.2
theorem cd_want {ts:List Tok} {s:ByteArray} {p:PE} (h:CdOk p.2):CdOk (wantP ts s p).2:=by
 unfold wantP
 split
 ·exact h
 ·split
  ·exact .inl rfl
  ·exact .inr (.inl rfl)
theorem cd_fail {p:PE} (c:Int) (hc:CdOk c) (h:CdOk p.2):CdOk (failP c p).2:=by
 unfold failP
 split
 ·exact h
 ·exact hc
theorem cd_field {rd:PE → Ty × PE} {ts:List Tok} (hr:CdR rd) {p:PE} (h:CdOk p.2):CdOk (fieldW rd ts p).2.2:=by
 unfold fieldW
 split
 ·exact cd_fail 5 (.inr (.inl rfl)) h
 ·exact hr _ (cd_want h)
theorem cd_fields {rd:PE → Ty × PE} {ts:List Tok} (hr:CdR rd):∀ (k:Nat) (p:PE) (l:List (ByteArray × Ty)),CdOk p.2 → CdOk (fieldsW rd ts k p l).2.2
 | 0,p,l,h=>h
 | k + 1,p,l,h=>by
  rw [fieldsW]
  split
  ·exact cd_fields hr k _ _ (cd_field hr (.inl rfl))
  ·exact h
theorem cd_head {rd:PE → Ty × PE} {ts:List Tok} (hr:CdR rd) {p:PE} (h:CdOk p.2):CdOk (headW rd ts p).2.2:=by
 unfold headW
 split
 ·exact cd_fields hr _ _ _ (cd_field hr h)
 ·exact h
theorem cd_row {rd:PE → Ty × PE} {ts:List Tok} (hr:CdR rd) {p:PE} (h:CdOk p.2):CdOk (rowR rd ts p).2.2:=by
 unfold rowR tlW
 split
 ·exact cd_want (.inl rfl)
 ·exact cd_head hr h
theorem cd_atom {rd:PE → Ty × PE} {ts:List Tok} (hr:CdR rd) {p:PE} (h:CdOk p.2):CdOk (atomW rd ts p).2.2:=by
 unfold atomW
 repeat' split
 ·exact .inl rfl
 ·exact .inl rfl
 ·exact .inl rfl
 ·exact cd_want (hr _ (.inl rfl))
 ·exact cd_want (cd_row hr (.inl rfl))
 ·exact cd_want (cd_row hr (.inl rfl))
 ·exact cd_fail 5 (.inr (.inl rfl)) h
theorem cd_whole (ts:List Tok):∀ n:Nat,CdR (wholeW ts n)
 | 0,p,h=>by rw [wholeW];exact cd_fail 6 (.inr (.inr rfl)) h
 | n + 1,p,h=>by
  rw [wholeW]
  split
  ·exact h
  ·split
   ·exact cd_whole ts n _ (.inl rfl)
   ·exact cd_atom (cd_whole ts n) h
theorem skB_0 (ts:List Tok) (s:ByteArray) (a:Nat):skB ts s (a,0) = isG (tkA ts a) s:=by unfold skB;rfl
theorem skB_e {ts:List Tok} {s:ByteArray} {p:PE} (h:p.2 ≠ 0):skB ts s p = false:=by unfold skB;rw [beq_false_of_ne h];rfl
theorem wantP_e {ts:List Tok} {s:ByteArray} {p:PE} (h:p.2 ≠ 0):wantP ts s p = p:=if_pos h
theorem wantP_y {ts:List Tok} {s:ByteArray} {p:PE} (h:p.2 = 0) (hg:isG (tkA ts p.1) s = true):wantP ts s p = (p.1 + 1,0):=by unfold wantP;rw [if_neg (fun x=>x h),if_pos hg]
theorem wantP_n {ts:List Tok} {s:ByteArray} {p:PE} (h:p.2 = 0) (hg:¬ isG (tkA ts p.1) s = true):wantP ts s p = (p.1,5):=by unfold wantP;rw [if_neg (fun x=>x h),if_neg hg]
theorem sgY {ts:List Tok} {a:Nat} {s:ByteArray} (ha:a < ts.length) (hl:ts.length ≤ 65537) (h:isG (tkA ts a) s = true):SgN (rTk ts) s (a:Int) true:=h ▸ sign_s ts a ha (by omega) s
theorem sgF {ts:List Tok} {a:Nat} {s:ByteArray} (ha:a < ts.length) (hl:ts.length ≤ 65537) (h:¬ isG (tkA ts a) s = true):SgN (rTk ts) s (a:Int) false:=(Bool.eq_false_iff.2 h) ▸ sign_s ts a ha (by omega) s
theorem RdZ.lf {f:Nat} {T:List (List D)} {a L n c:Int} {o:Int} (h:RdZ f T a L (lf0 o) n c):RdZ f T a L (cT (lfT o)) n c:=by
 have h2:RdZ f T a L [.sc (.int .u8 o),.sc (.string noS),.sc (.int .i64 0),.sl 4 []] n c:=Spec.likeq h ⟨lf0_like o,.same _,.same _,trivial⟩
 unfold RdZ
 rw [cT,rT]
 exact h2
def ReadP (ts:List Tok) (n:Nat) (L:Int):Prop:=∀ a:Nat,a < ts.length → ∃ g:Ty,RdZ 18 (rTk ts) (a:Int) L (cT g) ((wholeW ts n (a,0)).2.1:Int) (wholeW ts n (a,0)).2.2 ∧ ((wholeW ts n (a,0)).2.2 = 0 → g = (wholeW ts n (a,0)).1)
theorem tkAt_s {ts:List Tok} {a:Nat} (ha:a < ts.length):TkAt (rTk ts) (a:Int) (tkA ts a).kind (tkA ts a).text:=⟨by omega,_,_,by rw [show ((a:Int)).toNat = a by omega];exact rTk_get (tkA_is ha)⟩
theorem fields_z {ts:List Tok} (hE:EndsT ts) (hl:ts.length ≤ 65537) {n:Nat} {L:Int} (hL0:0 ≤ L) (hL:L ≤ 1048576) (hr:ReadP ts n (L + 1)) (a:Nat) (ha:a < ts.length) :
  ∃ X:List (List D),FdZ (rTk ts) (a:Int) L X ((headW (wholeW ts n) ts (a,0)).2.1:Int) (headW (wholeW ts n) ts (a,0)).2.2 ∧ ((headW (wholeW ts n) ts (a,0)).2.2 = 0 → X = rF (headW (wholeW ts n) ts (a,0)).1):=by
 have hT:(rTk ts).length ≤ 1048576:=by rw [rTk_len];omega
 have hf:=fit_whole hE n
 have ht:=tkAt_s ha
 have like0:∀ {nn cc:Int},FdD (rTk ts) (a:Int) L (.sl 0 []) nn cc → FdZ (rTk ts) (a:Int) L [] nn cc:=fun h=>Spec.likeq h ⟨.one (.nil _ _),.same _,.same _,trivial⟩
 by_cases hk:(tkA ts a).kind = 1
 ·rw [hk] at ht
  have hhd:headW (wholeW ts n) ts (a,0) = fieldsW (wholeW ts n) ts ts.length (fieldW (wholeW ts n) ts (a,0)).2 ([] ++ [(fieldW (wholeW ts n) ts (a,0)).1]):=by unfold headW;rw [if_pos hk];rfl
  generalize headW (wholeW ts n) ts (a,0) = H at *
  have key:FdD (rTk ts) (a:Int) L (if H.2.2 = 0 then .sl 5 (rF H.1) else .sl 0 []) (H.2.1:Int) H.2.2:=by
   refine zf_some (m0:=ts.length) hT hL0 hL ht (fun z R m=>∃ (b:Nat) (l:List (ByteArray × Ty)),z = (b:Int) ∧ R = rF l ∧ b < ts.length ∧ 2 * l.length ≤ b ∧ ts.length - b ≤ m ∧ H = fieldsW (wholeW ts n) ts m (fieldW (wholeW ts n) ts (b,0)).2 (l ++ [(fieldW (wholeW ts n) ts (b,0)).1])) ⟨a,[],rfl,rfl,ha,Nat.zero_le _,Nat.sub_le ..,hhd⟩ ?_
   rintro z R m ⟨b,l,rfl,rfl,hb,hll,hm,hH⟩
   refine ⟨by rw [rF_len];omega,(tkA ts b).kind,(tkA ts b).text,tkAt_s hb,?_⟩
   obtain ⟨m,rfl⟩:∃ k,m = k + 1:=⟨m - 1,by omega⟩
   rw [fieldsW] at hH
   by_cases hkb:(tkA ts b).kind = 1
   ·have hb1:=hE b hb (by rw [hkb];decide)
    by_cases hc:isG (tkA ts (b + 1)) gColon = true
    ·have hb2:=hE (b + 1) hb1 (by rw [isG_kind hc];decide)
     have hfw:fieldW (wholeW ts n) ts (b,0) = (((tkA ts b).text,(wholeW ts n (b + 2,0)).1),(wholeW ts n (b + 2,0)).2):=by
      unfold fieldW
      rw [if_neg (fun h=>h hkb),wantP_y (p:=(b + 1,0)) rfl hc]
     obtain ⟨g,hg1,hg2⟩:=hr (b + 2) hb2
     have hfu:=(hf (b + 2,0) hb2).1
     rw [hfw] at hH
     generalize wholeW ts n (b + 2,0) = u at *
     obtain ⟨x0,x1,x2,x3,hx⟩:=cT_four g
     rw [hx] at hg1
     refine .inr ⟨hkb,.inr ⟨sgY hb1 hl hc,x0,x1,x2,x3,_,_,hg1,?_⟩⟩
     by_cases hu:u.2.2 = 0
     ·have hug:=hg2 hu
      have hlo:=hfu.lo
      have hhi:=hfu.hi
      simp only at hlo
      refine .inr ⟨hu,by omega,by omega,?_⟩
      have e1:rF (l ++ [((tkA ts b).text,u.1)]) = rF l ++ [[.sc (.string (tkA ts b).text),x0,x1,x2,x3]]:=by rw [rF_snoc,← hug,hx]
      by_cases hcm:isG (tkA ts u.2.1) gComma = true
      ·have hs:skB ts gComma u.2 = true:=by unfold skB;rw [hu,hcm];rfl
       rw [if_pos hs] at hH
       have hb3:=hE u.2.1 hhi (by rw [isG_kind hcm];decide)
       exact .inr ⟨m,sgY hhi hl hcm,⟨u.2.1 + 1,_,rfl,e1.symm,hb3,by rw [List.length_append,List.length_singleton];omega,by omega,hH⟩,Nat.lt_succ_self m⟩
      ·have hs:¬ skB ts gComma u.2 = true:=by unfold skB;rw [hu];simpa using hcm
       rw [if_neg hs] at hH
       rw [hH]
       exact .inl ⟨sgF hhi hl hcm,by rw [if_pos hu,← e1],rfl,hu⟩
     ·have hs:¬ skB ts gComma u.2 = true:=by rw [skB_e hu];decide
      rw [if_neg hs] at hH
      rw [hH]
      exact .inl ⟨hu,if_neg hu,rfl,rfl⟩
    ·have hfw:fieldW (wholeW ts n) ts (b,0) = (((tkA ts b).text,zeroTy),(b + 1,5)):=by
      unfold fieldW
      rw [if_neg (fun h=>h hkb),wantP_n (p:=(b + 1,0)) rfl hc,(hf (b + 1,5) hb1).2 (show (5:Int) ≠ 0 by decide)]
     rw [hfw,if_neg (by rw [skB_e (p:=(b + 1,5)) (show (5:Int) ≠ 0 by decide)];decide)] at hH
     rw [hH]
     exact .inr ⟨hkb,.inl ⟨sgF hb1 hl hc,if_neg (show (5:Int) ≠ 0 by decide),rfl,rfl⟩⟩
   ·have hfw:fieldW (wholeW ts n) ts (b,0) = ((noS,zeroTy),(b,5)):=by
     unfold fieldW failP
     rw [if_pos hkb,if_neg (fun h=>h rfl)]
    rw [hfw,if_neg (by rw [skB_e (p:=(b,5)) (show (5:Int) ≠ 0 by decide)];decide)] at hH
    rw [hH]
    exact .inl ⟨hkb,if_neg (show (5:Int) ≠ 0 by decide),rfl,rfl⟩
  by_cases h0:H.2.2 = 0
  ·rw [if_pos h0] at key
   exact ⟨_,key,fun _=>rfl⟩
  ·rw [if_neg h0] at key
   exact ⟨_,like0 key,fun h=>absurd h h0⟩
 ·have hhd:headW (wholeW ts n) ts (a,0) = ([],(a,0)):=by unfold headW;rw [if_neg hk]
  rw [hhd]
  exact ⟨_,like0 (zf_none hT hk ht),fun _=>rfl⟩
theorem isG_ne {t:Tok} {s s2:ByteArray} (h:isG t s = true) (hne:(s.data.toList == s2.data.toList) = false):¬ isG t s2 = true:=by
 unfold isG at h ⊢
 rw [Bool.and_eq_true,beq_iff_eq,beq_iff_eq] at h
 rw [h.2,ByteArray.toList_eq,ByteArray.toList_eq,hne,Bool.and_false]
 decide
theorem atom_z {ts:List Tok} (hE:EndsT ts) (hl:ts.length ≤ 65537) {n:Nat} {L:Int} (hL0:0 ≤ L) (hL2:L ≤ 1048576) (hr:ReadP ts n (L + 1)) (a:Nat) (ha:a < ts.length) :
  ∃ g:Ty,RdZ 39 (rTk ts) (a:Int) L (cT g) ((atomW (wholeW ts n) ts (a,0)).2.1:Int) (atomW (wholeW ts n) ts (a,0)).2.2 ∧ ((atomW (wholeW ts n) ts (a,0)).2.2 = 0 → g = (atomW (wholeW ts n) ts (a,0)).1):=by
 have hf:=fit_whole hE n
 unfold atomW
 by_cases h1:skB ts gInt (a,0) = true
 ·rw [if_pos h1]
  exact ⟨_,(za_0 (by omega) (by omega) (sgY ha hl (skB_0 ts _ a ▸ h1))).lf,fun _=>rfl⟩
 rw [if_neg h1]
 have n1:=sgF ha hl (skB_0 ts _ a ▸ h1)
 by_cases h2:skB ts gBool (a,0) = true
 ·rw [if_pos h2]
  exact ⟨_,(za_1 (by omega) (by omega) n1 (sgY ha hl (skB_0 ts _ a ▸ h2))).lf,fun _=>rfl⟩
 rw [if_neg h2]
 have n2:=sgF ha hl (skB_0 ts _ a ▸ h2)
 by_cases h3:skB ts gDyn (a,0) = true
 ·rw [if_pos h3]
  exact ⟨_,(za_2 (by omega) (by omega) n1 n2 (sgY ha hl (skB_0 ts _ a ▸ h3))).lf,fun _=>rfl⟩
 rw [if_neg h3]
 have n3:=sgF ha hl (skB_0 ts _ a ▸ h3)
 by_cases h4:skB ts gOpen (a,0) = true
 ·rw [if_pos h4]
  have s2:=(skB_at hE ha h4).2
  obtain ⟨g,hg1,hg2⟩:=hr (a + 1) s2
  have hfu:=(hf (a + 1,0) s2).1
  have hcd:=cd_whole ts n (a + 1,0) (.inl rfl)
  generalize wholeW ts n (a + 1,0) = u at *
  have hhi:=hfu.hi
  have y4:=sgY ha hl (skB_0 ts _ a ▸ h4)
  have hb0:(0:Int) ≤ (u.2.1:Int):=by omega
  have hb1:(u.2.1:Int) ≤ 1048576:=by omega
  have hcc:u.2.2 ≠ 0 → 2 ≤ u.2.2:=fun h=>by unfold CdOk at hcd;omega
  by_cases h0:u.2.2 = 0
  ·rw [h0] at hg1
   by_cases hc:isG (tkA ts u.2.1) gShut = true
   ·rw [wantP_y h0 hc]
    exact ⟨g,za_open (by omega) (by omega) hL0 hL2 n1 n2 n3 y4 hg1 (sgY hhi hl hc) hb0 hb1,fun _=>hg2 h0⟩
   ·rw [wantP_n h0 hc]
    exact ⟨g,za_openm (by omega) (by omega) hL0 hL2 n1 n2 n3 y4 hg1 (sgF hhi hl hc) hb0 hb1,fun h=>absurd (show (5:Int) = 0 from h) (by decide)⟩
  ·rw [wantP_e h0]
   exact ⟨g,za_opene (by omega) (by omega) hL0 hL2 n1 n2 n3 y4 hg1 h0 (hcc h0) hb0 hb1,fun h=>absurd h h0⟩
 rw [if_neg h4]
 have n4:=sgF ha hl (skB_0 ts _ a ▸ h4)
 by_cases h_:skB ts gRec (a,0) = true
 ·rw [if_pos h_]
  have s2:=(skB_at hE ha h_).2
  have hfh:=fit_head hE hf (a + 1,0) s2
  obtain ⟨X,hX1,hX2⟩:=fields_z hE hl hL0 hL2 hr (a + 1) s2
  unfold rowR
  generalize headW (wholeW ts n) ts (a + 1,0) = H at *
  have hhi:=hfh.hi
  have hsz:=hfh.sz
  have hfl:=fld_len H.1
  have hofs:∀ o:Int,Spec 42 [.one (.sl 5 (rF H.1)),.ag (lf0 o)] [.ag (cT (rowS H.1 (lfT o)))]:=fun o=>by
   have h:=Of_s H.1 (lfT o) (by simp only at hsz;omega)
   rw [show cT (lfT o) = [.sc (.int .u8 o),.sc (.string noS),.sc (.int .i64 0),.sl 4 []] by rw [cT,rT]] at h
   exact h.like ⟨.same _,lf0_like o,trivial⟩
  by_cases h0:H.2.2 = 0
  ·have hXe:=hX2 h0
   subst hXe
   rw [h0] at hX1
   unfold tlW
   by_cases hb:isG (tkA ts H.2.1) gBar = true
   ·rw [if_pos (show skB ts gBar H.2 = true by unfold skB;rw [h0,hb];rfl)]
    have hb1:=hE _ hhi (by rw [isG_kind hb];decide)
    by_cases hd:isG (tkA ts (H.2.1 + 1)) gDyn = true
    ·have hb2:=hE _ hb1 (by rw [isG_kind hd];decide)
     rw [wantP_y (p:=(H.2.1 + 1,0)) rfl hd]
     by_cases hc:isG (tkA ts (H.2.1 + 1 + 1)) gRecE = true
     ·rw [wantP_y (p:=(H.2.1 + 1 + 1,0)) rfl hc]
      exact ⟨_,za_rk1 (by omega) (by omega) hL0 hL2 n1 n2 n3 n4 (sgF ha hl (isG_ne (skB_0 ts _ a ▸ h_) rfl)) (sgY ha hl (skB_0 ts _ a ▸ h_)) hX1 (by omega) (by omega) (sgY hhi hl hb) (sgY hb1 hl hd) (sgY hb2 hl hc) (hofs 9),fun _=>rfl⟩
     ·rw [wantP_n (p:=(H.2.1 + 1 + 1,0)) rfl hc]
      exact ⟨_,(za_rm1 (by omega) (by omega) hL0 hL2 n1 n2 n3 n4 (sgF ha hl (isG_ne (skB_0 ts _ a ▸ h_) rfl)) (sgY ha hl (skB_0 ts _ a ▸ h_)) hX1 (by omega) (by omega) (sgY hhi hl hb) (sgY hb1 hl hd) (sgF hb2 hl hc)).lf,fun h=>absurd (show (5:Int) = 0 from h) (by decide)⟩
    ·rw [wantP_n (p:=(H.2.1 + 1,0)) rfl hd,wantP_e (p:=(H.2.1 + 1,5)) (show (5:Int) ≠ 0 by decide)]
     exact ⟨_,(za_rq (by omega) (by omega) hL0 hL2 n1 n2 n3 n4 (sgF ha hl (isG_ne (skB_0 ts _ a ▸ h_) rfl)) (sgY ha hl (skB_0 ts _ a ▸ h_)) hX1 (by omega) (by omega) (sgY hhi hl hb) (sgF hb1 hl hd)).lf,fun h=>absurd (show (5:Int) = 0 from h) (by decide)⟩
   ·rw [if_neg (show ¬ skB ts gBar H.2 = true by unfold skB;rw [h0];simpa using hb)]
    by_cases hc:isG (tkA ts H.2.1) gRecE = true
    ·rw [wantP_y (p:=H.2) h0 hc]
     exact ⟨_,za_rk0 (by omega) (by omega) hL0 hL2 n1 n2 n3 n4 (sgF ha hl (isG_ne (skB_0 ts _ a ▸ h_) rfl)) (sgY ha hl (skB_0 ts _ a ▸ h_)) hX1 (by omega) (by omega) (sgF hhi hl hb) (sgY hhi hl hc) (hofs 8),fun _=>rfl⟩
    ·rw [wantP_n (p:=H.2) h0 hc]
     exact ⟨_,(za_rm0 (by omega) (by omega) hL0 hL2 n1 n2 n3 n4 (sgF ha hl (isG_ne (skB_0 ts _ a ▸ h_) rfl)) (sgY ha hl (skB_0 ts _ a ▸ h_)) hX1 (by omega) (by omega) (sgF hhi hl hb) (sgF hhi hl hc)).lf,fun h=>absurd (show (5:Int) = 0 from h) (by decide)⟩
  ·unfold tlW
   rw [if_neg (show ¬ skB ts gBar H.2 = true by rw [skB_e h0];decide),wantP_e h0]
   exact ⟨_,(za_re (by omega) (by omega) hL0 hL2 n1 n2 n3 n4 (sgF ha hl (isG_ne (skB_0 ts _ a ▸ h_) rfl)) (sgY ha hl (skB_0 ts _ a ▸ h_)) hX1 h0).lf,fun h=>absurd h h0⟩
 rw [if_neg h_]
 have n5:=sgF ha hl (skB_0 ts _ a ▸ h_)
 clear h_
 by_cases h_:skB ts gVnt (a,0) = true
 ·rw [if_pos h_]
  have s2:=(skB_at hE ha h_).2
  have hfh:=fit_head hE hf (a + 1,0) s2
  obtain ⟨X,hX1,hX2⟩:=fields_z hE hl hL0 hL2 hr (a + 1) s2
  unfold rowR
  generalize headW (wholeW ts n) ts (a + 1,0) = H at *
  have hhi:=hfh.hi
  have hsz:=hfh.sz
  have hfl:=fld_len H.1
  have hofs:∀ o:Int,Spec 42 [.one (.sl 5 (rF H.1)),.ag (lf0 o)] [.ag (cT (rowS H.1 (lfT o)))]:=fun o=>by
   have h:=Of_s H.1 (lfT o) (by simp only at hsz;omega)
   rw [show cT (lfT o) = [.sc (.int .u8 o),.sc (.string noS),.sc (.int .i64 0),.sl 4 []] by rw [cT,rT]] at h
   exact h.like ⟨.same _,lf0_like o,trivial⟩
  by_cases h0:H.2.2 = 0
  ·have hXe:=hX2 h0
   subst hXe
   rw [h0] at hX1
   unfold tlW
   by_cases hb:isG (tkA ts H.2.1) gBar = true
   ·rw [if_pos (show skB ts gBar H.2 = true by unfold skB;rw [h0,hb];rfl)]
    have hb1:=hE _ hhi (by rw [isG_kind hb];decide)
    by_cases hd:isG (tkA ts (H.2.1 + 1)) gDyn = true
    ·have hb2:=hE _ hb1 (by rw [isG_kind hd];decide)
     rw [wantP_y (p:=(H.2.1 + 1,0)) rfl hd]
     by_cases hc:isG (tkA ts (H.2.1 + 1 + 1)) gVntE = true
     ·rw [wantP_y (p:=(H.2.1 + 1 + 1,0)) rfl hc]
      exact ⟨_,za_vk1 (by omega) (by omega) hL0 hL2 n1 n2 n3 n4 (sgY ha hl (skB_0 ts _ a ▸ h_)) hX1 (by omega) (by omega) (sgY hhi hl hb) (sgY hb1 hl hd) (sgY hb2 hl hc) (hofs 9),fun _=>rfl⟩
     ·rw [wantP_n (p:=(H.2.1 + 1 + 1,0)) rfl hc]
      exact ⟨_,(za_vm1 (by omega) (by omega) hL0 hL2 n1 n2 n3 n4 (sgY ha hl (skB_0 ts _ a ▸ h_)) hX1 (by omega) (by omega) (sgY hhi hl hb) (sgY hb1 hl hd) (sgF hb2 hl hc)).lf,fun h=>absurd (show (5:Int) = 0 from h) (by decide)⟩
    ·rw [wantP_n (p:=(H.2.1 + 1,0)) rfl hd,wantP_e (p:=(H.2.1 + 1,5)) (show (5:Int) ≠ 0 by decide)]
     exact ⟨_,(za_vq (by omega) (by omega) hL0 hL2 n1 n2 n3 n4 (sgY ha hl (skB_0 ts _ a ▸ h_)) hX1 (by omega) (by omega) (sgY hhi hl hb) (sgF hb1 hl hd)).lf,fun h=>absurd (show (5:Int) = 0 from h) (by decide)⟩
   ·rw [if_neg (show ¬ skB ts gBar H.2 = true by unfold skB;rw [h0];simpa using hb)]
    by_cases hc:isG (tkA ts H.2.1) gVntE = true
    ·rw [wantP_y (p:=H.2) h0 hc]
     exact ⟨_,za_vk0 (by omega) (by omega) hL0 hL2 n1 n2 n3 n4 (sgY ha hl (skB_0 ts _ a ▸ h_)) hX1 (by omega) (by omega) (sgF hhi hl hb) (sgY hhi hl hc) (hofs 8),fun _=>rfl⟩
    ·rw [wantP_n (p:=H.2) h0 hc]
     exact ⟨_,(za_vm0 (by omega) (by omega) hL0 hL2 n1 n2 n3 n4 (sgY ha hl (skB_0 ts _ a ▸ h_)) hX1 (by omega) (by omega) (sgF hhi hl hb) (sgF hhi hl hc)).lf,fun h=>absurd (show (5:Int) = 0 from h) (by decide)⟩
  ·unfold tlW
   rw [if_neg (show ¬ skB ts gBar H.2 = true by rw [skB_e h0];decide),wantP_e h0]
   exact ⟨_,(za_ve (by omega) (by omega) hL0 hL2 n1 n2 n3 n4 (sgY ha hl (skB_0 ts _ a ▸ h_)) hX1 h0).lf,fun h=>absurd h h0⟩
 rw [if_neg h_]
 have n6:=sgF ha hl (skB_0 ts _ a ▸ h_)
 unfold failP
 rw [if_neg (fun h=>h rfl)]
 exact ⟨_,(za_none (by omega) (by omega) hL0 hL2 n1 n2 n3 n4 n6 n5).lf,fun h=>absurd (show (5:Int) = 0 from h) (by decide)⟩
theorem read_z {ts:List Tok} (hE:EndsT ts) (hl:ts.length ≤ 65537):∀ (n:Nat) (L:Int),LvOk n L → ReadP ts n L
 | 0,L,hv,a,ha=>by
  have hL:200 < L:=by unfold LvOk at hv;omega
  rw [wholeW]
  unfold failP
  rw [if_neg (fun h=>h rfl)]
  exact ⟨_,(z_deep hL).lf,fun h=>absurd (show (6:Int) = 0 from h) (by decide)⟩
 | n + 1,L,hv,a,ha=>by
  have hv2:LvOk n (L + 1) ∧ 0 ≤ L ∧ L ≤ 200:=by
   unfold LvOk at hv ⊢
   omega
  obtain ⟨hv2,hL0,hL⟩:=hv2
  have ih:=read_z hE hl n (L + 1) hv2
  have hf:=fit_whole hE n
  obtain ⟨g,hg1,hg2⟩:=atom_z hE hl hL0 (by omega) ih a ha
  have hfa:=fit_atom hE hf (a,0) ha
  rw [wholeW,if_neg (fun h=>h rfl)]
  generalize atomW (wholeW ts n) ts (a,0) = r at *
  have hhi:=hfa.hi
  by_cases h0:r.2.2 = 0
  ·by_cases hs:isG (tkA ts r.2.1) gTo = true
   ·rw [if_pos (show skB ts gTo r.2 = true by unfold skB;rw [h0,hs];rfl)]
    have s2:=hE _ hhi (by rw [isG_kind hs];decide)
    obtain ⟨g2,hu1,hu2⟩:=ih (r.2.1 + 1) s2
    generalize wholeW ts n (r.2.1 + 1,0) = u at *
    rw [h0] at hg1
    by_cases hu0:u.2.2 = 0
    ·rw [hu0] at hu1
     refine ⟨.mk 4 noS 0 [g,g2],?_,fun _=>by rw [hg2 h0,hu2 hu0]⟩
     show RdZ _ _ _ _ _ (u.2.1:Int) u.2.2
     rw [hu0]
     exact z_fun hL0 hL (by omega) (by omega) hg1 (sgY hhi hl hs) hu1
    ·exact ⟨_,(z_fune hL0 hL (by omega) (by omega) hu0 hg1 (sgY hhi hl hs) hu1).lf,fun h=>absurd h hu0⟩
   ·rw [if_neg (show ¬ skB ts gTo r.2 = true by unfold skB;rw [h0];simpa using hs)]
    rw [h0] at hg1 ⊢
    exact ⟨g,z_atom hL hg1 (sgF hhi hl hs),fun _=>hg2 h0⟩
  ·rw [if_neg (show ¬ skB ts gTo r.2 = true by rw [skB_e h0];decide)]
   exact ⟨g,z_err hL h0 hg1,fun h=>absurd h h0⟩
end Go.Proofs.YtahpnackkmbmgaaGreatDoor.Vm
end
section
namespace Go.Proofs.YtahpnackkmbmgaaGreatDoor
open Go.RowKit
def begB (l:List Int) (a:Nat) (s:ByteArray):Bool:=decide (a + s.size ≤ l.length) && ((strOfNums ((l.drop a).take s.size)).toList == s.toList)
def findS (l:List Int) (a:Nat):List ByteArray → ByteArray
 | []=>⟨#[]⟩
 | s :: ws=>if begB l a s = true then s else findS l a ws
def prefB:List Int → List Int → Bool
 | [],_=>true
 | _,[]=>false
 | x :: xs,y :: ys=>(x == y) && prefB xs ys
theorem prefB_iff:∀ (p d:List Int),prefB p d = true ↔ p.length ≤ d.length ∧ d.take p.length = p
 | [],d=>by simp [prefB]
 | x :: xs,[]=>by simp [prefB]
 | x :: xs,y :: ys=>by
  simp only [prefB,Bool.and_eq_true,beq_iff_eq,prefB_iff xs ys,List.length_cons,List.take_succ_cons,List.cons.injEq]
  constructor
  ·rintro ⟨rfl,h1,h2⟩;exact ⟨by omega,rfl,h2⟩
  ·rintro ⟨h1,rfl,h2⟩;exact ⟨rfl,by omega,h2⟩
theorem str_nums (s:ByteArray):strOfNums (numsOf s) = s:=by
 unfold numsOf strOfNums
 apply ByteArray.ext
 have e:((fun n:Int=>UInt8.ofNat n.toNat) ∘ fun b:UInt8=>((b.toNat:Nat):Int)) = id:=by
  funext b
  simp
 simp [e]
theorem beg_pref {l:List Int} {a:Nat} (hb:Byt l) (ha:a ≤ l.length) (s:ByteArray):begB l a s = prefB (numsOf s) (l.drop a):=by
 have h2:Byt ((l.drop a).take s.size):=fun x hx=>hb x (List.mem_of_mem_drop (List.mem_of_mem_take hx))
 rw [Bool.eq_iff_iff,prefB_iff,nums_len,List.length_drop]
 unfold begB
 rw [Bool.and_eq_true,decide_eq_true_iff,beq_iff_eq]
 constructor
 ·rintro ⟨h,e⟩
  refine ⟨by omega,?_⟩
  rw [ByteArray.toList_eq,ByteArray.toList_eq] at e
  have e':strOfNums ((l.drop a).take s.size) = s:=by
   apply ByteArray.ext
   exact Array.toList_inj.1 e
  rw [← nums_str h2,e']
 ·rintro ⟨h,e⟩
  refine ⟨by omega,?_⟩
  rw [e,str_nums]
def findN (d:List Int):List (List Int) → List Int
 | []=>[]
 | p :: ps=>if prefB p d = true then p else findN d ps
theorem find_n {l:List Int} {a:Nat} (hb:Byt l) (ha:a ≤ l.length):∀ ws:List ByteArray,numsOf (findS l a ws) = findN (l.drop a) (ws.map numsOf)
 | []=>rfl
 | s :: ws=>by
  simp only [findS,List.map_cons,findN]
  rw [← beg_pref hb ha]
  by_cases h:begB l a s = true
  ·rw [if_pos h,if_pos h]
  ·rw [if_neg h,if_neg h];exact find_n hb ha ws
theorem signs_n:signWs.map numsOf = signNs:=by decide +kernel
theorem find_one (x:Int) (t:List Int) (h1:∀ p ∈ signNs.take 4,prefB p (x :: t) = false):findN (x :: t) signNs = if x ∈ sgls then [x] else []:=by
 have e1:findN (x :: t) signNs = findN (x :: t) (signNs.drop 4):=by
  simp only [signNs,List.take_succ_cons,List.take_zero,List.mem_cons,List.not_mem_nil,or_false,forall_eq_or_imp,forall_eq] at h1
  obtain ⟨a,b,c,d⟩:=h1
  simp only [signNs,List.drop_succ_cons,List.drop_zero]
  rw [findN,a,if_neg (by decide),findN,b,if_neg (by decide),findN,c,if_neg (by decide),findN,d,if_neg (by decide)]
 have e2:∀ L:List Int,findN (x :: t) (L.map fun c=>[c]) = if x ∈ L then [x] else []:=by
  intro L
  induction L with
  | nil=>rfl
  | cons c L ih =>
   simp only [List.map_cons,findN,prefB,ih,Bool.and_true,beq_iff_eq,List.mem_cons]
   by_cases h:c = x
   ·rw [if_pos h,if_pos (.inl h.symm),h]
   ·rw [if_neg h]
    by_cases h2:x ∈ L
    ·rw [if_pos h2,if_pos (.inr h2)]
    ·rw [if_neg h2,if_neg (by rintro (h3 | h3);exact h h3.symm;exact h2 h3)]
 rw [e1,← e2 sgls]
 rfl
theorem find_law (d:List Int) (hd:d ≠ []):findN d signNs = d.take (signS d):=by
 cases d with
 | nil=>exact absurd rfl hd
 | cons x t =>
  by_cases h:2 ≤ (x :: t).length ∧ dblB (gb (x :: t) 0) (gb (x :: t) 1) = true
  ·have hs:signS (x :: t) = 2:=by unfold signS;rw [if_pos h]
   rw [hs]
   obtain ⟨h1,h2⟩:=h
   cases t with
   | nil=>simp at h1
   | cons y t =>
    simp [gb,dblB] at h2
    rcases h2 with ⟨rfl,rfl⟩ | ⟨rfl,rfl⟩ | ⟨rfl,rfl⟩ | ⟨rfl,rfl⟩ <;> rfl
  ·have hs:signS (x :: t) = if x ∈ sgls then 1 else 0:=by unfold signS;rw [if_neg h];rfl
   rw [find_one,hs]
   ·split <;> rfl
   ·intro p hp
    cases t with
    | nil =>
     simp [signNs] at hp
     rcases hp with rfl | rfl | rfl | rfl <;> simp [prefB]
    | cons y t =>
     simp [gb,dblB] at h
     simp [signNs] at hp
     rcases hp with rfl | rfl | rfl | rfl <;> simp [prefB] <;> omega
theorem find_sign {l:List Int} {a:Nat} (hb:Byt l) (ha:a < l.length):findS l a signWs = strOfNums ((l.drop a).take (signS (l.drop a))):=by
 rw [← str_nums (findS l a signWs),find_n hb (by omega),signs_n,find_law]
 intro h
 have:=congrArg List.length h
 rw [List.length_drop] at this
 simp at this
 omega
theorem find_step {l:List Int} {a j:Nat} {ws:List ByteArray} {x:ByteArray} (hj:j < ws.length) (hx:x = ws.getD j ByteArray.empty):findS l a (ws.drop j) = if begB l a x = true then x else findS l a (ws.drop (j + 1)):=by
 rw [List.drop_eq_getElem_cons hj,findS]
 have:ws[j] = x:=by rw [hx];simp [hj]
 rw [this]
theorem sign_sizes:∀ s ∈ signWs,1 ≤ s.size ∧ s.size ≤ 2:=by
 intro s hs
 simp only [signWs,List.mem_cons,List.not_mem_nil,or_false] at hs
 rcases hs with rfl | rfl | rfl | rfl | rfl | rfl | rfl | rfl | rfl | rfl | rfl | rfl | rfl | rfl | rfl | rfl | rfl | rfl | rfl | rfl | rfl | rfl | rfl | rfl | rfl <;> exact ⟨by decide,by decide⟩
theorem sign_get {j:Nat} (hj:j < 25):1 ≤ (signWs.getD j ByteArray.empty).size ∧ (signWs.getD j ByteArray.empty).size ≤ 2:=by
 have hj':j < signWs.length:=hj
 have e:signWs.getD j ByteArray.empty = signWs[j]:=by simp [hj']
 rw [e]
 exact sign_sizes _ (List.getElem_mem hj')
theorem str_ne {s:ByteArray} (h:1 ≤ s.size):(s.toList == []) = false ∧ s.toList.isEmpty = false ∧ (!s.toList.isEmpty) = true ∧ ¬ s.toList = []:=by
 have hn:¬ s.toList = []:=fun hh=>by
  rw [ByteArray.toList_eq] at hh
  have:=congrArg List.length hh
  rw [Array.length_toList] at this
  have h2:s.data.size = s.size:=rfl
  simp at this
  simp [ByteArray.size,this] at h
 have hi:s.toList.isEmpty = false:=by rw [List.isEmpty_eq_false_iff];exact hn
 exact ⟨beq_eq_false_iff_ne.2 hn,hi,by rw [hi];rfl,hn⟩
theorem row_new (w:World) (xs:List Value) (t:TypeId) {g:Nat} (hg:g = w.heap.size):∀ j u,xs[j]? = some u → (w.alloc (.cells xs.toArray t)).cell? ((⟨g,0,none⟩:Addr).add j) = some u:=fun j u hu=>by
 subst hg
 unfold Addr.add
 by_cases h0:j = 0
 ·subst h0
  simp [World.cell?_alloc_new,hu]
 ·simp [h0,World.cell?_alloc_new,hu]
end Go.Proofs.YtahpnackkmbmgaaGreatDoor
end
