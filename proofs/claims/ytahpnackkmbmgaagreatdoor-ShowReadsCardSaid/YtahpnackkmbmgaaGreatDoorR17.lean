/- Part 17 of the proof: ShCmp, VCmp, VROf, VCopied, VRCanon, VSchLaw, VSchLaw2, VFlat, VFor, VBack, VRange, VKJoin, VKJoin2, VKCanon, VPRight4, VKSame, VSmOf, VBnd, VRAt, VRVars, VKVars, VSc1, VSc2, VSc3, VSc4, VOpen, VScOpen, VTyOpen, VPr1, VEye2, VLike, VEye3, VEye4, VEye5, VEye6, VEye7, VEye8, VEye9, VTk5. Conditions: none. -/
import Derived.Test.YtahpnackkmbmgaaGreatDoorR3
import Derived.Test.YtahpnackkmbmgaaGreatDoorR6
import Derived.Test.YtahpnackkmbmgaaGreatDoorR7
import Derived.Test.YtahpnackkmbmgaaGreatDoorR13
import Derived.Test.YtahpnackkmbmgaaGreatDoorR16
import Derived.Shelf.Strings.Builder1
import Derived.Shelf.Small.Strs
import Derived.Shelf.Strconv.Itoa0
import Derived.Shelf.Strconv.Itoa1
import Derived.Shelf.LaysM
import Derived.Shelf.Strconv.Itoa2
import Derived.Shelf.Strconv.Itoa3
import Derived.Test.YtahpnackkmbmgaaGreatDoorProg
import Derived.IntWalk
import Derived.RangeFuncNested
import Derived.RangeFuncBound
import Derived.RangeFuncCalls
import Derived.RangeFuncLeaves
import Derived.RangeFuncFrom
import Derived.Shelf.Abstract
import Derived.WalkKit
import Derived.OwnWalkIn
import Derived.TacticsInMore
import Derived.LoopNIn
import Derived.LoopIn
import Derived.Test.YtahpnackkmbmgaaGreatDoorRows
import Derived.Deep.Slices
import Derived.WideShapes
import Derived.ChangeArms
set_option linter.all false
set_option linter.unusedVariables false
set_option linter.unusedSimpArgs false
section
namespace Go.Proofs
open Go.Shelf
def Tryz.lays106_ren:Go.Shelf.Ren:=⟨fun | 106=>96 | 213=>111 | 265=>123 | n=>n,fun | 9=>9 | 3=>3 | n=>n,fun | n=>n⟩
theorem Tryz.lays106:Go.Proofs.Lays.n106 Tryz.prog Tryz.lays106_ren:={
 mixed:=by kernel_rfl
 f106:=Tryz.func96.trans (congrArg some (by kernel_rfl))
 f213:=Tryz.func111.trans (congrArg some (by kernel_rfl))
 f265:=Tryz.func123.trans (congrArg some (by kernel_rfl))
 t3:=Tryz.underlying3
 a3:=Tryz.isAgg3
 z3:=Tryz.sizeOf3
 v3:=Tryz.zeroValue3
 t9:=Tryz.underlying9
 a9:=Tryz.isAgg9
 z9:=Tryz.sizeOf9
 v9:=Tryz.zeroValue9 }
open Go.RowKit in
theorem Tryz.strings_Compare (a b:ByteArray) (w:World) :
  Calls Tryz.prog 96 #[.string a,.string b] w fun e w'=>e = .returned (.int .i64 (Lib.compareBytes a.data.toList b.data.toList)) ∧ w' = w:=Any.strings_Compare Tryz.lays106 a b w
end Go.Proofs
end
section
namespace Go.Proofs.YtahpnackkmbmgaaGreatDoor.Vm
open Go.RowKit
set_option maxRecDepth 100000
set_option maxHeartbeats 4000000
theorem cmp_c (a b:ByteArray):Spec 96 [.one (.sc (.string a)),.one (.sc (.string b))] [.one (.sc (.int .i64 (Lib.compareBytes a.data.toList b.data.toList)))]:=by
 refine ⟨by kernel_rfl,fun I w args hI hat=>?_⟩
 match args,hat with
 | [v1,v2],⟨h1,h2,_⟩ =>
  have h1:AtD I w v1 (.sc (.string a)):=h1
  have h2:AtD I w v2 (.sc (.string b)):=h2
  cases h1
  cases h2
  refine (Tryz.strings_Compare a b w).mono ?_
  rintro e w' ⟨rfl,rfl⟩
  exact ⟨_,rfl,.sc _ rfl,Below.refl _ _⟩
theorem compare_is:∀ a b:List UInt8,Lib.compareBytes a b = cmpB a b
 | [],[]=>rfl
 | [],_ :: _=>by simp [Lib.compareBytes,cmpB,Op.bytesLess]
 | _ :: _,[]=>by simp [Lib.compareBytes,cmpB,Op.bytesLess]
 | x :: a,y :: b=>by
  rw [Lib.compareBytes,compare_is a b]
  unfold cmpB
  simp only [Op.bytesLess]
  by_cases h1:x < y
  ·simp [h1]
  ·by_cases h2:y < x
   ·have hne:x ≠ y:=fun e=>by rw [e] at h2;exact h1 (by rw [e];exact h2)
    simp [h1,h2,hne]
   ·have e:x = y:=by
     rw [UInt8.lt_iff_toNat_lt] at h1 h2
     exact UInt8.toNat_inj.1 (by omega)
    subst e
    simp [h1]
theorem flat1_c:CmpS 95:=by
 intro n m x1 x2 x3 x4 y1 y2 y3 y4
 have hc:=cmp_c n m
 rw [compare_is,← ByteArray.toList_eq,← ByteArray.toList_eq] at hc
 generalize cmpB n.toList m.toList = cv at *
 refine spec_of Tryz.func95 rfl (by kernel_rfl) (by kernel_rfl) (by kernel_rfl) fun qa qb qc qd qe qg qh qi qj qk ql qm qn qo qp qq qt qu qv qw qx qy qz va vc vd ve vf vg vh vj vk vl vm vn vo vp vq vr vt vu vv vw hA=>?_
 cbv
 repeat ((with_reducible apply next_at hA);cbv)
 refine call_at hA _ hc ?_ ?_
 ·rfl
 cbv
 repeat ((with_reducible apply next_at hA);cbv)
theorem Field_s (nm:ByteArray) (x0 x1 x2 x3 r0 r1 r2 r3:D):Spec 67 [.one (.sc (.string nm)),.ag [x0,x1,x2,x3],.ag [r0,r1,r2,r3]] [.ag [.sc (.int .u8 11),.sc (.string nm),.sc (.int .i64 0),.sl 4 [[x0,x1,x2,x3],[r0,r1,r2,r3]]]]:=by
 refine spec_of Tryz.func67 rfl (by kernel_rfl) (by kernel_rfl) (by kernel_rfl) fun qa qb qc qd qe qg qh qi qj qk ql qm qn qo qp qq qt qu qv qw qx qy qz va vc vd ve vf vg vh vj vk vl vm vn vo vp vq vr vt vu vv vw hA=>?_
 cbv
 repeat ((with_reducible first | apply next_at hA | apply lit_at hA true);cbv)
theorem rowS_cons (f:ByteArray × Ty) (fs:List (ByteArray × Ty)) (tl:Ty):rowS (f :: fs) tl = .mk 11 f.1 0 [f.2,rowS fs tl]:=rfl
theorem Of_s (fs:List (ByteArray × Ty)) (tl:Ty) (hn:fs.length ≤ 1048576):Spec 42 [.one (.sl 5 (rF fs)),.ag (cT tl)] [.ag (cT (rowS fs tl))]:=by
 obtain ⟨L,hL⟩:∃ L,L = rF fs:=⟨_,rfl⟩
 rw [← hL]
 obtain ⟨t0,t1,t2,t3,ht⟩:=cT_four tl
 obtain ⟨q0,q1,q2,q3,hq⟩:=cT_four (rowS fs tl)
 rw [ht,hq]
 refine spec_of Tryz.func42 rfl (by kernel_rfl) (by kernel_rfl) (by kernel_rfl) fun qa qb qc qd qe qg qh qi qj qk ql qm qn qo qp qq qt qu qv qw qx qy qz va vc vd ve vf vg vh vj vk vl vm vn vo vp vq vr vt vu vv vw hA=>?_
 cbv
 repeat ((with_reducible apply next_at hA);cbv)
 obtain ⟨e1,e2,e3,e4,e5,e6,e7,e8,e9⟩:=ar_at hA
 obtain ⟨r1,r2,-⟩:=row_at hA
 have hlen:qz L = ((fs.length:Nat):Int):=by rw [r1,hL,rF_len]
 have hz0:qa .i64 (qc (qz L) 1) = ((fs.length:Nat):Int) - 1:=by rw [e1,e3,hlen,IntWalk.i64_in _ (by omega)]
 refine loop_at hA (γ:=Int × D × D × D × D) (fun x=>[(6,vi .i64 x.1)]) (fun x=>[(2,.box [.d x.2.1,.d x.2.2.1,.d x.2.2.2.1,.d x.2.2.2.2])]) (fun x=>∃ k:Nat,x.1 = (k:Int) - 1 ∧ k ≤ fs.length ∧ cT (rowS (fs.drop k) tl) = [x.2.1,x.2.2.1,x.2.2.2.1,x.2.2.2.2]) (fun x=>(x.1 + 1).toNat) (qa .i64 (qc (qz L) 1),t0,t1,t2,t3) ?_ ?_ ?_
 ·exact ⟨fs.length,hz0,Nat.le_refl _,by rw [List.drop_length];exact ht⟩
 ·cbv
 ·intro x hinv
  obtain ⟨z,a0,a1,a2,a3⟩:=x
  cbv
  repeat ((with_reducible apply next_at hA);cbv)
  obtain ⟨k,hz,hk,hE⟩:=hinv
  replace hz:z = (k:Int) - 1:=hz
  replace hE:cT (rowS (fs.drop k) tl) = [a0,a1,a2,a3]:=hE
  have hge:qj 0 z = decide (0 < k):=by rw [e8,hz];exact decide_eq_decide.2 (by omega)
  by_cases h9:0 < k
  ·rw [decide_eq_true h9] at hge
   obtain ⟨x,hx⟩:∃ x,fs[k - 1]? = some x:=⟨_,List.getElem?_eq_getElem (by omega)⟩
   have g1:va L z = some (.sc (.string x.1) :: cT x.2):=by rw [r2,hz,if_pos (by omega),hL,show ((k:Int) - 1).toNat = k - 1 by omega];exact rF_get hx
   have d1:fs.drop (k - 1) = x :: fs.drop k:=by obtain ⟨hi,e⟩:=List.getElem?_eq_some_iff.1 hx;rw [List.drop_eq_getElem_cons hi,e,show k - 1 + 1 = k by omega]
   have hz1:qa .i64 (qc z 1) = ((k - 1:Nat):Int) - 1:=by rw [e1,e3,hz,IntWalk.i64_in _ (by omega)];omega
   have hm:(qa .i64 (qc z 1) + 1).toNat < (z + 1).toNat:=by rw [hz1,hz];omega
   obtain ⟨nm,x⟩:=x
   obtain ⟨x0,x1,x2,x3,hxx⟩:=cT_four x
   simp only at g1
   rw [hxx] at g1
   have hsp:=Field_s nm x0 x1 x2 x3 a0 a1 a2 a3
   have hnew:cT (rowS (fs.drop (k - 1)) tl) = [.sc (.int .u8 11),.sc (.string nm),.sc (.int .i64 0),.sl 4 [[x0,x1,x2,x3],[a0,a1,a2,a3]]]:=by
    rw [d1,rowS_cons,cT,rT,rT,rT,hxx,hE]
   rw [hge]
   cbv
   repeat ((with_reducible apply next_at hA);cbv)
   rw [g1]
   cbv
   try (rw [g1];cbv)
   refine calm_at hA _ hsp ?_
   cbv
   repeat ((with_reducible apply next_at hA);cbv)
   exact ⟨(_,_,_,_,_),⟨k - 1,hz1,by omega,hnew⟩,hm,by cbv⟩
  ·rw [decide_eq_false h9] at hge
   have hk0:k = 0:=by omega
   rw [hk0,List.drop_zero,hq] at hE
   cases hE
   rw [hge]
   cbv
   repeat ((with_reducible apply next_at hA);cbv)
theorem rT_snoc {ks:List Ty} {k:Nat} {x:Ty} (h:ks[k]? = some x):rT (ks.take (k + 1)) = rT (ks.take k) ++ [cT x]:=by
 obtain ⟨hi,e⟩:=List.getElem?_eq_some_iff.1 h
 rw [rT_map,rT_map,List.take_succ_eq_append_getElem hi,e,List.map_append]
 rfl
theorem copied_s:∀ t:Ty,t.parts.length ≤ 1048576 → Spec 89 [.ag (cT t)] [.ag (cT t)]:=by
 intro t
 induction t using Ty.ind with
 | h t ih =>
  intro hN
  have hkl:=kids_le t
  obtain ⟨op,nm,n,ks⟩:=t
  simp only [Ty.kids] at hkl ih
  rw [cT]
  obtain ⟨K,hK⟩:∃ K,K = rT ks:=⟨_,rfl⟩
  rw [← hK]
  refine spec_of Tryz.func89 rfl (by kernel_rfl) (by kernel_rfl) (by kernel_rfl) fun qa qb qc qd qe qg qh qi qj qk ql qm qn qo qp qq qt qu qv qw qx qy qz va vc vd ve vf vg vh vj vk vl vm vn vo vp vq vr vt vu vv vw hA=>?_
  cbv
  with_reducible apply next_at hA
  cbv
  refine own_at hA 3 25 true rfl ?_
  cbv
  repeat ((with_reducible apply next_at hA);cbv)
  obtain ⟨e1,e2,e3,e4,e5,e6,e7,e8,e9⟩:=ar_at hA
  obtain ⟨r1,r2,r3,r4⟩:=row_at hA
  refine loop_at hA (γ:=Int × List (List D)) (fun x=>[(9,vi .i64 x.1),(3,.own 2),(13,.jk)]) (fun x=>[(2,.row true 25 x.2)]) (fun x=>∃ k:Nat,x.1 = (k:Int) ∧ k ≤ ks.length ∧ x.2 = rT (ks.take k)) (fun x=>ks.length - x.1.toNat) (0,[]) ?_ ?_ ?_
  ·exact ⟨0,rfl,Nat.zero_le _,rfl⟩
  ·cbv
  ·intro x hinv
   obtain ⟨z,L⟩:=x
   cbv
   repeat ((with_reducible apply next_at hA);cbv)
   obtain ⟨k,hz,hk,hE⟩:=hinv
   have hz:z = (k:Int):=hz
   replace hE:L = rT (ks.take k):=hE
   have hlen:qz K = (ks.length:Int):=by rw [r1,hK,rT_len]
   have hlt:qi z (qz K) = decide (k < ks.length):=by rw [e7,hlen,hz];exact decide_eq_decide.2 (by omega)
   by_cases h9:k < ks.length
   ·rw [decide_eq_true h9] at hlt
    obtain ⟨x,hx⟩:∃ x,ks[k]? = some x:=⟨_,List.getElem?_eq_getElem h9⟩
    have g1:va K z = some (cT x):=by rw [r2,hz,if_pos (by omega),hK];exact rT_get hx
    have hsp:=ih x (List.mem_of_getElem? hx) (by have:=hkl.2 x (List.mem_of_getElem? hx);omega)
    have hsn:=rT_snoc hx
    obtain ⟨o1,m1,n1,l1⟩:=x
    rw [cT] at g1 hsp hsn
    generalize rT l1 = L1 at *
    rw [hlt]
    cbv
    repeat ((with_reducible apply next_at hA);cbv)
    rw [g1]
    cbv
    repeat ((with_reducible apply next_at hA);cbv)
    refine call_at hA _ hsp ?_ ?_
    ·rfl
    cbv
    refine lit_at hA true ?_
    cbv
    refine room_at hA (by rw [hE,rT_len];simp;omega) ?_
    cbv
    repeat ((with_reducible apply next_at hA);cbv)
    replace hz:z = (k:Int):=hz
    have hz1:qa .i64 (qb z 1) = ((k + 1:Nat):Int):=by rw [e1,e2,hz,IntWalk.i64_in _ (by omega)];omega
    refine ⟨(qa .i64 (qb z 1),vd L [[.sc (.int .u8 o1),.sc (.string m1),.sc (.int .i64 n1),.sl 4 L1]]),⟨k + 1,hz1,h9,by show vd L _ = _;rw [r4,hE,hsn]⟩,by show ks.length - (qa .i64 (qb z 1)).toNat < ks.length - z.toNat;rw [hz1,hz];omega,?_⟩
    cbv
   ·rw [decide_eq_false h9] at hlt
    rw [hlt]
    cbv
    repeat ((with_reducible apply next_at hA);cbv)
    have hE2:L = K:=by rw [hE,hK,List.take_of_length_le (by omega)]
    rw [hE2]
    exact ⟨rfl,trivial⟩
def cfS (f:ByteArray × Ty):ByteArray × Ty:=(f.1,canonS f.2)
theorem fieldsS_len:∀ (n:Nat) (t:Ty),t.parts.length ≤ n → (fieldsS t).length < t.parts.length:=by
 intro n
 induction n with
 | zero=>intro t h;have:=parts_pos t;omega
 | succ n ih =>
  intro t h
  have hp:=parts_pos t
  obtain ⟨op,nm,k,ks⟩:=t
  match ks with
  | []=>exact hp
  | [x]=>exact hp
  | x :: y :: z :: l=>exact hp
  | [x,r] =>
   have hk:=kids_le (.mk op nm k [x,r])
   have hr:=hk.2 r (by simp [Ty.kids])
   unfold fieldsS
   by_cases h11:op = 11
   ·rw [if_pos h11,List.length_cons]
    have:=ih r (by omega)
    omega
   ·rw [if_neg h11];exact hp
theorem canon_s:∀ (m:Nat) (t:Ty),t.parts.length ≤ m → m ≤ 1048576 → (∀ x ∈ t.parts,Spine x) → Spec 20 [.ag (cT t)] [.ag (cT (canonS t))]:=by
 intro m
 induction m with
 | zero=>intro t h;have:=parts_pos t;omega
 | succ m ih =>
  intro t hm hm2 hsp
  have hself:t ∈ t.parts:=by rw [parts_eq];exact List.mem_cons_self ..
  have hkl:=kids_le t
  obtain ⟨op,nm,n,ks⟩:=t
  generalize ht:Ty.mk op nm n ks = t at *
  have hc:cT t = [.sc (.int .u8 op),.sc (.string nm),.sc (.int .i64 n),.sl 4 (rT ks)]:=by rw [← ht,cT]
  have hks:t.kids = ks:=by rw [← ht];rfl
  rw [hks] at hkl
  by_cases hop:op = 11
  ·have hF:=FieldsO_s t (hsp t hself) (by omega)
   have hcr:=canon_row (t:=t) (by rw [← ht];exact hop)
   have hih:∀ f ∈ sortS ltF (fieldsS t),Spec 20 [.ag (cT f.2)] [.ag (cT (canonS f.2))]:=fun f hf=>by
    have h1:=sortS_mem hf
    have h2:=fields_less _ t (Nat.le_refl _) f h1
    have h3:=fields_mem _ t (Nat.le_refl _) f h1
    exact ih f.2 (by omega) (by omega) fun x hx=>hsp x (parts_trans hx h3)
   have hlen:(sortS ltF (fieldsS t)).length ≤ 1048576:=by
    rw [sortS_len]
    have:=fieldsS_len _ t (Nat.le_refl _)
    omega
   rw [hc] at hF ⊢
   obtain ⟨K0,hK0⟩:∃ K,K = rT ks:=⟨_,rfl⟩
   rw [← hK0] at hF ⊢
   generalize sortS ltF (fieldsS t) = L at *
   have hOf:=Of_s (L.map cfS) (tailS t) (by rw [List.length_map];exact hlen)
   rw [show rowS (L.map cfS) (tailS t) = canonS t from hcr.symm] at hOf
   obtain ⟨y0,y1,y2,y3,hy⟩:=cT_four (canonS t)
   obtain ⟨q0,q1,q2,q3,hq⟩:=cT_four (tailS t)
   rw [hq] at hF hOf
   rw [hy] at hOf ⊢
   obtain ⟨M0,hM0⟩:∃ M,M = rF L:=⟨_,rfl⟩
   rw [← hM0] at hF
   refine spec_of Tryz.func20 rfl (by kernel_rfl) (by kernel_rfl) (by kernel_rfl) fun qa qb qc qd qe qg qh qi qj qk ql qm qn qo qp qq qt qu qv qw qx qy qz va vc vd ve vf vg vh vj vk vl vm vn vo vp vq vr vt vu vv vw hA=>?_
   cbv
   repeat ((with_reducible apply next_at hA);cbv)
   have h11:qk op 11 = decide (op = 11):=by have e:=ar_at hA;exact e.2.2.2.2.2.2.2.2 _ _
   rw [decide_eq_true hop] at h11
   rw [h11]
   cbv
   repeat ((with_reducible apply next_at hA);cbv)
   refine callo_at hA [] hF ⟨rfl,rfl,rfl,rfl,rfl,rfl,rfl⟩ ?_
   rintro res os2 ⟨rfl,rfl⟩
   cbv
   repeat ((with_reducible apply next_at hA);cbv)
   obtain ⟨e1,e2,e3,e4,e5,e6,e7,e8,e9⟩:=ar_at hA
   obtain ⟨r1,r2,r3,r4⟩:=row_at hA
   obtain ⟨m1,m2,m3,m4⟩:=map_at hA
   refine loop_at hA (γ:=Int × List (List D)) (fun x=>[(5,vi .i64 x.1),(11,.jk),(13,.jk)]) (fun x=>[(2,.row false 85 x.2)]) (fun x=>∃ k:Nat,x.1 = (k:Int) ∧ k ≤ L.length ∧ x.2 = rF ((L.take k).map cfS ++ L.drop k)) (fun x=>L.length - x.1.toNat) (0,M0) ?_ ?_ ?_
   ·exact ⟨0,rfl,Nat.zero_le _,hM0⟩
   ·cbv
   ·intro x hinv
    obtain ⟨z,M⟩:=x
    cbv
    repeat ((with_reducible apply next_at hA);cbv)
    obtain ⟨k,hz,hk,hM⟩:=hinv
    replace hz:z = (k:Int):=hz
    replace hM:M = rF ((L.take k).map cfS ++ L.drop k):=hM
    have hll:qz M = ((L.length:Nat):Int):=by rw [r1,hM,rF_len];simp;omega
    have hlt:qi z (qz M) = decide (k < L.length):=by rw [e7,hll,hz];exact decide_eq_decide.2 (by omega)
    by_cases h9:k < L.length
    ·rw [decide_eq_true h9] at hlt
     obtain ⟨x,hx⟩:∃ x,L[k]? = some x:=⟨_,List.getElem?_eq_getElem h9⟩
     have hspx:=hih x (List.mem_of_getElem? hx)
     have hxe:((L.take k).map cfS ++ L.drop k)[k]? = some x:=by
      rw [List.getElem?_append_right (by simp;omega)]
      simp
      rw [Nat.min_eq_left (by omega),Nat.sub_self,Nat.add_zero]
      exact hx
     have hset:((L.take k).map cfS ++ L.drop k).set k (cfS x) = (L.take (k + 1)).map cfS ++ L.drop (k + 1):=by
      obtain ⟨hi,e⟩:=List.getElem?_eq_some_iff.1 hx
      have e0:k - ((L.take k).map cfS).length = 0:=by rw [List.length_map,List.length_take];omega
      rw [List.set_append_right _ _ (by rw [List.length_map,List.length_take];omega),List.take_add_one,hx,List.map_append,List.append_assoc,List.drop_eq_getElem_cons hi,e0]
      rfl
     obtain ⟨xn,xt⟩:=x
     obtain ⟨x0,x1,x2,x3,hxx⟩:=cT_four xt
     obtain ⟨v0,v1,v2,v3,hvv⟩:=cT_four (canonS xt)
     simp only at hspx
     rw [hxx,hvv] at hspx
     have gx:va M z = some [.sc (.string xn),x0,x1,x2,x3]:=by rw [r2,hz,if_pos (by omega),hM,show ((k:Int)).toNat = k by omega,rF_get hxe,hxx]
     have hz1:qa .i64 (qb z 1) = ((k + 1:Nat):Int):=by rw [e1,e2,hz,IntWalk.i64_in _ (by omega)];omega
     have hmu:L.length - (qa .i64 (qb z 1)).toNat < L.length - z.toNat:=by rw [hz1,hz];omega
     have hnew:ve M z [.sc (.string xn),v0,v1,v2,v3] = rF ((L.take (k + 1)).map cfS ++ L.drop (k + 1)):=by
      rw [m4,← hset,hM,hz,show ((k:Int)).toNat = k by omega]
      unfold rF
      rw [List.map_set]
      show _ = List.set _ k (.sc (.string xn) :: cT (canonS xt))
      rw [hvv]
     rw [hlt]
     cbv
     repeat (first | (with_reducible apply next_at hA;cbv) | (rw [gx];cbv) | (refine call_at hA _ hspx rfl ?_;cbv))
     refine ⟨(qa .i64 (qb z 1),ve M z [.sc (.string xn),v0,v1,v2,v3]),⟨k + 1,hz1,h9,hnew⟩,hmu,?_⟩
     cbv
    ·rw [decide_eq_false h9] at hlt
     have hM2:M = rF (L.map cfS):=by rw [hM,List.take_of_length_le (by omega),List.drop_of_length_le (by omega),List.append_nil]
     rw [← hM2] at hOf
     rw [hlt]
     cbv
     refine frz_at hA [2] ?_
     cbv
     repeat (first | (with_reducible apply next_at hA;cbv) | (refine call_at hA _ hOf rfl ?_;cbv))
  ·have hcn:=canon_node (t:=t) (by rw [← ht];exact hop)
   rw [hks,show t.op = op by rw [← ht];rfl,show t.name = nm by rw [← ht];rfl,show t.n = n by rw [← ht];rfl] at hcn
   have hih:∀ x ∈ ks,Spec 20 [.ag (cT x)] [.ag (cT (canonS x))]:=fun x hx=>by
    have h2:=hkl.2 x hx
    exact ih x (by omega) (by omega) fun y hy=>hsp y (by rw [parts_kids,hks];exact List.mem_cons_of_mem _ (List.mem_flatMap.2 ⟨x,hx,hy⟩))
   rw [hcn,cT,hc]
   obtain ⟨K,hK⟩:∃ K,K = rT ks:=⟨_,rfl⟩
   obtain ⟨Q,hQ⟩:∃ Q,Q = rT (ks.map canonS):=⟨_,rfl⟩
   rw [← hK,← hQ]
   refine spec_of Tryz.func20 rfl (by kernel_rfl) (by kernel_rfl) (by kernel_rfl) fun qa qb qc qd qe qg qh qi qj qk ql qm qn qo qp qq qt qu qv qw qx qy qz va vc vd ve vf vg vh vj vk vl vm vn vo vp vq vr vt vu vv vw hA=>?_
   cbv
   repeat ((with_reducible apply next_at hA);cbv)
   obtain ⟨e1,e2,e3,e4,e5,e6,e7,e8,e9⟩:=ar_at hA
   obtain ⟨r1,r2,r3,r4⟩:=row_at hA
   have h11:qk op 11 = decide (op = 11):=e9 _ _
   rw [decide_eq_false hop] at h11
   rw [h11]
   cbv
   repeat (first | (refine ownbox_at hA 2 3 25 true rfl rfl ?_;cbv) | (with_reducible apply next_at hA;cbv))
   refine loop_at hA (γ:=Int × List (List D)) (fun x=>[(7,vi .i64 x.1)]) (fun x=>[(3,.row true 25 x.2)]) (fun x=>∃ k:Nat,x.1 = (k:Int) ∧ k ≤ ks.length ∧ x.2 = rT ((ks.map canonS).take k)) (fun x=>ks.length - x.1.toNat) (0,[]) ?_ ?_ ?_
   ·exact ⟨0,rfl,Nat.zero_le _,rfl⟩
   ·cbv
   ·intro x hinv
    obtain ⟨z,M⟩:=x
    cbv
    repeat ((with_reducible apply next_at hA);cbv)
    obtain ⟨k,hz,hk,hM⟩:=hinv
    replace hz:z = (k:Int):=hz
    replace hM:M = rT ((ks.map canonS).take k):=hM
    have hll:qz K = ((ks.length:Nat):Int):=by rw [r1,hK,rT_len]
    have hlt:qi z (qz K) = decide (k < ks.length):=by rw [e7,hll,hz];exact decide_eq_decide.2 (by omega)
    by_cases h9:k < ks.length
    ·rw [decide_eq_true h9] at hlt
     obtain ⟨x,hx⟩:∃ x,ks[k]? = some x:=⟨_,List.getElem?_eq_getElem h9⟩
     have hspx:=hih x (List.mem_of_getElem? hx)
     have hx2:(ks.map canonS)[k]? = some (canonS x):=by rw [List.getElem?_map,hx];rfl
     have hsn:=rT_snoc hx2
     obtain ⟨x0,x1,x2,x3,hxx⟩:=cT_four x
     obtain ⟨v0,v1,v2,v3,hvv⟩:=cT_four (canonS x)
     rw [hxx,hvv] at hspx
     rw [hvv] at hsn
     have gx:va K z = some [x0,x1,x2,x3]:=by rw [r2,hz,if_pos (by omega),hK,show ((k:Int)).toNat = k by omega,rT_get hx,hxx]
     have gx2:(Ar.mk qa qb qc qd qe qg qh qi qj qk ql qm qn qo qp qq qt qu qv qw qx qy qz va vc vd ve vf vg vh vj vk vl vm vn vo vp vq vr vt vu vv vw).get K z = some [x0,x1,x2,x3]:=gx
     have hz1:qa .i64 (qb z 1) = ((k + 1:Nat):Int):=by rw [e1,e2,hz,IntWalk.i64_in _ (by omega)];omega
     have hmu:ks.length - (qa .i64 (qb z 1)).toNat < ks.length - z.toNat:=by rw [hz1,hz];omega
     have hnew:vd M [[v0,v1,v2,v3]] = rT ((ks.map canonS).take (k + 1)):=by rw [r4,hsn,hM]
     have hMl:M.length ≤ 1048576:=by rw [hM,rT_len,List.length_take];omega
     rw [hlt]
     cbv
     repeat (first | (with_reducible apply next_at hA;cbv) | (rw [gx];cbv) | (rw [gx2];cbv) | (refine calm_at hA _ hspx ?_;cbv) | (refine call_at hA _ hspx rfl ?_;cbv) | (refine lit_at hA true ?_;cbv) | (refine room_at hA (by simp only [r4,List.length_append,List.length_cons,List.length_nil];omega) ?_;cbv))
     cbv
     repeat (first | (with_reducible apply next_at hA;cbv) | (rw [gx];cbv) | (rw [gx2];cbv) | (refine calm_at hA _ hspx ?_;cbv) | (refine call_at hA _ hspx rfl ?_;cbv) | (refine lit_at hA true ?_;cbv) | (refine room_at hA (by simp only [r4,List.length_append,List.length_cons,List.length_nil];omega) ?_;cbv))
     refine ⟨(qa .i64 (qb z 1),vd M [[v0,v1,v2,v3]]),⟨k + 1,hz1,h9,hnew⟩,hmu,?_⟩
     cbv
    ·rw [decide_eq_false h9] at hlt
     have hM2:M = Q:=by rw [hM,hQ,List.take_of_length_le (by rw [List.length_map];omega)]
     rw [hlt]
     cbv
     repeat ((with_reducible apply next_at hA);cbv)
     exact ⟨by rw [hM2],trivial⟩
end Go.Proofs.YtahpnackkmbmgaaGreatDoor.Vm
end
section
namespace Go.Proofs.YtahpnackkmbmgaaGreatDoor.Vm
section
section
variable {W:ByteArray → Bool}
theorem shape_parts {t:Ty} {s:Int} (h:shapeB W t s = true):∃ k,kidsS t.op = some k ∧ (decide (8 ≤ t.op) == (s == 114)) = true ∧ t.kids.length = k.length ∧ (if t.op = 11 then W t.name else decide (t.name.toList = [])) = true ∧ 0 ≤ t.n ∧ (t.op = 7 ∨ t.op = 10 ∨ t.n = 0) ∧ shapesB W t.kids k = true:=by
 cases hk:kidsS t.op with
 | none=>rw [shape_none hk] at h;cases h
 | some k =>
  obtain ⟨op,nm,n,kids⟩:=t
  rw [shape_some (k:=k) (by exact hk)] at h
  unfold c3B c4B at h
  simp only [Bool.and_eq_true,Bool.or_eq_true,decide_eq_true_eq] at h
  obtain ⟨⟨h1,h2,h3,h4,h5⟩,h6⟩:=h
  exact ⟨k,rfl,h1,h2,h3,h4,by simpa [or_assoc,Ty.op,Ty.n] using h5,h6⟩
theorem shape_mk {op:Int} {nm:ByteArray} {n:Int} {kids:List Ty} {s:Int} {k:List Int} (h0:kidsS op = some k) (h1:(decide (8 ≤ op) == (s == 114)) = true) (h2:kids.length = k.length) (h3:(if op = 11 then W nm else decide (nm.toList = [])) = true) (h4:0 ≤ n) (h5:op = 7 ∨ op = 10 ∨ n = 0) (h6:shapesB W kids k = true) :
  shapeB W (.mk op nm n kids) s = true:=by
 rw [shape_some h0]
 unfold c3B c4B
 simp only [Bool.and_eq_true,Bool.or_eq_true,decide_eq_true_eq]
 exact ⟨⟨h1,h2,h3,h4,by simpa [or_assoc] using h5⟩,h6⟩
theorem shape_row {t:Ty} {s:Int} (h:shapeB W t s = true) (h11:t.op = 11):s = 114 ∧ ∃ a b,t.kids = [a,b] ∧ t.n = 0 ∧ W t.name = true ∧ shapeB W a 116 = true ∧ shapeB W b 114 = true:=by
 obtain ⟨k,hk,h1,h2,h3,h4,h5,h6⟩:=shape_parts h
 rw [h11] at hk h1 h3 h5
 have:kidsS 11 = some [116,114]:=by decide
 rw [this] at hk
 injection hk with hk
 subst hk
 rw [if_pos rfl] at h3
 have hs:s = 114:=by
  have h8:decide ((8:Int) ≤ 11) = true:=by decide
  rw [h8] at h1
  simpa using h1
 refine ⟨hs,?_⟩
 match t.kids,h2,h6 with
 | [a,b],_,h6 =>
  rw [shapesB,shapesB,shapesB] at h6
  simp only [Bool.and_eq_true,and_true] at h6
  refine ⟨a,b,rfl,?_,h3,h6.1,h6.2⟩
  rcases h5 with h | h | h
  ·exact absurd h (by decide)
  ·exact absurd h (by decide)
  ·exact h
theorem shape_row_mk {nm:ByteArray} {a b:Ty} (h3:W nm = true) (ha:shapeB W a 116 = true) (hb:shapeB W b 114 = true):shapeB W (.mk 11 nm 0 [a,b]) 114 = true:=by
 refine shape_mk (k:=[116,114]) (by decide) (by decide) rfl (by rw [if_pos rfl];exact h3) (by omega) (.inr (.inr rfl)) ?_
 rw [shapesB,shapesB,shapesB,ha,hb]
 rfl
theorem fields_shape:∀ {t:Ty},shapeB W t 114 = true → (∀ f ∈ fieldsS t,W f.1 = true ∧ shapeB W f.2 116 = true) ∧ shapeB W (tailS t) 114 = true:=by
 intro t
 induction t using Ty.ind with
 | h t ih =>
  intro h
  by_cases h11:t.op = 11
  ·obtain ⟨_,a,b,hk,hn,hw,ha,hb⟩:=shape_row h h11
   have hsp:Spine t:=shape_spine W t _ h t (by rw [parts_eq];exact List.mem_cons_self ..)
   obtain ⟨a',b',hk',hsb,hf,ht⟩:=fields_step hsp h11
   rw [hk] at hk'
   injection hk' with e1 e2
   injection e2 with e2 _
   subst e1
   subst e2
   have hb':=ih b (by rw [hk];simp) hb
   rw [hf,ht]
   refine ⟨fun f hf=>?_,hb'.2⟩
   rcases List.mem_cons.1 hf with rfl | hf
   ·exact ⟨hw,ha⟩
   ·exact hb'.1 f hf
  ·obtain ⟨h1,h2⟩:=fields_end h11
   rw [h1,h2]
   exact ⟨by simp,h⟩
theorem rowS_shape {tl:Ty} (ht:shapeB W tl 114 = true):∀ {fs:List (ByteArray × Ty)},(∀ f ∈ fs,W f.1 = true ∧ shapeB W f.2 116 = true) → shapeB W (rowS fs tl) 114 = true
 | [],_=>ht
 | f :: fs,h=>by
  rw [rowS_op_ne]
  have h1:=h f (List.mem_cons_self ..)
  exact shape_row_mk h1.1 h1.2 (rowS_shape ht fun g hg=>h g (List.mem_cons_of_mem _ hg))
theorem shape_spineAll {t:Ty} {s:Int} (h:shapeB W t s = true):SpineAll t:=shape_spine W t s h
theorem shapes_map {f:Ty → Ty}:∀ {ts:List Ty} {ks:List Int},shapesB W ts ks = true → (∀ x ∈ ts,∀ k,shapeB W x k = true → shapeB W (f x) k = true) → shapesB W (ts.map f) ks = true
 | [],ks,_,_=>by cases ks <;> rfl
 | x :: xs,[],h,_=>by rw [shapesB] at h;cases h
 | x :: xs,y :: ys,h,hf=>by
  rw [shapesB,Bool.and_eq_true] at h
  rw [List.map_cons,shapesB,Bool.and_eq_true]
  exact ⟨hf x (List.mem_cons_self ..) y h.1,shapes_map h.2 fun z hz=>hf z (List.mem_cons_of_mem _ hz)⟩
theorem canon_shape:∀ (n:Nat) (t:Ty) (s:Int),t.parts.length ≤ n → shapeB W t s = true → shapeB W (canonS t) s = true:=by
 intro n
 induction n with
 | zero=>intro t s h;have:=parts_pos t;omega
 | succ n ih =>
  intro t s hn h
  by_cases h11:t.op = 11
  ·have hr:=shape_row h h11
   obtain ⟨rfl,-⟩:=hr
   obtain ⟨hf,ht⟩:=fields_shape h
   rw [canon_row h11]
   refine rowS_shape ht fun f hf'=>?_
   obtain ⟨g,hg,rfl⟩:=List.mem_map.1 hf'
   have h1:=fields_less _ t (Nat.le_refl _) g (sortS_mem hg)
   have h2:=hf g (sortS_mem hg)
   exact ⟨h2.1,ih g.2 116 (by omega) h2.2⟩
  ·rw [canon_node h11]
   obtain ⟨k,hk,h1,h2,h3,h4,h5,h6⟩:=shape_parts h
   refine shape_mk hk h1 (by rw [List.length_map];exact h2) h3 h4 h5 (shapes_map h6 fun x hx k hxk=>?_)
   have h7:=(kids_le t).2 x hx
   exact ih x k (by omega) hxk
end
section
variable {W:ByteArray → Bool}
end
end
section
def cF (f:ByteArray × Ty):ByteArray × Ty:=(f.1,canonS f.2)
theorem canon_end {t:Ty} (h:t.op ≠ 11) (hk:t.kids = []):canonS t = t:=by
 rw [canon_node h,hk,List.map_nil]
 obtain ⟨op,nm,n,ks⟩:=t
 simp only [Ty.kids] at hk
 subst hk
 rfl
section
variable {W:ByteArray → Bool}
theorem end_kids {t:Ty} (h:shapeB W t 114 = true) (h11:t.op ≠ 11):t.kids = [] ∧ (t.op = 8 ∨ t.op = 9 ∨ t.op = 10):=by
 obtain ⟨k,hk,h1,h2,-⟩:=shape_parts h
 have h8:8 ≤ t.op:=by simpa using h1
 unfold kidsS at hk
 split at hk
 ·injection hk with hk
  subst hk
  exact ⟨List.eq_nil_of_length_eq_zero h2,by omega⟩
 ·repeat' split at hk
  all_goals first | omega | cases hk
theorem canon_row_is {t:Ty} (h:shapeB W t 114 = true):canonS t = rowS ((sortS ltF (fieldsS t)).map cF) (tailS t):=by
 by_cases h11:t.op = 11
 ·exact canon_row h11
 ·obtain ⟨h1,h2⟩:=fields_end h11
  rw [canon_end h11 (end_kids h h11).1,h1,h2]
  rfl
end
section
variable {W:ByteArray → Bool}
end
def Cn (t:Ty):Prop:=canonS t = t
section
variable {W:ByteArray → Bool}
end
section
variable {W:ByteArray → Bool}
theorem var_kids {t:Ty} {s:Int} (h:shapeB W t s = true) (hv:t.op = 7 ∨ t.op = 10):t.kids = []:=by
 obtain ⟨k,hk,h1,h2,-⟩:=shape_parts h
 unfold kidsS at hk
 rw [if_pos (by omega)] at hk
 injection hk with hk
 subst hk
 exact List.eq_nil_of_length_eq_zero h2
theorem isVar_iff {t:Ty}:isVar t = true ↔ t.op = 7 ∨ t.op = 10:=by unfold isVar;simp
end
end
end Go.Proofs.YtahpnackkmbmgaaGreatDoor.Vm
end
section
namespace Go.Proofs.YtahpnackkmbmgaaGreatDoor.Vm
open Go.RowKit
set_option maxRecDepth 100000
set_option maxHeartbeats 4000000
theorem sort_rF (fs:List (ByteArray × Ty)):sortS ltR (rF fs) = rF (sortS ltF fs):=sortS_map (f:=fun x:ByteArray × Ty=>D.sc (.string x.1) :: cT x.2) (fun _ _=>rfl) fs
theorem ok5_rF (fs:List (ByteArray × Ty)):∀ x ∈ rF fs,Ok5 x:=fun x hx=>by
 obtain ⟨f,_,rfl⟩:=List.mem_map.1 hx
 obtain ⟨c0,c1,c2,c3,h⟩:=cT_four f.2
 exact ⟨f.1,c0,c1,c2,c3,by show D.sc (.string f.1) :: cT f.2 = _;rw [h]⟩
theorem rF_snoc (fs:List (ByteArray × Ty)) (f:ByteArray × Ty):rF (fs ++ [f]) = rF fs ++ [.sc (.string f.1) :: cT f.2]:=by unfold rF;rw [List.map_append];rfl
theorem flat_s (t:Ty) (hs:Spine t) (hN:t.parts.length ≤ 1048576):SpecO 74 [.ag (ofD (cT t))] [] (fun res os'=>res = [.own 0,.ag (ofD (cT (tailS t)))] ∧ os' = [.row false 85 (rF (sortS ltF (fieldsS t)))]):=by
 have hso:=sorted_s 95 flat1_c (rF (fieldsS t)) (ok5_rF _) (by rw [rF_len];have:=fieldsS_len _ t (Nat.le_refl _);omega)
 rw [sort_rF] at hso
 obtain ⟨Q,hQ⟩:∃ Q,Q = rF (sortS ltF (fieldsS t)):=⟨_,rfl⟩
 obtain ⟨M,hM⟩:∃ M,M = rF (fieldsS t):=⟨_,rfl⟩
 rw [← hQ,← hM] at hso
 rw [← hQ]
 obtain ⟨q0,q1,q2,q3,hq⟩:=cT_four (tailS t)
 rw [hq]
 obtain ⟨op,nm,n,ks⟩:=t
 generalize ht:Ty.mk op nm n ks = t at *
 have hc:cT t = [.sc (.int .u8 op),.sc (.string nm),.sc (.int .i64 n),.sl 4 (rT ks)]:=by rw [← ht,cT]
 obtain ⟨K0,hK0⟩:∃ K,K = rT ks:=⟨_,rfl⟩
 rw [hc,← hK0]
 refine speco_of Tryz.func74 rfl (by kernel_rfl) (by kernel_rfl) (by kernel_rfl) fun qa qb qc qd qe qg qh qi qj qk ql qm qn qo qp qq qt qu qv qw qx qy qz va vc vd ve vf vg vh vj vk vl vm vn vo vp vq vr vt vu vv vw hA=>?_
 cbv
 repeat (first | (refine own_at hA 4 85 false rfl ?_;cbv) | (with_reducible apply next_at hA;cbv))
 obtain ⟨e1,e2,e3,e4,e5,e6,e7,e8,e9⟩:=ar_at hA
 obtain ⟨r1,r2,r3,r4⟩:=row_at hA
 refine loop_at hA (γ:=Ty × Int × ByteArray × Int × List (List D) × List (List D)) (fun x=>[(4,.own 2)]) (fun x=>[(0,.box [.d (.sc (.int .u8 x.2.1)),.d (.sc (.string x.2.2.1)),.d (.sc (.int .i64 x.2.2.2.1)),.d (.sl 4 x.2.2.2.2.1)]),(2,.row false 85 x.2.2.2.2.2)])
  (fun x=>∃ ks fs,x.1 = .mk x.2.1 x.2.2.1 x.2.2.2.1 ks ∧ x.2.2.2.2.1 = rT ks ∧ Spine x.1 ∧ x.2.2.2.2.2 = rF fs ∧ fs ++ fieldsS x.1 = fieldsS t ∧ tailS x.1 = tailS t ∧ fs.length + x.1.parts.length ≤ 1048576) (fun x=>x.1.parts.length) (t,op,nm,n,K0,[]) ?_ ?_ ?_
 ·exact ⟨ks,[],ht.symm,hK0,hs,rfl,rfl,rfl,by simpa using hN⟩
 ·cbv
 ·intro x hinv
  obtain ⟨r,op,nm,n,K,L⟩:=x
  cbv
  repeat ((with_reducible apply next_at hA);cbv)
  try simp (maxSteps:=4000000) only [nc] at *
  obtain ⟨ks,fs,hr,hK,hsr,hL,hfs,htl,hlen⟩:=hinv
  have h11:qk op 11 = decide (op = 11):=e9 _ _
  by_cases hop:op = 11
  ·rw [decide_eq_true hop] at h11
   obtain ⟨a,b,hk,hsb,hfb,htb⟩:=fields_step hsr (by rw [hr];exact hop)
   have hnmr:r.name = nm:=by rw [hr];rfl
   rw [hnmr] at hfb
   have hks:ks = [a,b]:=by rw [← hk,hr];rfl
   obtain ⟨a0,a1,a2,a3,ha⟩:=cT_four a
   obtain ⟨op',nm',n',ks'⟩:=b
   generalize hb:Ty.mk op' nm' n' ks' = b at *
   have hcb:cT b = [.sc (.int .u8 op'),.sc (.string nm'),.sc (.int .i64 n'),.sl 4 (rT ks')]:=by rw [← hb,cT]
   obtain ⟨K',hK'⟩:∃ K,K = rT ks':=⟨_,rfl⟩
   rw [← hK'] at hcb
   have g0:va K 0 = some [a0,a1,a2,a3]:=by rw [r2,if_pos (by omega),hK,hks];exact congrArg some ha
   have g1:va K 1 = some [.sc (.int .u8 op'),.sc (.string nm'),.sc (.int .i64 n'),.sl 4 K']:=by rw [r2,if_pos (by omega),hK,hks];exact congrArg some hcb
   have hLl:L.length ≤ 1048576:=by rw [hL,rF_len];omega
   have hbl:b.parts.length < r.parts.length:=(kids_le r).2 b (by rw [hk];simp)
   have hnew:vd L [[.sc (.string nm),a0,a1,a2,a3]] = rF (fs ++ [(nm,a)]):=by rw [r4,rF_snoc,hL,ha]
   rw [h11]
   iterate 2 (try cbv;repeat ((first | with_reducible apply next_at hA | rw [g0] | rw [g1] | refine lit_at hA true ?_ | (refine room_at hA (by simp only [r4,List.length_append,List.length_cons,List.length_nil];omega) ?_));cbv))
   try simp (maxSteps:=4000000) only [nc] at *
   refine ⟨(b,op',nm',n',K',vd L [[.sc (.string nm),a0,a1,a2,a3]]),⟨ks',fs ++ [(nm,a)],hb.symm,hK',hsb,hnew,by rw [← hfs,hfb];simp,by rw [← htl,htb],by rw [List.length_append];show fs.length + 1 + b.parts.length ≤ _;omega⟩,hbl,?_⟩
   cbv
  ·rw [decide_eq_false hop] at h11
   obtain ⟨hf0,ht0⟩:=fields_end (t:=r) (by rw [hr];exact hop)
   rw [hf0,List.append_nil] at hfs
   have hLM:L = M:=by rw [hL,hM,hfs]
   rw [ht0,hr] at htl
   rw [← htl,cT,← hK] at hq
   rw [h11,hLM]
   cases hq
   cbv
   repeat ((with_reducible apply next_at hA);cbv)
   refine calls_at hA [2] hso ⟨rfl,rfl,rfl,rfl,rfl,rfl,rfl⟩ ?_
   rintro res os2 ⟨rfl,rfl⟩
   cbv
   repeat ((with_reducible apply next_at hA);cbv)
   exact keep_is hA [2] ⟨rfl,rfl,rfl,rfl,rfl,rfl,rfl,rfl⟩ ⟨rfl,rfl⟩
end Go.Proofs.YtahpnackkmbmgaaGreatDoor.Vm
end
section
namespace Go.Proofs.YtahpnackkmbmgaaGreatDoor.Vm
open Go.RowKit Go.Proofs
section
variable {F:Fence} {n:Nat} {P:Program} {w:World}
def roundQ (B:Nat) (Kp:World → World → Prop) (I:World → Prop) (Ix:Code → World → Prop) (W:World):Exit → Act → World → Prop
 | .normal,_,W'=>KeepsFrom B W W' ∧ Kp W W' ∧ I W'
 | .ret,_,W'=>KeepsFrom B W W' ∧ Ix .ret W'
 | .exit i,_,W'=>KeepsFrom B W W' ∧ Ix (.exit i) W'
 | _,_,_=>False
def SeqN (F:Fence) (n:Nat) (P:Program) (gf:Nat) (lb:Array Value) (encs:Nat → Array Value) (Kp:World → World → Prop) (N:Nat) (w:World):Prop :=
 ∀ (l:Nat) (J:Nat → World → Prop) (Jx:Unit → World → Prop) (W:World),Below w.heap.size w W →
  (∀ k W1,k < N → J k W1 → YieldAt F (n - 1) P l (encs k) W1 fun e W'=>(e = .returned (.bool true) ∧ J (k + 1) W' ∧ Kp W1 W') ∨ (e = .returned (.bool false) ∧ Jx () W')) →
  J 0 W → CallsIn F n P gf (#[.func (.yield l) #[] #[]] ++ lb) W fun e W'=>(∃ v,e = .returned v) ∧ (J N W' ∨ Jx () W')
def Turns (L:Nat) (p:World → Prop):Prop:=∀ (W:World) (r r':Loop),p W → W.heap[L]? = some (.loop r) → p (W.putObj L (.loop r'))
theorem range_k {g:Operand} {ps:Array Tmp} {assign body:Code} {Q:Exit → Act → World → Prop} {a:Act}
  (hro:F.round = none) (h1:1 ≤ n) {gf:Nat} {lb:Array Value} (hg:a.eval g = .func (.func gf) #[] lb) (hFg:F.fn gf) (eg:∀ args w,(callFunc gf args).run P w = .ok (.enter gf args) w)
  {encs:Nat → Array Value} {Kp:World → World → Prop} {N:Nat} (hseq:SeqN F (n - 1) P gf lb encs Kp N w)
  (hKt:∀ {A B C:World},Kp A B → Kp B C → Kp A C) (hKb:∀ (W:World) (l:Nat) (o o':Obj),w.heap.size ≤ l → W.heap[l]? = some o → o.isCells = false → o.isWalk = false → Kp W (W.putObj l o')) (hps:∀ k,(encs k).size = ps.size)
  (I:Nat → World → Prop) (Ix:Code → World → Prop) (hI:∀ k,Turns (w.heap.size + 1) (I k)) (hIx:∀ c,Turns (w.heap.size + 1) (Ix c)) (h0:∀ r:Loop,I 0 ((w.alloc (.deferred (some []))).alloc (.loop r)))
  (hround:∀ (l k:Nat) (W:World),k < N → I k W → ((∃ r:Loop,W.heap[w.heap.size + 1]? = some (.loop r)) ∧ W.heap[w.heap.size]? = some (.deferred (some []))) → assign.wpIn (F.inRound l) (n - 1 - 1) P (Exit.then (fun a' W1=>KeepsFrom w.heap.size W W1 ∧ Kp W W1 ∧ ∃ R:World → Prop,Turns (w.heap.size + 1) R ∧ R W1 ∧ ∀ W2,R W2 → body.wpIn (F.inRound l) (n - 1 - 1) P (roundQ w.heap.size Kp (I (k + 1)) Ix W2) a' W2) (fun _ _ _=>False))
   { tmps:=(ps.zip (encs k)).foldl (fun t (p,v)=>t.setIfInBounds p v) a.tmps,defers:=[] } W)
  (hdone:∀ (D:Nat) (W:World),D = w.heap.size → I N W → W.heap[D]? = some (.deferred (some [])) → Q .normal { a with defers:={ target:=.collected D,args:=#[] } :: a.defers } W)
  (hstop:∀ (D:Nat) (c:Code) (W:World),w.heap.size ≤ D → Ix c W → W.heap[D]? = some (.deferred (some [])) → c.wpIn F n P Q { a with defers:={ target:=.collected D,args:=#[] } :: a.defers } W) :
  (Code.rangeFunc g ps assign body).wpIn F n P Q a w:=by
 refine wpIn_rangeFunc fun fn hfn=>?_
 rw [hro]
 obtain ⟨D,hD⟩:∃ D,D = w.heap.size:=⟨_,rfl⟩
 obtain ⟨rec,hrec⟩:∃ rec:LoopState → Option Code → Loop,rec = fun st pe=>{ state:=st,pending:=pe,fn,tmps:=a.tmps,params:=ps,assign,body,defers:=w.heap.size }:=⟨_,rfl⟩
 obtain ⟨W1,hW1⟩:∃ W1,W1 = (w.alloc (.deferred (some []))).alloc (.loop (rec .ready none)):=⟨_,rfl⟩
 have hs1:W1.heap.size = D + 1 + 1:=by rw [hW1,hD];simp
 have hbel:Below D w W1:=by rw [hW1,hD];exact ((Below.refl _ w).alloc (Nat.le_refl _) _).alloc (by simp) _
 have hL1:W1.heap[D + 1]? = some (.loop (rec .ready none)):=by
  have:=World.alloc_heap_new (w.alloc (.deferred (some []))) (.loop (rec .ready none))
  rw [World.size_alloc,← hD,← hW1] at this;exact this
 have hD1:W1.heap[D]? = some (.deferred (some [])):=by
  rw [hW1,hD];exact (Below.heap_alloc _ _ _ (by simp)).trans (World.alloc_heap_new w _)
 have hI1:I 0 W1:=by rw [hW1];exact h0 _
 refine ⟨D + 1,[{ target:=.collected D,args:=#[] }],W1,{ target:=.fn (.func gf) lb,args:=#[.func (.yield (D + 1)) #[] #[]] },W1,gf,#[.func (.yield (D + 1)) #[] #[]] ++ lb,W1,
  by rw [hW1,hrec,hD];exact run_enterLoop_outer _ _ _ _ _,by simp only [resolve,hg];simp [go_sem],fun f' hf=>by simp [Target.leads] at hf;subst hf;exact hFg,by simp [invoke,go_sem,eg],fun _=>h1,?_⟩
 refine (hseq (D + 1) (fun k W=>I k W ∧ W.heap[D + 1]? = some (.loop (rec .ready none)) ∧ W.heap[D]? = some (.deferred (some [])))
  (fun _ W=>∃ c,Ix c W ∧ W.heap[D + 1]? = some (.loop (rec .done (some c))) ∧ W.heap[D]? = some (.deferred (some []))) W1 (hD ▸ hbel) ?_ ⟨hI1,hL1,hD1⟩).mono ?_
 ·rintro k W hk ⟨hi,hl,hd⟩
  have hy:=run_yield (P:=P) (args:=encs k) hl (by rw [hrec];exact hps k)
  rw [hrec] at hy
  refine ⟨fn,_,assign,body,hy,roundIn_of_wpIn hfn (wpIn_mono (hround (D + 1) k W hk hi ⟨⟨_,hD ▸ hl⟩,hD ▸ hd⟩) fun e a' Wa h=>?_)⟩
  cases e with
  | normal =>
   obtain ⟨ha1,ha2,R,hR,hr1,hb⟩:=h
   have hl2:=ha1.same _ _ (by omega) hl rfl
   have hd2:=ha1.same _ _ (by omega) hd rfl
   refine ⟨_,run_beginRound hl2 (by rw [hrec]),?_⟩
   obtain ⟨W2,hW2⟩:∃ W2,W2 = Wa.putObj (D + 1) (.loop { rec .ready none with state:=.busy }):=⟨_,rfl⟩
   have hl3:W2.heap[D + 1]? = some (.loop { rec .ready none with state:=.busy }):=by rw [hW2];exact World.putObj_heap_same (Array.getElem?_eq_some_iff.1 hl2).1
   have hd3:W2.heap[D]? = some (.deferred (some [])):=by rw [hW2];exact (World.putObj_heap_other (by omega)).trans hd2
   have hk3:Kp Wa W2:=by rw [hW2];exact hKb _ _ _ _ (by omega) hl2 rfl rfl
   have hr2:R W2:=by rw [hW2];rw [hD] at hl2 ⊢;exact hR _ _ _ hr1 hl2
   rw [← hW2]
   refine wpIn_mono (hb W2 hr2) fun e a3 W3 hp=>?_
   have fin:∀ jump:Option Code,KeepsFrom w.heap.size W2 W3 → ∃ W4,W4 = W3.putObj (D + 1) (.loop (rec (if jump.isNone then .ready else .done) jump)) ∧ (Instr.endRound (D + 1) jump).run P W3 = .ok (.bool jump.isNone) W4 ∧
     W3.heap[D + 1]? = some (.loop { rec .ready none with state:=.busy }) ∧ W4.heap[D + 1]? = some (.loop (rec (if jump.isNone then .ready else .done) jump)) ∧ W4.heap[D]? = some (.deferred (some [])):=fun jump hk=>by
    have h3:=hk.same _ _ (by omega) hl3 rfl
    refine ⟨_,rfl,?_,h3,World.putObj_heap_same (Array.getElem?_eq_some_iff.1 h3).1,(World.putObj_heap_other (by omega)).trans (hk.same _ _ (by omega) hd3 rfl)⟩
    have:=run_endRound (P:=P) jump h3
    rw [hrec] at this ⊢
    exact this
   cases e with
   | normal =>
    obtain ⟨h5,h6,h7⟩:=hp
    obtain ⟨W4,e4,hr4,hl4,hl5,hd5⟩:=fin none h5
    exact ⟨_,W4,hr4,.inl ⟨rfl,⟨by rw [e4];rw [hD] at hl4 ⊢;exact hI _ _ _ _ h7 hl4,hl5,hd5⟩,hKt ha2 (hKt (hKt hk3 h6) (by rw [e4];exact hKb _ _ _ _ (by omega) hl4 rfl rfl))⟩⟩
   | ret =>
    obtain ⟨h5,h7⟩:=hp
    obtain ⟨W4,e4,hr4,hl4,hl5,hd5⟩:=fin (some .ret) h5
    exact ⟨_,W4,hr4,.inr ⟨rfl,.ret,by rw [e4];rw [hD] at hl4 ⊢;exact hIx _ _ _ _ h7 hl4,hl5,hd5⟩⟩
   | exit i =>
    obtain ⟨h5,h7⟩:=hp
    obtain ⟨W4,e4,hr4,hl4,hl5,hd5⟩:=fin (some (.exit i)) h5
    exact ⟨_,W4,hr4,.inr ⟨rfl,.exit i,by rw [e4];rw [hD] at hl4 ⊢;exact hIx _ _ _ _ h7 hl4,hl5,hd5⟩⟩
   | goto t=>exact hp.elim
   | panic ch=>exact hp.elim
   | outgrown=>exact hp.elim
  | _=>exact h.elim
 ·rintro e W2 ⟨⟨v,rfl⟩,⟨hi,hl,hd⟩ | ⟨c,hi,hl,hd⟩⟩
  ·exact ⟨none,_,by have:=run_endLoop (P:=P) hl (by rw [hrec];simp);rw [hrec] at this;exact this,hdone D _ hD (by rw [hD] at hl ⊢;exact hI _ _ _ _ hi hl) ((World.putObj_heap_other (by omega)).trans hd)⟩
  ·exact ⟨some c,_,by have:=run_endLoop (P:=P) hl (by rw [hrec];simp);rw [hrec] at this;exact this,hstop D c _ (by omega) (by rw [hD] at hl ⊢;exact hIx _ _ _ _ hi hl) ((World.putObj_heap_other (by omega)).trans hd)⟩
end
end Go.Proofs.YtahpnackkmbmgaaGreatDoor.Vm
end
section
namespace Go.Proofs.YtahpnackkmbmgaaGreatDoor.Vm
open Go.RowKit Go.Shelf Go.Proofs
attribute [local go_sem] Oper.semAt_some
def KpB (Bs b off m:Nat) (W W':World):Prop:=(∀ v,W.cell? ⟨Bs,0,none⟩ = some v → W'.cell? ⟨Bs,0,none⟩ = some v) ∧ ∀ i,i < m → ∀ v,W.cell? ⟨b,off + i,none⟩ = some v → W'.cell? ⟨b,off + i,none⟩ = some v
theorem KpB.refl {Bs b off m:Nat} (W:World):KpB Bs b off m W W:=⟨fun _ h=>h,fun _ _ _ h=>h⟩
theorem KpB.trans {Bs b off m:Nat} {A B C:World} (h:KpB Bs b off m A B) (h':KpB Bs b off m B C):KpB Bs b off m A C:=⟨fun v hv=>h'.1 v (h.1 v hv),fun i hi v hv=>h'.2 i hi v (h.2 i hi v hv)⟩
theorem KpB.turn {Bs b off m:Nat} (W:World) (l:Nat) (o o':Obj) (hl:W.heap[l]? = some o) (ho:o.isCells = false):KpB Bs b off m W (W.putObj l o') :=
 ⟨fun v hv=>cell_kept hv (grownBy_putObj' W l o') (fun r e=>by cases e;exact ⟨o,hl,ho⟩),fun i hi v hv=>cell_kept hv (grownBy_putObj' W l o') (fun r e=>by cases e;exact ⟨o,hl,ho⟩)⟩
set_option maxRecDepth 100000 in
set_option maxHeartbeats 4000000 in
theorem backF_in (e:Nat → Nat → Value) (F:Fence) (n:Nat) (hf:F.fn 112) (hro:F.round = none) (hn:1 ≤ n) (l Bs b off len cap:Nat) (hreach:len * 80 ≤ 140737488351232) (J:Nat → World → Prop) (Jx:Unit → World → Prop)
  (hY:∀ (k:Nat) (W:World),k < len → J k W → YieldAt F (n - 1) Tryz.prog l #[.int .i64 ((len - 1 - k:Nat):Int),.agg #[e (len - 1 - k) 0,e (len - 1 - k) 1,e (len - 1 - k) 2,e (len - 1 - k) 3,e (len - 1 - k) 4]] W fun r W' =>
   (r = .returned (.bool true) ∧ J (k + 1) W' ∧ KpB Bs b off (len * 5) W W') ∨ (r = .returned (.bool false) ∧ Jx () W'))
  (W:World) (hBs:W.cell? ⟨Bs,0,none⟩ = some (.slice (some ⟨b,off,none⟩) len cap)) (hc:∀ j,j < len → ∀ i,i < 5 → W.cell? ⟨b,off + (j * 5 + i),none⟩ = some (e j i)) (h0:J 0 W) :
  CallsIn F n Tryz.prog 112 #[.func (.yield l) #[] #[],.pointer (some ⟨Bs,0,none⟩)] W fun r W'=>(∃ v,r = .returned v) ∧ (J len W' ∨ Jx () W'):=by
 refine callsIn_of_wp Tryz.func112 rfl hf ?_ hro
 simp only [Tryz.ntmps112,List.size_toArray,List.length_cons,List.length_nil,Nat.reduceAdd,Nat.reduceSub,Array.replicate_succ,Array.replicate_zero,List.push_toArray,List.append_toArray,List.nil_append,List.cons_append]
 gi_wp2
 gi_loopw [3] (fun i wr=>∃ k r:Nat,k + r = len ∧ i = .int .i64 ((r:Int) - 1) ∧ J k wr ∧ KpB Bs b off (len * 5) W wr)
  (fun i _=>(intOf i + 1).toNat)
 case atStart=>exact ⟨0,len,by omega,rfl,h0,KpB.refl W⟩
 case round =>
  obtain ⟨k,r,hk,rfl,hJs,hnx⟩:=hrel
  have hbx:=hnx.1 _ hBs
  cases r with
  | succ q =>
   have eq:(((q + 1:Nat):Int) - 1) = (q:Int):=by omega
   have hq:len - 1 - k = q:=by omega
   rw [eq]
   have hy0:=hY k wr (by omega) hJs
   rw [hq] at hy0
   obtain ⟨fn,tmps,assign,body,hy,hR⟩:=hy0
   have h2:∀ i,i < 5 → wr.cell? ⟨b,off + q * 5 + i,none⟩ = some (e q i):=fun i hi=>by rw [Nat.add_assoc];exact hnx.2 _ (by omega) _ (hc q (by omega) i hi)
   have c0:=h2 0 (by omega)
   have c1:=h2 1 (by omega)
   have c2:=h2 2 (by omega)
   have c3:=h2 3 (by omega)
   have c4:=h2 4 (by omega)
   clear h2 hc hY
   simp only [Nat.add_zero] at c0
   have hqn:(0:Int) ≤ (q:Int):=by omega
   have hql:(q:Int) < (len:Int):=by omega
   have hqlt:q < len:=by omega
   gi_wp2
   refine hR.mono ?_
   rintro r W3 (⟨rfl,hJ3,hk3⟩ | ⟨rfl,hJx3⟩)
   ·gi_wp2
    go_roundw
    case rel=>exact ⟨k + 1,q,by omega,by simp,hJ3,hnx.trans hk3⟩
    case measure=>simp [intOf]
   ·gi_wp2
    refine bodyPost_ret (results_none rfl _ _ _) rfl ?_
    exact ⟨⟨_,rfl⟩,.inr hJx3⟩
  | zero =>
   obtain rfl:k = len:=by omega
   clear hY
   gi_wp2
   go_end0
   exact ⟨⟨_,rfl⟩,.inl hJs⟩
set_option maxRecDepth 100000 in
set_option maxHeartbeats 2000000 in
theorem backF_nil (A:Option Addr) (cap:Nat) (F:Fence) (n:Nat) (hf:F.fn 112) (hro:F.round = none) (l Bs:Nat) (J:World → Prop) (W:World) (hBs:W.cell? ⟨Bs,0,none⟩ = some (.slice A 0 cap)) (h0:J W) :
  CallsIn F n Tryz.prog 112 #[.func (.yield l) #[] #[],.pointer (some ⟨Bs,0,none⟩)] W fun e W'=>(∃ v,e = .returned v) ∧ J W':=by
 refine callsIn_of_wp Tryz.func112 rfl hf ?_ hro
 simp only [Tryz.ntmps112,List.size_toArray,List.length_cons,List.length_nil,Nat.reduceAdd,Nat.reduceSub,Array.replicate_succ,Array.replicate_zero,List.push_toArray,List.append_toArray,List.nil_append,List.cons_append]
 gi_wp2
 gi_loopw [3] (fun i wr=>i = .int .i64 (-1) ∧ J wr) (fun _ _=>0)
 case atStart=>exact ⟨rfl,h0⟩
 case round =>
  obtain ⟨rfl,hJs⟩:=hrel
  gi_wp2
  go_end0
  exact ⟨⟨_,rfl⟩,hJs⟩
theorem backF_seq {I:Nat → Nat → Prop} {w:World} {v:Value} {rows:List (List D)} {Bs:Nat} (hlt:∀ b h,I b h → b < w.heap.size) (hv:AtD I w v (.sl 5 rows)) (hBl:Bs < w.heap.size) (hBs:w.cell? ⟨Bs,0,none⟩ = some v) (hreach:rows.length * 80 ≤ 140737488351232) :
    ∃ (b off:Nat) (us:List Value),us.length = rows.length * 5 ∧ (rows ≠ [] → Up I b (off + rows.length * 5)) ∧ AtDs I w us rows.flatten ∧ (∀ r ∈ rows,r.length = 5) ∧
      ∀ (F:Fence) (n:Nat),F.fn 112 → F.round = none → 1 ≤ n → SeqN F n Tryz.prog 112 #[.pointer (some ⟨Bs,0,none⟩)] (fun k=>#[.int .i64 ((rows.length - 1 - k:Nat):Int),.agg (((us.drop ((rows.length - 1 - k) * 5)).take 5).toArray)]) (KpB Bs b off (rows.length * 5)) rows.length w:=by
  obtain ⟨A,cap,rfl,hcap,h⟩:=hv.slice
  rcases h with rfl | ⟨b,off,us,rfl,hI,hr,hl,hc,hd⟩
  · exact ⟨0,0,[],rfl,fun h=>absurd rfl h,.nil I w,fun r hr=>(by cases hr),fun F n hf hro hn l J Jx W hW hY h0 =>
      (backF_nil A cap F n hf hro l Bs (J 0) W ((hW.cell (p:=⟨Bs,0,none⟩) hBl).trans hBs) h0).mono fun e W' h=>⟨h.1,.inl h.2⟩⟩
  · refine ⟨b,off,us,hl,fun _=>hI,hd,hr,fun F n hf hro hn l J Jx W hW hY h0=>?_⟩
    have hbl:b < w.heap.size:=by obtain ⟨k,h1,h2⟩:=hI;exact hlt _ _ h2
    refine backF_in (fun j i=>us.getD (j * 5 + i) undef) F n hf hro hn l Bs b off rows.length cap hreach J Jx (fun k W1 hk hj=>?_) W ((hW.cell (p:=⟨Bs,0,none⟩) hBl).trans hBs) (fun j hj i hi=>?_) h0
    · have:=hY k W1 hk hj
      have hlen:(rows.length - 1 - k) * 5 + 5 ≤ us.length:=by rw [hl,← Nat.succ_mul];exact Nat.mul_le_mul_right _ (by omega)
      have e:((us.drop ((rows.length - 1 - k) * 5)).take 5) = [us.getD ((rows.length - 1 - k) * 5 + 0) undef,us.getD ((rows.length - 1 - k) * 5 + 1) undef,us.getD ((rows.length - 1 - k) * 5 + 2) undef,us.getD ((rows.length - 1 - k) * 5 + 3) undef,us.getD ((rows.length - 1 - k) * 5 + 4) undef]:=by
        apply List.ext_getElem?
        intro i
        rw [List.getElem?_take]
        split
        · rename_i hi
          rw [List.getElem?_drop]
          have h3:(rows.length - 1 - k) * 5 + i < us.length:=by omega
          have hu:∀ j,(rows.length - 1 - k) * 5 + j < us.length → us[(rows.length - 1 - k) * 5 + j]? = some (us.getD ((rows.length - 1 - k) * 5 + j) undef):=fun j hj=>by rw [List.getD_eq_getElem?_getD,List.getElem?_eq_getElem hj];rfl
          rw [hu i h3]
          match i,hi with
          | 0,_=>rfl
           | 1,_=>rfl
           | 2,_=>rfl
           | 3,_=>rfl
           | 4,_=>rfl
          
        · rename_i hi
          rw [List.getElem?_eq_none (by simp;omega)]
      dsimp only at this
      rw [e] at this
      exact this
    · refine (hW.cell (p:=⟨b,off + (j * 5 + i),none⟩) hbl).trans ?_
      have h3:j * 5 + i < us.length:=by
        have h4:j * 5 + 5 ≤ rows.length * 5:=by rw [← Nat.succ_mul];exact Nat.mul_le_mul_right _ (by omega)
        omega
      have:=hc (j * 5 + i) _ (List.getElem?_eq_getElem h3)
      rw [this,List.getD_eq_getElem?_getD,List.getElem?_eq_getElem h3]
      rfl
end Go.Proofs.YtahpnackkmbmgaaGreatDoor.Vm
end
section
namespace Go.Proofs.YtahpnackkmbmgaaGreatDoor.Vm
open Go.RowKit
section
section
variable {I0:Nat → Nat → Prop} {X:Nat → Prop} {w0:W0} {I:Nat → Nat → Prop} {g:Nat → Value} {s:S} {a:Act} {w:World}
def other:Obj → Bool
 | .cells _ _ _=>false
 | .map _ _=>false
 | _=>true
theorem keeps_turn {L:Nat} {o:Obj} (hI:∀ k,¬ I L k):Keeps I w (w.putObj L o):=fun b k hb i hi=>by
 have hne:b ≠ L:=fun e=>hI k (e ▸ hb)
 show (match (w.putObj L o).heap[b]? with | some (.cells c _ _)=>c[i]? | _=>none) = _
 rw [World.putObj_heap_other hne]
 rfl
theorem blk_turn {L:Nat} {y:Obj} (hl:w.heap[L]? = some y) (hy:other y = true) {k:Nat} {o:O} (h:ObjAt X w0 I w g k o) (hd:o ≠ .dead):¬ gbl (g k) L:=fun hg=>by
 cases o with
 | dead=>exact hd rfl
 | box cs =>
  obtain ⟨b,us,t,h1,h2,_⟩:=h
  rw [h1] at hg
  obtain rfl:b = L:=hg
  rw [hl] at h2
  rw [Option.some.inj h2] at hy
  cases hy
 | row z e rows =>
  obtain ⟨us,h1,_⟩:=h
  rcases h1.2 with ⟨e0,_⟩ | ⟨g',cap,cur,e0,_,hh,_⟩
  ·rw [e0] at hg;exact hg.elim
  ·rw [e0] at hg
   have hg:g' = L:=hg
   subst hg
   rw [hl] at hh
   rw [Option.some.inj hh] at hy
   cases hy
 | ob T vs =>
  obtain ⟨b,h1,h2,_⟩:=h
  rw [h1] at hg
  obtain rfl:b = L:=hg
  rw [hl] at h2
  rw [Option.some.inj h2] at hy
  cases hy
 | mp kt es =>
  obtain ⟨b,l,c,h1,h2,_⟩:=h
  rw [h1] at hg
  obtain rfl:b = L:=hg
  rw [hl] at h2
  rw [Option.some.inj h2] at hy
  cases hy
 | it P =>
  obtain ⟨A,n,cap,F,h1,h2,h3,h4⟩:=h
  rw [h1,gbl_pack] at hg
  obtain ⟨c,t,h5⟩:=(h4 L hg).1
  rw [hl] at h5
  rw [Option.some.inj h5] at hy
  cases hy
 | kl ks =>
  obtain ⟨us,h1,_⟩:=h
  rw [h1] at hg
  exact hg.elim
theorem obj_turn {L:Nat} {y y':Obj} (hl:w.heap[L]? = some y) (hy:other y = true) (hI:∀ k,¬ I L k) {k:Nat} {o:O} (h:ObjAt X w0 I w g k o):ObjAt X w0 I (w.putObj L y') g k o:=by
 cases hd:o with
 | dead=>exact True.intro
 | _ =>
  rw [hd] at h
  exact h.keep (fun _ _ h=>h) (keeps_turn hI) (fun b hb=>World.putObj_heap_other fun e=>blk_turn hl hy h (by simp) (e ▸ hb)) (fun b hb h' hh=>hh)
theorem RelI.turned (h:RelI I0 X w0 I g s a w) {L:Nat} {y y':Obj} (hl:w.heap[L]? = some y) (hy:other y = true) (h0:w0.w.heap.size ≤ L) (hI:∀ k,¬ I L k):RelI I0 X w0 I g s a (w.putObj L y'):=by
 have hk:=keeps_turn (w:=w) (o:=y') hI
 refine ⟨h.im,fun b k hb=>⟨?_,(h.lt b k hb).2⟩,⟨h.fr.os,h.fr.tape,h.fr.output,?_,fun b hb hX=>(World.putObj_heap_other (by omega)).trans (h.fr.block b hb hX)⟩,h.kp.trans fun b k hb i hi=>hk b k (h.im b k hb) i hi,h.lo,h.st,fun k o ho=>obj_turn hl hy hI (h.obj k o ho),h.dis,h.out,h.tmp.mono (fun _ _ h=>h) hk,h.dfr⟩
 ·have:=(h.lt b k hb).1;simpa using this
 ·have:=h.fr.size;simpa using this
end
section
variable {I0:Nat → Nat → Prop} {X:Nat → Prop} {w0:W0} {I:Nat → Nat → Prop} {g:Nat → Value} {s:S} {a:Act} {w:World}
theorem RelI.turnBoth (h:RelI I0 X w0 I g s a w) {L:Nat} {y y0 y':Obj} (hl:w.heap[L]? = some y) (hy:other y = true) (hl0:w0.w.heap[L]? = some y0) (hI:∀ k,¬ I L k):RelI I0 X ⟨w0.w.putObj L y',w0.g,w0.n,w0.d⟩ I g s a (w.putObj L y'):=by
 have hk:=keeps_turn (w:=w) (o:=y') hI
 have hk0:=keeps_turn (w:=w0.w) (o:=y') (I:=I0) (fun k hk=>hI k (h.im L k hk))
 have hM:∀ b,Mine X w0 b → Mine X ⟨w0.w.putObj L y',w0.g,w0.n,w0.d⟩ b:=fun b hb=>by
  rcases hb with hb | hb
  ·exact .inl (by simpa using hb)
  ·exact .inr hb
 refine ⟨h.im,fun b k hb=>⟨?_,fun hlt=>(h.lt b k hb).2 (by simpa using hlt)⟩,⟨h.fr.os,h.fr.tape,h.fr.output,?_,fun b hb hX=>?_⟩,?_,h.lo,h.st,fun k o ho=>?_,h.dis,h.out,h.tmp.mono (fun _ _ h=>h) hk,h.dfr.1,?_⟩
 ·have:=(h.lt b k hb).1;simpa using this
 ·have:=h.fr.size;simpa using this
 ·by_cases e:b = L
  ·subst e
   rw [World.putObj_heap_same (Array.getElem?_eq_some_iff.1 hl).1,World.putObj_heap_same (Array.getElem?_eq_some_iff.1 hl0).1]
  ·rw [World.putObj_heap_other e,World.putObj_heap_other e]
   exact h.fr.block b (by simpa using hb) hX
 ·intro b k hb i hi
  exact ((hk b k (h.im b k hb) i hi).trans (h.kp b k hb i hi)).trans (hk0 b k hb i hi).symm
 ·have:=obj_turn (y':=y') hl hy hI (h.obj k o ho)
  cases o with
  | dead=>exact True.intro
  | box cs=>obtain ⟨b,us,t,h1,h2,h3,h4,h5,h6⟩:=this;exact ⟨b,us,t,h1,h2,h3,h4,h5,hM b h6⟩
  | mp kt es=>obtain ⟨b,l,c,h1,h2,h3,h4,h6⟩:=this;exact ⟨b,l,c,h1,h2,h3,h4,hM b h6⟩
  | it P=>obtain ⟨A,n,cap,F,h1,h2,h3,h4⟩:=this;exact ⟨A,n,cap,F,h1,h2,h3,fun b hb=>⟨(h4 b hb).1,(h4 b hb).2.1,hM b (h4 b hb).2.2⟩⟩
  | kl ks=>exact this
  | ob T vs=>obtain ⟨b,h1,h2,h3,h4⟩:=this;exact ⟨b,h1,h2,h3,hM b h4⟩
  | row z e rows=>obtain ⟨us,h1,h2,h3,h4⟩:=this;exact ⟨us,h1,h2,h3,fun b hb=>⟨(h4 b hb).1,(h4 b hb).2.1,hM b (h4 b hb).2.2⟩⟩
 ·intro t ht
  obtain ⟨h1,h2⟩:=h.dfr.2 t ht
  obtain ⟨gl,ty,c,e1,e2,e3⟩:=var_at h1
  have hne:gl ≠ L:=fun e=>by
   subst e
   have:=(h.fr.block gl e3 (h2 gl e1)).trans e2
   rw [hl] at this
   injection this with this
   subst this
   cases hy
  exact ⟨at_var e1 ((World.putObj_heap_other hne).trans e2),h2⟩
theorem keepsFrom_of {B:Nat} {g':Nat → Value} {os:List O} {nn:Nat} {d:List Deferred} {I2:Nat → Nat → Prop} {g2:Nat → Value} {s2:S} {a2:Act} {w2:World} (h:∀ k o,os[k]? = some o → ObjAt X w0 I w g' k o) (hmp:∀ j kt es b,os[j]? = some (.mp kt es) → gbl (g' j) b → b < B)
  (h2:RelI I (Xof g' os) ⟨w,g',nn,d⟩ I2 g2 s2 a2 w2):KeepsFrom B w w2:=by
 refine ⟨h2.fr.size,fun k o hk ho hc=>(h2.fr.block k (Array.getElem?_eq_some_iff.1 ho).1 fun ⟨j,x,hj,hd,hb⟩=>?_).trans ho⟩
 have hob:=h j x hj
 cases x with
 | dead=>exact hd rfl
 | box cs =>
  obtain ⟨b,us,t,h1,h2,_⟩:=hob
  rw [h1] at hb
  obtain rfl:b = k:=hb
  rw [ho] at h2
  injection h2 with h2
  rw [h2] at hc
  cases hc
 | row z e rows =>
  obtain ⟨us,h1,_⟩:=hob
  rcases h1.2 with ⟨e0,_⟩ | ⟨g3,cap,cur,e0,_,hh,_⟩
  ·rw [e0] at hb;exact hb.elim
  ·rw [e0] at hb
   have hb:g3 = k:=hb
   subst hb
   rw [ho] at hh
   injection hh with hh
   rw [hh] at hc
   cases hc
 | mp kt es=>have:=hmp j kt es k hj hb;omega
 | ob T vs =>
  obtain ⟨b,h1,h2,_⟩:=hob
  rw [h1] at hb
  obtain rfl:b = k:=hb
  rw [ho] at h2
  injection h2 with h2
  rw [h2] at hc
  cases hc
 | it P =>
  obtain ⟨A,n,cap,F,h1,h2,h3,h4⟩:=hob
  rw [h1,gbl_pack] at hb
  obtain ⟨c,t,h5⟩:=(h4 k hb).1
  rw [ho] at h5
  injection h5 with h5
  rw [h5] at hc
  cases hc
 | kl ks =>
  obtain ⟨us,h1,_⟩:=hob
  rw [h1] at hb
  exact hb.elim
end
def isMp:O → Bool
 | .mp _ _=>true
 | _=>false
def mpSub:List O → List O → Bool
 | _,[]=>true
 | [],o :: l=>match isMp o with | true=>false | false=>mpSub [] l
 | x :: k,o :: l=>match isMp o with | true=>(match isMp x with | true=>mpSub k l | false=>false) | false=>mpSub k l
theorem isMp_at {o:O} (h:isMp o = true):∃ kt es,o = .mp kt es:=by
 cases o with
 | mp kt es=>exact ⟨kt,es,rfl⟩
 | _=>cases h
theorem mpSub_at:∀ {k l:List O} {j:Nat} {kt:Nat} {es:List (R × R)},mpSub k l = true → l[j]? = some (.mp kt es) → ∃ kt' es',k[j]? = some (.mp kt' es')
 | _,[],j,_,_,_,h=>by simp at h
 | [],o :: l,j,kt,es,hs,h=>by
  simp only [mpSub] at hs
  cases ho:isMp o with
  | true=>rw [ho] at hs;cases hs
  | false =>
   rw [ho] at hs
   cases j with
   | zero=>simp at h;subst h;cases ho
   | succ j =>
    obtain ⟨a,b,hx⟩:=mpSub_at hs (show l[j]? = _ by simpa using h)
    simp at hx
 | x :: k,o :: l,j,kt,es,hs,h=>by
  simp only [mpSub] at hs
  cases j with
  | zero =>
   simp at h
   subst h
   cases hx:isMp x with
   | true=>obtain ⟨a,b,rfl⟩:=isMp_at hx;exact ⟨a,b,rfl⟩
   | false=>rw [hx] at hs;cases hs
  | succ j =>
   have hs':mpSub k l = true:=by
    cases ho:isMp o with
    | true =>
     rw [ho] at hs
     cases hx:isMp x with
     | true=>rw [hx] at hs;exact hs
     | false=>rw [hx] at hs;cases hs
    | false=>rw [ho] at hs;exact hs
   obtain ⟨a,b,hx⟩:=mpSub_at hs' (show l[j]? = _ by simpa using h)
   exact ⟨a,b,by simpa using hx⟩
def roundF (ks1 ks2:List Nat) (n:Nat) (o o':List O) (m:Nat) (s2:S):Prop:=getO s2.o m = .kl ks1 ∧ getO s2.o n = .kl ks2 ∧ takeO n s2.o = o' ∧ lowO n o' = true ∧ mpSub o o' = true
def roundE (n:Nat) (o o':List O) (m:Nat) (s2:S):Prop:=getO s2.o m = .kl [] ∧ getO s2.o n = .kl [] ∧ takeO n s2.o = o' ∧ lowO n o' = true ∧ mpSub o o' = true
def roundS (ks1 ks2:List Nat) (asg bdy:Code) (tk:List V) (o o':List O):Prop :=
 exec real asg ⟨tk,snocO o (.kl [])⟩ (fun x s1=>x = .normal ∧ mpSub o s1.o = true ∧ exec real bdy ⟨s1.t,snocO s1.o (.kl [])⟩ (fun x s2=>x = .normal ∧ roundF ks1 ks2 (lenO o) o o' (lenO s1.o) s2))
def roundR (asg bdy:Code) (tk:List V) (o o':List O):Prop :=
 exec real asg ⟨tk,snocO o (.kl [])⟩ (fun x s1=>x = .normal ∧ mpSub o s1.o = true ∧ exec real bdy ⟨s1.t,snocO s1.o (.kl [])⟩ (fun x s2=>x = .normal ∧ roundE (lenO o) o o' (lenO s1.o) s2))
section
variable {I0:Nat → Nat → Prop} {X:Nat → Prop} {w0:W0} {I:Nat → Nat → Prop} {g:Nat → Value} {t:List V} {o:List O} {a:Act} {W:World}
def Between (I0:Nat → Nat → Prop) (X:Nat → Prop) (w0:W0) (I:Nat → Nat → Prop) (L B:Nat) (t:List V) (a:Act) (o:List O) (W:World):Prop :=
 ∃ I' g',(∀ b k,I b k → I' b k) ∧ (∀ k,¬ I' L k ∧ ¬ I' B k) ∧ RelI I0 X w0 I' g' ⟨t,o⟩ a W ∧ ∀ j kt es b,o[j]? = some (.mp kt es) → gbl (g' j) b → b < B
theorem round_in {asg bdy:Code} {ro:Option Nat} {n L B:Nat} {r:Loop} {us:List Value} {tk:List V} {o':List O} {ks1 ks2:List Nat} (hA:okCode Tryz.prog asg = true) (hB:okCode Tryz.prog bdy = true)
  (h:RelI I0 X w0 I g ⟨t,o⟩ a W) (hL:W.heap[L]? = some (.loop r)) {dd:Option (List Deferred)} (hD:W.heap[B]? = some (.deferred dd)) (hL0:w0.w.heap.size ≤ L) (hI2:∀ k,¬ I L k ∧ ¬ I B k) (hmp:∀ j kt es b,o[j]? = some (.mp kt es) → gbl (g j) b → b < B) (hv:AtVs I W g us tk) (ht:killTs ks2 t = t) (hx:roundS ks1 ks2 asg bdy tk o o') :
  asg.wpIn (FW ro) n Tryz.prog (Exit.then (fun a' W1=>KeepsFrom B W W1 ∧ Keeps I W W1 ∧ ∃ R:World → Prop,Turns L R ∧ R W1 ∧ ∀ W2,R W2 → bdy.wpIn (FW ro) n Tryz.prog (roundQ B (Keeps I) (Between I0 X w0 I L B t a o') (fun _ _=>False) W2) a' W2) (fun _ _ _=>False)) { tmps:=us.toArray,defers:=[] } W:=by
 obtain ⟨g',hg,hgn,h1⟩:=h.rebase hv
 have hLt:L < W.heap.size:=(Array.getElem?_eq_some_iff.1 hL).1
 have hDt:B < W.heap.size:=(Array.getElem?_eq_some_iff.1 hD).1
 have hIL:∀ k,¬ I L k:=fun k=>(hI2 k).1
 have hmp1:∀ j kt es b,(snocO o (.kl []))[j]? = some (.mp kt es) → gbl (g' j) b → b < B:=fun j kt es b hj hb=>by
  rw [snocO_is] at hj
  have hlt:j < o.length:=by
   have:=(List.getElem?_eq_some_iff.1 hj).1
   rw [List.length_append,List.length_singleton] at this
   rcases Nat.lt_or_ge j o.length with h | h
   ·exact h
   ·have:j = o.length:=by omega
    subst this
    simp at hj
  rw [List.getElem?_append_left hlt] at hj
  rw [hg j hlt] at hb
  exact hmp j kt es b hj hb
 have hXL:¬ Xof g' (snocO o (.kl [])) L:=fun ⟨j,x,hj,hd,hb⟩=>blk_turn hL rfl (h1.obj j x hj) hd hb
 have hXD:¬ Xof g' (snocO o (.kl [])) B:=fun ⟨j,x,hj,hd,hb⟩=>blk_turn hD rfl (h1.obj j x hj) hd hb
 refine exec_in asg _ _ _ _ _ hA ⟨I,g',h1⟩ hx fun e s1 a' W1 hr hk=>?_
 obtain ⟨he,hms,hx2⟩:=hk
 subst he
 obtain ⟨I1,g1,h1a⟩:=hr
 have hI1L:∀ k,¬ I1 L k:=fun k hk=>by
  rcases (h1a.lt L k hk).2 hLt with h2 | h2
  ·exact hIL k h2
  ·exact hXL h2
 have hI1D:∀ k,¬ I1 B k:=fun k hk=>by
  rcases (h1a.lt B k hk).2 hDt with h2 | h2
  ·exact (hI2 k).2 h2
  ·exact hXD h2
 have hmp2:∀ j kt es b,s1.o[j]? = some (.mp kt es) → gbl (g1 j) b → b < B:=fun j kt es b hj hb=>by
  obtain ⟨kt',es',ho⟩:=mpSub_at hms hj
  have hlt:=(List.getElem?_eq_some_iff.1 ho).1
  obtain ⟨b0,l0,c0,e0,_⟩:=h.obj j _ ho
  have e1:=hg j hlt
  rw [e0] at e1
  have e2:=h1a.st j (Nat.lt_succ_of_lt hlt) (by show isRef (g' j) = true;rw [e1];rfl)
  have e2:g1 j = g' j:=e2
  rw [e2,e1] at hb
  exact hmp j kt' es' b ho (by rw [e0];exact hb)
 refine ⟨keepsFrom_of h1.obj hmp1 h1a,h1a.kp,fun W2=>∃ (Wb:World) (rb r2:Loop),RelI I0 X w0 I g ⟨t,o⟩ a Wb ∧ Wb.heap[L]? = some (.loop rb) ∧ W2.heap[L]? = some (.loop r2) ∧ (B ≠ L → W2.heap[B]? = some (.deferred dd)) ∧ RelI I (Xof g' (snocO o (.kl []))) ⟨Wb,g',o.length + 1,[]⟩ I1 g1 s1 a' W2,?_,?_,?_⟩
 ·rintro W2 r3 r' ⟨Wb,rb,r2,b1,b2,b3,bd,b4⟩ hl
  exact ⟨Wb.putObj L (.loop r'),r',r',b1.turned b2 rfl hL0 hIL,World.putObj_heap_same (Array.getElem?_eq_some_iff.1 b2).1,World.putObj_heap_same (Array.getElem?_eq_some_iff.1 b3).1,fun hne=>(World.putObj_heap_other hne).trans (bd hne),b4.turnBoth hl rfl b2 hI1L⟩
 ·exact ⟨W,r,r,h,hL,(h1a.fr.block L hLt hXL).trans hL,fun _=>(h1a.fr.block B hDt hXD).trans hD,h1a⟩
 ·rintro W2 ⟨Wb,rb,r2,b1,b2,b3,bd,b4⟩
  have hne:B ≠ L:=fun e=>by rw [e,hL] at hD;cases hD
  have bd:=bd hne
  obtain ⟨g3,hg3,hgn3,h5⟩:=b4.rebase b4.tmp
  have ea:({ tmps:=a'.tmps.toList.toArray,defers:=[] }:Act) = a':=by
   have:=b4.dfr.1
   cases a'
   simp only at this
   subst this
   rfl
  rw [ea] at h5
  have hmp3:∀ j kt es b,(snocO s1.o (.kl []))[j]? = some (.mp kt es) → gbl (g3 j) b → b < B:=fun j kt es b hj hb=>by
   rw [snocO_is] at hj
   have hlt:j < s1.o.length:=by
    have:=(List.getElem?_eq_some_iff.1 hj).1
    rw [List.length_append,List.length_singleton] at this
    rcases Nat.lt_or_ge j s1.o.length with h | h
    ·exact h
    ·have:j = s1.o.length:=by omega
     subst this
     simp at hj
   rw [List.getElem?_append_left hlt] at hj
   rw [hg3 j hlt] at hb
   exact hmp2 j kt es b hj hb
  refine exec_in bdy _ _ _ _ _ hB ⟨I1,g3,h5⟩ hx2 fun e s2 a3 W3 hr hk=>?_
  obtain ⟨he,k1,k2,k3,k4,k5⟩:=hk
  subst he
  obtain ⟨I2,g2,h6⟩:=hr
  have hlo:o.length + 1 ≤ s1.o.length:=h1a.lo
  have k1:=getO_some k1 (by simp)
  have k2:=getO_some k2 (by simp)
  rw [lenO_is] at k1 k2 k3 k4
  rw [takeO_is] at k3
  obtain ⟨_,h7⟩:=b4.unbase hg3 hgn3 h6 k1
  obtain ⟨hcut,h8⟩:=b1.unbase hg hgn h7 (ks:=ks2) (by rw [List.getElem?_set_ne (by show s1.o.length ≠ o.length;omega)];exact k2)
  have e3:((s2.o.set s1.o.length .dead).set o.length .dead).take o.length = o':=by
   rw [List.take_set_of_le (Nat.le_refl _),List.take_set_of_le (by omega),k3]
  have hl2:o.length < s2.o.length:=(List.getElem?_eq_some_iff.1 k2).1
  have h9:=h8.trim (n:=o.length) h.lo (by show o.length ≤ ((s2.o.set _ _).set _ _).length;rw [List.length_set,List.length_set];omega) hcut (by show lowO _ (((s2.o.set _ _).set _ _).take _) = true;rw [e3];exact k4)
  have e4:(⟨killTs ks2 t,((s2.o.set s1.o.length .dead).set o.length .dead).take o.length⟩:S) = ⟨t,o'⟩:=by rw [e3,ht]
  have h9':RelI I0 X w0 I2 (cutG o.length g2) ⟨t,o'⟩ a W3:=by rw [← e4];exact h9
  refine ⟨keepsFrom_of h5.obj hmp3 h6,fun b k hb=>h6.kp b k (h1a.im b k hb),I2,cutG o.length g2,h7.im,fun k=>?_,h9',fun j kt es b hj hb=>?_⟩
  ·constructor
   ·intro hk
    rcases (h6.lt L k hk).2 (Array.getElem?_eq_some_iff.1 b3).1 with h2 | ⟨j,x,hj,hd,hb⟩
    ·exact hI1L k h2
    ·exact blk_turn b3 rfl (h5.obj j x hj) hd hb
   ·intro hk
    rcases (h6.lt B k hk).2 (Array.getElem?_eq_some_iff.1 bd).1 with h2 | ⟨j,x,hj,hd,hb⟩
    ·exact hI1D k h2
    ·exact blk_turn bd rfl (h5.obj j x hj) hd hb
  ·obtain ⟨kt',es',ho⟩:=mpSub_at k5 hj
   have hlt:=(List.getElem?_eq_some_iff.1 ho).1
   obtain ⟨b0,l0,c0,e0,_⟩:=h.obj j _ ho
   have e1:=hg j hlt
   rw [e0] at e1
   have e2:g2 j = g' j:=h7.st j (Nat.lt_succ_of_lt hlt) (by show isRef (g' j) = true;rw [e1];rfl)
   rw [show cutG o.length g2 j = g2 j from if_pos hlt,e2,e1] at hb
   exact hmp j kt' es' b ho (by rw [e0];exact hb)
end
theorem live_dead {s:S} {k i:Nat} (h:live ⟨s.t,s.o.set k .dead⟩ i):live s i:=by
 obtain ⟨o,ho,hd⟩:=h
 by_cases e:k = i
 ·subst e
  rw [List.getElem?_set] at ho
  split at ho
  ·split at ho
   ·exact absurd (Option.some.inj ho).symm hd
   ·cases ho
  ·exact absurd rfl ‹¬_›
 ·exact ⟨o,by simpa [List.getElem?_set_ne e] using ho,hd⟩
section
variable {I0:Nat → Nat → Prop} {X:Nat → Prop} {w0:W0} {I:Nat → Nat → Prop} {g:Nat → Value} {s:S} {a:Act} {w:World}
theorem RelI.frzBox (h:RelI I0 X w0 I g s a w) {k:Nat} {cs:List V} (hk:s.o[k]? = some (.box cs)):∃ (b:Nat) (us:List Value) (t:TypeId × List Value),g k = .pointer (some ⟨b,0,none⟩) ∧ w.heap[b]? = some (.cells (us ++ t.2).toArray t.1 (0,0)) ∧ AtVs I w g us cs ∧
  RelI I0 X w0 (fun b' n=>I b' n ∨ (b' = b ∧ n ≤ us.length)) g ⟨s.t,s.o.set k .dead⟩ a w:=by
 obtain ⟨b,us,t,h1,h2,h3,h4,h5,h6⟩:=h.obj k _ hk
 have hlk:live s k:=⟨_,hk,by simp⟩
 have hgk:gbl (g k) b:=by rw [h1];rfl
 have hkp:Keeps I w w:=Keeps.refl I w
 refine ⟨b,us,t,h1,h2,h3,fun b n hb=>.inl (h.im b n hb),fun b' n hb=>?_,h.fr,h.kp,by simpa using h.lo,h.st,fun j o hj=>?_,fun i j b hi hj=>h.dis i j b (live_dead hi) (live_dead hj),fun j hj=>h.out j (by simpa using hj),h.tmp.mono (fun _ _ h=>.inl h) hkp,h.dfr⟩
 ·rcases hb with hb | ⟨rfl,_⟩
  ·exact h.lt b' n hb
  ·refine ⟨(Array.getElem?_eq_some_iff.1 h2).1,fun hlt=>.inr ?_⟩
   rcases h6 with hM | hM
   ·omega
   ·exact hM
 ·by_cases hjk:k = j
  ·subst hjk
   have hlt:k < s.o.length:=(List.getElem?_eq_some_iff.1 hk).1
   simp only [List.getElem?_set_self hlt] at hj
   injection hj with hj
   subst hj
   exact True.intro
  ·simp only [List.getElem?_set_ne hjk] at hj
   by_cases hd:o = .dead
   ·subst hd;exact True.intro
   refine (h.obj j o hj).keep (fun _ _ h=>.inl h) hkp (fun _ _=>rfl) fun b' hb n hn=>?_
   rcases hn with hn | ⟨rfl,_⟩
   ·exact hn
   ·exact absurd (h.dis k j b' hlk ⟨o,hj,hd⟩ hgk hb) hjk
end
section
variable {I0:Nat → Nat → Prop} {X:Nat → Prop} {w0:W0} {I:Nat → Nat → Prop} {g:Nat → Value} {t:List V} {a:Act} {w:World}
theorem Between.turned {L B:Nat} {o:List O} (h0:w0.w.heap.size ≤ L):Turns L (Between I0 X w0 I L B t a o):=by
 rintro W r r' ⟨I',g',h1,h2,h3,h4⟩ hl
 exact ⟨I',g',h1,h2,h3.turned hl rfl h0 (fun k=>(h2 k).1),h4⟩
theorem range_go {asg bdy:Code} {n:Nat} {g0:Operand} {p1 p2 gf N:Nat} {lb:Array Value} {u1 u2:Nat → Value} {Kp:World → World → Prop} {st:Nat → List O} {tk:Nat → List V} {Q:Exit → Act → World → Prop} {ks1 ks2:List Nat} (hA:okCode Tryz.prog asg = true) (hB:okCode Tryz.prog bdy = true)
  (h:RelI I0 X w0 I g ⟨t,st 0⟩ a w) (h1:1 ≤ n) (hg:a.eval g0 = .func (.func gf) #[] lb) (eg:∀ args w,(callFunc gf args).run Tryz.prog w = .ok (.enter gf args) w)
  (hseq:SeqN (FW none) (n - 1) Tryz.prog gf lb (fun k=>#[u1 k,u2 k]) Kp N w) (hKt:∀ {A B C:World},Kp A B → Kp B C → Kp A C) (hKb:∀ (W:World) (l:Nat) (o o':Obj),w.heap.size ≤ l → W.heap[l]? = some o → o.isCells = false → o.isWalk = false → Kp W (W.putObj l o')) (hKp:∀ W W',Keeps I W W' → Kp W W')
  (hv:∀ k W I' g',k < N → (∀ b j,I b j → I' b j) → Keeps I w W → AtVs I' W g' a.tmps.toList t → AtVs I' W g' ((a.tmps.setIfInBounds p1 (u1 k)).setIfInBounds p2 (u2 k)).toList (tk k))
  (ht:killTs ks2 t = t) (hx:∀ k,k < N → roundS ks1 ks2 asg bdy (tk k) (st k) (st (k + 1)))
  (hQ:∀ (D:Nat) (W:World),D = w.heap.size → Between I0 X w0 I (w.heap.size + 1) w.heap.size t a (st N) W → W.heap[D]? = some (.deferred (some [])) → Q .normal { a with defers:={ target:=.collected D,args:=#[] } :: a.defers } W) :
  (Code.rangeFunc g0 #[p1,p2] asg bdy).wpIn (FW none) n Tryz.prog Q a w:=by
 obtain ⟨L,hL⟩:∃ L,L = w.heap.size + 1:=⟨_,rfl⟩
 have hL0:w0.w.heap.size ≤ L:=by have:=h.fr.size;omega
 have hIL:∀ k,¬ I L k ∧ ¬ I w.heap.size k:=fun k=>⟨fun hk=>by have:=(h.lt L k hk).1;omega,fun hk=>by have:=(h.lt _ k hk).1;omega⟩
 have hIL1:∀ k,¬ I L k:=fun k=>(hIL k).1
 refine range_k (F:=FW none) rfl h1 hg trivial eg hseq hKt hKb (fun _=>rfl) (fun k W=>Between I0 X w0 I L w.heap.size t a (st k) W ∧ Keeps I w W) (fun _ _=>False) (fun k W r r' hw hl=>?_) (fun _ _ _ _ hw _=>hw) (fun r=>?_) (fun l k W hk hw hl=>?_) (fun D W hD hw hd=>?_) (fun _ _ _ _ hw _=>hw.elim)
 ·rw [← hL] at hl ⊢
  exact ⟨Between.turned hL0 W r r' hw.1 hl,hw.2.trans (keeps_turn hIL1)⟩
 ·have hbel:Below w.heap.size w ((w.alloc (.deferred (some []))).alloc (.loop r)):=((Below.refl _ w).alloc (Nat.le_refl _) _).alloc (by simp) _
  refine ⟨⟨I,g,fun _ _ h=>h,hIL,h.grow hbel (fun _ _ h=>h) (fun _ _ h=>.inl h),fun j kt es b hj hb=>((h.obj j _ hj).blk (by simp) b hb).1⟩,fun b j hb i _=>hbel.cell (p:=⟨b,i,none⟩) (h.lt b j hb).1⟩
 ·obtain ⟨⟨I',g',h2,h3,h4,h5⟩,hk2⟩:=hw
  obtain ⟨⟨r,hl⟩,hdd⟩:=hl
  rw [← hL] at hl
  have key:=round_in (ro:=some l) (n:=n - 1 - 1) hA hB h4 hl hdd hL0 h3 h5 (hv k W I' g' hk h2 hk2 h4.tmp) ht (hx k hk)
  have ez:(#[p1,p2].zip #[u1 k,u2 k]).foldl (fun t (x:Tmp × Value)=>match x with | (p,v)=>t.setIfInBounds p v) a.tmps = (a.tmps.setIfInBounds p1 (u1 k)).setIfInBounds p2 (u2 k):=by simp
  rw [Array.toArray_toList,← ez] at key
  refine wpIn_mono key fun e a' W1 he=>?_
  cases e with
  | normal =>
   obtain ⟨e1,e2,R,e3,e4,e5⟩:=he
   have hkI:∀ {A B:World},Keeps I' A B → Keeps I A B:=fun h b j hb=>h b j (h2 b j hb)
   refine ⟨e1,hKp _ _ (hkI e2),fun W2=>R W2 ∧ Keeps I w W2,?_,⟨e4,hk2.trans (hkI e2)⟩,?_⟩
   ·rintro W2 r1 r2 ⟨f1,f2⟩ hl2
    rw [← hL] at hl2 ⊢
    exact ⟨e3 W2 r1 r2 f1 hl2,f2.trans (keeps_turn hIL1)⟩
   ·rintro W2 ⟨f1,f2⟩
    refine wpIn_mono (e5 W2 f1) fun e a3 W3 he=>?_
    cases e with
    | normal =>
     obtain ⟨q1,q2,I2,g2,q3,q4,q5,q6⟩:=he
     exact ⟨q1,hKp _ _ (hkI q2),⟨I2,g2,fun b j hb=>q3 b j (h2 b j hb),q4,q5,q6⟩,f2.trans (hkI q2)⟩
    | ret=>exact he
    | exit i=>exact he
    | goto t=>exact he
    | panic c=>exact he
    | outgrown=>exact he
  | ret=>exact he.elim
  | exit i=>exact he.elim
  | goto t=>exact he.elim
  | panic c=>exact he.elim
  | outgrown=>exact he.elim
 ·rw [hL] at hw
  exact hQ D W hD hw.1 hd
theorem range_ok {asg bdy:Code} {n:Nat} {g0:Operand} {p1 p2 gf N:Nat} {lb:Array Value} {u1 u2:Nat → Value} {Kp:World → World → Prop} {st:Nat → List O} {tk:Nat → List V} {Q:Exit → Act → World → Prop} (hA:okCode Tryz.prog asg = true) (hB:okCode Tryz.prog bdy = true)
  (h:RelI I0 X w0 I g ⟨t,st 0⟩ a w) (h1:1 ≤ n) (hg:a.eval g0 = .func (.func gf) #[] lb) (eg:∀ args w,(callFunc gf args).run Tryz.prog w = .ok (.enter gf args) w)
  (hseq:SeqN (FW none) (n - 1) Tryz.prog gf lb (fun k=>#[u1 k,u2 k]) Kp N w) (hKt:∀ {A B C:World},Kp A B → Kp B C → Kp A C) (hKb:∀ (W:World) (l:Nat) (o o':Obj),w.heap.size ≤ l → W.heap[l]? = some o → o.isCells = false → o.isWalk = false → Kp W (W.putObj l o')) (hKp:∀ W W',Keeps I W W' → Kp W W')
  (hv:∀ k W I' g',k < N → (∀ b j,I b j → I' b j) → Keeps I w W → AtVs I' W g' a.tmps.toList t → AtVs I' W g' ((a.tmps.setIfInBounds p1 (u1 k)).setIfInBounds p2 (u2 k)).toList (tk k))
  (hx:∀ k,k < N → roundR asg bdy (tk k) (st k) (st (k + 1)))
  (hQ:∀ (D:Nat) (W:World),D = w.heap.size → Between I0 X w0 I (w.heap.size + 1) w.heap.size t a (st N) W → W.heap[D]? = some (.deferred (some [])) → Q .normal { a with defers:={ target:=.collected D,args:=#[] } :: a.defers } W) :
  (Code.rangeFunc g0 #[p1,p2] asg bdy).wpIn (FW none) n Tryz.prog Q a w :=
 range_go (ks1:=[]) (ks2:=[]) hA hB h h1 hg eg hseq hKt hKb hKp hv rfl hx hQ
end
section
variable {I0:Nat → Nat → Prop} {X:Nat → Prop} {w0:W0} {I:Nat → Nat → Prop} {g:Nat → Value} {s:S} {a:Act} {w:World}
theorem RelI.mark (h:RelI I0 X w0 I g s a w) (d:List Deferred):RelI I0 X ⟨w0.w,w0.g,w0.n,d⟩ I g s { a with defers:=d } w :=
 ⟨h.im,h.lt,h.fr,h.kp,h.lo,h.st,h.obj,h.dis,h.out,h.tmp,rfl,h.dfr.2⟩
end
def endK (l:List ResultVar) (q:List R) (m:Nat):Vm.X → S → Prop
 | .exit _,_=>False
 | _,s=>getO s.o m = .kl [] ∧ resS real s l q
theorem ends_spec {c2:Code} {n D:Nat} {fn:Func} {q:List R} {w:World} {I IN:Nat → Nat → Prop} {gN:Nat → Value} {t:List V} {oN:List O} {a:Act} {W:World} (hc:okCode Tryz.prog c2 = true) (hr:okRes fn.results.toList = true)
  (h:RelI I (fun _=>False) ⟨w,fun _=>.nilFunc,0,[]⟩ IN gN ⟨t,oN⟩ a W) (hID:∀ k,¬ IN D k) (hD0:w.heap.size ≤ D) (hD:W.heap[D]? = some (.deferred (some [])))
  (hx:exec real c2 ⟨t,snocO oN (.kl [])⟩ (fun x s=>endK fn.results.toList q (lenO oN) x s)) :
  c2.wpIn (FW none) n Tryz.prog (bodyPostM (FW none) n Tryz.prog fn (fun e w'=>∃ v,e = .returned v ∧ AtRes (nxt I w w') w' v q ∧ Below w.heap.size w w')) { a with defers:={ target:=.collected D,args:=#[] } :: a.defers } W:=by
 obtain ⟨g',hg,hgn,h1⟩:=h.rebase h.tmp
 have hDt:D < W.heap.size:=(Array.getElem?_eq_some_iff.1 hD).1
 have hXD:¬ Xof g' (snocO oN (.kl [])) D:=fun ⟨j,x,hj,hd,hb⟩=>blk_turn hD rfl (h1.obj j x hj) hd hb
 have h2:=h1.mark [{ target:=.collected D,args:=#[] }]
 have ea:({ ({ tmps:=a.tmps.toList.toArray,defers:=[] }:Act) with defers:=[{ target:=.collected D,args:=#[] }] }:Act) = { a with defers:={ target:=.collected D,args:=#[] } :: a.defers }:=by
  have:=h.dfr.1
  cases a
  simp only at this
  subst this
  rfl
 rw [ea] at h2
 refine exec_in c2 _ _ _ _ _ hc ⟨IN,g',h2⟩ hx fun e s2 a2 W2 hrel hk=>?_
 obtain ⟨I2,g2,h3⟩:=hrel
 have hD2:W2.heap[D]? = some (.deferred (some [])):=(h3.fr.block D hDt hXD).trans hD
 have hI2D:∀ k,¬ I2 D k:=fun k hk=>by
  rcases (h3.lt D k hk).2 hDt with h4 | h4
  ·exact hID k h4
  ·exact hXD h4
 have key:getO s2.o (lenO oN) = .kl [] ∧ resS real s2 fn.results.toList q → LeavesInM (FW none) n Tryz.prog fn a2.tmps (fun e w'=>∃ v,e = .returned v ∧ AtRes (nxt I w w') w' v q ∧ Below w.heap.size w w') a2.defers .returning W2:=fun ⟨hkl,hres⟩=>by
  rw [h3.dfr.1]
  have h4:=h3.turnBoth (y':=.deferred none) hD2 rfl hD hI2D
  have h5:=h.turned (y':=.deferred none) hD rfl hD0 hID
  have h6:=h4.mark []
  have hkl:=getO_some hkl (by simp)
  rw [lenO_is] at hkl
  obtain ⟨_,h7⟩:=h5.unbase hg hgn h6 hkl
  obtain ⟨v,r1,r2⟩:=results_at h4 hr hres
  refine ⟨by simp,.inl ⟨_,_,rfl,run_takeDeferred hD2,?_⟩⟩
  refine ⟨v,r1,v,rfl,?_,⟨h7.fr.os,h7.fr.tape,h7.fr.output,h7.fr.size,fun b hb=>h7.fr.block b hb (fun hx=>hx)⟩⟩
  have hnx:∀ b k,I2 b k → nxt I w _ b k:=fun b k hbk=>by
   obtain ⟨h3,h4⟩:=h7.lt b k hbk
   rcases Nat.lt_or_ge b w.heap.size with hlt | hge
   ·exact .inl ((h4 hlt).resolve_right (fun hx=>hx))
   ·exact .inr ⟨hge,h3⟩
  match q,r2 with
  | [],⟨us,e,hu⟩=>exact ⟨us,e,hu.mono hnx (Keeps.refl _ _)⟩
  | [r],hu=>exact AtR.mono hnx (Keeps.refl _ _) hu
  | r :: r' :: q,⟨us,e,hu⟩=>exact ⟨us,e,hu.mono hnx (Keeps.refl _ _)⟩
 cases e with
 | normal=>exact key hk
 | exit i=>exact hk.elim
 | ret=>exact key hk
theorem spec_range {f:Nat} {fn:Func} {c0 c1 cp c2 asg bdy:Code} {bi:Nat} {g0:Operand} {ps:Array Tmp} {rs q:List R} {Pre:S → Prop} (hf:Tryz.prog.funcs[f]? = some fn)
  (hb:fn.body = some (.seq c0 (.seq c1 (.seq (.seq cp (.block bi (.rangeFunc g0 ps asg bdy))) c2)))) (hn:(fn.name != "runtime.NumGoroutine") = true) (h0:okCode Tryz.prog c0 = true) (h1:okCode Tryz.prog c1 = true) (hp:okCode Tryz.prog cp = true)
  (hpre:exec real (.seq c0 (.seq c1 cp)) (start rs (fn.ntmps - lenL rs)) (fun x s=>x = .normal ∧ Pre s))
  (hmid:∀ (I I':Nat → Nat → Prop) (g:Nat → Value) (w W:World) (s:S) (a:Act),Pre s → RelI I (fun _=>False) ⟨w,fun _=>.nilFunc,0,[]⟩ I' g s a W →
   (Code.rangeFunc g0 ps asg bdy).wpIn (FW none) 3 Tryz.prog (Exit.inBlock bi (Exit.then (c2.wpIn (FW none) 3 Tryz.prog (bodyPostM (FW none) 3 Tryz.prog fn (fun e w'=>∃ v,e = .returned v ∧ AtRes (nxt I w w') w' v q ∧ Below w.heap.size w w')))
    (bodyPostM (FW none) 3 Tryz.prog fn (fun e w'=>∃ v,e = .returned v ∧ AtRes (nxt I w w') w' v q ∧ Below w.heap.size w w')))) a W):Spec f rs q:=by
 refine ⟨by unfold fnOk;rw [hf];simp only [hn,hb];rfl,?_⟩
 intro I w args hI hat
 have hlen:=hat.len
 have hsz:args.toArray.size = lenL rs:=by rw [lenL_is];simp [hlen]
 refine callsIn_wide.1 (callsIn_of_wp_marks (n:=3) hf hb trivial ?_)
 rw [hsz]
 have hst:=start_at hI hat (fn.ntmps - lenL rs)
 refine wpIn_seq (exec_in (ro:=none) c0 _ _ _ _ _ h0 ⟨I,_,hst⟩ hpre fun e s1 a1 W1 hr1 hk1=>?_)
 cases e with
 | normal =>
  obtain ⟨F1,hg1,hk1⟩:=hk1
  obtain ⟨z1,hf1,hr1'⟩:=hg1 _ _ _ _ _ hr1
  refine wpIn_seq (exec_in (ro:=none) c1 _ _ _ _ _ h1 hr1' (hk1 z1 hf1) fun e s2 a2 W2 hr2 hk2=>?_)
  cases e with
  | normal =>
   obtain ⟨F2,hg2,hk2⟩:=hk2
   obtain ⟨z2,hf2,hr2'⟩:=hg2 _ _ _ _ _ hr2
   refine wpIn_seq (wpIn_seq (exec_in (ro:=none) cp _ _ _ _ _ hp hr2' (hk2 z2 hf2) fun e s3 a3 W3 hr3 hk3=>?_))
   obtain ⟨he,hP⟩:=hk3
   subst he
   obtain ⟨I',g',h3⟩:=hr3
   exact wpIn_block (hmid I I' g' w W3 s3 a3 hP h3)
  | exit i=>exact absurd hk2.1 (by simp)
  | ret=>exact absurd hk2.1 (by simp)
 | exit i=>exact absurd hk1.1 (by simp)
 | ret=>exact absurd hk1.1 (by simp)
end
section
def seqL:Code → Code
 | .seq c _=>c
 | c=>c
def seqR:Code → Code
 | .seq _ c=>c
 | c=>c
def jT (rows:List (List D)) (d0 d1 d2 d3:D):List V:=[.d (.sl 5 rows),.ag [.d d0,.d d1,.d d2,.d d3],.tu [],.ptr 0 0,.ptr 1 0,.ptr 2 0,.tu [],.tu [],.ag [.d d0,.d d1,.d d2,.d d3],.ag [.d d0,.d d1,.d d2,.d d3],.d (.sl 5 rows),
 .cl 112 [4],.tu [],.tu [],.tu [],.tu [],.tu [],.tu [],.tu [],.tu [],.tu [],.tu [],.tu []]
def jO (d0 d1 d2 d3:D) (acc:List V) (b:O):List O:=[.box [.d d0,.d d1,.d d2,.d d3],.box [.d (.sc (.int .u8 0)),.d (.sc (.string ⟨#[]⟩)),.d (.sc (.int .i64 0)),.em],.box acc,.dead,b]
set_option maxRecDepth 100000
set_option maxHeartbeats 4000000
theorem pre_join (rows:List (List D)) (d0 d1 d2 d3:D) (hcp:Spec 89 [.ag [d0,d1,d2,d3]] [.ag [d0,d1,d2,d3]]) (P:S → Prop) (hP:P ⟨jT rows d0 d1 d2 d3,jO d0 d1 d2 d3 [.d d0,.d d1,.d d2,.d d3] (.box [.d (.sl 5 rows)])⟩):∀ qa qb qc qd qe qg qh qi qj qk ql qm qn qo qp qq qt qu qv qw qx qy qz va vc vd ve vf vg vh vj vk vl vm vn vo vp vq vr vt vu vv vw,Ar.mk qa qb qc qd qe qg qh qi qj qk ql qm qn qo qp qq qt qu qv qw qx qy qz va vc vd ve vf vg vh vj vk vl vm vn vo vp vq vr vt vu vv vw = real → exec (Ar.mk qa qb qc qd qe qg qh qi qj qk ql qm qn qo qp qq qt qu qv qw qx qy qz va vc vd ve vf vg vh vj vk vl vm vn vo vp vq vr vt vu vv vw) (.seq (seqL (Tryz.f75.body.getD .skip)) (.seq (seqL (seqR (Tryz.f75.body.getD .skip))) (seqL (seqL (seqR (seqR (Tryz.f75.body.getD .skip)))))))
  (start [.one (.sl 5 rows),.ag [d0,d1,d2,d3]] (Tryz.f75.ntmps - lenL [R.one (.sl 5 rows),.ag [d0,d1,d2,d3]])) (fun x s=>x = .normal ∧ P s):=by
 intro qa qb qc qd qe qg qh qi qj qk ql qm qn qo qp qq qt qu qv qw qx qy qz va vc vd ve vf vg vh vj vk vl vm vn vo vp vq vr vt vu vv vw hA
 cbv
 repeat ((with_reducible apply next_at hA);cbv)
 refine call_at hA _ hcp ?_ ?_
 ·rfl
 cbv
 repeat ((with_reducible apply next_at hA);cbv)
 refine inl_at hA Tryz.func97 rfl (by kernel_rfl) (by kernel_rfl) (by kernel_rfl) ?_
 cbv
 repeat ((with_reducible apply next_at hA);cbv)
 exact hP
def rangeA:Code → Code
 | .block _ (.rangeFunc _ _ a _)=>a
 | c=>c
def rangeB:Code → Code
 | .block _ (.rangeFunc _ _ _ b)=>b
 | c=>c
theorem round_join (rows:List (List D)) (d0 d1 d2 d3 a0 a1 a2 a3 nm c0 c1 c2 c3:D) (i:Int) (hcp:Spec 89 [.ag [c0,c1,c2,c3]] [.ag [c0,c1,c2,c3]]):∀ qa qb qc qd qe qg qh qi qj qk ql qm qn qo qp qq qt qu qv qw qx qy qz va vc vd ve vf vg vh vj vk vl vm vn vo vp vq vr vt vu vv vw,Ar.mk qa qb qc qd qe qg qh qi qj qk ql qm qn qo qp qq qt qu qv qw qx qy qz va vc vd ve vf vg vh vj vk vl vm vn vo vp vq vr vt vu vv vw = real →
  exec (Ar.mk qa qb qc qd qe qg qh qi qj qk ql qm qn qo qp qq qt qu qv qw qx qy qz va vc vd ve vf vg vh vj vk vl vm vn vo vp vq vr vt vu vv vw) (rangeA (seqR (seqL (seqR (seqR (Tryz.f75.body.getD .skip)))))) ⟨setN (setN (jT rows d0 d1 d2 d3) 12 (vi .i64 i)) 13 (.ag [.d nm,.d c0,.d c1,.d c2,.d c3]),snocO (jO d0 d1 d2 d3 [.d a0,.d a1,.d a2,.d a3] .dead) (.kl [])⟩
   (fun x s1=>x = .normal ∧ mpSub (jO d0 d1 d2 d3 [.d a0,.d a1,.d a2,.d a3] .dead) s1.o = true ∧ exec (Ar.mk qa qb qc qd qe qg qh qi qj qk ql qm qn qo qp qq qt qu qv qw qx qy qz va vc vd ve vf vg vh vj vk vl vm vn vo vp vq vr vt vu vv vw) (rangeB (seqR (seqL (seqR (seqR (Tryz.f75.body.getD .skip)))))) ⟨s1.t,snocO s1.o (.kl [])⟩ (fun x s2=>x = .normal ∧
    roundE 5 (jO d0 d1 d2 d3 [.d a0,.d a1,.d a2,.d a3] .dead) (jO d0 d1 d2 d3 [.d (.sc (.int .u8 11)),.d nm,.d (.sc (.int .i64 0)),.d (.sl 4 [[c0,c1,c2,c3],[a0,a1,a2,a3]])] .dead) (lenO s1.o) s2)):=by
 intro qa qb qc qd qe qg qh qi qj qk ql qm qn qo qp qq qt qu qv qw qx qy qz va vc vd ve vf vg vh vj vk vl vm vn vo vp vq vr vt vu vv vw hA
 cbv
 repeat ((with_reducible apply next_at hA);cbv)
 refine calm_at hA _ hcp ?_
 cbv
 repeat ((with_reducible first | apply next_at hA | apply lit_at hA true);cbv)
 exact ⟨rfl,trivial⟩
def joinD:List (List D) → List D → List D
 | [],tl=>tl
 | r :: rows,tl=>[.sc (.int .u8 11),r.headD (.sl 0 []),.sc (.int .i64 0),.sl 4 [r.tail,joinD rows tl]]
theorem joinD_four (rows:List (List D)) (d0 d1 d2 d3:D):∃ a0 a1 a2 a3,joinD rows [d0,d1,d2,d3] = [a0,a1,a2,a3]:=by
 cases rows <;> exact ⟨_,_,_,_,rfl⟩
def accD (rows:List (List D)) (tl:List D) (k:Nat):List D:=joinD (rows.drop (rows.length - k)) tl
theorem accD_succ {rows:List (List D)} {tl r:List D} {k:Nat} (hk:k < rows.length) (hr:rows[rows.length - 1 - k]? = some r):accD rows tl (k + 1) = joinD (r :: rows.drop (rows.length - k)) tl:=by
 have h1:rows.length - (k + 1) < rows.length:=by omega
 have h2:=List.drop_eq_getElem_cons h1
 have e1:rows.length - 1 - k = rows.length - (k + 1):=by omega
 rw [e1,List.getElem?_eq_getElem h1] at hr
 rw [accD,h2,Option.some.inj hr,show rows.length - (k + 1) + 1 = rows.length - k by omega]
theorem cells_cell {W:World} {b:Nat} {us:Array Value} {t:TypeId} {m:Nat × Nat} {i:Nat} (h:W.heap[b]? = some (.cells us t m)):W.cell? ⟨b,i,none⟩ = us[i]?:=by
 show (match W.heap[b]? with | some (.cells c _ _)=>c[i]? | _=>none) = _
 rw [h]
theorem end_join (rows:List (List D)) (d0 d1 d2 d3 a0 a1 a2 a3:D):∀ qa qb qc qd qe qg qh qi qj qk ql qm qn qo qp qq qt qu qv qw qx qy qz va vc vd ve vf vg vh vj vk vl vm vn vo vp vq vr vt vu vv vw,Ar.mk qa qb qc qd qe qg qh qi qj qk ql qm qn qo qp qq qt qu qv qw qx qy qz va vc vd ve vf vg vh vj vk vl vm vn vo vp vq vr vt vu vv vw = real → exec (Ar.mk qa qb qc qd qe qg qh qi qj qk ql qm qn qo qp qq qt qu qv qw qx qy qz va vc vd ve vf vg vh vj vk vl vm vn vo vp vq vr vt vu vv vw) (seqR (seqR (seqR (Tryz.f75.body.getD .skip)))) ⟨jT rows d0 d1 d2 d3,snocO (jO d0 d1 d2 d3 [.d a0,.d a1,.d a2,.d a3] .dead) (.kl [])⟩
  (fun x s=>endK Tryz.f75.results.toList [.ag [a0,a1,a2,a3]] 5 x s):=by
 intro qa qb qc qd qe qg qh qi qj qk ql qm qn qo qp qq qt qu qv qw qx qy qz va vc vd ve vf vg vh vj vk vl vm vn vo vp vq vr vt vu vv vw hA
 cbv
 repeat ((with_reducible apply next_at hA);cbv)
end
end Go.Proofs.YtahpnackkmbmgaaGreatDoor.Vm
end
section
namespace Go.Proofs.YtahpnackkmbmgaaGreatDoor.Vm
open Go.RowKit
set_option maxRecDepth 100000
set_option maxHeartbeats 4000000
theorem join_xb:Tryz.f75.body = some (.seq (seqL (Tryz.f75.body.getD .skip)) (.seq (seqL (seqR (Tryz.f75.body.getD .skip))) (.seq (.seq (seqL (seqL (seqR (seqR (Tryz.f75.body.getD .skip))))) (.block 0 (.rangeFunc (.tmp 11) #[12,13] (rangeA (seqR (seqL (seqR (seqR (Tryz.f75.body.getD .skip)))))) (rangeB (seqR (seqL (seqR (seqR (Tryz.f75.body.getD .skip))))))))) (seqR (seqR (seqR (Tryz.f75.body.getD .skip))))))):=by kernel_rfl
theorem join_xn:(Tryz.f75.name != "runtime.NumGoroutine") = true:=by kernel_rfl
theorem join_x0:okCode Tryz.prog (seqL (Tryz.f75.body.getD .skip)) = true:=by kernel_rfl
theorem join_x1:okCode Tryz.prog (seqL (seqR (Tryz.f75.body.getD .skip))) = true:=by kernel_rfl
theorem join_xp:okCode Tryz.prog (seqL (seqL (seqR (seqR (Tryz.f75.body.getD .skip))))) = true:=by kernel_rfl
theorem join_x2:okCode Tryz.prog (seqR (seqR (seqR (Tryz.f75.body.getD .skip)))) = true:=by kernel_rfl
theorem join_xr:okRes Tryz.f75.results.toList = true:=by kernel_rfl
theorem join_xA:okCode Tryz.prog (rangeA (seqR (seqL (seqR (seqR (Tryz.f75.body.getD .skip)))))) = true:=by kernel_rfl
theorem join_xB:okCode Tryz.prog (rangeB (seqR (seqL (seqR (seqR (Tryz.f75.body.getD .skip)))))) = true:=by kernel_rfl
theorem pre_joinR (rows:List (List D)) (d0 d1 d2 d3:D) (hcp:Spec 89 [.ag [d0,d1,d2,d3]] [.ag [d0,d1,d2,d3]]) (P:S → Prop) (hP:P ⟨jT rows d0 d1 d2 d3,jO d0 d1 d2 d3 [.d d0,.d d1,.d d2,.d d3] (.box [.d (.sl 5 rows)])⟩) :
  exec real (.seq (seqL (Tryz.f75.body.getD .skip)) (.seq (seqL (seqR (Tryz.f75.body.getD .skip))) (seqL (seqL (seqR (seqR (Tryz.f75.body.getD .skip))))))) (start [.one (.sl 5 rows),.ag [d0,d1,d2,d3]] (Tryz.f75.ntmps - lenL [R.one (.sl 5 rows),.ag [d0,d1,d2,d3]])) (fun x s=>x = .normal ∧ P s) :=
 pre_join rows d0 d1 d2 d3 hcp P hP _ _ _ _ _ _ _ _ _ _ _ _ _ _ _ _ _ _ _ _ _ _ _ _ _ _ _ _ _ _ _ _ _ _ _ _ _ _ _ _ _ _ _ rfl
theorem join_s (rows:List (List D)) (d0 d1 d2 d3:D) (hlen:rows.length * 80 ≤ 140737488351232) (htl:Spec 89 [.ag [d0,d1,d2,d3]] [.ag [d0,d1,d2,d3]]) (hrows:∀ r ∈ rows,∃ nm c0 c1 c2 c3,r = [nm,c0,c1,c2,c3] ∧ Spec 89 [.ag [c0,c1,c2,c3]] [.ag [c0,c1,c2,c3]]) :
  Spec 75 [.one (.sl 5 rows),.ag [d0,d1,d2,d3]] [.ag (joinD rows [d0,d1,d2,d3])]:=by
 refine spec_range (Pre:=fun s=>s = ⟨jT rows d0 d1 d2 d3,jO d0 d1 d2 d3 [.d d0,.d d1,.d d2,.d d3] (.box [.d (.sl 5 rows)])⟩) Tryz.func75 join_xb join_xn join_x0 join_x1 join_xp ?_ ?_
 ·exact pre_joinR rows d0 d1 d2 d3 htl _ rfl
 intro I I' g w W s a hs h
 subst hs
 obtain ⟨b,us,ty,h1,h2,h3,h4⟩:=h.frzBox (k:=4) rfl
 obtain ⟨v,us',rfl,hv,hn⟩:=h3.uncons
 obtain rfl:=hn.unnil
 have hvD:AtD I' W v (.sl 5 rows):=by cases hv with | d h=>exact h
 have hBs:W.cell? ⟨b,0,none⟩ = some v:=cells_cell h2
 have hbl:b < W.heap.size:=(Array.getElem?_eq_some_iff.1 h2).1
 obtain ⟨bb,off,vs,hl,hup,hds,hr5,hseq⟩:=backF_seq (fun b k hb=>(h.lt b k hb).1) hvD hbl hBs hlen
 have hcl:a.eval (.tmp 11) = .func (.func 112) #[] #[.pointer (some ⟨b,0,none⟩)]:=by
  have h5:=h4.get (.tmp 11)
  have h5:AtV _ W g (a.eval (.tmp 11)) (.cl 112 [4]):=h5
  generalize a.eval (.tmp 11) = ax at h5 ⊢
  cases h5 with
  | cl f us ks hl hh =>
   match us,hl with
   | [u],_=>rw [(hh 0 u 4 rfl rfl).1,h1]
 have hst0:RelI I (fun _=>False) ⟨w,fun _=>.nilFunc,0,[]⟩ (fun b' n=>I' b' n ∨ (b' = b ∧ n ≤ 1)) g ⟨jT rows d0 d1 d2 d3,jO d0 d1 d2 d3 (ofD (accD rows [d0,d1,d2,d3] 0)) .dead⟩ a W:=by
  have e:accD rows [d0,d1,d2,d3] 0 = [d0,d1,d2,d3]:=by rw [accD,List.drop_eq_nil_of_le (by omega)];rfl
  rw [e]
  exact h4
 refine range_ok (t:=jT rows d0 d1 d2 d3) (p1:=12) (p2:=13) (gf:=112) (N:=rows.length) (lb:=#[.pointer (some ⟨b,0,none⟩)])
  (u1:=fun k=>.int .i64 ((rows.length - 1 - k:Nat):Int)) (u2:=fun k=>.agg (((vs.drop ((rows.length - 1 - k) * 5)).take 5).toArray)) (Kp:=KpB b bb off (rows.length * 5)) (st:=fun k=>jO d0 d1 d2 d3 (ofD (accD rows [d0,d1,d2,d3] k)) .dead)
  (tk:=fun k=>setN (setN (jT rows d0 d1 d2 d3) 12 (vi .i64 ((rows.length - 1 - k:Nat):Int))) 13 (.ag (ofD (rows.getD (rows.length - 1 - k) []))))
  join_xA join_xB hst0 (by decide) hcl (enters_of Tryz.func112 (by kernel_rfl) rfl) (hseq (FW none) 2 trivial rfl (by decide)) KpB.trans (fun W l o o' _ hl ho _=>KpB.turn W l o o' hl ho) ?_ ?_ ?_ ?_
 ·intro W1 W2 hk
  refine ⟨fun v hv=>?_,fun i hi v hv=>?_⟩
  ·rw [hk b 1 (.inr ⟨rfl,Nat.le_refl _⟩) 0 (by decide)]
   exact hv
  ·obtain ⟨n,hn1,hn2⟩:=hup (fun e=>by rw [e] at hi;simp at hi)
   rw [hk bb n (.inl hn2) (off + i) (by omega)]
   exact hv
 ·intro k W1 I1 g1 hk hI1 hk1 hvs
  have hlt:rows.length - 1 - k < rows.length:=by omega
  have e1:∀ (ts:Array Value) (i:Nat) (u:Value),(ts.setIfInBounds i u).toList = ts.toList.set i u:=fun ts i u=>by simp
  rw [e1,e1,setN_is,setN_is]
  refine (hvs.set (.d (.sc _ rfl)) 12).set (atV_ag ?_) 13
  refine AtDs.toV g1 ?_
  have h5:=(hds.drop ((rows.length - 1 - k) * 5)).take 5
  have e2:(rows.flatten.drop ((rows.length - 1 - k) * 5)).take 5 = rows.getD (rows.length - 1 - k) []:=by
   have hg:rows[rows.length - 1 - k]? = some (rows.getD (rows.length - 1 - k) []):=by rw [List.getD_eq_getElem?_getD,List.getElem?_eq_getElem hlt];rfl
   apply List.ext_getElem?
   intro i
   rw [List.getElem?_take]
   have h6:(rows.getD (rows.length - 1 - k) []).length = 5:=hr5 _ (List.mem_of_getElem? hg)
   split
   ·rename_i hi
    rw [List.getElem?_drop,flat_get hr5 hg hi]
   ·rename_i hi
    rw [List.getElem?_eq_none (by omega)]
  rw [e2] at h5
  exact h5.mono (fun b j hb=>hI1 b j (.inl hb)) (fun b j hb=>hk1 b j (.inl hb))
 ·intro k hk
  have hlt:rows.length - 1 - k < rows.length:=by omega
  have hg:rows[rows.length - 1 - k]? = some (rows.getD (rows.length - 1 - k) []):=by rw [List.getD_eq_getElem?_getD,List.getElem?_eq_getElem hlt];rfl
  have ea:=accD_succ (tl:=[d0,d1,d2,d3]) hk hg
  obtain ⟨nm,c0,c1,c2,c3,er,hsp⟩:=hrows _ (List.mem_of_getElem? hg)
  obtain ⟨a0,a1,a2,a3,e4⟩:=joinD_four (rows.drop (rows.length - k)) d0 d1 d2 d3
  have e5:accD rows [d0,d1,d2,d3] k = [a0,a1,a2,a3]:=e4
  have e6:accD rows [d0,d1,d2,d3] (k + 1) = [.sc (.int .u8 11),nm,.sc (.int .i64 0),.sl 4 [[c0,c1,c2,c3],[a0,a1,a2,a3]]]:=by rw [ea,er];show [_,_,_,D.sl 4 [_,joinD _ _]] = _;rw [e4];rfl
  try dsimp only
  rw [e5,e6,er]
  exact round_join rows d0 d1 d2 d3 a0 a1 a2 a3 nm c0 c1 c2 c3 _ hsp _ _ _ _ _ _ _ _ _ _ _ _ _ _ _ _ _ _ _ _ _ _ _ _ _ _ _ _ _ _ _ _ _ _ _ _ _ _ _ _ _ _ _ rfl
 ·rintro D W1 hD ⟨I1,g1,q1,q2,q3,q4⟩ hd
  obtain ⟨a0,a1,a2,a3,e4⟩:=joinD_four rows d0 d1 d2 d3
  have e5:accD rows [d0,d1,d2,d3] rows.length = [a0,a1,a2,a3]:=by rw [accD,Nat.sub_self];exact e4
  rw [e4]
  try dsimp only at q3
  rw [e5] at q3
  have hID:∀ k,¬ I1 D k:=fun k=>by rw [hD];exact (q2 k).2
  have hD0:w.heap.size ≤ D:=by rw [hD];exact h.fr.size
  refine ends_spec join_x2 join_xr q3 hID hD0 hd ?_
  exact end_join rows d0 d1 d2 d3 a0 a1 a2 a3 _ _ _ _ _ _ _ _ _ _ _ _ _ _ _ _ _ _ _ _ _ _ _ _ _ _ _ _ _ _ _ _ _ _ _ _ _ _ _ _ _ _ _ rfl
theorem joinD_is (tl:Ty):∀ fs:List (ByteArray × Ty),joinD (rF fs) (cT tl) = cT (rowS fs tl)
 | []=>rfl
 | f :: fs=>by
  rw [rowS_op_ne,cT]
  have ih:=joinD_is tl fs
  show joinD ((.sc (.string f.1) :: cT f.2) :: rF fs) (cT tl) = _
  rw [joinD,ih]
  rfl
theorem canonP_s:∀ (m:Nat) (t:Ty),t.parts.length ≤ m → m ≤ 1048576 → (∀ x ∈ t.parts,Spine x) → Spec 51 [.ag (cT t)] [.ag (cT (canonS t))]:=by
 intro m
 induction m with
 | zero=>intro t h;have:=parts_pos t;omega
 | succ m ih =>
  intro t hm hm2 hsp
  have hself:t ∈ t.parts:=by rw [parts_eq];exact List.mem_cons_self ..
  have hkl:=kids_le t
  obtain ⟨op,nm,n,ks⟩:=t
  generalize ht:Ty.mk op nm n ks = t at *
  have hc:cT t = [.sc (.int .u8 op),.sc (.string nm),.sc (.int .i64 n),.sl 4 (rT ks)]:=by rw [← ht,cT]
  have hks:t.kids = ks:=by rw [← ht];rfl
  rw [hks] at hkl
  by_cases hop:op = 11
  ·have hF:=flat_s t (hsp t hself) (by omega)
   have hcr:=canon_row (t:=t) (by rw [← ht];exact hop)
   have hfs:∀ f ∈ sortS ltF (fieldsS t),f.2.parts.length ≤ m ∧ SpineAll f.2:=fun f hf=>by
    have h1:=sortS_mem hf
    have h2:=fields_less _ t (Nat.le_refl _) f h1
    have h3:=fields_mem _ t (Nat.le_refl _) f h1
    exact ⟨by omega,fun x hx=>hsp x (parts_trans hx h3)⟩
   have hih:∀ f ∈ sortS ltF (fieldsS t),Spec 51 [.ag (cT f.2)] [.ag (cT (canonS f.2))]:=fun f hf=>ih f.2 (hfs f hf).1 (by omega) (hfs f hf).2
   have hlen:(sortS ltF (fieldsS t)).length ≤ 1048576:=by
    rw [sortS_len]
    have:=fieldsS_len _ t (Nat.le_refl _)
    omega
   have htl:(tailS t).parts.length ≤ 1048576:=by
    have h1:=spine_parts _ t (Nat.le_refl _) (hsp t hself)
    omega
   rw [hc] at hF ⊢
   obtain ⟨K0,hK0⟩:∃ K,K = rT ks:=⟨_,rfl⟩
   rw [← hK0] at hF ⊢
   generalize sortS ltF (fieldsS t) = L at *
   have hj:=joinD_is (tailS t) (L.map cfS)
   rw [show rowS (L.map cfS) (tailS t) = canonS t from hcr.symm] at hj
   have hct:=copied_s (tailS t) htl
   have hcf:∀ r ∈ rF (L.map cfS),∃ nm c0 c1 c2 c3,r = [nm,c0,c1,c2,c3] ∧ Spec 89 [.ag [c0,c1,c2,c3]] [.ag [c0,c1,c2,c3]]:=fun r hr=>by
    obtain ⟨f,hf,rfl⟩:=List.mem_map.1 hr
    obtain ⟨f0,hf0,rfl⟩:=List.mem_map.1 hf
    have h1:=hfs f0 hf0
    have h2:=canon_len _ f0.2 (Nat.le_refl _) h1.2
    have h3:=copied_s (canonS f0.2) (by omega)
    obtain ⟨c0,c1,c2,c3,hcc⟩:=cT_four (canonS f0.2)
    rw [hcc] at h3
    exact ⟨_,c0,c1,c2,c3,by show D.sc _ :: cT (canonS f0.2) = _;rw [hcc],h3⟩
   obtain ⟨y0,y1,y2,y3,hy⟩:=cT_four (canonS t)
   obtain ⟨q0,q1,q2,q3,hq⟩:=cT_four (tailS t)
   rw [hq] at hF hct hj
   rw [hy] at hj ⊢
   have hJ:=join_s (rF (L.map cfS)) q0 q1 q2 q3 (by rw [rF_len,List.length_map];omega) hct hcf
   rw [hj] at hJ
   obtain ⟨M0,hM0⟩:∃ M,M = rF L:=⟨_,rfl⟩
   rw [← hM0] at hF
   refine spec_of Tryz.func51 rfl (by kernel_rfl) (by kernel_rfl) (by kernel_rfl) fun qa qb qc qd qe qg qh qi qj qk ql qm qn qo qp qq qt qu qv qw qx qy qz va vc vd ve vf vg vh vj vk vl vm vn vo vp vq vr vt vu vv vw hA=>?_
   cbv
   repeat ((with_reducible apply next_at hA);cbv)
   have h11:qk op 11 = decide (op = 11):=by have e:=ar_at hA;exact e.2.2.2.2.2.2.2.2 _ _
   rw [decide_eq_true hop] at h11
   rw [h11]
   cbv
   repeat ((with_reducible apply next_at hA);cbv)
   refine callo_at hA [] hF ⟨rfl,rfl,rfl,rfl,rfl,rfl,rfl⟩ ?_
   rintro res os2 ⟨rfl,rfl⟩
   cbv
   repeat ((with_reducible apply next_at hA);cbv)
   obtain ⟨e1,e2,e3,e4,e5,e6,e7,e8,e9⟩:=ar_at hA
   obtain ⟨r1,r2,r3,r4⟩:=row_at hA
   obtain ⟨m1,m2,m3,m4⟩:=map_at hA
   refine loop_at hA (γ:=Int × List (List D)) (fun x=>[(19,vi .i64 x.1),(12,.jk),(14,.jk)]) (fun x=>[(2,.row false 85 x.2)]) (fun x=>∃ k:Nat,x.1 = (k:Int) ∧ k ≤ L.length ∧ x.2 = rF ((L.take k).map cfS ++ L.drop k)) (fun x=>L.length - x.1.toNat) (0,M0) ?_ ?_ ?_
   ·exact ⟨0,rfl,Nat.zero_le _,hM0⟩
   ·cbv
   ·intro x hinv
    obtain ⟨z,M⟩:=x
    cbv
    repeat ((with_reducible apply next_at hA);cbv)
    try simp (maxSteps:=4000000) only [nc] at *
    obtain ⟨k,hz,hk,hM⟩:=hinv
    have hll:qz M0 = ((L.length:Nat):Int):=by rw [r1,hM0,rF_len]
    have hlt:qi z (qz M0) = decide (k < L.length):=by rw [e7,hll,hz];exact decide_eq_decide.2 (by omega)
    by_cases h9:k < L.length
    ·rw [decide_eq_true h9] at hlt
     obtain ⟨x,hx⟩:∃ x,L[k]? = some x:=⟨_,List.getElem?_eq_getElem h9⟩
     have hspx:=hih x (List.mem_of_getElem? hx)
     have hxe:((L.take k).map cfS ++ L.drop k)[k]? = some x:=by
      rw [List.getElem?_append_right (by simp;omega)]
      simp
      rw [Nat.min_eq_left (by omega),Nat.sub_self,Nat.add_zero]
      exact hx
     have hset:((L.take k).map cfS ++ L.drop k).set k (cfS x) = (L.take (k + 1)).map cfS ++ L.drop (k + 1):=by
      obtain ⟨hi,e⟩:=List.getElem?_eq_some_iff.1 hx
      have e0:k - ((L.take k).map cfS).length = 0:=by rw [List.length_map,List.length_take];omega
      rw [List.set_append_right _ _ (by rw [List.length_map,List.length_take];omega),List.take_add_one,hx,List.map_append,List.append_assoc,List.drop_eq_getElem_cons hi,e0]
      rfl
     obtain ⟨xn,xt⟩:=x
     obtain ⟨x0,x1,x2,x3,hxx⟩:=cT_four xt
     obtain ⟨v0,v1,v2,v3,hvv⟩:=cT_four (canonS xt)
     simp only at hspx
     rw [hxx,hvv] at hspx
     have gx:va M z = some [.sc (.string xn),x0,x1,x2,x3]:=by rw [r2,hz,if_pos (by omega),hM,show ((k:Int)).toNat = k by omega,rF_get hxe,hxx]
     have hz1:qa .i64 (qb z 1) = ((k + 1:Nat):Int):=by rw [e1,e2,hz,IntWalk.i64_in _ (by omega)];omega
     have hmu:L.length - (qa .i64 (qb z 1)).toNat < L.length - z.toNat:=by rw [hz1,hz];omega
     have hnew:ve M z [.sc (.string xn),v0,v1,v2,v3] = rF ((L.take (k + 1)).map cfS ++ L.drop (k + 1)):=by
      rw [m4,← hset,hM,hz,show ((k:Int)).toNat = k by omega]
      unfold rF
      rw [List.map_set]
      show _ = List.set _ k (.sc (.string xn) :: cT (canonS xt))
      rw [hvv]
     rw [hlt]
     iterate 2 (try cbv;repeat ((first | with_reducible apply next_at hA | rw [gx] | refine call_at hA _ hspx rfl ?_);cbv))
     try simp (maxSteps:=4000000) only [nc] at *
     refine ⟨(qa .i64 (qb z 1),ve M z [.sc (.string xn),v0,v1,v2,v3]),⟨k + 1,hz1,h9,hnew⟩,hmu,?_⟩
     cbv
    ·rw [decide_eq_false h9] at hlt
     have hM2:M = rF (L.map cfS):=by rw [hM,List.take_of_length_le (by omega),List.drop_of_length_le (by omega),List.append_nil]
     rw [← hM2] at hJ
     rw [hlt]
     cbv
     refine frz_at hA [2] ?_
     cbv
     repeat (first | (with_reducible apply next_at hA;cbv) | (refine call_at hA _ hJ rfl ?_;cbv))
  ·have hcn:=canon_node (t:=t) (by rw [← ht];exact hop)
   rw [hks,show t.op = op by rw [← ht];rfl,show t.name = nm by rw [← ht];rfl,show t.n = n by rw [← ht];rfl] at hcn
   have hih:∀ x ∈ ks,Spec 51 [.ag (cT x)] [.ag (cT (canonS x))]:=fun x hx=>by
    have h2:=hkl.2 x hx
    exact ih x (by omega) (by omega) fun y hy=>hsp y (by rw [parts_kids,hks];exact List.mem_cons_of_mem _ (List.mem_flatMap.2 ⟨x,hx,hy⟩))
   rw [hcn,cT,hc]
   obtain ⟨K,hK⟩:∃ K,K = rT ks:=⟨_,rfl⟩
   obtain ⟨Q,hQ⟩:∃ Q,Q = rT (ks.map canonS):=⟨_,rfl⟩
   rw [← hK,← hQ]
   refine spec_of Tryz.func51 rfl (by kernel_rfl) (by kernel_rfl) (by kernel_rfl) fun qa qb qc qd qe qg qh qi qj qk ql qm qn qo qp qq qt qu qv qw qx qy qz va vc vd ve vf vg vh vj vk vl vm vn vo vp vq vr vt vu vv vw hA=>?_
   cbv
   repeat ((with_reducible apply next_at hA);cbv)
   obtain ⟨e1,e2,e3,e4,e5,e6,e7,e8,e9⟩:=ar_at hA
   obtain ⟨r1,r2,r3,r4⟩:=row_at hA
   have h11:qk op 11 = decide (op = 11):=e9 _ _
   rw [decide_eq_false hop] at h11
   rw [h11]
   cbv
   repeat (first | (refine own_at hA 6 25 true rfl ?_;cbv) | (with_reducible apply next_at hA;cbv))
   refine loop_at hA (γ:=Int × List (List D)) (fun x=>[(39,vi .i64 x.1),(6,.own 2)]) (fun x=>[(2,.row true 25 x.2)]) (fun x=>∃ k:Nat,x.1 = (k:Int) ∧ k ≤ ks.length ∧ x.2 = rT ((ks.map canonS).take k)) (fun x=>ks.length - x.1.toNat) (0,[]) ?_ ?_ ?_
   ·exact ⟨0,rfl,Nat.zero_le _,rfl⟩
   ·cbv
   ·intro x hinv
    obtain ⟨z,M⟩:=x
    cbv
    repeat ((with_reducible apply next_at hA);cbv)
    try simp (maxSteps:=4000000) only [nc] at *
    obtain ⟨k,hz,hk,hM⟩:=hinv
    have hll:qz K = ((ks.length:Nat):Int):=by rw [r1,hK,rT_len]
    have hlt:qi z (qz K) = decide (k < ks.length):=by rw [e7,hll,hz];exact decide_eq_decide.2 (by omega)
    by_cases h9:k < ks.length
    ·rw [decide_eq_true h9] at hlt
     obtain ⟨x,hx⟩:∃ x,ks[k]? = some x:=⟨_,List.getElem?_eq_getElem h9⟩
     have hspx:=hih x (List.mem_of_getElem? hx)
     have hx2:(ks.map canonS)[k]? = some (canonS x):=by rw [List.getElem?_map,hx];rfl
     have hsn:=rT_snoc hx2
     obtain ⟨x0,x1,x2,x3,hxx⟩:=cT_four x
     obtain ⟨v0,v1,v2,v3,hvv⟩:=cT_four (canonS x)
     rw [hxx,hvv] at hspx
     rw [hvv] at hsn
     have gx:va K z = some [x0,x1,x2,x3]:=by rw [r2,hz,if_pos (by omega),hK,show ((k:Int)).toNat = k by omega,rT_get hx,hxx]
     have hz1:qa .i64 (qb z 1) = ((k + 1:Nat):Int):=by rw [e1,e2,hz,IntWalk.i64_in _ (by omega)];omega
     have hmu:ks.length - (qa .i64 (qb z 1)).toNat < ks.length - z.toNat:=by rw [hz1,hz];omega
     have hnew:vd M [[v0,v1,v2,v3]] = rT ((ks.map canonS).take (k + 1)):=by rw [r4,hsn,hM]
     have hMl:M.length ≤ 1048576:=by rw [hM,rT_len,List.length_take];omega
     rw [hlt]
     iterate 2 (try cbv;repeat ((first | with_reducible apply next_at hA | rw [gx] | refine calm_at hA _ hspx ?_ | refine call_at hA _ hspx rfl ?_ | refine lit_at hA true ?_ | (refine room_at hA (by simp only [r4,List.length_append,List.length_cons,List.length_nil];omega) ?_));cbv))
     try simp (maxSteps:=4000000) only [nc] at *
     refine ⟨(qa .i64 (qb z 1),vd M [[v0,v1,v2,v3]]),⟨k + 1,hz1,h9,hnew⟩,hmu,?_⟩
     cbv
    ·rw [decide_eq_false h9] at hlt
     have hM2:M = Q:=by rw [hM,hQ,List.take_of_length_le (by rw [List.length_map];omega)]
     rw [hlt]
     cbv
     repeat ((with_reducible apply next_at hA);cbv)
     exact ⟨by rw [hM2],trivial⟩
theorem asks_none {op:Int} (h:asks op = none):kidsS op = none:=by
 unfold asks at h
 unfold kidsS
 repeat' split at h
 all_goals first | (cases h;done) | skip
 rename_i h1 h2 h3 h4 h5 h6 h7
 rw [if_neg (by omega),if_neg h2,if_neg h3,if_neg h7]
theorem asks_head {op:Int} {kn:Int} {a b:Bool} (h:asks op = some (kn,a,b)) (nm:ByteArray) (n:Int) (ks:List Ty) (row:Bool) :
  headB wordB (.mk op nm n ks) (sI row) = hd2 row (decide (8 ≤ op)) (decide ((ks.length:Int) = kn)) a (wordB nm) (decide (nm.toList = [])) (decide (n < 0)) b (n == 0) ∧ (∃ kk,kidsS op = some kk ∧ (kk.length:Int) = kn ∧ ∀ (k:Nat) (c:Int),kk[k]? = some c → sI (orB (op == 5) (orB (op == 6) (nmF (op == 11) (k == 1) false))) = c) ∧
   (b = true ∧ (vbl (.mk op nm n ks) = some (n,decide (op = 10))) ∧ (op = 10 ∨ op = 7) ∨ b = false ∧ vbl (.mk op nm n ks) = none):=by
 have key:∀ (i:Int) (kk:List Int),op = i → kidsS i = some kk → (kk.length:Int) = kn → (∀ (k:Nat) (c:Int),kk[k]? = some c → sI (orB (i == 5) (orB (i == 6) (nmF (i == 11) (k == 1) false))) = c) → a = (i == 11) → b = ((i == 7) || (i == 10)) →
   headB wordB (.mk op nm n ks) (sI row) = hd2 row (decide (8 ≤ op)) (decide ((ks.length:Int) = kn)) a (wordB nm) (decide (nm.toList = [])) (decide (n < 0)) b (n == 0) ∧ (∃ kk,kidsS op = some kk ∧ (kk.length:Int) = kn ∧ ∀ (k:Nat) (c:Int),kk[k]? = some c → sI (orB (op == 5) (orB (op == 6) (nmF (op == 11) (k == 1) false))) = c):=by
  rintro i kk rfl h1 h2 h3 rfl rfl
  refine ⟨?_,kk,h1,h2,h3⟩
  rw [head_hd,h1]
  have hk:=kidsTx_is h1
  have e1:decide (ks.length = (kidsTx op).size) = decide ((ks.length:Int) = kn):=by
   have:kk.length = (kidsTx op).size:=by rw [hk,List.length_map,btl_size]
   exact decide_eq_decide.2 (by omega)
  have e2:(decide (8 ≤ op) == (sI row == 114)) = (row == decide (8 ≤ op)):=by cases row <;> cases decide (8 ≤ op) <;> rfl
  unfold hdF hd2
  rw [e1,e2]
  simp only [Option.isSome_some,Bool.true_and,Bool.or_assoc]
  cases (op == 11) <;> rfl
 have two:∀ {l:List Int} {P:Nat → Int → Prop} {x y:Int},l = [x,y] → P 0 x → P 1 y → ∀ (k:Nat) (c:Int),l[k]? = some c → P k c:=by
  rintro l P x y rfl h0 h1 k c h
  match k,h with
  | 0,h=>cases h;exact h0
  | 1,h=>cases h;exact h1
  | k + 2,h=>simp at h
 have one:∀ {l:List Int} {P:Nat → Int → Prop} {x:Int},l = [x] → P 0 x → ∀ (k:Nat) (c:Int),l[k]? = some c → P k c:=by
  rintro l P x rfl h0 k c h
  match k,h with
  | 0,h=>cases h;exact h0
  | k + 1,h=>simp at h
 have zero:∀ {P:Nat → Int → Prop},∀ (k:Nat) (c:Int),([]:List Int)[k]? = some c → P k c:=fun k c h=>by simp at h
 unfold asks at h
 repeat' split at h
 all_goals first | (cases h;done) | skip
 all_goals
  cases h
  rename_i h
  first
  | (rcases h with h | h | h <;> subst h <;> exact ⟨(key _ _ rfl rfl rfl zero rfl rfl).1,(key _ _ rfl rfl rfl zero rfl rfl).2,.inr ⟨rfl,rfl⟩⟩)
  | (rcases h with h | h <;> subst h <;> first | exact ⟨(key _ _ rfl rfl rfl zero rfl rfl).1,(key _ _ rfl rfl rfl zero rfl rfl).2,.inr ⟨rfl,rfl⟩⟩ | exact ⟨(key _ _ rfl rfl rfl (one rfl rfl) rfl rfl).1,(key _ _ rfl rfl rfl (one rfl rfl) rfl rfl).2,.inr ⟨rfl,rfl⟩⟩)
  | (subst h;exact ⟨(key _ _ rfl rfl rfl zero rfl rfl).1,(key _ _ rfl rfl rfl zero rfl rfl).2,.inl ⟨rfl,rfl,by decide⟩⟩)
  | (subst h;exact ⟨(key _ _ rfl rfl rfl (two rfl rfl rfl) rfl rfl).1,(key _ _ rfl rfl rfl (two rfl rfl rfl) rfl rfl).2,.inr ⟨rfl,rfl⟩⟩)
theorem right_s:∀ (t:Ty),t.parts.length ≤ 1048576 → (∀ x ∈ t.parts,x.name.size ≤ 1048576) → ∀ (row:Bool) (es:List (R × R)) (s:Int → Option Bool),SAt es s →
  SpecO 44 [.mp 0,.ag (ofD (cT t)),vb row] [.mp 3 es] (RightQ (shapeB wordB t (sI row) && (meetL t.parts s).isSome) (meetL t.parts s)):=by
 intro t
 induction t using Ty.ind with
 | h t ih =>
  intro hN hnm row es s hes
  have hkl:=kids_le t
  have hself:=hnm t (by rw [parts_eq];exact List.mem_cons_self ..)
  have hkn:∀ x ∈ t.kids,∀ y ∈ x.parts,y.name.size ≤ 1048576:=fun x hx y hy=>hnm y (by rw [parts_kids];exact List.mem_cons_of_mem _ (List.mem_flatMap.2 ⟨x,hx,hy⟩))
  have ih2:∀ x ∈ t.kids,∀ (row:Bool) (es:List (R × R)) (s:Int → Option Bool),SAt es s → SpecO 44 [.mp 0,.ag (ofD (cT x)),vb row] [.mp 3 es] (RightQ (shapeB wordB x (sI row) && (meetL x.parts s).isSome) (meetL x.parts s)):=fun x hx=>ih x hx (by have:=hkl.2 x hx;omega) (hkn x hx)
  have hsh:=shape_eq wordB t (sI row)
  have hpm:meetL t.parts s = match vbl t with | none=>meetL (partsL t.kids) s | some p=>if s p.1 = some (!p.2) then none else meetL (partsL t.kids) (updS s p.1 p.2):=by
   rw [parts_eq,meetL]
   cases vbl t <;> rfl
  obtain ⟨op,nm,n,ks⟩:=t
  simp only [Ty.kids,Ty.op] at hkl ih2 hsh hpm
  have hself:nm.size ≤ 1048576:=hself
  generalize hbb:(shapeB wordB (.mk op nm n ks) (sI row) && (meetL (Ty.mk op nm n ks).parts s).isSome) = b
  generalize hFF:meetL (Ty.mk op nm n ks).parts s = F at *
  rw [cT]
  have hb:Tryz.f44.body = some (.seq (seqL2 (Tryz.f44.body.getD .skip)) (.seq (seqL2 (seqR2 (Tryz.f44.body.getD .skip))) (.seq (seqL2 (seqR2 (seqR2 (Tryz.f44.body.getD .skip)))) (.seq (seqL2 (seqR2 (seqR2 (seqR2 (Tryz.f44.body.getD .skip))))) (seqR2 (seqR2 (seqR2 (seqR2 (Tryz.f44.body.getD .skip))))))))):=by kernel_rfl
  refine speco_of Tryz.func44 hb (by kernel_rfl) (by kernel_rfl) (by kernel_rfl) fun qa qb qc qd qe qg qh qi qj qk ql qm qn qo qp qq qt qu qv qw qx qy qz va vc vd ve vf vg vh vj vk vl vm vn vo vp vq vr vt vu vv vw hA=>?_
  refine pre_right op nm n (rT ks) row es _ _ ?_ ?_ qa qb qc qd qe qg qh qi qj qk ql qm qn qo qp qq qt qu qv qw qx qy qz va vc vd ve vf vg vh vj vk vl vm vn vo vp vq vr vt vu vv vw hA
  ·intro kn a c hask j12 j13 j14 j15 j16 j17 j18 j19 j20 j21 j22 j23 j24 j25 j26 j27 j28 j29 j30 j31
   obtain ⟨hh,⟨kk,hkk1,hkk2,hkk3⟩,hv⟩:=asks_head hask nm n ks row
   rw [hkk1] at hsh
   have hsh:shapeB wordB (.mk op nm n ks) (sI row) = (headB wordB (.mk op nm n ks) (sI row) && shapesB wordB ks kk):=hsh
   rw [hh] at hsh
   have hbody:=rest_right op nm n ks row es s kn a c j12 j13 j14 j15 j16 j17 j18 j19 j20 j21 j22 j23 j24 j25 j26 j27 j28 j29 j30 j31 kk b F hes hself (by omega) (fun h=>by omega) hkk3 (fun h=>by rw [← hbb,hsh,h,Bool.true_and]) (fun h=>by rw [← hbb,hsh,h,Bool.false_and,Bool.false_and]) (fun h=>?_) ih2 qa qb qc qd qe qg qh qi qj qk ql qm qn qo qp qq qt qu qv qw qx qy qz va vc vd ve vf vg vh vj vk vl vm vn vo vp vq vr vt vu vv vw hA
   ·rw [hA] at hbody ⊢
    exact hbody
   ·rw [hpm]
    rcases hv with ⟨rfl,hv,ho⟩ | ⟨rfl,hv⟩
    ·rw [hv]
     have hr:decide (op = 10) = row:=by
      unfold hd2 at h
      have h1:(row == decide (8 ≤ op)) = true:=by revert h;cases (row == decide (8 ≤ op)) <;> simp
      rw [beq_iff_eq] at h1
      rw [h1]
      rcases ho with rfl | rfl <;> rfl
     rw [hr]
     rfl
    ·rw [hv]
     rfl
  ·intro hn st ho h6
   have hk:=asks_none hn
   have hbf:b = false:=by
    rw [← hbb,hsh]
    unfold headB
    rw [show (Ty.mk op nm n ks).op = op from rfl,hk]
    rfl
   show vr 1 (RightQ b F) [getN st.t 6] st
   rw [h6]
   exact keep_is hA [0] ⟨rfl,rfl,rfl,rfl,by rw [ho];rfl,rfl,rfl,rfl⟩ ⟨es,rfl,hes.1,by rw [hbf],fun h=>by rw [hbf] at h;cases h⟩
theorem right_is (t:Ty) (row:Bool):(shapeB wordB t (sI row) && (meetL t.parts fun _=>none).isSome) = rightB t (sI row):=by rw [once_meet];rfl
theorem PRight_s (t:Ty) (hN:t.parts.length ≤ 1048576) (hnm:∀ x ∈ t.parts,x.name.size ≤ 1048576):Spec 24 [.ag (cT t)] [.one (.sc (.bool (rightB t 116)))]:=by
 have h1:=right_s t hN hnm false [] (fun _=>none) SAt.nil
 rw [right_is] at h1
 have e:rightB t (sI false) = rightB t 116:=rfl
 rw [e] at h1
 generalize rightB t 116 = b at *
 generalize meetL t.parts (fun _=>none) = F at *
 obtain ⟨c0,c1,c2,c3,hc⟩:∃ c0 c1 c2 c3,cT t = [c0,c1,c2,c3]:=by obtain ⟨op,nm,n,ks⟩:=t;exact ⟨_,_,_,_,by rw [cT]⟩
 rw [hc] at h1 ⊢
 refine spec_of Tryz.func24 rfl (by kernel_rfl) (by kernel_rfl) (by kernel_rfl) fun qa qb qc qd qe qg qh qi qj qk ql qm qn qo qp qq qt qu qv qw qx qy qz va vc vd ve vf vg vh vj vk vl vm vn vo vp vq vr vt vu vv vw hA=>?_
 cbv
 repeat ((with_reducible apply next_at hA);cbv)
 refine callo_at hA [1] h1 ⟨rfl,rfl,rfl,rfl,rfl,rfl,rfl⟩ ?_
 rintro res os2 ⟨es',rfl,hk',rfl,hm'⟩
 cbv
 repeat ((with_reducible apply next_at hA);cbv)
theorem PRow_s (t:Ty) (hN:t.parts.length ≤ 1048576) (hnm:∀ x ∈ t.parts,x.name.size ≤ 1048576):Spec 73 [.ag (cT t)] [.one (.sc (.bool (rightB t 114)))]:=by
 have h1:=right_s t hN hnm true [] (fun _=>none) SAt.nil
 rw [right_is] at h1
 have e:rightB t (sI true) = rightB t 114:=rfl
 rw [e] at h1
 generalize rightB t 114 = b at *
 generalize meetL t.parts (fun _=>none) = F at *
 obtain ⟨c0,c1,c2,c3,hc⟩:∃ c0 c1 c2 c3,cT t = [c0,c1,c2,c3]:=by obtain ⟨op,nm,n,ks⟩:=t;exact ⟨_,_,_,_,by rw [cT]⟩
 rw [hc] at h1 ⊢
 refine spec_of Tryz.func73 rfl (by kernel_rfl) (by kernel_rfl) (by kernel_rfl) fun qa qb qc qd qe qg qh qi qj qk ql qm qn qo qp qq qt qu qv qw qx qy qz va vc vd ve vf vg vh vj vk vl vm vn vo vp vq vr vt vu vv vw hA=>?_
 cbv
 repeat ((with_reducible apply next_at hA);cbv)
 refine callo_at hA [1] h1 ⟨rfl,rfl,rfl,rfl,rfl,rfl,rfl⟩ ?_
 rintro res os2 ⟨es',rfl,hk',rfl,hm'⟩
 cbv
 repeat ((with_reducible apply next_at hA);cbv)
theorem either_s (t:Ty) (hN:t.parts.length ≤ 1048576) (hnm:∀ x ∈ t.parts,x.name.size ≤ 1048576):Spec 50 [.ag (cT t)] [.one (.sc (.bool (rightB t 116 || rightB t 114)))]:=by
 have h1:=PRight_s t hN hnm
 have h2:=PRow_s t hN hnm
 generalize rightB t 116 = q1 at *
 generalize rightB t 114 = q2 at *
 obtain ⟨c0,c1,c2,c3,hc⟩:∃ c0 c1 c2 c3,cT t = [c0,c1,c2,c3]:=by obtain ⟨op,nm,n,ks⟩:=t;exact ⟨_,_,_,_,by rw [cT]⟩
 rw [hc] at h1 h2 ⊢
 refine spec_of Tryz.func50 rfl (by kernel_rfl) (by kernel_rfl) (by kernel_rfl) fun qa qb qc qd qe qg qh qi qj qk ql qm qn qo qp qq qt qu qv qw qx qy qz va vc vd ve vf vg vh vj vk vl vm vn vo vp vq vr vt vu vv vw hA=>?_
 cbv
 repeat ((with_reducible apply next_at hA);cbv)
 refine call_at hA _ h1 ?_ ?_
 ·rfl
 cases q1
 ·cbv
  repeat ((with_reducible apply next_at hA);cbv)
  refine call_at hA _ h2 ?_ ?_
  ·rfl
  cbv
  repeat ((with_reducible apply next_at hA);cbv)
 ·cbv
  repeat ((with_reducible apply next_at hA);cbv)
theorem alikes_len2:∀ {a b:List Ty},a.length ≠ b.length → alikesB a b = false
 | [],[],h=>absurd rfl h
 | [],_ :: _,_=>by simp [alikesB]
 | _ :: _,[],_=>by simp [alikesB]
 | x :: a,y :: b,h=>by rw [alikesB,alikes_len2 (a:=a) (b:=b) (by simpa using h),Bool.and_false]
theorem alikes_step2 {a b:List Ty} {k:Nat} {x y:Ty} (hx:a[k]? = some x) (hy:b[k]? = some y):alikesB (a.drop k) (b.drop k) = (alikeB x y && alikesB (a.drop (k + 1)) (b.drop (k + 1))):=by
 obtain ⟨h1,e1⟩:=List.getElem?_eq_some_iff.1 hx
 obtain ⟨h2,e2⟩:=List.getElem?_eq_some_iff.1 hy
 rw [List.drop_eq_getElem_cons h1,List.drop_eq_getElem_cons h2,e1,e2,alikesB]
def eitherT (t:Ty):Bool:=rightB t 116 || rightB t 114
def Sm (t:Ty):Prop:=t.parts.length ≤ 1048576 ∧ ∀ x ∈ t.parts,x.name.size ≤ 1048576
theorem right_shape {t:Ty} {s:Int} (h:rightB t s = true):shapeB wordB t s = true ∧ onceB t = true:=by
 unfold rightB at h
 rwa [Bool.and_eq_true] at h
theorem either_shape {t:Ty} (h:eitherT t = true):∃ s,shapeB wordB t s = true:=by
 unfold eitherT at h
 rw [Bool.or_eq_true] at h
 rcases h with h | h
 ·exact ⟨_,(right_shape h).1⟩
 ·exact ⟨_,(right_shape h).1⟩
theorem either_spine {t:Ty} (h:eitherT t = true):SpineAll t:=by
 obtain ⟨s,h⟩:=either_shape h
 exact shape_spineAll h
theorem Spec.mono {f:Nat} {rs q q':List R} (h:Spec f rs q) (hq:∀ I w v,AtRes I w v q → AtRes I w v q'):Spec f rs q' :=
 ⟨h.1,fun I w args h1 h2=>(h.2 I w args h1 h2).mono fun e w' ⟨v,e1,e2,e3⟩=>⟨v,e1,hq _ _ _ e2,e3⟩⟩
theorem AtD.empty {I:Nat → Nat → Prop} {w:World} {v:Value} {n:Nat} (m:Nat) (h:AtD I w v (.sl n [])):AtD I w v (.sl m []):=by
 generalize hr:([]:List (List D)) = rows at h
 cases h with
 | nil A cap sz=>exact .nil _ _ _
 | sl b off cap sz rows us=>subst hr;exact .nil _ _ _
theorem AtDs.last {I:Nat → Nat → Prop} {w:World} {us:List Value} {xs:List D} {x y:D} (h:AtDs I w us (xs ++ [x])) (hx:∀ u,AtD I w u x → AtD I w u y):AtDs I w us (xs ++ [y]):=by
 refine ⟨by have:=h.1;simpa using this,fun i u d hu hd=>?_⟩
 rcases Nat.lt_or_ge i xs.length with hlt | hge
 ·rw [List.getElem?_append_left hlt] at hd
  exact h.2 i u d hu (by rw [List.getElem?_append_left hlt];exact hd)
 ·rw [List.getElem?_append_right hge] at hd
  obtain e:i - xs.length = 0:=by
   have:=(List.getElem?_eq_some_iff.1 hd).1
   simp at this
   omega
  rw [e] at hd
  simp at hd
  subst hd
  exact hx u (h.2 i u x hu (by rw [List.getElem?_append_right hge,e];rfl))
theorem Spec.sl0 {f:Nat} {rs:List R} {a b c:D} {n:Nat} (m:Nat) (h:Spec f rs [.ag [a,b,c,.sl n []]]):Spec f rs [.ag [a,b,c,.sl m []]]:=h.mono fun I w v hv=>by
 obtain ⟨us,rfl,h2⟩:=hv
 exact ⟨us,rfl,AtDs.last (xs:=[a,b,c]) h2 fun u hu=>hu.empty m⟩
theorem Canon_s (t:Ty) (ht:Sm t):Spec 26 [.ag (cT t)] [.ag (cT (if eitherT t = true then canonS t else zeroTy))]:=by
 have h1:=either_s t ht.1 ht.2
 have hb:(rightB t 116 || rightB t 114) = eitherT t:=rfl
 rw [hb] at h1
 by_cases he:eitherT t = true
 ·rw [if_pos he]
  have h2:=canonP_s _ t (Nat.le_refl _) ht.1 (either_spine he)
  rw [he] at h1
  obtain ⟨a0,a1,a2,a3,ha⟩:=cT_four t
  obtain ⟨c0,c1,c2,c3,hc⟩:=cT_four (canonS t)
  rw [ha] at h1 h2
  rw [hc] at h2
  rw [ha,hc]
  refine spec_of Tryz.func26 rfl (by kernel_rfl) (by kernel_rfl) (by kernel_rfl) fun qa qb qc qd qe qg qh qi qj qk ql qm qn qo qp qq qt qu qv qw qx qy qz va vc vd ve vf vg vh vj vk vl vm vn vo vp vq vr vt vu vv vw hA=>?_
  iterate 2 (try cbv;repeat ((first | with_reducible apply next_at hA | refine call_at hA _ h1 rfl ?_ | refine call_at hA _ h2 rfl ?_);cbv))
  try simp (maxSteps:=4000000) only [nc] at *
 ·have he:eitherT t = false:=by simpa using he
  rw [he,if_neg (by simp)]
  rw [he] at h1
  obtain ⟨a0,a1,a2,a3,ha⟩:=cT_four t
  rw [ha] at h1 ⊢
  unfold zeroTy
  rw [cT,rT]
  refine Spec.sl0 (n:=0) 4 ?_
  refine spec_of Tryz.func26 rfl (by kernel_rfl) (by kernel_rfl) (by kernel_rfl) fun qa qb qc qd qe qg qh qi qj qk ql qm qn qo qp qq qt qu qv qw qx qy qz va vc vd ve vf vg vh vj vk vl vm vn vo vp vq vr vt vu vv vw hA=>?_
  iterate 2 (try cbv;repeat ((first | with_reducible apply next_at hA | refine call_at hA _ h1 rfl ?_);cbv))
  try simp (maxSteps:=4000000) only [nc] at *
end Go.Proofs.YtahpnackkmbmgaaGreatDoor.Vm
end
section
namespace Go.Proofs.YtahpnackkmbmgaaGreatDoor.Vm
open Go.RowKit
theorem shape_part {W:ByteArray → Bool} {t:Ty}:∀ {s:Int},shapeB W t s = true → ∀ x ∈ t.parts,∃ c,shapeB W x c = true:=by
 induction t using Ty.ind with
 | h t ih =>
  intro s h x hx
  rw [parts_kids] at hx
  rcases List.mem_cons.1 hx with rfl | hx
  ·exact ⟨s,h⟩
  ·obtain ⟨y,hy,hxy⟩:=List.mem_flatMap.1 hx
   obtain ⟨k,hk,h1,h2,h3,h4,h5,h6⟩:=shape_parts h
   obtain ⟨c,hc⟩:=shapes_mem W _ _ h6 y hy
   exact ih y hy hc x hxy
theorem word_size {nm:ByteArray} (h:wordB nm = true):nm.size ≤ 32:=by
 unfold wordB at h
 rw [Bool.and_eq_true] at h
 exact of_decide_eq_true h.1
theorem shape_name {t:Ty} {s:Int} (h:shapeB wordB t s = true):t.name.size ≤ 32:=by
 obtain ⟨k,hk,h1,h2,h3,-⟩:=shape_parts h
 split at h3
 ·exact word_size h3
 ·have h4:t.name.toList = []:=of_decide_eq_true h3
  have h5:t.name.data.toList = []:=by rw [← ByteArray.toList_eq];exact h4
  have h6:t.name.size = t.name.data.toList.length:=by rw [Array.length_toList];rfl
  rw [h6,h5]
  simp
theorem sm_of {t:Ty} {s:Int} (h:shapeB wordB t s = true) (hN:t.parts.length ≤ 1048576):Sm t:=⟨hN,fun x hx=>by
 obtain ⟨c,hc⟩:=shape_part h x hx
 have:=shape_name hc
 omega⟩

end Go.Proofs.YtahpnackkmbmgaaGreatDoor.Vm
end
section
namespace Go.Proofs.YtahpnackkmbmgaaGreatDoor.Vm
open Go.RowKit
set_option maxRecDepth 100000
set_option maxHeartbeats 4000000



def Ok1 (s:Int) (t:Ty):Prop:=rightB t s = true ∧ Cn t ∧ t.parts.length ≤ 1048576
theorem kid_part {t x:Ty} (h:x ∈ t.kids):x ∈ t.parts:=by
 rw [parts_kids]
 exact List.mem_cons_of_mem _ (List.mem_flatMap.2 ⟨x,h,by rw [parts_eq];exact List.mem_cons_self ..⟩)
theorem rowS_part {tl:Ty}:∀ {fs:List (ByteArray × Ty)} {x:Ty},x ∈ (rowS fs tl).parts → x.op = 11 ∨ (∃ f ∈ fs,x ∈ f.2.parts) ∨ x ∈ tl.parts
 | [],x,h=>.inr (.inr h)
 | f :: fs,x,h=>by
  rw [rowS_op_ne,parts_kids] at h
  rcases List.mem_cons.1 h with rfl | h
  ·exact .inl rfl
  ·simp only [Ty.kids,List.flatMap_cons,List.flatMap_nil,List.append_nil,List.mem_append] at h
   rcases h with h | h
   ·exact .inr (.inl ⟨f,List.mem_cons_self ..,h⟩)
   ·rcases rowS_part h with h | ⟨g,hg,h⟩ | h
    ·exact .inl h
    ·exact .inr (.inl ⟨g,List.mem_cons_of_mem _ hg,h⟩)
    ·exact .inr (.inr h)
def CB (c:List (Int × Ty)):Prop:=∀ p ∈ c,Ok1 116 p.2 ∨ Ok1 114 p.2
end Go.Proofs.YtahpnackkmbmgaaGreatDoor.Vm
end
section
namespace Go.Proofs.YtahpnackkmbmgaaGreatDoor.Vm
open Go.RowKit
set_option maxRecDepth 100000
set_option maxHeartbeats 8000000


theorem canon_vars {W:ByteArray → Bool}:∀ (n:Nat) (t:Ty) (s:Int),t.parts.length ≤ n → shapeB W t s = true → ∀ x ∈ (canonS t).parts,isVar x = true → x ∈ t.parts:=by
 intro n
 induction n with
 | zero=>intro t s h;have:=parts_pos t;omega
 | succ n ih =>
  intro t s hn h x hx hv
  have hself:t ∈ t.parts:=by rw [parts_eq];exact List.mem_cons_self ..
  by_cases h11:t.op = 11
  ·obtain ⟨rfl,-⟩:=shape_row h h11
   have hsp:=(shape_spineAll h).self
   rw [canon_row_is h] at hx
   rcases rowS_part hx with h1 | ⟨f,hf,h1⟩ | h1
   ·rw [isVar_iff] at hv;omega
   ·obtain ⟨f0,hf0,rfl⟩:=List.mem_map.1 hf
    have hm:=sortS_mem hf0
    have h2:=fields_less _ t (Nat.le_refl _) f0 hm
    exact parts_trans (ih f0.2 116 (by omega) ((fields_shape h).1 f0 hm).2 x h1 hv) (fields_mem _ t (Nat.le_refl _) f0 hm)
   ·exact parts_trans h1 (tail_mem hsp)
  ·rw [canon_node h11,parts_kids] at hx
   rcases List.mem_cons.1 hx with rfl | hx
   ·have hv':t.op = 7 ∨ t.op = 10:=by rw [isVar_iff] at hv;exact hv
    rw [var_kids h hv',List.map_nil]
    rw [show Ty.mk t.op t.name t.n [] = t by conv=>rhs;rw [Ty.eta t,var_kids h hv']]
    exact hself
   ·simp only [Ty.kids] at hx
    obtain ⟨y,hy,hxy⟩:=List.mem_flatMap.1 hx
    obtain ⟨z,hz,rfl⟩:=List.mem_map.1 hy
    obtain ⟨k,hk,h1,h2,h3,h4,h5,h6⟩:=shape_parts h
    obtain ⟨c,hc⟩:=shapes_mem W _ _ h6 z hz
    have:=(kids_le t).2 z hz
    exact parts_trans (ih z c (by omega) hc x hxy hv) (kid_part hz)
def binds (g:Ty) (c:List (Int × Ty)):List (Int × Ty):=(varsS g).filterMap fun n=>c.find? fun p=>p.1 == n
end Go.Proofs.YtahpnackkmbmgaaGreatDoor.Vm
end
section
namespace Go.Proofs.YtahpnackkmbmgaaGreatDoor.Vm
open Go.RowKit Go.ChangeShapes Go.WideShapes Go.Deep
section
inductive Deep (P:Program):Nat → List D → Nat → Prop
 | bool {t:Nat} (b:Bool) (h:P.underlying t = some .bool):Deep P t [.sc (.bool b)] 1
 | int {t:Nat} {k:IntKind} (n:Int) (h:P.underlying t = some (.int k)) (hw:(Lit.int k n).wf = true):Deep P t [.sc (.int k n)] 1
 | str {t:Nat} (s:ByteArray) (h:P.underlying t = some .string) (hs:s.size ≤ maxLen):Deep P t [.sc (.string s)] (s.size + 1)
 | sl {t e:Nat} (rows:List (List D)) (ms:List Nat) (h:P.underlying t = some (.slice e)) (hl:ms.length = rows.length) (hb:rows.length ≤ maxLen)
   (hr:∀ (i:Nat) (r:List D) (m:Nat),rows[i]? = some r → ms[i]? = some m → Deep P e r m):Deep P t [.sl (P.cellsOf e) rows] (ms.sum + 1)
 | st {t:Nat} {fs:Array Field} (dss:List (List D)) (ms:List Nat) (h:P.underlying t = some (.struct fs)) (h1:dss.length = fs.size) (h2:ms.length = fs.size)
   (hf:∀ (i:Nat) (f:Field) (ds:List D) (m:Nat),fs[i]? = some f → dss[i]? = some ds → ms[i]? = some m → Deep P f.type ds m):Deep P t dss.flatten (ms.sum + 1)
def DeepR (P:Program) (t:Nat) (r:R) (m:Nat):Prop:=match P.underlying t,r with
 | some (.struct _),.ag xs=>Deep P t xs m
 | some (.struct _),.one _=>False
 | _,.one x=>Deep P t [x] m
 | _,.ag _=>False
section
variable {P:Program} {t:Nat} {ds:List D} {m:Nat}
theorem Deep.unint {k:IntKind} (h:Deep P t ds m) (hu:P.underlying t = some (.int k)):∃ n,ds = [.sc (.int k n)] ∧ (Lit.int k n).wf = true ∧ m = 1:=by
 cases h with
 | int n h hw=>rw [hu] at h;cases h;exact ⟨n,rfl,hw,rfl⟩
 | _=>simp_all
theorem Deep.unbool (h:Deep P t ds m) (hu:P.underlying t = some .bool):∃ b,ds = [.sc (.bool b)] ∧ m = 1:=by
 cases h with
 | bool b h=>exact ⟨b,rfl,rfl⟩
 | _=>simp_all
theorem Deep.unstr (h:Deep P t ds m) (hu:P.underlying t = some .string):∃ s:ByteArray,ds = [.sc (.string s)] ∧ s.size ≤ maxLen ∧ m = s.size + 1:=by
 cases h with
 | str s h hs=>exact ⟨s,rfl,hs,rfl⟩
 | _=>simp_all
theorem Deep.unsl {e:Nat} (h:Deep P t ds m) (hu:P.underlying t = some (.slice e)):∃ (rows:List (List D)) (ms:List Nat),ds = [.sl (P.cellsOf e) rows] ∧ ms.length = rows.length ∧ rows.length ≤ maxLen ∧ m = ms.sum + 1 ∧
  ∀ (i:Nat) (r:List D) (m:Nat),rows[i]? = some r → ms[i]? = some m → Deep P e r m:=by
 cases h with
 | sl rows ms h hl hb hr=>rw [hu] at h;cases h;exact ⟨rows,ms,rfl,hl,hb,rfl,hr⟩
 | _=>simp_all
theorem DeepR.one {r:R} (h:DeepR P t r m) (hu:∀ fs,P.underlying t ≠ some (.struct fs)):∃ x,r = .one x ∧ Deep P t [x] m:=by
 unfold DeepR at h
 split at h
 ·exact absurd (by assumption) (hu _)
 ·exact h.elim
 ·exact ⟨_,rfl,h⟩
 ·exact h.elim
end
def layoutB (P:Program):List Field → Nat → Nat → Bool
 | [],n,c=>Nat.beq n c
 | f :: fs,n,c=>Nat.beq f.offset n && layoutB P fs (n + P.cellsOf f.type) c
def dataOk1 (P:Program) (L:List Nat) (t:Nat):Bool:=match P.underlying t with
 | some .bool=>true
 | some (.int _)=>true
 | some .string=>true
 | some (.slice e)=>L.contains e && Nat.blt 0 (P.cellsOf e)
 | some (.struct fs)=>(fs.toList.all fun f=>L.contains f.type) && layoutB P fs.toList 0 (P.cellsOf t)
 | _=>false
def dataOk (P:Program) (L:List Nat):Bool:=L.all (dataOk1 P L)
theorem pick_fn {β:Type}:∀ {n:Nat} {p:Nat → β → Prop},(∀ i,i < n → ∃ b,p i b) → ∃ l:List β,l.length = n ∧ ∀ (i:Nat) b,l[i]? = some b → p i b
 | 0,p,h=>⟨[],rfl,fun i b hi=>by simp at hi⟩
 | n + 1,p,h=>by
  obtain ⟨b0,h0⟩:=h 0 (by omega)
  obtain ⟨l,hl,hp⟩:=pick_fn (n:=n) (p:=fun i b=>p (i + 1) b) fun i hi=>h (i + 1) (by omega)
  refine ⟨b0 :: l,by simp [hl],fun i b hi=>?_⟩
  cases i with
  | zero=>simp at hi;subst hi;exact h0
  | succ i=>exact hp i b (by simpa using hi)
theorem atDs_flat {I:Nat → Nat → Prop} {w:World}:∀ {css:List (List Value)} {dss:List (List D)},css.length = dss.length → (∀ (i:Nat) cs ds,css[i]? = some cs → dss[i]? = some ds → AtDs I w cs ds) → AtDs I w css.flatten dss.flatten
 | [],[],_,_=>AtDs.nil I w
 | c :: css,d :: dss,hl,h=>by
  rw [List.flatten_cons,List.flatten_cons]
  exact (h 0 c d rfl rfl).append (atDs_flat (by simpa using hl) fun i cs ds h1 h2=>h (i + 1) cs ds (by simpa using h1) (by simpa using h2))
 | [],_ :: _,hl,_=>by simp at hl
 | _ :: _,[],hl,_=>by simp at hl
theorem layout_cut {P:Program} {cs:List Value}:∀ (fs:List Field) (n c:Nat),layoutB P fs n c = true → cs.length = c → cs.drop n = (fs.map fun f=>(cs.drop f.offset).take (P.cellsOf f.type)).flatten
 | [],n,c,h,hl=>by
  have:n = c:=Nat.eq_of_beq_eq_true h
  rw [List.drop_eq_nil_of_le (by omega)];rfl
 | f :: fs,n,c,h,hl=>by
  rw [layoutB,Bool.and_eq_true] at h
  have h1:f.offset = n:=Nat.eq_of_beq_eq_true h.1
  rw [List.map_cons,List.flatten_cons,← layout_cut fs _ c h.2 hl,h1,← List.drop_drop,List.take_append_drop]
theorem bulk_sum {H:Type}:∀ {ms:List Nat} {els:List (DataW H)},ms.length = els.length → (∀ (i m:Nat) y,ms[i]? = some m → els[i]? = some y → m ≤ Rows.uptoBulk y) → ms.sum ≤ Rows.uptoBulkAll els
 | [],[],_,_=>by simp
 | m :: ms,y :: els,hl,h=>by
  have h1:=h 0 m y rfl rfl
  have h2:=bulk_sum (ms:=ms) (els:=els) (by simpa using hl) fun i m y hm hy=>h (i + 1) m y (by simpa using hm) (by simpa using hy)
  simp only [List.sum_cons,Rows.uptoBulkAll]
  omega
 | [],_ :: _,hl,_=>by simp at hl
 | _ :: _,[],hl,_=>by simp at hl
def Low (w:World) (b _h:Nat):Prop:=b < w.heap.size
section
variable {H:Type} {enc:TypeId × Value → H} {P:Program} {w:World} {base:Nat} {spare:Nat → Bool} {held:Bool}
theorem open_deep {L:List Nat} (hL:dataOk P L = true):∀ (fuel t:Nat) (cs:List Value) (x:DataW H × List MemPlace),t ∈ L → DataW.trod enc P w base spare held fuel t cs = some x → ∃ ds m,AtDs (Low w) w cs ds ∧ Deep P t ds m ∧ m ≤ Rows.uptoBulk x.1
 | 0,t,cs,x,ht,h=>by simp [DataW.trod] at h
 | fuel + 1,t,cs,x,ht,h=>by
  have hk:=List.all_eq_true.1 hL t ht
  unfold dataOk1 at hk
  split at hk
  ·rename_i e
   obtain ⟨b,rfl,rfl⟩:=DataW.trod_bool e h
   exact ⟨_,_,AtDs.cons (.sc _ rfl) (AtDs.nil _ _),.bool b e,by simp [Rows.uptoBulk]⟩
  ·rename_i k e
   obtain ⟨n,rfl,rfl,hw⟩:=DataW.trod_int e h
   exact ⟨_,_,AtDs.cons (.sc _ rfl) (AtDs.nil _ _),.int n e hw,by simp [Rows.uptoBulk]⟩
  ·rename_i e
   obtain ⟨s,rfl,rfl,hs⟩:=DataW.trod_string e h
   refine ⟨_,_,AtDs.cons (.sc _ rfl) (AtDs.nil _ _),.str s e hs,?_⟩
   have e2:s.data.toList.length = s.size:=by rw [Array.length_toList];rfl
   simp only [Rows.uptoBulk]
   omega
  ·rename_i e he
   simp only [Bool.and_eq_true,List.contains_iff_mem,Nat.blt_eq] at hk
   rcases DataW.trod_slice he h with ⟨rfl,rfl⟩ | ⟨a,len,cap,elems,rest,n,hfu,rfl,rfl,hb,hl,hm,hlen,hel,_,_⟩
   ·exact ⟨_,_,AtDs.cons (.nil none 0 (P.cellsOf e)) (AtDs.nil _ _),.sl [] [] he rfl (Nat.zero_le _) (fun i r m hr=>by simp at hr),by simp [Rows.uptoBulk]⟩
   ·obtain rfl:n = fuel:=by omega
    have each:∀ i,i < len → ∃ q:List Value × List D × Nat,(w.cells? base (a.add (i * P.cellsOf e)) (P.cellsOf e) = some q.1) ∧ AtDs (Low w) w q.1 q.2.1 ∧ Deep P e q.2.1 q.2.2 ∧ ∃ y,elems[i]? = some y ∧ q.2.2 ≤ Rows.uptoBulk y.1:=by
     intro i hi
     have h1:=hel i hi
     have hei:elems[i]? = some (elems[i]'(by omega)):=List.getElem?_eq_getElem (by omega)
     rw [hei,Option.bind_eq_some_iff] at h1
     obtain ⟨cs',hc,ht'⟩:=h1
     obtain ⟨ds,m,h2,h3,h4⟩:=open_deep hL n e cs' _ hk.1 ht'
     exact ⟨(cs',ds,m),hc,h2,h3,_,hei,h4⟩
    obtain ⟨l,hll,hp⟩:=pick_fn each
    have hmap:∀ {β:Type} (f:List Value × List D × Nat → β) (i:Nat) (b:β),(l.map f)[i]? = some b → ∃ q,l[i]? = some q ∧ f q = b:=fun f i b hi=>by
     rw [List.getElem?_map,Option.map_eq_some_iff] at hi
     exact hi
    have hrl:(l.map fun q=>q.2.1).length = len:=by rw [List.length_map,hll]
    have hcl:∀ r ∈ l.map (fun q=>q.1),r.length = P.cellsOf e:=fun r hr=>by
     obtain ⟨i,hi⟩:=List.mem_iff_getElem?.1 hr
     obtain ⟨q,hq,rfl⟩:=hmap _ i r hi
     exact (World.cells?_some (hp i q hq).1).2.1
    have hdl:∀ r ∈ l.map (fun q=>q.2.1),r.length = P.cellsOf e:=fun r hr=>by
     obtain ⟨i,hi⟩:=List.mem_iff_getElem?.1 hr
     obtain ⟨q,hq,rfl⟩:=hmap _ i r hi
     rw [← (hp i q hq).2.1.1]
     exact (World.cells?_some (hp i q hq).1).2.1
    have hD:Deep P t [.sl (P.cellsOf e) (l.map fun q=>q.2.1)] ((l.map fun q=>q.2.2).sum + 1):=by
     refine .sl _ _ he (by simp) (by rw [hrl];omega) fun i r m hr hm=>?_
     obtain ⟨q,hq,rfl⟩:=hmap _ i r hr
     obtain ⟨q',hq',rfl⟩:=hmap _ i m hm
     rw [hq] at hq'
     cases hq'
     exact (hp i q hq).2.2.1
    have hB:(l.map fun q=>q.2.2).sum + 1 ≤ Rows.uptoBulk (DataW.slice (elems.map (·.1)) (rest.map (·.1))):=by
     have:=bulk_sum (ms:=l.map fun q=>q.2.2) (els:=elems.map (·.1)) (by simp [hll,hlen]) fun i m y hm hy=>by
      obtain ⟨q,hq,rfl⟩:=hmap _ i m hm
      obtain ⟨y',hy',h4⟩:=(hp i q hq).2.2.2
      rw [List.getElem?_map,hy'] at hy
      cases hy
      exact h4
     simp only [Rows.uptoBulk]
     omega
    refine ⟨_,_,AtDs.cons ?_ (AtDs.nil _ _),hD,hB⟩
    by_cases h0:len = 0
    ·subst h0
     rw [List.eq_nil_of_length_eq_zero hll]
     exact .nil _ _ _
    obtain ⟨b,off,spot⟩:=a
    obtain ⟨q0,hq0⟩:∃ q,l[0]? = some q:=⟨_,List.getElem?_eq_getElem (by omega)⟩
    have hc0:=(World.cells?_some (hp 0 q0 hq0).1).2
    have hq00:q0.1[0]? = some (q0.1[0]'(by omega)):=List.getElem?_eq_getElem (by omega)
    have hcell0:=(hc0.2 0 hk.2).trans hq00
    have hspot:spot = none:=by
     have:=World.cell?_spot hcell0
     simpa [Addr.add] using this
    subst hspot
    have hblk:b < w.heap.size:=by
     have:=World.block_lt_of_cell? w _ hcell0
     simpa [Addr.add] using this
    have add0:∀ o j,(⟨b,o,none⟩:Addr).add j = ⟨b,o + j,none⟩:=fun o j=>by
     unfold Addr.add
     by_cases hj:j = 0
     ·subst hj;rfl
     ·simp [hj]
    have hus:(l.map fun q=>q.1).flatten.length = len * P.cellsOf e:=by rw [flat_len hcl,List.length_map,hll]
    have hsl:=AtD.sl (I:=Low w) (w:=w) b off cap (P.cellsOf e) (l.map fun q=>q.2.1) (l.map fun q=>q.1).flatten (by rw [hrl];exact hl) ⟨_,Nat.le_refl _,hblk⟩ hdl (by rw [hus,hrl]) (fun i u hu=>?_) (fun i u d hu hd=>?_)
    ·rw [hrl] at hsl
     exact hsl
    ·have hi:i < len * P.cellsOf e:=by rw [← hus];exact (List.getElem?_eq_some_iff.1 hu).1
     have hq:i / P.cellsOf e < len:=(Nat.div_lt_iff_lt_mul hk.2).2 hi
     have hr:i % P.cellsOf e < P.cellsOf e:=Nat.mod_lt _ hk.2
     have ei:i / P.cellsOf e * P.cellsOf e + i % P.cellsOf e = i:=by rw [Nat.mul_comm];exact Nat.div_add_mod i _
     obtain ⟨q,hqq⟩:∃ q,l[i / P.cellsOf e]? = some q:=⟨_,List.getElem?_eq_getElem (by omega)⟩
     have hcq:=(World.cells?_some (hp _ q hqq).1).2.2 _ hr
     have hfl:=flat_get hcl (i:=i / P.cellsOf e) (j:=i % P.cellsOf e) (r:=q.1) (by rw [List.getElem?_map,hqq];rfl) hr
     rw [ei,hu] at hfl
     rw [← hfl,add0,add0,Nat.add_assoc,ei] at hcq
     exact hcq
    ·exact (atDs_flat (I:=Low w) (w:=w) (css:=l.map fun q=>q.1) (dss:=l.map fun q=>q.2.1) (by simp) fun i cs ds h1 h2=>by
      obtain ⟨q,hq,rfl⟩:=hmap _ i cs h1
      obtain ⟨q',hq',rfl⟩:=hmap _ i ds h2
      rw [hq] at hq'
      cases hq'
      exact (hp i q hq).2.1).2 i u d hu hd
  ·rename_i fs he
   simp only [Bool.and_eq_true,List.all_eq_true,List.contains_iff_mem] at hk
   obtain ⟨xs,n,hfu,rfl,hcl,hxl,hf⟩:=DataW.trod_struct he h
   obtain rfl:n = fuel:=by omega
   have each:∀ i,i < fs.size → ∃ q:List D × Nat,∀ f,fs[i]? = some f → AtDs (Low w) w ((cs.drop f.offset).take (P.cellsOf f.type)) q.1 ∧ Deep P f.type q.1 q.2 ∧ ∃ y,xs[i]? = some y ∧ q.2 ≤ Rows.uptoBulk y.1:=by
    intro i hi
    have hfi:fs[i]? = some fs[i]:=Array.getElem?_eq_getElem hi
    have hxi:xs[i]? = some (xs[i]'(by omega)):=List.getElem?_eq_getElem (by omega)
    have h1:=hf i _ hfi
    rw [hxi] at h1
    obtain ⟨ds,m,h2,h3,h4⟩:=open_deep hL n _ _ _ (hk.1 _ (Array.getElem_mem_toList ..)) h1
    refine ⟨(ds,m),fun f hff=>?_⟩
    rw [hfi] at hff
    cases hff
    exact ⟨h2,h3,_,hxi,h4⟩
   obtain ⟨l,hll,hp⟩:=pick_fn each
   have hmap:∀ {β:Type} (f:List D × Nat → β) (i:Nat) (b:β),(l.map f)[i]? = some b → ∃ q,l[i]? = some q ∧ f q = b:=fun f i b hi=>by
    rw [List.getElem?_map,Option.map_eq_some_iff] at hi
    exact hi
   refine ⟨(l.map (·.1)).flatten,(l.map (·.2)).sum + 1,?_,.st _ _ he (by simp [hll]) (by simp [hll]) fun i f ds m h1 h2 h3=>?_,?_⟩
   ·have hcut:=layout_cut fs.toList 0 _ hk.2 hcl
    rw [List.drop_zero] at hcut
    rw [hcut]
    refine atDs_flat (by simp [hll]) fun i c d h1 h2=>?_
    rw [List.getElem?_map,Option.map_eq_some_iff] at h1
    obtain ⟨f,hfi,rfl⟩:=h1
    obtain ⟨q,hq,rfl⟩:=hmap _ i d h2
    exact (hp i q hq f (by simpa using hfi)).1
   ·obtain ⟨q,hq,rfl⟩:=hmap _ i ds h2
    obtain ⟨q',hq',rfl⟩:=hmap _ i m h3
    rw [hq] at hq'
    cases hq'
    exact (hp i q hq f h1).2.1
   ·have:=bulk_sum (ms:=l.map (·.2)) (els:=xs.map (·.1)) (by simp [hll,hxl]) fun i m y hm hy=>by
     obtain ⟨q,hq,rfl⟩:=hmap _ i m hm
     have hlt:i < fs.size:=by rw [← hll];exact (List.getElem?_eq_some_iff.1 hq).1
     obtain ⟨y',hy',h4⟩:=(hp i q hq _ (Array.getElem?_eq_getElem hlt)).2.2
     rw [List.getElem?_map,hy'] at hy
     cases hy
     exact h4
    simp only [Rows.uptoBulk]
    omega
  ·cases hk
theorem open_arg {L:List Nat} (hL:dataOk P L = true) {t:Nat} {v:Value} {d:DataW H} {ps:List MemPlace} {rc:Reach} {b0:Nat} (ht:L.contains t = true) (hv:Value.okWide P w rc b0 t v) (h:DataW.Trod enc P w base spare held t v d ps) :
  ∃ r m,AtR (Low w) w v r ∧ DeepR P t r m ∧ m ≤ Rows.uptoBulk d:=by
 rw [List.contains_iff_mem] at ht
 obtain ⟨fuel,hf⟩:=h
 obtain ⟨ds,m,h1,h2,h3⟩:=open_deep hL fuel t _ _ ht hf
 have hk:=List.all_eq_true.1 hL t ht
 unfold dataOk1 at hk
 split at hk
 ·rename_i e
  obtain ⟨b,rfl⟩:=okWide_bool e hv
  obtain ⟨b',rfl,rfl⟩:=h2.unbool e
  obtain ⟨u,us',e2,h4,_⟩:=h1.uncons
  simp [Value.cells] at e2
  rw [← e2.1] at h4
  exact ⟨.one _,_,h4,by unfold DeepR;rw [e];exact h2,h3⟩
 ·rename_i k e
  obtain ⟨b,rfl⟩:=okWide_int e hv
  obtain ⟨b',rfl,_,rfl⟩:=h2.unint e
  obtain ⟨u,us',e2,h4,_⟩:=h1.uncons
  simp [Value.cells] at e2
  rw [← e2.1] at h4
  exact ⟨.one _,_,h4,by unfold DeepR;rw [e];exact h2,h3⟩
 ·rename_i e
  obtain ⟨b,rfl⟩:=okWide_string e hv
  obtain ⟨b',rfl,_,rfl⟩:=h2.unstr e
  obtain ⟨u,us',e2,h4,_⟩:=h1.uncons
  simp [Value.cells] at e2
  rw [← e2.1] at h4
  exact ⟨.one _,_,h4,by unfold DeepR;rw [e];exact h2,h3⟩
 ·rename_i el e
  obtain ⟨a,len,cap,rfl⟩:=okWide_slice e hv
  obtain ⟨rows,ms,rfl,_,_,rfl,_⟩:=h2.unsl e
  obtain ⟨u,us',e2,h4,_⟩:=h1.uncons
  simp [Value.cells] at e2
  rw [← e2.1] at h4
  exact ⟨.one _,_,h4,by unfold DeepR;rw [e];exact h2,h3⟩
 ·rename_i fs e
  obtain ⟨cs,rfl,_⟩:=okWide_struct e hv
  exact ⟨.ag ds,m,⟨cs.toList,by simp,h1⟩,by unfold DeepR;rw [e];exact h2,h3⟩
 ·cases hk
end
theorem law_true {f:Nat} {rs:List R} (h:Spec f rs [.one (.sc (.bool true))]) {w:World} {args:List Value} (hat:AtRs (Low w) w args rs) (hT:Tabs (fun _=>False) w:=by exact fun _ h=>nomatch h):Calls Tryz.prog f args.toArray w fun e w'=>e = .returned (.bool true) ∧ Below w.heap.size w w':=by
 refine (h.2 (Low w) w args ⟨fun _ _ h=>h,hT⟩ hat).mono ?_
 rintro e w' ⟨v,rfl,hv,hb⟩
 cases hv
 exact ⟨rfl,hb⟩
end
end Go.Proofs.YtahpnackkmbmgaaGreatDoor.Vm
end
section
namespace Go.Proofs.YtahpnackkmbmgaaGreatDoor.Vm
open Go.RowKit
theorem open_int {P:Program} {t:Nat} {k:IntKind} {r:R} {m:Nat} (ht:P.underlying t = some (.int k)) (h:DeepR P t r m):∃ n,r = .one (.sc (.int k n)) ∧ (Lit.int k n).wf = true:=by
 obtain ⟨x,rfl,h2⟩:=h.one (fun fs=>by rw [ht];simp)
 obtain ⟨n,e,hw,_⟩:=h2.unint ht
 cases e
 exact ⟨n,rfl,hw⟩
def PartWf (x:Ty):Prop:=x.name.size ≤ maxLen ∧ (Lit.int .u8 x.op).wf = true ∧ (Lit.int .i64 x.n).wf = true
def TyWf (t:Ty):Prop:=∀ x ∈ t.parts,PartWf x
end Go.Proofs.YtahpnackkmbmgaaGreatDoor.Vm
end
section
namespace Go.Proofs.YtahpnackkmbmgaaGreatDoor.Vm
open Go.RowKit
set_option maxRecDepth 100000
set_option maxHeartbeats 4000000
def txtB (t:Ty):ByteArray:=⟨(txtS t).toArray⟩
theorem wf_le {n:Int} (h:(Lit.int .i64 n).wf = true):n ≤ 9223372036854775807:=by
 simp only [Lit.wf,IntKind.min,IntKind.max,IntKind.signed,IntKind.bits,Bool.and_eq_true,decide_eq_true_eq,if_true] at h
 have:=h.2
 simpa using this
theorem mod_shape {t:Ty} {s:Int} (h:shapeB wordB t s = true) (hn:∀ x ∈ t.parts,isVar x = true → x.n ≤ 9223372036854775807):Mod t:=fun x hx=>by
 obtain ⟨c,hc⟩:=shape_part h x hx
 obtain ⟨k,hk,h1,h2,h3,h4,h5,h6⟩:=shape_parts hc
 refine ⟨?_,h4,?_⟩
 ·split at h3
  ·unfold wordB at h3
   rw [Bool.and_eq_true] at h3
   exact of_decide_eq_true h3.1
  ·have h3:=of_decide_eq_true h3
   have h7:x.name.size = 0:=by
    have h8:=congrArg List.length h3
    rw [ByteArray.toList_eq] at h8
    simpa using h8
   omega
 ·rcases h5 with h | h | h
  ·exact hn x hx (by rw [isVar_iff];exact .inl h)
  ·exact hn x hx (by rw [isVar_iff];exact .inr h)
  ·omega
theorem mod_canon {t:Ty} {s:Int} (h:rightB t s = true) (hw:TyWf t):Mod (canonS t):=by
 have hs:=(right_shape h).1
 refine mod_shape (canon_shape _ t s (Nat.le_refl _) hs) fun x hx hv=>?_
 exact wf_le (hw x (canon_vars _ t s (Nat.le_refl _) hs x hx hv)).2.2
theorem txt_room {t:Ty} (hM:Mod t) (hN:t.parts.length ≤ 1048576):(txtS t).length ≤ 67108864:=by
 have:=txt_le hM
 omega
theorem Print_s (t:Ty) (ht:Sm t) (hw:TyWf t) (hr:rightB t 116 = true):Spec 9 [.ag (cT t)] [.one (.sc (.string (txtB (canonS t)))),.one (.sc (.int .u8 0))]:=by
 have h1:=PRight_s t ht.1 ht.2
 rw [hr] at h1
 have h2:=Canon_s t ht
 have he:eitherT t = true:=by unfold eitherT;rw [hr];rfl
 rw [if_pos he] at h2
 have hM:=mod_canon hr hw
 have hsh:=(right_shape hr).1
 have hN:(canonS t).parts.length ≤ 1048576:=by rw [canon_len _ t (Nat.le_refl _) (shape_spineAll hsh)];exact ht.1
 have hroom:=txt_room hM hN
 have c1:=(write_all wordB _ (canonS t) (Nat.le_refl _) (canon_shape _ t 116 (Nat.le_refl _) hsh) hM).2 (by omega)
 have c2:=stU_s (txtS (canonS t))
 unfold txtB
 obtain ⟨a0,a1,a2,a3,ha⟩:=cT_four t
 obtain ⟨b0,b1,b2,b3,hb⟩:=cT_four (canonS t)
 rw [ha] at h1 h2 ⊢
 rw [hb] at h2 c1
 rw [penU_eq,penO_eq] at c1
 rw [penU_eq] at c2
 generalize rU (txtS (canonS t)) = R1 at *
 generalize (⟨(txtS (canonS t)).toArray⟩:ByteArray) = S at *
 clear hroom
 refine spec_of Tryz.func9 rfl (by kernel_rfl) (by kernel_rfl) (by kernel_rfl) fun qa qb qc qd qe qg qh qi qj qk ql qm qn qo qp qq qt qu qv qw qx qy qz va vc vd ve vf vg vh vj vk vl vm vn vo vp vq vr vt vu vv vw hA=>?_
 iterate 2 (try cbv;repeat ((first | with_reducible apply next_at hA | refine call_at hA _ h1 rfl ?_ | refine calm_at hA _ h1 ?_ | refine call_at hA _ h2 rfl ?_ | refine calm_at hA _ h2 ?_ | (refine callo_at hA [1] c1 ⟨rfl,rfl,rfl,rfl,rfl,rfl,rfl⟩ ?_;rintro _ _ ⟨rfl,rfl⟩) | (refine callo_at hA [1,2] c2 ⟨rfl,rfl,rfl,rfl,rfl,rfl,rfl⟩ ?_;rintro _ _ ⟨rfl,rfl⟩));cbv))
 try simp (maxSteps:=4000000) only [nc] at *
theorem fail_ok (ts:List Tok) (t:Tok) (a:Nat) (ht:ts[a]? = some t) (hl:ts.length ≤ 1048576) (c:Int):SpecO 62 [.ptr 0 0,vi .u8 c] (eyB 0 0 (rTk ts) (a:Int)) (fun res os=>res = [] ∧ os = eyB c t.at_ (rTk ts) (a:Int)):=by
 have hp:=Peek_s ts t a ht hl
 unfold tkD rdB at hp
 unfold eyB
 generalize rTk ts = T at *
 generalize t.kind = tk at *
 generalize t.text = tx at *
 generalize t.n = tn at *
 generalize t.at_ = ta at *
 generalize ((a:Nat):Int) = z at *
 refine speco_of Tryz.func62 rfl (by kernel_rfl) (by kernel_rfl) (by kernel_rfl) fun qa qb qc qd qe qg qh qi qj qk ql qm qn qo qp qq qt qu qv qw qx qy qz va vc vd ve vf vg vh vj vk vl vm vn vo vp vq vr vt vu vv vw hA=>?_
 obtain ⟨e1,e2,e3,e4,e5,e6,e7,e8,e9⟩:=ar_at hA
 have q1:qk 0 0 = true:=by rw [e9];rfl
 iterate 2 (try cbv;repeat ((first | with_reducible apply next_at hA | rw [q1] | (refine rd_at hA [1] hp ⟨rfl,rfl,rfl,rfl,rfl,rfl,rfl⟩ rfl ?_;rintro _ rfl));cbv))
 try simp (maxSteps:=4000000) only [nc] at *
 exact keep_is hA [0,1] ⟨rfl,rfl,rfl,rfl,rfl,rfl,rfl,rfl⟩ ⟨rfl,rfl⟩
theorem fail_err (T:List (List D)) (e p z c:Int) (he:e ≠ 0):SpecO 62 [.ptr 0 0,vi .u8 c] (eyB e p T z) (fun res os=>res = [] ∧ os = eyB e p T z):=by
 unfold eyB
 refine speco_of Tryz.func62 rfl (by kernel_rfl) (by kernel_rfl) (by kernel_rfl) fun qa qb qc qd qe qg qh qi qj qk ql qm qn qo qp qq qt qu qv qw qx qy qz va vc vd ve vf vg vh vj vk vl vm vn vo vp vq vr vt vu vv vw hA=>?_
 obtain ⟨e1,e2,e3,e4,e5,e6,e7,e8,e9⟩:=ar_at hA
 have q1:qk e 0 = false:=by rw [e9];exact decide_eq_false he
 iterate 2 (try cbv;repeat ((first | with_reducible apply next_at hA | rw [q1]);cbv))
 try simp (maxSteps:=4000000) only [nc] at *
 exact keep_is hA [0,1] ⟨rfl,rfl,rfl,rfl,rfl,rfl,rfl,rfl⟩ ⟨rfl,rfl⟩
theorem skip_ok (ts:List Tok) (t:Tok) (a:Nat) (ht:ts[a]? = some t) (hl:ts.length ≤ 1048576) (s:ByteArray):SpecO 64 [.ptr 0 0,vs s] (eyB 0 0 (rTk ts) (a:Int)) (fun res os=>res = [vb (isG t s)] ∧ os = eyB 0 0 (rTk ts) ((if isG t s = true then a + 1 else a:Nat):Int)):=by
 have hq:=Skip_s ts t a ht hl s
 unfold rdB at hq
 unfold eyB
 generalize rTk ts = T at *
 generalize isG t s = b at *
 generalize ((if b = true then a + 1 else a:Nat):Int) = y at *
 generalize ((a:Nat):Int) = z at *
 refine speco_of Tryz.func64 rfl (by kernel_rfl) (by kernel_rfl) (by kernel_rfl) fun qa qb qc qd qe qg qh qi qj qk ql qm qn qo qp qq qt qu qv qw qx qy qz va vc vd ve vf vg vh vj vk vl vm vn vo vp vq vr vt vu vv vw hA=>?_
 obtain ⟨e1,e2,e3,e4,e5,e6,e7,e8,e9⟩:=ar_at hA
 have q1:qk 0 0 = true:=by rw [e9];rfl
 cases b
 ·iterate 2 (try cbv;repeat ((first | with_reducible apply next_at hA | rw [q1] | (refine callo_at hA [1] hq ⟨rfl,rfl,rfl,rfl,rfl,rfl,rfl⟩ ?_;rintro _ _ ⟨rfl,rfl⟩));cbv))
  try simp (maxSteps:=4000000) only [nc] at *
  exact keep_is hA [0,1] ⟨rfl,rfl,rfl,rfl,rfl,rfl,rfl,rfl⟩ ⟨rfl,rfl⟩
 ·iterate 2 (try cbv;repeat ((first | with_reducible apply next_at hA | rw [q1] | (refine callo_at hA [1] hq ⟨rfl,rfl,rfl,rfl,rfl,rfl,rfl⟩ ?_;rintro _ _ ⟨rfl,rfl⟩));cbv))
  try simp (maxSteps:=4000000) only [nc] at *
  exact keep_is hA [0,1] ⟨rfl,rfl,rfl,rfl,rfl,rfl,rfl,rfl⟩ ⟨rfl,rfl⟩
theorem skip_err (T:List (List D)) (e p z:Int) (he:e ≠ 0) (s:ByteArray):SpecO 64 [.ptr 0 0,vs s] (eyB e p T z) (fun res os=>res = [vb false] ∧ os = eyB e p T z):=by
 unfold eyB
 refine speco_of Tryz.func64 rfl (by kernel_rfl) (by kernel_rfl) (by kernel_rfl) fun qa qb qc qd qe qg qh qi qj qk ql qm qn qo qp qq qt qu qv qw qx qy qz va vc vd ve vf vg vh vj vk vl vm vn vo vp vq vr vt vu vv vw hA=>?_
 obtain ⟨e1,e2,e3,e4,e5,e6,e7,e8,e9⟩:=ar_at hA
 have q1:qk e 0 = false:=by rw [e9];exact decide_eq_false he
 iterate 2 (try cbv;repeat ((first | with_reducible apply next_at hA | rw [q1]);cbv))
 try simp (maxSteps:=4000000) only [nc] at *
 exact keep_is hA [0,1] ⟨rfl,rfl,rfl,rfl,rfl,rfl,rfl,rfl⟩ ⟨rfl,rfl⟩
theorem want_ok (ts:List Tok) (t:Tok) (a:Nat) (ht:ts[a]? = some t) (hl:ts.length ≤ 1048576) (s:ByteArray):SpecO 84 [.ptr 0 0,vs s] (eyB 0 0 (rTk ts) (a:Int)) (fun res os=>res = [] ∧ os = if isG t s = true then eyB 0 0 (rTk ts) ((a + 1:Nat):Int) else eyB 5 t.at_ (rTk ts) (a:Int)):=by
 have hq:=Skip_s ts t a ht hl s
 have hf:=fail_ok ts t a ht hl 5
 unfold rdB at hq
 unfold eyB at hf ⊢
 generalize rTk ts = T at *
 generalize isG t s = b at *
 generalize t.at_ = ta at *
 cases b
 ·rw [if_neg (by decide)] at hq
  rw [if_neg (by decide)]
  generalize ((a:Nat):Int) = z at *
  refine speco_of Tryz.func84 rfl (by kernel_rfl) (by kernel_rfl) (by kernel_rfl) fun qa qb qc qd qe qg qh qi qj qk ql qm qn qo qp qq qt qu qv qw qx qy qz va vc vd ve vf vg vh vj vk vl vm vn vo vp vq vr vt vu vv vw hA=>?_
  obtain ⟨e1,e2,e3,e4,e5,e6,e7,e8,e9⟩:=ar_at hA
  have q1:qk 0 0 = true:=by rw [e9];rfl
  iterate 2 (try cbv;repeat ((first | with_reducible apply next_at hA | rw [q1] | (refine callo_at hA [1] hq ⟨rfl,rfl,rfl,rfl,rfl,rfl,rfl⟩ ?_;rintro _ _ ⟨rfl,rfl⟩) | (refine callo_at hA [0,1] hf ⟨rfl,rfl,rfl,rfl,rfl,rfl,rfl⟩ ?_;rintro _ _ ⟨rfl,rfl⟩));cbv))
  try simp (maxSteps:=4000000) only [nc] at *
  exact keep_is hA [0,1] ⟨rfl,rfl,rfl,rfl,rfl,rfl,rfl,rfl⟩ ⟨rfl,rfl⟩
 ·rw [if_pos rfl] at hq
  rw [if_pos rfl]
  generalize ((a + 1:Nat):Int) = y at *
  generalize ((a:Nat):Int) = z at *
  refine speco_of Tryz.func84 rfl (by kernel_rfl) (by kernel_rfl) (by kernel_rfl) fun qa qb qc qd qe qg qh qi qj qk ql qm qn qo qp qq qt qu qv qw qx qy qz va vc vd ve vf vg vh vj vk vl vm vn vo vp vq vr vt vu vv vw hA=>?_
  obtain ⟨e1,e2,e3,e4,e5,e6,e7,e8,e9⟩:=ar_at hA
  have q1:qk 0 0 = true:=by rw [e9];rfl
  iterate 2 (try cbv;repeat ((first | with_reducible apply next_at hA | rw [q1] | (refine callo_at hA [1] hq ⟨rfl,rfl,rfl,rfl,rfl,rfl,rfl⟩ ?_;rintro _ _ ⟨rfl,rfl⟩));cbv))
  try simp (maxSteps:=4000000) only [nc] at *
  exact keep_is hA [0,1] ⟨rfl,rfl,rfl,rfl,rfl,rfl,rfl,rfl⟩ ⟨rfl,rfl⟩
theorem want_err (T:List (List D)) (e p z:Int) (he:e ≠ 0) (s:ByteArray):SpecO 84 [.ptr 0 0,vs s] (eyB e p T z) (fun res os=>res = [] ∧ os = eyB e p T z):=by
 unfold eyB
 refine speco_of Tryz.func84 rfl (by kernel_rfl) (by kernel_rfl) (by kernel_rfl) fun qa qb qc qd qe qg qh qi qj qk ql qm qn qo qp qq qt qu qv qw qx qy qz va vc vd ve vf vg vh vj vk vl vm vn vo vp vq vr vt vu vv vw hA=>?_
 obtain ⟨e1,e2,e3,e4,e5,e6,e7,e8,e9⟩:=ar_at hA
 have q1:qk e 0 = false:=by rw [e9];exact decide_eq_false he
 iterate 2 (try cbv;repeat ((first | with_reducible apply next_at hA | rw [q1]);cbv))
 try simp (maxSteps:=4000000) only [nc] at *
 exact keep_is hA [0,1] ⟨rfl,rfl,rfl,rfl,rfl,rfl,rfl,rfl⟩ ⟨rfl,rfl⟩
theorem SpecO.reread {f:Nat} {vs:List V} {os:List O} {Q Q2:List V → List O → Prop} (h:SpecO f vs os Q) (hQ:∀ res os2,Q res os2 → ∃ res2,Q2 res2 os2 ∧ ∀ (I:Nat → Nat → Prop) (w:World) (g:Nat → Value) (us:List Value),AtVs I w g us res → AtVs I w g us res2):SpecO f vs os Q2 :=
 ⟨h.1,fun I w g args hr=>(h.2 I w g args hr).mono fun e w' ⟨us,res,os2,I',g',e1,e2,e3⟩=>by
  obtain ⟨res2,q,hv⟩:=hQ res os2 e2
  exact ⟨us,res2,os2,I',g',e1,q,⟨e3.im,e3.lt,e3.fr,e3.kp,e3.lo,e3.st,e3.obj,e3.dis,e3.out,hv _ _ _ _ e3.tmp,e3.dfr⟩⟩⟩
theorem nil4 {I:Nat → Nat → Prop} {w:World} {g:Nat → Value} {us:List Value} {a b c:V} {z:Nat} (h:AtVs I w g us [.ag [a,b,c,.em]]):AtVs I w g us [.ag [a,b,c,.d (.sl z [])]] :=
 h.reset (i:=0) fun v hv=>by
  have h4:=h.2 0 v _ hv rfl
  obtain ⟨ks,rfl,h5⟩:=h4.unag
  exact atV_ag (h5.reset (i:=3) fun v hv=>by rw [(h5.2 3 v _ hv rfl).unem];exact .d (.nil _ _ _))
theorem SpecO.nil4 {f:Nat} {vs:List V} {os os':List O} {a b c:V} {z:Nat} (h:SpecO f vs os (fun res os2=>res = [.ag [a,b,c,.em]] ∧ os2 = os')):SpecO f vs os (fun res os2=>res = [.ag [a,b,c,.d (.sl z [])]] ∧ os2 = os') :=
 h.reread fun res os2 ⟨h1,h2⟩=>⟨_,⟨rfl,h2⟩,fun I w g us hv=>Vm.nil4 (h1 ▸ hv)⟩
theorem zero_c:ofD (cT zeroTy) = [.d (.sc (.int .u8 0)),.d (.sc (.string ⟨#[]⟩)),.d (.sc (.int .i64 0)),.d (.sl 4 [])]:=by
 unfold zeroTy
 rw [cT,rT]
 rfl
theorem whole_err (T:List (List D)) (e p z L:Int) (he:e ≠ 0):SpecO 38 [.ptr 0 0,vi .i64 L] (eyB e p T z) (fun res os=>res = [.ag (ofD (cT zeroTy))] ∧ os = eyB e p T z):=by
 unfold eyB
 rw [zero_c]
 refine SpecO.nil4 ?_
 refine speco_of Tryz.func38 rfl (by kernel_rfl) (by kernel_rfl) (by kernel_rfl) fun qa qb qc qd qe qg qh qi qj qk ql qm qn qo qp qq qt qu qv qw qx qy qz va vc vd ve vf vg vh vj vk vl vm vn vo vp vq vr vt vu vv vw hA=>?_
 obtain ⟨e1,e2,e3,e4,e5,e6,e7,e8,e9⟩:=ar_at hA
 have q1:qk e 0 = false:=by rw [e9];exact decide_eq_false he
 iterate 2 (try cbv;repeat ((first | with_reducible apply next_at hA | rw [q1]);cbv))
 try simp (maxSteps:=4000000) only [nc] at *
 exact keep_is hA [0,1] ⟨rfl,rfl,rfl,rfl,rfl,rfl,rfl,rfl⟩ ⟨rfl,rfl⟩
theorem whole_deep (ts:List Tok) (t:Tok) (a:Nat) (ht:ts[a]? = some t) (hl:ts.length ≤ 1048576) (L:Int) (hL:200 < L):SpecO 38 [.ptr 0 0,vi .i64 L] (eyB 0 0 (rTk ts) (a:Int)) (fun res os=>res = [.ag (ofD (cT zeroTy))] ∧ os = eyB 6 t.at_ (rTk ts) (a:Int)):=by
 have hf:=fail_ok ts t a ht hl 6
 unfold eyB at *
 rw [zero_c]
 refine SpecO.nil4 ?_
 generalize rTk ts = T at *
 generalize t.at_ = ta at *
 generalize ((a:Nat):Int) = z at *
 refine speco_of Tryz.func38 rfl (by kernel_rfl) (by kernel_rfl) (by kernel_rfl) fun qa qb qc qd qe qg qh qi qj qk ql qm qn qo qp qq qt qu qv qw qx qy qz va vc vd ve vf vg vh vj vk vl vm vn vo vp vq vr vt vu vv vw hA=>?_
 obtain ⟨e1,e2,e3,e4,e5,e6,e7,e8,e9⟩:=ar_at hA
 have q1:qk 0 0 = true:=by rw [e9];rfl
 have q2:qi 200 L = true:=by rw [e7];exact decide_eq_true hL
 iterate 2 (try cbv;repeat ((first | with_reducible apply next_at hA | rw [q1] | rw [q2] | (refine callo_at hA [0,1] hf ⟨rfl,rfl,rfl,rfl,rfl,rfl,rfl⟩ ?_;rintro _ _ ⟨rfl,rfl⟩));cbv))
 try simp (maxSteps:=4000000) only [nc] at *
 exact keep_is hA [0,1] ⟨rfl,rfl,rfl,rfl,rfl,rfl,rfl,rfl⟩ ⟨rfl,rfl⟩
end Go.Proofs.YtahpnackkmbmgaaGreatDoor.Vm
end
section
namespace Go.Proofs.YtahpnackkmbmgaaGreatDoor.Vm
open Go.RowKit
inductive LikeD:D → D → Prop
 | refl (d:D):LikeD d d
 | nil (n m:Nat):LikeD (.sl n []) (.sl m [])
 | sl (sz:Nat) (rows rows':List (List D)) (hl:rows.length = rows'.length) (hr:∀ r ∈ rows',r.length = sz) (hf:rows.flatten.length = rows'.flatten.length)
   (h:∀ (i:Nat) (d d':D),rows.flatten[i]? = some d → rows'.flatten[i]? = some d' → LikeD d d'):LikeD (.sl sz rows) (.sl sz rows')
theorem LikeD.at {d d':D} (h:LikeD d d'):∀ {I:Nat → Nat → Prop} {w:World} {v:Value},AtD I w v d → AtD I w v d':=by
 induction h with
 | refl d=>exact fun h=>h
 | nil n m=>exact fun h=>h.empty m
 | sl sz rows rows' hl hr hf _ ih =>
  intro I w v h
  generalize hd:D.sl sz rows = d at h
  cases h with
  | sc v hv=>cases hd
  | nil A cap sz2 =>
   injection hd with e1 e2
   subst e2
   have:rows' = []:=List.eq_nil_of_length_eq_zero (by rw [← hl];rfl)
   subst this
   exact .nil _ _ _
  | sl b off cap sz2 rows2 us hcap hI hr2 hlen hc hdd =>
   injection hd with e1 e2
   subst e1
   subst e2
   rw [hl]
   refine .sl b off cap sz rows' us (by omega) (by rw [← hl];exact hI) hr (by rw [← hl];exact hlen) hc fun i u d' hu hd'=>?_
   have hlt:i < rows.flatten.length:=by rw [hf];exact (List.getElem?_eq_some_iff.1 hd').1
   exact ih i _ d' (List.getElem?_eq_getElem hlt) hd' (hdd i u _ hu (List.getElem?_eq_getElem hlt))
def LikeDs (ds ds':List D):Prop:=ds.length = ds'.length ∧ ∀ (i:Nat) (d d':D),ds[i]? = some d → ds'[i]? = some d' → LikeD d d'
theorem LikeDs.at {ds ds':List D} (h:LikeDs ds ds') {I:Nat → Nat → Prop} {w:World} {us:List Value} (hu:AtDs I w us ds):AtDs I w us ds' :=
 ⟨hu.1.trans h.1,fun i u d' hui hd'=>by
  have hlt:i < ds.length:=by rw [h.1];exact (List.getElem?_eq_some_iff.1 hd').1
  exact (h.2 i _ d' (List.getElem?_eq_getElem hlt) hd').at (hu.2 i u _ hui (List.getElem?_eq_getElem hlt))⟩
inductive LikeR:R → R → Prop
 | one {d d':D} (h:LikeD d d'):LikeR (.one d) (.one d')
 | ag {ds ds':List D} (h:LikeDs ds ds'):LikeR (.ag ds) (.ag ds')
theorem LikeR.at {r r':R} (h:LikeR r r') {I:Nat → Nat → Prop} {w:World} {v:Value} (hv:AtR I w v r):AtR I w v r':=by
 cases h with
 | one h=>exact h.at hv
 | ag h=>obtain ⟨us,e,h2⟩:=hv;exact ⟨us,e,h.at h2⟩
def LikeRs:List R → List R → Prop
 | [],[]=>True
 | r :: rs,r' :: rs'=>LikeR r r' ∧ LikeRs rs rs'
 | _,_=>False
theorem LikeRs.at:∀ {rs rs':List R},LikeRs rs rs' → ∀ {I:Nat → Nat → Prop} {w:World} {us:List Value},AtRs I w us rs → AtRs I w us rs'
 | [],[],_,_,_,us,h=>h
 | r :: rs,r' :: rs',h,I,w,us,hu=>by
  match us,hu with
  | u :: us,hu=>exact ⟨h.1.at hu.1,LikeRs.at h.2 hu.2⟩
theorem Spec.like {f:Nat} {rs rs' q:List R} (h:Spec f rs q) (hl:LikeRs rs' rs):Spec f rs' q:=⟨h.1,fun I w args hI hat=>h.2 I w args hI (hl.at hat)⟩
theorem LikeRs.res:∀ {q q':List R},LikeRs q q' → ∀ {I:Nat → Nat → Prop} {w:World} {v:Value},AtRes I w v q → AtRes I w v q'
 | [],[],_,_,_,v,h=>h
 | [r],[r'],h,_,_,v,hv=>h.1.at hv
 | r :: s :: rs,r' :: s' :: rs',h,_,_,v,hv=>by
  obtain ⟨us,e,h2⟩:=hv
  exact ⟨us,e,h.at h2⟩
theorem Spec.likeq {f:Nat} {rs q q':List R} (h:Spec f rs q) (hl:LikeRs q q'):Spec f rs q':=h.mono fun I w v hv=>hl.res hv
theorem LikeR.same (r:R):LikeR r r:=by
 cases r with
 | one x=>exact .one (.refl _)
 | ag xs=>exact .ag ⟨rfl,fun i d d' h h'=>by rw [h] at h';cases h';exact .refl _⟩
end Go.Proofs.YtahpnackkmbmgaaGreatDoor.Vm
end
section
namespace Go.Proofs.YtahpnackkmbmgaaGreatDoor.Vm
open Go.RowKit
set_option maxRecDepth 100000
set_option maxHeartbeats 4000000
abbrev noS:ByteArray:=⟨#[]⟩
abbrev lfT (op:Int):Ty:=.mk op noS 0 []
def lf0 (op:Int):List D:=[.sc (.int .u8 op),.sc (.string noS),.sc (.int .i64 0),.sl 0 []]
theorem lf0_like (op:Int):LikeR (.ag (lf0 op)) (.ag [.sc (.int .u8 op),.sc (.string noS),.sc (.int .i64 0),.sl 4 []]) :=
 .ag ⟨rfl,fun i d d' h h'=>by
  match i,h,h' with
  | 0,h,h'=>cases h;cases h';exact .refl _
  | 1,h,h'=>cases h;cases h';exact .refl _
  | 2,h,h'=>cases h;cases h';exact .refl _
  | 3,h,h'=>cases h;cases h';exact .nil _ _⟩
theorem Int_s:Spec 81 [] [.ag (cT (lfT 1))]:=by
 rw [cT,rT]
 refine Spec.likeq (q:=[.ag (lf0 1)]) ?_ ⟨lf0_like 1,trivial⟩
 unfold lf0
 refine spec_of Tryz.func81 rfl (by kernel_rfl) (by kernel_rfl) (by kernel_rfl) fun qa qb qc qd qe qg qh qi qj qk ql qm qn qo qp qq qt qu qv qw qx qy qz va vc vd ve vf vg vh vj vk vl vm vn vo vp vq vr vt vu vv vw hA=>?_
 iterate 2 (try cbv;repeat ((first | with_reducible apply next_at hA);cbv))
 try simp (maxSteps:=4000000) only [nc] at *
theorem Bool_s:Spec 82 [] [.ag (cT (lfT 2))]:=by
 rw [cT,rT]
 refine Spec.likeq (q:=[.ag (lf0 2)]) ?_ ⟨lf0_like 2,trivial⟩
 unfold lf0
 refine spec_of Tryz.func82 rfl (by kernel_rfl) (by kernel_rfl) (by kernel_rfl) fun qa qb qc qd qe qg qh qi qj qk ql qm qn qo qp qq qt qu qv qw qx qy qz va vc vd ve vf vg vh vj vk vl vm vn vo vp vq vr vt vu vv vw hA=>?_
 iterate 2 (try cbv;repeat ((first | with_reducible apply next_at hA);cbv))
 try simp (maxSteps:=4000000) only [nc] at *
theorem Dyn_s:Spec 83 [] [.ag (cT (lfT 3))]:=by
 rw [cT,rT]
 refine Spec.likeq (q:=[.ag (lf0 3)]) ?_ ⟨lf0_like 3,trivial⟩
 unfold lf0
 refine spec_of Tryz.func83 rfl (by kernel_rfl) (by kernel_rfl) (by kernel_rfl) fun qa qb qc qd qe qg qh qi qj qk ql qm qn qo qp qq qt qu qv qw qx qy qz va vc vd ve vf vg vh vj vk vl vm vn vo vp vq vr vt vu vv vw hA=>?_
 iterate 2 (try cbv;repeat ((first | with_reducible apply next_at hA);cbv))
 try simp (maxSteps:=4000000) only [nc] at *
theorem Rec_s (t:Ty) (h:t.parts.length ≤ 1048576):Spec 86 [.ag (cT t)] [.ag (cT (.mk 5 noS 0 [t]))]:=by
 have hc:=copied_s t h
 rw [show cT (.mk 5 noS 0 [t]) = [.sc (.int .u8 5),.sc (.string noS),.sc (.int .i64 0),.sl 4 [cT t]] by rw [cT,rT,rT]]
 obtain ⟨a0,a1,a2,a3,ha⟩:=cT_four t
 rw [ha] at hc ⊢
 refine spec_of Tryz.func86 rfl (by kernel_rfl) (by kernel_rfl) (by kernel_rfl) fun qa qb qc qd qe qg qh qi qj qk ql qm qn qo qp qq qt qu qv qw qx qy qz va vc vd ve vf vg vh vj vk vl vm vn vo vp vq vr vt vu vv vw hA=>?_
 iterate 2 (try cbv;repeat ((first | with_reducible apply next_at hA | refine call_at hA _ hc rfl ?_ | refine calm_at hA _ hc ?_ | refine lit_at hA true ?_);cbv))
 try simp (maxSteps:=4000000) only [nc] at *
theorem Vnt_s (t:Ty) (h:t.parts.length ≤ 1048576):Spec 87 [.ag (cT t)] [.ag (cT (.mk 6 noS 0 [t]))]:=by
 have hc:=copied_s t h
 rw [show cT (.mk 6 noS 0 [t]) = [.sc (.int .u8 6),.sc (.string noS),.sc (.int .i64 0),.sl 4 [cT t]] by rw [cT,rT,rT]]
 obtain ⟨a0,a1,a2,a3,ha⟩:=cT_four t
 rw [ha] at hc ⊢
 refine spec_of Tryz.func87 rfl (by kernel_rfl) (by kernel_rfl) (by kernel_rfl) fun qa qb qc qd qe qg qh qi qj qk ql qm qn qo qp qq qt qu qv qw qx qy qz va vc vd ve vf vg vh vj vk vl vm vn vo vp vq vr vt vu vv vw hA=>?_
 iterate 2 (try cbv;repeat ((first | with_reducible apply next_at hA | refine call_at hA _ hc rfl ?_ | refine calm_at hA _ hc ?_ | refine lit_at hA true ?_);cbv))
 try simp (maxSteps:=4000000) only [nc] at *
theorem Fun_s (t u:Ty) (h:t.parts.length ≤ 1048576) (hu:u.parts.length ≤ 1048576):Spec 65 [.ag (cT t),.ag (cT u)] [.ag (cT (.mk 4 noS 0 [t,u]))]:=by
 have hc:=copied_s t h
 have hc2:=copied_s u hu
 rw [show cT (.mk 4 noS 0 [t,u]) = [.sc (.int .u8 4),.sc (.string noS),.sc (.int .i64 0),.sl 4 [cT t,cT u]] by rw [cT,rT,rT,rT]]
 obtain ⟨a0,a1,a2,a3,ha⟩:=cT_four t
 obtain ⟨b0,b1,b2,b3,hb⟩:=cT_four u
 rw [ha] at hc ⊢
 rw [hb] at hc2 ⊢
 refine spec_of Tryz.func65 rfl (by kernel_rfl) (by kernel_rfl) (by kernel_rfl) fun qa qb qc qd qe qg qh qi qj qk ql qm qn qo qp qq qt qu qv qw qx qy qz va vc vd ve vf vg vh vj vk vl vm vn vo vp vq vr vt vu vv vw hA=>?_
 iterate 2 (try cbv;repeat ((first | with_reducible apply next_at hA | refine call_at hA _ hc rfl ?_ | refine calm_at hA _ hc ?_ | refine call_at hA _ hc2 rfl ?_ | refine calm_at hA _ hc2 ?_ | refine lit_at hA true ?_);cbv))
 try simp (maxSteps:=4000000) only [nc] at *
theorem Join_s (fs:List (ByteArray × Ty)) (tl:Ty) (hn:fs.length ≤ 1048576) (htl:tl.parts.length ≤ 1048576) (hf:∀ f ∈ fs,f.2.parts.length ≤ 1048576):Spec 75 [.one (.sl 5 (rF fs)),.ag (cT tl)] [.ag (cT (rowS fs tl))]:=by
 have hct:=copied_s tl htl
 have hj:=joinD_is tl fs
 have hcf:∀ r ∈ rF fs,∃ nm c0 c1 c2 c3,r = [nm,c0,c1,c2,c3] ∧ Spec 89 [.ag [c0,c1,c2,c3]] [.ag [c0,c1,c2,c3]]:=fun r hr=>by
  obtain ⟨f,hf0,rfl⟩:=List.mem_map.1 hr
  have h3:=copied_s f.2 (hf f hf0)
  obtain ⟨c0,c1,c2,c3,hcc⟩:=cT_four f.2
  rw [hcc] at h3
  exact ⟨_,c0,c1,c2,c3,by show D.sc _ :: cT f.2 = _;rw [hcc],h3⟩
 obtain ⟨q0,q1,q2,q3,hq⟩:=cT_four tl
 rw [hq] at hct hj ⊢
 have hJ:=join_s (rF fs) q0 q1 q2 q3 (by rw [rF_len];omega) hct hcf
 rw [hj] at hJ
 exact hJ
abbrev PE:=Nat × Int
def tk0:Tok:=⟨4,noS,0,0⟩
def tkA (ts:List Tok) (a:Nat):Tok:=(ts[a]?).getD tk0
def skB (ts:List Tok) (s:ByteArray) (p:PE):Bool:=(p.2 == 0) && isG (tkA ts p.1) s
def skP (ts:List Tok) (s:ByteArray) (p:PE):PE:=if skB ts s p = true then (p.1 + 1,0) else p
def wantP (ts:List Tok) (s:ByteArray) (p:PE):PE:=if p.2 ≠ 0 then p else if isG (tkA ts p.1) s = true then (p.1 + 1,0) else (p.1,5)
def failP (c:Int) (p:PE):PE:=if p.2 ≠ 0 then p else (p.1,c)
abbrev gInt:ByteArray:=⟨#[73,110,116]⟩
abbrev gBool:ByteArray:=⟨#[66,111,111,108]⟩
abbrev gDyn:ByteArray:=⟨#[63]⟩
abbrev gOpen:ByteArray:=⟨#[40]⟩
abbrev gShut:ByteArray:=⟨#[41]⟩
abbrev gRec:ByteArray:=⟨#[123]⟩
abbrev gRecE:ByteArray:=⟨#[125]⟩
abbrev gVnt:ByteArray:=⟨#[60]⟩
abbrev gVntE:ByteArray:=⟨#[62]⟩
abbrev gTo:ByteArray:=⟨#[45,62]⟩
abbrev gComma:ByteArray:=⟨#[44]⟩
abbrev gColon:ByteArray:=⟨#[58]⟩
abbrev gBar:ByteArray:=⟨#[124]⟩
def fieldW (rd:PE → Ty × PE) (ts:List Tok) (p:PE):(ByteArray × Ty) × PE :=
 if (tkA ts p.1).kind ≠ 1 then ((noS,zeroTy),failP 5 p)
 else (((tkA ts p.1).text,(rd (wantP ts gColon (p.1 + 1,p.2))).1),(rd (wantP ts gColon (p.1 + 1,p.2))).2)
def fieldsW (rd:PE → Ty × PE) (ts:List Tok):Nat → PE → List (ByteArray × Ty) → List (ByteArray × Ty) × PE
 | 0,p,l=>(l,p)
 | k + 1,p,l=>if skB ts gComma p = true then fieldsW rd ts k (fieldW rd ts (p.1 + 1,0)).2 (l ++ [(fieldW rd ts (p.1 + 1,0)).1]) else (l,p)
def headW (rd:PE → Ty × PE) (ts:List Tok) (p:PE):List (ByteArray × Ty) × PE :=
 if (tkA ts p.1).kind = 1 then fieldsW rd ts ts.length (fieldW rd ts p).2 [(fieldW rd ts p).1] else ([],p)
def tlW (ts:List Tok) (l:List (ByteArray × Ty)) (p:PE):Ty × PE :=
 if skB ts gBar p = true then (rowS l (lfT 9),wantP ts gDyn (p.1 + 1,0)) else (rowS l (lfT 8),p)
def rowR (rd:PE → Ty × PE) (ts:List Tok) (p:PE):Ty × PE:=tlW ts (headW rd ts p).1 (headW rd ts p).2
def atomW (rd:PE → Ty × PE) (ts:List Tok) (p:PE):Ty × PE :=
 if skB ts gInt p = true then (lfT 1,(p.1 + 1,0))
 else if skB ts gBool p = true then (lfT 2,(p.1 + 1,0))
 else if skB ts gDyn p = true then (lfT 3,(p.1 + 1,0))
 else if skB ts gOpen p = true then ((rd (p.1 + 1,0)).1,wantP ts gShut (rd (p.1 + 1,0)).2)
 else if skB ts gRec p = true then (.mk 5 noS 0 [(rowR rd ts (p.1 + 1,0)).1],wantP ts gRecE (rowR rd ts (p.1 + 1,0)).2)
 else if skB ts gVnt p = true then (.mk 6 noS 0 [(rowR rd ts (p.1 + 1,0)).1],wantP ts gVntE (rowR rd ts (p.1 + 1,0)).2)
 else (zeroTy,failP 5 p)
def wholeW (ts:List Tok):Nat → PE → Ty × PE
 | 0,p=>(zeroTy,failP 6 p)
 | n + 1,p =>
  if p.2 ≠ 0 then (zeroTy,p)
  else if skB ts gTo (atomW (wholeW ts n) ts p).2 = true then
   (.mk 4 noS 0 [(atomW (wholeW ts n) ts p).1,(wholeW ts n ((atomW (wholeW ts n) ts p).2.1 + 1,0)).1],(wholeW ts n ((atomW (wholeW ts n) ts p).2.1 + 1,0)).2)
  else atomW (wholeW ts n) ts p
def EndsT (ts:List Tok):Prop:=∀ a,a < ts.length → (tkA ts a).kind ≠ 4 → a + 1 < ts.length
theorem tkA_is {ts:List Tok} {a:Nat} (h:a < ts.length):ts[a]? = some (tkA ts a):=by
 unfold tkA
 rw [List.getElem?_eq_getElem h]
 rfl
theorem isG_kind {t:Tok} {s:ByteArray} (h:isG t s = true):t.kind = 3:=by
 unfold isG at h
 rw [Bool.and_eq_true,beq_iff_eq] at h
 exact h.1
theorem skB_at {ts:List Tok} {s:ByteArray} {p:PE} (hE:EndsT ts) (hp:p.1 < ts.length) (h:skB ts s p = true):p.2 = 0 ∧ p.1 + 1 < ts.length:=by
 unfold skB at h
 rw [Bool.and_eq_true,beq_iff_eq] at h
 exact ⟨h.1,hE _ hp (by rw [isG_kind h.2];decide)⟩
theorem wantP_lt {ts:List Tok} {s:ByteArray} {p:PE} (hE:EndsT ts) (hp:p.1 < ts.length):(wantP ts s p).1 < ts.length ∧ p.1 ≤ (wantP ts s p).1 ∧ ((wantP ts s p).2 = 0 → p.2 = 0 ∧ (wantP ts s p).1 = p.1 + 1):=by
 unfold wantP
 by_cases h0:p.2 ≠ 0
 ·rw [if_pos h0]
  exact ⟨hp,Nat.le_refl _,fun h=>absurd h h0⟩
 ·rw [if_neg h0]
  by_cases h1:isG (tkA ts p.1) s = true
  ·rw [if_pos h1]
   exact ⟨hE _ hp (by rw [isG_kind h1];decide),Nat.le_succ _,fun _=>⟨Decidable.not_not.1 h0,rfl⟩⟩
  ·rw [if_neg h1]
   exact ⟨hp,Nat.le_refl _,fun h=>absurd (show (5:Int) = 0 from h) (by decide)⟩
theorem failP_at (c:Int) (hc:c ≠ 0) (p:PE):(failP c p).1 = p.1 ∧ (failP c p).2 ≠ 0:=by
 unfold failP
 by_cases h0:p.2 ≠ 0
 ·rw [if_pos h0];exact ⟨rfl,h0⟩
 ·rw [if_neg h0];exact ⟨rfl,hc⟩
structure Fit (ts:List Tok) (p:PE) (r:Ty × PE) (k:Nat):Prop where
 lo:p.1 ≤ r.2.1
 hi:r.2.1 < ts.length
 sz:r.1.parts.length + p.1 ≤ r.2.1 + 2
 ok:r.2.2 = 0 → p.2 = 0 ∧ r.1.parts.length + p.1 ≤ r.2.1 + k
 sp:SpineAll r.1
end Go.Proofs.YtahpnackkmbmgaaGreatDoor.Vm
end
section
namespace Go.Proofs.YtahpnackkmbmgaaGreatDoor.Vm
open Go.RowKit
theorem leaf_parts (op:Int):(lfT op).parts.length = 1:=by rw [parts_kids];rfl
theorem zero_parts:zeroTy.parts.length = 1:=leaf_parts 0
theorem leaf_spine (op:Int) (h:op ≠ 11):SpineAll (lfT op):=.mk (spine_end h) fun x hx=>by cases hx
theorem zero_spine:SpineAll zeroTy:=leaf_spine 0 (by decide)
theorem one_parts (op:Int) (nm:ByteArray) (n:Int) (t:Ty):(Ty.mk op nm n [t]).parts.length = 1 + t.parts.length:=by rw [parts_kids];simp only [Ty.kids,List.flatMap_cons,List.flatMap_nil,List.append_nil,List.length_cons];omega
theorem two_parts (op:Int) (nm:ByteArray) (n:Int) (t u:Ty):(Ty.mk op nm n [t,u]).parts.length = 1 + t.parts.length + u.parts.length:=by rw [parts_kids];simp only [Ty.kids,List.flatMap_cons,List.flatMap_nil,List.append_nil,List.length_cons,List.length_append];omega
theorem one_spine {op:Int} {nm:ByteArray} {n:Int} {t:Ty} (h:op ≠ 11) (ht:SpineAll t):SpineAll (.mk op nm n [t]):=.mk (spine_end h) fun x hx=>by
 cases hx with
 | head=>exact ht
 | tail _ hx=>cases hx
theorem two_spine {op:Int} {nm:ByteArray} {n:Int} {t u:Ty} (h:op ≠ 11) (ht:SpineAll t) (hu:SpineAll u):SpineAll (.mk op nm n [t,u]):=.mk (spine_end h) fun x hx=>by
 cases hx with
 | head=>exact ht
 | tail _ hx=>cases hx with
  | head=>exact hu
  | tail _ hx=>cases hx
theorem fld_snoc (l:List (ByteArray × Ty)) (f:ByteArray × Ty):fldParts (l ++ [f]) = fldParts l + (1 + f.2.parts.length):=by unfold fldParts;rw [List.map_append,List.sum_append];simp
theorem fld_len (l:List (ByteArray × Ty)):2 * l.length ≤ fldParts l ∧ ∀ f ∈ l,f.2.parts.length ≤ fldParts l:=by
 induction l with
 | nil=>exact ⟨Nat.le_refl _,fun f hf=>by cases hf⟩
 | cons a l ih =>
  have h:fldParts (a :: l) = (1 + a.2.parts.length) + fldParts l:=by unfold fldParts;simp
  have:=parts_pos a.2
  rw [h,List.length_cons]
  refine ⟨by omega,fun f hf=>?_⟩
  cases hf with
  | head=>omega
  | tail _ hf=>have:=ih.2 f hf;omega
def FitR (ts:List Tok) (rd:PE → Ty × PE):Prop:=∀ p:PE,p.1 < ts.length → Fit ts p (rd p) 0 ∧ (p.2 ≠ 0 → rd p = (zeroTy,p))
structure FitF (ts:List Tok) (p:PE) (r:(ByteArray × Ty) × PE):Prop where
 lo:p.1 ≤ r.2.1
 hi:r.2.1 < ts.length
 sz:r.1.2.parts.length + p.1 ≤ r.2.1 + 1
 sw:(tkA ts p.1).kind = 1 → r.1.2.parts.length + p.1 ≤ r.2.1
 ok:r.2.2 = 0 → p.2 = 0 ∧ r.1.2.parts.length + p.1 + 2 ≤ r.2.1
 sp:SpineAll r.1.2
theorem fit_field {ts:List Tok} {rd:PE → Ty × PE} (hE:EndsT ts) (hr:FitR ts rd) (p:PE) (hp:p.1 < ts.length):FitF ts p (fieldW rd ts p):=by
 unfold fieldW
 by_cases hk:(tkA ts p.1).kind ≠ 1
 ·rw [if_pos hk]
  obtain ⟨f1,f2⟩:=failP_at 5 (by decide) p
  exact ⟨by rw [f1];exact Nat.le_refl _,by rw [f1];exact hp,by show zeroTy.parts.length + _ ≤ _;rw [zero_parts,f1];omega,fun h=>absurd h hk,fun h=>absurd h f2,zero_spine⟩
 ·rw [if_neg hk]
  replace hk:=Decidable.not_not.1 hk
  have h1:=hE _ hp (by rw [hk];decide)
  obtain ⟨w1,w2,w3⟩:=wantP_lt (s:=gColon) (p:=(p.1 + 1,p.2)) hE h1
  generalize wantP ts gColon (p.1 + 1,p.2) = q at *
  obtain ⟨hq,hz⟩:=hr q w1
  simp only at w2 w3
  have key:(rd q).1.parts.length + p.1 ≤ (rd q).2.1:=by
   have:=hq.sz
   by_cases hq0:q.2 = 0
   ·have:=(w3 hq0).2;omega
   ·rw [hz hq0];show zeroTy.parts.length + _ ≤ q.1;rw [zero_parts];omega
  generalize rd q = r at *
  obtain ⟨a1,a2,a3,a4,a5⟩:=hq
  exact ⟨by show p.1 ≤ r.2.1;omega,a2,by show r.1.parts.length + _ ≤ r.2.1 + 1;omega,fun _=>key,fun h=>by
   have h3:=a4 h
   have h4:=w3 h3.1
   refine ⟨h4.1,?_⟩
   show r.1.parts.length + _ + _ ≤ r.2.1
   omega,a5⟩
structure FitL (ts:List Tok) (p:PE) (r:List (ByteArray × Ty) × PE):Prop where
 lo:p.1 ≤ r.2.1
 hi:r.2.1 < ts.length
 sz:fldParts r.1 + p.1 ≤ r.2.1 + 1
 ok:r.2.2 = 0 → p.2 = 0 ∧ fldParts r.1 + p.1 ≤ r.2.1
 sp:∀ f ∈ r.1,SpineAll f.2
theorem fit_fields {ts:List Tok} {rd:PE → Ty × PE} (hE:EndsT ts) (hr:FitR ts rd) (p0:PE):∀ (k:Nat) (p:PE) (l:List (ByteArray × Ty)),FitL ts p0 (l,p) → FitL ts p0 (fieldsW rd ts k p l)
 | 0,p,l,h=>h
 | k + 1,p,l,h=>by
  rw [fieldsW]
  by_cases hs:skB ts gComma p = true
  ·rw [if_pos hs]
   obtain ⟨s1,s2⟩:=skB_at hE h.hi hs
   have hf:=fit_field hE hr (p.1 + 1,0) s2
   generalize fieldW rd ts (p.1 + 1,0) = f at *
   obtain ⟨a1,a2,a3,a4,a5,a6⟩:=hf
   obtain ⟨b1,b2,b3,b4,b5⟩:=h
   simp only at *
   have b6:=b4 s1
   refine fit_fields hE hr p0 k f.2 (l ++ [f.1]) ⟨by show p0.1 ≤ f.2.1;omega,a2,?_,fun h=>⟨b6.1,?_⟩,fun x hx=>?_⟩
   ·show fldParts (l ++ [f.1]) + p0.1 ≤ f.2.1 + 1
    rw [fld_snoc];omega
   ·show fldParts (l ++ [f.1]) + p0.1 ≤ f.2.1
    rw [fld_snoc];have:=(a5 h).2;omega
   ·rcases List.mem_append.1 hx with hx | hx
    ·exact b5 x hx
    ·cases List.mem_singleton.1 hx;exact a6
  ·rw [if_neg hs];exact h
theorem fit_head {ts:List Tok} {rd:PE → Ty × PE} (hE:EndsT ts) (hr:FitR ts rd) (p:PE) (hp:p.1 < ts.length):FitL ts p (headW rd ts p):=by
 unfold headW
 by_cases hk:(tkA ts p.1).kind = 1
 ·rw [if_pos hk]
  have hf:=fit_field hE hr p hp
  generalize fieldW rd ts p = f at *
  obtain ⟨a1,a2,a3,a4,a5,a6⟩:=hf
  have e1:fldParts [f.1] = 1 + f.1.2.parts.length:=rfl
  have a7:=a4 hk
  refine fit_fields hE hr p _ _ _ ⟨a1,a2,by show fldParts [f.1] + _ ≤ f.2.1 + 1;omega,fun h=>⟨(a5 h).1,by show fldParts [f.1] + _ ≤ f.2.1;have:=(a5 h).2;omega⟩,fun x hx=>?_⟩
  cases List.mem_singleton.1 hx
  exact a6
 ·rw [if_neg hk]
  have e1:fldParts [] = 0:=rfl
  exact ⟨Nat.le_refl _,hp,by show fldParts [] + p.1 ≤ p.1 + 1;omega,fun h=>⟨h,by show fldParts [] + p.1 ≤ p.1;omega⟩,fun x hx=>by cases hx⟩
theorem fit_row {ts:List Tok} {rd:PE → Ty × PE} (hE:EndsT ts) (hr:FitR ts rd) (p:PE) (hp:p.1 < ts.length):Fit ts p (rowR rd ts p) 1:=by
 unfold rowR
 have hh:=fit_head hE hr p hp
 generalize headW rd ts p = r at *
 obtain ⟨b1,b2,b3,b4,b5⟩:=hh
 unfold tlW
 have e1:∀ o:Int,(rowS r.1 (lfT o)).parts.length = fldParts r.1 + 1:=fun o=>by rw [rowS_parts,leaf_parts]
 by_cases hs:skB ts gBar r.2 = true
 ·rw [if_pos hs]
  obtain ⟨s1,s2⟩:=skB_at hE b2 hs
  obtain ⟨w1,w2,w3⟩:=wantP_lt (s:=gDyn) (p:=(r.2.1 + 1,0)) hE s2
  have b6:=b4 s1
  generalize wantP ts gDyn (r.2.1 + 1,0) = q at *
  simp only at w2 w3
  exact ⟨by show p.1 ≤ q.1;omega,w1,by show (rowS r.1 (lfT 9)).parts.length + p.1 ≤ q.1 + 2;rw [e1];omega,fun h=>⟨b6.1,by show (rowS r.1 (lfT 9)).parts.length + p.1 ≤ q.1 + 1;rw [e1];omega⟩,rowS_spine (leaf_spine 9 (by decide)) b5⟩
 ·rw [if_neg hs]
  exact ⟨b1,b2,by show (rowS r.1 (lfT 8)).parts.length + p.1 ≤ r.2.1 + 2;rw [e1];omega,fun h=>⟨(b4 h).1,by show (rowS r.1 (lfT 8)).parts.length + p.1 ≤ r.2.1 + 1;rw [e1];have:=(b4 h).2;omega⟩,rowS_spine (leaf_spine 8 (by decide)) b5⟩
theorem fit_leaf {ts:List Tok} {p:PE} {s:ByteArray} (op:Int) (ho:op ≠ 11) (hE:EndsT ts) (hp:p.1 < ts.length) (h:skB ts s p = true):Fit ts p (lfT op,(p.1 + 1,0)) 0:=by
 obtain ⟨s1,s2⟩:=skB_at hE hp h
 exact ⟨Nat.le_succ _,s2,by show (lfT op).parts.length + p.1 ≤ p.1 + 1 + 2;rw [leaf_parts];omega,fun _=>⟨s1,by show (lfT op).parts.length + p.1 ≤ p.1 + 1 + 0;rw [leaf_parts];omega⟩,leaf_spine op ho⟩
theorem fit_shut {ts:List Tok} {p:PE} {s c:ByteArray} (op:Int) (ho:op ≠ 11) (hE:EndsT ts) (hp:p.1 < ts.length) (h:skB ts s p = true) {r:Ty × PE} (hr:Fit ts (p.1 + 1,0) r 1):Fit ts p (.mk op noS 0 [r.1],wantP ts c r.2) 0:=by
 obtain ⟨s1,s2⟩:=skB_at hE hp h
 obtain ⟨a1,a2,a3,a4,a5⟩:=hr
 obtain ⟨w1,w2,w3⟩:=wantP_lt (s:=c) (p:=r.2) hE a2
 simp only at a1 a3 a4
 exact ⟨by show p.1 ≤ (wantP ts c r.2).1;omega,w1,by show (Ty.mk op noS 0 [r.1]).parts.length + p.1 ≤ (wantP ts c r.2).1 + 2;rw [one_parts];omega,fun h=>⟨s1,by
  show (Ty.mk op noS 0 [r.1]).parts.length + p.1 ≤ (wantP ts c r.2).1 + 0
  have h3:=w3 h
  have h4:=a4 h3.1
  rw [one_parts];omega⟩,one_spine ho a5⟩
theorem fit_atom {ts:List Tok} {rd:PE → Ty × PE} (hE:EndsT ts) (hr:FitR ts rd) (p:PE) (hp:p.1 < ts.length):Fit ts p (atomW rd ts p) 0:=by
 unfold atomW
 by_cases h1:skB ts gInt p = true
 ·rw [if_pos h1];exact fit_leaf 1 (by decide) hE hp h1
 rw [if_neg h1]
 by_cases h2:skB ts gBool p = true
 ·rw [if_pos h2];exact fit_leaf 2 (by decide) hE hp h2
 rw [if_neg h2]
 by_cases h3:skB ts gDyn p = true
 ·rw [if_pos h3];exact fit_leaf 3 (by decide) hE hp h3
 rw [if_neg h3]
 by_cases h4:skB ts gOpen p = true
 ·rw [if_pos h4]
  obtain ⟨s1,s2⟩:=skB_at hE hp h4
  obtain ⟨hq,_⟩:=hr (p.1 + 1,0) s2
  generalize rd (p.1 + 1,0) = r at *
  obtain ⟨a1,a2,a3,a4,a5⟩:=hq
  obtain ⟨w1,w2,w3⟩:=wantP_lt (s:=gShut) (p:=r.2) hE a2
  simp only at a1 a3 a4
  exact ⟨by show p.1 ≤ (wantP ts gShut r.2).1;omega,w1,by show r.1.parts.length + p.1 ≤ (wantP ts gShut r.2).1 + 2;omega,fun h=>⟨s1,by
   show r.1.parts.length + p.1 ≤ (wantP ts gShut r.2).1 + 0
   have h3:=w3 h
   have h4:=a4 h3.1
   omega⟩,a5⟩
 rw [if_neg h4]
 by_cases h5:skB ts gRec p = true
 ·rw [if_pos h5];exact fit_shut 5 (by decide) hE hp h5 (fit_row hE hr (p.1 + 1,0) (skB_at hE hp h5).2)
 rw [if_neg h5]
 by_cases h6:skB ts gVnt p = true
 ·rw [if_pos h6];exact fit_shut 6 (by decide) hE hp h6 (fit_row hE hr (p.1 + 1,0) (skB_at hE hp h6).2)
 rw [if_neg h6]
 obtain ⟨f1,f2⟩:=failP_at 5 (by decide) p
 exact ⟨by rw [f1];exact Nat.le_refl _,by rw [f1];exact hp,by show zeroTy.parts.length + _ ≤ _;rw [zero_parts,f1];omega,fun h=>absurd h f2,zero_spine⟩
theorem fit_whole {ts:List Tok} (hE:EndsT ts):∀ n:Nat,FitR ts (wholeW ts n)
 | 0,p,hp=>by
  rw [wholeW]
  obtain ⟨f1,f2⟩:=failP_at 6 (by decide) p
  refine ⟨⟨by rw [f1];exact Nat.le_refl _,by rw [f1];exact hp,by show zeroTy.parts.length + _ ≤ _;rw [zero_parts,f1];omega,fun h=>absurd h f2,zero_spine⟩,fun h=>?_⟩
  unfold failP
  rw [if_pos h]
 | n + 1,p,hp=>by
  have ih:=fit_whole hE n
  rw [wholeW]
  by_cases h0:p.2 ≠ 0
  ·rw [if_pos h0]
   exact ⟨⟨Nat.le_refl _,hp,by show zeroTy.parts.length + p.1 ≤ p.1 + 2;rw [zero_parts];omega,fun h=>absurd h h0,zero_spine⟩,fun _=>rfl⟩
  rw [if_neg h0]
  refine ⟨?_,fun h=>absurd h h0⟩
  have ha:=fit_atom hE ih p hp
  generalize atomW (wholeW ts n) ts p = r at *
  by_cases hs:skB ts gTo r.2 = true
  ·rw [if_pos hs]
   obtain ⟨a1,a2,a3,a4,a5⟩:=ha
   obtain ⟨s1,s2⟩:=skB_at hE a2 hs
   obtain ⟨hq,_⟩:=ih (r.2.1 + 1,0) s2
   generalize wholeW ts n (r.2.1 + 1,0) = u at *
   obtain ⟨b1,b2,b3,b4,b5⟩:=hq
   have a6:=a4 s1
   simp only at b1 b3 b4
   exact ⟨by show p.1 ≤ u.2.1;omega,b2,by show (Ty.mk 4 noS 0 [r.1,u.1]).parts.length + p.1 ≤ u.2.1 + 2;rw [two_parts];omega,fun h=>⟨a6.1,by
    show (Ty.mk 4 noS 0 [r.1,u.1]).parts.length + p.1 ≤ u.2.1 + 0
    have h4:=(b4 h).2
    rw [two_parts];omega⟩,two_spine (by decide) a5 b5⟩
  ·rw [if_neg hs];exact ha
end Go.Proofs.YtahpnackkmbmgaaGreatDoor.Vm
end
section
namespace Go.Proofs.YtahpnackkmbmgaaGreatDoor.Vm
open Go.RowKit
set_option maxRecDepth 100000
set_option maxHeartbeats 4000000
section
abbrev SkN (T:List (List D)) (s:ByteArray) (b:Bool) (e q a e' q' a':Int):Prop:=SpecO 64 [.ptr 0 0,vs s] [.box [.ptr 1 0,.d (.sc (.int .u8 e)),.d (.sc (.int .i64 q))],.box [.d (.sl 4 T),.d (.sc (.int .i64 a))]] (fun res os=>res = [vb b] ∧ os = [.box [.ptr 1 0,.d (.sc (.int .u8 e')),.d (.sc (.int .i64 q'))],.box [.d (.sl 4 T),.d (.sc (.int .i64 a'))]])
abbrev WaN (T:List (List D)) (s:ByteArray) (e q a e' q' a':Int):Prop:=SpecO 84 [.ptr 0 0,vs s] [.box [.ptr 1 0,.d (.sc (.int .u8 e)),.d (.sc (.int .i64 q))],.box [.d (.sl 4 T),.d (.sc (.int .i64 a))]] (fun res os=>res = [] ∧ os = [.box [.ptr 1 0,.d (.sc (.int .u8 e')),.d (.sc (.int .i64 q'))],.box [.d (.sl 4 T),.d (.sc (.int .i64 a'))]])
abbrev FaN (T:List (List D)) (c:Int) (e q a e' q' a':Int):Prop:=SpecO 62 [.ptr 0 0,vi .u8 c] [.box [.ptr 1 0,.d (.sc (.int .u8 e)),.d (.sc (.int .i64 q))],.box [.d (.sl 4 T),.d (.sc (.int .i64 a))]] (fun res os=>res = [] ∧ os = [.box [.ptr 1 0,.d (.sc (.int .u8 e')),.d (.sc (.int .i64 q'))],.box [.d (.sl 4 T),.d (.sc (.int .i64 a'))]])
abbrev TyN (f:Nat) (T:List (List D)) (L:Int) (x:List V) (e q a e' q' a':Int):Prop:=SpecO f [.ptr 0 0,vi .i64 L] [.box [.ptr 1 0,.d (.sc (.int .u8 e)),.d (.sc (.int .i64 q))],.box [.d (.sl 4 T),.d (.sc (.int .i64 a))]] (fun res os=>res = [.ag x] ∧ os = [.box [.ptr 1 0,.d (.sc (.int .u8 e')),.d (.sc (.int .i64 q'))],.box [.d (.sl 4 T),.d (.sc (.int .i64 a'))]])
section
variable {T:List (List D)} {L e q a e1 q1 a1 e2 q2 a2 e3 q3 a3:Int}
theorem atom_int (h1:SkN T gInt true e q a e1 q1 a1):TyN 63 T L (ofD (cT (lfT 1))) e q a e1 q1 a1:=by
 have hi:=Int_s
 rw [cT,rT] at hi ⊢
 refine speco_of Tryz.func63 rfl (by kernel_rfl) (by kernel_rfl) (by kernel_rfl) fun qa qb qc qd qe qg qh qi qj qk ql qm qn qo qp qq qt qu qv qw qx qy qz va vc vd ve vf vg vh vj vk vl vm vn vo vp vq vr vt vu vv vw hA=>?_
 iterate 2 (try cbv;repeat ((first | with_reducible apply next_at hA | refine call_at hA _ hi rfl ?_ | refine calm_at hA _ hi ?_ | (refine callo_at hA [0,1] h1 ⟨rfl,rfl,rfl,rfl,rfl,rfl,rfl⟩ ?_;rintro _ _ ⟨rfl,rfl⟩));cbv))
 try simp (maxSteps:=4000000) only [nc] at *
 exact keep_is hA [0,1] ⟨rfl,rfl,rfl,rfl,rfl,rfl,rfl,rfl⟩ ⟨rfl,rfl⟩
theorem atom_bool (h1:SkN T gInt false e q a e q a) (h2:SkN T gBool true e q a e1 q1 a1):TyN 63 T L (ofD (cT (lfT 2))) e q a e1 q1 a1:=by
 have hi:=Bool_s
 rw [cT,rT] at hi ⊢
 refine speco_of Tryz.func63 rfl (by kernel_rfl) (by kernel_rfl) (by kernel_rfl) fun qa qb qc qd qe qg qh qi qj qk ql qm qn qo qp qq qt qu qv qw qx qy qz va vc vd ve vf vg vh vj vk vl vm vn vo vp vq vr vt vu vv vw hA=>?_
 iterate 2 (try cbv;repeat ((first | with_reducible apply next_at hA | refine call_at hA _ hi rfl ?_ | refine calm_at hA _ hi ?_ | (refine callo_at hA [0,1] h1 ⟨rfl,rfl,rfl,rfl,rfl,rfl,rfl⟩ ?_;rintro _ _ ⟨rfl,rfl⟩) | (refine callo_at hA [0,1] h2 ⟨rfl,rfl,rfl,rfl,rfl,rfl,rfl⟩ ?_;rintro _ _ ⟨rfl,rfl⟩));cbv))
 try simp (maxSteps:=4000000) only [nc] at *
 exact keep_is hA [0,1] ⟨rfl,rfl,rfl,rfl,rfl,rfl,rfl,rfl⟩ ⟨rfl,rfl⟩
theorem atom_dyn (h1:SkN T gInt false e q a e q a) (h2:SkN T gBool false e q a e q a) (h3:SkN T gDyn true e q a e1 q1 a1):TyN 63 T L (ofD (cT (lfT 3))) e q a e1 q1 a1:=by
 have hi:=Dyn_s
 rw [cT,rT] at hi ⊢
 refine speco_of Tryz.func63 rfl (by kernel_rfl) (by kernel_rfl) (by kernel_rfl) fun qa qb qc qd qe qg qh qi qj qk ql qm qn qo qp qq qt qu qv qw qx qy qz va vc vd ve vf vg vh vj vk vl vm vn vo vp vq vr vt vu vv vw hA=>?_
 iterate 2 (try cbv;repeat ((first | with_reducible apply next_at hA | refine call_at hA _ hi rfl ?_ | refine calm_at hA _ hi ?_ | (refine callo_at hA [0,1] h1 ⟨rfl,rfl,rfl,rfl,rfl,rfl,rfl⟩ ?_;rintro _ _ ⟨rfl,rfl⟩) | (refine callo_at hA [0,1] h2 ⟨rfl,rfl,rfl,rfl,rfl,rfl,rfl⟩ ?_;rintro _ _ ⟨rfl,rfl⟩) | (refine callo_at hA [0,1] h3 ⟨rfl,rfl,rfl,rfl,rfl,rfl,rfl⟩ ?_;rintro _ _ ⟨rfl,rfl⟩));cbv))
 try simp (maxSteps:=4000000) only [nc] at *
 exact keep_is hA [0,1] ⟨rfl,rfl,rfl,rfl,rfl,rfl,rfl,rfl⟩ ⟨rfl,rfl⟩
theorem atom_open {t:Ty} (hL:0 ≤ L) (hL2:L ≤ 1048576) (h1:SkN T gInt false e q a e q a) (h2:SkN T gBool false e q a e q a) (h3:SkN T gDyn false e q a e q a) (h4:SkN T gOpen true e q a e1 q1 a1) (hw:TyN 38 T (L + 1) (ofD (cT t)) e1 q1 a1 e2 q2 a2) (hn:WaN T gShut e2 q2 a2 e3 q3 a3):TyN 63 T L (ofD (cT t)) e q a e3 q3 a3:=by
 obtain ⟨c0,c1,c2,c3,hc⟩:=cT_four t
 rw [hc] at hw ⊢
 obtain ⟨L1,hL1⟩:∃ L1,L1 = L + 1:=⟨_,rfl⟩
 rw [← hL1] at hw
 refine speco_of Tryz.func63 rfl (by kernel_rfl) (by kernel_rfl) (by kernel_rfl) fun qa qb qc qd qe qg qh qi qj qk ql qm qn qo qp qq qt qu qv qw qx qy qz va vc vd ve vf vg vh vj vk vl vm vn vo vp vq vr vt vu vv vw hA=>?_
 obtain ⟨ee1,ee2,e3,e4,e5,e6,e7,e8,e9⟩:=ar_at hA
 have g1:qa .i64 (qb L 1) = L1:=by rw [ee1,ee2,IntWalk.i64_in _ (by omega)];exact hL1.symm
 iterate 2 (try cbv;repeat ((first | with_reducible apply next_at hA | rw [g1] | (refine callo_at hA [0,1] h1 ⟨rfl,rfl,rfl,rfl,rfl,rfl,rfl⟩ ?_;rintro _ _ ⟨rfl,rfl⟩) | (refine callo_at hA [0,1] h2 ⟨rfl,rfl,rfl,rfl,rfl,rfl,rfl⟩ ?_;rintro _ _ ⟨rfl,rfl⟩) | (refine callo_at hA [0,1] h3 ⟨rfl,rfl,rfl,rfl,rfl,rfl,rfl⟩ ?_;rintro _ _ ⟨rfl,rfl⟩) | (refine callo_at hA [0,1] h4 ⟨rfl,rfl,rfl,rfl,rfl,rfl,rfl⟩ ?_;rintro _ _ ⟨rfl,rfl⟩) | (refine callo_at hA [0,1] hw ⟨rfl,rfl,rfl,rfl,rfl,rfl,rfl⟩ ?_;rintro _ _ ⟨rfl,rfl⟩) | (refine callo_at hA [0,1] hn ⟨rfl,rfl,rfl,rfl,rfl,rfl,rfl⟩ ?_;rintro _ _ ⟨rfl,rfl⟩));cbv))
 try simp (maxSteps:=4000000) only [nc] at *
 exact keep_is hA [0,1] ⟨rfl,rfl,rfl,rfl,rfl,rfl,rfl,rfl⟩ ⟨rfl,rfl⟩
theorem atom_rec {t:Ty} (ht:t.parts.length ≤ 1048576) (h1:SkN T gInt false e q a e q a) (h2:SkN T gBool false e q a e q a) (h3:SkN T gDyn false e q a e q a) (h4:SkN T gOpen false e q a e q a) (h5:SkN T gRec true e q a e1 q1 a1) (hw:TyN 85 T L (ofD (cT t)) e1 q1 a1 e2 q2 a2) (hn:WaN T gRecE e2 q2 a2 e3 q3 a3):TyN 63 T L (ofD (cT (.mk 5 noS 0 [t]))) e q a e3 q3 a3:=by
 have hr:=Rec_s t ht
 obtain ⟨c0,c1,c2,c3,hc⟩:=cT_four t
 obtain ⟨d0,d1,d2,d3,hd⟩:=cT_four (.mk 5 noS 0 [t])
 rw [hc] at hw hr
 rw [hd] at hr ⊢
 refine speco_of Tryz.func63 rfl (by kernel_rfl) (by kernel_rfl) (by kernel_rfl) fun qa qb qc qd qe qg qh qi qj qk ql qm qn qo qp qq qt qu qv qw qx qy qz va vc vd ve vf vg vh vj vk vl vm vn vo vp vq vr vt vu vv vw hA=>?_
 iterate 2 (try cbv;repeat ((first | with_reducible apply next_at hA | refine call_at hA _ hr rfl ?_ | refine calm_at hA _ hr ?_ | (refine callo_at hA [0,1] h1 ⟨rfl,rfl,rfl,rfl,rfl,rfl,rfl⟩ ?_;rintro _ _ ⟨rfl,rfl⟩) | (refine callo_at hA [0,1] h2 ⟨rfl,rfl,rfl,rfl,rfl,rfl,rfl⟩ ?_;rintro _ _ ⟨rfl,rfl⟩) | (refine callo_at hA [0,1] h3 ⟨rfl,rfl,rfl,rfl,rfl,rfl,rfl⟩ ?_;rintro _ _ ⟨rfl,rfl⟩) | (refine callo_at hA [0,1] h4 ⟨rfl,rfl,rfl,rfl,rfl,rfl,rfl⟩ ?_;rintro _ _ ⟨rfl,rfl⟩) | (refine callo_at hA [0,1] h5 ⟨rfl,rfl,rfl,rfl,rfl,rfl,rfl⟩ ?_;rintro _ _ ⟨rfl,rfl⟩) | (refine callo_at hA [0,1] hw ⟨rfl,rfl,rfl,rfl,rfl,rfl,rfl⟩ ?_;rintro _ _ ⟨rfl,rfl⟩) | (refine callo_at hA [0,1] hn ⟨rfl,rfl,rfl,rfl,rfl,rfl,rfl⟩ ?_;rintro _ _ ⟨rfl,rfl⟩));cbv))
 try simp (maxSteps:=4000000) only [nc] at *
 exact keep_is hA [0,1] ⟨rfl,rfl,rfl,rfl,rfl,rfl,rfl,rfl⟩ ⟨rfl,rfl⟩
theorem atom_vnt {t:Ty} (ht:t.parts.length ≤ 1048576) (h1:SkN T gInt false e q a e q a) (h2:SkN T gBool false e q a e q a) (h3:SkN T gDyn false e q a e q a) (h4:SkN T gOpen false e q a e q a) (h5:SkN T gRec false e q a e q a) (h6:SkN T gVnt true e q a e1 q1 a1) (hw:TyN 85 T L (ofD (cT t)) e1 q1 a1 e2 q2 a2) (hn:WaN T gVntE e2 q2 a2 e3 q3 a3):TyN 63 T L (ofD (cT (.mk 6 noS 0 [t]))) e q a e3 q3 a3:=by
 have hr:=Vnt_s t ht
 obtain ⟨c0,c1,c2,c3,hc⟩:=cT_four t
 obtain ⟨d0,d1,d2,d3,hd⟩:=cT_four (.mk 6 noS 0 [t])
 rw [hc] at hw hr
 rw [hd] at hr ⊢
 refine speco_of Tryz.func63 rfl (by kernel_rfl) (by kernel_rfl) (by kernel_rfl) fun qa qb qc qd qe qg qh qi qj qk ql qm qn qo qp qq qt qu qv qw qx qy qz va vc vd ve vf vg vh vj vk vl vm vn vo vp vq vr vt vu vv vw hA=>?_
 iterate 2 (try cbv;repeat ((first | with_reducible apply next_at hA | refine call_at hA _ hr rfl ?_ | refine calm_at hA _ hr ?_ | (refine callo_at hA [0,1] h1 ⟨rfl,rfl,rfl,rfl,rfl,rfl,rfl⟩ ?_;rintro _ _ ⟨rfl,rfl⟩) | (refine callo_at hA [0,1] h2 ⟨rfl,rfl,rfl,rfl,rfl,rfl,rfl⟩ ?_;rintro _ _ ⟨rfl,rfl⟩) | (refine callo_at hA [0,1] h3 ⟨rfl,rfl,rfl,rfl,rfl,rfl,rfl⟩ ?_;rintro _ _ ⟨rfl,rfl⟩) | (refine callo_at hA [0,1] h4 ⟨rfl,rfl,rfl,rfl,rfl,rfl,rfl⟩ ?_;rintro _ _ ⟨rfl,rfl⟩) | (refine callo_at hA [0,1] h5 ⟨rfl,rfl,rfl,rfl,rfl,rfl,rfl⟩ ?_;rintro _ _ ⟨rfl,rfl⟩) | (refine callo_at hA [0,1] h6 ⟨rfl,rfl,rfl,rfl,rfl,rfl,rfl⟩ ?_;rintro _ _ ⟨rfl,rfl⟩) | (refine callo_at hA [0,1] hw ⟨rfl,rfl,rfl,rfl,rfl,rfl,rfl⟩ ?_;rintro _ _ ⟨rfl,rfl⟩) | (refine callo_at hA [0,1] hn ⟨rfl,rfl,rfl,rfl,rfl,rfl,rfl⟩ ?_;rintro _ _ ⟨rfl,rfl⟩));cbv))
 try simp (maxSteps:=4000000) only [nc] at *
 exact keep_is hA [0,1] ⟨rfl,rfl,rfl,rfl,rfl,rfl,rfl,rfl⟩ ⟨rfl,rfl⟩
theorem atom_none (h1:SkN T gInt false e q a e q a) (h2:SkN T gBool false e q a e q a) (h3:SkN T gDyn false e q a e q a) (h4:SkN T gOpen false e q a e q a) (h5:SkN T gRec false e q a e q a) (h6:SkN T gVnt false e q a e q a) (hf:FaN T 5 e q a e1 q1 a1):TyN 63 T L (ofD (cT zeroTy)) e q a e1 q1 a1:=by
 unfold TyN
 rw [zero_c]
 refine SpecO.nil4 ?_
 refine speco_of Tryz.func63 rfl (by kernel_rfl) (by kernel_rfl) (by kernel_rfl) fun qa qb qc qd qe qg qh qi qj qk ql qm qn qo qp qq qt qu qv qw qx qy qz va vc vd ve vf vg vh vj vk vl vm vn vo vp vq vr vt vu vv vw hA=>?_
 iterate 2 (try cbv;repeat ((first | with_reducible apply next_at hA | (refine callo_at hA [0,1] h1 ⟨rfl,rfl,rfl,rfl,rfl,rfl,rfl⟩ ?_;rintro _ _ ⟨rfl,rfl⟩) | (refine callo_at hA [0,1] h2 ⟨rfl,rfl,rfl,rfl,rfl,rfl,rfl⟩ ?_;rintro _ _ ⟨rfl,rfl⟩) | (refine callo_at hA [0,1] h3 ⟨rfl,rfl,rfl,rfl,rfl,rfl,rfl⟩ ?_;rintro _ _ ⟨rfl,rfl⟩) | (refine callo_at hA [0,1] h4 ⟨rfl,rfl,rfl,rfl,rfl,rfl,rfl⟩ ?_;rintro _ _ ⟨rfl,rfl⟩) | (refine callo_at hA [0,1] h5 ⟨rfl,rfl,rfl,rfl,rfl,rfl,rfl⟩ ?_;rintro _ _ ⟨rfl,rfl⟩) | (refine callo_at hA [0,1] h6 ⟨rfl,rfl,rfl,rfl,rfl,rfl,rfl⟩ ?_;rintro _ _ ⟨rfl,rfl⟩) | (refine callo_at hA [0,1] hf ⟨rfl,rfl,rfl,rfl,rfl,rfl,rfl⟩ ?_;rintro _ _ ⟨rfl,rfl⟩));cbv))
 try simp (maxSteps:=4000000) only [nc] at *
 exact keep_is hA [0,1] ⟨rfl,rfl,rfl,rfl,rfl,rfl,rfl,rfl⟩ ⟨rfl,rfl⟩
end
end
section
section
variable {T:List (List D)} {L e q a e1 q1 a1 e2 q2 a2 e3 q3 a3:Int}
theorem whole_atom {t:Ty} (hL2:L ≤ 200) (h1:TyN 63 T L (ofD (cT t)) 0 q a e1 q1 a1) (h2:SkN T gTo false e1 q1 a1 e1 q1 a1):TyN 38 T L (ofD (cT t)) 0 q a e1 q1 a1:=by
 obtain ⟨c0,c1,c2,c3,hc⟩:=cT_four t
 rw [hc] at h1 ⊢
 refine speco_of Tryz.func38 rfl (by kernel_rfl) (by kernel_rfl) (by kernel_rfl) fun qa qb qc qd qe qg qh qi qj qk ql qm qn qo qp qq qt qu qv qw qx qy qz va vc vd ve vf vg vh vj vk vl vm vn vo vp vq vr vt vu vv vw hA=>?_
 obtain ⟨ee1,ee2,e3,e4,e5,e6,e7,e8,e9⟩:=ar_at hA
 have g1:qk 0 0 = true:=by rw [e9];rfl
 have g2:qi 200 L = false:=by rw [e7];exact decide_eq_false (by omega)
 iterate 2 (try cbv;repeat ((first | with_reducible apply next_at hA | rw [g1] | rw [g2] | (refine callo_at hA [0,1] h1 ⟨rfl,rfl,rfl,rfl,rfl,rfl,rfl⟩ ?_;rintro _ _ ⟨rfl,rfl⟩) | (refine callo_at hA [0,1] h2 ⟨rfl,rfl,rfl,rfl,rfl,rfl,rfl⟩ ?_;rintro _ _ ⟨rfl,rfl⟩));cbv))
 try simp (maxSteps:=4000000) only [nc] at *
 exact keep_is hA [0,1] ⟨rfl,rfl,rfl,rfl,rfl,rfl,rfl,rfl⟩ ⟨rfl,rfl⟩
theorem whole_fun {t u:Ty} (ht:t.parts.length ≤ 1048576) (hu:u.parts.length ≤ 1048576) (hL1:0 ≤ L) (hL2:L ≤ 200) (h1:TyN 63 T L (ofD (cT t)) 0 q a e1 q1 a1) (h2:SkN T gTo true e1 q1 a1 e2 q2 a2) (h3:TyN 38 T (L + 1) (ofD (cT u)) e2 q2 a2 e3 q3 a3):TyN 38 T L (ofD (cT (.mk 4 noS 0 [t,u]))) 0 q a e3 q3 a3:=by
 have hf:=Fun_s t u ht hu
 obtain ⟨c0,c1,c2,c3,hc⟩:=cT_four t
 obtain ⟨b0,b1,b2,b3,hb⟩:=cT_four u
 obtain ⟨d0,d1,d2,d3,hd⟩:=cT_four (.mk 4 noS 0 [t,u])
 rw [hc] at h1 hf
 rw [hb] at h3 hf
 rw [hd] at hf ⊢
 obtain ⟨L1,hL⟩:∃ L1,L1 = L + 1:=⟨_,rfl⟩
 rw [← hL] at h3
 have h3b:=SpecO.box h3 rfl
 refine speco_of Tryz.func38 rfl (by kernel_rfl) (by kernel_rfl) (by kernel_rfl) fun qa qb qc qd qe qg qh qi qj qk ql qm qn qo qp qq qt qu qv qw qx qy qz va vc vd ve vf vg vh vj vk vl vm vn vo vp vq vr vt vu vv vw hA=>?_
 obtain ⟨ee1,ee2,e3,e4,e5,e6,e7,e8,e9⟩:=ar_at hA
 have g1:qk 0 0 = true:=by rw [e9];rfl
 have g2:qi 200 L = false:=by rw [e7];exact decide_eq_false (by omega)
 have g3:qa .i64 (qb L 1) = L1:=by rw [ee1,ee2,IntWalk.i64_in _ (by omega)];exact hL.symm
 iterate 2 (try cbv;repeat ((first | with_reducible apply next_at hA | rw [g1] | rw [g2] | rw [g3] | refine call_at hA _ hf rfl ?_ | refine calm_at hA _ hf ?_ | (refine callo_at hA [0,1] h1 ⟨rfl,rfl,rfl,rfl,rfl,rfl,rfl⟩ ?_;rintro _ _ ⟨rfl,rfl⟩) | (refine callo_at hA [0,1] h2 ⟨rfl,rfl,rfl,rfl,rfl,rfl,rfl⟩ ?_;rintro _ _ ⟨rfl,rfl⟩) | (refine callx_at hA [0,1] h3b ⟨rfl,rfl,rfl,rfl,rfl,rfl,rfl⟩ ?_;rintro _ _ ⟨rfl,rfl⟩;refine ⟨?_,?_⟩;exact keepsL_cons (fun k hk=>by injection hk with hk;subst hk;rfl) (keepsL_nil _ _ _)));cbv))
 try simp (maxSteps:=4000000) only [nc] at *
 exact keep_is hA [0,1] ⟨rfl,rfl,rfl,rfl,rfl,rfl,rfl,rfl⟩ ⟨rfl,rfl⟩
theorem field_none {s0:ByteArray} {k n0 p0:Int} (hk:k ≠ 1) (hp:SpecS 19 [.ptr 0 0] [.box [.d (.sl 4 T),.d (.sc (.int .i64 a))]] (fun res os=>res = [.ag [.d (.sc (.int .u8 k)),.d (.sc (.string s0)),.d (.sc (.int .i64 n0)),.d (.sc (.int .i64 p0))]] ∧ os = [.box [.d (.sl 4 T),.d (.sc (.int .i64 a))]])) (hf:FaN T 5 e q a e1 q1 a1) :
  TyN 103 T L [.d (.sc (.string noS)),.d (.sc (.int .u8 0)),.d (.sc (.string noS)),.d (.sc (.int .i64 0)),.em] e q a e1 q1 a1:=by
 refine speco_of Tryz.func103 rfl (by kernel_rfl) (by kernel_rfl) (by kernel_rfl) fun qa qb qc qd qe qg qh qi qj qk ql qm qn qo qp qq qt qu qv qw qx qy qz va vc vd ve vf vg vh vj vk vl vm vn vo vp vq vr vt vu vv vw hA=>?_
 obtain ⟨ee1,ee2,e3,e4,e5,e6,e7,e8,e9⟩:=ar_at hA
 have g1:qk k 1 = false:=by rw [e9];exact decide_eq_false hk
 iterate 2 (try cbv;repeat ((first | with_reducible apply next_at hA | rw [g1] | (refine rd_at hA [1] hp ⟨rfl,rfl,rfl,rfl,rfl,rfl,rfl⟩ rfl ?_;rintro _ rfl) | (refine callo_at hA [0,1] hf ⟨rfl,rfl,rfl,rfl,rfl,rfl,rfl⟩ ?_;rintro _ _ ⟨rfl,rfl⟩));cbv))
 try simp (maxSteps:=4000000) only [nc] at *
 exact keep_is hA [0,1] ⟨rfl,rfl,rfl,rfl,rfl,rfl,rfl,rfl⟩ ⟨rfl,rfl⟩
theorem field_some {s0:ByteArray} {n0 p0:Int} {t:Ty} (hL1:0 ≤ L) (hL2:L ≤ 1048576) (hp:SpecS 19 [.ptr 0 0] [.box [.d (.sl 4 T),.d (.sc (.int .i64 a))]] (fun res os=>res = [.ag [.d (.sc (.int .u8 1)),.d (.sc (.string s0)),.d (.sc (.int .i64 n0)),.d (.sc (.int .i64 p0))]] ∧ os = [.box [.d (.sl 4 T),.d (.sc (.int .i64 a))]]))
  (hq:SpecO 105 [.ptr 0 0] [.box [.d (.sl 4 T),.d (.sc (.int .i64 a))]] (fun res os=>res = [.ag [.d (.sc (.int .u8 1)),.d (.sc (.string s0)),.d (.sc (.int .i64 n0)),.d (.sc (.int .i64 p0))]] ∧ os = [.box [.d (.sl 4 T),.d (.sc (.int .i64 a1))]]))
  (hn:WaN T gColon e q a1 e2 q2 a2) (hw:TyN 38 T (L + 1) (ofD (cT t)) e2 q2 a2 e3 q3 a3) :
  TyN 103 T L (.d (.sc (.string s0)) :: ofD (cT t)) e q a e3 q3 a3:=by
 obtain ⟨c0,c1,c2,c3,hc⟩:=cT_four t
 rw [hc] at hw ⊢
 obtain ⟨L1,hL⟩:∃ L1,L1 = L + 1:=⟨_,rfl⟩
 rw [← hL] at hw
 refine speco_of Tryz.func103 rfl (by kernel_rfl) (by kernel_rfl) (by kernel_rfl) fun qa qb qc qd qe qg qh qi qj qk ql qm qn qo qp qq qt qu qv qw qx qy qz va vc vd ve vf vg vh vj vk vl vm vn vo vp vq vr vt vu vv vw hA=>?_
 obtain ⟨ee1,ee2,e3,e4,e5,e6,e7,e8,e9⟩:=ar_at hA
 have g1:qk 1 1 = true:=by rw [e9];rfl
 have g3:qa .i64 (qb L 1) = L1:=by rw [ee1,ee2,IntWalk.i64_in _ (by omega)];exact hL.symm
 iterate 2 (try cbv;repeat ((first | with_reducible apply next_at hA | rw [g1] | rw [g3] | (refine rd_at hA [1] hp ⟨rfl,rfl,rfl,rfl,rfl,rfl,rfl⟩ rfl ?_;rintro _ rfl) | (refine callo_at hA [1] hq ⟨rfl,rfl,rfl,rfl,rfl,rfl,rfl⟩ ?_;rintro _ _ ⟨rfl,rfl⟩) | (refine callo_at hA [0,1] hn ⟨rfl,rfl,rfl,rfl,rfl,rfl,rfl⟩ ?_;rintro _ _ ⟨rfl,rfl⟩) | (refine callo_at hA [0,1] hw ⟨rfl,rfl,rfl,rfl,rfl,rfl,rfl⟩ ?_;rintro _ _ ⟨rfl,rfl⟩));cbv))
 try simp (maxSteps:=4000000) only [nc] at *
 exact keep_is hA [0,1] ⟨rfl,rfl,rfl,rfl,rfl,rfl,rfl,rfl⟩ ⟨rfl,rfl⟩
end
end
def cQ (ts:List Tok) (p:PE):Int:=if p.2 = 0 then 0 else (tkA ts p.1).at_
theorem cQ_0 (ts:List Tok) {p:PE} (h:p.2 = 0):cQ ts p = 0:=if_pos h
theorem cQ_1 (ts:List Tok) {p:PE} (h:p.2 ≠ 0):cQ ts p = (tkA ts p.1).at_:=if_neg h
abbrev TyS (f:Nat) (ts:List Tok) (L:Int) (x:List V) (p p':PE):Prop:=TyN f (rTk ts) L x p.2 (cQ ts p) (p.1:Int) p'.2 (cQ ts p') (p'.1:Int)
theorem skip_s (ts:List Tok) (hl:ts.length ≤ 1048576) (s:ByteArray) (p:PE) (hp:p.1 < ts.length):SkN (rTk ts) s (skB ts s p) p.2 (cQ ts p) (p.1:Int) (skP ts s p).2 (cQ ts (skP ts s p)) ((skP ts s p).1:Int):=by
 by_cases h0:p.2 = 0
 ·have h1:=skip_ok ts _ p.1 (tkA_is hp) hl s
  unfold eyB at h1
  have e1:skB ts s p = isG (tkA ts p.1) s:=by unfold skB;rw [h0];rfl
  unfold skP
  rw [e1,h0,cQ_0 ts h0]
  by_cases hb:isG (tkA ts p.1) s = true
  ·rw [if_pos hb] at h1 ⊢
   exact h1
  ·rw [if_neg hb] at h1 ⊢
   rw [h0,cQ_0 ts h0]
   exact h1
 ·have h1:=skip_err (rTk ts) p.2 (cQ ts p) (p.1:Int) h0 s
  unfold eyB at h1
  have e1:skB ts s p = false:=by unfold skB;rw [beq_false_of_ne h0];rfl
  unfold skP
  rw [e1,if_neg (by decide)]
  exact h1
theorem skip_yes {ts:List Tok} (hl:ts.length ≤ 1048576) {s:ByteArray} {p:PE} (hp:p.1 < ts.length) (h:skB ts s p = true):SkN (rTk ts) s true p.2 (cQ ts p) (p.1:Int) 0 0 ((p.1 + 1:Nat):Int):=by
 have h1:=skip_s ts hl s p hp
 unfold skP at h1
 rw [h,if_pos rfl] at h1
 exact h1
theorem skip_no {ts:List Tok} (hl:ts.length ≤ 1048576) {s:ByteArray} {p:PE} (hp:p.1 < ts.length) (h:¬ skB ts s p = true):SkN (rTk ts) s false p.2 (cQ ts p) (p.1:Int) p.2 (cQ ts p) (p.1:Int):=by
 have h1:=skip_s ts hl s p hp
 unfold skP at h1
 rw [if_neg h,show skB ts s p = false from Bool.eq_false_iff.2 h] at h1
 exact h1
theorem want_s (ts:List Tok) (hl:ts.length ≤ 1048576) (s:ByteArray) (p:PE) (hp:p.1 < ts.length):WaN (rTk ts) s p.2 (cQ ts p) (p.1:Int) (wantP ts s p).2 (cQ ts (wantP ts s p)) ((wantP ts s p).1:Int):=by
 by_cases h0:p.2 = 0
 ·have h1:=want_ok ts _ p.1 (tkA_is hp) hl s
  unfold wantP
  rw [if_neg (fun h=>h h0),h0,cQ_0 ts h0]
  by_cases hb:isG (tkA ts p.1) s = true
  ·rw [if_pos hb] at h1 ⊢
   unfold eyB at h1
   exact h1
  ·rw [if_neg hb] at h1 ⊢
   unfold eyB at h1
   exact h1
 ·have h1:=want_err (rTk ts) p.2 (cQ ts p) (p.1:Int) h0 s
  unfold eyB at h1
  unfold wantP
  rw [if_pos h0]
  exact h1
theorem fail_s (ts:List Tok) (hl:ts.length ≤ 1048576) (c:Int) (hc:c ≠ 0) (p:PE) (hp:p.1 < ts.length):FaN (rTk ts) c p.2 (cQ ts p) (p.1:Int) (failP c p).2 (cQ ts (failP c p)) ((failP c p).1:Int):=by
 by_cases h0:p.2 = 0
 ·have h1:=fail_ok ts _ p.1 (tkA_is hp) hl c
  unfold eyB at h1
  unfold failP
  rw [if_neg (fun h=>h h0),h0,cQ_0 ts h0,cQ_1 ts (p:=(p.1,c)) hc]
  exact h1
 ·have h1:=fail_err (rTk ts) p.2 (cQ ts p) (p.1:Int) c h0
  unfold eyB at h1
  unfold failP
  rw [if_pos h0]
  exact h1
theorem nil5 {I:Nat → Nat → Prop} {w:World} {g:Nat → Value} {us:List Value} {n a b c:V} {z:Nat} (h:AtVs I w g us [.ag [n,a,b,c,.em]]):AtVs I w g us [.ag [n,a,b,c,.d (.sl z [])]] :=
 h.reset (i:=0) fun v hv=>by
  have h4:=h.2 0 v _ hv rfl
  obtain ⟨ks,rfl,h5⟩:=h4.unag
  exact atV_ag (h5.reset (i:=4) fun v hv=>by rw [(h5.2 4 v _ hv rfl).unem];exact .d (.nil _ _ _))
theorem field_s {ts:List Tok} (hE:EndsT ts) (hl:ts.length ≤ 1048576) {rd:PE → Ty × PE} {L:Int} (hL1:0 ≤ L) (hL2:L ≤ 1048576) (hr:FitR ts rd) (hw:∀ q:PE,q.1 < ts.length → TyS 38 ts (L + 1) (ofD (cT (rd q).1)) q (rd q).2) (a:Nat) (hp:a < ts.length) :
  TyS 103 ts L (.d (.sc (.string (fieldW rd ts (a,0)).1.1)) :: ofD (cT (fieldW rd ts (a,0)).1.2)) (a,0) (fieldW rd ts (a,0)).2:=by
 have hpk:=Peek_s ts _ a (tkA_is hp) hl
 unfold rdB tkD at hpk
 unfold fieldW
 by_cases hk:(tkA ts a).kind = 1
 ·rw [if_neg (fun h=>h hk)]
  have h1:=hE _ hp (by rw [hk];decide)
  have hq:=Take_s ts _ a (tkA_is hp) hl
  unfold rdB tkD at hq
  rw [hk] at hpk hq
  have hn:=want_s ts hl gColon (a + 1,0) h1
  obtain ⟨w1,w2,w3⟩:=wantP_lt (s:=gColon) (p:=(a + 1,0)) hE h1
  have hwh:=hw _ w1
  exact field_some hL1 hL2 hpk hq hn hwh
 ·rw [if_pos hk]
  have hf:=fail_s ts hl 5 (by decide) (a,0) hp
  have h1:=field_none (L:=L) hk hpk hf
  unfold TyS TyN
  rw [zero_c]
  exact SpecO.reread h1 fun res os2 ⟨e1,e2⟩=>⟨_,⟨rfl,e2⟩,fun I w g us hv=>nil5 (e1 ▸ hv)⟩
theorem atom_s {ts:List Tok} (hE:EndsT ts) (hl:ts.length ≤ 65537) {rd:PE → Ty × PE} {L:Int} (hL1:0 ≤ L) (hL2:L ≤ 1048576) (hr:FitR ts rd) (hw:∀ q:PE,q.1 < ts.length → TyS 38 ts (L + 1) (ofD (cT (rd q).1)) q (rd q).2)
  (hrow:∀ a:Nat,a < ts.length → TyS 85 ts L (ofD (cT (rowR rd ts (a,0)).1)) (a,0) (rowR rd ts (a,0)).2) (p:PE) (hp:p.1 < ts.length) :
  TyS 63 ts L (ofD (cT (atomW rd ts p).1)) p (atomW rd ts p).2:=by
 have hl2:ts.length ≤ 1048576:=by omega
 unfold atomW
 by_cases h1:skB ts gInt p = true
 ·rw [if_pos h1];exact atom_int (skip_yes hl2 hp h1)
 rw [if_neg h1]
 have n1:=skip_no hl2 hp h1
 by_cases h2:skB ts gBool p = true
 ·rw [if_pos h2];exact atom_bool n1 (skip_yes hl2 hp h2)
 rw [if_neg h2]
 have n2:=skip_no hl2 hp h2
 by_cases h3:skB ts gDyn p = true
 ·rw [if_pos h3];exact atom_dyn n1 n2 (skip_yes hl2 hp h3)
 rw [if_neg h3]
 have n3:=skip_no hl2 hp h3
 by_cases h4:skB ts gOpen p = true
 ·rw [if_pos h4]
  have s2:=(skB_at hE hp h4).2
  exact atom_open hL1 hL2 n1 n2 n3 (skip_yes hl2 hp h4) (hw (p.1 + 1,0) s2) (want_s ts hl2 gShut _ (hr (p.1 + 1,0) s2).1.hi)
 rw [if_neg h4]
 have n4:=skip_no hl2 hp h4
 have hbig:∀ a:Nat,a < ts.length → (rowR rd ts (a,0)).1.parts.length ≤ 1048576 ∧ (rowR rd ts (a,0)).2.1 < ts.length:=fun a ha=>by
  obtain ⟨f1,f2,f3,f4,f5⟩:=fit_row hE hr (a,0) ha
  exact ⟨by omega,f2⟩
 by_cases h5:skB ts gRec p = true
 ·rw [if_pos h5]
  have s2:=(skB_at hE hp h5).2
  exact atom_rec (hbig _ s2).1 n1 n2 n3 n4 (skip_yes hl2 hp h5) (hrow (p.1 + 1) s2) (want_s ts hl2 gRecE _ (hbig _ s2).2)
 rw [if_neg h5]
 have n5:=skip_no hl2 hp h5
 by_cases h6:skB ts gVnt p = true
 ·rw [if_pos h6]
  have s2:=(skB_at hE hp h6).2
  exact atom_vnt (hbig _ s2).1 n1 n2 n3 n4 n5 (skip_yes hl2 hp h6) (hrow (p.1 + 1) s2) (want_s ts hl2 gVntE _ (hbig _ s2).2)
 rw [if_neg h6]
 exact atom_none n1 n2 n3 n4 n5 (skip_no hl2 hp h6) (fail_s ts hl2 5 (by decide) p hp)
def RowEnd (T:List (List D)) (y:List D) (ef qf af:Int) (e q a:Int) (R:List (List D)):Prop :=
 (SkN T gBar false e q a ef qf af ∧ Spec 75 [.one (.sl 5 R),.ag (lf0 8)] [.ag y]) ∨
 (∃ e1 q1 a1,SkN T gBar true e q a e1 q1 a1 ∧ WaN T gDyn e1 q1 a1 ef qf af ∧ Spec 75 [.one (.sl 5 R),.ag (lf0 9)] [.ag y])
theorem row_none {T:List (List D)} {L e q a ef qf af:Int} {y0 y1 y2 y3:D} {s0:ByteArray} {k n0 p0:Int} (hk:k ≠ 1) (hp:SpecS 19 [.ptr 0 0] [.box [.d (.sl 4 T),.d (.sc (.int .i64 a))]] (fun res os=>res = [.ag [.d (.sc (.int .u8 k)),.d (.sc (.string s0)),.d (.sc (.int .i64 n0)),.d (.sc (.int .i64 p0))]] ∧ os = [.box [.d (.sl 4 T),.d (.sc (.int .i64 a))]]))
  (hend:RowEnd T [y0,y1,y2,y3] ef qf af e q a []):TyN 85 T L [.d y0,.d y1,.d y2,.d y3] e q a ef qf af:=by
 unfold RowEnd at hend
 refine speco_of Tryz.func85 rfl (by kernel_rfl) (by kernel_rfl) (by kernel_rfl) fun qa qb qc qd qe qg qh qi qj qk ql qm qn qo qp qq qt qu qv qw qx qy qz va vc vd ve vf vg vh vj vk vl vm vn vo vp vq vr vt vu vv vw hA=>?_
 obtain ⟨ee1,ee2,e3,e4,e5,e6,e7,e8,e9⟩:=ar_at hA
 have g1:qk k 1 = false:=by rw [e9];exact decide_eq_false hk
 cbv
 with_reducible apply next_at hA
 cbv
 refine own_at hA 5 85 true rfl ?_
 cbv
 rcases hend with ⟨hb,hj⟩ | ⟨e1,q1,a1,hb,hn,hj⟩
 ·unfold lf0 at hj
  iterate 2 (try cbv;repeat ((first | with_reducible apply next_at hA | rw [g1] | refine call_at hA _ hj rfl ?_ | refine calm_at hA _ hj ?_ | (refine rd_at hA [1] hp ⟨rfl,rfl,rfl,rfl,rfl,rfl,rfl⟩ rfl ?_;rintro _ rfl) | (refine callo_at hA [0,1] hb ⟨rfl,rfl,rfl,rfl,rfl,rfl,rfl⟩ ?_;rintro _ _ ⟨rfl,rfl⟩));cbv))
  try simp (maxSteps:=4000000) only [nc] at *
  exact keep_is hA [0,1] ⟨rfl,rfl,rfl,rfl,rfl,rfl,rfl,rfl⟩ ⟨rfl,rfl⟩
 ·unfold lf0 at hj
  iterate 2 (try cbv;repeat ((first | with_reducible apply next_at hA | rw [g1] | refine call_at hA _ hj rfl ?_ | refine calm_at hA _ hj ?_ | (refine rd_at hA [1] hp ⟨rfl,rfl,rfl,rfl,rfl,rfl,rfl⟩ rfl ?_;rintro _ rfl) | (refine callo_at hA [0,1] hb ⟨rfl,rfl,rfl,rfl,rfl,rfl,rfl⟩ ?_;rintro _ _ ⟨rfl,rfl⟩) | (refine callo_at hA [0,1] hn ⟨rfl,rfl,rfl,rfl,rfl,rfl,rfl⟩ ?_;rintro _ _ ⟨rfl,rfl⟩));cbv))
  try simp (maxSteps:=4000000) only [nc] at *
  exact keep_is hA [0,1] ⟨rfl,rfl,rfl,rfl,rfl,rfl,rfl,rfl⟩ ⟨rfl,rfl⟩
theorem row_some {T:List (List D)} {L e q a ef qf af:Int} {y0 y1 y2 y3:D} {s0:ByteArray} {n0 p0:Int} (hp:SpecS 19 [.ptr 0 0] [.box [.d (.sl 4 T),.d (.sc (.int .i64 a))]] (fun res os=>res = [.ag [.d (.sc (.int .u8 1)),.d (.sc (.string s0)),.d (.sc (.int .i64 n0)),.d (.sc (.int .i64 p0))]] ∧ os = [.box [.d (.sl 4 T),.d (.sc (.int .i64 a))]]))
  {f0 f1 f2 f3 f4:D} {es qs as0:Int} {m0:Nat} (inv:Int → Int → Int → List (List D) → Nat → Prop)
  (hf:TyN 103 T L [.d f0,.d f1,.d f2,.d f3,.d f4] e q a es qs as0) (h0:inv es qs as0 [[f0,f1,f2,f3,f4]] m0)
  (hst:∀ (e q a:Int) (R:List (List D)) (m:Nat),inv e q a R m → R.length < 1048576 ∧ ((∃ (e1 q1 a1:Int) (c0 c1 c2 c3 c4:D) (e2 q2 a2:Int) (m2:Nat),SkN T gComma true e q a e1 q1 a1 ∧ TyN 103 T L [.d c0,.d c1,.d c2,.d c3,.d c4] e1 q1 a1 e2 q2 a2 ∧ inv e2 q2 a2 (R ++ [[c0,c1,c2,c3,c4]]) m2 ∧ m2 < m)
   ∨ (SkN T gComma false e q a e q a ∧ RowEnd T [y0,y1,y2,y3] ef qf af e q a R))):TyN 85 T L [.d y0,.d y1,.d y2,.d y3] e q a ef qf af:=by
 refine speco_of Tryz.func85 rfl (by kernel_rfl) (by kernel_rfl) (by kernel_rfl) fun qa qb qc qd qe qg qh qi qj qk ql qm qn qo qp qq qt qu qv qw qx qy qz va vc vd ve vf vg vh vj vk vl vm vn vo vp vq vr vt vu vv vw hA=>?_
 obtain ⟨ee1,ee2,e3,e4,e5,e6,e7,e8,e9⟩:=ar_at hA
 obtain ⟨r1,r2,r3,r4⟩:=row_at hA
 have g1:qk 1 1 = true:=by rw [e9];rfl
 have g2:vd [] [[f0,f1,f2,f3,f4]] = [[f0,f1,f2,f3,f4]]:=by rw [r4];rfl
 cbv
 with_reducible apply next_at hA
 cbv
 refine own_at hA 5 85 true rfl ?_
 cbv
 iterate 2 (try cbv;repeat ((first | with_reducible apply next_at hA | rw [g1] | rw [g2] | (refine rd_at hA [1] hp ⟨rfl,rfl,rfl,rfl,rfl,rfl,rfl⟩ rfl ?_;rintro _ rfl) | (refine callo_at hA [0,1] hf ⟨rfl,rfl,rfl,rfl,rfl,rfl,rfl⟩ ?_;rintro _ _ ⟨rfl,rfl⟩) | refine lit_at hA true ?_ | refine room_at hA (by simp) ?_);cbv))
 try simp (maxSteps:=4000000) only [nc] at *
 refine loop_at hA (γ:=(Int × Int × Int) × List (List D) × Nat) (fun x=>[(5,.own 3),(19,.jk)]) (fun x=>[(0,.box [.ptr 1 0,.d (.sc (.int .u8 x.1.1)),.d (.sc (.int .i64 x.1.2.1))]),(1,.box [.d (.sl 4 T),.d (.sc (.int .i64 x.1.2.2))]),(3,.row true 85 x.2.1)]) (fun x=>inv x.1.1 x.1.2.1 x.1.2.2 x.2.1 x.2.2) (fun x=>x.2.2) ((es,qs,as0),[[f0,f1,f2,f3,f4]],m0) ?_ ?_ ?_
 ·exact h0
 ·cbv
 ·intro x hinv
  obtain ⟨⟨e,q,a⟩,R,m⟩:=x
  obtain ⟨hlen,hs⟩:=hst e q a R m hinv
  rcases hs with ⟨e1,q1,a1,c0,c1,c2,c3,c4,e2,q2,a2,m2,hc,hf2,hi2,hm2⟩ | ⟨hc,hend⟩
  ·have g3:vd R [[c0,c1,c2,c3,c4]] = R ++ [[c0,c1,c2,c3,c4]]:=by rw [r4]
   obtain ⟨R2,hR2⟩:∃ R2,R2 = R ++ [[c0,c1,c2,c3,c4]]:=⟨_,rfl⟩
   rw [← hR2] at g3 hi2
   iterate 2 (try cbv;repeat ((first | with_reducible apply next_at hA | rw [g3] | (refine callo_at hA [0,1] hc ⟨rfl,rfl,rfl,rfl,rfl,rfl,rfl⟩ ?_;rintro _ _ ⟨rfl,rfl⟩) | (refine callo_at hA [0,1] hf2 ⟨rfl,rfl,rfl,rfl,rfl,rfl,rfl⟩ ?_;rintro _ _ ⟨rfl,rfl⟩) | refine lit_at hA true ?_ | (refine room_at hA (by simp only [List.length_cons,List.length_nil];omega) ?_));cbv))
   try simp (maxSteps:=4000000) only [nc] at *
   refine ⟨((e2,q2,a2),R2,m2),hi2,hm2,?_⟩
   cbv
  ·unfold RowEnd at hend
   rcases hend with ⟨hb,hj⟩ | ⟨e1,q1,a1,hb,hn,hj⟩
   ·unfold lf0 at hj
    iterate 2 (try cbv;repeat ((first | with_reducible apply next_at hA | refine call_at hA _ hj rfl ?_ | refine calm_at hA _ hj ?_ | (refine callo_at hA [0,1] hc ⟨rfl,rfl,rfl,rfl,rfl,rfl,rfl⟩ ?_;rintro _ _ ⟨rfl,rfl⟩) | (refine callo_at hA [0,1] hb ⟨rfl,rfl,rfl,rfl,rfl,rfl,rfl⟩ ?_;rintro _ _ ⟨rfl,rfl⟩));cbv))
    try simp (maxSteps:=4000000) only [nc] at *
    exact keep_is hA [0,1] ⟨rfl,rfl,rfl,rfl,rfl,rfl,rfl,rfl⟩ ⟨rfl,rfl⟩
   ·unfold lf0 at hj
    iterate 2 (try cbv;repeat ((first | with_reducible apply next_at hA | refine call_at hA _ hj rfl ?_ | refine calm_at hA _ hj ?_ | (refine callo_at hA [0,1] hc ⟨rfl,rfl,rfl,rfl,rfl,rfl,rfl⟩ ?_;rintro _ _ ⟨rfl,rfl⟩) | (refine callo_at hA [0,1] hb ⟨rfl,rfl,rfl,rfl,rfl,rfl,rfl⟩ ?_;rintro _ _ ⟨rfl,rfl⟩) | (refine callo_at hA [0,1] hn ⟨rfl,rfl,rfl,rfl,rfl,rfl,rfl⟩ ?_;rintro _ _ ⟨rfl,rfl⟩));cbv))
    try simp (maxSteps:=4000000) only [nc] at *
    exact keep_is hA [0,1] ⟨rfl,rfl,rfl,rfl,rfl,rfl,rfl,rfl⟩ ⟨rfl,rfl⟩
theorem join_like (l:List (ByteArray × Ty)) (op:Int) (hn:l.length ≤ 1048576) (hf:∀ f ∈ l,f.2.parts.length ≤ 1048576):Spec 75 [.one (.sl 5 (rF l)),.ag (lf0 op)] [.ag (cT (rowS l (lfT op)))]:=by
 have h:=Join_s l (lfT op) hn (by rw [leaf_parts];omega) hf
 rw [show cT (lfT op) = [.sc (.int .u8 op),.sc (.string noS),.sc (.int .i64 0),.sl 4 []] by rw [cT,rT]] at h
 exact h.like ⟨.same _,lf0_like op,trivial⟩
theorem rowEnd_s {ts:List Tok} (hE:EndsT ts) (hl:ts.length ≤ 65537) (l:List (ByteArray × Ty)) (q:PE) (hq:q.1 < ts.length) (hn:fldParts l ≤ 1048576) :
  RowEnd (rTk ts) (cT (tlW ts l q).1) (tlW ts l q).2.2 (cQ ts (tlW ts l q).2) ((tlW ts l q).2.1:Int) q.2 (cQ ts q) (q.1:Int) (rF l):=by
 have hl2:ts.length ≤ 1048576:=by omega
 have hfl:=fld_len l
 have hlen:l.length ≤ 1048576:=by omega
 have hfs:∀ f ∈ l,f.2.parts.length ≤ 1048576:=fun f hf=>by have:=hfl.2 f hf;omega
 unfold tlW
 by_cases hb:skB ts gBar q = true
 ·rw [if_pos hb]
  have s2:=(skB_at hE hq hb).2
  exact .inr ⟨_,_,_,skip_yes hl2 hq hb,want_s ts hl2 gDyn (q.1 + 1,0) s2,join_like l 9 hlen hfs⟩
 ·rw [if_neg hb]
  exact .inl ⟨skip_no hl2 hq hb,join_like l 8 hlen hfs⟩
theorem row_s {ts:List Tok} (hE:EndsT ts) (hl:ts.length ≤ 65537) {rd:PE → Ty × PE} {L:Int} (hL1:0 ≤ L) (hL2:L ≤ 1048576) (hr:FitR ts rd) (hw:∀ q:PE,q.1 < ts.length → TyS 38 ts (L + 1) (ofD (cT (rd q).1)) q (rd q).2) (a:Nat) (hp:a < ts.length) :
  TyS 85 ts L (ofD (cT (rowR rd ts (a,0)).1)) (a,0) (rowR rd ts (a,0)).2:=by
 have hl2:ts.length ≤ 1048576:=by omega
 have hpk:=Peek_s ts _ a (tkA_is hp) hl2
 unfold rdB tkD at hpk
 obtain ⟨y0,y1,y2,y3,hy⟩:=cT_four (rowR rd ts (a,0)).1
 have hh:=fit_head hE hr (a,0) hp
 have hend:=rowEnd_s hE hl (headW rd ts (a,0)).1 (headW rd ts (a,0)).2 hh.hi (by have:=hh.sz;have:=hh.hi;omega)
 by_cases hk:(tkA ts a).kind = 1
 ·rw [hk] at hpk
  have hff:=fit_field hE hr (a,0) hp
  have hf:=field_s hE hl2 hL1 hL2 hr hw a hp
  have hhd:headW rd ts (a,0) = fieldsW rd ts ts.length (fieldW rd ts (a,0)).2 [(fieldW rd ts (a,0)).1]:=by unfold headW;rw [if_pos hk]
  obtain ⟨f1,f2,f3,f4,hc⟩:=cT_four (fieldW rd ts (a,0)).1.2
  rw [hc] at hf
  generalize hF:fieldW rd ts (a,0) = F at *
  have e1:fldParts [F.1] = 1 + F.1.2.parts.length:=rfl
  have hfl:FitL ts (a,0) ([F.1],F.2):=⟨hff.lo,hff.hi,by have:=hff.sw hk;show fldParts [F.1] + a ≤ F.2.1 + 1;rw [e1];simp only at this;omega,fun h=>⟨rfl,by have:=(hff.ok h).2;show fldParts [F.1] + a ≤ F.2.1;rw [e1];simp only at this;omega⟩,fun x hx=>by cases List.mem_singleton.1 hx;exact hff.sp⟩
  generalize hH:headW rd ts (a,0) = H at *
  unfold rowR at hy ⊢
  rw [hH] at hy ⊢
  rw [hy] at hend ⊢
  refine row_some (m0:=ts.length) hpk (fun e q z R m=>∃ (p:PE) (l:List (ByteArray × Ty)),e = p.2 ∧ q = cQ ts p ∧ z = (p.1:Int) ∧ R = rF l ∧ FitL ts (a,0) (l,p) ∧ ts.length - p.1 ≤ m ∧ fieldsW rd ts m p l = H) hf ⟨F.2,[F.1],rfl,rfl,rfl,by unfold rF;rw [List.map_cons,hc];rfl,hfl,Nat.sub_le ..,hhd.symm⟩ ?_
  rintro e q z R m ⟨p,l,rfl,rfl,rfl,rfl,hfit,hm,hfin⟩
  have hpi:=hfit.hi
  have hsz:=hfit.sz
  simp only at hpi hsz
  have hll:=(fld_len l).1
  refine ⟨by rw [rF_len];omega,?_⟩
  match m,hm,hfin with
  | 0,hm,hfin=>omega
  | m + 1,hm,hfin =>
   rw [fieldsW] at hfin
   by_cases hb:skB ts gComma p = true
   ·rw [if_pos hb] at hfin
    obtain ⟨s1,s2⟩:=skB_at hE hpi hb
    have hf2:=field_s hE hl2 hL1 hL2 hr hw (p.1 + 1) s2
    have hfg:=fit_fields hE hr (a,0) 1 p l hfit
    have hff2:=fit_field hE hr (p.1 + 1,0) s2
    rw [fieldsW,if_pos hb,fieldsW] at hfg
    obtain ⟨c1,c2,c3,c4,hc2⟩:=cT_four (fieldW rd ts (p.1 + 1,0)).1.2
    rw [hc2] at hf2
    generalize fieldW rd ts (p.1 + 1,0) = G at *
    exact .inl ⟨_,_,_,_,_,_,_,_,_,_,_,m,skip_yes hl2 hpi hb,hf2,⟨G.2,l ++ [G.1],rfl,rfl,rfl,by rw [rF_snoc,hc2],hfg,by have:=hff2.lo;simp only at this;omega,hfin⟩,Nat.lt_succ_self m⟩
   ·rw [if_neg hb] at hfin
    subst hfin
    exact .inr ⟨skip_no hl2 hpi hb,hend⟩
 ·have hhd:headW rd ts (a,0) = ([],(a,0)):=by unfold headW;rw [if_neg hk]
  unfold rowR at hy ⊢
  rw [hhd] at hend hy ⊢
  rw [hy] at hend ⊢
  exact row_none hk hpk hend
def LvOk (n:Nat) (L:Int):Prop:=(n = 0 ∧ 200 < L) ∨ (1 ≤ n ∧ n ≤ 201 ∧ L = 201 - (n:Int))
theorem whole_s {ts:List Tok} (hE:EndsT ts) (hl:ts.length ≤ 65537):∀ (n:Nat) (L:Int),LvOk n L → ∀ p:PE,p.1 < ts.length → TyS 38 ts L (ofD (cT (wholeW ts n p).1)) p (wholeW ts n p).2
 | n,L,hv,p,hp=>by
  have hl2:ts.length ≤ 1048576:=by omega
  by_cases h0:p.2 = 0
  ·rcases hv with ⟨rfl,hL⟩ | ⟨h1,h2,hL⟩
   ·have h:=whole_deep ts _ p.1 (tkA_is hp) hl2 L hL
    unfold eyB at h
    rw [wholeW]
    unfold failP
    rw [if_neg (fun h=>h h0)]
    unfold TyS
    rw [h0,cQ_0 ts h0]
    exact h
   ·obtain ⟨n,rfl⟩:∃ k,n = k + 1:=⟨n - 1,by omega⟩
    have hv2:LvOk n (L + 1):=by
     unfold LvOk
     by_cases hn:n = 0
     ·exact .inl ⟨hn,by omega⟩
     ·exact .inr ⟨by omega,by omega,by omega⟩
    have ih:=whole_s hE hl n (L + 1) hv2
    have hr:=fit_whole hE n
    have ha:=atom_s hE hl (by omega) (by omega) hr ih (row_s hE hl (by omega) (by omega) hr ih) p hp
    have hfa:=fit_atom hE hr p hp
    rw [wholeW,if_neg (fun h=>h h0)]
    unfold TyS at ha ⊢
    rw [h0] at ha ⊢
    by_cases hb:skB ts gTo (atomW (wholeW ts n) ts p).2 = true
    ·rw [if_pos hb]
     have s2:=(skB_at hE hfa.hi hb).2
     have hfu:=(hr ((atomW (wholeW ts n) ts p).2.1 + 1,0) s2).1
     exact whole_fun (by have:=hfa.sz;have:=hfa.hi;omega) (by have:=hfu.sz;have:=hfu.hi;omega) (by omega) (by omega) ha (skip_yes hl2 hfa.hi hb) (ih _ s2)
    ·rw [if_neg hb]
     exact whole_atom (by omega) ha (skip_no hl2 hfa.hi hb)
  ·have h:=whole_err (rTk ts) p.2 (cQ ts p) (p.1:Int) L h0
   unfold eyB at h
   have e:wholeW ts n p = (zeroTy,p):=by
    cases n with
    | zero=>rw [wholeW];unfold failP;rw [if_pos h0]
    | succ n=>rw [wholeW,if_pos h0]
   rw [e]
   exact h
end Go.Proofs.YtahpnackkmbmgaaGreatDoor.Vm
end
section
namespace Go.Proofs.YtahpnackkmbmgaaGreatDoor.Vm
open Go.RowKit
theorem okL_all:∀ (l:List UInt8) (f:Bool),(∀ (i:Nat) (c:UInt8),l[i]? = some c → okB (f && (i == 0)) (c.toNat:Int) = true) → okL f l = true
 | [],f,h=>rfl
 | c :: l,f,h=>by
  rw [okL,okL_all l false fun i x hx=>by
   have:=h (i + 1) x (by simpa using hx)
   simpa using this]
  have:=h 0 c rfl
  simp at this
  rw [this]
  rfl
theorem gb_of (s:ByteArray) (i:Nat) (c:UInt8) (h:(btl s)[i]? = some c):gb (numsOf s) i = (c.toNat:Int):=by
 unfold btl at h
 unfold gb numsOf
 rw [List.getD_eq_getElem?_getD,List.getElem?_map,h]
 rfl
theorem word_of (s:ByteArray) (h1:ownB s = false) (h2:wordlyB (numsOf s) = true) (h3:(numsOf s).length ≤ 32):wordB s = true:=by
 rw [nums_len] at h3
 unfold wordlyB at h2
 rw [Bool.and_eq_true,decide_eq_true_iff,List.all_eq_true,nums_len] at h2
 obtain ⟨h4,h5⟩:=h2
 unfold wordB wordlyS
 rw [h1,decide_eq_true h3,decide_eq_true h4,okL_all _ _ fun i c hc=>by
  have hi:i < s.size:=by
   have:=(List.getElem?_eq_some_iff.1 hc).1
   unfold btl at this
   rwa [Array.length_toList] at this
  have h6:=h5 i (List.mem_range.2 hi)
  unfold okAt at h6
  rw [gb_of s i c hc] at h6
  unfold okB
  by_cases hz:i = 0
  ·subst hz
   simpa using h6
  ·rw [decide_eq_true (by omega:0 < i)] at h6
   rw [show (i == 0) = false from beq_false_of_ne hz]
   simpa using h6]
 rfl
def TkOk (t:Tok):Prop:=t.kind ≠ 4 ∧ (t.kind = 1 → wordB t.text = true)
theorem runTk_ok (s:ByteArray) (a:Int) (h:(runS s a).2 = 0):TkOk (runS s a).1:=by
 unfold runS at h ⊢
 by_cases h1:digitB (gb (numsOf s) 0) = true
 ·rw [if_pos h1] at h ⊢
  exact ⟨show (2:Int) ≠ 4 by decide,fun h=>absurd (show (2:Int) = 1 from h) (by decide)⟩
 rw [if_neg h1] at h ⊢
 by_cases h2:ownB s = true
 ·rw [if_pos h2] at h ⊢
  exact ⟨show (3:Int) ≠ 4 by decide,fun h=>absurd (show (3:Int) = 1 from h) (by decide)⟩
 rw [if_neg h2] at h ⊢
 by_cases h3:wordlyB (numsOf s) = false
 ·rw [if_pos h3] at h
  exact absurd (show (4:Int) = 0 from h) (by decide)
 rw [if_neg h3] at h ⊢
 by_cases h4:32 < (numsOf s).length
 ·rw [if_pos h4] at h
  exact absurd (show (7:Int) = 0 from h) (by decide)
 rw [if_neg h4]
 exact ⟨show (1:Int) ≠ 4 by decide,fun _=>word_of s (Bool.eq_false_iff.2 h2) (by simpa using h3) (by omega)⟩
def TksOk (l:List Int) (r:List Tok × Int × Int) (n:Nat):Prop:=r.2.2 = 0 → ∃ pre,r.1 = pre ++ [⟨4,⟨#[]⟩,0,(l.length:Int)⟩] ∧ (∀ t ∈ pre,TkOk t) ∧ pre.length ≤ n
theorem scan_ok (l:List Int):∀ (m a:Nat) (rem:Bool) (out:List Tok) (n:Nat),l.length - a ≤ m → (∀ t ∈ out,TkOk t) → out.length + (l.length - a) ≤ n → TksOk l (scanS l a rem out) n
 | m,a,rem,out,n,hm,ho,hn=>by
  rw [scan_eq]
  unfold body
  by_cases ha:a < l.length
  ·rw [if_pos ha]
   have go:∀ (a':Nat) (rem:Bool) (out':List Tok),a < a' → (∀ t ∈ out',TkOk t) → out'.length ≤ out.length + 1 → TksOk l (scanS l a' rem out') n:=fun a' rem' out' h1 h2 h3=>by
    match m,hm with
    | 0,hm=>omega
    | m + 1,hm=>exact scan_ok l m a' rem' out' n (by omega) h2 (by omega)
   have bad:∀ (p c:Int),c ≠ 0 → TksOk l ([],p,c) n:=fun p c hc h=>absurd h hc
   have snoc:∀ t,TkOk t → ∀ x ∈ out ++ [t],TkOk x:=fun t ht x hx=>by
    rcases List.mem_append.1 hx with hx | hx
    ·exact ho x hx
    ·cases List.mem_singleton.1 hx;exact ht
   by_cases h0:nx l a = 0
   ·rw [if_pos h0];exact bad _ _ (by decide)
   rw [if_neg h0]
   by_cases h1:rem = true
   ·rw [if_pos h1];exact go _ _ _ (by omega) ho (by omega)
   rw [if_neg h1]
   by_cases h2:blankB (gb l a) = true
   ·rw [if_pos h2];exact go _ _ _ (by omega) ho (by omega)
   rw [if_neg h2]
   by_cases h3:gb l a = 35
   ·rw [if_pos h3];exact go _ _ _ (by omega) ho (by omega)
   rw [if_neg h3]
   by_cases h4:runsB (gb l a) = true
   ·rw [if_pos h4]
    by_cases h5:(runS (strOfNums (runAt l a)) a).2 = 0
    ·rw [if_pos h5]
     have:=run_pos ha h4
     exact go _ _ _ (by omega) (snoc _ (runTk_ok _ _ h5)) (by simp)
    ·rw [if_neg h5];exact bad _ _ h5
   rw [if_neg h4]
   by_cases h6:signS (l.drop a) = 0
   ·rw [if_pos h6];exact bad _ _ (by decide)
   rw [if_neg h6]
   exact go _ _ _ (by omega) (snoc _ ⟨show (3:Int) ≠ 4 by decide,fun h=>absurd (show (3:Int) = 1 from h) (by decide)⟩) (by simp)
  ·rw [if_neg ha]
   exact fun _=>⟨out,rfl,ho,by omega⟩
def NamesT (ts:List Tok):Prop:=∀ a,a < ts.length → (tkA ts a).kind = 1 → wordB (tkA ts a).text = true
theorem toks_ok (l:List Int) (h:(scanS l 0 false []).2.2 = 0):EndsT (scanS l 0 false []).1 ∧ NamesT (scanS l 0 false []).1 ∧ 0 < (scanS l 0 false []).1.length ∧ (scanS l 0 false []).1.length ≤ l.length + 1:=by
 obtain ⟨pre,h1,h2,h3⟩:=scan_ok l l.length 0 false [] l.length (by omega) (fun t ht=>by cases ht) (by simp) h
 rw [h1]
 have hin:∀ a,a < (pre ++ [(⟨4,⟨#[]⟩,0,(l.length:Int)⟩:Tok)]).length → (tkA (pre ++ [⟨4,⟨#[]⟩,0,(l.length:Int)⟩]) a) ∈ pre ∧ a < pre.length ∨ (tkA (pre ++ [⟨4,⟨#[]⟩,0,(l.length:Int)⟩]) a).kind = 4:=fun a ha=>by
  rw [List.length_append,List.length_singleton] at ha
  unfold tkA
  by_cases hp:a < pre.length
  ·left
   rw [List.getElem?_append_left hp,List.getElem?_eq_getElem hp]
   exact ⟨List.getElem_mem hp,hp⟩
  ·right
   have:a = pre.length:=by omega
   subst this
   rw [List.getElem?_append_right (Nat.le_refl _),Nat.sub_self]
   rfl
 refine ⟨fun a ha hk=>?_,fun a ha hk=>?_,by simp,by simp;omega⟩
 ·rcases hin a ha with ⟨_,hp⟩ | h4
  ·simp;omega
  ·exact absurd h4 hk
 ·rcases hin a ha with ⟨hm,_⟩ | h4
  ·exact (h2 _ hm).2 hk
  ·rw [h4] at hk;exact absurd hk (by decide)
end Go.Proofs.YtahpnackkmbmgaaGreatDoor.Vm
end
