/- Part 5 of the proof: VShape. Conditions: none. -/
import Derived.Test.YtahpnackkmbmgaaGreatDoorK3
import Derived.Test.YtahpnackkmbmgaaGreatDoorK4
set_option linter.all false
set_option linter.unusedVariables false
set_option linter.unusedSimpArgs false
section
namespace Go.Proofs.YtahpnackkmbmgaaGreatDoor.Vm
open Go.RowKit
set_option maxRecDepth 100000
set_option maxHeartbeats 4000000
theorem gd52:Good 52 Tryz.f52 (Tryz.f52.body.getD .skip):=⟨Tryz.func52,rfl,by kernel_rfl,by kernel_rfl,by kernel_rfl⟩
def kidsTx (op:Int):ByteArray:=if op = 4 then ⟨#[116,116]⟩ else if op = 5 ∨ op = 6 then ⟨#[114]⟩ else if op = 11 then ⟨#[116,114]⟩ else ⟨#[]⟩
theorem Kids_1:Spec 52 [.one (.sc (.int .u8 1))] [.one (.sc (.string ⟨#[]⟩)),.one (.sc (.bool true))]:=conc_spec (T:=.nil) (hint:=fun _=>true) (n:=5) gd52 (by kernel_rfl)
theorem Kids_2:Spec 52 [.one (.sc (.int .u8 2))] [.one (.sc (.string ⟨#[]⟩)),.one (.sc (.bool true))]:=conc_spec (T:=.nil) (hint:=fun _=>true) (n:=5) gd52 (by kernel_rfl)
theorem Kids_3:Spec 52 [.one (.sc (.int .u8 3))] [.one (.sc (.string ⟨#[]⟩)),.one (.sc (.bool true))]:=conc_spec (T:=.nil) (hint:=fun _=>true) (n:=5) gd52 (by kernel_rfl)
theorem Kids_4:Spec 52 [.one (.sc (.int .u8 4))] [.one (.sc (.string ⟨#[116,116]⟩)),.one (.sc (.bool true))]:=conc_spec (T:=.nil) (hint:=fun _=>true) (n:=5) gd52 (by kernel_rfl)
theorem Kids_5:Spec 52 [.one (.sc (.int .u8 5))] [.one (.sc (.string ⟨#[114]⟩)),.one (.sc (.bool true))]:=conc_spec (T:=.nil) (hint:=fun _=>true) (n:=5) gd52 (by kernel_rfl)
theorem Kids_6:Spec 52 [.one (.sc (.int .u8 6))] [.one (.sc (.string ⟨#[114]⟩)),.one (.sc (.bool true))]:=conc_spec (T:=.nil) (hint:=fun _=>true) (n:=5) gd52 (by kernel_rfl)
theorem Kids_7:Spec 52 [.one (.sc (.int .u8 7))] [.one (.sc (.string ⟨#[]⟩)),.one (.sc (.bool true))]:=conc_spec (T:=.nil) (hint:=fun _=>true) (n:=5) gd52 (by kernel_rfl)
theorem Kids_8:Spec 52 [.one (.sc (.int .u8 8))] [.one (.sc (.string ⟨#[]⟩)),.one (.sc (.bool true))]:=conc_spec (T:=.nil) (hint:=fun _=>true) (n:=5) gd52 (by kernel_rfl)
theorem Kids_9:Spec 52 [.one (.sc (.int .u8 9))] [.one (.sc (.string ⟨#[]⟩)),.one (.sc (.bool true))]:=conc_spec (T:=.nil) (hint:=fun _=>true) (n:=5) gd52 (by kernel_rfl)
theorem Kids_10:Spec 52 [.one (.sc (.int .u8 10))] [.one (.sc (.string ⟨#[]⟩)),.one (.sc (.bool true))]:=conc_spec (T:=.nil) (hint:=fun _=>true) (n:=5) gd52 (by kernel_rfl)
theorem Kids_11:Spec 52 [.one (.sc (.int .u8 11))] [.one (.sc (.string ⟨#[116,114]⟩)),.one (.sc (.bool true))]:=conc_spec (T:=.nil) (hint:=fun _=>true) (n:=5) gd52 (by kernel_rfl)
theorem Kids_no (op:Int) (h1:op ≠ 1) (h2:op ≠ 2) (h3:op ≠ 3) (h4:op ≠ 4) (h5:op ≠ 5) (h6:op ≠ 6) (h7:op ≠ 7) (h8:op ≠ 8) (h9:op ≠ 9) (h10:op ≠ 10) (h11:op ≠ 11):Spec 52 [.one (.sc (.int .u8 op))] [.one (.sc (.string ⟨#[]⟩)),.one (.sc (.bool false))]:=by
 refine spec_of Tryz.func52 rfl (by kernel_rfl) (by kernel_rfl) (by kernel_rfl) fun qa qb qc qd qe qg qh qi qj qk ql qm qo qp qq qt qu qv qw qx qy qz va vc vd ve vf vg vh vj vk vl vm vn vo vp vq vr vt vu vv vw vx hA=>?_
 cbv
 repeat ((with_reducible apply next_at hA);cbv)
 obtain ⟨e1,e2,e3,e4,e5,e6,e7,e8,e9⟩:=ar_at hA
 have k:∀ n,op ≠ n → qk op n = false:=fun n hn=>by rw [e9];exact beq_eq_false_iff_ne.2 hn
 rw [k 1 h1]
 cbv
 repeat ((with_reducible apply next_at hA);cbv)
 rw [k 2 h2]
 cbv
 repeat ((with_reducible apply next_at hA);cbv)
 rw [k 3 h3]
 cbv
 repeat ((with_reducible apply next_at hA);cbv)
 rw [k 7 h7]
 cbv
 repeat ((with_reducible apply next_at hA);cbv)
 rw [k 8 h8]
 cbv
 repeat ((with_reducible apply next_at hA);cbv)
 rw [k 9 h9]
 cbv
 repeat ((with_reducible apply next_at hA);cbv)
 rw [k 10 h10]
 cbv
 repeat ((with_reducible apply next_at hA);cbv)
 rw [k 4 h4]
 cbv
 repeat ((with_reducible apply next_at hA);cbv)
 rw [k 5 h5]
 cbv
 repeat ((with_reducible apply next_at hA);cbv)
 rw [k 6 h6]
 cbv
 repeat ((with_reducible apply next_at hA);cbv)
 rw [k 11 h11]
 cbv
 repeat ((with_reducible apply next_at hA);cbv)
theorem Kids_s (op:Int):Spec 52 [.one (.sc (.int .u8 op))] [.one (.sc (.string (kidsTx op))),.one (.sc (.bool (kidsS op).isSome))]:=by
 by_cases h1:op = 1
 ·subst h1;exact Kids_1
 by_cases h2:op = 2
 ·subst h2;exact Kids_2
 by_cases h3:op = 3
 ·subst h3;exact Kids_3
 by_cases h4:op = 4
 ·subst h4;exact Kids_4
 by_cases h5:op = 5
 ·subst h5;exact Kids_5
 by_cases h6:op = 6
 ·subst h6;exact Kids_6
 by_cases h7:op = 7
 ·subst h7;exact Kids_7
 by_cases h8:op = 8
 ·subst h8;exact Kids_8
 by_cases h9:op = 9
 ·subst h9;exact Kids_9
 by_cases h10:op = 10
 ·subst h10;exact Kids_10
 by_cases h11:op = 11
 ·subst h11;exact Kids_11
 have e1:kidsTx op = ⟨#[]⟩:=by unfold kidsTx;simp [h4,h5,h6,h11]
 have e2:(kidsS op).isSome = false:=by unfold kidsS;simp [h1,h2,h3,h4,h5,h6,h7,h8,h9,h10,h11]
 rw [e1,e2]
 exact Kids_no op h1 h2 h3 h4 h5 h6 h7 h8 h9 h10 h11
theorem kidsTx_is {op:Int} {kk:List Int} (h:kidsS op = some kk):kk = (btl (kidsTx op)).map fun c=>(c.toNat:Int):=by
 unfold kidsS at h
 repeat' split at h
 all_goals first | (cases h;done) | skip
 all_goals
  cases h
  rename_i h
  rcases h with h
  first
  | (rcases h with h | h | h | h | h | h | h <;> subst h <;> rfl)
  | (rcases h with h | h <;> subst h <;> rfl)
  | (subst h;rfl)
def hdF (ok a8 e114 hl e11 w em nlt e7 e10 n0:Bool):Bool:=ok && ((a8 == e114) && (hl && ((match e11 with | true=>w | false=>em) && (!nlt && (e7 || (e10 || n0))))))
theorem head_hd (op:Int) (nm:ByteArray) (n:Int) (ks:List Ty) (s:Int):headB wordB (.mk op nm n ks) s = hdF (kidsS op).isSome (decide (8 ≤ op)) (s == 114) (decide (ks.length = (kidsTx op).size)) (op == 11) (wordB nm) (decide (nm.toList = [])) (decide (n < 0)) (op == 7) (op == 10) (n == 0):=by
 show (match kidsS op with | none=>false | some k=>(decide (8 ≤ op) == (s == 114)) && (decide (ks.length = k.length) && ((if op = 11 then wordB nm else decide (nm.toList = [])) && (decide (0 ≤ n) && (decide (op = 7 ∨ op = 10) || decide (n = 0)))))) = _
 unfold hdF
 cases h:kidsS op with
 | none=>rfl
 | some kk =>
  show ((decide (8 ≤ op) == (s == 114)) && (decide (ks.length = kk.length) && ((if op = 11 then wordB nm else decide (nm.toList = [])) && (decide (0 ≤ n) && (decide (op = 7 ∨ op = 10) || decide (n = 0)))))) = _
  have hk:=kidsTx_is h
  have hl:kk.length = (kidsTx op).size:=by rw [hk,List.length_map,btl_size]
  rw [hl]
  have e11:(if op = 11 then wordB nm else decide (nm.toList = [])) = (match op == 11 with | true=>wordB nm | false=>decide (nm.toList = [])):=by
   by_cases h:op = 11
   ·subst h;rfl
   ·rw [if_neg h,beq_eq_false_iff_ne.2 h]
  have en:decide (0 ≤ n) = !decide (n < 0):=by by_cases h:n < 0 <;> simp [h] <;> omega
  have eo:decide (op = 7 ∨ op = 10) = ((op == 7) || (op == 10)):=by by_cases h:op = 7 <;> by_cases h':op = 10 <;> simp [h,h']
  have e0:decide (n = 0) = (n == 0):=by by_cases h:n = 0 <;> simp [h]
  rw [e11,en,eo,e0]
  simp only [Option.isSome_some,Bool.true_and,Bool.or_assoc]
theorem shape_s:∀ (t:Ty) (s:Int),t.parts.length ≤ 1048576 → (∀ x ∈ t.parts,x.name.size ≤ 1048576) → Spec 28 [.ag (cT t),.one (.sc (.int .u8 s))] [.one (.sc (.bool (shapeB wordB t s)))]:=by
 intro t
 induction t using Ty.ind with
 | h t ih =>
  intro s hN hnm
  have hkl:=kids_le t
  have hself:=hnm t (by rw [parts_eq];exact List.mem_cons_self ..)
  have hkn:∀ x ∈ t.kids,∀ y ∈ x.parts,y.name.size ≤ 1048576:=fun x hx y hy=>hnm y (by rw [parts_kids];exact List.mem_cons_of_mem _ (List.mem_flatMap.2 ⟨x,hx,hy⟩))
  obtain ⟨op,nm,n,ks⟩:=t
  simp only [Ty.kids] at hkl ih hkn
  have hself:nm.size ≤ 1048576:=hself
  have hb:=shape_eq wordB (.mk op nm n ks) s
  rw [head_hd] at hb
  simp only [Ty.kids,Ty.op] at hb
  generalize shapeB wordB (.mk op nm n ks) s = b at hb ⊢
  replace hb:=hb.symm
  have hK2:=Kids_s op
  have hW:=refIsWord_s nm (by omega)
  have hks:∀ kk,kidsS op = some kk → (kidsS op).getD [] = (btl (kidsTx op)).map fun c=>(c.toNat:Int):=fun kk h=>by rw [← kidsTx_is h,h];rfl
  have hsome:(kidsS op).isSome = true → (kidsS op).getD [] = (btl (kidsTx op)).map fun c=>(c.toNat:Int):=fun h=>by
   cases h':kidsS op with
   | none=>rw [h'] at h;cases h
   | some kk=>rw [← h'];exact hks kk h'
  generalize (kidsS op).getD [] = kk at *
  generalize (kidsS op).isSome = ok at *
  have htx:(kidsTx op).size ≤ 2:=by
   unfold kidsTx
   repeat' split
   all_goals decide
  generalize kidsTx op = tx at *
  rw [cT]
  obtain ⟨K,hK⟩:∃ K,K = rT ks:=⟨_,rfl⟩
  rw [← hK]
  refine spec_of Tryz.func28 rfl (by kernel_rfl) (by kernel_rfl) (by kernel_rfl) fun qa qb qc qd qe qg qh qi qj qk ql qm qo qp qq qt qu qv qw qx qy qz va vc vd ve vf vg vh vj vk vl vm vn vo vp vq vr vt vu vv vw vx hA=>?_
  cbv
  repeat ((with_reducible apply next_at hA);cbv)
  obtain ⟨e1,e2,e3,e4,e5,e6,e7,e8,e9⟩:=ar_at hA
  obtain ⟨s1,s2,s3,s4,s5,s6,-⟩:=str_at hA
  obtain ⟨r1,r2,-⟩:=row_at hA
  have h8:qj 8 op = decide (8 ≤ op):=e8 _ _
  have h114:qk s 114 = (s == 114):=e9 _ _
  have hl:qk (va K) (qu tx) = decide (ks.length = tx.size):=by
   rw [e9,r1,s5,hK,rT_len]
   by_cases h:ks.length = tx.size
   ·rw [h];simp
   ·rw [decide_eq_false h];exact beq_eq_false_iff_ne.2 (by omega)
  have h11:qk op 11 = (op == 11):=e9 _ _
  have hem:qm (qp nm) (qp ⟨⟨[]⟩⟩) = decide (nm.toList = []):=by
   rw [s1,s3,s3,btl_toList ⟨⟨[]⟩⟩,show btl ⟨⟨[]⟩⟩ = [] from rfl]
   cases nm.toList <;> rfl
  have hnl:qi n 0 = decide (n < 0):=e7 _ _
  have h7:qk op 7 = (op == 7):=e9 _ _
  have h10:qk op 10 = (op == 10):=e9 _ _
  have hn0:qk n 0 = (n == 0):=e9 _ _
  generalize decide (8 ≤ op) = b8 at *
  generalize (s == 114) = b114 at *
  generalize hbl:decide (ks.length = tx.size) = bl at *
  generalize (op == 11) = b11 at *
  generalize wordB nm = bw at *
  generalize decide (nm.toList = []) = bem at *
  generalize decide (n < 0) = bnl at *
  generalize (op == 7) = b7 at *
  generalize (op == 10) = b10 at *
  generalize (n == 0) = bn0 at *
  refine call_at hA _ hK2 ?_ ?_
  ·rfl
  cases ok
  ·cbv
   repeat ((with_reducible apply next_at hA);cbv)
   exact resb hb
  cbv
  repeat ((with_reducible apply next_at hA);cbv)
  rw [h8,h114]
  unfold hdF at hb
  cases b8 <;> cases b114
  all_goals
   cbv
   repeat ((with_reducible apply next_at hA);cbv)
   first
   | (exact resb hb;done)
   | skip
  all_goals rw [hl]
  all_goals cases bl
  all_goals
   cbv
   repeat ((with_reducible apply next_at hA);cbv)
   first
   | (exact resb hb;done)
   | skip
  all_goals rw [h11]
  all_goals cases b11
  all_goals
   cbv
   repeat ((with_reducible apply next_at hA);cbv)
   try (rw [h11];cbv)
   repeat ((with_reducible apply next_at hA);cbv)
  all_goals first | (rw [hem];cases bem) | (refine call_at hA _ hW ?_ ?_;rfl;cases bw)
  all_goals
   cbv
   repeat ((with_reducible apply next_at hA);cbv)
   try (rw [h11];cbv)
   repeat ((with_reducible apply next_at hA);cbv)
   first
   | (exact resb hb;done)
   | skip
  all_goals first | (rw [hnl];cases bnl) | skip
  all_goals
   cbv
   repeat ((with_reducible apply next_at hA);cbv)
   first
   | (exact resb hb;done)
   | skip
  all_goals first | (rw [h7];cases b7) | skip
  all_goals
   cbv
   repeat ((with_reducible apply next_at hA);cbv)
   first
   | (exact resb hb;done)
   | skip
  all_goals first | (rw [h10];cases b10) | skip
  all_goals
   cbv
   repeat ((with_reducible apply next_at hA);cbv)
   first
   | (exact resb hb;done)
   | skip
  all_goals first | (rw [hn0];cases bn0) | skip
  all_goals
   cbv
   repeat ((with_reducible apply next_at hA);cbv)
   first
   | (exact resb hb;done)
   | skip
  all_goals
   have hb2:shapesB wordB ks kk = b:=hb
   have hlen:ks.length = tx.size:=of_decide_eq_true hbl
   have hkk:=hsome rfl
   refine loop_at hA (γ:=Int) (fun z=>[(7,vi .i64 z),(8,.jk),(11,.jk)]) (fun _=>[]) (fun z=>∃ k:Nat,z = (k:Int) ∧ k ≤ tx.size ∧ shapesB wordB (ks.drop k) (kk.drop k) = b) (fun z=>tx.size - z.toNat) 0 ?_ ?_ ?_
   ·exact ⟨0,rfl,Nat.zero_le _,hb2⟩
   ·cbv
   ·intro z hinv
    cbv
    repeat ((with_reducible apply next_at hA);cbv)
    obtain ⟨k,hz,hk,hE⟩:=hinv
    replace hz:z = (k:Int):=hz
    replace s5:qu tx = ((tx.size:Nat):Int):=s5 tx
    have hlt:qi z (qu tx) = decide (k < tx.size):=by rw [e7,s5,hz];exact decide_eq_decide.2 (by omega)
    by_cases h9:k < tx.size
    ·rw [decide_eq_true h9] at hlt
     obtain ⟨c,hc⟩:∃ c,(btl tx)[k]? = some c:=⟨_,List.getElem?_eq_getElem (by rw [btl_size];exact h9)⟩
     obtain ⟨x,hx⟩:∃ x,ks[k]? = some x:=⟨_,List.getElem?_eq_getElem (by omega)⟩
     have hkc:kk[k]? = some (c.toNat:Int):=by rw [hkk,List.getElem?_map,hc];rfl
     have d1:ks.drop k = x :: ks.drop (k + 1):=by obtain ⟨hi,e⟩:=List.getElem?_eq_some_iff.1 hx;rw [List.drop_eq_getElem_cons hi,e]
     have d2:kk.drop k = (c.toNat:Int) :: kk.drop (k + 1):=by obtain ⟨hi,e⟩:=List.getElem?_eq_some_iff.1 hkc;rw [List.drop_eq_getElem_cons hi,e]
     rw [d1,d2,shapesB] at hE
     have g1:vc K z = some (cT x):=by rw [r2,hz,if_pos (by omega),hK];exact rT_get hx
     have g2:qv tx z = some (c.toNat:Int):=by rw [s6,hz];exact sget_is hc
     have hsp:=ih x (List.mem_of_getElem? hx) (c.toNat:Int) (by have:=hkl.2 x (List.mem_of_getElem? hx);omega) (hkn x (List.mem_of_getElem? hx))
     have hz1:qa .i64 (qb z 1) = ((k + 1:Nat):Int):=by rw [e1,e2,hz,IntWalk.i64_in _ (by omega)];omega
     have hm:tx.size - (qa .i64 (qb z 1)).toNat < tx.size - z.toNat:=by rw [hz1,hz];omega
     generalize shapeB wordB x (c.toNat:Int) = q at *
     generalize (c.toNat:Int) = cc at *
     obtain ⟨o1,m1,n1,l1⟩:=x
     rw [cT] at g1 hsp
     generalize rT l1 = L1 at *
     rw [hlt]
     cbv
     repeat ((with_reducible apply next_at hA);cbv)
     rw [g1]
     cbv
     rw [g2]
     cbv
     refine calm_at hA _ hsp ?_
     cases q
     ·cbv
      repeat ((with_reducible apply next_at hA);cbv)
      exact resb hE
     ·cbv
      repeat ((with_reducible apply next_at hA);cbv)
      exact ⟨_,⟨k + 1,hz1,h9,hE⟩,hm,by cbv⟩
    ·rw [decide_eq_false h9] at hlt
     rw [List.drop_eq_nil_of_le (by omega),shapesB] at hE
     rw [hlt]
     cbv
     repeat ((with_reducible apply next_at hA);cbv)
     exact resb hE
end Go.Proofs.YtahpnackkmbmgaaGreatDoor.Vm
end
