/- Part 10 of the proof: VKey, VCalm2, VCalm3, VMap, VStep, VCode. Conditions: none. -/
import Derived.Test.YtahpnackkmbmgaaGreatM9
import Derived.Laws.StructEq
import Derived.Maps.Keyed
import Derived.Lib.ConvBytes
import Derived.Laws.BytesString
import Derived.Deep.LoopGhost
import Derived.Sort.LoopGhostIn
import Derived.OrdersIn
import Derived.TacticsIn
import Derived.RangeFuncCalls
set_option linter.all false
set_option linter.unusedVariables false
set_option linter.unusedSimpArgs false
section
namespace Go.Proofs.YtahpnackkmbmgaaGreat.Vm
open Go.RowKit
section
theorem keq_is {j k:IntKind} (h:keq j k = true):j = k:=by cases j <;> cases k <;> first | rfl | cases h
theorem bEq_is (b c:Bool):bEq b c = (b == c):=by cases b <;> cases c <;> rfl
theorem ty_noagg {t:Nat} (h:tyKnown t = true) {d:TypeDesc} (hu:Tryz.prog.underlying t = some d) (hd:aggOf (some d) = some false):(ty t).agg = false:=by
 have:=(tyOk t h).agg
 rw [hu,hd] at this
 exact (Option.some.inj this).symm
def dVal:D → Value
 | .sc v=>v
 | .sl _ _=>.nilFunc
def rVal:R → Value
 | .one d=>dVal d
 | .ag ds=>.agg (ds.map dVal).toArray
theorem scalar_sc {k:TK} {d:D} (h:scalarB k d = true):∃ v,d = .sc v:=by
 cases d with
 | sc v=>exact ⟨v,rfl⟩
 | sl sz rows=>cases k <;> cases h
theorem scalars_sc:∀ {us:List Nat} {fs:List (Nat × Nat)} {n:Nat} {ds:List D},scalarsB us fs n ds = true → ∀ d ∈ ds,∃ v,d = .sc v
 | [],[],n,[],_=>by simp
 | u :: us,(off,1) :: fs,n,d :: ds,h=>by
  rw [scalarsB] at h
  split at h
  ·split at h
   ·rename_i h1
    intro x hx
    rcases List.mem_cons.1 hx with rfl | hx
    ·exact scalar_sc h1
    ·exact scalars_sc h x hx
   ·cases h
  ·cases h
theorem key_sc {t:Nat} {r:R} (h:keyB t r = true):(∃ v,r = .one (.sc v)) ∨ ∃ ds,r = .ag ds ∧ ∀ d ∈ ds,∃ v,d = .sc v:=by
 cases r with
 | one d=>obtain ⟨v,rfl⟩:=scalar_sc h;exact .inl ⟨v,rfl⟩
 | ag ds =>
  rw [keyB] at h
  split at h
  ·split at h
   ·exact .inr ⟨ds,rfl,scalars_sc h⟩
   ·cases h
  ·cases h
section
variable {I:Nat → Nat → Prop} {w:World}
theorem AtD.val {v:Value} {u:Value} (h:AtD I w v (.sc u)):v = u:=by cases h;rfl
theorem key_val {t:Nat} {v:Value} {r:R} (h:AtR I w v r) (hk:keyB t r = true):v = rVal r:=by
 rcases key_sc hk with ⟨u,rfl⟩ | ⟨ds,rfl,hs⟩
 ·exact AtD.val h
 ·obtain ⟨us,rfl,hl,hd⟩:=h
  have:us = ds.map dVal:=by
   refine List.ext_getElem? fun i=>?_
   rw [List.getElem?_map]
   cases hi:ds[i]? with
   | none =>
    rw [List.getElem?_eq_none_iff] at hi
    rw [List.getElem?_eq_none (by omega)]
    rfl
   | some d =>
    have hlt:i < us.length:=by rw [hl];exact (List.getElem?_eq_some_iff.1 hi).1
    obtain ⟨u,rfl⟩:=hs d (List.mem_of_getElem? hi)
    rw [List.getElem?_eq_getElem hlt]
    exact congrArg some (hd i _ _ (List.getElem?_eq_getElem hlt) hi).val
  rw [this]
  rfl
end
theorem natEq_is (m n:Nat):natEq m n = (m == n):=by
 rw [Bool.eq_iff_iff,beq_iff_eq]
 exact ⟨Nat.eq_of_beq_eq_true,fun h=>by rw [h];exact Nat.beq_refl n⟩
theorem intEq_is (m n:Int):intEq m n = (m == n):=by
 rw [Bool.eq_iff_iff,beq_iff_eq]
 cases m <;> cases n <;> simp [intEq,natEq_is]
 exact Int.ofNat_inj.symm
theorem bytesEq_is:∀ x y:List UInt8,bytesEq x y = (x == y)
 | [],[]=>rfl
 | [],_ :: _=>rfl
 | _ :: _,[]=>rfl
 | x :: l,y :: m=>by
  rw [bytesEq,natEq_is,bytesEq_is l m]
  by_cases h:x = y
  ·subst h;simp
  ·have h1:(x.toNat == y.toNat) = false:=beq_eq_false_iff_ne.2 fun e=>h (UInt8.toNat_inj.1 e)
   have h2:(x :: l == y :: m) = false:=beq_eq_false_iff_ne.2 fun e=>h (by injection e)
   rw [h1,h2]
theorem bytes_eq (x y:ByteArray):(x == y) = (x.data.toList == y.data.toList):=by
 rw [beq_toListBytes,ByteArray.toList_eq,ByteArray.toList_eq]
structure ScalOk (t:Nat) (x y:D) (d:TypeDesc):Prop where
 un:Tryz.prog.underlying t = some d
 ag:aggOf (some d) = some false
 now:Instr.sameNow d (dVal x) (dVal y) = some (dEq y x)
 eq:∀ (n:Nat) (w:World),(Op.equalIn (n + 1) t (dVal x) (dVal y)).run Tryz.prog w = .ok (dEq y x) w
 chk:∀ (e:Bool) (n:Nat) (w:World),(Instr.checkKey e (n + 1) t (dVal x)).run Tryz.prog w = .ok () w
 bits:∀ n,Instr.sameBits n (dVal x) (dVal x) = true
theorem scal_inv {k:TK} {d:D} (h:scalarB k d = true):(∃ q m,k = .int q ∧ d = .sc (.int q m)) ∨ (∃ s,k = .str ∧ d = .sc (.string s)) ∨ ∃ b,k = .bool ∧ d = .sc (.bool b):=by
 unfold scalarB at h
 split at h
 ·rename_i q q' m
  obtain rfl:=keq_is h
  exact .inl ⟨_,m,rfl,rfl⟩
 ·exact .inr (.inl ⟨_,rfl,rfl⟩)
 ·exact .inr (.inr ⟨_,rfl,rfl⟩)
 ·cases h
theorem scal_ok {t:Nat} (ht:tyKnown t = true) {x y:D} (hx:scalarB (ty t).kind x = true) (hy:scalarB (ty t).kind y = true):∃ d,ScalOk t x y d:=by
 rcases scal_inv hx with ⟨q,m,hk,rfl⟩ | ⟨m,hk,rfl⟩ | ⟨m,hk,rfl⟩ <;> rcases scal_inv hy with ⟨q',n,hk',rfl⟩ | ⟨n,hk',rfl⟩ | ⟨n,hk',rfl⟩ <;> rw [hk] at hk' <;> first | cases hk';done | skip
 ·injection hk' with hk'
  subst hk'
  have hu:=ty_int ht hk
  refine ⟨_,hu,rfl,?_,fun n w=>?_,fun e n w=>?_,fun n=>?_⟩
  ·simp only [Instr.sameNow,dVal,dEq,intEq_is,if_true]
   rw [BEq.comm]
  ·simp only [Op.equalIn,run_underlying hu,dVal,dEq,intEq_is,Sem.run_bind,Result.andThen_ok,if_true,Sem.run_pure]
   rw [BEq.comm]
  ·simp [Instr.checkKey,run_underlying hu,dVal]
  ·cases n <;> simp [Instr.sameBits,dVal]
 ·have hu:=ty_str ht hk
  refine ⟨_,hu,rfl,?_,fun n w=>?_,fun e n w=>?_,fun n=>?_⟩
  ·simp only [Instr.sameNow,dVal,dEq,bytesEq_is,bytes_eq]
   rw [BEq.comm]
  ·simp only [Op.equalIn,run_underlying hu,dVal,dEq,bytesEq_is,bytes_eq,Sem.run_bind,Result.andThen_ok,Sem.run_pure]
   rw [BEq.comm]
  ·simp [Instr.checkKey,run_underlying hu,dVal]
  ·have h0:(m == m) = true:=by rw [bytes_eq];simp
   cases n <;> exact h0
 ·have hu:=ty_bool ht hk
  refine ⟨_,hu,rfl,?_,fun n w=>?_,fun e n w=>?_,fun n=>?_⟩
  ·simp only [Instr.sameNow,dVal,dEq,bEq_is]
   rw [BEq.comm]
  ·simp only [Op.equalIn,run_underlying hu,dVal,dEq,bEq_is,Sem.run_bind,Result.andThen_ok,Sem.run_pure]
   rw [BEq.comm]
  ·simp [Instr.checkKey,run_underlying hu,dVal]
  ·cases n <;> simp [Instr.sameBits,dVal]
theorem part_scal {u:Nat} {us:Array Value} {off:Nat} {v:Value} {w:World} (h:(ty u).agg = false) (hu:tyKnown u = true) (hv:us[off]? = some v):(part u us off).run Tryz.prog w = .ok v w:=by
 simp only [part,Sem.run_bind,ty_agg hu,h,Result.andThen_ok,Bool.false_eq_true,if_false,hv,Sem.run_pure]
def FOk:List Field → Nat → List D → Prop
 | [],_,[]=>True
 | f :: fs,n,d :: ds=>f.offset = n ∧ tyKnown f.type = true ∧ (f.name != "_") = true ∧ scalarB (ty f.type).kind d = true ∧ FOk fs (n + 1) ds
 | _,_,_=>False
theorem fok_of:∀ {fs:List Field} {fl:List (Nat × Nat)} {n:Nat} {ds:List D},fs.map (·.offset) = fl.map (·.1) → (∀ f ∈ fs,tyKnown f.type = true ∧ (f.name != "_") = true) → scalarsB (fs.map (·.type)) fl n ds = true → FOk fs n ds
 | [],[],n,[],_,_,_=>trivial
 | [],[],n,_ :: _,_,_,h=>by cases h
 | [],_ :: _,n,ds,h,_,_=>by cases h
 | f :: fs,[],n,ds,h,_,_=>by cases h
 | f :: fs,(off,sz) :: fl,n,ds,ho,hk,h=>by
  rw [List.map_cons,List.map_cons] at ho
  injection ho with ho1 ho2
  simp only at ho1
  rw [List.map_cons] at h
  unfold scalarsB at h
  split at h
  ·contradiction
  ·rename_i u us off' fs' n' d ds e1 e2
   injection e1 with e1 e3
   injection e2 with e2 e4
   injection e2 with e2 e5
   subst e1;subst e3;subst e4;subst e2
   split at h
   ·rename_i h1
    split at h
    ·rename_i h2
     rw [eqN_is] at h1
     exact ⟨ho1.trans h1,(hk f (List.mem_cons_self ..)).1,(hk f (List.mem_cons_self ..)).2,h2,fok_of ho2 (fun f hf=>hk f (List.mem_cons_of_mem _ hf)) h⟩
    ·cases h
   ·cases h
  ·cases h
section
variable {w:World}
theorem eq_fields:∀ {fs:List Field} {n:Nat} {xs ys:List D} {us vs:List D},us.length = n → vs.length = n → FOk fs n xs → FOk fs n ys → ∀ m,(Op.eqFields (m + 1) ((us ++ xs).map dVal).toArray ((vs ++ ys).map dVal).toArray fs).run Tryz.prog w = .ok (dsEq ys xs) w
 | [],n,[],[],us,vs,_,_,_,_,m=>rfl
 | f :: fs,n,x :: xs,y :: ys,us,vs,hu,hv,hx,hy,m=>by
  obtain ⟨h1,h2,h3,h4,h5⟩:=hx
  obtain ⟨g1,g2,g3,g4,g5⟩:=hy
  obtain ⟨d,hd⟩:=scal_ok h2 h4 g4
  have hag:=ty_noagg h2 hd.un hd.ag
  have px:(part f.type ((us ++ x :: xs).map dVal).toArray f.offset).run Tryz.prog w = .ok (dVal x) w:=part_scal hag h2 (by rw [h1,← hu];simp)
  have py:(part f.type ((vs ++ y :: ys).map dVal).toArray f.offset).run Tryz.prog w = .ok (dVal y) w:=part_scal hag h2 (by rw [h1,← hv];simp)
  have ih:=eq_fields (fs:=fs) (n:=n + 1) (us:=us ++ [x]) (vs:=vs ++ [y]) (by simp [hu]) (by simp [hv]) h5 g5 m
  rw [List.append_assoc,List.append_assoc] at ih
  simp only [List.singleton_append] at ih
  rw [Op.eqFields,if_pos (by simpa using h3)]
  simp only [Sem.run_bind,px,py,Result.andThen_ok,hd.eq m w]
  rw [dsEq]
  cases dEq y x with
  | false=>rfl
  | true=>exact ih
theorem chk_fields {em:Bool} {m:Nat}:∀ {fs:List Field} {n:Nat} {xs us:List D},us.length = n → FOk fs n xs → (forIn fs PUnit.unit fun f (_:PUnit)=>(if f.name ≠ "_" then do Instr.checkKey em (m + 1) f.type (← part f.type ((us ++ xs).map dVal).toArray f.offset);pure (.yield PUnit.unit) else pure (.yield PUnit.unit):Sem (ForInStep PUnit))).run Tryz.prog w = .ok PUnit.unit w
 | [],n,[],us,_,_=>rfl
 | f :: fs,n,x :: xs,us,hu,hx=>by
  obtain ⟨h1,h2,h3,h4,h5⟩:=hx
  obtain ⟨d,hd⟩:=scal_ok h2 h4 h4
  have hag:=ty_noagg h2 hd.un hd.ag
  have px:(part f.type ((us ++ x :: xs).map dVal).toArray f.offset).run Tryz.prog w = .ok (dVal x) w:=part_scal hag h2 (by rw [h1,← hu];simp)
  have ih:=chk_fields (em:=em) (m:=m) (fs:=fs) (n:=n + 1) (us:=us ++ [x]) (by simp [hu]) h5
  rw [List.append_assoc] at ih
  simp only [List.singleton_append] at ih
  rw [List.forIn_cons]
  rw [if_pos (by simpa using h3)]
  simp only [Sem.run_bind,px,Result.andThen_ok,hd.chk em m w,Sem.run_pure]
  exact ih
theorem bits_fields:∀ {n:Nat} {xs:List D},(∀ x ∈ xs,Instr.sameBits n (dVal x) (dVal x) = true) → Instr.sameBits (n + 1) (.agg (xs.map dVal).toArray) (.agg (xs.map dVal).toArray) = true:=by
 intro n xs h
 simp only [Instr.sameBits,beq_self_eq_true,Bool.true_and,List.all_eq_true]
 intro p hp
 obtain ⟨i,hi⟩:=List.mem_iff_getElem?.1 hp
 rw [List.getElem?_zip_eq_some] at hi
 have e:p.1 = p.2:=Option.some.inj (hi.1.symm.trans hi.2)
 have h2:=hi.1
 simp only [List.getElem?_map] at h2
 obtain ⟨x,hx,hpx⟩:=Option.map_eq_some_iff.1 h2
 obtain ⟨p1,p2⟩:=p
 simp only at e hpx ⊢
 rw [← e,← hpx]
 exact h x (List.mem_of_getElem? hx)
theorem skey_mem {t:Nat}:∀ {l:List Nat},skeyB t l = true → t ∈ l
 | [],h=>by cases h
 | u :: l,h=>by
  rw [skeyB] at h
  split at h
  ·rename_i e;rw [eqN_is] at e;rw [e];exact List.mem_cons_self ..
  ·exact List.mem_cons_of_mem _ (skey_mem h)
theorem skey_fields {t:Nat} (ht:tyKnown t = true) (hf:∀ u ∈ (ty t).fty,tyKnown u = true) {ds:List D} (h:keyB t (.ag ds) = true):∃ fs,Tryz.prog.underlying t = some (.struct fs) ∧ Tryz.prog.stoodInHeld t = false ∧ FOk fs.toList 0 ds:=by
 rw [keyB] at h
 split at h
 ·rename_i hst
  split at h
  ·rename_i hs
   have hm:=skeysOk t (skey_mem hs)
   unfold skeyOk at hm
   simp only [Bool.and_eq_true,Bool.not_eq_true'] at hm
   obtain ⟨⟨h1,_⟩,h2⟩:=hm
   obtain ⟨fs,hu,h3,h4⟩:=ty_struct ht hst
   rw [hu] at h2
   refine ⟨fs,hu,h1,fok_of (fl:=(ty t).flds) ?_ (fun f hfm=>⟨hf _ (by rw [← h4];exact List.mem_map_of_mem hfm),List.all_eq_true.1 h2 f hfm⟩) (by rw [h4];exact h)⟩
   have:=congrArg (List.map Prod.fst) h3
   simpa [List.map_map,Function.comp_def] using this
  ·cases h
 ·cases h
structure KeyOk (t:Nat) (x y:R) (w:World):Prop where
 eq:(Op.equal t (rVal x) (rVal y)).run Tryz.prog w = .ok (rEq y x) w
 chk:∀ e,(Instr.checkKey e 10000 t (rVal x)).run Tryz.prog w = .ok () w
 bits:Instr.sameBits 10000 (rVal x) (rVal x) = true
 now:∀ d,Tryz.prog.underlying t = some d → Instr.sameNow d (rVal x) (rVal y) = some (rEq y x) ∨ Instr.sameNow d (rVal x) (rVal y) = none
theorem key_ok {t:Nat} (ht:tyKnown t = true) (hf:∀ u ∈ (ty t).fty,tyKnown u = true) {x y:R} (hx:keyB t x = true) (hy:keyB t y = true):KeyOk t x y w:=by
 cases x with
 | one x =>
  cases y with
  | one y =>
   obtain ⟨d,hd⟩:=scal_ok ht hx hy
   exact ⟨hd.eq 9999 w,fun e=>hd.chk e 9999 w,hd.bits _,fun d' hd'=>by
    have h:=hd.un
    rw [hd'] at h
    injection h with h
    subst h
    exact .inl hd.now⟩
  | ag ys =>
   obtain ⟨fs,hu,_⟩:=skey_fields ht hf hy
   obtain ⟨d,hd⟩:=scal_ok ht hx hx
   have h:=hd.un
   rw [hu] at h
   injection h with h
   subst h
   cases hd.ag
 | ag xs =>
  obtain ⟨fs,hu,hst,hfx⟩:=skey_fields ht hf hx
  cases y with
  | one y =>
   obtain ⟨d,hd⟩:=scal_ok ht hy hy
   have h:=hd.un
   rw [hu] at h
   injection h with h
   subst h
   cases hd.ag
  | ag ys =>
   obtain ⟨fs',hu',_,hfy⟩:=skey_fields ht hf hy
   rw [hu] at hu'
   injection hu' with hu'
   injection hu' with hu'
   subst hu'
   have hfo:Tryz.prog.fieldsOf t = fs:=by unfold Program.fieldsOf;rw [hu]
   refine ⟨?_,fun e=>?_,?_,fun d hd=>?_⟩
   ·have h1:=run_equalIn_struct w 9999 t (xs.map dVal).toArray (ys.map dVal).toArray (by rw [hfo];exact hu) hst
    rw [hfo] at h1
    exact h1.trans (eq_fields (us:=[]) (vs:=[]) rfl rfl hfx hfy 9998)
   ·have h1:=chk_fields (w:=w) (em:=e) (m:=9998) (us:=[]) rfl hfx
    show (Instr.checkKey e (9999 + 1) t (.agg (xs.map dVal).toArray)).run Tryz.prog w = _
    rw [Instr.checkKey]
    simp only [Sem.run_bind,run_underlying hu,Result.andThen_ok]
    rw [← Array.forIn_toList]
    exact (congrArg (fun r=>r.andThen fun a w'=>Sem.run Tryz.prog (pure ()) w') h1:_)
   ·refine bits_fields (n:=9999) fun x hx'=>?_
    have key:∀ {fs:List Field} {n:Nat} {xs:List D},FOk fs n xs → ∀ x ∈ xs,Instr.sameBits 9999 (dVal x) (dVal x) = true:=by
     intro fs
     induction fs with
     | nil =>
      intro n xs h x hx
      cases xs with
      | nil=>cases hx
      | cons y ys=>exact (show False from h).elim
     | cons f fs ih =>
      intro n xs h x hx
      cases xs with
      | nil=>cases hx
      | cons y xs =>
       obtain ⟨h1,h2,h3,h4,h5⟩:=h
       rcases List.mem_cons.1 hx with rfl | hx
       ·obtain ⟨d,hd⟩:=scal_ok h2 h4 h4
        exact hd.bits _
       ·exact ih h5 x hx
    exact key hfx x hx'
   ·rw [hu] at hd
    injection hd with hd
    subst hd
    exact .inr rfl
end
section
variable {I:Nat → Nat → Prop} {w:World} {g:Nat → Value}
theorem plain_at:∀ {xs:List V} {us:List Value} {ds:List D},AtVs I w g us xs → plainDs xs = some ds → AtDs I w us ds
 | [],us,ds,h,hd=>by
  rw [plainDs] at hd
  injection hd with hd
  subst hd
  rw [h.unnil]
  exact .nil I w
 | x :: l,us,ds,h,hd=>by
  obtain ⟨u,us,rfl,h1,h2⟩:=h.uncons
  cases x with
  | d x =>
   rw [plainDs] at hd
   split at hd
   ·rename_i ys hys
    injection hd with hd
    subst hd
    cases h1 with
    | d h1=>exact .cons h1 (plain_at h2 hys)
   ·cases hd
  | _=>simp [plainDs] at hd
end
end
section
section
variable {I0:Nat → Nat → Prop} {X:Nat → Prop} {w0:W0} {I:Nat → Nat → Prop} {g:Nat → Value} {s:S} {a:Act} {w:World}
theorem notB_is (b:Bool):notB b = !b:=by cases b <;> rfl
theorem orB_is (a b:Bool):orB a b = (a || b):=by cases a <;> rfl
theorem val_ok (h:RelI I0 X w0 I g s a w) {K:V → Prop} {op:BinOp} {t:Nat} (ox oy:Operand) {x y:Value} (hK:binVal real op x y K):Yld I0 X w0 g s a w (do eqGuard op t ox oy x y;binOp op t x y) K:=by
  unfold binVal at hK
  split at hK <;> try exact hK.elim
  · rename_i K k m k' n
    split at hK
    · rename_i hb
      have key:∀ r,bitsI op k m k' n = some r → (do eqGuard op t ox oy (.int k m) (.int k' n);binOp op t (.int k m) (.int k' n)).run Tryz.prog w = .ok (.int k r) w:=by
        intro r hr
        unfold bitsI at hr
        split at hr
        · cases n with
          | ofNat n =>
            injection hr with hr
            subst hr
            have h0:¬ (Int.ofNat n < 0):=by simp
            simp only [eqGuard,binOp,Op.shift,if_neg h0]
            rfl
          | negSucc n=>cases hr
        · cases n with
          | ofNat n =>
            injection hr with hr
            subst hr
            have h0:¬ (Int.ofNat n < 0):=by simp
            simp only [eqGuard,binOp,Op.shift,if_neg h0]
            rfl
          | negSucc n=>cases hr
        all_goals first
          | (exfalso;cases hr;done)
          | (split at hr
             · rename_i hk
               obtain rfl:=keq_is hk
               injection hr with hr
               subst hr
               simp only [eqGuard,binOp,Op.intBits,ne_eq,not_true,if_false]
               rfl
             · cases hr)
      rw [show real.bits op k m k' n = bitsI op k m k' n from rfl] at hK
      cases hr:bitsI op k m k' n with
      | none=>rw [hr] at hK;exact hK.elim
      | some r =>
        rw [hr] at hK
        exact yld h (key r hr) (ati k _) hK
    split at hK <;> try exact hK.elim
    rename_i hk
    obtain rfl:=keq_is hk
    unfold binInt at hK
    split at hK <;> try exact hK.elim
    · exact yld h (by simp [eqGuard,binOp,Op.intArith];rfl) (ati k _) hK
    · exact yld h (by simp [eqGuard,binOp,Op.intArith];rfl) (ati k _) hK
    · exact yld h (by simp [eqGuard,binOp,Op.intArith];rfl) (ati k _) hK
    · have h0:n ≠ 0:=hK.1
      exact yld h (by simp [eqGuard,binOp,Op.intDiv,h0];rfl) (ati k _) hK.2
    · have h0:n ≠ 0:=hK.1
      exact yld h (by simp [eqGuard,binOp,Op.intDiv,h0];rfl) (ati k _) hK.2
    · exact yld h (by simp [eqGuard,binOp,Op.intCmp];rfl) (atb _) hK
    · refine yld h ?_ (atb _) hK
      simp [eqGuard,binOp,Op.intCmp,notB_is]
      rfl
    · exact yld h (by simp [eqGuard,binOp,Op.intCmp];rfl) (atb _) hK
    · exact yld h (by simp [eqGuard,binOp,Op.intCmp];rfl) (atb _) hK
    · exact yld h (by simp [eqGuard,binOp,Op.intCmp];rfl) (atb _) hK
    · exact yld h (by simp [eqGuard,binOp,Op.intCmp];rfl) (atb _) hK
  · rename_i K b c
    unfold binStr at hK
    split at hK <;> try exact hK.elim
    · have h0:b.size + c.size ≤ 4611686018427387904:=hK.1
      have h1:¬ (((b.size + c.size:Nat):Int) > 9223372036854775807):=by omega
      refine yld h ?_ (ats _) hK.2
      simp only [eqGuard,binOp,Op.stringOp,IntKind.max_i64]
      rw [if_neg h1]
      rfl
    all_goals
      refine yld h ?_ (atb _) hK
      simp only [eqGuard,binOp,Op.stringOp,notB_is,orB_is]
      rfl
theorem nil_ok (h:RelI I0 X w0 I g s a w) {K:V → Prop} {op:BinOp} {t:Nat} (ox oy:Operand) {x y:Value} {b:Bool} (h0:∀ p q,x ≠ .int p q) (h1:∀ p q,y ≠ .int p q) (hx:(∃ p,x = .pointer p) ∨ (∃ p,x = .bool p) ∨ ∃ A n c,x = .slice A n c) (he:(Op.equal t x y).run Tryz.prog w = .ok b w) (hK:nilEq b K op):Yld I0 X w0 g s a w (do eqGuard op t ox oy x y;binOp op t x y) K:=by
 have hg:(eqGuard op t ox oy x y).run Tryz.prog w = .ok () w:=by
  unfold eqGuard
  cases op <;> rcases hx with ⟨p,rfl⟩ | ⟨p,rfl⟩ | ⟨A,n,c,rfl⟩ <;> rfl
 cases op <;> try exact hK.elim
 ·refine yld h ?_ (atb _) hK
  simp only [Sem.run_bind,hg,Result.andThen_ok]
  rcases hx with ⟨p,rfl⟩ | ⟨p,rfl⟩ | ⟨A,n,c,rfl⟩ <;> cases y <;> first | exact absurd rfl (h1 _ _) | simp [binOp,he]
 ·refine yld h ?_ (atb _) hK
  simp only [Sem.run_bind,hg,Result.andThen_ok]
  rcases hx with ⟨p,rfl⟩ | ⟨p,rfl⟩ | ⟨A,n,c,rfl⟩ <;> cases y <;> first | exact absurd rfl (h1 _ _) | simp [binOp,he,notB_is]
theorem ag_ok (h:RelI I0 X w0 I g s a w) {K:V → Prop} {op:BinOp} {t:Nat} (ox oy:Operand) {x y:Array Value} {b:Bool} (hq:Tryz.prog.eqGuardType Tryz.prog.depth t = false) (he:(Op.equal t (.agg x) (.agg y)).run Tryz.prog w = .ok b w) (hK:nilEq b K op):Yld I0 X w0 g s a w (do eqGuard op t ox oy (.agg x) (.agg y);binOp op t (.agg x) (.agg y)) K:=by
 generalize hP:Tryz.prog = P at *
 have hg:∀ op,(op = .eql ∨ op = .neq) → (eqGuard op t ox oy (.agg x) (.agg y)).run P w = .ok () w:=by
  intro op ho
  rcases ho with rfl | rfl <;> simp [eqGuard,hq]
 subst hP
 cases op <;> try exact hK.elim
 ·refine yld h ?_ (atb _) hK
  simp only [Sem.run_bind,hg _ (.inl rfl),Result.andThen_ok]
  simp only [binOp,Sem.run_bind,he,Result.andThen_ok,Sem.run_pure]
 ·refine yld h ?_ (atb _) hK
  simp only [Sem.run_bind,hg _ (.inr rfl),Result.andThen_ok]
  simp only [binOp,Sem.run_bind,he,Result.andThen_ok,Sem.run_pure,notB_is]
theorem key_guard {t:Nat} {ds:List D} (h:keyB t (.ag ds) = true):(ty t).kind = .struct ∧ Tryz.prog.eqGuardType Tryz.prog.depth t = false:=by
 rw [keyB] at h
 split at h
 ·rename_i hst
  split at h
  ·rename_i hs
   have hm:=skeysOk t (skey_mem hs)
   unfold skeyOk at hm
   simp only [Bool.and_eq_true,Bool.not_eq_true'] at hm
   exact ⟨hst,hm.1.2⟩
  ·cases h
 ·cases h
theorem eqp {t e:Nat} (hu:Tryz.prog.underlying t = some (.pointer e)) (p:Option Addr):(Op.equal t (.pointer p) (.pointer none)).run Tryz.prog w = .ok p.isNone w ∧ (Op.equal t (.pointer none) (.pointer p)).run Tryz.prog w = .ok p.isNone w:=by
 have key:∀ d,(Op.equalIn (d + 1) t (.pointer p) (.pointer none)).run Tryz.prog w = .ok p.isNone w ∧ (Op.equalIn (d + 1) t (.pointer none) (.pointer p)).run Tryz.prog w = .ok p.isNone w:=fun d=>by
  cases p <;> simp [Op.equalIn,run_underlying hu]
 exact key 9999
theorem eqb {t:Nat} (hu:Tryz.prog.underlying t = some .bool) (b c:Bool):(Op.equal t (.bool b) (.bool c)).run Tryz.prog w = .ok (b == c) w:=by
 have key:∀ d,(Op.equalIn (d + 1) t (.bool b) (.bool c)).run Tryz.prog w = .ok (b == c) w:=fun d=>by
  simp [Op.equalIn,run_underlying hu]
 exact key 9999
theorem eqs {t e:Nat} (hu:Tryz.prog.underlying t = some (.slice e)) (A:Option Addr) (n c:Nat):(Op.equal t (.slice A n c) (.slice none 0 0)).run Tryz.prog w = .ok A.isNone w:=by
 have key:∀ d,(Op.equalIn (d + 1) t (.slice A n c) (.slice none 0 0)).run Tryz.prog w = .ok A.isNone w:=fun d=>by
  cases A <;> simp [Op.equalIn,run_underlying hu]
 exact key 9999
theorem isNilP_at {u:Value} {x:V} (hu:AtV I w g u x) (h:isNilP x = true):u = .pointer none:=by
 unfold isNilP at h
 split at h
 ·exact hu.sc
 ·cases h
theorem bin_ok (h:RelI I0 X w0 I g s a w) {K:V → Prop} {op:BinOp} {t:Nat} (ht:eqOk t = true) (ox oy:Operand) {u v:Value} {x y:V} (hu:AtV I w g u x) (hv:AtV I w g v y) (hK:binV real op t x y K):Yld I0 X w0 g s a w (do eqGuard op t ox oy u v;binOp op t u v) K:=by
 unfold eqOk at ht
 unfold binV at hK
 split at hK <;> try exact hK.elim
 ·rename_i x y
  obtain rfl:=hu.sc
  obtain rfl:=hv.sc
  split at hK
  ·rename_i hk
   rw [hk] at ht
   obtain ⟨e,hun⟩:=ty_ptr ht hk
   split at hK <;> try exact hK.elim
   exact nil_ok h ox oy (by simp) (by simp) (.inl ⟨_,rfl⟩) (eqp hun none).1 hK
  ·rename_i hk
   rw [hk] at ht
   have hun:=ty_bool ht hk
   split at hK <;> try exact hK.elim
   rename_i b c
   rw [bEq_is] at hK
   exact nil_ok h ox oy (by simp) (by simp) (.inr (.inl ⟨_,rfl⟩)) (eqb hun b c) hK
  ·exact val_ok h ox oy hK
 ·rename_i y K k off
  split at hK <;> try exact hK.elim
  rename_i hk
  rw [hk] at ht
  obtain ⟨e,hun⟩:=ty_ptr ht hk
  split at hK <;> try exact hK.elim
  rename_i hn
  obtain rfl:=isNilP_at hv hn
  obtain ⟨b,_,rfl⟩:=hu.unptr
  exact nil_ok h ox oy (by simp) (by simp) (.inl ⟨_,rfl⟩) (eqp hun _).1 hK
 ·rename_i x K k off _ _
  split at hK <;> try exact hK.elim
  rename_i hk
  rw [hk] at ht
  obtain ⟨e,hun⟩:=ty_ptr ht hk
  split at hK <;> try exact hK.elim
  rename_i hn
  obtain rfl:=isNilP_at hu hn
  obtain ⟨b,_,rfl⟩:=hv.unptr
  exact nil_ok h ox oy (by simp) (by simp) (.inl ⟨_,rfl⟩) (eqp hun _).2 hK
 ·rename_i K sz rows
  split at hK <;> try exact hK.elim
  rename_i hk
  have hk:(ty t).kind = .slice:=by revert hk;cases (ty t).kind <;> intro hk <;> first | rfl | cases hk
  rw [hk] at ht
  have ht:(tyKnown t && (ty t).elem.isSome) = true:=ht
  rw [Bool.and_eq_true] at ht
  obtain ⟨e,he⟩:=Option.isSome_iff_exists.1 ht.2
  have hun:=ty_slice ht.1 he
  rw [hv.unem]
  cases hu with
  | d hd =>
   obtain ⟨A,cap,rfl,hcap,hr⟩:=hd.slice
   have hne:rows ≠ []:=fun e=>hK.1 (by rw [e];rfl)
   rcases hr with hr | ⟨b,off,us,rfl,_⟩
   ·exact absurd hr hne
   ·exact nil_ok h ox oy (by simp) (by simp) (.inr (.inr ⟨_,_,_,rfl⟩)) (eqs hun _ _ _) hK.2
 ·rename_i K
  split at hK <;> try exact hK.elim
  rename_i hk
  have hk:(ty t).kind = .slice:=by revert hk;cases (ty t).kind <;> intro hk <;> first | rfl | cases hk
  rw [hk] at ht
  have ht:(tyKnown t && (ty t).elem.isSome) = true:=ht
  rw [Bool.and_eq_true] at ht
  obtain ⟨e,he⟩:=Option.isSome_iff_exists.1 ht.2
  have hun:=ty_slice ht.1 he
  rw [hv.unem,hu.unem]
  exact nil_ok h ox oy (by simp) (by simp) (.inr (.inr ⟨_,_,_,rfl⟩)) (eqs hun _ _ _) hK
 ·rename_i K xs ys
  split at hK <;> try exact hK.elim
  rename_i ds es h1 h2
  split at hK <;> try exact hK.elim
  rename_i hk1
  split at hK <;> try exact hK.elim
  rename_i hk2
  obtain ⟨us,rfl,hus⟩:=hu.unag
  obtain ⟨vs,rfl,hvs⟩:=hv.unag
  have a1:=key_val (r:=.ag ds) ⟨us,rfl,plain_at hus h1⟩ hk1
  have a2:=key_val (r:=.ag es) ⟨vs,rfl,plain_at hvs h2⟩ hk2
  obtain ⟨hst,hg⟩:=key_guard hk1
  rw [hst] at ht
  have ht:(tyKnown t && (ty t).fty.all tyKnown) = true:=ht
  rw [Bool.and_eq_true] at ht
  have hkey:=(key_ok (w:=w) ht.1 (fun u hu=>List.all_eq_true.1 ht.2 u hu) hk1 hk2).eq
  rw [← a1,← a2] at hkey
  exact ag_ok h ox oy hg hkey hK
theorem un_ok (h:RelI I0 X w0 I g s a w) {K:V → Prop} {op:UnOp} {u:Value} {x:V} (hu:AtV I w g u x) (hK:unV real op x K):Yld I0 X w0 g s a w (Op.unary op u) K:=by
 unfold unV at hK
 split at hK <;> try exact hK.elim
 ·obtain rfl:=hu.sc
  refine yld h ?_ (atb _) hK
  simp only [Op.unary,notB_is]
  rfl
 ·obtain rfl:=hu.sc
  exact yld h (by simp only [Op.unary,Op.intArith];rfl) (ati _ _) hK
theorem byteR_at {us:List Value} {r:List D} {c:UInt8} (h:AtDs I w us r) (hc:byteR r = some c):∃ n:Int,us = [.int .u8 n] ∧ c = UInt8.ofNat n.toNat:=by
 unfold byteR at hc
 split at hc
 ·rename_i v
  obtain ⟨u,us',rfl,h1,h2⟩:=h.uncons
  have h3:us' = []:=List.eq_nil_of_length_eq_zero h2.1
  subst h3
  cases h1 with
  | sc _ hv =>
  unfold byteV at hc
  split at hc
  ·rename_i k n
   split at hc
   ·rename_i hk
    obtain rfl:=keq_is hk
    injection hc with hc
    exact ⟨n,rfl,hc.symm⟩
   ·cases hc
  ·cases hc
 ·cases hc
theorem bytesB_at:∀ {rows:List (List D)} {us:List Value} {l:List UInt8},AtDs I w us rows.flatten → bytesB rows = some l → ∃ ns:List Int,us = ns.map (Value.int .u8) ∧ l = ns.map (fun n=>UInt8.ofNat n.toNat)
 | [],us,l,h,hb=>by
  injection hb with hb
  subst hb
  exact ⟨[],List.eq_nil_of_length_eq_zero h.1,rfl⟩
 | r :: rows,us,l,h,hb=>by
  rw [bytesB] at hb
  split at hb <;> try cases hb
  rename_i c hc
  split at hb <;> try cases hb
  rename_i t ht
  rw [List.flatten_cons] at h
  have h1:AtDs I w (us.take r.length) r:=by
   have:=h.take r.length
   rw [List.take_left] at this
   exact this
  have h2:AtDs I w (us.drop r.length) rows.flatten:=by
   have:=h.drop r.length
   rw [List.drop_left] at this
   exact this
  obtain ⟨n,e1,e2⟩:=byteR_at h1 hc
  obtain ⟨ns,e3,e4⟩:=bytesB_at h2 ht
  exact ⟨n :: ns,by rw [← List.take_append_drop r.length us,e1,e3];rfl,by rw [e2,e4];rfl⟩
theorem push_all:∀ (ns:List Int) (s:ByteArray),ns.foldl (fun r n=>r.push (UInt8.ofNat n.toNat)) s = ⟨⟨s.data.toList ++ ns.map (fun n=>UInt8.ofNat n.toNat)⟩⟩
 | [],s=>by simp
 | n :: ns,s=>by
  rw [List.foldl_cons,push_all ns]
  simp [ByteArray.push]
theorem isByte_at {t:Nat} (h:isByte t = true):∃ e,(ty t).elem = some e ∧ tyKnown e = true ∧ (ty e).kind = .int .u8:=by
 unfold isByte at h
 split at h
 ·rename_i e he
  rw [Bool.and_eq_true] at h
  obtain ⟨h1,h2⟩:=h
  split at h2
  ·rename_i k hk
   obtain rfl:=keq_is h2
   exact ⟨e,he,h1,hk⟩
  ·cases h2
 ·cases h
theorem convOk_sl {t u:Nat} (h:convOk t u = true) (h1:isSlK (ty t).kind = true) (h2:(ty u).kind = .str):isByte t = true:=by
 unfold convOk at h
 rw [h1,h2,Bool.and_eq_true] at h
 simpa [notB,isStK] using h.1
theorem convOk_st {t u:Nat} (h:convOk t u = true) (h1:isStK (ty t).kind = true) (h2:(ty u).kind = .slice):isByte u = true:=by
 unfold convOk at h
 rw [h1,h2,Bool.and_eq_true] at h
 simpa [notB,isSlK] using h.2
theorem conv_ok (h:RelI I0 X w0 I g s a w) {K:V → Prop} {t0 t:Nat} (ht0:tyKnown t0 = true) (ht:tyKnown t = true) (hcv:convOk t0 t = true) {u:Value} {x:V} (hu:AtV I w g u x) (hK:convV real K (ty t0).kind (ty t).kind x):Yld I0 X w0 g s a w (convert t0 t u) K:=by
 have h0:∃ d,Tryz.prog.underlying t0 = some d:=by
  have:=(tyOk t0 ht0).agg
  cases hd:Tryz.prog.underlying t0 with
  | none=>rw [hd] at this;cases this
  | some d=>exact ⟨d,rfl⟩
 obtain ⟨d0,hd0⟩:=h0
 unfold convV at hK
 split at hK <;> try exact hK.elim
 ·rename_i k hkind
  unfold convI at hK
  split at hK <;> try exact hK.elim
  obtain rfl:=hu.sc
  exact yld h (by simp [convert,run_underlying hd0,run_underlying (ty_int ht hkind),Conv.intToInt];rfl) (ati _ _) hK
 ·rename_i hkind
  unfold convT at hK
  split at hK <;> try exact hK.elim
  ·obtain rfl:=hu.sc
   exact yld h (by simp [convert,run_underlying hd0,run_underlying (ty_str ht hkind)]) (ats _) hK
  ·rename_i sz rows
   split at hK <;> try exact hK.elim
   rename_i hsl
   obtain ⟨e,he,hke,hkk⟩:=isByte_at (convOk_sl hcv hsl hkind)
   unfold optT at hK
   split at hK <;> try exact hK.elim
   rename_i b hb
   replace hb:bytesOf rows = some b:=hb
   unfold bytesOf at hb
   split at hb <;> try cases hb
   rename_i l hl
   cases hu with
   | d hd =>
    obtain ⟨A,cap,rfl,hcap,hrows⟩:=hd.slice
    have key:(Conv.bytesToString (.slice A rows.length cap)).run Tryz.prog w = .ok (.string ⟨⟨l⟩⟩) w:=by
     rcases hrows with rfl | ⟨b,off,us,rfl,hI,hr,hlen,hcell,hat⟩
     ·have hl:l = []:=(Option.some.inj hl).symm
      subst hl
      cases A with
      | none=>rfl
      | some p =>
       have h1:=run_bytesToString (P:=Tryz.prog) w p 0 cap [] (run_loadCells_list (P:=Tryz.prog) w p [] (fun j v hv=>by simp at hv))
       rw [push_all] at h1
       exact h1
     ·obtain ⟨ns,e1,e2⟩:=bytesB_at hat hl
      have hl1:us.length = rows.length:=by
       rw [hlen]
       have:∀ {rows:List (List D)} {l:List UInt8},bytesB rows = some l → ∀ r ∈ rows,r.length = 1:=by
        intro rows
        induction rows with
        | nil=>intro l _ r hr;cases hr
        | cons r0 rows ih =>
         intro l hb r hr
         rw [bytesB] at hb
         split at hb <;> try cases hb
         rename_i c hc
         split at hb <;> try cases hb
         rename_i t ht
         rcases List.mem_cons.1 hr with rfl | hr
         ·unfold byteR at hc
          split at hc
          ·rfl
          ·cases hc
         ·exact ih ht r hr
       cases rows with
       | nil=>simp
       | cons r rows=>rw [← hr r (List.mem_cons_self ..),this hl r (List.mem_cons_self ..),Nat.mul_one]
      have h1:=run_bytesToString (P:=Tryz.prog) w ⟨b,off,none⟩ rows.length cap ns (by rw [← hl1,← e1];exact run_loadCells_list (P:=Tryz.prog) w ⟨b,off,none⟩ us (fun j v hv=>by rw [Addr.add_lit];exact hcell j v hv))
      rw [push_all] at h1
      rw [h1,e2]
      rfl
    exact yld h (by rw [run_convert_bytes_string w t0 t e A rows.length cap (ty_slice ht0 he) (ty_int hke hkk) (ty_str ht hkind)];exact key) (ats _) hK
  ·split at hK <;> try exact hK.elim
   rename_i hsl
   obtain ⟨e,he,hke,hkk⟩:=isByte_at (convOk_sl hcv hsl hkind)
   rw [hu.unem]
   exact yld h (by rw [run_convert_bytes_string w t0 t e none 0 0 (ty_slice ht0 he) (ty_int hke hkk) (ty_str ht hkind)];rfl) (ats _) hK
 ·rename_i hkind
  unfold convB at hK
  split at hK <;> try exact hK.elim
  rename_i b
  split at hK <;> try exact hK.elim
  rename_i hst
  obtain ⟨e,he,hke,hkk⟩:=isByte_at (convOk_st hcv hst hkind)
  obtain rfl:=hu.sc
  have hrun:=Lib.run_convert_string_bytes (P:=Tryz.prog) w t0 t e b hd0 (ty_slice ht he) (ty_int hke hkk)
  have hb:Below w.heap.size w (Lib.bytesWorld w e b):=⟨rfl,rfl,rfl,by rw [Lib.bytesWorld_size];omega,fun k hk=>Lib.bytesWorld_at_old w e b k hk⟩
  have hk:Keeps I w (Lib.bytesWorld w e b):=fun b k hbk i _=>hb.cell (p:=⟨b,i,none⟩) (h.lt b k hbk).1
  have h4:=h.grow hb (I':=fun b k=>I b k ∨ b = w.heap.size) (fun _ _ h=>.inl h) (fun b k hk=>by
   rcases hk with hk | rfl
   ·exact .inl hk
   ·exact .inr ⟨Nat.le_refl _,by rw [Lib.bytesWorld_size];omega⟩)
  have hlen:(rowsB b).length = b.size:=by unfold rowsB;rw [List.length_map];rfl
  refine ⟨_,_,_,_,hrun,h4,.d ?_,hK⟩
  rw [show b.size = (rowsB b).length from hlen.symm]
  refine .sl _ 0 _ _ (rowsB b) (b.data.toList.map fun c=>.int .u8 (c.toNat:Int)) (by rw [hlen];exact grownCap_ge ..) ⟨_,Nat.le_refl _,.inr rfl⟩ (fun r hr=>?_) ?_ (fun i u hu=>?_) (fun i u d hu hd=>?_)
  ·unfold rowsB at hr
   obtain ⟨c,_,rfl⟩:=List.mem_map.1 hr
   rfl
  ·rw [List.length_map,hlen,Nat.mul_one];rfl
  ·rw [Nat.zero_add]
   have hi:i < b.size:=by have:=(List.getElem?_eq_some_iff.1 hu).1;rw [List.length_map] at this;exact this
   rw [Lib.bytesWorld_cell w e b i hi]
   rw [List.getElem?_map] at hu
   rw [List.getD_eq_getElem?_getD]
   cases hg:b.data.toList[i]? with
   | none=>rw [hg] at hu;cases hu
   | some c=>rw [hg] at hu;have hu:=Option.some.inj hu;rw [← hu];rfl
  ·have key:∀ l:List UInt8,∀ i:Nat,∀ u d,(l.map fun c=>Value.int .u8 (c.toNat:Int))[i]? = some u → (l.map fun c=>[D.sc (.int .u8 (c.toNat:Int))]).flatten[i]? = some d → AtD (fun b k=>I b k ∨ b = w.heap.size) (Lib.bytesWorld w e b) u d:=by
    intro l
    induction l with
    | nil=>intro i u d hu;simp at hu
    | cons c l ih =>
     intro i u d hu hd
     cases i with
     | zero=>simp at hu hd;subst hu;subst hd;exact .sc _ rfl
     | succ i=>exact ih i u d (by simpa using hu) (by simpa using hd)
   exact key _ i u d hu hd
theorem extract_ok (h:RelI I0 X w0 I g s a w) {K:V → Prop} {i:Nat} {u:Value} {x:V} (hu:AtV I w g u x) (hK:extractV K i x):Yld I0 X w0 g s a w (Instr.extract u i) K:=by
 unfold extractV at hK
 split at hK <;> try exact hK.elim
 rename_i vs
 split at hK <;> try exact hK.elim
 rename_i v hv
 have hi:=take1_is hv
 obtain ⟨us,rfl,h1⟩:=hu.untu
 have hlt:i < us.length:=by rw [h1.1];exact (List.getElem?_eq_some_iff.1 hi).1
 refine yld h (v:=us[i]) ?_ (h1.2 i _ _ (List.getElem?_eq_getElem hlt) hi) hK
 simp [Instr.extract,hlt]
theorem len_ok (h:RelI I0 X w0 I g s a w) {K:V → Prop} {t ty':Nat} (ht:tyKnown t = true) {u:Value} {x:V} (hu:AtV I w g u x) (hK:lenV real s.o K (ty t).kind x):Yld I0 X w0 g s a w (Builtin.len_ #[t] ty' #[u]) K:=by
 have hsl:(ty t).kind = .slice → ∃ e,Tryz.prog.underlying t = some (.slice e):=fun hk=>by
  have h2:=(tyOk t ht).under
  unfold kindOk at h2
  rw [hk] at h2
  obtain ⟨h3,h4⟩:=h2
  obtain ⟨e,he⟩:=Option.isSome_iff_exists.1 h4
  rw [he] at h3
  exact ⟨e,h3⟩
 have key:∀ A n cap,(∃ e,Tryz.prog.underlying t = some (.slice e)) → (Builtin.len_ #[t] ty' #[.slice A n cap]).run Tryz.prog w = .ok (.int .i64 n) w:=fun A n cap ⟨e,he⟩=>by
  simp [Builtin.len_,run_underlying he,goInt]
 unfold lenV at hK
 split at hK <;> try exact hK.elim
 rotate_left
 ·rename_i hk
  unfold lenT at hK
  split at hK <;> try exact hK.elim
  rename_i b
  obtain rfl:=hu.sc
  exact yld h (by simp [Builtin.len_,run_underlying (ty_str ht hk),goInt];rfl) (ati _ _) hK
 rename_i hk
 unfold lenS at hK
 split at hK <;> try exact hK.elim
 ·rename_i sz rows
  cases hu with
  | d h1 =>
   obtain ⟨A,cap,rfl,-⟩:=h1.slice
   exact yld h (key _ _ _ (hsl hk)) (ati _ _) hK
 ·cases hu
  exact yld h (key _ _ _ (hsl hk)) (ati _ _) hK
 ·rename_i k
  split at hK <;> try exact hK.elim
  rename_i z e rows ho
  obtain ⟨us,h1,_⟩:=h.obj k _ (getO_some ho (by simp))
  obtain ⟨A,cap,hg⟩:=own_slice h1
  cases hu with
  | own k A' n cap' hg' =>
   rw [own_gv h1,hg] at hg'
   injection hg' with e1 e2 e3
   subst e1;subst e2;subst e3
   exact yld h (key _ _ _ (hsl hk)) (ati _ _) hK
 ·obtain ⟨b,cap,hg,rfl,hle⟩:=hu.unbs
  exact yld h (key _ _ _ (hsl hk)) (ati _ _) hK
theorem sget_ok (h:RelI I0 X w0 I g s a w) {K:V → Prop} {t:Nat} (ht:tyKnown t = true) (htv:(ty t).kind = .array → ∀ e,(ty t).val = some e → tyKnown e = true) {u v:Value} {x i:V} (hu:AtV I w g u x) (hv:AtV I w g v i) (hK:indexV real K t x i):Yld I0 X w0 g s a w (Instr.index t u v) K:=by
 unfold indexV at hK
 split at hK <;> try exact hK.elim
 ·rename_i cs k n
  split at hK <;> try exact hK.elim
  rename_i hkd
  split at hK <;> try exact hK.elim
  rename_i e he
  split at hK <;> try exact hK.elim
  rename_i j hj
  split at hK <;> try exact hK.elim
  rename_i l hl
  split at hK <;> try exact hK.elim
  rename_i y hy
  have hun:=ty_array ht hkd he
  have hke:=htv hkd e he
  obtain rfl:=hv.sc
  obtain ⟨us,rfl,h7⟩:=hu.unag
  have hn:(0 ≤ n ∧ n < ((ty t).alen:Int)) ∧ n.toNat = j:=by
   simp only [real] at hj
   split at hj
   ·rename_i h1;injection hj with hj;exact ⟨h1,hj⟩
   ·cases hj
  obtain ⟨hn,rfl⟩:=hn
  rw [dropN_is] at hl
  obtain ⟨e1,he1⟩:=takeN_is hl
  have hul:AtVs I w g ((us.drop (n.toNat * (ty e).sz)).take (ty e).sz) l:=by rw [e1];exact (h7.drop _).take _
  obtain ⟨hx,hone⟩:=pack_at hul hy
  refine yld h ?_ hx hK
  simp only [Instr.index,asIntOf,Sem.run_bind,Sem.run_pure,run_underlying hun,Result.andThen_ok,if_pos hn,part,ty_size hke,ty_agg hke]
  cases hag:(ty e).agg with
  | true =>
   have hsz:=ty_size hke w
   simp [hsz]
  | false =>
   have hlen:=hone hag
   simp only [Bool.false_eq_true,if_false]
   have hlt:n.toNat * (ty e).sz < us.length:=by
    rw [List.length_take,List.length_drop] at hlen
    omega
   have:us.toArray[n.toNat * (ty e).sz]? = some (((us.drop (n.toNat * (ty e).sz)).take (ty e).sz).getD 0 undef):=by
    simp only [List.getElem?_toArray,List.getD_eq_getElem?_getD,List.getElem?_take,List.getElem?_drop,Nat.add_zero]
    have hsz:0 < (ty e).sz:=by rw [List.length_take] at hlen;omega
    rw [if_pos hsz,List.getElem?_eq_getElem hlt]
    rfl
   rw [this]
   rfl
 rename_i b k n
 split at hK <;> try exact hK.elim
 rename_i hk
 split at hK <;> try exact hK.elim
 rename_i c hc
 obtain rfl:=hu.sc
 obtain rfl:=hv.sc
 have hs:(if 0 ≤ n then b[n.toNat]? else none).map (fun c=>(c.toNat:Int)) = some c:=by
  simp only [real] at hc
  split at hc
  ·rw [if_pos (by assumption)];exact hc
  ·cases hc
 cases hx:(if 0 ≤ n then b[n.toNat]? else none) with
 | none=>rw [hx] at hs;cases hs
 | some y =>
  rw [hx] at hs
  injection hs with hs
  subst hs
  exact yld h (by simp [Instr.index,asIntOf,run_underlying (ty_str ht hk),hx]) (ati _ _) hK
theorem foldl_splice:∀ (vs:List Value) (j:Nat) (cs:Array Value) (off:Nat),off + j + vs.length ≤ cs.size →
  ((vs.zipIdx j).foldl (fun cs (c,j)=>cs.setIfInBounds (off + j) c) cs).toList = cs.toList.take (off + j) ++ vs ++ cs.toList.drop (off + j + vs.length)
 | [],j,cs,off,_=>by simp
 | v :: vs,j,cs,off,hl=>by
  have hl':off + j < cs.size:=by simp at hl;omega
  rw [List.zipIdx_cons,List.foldl_cons,foldl_splice vs (j + 1) _ off (by simp at hl ⊢;omega)]
  simp only [Array.toList_setIfInBounds,← Nat.add_assoc,List.length_cons]
  have hlt:off + j < cs.toList.length:=by simpa using hl'
  rw [List.set_eq_take_append_cons_drop,if_pos hlt]
  have h1:(cs.toList.take (off + j)).length = off + j:=by rw [List.length_take];omega
  have h2:(cs.toList.take (off + j) ++ v :: cs.toList.drop (off + j + 1)).take (off + j + 1) = cs.toList.take (off + j) ++ [v]:=by
   rw [List.take_append,h1,List.take_of_length_le (by omega),show off + j + 1 - (off + j) = 1 by omega]
   simp
  have h3:(cs.toList.take (off + j) ++ v :: cs.toList.drop (off + j + 1)).drop (off + j + 1 + vs.length) = cs.toList.drop (off + j + (vs.length + 1)):=by
   rw [List.drop_append,h1,List.drop_of_length_le (by omega),show off + j + 1 + vs.length - (off + j) = vs.length + 1 by omega,List.nil_append,List.drop_succ_cons,List.drop_drop]
   congr 1
   omega
  rw [h2,h3]
  simp [Nat.add_assoc]
theorem fill_at (h:RelI I0 X w0 I g s a w) {place:List (Nat × Nat)}:∀ {ps:List (Nat × Operand)} {l r:List V} {us:List Value},AtVs I w g us l → fillV s.get place ps l = some r →
  ∃ us',Instr.fill (fun i=>place[i]?) us.toArray (ps.map fun p=>(p.1,a.eval p.2)) = some us'.toArray ∧ AtVs I w g us' r
 | [],l,r,us,hu,hf=>by
  rw [fillV] at hf
  injection hf with hf
  subst hf
  exact ⟨us,rfl,hu⟩
 | (i,x) :: ps,l,r,us,hu,hf=>by
  rw [fillV] at hf
  split at hf <;> try cases hf
  rename_i off sz hp
  split at hf <;> try cases hf
  rename_i cs hcs
  split at hf <;> try cases hf
  rename_i hsz
  split at hf <;> try cases hf
  rename_i l' hl'
  rw [eqN_is,lenL_is] at hsz
  obtain ⟨vs,hv1,hv2,hv3⟩:=cells_at (h.get x) hcs
  obtain ⟨e,hle⟩:=splice_is hl'
  have hlen:off + vs.length ≤ us.length:=by rw [hv2.1,hu.1];exact hle
  obtain ⟨us',h1,h2⟩:=fill_at h (hu.splice hv2 hl') hf
  refine ⟨us',?_,h2⟩
  rw [List.map_cons,Instr.fill]
  simp only [take1_is hp]
  have hsize:(a.eval x).cells.size = sz:=by rw [hv1];simp [hv2.1,hsz]
  rw [if_neg (by
   rw [hsize]
   have:vs.length = sz:=by rw [hv2.1,hsz]
   simp
   omega)]
  rw [← h1]
  congr 1
  apply Array.ext'
  have:=foldl_splice vs 0 us.toArray off (by simpa using hlen)
  simp only [Nat.add_zero] at this
  rw [hv1]
  simpa using this
theorem mapM_of_map {α:Type} (o:α → Nat) (sz:α → Option Nat):∀ (l:List α) (m:List (Nat × Nat)),l.map (fun f=>(o f,sz f)) = m.map (fun x=>(x.1,some x.2)) → l.mapM (fun f=>(sz f).map fun i=>(o f,i)) = some m
 | [],[],_=>rfl
 | [],_ :: _,h=>by cases h
 | _ :: _,[],h=>by cases h
 | f :: l,(y1,y2) :: m,h=>by
  rw [List.map_cons,List.map_cons] at h
  injection h with h1 h2
  injection h1 with h1 h3
  simp only at h3 h1
  rw [List.mapM_cons,mapM_of_map o sz l m h2,h3,h1]
  rfl
theorem places_get {sz:Nat}:∀ {n off i:Nat} {p:Nat × Nat},(places sz n off)[i]? = some p → p = (off + i * sz,sz)
 | 0,off,i,p,h=>by simp [places] at h
 | n + 1,off,0,p,h=>by simp [places] at h;simp [← h]
 | n + 1,off,i + 1,p,h=>by
  have:=places_get (n:=n) (off:=off + sz) (i:=i) (p:=p) (by simpa [places] using h)
  rw [this,Nat.succ_mul]
  congr 1
  omega
theorem fill_more {place place':Nat → Option (Nat × Nat)} (hp:∀ i p,place i = some p → place' i = some p):∀ {ps:List (Nat × Value)} {l r:Array Value},Instr.fill place l ps = some r → Instr.fill place' l ps = some r
 | [],l,r,h=>h
 | (i,v) :: ps,l,r,h=>by
  rw [Instr.fill] at h ⊢
  split at h
  ·cases h
  ·rename_i off size hpi
   rw [hp _ _ hpi]
   simp only
   split at h
   ·cases h
   ·rename_i hc
    rw [if_neg hc]
    exact fill_more hp h
theorem build_ok (h:RelI I0 X w0 I g s a w) {K:V → Prop} {t:Nat} (ht:tyKnown t = true) (htv:(ty t).kind = .array → ∀ e,(ty t).val = some e → tyKnown e = true) (ps:Array (Nat × Operand)) (hK:buildV s.get K t ps.toList):Yld I0 X w0 g s a w (Instr.build t (ps.map fun p=>(p.1,a.eval p.2))) K:=by
 unfold buildV at hK
 split at hK <;> try exact hK.elim
 ·rename_i hk
  split at hK <;> try exact hK.elim
  rename_i l hl
  obtain ⟨us',h1,h2⟩:=fill_at h (constL_at (ty t).zero) hl
  refine yld h ?_ (atV_ag h2) hK
  refine run_build w t _ _ ?_
  obtain ⟨x,z,hi,hs,hz,hc,_⟩:=ty_info ht
  obtain ⟨fs,hu,hf1,hf2⟩:=ty_struct ht hk
  have hpl:fs.toList.mapM (fun f=>(Tryz.prog.info? f.type).map fun i=>(f.offset,i.size)) = some (ty t).flds:=by
   have hm:=mapM_of_map _ _ _ _ hf1
   simp only [Option.map_map] at hm
   exact hm
  simp only [Program.built,hi,hu,hz,hpl,hc]
  rw [Array.toList_map]
  simpa using h1
 ·rename_i hk
  split at hK <;> try exact hK.elim
  rename_i e he
  split at hK <;> try exact hK.elim
  rename_i l hl
  obtain ⟨us',h1,h2⟩:=fill_at h (constL_at (ty t).zero) hl
  refine yld h ?_ (atV_ag h2) hK
  obtain ⟨z,hz,hzc⟩:=ty_zero ht w
  have hun:=ty_array ht hk he
  have hpl:∀ i p,(places (ty e).sz (ty t).alen 0)[i]? = some p → p = (i * (ty e).sz,(ty e).sz):=fun i p hp=>by
   have:=places_get hp
   simpa using this
  have h3:=fill_more (place':=fun i=>some (i * (ty e).sz,(ty e).sz)) (fun i p hp=>by rw [hpl i p hp]) h1
  rw [← hzc] at h3
  simp only [Instr.build,Sem.run_bind,hz,Result.andThen_ok,run_underlying hun,ty_size (htv hk e he),Array.toList_map]
  rw [h3]
  rfl
theorem min_ok (h:RelI I0 X w0 I g s a w) {K:V → Prop} {mx:Bool} {ts:Array TypeId} {ty':Nat} {us:List Value} {xs:List V} (hu:AtVs I w g us xs) (hK:minV real K mx xs):Yld I0 X w0 g s a w (if mx = true then Builtin.max_ ts ty' us.toArray else Builtin.min_ ts ty' us.toArray) K:=by
 unfold minV at hK
 split at hK <;> try exact hK.elim
 rename_i k m k' n
 obtain ⟨u,us,rfl,h1,h2⟩:=hu.uncons
 obtain ⟨v,us,rfl,h3,h4⟩:=h2.uncons
 rw [h4.unnil]
 obtain rfl:=h1.sc
 obtain rfl:=h3.sc
 split at hK <;> try exact hK.elim
 cases mx with
 | true =>
  refine yld h ?_ (ati k _) hK
  simp only [Builtin.max_,if_true,List.foldlM,Builtin.max2,real]
  by_cases hlt:m < n
  ·simp [hlt]
  ·simp [hlt]
 | false =>
  refine yld h ?_ (ati k _) hK
  simp only [Builtin.min_,Bool.false_eq_true,if_false,List.foldlM,Builtin.min2,real]
  by_cases hlt:n < m
  ·simp [hlt]
  ·simp [hlt]
theorem nn_ok (h:RelI I0 X w0 I g s a w) {K:V → Prop} {v:Value} {x:V} (hv:AtV I w g v x) (hK:nnV K x):K x ∧ (∀ f,v ≠ .func (.method f) #[] #[]) ∧ ((∃ a,v = .pointer (some a)) ∨ ∃ f cs,v = .func (.func f) #[] cs):=by
 unfold nnV at hK
 split at hK <;> try exact hK.elim
 ·obtain ⟨b,_,rfl⟩:=hv.unptr
  exact ⟨hK,by simp,.inl ⟨_,rfl⟩⟩
 ·cases hv
  exact ⟨hK,by simp,.inr ⟨_,_,rfl⟩⟩
 ·cases hv
  exact ⟨hK,by simp,.inl ⟨_,rfl⟩⟩
 ·cases hv
  exact ⟨hK,by simp,.inl ⟨_,rfl⟩⟩
end
end
section
section
variable {I0:Nat → Nat → Prop} {X:Nat → Prop} {w0:W0} {I:Nat → Nat → Prop} {g:Nat → Value} {s:S} {a:Act} {w:World}
theorem chunks_is {sz:Nat}:∀ {n:Nat} {l:List D} {rows:List (List D)},chunks sz n l = some rows → rows.flatten = l ∧ rows.length = n ∧ ∀ r ∈ rows,r.length = sz
 | 0,[],rows,h=>by rw [chunks] at h;injection h with h;subst h;simp
 | 0,_ :: _,rows,h=>by rw [chunks] at h;cases h
 | n + 1,l,rows,h=>by
  rw [chunks] at h
  split at h <;> try cases h
  rename_i r hr
  split at h <;> try cases h
  rename_i rs hrs
  obtain ⟨h1,h2,h3⟩:=chunks_is hrs
  obtain ⟨h4,h5⟩:=takeN_is hr
  rw [dropN_is] at h1
  refine ⟨?_,by simp [h2],fun x hx=>?_⟩
  ·rw [List.flatten_cons,h1,h4];simp
  ·rcases List.mem_cons.1 hx with rfl | hx
   ·exact h5
   ·exact h3 x hx
theorem zeros_at {us:List Value} {z:List V} (hz:AtVs I w g us z):∀ (n:Nat) {vs:List Value} {acc:List V},AtVs I w g vs acc → AtVs I w g ((List.replicate n us).flatten ++ vs) (zeros z n acc)
 | 0,vs,acc,h=>by simpa [zeros] using h
 | n + 1,vs,acc,h=>by
  rw [zeros]
  have:=zeros_at hz n (hz.append h)
  rw [List.replicate_succ',List.flatten_append]
  simpa using this
theorem range_zero (z:Array Value) (n:Nat):((Array.range (n * z.size)).map fun i=>z[i % z.size]!).toList = (List.replicate n z.toList).flatten:=by
 apply List.ext_getElem?
 intro i
 have hrl:∀ r ∈ List.replicate n z.toList,r.length = z.size:=fun r hr=>by rw [(List.mem_replicate.1 hr).2];simp
 by_cases hi:i < n * z.size
 ·have hz:0 < z.size:=by
   rcases Nat.eq_zero_or_pos z.size with h | h
   ·rw [h,Nat.mul_zero] at hi;omega
   ·exact h
  have hq:i / z.size < n:=Nat.div_lt_of_lt_mul (by rw [Nat.mul_comm];exact hi)
  have hm:i % z.size < z.size:=Nat.mod_lt _ hz
  have e:=flat_get hrl (i:=i / z.size) (j:=i % z.size) (r:=z.toList) (by rw [List.getElem?_replicate,if_pos hq]) hm
  rw [Nat.div_add_mod' i z.size] at e
  rw [e]
  simp [hi,hm,Array.getElem?_eq_getElem]
 ·rw [List.getElem?_eq_none (by simp;omega),List.getElem?_eq_none (by rw [flat_len hrl];simp;omega)]
theorem buildSlice_run (h:RelI I0 X w0 I g s a w) {K:V → Prop} {t n:Nat} (ht:tyKnown t = true) (hte:∀ e,(ty t).elem = some e → tyKnown e = true ∧ n * (ty e).sz ≤ 16777216) (ps:Array (Nat × Operand)) (hK:buildSliceV s.get s.o K t n ps.toList) :
  ∃ e rows us,(ty t).elem = some e ∧ tyKnown e = true ∧ (Instr.buildSlice t n (ps.map fun p=>(p.1,a.eval p.2))).run Tryz.prog w = .ok (.slice (some ⟨w.heap.size,0,none⟩) n n) (w.alloc (.cells us.toArray e)) ∧ us.length = n * (ty e).sz ∧ rows.length = n ∧ (∀ r ∈ rows,r.length = (ty e).sz) ∧ AtDs I w us rows.flatten ∧ K (.d (.sl (ty e).sz rows)):=by
 unfold buildSliceV at hK
 split at hK <;> try exact hK.elim
 rename_i e he
 split at hK <;> try exact hK.elim
 rename_i n
 split at hK <;> try exact hK.elim
 rename_i l hl
 split at hK <;> try exact hK.elim
 rename_i ds hds
 split at hK <;> try exact hK.elim
 rename_i rows hrows
 obtain ⟨hke,hsz⟩:=hte e he
 have hun:=ty_slice ht he
 obtain ⟨z,hz,hzc⟩:=ty_zero hke w
 obtain ⟨_,_,_,_,_,_,hzl,_⟩:=ty_info hke
 have hz0:=zeros_at (I:=I) (w:=w) (g:=g) (constL_at (ty e).zero) (n + 1) (.nil I w g)
 rw [List.append_nil] at hz0
 have hpl:∀ (m off i:Nat) (p:Nat × Nat),(places (ty e).sz m off)[i]? = some p → p = (off + i * (ty e).sz,(ty e).sz):=by
  intro m
  induction m with
  | zero=>intro off i p hp;simp [places] at hp
  | succ m ih =>
   intro off i p hp
   cases i with
   | zero=>simp [places] at hp;rw [← hp];simp
   | succ i =>
    have:=ih (off + (ty e).sz) i p (by simpa [places] using hp)
    rw [this,Nat.succ_mul]
    exact Prod.ext (by simp only;omega) rfl
 obtain ⟨us',h1,h2⟩:=fill_at h hz0 hl
 have hfill:∀ (ps:List (Nat × Value)) (cs r:Array Value),Instr.fill (fun i=>(places (ty e).sz (n + 1) 0)[i]?) cs ps = some r → Instr.fill (fun i=>some (i * (ty e).sz,(ty e).sz)) cs ps = some r:=by
  intro ps
  induction ps with
  | nil=>intro cs r hr;exact hr
  | cons p ps ih =>
   intro cs r hr
   obtain ⟨i,v⟩:=p
   rw [Instr.fill] at hr ⊢
   cases hp:(places (ty e).sz (n + 1) 0)[i]? with
   | none=>rw [hp] at hr;cases hr
   | some q =>
    rw [hp] at hr
    have:=hpl _ _ _ _ hp
    rw [Nat.zero_add] at this
    subst this
    simp only at hr ⊢
    split at hr
    ·cases hr
    ·rename_i hc
     rw [if_neg hc]
     exact ih _ _ hr
 have h3:=hfill _ _ _ h1
 have hcell:((Array.range ((n + 1) * (ty e).sz)).map fun i=>((if (n + 1) * (ty e).sz = 0 then #[] else z.cells):Array Value)[i % ((if (n + 1) * (ty e).sz = 0 then #[] else z.cells):Array Value).size]!) = ((List.replicate (n + 1) (ty e).zero).flatten).toArray:=by
  apply Array.ext'
  by_cases hs0:(n + 1) * (ty e).sz = 0
  ·have:(ty e).sz = 0:=by rcases Nat.mul_eq_zero.1 hs0 with h | h <;> omega
   rw [this] at hzl
   have hnil:(ty e).zero = []:=List.eq_nil_of_length_eq_zero hzl
   rw [hs0,hnil]
   simp
  ·rw [if_neg hs0,hzc]
   have:=range_zero (ty e).zero.toArray (n + 1)
   simp only [List.size_toArray,hzl] at this
   simpa [hzl] using this
 have hdat:=toDs_at h h2 hds
 obtain ⟨hfl,hrl,hr1⟩:=chunks_is hrows
 have hrun:(Instr.buildSlice t (n + 1) (ps.map fun p=>(p.1,a.eval p.2))).run Tryz.prog w = .ok (.slice (some ⟨w.heap.size,0,none⟩) (n + 1) (n + 1)) (w.alloc (.cells us'.toArray e)):=by
  have hsz':(n + 1) * (ty e).sz ≤ 16777216:=hsz
  have hbig:¬ (n + 1) * (ty e).sz > 16777216:=by omega
  have hsize:=ty_size hke w
  by_cases hs0:(n + 1) * (ty e).sz = 0
  ·rw [if_pos hs0] at hcell
   simp only [Instr.buildSlice,Sem.run_bind,run_underlying hun,Result.andThen_ok,hsize,Sem.run_ite,Sem.run_pure]
   rw [if_neg (by omega),if_pos hs0]
   simp only [Result.andThen_ok,hcell,Array.toList_map,h3]
   rfl
  ·rw [if_neg hs0] at hcell
   simp only [Instr.buildSlice,Sem.run_bind,run_underlying hun,Result.andThen_ok,hsize,Sem.run_ite,Sem.run_pure]
   rw [if_neg (by omega),if_neg hs0]
   simp only [Sem.run_bind,hz,Result.andThen_ok,Sem.run_pure,hcell,Array.toList_map,h3]
   rfl
 exact ⟨e,rows,us',he,hke,hrun,by rw [hdat.1,← hfl,flat_len hr1,hrl],hrl,hr1,by rw [hfl];exact hdat,hK⟩
theorem buildSlice_ok (h:RelI I0 X w0 I g s a w) {K:V → Prop} {t n:Nat} (ht:tyKnown t = true) (hte:∀ e,(ty t).elem = some e → tyKnown e = true ∧ n * (ty e).sz ≤ 16777216) (ps:Array (Nat × Operand)) (hK:buildSliceV s.get s.o K t n ps.toList) :
  Yld I0 X w0 g s a w (Instr.buildSlice t n (ps.map fun p=>(p.1,a.eval p.2))) K:=by
 obtain ⟨e,rows,us',he,hke,hrun,hl,hrl,hr1,hdat,hK⟩:=buildSlice_run h ht hte ps hK
 have hb:Below w.heap.size w (w.alloc (.cells us'.toArray e)):=(Below.refl _ _).alloc (Nat.le_refl _) _
 have hk:Keeps I w (w.alloc (.cells us'.toArray e)):=fun b k hbk i _=>hb.cell (p:=⟨b,i,none⟩) (h.lt b k hbk).1
 have h4:=h.grow hb (I':=fun b k=>I b k ∨ b = w.heap.size) (fun _ _ h=>.inl h) (fun b k hk=>by
  rcases hk with hk | rfl
  ·exact .inl hk
  ·exact .inr ⟨Nat.le_refl _,by simp⟩)
 refine ⟨_,_,_,_,hrun,h4,.d ?_,hK⟩
 rw [← hrl]
 refine .sl _ 0 _ _ rows us' (Nat.le_refl _) ⟨_,Nat.le_refl _,.inr rfl⟩ hr1 ?_ (fun i u hu=>?_) (fun i u d hu hd=>?_)
 ·rw [hl,hrl]
 ·rw [Nat.zero_add,World.cell?_alloc_new]
  simpa using hu
 ·exact (hdat.2 i u d hu hd).mono (fun _ _ h=>.inl h) hk
theorem bound_at (h:RelI I0 X w0 I g s a w) {n l:Int} {lo:Option Operand} (hb:bound n (getOpt s.get lo) = some l):(lo.map a.eval = none ∧ l = n) ∨ ∃ k,lo.map a.eval = some (.int k l):=by
 cases lo with
 | none =>
  simp only [getOpt,bound,Option.some.injEq] at hb
  exact .inl ⟨rfl,hb.symm⟩
 | some x =>
  simp only [getOpt] at hb
  have hx:=h.get x
  generalize s.get x = y at *
  cases y with
  | d z =>
   cases z with
   | sc v =>
    cases v <;> first | (simp [bound] at hb;done) | skip
    rename_i k m
    simp only [bound,Option.some.injEq] at hb
    subst hb
    exact .inr ⟨k,by rw [Option.map_some,hx.sc]⟩
   | sl sz rows=>simp [bound] at hb
  | _=>simp [bound] at hb
theorem bounds_run (isSlice:Bool) (len cap:Nat) (lo hi:Option Value) (l h:Int) (hlo:(lo = none ∧ l = 0) ∨ ∃ k,lo = some (.int k l)) (hhi:(hi = none ∧ h = len) ∨ ∃ k,hi = some (.int k h)) (h0:0 ≤ l) (h1:l ≤ h) (h2:h ≤ cap) :
  (Instr.sliceBounds isSlice len cap lo hi none).run Tryz.prog w = .ok (l.toNat,h.toNat,cap) w:=by
 have e1:((h.toNat:Nat):Int) = h:=Int.toNat_of_nonneg (by omega)
 have e2:0 ≤ h:=by omega
 rcases hlo with ⟨rfl,rfl⟩ | ⟨k,rfl⟩ <;> rcases hhi with ⟨rfl,rfl⟩ | ⟨k',rfl⟩ <;> simp [Instr.sliceBounds,run_sliceBound, *]
theorem slice_ok (h:RelI I0 X w0 I g s a w) {K:V → Prop} {t:Nat} (ht:tyKnown t = true) (hte:∀ e,(ty t).elem = some e → tyKnown e = true) {u:Value} {x:V} {lo hi:Option Operand} (hu:AtV I w g u x) (hK:sliceV real s.o K t x (getOpt s.get lo) (getOpt s.get hi)) :
  Yld I0 X w0 g s a w (Instr.sliceAt t u (lo.map a.eval) (hi.map a.eval) none) K:=by
 unfold sliceV at hK
 split at hK <;> try exact hK.elim
 rename_i l hl
 have hlo:=bound_at h hl
 split at hK <;> try exact hK.elim
 ·rename_i hk
  split at hK <;> try exact hK.elim
  rename_i b
  split at hK <;> try exact hK.elim
  rename_i hh hhb
  have hhi:=bound_at h hhb
  split at hK <;> try exact hK.elim
  rename_i c hc
  obtain rfl:=hu.sc
  have hun:=ty_str ht hk
  simp only [real] at hc
  split at hc <;> try cases hc
  rename_i hbd
  have hbr:=bounds_run (w:=w) false b.size b.size _ _ l hh hlo hhi hbd.1 hbd.2.1 hbd.2.2
  refine yld h ?_ (ats _) hK
  simp [Instr.sliceAt,Instr.slice,run_underlying hun,hbr]
 ·rename_i hk
  split at hK <;> try exact hK.elim
  rename_i e he
  split at hK <;> try exact hK.elim
  rename_i sz rows hr
  split at hK <;> try exact hK.elim
  rename_i hsz
  split at hK <;> try exact hK.elim
  rename_i hh hhb
  have hhi:=bound_at h hhb
  split at hK <;> try exact hK.elim
  rename_i rs hrs
  obtain ⟨h1,h1'⟩:=rows_at h hu hr
  have h2:=szOk_at hsz h1 h1'
  obtain ⟨A,cap,rfl,hcap,h3⟩:=h2.slice
  simp only [real] at hrs
  split at hrs <;> try cases hrs
  rename_i hbd
  have hun:=ty_slice ht he
  have hbr:=bounds_run (w:=w) true rows.length cap _ _ l hh hlo hhi hbd.1 hbd.2.1 (by omega)
  have hlen:((rows.drop l.toNat).take (hh.toNat - l.toNat)).length = hh.toNat - l.toNat:=by
   rw [List.length_take,List.length_drop];omega
  refine yld h (v:=sliced A l.toNat hh.toNat cap (ty e).sz) ?_ (.d ?_) hK
  ·simp [Instr.sliceAt,Instr.slice,run_underlying hun,hbr,ty_size (hte e he),sliced]
  ·unfold sliced
   by_cases hemp:hh.toNat - l.toNat = 0
   ·have:(rows.drop l.toNat).take (hh.toNat - l.toNat) = []:=by rw [hemp];simp
    rw [this,hemp]
    exact .nil _ _ _
   ·rcases h3 with rfl | ⟨b,off,us,rfl,hI,hrl,hul,hc,hd⟩
    ·simp at hbd;omega
    rw [if_neg (by omega)]
    have hsub:l.toNat * (ty e).sz + (hh.toNat - l.toNat) * (ty e).sz ≤ rows.length * (ty e).sz:=by rw [← Nat.add_mul];exact Nat.mul_le_mul_right _ (by omega)
    have hflat:((rows.drop l.toNat).take (hh.toNat - l.toNat)).flatten = (rows.flatten.drop (l.toNat * (ty e).sz)).take ((hh.toNat - l.toNat) * (ty e).sz):=by
     have e1:rows = rows.take l.toNat ++ ((rows.drop l.toNat).take (hh.toNat - l.toNat) ++ (rows.drop l.toNat).drop (hh.toNat - l.toNat)):=by rw [List.take_append_drop,List.take_append_drop]
     have f1:(rows.take l.toNat).flatten.length = l.toNat * (ty e).sz:=by
      rw [flat_len fun r hr=>hrl r (List.mem_of_mem_take hr),List.length_take,Nat.min_eq_left (by omega)]
     have f2:((rows.drop l.toNat).take (hh.toNat - l.toNat)).flatten.length = (hh.toNat - l.toNat) * (ty e).sz:=by
      rw [flat_len fun r hr=>hrl r (List.mem_of_mem_drop (List.mem_of_mem_take hr)),hlen]
     conv=>rhs;rw [e1]
     rw [List.flatten_append,List.flatten_append,← f1,List.drop_left,← f2,List.take_left]
    have hval:AtD I w (.slice (some ⟨b,off + l.toNat * (ty e).sz,none⟩) ((rows.drop l.toNat).take (hh.toNat - l.toNat)).length (cap - l.toNat)) (.sl (ty e).sz ((rows.drop l.toNat).take (hh.toNat - l.toNat))):=by
     refine .sl b _ _ _ _ ((us.drop (l.toNat * (ty e).sz)).take ((hh.toNat - l.toNat) * (ty e).sz)) (by rw [hlen];omega) (hI.down (by rw [hlen];omega)) (fun r hr=>hrl r (List.mem_of_mem_drop (List.mem_of_mem_take hr))) ?_ (fun i u hu=>?_) (fun i u d hu hdd=>?_)
     ·rw [hlen,List.length_take,List.length_drop,hul];omega
     ·rw [List.getElem?_take] at hu
      split at hu
      ·rw [List.getElem?_drop] at hu
       rw [Nat.add_assoc]
       exact hc _ _ hu
      ·cases hu
     ·rw [hflat,List.getElem?_take] at hdd
      rw [List.getElem?_take] at hu
      split at hu
      ·rename_i hi
       rw [if_pos hi,List.getElem?_drop] at hdd
       rw [List.getElem?_drop] at hu
       exact hd.2 _ _ _ hu hdd
      ·cases hu
    rw [hlen] at hval
    simpa [Addr.add_lit] using hval
 
theorem pick_ok (h:RelI I0 X w0 I g s a w) {K:V → Prop} {c u v:Value} {z x y:V} (hc:AtV I w g c z) (hu:AtV I w g u x) (hv:AtV I w g v y) (hK:pickV K x y z):Yld I0 X w0 g s a w (do pure (if ← asBool c then u else v)) K:=by
 unfold pickV at hK
 split at hK <;> try exact hK.elim
 rename_i b
 obtain rfl:=hc.sc
 cases b
 ·exact yld h (by simp [asBool]) hv hK
 ·exact yld h (by simp [asBool]) hu hK
end
end
section
section
variable {w:World}
def hit (r:R):List R → List MapEntry → Nat → Option (Nat × Value)
 | k :: ks,e :: es,i=>match rEq k r with | true=>some (i,e.val) | false=>hit r ks es (i + 1)
 | _,_,_=>none
theorem find_now {t:Nat} {d:TypeDesc} {r:R} (hd:Tryz.prog.underlying t = some d):∀ {ks:List R} {es:List MapEntry} (i:Nat),es.map (·.key) = ks.map rVal → (∀ k ∈ ks,KeyOk t r k w) → Instr.findNow d (rVal r) es i = some (hit r ks es i) ∨ Instr.findNow d (rVal r) es i = none
 | [],[],i,_,_=>.inl rfl
 | [],_ :: _,i,h,_=>by cases h
 | _ :: _,[],i,h,_=>by cases h
 | k :: ks,e :: es,i,h,hk=>by
  rw [List.map_cons,List.map_cons] at h
  injection h with h1 h2
  have h3:=(hk k (List.mem_cons_self ..)).now d hd
  have ih:=find_now hd (i + 1) h2 fun k hm=>hk k (List.mem_cons_of_mem _ hm)
  simp only [Instr.findNow,hit,h1]
  rcases h3 with h3 | h3
  ·rw [h3]
   cases rEq k r with
   | true=>exact .inl rfl
   | false=>exact ih
  ·rw [h3]
   exact .inr rfl
theorem find_ask {t:Nat} {r:R}:∀ {ks:List R} {es:List MapEntry} (i:Nat),es.map (·.key) = ks.map rVal → (∀ k ∈ ks,KeyOk t r k w) → (Instr.findAsking t (rVal r) es i).run Tryz.prog w = .ok (hit r ks es i) w
 | [],[],i,_,_=>rfl
 | [],_ :: _,i,h,_=>by cases h
 | _ :: _,[],i,h,_=>by cases h
 | k :: ks,e :: es,i,h,hk=>by
  rw [List.map_cons,List.map_cons] at h
  obtain ⟨h1,h2⟩:=List.cons.inj h
  have ih:=find_ask (t:=t) (i + 1) h2 fun k hm=>hk k (List.mem_cons_of_mem _ hm)
  rw [Instr.findAsking,hit,h1,Sem.run_bind,(hk k (List.mem_cons_self ..)).eq,Result.andThen_ok]
  cases hr:rEq k r with
  | true=>simp only [if_true,Sem.run_pure]
  | false=>simp only [Bool.false_eq_true,if_false];exact ih
theorem find_key {t:Nat} (ht:tyKnown t = true) {r:R} {ks:List R} {es:List MapEntry} (h:es.map (·.key) = ks.map rVal) (hk:∀ k ∈ ks,KeyOk t r k w):(Instr.findKey t (rVal r) es).run Tryz.prog w = .ok (hit r ks es 0) w:=by
 have hag:=(tyOk t ht).agg
 cases hu:Tryz.prog.underlying t with
 | none=>rw [hu] at hag;cases hag
 | some d =>
  simp only [Instr.findKey,Sem.run_bind,run_underlying hu,Result.andThen_ok]
  rcases find_now hu 0 h hk with h1 | h1
  ·rw [h1];rfl
  ·rw [h1];exact find_ask 0 h hk
end
section
variable {I0:Nat → Nat → Prop} {X:Nat → Prop} {w0:W0} {I:Nat → Nat → Prop} {g:Nat → Value} {s:S} {a:Act} {w:World}
theorem hit_is {kt:Nat} {r q:R}:∀ {l:List MapEntry} {es:List (R × R)} (i:Nat),AtEs I w kt l es →
  (∃ j e p,hit r (es.map (·.1)) l i = some (i + j,e.val) ∧ l[j]? = some e ∧ es[j]? = some p ∧ rEq p.1 r = true ∧ mget es r = some p.2 ∧ mset es r q = es.set j (p.1,q)) ∨ (hit r (es.map (·.1)) l i = none ∧ mget es r = none ∧ mset es r q = es ++ [(r,q)])
 | [],[],i,_=>.inr ⟨rfl,rfl,rfl⟩
 | [],_ :: _,i,h=>by have:=h.1;simp at this
 | _ :: _,[],i,h=>by have:=h.1;simp at this
 | e :: l,(k,v) :: es,i,h=>by
  have h':AtEs I w kt l es:=⟨by have:=h.1;simpa using this,fun j e p he hp=>h.2 (j + 1) e p (by simpa using he) (by simpa using hp)⟩
  simp only [List.map_cons,hit,mget,mset]
  cases hk:rEq k r with
  | true=>exact .inl ⟨0,e,(k,v),rfl,rfl,rfl,hk,rfl,rfl⟩
  | false =>
   rcases hit_is (q:=q) (i + 1) h' with ⟨j,e',p,h1,h2,h3,h4,h5,h6⟩ | ⟨h1,h2,h3⟩
   ·exact .inl ⟨j + 1,e',p,by rw [h1,Nat.add_assoc,Nat.add_comm 1 j],by simpa using h2,by simpa using h3,h4,h5,by rw [h6];rfl⟩
   ·exact .inr ⟨h1,h2,by rw [h3];rfl⟩
theorem es_keys {kt:Nat} {l:List MapEntry} {es:List (R × R)} (h:AtEs I w kt l es):l.map (·.key) = (es.map (·.1)).map rVal:=by
 refine List.ext_getElem? fun i=>?_
 simp only [List.getElem?_map]
 rcases Nat.lt_or_ge i l.length with hi | hi
 ·have hi':i < es.length:=by rw [← h.1];exact hi
  rw [List.getElem?_eq_getElem hi,List.getElem?_eq_getElem hi']
  obtain ⟨h1,_,h3⟩:=h.2 i _ _ (List.getElem?_eq_getElem hi) (List.getElem?_eq_getElem hi')
  exact congrArg some (key_val h1 h3)
 ·rw [List.getElem?_eq_none hi,List.getElem?_eq_none (by rw [← h.1];exact hi)]
  rfl
theorem es_keyOk {kt:Nat} (ht:tyKnown kt = true) (hf:∀ u ∈ (ty kt).fty,tyKnown u = true) {r:R} (hr:keyB kt r = true) {l:List MapEntry} {es:List (R × R)} (h:AtEs I w kt l es) (w':World):∀ k ∈ es.map (·.1),KeyOk kt r k w':=by
 intro k hk
 obtain ⟨p,hp,rfl⟩:=List.mem_map.1 hk
 obtain ⟨i,hi⟩:=List.mem_iff_getElem?.1 hp
 have hlt:i < l.length:=by rw [h.1];exact (List.getElem?_eq_some_iff.1 hi).1
 exact key_ok ht hf hr (h.2 i _ _ (List.getElem?_eq_getElem hlt) hi).2.2
theorem zero_at {e:Nat} (he:tyKnown e = true) {z:V} (hz:pack (ty e).agg (constL (ty e).zero) = some z):∃ v,(zeroValue e).run Tryz.prog w = .ok v w ∧ AtV I w g v z:=by
 obtain ⟨v,hv,hc⟩:=ty_zero he w
 refine ⟨v,hv,?_⟩
 have hag:=(tyOk e he).zag
 obtain ⟨x,z',h1,_,h3,_⟩:=ty_info he
 have hv':v = z':=by
  simp only [zeroValue,typeInfo,Sem.run_bind,run_program,Result.andThen_ok,h1,h3,Sem.run_pure] at hv
  exact (Result.ok.inj hv).1.symm
 rw [h1] at hag
 simp only [Option.bind_some,h3,Option.map_some,Option.some.injEq] at hag
 subst hv'
 cases hb:(ty e).agg with
 | true =>
  rw [hb] at hag hz
  rw [pack] at hz
  injection hz with hz
  subst hz
  cases v <;> first | cases hag | skip
  rename_i us
  simp only [Value.cells] at hc
  rw [hc]
  exact atV_ag (constL_at (ty e).zero)
 | false =>
  rw [hb] at hag hz
  have hs:v.cells = #[v]:=by cases v <;> first | rfl | cases hag
  rw [hs] at hc
  have hz0:(ty e).zero = [v]:=by
   have:=congrArg Array.toList hc
   simpa using this.symm
  rw [hz0] at hz
  have h4:=constL_at (I:=I) (w:=w) (g:=g) [v]
  rw [constL,constL] at hz h4
  rw [pack] at hz
  injection hz with hz
  subst hz
  exact h4.2 0 _ _ rfl rfl
theorem comma_ok (h:RelI I0 X w0 I g s a w) {K:V → Prop} {ok b:Bool} {v:Value} {x:V} {m:Sem Value} (hv:AtV I w g v x) (hm:m.run Tryz.prog w = .ok (if ok = true then .tuple #[v,.bool b] else v) w) (hK:commaV K ok b x):Yld I0 X w0 g s a w m K:=by
 cases ok with
 | true=>exact yld h hm (atV_tu (.cons hv (.cons (atb b) (.nil I w g)))) hK
 | false=>exact yld h hm hv hK
theorem keyV_at (h:RelI I0 X w0 I g s a w) {kt:Nat} {x:V} {u:Value} {r:R} (hu:AtV I w g u x) (hk:keyV s.o kt x = some r):AtR I w u r ∧ keyB kt r = true:=by
 unfold keyV at hk
 split at hk
 ·rename_i r' hr
  split at hk
  ·rename_i hb
   injection hk with hk
   subst hk
   exact ⟨toR_at h hu hr,hb⟩
  ·cases hk
 ·cases hk
theorem map_known {t kt e:Nat} (h:mapOk t = true) (hk:(ty t).key = some kt) (hv:(ty t).val = some e):tyKnown kt = true ∧ tyKnown e = true ∧ ∀ u ∈ (ty kt).fty,tyKnown u = true:=by
 unfold mapOk at h
 rw [hk,hv] at h
 simp only [Bool.and_eq_true] at h
 exact ⟨h.1.1,h.1.2,List.all_eq_true.1 h.2⟩
theorem look_ok (h:RelI I0 X w0 I g s a w) {K:V → Prop} {t:Nat} {ok:Bool} (ht:tyKnown t = true) (hm:mapOk t = true) {v u:Value} {x i:V} (hv:AtV I w g v x) (hu:AtV I w g u i) (hK:lookV real s.o K t ok x i):Yld I0 X w0 g s a w (Instr.lookup t v u ok) K:=by
 unfold lookV at hK
 split at hK <;> try exact hK.elim
 rename_i hkd
 split at hK <;> try exact hK.elim
 rename_i kt e hkt hve
 split at hK <;> try exact hK.elim
 rename_i r hr
 have hun:=ty_map ht hkd hkt hve
 obtain ⟨k1,k2,k3⟩:=map_known hm hkt hve
 obtain ⟨h1,h2⟩:=keyV_at h hu hr
 obtain rfl:=key_val h1 h2
 have hchk:=(key_ok k1 k3 h2 h2 (w:=w)).chk
 split at hK <;> try exact hK.elim
 ·rename_i k
  split at hK <;> try exact hK.elim
  rename_i kt' es ho
  split at hK <;> try exact hK.elim
  rename_i he
  obtain rfl:=eqN_is.1 he
  obtain ⟨b,l,c,g1,g2,g3,g4⟩:=h.obj k _ (getO_some ho (by simp))
  obtain ⟨b',hb',rfl⟩:=hv.unmp
  rw [g1] at hb'
  injection hb' with hb'
  injection hb' with hb'
  subst hb'
  have hfind:=find_key k1 (es_keys g3) (es_keyOk k1 k3 h2 g3 w)
  have hget:real.mlook es r = mget es r:=rfl
  rw [hget] at hK
  rcases hit_is (r:=r) (q:=r) 0 g3 with ⟨j,en,p,e1,e2,e3,e4,e5,_⟩ | ⟨e1,e5,_⟩
  ·rw [e5] at hK
   rw [e1] at hfind
   obtain ⟨_,hval,_⟩:=g3.2 j _ _ e2 e3
   refine comma_ok h (resR_at g hval) ?_ hK
   cases ok <;> simp [Instr.lookup,run_underlying hun,MapKept.run_getObj_map g2,hchk,hfind,Result.andThen]
  ·rw [e5] at hK
   rw [e1] at hfind
   simp only [zeroK] at hK
   split at hK <;> try exact hK.elim
   rename_i z hz
   obtain ⟨zv,z1,z2⟩:=zero_at (I:=I) (g:=g) (w:=w) k2 hz
   refine comma_ok h z2 ?_ hK
   cases ok <;> simp [Instr.lookup,run_underlying hun,MapKept.run_getObj_map g2,hchk,hfind,z1,Result.andThen]
 ·have:=hv.sc
  subst this
  simp only [zeroK] at hK
  split at hK <;> try exact hK.elim
  rename_i z hz
  obtain ⟨zv,z1,z2⟩:=zero_at (I:=I) (g:=g) (w:=w) k2 hz
  refine comma_ok h z2 ?_ hK
  have hfind:=find_key k1 (w:=w) (r:=r) (ks:=[]) (es:=[]) rfl (by simp)
  cases ok <;> simp [Instr.lookup,run_underlying hun,hchk,hfind,hit,z1,Result.andThen]
theorem dEq_eq {k:TK} {x y:D} (hx:scalarB k x = true) (hy:scalarB k y = true) (h:dEq x y = true):x = y:=by
 rcases scal_inv hx with ⟨q,m,hk,rfl⟩ | ⟨m,hk,rfl⟩ | ⟨m,hk,rfl⟩ <;> rcases scal_inv hy with ⟨q',n,hk',rfl⟩ | ⟨n,hk',rfl⟩ | ⟨n,hk',rfl⟩ <;> rw [hk] at hk' <;> first | cases hk';done | skip
 ·have hk':=TK.int.inj hk'
  subst hk'
  rw [dEq,intEq_is,beq_iff_eq] at h
  rw [h]
 ·rw [dEq,bytesEq_is,beq_iff_eq] at h
  obtain ⟨⟨x⟩⟩:=m
  obtain ⟨⟨y⟩⟩:=n
  simp only at h
  rw [h]
 ·rw [dEq,bEq_is,beq_iff_eq] at h
  rw [h]
theorem dsEq_eq:∀ {xs ys:List D} {us:List Nat} {fs:List (Nat × Nat)} {n:Nat},scalarsB us fs n xs = true → scalarsB us fs n ys = true → dsEq xs ys = true → xs = ys
 | [],[],us,fs,n,_,_,_=>rfl
 | [],_ :: _,us,fs,n,_,_,h=>by cases h
 | _ :: _,[],us,fs,n,_,_,h=>by cases h
 | x :: xs,y :: ys,us,fs,n,hx,hy,h=>by
  rw [dsEq] at h
  split at h
  ·rename_i h1
   unfold scalarsB at hx
   split at hx
   ·contradiction
   ·rename_i u us off fs' n' d ds e3
    obtain ⟨e1,e2⟩:=List.cons.inj e3
    subst e1;subst e2
    rw [scalarsB] at hy
    split at hx
    ·rename_i e
     rw [e] at hy
     simp only at hy
     split at hx
     ·rename_i h2
      split at hy
      ·rename_i h3
       rw [dEq_eq h2 h3 h1,dsEq_eq hx hy h]
      ·cases hy
     ·cases hx
    ·cases hx
   ·cases hx
  ·cases h
theorem rEq_eq {t:Nat} {x y:R} (hx:keyB t x = true) (hy:keyB t y = true) (h:rEq x y = true):x = y:=by
 cases x with
 | one x =>
  cases y with
  | one y=>rw [dEq_eq hx hy h]
  | ag ys=>cases h
 | ag xs =>
  cases y with
  | one y=>cases h
  | ag ys =>
   rw [keyB] at hx hy
   split at hx
   ·rename_i hk
    rw [hk] at hy
    simp only at hy
    split at hx
    ·rename_i hk
     rw [hk] at hy
     rw [dsEq_eq hx hy h]
    ·cases hx
   ·cases hx
theorem RelI.setMap (h:RelI I0 X w0 I g s a w) {k kt b c c':Nat} {es es':List (R × R)} {l l':Array MapEntry} (hk:s.o[k]? = some (.mp kt es)) (hg:g k = .map (some b)) (hb:w.heap[b]? = some (.map l c)) (hI:∀ h,¬ I b h) (hM:Mine X w0 b) (hes:AtEs I w kt l'.toList es') :
  RelI I0 X w0 I g ⟨s.t,s.o.set k (.mp kt es')⟩ a (ChangeMaps.setBlock w b (.map l' c')):=by
 have hblk:gbl (g k) b:=by rw [hg];rfl
 have hlk:live s k:=⟨_,hk,by simp⟩
 obtain ⟨hs1,hs2⟩:=MapKept.heap_set (o':=.map l' c') hb
 have hsz:(ChangeMaps.setBlock w b (.map l' c')).heap.size = w.heap.size:=by simp [ChangeMaps.setBlock]
 have hkp:Keeps I w (ChangeMaps.setBlock w b (.map l' c')):=fun b' h' hi i _=>by
  refine blk_cell (hs2 b' fun e=>?_) i
  subst e
  exact hI _ hi
 refine ⟨h.im,fun b' h' hi=>by rw [hsz];exact h.lt b' h' hi,?_,h.kp.trans fun b k hbk i hi=>hkp b k (h.im b k hbk) i hi,by simpa using h.lo,h.st,fun j o hj=>?_,fun i j b' hi hj=>h.dis i j b' (live_set hk (by simp) hi) (live_set hk (by simp) hj),fun j hj=>h.out j (by simpa using hj),h.tmp.mono (fun _ _ h=>h) hkp,h.dfr⟩
 ·refine ⟨h.fr.os,h.fr.tape,h.fr.output,by rw [hsz];exact h.fr.size,fun b' hb' hX=>?_⟩
  refine (hs2 b' fun e=>?_).trans (h.fr.block b' hb' hX)
  subst e
  rcases hM with hM | hM
  ·omega
  ·exact hX hM
 ·by_cases e:k = j
  ·subst e
   have hlt:k < s.o.length:=(List.getElem?_eq_some_iff.1 hk).1
   simp only [List.getElem?_set_self hlt] at hj
   have hj:=Option.some.inj hj
   subst hj
   exact ⟨b,l',c',hg,hs1,hes.mono (fun _ _ h=>h) hkp,hI,hM⟩
  ·simp only [List.getElem?_set_ne e] at hj
   have ho:=h.obj j o hj
   by_cases hd:o = .dead
   ·subst hd;exact True.intro
   ·refine ho.keep (fun _ _ h=>h) hkp (fun b' hb'=>hs2 b' fun e'=>?_) fun _ _ _ h=>h
    subst e'
    exact e (h.dis k j _ hlk ⟨o,hj,hd⟩ hblk hb')
theorem put_ok (h:RelI I0 X w0 I g s a w) {K:S → Prop} {t:Nat} (ht:tyKnown t = true) (hm:mapOk t = true) {v u q:Value} {x i y:V} (hv:AtV I w g v x) (hu:AtV I w g u i) (hq:AtV I w g q y) (hK:putV real s K t x i y):∃ w' s',(Instr.mapUpdate t v u q).run Tryz.prog w = .ok () w' ∧ RelI I0 X w0 I g s' a w' ∧ K s':=by
 unfold putV at hK
 split at hK <;> try exact hK.elim
 rename_i hkd
 split at hK <;> try exact hK.elim
 rename_i kt k hkt
 split at hK <;> try exact hK.elim
 rename_i r qr kt' es hr hqr ho
 split at hK <;> try exact hK.elim
 rename_i he
 obtain rfl:=eqN_is.1 he
 obtain ⟨b',hb',rfl⟩:=hv.unmp
 have hok:=getO_some ho (by simp)
 obtain ⟨b,l,c,g1,g2,g3,g4,g5⟩:=h.obj k _ hok
 rw [g1] at hb'
 have hb':=Option.some.inj (Value.map.inj hb')
 subst hb'
 have hmo:=hm
 unfold mapOk at hmo
 rw [hkt] at hmo
 split at hmo
 ·rename_i kt0 e hkt0 hve
  have hkt0:=Option.some.inj hkt0
  subst hkt0
  have hun:=ty_map ht hkd hkt hve
  obtain ⟨k1,k2,k3⟩:=map_known hm hkt hve
  obtain ⟨h1,h2⟩:=keyV_at h hu hr
  obtain rfl:=key_val h1 h2
  have hqa:=toR_at h hq hqr
  have hko:=key_ok k1 k3 h2 h2 (w:=w)
  have hfind:=find_key k1 (es_keys g3) (es_keyOk k1 k3 h2 g3 w)
  have hput:real.mput es r qr = mset es r qr:=rfl
  rw [hput,setO_is] at hK
  rcases hit_is (r:=r) (q:=qr) 0 g3 with ⟨j,en,p,e1,e2,e3,e4,_,e6⟩ | ⟨e1,_,e6⟩
  ·rw [e6] at hK
   rw [e1,Nat.zero_add] at hfind
   obtain ⟨p1,p2,p3⟩:=g3.2 j _ _ e2 e3
   have hre:=rEq_eq p3 h2 e4
   have hkey:en.key = rVal r:=by rw [key_val p1 p3,hre]
   have hst:(Instr.keyThatStays (rVal r) (rVal r)).run Tryz.prog w = .ok (rVal r) w:=by
    simp only [Instr.keyThatStays,hko.bits,if_true,Sem.run_pure]
   have hlj:l[j]? = some en:=by rw [← Array.getElem?_toList];exact e2
   refine ⟨ChangeMaps.setBlock w b (.map (l.modify j fun e=>{ e with key:=rVal r,val:=q }) c),_,?_,h.setMap (es':=es.set j (p.1,qr)) hok g1 g2 g4 g5 ⟨by simp [g3.1],fun i e2' p' he' hp'=>?_⟩,hK⟩
   ·simp [Instr.mapUpdate,run_underlying hun,MapKept.run_getObj_map g2,hko.chk,hfind,hlj,hkey,hst,MapKept.run_setObj_map _ g2,Result.andThen,ChangeMaps.setBlock]
   ·by_cases hij:j = i
    ·subst hij
     have hl1:j < es.length:=(List.getElem?_eq_some_iff.1 e3).1
     rw [List.getElem?_set_self hl1] at hp'
     have hp':=Option.some.inj hp'
     subst hp'
     rw [Array.getElem?_toList,Array.getElem?_modify,if_pos rfl,hlj] at he'
     have he':=Option.some.inj he'
     subst he'
     refine ⟨?_,hqa,p3⟩
     show AtR I w (rVal r) p.1
     rw [← hkey]
     exact p1
    ·rw [List.getElem?_set_ne hij] at hp'
     rw [Array.getElem?_toList,Array.getElem?_modify,if_neg hij,← Array.getElem?_toList] at he'
     exact g3.2 i _ _ he' hp'
  ·rw [e6] at hK
   rw [e1] at hfind
   refine ⟨ChangeMaps.setBlock w b (.map (l.push { key:=rVal r,val:=q,born:=c }) (c + 1)),_,?_,h.setMap (es':=es ++ [(r,qr)]) hok g1 g2 g4 g5 ⟨by simp [g3.1],fun i e2' p' he' hp'=>?_⟩,hK⟩
   ·simp [Instr.mapUpdate,run_underlying hun,MapKept.run_getObj_map g2,hko.chk,hfind,MapKept.run_setObj_map _ g2,Result.andThen,ChangeMaps.setBlock]
   ·rw [Array.toList_push] at he'
    rcases Nat.lt_or_ge i l.toList.length with hi | hi
    ·rw [List.getElem?_append_left hi] at he'
     rw [List.getElem?_append_left (by rw [← g3.1];exact hi)] at hp'
     exact g3.2 i _ _ he' hp'
    ·rw [List.getElem?_append_right hi] at he'
     rw [List.getElem?_append_right (by rw [← g3.1];exact hi),← g3.1] at hp'
     cases hd:i - l.toList.length with
     | zero =>
      rw [hd] at he' hp'
      have he':=Option.some.inj he'
      have hp':=Option.some.inj hp'
      subst he';subst hp'
      exact ⟨h1,hqa,h2⟩
     | succ n=>rw [hd] at he';simp at he'
 ·cases hmo
theorem mk_ok (h:RelI I0 X w0 I g s a w) {kt:Nat}:∃ g',g' s.o.length = .map (some w.heap.size) ∧ RelI I0 X w0 I g' (s.obj (.mp kt [])) a (w.alloc (.map #[] 0)):=by
 have hb:Below w.heap.size w (w.alloc (.map #[] 0)):=(Below.refl _ _).alloc (Nat.le_refl _) _
 have h2:=h.grow hb (I':=I) (fun _ _ h=>h) (fun _ _ h=>.inl h)
 refine ⟨upd g s.o.length (.map (some w.heap.size)),upd_same ..,h2.newObj _ _ ⟨w.heap.size,#[],0,upd_same ..,(MapKept.heap_alloc w _).1,⟨rfl,fun i e p he=>by simp at he⟩,fun k hk'=>?_,.inl h.fr.size⟩ fun j b hj hbj e=>?_⟩
 ·exact absurd (h.lt _ _ hk').1 (by omega)
 ·have e:w.heap.size = b:=e
  have:=h.blk_lt hj hbj
  omega
end
end
section
theorem val_known {t:Nat} (h:valOk t = true):(ty t).kind = .array → ∀ e,(ty t).val = some e → tyKnown e = true:=fun hk e he=>by
 unfold valOk at h
 rw [hk,he] at h
 exact h
section
variable {I0:Nat → Nat → Prop} {X:Nat → Prop} {w0:W0} {I:Nat → Nat → Prop} {g:Nat → Value} {s:S} {a:Act} {w:World}
theorem wp_yld {o:Oper} {Q:Exit → Act → World → Prop} {K:S → Prop} {m:Sem Value} (he:execOp a.eval o = (do pure (.value (← m)))) (hy:Yld I0 X w0 g s a w m fun x=>K (s.put o.dst x)):o.wp Tryz.prog a w (fun a' w'=>∃ s',Rel I0 X w0 s' a' w' ∧ K s') Q:=by
 obtain ⟨v,x,w',I',h1,h2,h3,h4⟩:=hy
 unfold Oper.wp
 rw [he]
 simp only [Sem.run_bind,h1,Result.andThen_ok,Sem.run_pure]
 rw [Oper.upon_value]
 exact ⟨_,⟨I',g,h2.put h3 _⟩,h4⟩
theorem wp_yld2 {o:Oper} {Q:Exit → Act → World → Prop} {K:S → Prop} {m:Sem Value} (he:(execOp a.eval o).run Tryz.prog w = (m.run Tryz.prog w).andThen fun v w'=>.ok (.value v) w') (hy:Yld I0 X w0 g s a w m fun x=>K (s.put o.dst x)):o.wp Tryz.prog a w (fun a' w'=>∃ s',Rel I0 X w0 s' a' w' ∧ K s') Q:=by
 obtain ⟨v,x,w',I',h1,h2,h3,h4⟩:=hy
 unfold Oper.wp
 rw [he,h1,Result.andThen_ok,Oper.upon_value]
 exact ⟨_,⟨I',g,h2.put h3 _⟩,h4⟩
theorem wp_val {o:Oper} {Q:Exit → Act → World → Prop} {K:S → Prop} (h:RelI I0 X w0 I g s a w) {v:Value} {x:V} (he:execOp a.eval o = pure (.value v)) (hv:AtV I w g v x) (hK:K (s.put o.dst x)):o.wp Tryz.prog a w (fun a' w'=>∃ s',Rel I0 X w0 s' a' w' ∧ K s') Q:=by
 unfold Oper.wp
 rw [he,Sem.run_pure,Oper.upon_value]
 exact ⟨_,⟨I,g,h.put hv _⟩,hK⟩
theorem elem_known {t:Nat} (h:elemOk t = true):∀ e,(ty t).elem = some e → tyKnown e = true:=fun e he=>by
 unfold elemOk at h
 rw [he] at h
 exact h
theorem enter_run {o:Oper} {f:Nat} {x:Operand} {args:Array Operand} {ts:Array Nat} {cs:List Value} (ho:o.op = .call ⟨.value x,args,ts⟩) (hx:a.eval x = .func (.func f) #[] cs.toArray) (hf:fnOk Tryz.prog f = true):(execOp a.eval o).run Tryz.prog w = .ok (.enter f (args.toList.map a.eval ++ cs).toArray) w:=by
 unfold fnOk at hf
 cases hfn:Tryz.prog.funcs[f]? with
 | none=>rw [hfn] at hf;cases hf
 | some fn =>
  rw [hfn] at hf
  simp only [Bool.and_eq_true,bne_iff_ne,ne_eq] at hf
  have h1:(fn.name == "runtime.NumGoroutine") = false:=beq_eq_false_iff_ne.2 hf.1
  have h2:fn.body.isNone = false:=by
   cases hb:fn.body with
   | none=>rw [hb] at hf;simp at hf
   | some c=>rfl
  have h4:(args.map a.eval) ++ cs.toArray = (args.toList.map a.eval ++ cs).toArray:=by apply Array.ext';simp
  unfold execOp
  simp only [ho,resolve,hx,Deferred.ofValue,invoke,callFunc,Sem.run_bind,Sem.run_pure,Result.andThen_ok,program,Sem.run,hfn,h1,h2,← h4]
  simp
theorem spec_wp (h:RelI I0 X w0 I g s a w) {o:Oper} {Q:Exit → Act → World → Prop} {K:S → Prop} {f:Nat} {us:List Value} {vs:List V} {rs q:List R} (hrun:fnOk Tryz.prog f = true → (execOp a.eval o).run Tryz.prog w = .ok (.enter f us.toArray) w) (hv:AtVs I w g us vs) (hrs:toRs s.o vs = some rs) (hq:Spec f rs q) (hK:K (s.put o.dst (resV q))):o.wp Tryz.prog a w (fun a' w'=>∃ s',Rel I0 X w0 s' a' w' ∧ K s') Q:=by
 have hat:=toRs_at h hv hrs
 have hc:=hq.2 I w _ h.wld hat
 unfold Oper.wp
 rw [hrun hq.1,Oper.upon_enter]
 refine hc.mono ?_
 rintro e w' ⟨v,rfl,hres,hbel⟩
 have h5:=h.grow hbel (I':=nxt I w w') (fun _ _ h=>.inl h) (fun _ _ h=>h)
 exact ⟨_,⟨_,g,h5.put (resV_at g hres) _⟩,hK⟩
theorem callo_ok (h:RelI I0 X w0 I g s a w) {o:Oper} {Q:Exit → Act → World → Prop} {K:S → Prop} {f:Nat} {us:List Value} {vs:List V} (hrun:fnOk Tryz.prog f = true → (execOp a.eval o).run Tryz.prog w = .ok (.enter f us.toArray) w) (hv:AtVs I w g us vs) (hK:real.callo f vs s (fun v s'=>K (s'.put o.dst v))):o.wp Tryz.prog a w (fun a' w'=>∃ s',Rel I0 X w0 s' a' w' ∧ K s') Q:=by
 obtain ⟨hf,hK⟩:=hK
 unfold Oper.wp
 rw [hrun hf,Oper.upon_enter]
 refine (hK I0 X w0 I g s.t a w us h hv).mono ?_
 rintro e w' ⟨v,x,o',ks,I',g',rfl,h',hv',hK⟩
 exact ⟨_,⟨I',g',h'.put hv' _⟩,hK⟩
theorem callx_ok (h:RelI I0 X w0 I g s a w) {o:Oper} {Q:Exit → Act → World → Prop} {K:S → Prop} {f:Nat} {us:List Value} {vs:List V} {l:List Nat} (hrun:fnOk Tryz.prog f = true → (execOp a.eval o).run Tryz.prog w = .ok (.enter f us.toArray) w) (hv:AtVs I w g us vs) (hK:real.callx f vs l s (fun v s'=>K (s'.put o.dst v))):o.wp Tryz.prog a w (fun a' w'=>∃ s',Rel I0 X w0 s' a' w' ∧ K s') Q:=by
 obtain ⟨hf,hK⟩:=hK
 unfold Oper.wp
 rw [hrun hf,Oper.upon_enter]
 refine (hK I0 X w0 I g s.t a w us h hv).mono ?_
 rintro e w' ⟨v,x,o',I',g',rfl,h',hv',_,hK⟩
 exact ⟨_,⟨I',g',h'.put hv' _⟩,hK⟩
theorem call_ok (h:RelI I0 X w0 I g s a w) {o:Oper} {Q:Exit → Act → World → Prop} {K:S → Prop} {f:Nat} {us:List Value} {vs:List V} (hrun:fnOk Tryz.prog f = true → (execOp a.eval o).run Tryz.prog w = .ok (.enter f us.toArray) w) (hv:AtVs I w g us vs)
  (hK:callV real s.o (fun x=>K (s.put o.dst x)) f vs):o.wp Tryz.prog a w (fun a' w'=>∃ s',Rel I0 X w0 s' a' w' ∧ K s') Q:=by
 unfold callV at hK
 split at hK
 ·rename_i rs hrs
  obtain ⟨q,hq,hK⟩:=hK
  exact spec_wp h hrun hv hrs hq hK
 ·obtain ⟨q,⟨hf,hq⟩,hK⟩:=hK
  unfold Oper.wp
  rw [hrun hf,Oper.upon_enter]
  refine (hq I0 X w0 I g s.t a w _ h hv).mono ?_
  rintro e w' ⟨v,I',g',rfl,h',hres⟩
  exact ⟨_,⟨I',g',h'.put hres _⟩,hK⟩
theorem ptrs_at (h:RelI I0 X w0 I g s a w):∀ {l:List V} {us:List Value} {ks:List Nat},AtVs I w g us l → ptrsV l = some ks → us.length = ks.length ∧ ∀ (i:Nat) (u:Value) (k:Nat),us[i]? = some u → ks[i]? = some k → u = g k ∧ ∃ b,g k = .pointer (some ⟨b,0,none⟩)
 | [],us,ks,hv,hp=>by
  rw [ptrsV] at hp
  injection hp with hp
  subst hp
  rw [hv.unnil]
  exact ⟨rfl,fun i u k hu=>by simp at hu⟩
 | x :: l,us,ks,hv,hp=>by
  obtain ⟨u,us',rfl,h1,h2⟩:=hv.uncons
  unfold ptrsV at hp
  split at hp
  ·rename_i e;cases e
  ·rename_i k l' e
   injection e with e1 e2
   subst e1;subst e2
   split at hp
   ·rename_i ks' hks
    injection hp with hp
    subst hp
    obtain ⟨h3,h4⟩:=ptrs_at h h2 hks
    obtain ⟨b,hg,rfl⟩:=h1.unptr
    refine ⟨by simp [h3],fun i v j hv hj=>?_⟩
    cases i with
    | zero=>simp at hv hj;subst hv;subst hj;exact ⟨hg.symm,b,hg⟩
    | succ i=>exact h4 i v j (by simpa using hv) (by simpa using hj)
   ·cases hp
  ·cases hp
theorem caps_at:∀ {ks:List Nat} {us:List Value},us.length = ks.length → (∀ (i:Nat) (u:Value) (k:Nat),us[i]? = some u → ks[i]? = some k → u = g k ∧ ∃ b,g k = .pointer (some ⟨b,0,none⟩)) → AtVs I w g us (caps ks)
 | [],us,hl,_=>by rw [List.eq_nil_of_length_eq_zero hl];exact .nil I w g
 | k :: ks,[],hl,_=>by simp at hl
 | k :: ks,u :: us,hl,h=>by
  obtain ⟨h1,b,h2⟩:=h 0 u k rfl rfl
  refine .cons ?_ (caps_at (by simpa using hl) fun i v j hv hj=>h (i + 1) v j (by simpa using hv) (by simpa using hj))
  rw [h1,h2]
  exact .ptr k 0 b h2
theorem appV_is:∀ l m:List V,appV l m = l ++ m
 | [],m=>rfl
 | x :: l,m=>by rw [appV,appV_is l m];rfl
theorem lit_ok (h:RelI I0 X w0 I g s a w) {o:Oper} {Q:Exit → Act → World → Prop} {K:S → Prop} {t n:Nat} {ps:Array (Nat × Operand)} (ho:o.op = .buildSlice t (n + 1) ps) (hop:okOp Tryz.prog o.op = true) (hK:litV real s o.dst K t (n + 1) ps.toList):o.wp Tryz.prog a w (fun a' w'=>∃ s',Rel I0 X w0 s' a' w' ∧ K s') Q:=by
 rw [ho] at hop
 simp only [okOp,Bool.and_eq_true] at hop
 unfold litV at hK
 split at hK <;> try exact hK.elim
 rename_i e he
 have hte:∀ e,(ty t).elem = some e → tyKnown e = true ∧ (n + 1) * (ty e).sz ≤ 16777216:=fun e he=>by
  have h2:=hop.2
  rw [he] at h2
  simp only [Bool.and_eq_true] at h2
  exact ⟨h2.1,Nat.le_of_ble_eq_true h2.2⟩
 obtain ⟨e',rows,us,he',hke,hrun,hl,hrl,hr1,hat,hK⟩:=buildSlice_run h hop.1.1 hte ps hK
 rw [he] at he'
 injection he' with he'
 subst he'
 obtain ⟨z0,hK⟩:=hK
 have hb:Below w.heap.size w (w.alloc (.cells us.toArray e)):=(Below.refl _ _).alloc (Nat.le_refl _) _
 have hk:Keeps I w (w.alloc (.cells us.toArray e)):=fun b k hbk i _=>hb.cell (p:=⟨b,i,none⟩) (h.lt b k hbk).1
 have h2:=h.grow hb (I':=fun b k=>I b k ∨ (z0 = true ∧ b = w.heap.size ∧ k ≤ (n + 1) * (ty e).sz)) (fun _ _ h=>.inl h) (fun b k hk=>by
  rcases hk with hk | ⟨_,hk,_⟩
  ·exact .inl hk
  ·exact .inr ⟨by omega,by simp [hk]⟩)
 have h3:=h2.newObj (.row z0 e rows) (.slice (some ⟨w.heap.size,0,none⟩) (n + 1) (n + 1)) ⟨us,by
   rw [upd_same,hrl]
   refine ⟨hl,.inr ⟨w.heap.size,n + 1,us.toArray,rfl,Nat.zero_le _,heap_alloc_new w _,Nat.le_refl _,?_,by simp [hl],by simp [← hl]⟩⟩
   have:=Nat.le_of_ble_eq_true hop.1.2
   unfold maxLen
   omega,hr1,hat.mono (fun _ _ h=>.inl h) hk,fun b hb=>by
   rw [upd_same] at hb
   have hb:=Option.some.inj hb
   subst hb
   refine ⟨fun hz=>.inr ⟨hz,rfl,by rw [hrl];exact Nat.le_refl _⟩,fun k hk=>?_,.inl h.fr.size⟩
   rcases hk with hk | ⟨hz,_,hk⟩
   ·exact absurd (h.lt _ _ hk).1 (Nat.lt_irrefl _)
   ·exact ⟨hz,by rw [hrl];exact hk⟩⟩ (fun j b hj hb hb'=>by
   have hb':w.heap.size = b:=hb'
   have h4:=h.blk_lt hj hb
   omega)
 unfold Oper.wp
 have hex:(execOp a.eval o).run Tryz.prog w = .ok (.value (.slice (some ⟨w.heap.size,0,none⟩) (n + 1) (n + 1))) (w.alloc (.cells us.toArray e)):=by
  unfold execOp
  rw [ho]
  simp only [Sem.run_bind,hrun,Result.andThen_ok,Sem.run_pure]
 rw [hex,Oper.upon_value]
 exact ⟨_,⟨_,_,h3.put (x:=.own (lenO s.o)) (.own _ _ _ _ (by rw [lenO_is,upd_same];rfl)) _⟩,hK⟩
set_option maxRecDepth 20000 in
theorem fnV_at (h:RelI I0 X w0 I g s a w) {i f:Nat} {ks:List Nat} (hf:fnV (getN s.t i) = some (f,ks)):∃ cs:List Value,a.eval (.tmp i) = .func (.func f) #[] cs.toArray ∧ AtVs I w g cs (caps ks):=by
 have hx:AtV I w g (a.eval (.tmp i)) (getN s.t i):=h.get (.tmp i)
 unfold fnV at hf
 split at hf
 ·rename_i f' ks' hcl
  injection hf with hf
  injection hf with e1 e2
  subst e1;subst e2
  rw [hcl] at hx
  generalize a.eval (.tmp i) = y at hx ⊢
  cases hx with
  | cl f us ks hl h2=>exact ⟨us,rfl,caps_at hl h2⟩
 ·rename_i f' hd
  injection hf with hf
  injection hf with e1 e2
  subst e1;subst e2
  rw [hd] at hx
  exact ⟨[],hx.sc,.nil I w g⟩
 ·cases hf
theorem fnX_at (h:RelI I0 X w0 I g s a w) {x:Operand} {f:Nat} {ks:List Nat} (hf:fnV (s.get x) = some (f,ks)):∃ cs:List Value,a.eval x = .func (.func f) #[] cs.toArray ∧ AtVs I w g cs (caps ks):=by
 have hx:AtV I w g (a.eval x) (s.get x):=h.get x
 unfold fnV at hf
 split at hf
 ·rename_i f' ks' hcl
  injection hf with hf
  injection hf with e1 e2
  subst e1;subst e2
  rw [hcl] at hx
  generalize a.eval x = y at hx ⊢
  cases hx with
  | cl f us ks hl h2=>exact ⟨us,rfl,caps_at hl h2⟩
 ·rename_i f' hd
  injection hf with hf
  injection hf with e1 e2
  subst e1;subst e2
  rw [hd] at hx
  exact ⟨[],hx.sc,.nil I w g⟩
 ·cases hf
set_option maxRecDepth 10000 in
theorem calm_ok (h:RelI I0 X w0 I g s a w) {o:Oper} {Q:Exit → Act → World → Prop} {K:S → Prop} (hop:okOp Tryz.prog o.op = true) (hK:stepC real s.get s.o (fun x=>K (s.put o.dst x)) o.op):o.wp Tryz.prog a w (fun a' w'=>∃ s',Rel I0 X w0 s' a' w' ∧ K s') Q:=by
 obtain ⟨dst,op,type,pos,after,gd⟩:=o
 simp only at hop hK ⊢
 unfold stepC at hK
 split at hK <;> try exact hK.elim
 ·rename_i x;exact wp_val h rfl (h.get x) hK
 ·rename_i x;exact wp_val h rfl (h.get x) hK
 ·rename_i c x y;exact wp_yld2 (by simp only [execOp,Sem.run_bind];cases (asBool (a.eval c)).run Tryz.prog w <;> rfl) (pick_ok h (h.get c) (h.get x) (h.get y) hK)
 ·rename_i t x;exact wp_yld rfl (load_ok h hop (h.get x) hK)
 ·rename_i t x i;exact wp_yld rfl (field_ok h hop (h.get x) hK)
 ·rename_i t x i
  simp only [okOp,Bool.and_eq_true] at hop
  exact wp_yld rfl (part_ok h hop.1 (fun u hu=>List.all_eq_true.1 hop.2 u (List.mem_of_getElem? hu)) (h.get x) hK)
 ·rename_i t x i
  simp only [okOp,Bool.and_eq_true] at hop
  exact wp_yld rfl (index_ok h hop.1.1 (elem_known hop.1.2) (val_known hop.2) (h.get x) (h.get i) hK)
 ·rename_i t x i
  simp only [okOp,Bool.and_eq_true] at hop
  exact wp_yld rfl (sget_ok h hop.1 (val_known hop.2) (h.get x) (h.get i) hK)
 ·rename_i op t x y yt;exact wp_yld rfl (bin_ok h hop x y (h.get x) (h.get y) hK)
 ·rename_i op t x;exact wp_yld rfl (un_ok h (h.get x) hK)
 ·rename_i t0 t x
  simp only [okOp,Bool.and_eq_true] at hop
  exact wp_yld rfl (conv_ok h hop.1.1 hop.1.2 hop.2 (h.get x) hK)
 ·rename_i t ps
  simp only [okOp,Bool.and_eq_true] at hop
  exact wp_yld rfl (build_ok h hop.1 (val_known hop.2) ps hK)
 ·rename_i t n ps
  simp only [okOp,Bool.and_eq_true] at hop
  refine wp_yld rfl (buildSlice_ok h hop.1.1 (fun e he=>?_) ps hK)
  have h2:=hop.2
  rw [he] at h2
  simp only [Bool.and_eq_true] at h2
  exact ⟨h2.1,Nat.le_of_ble_eq_true h2.2⟩
 ·rename_i x i;exact wp_yld rfl (extract_ok h (h.get x) hK)
 ·rename_i t x lo hi
  simp only [okOp,Bool.and_eq_true] at hop
  exact wp_yld rfl (slice_ok h hop.1 (elem_known hop.2) (h.get x) hK)
 ·rename_i x t
  refine wp_yld2 (m:=Builtin.len_ #[t] type #[a.eval x]) ?_ (len_ok h hop (h.get x) hK)
  simp [execOp,resolve,invoke,builtin]
 ·rename_i f args ts;exact call_ok h (fun hf=>enter_run (cs:=[]) rfl rfl hf) (by rw [List.append_nil];exact h.gets args.toList) hK
 ·rename_i t x i ok
  simp only [okOp,Bool.and_eq_true] at hop
  exact wp_yld rfl (look_ok h hop.1 hop.2 (h.get x) (h.get i) hK)
 ·rename_i args ts
  have e:args.map a.eval = (args.toList.map a.eval).toArray:=by apply Array.ext';simp
  refine wp_yld2 (s:=s) (g:=g) (m:=Builtin.min_ ts type (args.map a.eval)) (by simp [execOp,resolve,invoke,builtin]) ?_
  rw [e]
  exact min_ok (mx:=false) (ts:=ts) (ty':=type) h (h.gets args.toList) hK
 ·rename_i args ts
  have e:args.map a.eval = (args.toList.map a.eval).toArray:=by apply Array.ext';simp
  refine wp_yld2 (s:=s) (g:=g) (m:=Builtin.max_ ts type (args.map a.eval)) (by simp [execOp,resolve,invoke,builtin]) ?_
  rw [e]
  exact min_ok (mx:=true) (ts:=ts) (ty':=type) h (h.gets args.toList) hK
 ·rename_i x
  obtain ⟨h1,_,h2⟩:=nn_ok h (h.get x) hK
  refine wp_val h (v:=a.eval x) ?_ (h.get x) h1
  unfold execOp
  rcases h2 with ⟨b,hb⟩ | ⟨f,cs,hb⟩ <;> simp only [hb]
 ·rename_i f cs
  split at hK <;> try exact hK.elim
  rename_i ks hks
  obtain ⟨h1,h2⟩:=ptrs_at h (h.gets cs.toList) hks
  have e:cs.map a.eval = (cs.toList.map a.eval).toArray:=by apply Array.ext';simp
  refine wp_yld rfl (yld (v:=.func (.func f) #[] (cs.toList.map a.eval).toArray) h ?_ (.cl f _ ks h1 h2) hK)
  rw [e]
  simp [Instr.makeFunc]
 ·rename_i i args ts
  unfold callTV at hK
  split at hK <;> try exact hK.elim
  rename_i f ks hf
  obtain ⟨cs,hc1,hc2⟩:=fnV_at h hf
  exact call_ok h (fun hf=>enter_run (cs:=cs) rfl hc1 hf) (by rw [appV_is];exact (h.gets args.toList).append hc2) hK
theorem wp_new {o:Oper} {Q:Exit → Act → World → Prop} {K:S → Prop} (h:RelI I0 X w0 I g s a w) {us:List Value} {cs:List V} {t:Nat} (hu:AtVs I w g us cs) (h1:∀ u ∈ us,u.oneCell' = true)
  (he:(execOp a.eval o).run Tryz.prog w = .ok (.value (.pointer (some ⟨w.heap.size,0,none⟩))) (w.alloc (.cells us.toArray t))) (hK:K ((s.obj (.box cs)).put o.dst (.ptr (lenO s.o) 0))):o.wp Tryz.prog a w (fun a' w'=>∃ s',Rel I0 X w0 s' a' w' ∧ K s') Q:=by
 unfold Oper.wp
 rw [he,Oper.upon_value]
 obtain ⟨g',hg,h2⟩:=h.box hu h1 t
 rw [← lenO_is] at hg
 exact ⟨_,⟨I,g',h2.put (.ptr _ 0 _ hg) _⟩,hK⟩
theorem wp_newOb {o:Oper} {Q:Exit → Act → World → Prop} {K:S → Prop} (h:RelI I0 X w0 I g s a w) {us:List Value} {t:Nat}
  (he:(execOp a.eval o).run Tryz.prog w = .ok (.value (.pointer (some ⟨w.heap.size,0,none⟩))) (w.alloc (.cells us.toArray t))) (hK:K ((s.obj (.ob t us)).put o.dst (.ptr (lenO s.o) 0))):o.wp Tryz.prog a w (fun a' w'=>∃ s',Rel I0 X w0 s' a' w' ∧ K s') Q:=by
 unfold Oper.wp
 rw [he,Oper.upon_value]
 obtain ⟨g',hg,h2⟩:=h.obNew us t
 rw [← lenO_is] at hg
 exact ⟨_,⟨I,g',h2.put (.ptr _ 0 _ hg) _⟩,hK⟩
theorem constL_ones (I:Nat → Nat → Prop) (w:World) (g:Nat → Value) {l:List Value} (h:ones (constL l) = true):∀ u ∈ l,u.oneCell' = true:=ones_at (I:=I) (w:=w) (g:=g) (constL_at l) h
theorem append_ok {m:Bool} (h:RelI I0 X w0 I g s a w) {o:Oper} {Q:Exit → Act → World → Prop} {K:S → Prop} {x y:Operand} {t:Nat} (ho:o.op = .call ⟨.builtin .append,⟨[x,y]⟩,⟨[t,t]⟩⟩) (ht:tyKnown t = true) (hte:∀ e,(ty t).elem = some e → tyKnown e = true ∧ 0 < (ty e).sz)
  (hK:appendV real m s o.dst K t (s.get x) (s.get y)):o.wp Tryz.prog a w (fun a' w'=>∃ s',Rel I0 X w0 s' a' w' ∧ K s') Q:=by
 unfold appendV at hK
 split at hK <;> try exact hK.elim
 rename_i e he
 split at hK <;> try exact hK.elim
 rename_i sz ys hys
 split at hK <;> try exact hK.elim
 rename_i hsz
 obtain ⟨hke,hpos⟩:=hte e he
 have hun:=ty_slice ht he
 obtain ⟨i,z,hi,his,hiz,hzc,hzl,hby⟩:=ty_info hke
 have hzs:z.cells.size = (ty e).sz:=by rw [hzc];simp [hzl]
 obtain ⟨hd,hnil⟩:=rows_at h (h.get y) hys
 have hd2:=szOk_at hsz hd hnil
 obtain ⟨A,cap,hyv,hcap,hrows⟩:=hd2.slice
 obtain ⟨vs,hsrc,hrl,hvs⟩:∃ vs,SrcAt w A ys.length (ty e).sz vs ∧ (∀ r ∈ ys,r.length = (ty e).sz) ∧ AtDs I w vs ys.flatten:=by
  rcases hrows with rfl | ⟨b,off,us,rfl,hI,hrl,hl,hc,hds⟩
  ·exact ⟨[],⟨by simp,by simp,fun ad _ j u hu=>by simp at hu,by simp⟩,by simp,.nil I w⟩
  ·exact ⟨us,⟨hl,by simp,fun ad had j u hu=>by have h9:=Option.some.inj had;rw [← h9,Addr.add_lit];exact hc j u hu,hds.one⟩,hrl,hds⟩
 have room:∀ n,n + ys.length ≤ 137438953472 → n + ys.length ≤ maxLen ∧ (n + ys.length) * i.bytes ≤ 140737488355328:=fun n hn=>by
  refine ⟨by unfold maxLen;omega,?_⟩
  have h1:(n + ys.length) * i.bytes ≤ 137438953472 * 1024:=Nat.mul_le_mul hn hby
  omega
 have hexec:∀ v' w',(Builtin.append_ #[t,t] o.type #[a.eval x,.slice A ys.length cap]).run Tryz.prog w = .ok v' w' → (execOp a.eval o).run Tryz.prog w = .ok (.value v') w':=fun v' w' hr=>by
  unfold execOp
  rw [ho]
  simp only [resolve,invoke,builtin,Sem.run_bind,Sem.run_pure,Result.andThen_ok,List.map_toArray,List.map_cons,List.map_nil,hyv,hr]
 have hx:=h.get x
 split at hK <;> try exact hK.elim
 ·-- behind nothing
  rename_i hxe
  rw [hxe] at hx
  obtain ⟨hroom,z0,hK⟩:=hK
  have hr:=room 0 (show 0 + ys.length ≤ 137438953472 from hroom)
  have hxv:a.eval x = .slice none 0 0:=hx.unem
  obtain ⟨v',w',hrun,hown,hsp⟩:=run_append_split (P:=Tryz.prog) w 0 t o.type e i z (ty e).sz i.bytes hun hi hiz his rfl hzs hpos (.slice none 0 0) 0 [] (World.ownsRow_nil w 0 e _) A ys.length cap vs hsrc hr.1 hr.2 (Nat.zero_le _)
  rcases hsp with ⟨b,hb,_⟩ | ⟨hbel,hblk⟩
  ·cases hb
  rw [Nat.zero_add,List.nil_append] at hown
  have hkp:Keeps I w w':=fun b k hbk i _=>hbel.cell (p:=⟨b,i,none⟩) (h.lt b k hbk).1
  have hlt:∀ b,v'.ownBlock = some b → b = w.heap.size ∧ b < w'.heap.size:=fun b hb=>by
   refine ⟨?_,(hown.lt b hb).2⟩
   rcases hblk with h1 | h1
   ·rw [h1] at hb;cases hb
   ·rw [h1] at hb;exact (Option.some.inj hb).symm
  have h2:=h.grow hbel (I':=fun b k=>I b k ∨ (z0 = true ∧ v'.ownBlock = some b ∧ k ≤ ys.length * (ty e).sz)) (fun _ _ h=>.inl h) (fun b k hk=>by
   rcases hk with hk | ⟨_,hk,_⟩
   ·exact .inl hk
   ·obtain ⟨h1,h2⟩:=hlt b hk;exact .inr ⟨by omega,h2⟩)
  have h3:=h2.newObj (.row z0 e ys) v' ⟨vs,by rw [upd_same];exact hown,hrl,hvs.mono (fun _ _ h=>.inl h) hkp,fun b hb=>by
   rw [upd_same] at hb
   refine ⟨fun hz=>.inr ⟨hz,hb,Nat.le_refl _⟩,fun k hk=>?_,.inl ?_⟩
   ·rcases hk with hk | ⟨hz,_,hk⟩
    ·have:=(h.lt _ _ hk).1;have:=(hlt b hb).1;omega
    ·exact ⟨hz,hk⟩
   ·have:=(hlt b hb).1;have:=h.fr.size;omega⟩ (fun j b hj hb hb'=>by
   have hb':=(own_gblk hown).1 hb'
   have h1:=(hlt b hb').1
   have h2:=h.blk_lt hj hb
   omega)
  unfold Oper.wp
  rw [hexec v' w' (by rw [hxv];exact hrun),Oper.upon_value]
  obtain ⟨A',c',hv'⟩:=own_slice hown
  refine ⟨_,⟨_,_,(RelI.freshly h3).put (x:=.own (lenO s.o)) ?_ _⟩,hK⟩
  rw [hv']
  exact .own _ _ _ _ (by rw [lenO_is,upd_same];rfl)
 ·-- behind a row
  rename_i k hxk
  rw [hxk] at hx
  split at hK <;> try exact hK.elim
  rename_i z0 e' xs hok
  split at hK <;> try exact hK.elim
  rename_i hee
  rw [eqN_is] at hee
  subst hee
  obtain ⟨hroom,hK⟩:=hK
  have hr:=room xs.length (show xs.length + ys.length ≤ 137438953472 from hroom)
  have hk:=getO_some hok (by simp)
  obtain ⟨us,hown,hxl,hxd,hxb⟩:=h.obj k _ hk
  have hxv:a.eval x = g k:=hx.unown.1.trans (own_gv hown)
  obtain ⟨v',w',hrun,hown',hsp⟩:=run_append_split (P:=Tryz.prog) w 0 t o.type e' i z (ty e').sz i.bytes hun hi hiz his rfl hzs hpos (g k) xs.length us hown A ys.length cap vs hsrc hr.1 hr.2 (Nat.zero_le _)
  obtain ⟨I',g',hg',h2⟩:=h.appended hk hown hrl hvs hown' hsp
  unfold Oper.wp
  rw [hexec v' w' (by rw [hxv];exact hrun),Oper.upon_value]
  obtain ⟨A',c',hv'⟩:=own_slice hown'
  rw [setO_is] at hK
  refine ⟨_,⟨_,_,h2.put (x:=.own k) ?_ _⟩,hK⟩
  rw [hv']
  exact .own _ _ _ _ (by rw [hg',hv'];rfl)
theorem flat_rep {α:Type} (n:Nat) (l:List α):(List.replicate n l).flatten.length = n * l.length:=by
 rw [List.length_flatten,List.map_replicate,List.sum_replicate_nat]
theorem make_ok (h:RelI I0 X w0 I g s a w) {o:Oper} {Q:Exit → Act → World → Prop} {K:S → Prop} {x y:Operand} {t:Nat} (ho:o.op = .makeSlice t x y) (ht:tyKnown t = true) (hte:∀ e,(ty t).elem = some e → tyKnown e = true)
  (hK:mkSliceV real s o.dst K t (s.get x) (s.get y)):o.wp Tryz.prog a w (fun a' w'=>∃ s',Rel I0 X w0 s' a' w' ∧ K s') Q:=by
 have hx:=h.get x
 have hy:=h.get y
 unfold mkSliceV at hK
 split at hK <;> try exact hK.elim
 rename_i k n k' m e1 e2
 rw [e1] at hx
 rw [e2] at hy
 split at hK <;> try exact hK.elim
 rename_i hnm
 have hnm:n = m:=by simpa [real] using hnm
 subst hnm
 split at hK <;> try exact hK.elim
 rename_i e he
 split at hK <;> try exact hK.elim
 rename_i z hz
 obtain ⟨⟨h1,h2,h3⟩,z0,hK⟩:=hK
 have hke:=hte e he
 have hun:=ty_slice ht he
 obtain ⟨i,zv,hi,his,hiz,hzc,hzl,hby⟩:=ty_info hke
 have hzat:=toDs_at (s:=⟨s.t,s.o⟩) h (constL_at (I:=I) (w:=w) (g:=g) (ty e).zero) (by
  have key:∀ {l:List V} {ds:List D},toDs [] l = some ds → toDs s.o l = some ds:=by
   intro l
   induction l with
   | nil=>intro ds h;exact h
   | cons v l ih =>
    intro ds h
    rw [toDs] at h ⊢
    split at h
    ·rename_i y hy
     split at h
     ·rename_i ys hys
      have:toD s.o v = some y:=by
       cases v with
       | own k=>simp [toD,getO] at hy
       | cl f ks=>cases ks <;> exact hy
       | _=>exact hy
      rw [this,ih hys]
      exact h
     ·cases h
    ·cases h
  exact key hz)
 have hzlen:z.length = (ty e).sz:=by rw [← hzat.1,hzl]
 obtain ⟨N,hN⟩:∃ N,N = n.toNat:=⟨_,rfl⟩
 rw [← hN] at h3 hK
 have hrun:=run_makeSlice (P:=Tryz.prog) w t e i zv hun hi hiz k k' n n h1 (Int.le_refl _) (by rw [← hN,his,← hzlen];exact h3) (by
  have:(i.bytes:Int) * n ≤ 1024 * 16777216:=Int.mul_le_mul (by omega) h2 h1 (by decide)
  omega) (by omega)
 rw [← hN] at hrun
 have hcells:(madeCells zv.cells (N * i.size)).toList = (List.replicate N (ty e).zero).flatten:=by
  have:=range_zero (ty e).zero.toArray N
  have e3:(ty e).zero.toArray.size = (ty e).sz:=by simp [hzl]
  rw [hzc,his,← e3]
  exact this
 obtain ⟨us,hus⟩:∃ us,us = (List.replicate N (ty e).zero).flatten:=⟨_,rfl⟩
 have hmade:madeCells zv.cells (N * i.size) = us.toArray:=by apply Array.ext';rw [hcells,hus]
 rw [hmade] at hrun
 have hul:us.length = N * (ty e).sz:=by rw [hus,flat_rep,hzl]
 have hrl:(List.replicate N z).length = N:=List.length_replicate
 have hr1:∀ r ∈ List.replicate N z,r.length = (ty e).sz:=fun r hr=>by rw [List.eq_of_mem_replicate hr,hzlen]
 have hat:AtDs I w us (List.replicate N z).flatten:=by
  refine ⟨by rw [hul,flat_rep,hzlen],fun j u d hu hd=>?_⟩
  have hj:j < N * (ty e).sz:=by rw [← hul];exact (List.getElem?_eq_some_iff.1 hu).1
  have hpos:0 < (ty e).sz:=by
   rcases Nat.eq_zero_or_pos (ty e).sz with h0 | h0
   ·rw [h0,Nat.mul_zero] at hj;omega
   ·exact h0
  have hq:j / (ty e).sz < N:=(Nat.div_lt_iff_lt_mul hpos).2 hj
  have hr:j % (ty e).sz < (ty e).sz:=Nat.mod_lt _ hpos
  have ej:j / (ty e).sz * (ty e).sz + j % (ty e).sz = j:=by rw [Nat.mul_comm];exact Nat.div_add_mod j _
  rw [hus,← ej,flat_get (fun r hr=>by rw [List.eq_of_mem_replicate hr,hzl]) (List.getElem?_replicate_of_lt hq) hr] at hu
  rw [← ej,flat_get hr1 (List.getElem?_replicate_of_lt hq) hr] at hd
  exact hzat.2 _ u d hu hd
 have hb:Below w.heap.size w (w.alloc (.cells us.toArray e)):=(Below.refl _ _).alloc (Nat.le_refl _) _
 have hk:Keeps I w (w.alloc (.cells us.toArray e)):=fun b k hbk i _=>hb.cell (p:=⟨b,i,none⟩) (h.lt b k hbk).1
 have h4:=h.grow hb (I':=fun b k=>I b k ∨ (z0 = true ∧ b = w.heap.size ∧ k ≤ N * (ty e).sz)) (fun _ _ h=>.inl h) (fun b k hk=>by
  rcases hk with hk | ⟨_,hk,_⟩
  ·exact .inl hk
  ·exact .inr ⟨by omega,by simp [hk]⟩)
 have h5:=h4.newObj (.row z0 e (List.replicate N z)) (.slice (some ⟨w.heap.size,0,none⟩) N N) ⟨us,by
   rw [upd_same,hrl]
   refine ⟨hul,.inr ⟨w.heap.size,N,us.toArray,rfl,Nat.zero_le _,heap_alloc_new w _,Nat.le_refl _,?_,by simp [hul],by simp [← hul]⟩⟩
   unfold maxLen
   omega,hr1,hat.mono (fun _ _ h=>.inl h) hk,fun b hb=>by
   rw [upd_same] at hb
   have hb:=Option.some.inj hb
   subst hb
   refine ⟨fun hz=>.inr ⟨hz,rfl,by rw [hrl];exact Nat.le_refl _⟩,fun k hk=>?_,.inl h.fr.size⟩
   rcases hk with hk | ⟨hz,_,hk⟩
   ·exact absurd (h.lt _ _ hk).1 (Nat.lt_irrefl _)
   ·exact ⟨hz,by rw [hrl];exact hk⟩⟩ (fun j b hj hb hb'=>by
   have hb':w.heap.size = b:=hb'
   have h4:=h.blk_lt hj hb
   omega)
 unfold Oper.wp
 have hex:(execOp a.eval o).run Tryz.prog w = .ok (.value (.slice (some ⟨w.heap.size,0,none⟩) N N)) (w.alloc (.cells us.toArray e)):=by
  unfold execOp
  rw [ho]
  simp only [hx.sc,hy.sc,Sem.run_bind,hrun,Result.andThen_ok,Sem.run_pure]
 rw [hex,Oper.upon_value]
 exact ⟨_,⟨_,_,h5.put (x:=.own (lenO s.o)) (.own _ _ _ _ (by rw [lenO_is,upd_same];rfl)) _⟩,hK⟩
set_option maxRecDepth 20000 in
theorem step_ok {m:Bool} (h:RelI I0 X w0 I g s a w) {o:Oper} {Q:Exit → Act → World → Prop} {K:S → Prop} (hop:okOp Tryz.prog o.op = true) (hK:step real m s o.dst K o.op):o.wp Tryz.prog a w (fun a' w'=>∃ s',Rel I0 X w0 s' a' w' ∧ K s') Q:=by
 obtain ⟨dst,op,type,pos,after,gd⟩:=o
 simp only at hop hK
 unfold step at hK
 split at hK
 ·rename_i e
  split at hK <;> try exact hK.elim
  rename_i h1
  have ht:tyKnown e = true:=hop
  obtain ⟨z,hz,hzc⟩:=ty_zero ht w
  unfold newO at hK
  split at hK
  ·refine wp_newOb h (t:=e) (us:=(ty e).zero) ?_ hK
   simp only [execOp,Instr.alloc,Sem.run_bind,hz,Result.andThen_ok,newVar,newRow,hzc,newObj,Sem.run,Sem.run_pure]
   rfl
  ·refine wp_new h (t:=e) (constL_at (ty e).zero) (constL_ones I w g h1) ?_ hK
   simp only [execOp,Instr.alloc,Sem.run_bind,hz,Result.andThen_ok,newVar,newRow,hzc,newObj,Sem.run,Sem.run_pure]
   rfl
 ·rename_i e x
  split at hK <;> try exact hK.elim
  rename_i cs hcs
  obtain ⟨us,hu1,hu2,hu3⟩:=cells_at (h.get x) hcs
  refine wp_new h (t:=e) hu2 hu3 ?_ hK
  simp only [execOp,Instr.box,Sem.run_bind,newVar,newRow,hu1,newObj,Sem.run,Sem.run_pure,Result.andThen_ok]
  rfl
 ·rename_i t x y
  split at hK <;> try exact hK.elim
  have ht:tyKnown t = true:=hop
  unfold storeV at hK
  split at hK <;> try exact hK.elim
  rotate_left
  ·rename_i k i sz off hx
   split at hK <;> try exact hK.elim
   rename_i e rows hok
   split at hK <;> try exact hK.elim
   rename_i hsz
   rw [eqN_is] at hsz
   split at hK <;> try exact hK.elim
   rename_i row hrow
   split at hK <;> try exact hK.elim
   rename_i l hl
   split at hK <;> try exact hK.elim
   rename_i ds hds
   split at hK <;> try exact hK.elim
   rename_i hlen
   split at hK <;> try exact hK.elim
   rename_i row' hrow'
   obtain ⟨vs,hv1,hv2,hv3⟩:=cells_at (h.get y) hl
   have hvd:=toDs_at h hv2 hds
   have hk:=getO_some hok (by simp)
   obtain ⟨b,n,cap,cur,hg,hb,hle,h2⟩:=h.setEl hk (get_is hrow).2 hvd hrow'
   have hxv:a.eval x = .pointer (some ⟨b,i.toNat * (ty e).sz + off,none⟩):=by
    have h3:=h.get x
    rw [hx] at h3
    generalize a.eval x = ax at h3 ⊢
    cases h3 with
    | el k i sz off b' n' cap' hg' =>
     rw [hg] at hg'
     injection hg' with hg'
     injection hg' with hg'
     injection hg' with hg'
     subst hg'
     rw [hsz]
   rw [eqN_is,lenL_is] at hlen
   have hst:=run_storeCells_at Tryz.prog b (i.toNat * (ty e).sz + off) e vs 0 cur w hb (by simpa using hle) hv3
   simp only [Nat.add_zero] at hst
   have hsize:=ty_size ht w
   have hcz:(a.eval y).cells.size = (ty t).sz:=by rw [hv1];simp [hvd.1,hlen]
   rw [setO_is] at hK
   unfold Oper.wp
   have hrun:(execOp a.eval { dst:=none,op:=Op.store t x y,type:=type,pos:=pos,after:=after,guard:=gd }).run Tryz.prog w = .ok .skip (w.setRow b (cur.toList.take (i.toNat * (ty e).sz + off) ++ vs ++ cur.toList.drop (i.toNat * (ty e).sz + off + vs.length)).toArray):=by
    simp only [execOp,Instr.storeAt,Instr.sureAddr,hxv,storeVar,Sem.run_bind,Sem.run_pure,Result.andThen_ok,hsize,hcz]
    simp [hv1,hst]
   rw [hrun,Oper.upon_skip]
   exact ⟨_,⟨I,g,h2⟩,hK⟩
  rename_i k off hx
  split at hK <;> try exact hK.elim
  rename_i cs hok
  split at hK <;> try exact hK.elim
  rename_i l hl
  split at hK <;> try exact hK.elim
  rename_i hsz
  split at hK <;> try exact hK.elim
  rename_i cs' hcs'
  obtain ⟨vs,hv1,hv2,hv3⟩:=cells_at (h.get y) hl
  have hk:=getO_some hok (by simp)
  obtain ⟨b,us,t',hg,hb,hle,h2⟩:=h.store hk hv2 hv3 hcs'
  have hxv:a.eval x = .pointer (some ⟨b,off,none⟩):=by
   have h3:=h.get x
   rw [hx] at h3
   obtain ⟨b',hg',h4⟩:=h3.unptr
   rw [hg] at hg'
   injection hg' with hg'
   injection hg' with hg'
   injection hg' with hg'
   subst hg'
   exact h4
  rw [eqN_is,lenL_is] at hsz
  have hst:=run_storeCells_at Tryz.prog b off t' vs 0 us.toArray w hb (by simpa using hle) hv3
  simp only [Nat.add_zero] at hst
  have hsize:=ty_size ht w
  have hcz:(a.eval y).cells.size = (ty t).sz:=by rw [hv1];simp [hv2.1,hsz]
  rw [setO_is] at hK
  unfold Oper.wp
  have hrun:(execOp a.eval { dst:=none,op:=Op.store t x y,type:=type,pos:=pos,after:=after,guard:=gd }).run Tryz.prog w = .ok .skip (w.setRow b (us.take off ++ vs ++ us.drop (off + vs.length)).toArray):=by
   simp only [execOp,Instr.storeAt,Instr.sureAddr,hxv,storeVar,Sem.run_bind,Sem.run_pure,Result.andThen_ok,hsize,hcz]
   simp [hv1,hst]
  rw [hrun,Oper.upon_skip]
  exact ⟨_,⟨I,g,h2⟩,hK⟩
 ·rename_i t x y
  simp only [okOp,Bool.and_eq_true] at hop
  exact make_ok h rfl hop.1 (elem_known hop.2) hK
 ·rename_i t
  split at hK <;> try exact hK.elim
  rename_i hkd
  split at hK <;> try exact hK.elim
  rename_i kt hkt
  obtain ⟨g',hg,h2⟩:=mk_ok h (kt:=kt)
  rw [← lenO_is] at hg
  unfold Oper.wp
  have hrun:(execOp a.eval { dst:=dst,op:=Op.makeMap t none,type:=type,pos:=pos,after:=after,guard:=gd }).run Tryz.prog w = .ok (.value (.map (some w.heap.size))) (w.alloc (.map #[] 0)):=by
   simp only [execOp,Option.map_none,Instr.makeMap,newObj,Sem.run_bind,Sem.run_pure,Result.andThen_ok,Sem.run]
   rfl
  rw [hrun,Oper.upon_value]
  exact ⟨_,⟨I,g',h2.put (.mp _ _ hg) _⟩,hK⟩
 ·rename_i t x i v
  split at hK <;> try exact hK.elim
  simp only [okOp,Bool.and_eq_true] at hop
  obtain ⟨w',s',hrun,h',hK⟩:=put_ok h hop.1 hop.2 (h.get x) (h.get i) (h.get v) hK
  unfold Oper.wp
  have hrun':(execOp a.eval { dst:=none,op:=Op.mapUpdate t x i v,type:=type,pos:=pos,after:=after,guard:=gd }).run Tryz.prog w = .ok .skip w':=by
   simp only [execOp,Sem.run_bind,hrun,Result.andThen_ok,Sem.run_pure]
  rw [hrun',Oper.upon_skip]
  exact ⟨_,⟨I,g,h'⟩,hK⟩
 ·rename_i t
  split at hK <;> try exact hK.elim
  rename_i e he
  obtain ⟨z0,hK⟩:=hK
  simp only [okOp,Bool.and_eq_true] at hop
  have ht:=hop.1.1
  have hke:tyKnown e = true:=by
   have h2:=hop.2
   rw [he] at h2
   simp only [Bool.and_eq_true] at h2
   exact h2.1
  have hun:=ty_slice ht he
  have hsize:=ty_size hke w
  have hrun:(execOp a.eval { dst:=dst,op:=Op.buildSlice t 0 ⟨[]⟩,type:=type,pos:=pos,after:=after,guard:=gd }).run Tryz.prog w = .ok (.value (.slice (some ⟨w.heap.size,0,none⟩) 0 0)) (w.alloc (.cells #[] e)):=by
   simp only [execOp,Instr.buildSlice,Sem.run_bind,run_underlying hun,Result.andThen_ok,hsize,Nat.zero_mul,Sem.run_ite,Sem.run_pure]
   rw [if_neg (show ¬ (0 > 2 ^ 24) by decide),if_pos True.intro]
   rw [show (Array.range 0).map (fun x=>(#[]:Array Value)[x % (#[]:Array Value).size]!) = #[] from by simp]
   simp only [Array.map_empty,Instr.fill]
   rfl
  have hb:Below w.heap.size w (w.alloc (.cells #[] e)):=(Below.refl _ _).alloc (Nat.le_refl _) _
  have h2:=h.grow hb (I':=fun b k=>I b k ∨ (z0 = true ∧ b = w.heap.size ∧ k = 0)) (fun _ _ h=>.inl h) (fun b k hk=>by
   rcases hk with hk | ⟨_,hk,_⟩
   ·exact .inl hk
   ·exact .inr ⟨by omega,by simp [hk]⟩)
  have h3:=h2.newObj (.row z0 e []) (.slice (some ⟨w.heap.size,0,none⟩) 0 0) ⟨[],by rw [upd_same];exact World.ownsRow_made w #[] 0 (Nat.zero_le _) (Nat.zero_le _) (by simp),by simp,.nil _ _,fun b hb=>by
   rw [upd_same] at hb
   have hb:=Option.some.inj hb
   subst hb
   refine ⟨fun hz=>.inr ⟨hz,rfl,by simp⟩,fun k hk=>?_,.inl h.fr.size⟩
   rcases hk with hk | ⟨hz,_,hk⟩
   ·exact absurd (h.lt _ _ hk).1 (Nat.lt_irrefl _)
   ·exact ⟨hz,by rw [hk];exact Nat.zero_le _⟩⟩ (fun j b hj hb hb'=>by
   have hb':w.heap.size = b:=hb'
   have h4:=h.blk_lt hj hb
   omega)
  unfold Oper.wp
  rw [hrun,Oper.upon_value]
  exact ⟨_,⟨_,_,(RelI.freshly h3).put (x:=.own (lenO s.o)) (.own _ _ _ _ (by rw [lenO_is,upd_same];rfl)) _⟩,hK⟩
 ·rename_i x y t u
  simp only [okOp,Bool.and_eq_true] at hop
  obtain ⟨⟨⟨h1,h2⟩,h3⟩,h4⟩:=hop
  rw [eqN_is] at h3
  subst h3
  refine append_ok h rfl h1 (fun e he=>?_) hK
  rw [he] at h4
  simp only [Nat.blt_eq] at h4
  exact ⟨elem_known h2 e he,h4⟩
 ·rename_i t n ps
  split at hK
  ·obtain ⟨c,hK⟩:=hK
   cases c with
   | true=>exact calm_ok h hop hK
   | false=>exact lit_ok h rfl hop hK
  ·exact calm_ok h hop hK
 ·rename_i f args ts
  split at hK
  ·exact callo_ok h (fun hf=>enter_run (cs:=[]) rfl rfl hf) (by rw [List.append_nil];exact h.gets args.toList) hK
  ·exact calm_ok h hop hK
 ·rename_i i args ts
  split at hK
  ·split at hK <;> try exact hK.elim
   rename_i f ks hf
   obtain ⟨cs,hc1,hc2⟩:=fnV_at h hf
   exact callo_ok h (fun hf=>enter_run (cs:=cs) rfl hc1 hf) (by rw [appV_is];exact (h.gets args.toList).append hc2) hK
  ·exact calm_ok h hop hK
 ·exact calm_ok h hop hK
end
end
section
def inD:List (Option Nat) → Nat → Bool
 | [],_=>false
 | some x :: l,i=>match eqN x i with | true=>true | false=>inD l i
 | none :: l,i=>inD l i
def ldSlot:Oper → Option Nat
 | ⟨_,.load _ (.tmp i),_,_,_,none⟩=>some i
 | _=>none
def stSlot (dsts:List (Option Nat)):Oper → Option Nat
 | ⟨none,.store _ (.tmp i) _,_,_,_,none⟩=>match inD dsts i with | true=>none | false=>some i
 | _=>none
def slotsOf (f:Oper → Option Nat):List Oper → List Nat
 | []=>[]
 | o :: l=>match f o with | some i=>i :: slotsOf f l | none=>slotsOf f l
def addrSrc:Op → Option Nat
 | .move (.tmp j)=>some j
 | .nilCheck (.tmp j)=>some j
 | .fieldAddr _ (.tmp j) _=>some j
 | .indexAddr _ (.tmp j) _=>some j
 | _=>none
def srcIn:List Oper → Nat → Option Nat
 | [],_=>none
 | o :: l,i=>match o.dst with
  | some d=>match eqN d i with | true=>addrSrc o.op | false=>srcIn l i
  | none=>srcIn l i
def chainP (dsts:List (Option Nat)) (ops:List Oper) (k:Nat):Nat → Nat → Option (List (Nat × Nat))
 | 0,_=>none
 | f + 1,i=>match inD dsts i with
  | false=>match eqN i k with | true=>none | false=>some [(i,k)]
  | true=>match srcIn ops i with
   | some j=>match chainP dsts ops k f j with | some l=>some ((i,k) :: l) | none=>none
   | none=>none
def pairsK (dsts:List (Option Nat)) (ops:List Oper) (i:Nat):List Nat → List (Nat × Nat)
 | []=>[]
 | k :: ks=>match chainP dsts ops k 8 i with
  | some l=>l ++ pairsK dsts ops i ks
  | none=>pairsK dsts ops i ks
def pairsC (dsts:List (Option Nat)) (ops:List Oper) (ks:List Nat):List Nat → List (Nat × Nat)
 | []=>[]
 | i :: l=>pairsK dsts ops i ks ++ pairsC dsts ops ks l
def lsPairs (ops:List Oper):List (Nat × Nat):=match slotsOf (stSlot (dstsOf ops)) ops with
 | []=>[]
 | k :: ks=>pairsC (dstsOf ops) ops (k :: ks) (slotsOf ldSlot ops)
def keepB (prs:List (Nat × Nat)) (o:Oper):Bool:=match o.dst with
 | none=>true
 | some d=>prs.all fun p=>notB (eqN d p.2) && (notB (eqN d p.1) || match addrSrc o.op with | some j=>prs.contains (j,p.2) | none=>false)
def distB:V → V → Bool
 | .ptr j _,.ptr m _=>notB (eqN j m)
 | .el j _ _ _,.el m _ _ _=>notB (eqN j m)
 | .own j,.el m _ _ _=>notB (eqN j m)
 | .bs j _,.ptr m _=>notB (eqN j m)
 | _,_=>true
def preOk:List (Nat × Nat) → List V → Bool
 | [],_=>true
 | (i,k) :: l,t=>match distB (getN t i) (getN t k) with | true=>preOk l t | false=>false
def direct (o:Oper):List Nat:=(o.after.toList.filter fun e=>Region.binds .any e).map (·.on)
def ancs:List Oper → List (List Nat) → List (List Nat)
 | [],acc=>acc
 | o :: l,acc=>ancs l (acc ++ [(direct o).flatMap fun j=>j :: acc.getD j []])
def isTot (ops:List Oper) (i:Nat):Bool :=
 let an:=ancs ops []
 (List.range ops.length).all fun j=>Nat.beq j i || (Nat.blt j i && (an.getD i []).contains j) || (Nat.blt i j && (an.getD j []).contains i)
def emL:List V → Bool
 | []=>false
 | .em :: _=>true
 | _ :: l=>emL l
def emA:List V → Bool
 | []=>false
 | .em :: _=>true
 | .ag cs :: l=>match emL cs with | true=>true | false=>emA l
 | _ :: l=>emA l
def emB (b:Bool) (vs:List V):Bool:=match b with | true=>emA vs | false=>false
def turns (b:Bool) (s:S) (x:Operand) (args:List Operand):Option (Nat × List V):=match fnV (s.get x) with
 | some (f,ks)=>match emB b (getVs s.get args) with
  | true=>some (f,appV (getVs s.get args) (caps ks))
  | false=>match toRs s.o (appV (getVs s.get args) (caps ks)) with
   | some _=>none
   | none=>some (f,appV (getVs s.get args) (caps ks))
 | none=>none
def blindB:Op → Bool
 | .move _=>true
 | .assign _=>true
 | .pick _ _ _=>true
 | .fieldAddr _ _ _=>true
 | .field _ _ _=>true
 | .index _ _ _=>true
 | .binOp _ _ _ _ _=>true
 | .unOp _ _ _=>true
 | .convert _ _ _=>true
 | .build _ _=>true
 | .extract _ _=>true
 | .makeFunc _ _ _=>true
 | .nilCheck _=>true
 | _=>false
def tmps:List Operand → List Nat
 | []=>[]
 | .tmp t :: l=>t :: tmps l
 | _ :: l=>tmps l
def looks (dsts:List (Option Nat)) (o:Oper):List Nat:=(match o.guard with
 | some (j,_)=>match getD dsts j with | some d=>[d] | none=>[]
 | none=>[]) ++ tmps o.op.operands.toList
def notIn (d:Option Nat) (l:List Nat):Bool:=match d with | some x=>!l.contains x | none=>true
def besideOk (dsts:List (Option Nat)):Oper → Option (List Nat)
 | ⟨_,.load _ (.tmp k),_,_,_,none⟩=>match inD dsts k with | true=>none | false=>some [k]
 | o=>match blindB o.op with | true=>some [] | false=>none
def isCallV:Op → Bool
 | .call ⟨.value _,_,_⟩=>true
 | _=>false
def besideL (dsts:List (Option Nat)) (an:List (List Nat)) (i:Nat) (oi:Oper):Nat → List Oper → Option (List Nat)
 | _,[]=>some []
 | j,o :: l=>match Nat.beq j i with
  | true=>besideL dsts an i oi (j + 1) l
  | false=>match Nat.blt j i with
   | true=>match (an.getD i []).contains j with
    | true=>besideL dsts an i oi (j + 1) l
    | false=>match notIn o.dst (looks dsts oi) && notIn oi.dst (looks dsts o) && (o.dst.isNone || o.dst != oi.dst) with
     | true=>match besideOk dsts o with
      | some ks=>match besideL dsts an i oi (j + 1) l with | some ms=>some (ks ++ ms) | none=>none
      | none=>none
     | false=>none
   | false=>match (an.getD j []).contains i with
    | true=>besideL dsts an i oi (j + 1) l
    | false=>none
def beside (all:List Oper) (i:Nat):Option (List Nat):=match takeN 1 (dropN i all) with
 | some [oi]=>match isCallV oi.op && oi.guard.isNone with
  | true=>besideL (dstsOf all) (ancs all []) i oi 0 all
  | false=>none
 | _=>none
def stepD (a:Ar) (all:List Oper) (i:Nat) (s:S) (dst:Option Nat) (K:S → Prop):Op → Prop
 | .call ⟨.value x,args,ts⟩=>match turns (isTot all i) s x args.toList with
  | some (f,vs)=>match isTot all i with
   | true=>a.callo f vs s (fun v s'=>K (s'.put dst v))
   | false=>match beside all i with
    | some l=>a.callx f vs l s (fun v s'=>K (s'.put dst v))
    | none=>step a false s dst K (.call ⟨.value x,args,ts⟩)
  | none=>step a false s dst K (.call ⟨.value x,args,ts⟩)
 | op=>step a false s dst K op
def execD (a:Ar) (dsts:List (Option Nat)) (all:List Oper) (i:Nat):Oper → S → (S → Prop) → Prop
 | ⟨dst,op,_,_,_,none⟩,s,K=>stepD a all i s dst K op
 | ⟨dst,op,_,_,_,some (j,b)⟩,s,K=>guard s dsts j fun
  | some c=>match bEq c b with
   | true=>stepD a all i s dst K op
   | false=>K (s.put dst vun)
  | none=>K (s.put dst vun)
def runD (a:Ar) (dsts:List (Option Nat)) (all:List Oper):Nat → List Oper → S → (S → Prop) → Prop
 | _,[],s,K=>K s
 | i,o :: l,s,K=>execD a dsts all i o s (fun s=>runD a dsts all (i + 1) l s K)
def exec (a:Ar):Code → S → (X → S → Prop) → Prop
 | .skip,s,K=>K .normal s
 | .region _ ops d,s,K=>match d with
  | false=>runE a (dstsOf ops.toList) ops.toList s (fun s=>K .normal s)
  | true=>match hasIt s.o with
   | true=>a.reg ops s (fun s=>K .normal s)
   | false=>match preOk (lsPairs ops.toList) s.t with
    | true=>runD a (dstsOf ops.toList) ops.toList 0 ops.toList s (fun s=>K .normal s)
    | false=>False
 | .seq c d,s,K=>exec a c s (fun x s=>thenX (fun s=>a.next (fun s=>exec a d s K) s) K x s)
 | .cond c d e,s,K=>match s.get c with
  | .d (.sc (.bool b))=>match b with
   | true=>exec a d s K
   | false=>exec a e s K
  | _=>False
 | .block id c,s,K=>exec a c s (fun x s=>blockX id K x s)
 | .exit i,s,K=>K (.exit i) s
 | .ret,s,K=>K .ret s
 | .loop c,s,K=>a.loop c (fun s K=>exec a c s K) s K
 | _,_,_=>False
def okOps (P:Program) (ops:List Oper):Bool:=ops.all fun o=>okOp P o.op
section
variable {I0:Nat → Nat → Prop} {X:Nat → Prop} {w0:W0} {I:Nat → Nat → Prop} {g:Nat → Value} {s:S} {a:Act} {w:World}
def cutG (n:Nat) (g:Nat → Value):Nat → Value:=fun k=>if k < n then g k else .nilFunc
theorem lowV_at {g':Nat → Value} {n:Nat} (hg:∀ k,k < n → g' k = g k) {v:Value} {x:V} (h:AtV I w g v x) (hl:lowV n x = true):AtV I w g' v x:=by
 cases h with
 | d h=>exact .d h
 | ag us cs h1 h2=>cases hl
 | tu us cs h1 h2=>cases hl
 | em=>exact .em
 | own k A m cap h=>exact .own k A m cap ((congrArg gv (hg k (by simpa [lowV,Nat.blt_eq] using hl))).trans h)
 | ptr k off b h=>exact .ptr k off b ((hg k (by simpa [lowV,Nat.blt_eq] using hl)).trans h)
 | cl f us ks hu h =>
  rw [lowV] at hl
  exact .cl f us ks hu fun i u k hi hk=>by
   obtain ⟨h1,b,h2⟩:=h i u k hi hk
   have h3:=hg k (lowN_at hl hk)
   exact ⟨h1.trans h3.symm,b,h3.trans h2⟩
 | el k i sz off b m cap h=>exact .el k i sz off b m cap ((hg k (by simpa [lowV,Nat.blt_eq] using hl)).trans h)
 | ro b o off us cs h1 h2 h3=>exact .ro b o off us cs h1 h2 h3
 | mp k b h=>exact .mp k b ((hg k (by simpa [lowV,Nat.blt_eq] using hl)).trans h)
 | bs k n' b cap h hn=>exact .bs k n' b cap ((hg k (by simpa [lowV,Nat.blt_eq] using hl)).trans h) hn
 | jk v=>exact .jk v
theorem lowL_at {g':Nat → Value} {n:Nat} (hg:∀ k,k < n → g' k = g k):∀ {cs:List V} {us:List Value},AtVs I w g us cs → lowL n cs = true → AtVs I w g' us cs
 | [],us,h,_=>by rw [h.unnil];exact .nil I w g'
 | c :: cs,us,h,hl=>by
  obtain ⟨u,us',rfl,h1,h2⟩:=h.uncons
  rw [lowL] at hl
  split at hl
  ·rename_i hc;exact .cons (lowV_at hg h1 hc) (lowL_at hg h2 hl)
  ·cases hl
theorem low2_at {g':Nat → Value} {n:Nat} (hg:∀ k,k < n → g' k = g k) {v:Value} {x:V} (h:AtV I w g v x) (hl:low2 n x = true):AtV I w g' v x:=by
 cases x with
 | ag cs=>obtain ⟨us,rfl,h2⟩:=h.unag;exact atV_ag (lowL_at hg h2 hl)
 | tu cs =>
  cases cs with
  | nil =>
   obtain ⟨us,rfl,h2⟩:=h.untu
   rw [h2.unnil]
   exact atV_tu (.nil I w g')
  | cons c cs=>cases hl
 | d x=>exact lowV_at hg h hl
 | em=>exact lowV_at hg h hl
 | own k=>exact lowV_at hg h hl
 | ptr k off=>exact lowV_at hg h hl
 | cl f ks=>exact lowV_at hg h hl
 | el k i sz off=>exact lowV_at hg h hl
 | ro cs off=>exact lowV_at hg h hl
 | mp k=>exact lowV_at hg h hl
 | bs k n'=>exact lowV_at hg h hl
 | jk=>exact .jk _
theorem lowT_at {g':Nat → Value} {n:Nat} (hg:∀ k,k < n → g' k = g k):∀ {cs:List V} {us:List Value},AtVs I w g us cs → lowT n cs = true → AtVs I w g' us cs
 | [],us,h,_=>by rw [h.unnil];exact .nil I w g'
 | c :: cs,us,h,hl=>by
  obtain ⟨u,us',rfl,h1,h2⟩:=h.uncons
  rw [lowT] at hl
  split at hl
  ·rename_i hc;exact .cons (low2_at hg h1 hc) (lowT_at hg h2 hl)
  ·cases hl
theorem weakL_at:∀ {l m:List V} {us:List Value},AtVs I w g us l → weakL l m → AtVs I w g us m
 | [],[],us,h,_=>h
 | [],_ :: _,us,h,hw=>by cases hw
 | x :: l,[],us,h,hw=>by cases hw
 | x :: l,y :: m,us,h,hw=>by
  obtain ⟨u,us',rfl,h1,h2⟩:=h.uncons
  by_cases hy:y = .jk
  ·subst hy
   exact .cons (.jk _) (weakL_at h2 hw)
  ·have hw':x = y ∧ weakL l m:=by
    cases y <;> first | exact absurd rfl hy | exact hw
   exact .cons (hw'.1 ▸ h1) (weakL_at h2 hw'.2)
theorem subN_at:∀ {l m:List Nat},subN l m = true → ∀ j ∈ l,j ∈ m
 | [],m,_,j,hj=>by simp at hj
 | k :: l,m,h,j,hj=>by
  rw [subN] at h
  split at h
  ·rename_i hk
   rcases List.mem_cons.1 hj with rfl | hj
   ·exact memN_is.1 hk
   ·exact subN_at h j hj
  ·cases h
theorem weakO_get:∀ {l m:List O},weakO l m → m.length ≤ l.length ∧ ∀ (k:Nat) (o':O),m[k]? = some o' → o' = O.dead ∨ (∃ cs ds,l[k]? = some (.box cs) ∧ o' = .box ds ∧ weakL cs ds) ∨ (∃ ks js,l[k]? = some (.kl ks) ∧ o' = .kl js ∧ subN ks js = true) ∨ (l[k]? = some o' ∧ (∀ cs,o' ≠ .box cs) ∧ ∀ ks,o' ≠ .kl ks)
 | l,[],_=>⟨Nat.zero_le _,fun k o' h=>by simp at h⟩
 | [],y :: m,h=>by cases y <;> cases h
 | x :: l,y :: m,h=>by
  have key:weakO l m ∧ (y = .dead ∨ (∃ cs ds,x = .box cs ∧ y = .box ds ∧ weakL cs ds) ∨ (∃ ks js,x = .kl ks ∧ y = .kl js ∧ subN ks js = true) ∨ (x = y ∧ (∀ cs,y ≠ .box cs) ∧ ∀ ks,y ≠ .kl ks)):=by
   cases y with
   | dead=>cases x <;> exact ⟨h,.inl rfl⟩
   | box ds=>cases x <;> first | exact ⟨h.2,.inr (.inl ⟨_,_,rfl,rfl,h.1⟩)⟩ | cases h
   | kl js=>cases x <;> first | exact ⟨h.2,.inr (.inr (.inl ⟨_,_,rfl,rfl,h.1⟩))⟩ | cases h
   | row z e r =>
    cases x with
    | row z2 e2 r2 =>
     obtain ⟨⟨rfl,rfl,rfl⟩,h2⟩:=h
     exact ⟨h2,.inr (.inr (.inr ⟨rfl,by simp,by simp⟩))⟩
    | _=>exact h.elim
   | mp kt es =>
    cases x with
    | mp kt2 es2 =>
     obtain ⟨⟨rfl,rfl⟩,h2⟩:=h
     exact ⟨h2,.inr (.inr (.inr ⟨rfl,by simp,by simp⟩))⟩
    | _=>exact h.elim
   | it P =>
    cases x with
    | it P2 =>
     obtain ⟨rfl,h2⟩:=h
     exact ⟨h2,.inr (.inr (.inr ⟨rfl,by simp,by simp⟩))⟩
    | _=>exact h.elim
   | ob T vs =>
    cases x with
    | ob T2 vs2 =>
     obtain ⟨⟨rfl,rfl⟩,h2⟩:=h
     exact ⟨h2,.inr (.inr (.inr ⟨rfl,by simp,by simp⟩))⟩
    | _=>exact h.elim
  obtain ⟨h1,h2⟩:=weakO_get key.1
  refine ⟨by simp;exact h1,fun k o' hk=>?_⟩
  cases k with
  | zero =>
   simp at hk
   subst hk
   rcases key.2 with h | ⟨cs,ds,rfl,h4,h5⟩ | ⟨ks,js,rfl,h4,h5⟩ | ⟨rfl,h4⟩
   ·exact .inl h
   ·exact .inr (.inl ⟨cs,ds,rfl,h4,h5⟩)
   ·exact .inr (.inr (.inl ⟨ks,js,rfl,h4,h5⟩))
   ·exact .inr (.inr (.inr ⟨rfl,h4⟩))
  | succ k=>simpa using h2 k o' (by simpa using hk)
theorem RelI.weak (h:RelI I0 X w0 I g s a w) {s':S} (hn:w0.n ≤ s'.o.length) (hw:weak s s'):RelI I0 X w0 I (cutG s'.o.length g) s' a w:=by
 obtain ⟨h1,h2,h3,h4⟩:=hw
 obtain ⟨hlen,hobj⟩:=weakO_get h2
 rw [lenO_is] at h3 h4
 have hg:∀ k,k < s'.o.length → cutG s'.o.length g k = g k:=fun k hk=>if_pos hk
 refine ⟨h.im,h.lt,h.fr,h.kp,hn,fun k hk hr=>(hg k (by omega)).trans (h.st k hk hr),fun k o ho=>?_,fun j k b hj hk hbj hbk=>?_,fun k hk=>if_neg (by omega),lowT_at hg (weakL_at h.tmp h1) h3,h.dfr⟩
 ·have hk:k < s'.o.length:=(List.getElem?_eq_some_iff.1 ho).1
  rcases hobj k o ho with rfl | ⟨cs,ds,h5,rfl,h6⟩ | ⟨ks,js,h5,rfl,h6⟩ | ⟨h5,hnb,hnk⟩
  ·exact True.intro
  ·obtain ⟨b,us,t,e1,e2,e3,e4⟩:=h.obj k _ h5
   exact ⟨b,us,t,(hg k hk).trans e1,e2,lowL_at hg (weakL_at e3 h6) (lowO_at h4 ho),e4⟩
  ·obtain ⟨us,e1,e2,e3⟩:=h.obj k _ h5
   refine ⟨us,(hg k hk).trans e1,e2,fun j u hu=>?_⟩
   have hj:=(Array.getElem?_eq_some_iff.1 hu).1
   rcases e3 j u hu with e4 | e4 | e4
   ·exact .inl e4
   ·exact .inr (.inl ((hg j (by omega)).trans e4))
   ·exact .inr (.inr (subN_at h6 j e4))
  ·cases o with
   | dead=>exact True.intro
   | box cs=>exact absurd rfl (hnb cs)
   | kl ks=>exact absurd rfl (hnk ks)
   | row z e r =>
    obtain ⟨us,e1,e2,e3,e4⟩:=h.obj k _ h5
    exact ⟨us,by rw [hg k hk];exact e1,e2,e3,by rw [hg k hk];exact e4⟩
   | mp kt es =>
    obtain ⟨b,l,c,e1,e2⟩:=h.obj k _ h5
    exact ⟨b,l,c,(hg k hk).trans e1,e2⟩
   | ob T vs =>
    obtain ⟨b,e1,e2⟩:=h.obj k _ h5
    exact ⟨b,(hg k hk).trans e1,e2⟩
   | it P =>
    obtain ⟨A,n,cap,F,e1,e2⟩:=h.obj k _ h5
    exact ⟨A,n,cap,F,(hg k hk).trans e1,e2⟩
 ·have live':∀ j,live s' j → j < s'.o.length ∧ live s j:=fun j ⟨o,ho,hd⟩=>by
   refine ⟨(List.getElem?_eq_some_iff.1 ho).1,?_⟩
   rcases hobj j o ho with rfl | ⟨cs,ds,h5,_,_⟩ | ⟨ks,js,h5,_,_⟩ | ⟨h5,_⟩
   ·exact absurd rfl hd
   ·exact ⟨_,h5,by simp⟩
   ·exact ⟨_,h5,by simp⟩
   ·exact ⟨_,h5,hd⟩
  obtain ⟨hj1,hj2⟩:=live' j hj
  obtain ⟨hk1,hk2⟩:=live' k hk
  rw [hg j hj1] at hbj
  rw [hg k hk1] at hbk
  exact h.dis j k b hj2 hk2 hbj hbk
theorem Rel.weak (h:Rel I0 X w0 s a w) {s':S} (hn:w0.n ≤ s'.o.length) (hw:s = s' ∨ weak s s'):Rel I0 X w0 s' a w:=by
 obtain ⟨I,g,h⟩:=h
 rcases hw with rfl | hw
 ·exact ⟨I,g,h⟩
 ·exact ⟨I,_,h.weak hn hw⟩
theorem dsts_get:∀ (l:List Oper) (j:Nat) (d:Nat),getD (dstsOf l) j = some d → (l[j]?).bind (·.dst) = some d
 | [],j,d,h=>by cases h
 | o :: l,0,d,h=>by simpa [dstsOf,getD] using h
 | o :: l,j + 1,d,h=>by rw [dstsOf,getD] at h;simpa using dsts_get l j d h
theorem guard_at (h:Rel I0 X w0 s a w) {ops:Array Oper} {j:Nat} {K:Option Bool → Prop} (hK:guard s (dstsOf ops.toList) j K):∃ c,yielded ops a.tmps j = c ∧ K c:=by
 obtain ⟨I,g,h⟩:=h
 unfold guard at hK
 split at hK <;> try exact hK.elim
 rename_i d hd
 have hdst:=dsts_get _ _ _ hd
 rw [Array.getElem?_toList] at hdst
 have tmp:∀ x,getN s.t d = x → x ≠ .jk → ∃ v,a.tmps[d]? = some v ∧ AtV I w g v x:=fun x hx hj=>by
  have h1:=getN_some hx hj
  have hlt:d < a.tmps.toList.length:=by rw [h.tmp.1];exact (List.getElem?_eq_some_iff.1 h1).1
  exact ⟨a.tmps.toList[d],by rw [← Array.getElem?_toList];exact List.getElem?_eq_getElem hlt,h.tmp.2 d _ _ (List.getElem?_eq_getElem hlt) h1⟩
 split at hK <;> try exact hK.elim
 ·rename_i c hc
  obtain ⟨v,h1,h2⟩:=tmp _ hc (by simp)
  obtain rfl:=h2.sc
  exact ⟨some c,by simp [yielded,hdst,h1],hK⟩
 ·rename_i hc
  obtain ⟨v,h1,h2⟩:=tmp _ hc (by simp)
  obtain ⟨us,rfl,h3⟩:=h2.untu
  rw [h3.unnil] at h1
  exact ⟨none,by simp [yielded,hdst,h1],hK⟩
theorem callsFW {ro:Option Nat} {n:Nat} {P:Program} {f:FuncId} {args:Array Value} {w:World} {R:Ending → World → Prop} (h:Calls P f args w R):CallsIn (FW ro) n P f args w R:=callsIn_wide.2 h
theorem op_in {ro:Option Nat} {n:Nat} {P:Program} {o:Oper} {a:Act} {w:World} {next:Act → World → Prop} {Q:Exit → Act → World → Prop} (hd:∀ c,o.op ≠ .defer c) (h:o.wp P a w next Q):o.wpIn (FW ro) n P a w next Q:=by
 refine ⟨fun _ _=>trivial,?_⟩
 rw [Oper.semAt_eq _ _ _ hd]
 unfold Oper.wp at h
 generalize (execOp a.eval o).run P w = r at h ⊢
 cases r with
 | ok x w' =>
  cases x with
  | enter f args=>exact ⟨fun h=>(by cases h),callsFW h⟩
  | row f args=>exact ⟨fun h=>(by cases h),fun c cs _=>let ⟨v,w2,h1,h2⟩:=h c cs;⟨v,w2,h1,stepsIn_wide.2 h2⟩⟩
  | value v=>exact h
  | skip=>exact h
  | defer d=>exact h
  | _=>exact h.elim
 | halt x w'=>cases x <;> exact h
theorem no_defer {P:Program} {op:Op} (h:okOp P op = true) (c:Call) (hc:op = .defer c):False:=by subst hc;cases h
theorem step1_ok (h:Rel I0 X w0 s a w) {o:Oper} {Q:Exit → Act → World → Prop} {K:S → Prop} (hop:okOp Tryz.prog o.op = true) (hK:step1 real s o.dst K o.op):o.wp Tryz.prog a w (fun a' w'=>∃ s',Rel I0 X w0 s' a' w' ∧ K s') Q:=by
 unfold step1 at hK
 split at hK
 ·exact hK I0 X w0 a w o Q rfl rfl hop h
 ·obtain ⟨I,g,h⟩:=h
  exact step_ok h hop hK
theorem run_ok {ro:Option Nat} {n:Nat} {ops:Array Oper} {Q:Exit → Act → World → Prop} {K:S → Prop} (hQ:∀ s' a' w',Rel I0 X w0 s' a' w' → K s' → Q .normal a' w'):∀ (l:List Oper) (s:S) (a:Act) (w:World),(∀ o ∈ l,okOp Tryz.prog o.op = true) → Rel I0 X w0 s a w → runE real (dstsOf ops.toList) l s K → wpListIn (FW ro) n Tryz.prog ops Q l a w
 | [],s,a,w,_,h,hK=>hQ _ _ _ h hK
 | ⟨dst,op,type,pos,after,gd⟩ :: l,s,a,w,hok,h,hK=>by
  have hop:=hok _ (List.mem_cons_self ..)
  have hrest:∀ a' w',(∃ s',Rel I0 X w0 s' a' w' ∧ runE real (dstsOf ops.toList) l s' K) → wpListIn (FW ro) n Tryz.prog ops Q l a' w':=fun a' w' ⟨s',h1,h2⟩=>run_ok hQ l s' a' w' (fun o ho=>hok o (List.mem_cons_of_mem _ ho)) h1 h2
  have hstep:∀ {Kw:Act → World → Prop},(∀ a w,wpListIn (FW ro) n Tryz.prog ops Q l a w → Kw a w) → step1 real s dst (fun s=>runE real (dstsOf ops.toList) l s K) op → Oper.wpIn (FW ro) n Tryz.prog ⟨dst,op,type,pos,after,gd⟩ a w Kw Q:=fun hKw hs=>by
   obtain ⟨I,g,h⟩:=h
   exact op_in (fun c hc=>no_defer hop c hc) (Oper.wp_mono (fun a' w' hx=>hKw _ _ (hrest a' w' hx)) (step1_ok ⟨I,g,h⟩ (o:=⟨dst,op,type,pos,after,gd⟩) (Q:=Q) hop hs))
  have hskip:runE real (dstsOf ops.toList) l (s.put dst vun) K → wpListIn (FW ro) n Tryz.prog ops Q l (a.put dst undef) w:=fun hs=>by
   obtain ⟨I,g,h⟩:=h
   exact run_ok hQ l _ _ w (fun o ho=>hok o (List.mem_cons_of_mem _ ho)) ⟨I,g,h.put (x:=vun) (.tu [] [] rfl (fun i u c hu _=>by simp at hu)) dst⟩ hs
  refine wpListIn_step fun Kw hKw=>?_
  cases gd with
  | none =>
   rw [if_pos (by rfl)]
   rw [runE] at hK
   exact hstep hKw hK
  | some jb =>
   obtain ⟨j,b⟩:=jb
   rw [runE] at hK
   obtain ⟨c,hc,hK⟩:=guard_at h hK
   have hw:Region.wanted ⟨dst,op,type,pos,after,some (j,b)⟩ (yielded ops a.tmps) = (c == some b):=by simp [Region.wanted,hc]
   rw [hw]
   cases c with
   | none =>
    rw [if_neg (by simp)]
    exact ⟨fun _ _=>trivial,hKw _ _ (hskip hK)⟩
   | some c =>
    simp only at hK
    split at hK
    ·rename_i hb
     rw [bEq_is] at hb
     rw [if_pos (by simpa using hb)]
     exact hstep hKw hK
    ·rename_i hb
     rw [bEq_is] at hb
     rw [if_neg (by simpa using hb)]
     exact ⟨fun _ _=>trivial,hKw _ _ (hskip hK)⟩
end
end
end Go.Proofs.YtahpnackkmbmgaaGreat.Vm
end
