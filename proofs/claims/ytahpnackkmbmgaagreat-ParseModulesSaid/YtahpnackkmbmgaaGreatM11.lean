/- Part 11 of the proof: VDraw. Conditions: none. -/
import Derived.Test.YtahpnackkmbmgaaGreatM10
import Derived.Orders
set_option linter.all false
set_option linter.unusedVariables false
set_option linter.unusedSimpArgs false
section
namespace Go.Proofs.YtahpnackkmbmgaaGreat.Vm
open Go.RowKit
section
def calmB:Op → Bool
 | .alloc _=>false
 | .box _ _=>false
 | .store _ _ _=>false
 | .buildSlice _ 0 _=>false
 | .call ⟨.builtin .append,_,_⟩=>false
 | .makeSlice _ _ _=>false
 | .makeMap _ _=>false
 | .mapUpdate _ _ _ _=>false
 | _=>true
theorem step_calm {a:Ar} {s:S} {dst:Option Nat} {K:S → Prop} {op:Op} (h:calmB op = true):step a false s dst K op = stepC a s.get s.o (fun v=>K (s.put dst v)) op:=by
 unfold step
 split <;> first | rfl | cases h
def Pt (T:(V → Prop) → Prop):Prop:=∀ K,T K → ∃ v,K v ∧ ∀ K',K' v → T K'
section
variable {os:List O} {t i:Nat} {x y z:V}
theorem load_pt:Pt fun K=>loadV real os K t x:=by
 intro K h
 simp only [loadV] at h ⊢
 repeat' split at h
 all_goals first | exact h.elim | exact ⟨_,h,fun K' hk=>by simp only [*]⟩
theorem pick_pt:Pt fun K=>pickV K x y z:=by
 intro K h
 simp only [pickV] at h ⊢
 repeat' split at h
 all_goals first | exact h.elim | exact ⟨_,h,fun K' hk=>by simp only [*]⟩
theorem field_pt:Pt fun K=>fieldV K t i x:=by
 intro K h
 simp only [fieldV] at h ⊢
 repeat' split at h
 all_goals first | exact h.elim | exact ⟨_,h,fun K' hk=>by simp only [*]⟩
theorem part_pt:Pt fun K=>partV K t i x:=by
 intro K h
 simp only [partV] at h ⊢
 repeat' split at h
 all_goals first | exact h.elim | exact ⟨_,h,fun K' hk=>by simp only [*]⟩
theorem index_pt:Pt fun K=>indexAddrV real os K t x y:=by
 intro K h
 simp only [indexAddrV,arrAddrV] at h ⊢
 repeat' split at h
 all_goals first | exact h.elim | exact ⟨_,h,fun K' hk=>by simp only [*]⟩
theorem sget_pt:Pt fun K=>indexV real K t x y:=by
 intro K h
 simp only [indexV] at h ⊢
 repeat' split at h
 all_goals first | exact h.elim | exact ⟨_,h,fun K' hk=>by simp only [*]⟩
theorem val_pt {op:BinOp} {x y:Value}:Pt fun K=>binVal real op x y K:=by
 intro K h
 simp only [binVal] at h ⊢
 split at h <;> try exact h.elim
 ·split at h
  ·rename_i hb
   unfold optI at h ⊢
   split at h <;> try exact h.elim
   rename_i hr
   exact ⟨_,h,fun K' hk=>by first | exact hk | (rw [hb,hr];exact hk)⟩
  split at h <;> try exact h.elim
  rename_i hk
  simp only [binInt] at h ⊢
  split at h <;> first | exact h.elim | exact ⟨_,h,fun K' hk'=>by simp only [*]⟩ | exact ⟨_,h.2,fun K' hk'=>by first | exact ⟨h.1,hk'⟩ | (simp only [hk];exact ⟨h.1,hk'⟩) | (rw [hk];exact ⟨h.1,hk'⟩) | (split <;> simp_all)⟩
 ·simp only [binStr] at h ⊢
  split at h <;> first | exact h.elim | exact ⟨_,h,fun K' hk'=>by simp only [*]⟩ | exact ⟨_,h.2,fun K' hk'=>⟨h.1,hk'⟩⟩
theorem nil_pt {b:Bool} {op:BinOp}:Pt fun K=>nilEq b K op:=by
 intro K h
 simp only [nilEq] at h ⊢
 split at h <;> first | exact h.elim | exact ⟨_,h,fun K' hk'=>hk'⟩
theorem bin_pt {op:BinOp}:Pt fun K=>binV real op t x y K:=by
 intro K h
 simp only [binV] at h ⊢
 split at h <;> try exact h.elim
 ·split at h
  ·split at h <;> try exact h.elim
   exact nil_pt _ h
  ·split at h <;> try exact h.elim
   exact nil_pt _ h
  ·exact val_pt _ h
 ·split at h <;> try exact h.elim
  split at h <;> try exact h.elim
  exact nil_pt _ h
 ·split at h <;> try exact h.elim
  split at h <;> try exact h.elim
  exact nil_pt _ h
 ·split at h <;> try exact h.elim
  obtain ⟨h1,h2⟩:=h
  obtain ⟨v,h3,h4⟩:=nil_pt _ h2
  exact ⟨v,h3,fun K' hk=>⟨h1,h4 _ hk⟩⟩
 ·split at h <;> try exact h.elim
  exact nil_pt _ h
 ·split at h <;> try exact h.elim
  split at h <;> try exact h.elim
  split at h <;> try exact h.elim
  exact nil_pt _ h
theorem look_pt {ok:Bool}:Pt fun K=>lookV real os K t ok x y:=by
 intro K h
 simp only [lookV] at h ⊢
 repeat' split at h
 all_goals first | exact h.elim | skip
 all_goals simp only [zeroK,commaV] at h ⊢
 all_goals repeat' split at h
 all_goals first | exact h.elim | exact ⟨_,h,fun K' hk=>by simp only [*]⟩
theorem min_pt {mx:Bool} {l:List V}:Pt fun K=>minV real K mx l:=by
 intro K h
 simp only [minV] at h ⊢
 repeat' split at h
 all_goals first | exact h.elim | exact ⟨_,h,fun K' hk=>by simp only [*]⟩
theorem nn_pt:Pt fun K=>nnV K x:=by
 intro K h
 simp only [nnV] at h ⊢
 split at h <;> first | exact h.elim | exact ⟨_,h,fun K' hk'=>hk'⟩
theorem un_pt {op:UnOp}:Pt fun K=>unV real op x K:=by
 intro K h
 simp only [unV] at h ⊢
 split at h <;> first | exact h.elim | exact ⟨_,h,fun K' hk'=>hk'⟩
theorem conv_pt {k0 k:TK}:Pt fun K=>convV real K k0 k x:=by
 intro K h
 simp only [convV,convI,convT,convB,optT] at h ⊢
 repeat' split at h
 all_goals first | exact h.elim | exact ⟨_,h,fun K' hk=>by simp only [*]⟩
theorem extract_pt:Pt fun K=>extractV K i x:=by
 intro K h
 simp only [extractV] at h ⊢
 repeat' split at h
 all_goals first | exact h.elim | exact ⟨_,h,fun K' hk=>by simp only [*]⟩
theorem len_pt {k:TK}:Pt fun K=>lenV real os K k x:=by
 intro K h
 simp only [lenV,lenS,lenT] at h ⊢
 repeat' split at h
 all_goals first | exact h.elim | exact ⟨_,h,fun K' hk=>by simp only [*]⟩
theorem build_pt {g:Operand → V} {ps:List (Nat × Operand)}:Pt fun K=>buildV g K t ps:=by
 intro K h
 simp only [buildV] at h ⊢
 repeat' split at h
 all_goals first | exact h.elim | exact ⟨_,h,fun K' hk=>by simp only [*]⟩
theorem buildSlice_pt {g:Operand → V} {n:Nat} {ps:List (Nat × Operand)}:Pt fun K=>buildSliceV g os K t n ps:=by
 intro K h
 simp only [buildSliceV] at h ⊢
 repeat' split at h
 all_goals first | exact h.elim | exact ⟨_,h,fun K' hk=>by simp only [*]⟩
theorem slice_pt {lo hi:Option V}:Pt fun K=>sliceV real os K t x lo hi:=by
 intro K h
 simp only [sliceV] at h ⊢
 repeat' split at h
 all_goals first | exact h.elim | exact ⟨_,h,fun K' hk=>by simp only [*]⟩
theorem call_pt {f:Nat} {vs:List V}:Pt fun K=>callV real os K f vs:=by
 intro K h
 simp only [callV] at h ⊢
 split at h
 ·obtain ⟨q,h1,h2⟩:=h
  exact ⟨_,h2,fun K' hk=>⟨q,h1,hk⟩⟩
 ·obtain ⟨q,h1,h2⟩:=h
  exact ⟨_,h2,fun K' hk=>⟨q,h1,hk⟩⟩
theorem callT_pt {vs:List V}:Pt fun K=>callTV real os K x vs:=by
 intro K h
 simp only [callTV] at h ⊢
 split at h <;> try exact h.elim
 exact call_pt K h
theorem stepC_pt {g:Operand → V} {op:Op}:Pt fun K=>stepC real g os K op:=by
 intro K h
 simp only [stepC] at h ⊢
 split at h <;> try exact h.elim
 ·exact ⟨_,h,fun K' hk=>hk⟩
 ·exact ⟨_,h,fun K' hk=>hk⟩
 ·exact pick_pt K h
 ·exact load_pt K h
 ·exact field_pt K h
 ·exact part_pt K h
 ·exact index_pt K h
 ·exact sget_pt K h
 ·exact bin_pt K h
 ·exact un_pt K h
 ·exact conv_pt K h
 ·exact build_pt K h
 ·exact buildSlice_pt K h
 ·exact extract_pt K h
 ·exact slice_pt K h
 ·exact len_pt K h
 ·exact call_pt K h
 ·exact look_pt K h
 ·exact min_pt K h
 ·exact min_pt K h
 ·exact nn_pt K h
 ·split at h <;> try exact h.elim
  exact ⟨_,h,fun K' hk=>by simp only [*]⟩
 ·exact callT_pt K h
end
theorem getVs_congr {g g':Operand → V}:∀ {l:List Operand},(∀ x ∈ l,g x = g' x) → getVs g l = getVs g' l
 | [],_=>rfl
 | x :: l,h=>by rw [getVs,getVs,h x (List.mem_cons_self ..),getVs_congr fun y hy=>h y (List.mem_cons_of_mem _ hy)]
theorem fillV_congr {g g':Operand → V} {place:List (Nat × Nat)}:∀ {ps:List (Nat × Operand)} {l:List V},(∀ p ∈ ps,g p.2 = g' p.2) → fillV g place ps l = fillV g' place ps l
 | [],_,_=>rfl
 | (i,x) :: ps,l,h=>by
  rw [fillV,fillV,h (i,x) (List.mem_cons_self ..)]
  have ih:=fun l=>fillV_congr (place:=place) (l:=l) fun p hp=>h p (List.mem_cons_of_mem _ hp)
  simp only [ih]
theorem stepC_congr {a:Ar} {g g':Operand → V} {os:List O} {K:V → Prop} {op:Op} (h:∀ x ∈ op.operands,g x = g' x):stepC a g os K op = stepC a g' os K op:=by
 have hm:∀ l:List Operand,(∀ x ∈ l,x ∈ op.operands) → ∀ x ∈ l,g x = g' x:=fun l hl x hx=>h x (hl x hx)
 unfold stepC
 split
 ·rw [h _ (by simp [Op.operands])]
 ·rw [h _ (by simp [Op.operands])]
 ·rw [h _ (by simp [Op.operands]),h _ (by simp [Op.operands]),h _ (by simp [Op.operands])]
 ·rw [h _ (by simp [Op.operands])]
 ·rw [h _ (by simp [Op.operands])]
 ·rw [h _ (by simp [Op.operands])]
 ·rw [h _ (by simp [Op.operands]),h _ (by simp [Op.operands])]
 ·rw [h _ (by simp [Op.operands]),h _ (by simp [Op.operands])]
 ·rw [h _ (by simp [Op.operands]),h _ (by simp [Op.operands])]
 ·rw [h _ (by simp [Op.operands])]
 ·rw [h _ (by simp [Op.operands])]
 ·rename_i t ps
  simp only [buildV]
  have e:∀ pl l,fillV g pl ps.toList l = fillV g' pl ps.toList l:=fun pl l=>fillV_congr fun p hp=>h p.2 (by simp only [Op.operands];simp;exact ⟨p.1,by simpa using hp⟩)
  simp only [e]
 ·rename_i t n ps
  simp only [buildSliceV]
  have e:∀ pl l,fillV g pl ps.toList l = fillV g' pl ps.toList l:=fun pl l=>fillV_congr fun p hp=>h p.2 (by simp only [Op.operands];simp;exact ⟨p.1,by simpa using hp⟩)
  simp only [e]
 ·rw [h _ (by simp [Op.operands])]
 ·rename_i t x lo hi
  rw [h x (by simp [Op.operands])]
  have e1:getOpt g lo = getOpt g' lo:=by cases lo with
   | none=>rfl
   | some y=>rw [getOpt,getOpt,h y (by simp [Op.operands])]
  have e2:getOpt g hi = getOpt g' hi:=by cases hi with
   | none=>rfl
   | some y=>rw [getOpt,getOpt,h y (by simp [Op.operands])]
  rw [e1,e2]
 ·rw [h _ (by simp [Op.operands,Call.operands])]
 ·rename_i f args ts
  rw [getVs_congr fun x hx=>h x (by simp [Op.operands,Call.operands];right;simpa using hx)]
 ·rw [h _ (by simp [Op.operands]),h _ (by simp [Op.operands])]
 ·rename_i args ts
  rw [getVs_congr fun x hx=>h x (by simp [Op.operands,Call.operands];simpa using hx)]
 ·rename_i args ts
  rw [getVs_congr fun x hx=>h x (by simp [Op.operands,Call.operands];simpa using hx)]
 ·rw [h _ (by simp [Op.operands])]
 ·rename_i f cs
  rw [getVs_congr fun x hx=>h x (by simp [Op.operands];simpa using hx)]
 ·rename_i i args ts
  rw [getVs_congr fun x hx=>h x (by simp [Op.operands,Call.operands];right;simpa using hx),h (.tmp i) (by simp [Op.operands,Call.operands])]
 ·rfl
theorem tmps_mem:∀ {l:List Operand} {t:Nat},Operand.tmp t ∈ l → t ∈ tmps l
 | [],t,h=>by simp at h
 | x :: l,t,h=>by
  rcases List.mem_cons.1 h with rfl | h
  ·simp [tmps]
  ·have h2:=tmps_mem h
   cases x <;> simp [tmps,h2]
def exec1 (a:Ar) (dsts:List (Option Nat)) (o:Oper) (s:S) (K:S → Prop):Prop:=run a false dsts [o] s K
theorem getN_set {l:List V} {i j:Nat} {v:V} (h:i ≠ j):getN (setN l i v) j = getN l j:=by
 rw [setN_is]
 rcases getN_get l j with h1 | ⟨h1,h2⟩
 ·rcases getN_get (l.set i v) j with h3 | ⟨h3,h4⟩
  ·rw [List.getElem?_set_ne h,h1] at h3
   injection h3 with h3
   exact h3.symm
  ·rw [List.length_set] at h3
   have:=(List.getElem?_eq_some_iff.1 h1).1
   omega
 ·rcases getN_get (l.set i v) j with h3 | ⟨h3,h4⟩
  ·rw [List.getElem?_set_ne h] at h3
   have:=(List.getElem?_eq_some_iff.1 h3).1
   omega
  ·rw [h4,h2]
theorem put_comm {s:S} {d e:Option Nat} {u v:V} (h:∀ x,d = some x → e ≠ some x):(s.put d u).put e v = (s.put e v).put d u:=by
 cases d with
 | none=>rfl
 | some x =>
  cases e with
  | none=>rfl
  | some y =>
   have hne:x ≠ y:=fun e=>h x rfl (by rw [e])
   simp only [S.put,setN_is]
   congr 1
   exact List.set_comm _ _ hne
def Same (l:List Nat) (s s':S):Prop:=s'.o = s.o ∧ ∀ t ∈ l,getN s'.t t = getN s.t t
theorem same_put {l:List Nat} {s:S} {d:Option Nat} {v:V} (h:∀ x,d = some x → x ∉ l):Same l s (s.put d v):=by
 cases d with
 | none=>exact ⟨rfl,fun _ _=>rfl⟩
 | some x=>exact ⟨rfl,fun t ht=>getN_set fun e=>h x rfl (e ▸ ht)⟩
theorem Same.symm {l:List Nat} {s s':S} (h:Same l s s'):Same l s' s:=⟨h.1.symm,fun t ht=>(h.2 t ht).symm⟩
theorem Same.ops {l:List Nat} {s s':S} (h:Same l s s') {xs:List Operand} (hx:∀ t ∈ tmps xs,t ∈ l):∀ x ∈ xs,s'.get x = s.get x:=fun x hxm=>by
 cases x with
 | tmp t=>exact h.2 t (hx t (tmps_mem hxm))
 | const v=>rfl
 | global g=>rfl
 | func f=>rfl
theorem guard_same {dsts:List (Option Nat)} {s s':S} {j:Nat} {K:Option Bool → Prop} (h:∀ d,getD dsts j = some d → getN s'.t d = getN s.t d):guard s' dsts j K = guard s dsts j K:=by
 unfold guard
 cases hd:getD dsts j with
 | none=>rfl
 | some d=>simp only [h d hd]
theorem guard_pt {dsts:List (Option Nat)} {s:S} {j:Nat} {K:Option Bool → Prop} (h:guard s dsts j K):∃ c,K c ∧ ∀ K',K' c → guard s dsts j K':=by
 unfold guard at h ⊢
 repeat' split at h
 all_goals first | exact h.elim | exact ⟨_,h,fun K' hk=>by simp only [*]⟩
theorem exec1_pt {dsts:List (Option Nat)} {o:Oper} (hc:calmB o.op = true) {s:S} {K:S → Prop} (h:exec1 real dsts o s K):∃ v,K (s.put o.dst v) ∧ ∀ s' K',Same (looks dsts o) s s' → K' (s'.put o.dst v) → exec1 real dsts o s' K':=by
 obtain ⟨dst,op,type,pos,after,gd⟩:=o
 have hst:∀ {s s':S} {K:S → Prop} {l:List Nat},(∀ t ∈ tmps op.operands.toList,t ∈ l) → Same l s s' → step real false s dst K op → ∃ v,K (s.put dst v) ∧ ∀ K',K' (s'.put dst v) → step real false s' dst K' op:=fun {s s' K l} hl hs h=>by
  rw [step_calm hc] at h
  obtain ⟨v,h1,h2⟩:=stepC_pt _ h
  refine ⟨v,h1,fun K' hk=>?_⟩
  rw [step_calm hc,hs.1]
  have e:=stepC_congr (a:=real) (os:=s.o) (K:=fun v=>K' (s'.put dst v)) (op:=op) (g:=s.get) (g':=s'.get) fun x hx=>((hs.ops (xs:=op.operands.toList) hl) x (by simpa using hx)).symm
  rw [← e]
  exact h2 _ hk
 cases gd with
 | none =>
  have hl:∀ t ∈ tmps op.operands.toList,t ∈ looks dsts ⟨dst,op,type,pos,after,none⟩:=fun t ht=>by simp [looks,ht]
  have h':step real false s dst K op:=h
  rw [step_calm hc] at h'
  obtain ⟨v,h1,h2⟩:=stepC_pt _ h'
  refine ⟨v,h1,fun s' K' hs hk=>?_⟩
  show step real false s' dst K' op
  rw [step_calm hc,hs.1]
  have e:=stepC_congr (a:=real) (os:=s.o) (K:=fun v=>K' (s'.put dst v)) (op:=op) (g:=s.get) (g':=s'.get) fun x hx=>((hs.ops (xs:=op.operands.toList) hl) x (by simpa using hx)).symm
  rw [← e]
  exact h2 _ hk
 | some jb =>
  obtain ⟨j,b⟩:=jb
  have hl:∀ t ∈ tmps op.operands.toList,t ∈ looks dsts ⟨dst,op,type,pos,after,some (j,b)⟩:=fun t ht=>by simp [looks,ht]
  have hg:∀ s',Same (looks dsts ⟨dst,op,type,pos,after,some (j,b)⟩) s s' → ∀ d,getD dsts j = some d → getN s'.t d = getN s.t d:=fun s' hs d hd=>hs.2 d (by simp [looks,hd])
  have h':guard s dsts j (fun
   | some c=>match bEq c b with
    | true=>step real false s dst K op
    | false=>K (s.put dst vun)
   | none=>K (s.put dst vun)):=h
  have back:∀ (c:Option Bool) {s':S} {K':S → Prop},(∀ K',K' c → guard s dsts j K') → Same (looks dsts ⟨dst,op,type,pos,after,some (j,b)⟩) s s' → (match c with
   | some c=>match bEq c b with
    | true=>step real false s' dst K' op
    | false=>K' (s'.put dst vun)
   | none=>K' (s'.put dst vun)) → exec1 real dsts ⟨dst,op,type,pos,after,some (j,b)⟩ s' K':=fun c {s' K'} h2 hs hx=>by
   show guard s' dsts j (fun
    | some c=>match bEq c b with
     | true=>step real false s' dst K' op
     | false=>K' (s'.put dst vun)
    | none=>K' (s'.put dst vun))
   rw [guard_same (hg s' hs)]
   exact h2 _ hx
  obtain ⟨c,h1,h2⟩:=guard_pt h'
  cases c with
  | none=>exact ⟨vun,h1,fun s' K' hs hk=>back none h2 hs hk⟩
  | some c =>
   cases hb:bEq c b with
   | false =>
    simp only [hb] at h1
    exact ⟨vun,h1,fun s' K' hs hk=>back (some c) h2 hs (by simp only [hb];exact hk)⟩
   | true =>
    simp only [hb] at h1
    rw [step_calm hc] at h1
    obtain ⟨v,h3,h4⟩:=stepC_pt _ h1
    refine ⟨v,h3,fun s' K' hs hk=>back (some c) h2 hs ?_⟩
    simp only [hb]
    rw [step_calm hc,hs.1]
    have e:=stepC_congr (a:=real) (os:=s.o) (K:=fun v=>K' (s'.put dst v)) (op:=op) (g:=s.get) (g':=s'.get) fun x hx=>((hs.ops (xs:=op.operands.toList) hl) x (by simpa using hx)).symm
    rw [← e]
    exact h4 _ hk
theorem stepC_blind {a:Ar} {g:Operand → V} {os os':List O} {K:V → Prop} {op:Op} (h:blindB op = true):stepC a g os K op = stepC a g os' K op:=by
 unfold stepC
 split <;> first | rfl | cases h
theorem blind_calm {op:Op} (h:blindB op = true):calmB op = true:=by
 cases op <;> first | rfl | cases h
def SameT (l:List Nat) (s s':S):Prop:=∀ t ∈ l,getN s'.t t = getN s.t t
theorem put_obj (t:List V) (o o':List O) (d:Option Nat) (v:V):(⟨(S.put ⟨t,o⟩ d v).t,o'⟩:S) = S.put ⟨t,o'⟩ d v:=by cases d <;> rfl
theorem blind_obj {dsts:List (Option Nat)} {x:Oper} (hb:blindB x.op = true) {t:List V} {o o':List O} {K:S → Prop} (h:exec1 real dsts x ⟨t,o⟩ (fun r=>K ⟨r.t,o'⟩)):exec1 real dsts x ⟨t,o'⟩ K:=by
 obtain ⟨dst,op,type,pos,after,gd⟩:=x
 have hst:step real false ⟨t,o⟩ dst (fun r=>K ⟨r.t,o'⟩) op → step real false ⟨t,o'⟩ dst K op:=fun h=>by
  rw [step_calm (blind_calm hb)] at h ⊢
  simp only [put_obj] at h
  rw [stepC_blind (os':=o') hb] at h
  exact h
 cases gd with
 | none=>exact hst h
 | some jb =>
  obtain ⟨j,b⟩:=jb
  have h':guard ⟨t,o⟩ dsts j (fun
   | some c=>match bEq c b with
    | true=>step real false ⟨t,o⟩ dst (fun r=>K ⟨r.t,o'⟩) op
    | false=>K ⟨(S.put ⟨t,o⟩ dst vun).t,o'⟩
   | none=>K ⟨(S.put ⟨t,o⟩ dst vun).t,o'⟩):=h
  show guard ⟨t,o'⟩ dsts j (fun
   | some c=>match bEq c b with
    | true=>step real false ⟨t,o'⟩ dst K op
    | false=>K (S.put ⟨t,o'⟩ dst vun)
   | none=>K (S.put ⟨t,o'⟩ dst vun))
  obtain ⟨c,h1,h2⟩:=guard_pt h'
  refine (guard_same (s:=⟨t,o⟩) (s':=⟨t,o'⟩) fun d _=>rfl).mpr (h2 _ ?_)
  cases c with
  | none=>rw [put_obj] at h1;exact h1
  | some c =>
   cases hb:bEq c b with
   | true=>simp only [hb] at h1 ⊢;exact hst h1
   | false=>simp only [hb,put_obj] at h1 ⊢;exact h1
theorem blind_pt {dsts:List (Option Nat)} {x:Oper} (hb:blindB x.op = true) {s:S} {K:S → Prop} (h:exec1 real dsts x s K):∃ v,K (s.put x.dst v) ∧ ∀ s' K',SameT (looks dsts x) s s' → K' (s'.put x.dst v) → exec1 real dsts x s' K':=by
 obtain ⟨v,h1,h2⟩:=exec1_pt (blind_calm hb) h
 refine ⟨v,h1,fun s' K' hs hk=>?_⟩
 exact blind_obj hb (t:=s'.t) (o:=s.o) (o':=s'.o) (h2 ⟨s'.t,s.o⟩ _ ⟨rfl,hs⟩ (by rw [put_obj];exact hk))
theorem storeV_pt {s:S} {K:S → Prop} {t:Nat} {y x:V} (h:storeV real s K t y x):∃ o',K ⟨s.t,o'⟩ ∧ ∀ (t':List V) (K':S → Prop),K' ⟨t',o'⟩ → storeV real ⟨t',s.o⟩ K' t y x:=by
 simp only [storeV] at h ⊢
 repeat' split at h
 all_goals first | exact h.elim | exact ⟨_,h,fun t' K' hk=>by simp only [*]⟩
def storeB:Op → Bool
 | .store _ _ _=>true
 | _=>false
theorem store_pt {dsts:List (Option Nat)} {y:Oper} (hb:(storeB y.op && y.guard.isNone && y.dst.isNone) = true) {s:S} {K:S → Prop} (h:exec1 real dsts y s K):∃ o',K ⟨s.t,o'⟩ ∧ ∀ s' K',s'.o = s.o → SameT (looks dsts y) s s' → K' ⟨s'.t,o'⟩ → exec1 real dsts y s' K':=by
 obtain ⟨dst,op,type,pos,after,gd⟩:=y
 cases gd <;> cases dst <;> cases op <;> first | (simp [storeB] at hb;done) | skip
 rename_i t x z
 have h':storeV real s K t (s.get z) (s.get x):=h
 obtain ⟨o',h1,h2⟩:=storeV_pt h'
 refine ⟨o',h1,fun s' K' ho hs hk=>?_⟩
 show storeV real s' K' t (s'.get z) (s'.get x)
 have hS:Same (looks dsts ⟨none,.store t x z,type,pos,after,none⟩) s ⟨s'.t,s.o⟩:=⟨rfl,hs⟩
 have hg:∀ y ∈ (Op.store t x z).operands.toList,(⟨s'.t,s.o⟩:S).get y = s.get y:=hS.ops fun u hu=>by simp [looks,hu]
 have e1:s'.get z = s.get z:=by
  have:=hg z (by simp [Op.operands])
  cases z <;> first | rfl | exact this
 have e2:s'.get x = s.get x:=by
  have:=hg x (by simp [Op.operands])
  cases x <;> first | rfl | exact this
 rw [e1,e2]
 have:=h2 s'.t K' hk
 rw [← ho] at this
 exact this
def apart0 (dsts:List (Option Nat)) (x y:Oper):Bool:=calmB x.op && calmB y.op && notIn x.dst (looks dsts y) && notIn y.dst (looks dsts x) && (x.dst.isNone || x.dst != y.dst)
theorem notIn_is {d:Option Nat} {l:List Nat} (h:notIn d l = true):∀ x,d = some x → x ∉ l:=fun x e=>by
 subst e
 simpa [notIn] using h
theorem swap0 {dsts:List (Option Nat)} {x y:Oper} (h:apart0 dsts x y = true) {s:S} {K:S → Prop} (hx:exec1 real dsts x s fun s=>exec1 real dsts y s K):exec1 real dsts y s fun s=>exec1 real dsts x s K:=by
 simp only [apart0,Bool.and_eq_true,Bool.or_eq_true,bne_iff_ne,ne_eq] at h
 obtain ⟨⟨⟨⟨c1,c2⟩,n1⟩,n2⟩,n3⟩:=h
 obtain ⟨v1,h1,h2⟩:=exec1_pt c1 hx
 obtain ⟨v2,h3,h4⟩:=exec1_pt c2 h1
 refine h4 s _ (same_put (notIn_is n1)).symm (h2 _ _ (same_put (notIn_is n2)) ?_)
 rw [put_comm fun z hz e=>?_]
 ·exact h3
 ·rcases n3 with n3 | n3
  ·rw [Option.isNone_iff_eq_none] at n3
   rw [n3] at e;cases e
  ·exact n3 (by rw [e,hz])
def stor (o:Oper):Bool:=storeB o.op && o.guard.isNone && o.dst.isNone
def besides (dsts:List (Option Nat)) (x y:Oper):Bool:=blindB x.op && stor y && notIn x.dst (looks dsts y)
def isApp:Op → Bool
 | .call ⟨.builtin .append,⟨[_,_]⟩,⟨[_,_]⟩⟩=>true
 | _=>false
def isAddr:Op → Bool
 | .move _=>true
 | .nilCheck _=>true
 | .fieldAddr _ _ _=>true
 | _=>false
def isAlloc:Op → Bool
 | .alloc _=>true
 | _=>false
def peekB:Op → Bool
 | .move _=>true
 | .assign _=>true
 | .pick _ _ _=>true
 | .load _ _=>true
 | .fieldAddr _ _ _=>true
 | .field _ _ _=>true
 | .indexAddr _ _ _=>true
 | .index _ _ _=>true
 | .binOp _ _ _ _ _=>true
 | .unOp _ _ _=>true
 | .convert _ _ _=>true
 | .build _ _=>true
 | .extract _ _=>true
 | .nilCheck _=>true
 | _=>false
def isNew:Op → Bool
 | .buildSlice _ 0 ⟨[]⟩=>true
 | _=>false
def isLate:Op → Bool
 | .load t _=>(ty t).agg
 | .build _ _=>true
 | .buildSlice _ (_ + 1) _=>true
 | _=>false
def behindA (dsts:List (Option Nat)) (x y:Oper):Bool:=(isApp x.op || isNew x.op) && x.guard.isNone && x.dst.isSome && (isAddr y.op || isLate y.op) && y.guard.isNone && notIn x.dst (looks dsts y) && notIn y.dst (looks dsts x) && (y.dst.isNone || x.dst != y.dst)
def aheadL (dsts:List (Option Nat)) (x y:Oper):Bool:=peekB x.op && x.guard.isNone && isAlloc y.op && y.guard.isNone && notIn y.dst (looks dsts x) && (x.dst.isNone || x.dst != y.dst)
def isMove:Op → Bool
 | .move _=>true
 | _=>false
def aheadA (dsts:List (Option Nat)) (x y:Oper):Bool:=isMove x.op && x.guard.isNone && isApp y.op && y.guard.isNone && y.dst.isSome && notIn x.dst (looks dsts y) && notIn y.dst (looks dsts x) && (x.dst.isNone || x.dst != y.dst)
def apart (dsts:List (Option Nat)) (x y:Oper):Bool:=apart0 dsts x y || besides dsts x y || besides dsts y x || behindA dsts x y || aheadL dsts x y || aheadA dsts x y
def klT:Option Nat → List V → List V
 | none,t=>t
 | some k,t=>killT k t
def klV:Option Nat → V → V
 | none,v=>v
 | some k,v=>kill2 k v
theorem killO_lenO (k:Nat):∀ l:List O,lenO (killO k l) = lenO l:=fun l=>by rw [lenO_is,lenO_is,killO_len]
theorem getO_snoc_ne {o:O}:∀ {l:List O} {k:Nat},k ≠ lenO l → getO (snocO l o) k = getO l k
 | [],0,h=>absurd rfl h
 | [],k + 1,_=>rfl
 | _ :: _,0,_=>rfl
 | _ :: l,k + 1,h=>getO_snoc_ne (l:=l) fun e=>h (by rw [lenO,e])
theorem getO_snoc_len {o:O}:∀ {l:List O},getO (snocO l o) (lenO l) = o
 | []=>rfl
 | _ :: l=>getO_snoc_len (l:=l)
def Behind (k:Nat) (os o':List O):Prop:=(∀ j,j ≠ k → getO o' j = getO (killO k os) j) ∧ ∀ cs,getO o' k ≠ .box cs
theorem behind_snoc {os:List O} {z:Bool} {e:Nat} {r:List (List D)}:Behind (lenO os) os (snocO (killO (lenO os) os) (.row z e r)) :=
 ⟨fun j hj=>getO_snoc_ne (by rw [killO_lenO];exact hj),fun cs h=>by
  have h1:getO (snocO (killO (lenO os) os) (.row z e r)) (lenO (killO (lenO os) os)) = _:=getO_snoc_len
  rw [killO_lenO,h] at h1
  cases h1⟩
theorem getO_setO_ne {o:O}:∀ {l:List O} {m j:Nat},j ≠ m → getO (setO l m o) j = getO l j
 | [],m,j,_=>rfl
 | _ :: _,0,0,h=>absurd rfl h
 | _ :: _,0,_ + 1,_=>rfl
 | _ :: _,_ + 1,0,_=>rfl
 | _ :: l,m + 1,j + 1,h=>getO_setO_ne (l:=l) fun e=>h (by rw [e])
theorem getO_setO_eq {o:O}:∀ {l:List O} {m:Nat},getO (setO l m o) m = o ∨ getO (setO l m o) m = .dead
 | [],m=>.inr (by cases m <;> rfl)
 | _ :: _,0=>.inl rfl
 | _ :: l,m + 1=>getO_setO_eq (l:=l)
theorem behind_set {k:Nat} {os:List O} {z:Bool} {e:Nat} {r:List (List D)}:Behind k os (setO (killO k os) k (.row z e r)) :=
 ⟨fun j hj=>getO_setO_ne hj,fun cs h=>by
  rcases getO_setO_eq (l:=killO k os) (m:=k) (o:=.row z e r) with h1 | h1 <;> rw [h1] at h <;> cases h⟩
theorem append_ptk {s:S} {d:Nat} {K:S → Prop} {t:Nat} {x y:V} (h:appendV real false s (some d) K t x y):∃ (k:Nat) (o':List O),Behind k s.o o' ∧ K (S.put ⟨killT k s.t,o'⟩ (some d) (.own k)) ∧ ∀ (t':List V) (K':S → Prop),K' (S.put ⟨killT k t',o'⟩ (some d) (.own k)) → appendV real false ⟨t',s.o⟩ (some d) K' t x y:=by
 unfold appendV at h
 repeat' split at h
 all_goals first | exact h.elim | skip
 ·rename_i e he _ sz ys hys _ hsz _
  obtain ⟨h1,z,h2⟩:=h
  refine ⟨lenO s.o,snocO (killO (lenO s.o) s.o) (.row z e ys),behind_snoc,h2,fun t' K' hk=>?_⟩
  unfold appendV
  simp only [he,hys,hsz]
  exact ⟨h1,z,hk⟩
 ·rename_i e he _ sz ys hys _ hsz _ k _ z e' xs hok _ hee
  obtain ⟨h1,h2⟩:=h
  refine ⟨k,_,behind_set,h2,fun t' K' hk=>?_⟩
  unfold appendV
  simp only [he,hys,hsz,hok,hee]
  exact ⟨h1,hk⟩
theorem append_pt {s:S} {d:Nat} {K:S → Prop} {t:Nat} {x y:V} (h:appendV real false s (some d) K t x y):∃ (kk:Option Nat) (o':List O) (k':Nat),K (S.put ⟨klT kk s.t,o'⟩ (some d) (.own k')) ∧ ∀ (t':List V) (K':S → Prop),K' (S.put ⟨klT kk t',o'⟩ (some d) (.own k')) → appendV real false ⟨t',s.o⟩ (some d) K' t x y:=by
 obtain ⟨k,o',_,h1,h2⟩:=append_ptk h
 exact ⟨some k,o',k,h1,h2⟩
theorem row_pt {s:S} {d:Nat} {K:S → Prop} {op:Op} (hb:(isApp op || isNew op) = true) (h:step real false s (some d) K op):∃ (k:Nat) (o':List O),Behind k s.o o' ∧ K (S.put ⟨killT k s.t,o'⟩ (some d) (.own k)) ∧ ∀ (t':List V) (K':S → Prop),(∀ z ∈ op.operands,S.get ⟨t',s.o⟩ z = s.get z) → K' (S.put ⟨killT k t',o'⟩ (some d) (.own k)) → step real false ⟨t',s.o⟩ (some d) K' op:=by
 cases ha:isApp op with
 | true =>
  unfold isApp at ha
  split at ha
  ·rename_i p q t t'
   have h':appendV real false s (some d) K t (s.get p) (s.get q):=h
   obtain ⟨k,o',h1,h2,h3⟩:=append_ptk h'
   refine ⟨k,o',h1,h2,fun t2 K' hz hk=>?_⟩
   show appendV real false ⟨t2,s.o⟩ (some d) K' t (S.get ⟨t2,s.o⟩ p) (S.get ⟨t2,s.o⟩ q)
   rw [hz p (by simp [Op.operands,Call.operands]),hz q (by simp [Op.operands,Call.operands])]
   exact h3 _ _ hk
  ·cases ha
 | false =>
  rw [ha,Bool.false_or] at hb
  unfold isNew at hb
  split at hb
  ·rename_i t
   have h':(match (ty t).elem with | some e=>real.new e fun z=>K ((s.fresh false (.row z e [])).put (some d) (.own (lenO s.o))) | none=>False):=h
   cases he:(ty t).elem with
   | none=>rw [he] at h';exact h'.elim
   | some e =>
    rw [he] at h'
    obtain ⟨z,h'⟩:=h'
    refine ⟨lenO s.o,_,behind_snoc,h',fun t2 K' _ hk=>?_⟩
    show (match (ty t).elem with | some e=>real.new e fun z=>K' ((S.fresh false ⟨t2,s.o⟩ (.row z e [])).put (some d) (.own (lenO s.o))) | none=>False)
    rw [he]
    exact ⟨z,hk⟩
  ·cases hb
theorem dropN_kill {k:Nat}:∀ (n:Nat) (l:List V),dropN n (killL k l) = killL k (dropN n l)
 | 0,l=>rfl
 | n + 1,[]=>rfl
 | n + 1,x :: l=>dropN_kill n l
theorem takeN_kill {k:Nat}:∀ {n:Nat} {l l':List V},takeN n (killL k l) = some l' → ∃ m,takeN n l = some m ∧ l' = killL k m
 | 0,l,l',h=>by
  have h:some [] = some l':=by cases l <;> exact h
  injection h with h
  exact ⟨[],by cases l <;> rfl,h.symm⟩
 | n + 1,[],l',h=>by cases h
 | n + 1,x :: l,l',h=>by
  rw [killL,takeN] at h
  cases e:takeN n (killL k l) with
  | none=>rw [e] at h;cases h
  | some m' =>
   rw [e] at h
   injection h with h
   obtain ⟨m,h1,h2⟩:=takeN_kill e
   exact ⟨x :: m,by rw [takeN,h1],by rw [← h,h2];rfl⟩
theorem killL_ofD {k:Nat}:∀ l:List D,killL k (ofD l) = ofD l
 | []=>rfl
 | x :: l=>by rw [ofD,killL,killL_ofD l];rfl
theorem killL_constL {k:Nat}:∀ l:List Value,killL k (constL l) = constL l
 | []=>rfl
 | v :: l=>by
  rw [constL,killL,killL_constL l]
  congr 1
  unfold constV
  split <;> rfl
theorem killL_app {k:Nat}:∀ l m:List V,killL k (l ++ m) = killL k l ++ killL k m
 | [],m=>rfl
 | x :: l,m=>by rw [List.cons_append,killL,killL_app l m];rfl
theorem killL_zeros {k:Nat} (z:List Value):∀ (n:Nat) (acc:List V),killL k (zeros (constL z) n acc) = zeros (constL z) n (killL k acc)
 | 0,acc=>rfl
 | n + 1,acc=>by rw [zeros,killL_zeros z n,killL_app,killL_constL];rfl
theorem getO_kill_box {k:Nat}:∀ {l:List O} {j:Nat} {cs:List V},getO (killO k l) j = .box cs → ∃ ds,getO l j = .box ds ∧ cs = killL k ds
 | [],j,cs,h=>by cases j <;> cases h
 | x :: l,0,cs,h=>by
  cases x <;> rw [killO] at h <;> first | (cases h;done) | skip
  ·rename_i ds
   injection h with h
   exact ⟨ds,rfl,h.symm⟩
 | x :: l,j + 1,cs,h=>by
  have h:getO (killO k l) j = .box cs:=by cases x <;> exact h
  exact getO_kill_box (l:=l) h
theorem getO_kill_row {k:Nat}:∀ {l:List O} {j:Nat} {z:Bool} {e:Nat} {r:List (List D)},getO (killO k l) j = .row z e r → getO l j = .row z e r
 | [],j,z,e,r,h=>by cases j <;> cases h
 | x :: l,0,z,e,r,h=>by
  cases x <;> first | (cases h;done) | exact h
 | x :: l,j + 1,z,e,r,h=>by
  have h:getO (killO k l) j = .row z e r:=by cases x <;> exact h
  exact getO_kill_row (l:=l) h
theorem one1_kill {k:Nat} {x:V} (h:one1 (kill1 k x) = true):one1 x = true:=by
 cases x <;> first | rfl | exact h
theorem ones_kill {k:Nat}:∀ {l:List V},ones (killL k l) = true → ones l = true
 | [],_=>rfl
 | x :: l,h=>by
  rw [killL,ones] at h
  rw [ones]
  cases e:one1 (kill1 k x) with
  | false=>rw [e] at h;cases h
  | true=>rw [e] at h;rw [one1_kill e];exact ones_kill h
theorem cells_kill {k:Nat} {v:V} {cs:List V} (h:cellsV (kill2 k v) = some cs):∃ ds,cellsV v = some ds ∧ cs = killL k ds:=by
 cases v with
 | ag l =>
  have h:(match ones (killL k l) with | true=>some (killL k l) | false=>none) = some cs:=h
  cases e:ones (killL k l) with
  | false=>rw [e] at h;cases h
  | true =>
   rw [e] at h
   injection h with h
   exact ⟨l,by rw [cellsV,ones_kill e],h.symm⟩
 | tu l=>cases l <;> cases h
 | own j =>
  have h:cellsV (match eqN j k with | true=>.jk | false=>.own j) = some cs:=h
  refine ⟨[.own j],rfl,?_⟩
  show cs = [match eqN j k with | true=>.jk | false=>.own j]
  cases e:eqN j k with
  | true=>rw [e] at h;cases h
  | false=>rw [e] at h;injection h with h;exact h.symm
 | el j i z o =>
  have h:cellsV (match eqN j k with | true=>.jk | false=>.el j i z o) = some cs:=h
  refine ⟨[.el j i z o],rfl,?_⟩
  show cs = [match eqN j k with | true=>.jk | false=>.el j i z o]
  cases e:eqN j k with
  | true=>rw [e] at h;cases h
  | false=>rw [e] at h;injection h with h;exact h.symm
 | jk=>cases h
 | _=>exact ⟨_,rfl,by injection h with h;exact h.symm⟩
theorem lenL_kill {k:Nat}:∀ l:List V,lenL (killL k l) = lenL l
 | []=>rfl
 | x :: l=>by rw [killL,lenL,lenL_kill l,lenL]
theorem splice_kill {k:Nat}:∀ {l:List V} {n:Nat} {ys l':List V},splice (killL k l) n (killL k ys) = some l' → ∃ m,splice l n ys = some m ∧ l' = killL k m
 | l,0,[],l',h=>by
  have h:some (killL k l) = some l':=by cases l <;> exact h
  injection h with h
  exact ⟨l,by cases l <;> rfl,h.symm⟩
 | x :: l,0,y :: ys,l',h=>by
  rw [killL,killL,splice] at h
  cases e:splice (killL k l) 0 (killL k ys) with
  | none=>rw [e] at h;cases h
  | some m' =>
   rw [e] at h
   injection h with h
   obtain ⟨m,h1,h2⟩:=splice_kill e
   exact ⟨y :: m,by rw [splice,h1],by rw [← h,h2];rfl⟩
 | x :: l,n + 1,ys,l',h=>by
  have h:(match splice (killL k l) n (killL k ys) with | some t=>some (kill1 k x :: t) | none=>none) = some l':=by rw [← h,killL,splice];cases splice (killL k l) n (killL k ys) <;> rfl
  cases e:splice (killL k l) n (killL k ys) with
  | none=>rw [e] at h;cases h
  | some m' =>
   rw [e] at h
   injection h with h
   obtain ⟨m,h1,h2⟩:=splice_kill e
   refine ⟨x :: m,?_,by rw [← h,h2];rfl⟩
   have h3:splice (x :: l) (n + 1) ys = (match splice l n ys with | some t=>some (x :: t) | none=>none):=by rw [splice];cases splice l n ys <;> rfl
   rw [h3,h1]
 | [],n + 1,ys,l',h=>by cases ys <;> cases h
 | [],0,y :: ys,l',h=>by cases h
theorem fillV_kill {k:Nat} {g g':Operand → V} {place:List (Nat × Nat)}:∀ {ps:List (Nat × Operand)} {l l':List V},(∀ p ∈ ps,g' p.2 = kill2 k (g p.2)) → fillV g' place ps (killL k l) = some l' → ∃ m,fillV g place ps l = some m ∧ l' = killL k m
 | [],l,l',_,h=>⟨l,rfl,by injection h with h;exact h.symm⟩
 | (i,x) :: ps,l,l',hg,h=>by
  rw [fillV] at h ⊢
  split at h <;> try (cases h;done)
  rename_i off sz hp
  rw [hg _ (List.mem_cons_self ..)] at h
  split at h <;> try (cases h;done)
  rename_i cs hc
  obtain ⟨ds,h1,rfl⟩:=cells_kill hc
  rw [lenL_kill] at h
  simp only [hp,h1]
  split at h <;> try (cases h;done)
  rename_i hl
  split at h <;> try (cases h;done)
  rename_i l2 h2
  obtain ⟨m2,h3,rfl⟩:=splice_kill h2
  simp only [hl,h3]
  exact fillV_kill (fun p hp=>hg p (List.mem_cons_of_mem _ hp)) h
theorem toD_kill {k:Nat} {os o':List O} (hB:Behind k os o') {x:V} {y:D} (h:toD o' (kill1 k x) = some y):toD os x = some y:=by
 cases x with
 | own j =>
  have h:toD o' (match eqN j k with | true=>.jk | false=>.own j) = some y:=h
  cases e:eqN j k with
  | true=>rw [e] at h;cases h
  | false =>
   rw [e] at h
   have h:(match getO o' j with | .row true e rows=>some (D.sl (ty e).sz rows) | _=>none) = some y:=h
   rw [hB.1 j (eqN_no.1 e)] at h
   show (match getO os j with | .row true e rows=>some (D.sl (ty e).sz rows) | _=>none) = some y
   split at h
   ·rename_i e2 rows h2
    rw [getO_kill_row h2]
    exact h
   ·cases h
 | el j i z o =>
  have h:toD o' (match eqN j k with | true=>.jk | false=>.el j i z o) = some y:=h
  cases e:eqN j k <;> rw [e] at h <;> cases h
 | cl f ks=>cases ks <;> exact h
 | _=>exact h
theorem toDs_kill {k:Nat} {os o':List O} (hB:Behind k os o'):∀ {l:List V} {ds:List D},toDs o' (killL k l) = some ds → toDs os l = some ds
 | [],ds,h=>h
 | x :: l,ds,h=>by
  rw [killL,toDs] at h
  rw [toDs]
  split at h <;> try (cases h;done)
  rename_i y hy
  split at h <;> try (cases h;done)
  rename_i ys hys
  rw [toD_kill hB hy,toDs_kill hB hys]
  exact h
theorem killT_set {k:Nat} {v:V}:∀ {l:List V} {i:Nat},killT k (setN l i v) = setN (killT k l) i (kill2 k v)
 | [],i=>rfl
 | _ :: _,0=>rfl
 | x :: l,i + 1=>by rw [setN,killT,killT_set (l:=l),killT,setN]
theorem killT_get {k:Nat}:∀ {l:List V} {i:Nat},getN (killT k l) i = kill2 k (getN l i)
 | [],i=>rfl
 | _ :: _,0=>rfl
 | x :: l,i + 1=>by rw [killT,getN,getN,killT_get (l:=l)]
theorem klT_set {kk:Option Nat} {v:V} {l:List V} {i:Nat}:klT kk (setN l i v) = setN (klT kk l) i (klV kk v):=by cases kk <;> first | rfl | exact killT_set
theorem klT_put {kk:Option Nat} {s:S} {d:Option Nat} {v:V} {o:List O}:(⟨klT kk (s.put d v).t,o⟩:S) = S.put ⟨klT kk s.t,o⟩ d (klV kk v):=by
 cases d with
 | none=>rfl
 | some d=>simp only [S.put,klT_set]
theorem klV_get {kk:Option Nat} {s:S} {o:List O} (x:Operand):(⟨klT kk s.t,o⟩:S).get x = klV kk (s.get x):=by
 cases kk with
 | none=>cases x <;> rfl
 | some k =>
  cases x with
  | tmp i=>exact killT_get
  | const v=>cases v <;> first | rfl | (simp only [S.get,klV];unfold constV;split <;> rfl)
  | global g=>rfl
  | func f=>rfl
theorem addr_pt {kk:Option Nat} {g g':Operand → V} {os os':List O} {op:Op} (hb:isAddr op = true) (hg:∀ x ∈ op.operands,g' x = klV kk (g x)) {K:V → Prop} (h:stepC real g' os' K op):∃ v,K (klV kk v) ∧ ∀ K',K' v → stepC real g os K' op:=by
 have keep:∀ {v w:V},klV kk v = w → ((∃ k o,w = .ptr k o) ∨ (∃ f ks,w = .cl f ks) ∨ (∃ k i z o,w = .el k i z o) ∨ ∃ cs o,w = .ro cs o) → v = w:=fun {v w} e hw=>by
  cases kk with
  | none=>exact e
  | some k =>
   have e:kill2 k v = w:=e
   cases v with
   | ag cs=>subst e;simp [kill2] at hw
   | tu cs=>subst e;cases cs <;> simp [kill2] at hw
   | own j =>
    subst e
    have e2:kill2 k (.own j) = match eqN j k with | true=>.jk | false=>.own j:=rfl
    rw [e2] at hw
    cases he:eqN j k <;> rw [he] at hw <;> simp at hw
   | el j i z o =>
    subst e
    have e2:kill2 k (.el j i z o) = match eqN j k with | true=>.jk | false=>.el j i z o:=rfl
    rw [e2] at hw ⊢
    cases he:eqN j k <;> rw [he] at hw <;> simp at hw ⊢
   | _=>exact e
 cases op <;> first | cases hb;done | skip
 ·rename_i x
  rw [show stepC real g' os' K (.move x) = K (g' x) from rfl,hg x (by simp [Op.operands])] at h
  exact ⟨_,h,fun K' hk=>hk⟩
 ·rename_i x
  rw [show stepC real g' os' K (.nilCheck x) = nnV K (g' x) from rfl] at h
  have e:=hg x (by simp [Op.operands])
  generalize g' x = w at h e
  unfold nnV at h
  split at h <;> try exact h.elim
  all_goals
   have e':=keep e.symm (by simp)
   refine ⟨g x,by rw [← e];exact h,fun K' hk=>?_⟩
   show nnV K' (g x)
   rw [e'] at hk ⊢
   exact hk
 ·rename_i t x i
  rw [show stepC real g' os' K (.fieldAddr t x i) = fieldV K t i (g' x) from rfl] at h
  have e:=hg x (by simp [Op.operands])
  generalize g' x = w at h e
  unfold fieldV at h
  split at h <;> try exact h.elim
  rename_i off sz hf
  split at h <;> try exact h.elim
  ·rename_i k o
   have e':=keep e.symm (by simp)
   refine ⟨.ptr k (o + off),by cases kk <;> exact h,fun K' hk=>?_⟩
   show fieldV K' t i (g x)
   unfold fieldV
   rw [hf,e']
   exact hk
  ·rename_i cs o
   have e':=keep e.symm (by simp)
   refine ⟨.ro cs (o + off),by cases kk <;> exact h,fun K' hk=>?_⟩
   show fieldV K' t i (g x)
   unfold fieldV
   rw [hf,e']
   exact hk
  ·rename_i k i' z o
   have e':=keep e.symm (by simp)
   have e3:klV kk (.el k i' z (o + off)) = .el k i' z (o + off):=by
    rw [e'] at e
    cases kk with
    | none=>rfl
    | some j =>
     have e4:(V.el k i' z o) = match eqN k j with | true=>V.jk | false=>V.el k i' z o:=e
     show (match eqN k j with | true=>V.jk | false=>V.el k i' z (o + off)) = _
     cases he:eqN k j with
     | true=>rw [he] at e4;cases e4
     | false=>rfl
   refine ⟨.el k i' z (o + off),by rw [e3];exact h,fun K' hk=>?_⟩
   show fieldV K' t i (g x)
   unfold fieldV
   rw [hf,e']
   exact hk
theorem late_pt {k:Nat} {g g':Operand → V} {os o':List O} {op:Op} (hb:isLate op = true) (hB:Behind k os o') (hg:∀ x ∈ op.operands,g' x = kill2 k (g x)) {K:V → Prop} (h:stepC real g' o' K op):∃ v,K (kill2 k v) ∧ ∀ K',K' v → stepC real g os K' op:=by
 unfold isLate at hb
 split at hb
 ·rename_i t x
  rw [show stepC real g' o' K (.load t x) = loadV real o' K t (g' x) from rfl,hg x (by simp [Op.operands])] at h
  have goal:∀ {v:V} {K':V → Prop},loadV real os K' t (g x) → stepC real g os K' (.load t x):=fun h=>h
  show ∃ v,K (kill2 k v) ∧ ∀ K',K' v → loadV real os K' t (g x)
  generalize g x = u at h
  have fin:∀ {l:List V} {K:V → Prop},(match pack (ty t).agg (killL k l) with | some x=>K x | none=>False) → K (kill2 k (.ag l)):=fun h=>by rw [hb] at h;exact h
  cases u with
  | ptr j off =>
   have h:(match getO o' j with | .box cs=>(match takeN (ty t).sz (dropN off cs) with | some l=>(match pack (ty t).agg l with | some x=>K x | none=>False) | none=>False) | _=>False):=h
   show ∃ v,K (kill2 k v) ∧ ∀ K':V → Prop,K' v → (match getO os j with | .box cs=>(match takeN (ty t).sz (dropN off cs) with | some l=>(match pack (ty t).agg l with | some x=>K' x | none=>False) | none=>False) | _=>False)
   split at h <;> try exact h.elim
   rename_i cs hc
   have hj:j ≠ k:=fun e=>hB.2 cs (by rw [← e];exact hc)
   rw [hB.1 j hj] at hc
   obtain ⟨ds,h1,rfl⟩:=getO_kill_box hc
   rw [dropN_kill] at h
   split at h <;> try exact h.elim
   rename_i l' hl
   obtain ⟨m,h2,rfl⟩:=takeN_kill hl
   refine ⟨.ag m,fin h,fun K' hk=>?_⟩
   rw [h1]
   simp only [h2,hb]
   exact hk
  | ro cs off =>
   have h:(match takeN (ty t).sz (dropN off cs) with | some l=>(match pack (ty t).agg (ofD l) with | some x=>K x | none=>False) | none=>False):=h
   show ∃ v,K (kill2 k v) ∧ ∀ K':V → Prop,K' v → (match takeN (ty t).sz (dropN off cs) with | some l=>(match pack (ty t).agg (ofD l) with | some x=>K' x | none=>False) | none=>False)
   split at h <;> try exact h.elim
   rename_i l hl
   rw [← killL_ofD (k:=k)] at h
   exact ⟨.ag (ofD l),fin h,fun K' hk=>by simp only [hb];exact hk⟩
  | el j i z off =>
   have h:loadV real o' K t (match eqN j k with | true=>.jk | false=>.el j i z off):=h
   cases e:eqN j k with
   | true=>rw [e] at h;exact h.elim
   | false =>
    rw [e] at h
    have h:(match getO o' j with | .row _ e rows=>(match eqN (ty e).sz z with | true=>(match real.get rows i with | some row=>(match takeN (ty t).sz (dropN off row) with | some l=>(match pack (ty t).agg (ofD l) with | some x=>K x | none=>False) | none=>False) | none=>False) | false=>False) | _=>False):=h
    show ∃ v,K (kill2 k v) ∧ ∀ K':V → Prop,K' v → (match getO os j with | .row _ e rows=>(match eqN (ty e).sz z with | true=>(match real.get rows i with | some row=>(match takeN (ty t).sz (dropN off row) with | some l=>(match pack (ty t).agg (ofD l) with | some x=>K' x | none=>False) | none=>False) | none=>False) | false=>False) | _=>False)
    rw [hB.1 j (eqN_no.1 e)] at h
    split at h <;> try exact h.elim
    rename_i e' rows hr
    rw [getO_kill_row hr]
    simp only
    split at h <;> try exact h.elim
    rename_i hz
    split at h <;> try exact h.elim
    rename_i row hrow
    split at h <;> try exact h.elim
    rename_i l hl
    rw [← killL_ofD (k:=k)] at h
    exact ⟨.ag (ofD l),fin h,fun K' hk=>by simp only [hz,hrow,hl,hb];exact hk⟩
  | own j =>
   have h:loadV real o' K t (match eqN j k with | true=>.jk | false=>.own j):=h
   cases e:eqN j k <;> rw [e] at h <;> exact h.elim
  | tu l=>cases l <;> exact h.elim
  | _=>exact h.elim
 ·rename_i t ps
  have h:buildV g' K t ps.toList:=h
  have hg':∀ p ∈ ps.toList,g' p.2 = kill2 k (g p.2):=fun p hp=>hg _ (by simp [Op.operands];exact ⟨p.1,by simpa using hp⟩)
  show ∃ v,K (kill2 k v) ∧ ∀ K',K' v → buildV g K' t ps.toList
  unfold buildV at h ⊢
  cases hk:(ty t).kind <;> simp only [hk] at h <;> first | exact h.elim | simp only []
  ·rw [← killL_constL (k:=k)] at h
   split at h <;> try exact h.elim
   rename_i l' hl
   obtain ⟨m,h1,rfl⟩:=fillV_kill hg' hl
   exact ⟨.ag m,h,fun K' hk=>by rw [h1];exact hk⟩
  ·split at h <;> try exact h.elim
   rename_i e he
   try simp only [he]
   rw [← killL_constL (k:=k)] at h
   split at h <;> try exact h.elim
   rename_i l' hl
   obtain ⟨m,h1,rfl⟩:=fillV_kill hg' hl
   exact ⟨.ag m,h,fun K' hk=>by rw [h1];exact hk⟩
 ·rename_i t n ps
  have h:buildSliceV g' o' K t (n + 1) ps.toList:=h
  have hg':∀ p ∈ ps.toList,g' p.2 = kill2 k (g p.2):=fun p hp=>hg _ (by simp [Op.operands];exact ⟨p.1,by simpa using hp⟩)
  show ∃ v,K (kill2 k v) ∧ ∀ K',K' v → buildSliceV g os K' t (n + 1) ps.toList
  unfold buildSliceV at h ⊢
  split at h <;> try exact h.elim
  rename_i e he
  simp only [he]
  simp only at h
  rw [show zeros (constL (ty e).zero) (n + 1) [] = killL k (zeros (constL (ty e).zero) (n + 1) []) from (killL_zeros (k:=k) (ty e).zero (n + 1) []).symm] at h
  split at h <;> try exact h.elim
  rename_i l' hl
  obtain ⟨m,h1,rfl⟩:=fillV_kill hg' hl
  split at h <;> try exact h.elim
  rename_i ds hds
  split at h <;> try exact h.elim
  rename_i rows hrows
  exact ⟨.d (.sl (ty e).sz rows),h,fun K' hk=>by simp only [h1,toDs_kill hB hds,hrows];exact hk⟩
 ·cases hb
theorem getO_snoc {o:O}:∀ {l:List O} {k:Nat},getO l k ≠ .dead → getO (snocO l o) k = getO l k
 | [],k,h=>absurd rfl h
 | _ :: _,0,_=>rfl
 | x :: l,k + 1,h=>by rw [snocO,getO,getO];rw [getO] at h;exact getO_snoc h
theorem getO_box {o:O} {l:List O} {k:Nat} {x:O} (h:getO l k = x) (hd:x ≠ .dead):getO (snocO l o) k = x:=by rw [getO_snoc (by rw [h];exact hd),h]
theorem rows_snoc {o:O} {os:List O} {x:V} {r:Option Nat × List (List D)} (h:rowsV os x = some r):rowsV (snocO os o) x = some r:=by
 unfold rowsV at h ⊢
 split at h
 ·exact h
 ·exact h
 ·split at h
  ·rename_i hok
   rw [getO_box hok (by simp)]
   exact h
  ·cases h
 ·cases h
theorem raw_snoc {o:O} {os:List O} {x:V} {r:Nat × Nat × List (List D)} (h:rawV os x = some r):rawV (snocO os o) x = some r:=by
 unfold rawV at h ⊢
 split at h
 ·split at h
  ·rename_i hok
   simp only [getO_box hok (by simp)]
   exact h
  ·cases h
 ·cases h
theorem peek_snoc {g:Operand → V} {os:List O} {o:O} {K:V → Prop} {op:Op} (hb:peekB op = true) (h:stepC real g os K op):stepC real g (snocO os o) K op:=by
 cases op <;> first | cases hb;done | exact h | skip
 ·rename_i t x
  have h:loadV real os K t (g x):=h
  show loadV real (snocO os o) K t (g x)
  generalize g x = v at h
  unfold loadV at h ⊢
  split at h <;> try exact h.elim
  ·split at h <;> try exact h.elim
   rename_i hok
   simp only [getO_box hok (by simp)]
   exact h
  ·exact h
  ·split at h <;> try exact h.elim
   rename_i hok
   simp only [getO_box hok (by simp)]
   exact h
 ·rename_i t x i
  have h:indexAddrV real os K t (g x) (g i):=h
  show indexAddrV real (snocO os o) K t (g x) (g i)
  generalize g x = v at h
  generalize g i = u at h
  unfold indexAddrV at h ⊢
  split at h <;> try exact h.elim
  split at h
  ·exact h
  ·split at h <;> try exact h.elim
   split at h
   ·exact h
   split at h
   ·rename_i hraw
    rw [raw_snoc hraw]
    exact h
   ·rename_i hraw
    split at h <;> try exact h.elim
    rename_i hrows
    have e:rawV (snocO os o) v = none:=by
     unfold rawV
     split
     ·rename_i k
      unfold rowsV at hrows
      simp only at hrows
      split at hrows
      ·rename_i hok
       rw [getO_box hok (by simp)]
      ·cases hrows
     ·rfl
    rw [e,rows_snoc hrows]
    exact h
theorem put_o (s:S) (d:Option Nat) (v:V):(s.put d v).o = s.o:=by cases d <;> rfl
theorem same_putT {l:List Nat} {s:S} {d:Option Nat} {v:V} (h:notIn d l = true):SameT l s (s.put d v):=(same_put (notIn_is h)).2
theorem swapB {dsts:List (Option Nat)} {x y:Oper} (h:besides dsts x y = true) {s:S} {K:S → Prop} (hx:exec1 real dsts x s fun s=>exec1 real dsts y s K):exec1 real dsts y s fun s=>exec1 real dsts x s K:=by
 simp only [besides,Bool.and_eq_true] at h
 obtain ⟨v,h1,h2⟩:=blind_pt h.1.1 hx
 obtain ⟨o',h3,h4⟩:=store_pt (by simpa [stor] using h.1.2) h1
 refine h4 s _ (put_o ..).symm (fun t ht=>(same_putT h.2 t ht).symm) (h2 _ _ (fun _ _=>rfl) ?_)
 rw [← put_obj s.t s.o o']
 exact h3
theorem swapC {dsts:List (Option Nat)} {x y:Oper} (h:besides dsts x y = true) {s:S} {K:S → Prop} (hy:exec1 real dsts y s fun s=>exec1 real dsts x s K):exec1 real dsts x s fun s=>exec1 real dsts y s K:=by
 simp only [besides,Bool.and_eq_true] at h
 obtain ⟨o',h1,h2⟩:=store_pt (by simpa [stor] using h.1.2) hy
 obtain ⟨v,h3,h4⟩:=blind_pt h.1.1 h1
 refine h4 s _ (fun _ _=>rfl) (h2 _ _ (put_o ..) (same_putT h.2) ?_)
 rw [← put_obj s.t s.o o'] at h3
 exact h3
theorem swapD {dsts:List (Option Nat)} {x y:Oper} (h:behindA dsts x y = true) {s:S} {K:S → Prop} (hx:exec1 real dsts x s fun s=>exec1 real dsts y s K):exec1 real dsts y s fun s=>exec1 real dsts x s K:=by
 obtain ⟨xd,xop,xty,xpos,xaf,xg⟩:=x
 obtain ⟨yd,yop,yty,ypos,yaf,yg⟩:=y
 simp only [behindA,Bool.and_eq_true] at h
 obtain ⟨⟨⟨⟨⟨⟨⟨h1,h2⟩,h3⟩,h4⟩,h5⟩,h6⟩,h7⟩,h8⟩:=h
 cases xg with
 | some g=>cases h2
 | none =>
  cases yg with
  | some g=>cases h5
  | none =>
   cases xd with
   | none=>cases h3
   | some d =>
    have hx':step real false s (some d) (fun s=>exec1 real dsts ⟨yd,yop,yty,ypos,yaf,none⟩ s K) xop:=hx
    obtain ⟨k,o',hB,h9,h10⟩:=row_pt h1 hx'
    have h9:step real false (S.put ⟨killT k s.t,o'⟩ (some d) (.own k)) yd K yop:=h9
    have hcalm:calmB yop = true:=by
     rcases Bool.or_eq_true_iff.1 h4 with h4 | h4
     ·cases yop <;> first | rfl | cases h4
     ·unfold isLate at h4
      split at h4 <;> first | rfl | cases h4
    rw [step_calm hcalm] at h9
    have hl:∀ t ∈ Vm.tmps yop.operands.toList,t ∈ looks dsts ⟨yd,yop,yty,ypos,yaf,none⟩:=fun t ht=>by simp [looks,ht]
    have hgz:∀ z ∈ yop.operands,(S.put ⟨killT k s.t,o'⟩ (some d) (.own k)).get z = kill2 k (s.get z):=fun z hz=>by
     have hs:Same (looks dsts ⟨yd,yop,yty,ypos,yaf,none⟩) (⟨killT k s.t,o'⟩:S) (S.put ⟨killT k s.t,o'⟩ (some d) (.own k)):=same_put (notIn_is h6)
     rw [(hs.ops (xs:=yop.operands.toList) hl) z (by simpa using hz)]
     exact klV_get (kk:=some k) z
    obtain ⟨v,h11,h12⟩:∃ v,K (S.put (S.put ⟨killT k s.t,o'⟩ (some d) (.own k)) yd (kill2 k v)) ∧ ∀ K',K' v → stepC real s.get s.o K' yop:=by
     rcases Bool.or_eq_true_iff.1 h4 with h4 | h4
     ·exact addr_pt (kk:=some k) (g:=s.get) (os:=s.o) h4 hgz h9
     ·exact late_pt h4 hB hgz h9
    show step real false s yd (fun s=>exec1 real dsts ⟨some d,xop,xty,xpos,xaf,none⟩ s K) yop
    rw [step_calm hcalm]
    refine h12 _ ?_
    show step real false (s.put yd v) (some d) K xop
    have hs2:Same (looks dsts ⟨some d,xop,xty,xpos,xaf,none⟩) s (s.put yd v):=same_put (notIn_is h7)
    have hlx:∀ t ∈ Vm.tmps xop.operands.toList,t ∈ looks dsts ⟨some d,xop,xty,xpos,xaf,none⟩:=fun t ht=>by simp [looks,ht]
    have e:s.put yd v = ⟨(s.put yd v).t,s.o⟩:=by cases yd <;> rfl
    rw [e]
    refine h10 _ _ (fun z hz=>?_) ?_
    ·rw [← e]
     exact hs2.ops hlx z (by simpa using hz)
    have hne:∀ z,yd = some z → some d ≠ some z:=fun z hz hz'=>by
     subst hz
     rw [hz'] at h8
     simp at h8
    have e2:(⟨killT k (s.put yd v).t,o'⟩:S) = S.put ⟨killT k s.t,o'⟩ yd (kill2 k v):=klT_put (kk:=some k)
    rw [e2,put_comm hne]
    exact h11
theorem swapE {dsts:List (Option Nat)} {x y:Oper} (h:aheadL dsts x y = true) {s:S} {K:S → Prop} (hx:exec1 real dsts x s fun s=>exec1 real dsts y s K):exec1 real dsts y s fun s=>exec1 real dsts x s K:=by
 obtain ⟨xd,xop,xty,xpos,xaf,xg⟩:=x
 obtain ⟨yd,yop,yty,ypos,yaf,yg⟩:=y
 simp only [aheadL,Bool.and_eq_true] at h
 obtain ⟨⟨⟨⟨⟨h1,h2⟩,h3⟩,h4⟩,h5⟩,h6⟩:=h
 cases xg with
 | some g=>cases h2
 | none =>
  cases yg with
  | some g=>cases h4
  | none =>
   cases yop <;> first | cases h3;done | skip
   rename_i e
   have hcalm:calmB xop = true:=by cases xop <;> first | rfl | cases h1
   have hx':step real false s xd (fun s=>exec1 real dsts ⟨yd,.alloc e,yty,ypos,yaf,none⟩ s K) xop:=hx
   rw [step_calm hcalm] at hx'
   obtain ⟨v,h7,h8⟩:=stepC_pt _ hx'
   have h7:(match ones (constL (ty e).zero) with | true=>K (((s.put xd v).obj (newO e)).put yd (.ptr (lenO (s.put xd v).o) 0)) | false=>False):=h7
   show (match ones (constL (ty e).zero) with | true=>exec1 real dsts ⟨xd,xop,xty,xpos,xaf,none⟩ ((s.obj (newO e)).put yd (.ptr (lenO s.o) 0)) K | false=>False)
   cases hon:ones (constL (ty e).zero) with
   | false=>rw [hon] at h7;exact h7.elim
   | true =>
    rw [hon] at h7
    simp only at h7 ⊢
    show step real false ((s.obj (newO e)).put yd (.ptr (lenO s.o) 0)) xd K xop
    rw [step_calm hcalm,put_o]
    have hl:∀ t ∈ Vm.tmps xop.operands.toList,t ∈ looks dsts ⟨xd,xop,xty,xpos,xaf,none⟩:=fun t ht=>by simp [looks,ht]
    have hs:Same (looks dsts ⟨xd,xop,xty,xpos,xaf,none⟩) (s.obj (newO e)) ((s.obj (newO e)).put yd (.ptr (lenO s.o) 0)):=same_put (notIn_is h5)
    have hops:=hs.ops (xs:=xop.operands.toList) hl
    rw [stepC_congr (g':=(s.obj (newO e)).get) fun z hz=>hops z (by simpa using hz)]
    have h9:=h8 (fun w=>K (S.put ((s.obj (newO e)).put yd (.ptr (lenO s.o) 0)) xd w)) (by
     have e1:lenO (s.put xd v).o = lenO s.o:=by rw [put_o]
     rw [e1] at h7
     have e2:(s.put xd v).obj (newO e) = (s.obj (newO e)).put xd v:=by cases xd <;> rfl
     rw [e2] at h7
     have hne:∀ z,yd = some z → xd ≠ some z:=fun z hz hz'=>by
      subst hz;subst hz'
      simp at h6
     rw [put_comm hne]
     exact h7)
    exact peek_snoc (g:=(s.obj (newO e)).get) h1 h9
theorem swapF {dsts:List (Option Nat)} {x y:Oper} (h:aheadA dsts x y = true) {s:S} {K:S → Prop} (hx:exec1 real dsts x s fun s=>exec1 real dsts y s K):exec1 real dsts y s fun s=>exec1 real dsts x s K:=by
 obtain ⟨xd,xop,xty,xpos,xaf,xg⟩:=x
 obtain ⟨yd,yop,yty,ypos,yaf,yg⟩:=y
 simp only [aheadA,Bool.and_eq_true] at h
 obtain ⟨⟨⟨⟨⟨⟨⟨h1,h2⟩,h3⟩,h4⟩,h5⟩,h6⟩,h7⟩,h8⟩:=h
 cases xg with
 | some g=>cases h2
 | none =>
  cases yg with
  | some g=>cases h4
  | none =>
   cases yd with
   | none=>cases h5
   | some d =>
    cases xop <;> first | cases h1;done | skip
    rename_i r
    unfold isApp at h3
    split at h3
    ·rename_i p q t t'
     have hx':appendV real false (s.put xd (s.get r)) (some d) K t ((s.put xd (s.get r)).get p) ((s.put xd (s.get r)).get q):=hx
     have hs2:Same (looks dsts ⟨some d,.call ⟨.builtin .append,⟨[p,q]⟩,⟨[t,t']⟩⟩,yty,ypos,yaf,none⟩) s (s.put xd (s.get r)):=same_put (notIn_is h6)
     have hops:=hs2.ops (xs:=[p,q]) fun t ht=>by simp [looks,Op.operands,Call.operands];simpa using ht
     rw [hops p (by simp),hops q (by simp)] at hx'
     obtain ⟨kk,o',k',h9,h10⟩:=append_pt hx'
     have e:s = ⟨s.t,(s.put xd (s.get r)).o⟩:=by cases xd <;> rfl
     show appendV real false s (some d) (fun s=>exec1 real dsts ⟨xd,.move r,xty,xpos,xaf,none⟩ s K) t (s.get p) (s.get q)
     have h11:=h10 s.t (fun s=>exec1 real dsts ⟨xd,.move r,xty,xpos,xaf,none⟩ s K) (by
      show K (S.put (S.put ⟨klT kk s.t,o'⟩ (some d) (.own k')) xd ((S.put ⟨klT kk s.t,o'⟩ (some d) (.own k')).get r))
      have hs:Same (looks dsts ⟨xd,.move r,xty,xpos,xaf,none⟩) (⟨klT kk s.t,o'⟩:S) (S.put ⟨klT kk s.t,o'⟩ (some d) (.own k')):=same_put (notIn_is h7)
      rw [hs.ops (xs:=[r]) (fun t ht=>by simp [looks,Op.operands];simpa using ht) r (by simp),klV_get r]
      rw [klT_put] at h9
      have hne:∀ z,(some d:Option Nat) = some z → xd ≠ some z:=fun z hz hz'=>by
       subst hz'
       rw [← hz] at h8
       simp at h8
      rw [put_comm hne]
      exact h9)
     rw [← e] at h11
     exact h11
    ·cases h3
theorem swap1 {dsts:List (Option Nat)} {x y:Oper} (h:apart dsts x y = true) {s:S} {K:S → Prop} (hx:exec1 real dsts x s fun s=>exec1 real dsts y s K):exec1 real dsts y s fun s=>exec1 real dsts x s K:=by
 simp only [apart,Bool.or_eq_true] at h
 rcases h with ((((h | h) | h) | h) | h) | h
 ·exact swap0 h hx
 ·exact swapB h hx
 ·exact swapC h hx
 ·exact swapD h hx
 ·exact swapE h hx
 ·exact swapF h hx
theorem distB_jkl (v:V):distB .jk v = true:=by cases v <;> rfl
theorem distB_jkr (u:V):distB u .jk = true:=by cases u <;> rfl
theorem kill2_dist (k:Nat) (w:V):kill2 k w = .jk ∨ ((∀ v,distB w v = true → distB (kill2 k w) v = true) ∧ ∀ u,distB u w = true → distB u (kill2 k w) = true):=by
 cases w with
 | own j =>
  have e2:kill2 k (.own j) = match eqN j k with | true=>V.jk | false=>.own j:=rfl
  rw [e2]
  cases eqN j k
  ·exact .inr ⟨fun _ h=>h,fun _ h=>h⟩
  ·exact .inl rfl
 | el j i z o =>
  have e2:kill2 k (.el j i z o) = match eqN j k with | true=>V.jk | false=>.el j i z o:=rfl
  rw [e2]
  cases eqN j k
  ·exact .inr ⟨fun _ h=>h,fun _ h=>h⟩
  ·exact .inl rfl
 | ag cs=>exact .inr ⟨fun v _=>by cases v <;> rfl,fun u _=>by cases u <;> rfl⟩
 | tu l =>
  cases l with
  | nil=>exact .inr ⟨fun _ h=>h,fun _ h=>h⟩
  | cons x l=>exact .inl rfl
 | _=>exact .inr ⟨fun _ h=>h,fun _ h=>h⟩
theorem distB_kl {kk:Option Nat} {u v:V} (h:distB u v = true):distB (klV kk u) (klV kk v) = true:=by
 cases kk with
 | none=>exact h
 | some k =>
  show distB (kill2 k u) (kill2 k v) = true
  rcases kill2_dist k u with e | h1
  ·rw [e];exact distB_jkl _
  ·rcases kill2_dist k v with e | h2
   ·rw [e];exact distB_jkr _
   ·exact h1.1 _ (h2.2 _ h)
def PP (prs:List (Nat × Nat)) (s:S):Prop:=∀ p ∈ prs,distB (getN s.t p.1) (getN s.t p.2) = true
theorem pp_of:∀ {prs:List (Nat × Nat)} {s:S},preOk prs s.t = true → PP prs s
 | [],s,_,p,hp=>by simp at hp
 | (i,k) :: l,s,h,p,hp=>by
  rw [preOk] at h
  split at h
  ·rename_i h1
   rcases List.mem_cons.1 hp with rfl | hp
   ·exact h1
   ·exact pp_of (prs:=l) h p hp
  ·cases h
def free (prs:List (Nat × Nat)) (d:Option Nat):Prop:=∀ p ∈ prs,d ≠ some p.1 ∧ d ≠ some p.2
theorem klT_get {kk:Option Nat} {l:List V} {i:Nat}:getN (klT kk l) i = klV kk (getN l i):=by
 cases kk with
 | none=>rfl
 | some k=>exact killT_get
theorem PP.next {prs:List (Nat × Nat)} {s:S} (h:PP prs s) {kk:Option Nat} {d:Option Nat} {v:V} {o':List O} (hf:free prs d):PP prs (S.put ⟨klT kk s.t,o'⟩ d v):=fun p hp=>by
 have key:∀ i,d ≠ some i → getN (S.put ⟨klT kk s.t,o'⟩ d v).t i = klV kk (getN s.t i):=fun i hi=>by
  cases d with
  | none=>exact klT_get
  | some x =>
   show getN (setN (klT kk s.t) x v) i = _
   rw [getN_set (fun e=>hi (by rw [e])),klT_get]
 rw [key _ (hf p hp).1,key _ (hf p hp).2]
 exact distB_kl (h p hp)
theorem step_shape {s:S} {dst:Option Nat} {K:S → Prop} {op:Op} (hx:step real false s dst K op):step real false s dst (fun s'=>(∃ kk v o',s' = S.put ⟨klT kk s.t,o'⟩ dst v) ∧ K s') op:=by
 have hC:∀ {v:V},∃ kk u o',s.put dst v = S.put ⟨klT kk s.t,o'⟩ dst u:=fun {v}=>⟨none,v,s.o,rfl⟩
 have hO:∀ {o:O} {v:V},∃ kk u o',(s.obj o).put dst v = S.put ⟨klT kk s.t,o'⟩ dst u:=fun {o v}=>⟨none,v,snocO s.o o,rfl⟩
 have hF:∀ {z:Bool} {e:Nat} {r:List (List D)} {v:V},∃ kk u o',(s.fresh false (.row z e r)).put dst v = S.put ⟨klT kk s.t,o'⟩ dst u:=fun {z e r v}=>⟨some (lenO s.o),v,_,rfl⟩
 have calm:∀ {op:Op},stepC real s.get s.o (fun v=>K (s.put dst v)) op → stepC real s.get s.o (fun v=>(∃ kk u o',s.put dst v = S.put ⟨klT kk s.t,o'⟩ dst u) ∧ K (s.put dst v)) op:=fun h=>by
  obtain ⟨v,h1,h2⟩:=stepC_pt _ h
  exact h2 _ ⟨hC,h1⟩
 unfold step at hx ⊢
 split at hx
 ·split at hx
  ·exact ⟨hO,hx⟩
  ·exact hx.elim
 ·split at hx
  ·exact ⟨hO,hx⟩
  ·exact hx.elim
 ·split at hx
  ·obtain ⟨o',h1,h2⟩:=storeV_pt hx
   exact h2 _ _ ⟨⟨none,.jk,o',rfl⟩,h1⟩
  ·exact hx.elim
 ·unfold mkSliceV at hx ⊢
  repeat' split at hx
  all_goals first | exact hx.elim | skip
  obtain ⟨h1,z,h2⟩:=hx
  exact ⟨h1,z,hO,h2⟩
 ·split at hx
  ·split at hx
   ·exact ⟨hO,hx⟩
   ·exact hx.elim
  ·exact hx.elim
 ·split at hx
  ·unfold putV at hx ⊢
   repeat' split at hx
   all_goals first | exact hx.elim | exact ⟨⟨none,.jk,_,rfl⟩,hx⟩
  ·exact hx.elim
 ·split at hx
  ·obtain ⟨z,hx⟩:=hx
   exact ⟨z,hF,hx⟩
  ·exact hx.elim
 ·cases dst with
  | none =>
   unfold appendV at hx ⊢
   repeat' split at hx
   all_goals first | exact hx.elim | skip
   ·obtain ⟨h1,z,h2⟩:=hx
    exact ⟨h1,z,hF,h2⟩
   ·obtain ⟨h1,h2⟩:=hx
    exact ⟨h1,⟨some _,.jk,_,rfl⟩,h2⟩
  | some d =>
   obtain ⟨kk,o',k',h1,h2⟩:=append_pt hx
   exact h2 s.t _ ⟨⟨kk,_,o',rfl⟩,h1⟩
 ·exact calm hx
 ·exact calm hx
 ·exact calm hx
 ·exact calm hx
theorem step_mono {s:S} {dst:Option Nat} {K K':S → Prop} {op:Op} (hK:∀ s,K s → K' s) (hx:step real false s dst K op):step real false s dst K' op:=by
 have calm:∀ {op:Op},stepC real s.get s.o (fun v=>K (s.put dst v)) op → stepC real s.get s.o (fun v=>K' (s.put dst v)) op:=fun h=>by
  obtain ⟨v,h1,h2⟩:=stepC_pt _ h
  exact h2 _ (hK _ h1)
 unfold step at hx ⊢
 split at hx
 ·split at hx
  ·exact hK _ hx
  ·exact hx.elim
 ·split at hx
  ·exact hK _ hx
  ·exact hx.elim
 ·split at hx
  ·obtain ⟨o',h1,h2⟩:=storeV_pt hx
   exact h2 _ _ (hK _ h1)
  ·exact hx.elim
 ·unfold mkSliceV at hx ⊢
  repeat' split at hx
  all_goals first | exact hx.elim | skip
  obtain ⟨h1,z,h2⟩:=hx
  exact ⟨h1,z,hK _ h2⟩
 ·split at hx
  ·split at hx
   ·exact hK _ hx
   ·exact hx.elim
  ·exact hx.elim
 ·split at hx
  ·unfold putV at hx ⊢
   repeat' split at hx
   all_goals first | exact hx.elim | exact hK _ hx
  ·exact hx.elim
 ·split at hx
  ·obtain ⟨z,hx⟩:=hx
   exact ⟨z,hK _ hx⟩
  ·exact hx.elim
 ·unfold appendV at hx ⊢
  repeat' split at hx
  all_goals first | exact hx.elim | skip
  ·obtain ⟨h1,z,h2⟩:=hx
   exact ⟨h1,z,hK _ h2⟩
  ·obtain ⟨h1,h2⟩:=hx
   exact ⟨h1,hK _ h2⟩
 ·exact calm hx
 ·exact calm hx
 ·exact calm hx
 ·exact calm hx
theorem exec1_keep {dsts:List (Option Nat)} {prs:List (Nat × Nat)} {o:Oper} {s:S} {K:S → Prop} (hP:PP prs s) (hf:free prs o.dst) (h:exec1 real dsts o s K):exec1 real dsts o s (fun s'=>PP prs s' ∧ K s'):=by
 obtain ⟨dst,op,type,pos,after,gd⟩:=o
 have hst:∀ {K:S → Prop},step real false s dst K op → step real false s dst (fun s'=>PP prs s' ∧ K s') op:=fun {K} h=>by
  have h1:=step_shape h
  exact step_mono (fun s' ⟨⟨kk,v,o',e⟩,hk⟩=>⟨by rw [e];exact hP.next hf,hk⟩) h1
 cases gd with
 | none=>exact hst h
 | some jb =>
  obtain ⟨j,b⟩:=jb
  have h':guard s dsts j (fun
   | some c=>match bEq c b with
    | true=>step real false s dst K op
    | false=>K (s.put dst vun)
   | none=>K (s.put dst vun)):=h
  obtain ⟨c,h1,h2⟩:=guard_pt h'
  have hv:PP prs (s.put dst vun):=hP.next (kk:=none) (o':=s.o) hf
  show guard s dsts j (fun
   | some c=>match bEq c b with
    | true=>step real false s dst (fun s'=>PP prs s' ∧ K s') op
    | false=>PP prs (s.put dst vun) ∧ K (s.put dst vun)
   | none=>PP prs (s.put dst vun) ∧ K (s.put dst vun))
  refine h2 _ ?_
  cases c with
  | none=>exact ⟨hv,h1⟩
  | some c =>
   simp only at h1 ⊢
   cases hb:bEq c b with
   | true=>rw [hb] at h1;exact hst h1
   | false=>rw [hb] at h1;exact ⟨hv,h1⟩
def keepP (prs:List (Nat × Nat)) (o:Oper):Prop:=∀ p ∈ prs,o.dst ≠ some p.2 ∧ (o.dst = some p.1 → ∃ j,addrSrc o.op = some j ∧ (j,p.2) ∈ prs)
theorem keepB_is {prs:List (Nat × Nat)} {o:Oper} (h:keepB prs o = true):keepP prs o:=fun p hp=>by
 unfold keepB at h
 cases hd:o.dst with
 | none=>exact ⟨by simp,fun e=>by cases e⟩
 | some d =>
  rw [hd] at h
  have h1:=List.all_eq_true.1 h p hp
  rw [Bool.and_eq_true,Bool.or_eq_true,notB_is,notB_is] at h1
  refine ⟨fun e=>?_,fun e=>?_⟩
  ·have e:=Option.some.inj e
   rw [eqN_is.2 e] at h1
   exact absurd h1.1 (by simp)
  ·have e:=Option.some.inj e
   rcases h1.2 with h2 | h2
   ·rw [eqN_is.2 e] at h2
    exact absurd h2 (by simp)
   ·split at h2
    ·rename_i j hj
     exact ⟨j,hj,by simpa using h2⟩
    ·cases h2
theorem addr_dist {s:S} {dst:Option Nat} {K:S → Prop} {op:Op} {j:Nat} (ha:addrSrc op = some j) (h:step real false s dst K op):∃ v,K (s.put dst v) ∧ (∀ u,distB (getN s.t j) u = true → distB v u = true) ∧ ∀ K':S → Prop,K' (s.put dst v) → step real false s dst K' op:=by
 have hc:calmB op = true:=by
  unfold addrSrc at ha
  split at ha <;> first | rfl | cases ha
 rw [step_calm hc] at h
 have hs:∀ {K':S → Prop} {v:V},stepC real s.get s.o (fun v=>K' (s.put dst v)) op → step real false s dst K' op:=fun {K' v} hk=>by rw [step_calm hc];exact hk
 unfold addrSrc at ha
 split at ha <;> try cases ha
 ·have h:K (s.put dst (getN s.t j)):=h
  exact ⟨_,h,fun u hu=>hu,fun K' hk=>hs (v:=.jk) (show K' (s.put dst (getN s.t j)) from hk)⟩
 ·have h:nnV (fun v=>K (s.put dst v)) (getN s.t j):=h
  refine ⟨getN s.t j,?_,fun u hu=>hu,fun K' hk=>hs (v:=.jk) ?_⟩
  ·revert h;cases getN s.t j <;> intro h <;> first | exact h | exact h.elim
  ·show nnV (fun v=>K' (s.put dst v)) (getN s.t j)
   revert h hk;cases getN s.t j <;> intro h hk <;> first | exact hk | exact h.elim
 ·rename_i _ t i
  have h:fieldV (fun v=>K (s.put dst v)) t i (getN s.t j):=h
  have key:∃ v,K (s.put dst v) ∧ (∀ u,distB (getN s.t j) u = true → distB v u = true) ∧ ∀ K':S → Prop,K' (s.put dst v) → fieldV (fun v=>K' (s.put dst v)) t i (getN s.t j):=by
   generalize getN s.t j = x at *
   simp only [fieldV] at h ⊢
   split at h <;> try exact h.elim
   rename_i hf
   cases x <;> try exact h.elim
   ·exact ⟨_,h,fun u hu=>by cases u <;> first | rfl | exact hu,fun K' hk=>hk⟩
   ·exact ⟨_,h,fun u hu=>by cases u <;> first | rfl | exact hu,fun K' hk=>hk⟩
   ·exact ⟨_,h,fun u hu=>by cases u <;> first | rfl | exact hu,fun K' hk=>hk⟩
  obtain ⟨v,h1,h2,h3⟩:=key
  exact ⟨v,h1,h2,fun K' hk=>hs (v:=.jk) (h3 K' hk)⟩
 ·rename_i _ t i
  have h:indexAddrV real s.o (fun v=>K (s.put dst v)) t (getN s.t j) (s.get i):=h
  have key:∃ v,K (s.put dst v) ∧ (∀ u,distB (getN s.t j) u = true → distB v u = true) ∧ ∀ K':S → Prop,K' (s.put dst v) → indexAddrV real s.o (fun v=>K' (s.put dst v)) t (getN s.t j) (s.get i):=by
   generalize getN s.t j = x at *
   generalize s.get i = y at *
   simp only [indexAddrV] at h ⊢
   split at h <;> try exact h.elim
   split at h
   ·split at h <;> try exact h.elim
    split at h <;> try exact h.elim
    cases x <;> try exact h.elim
    ·exact ⟨_,h,fun u hu=>by cases u <;> first | rfl | exact hu,fun K' hk=>by first | (simp only [*,arrAddrV];done) | (simp only [*,arrAddrV];exact hk)⟩
    ·exact ⟨_,h,fun u hu=>by cases u <;> first | rfl | exact hu,fun K' hk=>by first | (simp only [*,arrAddrV];done) | (simp only [*,arrAddrV];exact hk)⟩
    ·exact ⟨_,h,fun u hu=>by cases u <;> first | rfl | exact hu,fun K' hk=>by first | (simp only [*,arrAddrV];done) | (simp only [*,arrAddrV];exact hk)⟩
   ·split at h <;> try exact h.elim
    rename_i e he
    split at h
    ·rename_i k m hb
     split at h <;> try exact h.elim
     rename_i j' hj
     obtain ⟨k',n',rfl⟩:∃ k' n',x = .bs k' n':=by
      cases x <;> first | exact ⟨_,_,rfl⟩ | cases hb
     cases hb
     exact ⟨_,h,fun u hu=>by cases u <;> first | rfl | exact hu,fun K' hk=>by first | (simp only [*,bsV];done) | (simp only [*,bsV];exact hk)⟩
    ·rename_i hb
     split at h
     ·rename_i k e' rows hr
      split at h <;> try exact h.elim
      rename_i he'
      split at h <;> try exact h.elim
      rename_i row hrow
      obtain rfl:x = .own k:=by
       unfold rawV at hr
       split at hr
       ·split at hr
        ·cases hr;rfl
        ·cases hr
       ·cases hr
      exact ⟨_,h,fun u hu=>by cases u <;> first | rfl | exact hu,fun K' hk=>by first | (simp only [*];done) | (simp only [*];exact hk)⟩
     ·rename_i hr
      split at h <;> try exact h.elim
      rename_i sz rows hrw
      split at h <;> try exact h.elim
      rename_i hsz
      split at h <;> try exact h.elim
      rename_i row hrow
      exact ⟨_,h,fun u hu=>rfl,fun K' hk=>by first | (simp only [*];done) | (simp only [*];exact hk)⟩
  obtain ⟨v,h1,h2,h3⟩:=key
  exact ⟨v,h1,h2,fun K' hk=>hs (v:=.jk) (h3 K' hk)⟩
theorem getN_set_self {v:V}:∀ {l:List V} {i:Nat},getN (setN l i v) i = v ∨ getN (setN l i v) i = .jk
 | [],i=>.inr rfl
 | x :: l,0=>.inl rfl
 | x :: l,i + 1=>by rw [setN,getN];exact getN_set_self
theorem PP.chain {prs:List (Nat × Nat)} {s:S} (h:PP prs s) {d:Option Nat} {v:V} (hv:∀ p ∈ prs,d ≠ some p.2 ∧ (d = some p.1 → distB v (getN s.t p.2) = true)):PP prs (s.put d v):=fun p hp=>by
 have key:∀ i,d ≠ some i → getN (s.put d v).t i = getN s.t i:=fun i hi=>by
  cases d with
  | none=>rfl
  | some x =>
   show getN (setN s.t x v) i = _
   rw [getN_set (fun e=>hi (by rw [e]))]
 obtain ⟨h1,h2⟩:=hv p hp
 rw [key _ h1]
 by_cases e:d = some p.1
 ·have h3:=h2 e
  subst e
  show distB (getN (setN s.t p.1 v) p.1) _ = true
  rcases getN_set_self (v:=v) (l:=s.t) (i:=p.1) with h4 | h4
  ·rw [h4];exact h3
  ·rw [h4];exact distB_jkl _
 ·rw [key _ e]
  exact h p hp
theorem free_of_keep {prs:List (Nat × Nat)} {o:Oper} (h:keepP prs o) (hn:addrSrc o.op = none):free prs o.dst:=fun p hp=>by
 obtain ⟨h1,h2⟩:=h p hp
 refine ⟨fun e=>?_,h1⟩
 obtain ⟨j,hj,_⟩:=h2 e
 rw [hn] at hj
 cases hj
theorem addr_keep {prs:List (Nat × Nat)} {s:S} {dst:Option Nat} {K:S → Prop} {op:Op} {j:Nat} (ha:addrSrc op = some j) (hP:PP prs s) (hk:∀ p ∈ prs,dst ≠ some p.2 ∧ (dst = some p.1 → ∃ j,addrSrc op = some j ∧ (j,p.2) ∈ prs)) (h:step real false s dst K op):step real false s dst (fun s'=>PP prs s' ∧ K s') op:=by
 obtain ⟨v,h1,h2,h3⟩:=addr_dist ha h
 refine h3 _ ⟨hP.chain fun p hp=>⟨(hk p hp).1,fun e=>?_⟩,h1⟩
 obtain ⟨j',hj,hm⟩:=(hk p hp).2 e
 rw [ha] at hj
 cases hj
 exact h2 _ (hP _ hm)
theorem vun_keep {prs:List (Nat × Nat)} {s:S} {dst:Option Nat} {op:Op} (hP:PP prs s) (hk:∀ p ∈ prs,dst ≠ some p.2 ∧ (dst = some p.1 → ∃ j,addrSrc op = some j ∧ (j,p.2) ∈ prs)):PP prs (s.put dst vun):=hP.chain fun p hp=>⟨(hk p hp).1,fun _=>rfl⟩
theorem exec1_keep2 {dsts:List (Option Nat)} {prs:List (Nat × Nat)} {o:Oper} {s:S} {K:S → Prop} (hP:PP prs s) (hk:keepP prs o) (h:exec1 real dsts o s K):exec1 real dsts o s (fun s'=>PP prs s' ∧ K s'):=by
 cases ha:addrSrc o.op with
 | none=>exact exec1_keep hP (free_of_keep hk ha) h
 | some j =>
  obtain ⟨dst,op,type,pos,after,gd⟩:=o
  simp only at ha
  have hst:∀ {K:S → Prop},step real false s dst K op → step real false s dst (fun s'=>PP prs s' ∧ K s') op:=fun {K} h=>addr_keep ha hP hk h
  cases gd with
  | none=>exact hst h
  | some jb =>
   obtain ⟨j,b⟩:=jb
   have h':guard s dsts j (fun
    | some c=>match bEq c b with
     | true=>step real false s dst K op
     | false=>K (s.put dst vun)
    | none=>K (s.put dst vun)):=h
   obtain ⟨c,h1,h2⟩:=guard_pt h'
   have hv:PP prs (s.put dst vun):=vun_keep (op:=op) hP hk
   show guard s dsts j (fun
    | some c=>match bEq c b with
     | true=>step real false s dst (fun s'=>PP prs s' ∧ K s') op
     | false=>PP prs (s.put dst vun) ∧ K (s.put dst vun)
    | none=>PP prs (s.put dst vun) ∧ K (s.put dst vun))
   refine h2 _ ?_
   cases c with
   | none=>exact ⟨hv,h1⟩
   | some c =>
    simp only at h1 ⊢
    cases hb:bEq c b with
    | true=>rw [hb] at h1;exact hst h1
    | false=>rw [hb] at h1;exact ⟨hv,h1⟩
def apartL (dsts:List (Option Nat)) (prs:List (Nat × Nat)) (x y:Oper):Bool:=match ldSlot x,stSlot dsts y with
 | some i,some k=>prs.contains (i,k) && notIn x.dst (looks dsts y)
 | _,_=>false
theorem ldSlot_is {x:Oper} {i:Nat} (h:ldSlot x = some i):∃ d t ty p a,x = ⟨d,.load t (.tmp i),ty,p,a,none⟩:=by
 unfold ldSlot at h
 split at h
 ·have h:=Option.some.inj h
  subst h
  exact ⟨_,_,_,_,_,rfl⟩
 ·cases h
theorem stSlot_is {dsts:List (Option Nat)} {y:Oper} {k:Nat} (h:stSlot dsts y = some k):∃ t z ty p a,y = ⟨none,.store t (.tmp k) z,ty,p,a,none⟩:=by
 unfold stSlot at h
 split at h
 ·split at h
  ·cases h
  ·have h:=Option.some.inj h
   subst h
   exact ⟨_,_,_,_,_,rfl⟩
 ·cases h
theorem getO_set {o:O}:∀ {l:List O} {m j:Nat},j ≠ m → getO (setO l m o) j = getO l j
 | [],m,j,_=>rfl
 | x :: l,0,0,h=>absurd rfl h
 | x :: l,0,j + 1,_=>rfl
 | x :: l,m + 1,0,_=>rfl
 | x :: l,m + 1,j + 1,h=>by rw [setO,getO,getO,getO_set (fun e=>h (by rw [e]))]
theorem getO_set_same {o:O}:∀ {l:List O} {m:Nat},getO l m ≠ .dead → getO (setO l m o) m = o
 | [],m,h=>absurd rfl h
 | x :: l,0,_=>rfl
 | x :: l,m + 1,h=>by rw [setO,getO];rw [getO] at h;exact getO_set_same h
theorem store_shape {s:S} {K:S → Prop} {t:Nat} {y x:V} (h:storeV real s K t y x):∃ m b,((∃ off cs cs',x = .ptr m off ∧ getO s.o m = .box cs ∧ b = .box cs') ∨ (∃ i z off e rows rows',x = .el m i z off ∧ getO s.o m = .row false e rows ∧ b = .row false e rows')) ∧ K ⟨s.t,setO s.o m b⟩ ∧ ∀ (t':List V) (K':S → Prop),K' ⟨t',setO s.o m b⟩ → storeV real ⟨t',s.o⟩ K' t y x:=by
 unfold storeV at h
 split at h <;> try exact h.elim
 ·rename_i k off
  split at h <;> try exact h.elim
  rename_i cs hok
  split at h <;> try exact h.elim
  rename_i l hl
  split at h <;> try exact h.elim
  rename_i hsz
  split at h <;> try exact h.elim
  rename_i cs' hcs
  refine ⟨k,_,.inl ⟨off,cs,cs',rfl,hok,rfl⟩,h,fun t' K' hk=>?_⟩
  unfold storeV
  simp only [hok,hl,hsz,hcs]
  exact hk
 ·rename_i k i sz off
  split at h <;> try exact h.elim
  rename_i e rows hok
  split at h <;> try exact h.elim
  rename_i hsz
  split at h <;> try exact h.elim
  rename_i row hrow
  split at h <;> try exact h.elim
  rename_i l hl
  split at h <;> try exact h.elim
  rename_i ds hds
  split at h <;> try exact h.elim
  rename_i hlen
  split at h <;> try exact h.elim
  rename_i row' hrow'
  refine ⟨k,_,.inr ⟨i,sz,off,e,rows,_,rfl,hok,rfl⟩,h,fun t' K' hk=>?_⟩
  unfold storeV
  simp only [hok,hsz,hrow,hl,hds,hlen,hrow']
  exact hk
theorem load_obj {os os':List O} {K:V → Prop} {t:Nat} {x:V} (hx:∀ j,((∃ o,x = .ptr j o) ∨ ∃ i z o,x = .el j i z o) → getO os' j = getO os j):loadV real os K t x = loadV real os' K t x:=by
 cases x <;> try rfl
 case ptr k off=>simp only [loadV,hx k (.inl ⟨off,rfl⟩)]
 case el k i z off=>simp only [loadV,hx k (.inr ⟨i,z,off,rfl⟩)]
theorem load_live {os:List O} {K:V → Prop} {t:Nat} {x:V} (h:loadV real os K t x):(∀ j o,x = .ptr j o → ∃ cs,getO os j = .box cs) ∧ ∀ j i z o,x = .el j i z o → ∃ zz e rows,getO os j = .row zz e rows:=by
 refine ⟨fun j o e=>?_,fun j i z o e=>?_⟩
 ·subst e
  simp only [loadV] at h
  split at h <;> first | exact ⟨_,by assumption⟩ | exact h.elim
 ·subst e
  simp only [loadV] at h
  split at h <;> first | exact ⟨_,_,_,by assumption⟩ | exact h.elim
theorem swapG {dsts:List (Option Nat)} {prs:List (Nat × Nat)} {x y:Oper} (h:apartL dsts prs x y = true) {s:S} (hP:PP prs s) {K:S → Prop} (hx:exec1 real dsts x s fun s=>exec1 real dsts y s K):exec1 real dsts y s fun s=>exec1 real dsts x s K:=by
 unfold apartL at h
 split at h <;> try cases h
 rename_i i k hi hk
 obtain ⟨d,t,ty1,p1,a1,rfl⟩:=ldSlot_is hi
 obtain ⟨t2,z,ty2,p2,a2,rfl⟩:=stSlot_is hk
 simp only [Bool.and_eq_true,List.contains_iff_mem] at h
 have hd:=hP _ h.1
 have hx':loadV real s.o (fun v=>exec1 real dsts ⟨none,.store t2 (.tmp k) z,ty2,p2,a2,none⟩ (s.put d v) K) t (getN s.t i):=hx
 have hlive:=load_live hx'
 obtain ⟨v,h1,h2⟩:=load_pt _ hx'
 have hs:Same (looks dsts ⟨none,.store t2 (.tmp k) z,ty2,p2,a2,none⟩) s (s.put d v):=same_put (notIn_is h.2)
 have hops:=hs.ops (xs:=[.tmp k,z]) fun t ht=>by simp [looks,Op.operands];simpa using ht
 have h3:storeV real (s.put d v) K t2 ((s.put d v).get z) ((s.put d v).get (.tmp k)):=h1
 rw [hops z (by simp),hops (.tmp k) (by simp)] at h3
 obtain ⟨m,b,hsh,h4,h5⟩:=store_shape h3
 rw [put_o] at h4 h5 hsh
 have e0:s = ⟨s.t,s.o⟩:=rfl
 show storeV real s (fun s=>exec1 real dsts ⟨d,.load t (.tmp i),ty1,p1,a1,none⟩ s K) t2 (s.get z) (s.get (.tmp k))
 rw [e0]
 have h5:=h5 s.t (fun s=>exec1 real dsts ⟨d,.load t (.tmp i),ty1,p1,a1,none⟩ s K) ?_
 ·have e1:(⟨s.t,(s.put d v).o⟩:S) = s:=by rw [put_o]
  exact e1 ▸ h5
 show loadV real (setO s.o m b) (fun v=>K (S.put ⟨s.t,setO s.o m b⟩ d v)) t (getN s.t i)
 rw [← load_obj (os:=s.o) (fun j hj=>?_)]
 ·refine h2 _ ?_
  rw [← put_obj s.t s.o]
  exact h4
 ·refine getO_set fun e=>?_
  subst e
  have hd':distB (getN s.t i) (s.get (.tmp k)) = true:=hd
  rcases hsh with ⟨off,cs,cs',hy,ho,_⟩ | ⟨i',z',off,e,rows,rows',hy,ho,_⟩
  ·rw [hy] at hd'
   rcases hj with ⟨o,hj⟩ | ⟨i2,z2,o,hj⟩
   ·rw [hj] at hd'
    simp only [distB] at hd'
    rw [eqN_is.2 rfl] at hd'
    cases hd'
   ·obtain ⟨zz,e',rows,he⟩:=hlive.2 _ _ _ _ hj
    rw [ho] at he
    cases he
  ·rw [hy] at hd'
   rcases hj with ⟨o,hj⟩ | ⟨i2,z2,o,hj⟩
   ·obtain ⟨cs,he⟩:=hlive.1 _ _ hj
    rw [ho] at he
    cases he
   ·rw [hj] at hd'
    simp only [distB] at hd'
    rw [eqN_is.2 rfl] at hd'
    cases hd'
theorem swapH {dsts:List (Option Nat)} {prs:List (Nat × Nat)} {x y:Oper} (h:apartL dsts prs x y = true) {s:S} (hP:PP prs s) {K:S → Prop} (hy:exec1 real dsts y s fun s=>exec1 real dsts x s K):exec1 real dsts x s fun s=>exec1 real dsts y s K:=by
 unfold apartL at h
 split at h <;> try cases h
 rename_i i k hi hk
 obtain ⟨d,t,ty1,p1,a1,rfl⟩:=ldSlot_is hi
 obtain ⟨t2,z,ty2,p2,a2,rfl⟩:=stSlot_is hk
 simp only [Bool.and_eq_true,List.contains_iff_mem] at h
 have hd:distB (getN s.t i) (s.get (.tmp k)) = true:=hP _ h.1
 have hy':storeV real s (fun s=>exec1 real dsts ⟨d,.load t (.tmp i),ty1,p1,a1,none⟩ s K) t2 (s.get z) (s.get (.tmp k)):=hy
 obtain ⟨m,b,hsh,h4,h5⟩:=store_shape hy'
 have h4:loadV real (setO s.o m b) (fun v=>K (S.put ⟨s.t,setO s.o m b⟩ d v)) t (getN s.t i):=h4
 have hlive:=load_live h4
 rw [← load_obj (os:=s.o) (fun j hj=>?_)] at h4
 ·obtain ⟨v,h6,h7⟩:=load_pt _ h4
  show loadV real s.o (fun v=>exec1 real dsts ⟨none,.store t2 (.tmp k) z,ty2,p2,a2,none⟩ (s.put d v) K) t (getN s.t i)
  refine h7 _ ?_
  have hs:Same (looks dsts ⟨none,.store t2 (.tmp k) z,ty2,p2,a2,none⟩) s (s.put d v):=same_put (notIn_is h.2)
  have hops:=hs.ops (xs:=[.tmp k,z]) fun t ht=>by simp [looks,Op.operands];simpa using ht
  show storeV real (s.put d v) K t2 ((s.put d v).get z) ((s.put d v).get (.tmp k))
  rw [hops z (by simp),hops (.tmp k) (by simp)]
  have e1:s.put d v = ⟨(s.put d v).t,s.o⟩:=by cases d <;> rfl
  rw [e1]
  refine h5 _ _ ?_
  rw [← put_obj s.t s.o] at h6
  exact h6
 ·refine getO_set fun e=>?_
  subst e
  rcases hsh with ⟨off,cs,cs',hy,ho,hb⟩ | ⟨i',z',off,e,rows,rows',hy,ho,hb⟩
  ·rw [hy] at hd
   rcases hj with ⟨o,hj⟩ | ⟨i2,z2,o,hj⟩
   ·rw [hj] at hd
    simp only [distB] at hd
    rw [eqN_is.2 rfl] at hd
    cases hd
   ·obtain ⟨zz,e',rows,he⟩:=hlive.2 _ _ _ _ hj
    rw [getO_set_same (by rw [ho];simp),hb] at he
    cases he
  ·rw [hy] at hd
   rcases hj with ⟨o,hj⟩ | ⟨i2,z2,o,hj⟩
   ·obtain ⟨cs,he⟩:=hlive.1 _ _ hj
    rw [getO_set_same (by rw [ho];simp),hb] at he
    cases he
   ·rw [hj] at hd
    simp only [distB] at hd
    rw [eqN_is.2 rfl] at hd
    cases hd
def ixSlot:Oper → Option Nat
 | ⟨_,.indexAddr _ (.tmp i) _,_,_,_,none⟩=>some i
 | _=>none
theorem ixSlot_is {x:Oper} {i:Nat} (h:ixSlot x = some i):∃ d t y ty p a,x = ⟨d,.indexAddr t (.tmp i) y,ty,p,a,none⟩:=by
 unfold ixSlot at h
 split at h
 ·have h:=Option.some.inj h
  subst h
  exact ⟨_,_,_,_,_,_,rfl⟩
 ·cases h
def apartI (dsts:List (Option Nat)) (prs:List (Nat × Nat)) (x y:Oper):Bool:=match ixSlot x,stSlot dsts y with
 | some i,some k=>prs.contains (i,k) && notIn x.dst (looks dsts y)
 | _,_=>false
theorem ix_obj {os os':List O} {K:V → Prop} {t:Nat} {x y:V} (hx:∀ j,x = .own j → getO os' j = getO os j):indexAddrV real os K t x y = indexAddrV real os' K t x y:=by
 have e1:rawV os' x = rawV os x:=by cases x <;> first | rfl | simp only [rawV,hx _ rfl]
 have e2:rowsV os' x = rowsV os x:=by cases x with | d x=>cases x <;> rfl | own j=>simp only [rowsV,hx j rfl] | _=>rfl
 unfold indexAddrV
 rw [e1,e2]
theorem ix_live {os:List O} {K:V → Prop} {t:Nat} {x y:V} (h:indexAddrV real os K t x y):∀ j,x = .own j → ∃ zz e rows,getO os j = .row zz e rows:=by
 intro j e
 subst e
 cases ho:getO os j with
 | row z e rows=>exact ⟨_,_,_,rfl⟩
 | _ =>
  exfalso
  simp only [indexAddrV,arrAddrV,bsV,rawV,rowsV,ho] at h
  repeat' split at h
  all_goals first | exact h | skip
theorem swapI {dsts:List (Option Nat)} {prs:List (Nat × Nat)} {x y:Oper} (h:apartI dsts prs x y = true) {s:S} (hP:PP prs s) {K:S → Prop} (hx:exec1 real dsts x s fun s=>exec1 real dsts y s K):exec1 real dsts y s fun s=>exec1 real dsts x s K:=by
 unfold apartI at h
 split at h <;> try cases h
 rename_i i k hi hk
 obtain ⟨d,t,zi,ty1,p1,a1,rfl⟩:=ixSlot_is hi
 obtain ⟨t2,z,ty2,p2,a2,rfl⟩:=stSlot_is hk
 simp only [Bool.and_eq_true,List.contains_iff_mem] at h
 have hd:=hP _ h.1
 have hx':indexAddrV real s.o (fun v=>exec1 real dsts ⟨none,.store t2 (.tmp k) z,ty2,p2,a2,none⟩ (s.put d v) K) t (getN s.t i) (s.get zi):=hx
 have hlive:=ix_live hx'
 obtain ⟨v,h1,h2⟩:=index_pt _ hx'
 have hs:Same (looks dsts ⟨none,.store t2 (.tmp k) z,ty2,p2,a2,none⟩) s (s.put d v):=same_put (notIn_is h.2)
 have hops:=hs.ops (xs:=[.tmp k,z]) fun t ht=>by simp [looks,Op.operands];simpa using ht
 have h3:storeV real (s.put d v) K t2 ((s.put d v).get z) ((s.put d v).get (.tmp k)):=h1
 rw [hops z (by simp),hops (.tmp k) (by simp)] at h3
 obtain ⟨m,b,hsh,h4,h5⟩:=store_shape h3
 rw [put_o] at h4 h5 hsh
 have e0:s = ⟨s.t,s.o⟩:=rfl
 show storeV real s (fun s=>exec1 real dsts ⟨d,.indexAddr t (.tmp i) zi,ty1,p1,a1,none⟩ s K) t2 (s.get z) (s.get (.tmp k))
 rw [e0]
 have h5:=h5 s.t (fun s=>exec1 real dsts ⟨d,.indexAddr t (.tmp i) zi,ty1,p1,a1,none⟩ s K) ?_
 ·have e1:(⟨s.t,(s.put d v).o⟩:S) = s:=by rw [put_o]
  exact e1 ▸ h5
 show indexAddrV real (setO s.o m b) (fun v=>K (S.put ⟨s.t,setO s.o m b⟩ d v)) t (getN s.t i) (S.get ⟨s.t,setO s.o m b⟩ zi)
 rw [show S.get ⟨s.t,setO s.o m b⟩ zi = s.get zi by cases zi <;> rfl,← ix_obj (os:=s.o) (fun j hj=>?_)]
 ·refine h2 _ ?_
  rw [← put_obj s.t s.o]
  exact h4
 ·refine getO_set fun e=>?_
  subst e
  have hd':distB (getN s.t i) (s.get (.tmp k)) = true:=hd
  obtain ⟨zz,e',rows,he⟩:=hlive _ hj
  rcases hsh with ⟨off,cs,cs',hy,ho,_⟩ | ⟨i',z',off,e,rows,rows',hy,ho,_⟩
  ·rw [ho] at he
   cases he
  ·rw [hy,hj] at hd'
   simp only [distB] at hd'
   rw [eqN_is.2 rfl] at hd'
   cases hd'
theorem swapJ {dsts:List (Option Nat)} {prs:List (Nat × Nat)} {x y:Oper} (h:apartI dsts prs x y = true) {s:S} (hP:PP prs s) {K:S → Prop} (hy:exec1 real dsts y s fun s=>exec1 real dsts x s K):exec1 real dsts x s fun s=>exec1 real dsts y s K:=by
 unfold apartI at h
 split at h <;> try cases h
 rename_i i k hi hk
 obtain ⟨d,t,zi,ty1,p1,a1,rfl⟩:=ixSlot_is hi
 obtain ⟨t2,z,ty2,p2,a2,rfl⟩:=stSlot_is hk
 simp only [Bool.and_eq_true,List.contains_iff_mem] at h
 have hd:distB (getN s.t i) (s.get (.tmp k)) = true:=hP _ h.1
 have hy':storeV real s (fun s=>exec1 real dsts ⟨d,.indexAddr t (.tmp i) zi,ty1,p1,a1,none⟩ s K) t2 (s.get z) (s.get (.tmp k)):=hy
 obtain ⟨m,b,hsh,h4,h5⟩:=store_shape hy'
 have h4:indexAddrV real (setO s.o m b) (fun v=>K (S.put ⟨s.t,setO s.o m b⟩ d v)) t (getN s.t i) (S.get ⟨s.t,setO s.o m b⟩ zi):=h4
 rw [show S.get ⟨s.t,setO s.o m b⟩ zi = s.get zi by cases zi <;> rfl] at h4
 have hlive:=ix_live h4
 rw [← ix_obj (os:=s.o) (fun j hj=>?_)] at h4
 ·obtain ⟨v,h6,h7⟩:=index_pt _ h4
  show indexAddrV real s.o (fun v=>exec1 real dsts ⟨none,.store t2 (.tmp k) z,ty2,p2,a2,none⟩ (s.put d v) K) t (getN s.t i) (s.get zi)
  refine h7 _ ?_
  have hs:Same (looks dsts ⟨none,.store t2 (.tmp k) z,ty2,p2,a2,none⟩) s (s.put d v):=same_put (notIn_is h.2)
  have hops:=hs.ops (xs:=[.tmp k,z]) fun t ht=>by simp [looks,Op.operands];simpa using ht
  show storeV real (s.put d v) K t2 ((s.put d v).get z) ((s.put d v).get (.tmp k))
  rw [hops z (by simp),hops (.tmp k) (by simp)]
  have e1:s.put d v = ⟨(s.put d v).t,s.o⟩:=by cases d <;> rfl
  rw [e1]
  refine h5 _ _ ?_
  rw [← put_obj s.t s.o] at h6
  exact h6
 ·refine getO_set fun e=>?_
  subst e
  obtain ⟨zz,e',rows,he⟩:=hlive _ hj
  rcases hsh with ⟨off,cs,cs',hy,ho,hb⟩ | ⟨i',z',off,e,rows,rows',hy,ho,hb⟩
  ·rw [getO_set_same (by rw [ho];simp),hb] at he
   cases he
  ·rw [hy,hj] at hd
   simp only [distB] at hd
   rw [eqN_is.2 rfl] at hd
   cases hd
def apart2 (dsts:List (Option Nat)) (prs:List (Nat × Nat)) (x y:Oper):Bool:=apart dsts x y || apartL dsts prs x y || apartL dsts prs y x || apartI dsts prs x y || apartI dsts prs y x
theorem swap2 {dsts:List (Option Nat)} {prs:List (Nat × Nat)} {x y:Oper} (h:apart2 dsts prs x y = true) {s:S} (hP:PP prs s) {K:S → Prop} (hx:exec1 real dsts x s fun s=>exec1 real dsts y s K):exec1 real dsts y s fun s=>exec1 real dsts x s K:=by
 simp only [apart2,Bool.or_eq_true] at h
 rcases h with (((h | h) | h) | h) | h
 ·exact swap1 h hx
 ·exact swapG h hP hx
 ·exact swapH h hP hx
 ·exact swapI h hP hx
 ·exact swapJ h hP hx
theorem exec1_mono2 {dsts:List (Option Nat)} {o:Oper} {s:S} {K K':S → Prop} (hK:∀ s,K s → K' s) (h:exec1 real dsts o s K):exec1 real dsts o s K':=by
 obtain ⟨dst,op,type,pos,after,gd⟩:=o
 cases gd with
 | none=>exact step_mono hK h
 | some jb =>
  obtain ⟨j,b⟩:=jb
  have h':guard s dsts j (fun
   | some c=>match bEq c b with
    | true=>step real false s dst K op
    | false=>K (s.put dst vun)
   | none=>K (s.put dst vun)):=h
  obtain ⟨c,h1,h2⟩:=guard_pt h'
  show guard s dsts j (fun
   | some c=>match bEq c b with
    | true=>step real false s dst K' op
    | false=>K' (s.put dst vun)
   | none=>K' (s.put dst vun))
  refine h2 _ ?_
  cases c with
  | none=>exact hK _ h1
  | some c =>
   simp only at h1 ⊢
   cases hb:bEq c b with
   | true=>rw [hb] at h1;exact step_mono hK h1
   | false=>rw [hb] at h1;exact hK _ h1
def plainD (all:List Oper) (i:Nat):Prop:=isTot all i = false ∧ beside all i = none
theorem execD_no {dsts:List (Option Nat)} {all:List Oper} {i:Nat} (h:plainD all i) (o:Oper) (s:S) (K:S → Prop):execD real dsts all i o s K = exec1 real dsts o s K:=by
 have hst:∀ (s:S) (dst:Option Nat) (K:S → Prop) (op:Op),stepD real all i s dst K op = step real false s dst K op:=fun s dst K op=>by
  unfold stepD
  split
  ·split
   ·rw [h.1,h.2]
   ·rfl
  ·rfl
 obtain ⟨dst,op,type,pos,after,gd⟩:=o
 cases gd with
 | none=>exact hst s dst K op
 | some jb =>
  obtain ⟨j,b⟩:=jb
  unfold execD
  simp only [hst]
  rfl
def runI (dsts:List (Option Nat)) (all:List Oper):List Nat → S → (S → Prop) → Prop
 | [],s,K=>K s
 | i :: l,s,K=>match all[i]? with
  | some o=>execD real dsts all i o s (fun s=>runI dsts all l s K)
  | none=>runI dsts all l s K
theorem runI_is {dsts:List (Option Nat)} {all:List Oper}:∀ (l:List Oper) (i:Nat) (s:S) (K:S → Prop),all.drop i = l → runD real dsts all i l s K → runI dsts all (List.range' i l.length) s K
 | [],i,s,K,_,h=>h
 | o :: l,i,s,K,hl,h=>by
  have hi:i < all.length:=by
   rcases Nat.lt_or_ge i all.length with h1 | h1
   ·exact h1
   ·rw [List.drop_eq_nil_of_le h1] at hl;cases hl
  rw [List.drop_eq_getElem_cons hi] at hl
  injection hl with h1 h2
  rw [List.length_cons,List.range'_succ,runI,List.getElem?_eq_getElem hi,h1]
  simp only
  rw [runD] at h
  refine execD_mono (fun s hs=>?_) h
  exact runI_is l (i + 1) s K h2 hs
where
 execD_mono {dsts:List (Option Nat)} {all:List Oper} {i:Nat} {o:Oper} {s:S} {K K':S → Prop} (hK:∀ s,K s → K' s) (h:execD real dsts all i o s K):execD real dsts all i o s K':=by
  have hst:∀ {s:S} {dst:Option Nat} {op:Op},stepD real all i s dst K op → stepD real all i s dst K' op:=fun {s dst op} h=>by
   unfold stepD at h ⊢
   split at h
   ·split at h
    ·split at h
     ·exact SoundO.mono h fun v o' ks hk=>hK _ hk
     ·split at h
      ·exact SoundX.mono h fun v o' hk=>⟨hk.1,hK _ hk.2⟩
      ·exact step_mono hK h
    ·exact step_mono hK h
   ·exact step_mono hK h
  obtain ⟨dst,op,type,pos,after,gd⟩:=o
  cases gd with
  | none=>exact hst h
  | some jb =>
   obtain ⟨j,b⟩:=jb
   have h':guard s dsts j (fun
    | some c=>match bEq c b with
     | true=>stepD real all i s dst K op
     | false=>K (s.put dst vun)
    | none=>K (s.put dst vun)):=h
   obtain ⟨c,h1,h2⟩:=guard_pt h'
   show guard s dsts j (fun
    | some c=>match bEq c b with
     | true=>stepD real all i s dst K' op
     | false=>K' (s.put dst vun)
    | none=>K' (s.put dst vun))
   refine h2 _ ?_
   cases c with
   | none=>exact hK _ h1
   | some c =>
    simp only at h1 ⊢
    cases hb:bEq c b with
    | true=>rw [hb] at h1;exact hst h1
    | false=>rw [hb] at h1;exact hK _ h1
theorem distB_kls {ks:List Nat}:∀ {t:List V} {i j:Nat},distB (getN t i) (getN t j) = true → distB (getN (killTs ks t) i) (getN (killTs ks t) j) = true:=by
 induction ks with
 | nil=>intro t i j h;exact h
 | cons k ks ih =>
  intro t i j h
  rw [killTs]
  refine ih ?_
  rw [killT_get,killT_get]
  exact distB_kl (kk:=some k) h
theorem PP.called {prs:List (Nat × Nat)} {s:S} (h:PP prs s) {ks:List Nat} {d:Option Nat} {v:V} {o':List O} (hf:free prs d):PP prs (S.put ⟨killTs ks s.t,o'⟩ d v):=fun p hp=>by
 have key:∀ i,d ≠ some i → getN (S.put ⟨killTs ks s.t,o'⟩ d v).t i = getN (killTs ks s.t) i:=fun i hi=>by
  cases d with
  | none=>rfl
  | some x =>
   show getN (setN (killTs ks s.t) x v) i = _
   rw [getN_set (fun e=>hi (by rw [e]))]
 rw [key _ (hf p hp).1,key _ (hf p hp).2]
 exact distB_kls (h p hp)
theorem execD_keep {dsts:List (Option Nat)} {prs:List (Nat × Nat)} {all:List Oper} {i:Nat} {o:Oper} {s:S} {K:S → Prop} (hP:PP prs s) (hf:free prs o.dst) (h:execD real dsts all i o s K):execD real dsts all i o s (fun s'=>PP prs s' ∧ K s'):=by
 obtain ⟨dst,op,type,pos,after,gd⟩:=o
 have hst:∀ {K:S → Prop},stepD real all i s dst K op → stepD real all i s dst (fun s'=>PP prs s' ∧ K s') op:=fun {K} h=>by
  have h0:∀ {K:S → Prop} {op:Op},step real false s dst K op → step real false s dst (fun s'=>PP prs s' ∧ K s') op:=fun {K op} h=>step_mono (fun s' ⟨⟨kk,v,o',e⟩,hk⟩=>⟨by rw [e];exact hP.next hf,hk⟩) (step_shape h)
  unfold stepD at h ⊢
  split at h
  ·split at h
   ·split at h
    ·exact SoundO.mono h fun v o' ks hk=>⟨hP.called hf,hk⟩
    ·split at h
     ·exact SoundX.mono h fun v o' hk=>⟨hk.1,hP.called (ks:=[]) hf,hk.2⟩
     ·exact h0 h
   ·exact h0 h
  ·exact h0 h
 cases gd with
 | none=>exact hst h
 | some jb =>
  obtain ⟨j,b⟩:=jb
  have h':guard s dsts j (fun
   | some c=>match bEq c b with
    | true=>stepD real all i s dst K op
    | false=>K (s.put dst vun)
   | none=>K (s.put dst vun)):=h
  obtain ⟨c,h1,h2⟩:=guard_pt h'
  have hv:PP prs (s.put dst vun):=hP.next (kk:=none) (o':=s.o) hf
  show guard s dsts j (fun
   | some c=>match bEq c b with
    | true=>stepD real all i s dst (fun s'=>PP prs s' ∧ K s') op
    | false=>PP prs (s.put dst vun) ∧ K (s.put dst vun)
   | none=>PP prs (s.put dst vun) ∧ K (s.put dst vun))
  refine h2 _ ?_
  cases c with
  | none=>exact ⟨hv,h1⟩
  | some c =>
   simp only at h1 ⊢
   cases hb:bEq c b with
   | true=>rw [hb] at h1;exact hst h1
   | false=>rw [hb] at h1;exact ⟨hv,h1⟩
theorem execD_keep2 {dsts:List (Option Nat)} {prs:List (Nat × Nat)} {all:List Oper} {i:Nat} {o:Oper} {s:S} {K:S → Prop} (hP:PP prs s) (hk:keepP prs o) (h:execD real dsts all i o s K):execD real dsts all i o s (fun s'=>PP prs s' ∧ K s'):=by
 cases ha:addrSrc o.op with
 | none=>exact execD_keep hP (free_of_keep hk ha) h
 | some j =>
  have e:∀ K:S → Prop,execD real dsts all i o s K = exec1 real dsts o s K:=fun K=>by
   obtain ⟨dst,op,type,pos,after,gd⟩:=o
   simp only at ha
   have e1:∀ (s:S) (K:S → Prop),stepD real all i s dst K op = step real false s dst K op:=fun s K=>by
    unfold addrSrc at ha
    split at ha <;> first | rfl | cases ha
   cases gd with
   | none=>exact e1 s K
   | some jb =>
    obtain ⟨j,b⟩:=jb
    unfold execD
    simp only [e1]
    rfl
  rw [e] at h ⊢
  exact exec1_keep2 hP hk h
theorem run_front {dsts:List (Option Nat)} {prs:List (Nat × Nat)} {all:List Oper} {y:Nat} {oy:Oper} (hoy:all[y]? = some oy) (hty:plainD all y):∀ {pre post:List Nat} {s:S} {K:S → Prop},(∀ x ∈ pre,plainD all x ∧ ∀ ox,all[x]? = some ox → apart2 dsts prs ox oy = true ∧ keepP prs ox) → PP prs s → runI dsts all (pre ++ y :: post) s K → runI dsts all (y :: (pre ++ post)) s K
 | [],post,s,K,_,_,h=>h
 | x :: pre,post,s,K,ha,hP,h=>by
  rw [List.cons_append,runI] at h
  obtain ⟨hx,hxx⟩:=ha x (List.mem_cons_self ..)
  cases hox:all[x]? with
  | none =>
   rw [hox] at h
   have h1:=run_front hoy hty (fun z hz=>ha z (List.mem_cons_of_mem _ hz)) hP h
   rw [runI,hoy] at h1 ⊢
   simp only at h1 ⊢
   refine runI_is.execD_mono (fun s hs=>?_) h1
   rw [List.cons_append,runI,hox]
   exact hs
  | some ox =>
   rw [hox] at h
   simp only at h
   obtain ⟨hap,hf⟩:=hxx ox hox
   rw [execD_no hx] at h
   have h2:exec1 real dsts ox s fun s=>exec1 real dsts oy s fun s=>runI dsts all (pre ++ post) s K:=exec1_mono2 (fun s hs=>by
    have:=run_front hoy hty (fun z hz=>ha z (List.mem_cons_of_mem _ hz)) hs.1 hs.2
    rw [runI,hoy] at this
    simp only at this
    rw [execD_no hty] at this
    exact this) (exec1_keep2 hP hf h)
   rw [runI,hoy]
   simp only
   rw [execD_no hty]
   have h3:=swap2 hap hP h2
   refine exec1_mono2 (fun s hs=>?_) h3
   rw [List.cons_append,runI,hox]
   simp only
   rw [execD_no hx]
   exact hs
theorem besideL_at {dsts:List (Option Nat)} {an:List (List Nat)} {i:Nat} {oi:Oper}:∀ {l:List Oper} {j:Nat} {r:List Nat},besideL dsts an i oi j l = some r → ∀ (m:Nat) (o:Oper),l[m]? = some o → j + m ≠ i →
  (j + m < i → (an.getD i []).contains (j + m) = true ∨ ((notIn o.dst (looks dsts oi) && notIn oi.dst (looks dsts o) && (o.dst.isNone || o.dst != oi.dst)) = true ∧ ∃ ks,besideOk dsts o = some ks ∧ ∀ k ∈ ks,k ∈ r)) ∧ (i < j + m → (an.getD (j + m) []).contains i = true)
 | [],j,r,h,m,o,hm,_=>by simp at hm
 | x :: l,j,r,h,m,o,hm,hne=>by
  rw [besideL] at h
  cases m with
  | zero =>
   simp at hm
   subst hm
   rw [Nat.add_zero] at hne ⊢
   rw [show Nat.beq j i = false by rw [← Bool.not_eq_true,Nat.beq_eq];exact hne] at h
   simp only at h
   split at h
   ·rename_i hlt
    rw [Nat.blt_eq] at hlt
    refine ⟨fun _=>?_,fun h'=>by omega⟩
    split at h
    ·exact .inl (by assumption)
    ·split at h
     ·rename_i hn
      split at h
      ·rename_i ks hks
       split at h
       ·rename_i ms hms
        have h:=Option.some.inj h
        exact .inr ⟨hn,ks,hks,fun k hk=>by rw [← h];exact List.mem_append_left _ hk⟩
       ·cases h
      ·cases h
     ·cases h
   ·rename_i hlt
    have hlt:¬ j < i:=fun h=>by rw [← Nat.blt_eq] at h;rw [h] at hlt;cases hlt
    refine ⟨fun h'=>absurd h' hlt,fun _=>?_⟩
    split at h
    ·assumption
    ·cases h
  | succ m =>
   have hm:l[m]? = some o:=by simpa using hm
   have e:j + (m + 1) = j + 1 + m:=by omega
   rw [e] at hne ⊢
   have fin:∀ {r':List Nat},besideL dsts an i oi (j + 1) l = some r' → (∀ k ∈ r',k ∈ r) → _:=fun {r'} h' hr=>by
    obtain ⟨h1,h2⟩:=besideL_at h' m o hm hne
    exact (⟨fun hl=>(h1 hl).imp id fun ⟨h3,ks,h4,h5⟩=>⟨h3,ks,h4,fun k hk=>hr k (h5 k hk)⟩,h2⟩:(j + 1 + m < i → (an.getD i []).contains (j + 1 + m) = true ∨ ((notIn o.dst (looks dsts oi) && notIn oi.dst (looks dsts o) && (o.dst.isNone || o.dst != oi.dst)) = true ∧ ∃ ks,besideOk dsts o = some ks ∧ ∀ k ∈ ks,k ∈ r)) ∧ (i < j + 1 + m → (an.getD (j + 1 + m) []).contains i = true))
   split at h
   ·exact fin h fun _ hk=>hk
   ·split at h
    ·split at h
     ·exact fin h fun _ hk=>hk
     ·split at h
      ·split at h
       ·split at h
        ·rename_i ms hms
         have h:=Option.some.inj h
         exact fin hms fun k hk=>by rw [← h];exact List.mem_append_right _ hk
        ·cases h
       ·cases h
      ·cases h
    ·split at h
     ·exact fin h fun _ hk=>hk
     ·cases h
theorem beside_is {all:List Oper} {i:Nat} {l:List Nat} (h:beside all i = some l):∃ dst x args ts ty p a,all[i]? = some ⟨dst,.call ⟨.value x,args,ts⟩,ty,p,a,none⟩ ∧ besideL (dstsOf all) (ancs all []) i ⟨dst,.call ⟨.value x,args,ts⟩,ty,p,a,none⟩ 0 all = some l:=by
 unfold beside at h
 split at h
 ·rename_i oi hoi
  have h1:=take1_is hoi
  split at h
  ·rename_i hc
   rw [Bool.and_eq_true] at hc
   obtain ⟨dst,op,ty,p,a,g⟩:=oi
   obtain ⟨hc1,hc2⟩:=hc
   simp only at hc1 hc2
   obtain rfl:g = none:=Option.isNone_iff_eq_none.1 hc2
   unfold isCallV at hc1
   split at hc1
   ·exact ⟨_,_,_,_,_,_,_,h1,h⟩
   ·cases hc1
  ·cases h
 ·cases h
theorem dsts_mem:∀ {l:List Oper} {o:Oper},o ∈ l → o.dst ∈ dstsOf l
 | [],o,h=>by simp at h
 | x :: l,o,h=>by
  rw [dstsOf]
  rcases List.mem_cons.1 h with rfl | h
  ·exact List.mem_cons_self ..
  ·exact List.mem_cons_of_mem _ (dsts_mem h)
theorem inD_mem:∀ {l:List (Option Nat)} {i:Nat},some i ∈ l → inD l i = true
 | [],i,h=>by simp at h
 | none :: l,i,h=>by rw [inD];exact inD_mem (by simpa using h)
 | some x :: l,i,h=>by
  rw [inD]
  split
  ·rfl
  ·rename_i hx
   rcases List.mem_cons.1 h with h | h
   ·have h:=Option.some.inj h
    rw [eqN_is.2 h.symm] at hx
    cases hx
   ·exact inD_mem h
theorem besideL_free {dsts:List (Option Nat)} {an:List (List Nat)} {i:Nat} {oi:Oper}:∀ {l:List Oper} {j:Nat} {r:List Nat},besideL dsts an i oi j l = some r → ∀ k ∈ r,inD dsts k = false
 | [],j,r,h,k,hk=>by rw [besideL] at h;have h:=Option.some.inj h;subst h;simp at hk
 | x :: l,j,r,h,k,hk=>by
  rw [besideL] at h
  split at h
  ·exact besideL_free h k hk
  ·split at h
   ·split at h
    ·exact besideL_free h k hk
    ·split at h
     ·split at h
      ·rename_i ks hks
       split at h
       ·rename_i ms hms
        have h:=Option.some.inj h
        subst h
        rcases List.mem_append.1 hk with hk | hk
        ·unfold besideOk at hks
         split at hks
         ·split at hks
          ·cases hks
          ·rename_i hin
           have hks:=Option.some.inj hks
           subst hks
           rw [List.mem_singleton.1 hk]
           exact hin
         ·split at hks
          ·have hks:=Option.some.inj hks
           subst hks
           simp at hk
          ·cases hks
        ·exact besideL_free hms k hk
       ·cases h
      ·cases h
     ·cases h
   ·split at h
    ·exact besideL_free h k hk
    ·cases h
theorem swapX {all:List Oper} {prs:List (Nat × Nat)} {y:Nat} {oy ox:Oper} {l ks:List Nat} (hoy:all[y]? = some oy) (hty:isTot all y = false) (hby:beside all y = some l) (hn:(notIn ox.dst (looks (dstsOf all) oy) && notIn oy.dst (looks (dstsOf all) ox) && (ox.dst.isNone || ox.dst != oy.dst)) = true) (hk:besideOk (dstsOf all) ox = some ks) (hkl:∀ k ∈ ks,k ∈ l) (hap:apart2 (dstsOf all) prs ox oy = true) (hxm:ox ∈ all)
  {s:S} (hP:PP prs s) {R:S → Prop} (h:exec1 real (dstsOf all) ox s fun s=>execD real (dstsOf all) all y oy s R):execD real (dstsOf all) all y oy s fun s=>exec1 real (dstsOf all) ox s R:=by
 obtain ⟨dst,x,args,ts,ty,p,a,hoy',_⟩:=beside_is hby
 rw [hoy] at hoy'
 have hoy':=Option.some.inj hoy'
 subst hoy'
 simp only [Bool.and_eq_true] at hn
 obtain ⟨⟨hn1,hn2⟩,hn3⟩:=hn
 have pt:∃ v,execD real (dstsOf all) all y ⟨dst,.call ⟨.value x,args,ts⟩,ty,p,a,none⟩ (s.put ox.dst v) R ∧ ∀ (s':S) (K':S → Prop),SameT (looks (dstsOf all) ox) s s' → keepsL l s.t s.o s'.o → K' (s'.put ox.dst v) → exec1 real (dstsOf all) ox s' K':=by
  unfold besideOk at hk
  split at hk
  ·rename_i d t k ty' p' a'
   split at hk
   ·cases hk
   have hk:=Option.some.inj hk
   subst hk
   obtain ⟨v,h1,h2⟩:=load_pt _ (show loadV real s.o (fun v=>execD real (dstsOf all) all y ⟨dst,.call ⟨.value x,args,ts⟩,ty,p,a,none⟩ (s.put d v) R) t (getN s.t k) from h)
   refine ⟨v,h1,fun s' K' hs hkp hk'=>?_⟩
   show loadV real s'.o (fun v=>K' (s'.put d v)) t (getN s'.t k)
   have hsl:getN s'.t k = getN s.t k:=hs k (by simp [looks,Op.operands,tmps])
   rw [hsl,← load_obj (os:=s.o) (fun j hj=>?_)]
   ·exact h2 _ hk'
   ·exact hkp k (hkl k (by simp)) j (by rcases hj with ⟨o,e⟩ | ⟨i,z,o,e⟩ <;> rw [e] <;> rfl)
  ·split at hk
   ·rename_i hb
    obtain ⟨v,h1,h2⟩:=blind_pt hb h
    exact ⟨v,h1,fun s' K' hs _ hk'=>h2 s' K' hs hk'⟩
   ·cases hk
 obtain ⟨v,h1,h2⟩:=pt
 have hsT:SameT (looks (dstsOf all) ⟨dst,.call ⟨.value x,args,ts⟩,ty,p,a,none⟩) s (s.put ox.dst v):=same_putT hn1
 have hops:∀ z ∈ (Op.call ⟨.value x,args,ts⟩).operands.toList,(s.put ox.dst v).get z = s.get z:=fun z hz=>by
  cases z with
  | tmp i =>
   show getN (s.put ox.dst v).t i = getN s.t i
   exact hsT i (by unfold looks;exact List.mem_append_right _ (tmps_mem hz))
  | _=>rfl
 have hget:(s.put ox.dst v).get x = s.get x:=hops x (by simp [Op.operands,Call.operands])
 have hgets:∀ l:List Operand,(∀ z ∈ l,z ∈ (Op.call ⟨.value x,args,ts⟩).operands.toList) → getVs (s.put ox.dst v).get l = getVs s.get l:=by
  intro l
  induction l with
  | nil=>intro _;rfl
  | cons z l ih=>intro hz;rw [getVs,getVs,hops z (hz z (List.mem_cons_self ..)),ih fun z' h'=>hz z' (List.mem_cons_of_mem _ h')]
 have hargs:getVs (s.put ox.dst v).get args.toList = getVs s.get args.toList:=hgets _ fun z hz=>by
  have hz:z ∈ args:=by simpa using hz
  simp [Op.operands,Call.operands,hz]
 have ho:(s.put ox.dst v).o = s.o:=put_o ..
 have hturn:turns (isTot all y) (s.put ox.dst v) x args.toList = turns (isTot all y) s x args.toList:=by
  unfold turns
  rw [hget,hargs,ho]
 have e0:∀ (s:S) (R:S → Prop),execD real (dstsOf all) all y ⟨dst,.call ⟨.value x,args,ts⟩,ty,p,a,none⟩ s R = match turns (isTot all y) s x args.toList with
   | some (f,vs)=>real.callx f vs l s (fun v s'=>R (s'.put dst v))
   | none=>exec1 real (dstsOf all) ⟨dst,.call ⟨.value x,args,ts⟩,ty,p,a,none⟩ s R:=fun s R=>by
  show stepD real all y s dst R (.call ⟨.value x,args,ts⟩) = _
  rw [stepD]
  cases turns (isTot all y) s x args.toList with
  | none=>rfl
  | some fv=>obtain ⟨f,vs⟩:=fv;simp only [hty,hby]
 rw [e0] at h1 ⊢
 rw [hturn] at h1
 cases hT:turns (isTot all y) s x args.toList with
 | none =>
  rw [hT] at h1
  simp only at h1 ⊢
  refine swap2 hap hP ?_
  exact h2 s (fun s=>exec1 real (dstsOf all) ⟨dst,.call ⟨.value x,args,ts⟩,ty,p,a,none⟩ s R) (fun _ _=>rfl) (fun _ _ _ _=>rfl) h1
 | some fv =>
  obtain ⟨f,vs⟩:=fv
  rw [hT] at h1
  simp only at h1 ⊢
  have h1:SoundX f vs (s.put ox.dst v).o fun u o'=>keepsL l (s.put ox.dst v).t (s.put ox.dst v).o o' ∧ R (S.put ⟨(s.put ox.dst v).t,o'⟩ dst u):=h1
  rw [ho] at h1
  refine SoundX.mono h1 fun u o' ⟨hkp,hR⟩=>?_
  have hkp':keepsL l s.t s.o o':=fun i hi k hik=>by
   by_cases hd:ox.dst = some i
   ·-- a loaded variable's slot is not filled here
    exfalso
    obtain ⟨_,_,_,_,_,_,_,_,hbl⟩:=beside_is hby
    have h5:=besideL_free hbl i hi
    rw [inD_mem (by rw [← hd];exact dsts_mem hxm)] at h5
    cases h5
   ·refine hkp i hi k ?_
    rw [show getN (s.put ox.dst v).t i = getN s.t i by
     cases hxd:ox.dst with
     | none=>rfl
     | some d=>exact getN_set fun e=>hd (by rw [hxd,e])]
    exact hik
  refine ⟨hkp',h2 _ R (fun t ht=>?_) (by rw [put_o];exact hkp') ?_⟩
  ·cases hd:dst with
   | none=>rfl
   | some d=>exact getN_set fun e=>by subst e;exact notIn_is hn2 _ hd ht
  ·have hcm:(S.put ⟨s.t,o'⟩ dst u).put ox.dst v = S.put ⟨(s.put ox.dst v).t,o'⟩ dst u:=by
    rw [put_comm (fun z hz hz'=>by
     rw [Bool.or_eq_true] at hn3
     rcases hn3 with h | h
     ·rw [hz'] at h;cases h
     ·rw [hz',hz] at h;simp at h)]
    cases ox.dst <;> rfl
   rw [hcm]
   exact hR
theorem run_frontX {prs:List (Nat × Nat)} {all:List Oper} {y:Nat} {oy:Oper} {l:List Nat} (hoy:all[y]? = some oy) (hty:isTot all y = false) (hby:beside all y = some l):∀ {pre post:List Nat} {s:S} {K:S → Prop},(∀ x ∈ pre,plainD all x ∧ ∀ ox,all[x]? = some ox → apart2 (dstsOf all) prs ox oy = true ∧ keepP prs ox ∧ (notIn ox.dst (looks (dstsOf all) oy) && notIn oy.dst (looks (dstsOf all) ox) && (ox.dst.isNone || ox.dst != oy.dst)) = true ∧ ∃ ks,besideOk (dstsOf all) ox = some ks ∧ ∀ k ∈ ks,k ∈ l) → PP prs s → runI (dstsOf all) all (pre ++ y :: post) s K → runI (dstsOf all) all (y :: (pre ++ post)) s K
 | [],post,s,K,_,_,h=>h
 | x :: pre,post,s,K,ha,hP,h=>by
  rw [List.cons_append,runI] at h
  obtain ⟨hx,hxx⟩:=ha x (List.mem_cons_self ..)
  cases hox:all[x]? with
  | none =>
   rw [hox] at h
   have h1:=run_frontX hoy hty hby (fun z hz=>ha z (List.mem_cons_of_mem _ hz)) hP h
   rw [runI,hoy] at h1 ⊢
   simp only at h1 ⊢
   refine runI_is.execD_mono (fun s hs=>?_) h1
   rw [List.cons_append,runI,hox]
   exact hs
  | some ox =>
   rw [hox] at h
   simp only at h
   obtain ⟨hap,hf,hn,ks,hks,hkl⟩:=hxx ox hox
   rw [execD_no hx] at h
   have h2:exec1 real (dstsOf all) ox s fun s=>execD real (dstsOf all) all y oy s fun s=>runI (dstsOf all) all (pre ++ post) s K:=exec1_mono2 (fun s hs=>by
    have:=run_frontX hoy hty hby (fun z hz=>ha z (List.mem_cons_of_mem _ hz)) hs.1 hs.2
    rw [runI,hoy] at this
    exact this) (exec1_keep2 hP hf h)
   rw [runI,hoy]
   simp only
   have h3:=swapX (prs:=prs) hoy hty hby hn hks hkl hap (List.mem_of_getElem? hox) hP h2
   refine runI_is.execD_mono (fun s hs=>?_) h3
   rw [List.cons_append,runI,hox]
   simp only
   rw [execD_no hx]
   exact hs
def okPair (dsts:List (Option Nat)) (prs:List (Nat × Nat)) (ops:List Oper) (an:List (List Nat)) (j i:Nat):Bool:=(an.getD i []).contains j || match ops[j]?,ops[i]? with | some x,some y=>apart2 dsts prs x y | _,_=>true
def okDraw (ops:Array Oper):Bool :=
 let l:=ops.toList
 let an:=ancs l []
 let d:=dstsOf l
 l.all (keepB (lsPairs l)) && (List.range l.length).all fun i=>(an.getD i []).all (fun j=>Nat.blt j i) && (List.range i).all fun j=>okPair d (lsPairs l) l an j i
theorem ancs_pre:∀ (l:List Oper) (acc:List (List Nat)) (i:Nat),i < acc.length → (ancs l acc)[i]? = acc[i]?
 | [],acc,i,_=>rfl
 | o :: l,acc,i,h=>by rw [ancs,ancs_pre l _ i (by simp;omega),List.getElem?_append_left h]
theorem ancs_at:∀ (l:List Oper) (acc:List (List Nat)) (i:Nat) (o:Oper),l[i]? = some o → (ancs l acc)[acc.length + i]? = some ((direct o).flatMap fun j=>j :: (if j < acc.length + i then (ancs l acc).getD j [] else []))
 | [],acc,i,o,h=>by simp at h
 | x :: l,acc,0,o,h=>by
  simp at h
  subst h
  rw [ancs,Nat.add_zero,ancs_pre l _ _ (by simp),List.getElem?_append_right (Nat.le_refl _)]
  simp only [Nat.sub_self,List.getElem?_cons_zero,Option.some.injEq]
  congr 1
  funext j
  congr 1
  split
  ·rename_i hj
   rw [List.getD_eq_getElem?_getD,List.getD_eq_getElem?_getD,ancs_pre l _ j (by simp;omega),List.getElem?_append_left hj]
  ·rename_i hj
   rw [List.getD_eq_getElem?_getD,List.getElem?_eq_none (by omega)]
   rfl
 | x :: l,acc,i + 1,o,h=>by
  have:=ancs_at l (acc ++ [(direct x).flatMap fun j=>j :: acc.getD j []]) i o (by simpa using h)
  rw [ancs]
  have e:(acc ++ [(direct x).flatMap fun j=>j :: acc.getD j []]).length + i = acc.length + (i + 1):=by simp;omega
  rw [e] at this
  exact this
section
variable {I0:Nat → Nat → Prop} {X:Nat → Prop} {w0:W0} {s:S} {a:Act} {w:World}
theorem op_ok {ro:Option Nat} {n:Nat} {ops:Array Oper} {Q:Exit → Act → World → Prop} {o:Oper} (hop:okOp Tryz.prog o.op = true) (h:Rel I0 X w0 s a w) {K1:S → Prop} {ix:Nat} (hx:execD real (dstsOf ops.toList) ops.toList ix o s K1) {Kw:Act → World → Prop} (hKw:∀ s' a' w',Rel I0 X w0 s' a' w' → K1 s' → Kw a' w'):if Region.wanted o (yielded ops a.tmps) then o.wpIn (FW ro) n Tryz.prog a w Kw Q else (∀ f,o.about Tryz.prog w a.eval = some f → (FW ro).fn f) ∧ Kw (a.put o.dst undef) w:=by
 obtain ⟨dst,op,type,pos,after,gd⟩:=o
 have hstep:stepD real ops.toList ix s dst K1 op → Oper.wpIn (FW ro) n Tryz.prog ⟨dst,op,type,pos,after,gd⟩ a w Kw Q:=fun hs=>by
  obtain ⟨I,g,h⟩:=h
  have h0:step real false s dst K1 op → Oper.wpIn (FW ro) n Tryz.prog ⟨dst,op,type,pos,after,gd⟩ a w Kw Q:=fun hs=>op_in (fun c hc=>no_defer hop c hc) (Oper.wp_mono (fun a' w' ⟨s',h1,h2⟩=>hKw s' a' w' h1 h2) (step_ok h (o:=⟨dst,op,type,pos,after,gd⟩) (Q:=Q) hop hs))
  unfold stepD at hs
  split at hs
  ·rename_i x args ts
   split at hs
   ·rename_i f vs hf
    split at hs
    ·unfold turns at hf
     split at hf <;> try cases hf
     rename_i f' ks hfn
     replace hf:some (f',appV (getVs s.get args.toList) (caps ks)) = some (f,vs):=by
      split at hf
      ·exact hf
      ·split at hf
       ·cases hf
       ·exact hf
     injection hf with hf
     injection hf with e1 e2
     subst e1
     obtain ⟨cs,hc1,hc2⟩:=fnX_at h hfn
     refine op_in (fun c hc=>no_defer hop c hc) (Oper.wp_mono (fun a' w' ⟨s',h1,h2⟩=>hKw s' a' w' h1 h2) (callo_ok h (o:=⟨dst,.call ⟨.value x,args,ts⟩,type,pos,after,gd⟩) (fun hf=>enter_run (cs:=cs) rfl hc1 hf) ?_ hs))
     rw [← e2,appV_is]
     exact (h.gets args.toList).append hc2
    ·split at hs
     ·unfold turns at hf
      split at hf <;> try cases hf
      rename_i f' ks hfn
      replace hf:some (f',appV (getVs s.get args.toList) (caps ks)) = some (f,vs):=by
       split at hf
       ·exact hf
       ·split at hf
        ·cases hf
        ·exact hf
      injection hf with hf
      injection hf with e1 e2
      subst e1
      obtain ⟨cs,hc1,hc2⟩:=fnX_at h hfn
      refine op_in (fun c hc=>no_defer hop c hc) (Oper.wp_mono (fun a' w' ⟨s',h1,h2⟩=>hKw s' a' w' h1 h2) (callx_ok h (o:=⟨dst,.call ⟨.value x,args,ts⟩,type,pos,after,gd⟩) (fun hf=>enter_run (cs:=cs) rfl hc1 hf) ?_ hs))
      rw [← e2,appV_is]
      exact (h.gets args.toList).append hc2
     ·exact h0 hs
   ·exact h0 hs
  ·exact h0 hs
 have hskip:K1 (s.put dst vun) → Kw (a.put dst undef) w:=fun hs=>by
  obtain ⟨I,g,h⟩:=h
  exact hKw _ _ w ⟨I,g,h.put (x:=vun) (.tu [] [] rfl (fun i u c hu _=>by simp at hu)) dst⟩ hs
 cases gd with
 | none =>
  rw [if_pos (by rfl)]
  exact hstep hx
 | some jb =>
  obtain ⟨j,b⟩:=jb
  have hx':guard s (dstsOf ops.toList) j (fun
   | some c=>match bEq c b with
    | true=>stepD real ops.toList ix s dst K1 op
    | false=>K1 (s.put dst vun)
   | none=>K1 (s.put dst vun)):=hx
  obtain ⟨c,hc,hK⟩:=guard_at h hx'
  have hw:Region.wanted ⟨dst,op,type,pos,after,some (j,b)⟩ (yielded ops a.tmps) = (c == some b):=by simp [Region.wanted,hc]
  rw [hw]
  cases c with
  | none =>
   rw [if_neg (by simp)]
   exact ⟨fun _ _=>trivial,hskip hK⟩
  | some c =>
   simp only at hK
   split at hK
   ·rename_i hb
    rw [bEq_is] at hb
    rw [if_pos (by simpa using hb)]
    exact hstep hK
   ·rename_i hb
    rw [bEq_is] at hb
    rw [if_neg (by simpa using hb)]
    exact ⟨fun _ _=>trivial,hskip hK⟩
theorem an_at {ops:Array Oper} {i:Nat} {o:Oper} (h:ops[i]? = some o) (hlt:∀ j ∈ (ancs ops.toList []).getD i [],j < i):(ancs ops.toList []).getD i [] = (direct o).flatMap fun j=>j :: (ancs ops.toList []).getD j []:=by
 have h1:=ancs_at ops.toList [] i o (by simpa using h)
 simp only [List.length_nil,Nat.zero_add] at h1
 have h2:(ancs ops.toList []).getD i [] = (direct o).flatMap fun j=>j :: (if j < i then (ancs ops.toList []).getD j [] else []):=by
  rw [List.getD_eq_getElem?_getD,h1];rfl
 have h3:∀ j ∈ direct o,j < i:=fun j hj=>hlt j (by rw [h2];exact List.mem_flatMap.2 ⟨j,hj,List.mem_cons_self ..⟩)
 rw [h2,List.flatMap_def,List.flatMap_def]
 congr 1
 exact List.map_congr_left fun j hj=>by rw [if_pos (h3 j hj)]
theorem direct_mem {o:Oper} {e:Edge} (he:e ∈ o.after) (hb:Region.binds .any e = true):e.on ∈ direct o:=List.mem_map.2 ⟨e,List.mem_filter.2 ⟨by simpa using he,hb⟩,rfl⟩
theorem draw_go {ro:Option Nat} {n:Nat} {ops:Array Oper} {Q:Exit → Act → World → Prop} {K:S → Prop} (hQ:∀ s' a' w',Rel I0 X w0 s' a' w' → K s' → Q .normal a' w') (hok:okOps Tryz.prog ops.toList = true) (hd:okDraw ops = true) (hfree:∀ o ∈ ops.toList,keepP (lsPairs ops.toList) o):∀ (fuel:Nat) (l:List Nat) (listed:Array Bool) (s:S) (a:Act) (w:World),l.length = fuel → listed.size = ops.size → l.Pairwise (· < ·) → (∀ i,i ∈ l ↔ i < ops.size ∧ listed.getD i true = false) → (∀ i,i < ops.size → listed.getD i false = true → ∀ j ∈ (ancs ops.toList []).getD i [],listed.getD j false = true) → Rel I0 X w0 s a w → PP (lsPairs ops.toList) s → runI (dstsOf ops.toList) ops.toList l s K → wpAnyIn (FW ro) n Tryz.prog .any ops Q fuel listed a w:=by
 have hd':∀ i,i < ops.size → (∀ j ∈ (ancs ops.toList []).getD i [],j < i) ∧ ∀ j,j < i → okPair (dstsOf ops.toList) (lsPairs ops.toList) ops.toList (ancs ops.toList []) j i = true:=fun i hi=>by
  have h1:=List.all_eq_true.1 (Bool.and_eq_true_iff.1 hd).2 i (by simpa using hi)
  rw [Bool.and_eq_true] at h1
  exact ⟨fun j hj=>by simpa [Nat.blt_eq] using List.all_eq_true.1 h1.1 j hj,fun j hj=>List.all_eq_true.1 h1.2 j (by simpa using hj)⟩
 intro fuel
 induction fuel with
 | zero =>
  intro l listed s a w hl hsz hp hmem hcl hrel hPP hK
  obtain rfl:=List.length_eq_zero_iff.1 hl
  refine ⟨?_,hQ _ _ _ hrel hK⟩
  cases hr:Region.ready .any ops listed with
  | nil=>rfl
  | cons x xs =>
   obtain ⟨h1,o,h2,_⟩:=mem_ready.1 (show x ∈ Region.ready .any ops listed by rw [hr];exact List.mem_cons_self ..)
   have:=(hmem x).2 ⟨(Array.getElem?_eq_some_iff.1 h2).1,h1⟩
   simp at this
 | succ fuel ih =>
  intro l listed s a w hl hsz hp hmem hcl hrel hPP hK
  have un:∀ j,j ∈ l → listed.getD j false = true → False:=fun j hj h=>by
   obtain ⟨h1,h2⟩:=(hmem j).1 hj
   simp [hsz,h1] at h h2
   rw [h2] at h;cases h
  refine ⟨fun hr=>?_,fun i hi=>?_⟩
  ·exfalso
   cases l with
   | nil=>simp at hl
   | cons i0 rest =>
    obtain ⟨h1,h2⟩:=(hmem i0).1 (List.mem_cons_self ..)
    obtain ⟨o,ho⟩:∃ o,ops[i0]? = some o:=⟨_,Array.getElem?_eq_getElem h1⟩
    have:i0 ∈ Region.ready .any ops listed:=mem_ready.2 ⟨h2,o,ho,fun e he hb=>by
     have h3:e.on ∈ (ancs ops.toList []).getD i0 []:=by
      rw [an_at ho (hd' i0 h1).1]
      exact List.mem_flatMap.2 ⟨e.on,direct_mem he hb,List.mem_cons_self ..⟩
     have h4:=(hd' i0 h1).1 _ h3
     have h5:¬ (e.on ∈ i0 :: rest):=fun hm=>by
      rcases List.mem_cons.1 hm with hm | hm
      ·omega
      ·have:=(List.pairwise_cons.1 hp).1 _ hm
       omega
     have h6:listed.getD e.on true = true:=by
      cases hx:listed.getD e.on true with
      | true=>rfl
      | false=>exact absurd ((hmem e.on).2 ⟨by omega,hx⟩) h5
     have hlt:e.on < listed.size:=by omega
     simpa [hlt] using h6⟩
    rw [hr] at this
    simp at this
  ·obtain ⟨h1,o,ho,hall⟩:=mem_ready.1 hi
   have hlt:=(Array.getElem?_eq_some_iff.1 ho).1
   have hil:i ∈ l:=(hmem i).2 ⟨hlt,h1⟩
   have han:∀ j ∈ (ancs ops.toList []).getD i [],listed.getD j false = true:=fun j hj=>by
    rw [an_at ho (hd' i hlt).1] at hj
    obtain ⟨k,hk,hj⟩:=List.mem_flatMap.1 hj
    obtain ⟨e,he,hek⟩:=List.mem_map.1 hk
    obtain ⟨he1,he2⟩:=List.mem_filter.1 he
    subst hek
    have h3:=hall e (by simpa using he1) he2
    rcases List.mem_cons.1 hj with rfl | hj
    ·exact h3
    ·have:e.on < ops.size:=by
      rcases Nat.lt_or_ge e.on listed.size with h' | h'
      ·omega
      ·simp [Array.getElem?_eq_none h'] at h3
     exact hcl _ this h3 j hj
   obtain ⟨pre,post,rfl⟩:=List.append_of_mem hil
   have hpp:=List.pairwise_append.1 hp
   have hot:ops.toList[i]? = some o:=by rw [Array.getElem?_toList];exact ho
   have hpre:∀ j ∈ pre,j < i ∧ j ∉ (ancs ops.toList []).getD i []:=fun j hj=>⟨hpp.2.2 j hj i (List.mem_cons_self ..),fun hm=>un j (List.mem_append_left _ hj) (han j hm)⟩
   have tot:∀ k,isTot ops.toList k = true → k < ops.size → ∀ j,j < ops.size → j ≠ k → (j < k → j ∈ (ancs ops.toList []).getD k []) ∧ (k < j → k ∈ (ancs ops.toList []).getD j []):=fun k hk hks j hj hjk=>by
    have h3:=List.all_eq_true.1 hk j (by simpa using hj)
    simp only [Bool.or_eq_true,Bool.and_eq_true,Nat.beq_eq,Nat.blt_eq,List.contains_iff_mem] at h3
    rcases h3 with (h3 | h3) | h3
    ·exact absurd h3 hjk
    ·exact ⟨fun _=>h3.2,fun h=>by omega⟩
    ·exact ⟨fun h=>by omega,fun _=>h3.2⟩
   have hf:runI (dstsOf ops.toList) ops.toList (i :: (pre ++ post)) s K:=by
    cases hti:isTot ops.toList i with
    | true =>
     have:pre = []:=by
      cases pre with
      | nil=>rfl
      | cons j pre =>
       obtain ⟨h3,h4⟩:=hpre j (List.mem_cons_self ..)
       exact absurd ((tot i hti hlt j (by omega) (by omega)).1 h3) h4
     subst this
     exact hK
    | false =>
     have hpl:∀ j ∈ pre,plainD ops.toList j:=fun j hj=>by
      obtain ⟨hji,hja⟩:=hpre j hj
      refine ⟨?_,?_⟩
      ·cases htj:isTot ops.toList j with
       | false=>rfl
       | true=>exact absurd ((tot j htj (by omega) i hlt (by omega)).2 hji) hja
      ·cases hbj:beside ops.toList j with
       | none=>rfl
       | some r =>
        exfalso
        obtain ⟨_,_,_,_,_,_,_,_,hbl⟩:=beside_is hbj
        have h4:=(besideL_at hbl i o hot (by omega)).2 (by omega)
        rw [Nat.zero_add] at h4
        exact hja (by simpa using h4)
     have hap:∀ j ∈ pre,∀ ox,ops.toList[j]? = some ox → apart2 (dstsOf ops.toList) (lsPairs ops.toList) ox o = true:=fun j hj ox hox=>by
      obtain ⟨hji,hja⟩:=hpre j hj
      have h3:=(hd' i hlt).2 j hji
      rw [okPair,Bool.or_eq_true] at h3
      rcases h3 with h3 | h3
      ·exact absurd (by simpa using h3) hja
      ·rw [hox,hot] at h3
       exact h3
     cases hbi:beside ops.toList i with
     | none=>exact run_front (prs:=lsPairs ops.toList) hot ⟨hti,hbi⟩ (fun j hj=>⟨hpl j hj,fun ox hox=>⟨hap j hj ox hox,hfree ox (List.mem_of_getElem? hox)⟩⟩) hPP hK
     | some r =>
      refine run_frontX (prs:=lsPairs ops.toList) hot hti hbi (fun j hj=>⟨hpl j hj,fun ox hox=>⟨hap j hj ox hox,hfree ox (List.mem_of_getElem? hox),?_⟩⟩) hPP hK
      obtain ⟨hji,hja⟩:=hpre j hj
      obtain ⟨_,_,_,_,_,_,_,hoi,hbl⟩:=beside_is hbi
      rw [hot] at hoi
      have hoi:=Option.some.inj hoi
      subst hoi
      have h4:=(besideL_at hbl j ox hox (by omega)).1 (by omega)
      rw [Nat.zero_add] at h4
      rcases h4 with h4 | ⟨h5,ks,h6,h7⟩
      ·exact absurd (by simpa using h4) hja
      ·exact ⟨h5,ks,h6,h7⟩
   rw [runI,hot] at hf
   simp only at hf
   have hom:o ∈ ops.toList:=List.mem_of_getElem? hot
   have hf:=execD_keep2 hPP (hfree o hom) hf
   have key:=op_ok (ro:=ro) (n:=n) (Q:=Q) (List.all_eq_true.1 hok o (List.mem_of_getElem? (by rw [Array.getElem?_toList];exact ho))) hrel hf (Kw:=wpAnyIn (FW ro) n Tryz.prog .any ops Q fuel (listed.setIfInBounds i true)) (fun s' a' w' hrel' hK'=>by
    refine ih (pre ++ post) _ s' a' w' (by simp at hl ⊢;omega) (by simpa using hsz) ?_ (fun k=>?_) (fun k hk hkl j hj=>?_) hrel' hK'.1 hK'.2
    ·exact List.pairwise_append.2 ⟨hpp.1,(List.pairwise_cons.1 hpp.2.1).2,fun x hx y hy=>hpp.2.2 x hx y (List.mem_cons_of_mem _ hy)⟩
    ·by_cases hik:i = k
     ·subst hik
      refine ⟨fun hm=>?_,fun hm=>?_⟩
      ·rcases List.mem_append.1 hm with hm | hm
       ·have:=hpp.2.2 _ hm i (List.mem_cons_self ..)
        omega
       ·have:=(List.pairwise_cons.1 hpp.2.1).1 _ hm
        omega
      ·have h6:=hm.2
       have hlt':i < listed.size:=by omega
       simp [hlt'] at h6
     ·rw [getD_set_ne true hik,← hmem k]
      simp only [List.mem_append,List.mem_cons]
      exact ⟨fun h=>h.imp id .inr,fun h=>h.imp id fun h=>h.resolve_left fun e=>hik e.symm⟩
    ·by_cases hik:i = k
     ·subst hik
      exact getD_set_true (han j hj)
     ·rw [getD_set_ne false hik] at hkl
      exact getD_set_true (hcl k hk hkl j hj))
   unfold wpOpIn
   rw [ho]
   simp only
   split at key
   ·rename_i hw
    rw [if_pos hw]
    exact key
   ·rename_i hw
    rw [if_neg hw]
    exact key
theorem draw_ok {ro:Option Nat} {n:Nat} {ops:Array Oper} {Q:Exit → Act → World → Prop} {K:S → Prop} (hQ:∀ s' a' w',Rel I0 X w0 s' a' w' → K s' → Q .normal a' w') (hok:okOps Tryz.prog ops.toList = true) (hd:okDraw ops = true) (h:Rel I0 X w0 s a w) (hpre:preOk (lsPairs ops.toList) s.t = true) (hK:runD real (dstsOf ops.toList) ops.toList 0 ops.toList s K):wpAnyIn (FW ro) n Tryz.prog .any ops Q ops.size (Array.replicate ops.size false) a w:=by
 refine draw_go hQ hok hd (fun o ho=>keepB_is (List.all_eq_true.1 (Bool.and_eq_true_iff.1 hd).1 o ho)) ops.size (List.range ops.size) _ s a w (by simp) (by simp) List.pairwise_lt_range (fun i=>?_) (fun i hi h=>?_) h (pp_of hpre) ?_
 ·rw [List.mem_range]
  exact ⟨fun hi=>⟨hi,by simp [hi]⟩,fun h=>h.1⟩
 ·simp [hi] at h
 ·have h3:=runI_is ops.toList 0 s K (by simp) hK
  rw [← List.range_eq_range'] at h3
  simpa using h3
end
end
end Go.Proofs.YtahpnackkmbmgaaGreat.Vm
end
