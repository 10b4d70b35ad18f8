/- Part 4 of the proof: VConc. Conditions: none. -/
import Derived.Test.YtahpnackkmbmgaaGreatDoorK3
set_option linter.all false
set_option linter.unusedVariables false
set_option linter.unusedSimpArgs false
section
namespace Go.Proofs.YtahpnackkmbmgaaGreatDoor.Vm
open Go.RowKit
section
def PtG {α:Type} (T:(α → Prop) → Prop):Prop:=∀ K,T K → ∃ v,K v ∧ ∀ K',K' v → T K'
theorem Pt.g {T:(V → Prop) → Prop} (h:Pt T):PtG T:=h
theorem PtG.mono {α:Type} {T:(α → Prop) → Prop} (h:PtG T) {K K':α → Prop} (hT:T K) (hK:∀ v,K v → K' v):T K':=by
 obtain ⟨v,h1,h2⟩:=h K hT
 exact h2 K' (hK v h1)
structure Ok (a:Ar):Prop where
 wrap:a.wrap = real.wrap
 add:a.add = real.add
 sub:a.sub = real.sub
 mul:a.mul = real.mul
 quo:a.quo = real.quo
 rem:a.rem = real.rem
 bits:a.bits = real.bits
 lt:a.lt = real.lt
 le:a.le = real.le
 eq:a.eq = real.eq
 nz:∀ y k,a.nz y k → real.nz y k
 nzp:∀ y k k',a.nz y k → k' → a.nz y k'
 seq:a.seq = real.seq
 slt:a.slt = real.slt
 bytes:a.bytes = real.bytes
 cat:a.cat = real.cat
 fits:∀ x y k,a.fits x y k → real.fits x y k
 fitsp:∀ x y k k',a.fits x y k → k' → a.fits x y k'
 slen:a.slen = real.slen
 sget:a.sget = real.sget
 ssub:a.ssub = real.ssub
 txt:a.txt = real.txt
 byt:a.byt = real.byt
 nat:a.nat = real.nat
 len:a.len = real.len
 get:a.get = real.get
 sub2:a.sub2 = real.sub2
 app:a.app = real.app
 set:a.set = real.set
 room:∀ x y k,a.room x y k → real.room x y k
 roomp:∀ x y k k',a.room x y k → k' → a.room x y k'
 mlook:a.mlook = real.mlook
 mput:a.mput = real.mput
 deq:a.deq = real.deq
 call:∀ f rs K,a.call f rs K → real.call f rs K
 callp:∀ f rs,PtG (a.call f rs)
 calld:∀ f vs o K,a.calld f vs o K → real.calld f vs o K
 calldp:∀ f vs o,PtG (a.calld f vs o)
 rep:∀ n z K,a.rep n z K → real.rep n z K
 repp:∀ n z,PtG (a.rep n z)
 callo:∀ f vs s K,a.callo f vs s K → real.callo f vs s K
 callop:∀ f vs s,PtG fun K:V × S → Prop=>a.callo f vs s fun v s'=>K (v,s')
 callx:∀ f vs l s K,a.callx f vs l s K → real.callx f vs l s K
 callxp:∀ f vs l s,PtG fun K:V × S → Prop=>a.callx f vs l s fun v s'=>K (v,s')
 new:∀ e K,a.new e K → real.new e K
 newp:∀ e,PtG (a.new e)
 lit:∀ t K,a.lit t K → real.lit t K
 litp:∀ t,PtG (a.lit t)
 next:∀ N s,a.next N s → N s
 nextp:∀ N s,N s → a.next N s
 ext:∀ op dst s K,¬ a.ext op dst s K
 reg:∀ ops s K,¬ a.reg ops s K
 loop:∀ c body s K,a.loop c body s K → (∀ s K K',(∀ x s,K x s → K' x s) → body s K → body s K') → loopR Eq body s K
 loopp:∀ c body s,(∀ s,PtG fun K:X × S → Prop=>body s fun x s=>K (x,s)) → PtG fun K:X × S → Prop=>a.loop c body s fun x s=>K (x,s)
theorem real_rep {n:Int} {z:List D} {K K':List (List D) → Prop} (h:real.rep n z K) (hK:∀ b,K b → K' b):real.rep n z K':=⟨h.1,hK _ h.2⟩
theorem real_lit {e:Nat} {K K':Bool → Prop} (h:real.lit e K) (hK:∀ b,K b → K' b):real.lit e K':=by obtain ⟨z,h⟩:=h;exact ⟨z,hK _ h⟩
section
variable {a:Ar} (h:Ok a)
include h
theorem Ok.load:loadV a = loadV real:=by funext os K t x;unfold loadV;simp only [h.get]
theorem Ok.indexAddr:indexAddrV a = indexAddrV real:=by funext os K t x y;unfold indexAddrV;simp only [h.get,h.nat]
theorem Ok.index:indexV a = indexV real:=by funext K t x y;unfold indexV;simp only [h.sget,h.nat]
theorem Ok.un:unV a = unV real:=by funext op x K;unfold unV;simp only [h.wrap,h.sub]
theorem Ok.conv:convV a = convV real:=by funext K k0 k x;unfold convV convI convT convB;simp only [h.wrap,h.txt,h.byt]
theorem Ok.lenV:lenV a = lenV real:=by
 have e1:lenS a = lenS real:=by funext os K x;unfold lenS;simp only [h.len]
 have e2:lenT a = lenT real:=by funext K x;unfold lenT;simp only [h.slen]
 funext os K k x;unfold Vm.lenV;rw [e1,e2]
theorem Ok.slice:sliceV a = sliceV real:=by funext os K t x lo hi;unfold sliceV;simp only [h.slen,h.ssub,h.len,h.sub2]
theorem Ok.look:lookV a = lookV real:=by funext os K t ok x y;unfold lookV;simp only [h.mlook]
theorem Ok.min:minV a = minV real:=by funext K mx l;unfold minV;simp only [h.lt]
theorem Ok.store {s:S}:storeV a s = storeV real s:=by funext K t y x;unfold storeV;simp only [h.get,h.set]
theorem Ok.put {s:S}:putV a s = putV real s:=by funext K t x i v;unfold putV;simp only [h.mput]
theorem Ok.rInt {k:IntKind} {x y:Int} {K:V → Prop} {op:BinOp} (hx:binInt a k x y K op):Vm.binInt real k x y K op:=by
 unfold Vm.binInt at hx
 simp only [h.wrap,h.add,h.sub,h.mul,h.quo,h.rem,h.lt,h.le,h.eq] at hx
 split at hx <;> first | exact hx | exact hx.elim | exact h.nz _ _ hx
theorem Ok.rStr {x y:ByteArray} {K:V → Prop} {op:BinOp} (hx:binStr a x y K op):Vm.binStr real x y K op:=by
 unfold Vm.binStr at hx
 simp only [h.cat,h.seq,h.bytes,h.slt] at hx
 split at hx <;> first | exact hx | exact hx.elim | exact h.fits _ _ _ hx
theorem Ok.rIntp {k:IntKind} {x y:Int} {op:BinOp}:Pt fun K=>binInt a k x y K op:=by
 intro K hx
 unfold Vm.binInt at hx ⊢
 split at hx <;> first | exact hx.elim | exact ⟨_,hx,fun K' hk=>hk⟩ | exact ⟨_,(h.nz _ _ hx).2,fun K' hk=>h.nzp _ _ _ hx hk⟩
theorem Ok.rStrp {x y:ByteArray} {op:BinOp}:Pt fun K=>binStr a x y K op:=by
 intro K hx
 unfold Vm.binStr at hx ⊢
 split at hx <;> first | exact hx.elim | exact ⟨_,hx,fun K' hk=>hk⟩ | exact ⟨_,(h.fits _ _ _ hx).2,fun K' hk=>h.fitsp _ _ _ _ hx hk⟩
theorem Ok.rVal {x y:Value} {K:V → Prop} {op:BinOp} (hx:binVal a op x y K):binVal real op x y K:=by
 unfold binVal at hx ⊢
 split at hx
 ·split at hx
  ·rename_i hb
   rw [h.bits] at hx
   first | exact hx | (rw [hb];exact hx)
  ·rename_i hb
   split at hx
   ·rename_i hk
    first | exact h.rInt hx | (rw [hb,hk];exact h.rInt hx)
   ·exact hx.elim
 ·exact h.rStr hx
 ·exact hx.elim
theorem Ok.rValp {x y:Value} {op:BinOp}:Pt fun K=>binVal a op x y K:=by
 intro K hx
 unfold binVal at hx ⊢
 split at hx
 ·split at hx
  ·rename_i hb
   unfold optI at hx ⊢
   split at hx <;> try exact hx.elim
   rename_i hr
   exact ⟨_,hx,fun K' hk=>by first | exact hk | (rw [hb,hr];exact hk)⟩
  ·rename_i hb
   split at hx
   ·rename_i hk
    obtain ⟨v,h1,h2⟩:=h.rIntp K hx
    exact ⟨v,h1,fun K' hk'=>by first | exact h2 K' hk' | (rw [hb,hk];exact h2 K' hk')⟩
   ·exact hx.elim
 ·exact h.rStrp K hx
 ·exact hx.elim
theorem Ok.rBin {x y:V} {K:V → Prop} {op:BinOp} {t:Nat} (hx:binV a op t x y K):binV real op t x y K:=by
 unfold binV at hx ⊢
 split at hx
 ·split at hx
  ·exact hx
  ·exact hx
  ·exact h.rVal hx
 ·exact hx
 ·exact hx
 ·split at hx
  ·rw [h.len] at hx;exact h.nz _ _ hx
  ·exact hx
 ·exact hx
 ·rw [h.deq] at hx;exact hx
 ·exact hx
theorem Ok.rBinp {x y:V} {op:BinOp} {t:Nat}:Pt fun K=>binV a op t x y K:=by
 intro K hx
 unfold binV at hx ⊢
 split at hx <;> try exact hx.elim
 ·split at hx
  ·split at hx <;> try exact hx.elim
   exact nil_pt _ hx
  ·split at hx <;> try exact hx.elim
   exact nil_pt _ hx
  ·exact h.rValp _ hx
 ·split at hx <;> try exact hx.elim
  split at hx <;> try exact hx.elim
  exact nil_pt _ hx
 ·split at hx <;> try exact hx.elim
  split at hx <;> try exact hx.elim
  exact nil_pt _ hx
 ·split at hx <;> try exact hx.elim
  obtain ⟨v,h3,h4⟩:=nil_pt _ ((h.nz _ _ hx).2)
  exact ⟨v,h3,fun K' hk=>h.nzp _ _ _ hx (h4 _ hk)⟩
 ·split at hx <;> try exact hx.elim
  exact nil_pt _ hx
 ·split at hx <;> try exact hx.elim
  split at hx <;> try exact hx.elim
  split at hx <;> try exact hx.elim
  exact nil_pt _ hx
theorem Ok.rCall {os:List O} {f:Nat} {vs:List V} {K:V → Prop} (hx:callV a os K f vs):Vm.callV real os K f vs:=by
 unfold Vm.callV at hx ⊢
 split at hx
 ·exact h.call _ _ _ hx
 ·exact h.calld _ _ _ _ hx
theorem Ok.rCallp {os:List O} {f:Nat} {vs:List V}:Pt fun K=>callV a os K f vs:=by
 intro K hx
 unfold Vm.callV at hx ⊢
 split at hx
 ·obtain ⟨q,h1,h2⟩:=h.callp _ _ _ hx
  exact ⟨_,h1,fun K' hk=>h2 _ hk⟩
 ·obtain ⟨q,h1,h2⟩:=h.calldp _ _ _ _ hx
  exact ⟨_,h1,fun K' hk=>h2 _ hk⟩
theorem Ok.rC {g:Operand → V} {os:List O} {K:V → Prop} {op:Op} (hx:stepC a g os K op):Vm.stepC real g os K op:=by
 unfold Vm.stepC at hx
 split at hx <;> try exact hx.elim
 ·exact hx
 ·exact hx
 ·exact hx
 ·rw [h.load] at hx;exact hx
 ·exact hx
 ·exact hx
 ·rw [h.indexAddr] at hx;exact hx
 ·rw [h.index] at hx;exact hx
 ·exact h.rBin hx
 ·rw [h.un] at hx;exact hx
 ·rw [h.conv] at hx;exact hx
 ·exact hx
 ·exact hx
 ·exact hx
 ·rw [h.slice] at hx;exact hx
 ·rw [h.lenV] at hx;exact hx
 ·exact h.rCall hx
 ·rw [h.look] at hx;exact hx
 ·rw [h.min] at hx;exact hx
 ·rw [h.min] at hx;exact hx
 ·exact hx
 ·exact hx
 ·unfold callTV at hx
  split at hx <;> try exact hx.elim
  rename_i f ks hf
  show (match fnV _ with | some (f,ks)=>_ | none=>False)
  rw [hf]
  exact h.rCall hx
theorem Ok.rCp {g:Operand → V} {os:List O} {op:Op}:Pt fun K=>stepC a g os K op:=by
 intro K hx
 simp only [Vm.stepC] at hx ⊢
 split at hx <;> try exact hx.elim
 ·exact ⟨_,hx,fun K' hk=>hk⟩
 ·exact ⟨_,hx,fun K' hk=>hk⟩
 ·exact pick_pt K hx
 ·rw [h.load] at hx ⊢;exact load_pt K hx
 ·exact field_pt K hx
 ·exact part_pt K hx
 ·rw [h.indexAddr] at hx ⊢;exact index_pt K hx
 ·rw [h.index] at hx ⊢;exact sget_pt K hx
 ·exact h.rBinp K hx
 ·rw [h.un] at hx ⊢;exact un_pt K hx
 ·rw [h.conv] at hx ⊢;exact conv_pt K hx
 ·exact build_pt K hx
 ·exact buildSlice_pt K hx
 ·exact extract_pt K hx
 ·rw [h.slice] at hx ⊢;exact slice_pt K hx
 ·rw [h.lenV] at hx ⊢;exact len_pt K hx
 ·exact h.rCallp K hx
 ·rw [h.look] at hx ⊢;exact look_pt K hx
 ·rw [h.min] at hx ⊢;exact min_pt K hx
 ·rw [h.min] at hx ⊢;exact min_pt K hx
 ·exact nn_pt K hx
 ·split at hx <;> try exact hx.elim
  exact ⟨_,hx,fun K' hk=>by simp only [*]⟩
 ·simp only [callTV] at hx ⊢
  split at hx <;> try exact hx.elim
  exact h.rCallp K hx
theorem Ok.rApp {m:Bool} {s:S} {dst:Option Nat} {K:S → Prop} {t:Nat} {x y:V} (hx:appendV a m s dst K t x y):appendV real m s dst K t x y:=by
 unfold appendV at hx ⊢
 simp only [h.app] at hx
 repeat' split at hx
 all_goals first | exact hx.elim | exact ⟨(h.room _ _ _ hx).1,h.new _ _ (h.room _ _ _ hx).2⟩ | exact h.room _ _ _ hx
theorem Ok.rAppp {m:Bool} {s:S} {dst:Option Nat} {t:Nat} {x y:V}:PtG fun K=>appendV a m s dst K t x y:=by
 intro K hx
 simp only [appendV] at hx ⊢
 repeat' split at hx
 all_goals first | exact hx.elim | skip
 ·obtain ⟨z,h1,h2⟩:=h.newp _ _ (h.room _ _ _ hx).2
  exact ⟨_,h1,fun K' hk=>h.roomp _ _ _ _ hx (h2 _ hk)⟩
 ·exact ⟨_,(h.room _ _ _ hx).2,fun K' hk=>h.roomp _ _ _ _ hx hk⟩
theorem Ok.rLit {s:S} {dst:Option Nat} {K:S → Prop} {t n:Nat} {ps:List (Nat × Operand)} (hx:litV a s dst K t n ps):Vm.litV real s dst K t n ps:=by
 unfold Vm.litV at hx ⊢
 split at hx
 ·refine buildSlice_pt.g.mono hx fun v hv=>?_
  split at hv
  ·exact h.new _ _ hv
  ·exact hv.elim
 ·exact hx.elim
theorem Ok.rLitp {s:S} {dst:Option Nat} {t n:Nat} {ps:List (Nat × Operand)}:PtG fun K=>litV a s dst K t n ps:=by
 intro K hx
 simp only [Vm.litV] at hx ⊢
 split at hx
 ·obtain ⟨v,h1,h2⟩:=buildSlice_pt _ hx
  split at h1
  ·obtain ⟨z,h3,h4⟩:=h.newp _ _ h1
   exact ⟨_,h3,fun K' hk=>h2 _ (h4 _ hk)⟩
  ·exact h1.elim
 ·exact hx.elim
theorem Ok.rMk {s:S} {dst:Option Nat} {K:S → Prop} {t:Nat} {x y:V} (hx:mkSliceV a s dst K t x y):mkSliceV real s dst K t x y:=by
 unfold mkSliceV at hx ⊢
 simp only [h.eq] at hx
 repeat' split at hx
 all_goals first | exact hx.elim | skip
 exact real_rep (h.rep _ _ _ hx) fun rows hr=>h.new _ _ hr
theorem Ok.rMkp {s:S} {dst:Option Nat} {t:Nat} {x y:V}:PtG fun K=>mkSliceV a s dst K t x y:=by
 intro K hx
 simp only [mkSliceV] at hx ⊢
 repeat' split at hx
 all_goals first | exact hx.elim | skip
 obtain ⟨rows,h1,h2⟩:=h.repp _ _ _ hx
 obtain ⟨z,h3,h4⟩:=h.newp _ _ h1
 exact ⟨_,h3,fun K' hk=>h2 _ (h4 _ hk)⟩
theorem Ok.rStep {m:Bool} {s:S} {dst:Option Nat} {K:S → Prop} {op:Op} (hx:step a m s dst K op):Vm.step real m s dst K op:=by
 unfold Vm.step at hx
 split at hx
 ·exact hx
 ·exact hx
 ·split at hx
  ·rw [h.store] at hx;exact hx
  ·exact hx.elim
 ·exact h.rMk hx
 ·exact hx
 ·split at hx
  ·rw [h.put] at hx;exact hx
  ·exact hx.elim
 ·split at hx
  ·rename_i e he
   show (match (ty _).elem with | some e=>_ | none=>False)
   rw [he]
   exact h.new _ _ hx
  ·exact hx.elim
 ·exact h.rApp hx
 ·split at hx
  ·refine real_lit (h.lit _ _ hx) fun c hc=>?_
   cases c with
   | true=>exact h.rC hc
   | false=>exact h.rLit hc
  ·exact h.rC hx
 ·split at hx
  ·exact h.callo _ _ _ _ hx
  ·exact h.rC hx
 ·split at hx
  ·split at hx
   ·rename_i f ks hf
    show (match fnV _ with | some (f,ks)=>_ | none=>False)
    rw [hf]
    exact h.callo _ _ _ _ hx
   ·exact hx.elim
  ·exact h.rC hx
 ·have h1:=h.rC hx
  unfold Vm.step
  split <;> first | exact h1 | grind
theorem Ok.rStepp {m:Bool} {s:S} {dst:Option Nat} {op:Op}:PtG fun K=>step a m s dst K op:=by
 intro K hx
 simp only [Vm.step] at hx ⊢
 split at hx
 ·split at hx
  ·exact ⟨_,hx,fun K' hk=>hk⟩
  ·exact hx.elim
 ·split at hx
  ·rename_i cs hcs
   exact ⟨_,hx,fun K' hk=>hk⟩
  ·exact hx.elim
 ·split at hx
  ·rw [h.store] at hx ⊢
   obtain ⟨o',h1,h2⟩:=storeV_pt hx
   exact ⟨_,h1,fun K' hk=>h2 _ _ hk⟩
  ·exact hx.elim
 ·exact h.rMkp K hx
 ·split at hx
  ·split at hx
   ·rename_i kt hkt
    exact ⟨_,hx,fun K' hk=>hk⟩
   ·exact hx.elim
  ·exact hx.elim
 ·split at hx
  ·simp only [putV] at hx ⊢
   repeat' split at hx
   all_goals first | exact hx.elim | exact ⟨_,hx,fun K' hk=>by simp only [*]⟩
  ·exact hx.elim
 ·split at hx
  ·rename_i e he
   obtain ⟨z,h1,h2⟩:=h.newp _ _ hx
   exact ⟨_,h1,fun K' hk=>h2 _ hk⟩
  ·exact hx.elim
 ·exact h.rAppp K hx
 ·split at hx
  ·obtain ⟨c,h1,h2⟩:=h.litp _ _ hx
   cases c with
   | true =>
    obtain ⟨v,h3,h4⟩:=h.rCp _ h1
    exact ⟨_,h3,fun K' hk=>h2 _ (h4 _ hk)⟩
   | false =>
    obtain ⟨v,h3,h4⟩:=h.rLitp _ h1
    exact ⟨_,h3,fun K' hk=>h2 _ (h4 _ hk)⟩
  ·obtain ⟨v,h3,h4⟩:=h.rCp _ hx
   exact ⟨_,h3,fun K' hk=>h4 _ hk⟩
 ·split at hx
  ·obtain ⟨⟨v,s'⟩,h1,h2⟩:=h.callop _ _ _ (fun p=>K (p.2.put dst p.1)) hx
   exact ⟨_,h1,fun K' hk=>h2 (fun p=>K' (p.2.put dst p.1)) hk⟩
  ·obtain ⟨v,h3,h4⟩:=h.rCp _ hx
   exact ⟨_,h3,fun K' hk=>h4 _ hk⟩
 ·split at hx
  ·split at hx
   ·rename_i f ks hf
    obtain ⟨⟨v,s'⟩,h1,h2⟩:=h.callop _ _ _ (fun p=>K (p.2.put dst p.1)) hx
    exact ⟨_,h1,fun K' hk=>h2 (fun p=>K' (p.2.put dst p.1)) hk⟩
   ·exact hx.elim
  ·obtain ⟨v,h3,h4⟩:=h.rCp _ hx
   exact ⟨_,h3,fun K' hk=>h4 _ hk⟩
 ·obtain ⟨v,h3,h4⟩:=h.rCp _ hx
  refine ⟨_,h3,fun K' hk=>?_⟩
  exact h4 (fun v=>K' (s.put dst v)) hk
theorem Ok.rStep1 {s:S} {dst:Option Nat} {K:S → Prop} {op:Op} (hx:step1 a s dst K op):Vm.step1 real s dst K op:=by
 unfold Vm.step1 at hx ⊢
 split at hx
 ·exact (h.ext _ _ _ _ hx).elim
 ·exact h.rStep hx
theorem Ok.rStep1p {s:S} {dst:Option Nat} {op:Op}:PtG fun K=>step1 a s dst K op:=by
 intro K hx
 simp only [Vm.step1] at hx ⊢
 split at hx
 ·exact (h.ext _ _ _ _ hx).elim
 ·exact h.rStepp _ hx
theorem Ok.rRun {dsts:List (Option Nat)}:∀ {l:List Oper} {s:S} {K K':S → Prop},runE a dsts l s K → (∀ s,K s → K' s) → runE real dsts l s K'
 | [],s,K,K',hx,hK=>hK _ hx
 | ⟨dst,op,type,pos,after,none⟩ :: l,s,K,K',hx,hK=>by
  rw [runE] at hx ⊢
  obtain ⟨s',h1,h2⟩:=h.rStep1p _ hx
  exact h.rStep1 (h2 _ (Ok.rRun h1 hK))
 | ⟨dst,op,type,pos,after,some (j,b)⟩ :: l,s,K,K',hx,hK=>by
  rw [runE] at hx ⊢
  obtain ⟨c,h1,h2⟩:=guard_pt hx
  refine h2 _ ?_
  cases c with
  | none=>exact Ok.rRun h1 hK
  | some c =>
   simp only at h1 ⊢
   cases hb:bEq c b with
   | true =>
    rw [hb] at h1
    obtain ⟨s',h3,h4⟩:=h.rStep1p _ h1
    exact h.rStep1 (h4 _ (Ok.rRun h3 hK))
   | false =>
    rw [hb] at h1
    exact Ok.rRun h1 hK
theorem Ok.rRunp {dsts:List (Option Nat)}:∀ {l:List Oper} {s:S},PtG fun K=>runE a dsts l s K
 | [],s,K,hx=>⟨s,hx,fun K' hk=>hk⟩
 | ⟨dst,op,type,pos,after,none⟩ :: l,s,K,hx=>by
  simp only [runE] at hx ⊢
  obtain ⟨s',h1,h2⟩:=h.rStep1p _ hx
  obtain ⟨s2,h3,h4⟩:=Ok.rRunp K h1
  exact ⟨s2,h3,fun K' hk=>h2 _ (h4 K' hk)⟩
 | ⟨dst,op,type,pos,after,some (j,b)⟩ :: l,s,K,hx=>by
  simp only [runE] at hx ⊢
  obtain ⟨c,h1,h2⟩:=guard_pt hx
  cases c with
  | none =>
   obtain ⟨s2,h3,h4⟩:=Ok.rRunp K h1
   exact ⟨s2,h3,fun K' hk=>h2 _ (h4 K' hk)⟩
  | some c =>
   simp only at h1
   cases hb:bEq c b with
   | true =>
    rw [hb] at h1
    obtain ⟨s',h3,h4⟩:=h.rStep1p _ h1
    obtain ⟨s2,h5,h6⟩:=Ok.rRunp K h3
    exact ⟨s2,h5,fun K' hk=>h2 _ (by simp only [hb];exact h4 _ (h6 K' hk))⟩
   | false =>
    rw [hb] at h1
    obtain ⟨s2,h3,h4⟩:=Ok.rRunp K h1
    exact ⟨s2,h3,fun K' hk=>h2 _ (by simp only [hb];exact h4 K' hk)⟩
theorem Ok.rStepD {all:List Oper} {i:Nat} {s:S} {dst:Option Nat} {K:S → Prop} {op:Op} (hx:stepD a all i s dst K op):Vm.stepD real all i s dst K op:=by
 unfold Vm.stepD at hx ⊢
 split at hx
 ·split at hx
  ·split at hx
   ·exact h.callo _ _ _ _ hx
   ·split at hx
    ·exact h.callx _ _ _ _ _ hx
    ·exact h.rStep hx
  ·exact h.rStep hx
 ·exact h.rStep hx
theorem Ok.rStepDp {all:List Oper} {i:Nat} {s:S} {dst:Option Nat} {op:Op}:PtG fun K=>stepD a all i s dst K op:=by
 intro K hx
 simp only [Vm.stepD] at hx ⊢
 split at hx
 ·split at hx
  ·split at hx
   ·obtain ⟨⟨v,s'⟩,h1,h2⟩:=h.callop _ _ _ (fun p=>K (p.2.put dst p.1)) hx
    exact ⟨_,h1,fun K' hk=>h2 (fun p=>K' (p.2.put dst p.1)) hk⟩
   ·split at hx
    ·rename_i l hl
     obtain ⟨⟨v,s'⟩,h1,h2⟩:=h.callxp _ _ _ _ (fun p=>K (p.2.put dst p.1)) hx
     exact ⟨_,h1,fun K' hk=>h2 (fun p=>K' (p.2.put dst p.1)) hk⟩
    ·exact h.rStepp _ hx
  ·exact h.rStepp _ hx
 ·exact h.rStepp _ hx
theorem Ok.rRunD {dsts:List (Option Nat)} {all:List Oper}:∀ {l:List Oper} {i:Nat} {s:S} {K K':S → Prop},runD a dsts all i l s K → (∀ s,K s → K' s) → runD real dsts all i l s K'
 | [],i,s,K,K',hx,hK=>hK _ hx
 | ⟨dst,op,type,pos,after,none⟩ :: l,i,s,K,K',hx,hK=>by
  rw [runD,execD] at hx ⊢
  obtain ⟨s',h1,h2⟩:=h.rStepDp _ hx
  exact h.rStepD (h2 _ (Ok.rRunD h1 hK))
 | ⟨dst,op,type,pos,after,some (j,b)⟩ :: l,i,s,K,K',hx,hK=>by
  rw [runD,execD] at hx ⊢
  obtain ⟨c,h1,h2⟩:=guard_pt hx
  refine h2 _ ?_
  cases c with
  | none=>exact Ok.rRunD h1 hK
  | some c =>
   simp only at h1 ⊢
   cases hb:bEq c b with
   | true =>
    rw [hb] at h1
    obtain ⟨s',h3,h4⟩:=h.rStepDp _ h1
    exact h.rStepD (h4 _ (Ok.rRunD h3 hK))
   | false =>
    rw [hb] at h1
    exact Ok.rRunD h1 hK
theorem Ok.rRunDp {dsts:List (Option Nat)} {all:List Oper}:∀ {l:List Oper} {i:Nat} {s:S},PtG fun K=>runD a dsts all i l s K
 | [],i,s,K,hx=>⟨s,hx,fun K' hk=>hk⟩
 | ⟨dst,op,type,pos,after,none⟩ :: l,i,s,K,hx=>by
  simp only [runD,execD] at hx ⊢
  obtain ⟨s',h1,h2⟩:=h.rStepDp _ hx
  obtain ⟨s2,h3,h4⟩:=Ok.rRunDp K h1
  exact ⟨s2,h3,fun K' hk=>h2 _ (h4 K' hk)⟩
 | ⟨dst,op,type,pos,after,some (j,b)⟩ :: l,i,s,K,hx=>by
  simp only [runD,execD] at hx ⊢
  obtain ⟨c,h1,h2⟩:=guard_pt hx
  cases c with
  | none =>
   obtain ⟨s2,h3,h4⟩:=Ok.rRunDp K h1
   exact ⟨s2,h3,fun K' hk=>h2 _ (h4 K' hk)⟩
  | some c =>
   simp only at h1
   cases hb:bEq c b with
   | true =>
    rw [hb] at h1
    obtain ⟨s',h3,h4⟩:=h.rStepDp _ h1
    obtain ⟨s2,h5,h6⟩:=Ok.rRunDp K h3
    exact ⟨s2,h5,fun K' hk=>h2 _ (by simp only [hb];exact h4 _ (h6 K' hk))⟩
   | false =>
    rw [hb] at h1
    obtain ⟨s2,h3,h4⟩:=Ok.rRunDp K h1
    exact ⟨s2,h3,fun K' hk=>h2 _ (by simp only [hb];exact h4 K' hk)⟩
theorem Ok.rExecp:∀ (c:Code) (s:S),PtG fun K:X × S → Prop=>exec a c s fun x s=>K (x,s)
 | .skip,s,K,hx=>⟨_,hx,fun K' hk=>hk⟩
 | .region id ops d,s,K,hx=>by
  simp only [exec] at hx ⊢
  split at hx
  ·obtain ⟨s',h1,h2⟩:=h.rRunp _ hx
   exact ⟨_,h1,fun K' hk=>h2 (fun s=>K' (.normal,s)) hk⟩
  ·split at hx
   ·exact (h.reg _ _ _ hx).elim
   split at hx <;> try exact hx.elim
   obtain ⟨s',h1,h2⟩:=h.rRunDp _ hx
   exact ⟨_,h1,fun K' hk=>h2 (fun s=>K' (.normal,s)) hk⟩
 | .seq c d,s,K,hx=>by
  obtain ⟨⟨x,s'⟩,h1,h2⟩:=Ok.rExecp c s (fun p=>thenX (fun s=>a.next (fun s=>exec a d s fun x s=>K (x,s)) s) (fun x s=>K (x,s)) p.1 p.2) hx
  cases x with
  | normal =>
   obtain ⟨p,h3,h4⟩:=Ok.rExecp d s' K (h.next _ _ h1)
   exact ⟨p,h3,fun K' hk=>h2 (fun p=>thenX (fun s=>a.next (fun s=>exec a d s fun x s=>K' (x,s)) s) (fun x s=>K' (x,s)) p.1 p.2) (h.nextp _ _ (h4 K' hk))⟩
  | exit i=>exact ⟨_,h1,fun K' hk=>h2 (fun p=>thenX (fun s=>a.next (fun s=>exec a d s fun x s=>K' (x,s)) s) (fun x s=>K' (x,s)) p.1 p.2) hk⟩
  | ret=>exact ⟨_,h1,fun K' hk=>h2 (fun p=>thenX (fun s=>a.next (fun s=>exec a d s fun x s=>K' (x,s)) s) (fun x s=>K' (x,s)) p.1 p.2) hk⟩
 | .cond c d e,s,K,hx=>by
  simp only [exec] at hx ⊢
  split at hx <;> try exact hx.elim
  split at hx
  ·obtain ⟨p,h3,h4⟩:=Ok.rExecp d s K hx
   exact ⟨p,h3,fun K' hk=>h4 K' hk⟩
  ·obtain ⟨p,h3,h4⟩:=Ok.rExecp e s K hx
   exact ⟨p,h3,fun K' hk=>h4 K' hk⟩
 | .block id c,s,K,hx=>by
  obtain ⟨⟨x,s'⟩,h1,h2⟩:=Ok.rExecp c s (fun p=>blockX id (fun x s=>K (x,s)) p.1 p.2) hx
  cases x with
  | normal=>exact ⟨_,h1,fun K' hk=>h2 (fun p=>blockX id (fun x s=>K' (x,s)) p.1 p.2) hk⟩
  | ret=>exact ⟨_,h1,fun K' hk=>h2 (fun p=>blockX id (fun x s=>K' (x,s)) p.1 p.2) hk⟩
  | exit i =>
   simp only [blockX] at h1
   cases he:eqN i id with
   | true =>
    rw [he] at h1
    exact ⟨_,h1,fun K' hk=>h2 (fun p=>blockX id (fun x s=>K' (x,s)) p.1 p.2) (by simp only [blockX,he];exact hk)⟩
   | false =>
    rw [he] at h1
    exact ⟨_,h1,fun K' hk=>h2 (fun p=>blockX id (fun x s=>K' (x,s)) p.1 p.2) (by simp only [blockX,he];exact hk)⟩
 | .loop c,s,K,hx=>h.loopp c _ s (fun s=>Ok.rExecp c s) K hx
 | .exit i,s,K,hx=>⟨_,hx,fun K' hk=>hk⟩
 | .ret,s,K,hx=>⟨_,hx,fun K' hk=>hk⟩
 | .rangeFunc f ps x y,s,K,hx=>by cases hx
 | .scope c,s,K,hx=>by cases hx
 | .label l,s,K,hx=>by cases hx
 | .goto l,s,K,hx=>by cases hx
 | .refuse y,s,K,hx=>by cases hx
theorem Ok.rMono {c:Code} {s:S} {K K':X → S → Prop} (hx:exec a c s K) (hK:∀ x s,K x s → K' x s):exec a c s K' :=
 (h.rExecp c s).mono (K:=fun p=>K p.1 p.2) (K':=fun p=>K' p.1 p.2) hx fun p hp=>hK _ _ hp
theorem Ok.rExec:∀ (c:Code) (s:S) (K K':X → S → Prop),exec a c s K → (∀ x s,K x s → K' x s) → exec real c s K'
 | .skip,s,K,K',hx,hK=>hK _ _ hx
 | .region id ops d,s,K,K',hx,hK=>by
  unfold exec at hx ⊢
  split at hx
  ·exact h.rRun hx fun s hs=>hK _ _ hs
  ·split at hx
   ·exact (h.reg _ _ _ hx).elim
   split at hx <;> try exact hx.elim
   exact h.rRunD hx fun s hs=>hK _ _ hs
 | .seq c d,s,K,K',hx,hK=>by
  refine Ok.rExec c s _ _ hx fun x s' hs=>?_
  cases x with
  | normal=>exact ⟨fun s2=>s2 = s',fun _ _ _ _ _ h=>⟨_,rfl,h⟩,fun s2 e=>by subst e;exact Ok.rExec d _ _ _ (h.next _ _ hs) hK⟩
  | exit i=>exact hK _ _ hs
  | ret=>exact hK _ _ hs
 | .cond c d e,s,K,K',hx,hK=>by
  unfold exec at hx ⊢
  split at hx <;> try exact hx.elim
  split at hx
  ·exact Ok.rExec d _ _ _ hx hK
  ·exact Ok.rExec e _ _ _ hx hK
 | .block id c,s,K,K',hx,hK=>by
  refine Ok.rExec c s _ _ hx fun x s' hs=>?_
  cases x with
  | normal=>exact hK _ _ hs
  | ret=>exact hK _ _ hs
  | exit i =>
   have hs:(match eqN i id with | true=>K .normal s' | false=>K (.exit i) s'):=hs
   show (match eqN i id with | true=>K' .normal s' | false=>K' (.exit i) s')
   cases he:eqN i id with
   | true=>rw [he] at hs;exact hK _ _ hs
   | false=>rw [he] at hs;exact hK _ _ hs
 | .loop c,s,K,K',hx,hK=>by
  obtain ⟨γ,st,inv,μ,h1,h2,h3⟩:=h.loop c _ s K hx fun s K K' hK hs=>h.rMono hs hK
  refine .inr (.inl ⟨γ,st,inv,μ,h1,h2,fun x hi=>Ok.rExec c _ _ _ (h3 x hi) fun e s' hs=>?_⟩)
  cases e with
  | normal=>exact hs
  | exit i=>exact hK _ _ hs
  | ret=>exact hK _ _ hs
 | .exit i,s,K,K',hx,hK=>hK _ _ hx
 | .ret,s,K,K',hx,hK=>hK _ _ hx
 | .rangeFunc f ps x y,s,K,K',hx,hK=>by cases hx
 | .scope c,s,K,K',hx,hK=>by cases hx
 | .label l,s,K,K',hx,hK=>by cases hx
 | .goto l,s,K,K',hx,hK=>by cases hx
 | .refuse y,s,K,K',hx,hK=>by cases hx
theorem Ok.rRes {s:S}:∀ {l:List ResultVar} {K K':List V → Prop},resO a s l K → (∀ vs,K vs → K' vs) → resO real s l K'
 | [],K,K',hx,hK=>hK _ hx
 | .tmp t :: l,K,K',hx,hK=>Ok.rRes (l:=l) hx fun vs hv=>hK _ hv
 | .cell b t :: l,K,K',hx,hK=>by
  rw [resO] at hx ⊢
  rw [h.load] at hx
  exact load_pt.g.mono hx fun v hv=>Ok.rRes (l:=l) hv fun vs hv=>hK _ hv
theorem Ok.rResp {s:S}:∀ {l:List ResultVar},PtG fun K=>resO a s l K
 | [],K,hx=>⟨_,hx,fun K' hk=>hk⟩
 | .tmp t :: l,K,hx=>by
  obtain ⟨v,h1,h2⟩:=Ok.rResp (l:=l) _ hx
  exact ⟨_,h1,fun K' hk=>h2 _ hk⟩
 | .cell b t :: l,K,hx=>by
  simp only [resO] at hx ⊢
  rw [h.load] at hx ⊢
  obtain ⟨v,h1,h2⟩:=load_pt _ hx
  obtain ⟨vs,h3,h4⟩:=Ok.rResp (l:=l) _ h1
  exact ⟨_,h3,fun K' hk=>h2 _ (h4 _ hk)⟩
end
def retC (a:Ar) (l:List ResultVar) (K:List R → Prop):X → S → Prop
 | .exit _,_=>False
 | .normal,s=>resO a s l fun vs=>match toRs s.o vs with | some q=>K q | none=>False
 | .ret,s=>resO a s l fun vs=>match toRs s.o vs with | some q=>K q | none=>False
structure Good (f:Nat) (fn:Func) (c:Code):Prop where
 f:Tryz.prog.funcs[f]? = some fn
 b:fn.body = some c
 n:(fn.name != "runtime.NumGoroutine") = true
 c:okCode Tryz.prog c = true
 r:okRes fn.results.toList = true
inductive Tab where
 | nil
 | cons (f:Nat) (fn:Func) (c:Code) (h:Good f fn c) (T:Tab)
 | own (f:Nat) (F:List V → List O → Option (V × List O × List Nat)) (h:∀ vs o r,F vs o = some r → SoundO f vs o fun x o' ks=>(x,o',ks) = r) (T:Tab)
 | pure (f:Nat) (F:List R → Option (List R)) (h:∀ rs q,F rs = some q → Spec f rs q) (T:Tab)
inductive Ent where
 | none
 | code (fn:Func) (c:Code)
 | own (F:List V → List O → Option (V × List O × List Nat))
 | pure (F:List R → Option (List R))
def Tab.get:Tab → Nat → Ent
 | .nil,_=>.none
 | .cons f fn c _ T,g=>match Nat.beq f g with | true=>.code fn c | false=>T.get g
 | .own f F _ T,g=>match Nat.beq f g with | true=>.own F | false=>T.get g
 | .pure f F _ T,g=>match Nat.beq f g with | true=>.pure F | false=>T.get g
def EntOk (f:Nat):Ent → Prop
 | .none=>True
 | .code fn c=>Good f fn c
 | .own F=>∀ vs o r,F vs o = some r → SoundO f vs o fun x o' ks=>(x,o',ks) = r
 | .pure F=>∀ rs q,F rs = some q → Spec f rs q
theorem Tab.good:∀ (T:Tab) (f:Nat),EntOk f (T.get f)
 | .nil,_=>trivial
 | .cons f fn c hg T,g=>by
  rw [Tab.get]
  split
  ·rename_i e
   rw [← Nat.eq_of_beq_eq_true e]
   exact hg
  ·exact Tab.good T g
 | .own f F hg T,g=>by
  rw [Tab.get]
  split
  ·rename_i e
   rw [← Nat.eq_of_beq_eq_true e]
   exact hg
  ·exact Tab.good T g
 | .pure f F hg T,g=>by
  rw [Tab.get]
  split
  ·rename_i e
   rw [← Nat.eq_of_beq_eq_true e]
   exact hg
  ·exact Tab.good T g
def valEq:Value → Value → Bool
 | .int k m,.int k' n=>match keq k k' with | true=>intEq m n | false=>false
 | .string x,.string y=>bytesEq x.data.toList y.data.toList
 | .bool x,.bool y=>bEq x y
 | .pointer none,.pointer none=>true
 | .map none,.map none=>true
 | _,_=>false
theorem valEq_eq {u v:Value} (h:valEq u v = true):u = v:=by
 unfold valEq at h
 split at h
 ·split at h
  ·rename_i hk
   rw [intEq_is,beq_iff_eq] at h
   rw [keq_is hk,h]
  ·cases h
 ·rename_i x y
  rw [bytesEq_is,beq_iff_eq] at h
  obtain ⟨⟨x⟩⟩:=x
  obtain ⟨⟨y⟩⟩:=y
  simp only at h
  rw [h]
 ·rw [bEq_is,beq_iff_eq] at h
  rw [h]
 ·rfl
 ·rfl
 ·cases h
def listEq {α:Type} (e:α → α → Bool):List α → List α → Bool
 | [],[]=>true
 | x :: l,y :: m=>match e x y with | true=>listEq e l m | false=>false
 | _,_=>false
theorem listEq_eq {α:Type} {e:α → α → Bool} (he:∀ x y,e x y = true → x = y):∀ {l m:List α},listEq e l m = true → l = m
 | [],[],_=>rfl
 | [],_ :: _,h=>by cases h
 | _ :: _,[],h=>by cases h
 | x :: l,y :: m,h=>by
  rw [listEq] at h
  split at h
  ·rename_i h1
   rw [he _ _ h1,listEq_eq he h]
  ·cases h
def datEqN:Nat → D → D → Bool
 | _,.sc u,.sc v=>valEq u v
 | f + 1,.sl n rows,.sl m rows'=>match natEq n m with | true=>listEq (listEq (datEqN f)) rows rows' | false=>false
 | _,_,_=>false
theorem datEqN_eq:∀ {f:Nat} {x y:D},datEqN f x y = true → x = y
 | f,.sc u,.sc v,h=>by
  have h:valEq u v = true:=by cases f <;> exact h
  rw [valEq_eq h]
 | f,.sc u,.sl n rows,h=>by cases f <;> cases h
 | f,.sl n rows,.sc u,h=>by cases f <;> cases h
 | 0,.sl n rows,.sl m rows',h=>by cases h
 | f + 1,.sl n rows,.sl m rows',h=>by
  rw [datEqN] at h
  split at h
  ·rename_i h1
   rw [natEq_is,beq_iff_eq] at h1
   rw [h1,listEq_eq (fun _ _ h=>listEq_eq (fun _ _ h=>datEqN_eq h) h) h]
  ·cases h
def datEq (x y:D):Bool:=datEqN 60 x y
theorem datEq_eq {x y:D} (h:datEq x y = true):x = y:=datEqN_eq h
def vEq:V → V → Bool
 | .d x,.d y=>datEq x y
 | .em,.em=>true
 | .own j,.own k=>natEq j k
 | .ptr j m,.ptr k n=>match natEq j k with | true=>natEq m n | false=>false
 | .mp j,.mp k=>natEq j k
 | .cl f [],.cl g []=>natEq f g
 | .jk,.jk=>true
 | _,_=>false
theorem natEq_eq {m n:Nat} (h:natEq m n = true):m = n:=by rw [natEq_is,beq_iff_eq] at h;exact h
theorem vEq_eq {x y:V} (h:vEq x y = true):x = y:=by
 unfold vEq at h
 split at h
 ·rw [datEq_eq h]
 ·rfl
 ·rw [natEq_eq h]
 ·split at h
  ·rename_i h1
   rw [natEq_eq h1,natEq_eq h]
  ·cases h
 ·rw [natEq_eq h]
 ·rw [natEq_eq h]
 ·rfl
 ·cases h
def resEq:R → R → Bool
 | .one x,.one y=>datEq x y
 | .ag xs,.ag ys=>listEq datEq xs ys
 | _,_=>false
theorem resEq_eq {x y:R} (h:resEq x y = true):x = y:=by
 unfold resEq at h
 split at h
 ·rw [datEq_eq h]
 ·rw [listEq_eq (fun _ _=>datEq_eq) h]
 ·cases h
def entEq (p q:R × R):Bool:=match resEq p.1 q.1 with | true=>resEq p.2 q.2 | false=>false
theorem entEq_eq {p q:R × R} (h:entEq p q = true):p = q:=by
 unfold entEq at h
 split at h
 ·rename_i h1
  exact Prod.ext (resEq_eq h1) (resEq_eq h)
 ·cases h
def oEq:O → O → Bool
 | .box cs,.box ds=>listEq vEq cs ds
 | .row z e rows,.row z' e' rows'=>match bEq z z',natEq e e' with
  | true,true=>listEq (listEq datEq) rows rows'
  | _,_=>false
 | .mp k es,.mp k' es'=>match natEq k k' with | true=>listEq entEq es es' | false=>false
 | .kl ks,.kl js=>listEq natEq ks js
 | .dead,.dead=>true
 | _,_=>false
theorem oEq_eq {x y:O} (h:oEq x y = true):x = y:=by
 unfold oEq at h
 split at h
 ·rw [listEq_eq (fun _ _=>vEq_eq) h]
 ·split at h
  ·rename_i h1 h2
   rw [bEq_is,beq_iff_eq] at h1
   rw [h1,natEq_eq h2,listEq_eq (fun _ _ h=>listEq_eq (fun _ _=>datEq_eq) h) h]
  ·cases h
 ·split at h
  ·rename_i h1
   rw [natEq_eq h1,listEq_eq (fun _ _=>entEq_eq) h]
  ·cases h
 ·rw [listEq_eq (fun _ _=>natEq_eq) h]
 ·rfl
 ·cases h
def endD (o:List O) (K:List R → Prop) (res:List V) (s:S):Prop:=match getO (trimK 0 s.o) (lenO o) with
 | .kl []=>match listEq oEq (takeO (lenO o) (trimK 0 s.o)) (trimK 0 o) with
  | true=>match toRs s.o res with | some q=>K q | none=>False
  | false=>False
 | _=>False
def retD (a:Ar) (o:List O) (K:List R → Prop) (l:List ResultVar):X → S → Prop
 | .exit _,_=>False
 | .normal,s=>resO a s l fun res=>endD o K res s
 | .ret,s=>resO a s l fun res=>endD o K res s
def it (body:S → (X → S → Prop) → Prop) (K:X → S → Prop) (n:Nat):Nat → S → Prop
 | 0,_=>False
 | m + 1,s=>match Nat.ble n (lenO s.o) with
  | true=>body s fun e s'=>roundX (fun s2=>it body K n m s2) K e s'
  | false=>False
def limK:IntKind → Nat
 | .i8=>128
 | .i16=>32768
 | .i32=>2147483648
 | .i64=>9223372036854775808
 | .u8=>256
 | .u16=>65536
 | .u32=>4294967296
 | .u64=>18446744073709551616
def wrapK (k:IntKind) (n:Int):Int:=match n with
 | .ofNat m=>match Nat.blt m (limK k) with | true=>.ofNat m | false=>k.wrap n
 | .negSucc _=>k.wrap n
theorem wrapK_is (k:IntKind) (n:Int):wrapK k n = k.wrap n:=by
 unfold wrapK
 split
 ·rename_i m
  split
  ·rename_i h
   have h:m < limK k:=by simpa [Nat.blt_eq] using h
   have key:∀ (b:Nat) (sg:Bool),(m:Int) < (2:Int) ^ b → (sg = true → (m:Int) < (2:Int) ^ (b - 1)) → (m:Int) = (if (sg && decide ((m:Int) % (2:Int) ^ b ≥ (2:Int) ^ (b - 1))) = true then (m:Int) % (2:Int) ^ b - (2:Int) ^ b else (m:Int) % (2:Int) ^ b):=fun b sg h1 h2=>by
    have e:(m:Int) % (2:Int) ^ b = m:=Int.emod_eq_of_lt (by omega) h1
    simp only [e]
    cases sg with
    | false=>rfl
    | true =>
     have:=h2 rfl
     rw [if_neg (by simp only [Bool.true_and,decide_eq_true_eq];omega)]
   have h':(m:Int) < (limK k:Int):=by omega
   refine (key k.bits k.signed ?_ ?_)
   ·cases k <;> exact Int.lt_of_lt_of_le h' (by decide)
   ·intro hs
    cases k <;> first | cases hs;done | exact Int.lt_of_lt_of_le h' (by decide)
  ·rfl
 ·rfl
def intLt:Int → Int → Bool
 | .ofNat m,.ofNat n=>Nat.blt m n
 | .negSucc _,.ofNat _=>true
 | .ofNat _,.negSucc _=>false
 | .negSucc m,.negSucc n=>Nat.blt n m
theorem intLt_is (x y:Int):intLt x y = decide (x < y):=by
 rw [Bool.eq_iff_iff,decide_eq_true_iff]
 cases x with
 | ofNat m =>
  cases y with
  | ofNat n=>rw [intLt,Nat.blt_eq];exact Int.ofNat_lt.symm
  | negSucc n=>exact ⟨fun h=>(by cases h),fun h=>by have:(Int.ofNat m:Int) = (m:Int):=rfl;omega⟩
 | negSucc m =>
  cases y with
  | ofNat n=>exact ⟨fun _=>by have:(Int.ofNat n:Int) = (n:Int):=rfl;omega,fun _=>rfl⟩
  | negSucc n=>rw [intLt,Nat.blt_eq];omega
def intLe (x y:Int):Bool:=match intLt y x with | true=>false | false=>true
theorem intLe_is (x y:Int):intLe x y = decide (x ≤ y):=by
 unfold intLe
 rw [intLt_is]
 by_cases h:y < x
 ·rw [decide_eq_true h,decide_eq_false (by omega)]
 ·rw [decide_eq_false h,decide_eq_true (by omega)]
def bytesLt:List UInt8 → List UInt8 → Bool
 | _,[]=>false
 | [],_ :: _=>true
 | x :: l,y :: m=>match Nat.blt x.toNat y.toNat with
  | true=>true
  | false=>match natEq x.toNat y.toNat with | true=>bytesLt l m | false=>false
theorem bytesLt_is:∀ x y:List UInt8,bytesLt x y = Op.bytesLess x y
 | [],[]=>rfl
 | _ :: _,[]=>rfl
 | [],_ :: _=>rfl
 | x :: l,y :: m=>by
  rw [bytesLt,Op.bytesLess,natEq_is,bytesLt_is l m]
  by_cases h:x < y
  ·rw [(by rw [Nat.blt_eq];exact UInt8.lt_iff_toNat_lt.1 h:Nat.blt x.toNat y.toNat = true),decide_eq_true h]
   rfl
  ·have h1:Nat.blt x.toNat y.toNat = false:=by
    rw [← Bool.not_eq_true,Nat.blt_eq]
    exact fun e=>h (UInt8.lt_iff_toNat_lt.2 e)
   rw [h1,decide_eq_false h]
   by_cases e:x = y
   ·subst e;simp
   ·have e1:(x.toNat == y.toNat) = false:=beq_eq_false_iff_ne.2 fun e2=>e (UInt8.toNat_inj.1 e2)
    have e2:(x == y) = false:=beq_eq_false_iff_ne.2 e
    rw [e1,e2]
    rfl
def nth {α:Type}:List α → Nat → Option α
 | [],_=>none
 | x :: _,0=>some x
 | _ :: l,n + 1=>nth l n
theorem nth_is {α:Type}:∀ (l:List α) (n:Nat),nth l n = l[n]?
 | [],n=>by simp [nth]
 | x :: l,0=>rfl
 | x :: l,n + 1=>by rw [nth,nth_is l n];simp
def atI {α:Type} (l:List α):Int → Option α
 | .ofNat n=>nth l n
 | .negSucc _=>none
theorem atI_is {α:Type} (l:List α) (i:Int):atI l i = if 0 ≤ i then l[i.toNat]? else none:=by
 cases i with
 | ofNat n=>rw [atI,nth_is,if_pos (by simp)];rfl
 | negSucc n=>rw [atI,if_neg (by omega)]
def realK:Ar:={ real with
 wrap:=wrapK
 lt:=intLt
 le:=intLe
 eq:=intEq
 seq:=bytesEq
 slt:=bytesLt
 bytes:=fun b=>b.data.toList
 cat:=fun x y=>⟨⟨x.data.toList ++ y.data.toList⟩⟩
 slen:=fun b=>.ofNat (lenL b.data.toList)
 sget:=fun b n=>match atI b.data.toList n with | some c=>some (.ofNat c.toNat) | none=>none
 ssub:=fun b l h=>match intLe 0 l,intLe l h,intLe h (.ofNat (lenL b.data.toList)) with
  | true,true,true=>some ⟨⟨(b.data.toList.drop l.toNat).take (h.toNat - l.toNat)⟩⟩
  | _,_,_=>none
 nat:=fun n m=>match n with | .ofNat k=>(match Nat.blt k m with | true=>some k | false=>none) | .negSucc _=>none
 len:=fun rows=>.ofNat (lenL rows)
 get:=atI
 sub2:=fun rows l h=>match intLe 0 l,intLe l h,intLe h (.ofNat (lenL rows)) with
  | true,true,true=>some ((rows.drop l.toNat).take (h.toNat - l.toNat))
  | _,_,_=>none }
theorem toList_data (b:ByteArray):b.toList = b.data.toList:=ByteArray.toList_eq b
theorem realK_eq:realK = real:=by
 have e1:real.wrap = wrapK:=by funext k n;exact (wrapK_is k n).symm
 have e2:real.lt = intLt:=by funext x y;exact (intLt_is x y).symm
 have e3:real.le = intLe:=by funext x y;exact (intLe_is x y).symm
 have e4:real.eq = intEq:=by funext x y;exact (intEq_is x y).symm
 have e5:real.seq = bytesEq:=by funext x y;exact (bytesEq_is x y).symm
 have e6:real.slt = bytesLt:=by funext x y;exact (bytesLt_is x y).symm
 have e7:real.bytes = fun b=>b.data.toList:=by funext b;exact toList_data b
 have e8:real.cat = fun x y=>⟨⟨x.data.toList ++ y.data.toList⟩⟩:=by
  funext x y
  show x ++ y = _
  apply ByteArray.ext
  apply Array.ext'
  simp
 have e9:real.slen = fun b=>.ofNat (lenL b.data.toList):=by
  funext b
  rw [lenL_is]
  rfl
 have e10:real.sget = fun b n=>match atI b.data.toList n with | some c=>some (.ofNat c.toNat) | none=>none:=by
  funext b n
  rw [atI_is]
  show (if 0 ≤ n then (b[n.toNat]?).map _ else none) = _
  by_cases h:0 ≤ n
  ·rw [if_pos h,if_pos h]
   have e:b[n.toNat]? = b.data.toList[n.toNat]?:=by
    rw [Array.getElem?_toList]
    rfl
   rw [e]
   cases b.data.toList[n.toNat]? <;> rfl
  ·rw [if_neg h,if_neg h]
 have e11:real.ssub = fun b l h=>match intLe 0 l,intLe l h,intLe h (.ofNat (lenL b.data.toList)) with
  | true,true,true=>some ⟨⟨(b.data.toList.drop l.toNat).take (h.toNat - l.toNat)⟩⟩
  | _,_,_=>none:=by
  funext b l h
  rw [intLe_is,intLe_is,intLe_is,lenL_is]
  show (if 0 ≤ l ∧ l ≤ h ∧ h ≤ b.size then some (b.extract l.toNat h.toNat) else none) = _
  have hb:(Int.ofNat b.data.toList.length) = (b.size:Int):=rfl
  rw [hb]
  by_cases h1:0 ≤ l
  ·by_cases h2:l ≤ h
   ·by_cases h3:h ≤ (b.size:Int)
    ·rw [if_pos ⟨h1,h2,h3⟩,decide_eq_true h1,decide_eq_true h2,decide_eq_true h3]
     simp only
     congr 1
     apply ByteArray.ext
     apply Array.ext'
     simp [ByteArray.data_extract,List.extract_eq_take_drop]
    ·rw [if_neg (fun h=>h3 h.2.2),decide_eq_false h3]
     cases decide (0 ≤ l) <;> cases decide (l ≤ h) <;> rfl
   ·rw [if_neg (fun h=>h2 h.2.1),decide_eq_false h2]
    cases decide (0 ≤ l) <;> rfl
  ·rw [if_neg (fun h=>h1 h.1),decide_eq_false h1]
 have e12:real.nat = fun n m=>match n with | .ofNat k=>(match Nat.blt k m with | true=>some k | false=>none) | .negSucc _=>none:=by
  funext n m
  show (if 0 ≤ n ∧ n < m then some n.toNat else none) = _
  cases n with
  | ofNat k =>
   by_cases h:k < m
   ·rw [if_pos ⟨by simp,by simpa using h⟩]
    have e:Nat.blt k m = true:=by rw [Nat.blt_eq];exact h
    simp only [e]
    rfl
   ·rw [if_neg (by simp;omega)]
    have:Nat.blt k m = false:=by rw [← Bool.not_eq_true,Nat.blt_eq];exact h
    simp only [this]
  | negSucc k=>rw [if_neg (by omega)]
 have e13:real.len = fun rows=>.ofNat (lenL rows):=by funext rows;rw [lenL_is];rfl
 have e14:real.get = atI:=by funext rows n;rw [atI_is];rfl
 have e15:real.sub2 = fun rows l h=>match intLe 0 l,intLe l h,intLe h (.ofNat (lenL rows)) with
  | true,true,true=>some ((rows.drop l.toNat).take (h.toNat - l.toNat))
  | _,_,_=>none:=by
  funext b l h
  rw [intLe_is,intLe_is,intLe_is,lenL_is]
  show (if 0 ≤ l ∧ l ≤ h ∧ h ≤ b.length then some ((b.drop l.toNat).take (h.toNat - l.toNat)) else none) = _
  have hb:(Int.ofNat b.length) = (b.length:Int):=rfl
  rw [hb]
  by_cases h1:0 ≤ l
  ·by_cases h2:l ≤ h
   ·by_cases h3:h ≤ (b.length:Int)
    ·rw [if_pos ⟨h1,h2,h3⟩,decide_eq_true h1,decide_eq_true h2,decide_eq_true h3]
    ·rw [if_neg (fun h=>h3 h.2.2),decide_eq_false h3]
     cases decide (0 ≤ l) <;> cases decide (l ≤ h) <;> rfl
   ·rw [if_neg (fun h=>h2 h.2.1),decide_eq_false h2]
    cases decide (0 ≤ l) <;> rfl
  ·rw [if_neg (fun h=>h1 h.1),decide_eq_false h1]
 unfold realK
 rw [← e11,← e15,← e10,← e14,← e1,← e2,← e3,← e4,← e5,← e6,← e7,← e8,← e9,← e12,← e13]
def concF (hint:Nat → Bool) (call:Nat → List R → (List R → Prop) → Prop) (calld:Nat → List V → List O → (V → Prop) → Prop) (callo:Nat → List V → S → (V → S → Prop) → Prop) (callx:Nat → List V → List Nat → S → (V → S → Prop) → Prop):Ar:={ realK with
 nz:=fun y k=>match intEq y 0 with | true=>False | false=>k
 fits:=fun x y k=>match Nat.ble (x.size + y.size) 4611686018427387904 with | true=>k | false=>False
 room:=fun x y k=>match Nat.ble (lenL x + lenL y) 137438953472 with | true=>k | false=>False
 rep:=fun n z k=>match n with
  | .ofNat m=>match Nat.ble m 65536,Nat.ble (m * lenL z) 16777216 with | true,true=>k (List.replicate m z) | _,_=>False
  | .negSucc _=>False
 call:=call
 calld:=calld
 callo:=callo
 callx:=callx
 new:=fun e K=>K (hint e)
 lit:=fun _ K=>K true
 keep:=fun _ _ _ _=>False
 next:=fun N s=>N s
 ext:=fun _ _ _ _=>False
 reg:=fun _ _ _=>False
 loop:=fun _ body s K=>it body K (lenO s.o) 5000 s }
def rowsL:List V → List Nat
 | []=>[]
 | .own k :: l=>k :: rowsL l
 | _ :: l=>rowsL l
def rowsOf:List V → List Nat
 | []=>[]
 | .own k :: l=>k :: rowsOf l
 | .ag cs :: l=>rowsL cs ++ rowsOf l
 | _ :: l=>rowsOf l
def keepsB (t:List V) (o o':List O):List Nat → Bool
 | []=>true
 | i :: l=>match objOf (getN t i) with
  | some k=>match oEq (getO o' k) (getO o k) with | true=>keepsB t o o' l | false=>false
  | none=>keepsB t o o' l
theorem keepsB_is {t:List V} {o o':List O}:∀ {l:List Nat},keepsB t o o' l = true → keepsL l t o o'
 | [],_,i,hi,_,_=>by simp at hi
 | j :: l,h,i,hi,k,hk=>by
  rw [keepsB] at h
  split at h
  ·rename_i m hm
   split at h
   ·rename_i he
    rcases List.mem_cons.1 hi with rfl | hi
    ·rw [hm] at hk
     have hk:=Option.some.inj hk
     subst hk
     exact oEq_eq he
    ·exact keepsB_is h i hi k hk
   ·cases h
  ·rename_i hm
   rcases List.mem_cons.1 hi with rfl | hi
   ·rw [hm] at hk;cases hk
   ·exact keepsB_is h i hi k hk
def conc (T:Tab) (hint:Nat → Bool):Nat → Ar
 | 0=>concF hint (fun _ _ _=>False) (fun _ _ _ _=>False) (fun _ _ _ _=>False) (fun _ _ _ _ _=>False)
 | n + 1=>concF hint
  (fun f rs K=>match T.get f with
   | .code fn c=>exec (conc T hint n) c (start rs (fn.ntmps - lenL rs)) (fun x s=>retC (conc T hint n) fn.results.toList K x s)
   | .pure F=>match F rs with | some q=>K q | none=>False
   | _=>False)
  (fun f vs o K=>match T.get f with
   | .code fn c=>exec (conc T hint n) c (startI vs o (fn.ntmps - lenL vs)) (fun x s=>retD (conc T hint n) o (fun q=>K (resV q)) fn.results.toList x s)
   | _=>False)
  (fun f vs s K=>match T.get f with
   | .code fn c=>exec (conc T hint n) c (startI vs s.o (fn.ntmps - lenL vs)) (fun x s2=>retI (conc T hint n) (lenO s.o) (fun v o' ks=>K v ⟨killTs ks s.t,o'⟩) fn.results.toList x s2)
   | .own F=>match F vs s.o with | some (v,o',ks)=>K v ⟨killTs ks s.t,o'⟩ | none=>False
   | .pure F=>match toRs s.o vs with
    | some rs=>match F rs with | some q=>K (resV q) s | none=>False
    | none=>match toRs (frz (rowsOf vs) s.o) vs with
     | some rs=>match F rs with | some q=>K (resV q) ⟨s.t,frz (rowsOf vs) s.o⟩ | none=>False
     | none=>False
   | .none=>False)
  (fun f vs l s K=>match T.get f with
   | .code fn c=>exec (conc T hint n) c (startI vs s.o (fn.ntmps - lenL vs)) (fun x s2=>retI (conc T hint n) (lenO s.o) (fun v o' ks=>match geN (lenO s.o) ks with
    | true=>match keepsB s.t s.o o' l with | true=>K v ⟨s.t,o'⟩ | false=>False
    | false=>False) fn.results.toList x s2)
   | _=>False)

theorem it_pt {body:S → (X → S → Prop) → Prop} (hb:∀ s,PtG fun K:X × S → Prop=>body s fun x s=>K (x,s)) {n:Nat}:∀ m s,PtG fun K:X × S → Prop=>it body (fun x s=>K (x,s)) n m s
 | 0,s,K,hx=>hx.elim
 | m + 1,s,K,hx=>by
  simp only [it] at hx ⊢
  split at hx <;> try exact hx.elim
  obtain ⟨⟨e,s'⟩,h1,h2⟩:=hb s (fun p=>roundX (fun s2=>it body (fun x s=>K (x,s)) n m s2) (fun x s=>K (x,s)) p.1 p.2) hx
  cases e with
  | normal =>
   obtain ⟨p,h3,h4⟩:=it_pt hb m s' K h1
   exact ⟨p,h3,fun K' hk=>h2 (fun p=>roundX (fun s2=>it body (fun x s=>K' (x,s)) n m s2) (fun x s=>K' (x,s)) p.1 p.2) (h4 K' hk)⟩
  | exit i=>exact ⟨_,h1,fun K' hk=>h2 (fun p=>roundX (fun s2=>it body (fun x s=>K' (x,s)) n m s2) (fun x s=>K' (x,s)) p.1 p.2) hk⟩
  | ret=>exact ⟨_,h1,fun K' hk=>h2 (fun p=>roundX (fun s2=>it body (fun x s=>K' (x,s)) n m s2) (fun x s=>K' (x,s)) p.1 p.2) hk⟩
theorem it_loop {body:S → (X → S → Prop) → Prop} (hb:∀ s K K',(∀ x s,K x s → K' x s) → body s K → body s K') {K:X → S → Prop} {s:S} {m:Nat} (hx:it body K (lenO s.o) m s):loopR Eq body s K:=by
 have hle:∀ m s',it body K (lenO s.o) m s' → lenO s.o ≤ lenO s'.o:=fun m s' h=>by
  cases m with
  | zero=>exact h.elim
  | succ m =>
   rw [it] at h
   split at h
   ·rename_i e;exact Nat.le_of_ble_eq_true e
   ·exact h.elim
 refine ⟨Nat × S,Prod.snd,fun p=>it body K (lenO s.o) p.1 p.2,Prod.fst,fun p hp=>hle _ _ hp,⟨(m,s),rfl,hx⟩,?_⟩
 rintro ⟨m,s'⟩ hp
 cases m with
 | zero=>exact hp.elim
 | succ m =>
  have hp:it body K (lenO s.o) (m + 1) s':=hp
  rw [it] at hp
  split at hp
  ·refine hb _ _ _ (fun x s2 h=>?_) hp
   cases x with
   | normal=>exact ⟨(m,s2),h,Nat.lt_succ_self m,rfl⟩
   | exit i=>exact h
   | ret=>exact h
  ·exact hp.elim
section
variable {hint:Nat → Bool} {call:Nat → List R → (List R → Prop) → Prop} {calld:Nat → List V → List O → (V → Prop) → Prop} {callo:Nat → List V → S → (V → S → Prop) → Prop} {callx:Nat → List V → List Nat → S → (V → S → Prop) → Prop}
theorem concF_ok (h1:∀ f rs K,call f rs K → real.call f rs K) (h2:∀ f rs,PtG (call f rs)) (h5:∀ f vs o K,calld f vs o K → real.calld f vs o K) (h6:∀ f vs o,PtG (calld f vs o)) (h3:∀ f vs s K,callo f vs s K → real.callo f vs s K) (h4:∀ f vs s,PtG fun K:V × S → Prop=>callo f vs s fun v s'=>K (v,s')) (h7:∀ f vs l s K,callx f vs l s K → real.callx f vs l s K) (h8:∀ f vs l s,PtG fun K:V × S → Prop=>callx f vs l s fun v s'=>K (v,s')):Ok (concF hint call calld callo callx) where
 wrap:=show realK.wrap = real.wrap from congrArg Ar.wrap realK_eq
 add:=show realK.add = real.add from congrArg Ar.add realK_eq
 sub:=show realK.sub = real.sub from congrArg Ar.sub realK_eq
 mul:=show realK.mul = real.mul from congrArg Ar.mul realK_eq
 quo:=show realK.quo = real.quo from congrArg Ar.quo realK_eq
 rem:=show realK.rem = real.rem from congrArg Ar.rem realK_eq
 bits:=show realK.bits = real.bits from congrArg Ar.bits realK_eq
 lt:=show realK.lt = real.lt from congrArg Ar.lt realK_eq
 le:=show realK.le = real.le from congrArg Ar.le realK_eq
 eq:=show realK.eq = real.eq from congrArg Ar.eq realK_eq
 nz y k h:=by
  have h:(match intEq y 0 with | true=>False | false=>k):=h
  cases he:intEq y 0 with
  | true=>rw [he] at h;exact h.elim
  | false =>
   rw [he] at h
   rw [intEq_is,beq_eq_false_iff_ne] at he
   exact ⟨he,h⟩
 nzp y k k' h hk:=by
  have h:(match intEq y 0 with | true=>False | false=>k):=h
  show (match intEq y 0 with | true=>False | false=>k')
  cases he:intEq y 0 with
  | true=>rw [he] at h;exact h.elim
  | false=>exact hk
 seq:=show realK.seq = real.seq from congrArg Ar.seq realK_eq
 slt:=show realK.slt = real.slt from congrArg Ar.slt realK_eq
 bytes:=show realK.bytes = real.bytes from congrArg Ar.bytes realK_eq
 cat:=show realK.cat = real.cat from congrArg Ar.cat realK_eq
 fits x y k h:=by
  have h:(match Nat.ble (x.size + y.size) 4611686018427387904 with | true=>k | false=>False):=h
  cases he:Nat.ble (x.size + y.size) 4611686018427387904 with
  | true=>rw [he] at h;exact ⟨Nat.le_of_ble_eq_true he,h⟩
  | false=>rw [he] at h;exact h.elim
 fitsp x y k k' h hk:=by
  have h:(match Nat.ble (x.size + y.size) 4611686018427387904 with | true=>k | false=>False):=h
  show (match Nat.ble (x.size + y.size) 4611686018427387904 with | true=>k' | false=>False)
  cases he:Nat.ble (x.size + y.size) 4611686018427387904 with
  | true=>exact hk
  | false=>rw [he] at h;exact h.elim
 slen:=show realK.slen = real.slen from congrArg Ar.slen realK_eq
 sget:=show realK.sget = real.sget from congrArg Ar.sget realK_eq
 ssub:=show realK.ssub = real.ssub from congrArg Ar.ssub realK_eq
 txt:=show realK.txt = real.txt from congrArg Ar.txt realK_eq
 byt:=show realK.byt = real.byt from congrArg Ar.byt realK_eq
 nat:=show realK.nat = real.nat from congrArg Ar.nat realK_eq
 len:=show realK.len = real.len from congrArg Ar.len realK_eq
 get:=show realK.get = real.get from congrArg Ar.get realK_eq
 sub2:=show realK.sub2 = real.sub2 from congrArg Ar.sub2 realK_eq
 app:=show realK.app = real.app from congrArg Ar.app realK_eq
 set:=show realK.set = real.set from congrArg Ar.set realK_eq
 room x y k h:=by
  have h:(match Nat.ble (lenL x + lenL y) 137438953472 with | true=>k | false=>False):=h
  cases he:Nat.ble (lenL x + lenL y) 137438953472 with
  | true =>
   rw [he] at h
   have:=Nat.le_of_ble_eq_true he
   rw [lenL_is,lenL_is] at this
   exact ⟨this,h⟩
  | false=>rw [he] at h;exact h.elim
 roomp x y k k' h hk:=by
  have h:(match Nat.ble (lenL x + lenL y) 137438953472 with | true=>k | false=>False):=h
  show (match Nat.ble (lenL x + lenL y) 137438953472 with | true=>k' | false=>False)
  cases he:Nat.ble (lenL x + lenL y) 137438953472 with
  | true=>exact hk
  | false=>rw [he] at h;exact h.elim
 mlook:=show realK.mlook = real.mlook from congrArg Ar.mlook realK_eq
 mput:=show realK.mput = real.mput from congrArg Ar.mput realK_eq
 deq:=show realK.deq = real.deq from congrArg Ar.deq realK_eq
 rep n z K h:=by
  cases n with
  | negSucc m=>exact (show False from h).elim
  | ofNat m =>
   have h:(match Nat.ble m 65536,Nat.ble (m * lenL z) 16777216 with | true,true=>K (List.replicate m z) | _,_=>False):=h
   split at h
   ·rename_i e1 e2
    have e1:=Nat.le_of_ble_eq_true e1
    have e2:=Nat.le_of_ble_eq_true e2
    rw [lenL_is] at e2
    exact ⟨⟨by simp,by simp;omega,e2⟩,h⟩
   ·exact h.elim
 repp n z K h:=by
  cases n with
  | negSucc m=>exact (show False from h).elim
  | ofNat m =>
   have h:(match Nat.ble m 65536,Nat.ble (m * lenL z) 16777216 with | true,true=>K (List.replicate m z) | _,_=>False):=h
   split at h
   ·rename_i e1 e2
    refine ⟨_,h,fun K' hk=>?_⟩
    show (match Nat.ble m 65536,Nat.ble (m * lenL z) 16777216 with | true,true=>K' (List.replicate m z) | _,_=>False)
    rw [e1,e2]
    exact hk
   ·exact h.elim
 call:=h1
 callp:=h2
 calld:=h5
 calldp:=h6
 callo:=h3
 callop:=h4
 callx:=h7
 callxp:=h8
 new e K h:=⟨_,h⟩
 newp e K h:=⟨_,h,fun K' hk=>hk⟩
 lit t K h:=⟨_,h⟩
 litp t K h:=⟨_,h,fun K' hk=>hk⟩
 next N s h:=h
 ext _ _ _ _ h:=h
 reg _ _ _ h:=h
 nextp N s h:=h
 loop c body s K h hb:=it_loop hb h
 loopp c body s hb:=it_pt hb _ _
end
theorem retC_res {a:Ar} (h:Ok a) {l:List ResultVar} {K:List R → Prop} {x:X} {s:S} (hx:retC a l K x s):∃ q,K q ∧ (∀ K',K' q → retC a l K' x s) ∧ retK real l q x s:=by
 have key:resO a s l (fun vs=>match toRs s.o vs with | some q=>K q | none=>False) → ∃ q,K q ∧ (∀ K':List R → Prop,K' q → resO a s l (fun vs=>match toRs s.o vs with | some q=>K' q | none=>False)) ∧ resS real s l q:=fun hx=>by
  obtain ⟨vs,h1,h2⟩:=h.rResp _ hx
  split at h1 <;> try exact h1.elim
  rename_i q hq
  refine ⟨q,h1,fun K' hk=>h2 _ (by rw [hq];exact hk),?_⟩
  have h3:resO real s l (fun us=>us = vs):=h.rRes (h2 (fun us=>us = vs) rfl) fun _ h=>h
  exact toS h3 hq
 cases x with
 | normal=>exact key hx
 | ret=>exact key hx
 | exit i=>exact hx.elim
where
 toS {s:S}:∀ {l:List ResultVar} {vs:List V} {q:List R},resO real s l (fun us=>us = vs) → toRs s.o vs = some q → resS real s l q
  | [],vs,q,h,hq=>by
   have h:[] = vs:=h
   subst h
   injection hq with hq
   subst hq
   trivial
  | .tmp t :: l,vs,q,h,hq=>by
   cases vs with
   | nil =>
    have h:resO real s l (fun vs=>getN s.t t :: vs = []):=h
    obtain ⟨v,h1,_⟩:=resO_ptr _ h
    cases h1
   | cons v vs =>
    have h:resO real s l (fun us=>getN s.t t :: us = v :: vs):=h
    obtain ⟨us,h1,h2⟩:=resO_ptr _ h
    injection h1 with h1 h3
    subst h3
    rw [← h1] at hq
    rw [toRs] at hq
    split at hq <;> try cases hq
    rename_i y hy
    split at hq <;> try cases hq
    rename_i ys hys
    exact ⟨hy,toS (h2 (fun vs=>vs = us) rfl) hys⟩
  | .cell b t :: l,vs,q,h,hq=>by
   have h:loadV real s.o (fun y=>resO real s l (fun us=>y :: us = vs)) t (getN s.t b):=h
   obtain ⟨y,h1,h2⟩:=load_pt _ h
   obtain ⟨us,h3,h4⟩:=resO_ptr _ h1
   subst h3
   rw [toRs] at hq
   split at hq <;> try cases hq
   rename_i r hr
   split at hq <;> try cases hq
   rename_i rs hrs
   exact ⟨h2 _ hr,toS (h4 (fun vs=>vs = us) rfl) hrs⟩
 resO_ptr {s:S}:∀ {l:List ResultVar},PtG fun K=>resO real s l K
  | [],K,hx=>⟨_,hx,fun K' hk=>hk⟩
  | .tmp t :: l,K,hx=>by
   obtain ⟨v,h1,h2⟩:=resO_ptr (l:=l) _ hx
   exact ⟨_,h1,fun K' hk=>h2 _ hk⟩
  | .cell b t :: l,K,hx=>by
   obtain ⟨v,h1,h2⟩:=load_pt _ hx
   obtain ⟨vs,h3,h4⟩:=resO_ptr (l:=l) _ h1
   exact ⟨_,h3,fun K' hk=>h2 _ (h4 _ hk)⟩
theorem retC_pt {a:Ar} (h:Ok a) {l:List ResultVar} {x:X} {s:S}:PtG fun K=>retC a l K x s:=by
 intro K hx
 obtain ⟨q,h1,h2,_⟩:=retC_res h hx
 exact ⟨q,h1,h2⟩
theorem doneI_pt {n:Nat} {res:List V} {s:S}:PtG fun K:V × List O × List Nat → Prop=>doneI n (fun v o ks=>K (v,o,ks)) res s:=by
 intro K hx
 simp only [doneI] at hx ⊢
 split at hx <;> try exact hx.elim
 exact ⟨_,hx,fun K' hk=>hk⟩
theorem retI_pt {a:Ar} (h:Ok a) {n:Nat} {l:List ResultVar} {x:X} {s:S}:PtG fun K:V × List O × List Nat → Prop=>retI a n (fun v o ks=>K (v,o,ks)) l x s:=by
 intro K hx
 have key:resO a s l (fun vs=>doneI n (fun v o ks=>K (v,o,ks)) vs s) → ∃ v,K v ∧ ∀ K':V × List O × List Nat → Prop,K' v → resO a s l (fun vs=>doneI n (fun v o ks=>K' (v,o,ks)) vs s):=fun hx=>by
  obtain ⟨vs,h1,h2⟩:=h.rResp _ hx
  obtain ⟨p,h3,h4⟩:=doneI_pt K h1
  exact ⟨p,h3,fun K' hk=>h2 _ (h4 K' hk)⟩
 cases x with
 | normal=>exact key hx
 | ret=>exact key hx
 | exit i=>exact hx.elim
theorem retI_real {a:Ar} (h:Ok a) {n:Nat} {K:V → List O → List Nat → Prop} {l:List ResultVar} {x:X} {s:S} (hx:retI a n K l x s):retI real n K l x s:=by
 cases x with
 | normal=>exact h.rRes (l:=l) hx fun _ h=>h
 | ret=>exact h.rRes (l:=l) hx fun _ h=>h
 | exit i=>exact hx.elim
theorem retD_res {a:Ar} (h:Ok a) {o:List O} {l:List ResultVar} {K:List R → Prop} {x:X} {s:S} (hx:retD a o K l x s):∃ q,K q ∧ (∀ K':List R → Prop,K' q → retD a o K' l x s) ∧ retQ real o l q x s:=by
 have key:resO a s l (fun res=>endD o K res s) → ∃ q,K q ∧ (∀ K':List R → Prop,K' q → resO a s l (fun res=>endD o K' res s)) ∧ resO real s l (fun res=>getO (trimK 0 s.o) (lenO o) = .kl [] ∧ takeO (lenO o) (trimK 0 s.o) = trimK 0 o ∧ toRs s.o res = some q):=fun hx=>by
  obtain ⟨vs,h1,h2⟩:=h.rResp _ hx
  unfold endD at h1
  split at h1 <;> try exact h1.elim
  rename_i hk
  split at h1 <;> try exact h1.elim
  rename_i he
  split at h1 <;> try exact h1.elim
  rename_i q hq
  refine ⟨q,h1,fun K' hk'=>h2 _ ?_,?_⟩
  ·unfold endD
   simp only [hk,he,hq]
   exact hk'
  ·refine h.rRes (h2 (fun us=>us = vs) rfl) fun us e=>?_
   subst e
   exact ⟨hk,listEq_eq (fun _ _=>oEq_eq) he,hq⟩
 cases x with
 | normal=>exact key hx
 | ret=>exact key hx
 | exit i=>exact hx.elim
theorem conc_ok (T:Tab) (hint:Nat → Bool):∀ n,Ok (conc T hint n)
 | 0=>concF_ok (fun _ _ _ h=>h.elim) (fun _ _ _ h=>h.elim) (fun _ _ _ _ h=>h.elim) (fun _ _ _ _ h=>h.elim) (fun _ _ _ _ h=>h.elim) (fun _ _ _ _ h=>h.elim) (fun _ _ _ _ _ h=>h.elim) (fun _ _ _ _ _ h=>h.elim)
 | n + 1=>by
  have ih:=conc_ok T hint n
  refine concF_ok (fun f rs K hx=>?_) (fun f rs K hx=>?_) (fun f vs o K hx=>?_) (fun f vs o K hx=>?_) (fun f vs s K hx=>?_) (fun f vs s K hx=>?_) (fun f vs l s K hx=>?_) (fun f vs l s K hx=>?_)
  ·have hg:=T.good f
   split at hx <;> try exact hx.elim
   ·rename_i fn c hT
    rw [hT] at hg
    obtain ⟨⟨x,s'⟩,h1,h2⟩:=ih.rExecp c (start rs (fn.ntmps - lenL rs)) (fun p=>retC (conc T hint n) fn.results.toList K p.1 p.2) hx
    obtain ⟨q,h3,h4,h5⟩:=retC_res ih h1
    refine ⟨q,spec_of hg.f hg.b hg.n hg.c hg.r fun qa qb qc qd qe qg qh qi qj qk ql qm qo qp qq qt qu qv qw qx qy qz va vc vd ve vf vg vh vj vk vl vm vn vo vp vq vr vt vu vv vw vx hA=>?_,h3⟩
    rw [hA]
    exact ih.rExec _ _ _ _ (h2 (fun p=>p = (x,s')) rfl) fun x2 s2 he=>by
     obtain ⟨e1,e2⟩:=Prod.mk.inj he
     subst e1;subst e2
     exact h5
   ·rename_i F hT
    rw [hT] at hg
    split at hx <;> try exact hx.elim
    rename_i q hq
    exact ⟨q,hg _ _ hq,hx⟩
  ·split at hx <;> try exact hx.elim
   ·rename_i fn c hT
    obtain ⟨⟨x,s'⟩,h1,h2⟩:=ih.rExecp c (start rs (fn.ntmps - lenL rs)) (fun p=>retC (conc T hint n) fn.results.toList K p.1 p.2) hx
    obtain ⟨q,h3,h4⟩:=retC_pt ih K h1
    refine ⟨q,h3,fun K' hk=>?_⟩
    exact h2 (fun p=>retC (conc T hint n) fn.results.toList K' p.1 p.2) (h4 K' hk)
   ·rename_i F hT
    split at hx <;> try exact hx.elim
    rename_i q hq
    exact ⟨q,hx,fun K' hk=>hk⟩
  ·have hg:=T.good f
   split at hx <;> try exact hx.elim
   rename_i fn c hT
   rw [hT] at hg
   obtain ⟨⟨x,s'⟩,h1,h2⟩:=ih.rExecp c (startI vs o (fn.ntmps - lenL vs)) (fun p=>retD (conc T hint n) o (fun q=>K (resV q)) fn.results.toList p.1 p.2) hx
   obtain ⟨q,h3,h4,h5⟩:=retD_res ih h1
   refine ⟨resV q,qin_ok hg.f hg.b hg.n hg.c hg.r ?_,h3⟩
   exact ih.rExec _ _ _ _ (h2 (fun p=>p = (x,s')) rfl) fun x2 s2 he=>by
    obtain ⟨e1,e2⟩:=Prod.mk.inj he
    subst e1;subst e2
    exact h5
  ·split at hx <;> try exact hx.elim
   rename_i fn c hT
   obtain ⟨⟨x,s'⟩,h1,h2⟩:=ih.rExecp c (startI vs o (fn.ntmps - lenL vs)) (fun p=>retD (conc T hint n) o (fun q=>K (resV q)) fn.results.toList p.1 p.2) hx
   obtain ⟨q,h3,h4,h5⟩:=retD_res ih h1
   refine ⟨resV q,h3,fun K' hk=>?_⟩
   exact h2 (fun p=>retD (conc T hint n) o (fun q=>K' (resV q)) fn.results.toList p.1 p.2) (h4 (fun q=>K' (resV q)) hk)
  ·have hg:=T.good f
   split at hx <;> try exact hx.elim
   ·rename_i fn c hT
    rw [hT] at hg
    exact inl_ok hg.f hg.b hg.n hg.c hg.r (ih.rExec _ _ _ _ hx fun x s2 h=>retI_real ih h)
   ·rename_i F hT
    rw [hT] at hg
    split at hx <;> try exact hx.elim
    rename_i v o' ks hF
    refine (hg _ _ _ hF).mono fun x o2 ks2 e=>?_
    obtain ⟨e1,e2⟩:=Prod.mk.inj e
    obtain ⟨e2,e3⟩:=Prod.mk.inj e2
    subst e1;subst e2;subst e3
    exact hx
   ·rename_i F hT
    rw [hT] at hg
    split at hx
    ·rename_i rs hrs
     split at hx <;> try exact hx.elim
     rename_i q hq
     refine (sound_spec (hg _ _ hq) hrs).mono fun x o' ks ⟨e1,e2,e3⟩=>?_
     subst e1;subst e2;subst e3
     exact hx
    ·split at hx <;> try exact hx.elim
     rename_i rs hrs
     split at hx <;> try exact hx.elim
     rename_i q hq
     refine (sound_frz _ (hg _ _ hq) hrs).mono fun x o' ks ⟨e1,e2,e3⟩=>?_
     subst e1;subst e2;subst e3
     exact hx
  ·split at hx <;> try exact hx.elim
   ·rename_i fn c hT
    obtain ⟨⟨x,s'⟩,h1,h2⟩:=ih.rExecp c (startI vs s.o (fn.ntmps - lenL vs)) (fun p=>retI (conc T hint n) (lenO s.o) (fun v o' ks=>K (v,⟨killTs ks s.t,o'⟩)) fn.results.toList p.1 p.2) hx
    obtain ⟨⟨v,o',ks⟩,h3,h4⟩:=retI_pt ih (fun p=>K (p.1,⟨killTs p.2.2 s.t,p.2.1⟩)) h1
    refine ⟨_,h3,fun K' hk=>?_⟩
    exact h2 (fun p=>retI (conc T hint n) (lenO s.o) (fun v o' ks=>K' (v,⟨killTs ks s.t,o'⟩)) fn.results.toList p.1 p.2) (h4 (fun p=>K' (p.1,⟨killTs p.2.2 s.t,p.2.1⟩)) hk)
   ·rename_i F hT
    split at hx <;> try exact hx.elim
    rename_i v o' ks hF
    exact ⟨_,hx,fun K' hk=>hk⟩
   ·rename_i F hT
    split at hx
    ·rename_i rs hrs
     split at hx <;> try exact hx.elim
     rename_i q hq
     exact ⟨_,hx,fun K' hk=>hk⟩
    ·split at hx <;> try exact hx.elim
     rename_i rs hrs
     split at hx <;> try exact hx.elim
     rename_i q hq
     exact ⟨_,hx,fun K' hk=>hk⟩
  ·have hg:=T.good f
   split at hx <;> try exact hx.elim
   rename_i fn c hT
   rw [hT] at hg
   refine inlx_ok hg.f hg.b hg.n hg.c hg.r (ih.rExec _ _ _ _ hx fun x s2 h=>?_)
   obtain ⟨⟨v,o',ks⟩,h3,h4⟩:=retI_pt ih (fun p=>match geN (lenO s.o) p.2.2 with
    | true=>match keepsB s.t s.o p.2.1 l with | true=>K p.1 ⟨s.t,p.2.1⟩ | false=>False
    | false=>False) h
   simp only at h3
   split at h3 <;> try exact h3.elim
   rename_i hk1
   split at h3 <;> try exact h3.elim
   rename_i hk2
   exact retI_real ih (h4 (fun p=>geN (lenO s.o) p.2.2 = true ∧ (keepsL l s.t s.o p.2.1 ∧ K p.1 ⟨s.t,p.2.1⟩)) ⟨hk1,keepsB_is hk2,h3⟩)
  ·split at hx <;> try exact hx.elim
   rename_i fn c hT
   obtain ⟨⟨x,s'⟩,h1,h2⟩:=ih.rExecp c (startI vs s.o (fn.ntmps - lenL vs)) (fun p=>retI (conc T hint n) (lenO s.o) (fun v o' ks=>match geN (lenO s.o) ks with
    | true=>match keepsB s.t s.o o' l with | true=>K (v,⟨s.t,o'⟩) | false=>False
    | false=>False) fn.results.toList p.1 p.2) hx
   obtain ⟨⟨v,o',ks⟩,h3,h4⟩:=retI_pt ih (fun p=>match geN (lenO s.o) p.2.2 with
    | true=>match keepsB s.t s.o p.2.1 l with | true=>K (p.1,⟨s.t,p.2.1⟩) | false=>False
    | false=>False) h1
   simp only at h3
   split at h3 <;> try exact h3.elim
   rename_i hk1
   split at h3 <;> try exact h3.elim
   rename_i hk2
   refine ⟨_,h3,fun K' hk=>?_⟩
   exact h2 (fun p=>retI (conc T hint n) (lenO s.o) (fun v o' ks=>match geN (lenO s.o) ks with
    | true=>match keepsB s.t s.o o' l with | true=>K' (v,⟨s.t,o'⟩) | false=>False
    | false=>False) fn.results.toList p.1 p.2) (h4 (fun p=>match geN (lenO s.o) p.2.2 with
    | true=>match keepsB s.t s.o p.2.1 l with | true=>K' (p.1,⟨s.t,p.2.1⟩) | false=>False
    | false=>False) (by simp only [hk1,hk2];exact hk))
theorem conc_spec {T:Tab} {hint:Nat → Bool} {n f:Nat} {fn:Func} {c:Code} {rs q:List R} (hg:Good f fn c)
  (h:exec (conc T hint n) c (start rs (fn.ntmps - lenL rs)) (fun x s=>retC (conc T hint n) fn.results.toList (fun q'=>match listEq resEq q' q with | true=>True | false=>False) x s) = True):Spec f rs q:=by
 have ih:=conc_ok T hint n
 have hx:=of_eq_true h
 obtain ⟨⟨x,s'⟩,h1,h2⟩:=ih.rExecp c (start rs (fn.ntmps - lenL rs)) (fun p=>retC (conc T hint n) fn.results.toList (fun q'=>match listEq resEq q' q with | true=>True | false=>False) p.1 p.2) hx
 obtain ⟨q',h3,h4,h5⟩:=retC_res ih h1
 split at h3 <;> try exact h3.elim
 rename_i he
 rw [listEq_eq (fun _ _=>resEq_eq) he] at h5
 refine spec_of hg.f hg.b hg.n hg.c hg.r fun qa qb qc qd qe qg qh qi qj qk ql qm qo qp qq qt qu qv qw qx qy qz va vc vd ve vf vg vh vj vk vl vm vn vo vp vq vr vt vu vv vw vx hA=>?_
 rw [hA]
 exact ih.rExec _ _ _ _ (h2 (fun p=>p = (x,s')) rfl) fun x2 s2 he=>by
  obtain ⟨e1,e2⟩:=Prod.mk.inj he
  subst e1;subst e2
  exact h5
section
variable {qa:IntKind → Int → Int} {qb:Int → Int → Int} {qc:Int → Int → Int} {qd:Int → Int → Int} {qe:Int → Int → Int} {qg:Int → Int → Int} {qh:BinOp → IntKind → Int → IntKind → Int → Option Int} {qi:Int → Int → Bool} {qj:Int → Int → Bool} {qk:Int → Int → Bool} {ql:Int → Prop → Prop} {qm:List UInt8 → List UInt8 → Bool} {qo:List UInt8 → List UInt8 → Bool} {qp:ByteArray → List UInt8} {qq:ByteArray → ByteArray → ByteArray} {qt:ByteArray → ByteArray → Prop → Prop} {qu:ByteArray → Int} {qv:ByteArray → Int → Option Int} {qw:ByteArray → Int → Int → Option ByteArray} {qx:List (List D) → Option ByteArray} {qy:ByteArray → List (List D)} {qz:Int → Nat → Option Nat} {va:List (List D) → Int} {vc:List (List D) → Int → Option (List D)} {vd:List (List D) → Int → Int → Option (List (List D))} {ve:List (List D) → List (List D) → List (List D)} {vf:List (List D) → Int → List D → List (List D)} {vg:List (List D) → List (List D) → Prop → Prop} {vh:List (R × R) → R → Option R} {vj:List (R × R) → R → R → List (R × R)} {vk:List D → List D → Bool} {vl:Int → List D → (List (List D) → Prop) → Prop} {vm:Nat → List R → (List R → Prop) → Prop} {vn:Nat → List V → List O → (V → Prop) → Prop} {vo:Nat → List V → S → (V → S → Prop) → Prop} {vp:Nat → List V → List Nat → S → (V → S → Prop) → Prop} {vq:Nat → (Bool → Prop) → Prop} {vr:Nat → (Bool → Prop) → Prop} {vt:Nat → (List V → List O → Prop) → List V → S → Prop} {vu:(S → Prop) → S → Prop} {vv:Op → Option Nat → S → (S → Prop) → Prop} {vw:Array Oper → S → (S → Prop) → Prop} {vx:Code → (S → (X → S → Prop) → Prop) → S → (X → S → Prop) → Prop}
end
end
end Go.Proofs.YtahpnackkmbmgaaGreatDoor.Vm
end
