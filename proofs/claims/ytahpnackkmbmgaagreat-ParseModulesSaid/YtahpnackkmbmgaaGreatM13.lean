/- Part 13 of the proof: VConc, VTk6, VPar6, VMark, VAl6, VOpen, VOpenB, VMd5. Conditions: none. -/
import Derived.Test.YtahpnackkmbmgaaGreatM8
import Derived.Test.YtahpnackkmbmgaaGreatM12
import Derived.Test.YtahpnackkmbmgaaGreatRows
import Derived.Deep.Slices
import Derived.WideShapes
import Derived.ChangeArms
set_option linter.all false
set_option linter.unusedVariables false
set_option linter.unusedSimpArgs false
section
namespace Go.Proofs.YtahpnackkmbmgaaGreat.Vm
open Go.RowKit
section
def PtG {α:Type} (T:(α → Prop) → Prop):Prop:=∀ K,T K → ∃ v,K v ∧ ∀ K',K' v → T K'
theorem Pt.g {T:(V → Prop) → Prop} (h:Pt T):PtG T:=h
theorem PtG.mono {α:Type} {T:(α → Prop) → Prop} (h:PtG T) {K K':α → Prop} (hT:T K) (hK:∀ v,K v → K' v):T K':=by
 obtain ⟨v,h1,h2⟩:=h K hT
 exact h2 K' (hK v h1)
structure Ok (a:Ar):Prop where
 wrap:a.wrap = real.wrap
 add:a.add = real.add
 sub:a.sub = real.sub
 mul:a.mul = real.mul
 quo:a.quo = real.quo
 rem:a.rem = real.rem
 bits:a.bits = real.bits
 lt:a.lt = real.lt
 le:a.le = real.le
 eq:a.eq = real.eq
 nz:∀ y k,a.nz y k → real.nz y k
 nzp:∀ y k k',a.nz y k → k' → a.nz y k'
 seq:a.seq = real.seq
 slt:a.slt = real.slt
 bytes:a.bytes = real.bytes
 cat:a.cat = real.cat
 fits:∀ x y k,a.fits x y k → real.fits x y k
 fitsp:∀ x y k k',a.fits x y k → k' → a.fits x y k'
 slen:a.slen = real.slen
 sget:a.sget = real.sget
 ssub:a.ssub = real.ssub
 txt:a.txt = real.txt
 byt:a.byt = real.byt
 nat:a.nat = real.nat
 len:a.len = real.len
 get:a.get = real.get
 sub2:a.sub2 = real.sub2
 app:a.app = real.app
 set:a.set = real.set
 room:∀ x y k,a.room x y k → real.room x y k
 roomp:∀ x y k k',a.room x y k → k' → a.room x y k'
 mlook:a.mlook = real.mlook
 mput:a.mput = real.mput
 deq:a.deq = real.deq
 call:∀ f rs K,a.call f rs K → real.call f rs K
 callp:∀ f rs,PtG (a.call f rs)
 calld:∀ f vs o K,a.calld f vs o K → real.calld f vs o K
 calldp:∀ f vs o,PtG (a.calld f vs o)
 rep:∀ n z K,a.rep n z K → real.rep n z K
 repp:∀ n z,PtG (a.rep n z)
 callo:∀ f vs s K,a.callo f vs s K → real.callo f vs s K
 callop:∀ f vs s,PtG fun K:V × S → Prop=>a.callo f vs s fun v s'=>K (v,s')
 callx:∀ f vs l s K,a.callx f vs l s K → real.callx f vs l s K
 callxp:∀ f vs l s,PtG fun K:V × S → Prop=>a.callx f vs l s fun v s'=>K (v,s')
 new:∀ e K,a.new e K → real.new e K
 newp:∀ e,PtG (a.new e)
 lit:∀ t K,a.lit t K → real.lit t K
 litp:∀ t,PtG (a.lit t)
 next:∀ N s,a.next N s → N s
 nextp:∀ N s,N s → a.next N s
 ext:∀ op dst s K,¬ a.ext op dst s K
 reg:∀ ops s K,¬ a.reg ops s K
 loop:∀ c body s K,a.loop c body s K → (∀ s K K',(∀ x s,K x s → K' x s) → body s K → body s K') → loopR Eq body s K
 loopp:∀ c body s,(∀ s,PtG fun K:X × S → Prop=>body s fun x s=>K (x,s)) → PtG fun K:X × S → Prop=>a.loop c body s fun x s=>K (x,s)
theorem real_rep {n:Int} {z:List D} {K K':List (List D) → Prop} (h:real.rep n z K) (hK:∀ b,K b → K' b):real.rep n z K':=⟨h.1,hK _ h.2⟩
theorem real_lit {e:Nat} {K K':Bool → Prop} (h:real.lit e K) (hK:∀ b,K b → K' b):real.lit e K':=by obtain ⟨z,h⟩:=h;exact ⟨z,hK _ h⟩
section
variable {a:Ar} (h:Ok a)
include h
theorem Ok.load:loadV a = loadV real:=by funext os K t x;unfold loadV;simp only [h.get]
theorem Ok.indexAddr:indexAddrV a = indexAddrV real:=by funext os K t x y;unfold indexAddrV;simp only [h.get,h.nat]
theorem Ok.index:indexV a = indexV real:=by funext K t x y;unfold indexV;simp only [h.sget,h.nat]
theorem Ok.un:unV a = unV real:=by funext op x K;unfold unV;simp only [h.wrap,h.sub]
theorem Ok.conv:convV a = convV real:=by funext K k0 k x;unfold convV convI convT convB;simp only [h.wrap,h.txt,h.byt]
theorem Ok.lenV:lenV a = lenV real:=by
 have e1:lenS a = lenS real:=by funext os K x;unfold lenS;simp only [h.len]
 have e2:lenT a = lenT real:=by funext K x;unfold lenT;simp only [h.slen]
 funext os K k x;unfold Vm.lenV;rw [e1,e2]
theorem Ok.slice:sliceV a = sliceV real:=by funext os K t x lo hi;unfold sliceV;simp only [h.slen,h.ssub,h.len,h.sub2]
theorem Ok.look:lookV a = lookV real:=by funext os K t ok x y;unfold lookV;simp only [h.mlook]
theorem Ok.min:minV a = minV real:=by funext K mx l;unfold minV;simp only [h.lt]
theorem Ok.store {s:S}:storeV a s = storeV real s:=by funext K t y x;unfold storeV;simp only [h.get,h.set]
theorem Ok.put {s:S}:putV a s = putV real s:=by funext K t x i v;unfold putV;simp only [h.mput]
theorem Ok.rInt {k:IntKind} {x y:Int} {K:V → Prop} {op:BinOp} (hx:binInt a k x y K op):Vm.binInt real k x y K op:=by
 unfold Vm.binInt at hx
 simp only [h.wrap,h.add,h.sub,h.mul,h.quo,h.rem,h.lt,h.le,h.eq] at hx
 split at hx <;> first | exact hx | exact hx.elim | exact h.nz _ _ hx
theorem Ok.rStr {x y:ByteArray} {K:V → Prop} {op:BinOp} (hx:binStr a x y K op):Vm.binStr real x y K op:=by
 unfold Vm.binStr at hx
 simp only [h.cat,h.seq,h.bytes,h.slt] at hx
 split at hx <;> first | exact hx | exact hx.elim | exact h.fits _ _ _ hx
theorem Ok.rIntp {k:IntKind} {x y:Int} {op:BinOp}:Pt fun K=>binInt a k x y K op:=by
 intro K hx
 unfold Vm.binInt at hx ⊢
 split at hx <;> first | exact hx.elim | exact ⟨_,hx,fun K' hk=>hk⟩ | exact ⟨_,(h.nz _ _ hx).2,fun K' hk=>h.nzp _ _ _ hx hk⟩
theorem Ok.rStrp {x y:ByteArray} {op:BinOp}:Pt fun K=>binStr a x y K op:=by
 intro K hx
 unfold Vm.binStr at hx ⊢
 split at hx <;> first | exact hx.elim | exact ⟨_,hx,fun K' hk=>hk⟩ | exact ⟨_,(h.fits _ _ _ hx).2,fun K' hk=>h.fitsp _ _ _ _ hx hk⟩
theorem Ok.rVal {x y:Value} {K:V → Prop} {op:BinOp} (hx:binVal a op x y K):binVal real op x y K:=by
 unfold binVal at hx ⊢
 split at hx
 ·split at hx
  ·rename_i hb
   rw [h.bits] at hx
   first | exact hx | (rw [hb];exact hx)
  ·rename_i hb
   split at hx
   ·rename_i hk
    first | exact h.rInt hx | (rw [hb,hk];exact h.rInt hx)
   ·exact hx.elim
 ·exact h.rStr hx
 ·exact hx.elim
theorem Ok.rValp {x y:Value} {op:BinOp}:Pt fun K=>binVal a op x y K:=by
 intro K hx
 unfold binVal at hx ⊢
 split at hx
 ·split at hx
  ·rename_i hb
   unfold optI at hx ⊢
   split at hx <;> try exact hx.elim
   rename_i hr
   exact ⟨_,hx,fun K' hk=>by first | exact hk | (rw [hb,hr];exact hk)⟩
  ·rename_i hb
   split at hx
   ·rename_i hk
    obtain ⟨v,h1,h2⟩:=h.rIntp K hx
    exact ⟨v,h1,fun K' hk'=>by first | exact h2 K' hk' | (rw [hb,hk];exact h2 K' hk')⟩
   ·exact hx.elim
 ·exact h.rStrp K hx
 ·exact hx.elim
theorem Ok.rBin {x y:V} {K:V → Prop} {op:BinOp} {t:Nat} (hx:binV a op t x y K):binV real op t x y K:=by
 unfold binV at hx ⊢
 split at hx
 ·split at hx
  ·exact hx
  ·exact hx
  ·exact h.rVal hx
 ·exact hx
 ·exact hx
 ·split at hx
  ·rw [h.len] at hx;exact h.nz _ _ hx
  ·exact hx
 ·exact hx
 ·rw [h.deq] at hx;exact hx
 ·exact hx
theorem Ok.rBinp {x y:V} {op:BinOp} {t:Nat}:Pt fun K=>binV a op t x y K:=by
 intro K hx
 unfold binV at hx ⊢
 split at hx <;> try exact hx.elim
 ·split at hx
  ·split at hx <;> try exact hx.elim
   exact nil_pt _ hx
  ·split at hx <;> try exact hx.elim
   exact nil_pt _ hx
  ·exact h.rValp _ hx
 ·split at hx <;> try exact hx.elim
  split at hx <;> try exact hx.elim
  exact nil_pt _ hx
 ·split at hx <;> try exact hx.elim
  split at hx <;> try exact hx.elim
  exact nil_pt _ hx
 ·split at hx <;> try exact hx.elim
  obtain ⟨v,h3,h4⟩:=nil_pt _ ((h.nz _ _ hx).2)
  exact ⟨v,h3,fun K' hk=>h.nzp _ _ _ hx (h4 _ hk)⟩
 ·split at hx <;> try exact hx.elim
  exact nil_pt _ hx
 ·split at hx <;> try exact hx.elim
  split at hx <;> try exact hx.elim
  split at hx <;> try exact hx.elim
  exact nil_pt _ hx
theorem Ok.rCall {os:List O} {f:Nat} {vs:List V} {K:V → Prop} (hx:callV a os K f vs):Vm.callV real os K f vs:=by
 unfold Vm.callV at hx ⊢
 split at hx
 ·exact h.call _ _ _ hx
 ·exact h.calld _ _ _ _ hx
theorem Ok.rCallp {os:List O} {f:Nat} {vs:List V}:Pt fun K=>callV a os K f vs:=by
 intro K hx
 unfold Vm.callV at hx ⊢
 split at hx
 ·obtain ⟨q,h1,h2⟩:=h.callp _ _ _ hx
  exact ⟨_,h1,fun K' hk=>h2 _ hk⟩
 ·obtain ⟨q,h1,h2⟩:=h.calldp _ _ _ _ hx
  exact ⟨_,h1,fun K' hk=>h2 _ hk⟩
theorem Ok.rC {g:Operand → V} {os:List O} {K:V → Prop} {op:Op} (hx:stepC a g os K op):Vm.stepC real g os K op:=by
 unfold Vm.stepC at hx
 split at hx <;> try exact hx.elim
 ·exact hx
 ·exact hx
 ·exact hx
 ·rw [h.load] at hx;exact hx
 ·exact hx
 ·exact hx
 ·rw [h.indexAddr] at hx;exact hx
 ·rw [h.index] at hx;exact hx
 ·exact h.rBin hx
 ·rw [h.un] at hx;exact hx
 ·rw [h.conv] at hx;exact hx
 ·exact hx
 ·exact hx
 ·exact hx
 ·rw [h.slice] at hx;exact hx
 ·rw [h.lenV] at hx;exact hx
 ·exact h.rCall hx
 ·rw [h.look] at hx;exact hx
 ·rw [h.min] at hx;exact hx
 ·rw [h.min] at hx;exact hx
 ·exact hx
 ·exact hx
 ·unfold callTV at hx
  split at hx <;> try exact hx.elim
  rename_i f ks hf
  show (match fnV _ with | some (f,ks)=>_ | none=>False)
  rw [hf]
  exact h.rCall hx
theorem Ok.rCp {g:Operand → V} {os:List O} {op:Op}:Pt fun K=>stepC a g os K op:=by
 intro K hx
 simp only [Vm.stepC] at hx ⊢
 split at hx <;> try exact hx.elim
 ·exact ⟨_,hx,fun K' hk=>hk⟩
 ·exact ⟨_,hx,fun K' hk=>hk⟩
 ·exact pick_pt K hx
 ·rw [h.load] at hx ⊢;exact load_pt K hx
 ·exact field_pt K hx
 ·exact part_pt K hx
 ·rw [h.indexAddr] at hx ⊢;exact index_pt K hx
 ·rw [h.index] at hx ⊢;exact sget_pt K hx
 ·exact h.rBinp K hx
 ·rw [h.un] at hx ⊢;exact un_pt K hx
 ·rw [h.conv] at hx ⊢;exact conv_pt K hx
 ·exact build_pt K hx
 ·exact buildSlice_pt K hx
 ·exact extract_pt K hx
 ·rw [h.slice] at hx ⊢;exact slice_pt K hx
 ·rw [h.lenV] at hx ⊢;exact len_pt K hx
 ·exact h.rCallp K hx
 ·rw [h.look] at hx ⊢;exact look_pt K hx
 ·rw [h.min] at hx ⊢;exact min_pt K hx
 ·rw [h.min] at hx ⊢;exact min_pt K hx
 ·exact nn_pt K hx
 ·split at hx <;> try exact hx.elim
  exact ⟨_,hx,fun K' hk=>by simp only [*]⟩
 ·simp only [callTV] at hx ⊢
  split at hx <;> try exact hx.elim
  exact h.rCallp K hx
theorem Ok.rApp {m:Bool} {s:S} {dst:Option Nat} {K:S → Prop} {t:Nat} {x y:V} (hx:appendV a m s dst K t x y):appendV real m s dst K t x y:=by
 unfold appendV at hx ⊢
 simp only [h.app] at hx
 repeat' split at hx
 all_goals first | exact hx.elim | exact ⟨(h.room _ _ _ hx).1,h.new _ _ (h.room _ _ _ hx).2⟩ | exact h.room _ _ _ hx
theorem Ok.rAppp {m:Bool} {s:S} {dst:Option Nat} {t:Nat} {x y:V}:PtG fun K=>appendV a m s dst K t x y:=by
 intro K hx
 simp only [appendV] at hx ⊢
 repeat' split at hx
 all_goals first | exact hx.elim | skip
 ·obtain ⟨z,h1,h2⟩:=h.newp _ _ (h.room _ _ _ hx).2
  exact ⟨_,h1,fun K' hk=>h.roomp _ _ _ _ hx (h2 _ hk)⟩
 ·exact ⟨_,(h.room _ _ _ hx).2,fun K' hk=>h.roomp _ _ _ _ hx hk⟩
theorem Ok.rLit {s:S} {dst:Option Nat} {K:S → Prop} {t n:Nat} {ps:List (Nat × Operand)} (hx:litV a s dst K t n ps):Vm.litV real s dst K t n ps:=by
 unfold Vm.litV at hx ⊢
 split at hx
 ·refine buildSlice_pt.g.mono hx fun v hv=>?_
  split at hv
  ·exact h.new _ _ hv
  ·exact hv.elim
 ·exact hx.elim
theorem Ok.rLitp {s:S} {dst:Option Nat} {t n:Nat} {ps:List (Nat × Operand)}:PtG fun K=>litV a s dst K t n ps:=by
 intro K hx
 simp only [Vm.litV] at hx ⊢
 split at hx
 ·obtain ⟨v,h1,h2⟩:=buildSlice_pt _ hx
  split at h1
  ·obtain ⟨z,h3,h4⟩:=h.newp _ _ h1
   exact ⟨_,h3,fun K' hk=>h2 _ (h4 _ hk)⟩
  ·exact h1.elim
 ·exact hx.elim
theorem Ok.rMk {s:S} {dst:Option Nat} {K:S → Prop} {t:Nat} {x y:V} (hx:mkSliceV a s dst K t x y):mkSliceV real s dst K t x y:=by
 unfold mkSliceV at hx ⊢
 simp only [h.eq] at hx
 repeat' split at hx
 all_goals first | exact hx.elim | skip
 exact real_rep (h.rep _ _ _ hx) fun rows hr=>h.new _ _ hr
theorem Ok.rMkp {s:S} {dst:Option Nat} {t:Nat} {x y:V}:PtG fun K=>mkSliceV a s dst K t x y:=by
 intro K hx
 simp only [mkSliceV] at hx ⊢
 repeat' split at hx
 all_goals first | exact hx.elim | skip
 obtain ⟨rows,h1,h2⟩:=h.repp _ _ _ hx
 obtain ⟨z,h3,h4⟩:=h.newp _ _ h1
 exact ⟨_,h3,fun K' hk=>h2 _ (h4 _ hk)⟩
theorem Ok.rStep {m:Bool} {s:S} {dst:Option Nat} {K:S → Prop} {op:Op} (hx:step a m s dst K op):Vm.step real m s dst K op:=by
 unfold Vm.step at hx
 split at hx
 ·exact hx
 ·exact hx
 ·split at hx
  ·rw [h.store] at hx;exact hx
  ·exact hx.elim
 ·exact h.rMk hx
 ·exact hx
 ·split at hx
  ·rw [h.put] at hx;exact hx
  ·exact hx.elim
 ·split at hx
  ·rename_i e he
   show (match (ty _).elem with | some e=>_ | none=>False)
   rw [he]
   exact h.new _ _ hx
  ·exact hx.elim
 ·exact h.rApp hx
 ·split at hx
  ·refine real_lit (h.lit _ _ hx) fun c hc=>?_
   cases c with
   | true=>exact h.rC hc
   | false=>exact h.rLit hc
  ·exact h.rC hx
 ·split at hx
  ·exact h.callo _ _ _ _ hx
  ·exact h.rC hx
 ·split at hx
  ·split at hx
   ·rename_i f ks hf
    show (match fnV _ with | some (f,ks)=>_ | none=>False)
    rw [hf]
    exact h.callo _ _ _ _ hx
   ·exact hx.elim
  ·exact h.rC hx
 ·have h1:=h.rC hx
  unfold Vm.step
  split <;> first | exact h1 | grind
theorem Ok.rStepp {m:Bool} {s:S} {dst:Option Nat} {op:Op}:PtG fun K=>step a m s dst K op:=by
 intro K hx
 simp only [Vm.step] at hx ⊢
 split at hx
 ·split at hx
  ·exact ⟨_,hx,fun K' hk=>hk⟩
  ·exact hx.elim
 ·split at hx
  ·rename_i cs hcs
   exact ⟨_,hx,fun K' hk=>hk⟩
  ·exact hx.elim
 ·split at hx
  ·rw [h.store] at hx ⊢
   obtain ⟨o',h1,h2⟩:=storeV_pt hx
   exact ⟨_,h1,fun K' hk=>h2 _ _ hk⟩
  ·exact hx.elim
 ·exact h.rMkp K hx
 ·split at hx
  ·split at hx
   ·rename_i kt hkt
    exact ⟨_,hx,fun K' hk=>hk⟩
   ·exact hx.elim
  ·exact hx.elim
 ·split at hx
  ·simp only [putV] at hx ⊢
   repeat' split at hx
   all_goals first | exact hx.elim | exact ⟨_,hx,fun K' hk=>by simp only [*]⟩
  ·exact hx.elim
 ·split at hx
  ·rename_i e he
   obtain ⟨z,h1,h2⟩:=h.newp _ _ hx
   exact ⟨_,h1,fun K' hk=>h2 _ hk⟩
  ·exact hx.elim
 ·exact h.rAppp K hx
 ·split at hx
  ·obtain ⟨c,h1,h2⟩:=h.litp _ _ hx
   cases c with
   | true =>
    obtain ⟨v,h3,h4⟩:=h.rCp _ h1
    exact ⟨_,h3,fun K' hk=>h2 _ (h4 _ hk)⟩
   | false =>
    obtain ⟨v,h3,h4⟩:=h.rLitp _ h1
    exact ⟨_,h3,fun K' hk=>h2 _ (h4 _ hk)⟩
  ·obtain ⟨v,h3,h4⟩:=h.rCp _ hx
   exact ⟨_,h3,fun K' hk=>h4 _ hk⟩
 ·split at hx
  ·obtain ⟨⟨v,s'⟩,h1,h2⟩:=h.callop _ _ _ (fun p=>K (p.2.put dst p.1)) hx
   exact ⟨_,h1,fun K' hk=>h2 (fun p=>K' (p.2.put dst p.1)) hk⟩
  ·obtain ⟨v,h3,h4⟩:=h.rCp _ hx
   exact ⟨_,h3,fun K' hk=>h4 _ hk⟩
 ·split at hx
  ·split at hx
   ·rename_i f ks hf
    obtain ⟨⟨v,s'⟩,h1,h2⟩:=h.callop _ _ _ (fun p=>K (p.2.put dst p.1)) hx
    exact ⟨_,h1,fun K' hk=>h2 (fun p=>K' (p.2.put dst p.1)) hk⟩
   ·exact hx.elim
  ·obtain ⟨v,h3,h4⟩:=h.rCp _ hx
   exact ⟨_,h3,fun K' hk=>h4 _ hk⟩
 ·obtain ⟨v,h3,h4⟩:=h.rCp _ hx
  refine ⟨_,h3,fun K' hk=>?_⟩
  exact h4 (fun v=>K' (s.put dst v)) hk
theorem Ok.rStep1 {s:S} {dst:Option Nat} {K:S → Prop} {op:Op} (hx:step1 a s dst K op):Vm.step1 real s dst K op:=by
 unfold Vm.step1 at hx ⊢
 split at hx
 ·exact (h.ext _ _ _ _ hx).elim
 ·exact h.rStep hx
theorem Ok.rStep1p {s:S} {dst:Option Nat} {op:Op}:PtG fun K=>step1 a s dst K op:=by
 intro K hx
 simp only [Vm.step1] at hx ⊢
 split at hx
 ·exact (h.ext _ _ _ _ hx).elim
 ·exact h.rStepp _ hx
theorem Ok.rRun {dsts:List (Option Nat)}:∀ {l:List Oper} {s:S} {K K':S → Prop},runE a dsts l s K → (∀ s,K s → K' s) → runE real dsts l s K'
 | [],s,K,K',hx,hK=>hK _ hx
 | ⟨dst,op,type,pos,after,none⟩ :: l,s,K,K',hx,hK=>by
  rw [runE] at hx ⊢
  obtain ⟨s',h1,h2⟩:=h.rStep1p _ hx
  exact h.rStep1 (h2 _ (Ok.rRun h1 hK))
 | ⟨dst,op,type,pos,after,some (j,b)⟩ :: l,s,K,K',hx,hK=>by
  rw [runE] at hx ⊢
  obtain ⟨c,h1,h2⟩:=guard_pt hx
  refine h2 _ ?_
  cases c with
  | none=>exact Ok.rRun h1 hK
  | some c =>
   simp only at h1 ⊢
   cases hb:bEq c b with
   | true =>
    rw [hb] at h1
    obtain ⟨s',h3,h4⟩:=h.rStep1p _ h1
    exact h.rStep1 (h4 _ (Ok.rRun h3 hK))
   | false =>
    rw [hb] at h1
    exact Ok.rRun h1 hK
theorem Ok.rRunp {dsts:List (Option Nat)}:∀ {l:List Oper} {s:S},PtG fun K=>runE a dsts l s K
 | [],s,K,hx=>⟨s,hx,fun K' hk=>hk⟩
 | ⟨dst,op,type,pos,after,none⟩ :: l,s,K,hx=>by
  simp only [runE] at hx ⊢
  obtain ⟨s',h1,h2⟩:=h.rStep1p _ hx
  obtain ⟨s2,h3,h4⟩:=Ok.rRunp K h1
  exact ⟨s2,h3,fun K' hk=>h2 _ (h4 K' hk)⟩
 | ⟨dst,op,type,pos,after,some (j,b)⟩ :: l,s,K,hx=>by
  simp only [runE] at hx ⊢
  obtain ⟨c,h1,h2⟩:=guard_pt hx
  cases c with
  | none =>
   obtain ⟨s2,h3,h4⟩:=Ok.rRunp K h1
   exact ⟨s2,h3,fun K' hk=>h2 _ (h4 K' hk)⟩
  | some c =>
   simp only at h1
   cases hb:bEq c b with
   | true =>
    rw [hb] at h1
    obtain ⟨s',h3,h4⟩:=h.rStep1p _ h1
    obtain ⟨s2,h5,h6⟩:=Ok.rRunp K h3
    exact ⟨s2,h5,fun K' hk=>h2 _ (by simp only [hb];exact h4 _ (h6 K' hk))⟩
   | false =>
    rw [hb] at h1
    obtain ⟨s2,h3,h4⟩:=Ok.rRunp K h1
    exact ⟨s2,h3,fun K' hk=>h2 _ (by simp only [hb];exact h4 K' hk)⟩
theorem Ok.rStepD {all:List Oper} {i:Nat} {s:S} {dst:Option Nat} {K:S → Prop} {op:Op} (hx:stepD a all i s dst K op):Vm.stepD real all i s dst K op:=by
 unfold Vm.stepD at hx ⊢
 split at hx
 ·split at hx
  ·split at hx
   ·exact h.callo _ _ _ _ hx
   ·split at hx
    ·exact h.callx _ _ _ _ _ hx
    ·exact h.rStep hx
  ·exact h.rStep hx
 ·exact h.rStep hx
theorem Ok.rStepDp {all:List Oper} {i:Nat} {s:S} {dst:Option Nat} {op:Op}:PtG fun K=>stepD a all i s dst K op:=by
 intro K hx
 simp only [Vm.stepD] at hx ⊢
 split at hx
 ·split at hx
  ·split at hx
   ·obtain ⟨⟨v,s'⟩,h1,h2⟩:=h.callop _ _ _ (fun p=>K (p.2.put dst p.1)) hx
    exact ⟨_,h1,fun K' hk=>h2 (fun p=>K' (p.2.put dst p.1)) hk⟩
   ·split at hx
    ·rename_i l hl
     obtain ⟨⟨v,s'⟩,h1,h2⟩:=h.callxp _ _ _ _ (fun p=>K (p.2.put dst p.1)) hx
     exact ⟨_,h1,fun K' hk=>h2 (fun p=>K' (p.2.put dst p.1)) hk⟩
    ·exact h.rStepp _ hx
  ·exact h.rStepp _ hx
 ·exact h.rStepp _ hx
theorem Ok.rRunD {dsts:List (Option Nat)} {all:List Oper}:∀ {l:List Oper} {i:Nat} {s:S} {K K':S → Prop},runD a dsts all i l s K → (∀ s,K s → K' s) → runD real dsts all i l s K'
 | [],i,s,K,K',hx,hK=>hK _ hx
 | ⟨dst,op,type,pos,after,none⟩ :: l,i,s,K,K',hx,hK=>by
  rw [runD,execD] at hx ⊢
  obtain ⟨s',h1,h2⟩:=h.rStepDp _ hx
  exact h.rStepD (h2 _ (Ok.rRunD h1 hK))
 | ⟨dst,op,type,pos,after,some (j,b)⟩ :: l,i,s,K,K',hx,hK=>by
  rw [runD,execD] at hx ⊢
  obtain ⟨c,h1,h2⟩:=guard_pt hx
  refine h2 _ ?_
  cases c with
  | none=>exact Ok.rRunD h1 hK
  | some c =>
   simp only at h1 ⊢
   cases hb:bEq c b with
   | true =>
    rw [hb] at h1
    obtain ⟨s',h3,h4⟩:=h.rStepDp _ h1
    exact h.rStepD (h4 _ (Ok.rRunD h3 hK))
   | false =>
    rw [hb] at h1
    exact Ok.rRunD h1 hK
theorem Ok.rRunDp {dsts:List (Option Nat)} {all:List Oper}:∀ {l:List Oper} {i:Nat} {s:S},PtG fun K=>runD a dsts all i l s K
 | [],i,s,K,hx=>⟨s,hx,fun K' hk=>hk⟩
 | ⟨dst,op,type,pos,after,none⟩ :: l,i,s,K,hx=>by
  simp only [runD,execD] at hx ⊢
  obtain ⟨s',h1,h2⟩:=h.rStepDp _ hx
  obtain ⟨s2,h3,h4⟩:=Ok.rRunDp K h1
  exact ⟨s2,h3,fun K' hk=>h2 _ (h4 K' hk)⟩
 | ⟨dst,op,type,pos,after,some (j,b)⟩ :: l,i,s,K,hx=>by
  simp only [runD,execD] at hx ⊢
  obtain ⟨c,h1,h2⟩:=guard_pt hx
  cases c with
  | none =>
   obtain ⟨s2,h3,h4⟩:=Ok.rRunDp K h1
   exact ⟨s2,h3,fun K' hk=>h2 _ (h4 K' hk)⟩
  | some c =>
   simp only at h1
   cases hb:bEq c b with
   | true =>
    rw [hb] at h1
    obtain ⟨s',h3,h4⟩:=h.rStepDp _ h1
    obtain ⟨s2,h5,h6⟩:=Ok.rRunDp K h3
    exact ⟨s2,h5,fun K' hk=>h2 _ (by simp only [hb];exact h4 _ (h6 K' hk))⟩
   | false =>
    rw [hb] at h1
    obtain ⟨s2,h3,h4⟩:=Ok.rRunDp K h1
    exact ⟨s2,h3,fun K' hk=>h2 _ (by simp only [hb];exact h4 K' hk)⟩
theorem Ok.rExecp:∀ (c:Code) (s:S),PtG fun K:X × S → Prop=>exec a c s fun x s=>K (x,s)
 | .skip,s,K,hx=>⟨_,hx,fun K' hk=>hk⟩
 | .region id ops d,s,K,hx=>by
  simp only [exec] at hx ⊢
  split at hx
  ·obtain ⟨s',h1,h2⟩:=h.rRunp _ hx
   exact ⟨_,h1,fun K' hk=>h2 (fun s=>K' (.normal,s)) hk⟩
  ·split at hx
   ·exact (h.reg _ _ _ hx).elim
   split at hx <;> try exact hx.elim
   obtain ⟨s',h1,h2⟩:=h.rRunDp _ hx
   exact ⟨_,h1,fun K' hk=>h2 (fun s=>K' (.normal,s)) hk⟩
 | .seq c d,s,K,hx=>by
  obtain ⟨⟨x,s'⟩,h1,h2⟩:=Ok.rExecp c s (fun p=>thenX (fun s=>a.next (fun s=>exec a d s fun x s=>K (x,s)) s) (fun x s=>K (x,s)) p.1 p.2) hx
  cases x with
  | normal =>
   obtain ⟨p,h3,h4⟩:=Ok.rExecp d s' K (h.next _ _ h1)
   exact ⟨p,h3,fun K' hk=>h2 (fun p=>thenX (fun s=>a.next (fun s=>exec a d s fun x s=>K' (x,s)) s) (fun x s=>K' (x,s)) p.1 p.2) (h.nextp _ _ (h4 K' hk))⟩
  | exit i=>exact ⟨_,h1,fun K' hk=>h2 (fun p=>thenX (fun s=>a.next (fun s=>exec a d s fun x s=>K' (x,s)) s) (fun x s=>K' (x,s)) p.1 p.2) hk⟩
  | ret=>exact ⟨_,h1,fun K' hk=>h2 (fun p=>thenX (fun s=>a.next (fun s=>exec a d s fun x s=>K' (x,s)) s) (fun x s=>K' (x,s)) p.1 p.2) hk⟩
 | .cond c d e,s,K,hx=>by
  simp only [exec] at hx ⊢
  split at hx <;> try exact hx.elim
  split at hx
  ·obtain ⟨p,h3,h4⟩:=Ok.rExecp d s K hx
   exact ⟨p,h3,fun K' hk=>h4 K' hk⟩
  ·obtain ⟨p,h3,h4⟩:=Ok.rExecp e s K hx
   exact ⟨p,h3,fun K' hk=>h4 K' hk⟩
 | .block id c,s,K,hx=>by
  obtain ⟨⟨x,s'⟩,h1,h2⟩:=Ok.rExecp c s (fun p=>blockX id (fun x s=>K (x,s)) p.1 p.2) hx
  cases x with
  | normal=>exact ⟨_,h1,fun K' hk=>h2 (fun p=>blockX id (fun x s=>K' (x,s)) p.1 p.2) hk⟩
  | ret=>exact ⟨_,h1,fun K' hk=>h2 (fun p=>blockX id (fun x s=>K' (x,s)) p.1 p.2) hk⟩
  | exit i =>
   simp only [blockX] at h1
   cases he:eqN i id with
   | true =>
    rw [he] at h1
    exact ⟨_,h1,fun K' hk=>h2 (fun p=>blockX id (fun x s=>K' (x,s)) p.1 p.2) (by simp only [blockX,he];exact hk)⟩
   | false =>
    rw [he] at h1
    exact ⟨_,h1,fun K' hk=>h2 (fun p=>blockX id (fun x s=>K' (x,s)) p.1 p.2) (by simp only [blockX,he];exact hk)⟩
 | .loop c,s,K,hx=>h.loopp c _ s (fun s=>Ok.rExecp c s) K hx
 | .exit i,s,K,hx=>⟨_,hx,fun K' hk=>hk⟩
 | .ret,s,K,hx=>⟨_,hx,fun K' hk=>hk⟩
 | .rangeFunc f ps x y,s,K,hx=>by cases hx
 | .scope c,s,K,hx=>by cases hx
 | .label l,s,K,hx=>by cases hx
 | .goto l,s,K,hx=>by cases hx
 | .refuse y,s,K,hx=>by cases hx
theorem Ok.rMono {c:Code} {s:S} {K K':X → S → Prop} (hx:exec a c s K) (hK:∀ x s,K x s → K' x s):exec a c s K' :=
 (h.rExecp c s).mono (K:=fun p=>K p.1 p.2) (K':=fun p=>K' p.1 p.2) hx fun p hp=>hK _ _ hp
theorem Ok.rExec:∀ (c:Code) (s:S) (K K':X → S → Prop),exec a c s K → (∀ x s,K x s → K' x s) → exec real c s K'
 | .skip,s,K,K',hx,hK=>hK _ _ hx
 | .region id ops d,s,K,K',hx,hK=>by
  unfold exec at hx ⊢
  split at hx
  ·exact h.rRun hx fun s hs=>hK _ _ hs
  ·split at hx
   ·exact (h.reg _ _ _ hx).elim
   split at hx <;> try exact hx.elim
   exact h.rRunD hx fun s hs=>hK _ _ hs
 | .seq c d,s,K,K',hx,hK=>by
  refine Ok.rExec c s _ _ hx fun x s' hs=>?_
  cases x with
  | normal=>exact ⟨fun s2=>s2 = s',fun _ _ _ _ _ h=>⟨_,rfl,h⟩,fun s2 e=>by subst e;exact Ok.rExec d _ _ _ (h.next _ _ hs) hK⟩
  | exit i=>exact hK _ _ hs
  | ret=>exact hK _ _ hs
 | .cond c d e,s,K,K',hx,hK=>by
  unfold exec at hx ⊢
  split at hx <;> try exact hx.elim
  split at hx
  ·exact Ok.rExec d _ _ _ hx hK
  ·exact Ok.rExec e _ _ _ hx hK
 | .block id c,s,K,K',hx,hK=>by
  refine Ok.rExec c s _ _ hx fun x s' hs=>?_
  cases x with
  | normal=>exact hK _ _ hs
  | ret=>exact hK _ _ hs
  | exit i =>
   have hs:(match eqN i id with | true=>K .normal s' | false=>K (.exit i) s'):=hs
   show (match eqN i id with | true=>K' .normal s' | false=>K' (.exit i) s')
   cases he:eqN i id with
   | true=>rw [he] at hs;exact hK _ _ hs
   | false=>rw [he] at hs;exact hK _ _ hs
 | .loop c,s,K,K',hx,hK=>by
  obtain ⟨γ,st,inv,μ,h1,h2,h3⟩:=h.loop c _ s K hx fun s K K' hK hs=>h.rMono hs hK
  refine .inr (.inl ⟨γ,st,inv,μ,h1,h2,fun x hi=>Ok.rExec c _ _ _ (h3 x hi) fun e s' hs=>?_⟩)
  cases e with
  | normal=>exact hs
  | exit i=>exact hK _ _ hs
  | ret=>exact hK _ _ hs
 | .exit i,s,K,K',hx,hK=>hK _ _ hx
 | .ret,s,K,K',hx,hK=>hK _ _ hx
 | .rangeFunc f ps x y,s,K,K',hx,hK=>by cases hx
 | .scope c,s,K,K',hx,hK=>by cases hx
 | .label l,s,K,K',hx,hK=>by cases hx
 | .goto l,s,K,K',hx,hK=>by cases hx
 | .refuse y,s,K,K',hx,hK=>by cases hx
theorem Ok.rRes {s:S}:∀ {l:List ResultVar} {K K':List V → Prop},resO a s l K → (∀ vs,K vs → K' vs) → resO real s l K'
 | [],K,K',hx,hK=>hK _ hx
 | .tmp t :: l,K,K',hx,hK=>Ok.rRes (l:=l) hx fun vs hv=>hK _ hv
 | .cell b t :: l,K,K',hx,hK=>by
  rw [resO] at hx ⊢
  rw [h.load] at hx
  exact load_pt.g.mono hx fun v hv=>Ok.rRes (l:=l) hv fun vs hv=>hK _ hv
theorem Ok.rResp {s:S}:∀ {l:List ResultVar},PtG fun K=>resO a s l K
 | [],K,hx=>⟨_,hx,fun K' hk=>hk⟩
 | .tmp t :: l,K,hx=>by
  obtain ⟨v,h1,h2⟩:=Ok.rResp (l:=l) _ hx
  exact ⟨_,h1,fun K' hk=>h2 _ hk⟩
 | .cell b t :: l,K,hx=>by
  simp only [resO] at hx ⊢
  rw [h.load] at hx ⊢
  obtain ⟨v,h1,h2⟩:=load_pt _ hx
  obtain ⟨vs,h3,h4⟩:=Ok.rResp (l:=l) _ h1
  exact ⟨_,h3,fun K' hk=>h2 _ (h4 _ hk)⟩
end
def retC (a:Ar) (l:List ResultVar) (K:List R → Prop):X → S → Prop
 | .exit _,_=>False
 | .normal,s=>resO a s l fun vs=>match toRs s.o vs with | some q=>K q | none=>False
 | .ret,s=>resO a s l fun vs=>match toRs s.o vs with | some q=>K q | none=>False
structure Good (f:Nat) (fn:Func) (c:Code):Prop where
 f:Tryz.prog.funcs[f]? = some fn
 b:fn.body = some c
 n:(fn.name != "runtime.NumGoroutine") = true
 c:okCode Tryz.prog c = true
 r:okRes fn.results.toList = true
inductive Tab where
 | nil
 | cons (f:Nat) (fn:Func) (c:Code) (h:Good f fn c) (T:Tab)
 | own (f:Nat) (F:List V → List O → Option (V × List O × List Nat)) (h:∀ vs o r,F vs o = some r → SoundO f vs o fun x o' ks=>(x,o',ks) = r) (T:Tab)
 | pure (f:Nat) (F:List R → Option (List R)) (h:∀ rs q,F rs = some q → Spec f rs q) (T:Tab)
inductive Ent where
 | none
 | code (fn:Func) (c:Code)
 | own (F:List V → List O → Option (V × List O × List Nat))
 | pure (F:List R → Option (List R))
def Tab.get:Tab → Nat → Ent
 | .nil,_=>.none
 | .cons f fn c _ T,g=>match Nat.beq f g with | true=>.code fn c | false=>T.get g
 | .own f F _ T,g=>match Nat.beq f g with | true=>.own F | false=>T.get g
 | .pure f F _ T,g=>match Nat.beq f g with | true=>.pure F | false=>T.get g
def EntOk (f:Nat):Ent → Prop
 | .none=>True
 | .code fn c=>Good f fn c
 | .own F=>∀ vs o r,F vs o = some r → SoundO f vs o fun x o' ks=>(x,o',ks) = r
 | .pure F=>∀ rs q,F rs = some q → Spec f rs q
theorem Tab.good:∀ (T:Tab) (f:Nat),EntOk f (T.get f)
 | .nil,_=>trivial
 | .cons f fn c hg T,g=>by
  rw [Tab.get]
  split
  ·rename_i e
   rw [← Nat.eq_of_beq_eq_true e]
   exact hg
  ·exact Tab.good T g
 | .own f F hg T,g=>by
  rw [Tab.get]
  split
  ·rename_i e
   rw [← Nat.eq_of_beq_eq_true e]
   exact hg
  ·exact Tab.good T g
 | .pure f F hg T,g=>by
  rw [Tab.get]
  split
  ·rename_i e
   rw [← Nat.eq_of_beq_eq_true e]
   exact hg
  ·exact Tab.good T g
def valEq:Value → Value → Bool
 | .int k m,.int k' n=>match keq k k' with | true=>intEq m n | false=>false
 | .string x,.string y=>bytesEq x.data.toList y.data.toList
 | .bool x,.bool y=>bEq x y
 | .pointer none,.pointer none=>true
 | .map none,.map none=>true
 | _,_=>false
theorem valEq_eq {u v:Value} (h:valEq u v = true):u = v:=by
 unfold valEq at h
 split at h
 ·split at h
  ·rename_i hk
   rw [intEq_is,beq_iff_eq] at h
   rw [keq_is hk,h]
  ·cases h
 ·rename_i x y
  rw [bytesEq_is,beq_iff_eq] at h
  obtain ⟨⟨x⟩⟩:=x
  obtain ⟨⟨y⟩⟩:=y
  simp only at h
  rw [h]
 ·rw [bEq_is,beq_iff_eq] at h
  rw [h]
 ·rfl
 ·rfl
 ·cases h
def listEq {α:Type} (e:α → α → Bool):List α → List α → Bool
 | [],[]=>true
 | x :: l,y :: m=>match e x y with | true=>listEq e l m | false=>false
 | _,_=>false
theorem listEq_eq {α:Type} {e:α → α → Bool} (he:∀ x y,e x y = true → x = y):∀ {l m:List α},listEq e l m = true → l = m
 | [],[],_=>rfl
 | [],_ :: _,h=>by cases h
 | _ :: _,[],h=>by cases h
 | x :: l,y :: m,h=>by
  rw [listEq] at h
  split at h
  ·rename_i h1
   rw [he _ _ h1,listEq_eq he h]
  ·cases h
def datEqN:Nat → D → D → Bool
 | _,.sc u,.sc v=>valEq u v
 | f + 1,.sl n rows,.sl m rows'=>match natEq n m with | true=>listEq (listEq (datEqN f)) rows rows' | false=>false
 | _,_,_=>false
theorem datEqN_eq:∀ {f:Nat} {x y:D},datEqN f x y = true → x = y
 | f,.sc u,.sc v,h=>by
  have h:valEq u v = true:=by cases f <;> exact h
  rw [valEq_eq h]
 | f,.sc u,.sl n rows,h=>by cases f <;> cases h
 | f,.sl n rows,.sc u,h=>by cases f <;> cases h
 | 0,.sl n rows,.sl m rows',h=>by cases h
 | f + 1,.sl n rows,.sl m rows',h=>by
  rw [datEqN] at h
  split at h
  ·rename_i h1
   rw [natEq_is,beq_iff_eq] at h1
   rw [h1,listEq_eq (fun _ _ h=>listEq_eq (fun _ _ h=>datEqN_eq h) h) h]
  ·cases h
def datEq (x y:D):Bool:=datEqN 60 x y
theorem datEq_eq {x y:D} (h:datEq x y = true):x = y:=datEqN_eq h
def vEq:V → V → Bool
 | .d x,.d y=>datEq x y
 | .em,.em=>true
 | .own j,.own k=>natEq j k
 | .ptr j m,.ptr k n=>match natEq j k with | true=>natEq m n | false=>false
 | .mp j,.mp k=>natEq j k
 | .cl f [],.cl g []=>natEq f g
 | .jk,.jk=>true
 | _,_=>false
theorem natEq_eq {m n:Nat} (h:natEq m n = true):m = n:=by rw [natEq_is,beq_iff_eq] at h;exact h
theorem vEq_eq {x y:V} (h:vEq x y = true):x = y:=by
 unfold vEq at h
 split at h
 ·rw [datEq_eq h]
 ·rfl
 ·rw [natEq_eq h]
 ·split at h
  ·rename_i h1
   rw [natEq_eq h1,natEq_eq h]
  ·cases h
 ·rw [natEq_eq h]
 ·rw [natEq_eq h]
 ·rfl
 ·cases h
def resEq:R → R → Bool
 | .one x,.one y=>datEq x y
 | .ag xs,.ag ys=>listEq datEq xs ys
 | _,_=>false
theorem resEq_eq {x y:R} (h:resEq x y = true):x = y:=by
 unfold resEq at h
 split at h
 ·rw [datEq_eq h]
 ·rw [listEq_eq (fun _ _=>datEq_eq) h]
 ·cases h
def entEq (p q:R × R):Bool:=match resEq p.1 q.1 with | true=>resEq p.2 q.2 | false=>false
theorem entEq_eq {p q:R × R} (h:entEq p q = true):p = q:=by
 unfold entEq at h
 split at h
 ·rename_i h1
  exact Prod.ext (resEq_eq h1) (resEq_eq h)
 ·cases h
def oEq:O → O → Bool
 | .box cs,.box ds=>listEq vEq cs ds
 | .row z e rows,.row z' e' rows'=>match bEq z z',natEq e e' with
  | true,true=>listEq (listEq datEq) rows rows'
  | _,_=>false
 | .mp k es,.mp k' es'=>match natEq k k' with | true=>listEq entEq es es' | false=>false
 | .kl ks,.kl js=>listEq natEq ks js
 | .dead,.dead=>true
 | _,_=>false
theorem oEq_eq {x y:O} (h:oEq x y = true):x = y:=by
 unfold oEq at h
 split at h
 ·rw [listEq_eq (fun _ _=>vEq_eq) h]
 ·split at h
  ·rename_i h1 h2
   rw [bEq_is,beq_iff_eq] at h1
   rw [h1,natEq_eq h2,listEq_eq (fun _ _ h=>listEq_eq (fun _ _=>datEq_eq) h) h]
  ·cases h
 ·split at h
  ·rename_i h1
   rw [natEq_eq h1,listEq_eq (fun _ _=>entEq_eq) h]
  ·cases h
 ·rw [listEq_eq (fun _ _=>natEq_eq) h]
 ·rfl
 ·cases h
def endD (o:List O) (K:List R → Prop) (res:List V) (s:S):Prop:=match getO (trimK 0 s.o) (lenO o) with
 | .kl []=>match listEq oEq (takeO (lenO o) (trimK 0 s.o)) (trimK 0 o) with
  | true=>match toRs s.o res with | some q=>K q | none=>False
  | false=>False
 | _=>False
def retD (a:Ar) (o:List O) (K:List R → Prop) (l:List ResultVar):X → S → Prop
 | .exit _,_=>False
 | .normal,s=>resO a s l fun res=>endD o K res s
 | .ret,s=>resO a s l fun res=>endD o K res s
def it (body:S → (X → S → Prop) → Prop) (K:X → S → Prop) (n:Nat):Nat → S → Prop
 | 0,_=>False
 | m + 1,s=>match Nat.ble n (lenO s.o) with
  | true=>body s fun e s'=>roundX (fun s2=>it body K n m s2) K e s'
  | false=>False
def limK:IntKind → Nat
 | .i8=>128
 | .i16=>32768
 | .i32=>2147483648
 | .i64=>9223372036854775808
 | .u8=>256
 | .u16=>65536
 | .u32=>4294967296
 | .u64=>18446744073709551616
def wrapK (k:IntKind) (n:Int):Int:=match n with
 | .ofNat m=>match Nat.blt m (limK k) with | true=>.ofNat m | false=>k.wrap n
 | .negSucc _=>k.wrap n
theorem wrapK_is (k:IntKind) (n:Int):wrapK k n = k.wrap n:=by
 unfold wrapK
 split
 ·rename_i m
  split
  ·rename_i h
   have h:m < limK k:=by simpa [Nat.blt_eq] using h
   have key:∀ (b:Nat) (sg:Bool),(m:Int) < (2:Int) ^ b → (sg = true → (m:Int) < (2:Int) ^ (b - 1)) → (m:Int) = (if (sg && decide ((m:Int) % (2:Int) ^ b ≥ (2:Int) ^ (b - 1))) = true then (m:Int) % (2:Int) ^ b - (2:Int) ^ b else (m:Int) % (2:Int) ^ b):=fun b sg h1 h2=>by
    have e:(m:Int) % (2:Int) ^ b = m:=Int.emod_eq_of_lt (by omega) h1
    simp only [e]
    cases sg with
    | false=>rfl
    | true =>
     have:=h2 rfl
     rw [if_neg (by simp only [Bool.true_and,decide_eq_true_eq];omega)]
   have h':(m:Int) < (limK k:Int):=by omega
   refine (key k.bits k.signed ?_ ?_)
   ·cases k <;> exact Int.lt_of_lt_of_le h' (by decide)
   ·intro hs
    cases k <;> first | cases hs;done | exact Int.lt_of_lt_of_le h' (by decide)
  ·rfl
 ·rfl
def intLt:Int → Int → Bool
 | .ofNat m,.ofNat n=>Nat.blt m n
 | .negSucc _,.ofNat _=>true
 | .ofNat _,.negSucc _=>false
 | .negSucc m,.negSucc n=>Nat.blt n m
theorem intLt_is (x y:Int):intLt x y = decide (x < y):=by
 rw [Bool.eq_iff_iff,decide_eq_true_iff]
 cases x with
 | ofNat m =>
  cases y with
  | ofNat n=>rw [intLt,Nat.blt_eq];exact Int.ofNat_lt.symm
  | negSucc n=>exact ⟨fun h=>(by cases h),fun h=>by have:(Int.ofNat m:Int) = (m:Int):=rfl;omega⟩
 | negSucc m =>
  cases y with
  | ofNat n=>exact ⟨fun _=>by have:(Int.ofNat n:Int) = (n:Int):=rfl;omega,fun _=>rfl⟩
  | negSucc n=>rw [intLt,Nat.blt_eq];omega
def intLe (x y:Int):Bool:=match intLt y x with | true=>false | false=>true
theorem intLe_is (x y:Int):intLe x y = decide (x ≤ y):=by
 unfold intLe
 rw [intLt_is]
 by_cases h:y < x
 ·rw [decide_eq_true h,decide_eq_false (by omega)]
 ·rw [decide_eq_false h,decide_eq_true (by omega)]
def bytesLt:List UInt8 → List UInt8 → Bool
 | _,[]=>false
 | [],_ :: _=>true
 | x :: l,y :: m=>match Nat.blt x.toNat y.toNat with
  | true=>true
  | false=>match natEq x.toNat y.toNat with | true=>bytesLt l m | false=>false
theorem bytesLt_is:∀ x y:List UInt8,bytesLt x y = Op.bytesLess x y
 | [],[]=>rfl
 | _ :: _,[]=>rfl
 | [],_ :: _=>rfl
 | x :: l,y :: m=>by
  rw [bytesLt,Op.bytesLess,natEq_is,bytesLt_is l m]
  by_cases h:x < y
  ·rw [(by rw [Nat.blt_eq];exact UInt8.lt_iff_toNat_lt.1 h:Nat.blt x.toNat y.toNat = true),decide_eq_true h]
   rfl
  ·have h1:Nat.blt x.toNat y.toNat = false:=by
    rw [← Bool.not_eq_true,Nat.blt_eq]
    exact fun e=>h (UInt8.lt_iff_toNat_lt.2 e)
   rw [h1,decide_eq_false h]
   by_cases e:x = y
   ·subst e;simp
   ·have e1:(x.toNat == y.toNat) = false:=beq_eq_false_iff_ne.2 fun e2=>e (UInt8.toNat_inj.1 e2)
    have e2:(x == y) = false:=beq_eq_false_iff_ne.2 e
    rw [e1,e2]
    rfl
def nth {α:Type}:List α → Nat → Option α
 | [],_=>none
 | x :: _,0=>some x
 | _ :: l,n + 1=>nth l n
theorem nth_is {α:Type}:∀ (l:List α) (n:Nat),nth l n = l[n]?
 | [],n=>by simp [nth]
 | x :: l,0=>rfl
 | x :: l,n + 1=>by rw [nth,nth_is l n];simp
def atI {α:Type} (l:List α):Int → Option α
 | .ofNat n=>nth l n
 | .negSucc _=>none
theorem atI_is {α:Type} (l:List α) (i:Int):atI l i = if 0 ≤ i then l[i.toNat]? else none:=by
 cases i with
 | ofNat n=>rw [atI,nth_is,if_pos (by simp)];rfl
 | negSucc n=>rw [atI,if_neg (by omega)]
def realK:Ar:={ real with
 wrap:=wrapK
 lt:=intLt
 le:=intLe
 eq:=intEq
 seq:=bytesEq
 slt:=bytesLt
 bytes:=fun b=>b.data.toList
 cat:=fun x y=>⟨⟨x.data.toList ++ y.data.toList⟩⟩
 slen:=fun b=>.ofNat (lenL b.data.toList)
 sget:=fun b n=>match atI b.data.toList n with | some c=>some (.ofNat c.toNat) | none=>none
 ssub:=fun b l h=>match intLe 0 l,intLe l h,intLe h (.ofNat (lenL b.data.toList)) with
  | true,true,true=>some ⟨⟨(b.data.toList.drop l.toNat).take (h.toNat - l.toNat)⟩⟩
  | _,_,_=>none
 nat:=fun n m=>match n with | .ofNat k=>(match Nat.blt k m with | true=>some k | false=>none) | .negSucc _=>none
 len:=fun rows=>.ofNat (lenL rows)
 get:=atI
 sub2:=fun rows l h=>match intLe 0 l,intLe l h,intLe h (.ofNat (lenL rows)) with
  | true,true,true=>some ((rows.drop l.toNat).take (h.toNat - l.toNat))
  | _,_,_=>none }
theorem toList_data (b:ByteArray):b.toList = b.data.toList:=ByteArray.toList_eq b
theorem realK_eq:realK = real:=by
 have e1:real.wrap = wrapK:=by funext k n;exact (wrapK_is k n).symm
 have e2:real.lt = intLt:=by funext x y;exact (intLt_is x y).symm
 have e3:real.le = intLe:=by funext x y;exact (intLe_is x y).symm
 have e4:real.eq = intEq:=by funext x y;exact (intEq_is x y).symm
 have e5:real.seq = bytesEq:=by funext x y;exact (bytesEq_is x y).symm
 have e6:real.slt = bytesLt:=by funext x y;exact (bytesLt_is x y).symm
 have e7:real.bytes = fun b=>b.data.toList:=by funext b;exact toList_data b
 have e8:real.cat = fun x y=>⟨⟨x.data.toList ++ y.data.toList⟩⟩:=by
  funext x y
  show x ++ y = _
  apply ByteArray.ext
  apply Array.ext'
  simp
 have e9:real.slen = fun b=>.ofNat (lenL b.data.toList):=by
  funext b
  rw [lenL_is]
  rfl
 have e10:real.sget = fun b n=>match atI b.data.toList n with | some c=>some (.ofNat c.toNat) | none=>none:=by
  funext b n
  rw [atI_is]
  show (if 0 ≤ n then (b[n.toNat]?).map _ else none) = _
  by_cases h:0 ≤ n
  ·rw [if_pos h,if_pos h]
   have e:b[n.toNat]? = b.data.toList[n.toNat]?:=by
    rw [Array.getElem?_toList]
    rfl
   rw [e]
   cases b.data.toList[n.toNat]? <;> rfl
  ·rw [if_neg h,if_neg h]
 have e11:real.ssub = fun b l h=>match intLe 0 l,intLe l h,intLe h (.ofNat (lenL b.data.toList)) with
  | true,true,true=>some ⟨⟨(b.data.toList.drop l.toNat).take (h.toNat - l.toNat)⟩⟩
  | _,_,_=>none:=by
  funext b l h
  rw [intLe_is,intLe_is,intLe_is,lenL_is]
  show (if 0 ≤ l ∧ l ≤ h ∧ h ≤ b.size then some (b.extract l.toNat h.toNat) else none) = _
  have hb:(Int.ofNat b.data.toList.length) = (b.size:Int):=rfl
  rw [hb]
  by_cases h1:0 ≤ l
  ·by_cases h2:l ≤ h
   ·by_cases h3:h ≤ (b.size:Int)
    ·rw [if_pos ⟨h1,h2,h3⟩,decide_eq_true h1,decide_eq_true h2,decide_eq_true h3]
     simp only
     congr 1
     apply ByteArray.ext
     apply Array.ext'
     simp [ByteArray.data_extract,List.extract_eq_take_drop]
    ·rw [if_neg (fun h=>h3 h.2.2),decide_eq_false h3]
     cases decide (0 ≤ l) <;> cases decide (l ≤ h) <;> rfl
   ·rw [if_neg (fun h=>h2 h.2.1),decide_eq_false h2]
    cases decide (0 ≤ l) <;> rfl
  ·rw [if_neg (fun h=>h1 h.1),decide_eq_false h1]
 have e12:real.nat = fun n m=>match n with | .ofNat k=>(match Nat.blt k m with | true=>some k | false=>none) | .negSucc _=>none:=by
  funext n m
  show (if 0 ≤ n ∧ n < m then some n.toNat else none) = _
  cases n with
  | ofNat k =>
   by_cases h:k < m
   ·rw [if_pos ⟨by simp,by simpa using h⟩]
    have e:Nat.blt k m = true:=by rw [Nat.blt_eq];exact h
    simp only [e]
    rfl
   ·rw [if_neg (by simp;omega)]
    have:Nat.blt k m = false:=by rw [← Bool.not_eq_true,Nat.blt_eq];exact h
    simp only [this]
  | negSucc k=>rw [if_neg (by omega)]
 have e13:real.len = fun rows=>.ofNat (lenL rows):=by funext rows;rw [lenL_is];rfl
 have e14:real.get = atI:=by funext rows n;rw [atI_is];rfl
 have e15:real.sub2 = fun rows l h=>match intLe 0 l,intLe l h,intLe h (.ofNat (lenL rows)) with
  | true,true,true=>some ((rows.drop l.toNat).take (h.toNat - l.toNat))
  | _,_,_=>none:=by
  funext b l h
  rw [intLe_is,intLe_is,intLe_is,lenL_is]
  show (if 0 ≤ l ∧ l ≤ h ∧ h ≤ b.length then some ((b.drop l.toNat).take (h.toNat - l.toNat)) else none) = _
  have hb:(Int.ofNat b.length) = (b.length:Int):=rfl
  rw [hb]
  by_cases h1:0 ≤ l
  ·by_cases h2:l ≤ h
   ·by_cases h3:h ≤ (b.length:Int)
    ·rw [if_pos ⟨h1,h2,h3⟩,decide_eq_true h1,decide_eq_true h2,decide_eq_true h3]
    ·rw [if_neg (fun h=>h3 h.2.2),decide_eq_false h3]
     cases decide (0 ≤ l) <;> cases decide (l ≤ h) <;> rfl
   ·rw [if_neg (fun h=>h2 h.2.1),decide_eq_false h2]
    cases decide (0 ≤ l) <;> rfl
  ·rw [if_neg (fun h=>h1 h.1),decide_eq_false h1]
 unfold realK
 rw [← e11,← e15,← e10,← e14,← e1,← e2,← e3,← e4,← e5,← e6,← e7,← e8,← e9,← e12,← e13]
def concF (hint:Nat → Bool) (call:Nat → List R → (List R → Prop) → Prop) (calld:Nat → List V → List O → (V → Prop) → Prop) (callo:Nat → List V → S → (V → S → Prop) → Prop) (callx:Nat → List V → List Nat → S → (V → S → Prop) → Prop):Ar:={ realK with
 nz:=fun y k=>match intEq y 0 with | true=>False | false=>k
 fits:=fun x y k=>match Nat.ble (x.size + y.size) 4611686018427387904 with | true=>k | false=>False
 room:=fun x y k=>match Nat.ble (lenL x + lenL y) 137438953472 with | true=>k | false=>False
 rep:=fun n z k=>match n with
  | .ofNat m=>match Nat.ble m 65536,Nat.ble (m * lenL z) 16777216 with | true,true=>k (List.replicate m z) | _,_=>False
  | .negSucc _=>False
 call:=call
 calld:=calld
 callo:=callo
 callx:=callx
 new:=fun e K=>K (hint e)
 lit:=fun t K=>K (hint t)
 keep:=fun _ _ _ _=>False
 next:=fun N s=>N s
 ext:=fun _ _ _ _=>False
 reg:=fun _ _ _=>False
 loop:=fun _ body s K=>it body K (lenO s.o) 5000 s }
def rowsL:List V → List Nat
 | []=>[]
 | .own k :: l=>k :: rowsL l
 | _ :: l=>rowsL l
def rowsOf:List V → List Nat
 | []=>[]
 | .own k :: l=>k :: rowsOf l
 | .ag cs :: l=>rowsL cs ++ rowsOf l
 | _ :: l=>rowsOf l
def keepsB (t:List V) (o o':List O):List Nat → Bool
 | []=>true
 | i :: l=>match objOf (getN t i) with
  | some k=>match oEq (getO o' k) (getO o k) with | true=>keepsB t o o' l | false=>false
  | none=>keepsB t o o' l
theorem keepsB_is {t:List V} {o o':List O}:∀ {l:List Nat},keepsB t o o' l = true → keepsL l t o o'
 | [],_,i,hi,_,_=>by simp at hi
 | j :: l,h,i,hi,k,hk=>by
  rw [keepsB] at h
  split at h
  ·rename_i m hm
   split at h
   ·rename_i he
    rcases List.mem_cons.1 hi with rfl | hi
    ·rw [hm] at hk
     have hk:=Option.some.inj hk
     subst hk
     exact oEq_eq he
    ·exact keepsB_is h i hi k hk
   ·cases h
  ·rename_i hm
   rcases List.mem_cons.1 hi with rfl | hi
   ·rw [hm] at hk;cases hk
   ·exact keepsB_is h i hi k hk
def conc (T:Tab) (hint:Nat → Bool):Nat → Ar
 | 0=>concF hint (fun _ _ _=>False) (fun _ _ _ _=>False) (fun _ _ _ _=>False) (fun _ _ _ _ _=>False)
 | n + 1=>concF hint
  (fun f rs K=>match T.get f with
   | .code fn c=>exec (conc T hint n) c (start rs (fn.ntmps - lenL rs)) (fun x s=>retC (conc T hint n) fn.results.toList K x s)
   | .pure F=>match F rs with | some q=>K q | none=>False
   | _=>False)
  (fun f vs o K=>match T.get f with
   | .code fn c=>exec (conc T hint n) c (startI vs o (fn.ntmps - lenL vs)) (fun x s=>retD (conc T hint n) o (fun q=>K (resV q)) fn.results.toList x s)
   | _=>False)
  (fun f vs s K=>match T.get f with
   | .code fn c=>exec (conc T hint n) c (startI vs s.o (fn.ntmps - lenL vs)) (fun x s2=>retI (conc T hint n) (lenO s.o) (fun v o' ks=>K v ⟨killTs ks s.t,o'⟩) fn.results.toList x s2)
   | .own F=>match F vs s.o with | some (v,o',ks)=>K v ⟨killTs ks s.t,o'⟩ | none=>False
   | .pure F=>match toRs s.o vs with
    | some rs=>match F rs with | some q=>K (resV q) s | none=>False
    | none=>match toRs (frz (rowsOf vs) s.o) vs with
     | some rs=>match F rs with | some q=>K (resV q) ⟨s.t,frz (rowsOf vs) s.o⟩ | none=>False
     | none=>False
   | .none=>False)
  (fun f vs l s K=>match T.get f with
   | .code fn c=>exec (conc T hint n) c (startI vs s.o (fn.ntmps - lenL vs)) (fun x s2=>retI (conc T hint n) (lenO s.o) (fun v o' ks=>match geN (lenO s.o) ks with
    | true=>match keepsB s.t s.o o' l with | true=>K v ⟨s.t,o'⟩ | false=>False
    | false=>False) fn.results.toList x s2)
   | _=>False)

theorem it_pt {body:S → (X → S → Prop) → Prop} (hb:∀ s,PtG fun K:X × S → Prop=>body s fun x s=>K (x,s)) {n:Nat}:∀ m s,PtG fun K:X × S → Prop=>it body (fun x s=>K (x,s)) n m s
 | 0,s,K,hx=>hx.elim
 | m + 1,s,K,hx=>by
  simp only [it] at hx ⊢
  split at hx <;> try exact hx.elim
  obtain ⟨⟨e,s'⟩,h1,h2⟩:=hb s (fun p=>roundX (fun s2=>it body (fun x s=>K (x,s)) n m s2) (fun x s=>K (x,s)) p.1 p.2) hx
  cases e with
  | normal =>
   obtain ⟨p,h3,h4⟩:=it_pt hb m s' K h1
   exact ⟨p,h3,fun K' hk=>h2 (fun p=>roundX (fun s2=>it body (fun x s=>K' (x,s)) n m s2) (fun x s=>K' (x,s)) p.1 p.2) (h4 K' hk)⟩
  | exit i=>exact ⟨_,h1,fun K' hk=>h2 (fun p=>roundX (fun s2=>it body (fun x s=>K' (x,s)) n m s2) (fun x s=>K' (x,s)) p.1 p.2) hk⟩
  | ret=>exact ⟨_,h1,fun K' hk=>h2 (fun p=>roundX (fun s2=>it body (fun x s=>K' (x,s)) n m s2) (fun x s=>K' (x,s)) p.1 p.2) hk⟩
theorem it_loop {body:S → (X → S → Prop) → Prop} (hb:∀ s K K',(∀ x s,K x s → K' x s) → body s K → body s K') {K:X → S → Prop} {s:S} {m:Nat} (hx:it body K (lenO s.o) m s):loopR Eq body s K:=by
 have hle:∀ m s',it body K (lenO s.o) m s' → lenO s.o ≤ lenO s'.o:=fun m s' h=>by
  cases m with
  | zero=>exact h.elim
  | succ m =>
   rw [it] at h
   split at h
   ·rename_i e;exact Nat.le_of_ble_eq_true e
   ·exact h.elim
 refine ⟨Nat × S,Prod.snd,fun p=>it body K (lenO s.o) p.1 p.2,Prod.fst,fun p hp=>hle _ _ hp,⟨(m,s),rfl,hx⟩,?_⟩
 rintro ⟨m,s'⟩ hp
 cases m with
 | zero=>exact hp.elim
 | succ m =>
  have hp:it body K (lenO s.o) (m + 1) s':=hp
  rw [it] at hp
  split at hp
  ·refine hb _ _ _ (fun x s2 h=>?_) hp
   cases x with
   | normal=>exact ⟨(m,s2),h,Nat.lt_succ_self m,rfl⟩
   | exit i=>exact h
   | ret=>exact h
  ·exact hp.elim
section
variable {hint:Nat → Bool} {call:Nat → List R → (List R → Prop) → Prop} {calld:Nat → List V → List O → (V → Prop) → Prop} {callo:Nat → List V → S → (V → S → Prop) → Prop} {callx:Nat → List V → List Nat → S → (V → S → Prop) → Prop}
theorem concF_ok (h1:∀ f rs K,call f rs K → real.call f rs K) (h2:∀ f rs,PtG (call f rs)) (h5:∀ f vs o K,calld f vs o K → real.calld f vs o K) (h6:∀ f vs o,PtG (calld f vs o)) (h3:∀ f vs s K,callo f vs s K → real.callo f vs s K) (h4:∀ f vs s,PtG fun K:V × S → Prop=>callo f vs s fun v s'=>K (v,s')) (h7:∀ f vs l s K,callx f vs l s K → real.callx f vs l s K) (h8:∀ f vs l s,PtG fun K:V × S → Prop=>callx f vs l s fun v s'=>K (v,s')):Ok (concF hint call calld callo callx) where
 wrap:=show realK.wrap = real.wrap from congrArg Ar.wrap realK_eq
 add:=show realK.add = real.add from congrArg Ar.add realK_eq
 sub:=show realK.sub = real.sub from congrArg Ar.sub realK_eq
 mul:=show realK.mul = real.mul from congrArg Ar.mul realK_eq
 quo:=show realK.quo = real.quo from congrArg Ar.quo realK_eq
 rem:=show realK.rem = real.rem from congrArg Ar.rem realK_eq
 bits:=show realK.bits = real.bits from congrArg Ar.bits realK_eq
 lt:=show realK.lt = real.lt from congrArg Ar.lt realK_eq
 le:=show realK.le = real.le from congrArg Ar.le realK_eq
 eq:=show realK.eq = real.eq from congrArg Ar.eq realK_eq
 nz y k h:=by
  have h:(match intEq y 0 with | true=>False | false=>k):=h
  cases he:intEq y 0 with
  | true=>rw [he] at h;exact h.elim
  | false =>
   rw [he] at h
   rw [intEq_is,beq_eq_false_iff_ne] at he
   exact ⟨he,h⟩
 nzp y k k' h hk:=by
  have h:(match intEq y 0 with | true=>False | false=>k):=h
  show (match intEq y 0 with | true=>False | false=>k')
  cases he:intEq y 0 with
  | true=>rw [he] at h;exact h.elim
  | false=>exact hk
 seq:=show realK.seq = real.seq from congrArg Ar.seq realK_eq
 slt:=show realK.slt = real.slt from congrArg Ar.slt realK_eq
 bytes:=show realK.bytes = real.bytes from congrArg Ar.bytes realK_eq
 cat:=show realK.cat = real.cat from congrArg Ar.cat realK_eq
 fits x y k h:=by
  have h:(match Nat.ble (x.size + y.size) 4611686018427387904 with | true=>k | false=>False):=h
  cases he:Nat.ble (x.size + y.size) 4611686018427387904 with
  | true=>rw [he] at h;exact ⟨Nat.le_of_ble_eq_true he,h⟩
  | false=>rw [he] at h;exact h.elim
 fitsp x y k k' h hk:=by
  have h:(match Nat.ble (x.size + y.size) 4611686018427387904 with | true=>k | false=>False):=h
  show (match Nat.ble (x.size + y.size) 4611686018427387904 with | true=>k' | false=>False)
  cases he:Nat.ble (x.size + y.size) 4611686018427387904 with
  | true=>exact hk
  | false=>rw [he] at h;exact h.elim
 slen:=show realK.slen = real.slen from congrArg Ar.slen realK_eq
 sget:=show realK.sget = real.sget from congrArg Ar.sget realK_eq
 ssub:=show realK.ssub = real.ssub from congrArg Ar.ssub realK_eq
 txt:=show realK.txt = real.txt from congrArg Ar.txt realK_eq
 byt:=show realK.byt = real.byt from congrArg Ar.byt realK_eq
 nat:=show realK.nat = real.nat from congrArg Ar.nat realK_eq
 len:=show realK.len = real.len from congrArg Ar.len realK_eq
 get:=show realK.get = real.get from congrArg Ar.get realK_eq
 sub2:=show realK.sub2 = real.sub2 from congrArg Ar.sub2 realK_eq
 app:=show realK.app = real.app from congrArg Ar.app realK_eq
 set:=show realK.set = real.set from congrArg Ar.set realK_eq
 room x y k h:=by
  have h:(match Nat.ble (lenL x + lenL y) 137438953472 with | true=>k | false=>False):=h
  cases he:Nat.ble (lenL x + lenL y) 137438953472 with
  | true =>
   rw [he] at h
   have:=Nat.le_of_ble_eq_true he
   rw [lenL_is,lenL_is] at this
   exact ⟨this,h⟩
  | false=>rw [he] at h;exact h.elim
 roomp x y k k' h hk:=by
  have h:(match Nat.ble (lenL x + lenL y) 137438953472 with | true=>k | false=>False):=h
  show (match Nat.ble (lenL x + lenL y) 137438953472 with | true=>k' | false=>False)
  cases he:Nat.ble (lenL x + lenL y) 137438953472 with
  | true=>exact hk
  | false=>rw [he] at h;exact h.elim
 mlook:=show realK.mlook = real.mlook from congrArg Ar.mlook realK_eq
 mput:=show realK.mput = real.mput from congrArg Ar.mput realK_eq
 deq:=show realK.deq = real.deq from congrArg Ar.deq realK_eq
 rep n z K h:=by
  cases n with
  | negSucc m=>exact (show False from h).elim
  | ofNat m =>
   have h:(match Nat.ble m 65536,Nat.ble (m * lenL z) 16777216 with | true,true=>K (List.replicate m z) | _,_=>False):=h
   split at h
   ·rename_i e1 e2
    have e1:=Nat.le_of_ble_eq_true e1
    have e2:=Nat.le_of_ble_eq_true e2
    rw [lenL_is] at e2
    exact ⟨⟨by simp,by simp;omega,e2⟩,h⟩
   ·exact h.elim
 repp n z K h:=by
  cases n with
  | negSucc m=>exact (show False from h).elim
  | ofNat m =>
   have h:(match Nat.ble m 65536,Nat.ble (m * lenL z) 16777216 with | true,true=>K (List.replicate m z) | _,_=>False):=h
   split at h
   ·rename_i e1 e2
    refine ⟨_,h,fun K' hk=>?_⟩
    show (match Nat.ble m 65536,Nat.ble (m * lenL z) 16777216 with | true,true=>K' (List.replicate m z) | _,_=>False)
    rw [e1,e2]
    exact hk
   ·exact h.elim
 call:=h1
 callp:=h2
 calld:=h5
 calldp:=h6
 callo:=h3
 callop:=h4
 callx:=h7
 callxp:=h8
 new e K h:=⟨_,h⟩
 newp e K h:=⟨_,h,fun K' hk=>hk⟩
 lit t K h:=⟨_,h⟩
 litp t K h:=⟨_,h,fun K' hk=>hk⟩
 next N s h:=h
 ext _ _ _ _ h:=h
 reg _ _ _ h:=h
 nextp N s h:=h
 loop c body s K h hb:=it_loop hb h
 loopp c body s hb:=it_pt hb _ _
end
theorem retC_res {a:Ar} (h:Ok a) {l:List ResultVar} {K:List R → Prop} {x:X} {s:S} (hx:retC a l K x s):∃ q,K q ∧ (∀ K',K' q → retC a l K' x s) ∧ retK real l q x s:=by
 have key:resO a s l (fun vs=>match toRs s.o vs with | some q=>K q | none=>False) → ∃ q,K q ∧ (∀ K':List R → Prop,K' q → resO a s l (fun vs=>match toRs s.o vs with | some q=>K' q | none=>False)) ∧ resS real s l q:=fun hx=>by
  obtain ⟨vs,h1,h2⟩:=h.rResp _ hx
  split at h1 <;> try exact h1.elim
  rename_i q hq
  refine ⟨q,h1,fun K' hk=>h2 _ (by rw [hq];exact hk),?_⟩
  have h3:resO real s l (fun us=>us = vs):=h.rRes (h2 (fun us=>us = vs) rfl) fun _ h=>h
  exact toS h3 hq
 cases x with
 | normal=>exact key hx
 | ret=>exact key hx
 | exit i=>exact hx.elim
where
 toS {s:S}:∀ {l:List ResultVar} {vs:List V} {q:List R},resO real s l (fun us=>us = vs) → toRs s.o vs = some q → resS real s l q
  | [],vs,q,h,hq=>by
   have h:[] = vs:=h
   subst h
   injection hq with hq
   subst hq
   trivial
  | .tmp t :: l,vs,q,h,hq=>by
   cases vs with
   | nil =>
    have h:resO real s l (fun vs=>getN s.t t :: vs = []):=h
    obtain ⟨v,h1,_⟩:=resO_ptr _ h
    cases h1
   | cons v vs =>
    have h:resO real s l (fun us=>getN s.t t :: us = v :: vs):=h
    obtain ⟨us,h1,h2⟩:=resO_ptr _ h
    injection h1 with h1 h3
    subst h3
    rw [← h1] at hq
    rw [toRs] at hq
    split at hq <;> try cases hq
    rename_i y hy
    split at hq <;> try cases hq
    rename_i ys hys
    exact ⟨hy,toS (h2 (fun vs=>vs = us) rfl) hys⟩
  | .cell b t :: l,vs,q,h,hq=>by
   have h:loadV real s.o (fun y=>resO real s l (fun us=>y :: us = vs)) t (getN s.t b):=h
   obtain ⟨y,h1,h2⟩:=load_pt _ h
   obtain ⟨us,h3,h4⟩:=resO_ptr _ h1
   subst h3
   rw [toRs] at hq
   split at hq <;> try cases hq
   rename_i r hr
   split at hq <;> try cases hq
   rename_i rs hrs
   exact ⟨h2 _ hr,toS (h4 (fun vs=>vs = us) rfl) hrs⟩
 resO_ptr {s:S}:∀ {l:List ResultVar},PtG fun K=>resO real s l K
  | [],K,hx=>⟨_,hx,fun K' hk=>hk⟩
  | .tmp t :: l,K,hx=>by
   obtain ⟨v,h1,h2⟩:=resO_ptr (l:=l) _ hx
   exact ⟨_,h1,fun K' hk=>h2 _ hk⟩
  | .cell b t :: l,K,hx=>by
   obtain ⟨v,h1,h2⟩:=load_pt _ hx
   obtain ⟨vs,h3,h4⟩:=resO_ptr (l:=l) _ h1
   exact ⟨_,h3,fun K' hk=>h2 _ (h4 _ hk)⟩
theorem retC_pt {a:Ar} (h:Ok a) {l:List ResultVar} {x:X} {s:S}:PtG fun K=>retC a l K x s:=by
 intro K hx
 obtain ⟨q,h1,h2,_⟩:=retC_res h hx
 exact ⟨q,h1,h2⟩
theorem doneI_pt {n:Nat} {res:List V} {s:S}:PtG fun K:V × List O × List Nat → Prop=>doneI n (fun v o ks=>K (v,o,ks)) res s:=by
 intro K hx
 simp only [doneI] at hx ⊢
 split at hx <;> try exact hx.elim
 exact ⟨_,hx,fun K' hk=>hk⟩
theorem retI_pt {a:Ar} (h:Ok a) {n:Nat} {l:List ResultVar} {x:X} {s:S}:PtG fun K:V × List O × List Nat → Prop=>retI a n (fun v o ks=>K (v,o,ks)) l x s:=by
 intro K hx
 have key:resO a s l (fun vs=>doneI n (fun v o ks=>K (v,o,ks)) vs s) → ∃ v,K v ∧ ∀ K':V × List O × List Nat → Prop,K' v → resO a s l (fun vs=>doneI n (fun v o ks=>K' (v,o,ks)) vs s):=fun hx=>by
  obtain ⟨vs,h1,h2⟩:=h.rResp _ hx
  obtain ⟨p,h3,h4⟩:=doneI_pt K h1
  exact ⟨p,h3,fun K' hk=>h2 _ (h4 K' hk)⟩
 cases x with
 | normal=>exact key hx
 | ret=>exact key hx
 | exit i=>exact hx.elim
theorem retI_real {a:Ar} (h:Ok a) {n:Nat} {K:V → List O → List Nat → Prop} {l:List ResultVar} {x:X} {s:S} (hx:retI a n K l x s):retI real n K l x s:=by
 cases x with
 | normal=>exact h.rRes (l:=l) hx fun _ h=>h
 | ret=>exact h.rRes (l:=l) hx fun _ h=>h
 | exit i=>exact hx.elim
theorem retD_res {a:Ar} (h:Ok a) {o:List O} {l:List ResultVar} {K:List R → Prop} {x:X} {s:S} (hx:retD a o K l x s):∃ q,K q ∧ (∀ K':List R → Prop,K' q → retD a o K' l x s) ∧ retQ real o l q x s:=by
 have key:resO a s l (fun res=>endD o K res s) → ∃ q,K q ∧ (∀ K':List R → Prop,K' q → resO a s l (fun res=>endD o K' res s)) ∧ resO real s l (fun res=>getO (trimK 0 s.o) (lenO o) = .kl [] ∧ takeO (lenO o) (trimK 0 s.o) = trimK 0 o ∧ toRs s.o res = some q):=fun hx=>by
  obtain ⟨vs,h1,h2⟩:=h.rResp _ hx
  unfold endD at h1
  split at h1 <;> try exact h1.elim
  rename_i hk
  split at h1 <;> try exact h1.elim
  rename_i he
  split at h1 <;> try exact h1.elim
  rename_i q hq
  refine ⟨q,h1,fun K' hk'=>h2 _ ?_,?_⟩
  ·unfold endD
   simp only [hk,he,hq]
   exact hk'
  ·refine h.rRes (h2 (fun us=>us = vs) rfl) fun us e=>?_
   subst e
   exact ⟨hk,listEq_eq (fun _ _=>oEq_eq) he,hq⟩
 cases x with
 | normal=>exact key hx
 | ret=>exact key hx
 | exit i=>exact hx.elim
theorem conc_ok (T:Tab) (hint:Nat → Bool):∀ n,Ok (conc T hint n)
 | 0=>concF_ok (fun _ _ _ h=>h.elim) (fun _ _ _ h=>h.elim) (fun _ _ _ _ h=>h.elim) (fun _ _ _ _ h=>h.elim) (fun _ _ _ _ h=>h.elim) (fun _ _ _ _ h=>h.elim) (fun _ _ _ _ _ h=>h.elim) (fun _ _ _ _ _ h=>h.elim)
 | n + 1=>by
  have ih:=conc_ok T hint n
  refine concF_ok (fun f rs K hx=>?_) (fun f rs K hx=>?_) (fun f vs o K hx=>?_) (fun f vs o K hx=>?_) (fun f vs s K hx=>?_) (fun f vs s K hx=>?_) (fun f vs l s K hx=>?_) (fun f vs l s K hx=>?_)
  ·have hg:=T.good f
   split at hx <;> try exact hx.elim
   ·rename_i fn c hT
    rw [hT] at hg
    obtain ⟨⟨x,s'⟩,h1,h2⟩:=ih.rExecp c (start rs (fn.ntmps - lenL rs)) (fun p=>retC (conc T hint n) fn.results.toList K p.1 p.2) hx
    obtain ⟨q,h3,h4,h5⟩:=retC_res ih h1
    refine ⟨q,spec_of hg.f hg.b hg.n hg.c hg.r fun qa qb qc qd qe qf qg qh qi qj qk ql qm qn qo qp qq qs qt qu qv qw qx qy qz va vc vd ve vf vg vh vj vk vl vm vn vo vp vq vr vt vu hA=>?_,h3⟩
    rw [hA]
    exact ih.rExec _ _ _ _ (h2 (fun p=>p = (x,s')) rfl) fun x2 s2 he=>by
     obtain ⟨e1,e2⟩:=Prod.mk.inj he
     subst e1;subst e2
     exact h5
   ·rename_i F hT
    rw [hT] at hg
    split at hx <;> try exact hx.elim
    rename_i q hq
    exact ⟨q,hg _ _ hq,hx⟩
  ·split at hx <;> try exact hx.elim
   ·rename_i fn c hT
    obtain ⟨⟨x,s'⟩,h1,h2⟩:=ih.rExecp c (start rs (fn.ntmps - lenL rs)) (fun p=>retC (conc T hint n) fn.results.toList K p.1 p.2) hx
    obtain ⟨q,h3,h4⟩:=retC_pt ih K h1
    refine ⟨q,h3,fun K' hk=>?_⟩
    exact h2 (fun p=>retC (conc T hint n) fn.results.toList K' p.1 p.2) (h4 K' hk)
   ·rename_i F hT
    split at hx <;> try exact hx.elim
    rename_i q hq
    exact ⟨q,hx,fun K' hk=>hk⟩
  ·have hg:=T.good f
   split at hx <;> try exact hx.elim
   rename_i fn c hT
   rw [hT] at hg
   obtain ⟨⟨x,s'⟩,h1,h2⟩:=ih.rExecp c (startI vs o (fn.ntmps - lenL vs)) (fun p=>retD (conc T hint n) o (fun q=>K (resV q)) fn.results.toList p.1 p.2) hx
   obtain ⟨q,h3,h4,h5⟩:=retD_res ih h1
   refine ⟨resV q,qin_ok hg.f hg.b hg.n hg.c hg.r ?_,h3⟩
   exact ih.rExec _ _ _ _ (h2 (fun p=>p = (x,s')) rfl) fun x2 s2 he=>by
    obtain ⟨e1,e2⟩:=Prod.mk.inj he
    subst e1;subst e2
    exact h5
  ·split at hx <;> try exact hx.elim
   rename_i fn c hT
   obtain ⟨⟨x,s'⟩,h1,h2⟩:=ih.rExecp c (startI vs o (fn.ntmps - lenL vs)) (fun p=>retD (conc T hint n) o (fun q=>K (resV q)) fn.results.toList p.1 p.2) hx
   obtain ⟨q,h3,h4,h5⟩:=retD_res ih h1
   refine ⟨resV q,h3,fun K' hk=>?_⟩
   exact h2 (fun p=>retD (conc T hint n) o (fun q=>K' (resV q)) fn.results.toList p.1 p.2) (h4 (fun q=>K' (resV q)) hk)
  ·have hg:=T.good f
   split at hx <;> try exact hx.elim
   ·rename_i fn c hT
    rw [hT] at hg
    exact inl_ok hg.f hg.b hg.n hg.c hg.r (ih.rExec _ _ _ _ hx fun x s2 h=>retI_real ih h)
   ·rename_i F hT
    rw [hT] at hg
    split at hx <;> try exact hx.elim
    rename_i v o' ks hF
    refine (hg _ _ _ hF).mono fun x o2 ks2 e=>?_
    obtain ⟨e1,e2⟩:=Prod.mk.inj e
    obtain ⟨e2,e3⟩:=Prod.mk.inj e2
    subst e1;subst e2;subst e3
    exact hx
   ·rename_i F hT
    rw [hT] at hg
    split at hx
    ·rename_i rs hrs
     split at hx <;> try exact hx.elim
     rename_i q hq
     refine (sound_spec (hg _ _ hq) hrs).mono fun x o' ks ⟨e1,e2,e3⟩=>?_
     subst e1;subst e2;subst e3
     exact hx
    ·split at hx <;> try exact hx.elim
     rename_i rs hrs
     split at hx <;> try exact hx.elim
     rename_i q hq
     refine (sound_frz _ (hg _ _ hq) hrs).mono fun x o' ks ⟨e1,e2,e3⟩=>?_
     subst e1;subst e2;subst e3
     exact hx
  ·split at hx <;> try exact hx.elim
   ·rename_i fn c hT
    obtain ⟨⟨x,s'⟩,h1,h2⟩:=ih.rExecp c (startI vs s.o (fn.ntmps - lenL vs)) (fun p=>retI (conc T hint n) (lenO s.o) (fun v o' ks=>K (v,⟨killTs ks s.t,o'⟩)) fn.results.toList p.1 p.2) hx
    obtain ⟨⟨v,o',ks⟩,h3,h4⟩:=retI_pt ih (fun p=>K (p.1,⟨killTs p.2.2 s.t,p.2.1⟩)) h1
    refine ⟨_,h3,fun K' hk=>?_⟩
    exact h2 (fun p=>retI (conc T hint n) (lenO s.o) (fun v o' ks=>K' (v,⟨killTs ks s.t,o'⟩)) fn.results.toList p.1 p.2) (h4 (fun p=>K' (p.1,⟨killTs p.2.2 s.t,p.2.1⟩)) hk)
   ·rename_i F hT
    split at hx <;> try exact hx.elim
    rename_i v o' ks hF
    exact ⟨_,hx,fun K' hk=>hk⟩
   ·rename_i F hT
    split at hx
    ·rename_i rs hrs
     split at hx <;> try exact hx.elim
     rename_i q hq
     exact ⟨_,hx,fun K' hk=>hk⟩
    ·split at hx <;> try exact hx.elim
     rename_i rs hrs
     split at hx <;> try exact hx.elim
     rename_i q hq
     exact ⟨_,hx,fun K' hk=>hk⟩
  ·have hg:=T.good f
   split at hx <;> try exact hx.elim
   rename_i fn c hT
   rw [hT] at hg
   refine inlx_ok hg.f hg.b hg.n hg.c hg.r (ih.rExec _ _ _ _ hx fun x s2 h=>?_)
   obtain ⟨⟨v,o',ks⟩,h3,h4⟩:=retI_pt ih (fun p=>match geN (lenO s.o) p.2.2 with
    | true=>match keepsB s.t s.o p.2.1 l with | true=>K p.1 ⟨s.t,p.2.1⟩ | false=>False
    | false=>False) h
   simp only at h3
   split at h3 <;> try exact h3.elim
   rename_i hk1
   split at h3 <;> try exact h3.elim
   rename_i hk2
   exact retI_real ih (h4 (fun p=>geN (lenO s.o) p.2.2 = true ∧ (keepsL l s.t s.o p.2.1 ∧ K p.1 ⟨s.t,p.2.1⟩)) ⟨hk1,keepsB_is hk2,h3⟩)
  ·split at hx <;> try exact hx.elim
   rename_i fn c hT
   obtain ⟨⟨x,s'⟩,h1,h2⟩:=ih.rExecp c (startI vs s.o (fn.ntmps - lenL vs)) (fun p=>retI (conc T hint n) (lenO s.o) (fun v o' ks=>match geN (lenO s.o) ks with
    | true=>match keepsB s.t s.o o' l with | true=>K (v,⟨s.t,o'⟩) | false=>False
    | false=>False) fn.results.toList p.1 p.2) hx
   obtain ⟨⟨v,o',ks⟩,h3,h4⟩:=retI_pt ih (fun p=>match geN (lenO s.o) p.2.2 with
    | true=>match keepsB s.t s.o p.2.1 l with | true=>K (p.1,⟨s.t,p.2.1⟩) | false=>False
    | false=>False) h1
   simp only at h3
   split at h3 <;> try exact h3.elim
   rename_i hk1
   split at h3 <;> try exact h3.elim
   rename_i hk2
   refine ⟨_,h3,fun K' hk=>?_⟩
   exact h2 (fun p=>retI (conc T hint n) (lenO s.o) (fun v o' ks=>match geN (lenO s.o) ks with
    | true=>match keepsB s.t s.o o' l with | true=>K' (v,⟨s.t,o'⟩) | false=>False
    | false=>False) fn.results.toList p.1 p.2) (h4 (fun p=>match geN (lenO s.o) p.2.2 with
    | true=>match keepsB s.t s.o p.2.1 l with | true=>K' (p.1,⟨s.t,p.2.1⟩) | false=>False
    | false=>False) (by simp only [hk1,hk2];exact hk))
theorem conc_spec {T:Tab} {hint:Nat → Bool} {n f:Nat} {fn:Func} {c:Code} {rs q:List R} (hg:Good f fn c)
  (h:exec (conc T hint n) c (start rs (fn.ntmps - lenL rs)) (fun x s=>retC (conc T hint n) fn.results.toList (fun q'=>match listEq resEq q' q with | true=>True | false=>False) x s) = True):Spec f rs q:=by
 have ih:=conc_ok T hint n
 have hx:=of_eq_true h
 obtain ⟨⟨x,s'⟩,h1,h2⟩:=ih.rExecp c (start rs (fn.ntmps - lenL rs)) (fun p=>retC (conc T hint n) fn.results.toList (fun q'=>match listEq resEq q' q with | true=>True | false=>False) p.1 p.2) hx
 obtain ⟨q',h3,h4,h5⟩:=retC_res ih h1
 split at h3 <;> try exact h3.elim
 rename_i he
 rw [listEq_eq (fun _ _=>resEq_eq) he] at h5
 refine spec_of hg.f hg.b hg.n hg.c hg.r fun qa qb qc qd qe qf qg qh qi qj qk ql qm qn qo qp qq qs qt qu qv qw qx qy qz va vc vd ve vf vg vh vj vk vl vm vn vo vp vq vr vt vu hA=>?_
 rw [hA]
 exact ih.rExec _ _ _ _ (h2 (fun p=>p = (x,s')) rfl) fun x2 s2 he=>by
  obtain ⟨e1,e2⟩:=Prod.mk.inj he
  subst e1;subst e2
  exact h5
section
variable {qa:IntKind → Int → Int} {qb:Int → Int → Int} {qc:Int → Int → Int} {qd:Int → Int → Int} {qe:Int → Int → Int} {qf:Int → Int → Int} {qg:BinOp → IntKind → Int → IntKind → Int → Option Int} {qh:Int → Int → Bool} {qi:Int → Int → Bool} {qj:Int → Int → Bool} {qk:Int → Prop → Prop} {ql:List UInt8 → List UInt8 → Bool} {qm:List UInt8 → List UInt8 → Bool} {qn:ByteArray → List UInt8} {qo:ByteArray → ByteArray → ByteArray} {qp:ByteArray → ByteArray → Prop → Prop} {qq:ByteArray → Int} {qs:ByteArray → Int → Option Int} {qt:ByteArray → Int → Int → Option ByteArray} {qu:List (List D) → Option ByteArray} {qv:ByteArray → List (List D)} {qw:Int → Nat → Option Nat} {qx:List (List D) → Int} {qy:List (List D) → Int → Option (List D)} {qz:List (List D) → Int → Int → Option (List (List D))} {va:List (List D) → List (List D) → List (List D)} {vc:List (List D) → Int → List D → List (List D)} {vd:List (List D) → List (List D) → Prop → Prop} {ve:List (R × R) → R → Option R} {vf:List (R × R) → R → R → List (R × R)} {vg:List D → List D → Bool} {vh:Int → List D → (List (List D) → Prop) → Prop} {vj:Nat → List R → (List R → Prop) → Prop} {vk:Nat → List V → List O → (V → Prop) → Prop} {vl:Nat → List V → S → (V → S → Prop) → Prop} {vm:Nat → List V → List Nat → S → (V → S → Prop) → Prop} {vn:Nat → (Bool → Prop) → Prop} {vo:Nat → (Bool → Prop) → Prop} {vp:Nat → (List V → List O → Prop) → List V → S → Prop} {vq:(S → Prop) → S → Prop} {vr:Op → Option Nat → S → (S → Prop) → Prop} {vt:Array Oper → S → (S → Prop) → Prop} {vu:Code → (S → (X → S → Prop) → Prop) → S → (X → S → Prop) → Prop}
end
end
end Go.Proofs.YtahpnackkmbmgaaGreat.Vm
end
section
namespace Go.Proofs.YtahpnackkmbmgaaGreat.Vm
open Go.RowKit
set_option maxRecDepth 100000
def u6:List UInt8:=[102,32,120,46,97,32,43,32,49]
def b6:List (List D):=[[.sc (.int .u8 102)],[.sc (.int .u8 32)],[.sc (.int .u8 120)],[.sc (.int .u8 46)],[.sc (.int .u8 97)],[.sc (.int .u8 32)],[.sc (.int .u8 43)],[.sc (.int .u8 32)],[.sc (.int .u8 49)]]
def t6:List Tok:=[⟨1,⟨⟨[102]⟩⟩,0,0⟩,⟨1,⟨⟨[120]⟩⟩,0,2⟩,⟨3,⟨⟨[46]⟩⟩,0,3⟩,⟨1,⟨⟨[97]⟩⟩,0,4⟩,⟨3,⟨⟨[43]⟩⟩,0,6⟩,⟨2,⟨⟨[]⟩⟩,1,8⟩,⟨4,⟨⟨[]⟩⟩,0,9⟩]
def r6:List (List D):=[[.sc (.int .u8 1),.sc (.string ⟨⟨[102]⟩⟩),.sc (.int .i64 0),.sc (.int .i64 0)],[.sc (.int .u8 1),.sc (.string ⟨⟨[120]⟩⟩),.sc (.int .i64 0),.sc (.int .i64 2)],[.sc (.int .u8 3),.sc (.string ⟨⟨[46]⟩⟩),.sc (.int .i64 0),.sc (.int .i64 3)],[.sc (.int .u8 1),.sc (.string ⟨⟨[97]⟩⟩),.sc (.int .i64 0),.sc (.int .i64 4)],[.sc (.int .u8 3),.sc (.string ⟨⟨[43]⟩⟩),.sc (.int .i64 0),.sc (.int .i64 6)],[.sc (.int .u8 2),.sc (.string ⟨⟨[]⟩⟩),.sc (.int .i64 1),.sc (.int .i64 8)],[.sc (.int .u8 4),.sc (.string ⟨⟨[]⟩⟩),.sc (.int .i64 0),.sc (.int .i64 9)]]
def d6:List D:=[.sc (.int .u8 40),.sc (.string ⟨⟨[43]⟩⟩),.sc (.string ⟨⟨[]⟩⟩),.sc (.int .i64 0),.sc (.bool false),.sc (.int .u8 0),.sc (.string ⟨⟨[]⟩⟩),.sc (.int .i64 0),.sl 0 [],.sl 10 [[.sc (.int .u8 37),.sc (.string ⟨⟨[]⟩⟩),.sc (.string ⟨⟨[]⟩⟩),.sc (.int .i64 0),.sc (.bool false),.sc (.int .u8 0),.sc (.string ⟨⟨[]⟩⟩),.sc (.int .i64 0),.sl 0 [],.sl 10 [[.sc (.int .u8 32),.sc (.string ⟨⟨[102]⟩⟩),.sc (.string ⟨⟨[]⟩⟩),.sc (.int .i64 0),.sc (.bool false),.sc (.int .u8 0),.sc (.string ⟨⟨[]⟩⟩),.sc (.int .i64 0),.sl 0 [],.sl 0 []],[.sc (.int .u8 43),.sc (.string ⟨⟨[97]⟩⟩),.sc (.string ⟨⟨[]⟩⟩),.sc (.int .i64 0),.sc (.bool false),.sc (.int .u8 0),.sc (.string ⟨⟨[]⟩⟩),.sc (.int .i64 0),.sl 0 [],.sl 10 [[.sc (.int .u8 32),.sc (.string ⟨⟨[120]⟩⟩),.sc (.string ⟨⟨[]⟩⟩),.sc (.int .i64 0),.sc (.bool false),.sc (.int .u8 0),.sc (.string ⟨⟨[]⟩⟩),.sc (.int .i64 0),.sl 0 [],.sl 0 []]]]]],[.sc (.int .u8 33),.sc (.string ⟨⟨[]⟩⟩),.sc (.string ⟨⟨[]⟩⟩),.sc (.int .i64 1),.sc (.bool false),.sc (.int .u8 0),.sc (.string ⟨⟨[]⟩⟩),.sc (.int .i64 0),.sl 0 [],.sl 0 []]]]
def a6:List (List D):=[[.sc (.int .i64 0)],[.sc (.int .i64 0)],[.sc (.int .i64 0)],[.sc (.int .i64 2)],[.sc (.int .i64 2)],[.sc (.int .i64 8)]]
theorem b6_is:rU u6 = b6:=by kernel_rfl
theorem r6_is:rTk t6 = r6:=by kernel_rfl
theorem scan6:scanS (numsU u6) 0 false [] = (t6,0,0):=by kernel_rfl
def tokPF6 (rs:List R):Option (List R):=match listEq resEq rs [.one (.sl 1 b6)] with
 | true=>some [.one (.sl 4 r6),.one (.sc (.int .i64 0)),.one (.sc (.int .u8 0))]
 | false=>none
theorem tok_pure6 (rs q:List R) (h:tokPF6 rs = some q):Spec 17 rs q:=by
 unfold tokPF6 at h
 split at h
 ·rename_i he
  have he:=listEq_eq (fun _ _ h=>resEq_eq h) he
  subst he
  injection h with h
  subst h
  have h1:=Tokens_s u6 (by decide)
  rw [scan6,b6_is,r6_is] at h1
  exact h1
 ·cases h
theorem gd7:Good 7 Tryz.f7 (Tryz.f7.body.getD .skip):=⟨Tryz.func7,rfl,by kernel_rfl,by kernel_rfl,by kernel_rfl⟩
theorem gd21:Good 21 Tryz.f21 (Tryz.f21.body.getD .skip):=⟨Tryz.func21,rfl,by kernel_rfl,by kernel_rfl,by kernel_rfl⟩
theorem gd19:Good 19 Tryz.f19 (Tryz.f19.body.getD .skip):=⟨Tryz.func19,rfl,by kernel_rfl,by kernel_rfl,by kernel_rfl⟩
theorem gd20:Good 20 Tryz.f20 (Tryz.f20.body.getD .skip):=⟨Tryz.func20,rfl,by kernel_rfl,by kernel_rfl,by kernel_rfl⟩
theorem gd18:Good 18 Tryz.f18 (Tryz.f18.body.getD .skip):=⟨Tryz.func18,rfl,by kernel_rfl,by kernel_rfl,by kernel_rfl⟩
theorem gd23:Good 23 Tryz.f23 (Tryz.f23.body.getD .skip):=⟨Tryz.func23,rfl,by kernel_rfl,by kernel_rfl,by kernel_rfl⟩
theorem gd43:Good 43 Tryz.f43 (Tryz.f43.body.getD .skip):=⟨Tryz.func43,rfl,by kernel_rfl,by kernel_rfl,by kernel_rfl⟩
theorem gd29:Good 29 Tryz.f29 (Tryz.f29.body.getD .skip):=⟨Tryz.func29,rfl,by kernel_rfl,by kernel_rfl,by kernel_rfl⟩
theorem gd44:Good 44 Tryz.f44 (Tryz.f44.body.getD .skip):=⟨Tryz.func44,rfl,by kernel_rfl,by kernel_rfl,by kernel_rfl⟩
theorem gd47:Good 47 Tryz.f47 (Tryz.f47.body.getD .skip):=⟨Tryz.func47,rfl,by kernel_rfl,by kernel_rfl,by kernel_rfl⟩
theorem gd28:Good 28 Tryz.f28 (Tryz.f28.body.getD .skip):=⟨Tryz.func28,rfl,by kernel_rfl,by kernel_rfl,by kernel_rfl⟩
theorem gd30:Good 30 Tryz.f30 (Tryz.f30.body.getD .skip):=⟨Tryz.func30,rfl,by kernel_rfl,by kernel_rfl,by kernel_rfl⟩
theorem gd46:Good 46 Tryz.f46 (Tryz.f46.body.getD .skip):=⟨Tryz.func46,rfl,by kernel_rfl,by kernel_rfl,by kernel_rfl⟩
theorem gd42:Good 42 Tryz.f42 (Tryz.f42.body.getD .skip):=⟨Tryz.func42,rfl,by kernel_rfl,by kernel_rfl,by kernel_rfl⟩
theorem gd48:Good 48 Tryz.f48 (Tryz.f48.body.getD .skip):=⟨Tryz.func48,rfl,by kernel_rfl,by kernel_rfl,by kernel_rfl⟩
theorem gd59:Good 59 Tryz.f59 (Tryz.f59.body.getD .skip):=⟨Tryz.func59,rfl,by kernel_rfl,by kernel_rfl,by kernel_rfl⟩
theorem gd81:Good 81 Tryz.f81 (Tryz.f81.body.getD .skip):=⟨Tryz.func81,rfl,by kernel_rfl,by kernel_rfl,by kernel_rfl⟩
theorem gd82:Good 82 Tryz.f82 (Tryz.f82.body.getD .skip):=⟨Tryz.func82,rfl,by kernel_rfl,by kernel_rfl,by kernel_rfl⟩
theorem gd34:Good 34 Tryz.f34 (Tryz.f34.body.getD .skip):=⟨Tryz.func34,rfl,by kernel_rfl,by kernel_rfl,by kernel_rfl⟩
theorem gd80:Good 80 Tryz.f80 (Tryz.f80.body.getD .skip):=⟨Tryz.func80,rfl,by kernel_rfl,by kernel_rfl,by kernel_rfl⟩
theorem gd33:Good 33 Tryz.f33 (Tryz.f33.body.getD .skip):=⟨Tryz.func33,rfl,by kernel_rfl,by kernel_rfl,by kernel_rfl⟩
theorem gd108:Good 108 Tryz.f108 (Tryz.f108.body.getD .skip):=⟨Tryz.func108,rfl,by kernel_rfl,by kernel_rfl,by kernel_rfl⟩
theorem gd122:Good 122 Tryz.f122 (Tryz.f122.body.getD .skip):=⟨Tryz.func122,rfl,by kernel_rfl,by kernel_rfl,by kernel_rfl⟩
theorem gd123:Good 123 Tryz.f123 (Tryz.f123.body.getD .skip):=⟨Tryz.func123,rfl,by kernel_rfl,by kernel_rfl,by kernel_rfl⟩
theorem gd133:Good 133 Tryz.f133 (Tryz.f133.body.getD .skip):=⟨Tryz.func133,rfl,by kernel_rfl,by kernel_rfl,by kernel_rfl⟩
theorem gd142:Good 142 Tryz.f142 (Tryz.f142.body.getD .skip):=⟨Tryz.func142,rfl,by kernel_rfl,by kernel_rfl,by kernel_rfl⟩
theorem parse_lit6:Spec 7 [.one (.sl 1 b6)] [.ag d6,.one (.sl 1 a6),.one (.sc (.int .i64 0)),.one (.sc (.int .u8 0))]:=conc_spec (T:=.pure 17 tokPF6 tok_pure6 (.cons 7 Tryz.f7 (Tryz.f7.body.getD .skip) gd7 (.cons 21 Tryz.f21 (Tryz.f21.body.getD .skip) gd21 (.cons 19 Tryz.f19 (Tryz.f19.body.getD .skip) gd19 (.cons 20 Tryz.f20 (Tryz.f20.body.getD .skip) gd20 (.cons 18 Tryz.f18 (Tryz.f18.body.getD .skip) gd18 (.cons 23 Tryz.f23 (Tryz.f23.body.getD .skip) gd23 (.cons 43 Tryz.f43 (Tryz.f43.body.getD .skip) gd43 (.cons 29 Tryz.f29 (Tryz.f29.body.getD .skip) gd29 (.cons 44 Tryz.f44 (Tryz.f44.body.getD .skip) gd44 (.cons 47 Tryz.f47 (Tryz.f47.body.getD .skip) gd47 (.cons 28 Tryz.f28 (Tryz.f28.body.getD .skip) gd28 (.cons 30 Tryz.f30 (Tryz.f30.body.getD .skip) gd30 (.cons 46 Tryz.f46 (Tryz.f46.body.getD .skip) gd46 (.cons 42 Tryz.f42 (Tryz.f42.body.getD .skip) gd42 (.cons 48 Tryz.f48 (Tryz.f48.body.getD .skip) gd48 (.cons 59 Tryz.f59 (Tryz.f59.body.getD .skip) gd59 (.cons 81 Tryz.f81 (Tryz.f81.body.getD .skip) gd81 (.cons 82 Tryz.f82 (Tryz.f82.body.getD .skip) gd82 (.cons 34 Tryz.f34 (Tryz.f34.body.getD .skip) gd34 (.cons 80 Tryz.f80 (Tryz.f80.body.getD .skip) gd80 (.cons 33 Tryz.f33 (Tryz.f33.body.getD .skip) gd33 (.cons 108 Tryz.f108 (Tryz.f108.body.getD .skip) gd108 (.cons 122 Tryz.f122 (Tryz.f122.body.getD .skip) gd122 (.cons 123 Tryz.f123 (Tryz.f123.body.getD .skip) gd123 (.cons 133 Tryz.f133 (Tryz.f133.body.getD .skip) gd133 (.cons 142 Tryz.f142 (Tryz.f142.body.getD .skip) gd142 (.nil)))))))))))))))))))))))))))) (hint:=(fun e=>match e with | 164=>false | 31=>false | _=>true)) (n:=60) gd7 (by kernel_rfl)
end Go.Proofs.YtahpnackkmbmgaaGreat.Vm
end
section
namespace Go.Proofs.YtahpnackkmbmgaaGreat.Vm
open Go.RowKit
set_option maxRecDepth 100000
set_option maxHeartbeats 4000000
section
theorem mark_heap {w:World} {b T m:Nat} {cur:Array Value} (h:w.heap[b]? = some (.cells cur T (0,0))):(w.freeze ⟨b,m,none⟩ 1).heap[b]? = some (.cells cur T (m,m + 1)):=by
 unfold World.freeze
 rw [if_neg (by decide)]
 simp only [Array.getElem?_modify,if_true,h]
 simp
theorem mark_other {w:World} {b m c:Nat} (hc:c ≠ b):(w.freeze ⟨b,m,none⟩ 1).heap[c]? = w.heap[c]?:=by
 unfold World.freeze
 rw [if_neg (by decide)]
 simp only [Array.getElem?_modify]
 rw [if_neg (Ne.symm hc)]
theorem mark_rest (w:World) (b m:Nat):(w.freeze ⟨b,m,none⟩ 1).os = w.os ∧ (w.freeze ⟨b,m,none⟩ 1).tape = w.tape ∧ (w.freeze ⟨b,m,none⟩ 1).output = w.output ∧ (w.freeze ⟨b,m,none⟩ 1).heap.size = w.heap.size:=by
 unfold World.freeze
 rw [if_neg (by decide)]
 exact ⟨rfl,rfl,rfl,by simp⟩
theorem mark_real {t:Nat} {x:Operand} {d:Option Nat} {s:S} {K:S → Prop} {k e:Nat} {z:Bool} {rows:List (List D)} (ht:tyKnown t = true) (hby:isByte t = true) (he:(ty t).elem = some e) (hx:s.get x = .own k) (hk:getO s.o k = .row z e rows) (hne:rows ≠ [])
  (hK:K (S.put ⟨s.t,setO s.o k .dead⟩ d (.d (.sl (ty e).sz rows)))):real.ext (.convert t t x) d s K:=by
 rintro I0 X w0 a w o Q ho hdst hop ⟨I,g,h⟩
 obtain ⟨I2,h2,hI⟩:=h.freeze k
 have hf:frz1 s.o k = setO s.o k (.row true e rows):=by unfold frz1;rw [hk]
 rw [hf] at h2
 have hk0:=getO_some hk (by simp)
 have hlt:k < s.o.length:=(List.getElem?_eq_some_iff.1 hk0).1
 have hk2:(setO s.o k (.row true e rows))[k]? = some (.row true e rows):=by rw [setO_is,List.getElem?_set_self hlt]
 have hv:AtV I2 w g (a.eval x) (.own k):=by have:=h.get x;rw [hx] at this;exact this.mono hI (Keeps.refl _ _)
 have hk3:getO (setO s.o k (.row true e rows)) k = .row true e rows:=by
  have:∀ (l:List O) (k:Nat) (o:O),l[k]? = some o → getO l k = o:=by
   intro l
   induction l with
   | nil=>intro k o h;simp at h
   | cons y l ih=>intro k o h;cases k with | zero=>simp at h;exact h | succ k=>exact ih k o (by simpa using h)
  exact this _ _ _ hk2
 have hat:AtD I2 w (a.eval x) (.sl (ty e).sz rows):=toD_at h2 hv (by show (match getO (setO s.o k (.row true e rows)) k with | .row true e rows=>some (D.sl (ty e).sz rows) | _=>none) = _;rw [hk3])
 obtain ⟨us,hown,hrl,hdr,hbk⟩:=h2.obj k _ hk2
 have hgv:a.eval x = g k:=hv.unown.1.trans (own_gv hown)
 rcases hown.2 with ⟨_,hz⟩ | ⟨b,cap,cur,e0,_,hb,hnc,hcm,hcs,htake⟩
 ·exact absurd (List.eq_nil_of_length_eq_zero hz) hne
 obtain ⟨e',he',hke,hkk⟩:=isByte_at hby
 rw [he] at he'
 obtain rfl:e = e':=Option.some.inj he'
 have hrun:(convert t t (a.eval x)).run Tryz.prog w = .ok (a.eval x) (w.freeze ⟨b,cur.size,none⟩ 1):=by
  have hsh:w.shape? b = some (e,cur.size):=by simp [World.shape?,hb]
  rw [hgv,e0]
  simp [convert,run_underlying (ty_slice ht he),run_underlying (ty_int hke hkk),markStringish,hsh,Result.andThen]
 obtain ⟨f1,f2,f3,f4⟩:=mark_rest w b cur.size
 have hgb:gbl (g k) b:=by rw [e0];rfl
 have hcell:∀ i,(w.freeze ⟨b,cur.size,none⟩ 1).cell? ⟨b,i,none⟩ = w.cell? ⟨b,i,none⟩:=fun i=>by
  rw [cell_get hb]
  unfold World.cell?
  rw [mark_heap hb]
  simp
 have h3:=h2.deadTo (k:=k) (o:=.row true e rows) hk2 (by simp) (w':=w.freeze ⟨b,cur.size,none⟩ 1) hgb f1 f2 f3 f4 (fun c hc=>mark_other hc) hcell
 have hkp:Keeps I2 w (w.freeze ⟨b,cur.size,none⟩ 1):=fun b' n hb' i hi=>by
  by_cases eb:b' = b
  ·subst eb;exact hcell i
  ·exact blk_cell (mark_other eb) i
 have hso:(setO s.o k (.row true e rows)).set k .dead = setO s.o k .dead:=by rw [setO_is,setO_is,List.set_set]
 rw [hso] at h3
 unfold Oper.wp
 have hex:(execOp a.eval o).run Tryz.prog w = .ok (.value (a.eval x)) (w.freeze ⟨b,cur.size,none⟩ 1):=by
  unfold execOp
  rw [ho]
  simp only [Sem.run_bind,hrun,Result.andThen_ok,Sem.run_pure]
 rw [hex,Oper.upon_value,hdst]
 exact ⟨_,⟨I2,g,h3.put (.d (hat.mono (fun _ _ h=>h) hkp)) _⟩,hK⟩
section
variable {qa:IntKind → Int → Int} {qb:Int → Int → Int} {qc:Int → Int → Int} {qd:Int → Int → Int} {qe:Int → Int → Int} {qf:Int → Int → Int} {qg:BinOp → IntKind → Int → IntKind → Int → Option Int} {qh:Int → Int → Bool} {qi:Int → Int → Bool} {qj:Int → Int → Bool} {qk:Int → Prop → Prop} {ql:List UInt8 → List UInt8 → Bool} {qm:List UInt8 → List UInt8 → Bool} {qn:ByteArray → List UInt8} {qo:ByteArray → ByteArray → ByteArray} {qp:ByteArray → ByteArray → Prop → Prop} {qq:ByteArray → Int} {qs:ByteArray → Int → Option Int} {qt:ByteArray → Int → Int → Option ByteArray} {qu:List (List D) → Option ByteArray} {qv:ByteArray → List (List D)} {qw:Int → Nat → Option Nat} {qx:List (List D) → Int} {qy:List (List D) → Int → Option (List D)} {qz:List (List D) → Int → Int → Option (List (List D))} {va:List (List D) → List (List D) → List (List D)} {vc:List (List D) → Int → List D → List (List D)} {vd:List (List D) → List (List D) → Prop → Prop} {ve:List (R × R) → R → Option R} {vf:List (R × R) → R → R → List (R × R)} {vg:List D → List D → Bool} {vh:Int → List D → (List (List D) → Prop) → Prop} {vj:Nat → List R → (List R → Prop) → Prop} {vk:Nat → List V → List O → (V → Prop) → Prop} {vl:Nat → List V → S → (V → S → Prop) → Prop} {vm:Nat → List V → List Nat → S → (V → S → Prop) → Prop} {vn:Nat → (Bool → Prop) → Prop} {vo:Nat → (Bool → Prop) → Prop} {vp:Nat → (List V → List O → Prop) → List V → S → Prop} {vq:(S → Prop) → S → Prop} {vr:Op → Option Nat → S → (S → Prop) → Prop} {vt:Array Oper → S → (S → Prop) → Prop} {vu:Code → (S → (X → S → Prop) → Prop) → S → (X → S → Prop) → Prop}
theorem mark_at (hA:Ar.mk qa qb qc qd qe qf qg qh qi qj qk ql qm qn qo qp qq qs qt qu qv qw qx qy qz va vc vd ve vf vg vh vj vk vl vm vn vo vp vq vr vt vu = real) {t:Nat} {x:Operand} {d:Option Nat} {s:S} {K:S → Prop} (k e:Nat) {z:Bool} {rows:List (List D)} (ht:tyKnown t = true) (hby:isByte t = true) (he:(ty t).elem = some e) (hx:s.get x = .own k) (hk:getO s.o k = .row z e rows) (hne:rows ≠ [])
  (hK:K (S.put ⟨s.t,setO s.o k .dead⟩ d (.d (.sl (ty e).sz rows)))):vr (.convert t t x) d s K:=ext_at hA (mark_real ht hby he hx hk hne hK)
end
end
def zz6:D:=.sc (.string ⟨⟨[]⟩⟩)
def k6x:List (List D):=[[.sc (.int .u8 32),.sc (.string ⟨⟨[120]⟩⟩),zz6,.sc (.int .i64 0),.sc (.bool false),.sc (.int .u8 0),zz6,.sc (.int .i64 0),.sl 0 [],.sl 0 []]]
def k6b:List (List D):=[[.sc (.int .u8 32),.sc (.string ⟨⟨[102]⟩⟩),zz6,.sc (.int .i64 0),.sc (.bool false),.sc (.int .u8 0),zz6,.sc (.int .i64 0),.sl 0 [],.sl 0 []],[.sc (.int .u8 43),.sc (.string ⟨⟨[97]⟩⟩),zz6,.sc (.int .i64 0),.sc (.bool false),.sc (.int .u8 0),zz6,.sc (.int .i64 0),.sl 0 [],.sl 10 k6x]]
def k6a:List (List D):=[[.sc (.int .u8 37),zz6,zz6,.sc (.int .i64 0),.sc (.bool false),.sc (.int .u8 0),zz6,.sc (.int .i64 0),.sl 0 [],.sl 10 k6b],[.sc (.int .u8 33),zz6,zz6,.sc (.int .i64 1),.sc (.bool false),.sc (.int .u8 0),zz6,.sc (.int .i64 0),.sl 0 [],.sl 0 []]]
theorem d6_is:d6 = [.sc (.int .u8 40),.sc (.string ⟨⟨[43]⟩⟩),zz6,.sc (.int .i64 0),.sc (.bool false),.sc (.int .u8 0),zz6,.sc (.int .i64 0),.sl 0 [],.sl 10 k6a]:=rfl
theorem alive6_s:Spec 6 [] [.one (.sc (.bool true))]:=by
 have h1:=parse_lit6
 rw [d6_is] at h1
 unfold b6 at h1
 have g1:k6a.length = 2:=rfl
 have g2:k6a[0]? = some [.sc (.int .u8 37),zz6,zz6,.sc (.int .i64 0),.sc (.bool false),.sc (.int .u8 0),zz6,.sc (.int .i64 0),.sl 0 [],.sl 10 k6b]:=rfl
 have g3:a6.length = 6:=rfl
 generalize k6a = K at *
 generalize k6b = K2 at *
 generalize a6 = A at *
 generalize zz6 = Z at *
 refine spec_of Tryz.func6 rfl (by kernel_rfl) (by kernel_rfl) (by kernel_rfl) fun qa qb qc qd qe qf qg qh qi qj qk ql qm qn qo qp qq qs qt qu qv qw qx qy qz va vc vd ve vf vg vh vj vk vl vm vn vo vp vq vr vt vu hA=>?_
 obtain ⟨e1,e2,e3,e4,e5,e6,e7,e8,e9⟩:=ar_at hA
 obtain ⟨r1,r2,r3,r4⟩:=row_at hA
 have q1:qj (qa .i64 0) 0 = true:=by rw [e9,e1];rfl
 have q2:qj 40 40 = true:=by rw [e9];rfl
 have q3:qj (qx K) 2 = true:=by rw [e9,r1,g1];rfl
 have q4:qy K 0 = some [.sc (.int .u8 37),Z,Z,.sc (.int .i64 0),.sc (.bool false),.sc (.int .u8 0),Z,.sc (.int .i64 0),.sl 0 [],.sl 10 K2]:=by rw [r2,if_pos (by omega)];exact g2
 have q5:qj 37 37 = true:=by rw [e9];rfl
 have q6:qj (qx A) 6 = true:=by rw [e9,r1,g3];rfl
 clear g1 g2 g3
 cbv
 repeat ((with_reducible apply next_at hA);cbv)
 refine lit_at hA false ?_
 cbv
 refine new_at hA true ?_
 cbv
 refine mark_at hA 0 5 (by kernel_rfl) (by kernel_rfl) rfl rfl rfl (by simp) ?_
 iterate 2 (try cbv;repeat ((first | with_reducible apply next_at hA | rw [q1] | rw [q2] | rw [q3] | rw [q4] | rw [q5] | rw [q6] | refine call_at hA _ h1 rfl ?_ | refine calm_at hA _ h1 ?_);cbv))
 try simp (maxSteps:=4000000) only [nc] at *
end Go.Proofs.YtahpnackkmbmgaaGreat.Vm
end
section
namespace Go.Proofs.YtahpnackkmbmgaaGreat.Vm
open Go.RowKit Go.ChangeShapes Go.WideShapes Go.Deep
section
inductive Deep (P:Program):Nat → List D → Nat → Prop
 | bool {t:Nat} (b:Bool) (h:P.underlying t = some .bool):Deep P t [.sc (.bool b)] 1
 | int {t:Nat} {k:IntKind} (n:Int) (h:P.underlying t = some (.int k)) (hw:(Lit.int k n).wf = true):Deep P t [.sc (.int k n)] 1
 | str {t:Nat} (s:ByteArray) (h:P.underlying t = some .string) (hs:s.size ≤ maxLen):Deep P t [.sc (.string s)] (s.size + 1)
 | sl {t e:Nat} (rows:List (List D)) (ms:List Nat) (h:P.underlying t = some (.slice e)) (hl:ms.length = rows.length) (hb:rows.length ≤ maxLen)
   (hr:∀ (i:Nat) (r:List D) (m:Nat),rows[i]? = some r → ms[i]? = some m → Deep P e r m):Deep P t [.sl (P.cellsOf e) rows] (ms.sum + 1)
 | st {t:Nat} {fs:Array Field} (dss:List (List D)) (ms:List Nat) (h:P.underlying t = some (.struct fs)) (h1:dss.length = fs.size) (h2:ms.length = fs.size)
   (hf:∀ (i:Nat) (f:Field) (ds:List D) (m:Nat),fs[i]? = some f → dss[i]? = some ds → ms[i]? = some m → Deep P f.type ds m):Deep P t dss.flatten (ms.sum + 1)
def DeepR (P:Program) (t:Nat) (r:R) (m:Nat):Prop:=match P.underlying t,r with
 | some (.struct _),.ag xs=>Deep P t xs m
 | some (.struct _),.one _=>False
 | _,.one x=>Deep P t [x] m
 | _,.ag _=>False
section
variable {P:Program} {t:Nat} {ds:List D} {m:Nat}
theorem Deep.unint {k:IntKind} (h:Deep P t ds m) (hu:P.underlying t = some (.int k)):∃ n,ds = [.sc (.int k n)] ∧ (Lit.int k n).wf = true ∧ m = 1:=by
 cases h with
 | int n h hw=>rw [hu] at h;cases h;exact ⟨n,rfl,hw,rfl⟩
 | _=>simp_all
theorem Deep.unbool (h:Deep P t ds m) (hu:P.underlying t = some .bool):∃ b,ds = [.sc (.bool b)] ∧ m = 1:=by
 cases h with
 | bool b h=>exact ⟨b,rfl,rfl⟩
 | _=>simp_all
theorem Deep.unstr (h:Deep P t ds m) (hu:P.underlying t = some .string):∃ s:ByteArray,ds = [.sc (.string s)] ∧ s.size ≤ maxLen ∧ m = s.size + 1:=by
 cases h with
 | str s h hs=>exact ⟨s,rfl,hs,rfl⟩
 | _=>simp_all
theorem Deep.unsl {e:Nat} (h:Deep P t ds m) (hu:P.underlying t = some (.slice e)):∃ (rows:List (List D)) (ms:List Nat),ds = [.sl (P.cellsOf e) rows] ∧ ms.length = rows.length ∧ rows.length ≤ maxLen ∧ m = ms.sum + 1 ∧
  ∀ (i:Nat) (r:List D) (m:Nat),rows[i]? = some r → ms[i]? = some m → Deep P e r m:=by
 cases h with
 | sl rows ms h hl hb hr=>rw [hu] at h;cases h;exact ⟨rows,ms,rfl,hl,hb,rfl,hr⟩
 | _=>simp_all
end
def layoutB (P:Program):List Field → Nat → Nat → Bool
 | [],n,c=>Nat.beq n c
 | f :: fs,n,c=>Nat.beq f.offset n && layoutB P fs (n + P.cellsOf f.type) c
def dataOk1 (P:Program) (L:List Nat) (t:Nat):Bool:=match P.underlying t with
 | some .bool=>true
 | some (.int _)=>true
 | some .string=>true
 | some (.slice e)=>L.contains e && Nat.blt 0 (P.cellsOf e)
 | some (.struct fs)=>(fs.toList.all fun f=>L.contains f.type) && layoutB P fs.toList 0 (P.cellsOf t)
 | _=>false
def dataOk (P:Program) (L:List Nat):Bool:=L.all (dataOk1 P L)
theorem pick_fn {β:Type}:∀ {n:Nat} {p:Nat → β → Prop},(∀ i,i < n → ∃ b,p i b) → ∃ l:List β,l.length = n ∧ ∀ (i:Nat) b,l[i]? = some b → p i b
 | 0,p,h=>⟨[],rfl,fun i b hi=>by simp at hi⟩
 | n + 1,p,h=>by
  obtain ⟨b0,h0⟩:=h 0 (by omega)
  obtain ⟨l,hl,hp⟩:=pick_fn (n:=n) (p:=fun i b=>p (i + 1) b) fun i hi=>h (i + 1) (by omega)
  refine ⟨b0 :: l,by simp [hl],fun i b hi=>?_⟩
  cases i with
  | zero=>simp at hi;subst hi;exact h0
  | succ i=>exact hp i b (by simpa using hi)
theorem atDs_flat {I:Nat → Nat → Prop} {w:World}:∀ {css:List (List Value)} {dss:List (List D)},css.length = dss.length → (∀ (i:Nat) cs ds,css[i]? = some cs → dss[i]? = some ds → AtDs I w cs ds) → AtDs I w css.flatten dss.flatten
 | [],[],_,_=>AtDs.nil I w
 | c :: css,d :: dss,hl,h=>by
  rw [List.flatten_cons,List.flatten_cons]
  exact (h 0 c d rfl rfl).append (atDs_flat (by simpa using hl) fun i cs ds h1 h2=>h (i + 1) cs ds (by simpa using h1) (by simpa using h2))
 | [],_ :: _,hl,_=>by simp at hl
 | _ :: _,[],hl,_=>by simp at hl
theorem layout_cut {P:Program} {cs:List Value}:∀ (fs:List Field) (n c:Nat),layoutB P fs n c = true → cs.length = c → cs.drop n = (fs.map fun f=>(cs.drop f.offset).take (P.cellsOf f.type)).flatten
 | [],n,c,h,hl=>by
  have:n = c:=Nat.eq_of_beq_eq_true h
  rw [List.drop_eq_nil_of_le (by omega)];rfl
 | f :: fs,n,c,h,hl=>by
  rw [layoutB,Bool.and_eq_true] at h
  have h1:f.offset = n:=Nat.eq_of_beq_eq_true h.1
  rw [List.map_cons,List.flatten_cons,← layout_cut fs _ c h.2 hl,h1,← List.drop_drop,List.take_append_drop]
theorem bulk_sum {H:Type}:∀ {ms:List Nat} {els:List (DataW H)},ms.length = els.length → (∀ (i m:Nat) y,ms[i]? = some m → els[i]? = some y → m ≤ Rows.uptoBulk y) → ms.sum ≤ Rows.uptoBulkAll els
 | [],[],_,_=>by simp
 | m :: ms,y :: els,hl,h=>by
  have h1:=h 0 m y rfl rfl
  have h2:=bulk_sum (ms:=ms) (els:=els) (by simpa using hl) fun i m y hm hy=>h (i + 1) m y (by simpa using hm) (by simpa using hy)
  simp only [List.sum_cons,Rows.uptoBulkAll]
  omega
 | [],_ :: _,hl,_=>by simp at hl
 | _ :: _,[],hl,_=>by simp at hl
def Low (w:World) (b _h:Nat):Prop:=b < w.heap.size
section
variable {H:Type} {enc:TypeId × Value → H} {P:Program} {w:World} {base:Nat} {spare:Nat → Bool} {held:Bool}
theorem open_deep {L:List Nat} (hL:dataOk P L = true):∀ (fuel t:Nat) (cs:List Value) (x:DataW H × List MemPlace),t ∈ L → DataW.trod enc P w base spare held fuel t cs = some x → ∃ ds m,AtDs (Low w) w cs ds ∧ Deep P t ds m ∧ m ≤ Rows.uptoBulk x.1
 | 0,t,cs,x,ht,h=>by simp [DataW.trod] at h
 | fuel + 1,t,cs,x,ht,h=>by
  have hk:=List.all_eq_true.1 hL t ht
  unfold dataOk1 at hk
  split at hk
  ·rename_i e
   obtain ⟨b,rfl,rfl⟩:=DataW.trod_bool e h
   exact ⟨_,_,AtDs.cons (.sc _ rfl) (AtDs.nil _ _),.bool b e,by simp [Rows.uptoBulk]⟩
  ·rename_i k e
   obtain ⟨n,rfl,rfl,hw⟩:=DataW.trod_int e h
   exact ⟨_,_,AtDs.cons (.sc _ rfl) (AtDs.nil _ _),.int n e hw,by simp [Rows.uptoBulk]⟩
  ·rename_i e
   obtain ⟨s,rfl,rfl,hs⟩:=DataW.trod_string e h
   refine ⟨_,_,AtDs.cons (.sc _ rfl) (AtDs.nil _ _),.str s e hs,?_⟩
   have e2:s.data.toList.length = s.size:=by rw [Array.length_toList];rfl
   simp only [Rows.uptoBulk]
   omega
  ·rename_i e he
   simp only [Bool.and_eq_true,List.contains_iff_mem,Nat.blt_eq] at hk
   rcases DataW.trod_slice he h with ⟨rfl,rfl⟩ | ⟨a,len,cap,elems,rest,n,hfu,rfl,rfl,hb,hl,hm,hlen,hel,_,_⟩
   ·exact ⟨_,_,AtDs.cons (.nil none 0 (P.cellsOf e)) (AtDs.nil _ _),.sl [] [] he rfl (Nat.zero_le _) (fun i r m hr=>by simp at hr),by simp [Rows.uptoBulk]⟩
   ·obtain rfl:n = fuel:=by omega
    have each:∀ i,i < len → ∃ q:List Value × List D × Nat,(w.cells? base (a.add (i * P.cellsOf e)) (P.cellsOf e) = some q.1) ∧ AtDs (Low w) w q.1 q.2.1 ∧ Deep P e q.2.1 q.2.2 ∧ ∃ y,elems[i]? = some y ∧ q.2.2 ≤ Rows.uptoBulk y.1:=by
     intro i hi
     have h1:=hel i hi
     have hei:elems[i]? = some (elems[i]'(by omega)):=List.getElem?_eq_getElem (by omega)
     rw [hei,Option.bind_eq_some_iff] at h1
     obtain ⟨cs',hc,ht'⟩:=h1
     obtain ⟨ds,m,h2,h3,h4⟩:=open_deep hL n e cs' _ hk.1 ht'
     exact ⟨(cs',ds,m),hc,h2,h3,_,hei,h4⟩
    obtain ⟨l,hll,hp⟩:=pick_fn each
    have hmap:∀ {β:Type} (f:List Value × List D × Nat → β) (i:Nat) (b:β),(l.map f)[i]? = some b → ∃ q,l[i]? = some q ∧ f q = b:=fun f i b hi=>by
     rw [List.getElem?_map,Option.map_eq_some_iff] at hi
     exact hi
    have hrl:(l.map fun q=>q.2.1).length = len:=by rw [List.length_map,hll]
    have hcl:∀ r ∈ l.map (fun q=>q.1),r.length = P.cellsOf e:=fun r hr=>by
     obtain ⟨i,hi⟩:=List.mem_iff_getElem?.1 hr
     obtain ⟨q,hq,rfl⟩:=hmap _ i r hi
     exact (World.cells?_some (hp i q hq).1).2.1
    have hdl:∀ r ∈ l.map (fun q=>q.2.1),r.length = P.cellsOf e:=fun r hr=>by
     obtain ⟨i,hi⟩:=List.mem_iff_getElem?.1 hr
     obtain ⟨q,hq,rfl⟩:=hmap _ i r hi
     rw [← (hp i q hq).2.1.1]
     exact (World.cells?_some (hp i q hq).1).2.1
    have hD:Deep P t [.sl (P.cellsOf e) (l.map fun q=>q.2.1)] ((l.map fun q=>q.2.2).sum + 1):=by
     refine .sl _ _ he (by simp) (by rw [hrl];omega) fun i r m hr hm=>?_
     obtain ⟨q,hq,rfl⟩:=hmap _ i r hr
     obtain ⟨q',hq',rfl⟩:=hmap _ i m hm
     rw [hq] at hq'
     cases hq'
     exact (hp i q hq).2.2.1
    have hB:(l.map fun q=>q.2.2).sum + 1 ≤ Rows.uptoBulk (DataW.slice (elems.map (·.1)) (rest.map (·.1))):=by
     have:=bulk_sum (ms:=l.map fun q=>q.2.2) (els:=elems.map (·.1)) (by simp [hll,hlen]) fun i m y hm hy=>by
      obtain ⟨q,hq,rfl⟩:=hmap _ i m hm
      obtain ⟨y',hy',h4⟩:=(hp i q hq).2.2.2
      rw [List.getElem?_map,hy'] at hy
      cases hy
      exact h4
     simp only [Rows.uptoBulk]
     omega
    refine ⟨_,_,AtDs.cons ?_ (AtDs.nil _ _),hD,hB⟩
    by_cases h0:len = 0
    ·subst h0
     rw [List.eq_nil_of_length_eq_zero hll]
     exact .nil _ _ _
    obtain ⟨b,off,spot⟩:=a
    obtain ⟨q0,hq0⟩:∃ q,l[0]? = some q:=⟨_,List.getElem?_eq_getElem (by omega)⟩
    have hc0:=(World.cells?_some (hp 0 q0 hq0).1).2
    have hq00:q0.1[0]? = some (q0.1[0]'(by omega)):=List.getElem?_eq_getElem (by omega)
    have hcell0:=(hc0.2 0 hk.2).trans hq00
    have hspot:spot = none:=by
     have:=World.cell?_spot hcell0
     simpa [Addr.add] using this
    subst hspot
    have hblk:b < w.heap.size:=by
     have:=World.block_lt_of_cell? w _ hcell0
     simpa [Addr.add] using this
    have add0:∀ o j,(⟨b,o,none⟩:Addr).add j = ⟨b,o + j,none⟩:=fun o j=>by
     unfold Addr.add
     by_cases hj:j = 0
     ·subst hj;rfl
     ·simp [hj]
    have hus:(l.map fun q=>q.1).flatten.length = len * P.cellsOf e:=by rw [flat_len hcl,List.length_map,hll]
    have hsl:=AtD.sl (I:=Low w) (w:=w) b off cap (P.cellsOf e) (l.map fun q=>q.2.1) (l.map fun q=>q.1).flatten (by rw [hrl];exact hl) ⟨_,Nat.le_refl _,hblk⟩ hdl (by rw [hus,hrl]) (fun i u hu=>?_) (fun i u d hu hd=>?_)
    ·rw [hrl] at hsl
     exact hsl
    ·have hi:i < len * P.cellsOf e:=by rw [← hus];exact (List.getElem?_eq_some_iff.1 hu).1
     have hq:i / P.cellsOf e < len:=(Nat.div_lt_iff_lt_mul hk.2).2 hi
     have hr:i % P.cellsOf e < P.cellsOf e:=Nat.mod_lt _ hk.2
     have ei:i / P.cellsOf e * P.cellsOf e + i % P.cellsOf e = i:=by rw [Nat.mul_comm];exact Nat.div_add_mod i _
     obtain ⟨q,hqq⟩:∃ q,l[i / P.cellsOf e]? = some q:=⟨_,List.getElem?_eq_getElem (by omega)⟩
     have hcq:=(World.cells?_some (hp _ q hqq).1).2.2 _ hr
     have hfl:=flat_get hcl (i:=i / P.cellsOf e) (j:=i % P.cellsOf e) (r:=q.1) (by rw [List.getElem?_map,hqq];rfl) hr
     rw [ei,hu] at hfl
     rw [← hfl,add0,add0,Nat.add_assoc,ei] at hcq
     exact hcq
    ·exact (atDs_flat (I:=Low w) (w:=w) (css:=l.map fun q=>q.1) (dss:=l.map fun q=>q.2.1) (by simp) fun i cs ds h1 h2=>by
      obtain ⟨q,hq,rfl⟩:=hmap _ i cs h1
      obtain ⟨q',hq',rfl⟩:=hmap _ i ds h2
      rw [hq] at hq'
      cases hq'
      exact (hp i q hq).2.1).2 i u d hu hd
  ·rename_i fs he
   simp only [Bool.and_eq_true,List.all_eq_true,List.contains_iff_mem] at hk
   obtain ⟨xs,n,hfu,rfl,hcl,hxl,hf⟩:=DataW.trod_struct he h
   obtain rfl:n = fuel:=by omega
   have each:∀ i,i < fs.size → ∃ q:List D × Nat,∀ f,fs[i]? = some f → AtDs (Low w) w ((cs.drop f.offset).take (P.cellsOf f.type)) q.1 ∧ Deep P f.type q.1 q.2 ∧ ∃ y,xs[i]? = some y ∧ q.2 ≤ Rows.uptoBulk y.1:=by
    intro i hi
    have hfi:fs[i]? = some fs[i]:=Array.getElem?_eq_getElem hi
    have hxi:xs[i]? = some (xs[i]'(by omega)):=List.getElem?_eq_getElem (by omega)
    have h1:=hf i _ hfi
    rw [hxi] at h1
    obtain ⟨ds,m,h2,h3,h4⟩:=open_deep hL n _ _ _ (hk.1 _ (Array.getElem_mem_toList ..)) h1
    refine ⟨(ds,m),fun f hff=>?_⟩
    rw [hfi] at hff
    cases hff
    exact ⟨h2,h3,_,hxi,h4⟩
   obtain ⟨l,hll,hp⟩:=pick_fn each
   have hmap:∀ {β:Type} (f:List D × Nat → β) (i:Nat) (b:β),(l.map f)[i]? = some b → ∃ q,l[i]? = some q ∧ f q = b:=fun f i b hi=>by
    rw [List.getElem?_map,Option.map_eq_some_iff] at hi
    exact hi
   refine ⟨(l.map (·.1)).flatten,(l.map (·.2)).sum + 1,?_,.st _ _ he (by simp [hll]) (by simp [hll]) fun i f ds m h1 h2 h3=>?_,?_⟩
   ·have hcut:=layout_cut fs.toList 0 _ hk.2 hcl
    rw [List.drop_zero] at hcut
    rw [hcut]
    refine atDs_flat (by simp [hll]) fun i c d h1 h2=>?_
    rw [List.getElem?_map,Option.map_eq_some_iff] at h1
    obtain ⟨f,hfi,rfl⟩:=h1
    obtain ⟨q,hq,rfl⟩:=hmap _ i d h2
    exact (hp i q hq f (by simpa using hfi)).1
   ·obtain ⟨q,hq,rfl⟩:=hmap _ i ds h2
    obtain ⟨q',hq',rfl⟩:=hmap _ i m h3
    rw [hq] at hq'
    cases hq'
    exact (hp i q hq f h1).2.1
   ·have:=bulk_sum (ms:=l.map (·.2)) (els:=xs.map (·.1)) (by simp [hll,hxl]) fun i m y hm hy=>by
     obtain ⟨q,hq,rfl⟩:=hmap _ i m hm
     have hlt:i < fs.size:=by rw [← hll];exact (List.getElem?_eq_some_iff.1 hq).1
     obtain ⟨y',hy',h4⟩:=(hp i q hq _ (Array.getElem?_eq_getElem hlt)).2.2
     rw [List.getElem?_map,hy'] at hy
     cases hy
     exact h4
    simp only [Rows.uptoBulk]
    omega
  ·cases hk
theorem open_arg {L:List Nat} (hL:dataOk P L = true) {t:Nat} {v:Value} {d:DataW H} {ps:List MemPlace} {rc:Reach} {b0:Nat} (ht:L.contains t = true) (hv:Value.okWide P w rc b0 t v) (h:DataW.Trod enc P w base spare held t v d ps) :
  ∃ r m,AtR (Low w) w v r ∧ DeepR P t r m ∧ m ≤ Rows.uptoBulk d:=by
 rw [List.contains_iff_mem] at ht
 obtain ⟨fuel,hf⟩:=h
 obtain ⟨ds,m,h1,h2,h3⟩:=open_deep hL fuel t _ _ ht hf
 have hk:=List.all_eq_true.1 hL t ht
 unfold dataOk1 at hk
 split at hk
 ·rename_i e
  obtain ⟨b,rfl⟩:=okWide_bool e hv
  obtain ⟨b',rfl,rfl⟩:=h2.unbool e
  obtain ⟨u,us',e2,h4,_⟩:=h1.uncons
  simp [Value.cells] at e2
  rw [← e2.1] at h4
  exact ⟨.one _,_,h4,by unfold DeepR;rw [e];exact h2,h3⟩
 ·rename_i k e
  obtain ⟨b,rfl⟩:=okWide_int e hv
  obtain ⟨b',rfl,_,rfl⟩:=h2.unint e
  obtain ⟨u,us',e2,h4,_⟩:=h1.uncons
  simp [Value.cells] at e2
  rw [← e2.1] at h4
  exact ⟨.one _,_,h4,by unfold DeepR;rw [e];exact h2,h3⟩
 ·rename_i e
  obtain ⟨b,rfl⟩:=okWide_string e hv
  obtain ⟨b',rfl,_,rfl⟩:=h2.unstr e
  obtain ⟨u,us',e2,h4,_⟩:=h1.uncons
  simp [Value.cells] at e2
  rw [← e2.1] at h4
  exact ⟨.one _,_,h4,by unfold DeepR;rw [e];exact h2,h3⟩
 ·rename_i el e
  obtain ⟨a,len,cap,rfl⟩:=okWide_slice e hv
  obtain ⟨rows,ms,rfl,_,_,rfl,_⟩:=h2.unsl e
  obtain ⟨u,us',e2,h4,_⟩:=h1.uncons
  simp [Value.cells] at e2
  rw [← e2.1] at h4
  exact ⟨.one _,_,h4,by unfold DeepR;rw [e];exact h2,h3⟩
 ·rename_i fs e
  obtain ⟨cs,rfl,_⟩:=okWide_struct e hv
  exact ⟨.ag ds,m,⟨cs.toList,by simp,h1⟩,by unfold DeepR;rw [e];exact h2,h3⟩
 ·cases hk
end
theorem law_true {f:Nat} {rs:List R} (h:Spec f rs [.one (.sc (.bool true))]) {w:World} {args:List Value} (hat:AtRs (Low w) w args rs) (hT:Tabs (fun _=>False) w:=by exact fun _ h=>nomatch h):Calls Tryz.prog f args.toArray w fun e w'=>e = .returned (.bool true) ∧ Below w.heap.size w w':=by
 refine (h.2 (Low w) w args ⟨fun _ _ h=>h,hT⟩ hat).mono ?_
 rintro e w' ⟨v,rfl,hv,hb⟩
 cases hv
 exact ⟨rfl,hb⟩
end
end Go.Proofs.YtahpnackkmbmgaaGreat.Vm
end
section
namespace Go.Proofs.YtahpnackkmbmgaaGreat.Vm
open Go.RowKit
set_option maxRecDepth 100000
theorem open_list {α:Type} (f:α → List D) (Q:α → Nat → Prop) (hQ:∀ x m n,m ≤ n → Q x m → Q x n) (hpos:∀ x m,Q x m → 1 ≤ m) {tl te:Nat} (hu:Tryz.prog.underlying tl = some (.slice te)) (h:∀ ds m,Deep Tryz.prog te ds m → ∃ x,ds = f x ∧ Q x m) {r:R} {m:Nat} (hd:DeepR Tryz.prog tl r m) :
  ∃ l:List α,r = .one (.sl (Tryz.prog.cellsOf te) (l.map f)) ∧ l.length ≤ m ∧ ∀ x ∈ l,Q x m:=by
 have hd:∃ x,r = .one x ∧ Deep Tryz.prog tl [x] m:=by
  unfold DeepR at hd
  rw [hu] at hd
  cases r with
  | one x=>exact ⟨x,rfl,hd⟩
  | ag xs=>exact hd.elim
 obtain ⟨x,rfl,hx⟩:=hd
 obtain ⟨rows,ks,e,hl,hb,rfl,hr⟩:=hx.unsl hu
 injection e with e _
 subst e
 have key:∀ (rows:List (List D)) (ks:List Nat),ks.length = rows.length → (∀ (i:Nat) (r:List D) (m:Nat),rows[i]? = some r → ks[i]? = some m → Deep Tryz.prog te r m) → ∃ l:List α,rows = l.map f ∧ l.length ≤ ks.sum ∧ ∀ x ∈ l,Q x ks.sum:=by
  intro rows
  induction rows with
  | nil=>intro ks hl _;exact ⟨[],rfl,Nat.zero_le _,by simp⟩
  | cons r rows ih =>
   intro ks hl hr
   match ks,hl with
   | k :: ks,hl =>
    obtain ⟨t,e1,e2⟩:=h r k (hr 0 r k rfl rfl)
    obtain ⟨l,f1,f2,f3⟩:=ih ks (by simpa using hl) fun i r' m' hi hm=>hr (i + 1) r' m' (by simpa using hi) (by simpa using hm)
    have hp:=hpos t k e2
    refine ⟨t :: l,by rw [e1,f1];rfl,by rw [List.length_cons,List.sum_cons];omega,fun x hx=>?_⟩
    rw [List.sum_cons]
    rcases List.mem_cons.1 hx with rfl | hx
    ·exact hQ _ _ _ (by omega) e2
    ·exact hQ _ _ _ (by omega) (f3 x hx)
 obtain ⟨l,h1,h2,h3⟩:=key rows ks hl hr
 rw [h1]
 exact ⟨l,rfl,by omega,fun x hx=>hQ _ _ _ (by omega) (h3 x hx)⟩
theorem cells_u8B:Tryz.prog.cellsOf 5 = 1:=by kernel_rfl
theorem open_bytesB {r:R} {m:Nat} (h:DeepR Tryz.prog 22 r m):∃ l:List UInt8,r = .one (.sl 1 (rU l)) ∧ l.length ≤ m:=by
 obtain ⟨l,h1,h2,_⟩:=open_list (fun c:UInt8=>[D.sc (.int .u8 (c.toNat:Int))]) (fun _ m=>1 ≤ m) (fun _ m n hmn h=>by omega) (fun _ m h=>h) Tryz.underlying22 (fun ds m hd=>by
  obtain ⟨n,e1,e2,e3⟩:=hd.unint Tryz.underlying5
  have hb:0 ≤ n ∧ n ≤ 255:=by
   simp [Lit.wf] at e2
   first | exact e2 | omega | (simp [IntKind.wrap,IntKind.bits] at e2;omega)
  refine ⟨UInt8.ofNat n.toNat,?_,by omega⟩
  have:((UInt8.ofNat n.toNat).toNat:Int) = n:=by rw [UInt8.toNat_ofNat'];omega
  rw [this]
  exact e1) h
 rw [cells_u8B] at h1
 exact ⟨l,h1,h2⟩
end Go.Proofs.YtahpnackkmbmgaaGreat.Vm
end
section
namespace Go.Proofs.YtahpnackkmbmgaaGreat.Vm
open Go.RowKit
set_option maxRecDepth 100000
set_option maxHeartbeats 4000000
theorem RTokensM_s (l:List UInt8) (hl:l.length ≤ 65536):Spec 24 [.one (.sl 1 (rU l))] [.one (.sl 4 (rTk (scanS (numsU l) 0 false []).1)),.one (.sc (.int .i64 (scanS (numsU l) 0 false []).2.1)),.one (.sc (.int .i64 (scanS (numsU l) 0 false []).2.2))] :=
 toks_spec l (by kernel_rfl) fun A cap w hcap hs=>RefTokens_any A l.length cap (numsU l) w (by unfold numsU;rw [List.length_map]) hcap (by omega) (byt_nums l) hs hl
theorem ModuleR_s (l:List UInt8) (hl:l.length ≤ 65536):MrN (rU l) (rDf (moduleW l).1) (moduleW l).2.1 (moduleW l).2.2:=by
 have hT:=RTokensM_s l hl
 have hok:=toks_ok (numsU l)
 have hat:=ats_ok (numsU l)
 have hln:(numsU l).length = l.length:=by unfold numsU;rw [List.length_map]
 unfold moduleW
 generalize scanS (numsU l) 0 false [] = r at *
 by_cases h0:r.2.2 = 0
 ·rw [if_neg (fun h=>h h0)]
  obtain ⟨hE,hN,hpos,hle⟩:=hok h0
  rw [h0] at hT
  exact mr_ok l hl hE (hln ▸ hat h0) hpos (by omega) hT
 ·rw [if_pos h0]
  exact mr_tok h0 hT
theorem rU_at {l:List UInt8} {k:Nat} (h:k < l.length):∃ c:Int,(rU l)[k]? = some [.sc (.int .u8 c)]:=⟨_,by unfold rU;rw [List.getElem?_map,List.getElem?_eq_getElem h];rfl⟩
theorem same1_s (l:List UInt8) (hl:l.length ≤ 1048576):Spec 13 [.one (.sl 1 (rU l)),.one (.sl 1 (rU l))] [.one (.sc (.bool true))]:=by
 obtain ⟨n,hn⟩:∃ n,n = l.length:=⟨_,rfl⟩
 have hln:=rU_len l
 have hat:∀ k,k < n → ∃ c:Int,(rU l)[k]? = some [.sc (.int .u8 c)]:=fun k hk=>rU_at (by omega)
 rw [← hn] at hl hln
 generalize rU l = U at *
 clear hn
 refine spec_of Tryz.func13 rfl (by kernel_rfl) (by kernel_rfl) (by kernel_rfl) fun qa qb qc qd qe qf qg qh qi qj qk ql qm qn qo qp qq qs qt qu qv qw qx qy qz va vc vd ve vf vg vh vj vk vl vm vn vo vp vq vr vt vu hA=>?_
 obtain ⟨e1,e2,e3,e4,e5,e6,e7,e8,e9⟩:=ar_at hA
 obtain ⟨r1,r2,r3,r4⟩:=row_at hA
 have q0:qj (qx U) (qx U) = true:=by rw [e9];exact decide_eq_true rfl
 iterate 2 (try cbv;repeat ((first | with_reducible apply next_at hA | rw [q0]);cbv))
 try simp (maxSteps:=4000000) only [nc] at *
 refine loop_at hA (γ:=Int) (fun x=>[(5,vi .i64 x)]) (fun x=>[]) (fun x=>∃ k:Nat,x = (k:Int) ∧ k ≤ n) (fun x=>n - x.toNat) 0 ?_ ?_ ?_
 ·exact ⟨0,rfl,Nat.zero_le _⟩
 ·cbv
 ·intro z hinv
  cbv
  repeat ((with_reducible apply next_at hA);cbv)
  try simp (maxSteps:=4000000) only [nc] at *
  obtain ⟨k,hz,hk⟩:=hinv
  replace hz:z = (k:Int):=hz
  have hlt:qh z (qx U) = decide (k < n):=by rw [e7,r1,hln,hz];exact decide_eq_decide.2 (by omega)
  by_cases h9:k < n
  ·rw [decide_eq_true h9] at hlt
   obtain ⟨c,hc⟩:=hat k h9
   have gx:qy U z = some [.sc (.int .u8 c)]:=by rw [r2,hz,if_pos (by omega),show ((k:Int)).toNat = k by omega,hc]
   have hz1:qa .i64 (qb z 1) = ((k + 1:Nat):Int):=by rw [e1,e2,hz,IntWalk.i64_in _ (by omega)];omega
   have hmu:n - (qa .i64 (qb z 1)).toNat < n - z.toNat:=by rw [hz1,hz];omega
   have q1:qj c c = true:=by rw [e9];exact decide_eq_true rfl
   rw [hlt]
   iterate 2 (try cbv;repeat ((first | with_reducible apply next_at hA | rw [gx] | rw [q1]);cbv))
   try simp (maxSteps:=4000000) only [nc] at *
   refine ⟨qa .i64 (qb z 1),⟨k + 1,hz1,h9⟩,hmu,?_⟩
   cbv
  ·rw [decide_eq_false h9] at hlt
   rw [hlt]
   iterate 2 (try cbv;repeat ((first | with_reducible apply next_at hA);cbv))
   try simp (maxSteps:=4000000) only [nc] at *
theorem modW_sz (l:List UInt8) (ts:List Tok):∀ (k i:Nat) (out:DefL),(∀ d ∈ out,d.2.length ≤ l.length) → (modW l ts k i out).1.length ≤ out.length + k ∧ ∀ d ∈ (modW l ts k i out).1,d.2.length ≤ l.length
 | 0,i,out,h=>⟨Nat.zero_le _,fun d hd=>by cases hd⟩
 | k + 1,i,out,h=>by
  have z:∀ (p c:Int),((([],p,c):DefL × Int × Int).1.length ≤ out.length + (k + 1) ∧ ∀ d ∈ (([],p,c):DefL × Int × Int).1,d.2.length ≤ l.length):=fun p c=>⟨Nat.zero_le _,fun d hd=>by cases hd⟩
  rw [modW]
  split
  ·exact ⟨by show out.length ≤ _;omega,h⟩
  split
  ·exact z _ _
  split
  ·exact z _ _
  split
  ·exact z _ _
  split
  ·exact z _ _
  ·have:=modW_sz l ts k (defEnd ts ts.length (i + 3)) (out ++ [((tkA ts (i + 1)).text,cutU l ((tkA ts (i + 2)).at_ + 1) (tkA ts (defEnd ts ts.length (i + 3))).at_)]) (fun d hd=>by
    rcases List.mem_append.1 hd with hd | hd
    ·exact h d hd
    ·cases List.mem_singleton.1 hd
     show (cutU l _ _).length ≤ _
     unfold cutU
     rw [List.length_take,List.length_drop]
     omega)
   rw [List.length_append,List.length_singleton] at this
   exact ⟨by omega,this.2⟩
theorem modW_cd (l:List UInt8) (ts:List Tok):∀ (k i:Nat) (out:DefL),0 ≤ (modW l ts k i out).2.2 ∧ (modW l ts k i out).2.2 ≤ 14
 | 0,i,out=>⟨show (0:Int) ≤ 0 by decide,show (0:Int) ≤ 14 by decide⟩
 | k + 1,i,out=>by
  rw [modW]
  split
  ·exact ⟨show (0:Int) ≤ 0 by decide,show (0:Int) ≤ 14 by decide⟩
  split
  ·exact ⟨show (0:Int) ≤ 5 by decide,show (5:Int) ≤ 14 by decide⟩
  split
  ·exact ⟨show (0:Int) ≤ 5 by decide,show (5:Int) ≤ 14 by decide⟩
  split
  ·exact ⟨show (0:Int) ≤ 14 by decide,show (14:Int) ≤ 14 by decide⟩
  split
  ·exact ⟨show (0:Int) ≤ 5 by decide,show (5:Int) ≤ 14 by decide⟩
  ·exact modW_cd l ts k _ _
def CdM (c:Int):Prop:=0 ≤ c ∧ c ≤ 7
theorem cdm (c:Int) (h:0 ≤ c ∧ c ≤ 7):CdM c:=h
theorem num_cm (l:List Int):CdM (numS l).2:=by
 unfold numS
 split
 ·exact cdm 4 (by decide)
 ·split
  ·exact cdm 7 (by decide)
  ·exact cdm 0 (by decide)
theorem run_cm (s:ByteArray) (a:Int):CdM (runS s a).2:=by
 unfold runS
 split
 ·exact num_cm _
 ·repeat' split
  all_goals first | exact cdm 0 (by decide) | exact cdm 4 (by decide) | exact cdm 7 (by decide)
theorem scan_cm (l:List Int):∀ (m a:Nat) (rem:Bool) (out:List Tok),l.length - a ≤ m → CdM (scanS l a rem out).2.2
 | m,a,rem,out,hm=>by
  have z:∀ c:Int,0 ≤ c → c ≤ 7 → CdM c:=fun c h h2=>⟨h,h2⟩
  rw [scan_eq]
  unfold body
  by_cases ha:a < l.length
  ·rw [if_pos ha]
   have go:∀ (a':Nat) (rem:Bool) (out':List Tok),a < a' → CdM (scanS l a' rem out').2.2:=fun a' rem' out' h1=>by
    match m,hm with
    | 0,hm=>omega
    | m + 1,hm=>exact scan_cm l m a' rem' out' (by omega)
   by_cases h0:nx l a = 0
   ·rw [if_pos h0];exact z 3 (by decide) (by decide)
   rw [if_neg h0]
   by_cases h1:rem = true
   ·rw [if_pos h1];exact go _ _ _ (by omega)
   rw [if_neg h1]
   by_cases h2:blankB (gb l a) = true
   ·rw [if_pos h2];exact go _ _ _ (by omega)
   rw [if_neg h2]
   by_cases h3:gb l a = 35
   ·rw [if_pos h3];exact go _ _ _ (by omega)
   rw [if_neg h3]
   by_cases h4:runsB (gb l a) = true
   ·rw [if_pos h4]
    by_cases h5:(runS (strOfNums (runAt l a)) a).2 = 0
    ·rw [if_pos h5]
     have:=run_pos ha h4
     exact go _ _ _ (by omega)
    ·rw [if_neg h5];exact run_cm _ _
   rw [if_neg h4]
   by_cases h6:signS (l.drop a) = 0
   ·rw [if_pos h6];exact z 4 (by decide) (by decide)
   rw [if_neg h6]
   exact go _ _ _ (by omega)
  ·rw [if_neg ha];exact z 0 (by decide) (by decide)
theorem moduleW_ok (l:List UInt8) (hl:l.length ≤ 65536):(0 ≤ (moduleW l).2.2 ∧ (moduleW l).2.2 ≤ 14) ∧ (moduleW l).1.length ≤ 65537 ∧ ∀ d ∈ (moduleW l).1,d.2.length ≤ 65536:=by
 have hs:=scan_cm (numsU l) _ 0 false [] (Nat.le_refl _)
 have hok:=toks_ok (numsU l)
 have hln:(numsU l).length = l.length:=by unfold numsU;rw [List.length_map]
 unfold moduleW
 generalize scanS (numsU l) 0 false [] = r at *
 by_cases h0:r.2.2 = 0
 ·rw [if_neg (fun h=>h h0)]
  obtain ⟨hE,hN,hpos,hle⟩:=hok h0
  obtain ⟨a1,a2⟩:=modW_sz l r.1 r.1.length 0 [] (fun d hd=>by cases hd)
  exact ⟨modW_cd _ _ _ _ _,by simp only [List.length_nil] at a1;omega,fun d hd=>by have:=a2 d hd;omega⟩
 ·rw [if_pos h0]
  exact ⟨⟨hs.1,by have:=hs.2;show r.2.2 ≤ 14;omega⟩,Nat.zero_le _,fun d hd=>by cases hd⟩
theorem PM_s (l:List UInt8):Spec 4 [.one (.sl 1 (rU l))] [.one (.sc (.bool true))]:=by
 have hal:=alive6_s
 have hln:=rU_len l
 by_cases h5:5000 < l.length
 ·generalize rU l = B at *
  refine spec_of Tryz.func4 rfl (by kernel_rfl) (by kernel_rfl) (by kernel_rfl) fun qa qb qc qd qe qf qg qh qi qj qk ql qm qn qo qp qq qs qt qu qv qw qx qy qz va vc vd ve vf vg vh vj vk vl vm vn vo vp vq vr vt vu hA=>?_
  obtain ⟨e1,e2,e3,e4,e5,e6,e7,e8,e9⟩:=ar_at hA
  obtain ⟨r1,r2,r3,r4⟩:=row_at hA
  have q:qh 5000 (qx B) = true:=by rw [e7,r1,hln];exact decide_eq_true (by omega)
  iterate 2 (try cbv;repeat ((first | with_reducible apply next_at hA | rw [q] | refine call_at hA _ hal rfl ?_ | refine calm_at hA _ hal ?_);cbv))
  try simp (maxSteps:=4000000) only [nc] at *
 ·have hM:=Module_s l (by omega)
  have hR:=ModuleR_s l (by omega)
  obtain ⟨hc,hn,hd⟩:=moduleW_ok l (by omega)
  generalize moduleW l = w at *
  obtain ⟨out,p,c⟩:=w
  replace hc:0 ≤ c ∧ c ≤ 14:=hc
  replace hd:∀ d ∈ out,d.2.length ≤ 65536:=hd
  obtain ⟨n,hnn⟩:∃ n,n = out.length:=⟨_,rfl⟩
  replace hn:n ≤ 65537:=by rw [hnn];exact hn
  have hX:=rDf_len out
  rw [← hnn] at hX
  have hgt:∀ k,k < n → ∃ (s:ByteArray) (U:List (List D)),(rDf out)[k]? = some [.sc (.string s),.sl 1 U] ∧ Spec 13 [.one (.sl 1 U),.one (.sl 1 U)] [.one (.sc (.bool true))]:=fun k hk=>by
   have hk2:k < out.length:=by omega
   have hg:=List.getElem?_eq_getElem hk2
   exact ⟨_,_,rDf_get hg,same1_s _ (by have:=hd _ (List.mem_of_getElem? hg);omega)⟩
  unfold MdN at hM
  unfold MrN at hR
  dsimp only at hM hR
  generalize rDf out = X at *
  generalize rU l = B at *
  clear hnn hd
  refine spec_of Tryz.func4 rfl (by kernel_rfl) (by kernel_rfl) (by kernel_rfl) fun qa qb qc qd qe qf qg qh qi qj qk ql qm qn qo qp qq qs qt qu qv qw qx qy qz va vc vd ve vf vg vh vj vk vl vm vn vo vp vq vr vt vu hA=>?_
  obtain ⟨e1,e2,e3,e4,e5,e6,e7,e8,e9⟩:=ar_at hA
  obtain ⟨r1,r2,r3,r4⟩:=row_at hA
  obtain ⟨s1,s2,s3,s4,s5,s6,s7⟩:=str_at hA
  have q:qh 5000 (qx B) = false:=by rw [e7,r1,hln];exact decide_eq_false (by omega)
  have q2:qj (qa .i64 c) c = true:=by rw [e9,e1,IntWalk.i64_in _ (by omega)];exact decide_eq_true rfl
  have q3:qj p p = true:=by rw [e9];exact decide_eq_true rfl
  have q4:qj (qx X) (qx X) = true:=by rw [e9];exact decide_eq_true rfl
  iterate 2 (try cbv;repeat ((first | with_reducible apply next_at hA | rw [q] | rw [q2] | rw [q3] | rw [q4] | refine call_at hA _ hal rfl ?_ | refine calm_at hA _ hal ?_ | refine call_at hA _ hM rfl ?_ | refine calm_at hA _ hM ?_ | refine call_at hA _ hR rfl ?_ | refine calm_at hA _ hR ?_);cbv))
  try simp (maxSteps:=4000000) only [nc] at *
  refine loop_at hA (γ:=Int) (fun x=>[(9,vi .i64 x),(15,.jk),(17,.jk),(21,.jk),(23,.jk)]) (fun x=>[]) (fun x=>∃ k:Nat,x = (k:Int) ∧ k ≤ n) (fun x=>n - x.toNat) 0 ?_ ?_ ?_
  ·exact ⟨0,rfl,Nat.zero_le _⟩
  ·cbv
  ·intro z hinv
   cbv
   repeat ((with_reducible apply next_at hA);cbv)
   try simp (maxSteps:=4000000) only [nc] at *
   obtain ⟨k,hz,hk⟩:=hinv
   replace hz:z = (k:Int):=hz
   have hlt:qh z (qx X) = decide (k < n):=by rw [e7,r1,hX,hz];exact decide_eq_decide.2 (by omega)
   by_cases h9:k < n
   ·rw [decide_eq_true h9] at hlt
    obtain ⟨s,U,hc9,hsm⟩:=hgt k h9
    have gx:qy X z = some [.sc (.string s),.sl 1 U]:=by rw [r2,hz,if_pos (by omega),show ((k:Int)).toNat = k by omega,hc9]
    have hz1:qa .i64 (qb z 1) = ((k + 1:Nat):Int):=by rw [e1,e2,hz,IntWalk.i64_in _ (by omega)];omega
    have hmu:n - (qa .i64 (qb z 1)).toNat < n - z.toNat:=by rw [hz1,hz];omega
    have q5:ql (qn s) (qn s) = true:=by rw [s1];exact beq_self_eq_true _
    rw [hlt]
    iterate 2 (try cbv;repeat ((first | with_reducible apply next_at hA | rw [gx] | rw [q5] | refine call_at hA _ hsm rfl ?_ | refine calm_at hA _ hsm ?_);cbv))
    try simp (maxSteps:=4000000) only [nc] at *
    refine ⟨qa .i64 (qb z 1),⟨k + 1,hz1,h9⟩,hmu,?_⟩
    cbv
   ·rw [decide_eq_false h9] at hlt
    rw [hlt]
    iterate 2 (try cbv;repeat ((first | with_reducible apply next_at hA);cbv))
    try simp (maxSteps:=4000000) only [nc] at *
theorem PM_up {r0:R} {m0:Nat} (d0:DeepR Tryz.prog 22 r0 m0):Spec 4 [r0] [.one (.sc (.bool true))]:=by
 obtain ⟨l,rfl,_⟩:=open_bytesB d0
 exact PM_s l
end Go.Proofs.YtahpnackkmbmgaaGreat.Vm
end
