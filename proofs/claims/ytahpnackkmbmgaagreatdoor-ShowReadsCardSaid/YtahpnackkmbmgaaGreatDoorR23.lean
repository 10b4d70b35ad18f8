/- Part 23 of the proof: VZ7, VMark, VAl5, VOpenL, VAlk2, VShQ, VShR. Conditions: none. -/
import Derived.Test.YtahpnackkmbmgaaGreatDoorR3
import Derived.Test.YtahpnackkmbmgaaGreatDoorR7
import Derived.Test.YtahpnackkmbmgaaGreatDoorR17
import Derived.Test.YtahpnackkmbmgaaGreatDoorR21
import Derived.Test.YtahpnackkmbmgaaGreatDoorR22
set_option linter.all false
set_option linter.unusedVariables false
set_option linter.unusedSimpArgs false
section
namespace Go.Proofs.YtahpnackkmbmgaaGreatDoor.Vm
open Go.RowKit
set_option maxRecDepth 100000
set_option maxHeartbeats 4000000
theorem RTokens_s (l:List UInt8) (hl:l.length ≤ 65536):Spec 15 [.one (.sl 1 (rU l))] [.one (.sl 4 (rTk (scanS (numsU l) 0 false []).1)),.one (.sc (.int .i64 (scanS (numsU l) 0 false []).2.1)),.one (.sc (.int .i64 (scanS (numsU l) 0 false []).2.2))] :=
 toks_spec l (by kernel_rfl) fun A cap w hcap hs=>RefTokens_any A l.length cap (numsU l) w (by unfold numsU;rw [List.length_map]) hcap (by omega) (byt_nums l) hs hl
def parseT (ts:List Tok):Ty × Int × Int :=
 if (wholeW ts 200 (0,0)).2.2 ≠ 0 then (zeroTy,(tkA ts (wholeW ts 200 (0,0)).2.1).at_,(wholeW ts 200 (0,0)).2.2)
 else if (tkA ts (wholeW ts 200 (0,0)).2.1).kind ≠ 4 then (zeroTy,(tkA ts (wholeW ts 200 (0,0)).2.1).at_,5)
 else (canonS (wholeW ts 200 (0,0)).1,0,0)
def parseW (l:List UInt8):Ty × Int × Int :=
 if (scanS (numsU l) 0 false []).2.2 ≠ 0 then (zeroTy,(scanS (numsU l) 0 false []).2.1,(scanS (numsU l) 0 false []).2.2)
 else parseT (scanS (numsU l) 0 false []).1
abbrev PaN (f:Nat) (k:IntKind) (B:List (List D)) (x:List D) (p c:Int):Prop:=Spec f [.one (.sl 1 B)] [.ag x,.one (.sc (.int .i64 p)),.one (.sc (.int k c))]
theorem PaN.lf {f:Nat} {k:IntKind} {B:List (List D)} {p c:Int} (h:PaN f k B (lf0 0) p c):PaN f k B (cT zeroTy) p c:=by
 have h2:PaN f k B [.sc (.int .u8 0),.sc (.string noS),.sc (.int .i64 0),.sl 4 []] p c:=Spec.likeq h ⟨lf0_like 0,.same _,.same _,trivial⟩
 unfold PaN zeroTy
 rw [cT,rT]
 exact h2
theorem LvOk_1:LvOk 200 1:=.inr ⟨by omega,by omega,by omega⟩
theorem Parse_s (l:List UInt8) (hl:l.length ≤ 65536):PaN 12 .u8 (rU l) (cT (parseW l).1) (parseW l).2.1 (parseW l).2.2:=by
 have hT:=Tokens_s l hl
 have hok:=toks_ok (numsU l)
 have hln:(numsU l).length = l.length:=by unfold numsU;rw [List.length_map]
 unfold parseW
 generalize scanS (numsU l) 0 false [] = r at *
 by_cases h0:r.2.2 = 0
 ·rw [if_neg (fun h=>h h0)]
  obtain ⟨hE,hN,hpos,hle⟩:=hok h0
  rw [h0] at hT
  have hlt:r.1.length ≤ 65537:=by omega
  have hne:rTk r.1 ≠ []:=fun h=>by have:=congrArg List.length h;rw [rTk_len] at this;simp at this;rw [this] at hpos;simp at hpos
  have hNR:=NewReader_s (rTk r.1) hne (by rw [rTk_len];omega)
  unfold rdB at hNR
  have hR:=Read_s hE hN hlt 200 1 LvOk_1 0 hpos
  have hf:=(fit_whole hE 200 (0,0) hpos).1
  unfold readW at hR
  unfold parseT
  generalize wholeW r.1 200 (0,0) = u at *
  by_cases hu:u.2.2 = 0
  ·rw [if_neg (fun h=>h hu)] at hR ⊢
   have hp:=Peek_s r.1 _ u.2.1 (tkA_is hf.hi) (by omega)
   unfold rdB tkD at hp
   by_cases hk:(tkA r.1 u.2.1).kind = 4
   ·rw [if_neg (fun h=>h hk)]
    rw [hk] at hp
    exact parse_ok hT hNR hR hp
   ·rw [if_pos hk]
    exact PaN.lf (parse_more hk hT hNR hR hp)
  ·rw [if_pos hu] at hR ⊢
   exact PaN.lf (parse_err hu hT hNR hR)
 ·rw [if_pos h0]
  exact PaN.lf (parse_tok h0 hT)
section
theorem mark_heap {w:World} {b T m:Nat} {cur:Array Value} (h:w.heap[b]? = some (.cells cur T (0,0))):(w.freeze ⟨b,m,none⟩ 1).heap[b]? = some (.cells cur T (m,m + 1)):=by
 unfold World.freeze
 rw [if_neg (by decide)]
 simp only [Array.getElem?_modify,if_true,h]
 simp
theorem mark_other {w:World} {b m c:Nat} (hc:c ≠ b):(w.freeze ⟨b,m,none⟩ 1).heap[c]? = w.heap[c]?:=by
 unfold World.freeze
 rw [if_neg (by decide)]
 simp only [Array.getElem?_modify]
 rw [if_neg (Ne.symm hc)]
theorem mark_rest (w:World) (b m:Nat):(w.freeze ⟨b,m,none⟩ 1).os = w.os ∧ (w.freeze ⟨b,m,none⟩ 1).tape = w.tape ∧ (w.freeze ⟨b,m,none⟩ 1).output = w.output ∧ (w.freeze ⟨b,m,none⟩ 1).heap.size = w.heap.size:=by
 unfold World.freeze
 rw [if_neg (by decide)]
 exact ⟨rfl,rfl,rfl,by simp⟩
theorem mark_real {t:Nat} {x:Operand} {d:Option Nat} {s:S} {K:S → Prop} {k e:Nat} {z:Bool} {rows:List (List D)} (ht:tyKnown t = true) (hby:isByte t = true) (he:(ty t).elem = some e) (hx:s.get x = .own k) (hk:getO s.o k = .row z e rows) (hne:rows ≠ [])
  (hK:K (S.put ⟨s.t,setO s.o k .dead⟩ d (.d (.sl (ty e).sz rows)))):real.ext (.convert t t x) d s K:=by
 rintro I0 X w0 a w o Q ho hdst hop ⟨I,g,h⟩
 obtain ⟨I2,h2,hI⟩:=h.freeze k
 have hf:frz1 s.o k = setO s.o k (.row true e rows):=by unfold frz1;rw [hk]
 rw [hf] at h2
 have hk0:=getO_some hk (by simp)
 have hlt:k < s.o.length:=(List.getElem?_eq_some_iff.1 hk0).1
 have hk2:(setO s.o k (.row true e rows))[k]? = some (.row true e rows):=by rw [setO_is,List.getElem?_set_self hlt]
 have hv:AtV I2 w g (a.eval x) (.own k):=by have:=h.get x;rw [hx] at this;exact this.mono hI (Keeps.refl _ _)
 have hk3:getO (setO s.o k (.row true e rows)) k = .row true e rows:=by
  have:∀ (l:List O) (k:Nat) (o:O),l[k]? = some o → getO l k = o:=by
   intro l
   induction l with
   | nil=>intro k o h;simp at h
   | cons y l ih=>intro k o h;cases k with | zero=>simp at h;exact h | succ k=>exact ih k o (by simpa using h)
  exact this _ _ _ hk2
 have hat:AtD I2 w (a.eval x) (.sl (ty e).sz rows):=toD_at h2 hv (by show (match getO (setO s.o k (.row true e rows)) k with | .row true e rows=>some (D.sl (ty e).sz rows) | _=>none) = _;rw [hk3])
 obtain ⟨us,hown,hrl,hdr,hbk⟩:=h2.obj k _ hk2
 have hgv:a.eval x = g k:=hv.unown.1.trans (own_gv hown)
 rcases hown.2 with ⟨_,hz⟩ | ⟨b,cap,cur,e0,_,hb,hnc,hcm,hcs,htake⟩
 ·exact absurd (List.eq_nil_of_length_eq_zero hz) hne
 obtain ⟨e',he',hke,hkk⟩:=isByte_at hby
 rw [he] at he'
 obtain rfl:e = e':=Option.some.inj he'
 have hrun:(convert t t (a.eval x)).run Tryz.prog w = .ok (a.eval x) (w.freeze ⟨b,cur.size,none⟩ 1):=by
  have hsh:w.shape? b = some (e,cur.size):=by simp [World.shape?,hb]
  rw [hgv,e0]
  simp [convert,run_underlying (ty_slice ht he),run_underlying (ty_int hke hkk),markStringish,hsh,Result.andThen]
 obtain ⟨f1,f2,f3,f4⟩:=mark_rest w b cur.size
 have hgb:gbl (g k) b:=by rw [e0];rfl
 have hcell:∀ i,(w.freeze ⟨b,cur.size,none⟩ 1).cell? ⟨b,i,none⟩ = w.cell? ⟨b,i,none⟩:=fun i=>by
  rw [cell_get hb]
  unfold World.cell?
  rw [mark_heap hb]
  simp
 have h3:=h2.deadTo (k:=k) (o:=.row true e rows) hk2 (by simp) (w':=w.freeze ⟨b,cur.size,none⟩ 1) hgb f1 f2 f3 f4 (fun c hc=>mark_other hc) hcell
 have hkp:Keeps I2 w (w.freeze ⟨b,cur.size,none⟩ 1):=fun b' n hb' i hi=>by
  by_cases eb:b' = b
  ·subst eb;exact hcell i
  ·exact blk_cell (mark_other eb) i
 have hso:(setO s.o k (.row true e rows)).set k .dead = setO s.o k .dead:=by rw [setO_is,setO_is,List.set_set]
 rw [hso] at h3
 unfold Oper.wp
 have hex:(execOp a.eval o).run Tryz.prog w = .ok (.value (a.eval x)) (w.freeze ⟨b,cur.size,none⟩ 1):=by
  unfold execOp
  rw [ho]
  simp only [Sem.run_bind,hrun,Result.andThen_ok,Sem.run_pure]
 rw [hex,Oper.upon_value,hdst]
 exact ⟨_,⟨I2,g,h3.put (.d (hat.mono (fun _ _ h=>h) hkp)) _⟩,hK⟩
section
variable {qa:IntKind → Int → Int} {qb:Int → Int → Int} {qc:Int → Int → Int} {qd:Int → Int → Int} {qe:Int → Int → Int} {qg:Int → Int → Int} {qh:BinOp → IntKind → Int → IntKind → Int → Option Int} {qi:Int → Int → Bool} {qj:Int → Int → Bool} {qk:Int → Int → Bool} {ql:Int → Prop → Prop} {qm:List UInt8 → List UInt8 → Bool} {qn:List UInt8 → List UInt8 → Bool} {qo:ByteArray → List UInt8} {qp:ByteArray → ByteArray → ByteArray} {qq:ByteArray → ByteArray → Prop → Prop} {qt:ByteArray → Int} {qu:ByteArray → Int → Option Int} {qv:ByteArray → Int → Int → Option ByteArray} {qw:List (List D) → Option ByteArray} {qx:ByteArray → List (List D)} {qy:Int → Nat → Option Nat} {qz:List (List D) → Int} {va:List (List D) → Int → Option (List D)} {vc:List (List D) → Int → Int → Option (List (List D))} {vd:List (List D) → List (List D) → List (List D)} {ve:List (List D) → Int → List D → List (List D)} {vf:List (List D) → List (List D) → Prop → Prop} {vg:List (R × R) → R → Option R} {vh:List (R × R) → R → R → List (R × R)} {vj:List D → List D → Bool} {vk:Int → List D → (List (List D) → Prop) → Prop} {vl:Nat → List R → (List R → Prop) → Prop} {vm:Nat → List V → List O → (V → Prop) → Prop} {vn:Nat → List V → S → (V → S → Prop) → Prop} {vo:Nat → List V → List Nat → S → (V → S → Prop) → Prop} {vp:Nat → (Bool → Prop) → Prop} {vq:Nat → (Bool → Prop) → Prop} {vr:Nat → (List V → List O → Prop) → List V → S → Prop} {vt:(S → Prop) → S → Prop} {vu:Op → Option Nat → S → (S → Prop) → Prop} {vv:Array Oper → S → (S → Prop) → Prop} {vw:Code → (S → (X → S → Prop) → Prop) → S → (X → S → Prop) → Prop}
theorem mark_at (hA:Ar.mk qa qb qc qd qe qg qh qi qj qk ql qm qn qo qp qq qt qu qv qw qx qy qz va vc vd ve vf vg vh vj vk vl vm vn vo vp vq vr vt vu vv vw = real) {t:Nat} {x:Operand} {d:Option Nat} {s:S} {K:S → Prop} (k e:Nat) {z:Bool} {rows:List (List D)} (ht:tyKnown t = true) (hby:isByte t = true) (he:(ty t).elem = some e) (hx:s.get x = .own k) (hk:getO s.o k = .row z e rows) (hne:rows ≠ [])
  (hK:K (S.put ⟨s.t,setO s.o k .dead⟩ d (.d (.sl (ty e).sz rows)))):vu (.convert t t x) d s K:=ext_at hA (mark_real ht hby he hx hk hne hK)
end
end
def zA5:ByteArray:=⟨#[97]⟩
def zB5:ByteArray:=⟨#[98]⟩
def zE5:ByteArray:=⟨#[]⟩
def ty5:Ty:=.mk 5 zE5 0 [.mk 11 zA5 0 [.mk 4 zE5 0 [.mk 3 zE5 0 [],.mk 2 zE5 0 []],.mk 11 zB5 0 [.mk 1 zE5 0 [],.mk 9 zE5 0 []]]]
def l5:List UInt8:=[123,32,98,58,73,110,116,44,32,97,32,58,32,63,45,62,66,111,111,108,32,124,32,63,32,125]
def b5:List (List D):=[[.sc (.int .u8 123)],[.sc (.int .u8 32)],[.sc (.int .u8 98)],[.sc (.int .u8 58)],[.sc (.int .u8 73)],[.sc (.int .u8 110)],[.sc (.int .u8 116)],[.sc (.int .u8 44)],[.sc (.int .u8 32)],[.sc (.int .u8 97)],[.sc (.int .u8 32)],[.sc (.int .u8 58)],[.sc (.int .u8 32)],[.sc (.int .u8 63)],[.sc (.int .u8 45)],[.sc (.int .u8 62)],[.sc (.int .u8 66)],[.sc (.int .u8 111)],[.sc (.int .u8 111)],[.sc (.int .u8 108)],[.sc (.int .u8 32)],[.sc (.int .u8 124)],[.sc (.int .u8 32)],[.sc (.int .u8 63)],[.sc (.int .u8 32)],[.sc (.int .u8 125)]]
def d5:List D:=[.sc (.int .u8 5),.sc (.string ⟨⟨[]⟩⟩),.sc (.int .i64 0),.sl 4 [[.sc (.int .u8 11),.sc (.string ⟨⟨[97]⟩⟩),.sc (.int .i64 0),.sl 4 [[.sc (.int .u8 4),.sc (.string ⟨⟨[]⟩⟩),.sc (.int .i64 0),.sl 4 [[.sc (.int .u8 3),.sc (.string ⟨⟨[]⟩⟩),.sc (.int .i64 0),.sl 4 []],[.sc (.int .u8 2),.sc (.string ⟨⟨[]⟩⟩),.sc (.int .i64 0),.sl 4 []]]],[.sc (.int .u8 11),.sc (.string ⟨⟨[98]⟩⟩),.sc (.int .i64 0),.sl 4 [[.sc (.int .u8 1),.sc (.string ⟨⟨[]⟩⟩),.sc (.int .i64 0),.sl 4 []],[.sc (.int .u8 9),.sc (.string ⟨⟨[]⟩⟩),.sc (.int .i64 0),.sl 4 []]]]]]]]
theorem d5_is:cT ty5 = d5:=by kernel_rfl
theorem b4_is:rU l5 = b5:=by kernel_rfl
theorem p4_is:parseW l5 = (ty5,0,0):=by kernel_rfl
theorem parse_lit5:Spec 12 [.one (.sl 1 b5)] [.ag d5,.one (.sc (.int .i64 0)),.one (.sc (.int .u8 0))]:=by
 have h:=Parse_s l5 (by decide)
 rw [p4_is,b4_is] at h
 rw [← d5_is]
 exact h
theorem sm5_at (t:Ty) (h1:Nat.ble t.parts.length 1048576 = true) (h2:(t.parts.all fun x=>Nat.ble x.name.size 1048576) = true):Sm t :=
 ⟨Nat.le_of_ble_eq_true h1,fun x hx=>Nat.le_of_ble_eq_true (List.all_eq_true.1 h2 x hx)⟩
theorem wf5_at (t:Ty) (h:(t.parts.all fun x=>Nat.ble x.name.size 1048576 && ((Lit.int .u8 x.op).wf && (Lit.int .i64 x.n).wf)) = true):TyWf t:=fun x hx=>by
 have h1:=List.all_eq_true.1 h x hx
 rw [Bool.and_eq_true,Bool.and_eq_true] at h1
 exact ⟨Nat.le_trans (Nat.le_of_ble_eq_true h1.1) (by decide),h1.2.1,h1.2.2⟩
theorem txt5:txtB (canonS ty5) = ⟨#[123,97,58,63,45,62,66,111,111,108,44,98,58,73,110,116,124,63,125]⟩:=by kernel_rfl
theorem print5:Spec 9 [.ag d5] [.one (.sc (.string ⟨#[123,97,58,63,45,62,66,111,111,108,44,98,58,73,110,116,124,63,125]⟩)),.one (.sc (.int .u8 0))]:=by
 have h1:=Print_s ty5 (sm5_at _ (by kernel_rfl) (by kernel_rfl)) (wf5_at _ (by kernel_rfl)) (by kernel_rfl)
 rw [txt5,d5_is] at h1
 exact h1
theorem alive5_s:Spec 7 [] [.one (.sc (.bool true))]:=by
 have h1:=parse_lit5
 have h2:=print5
 unfold b5 d5 at h1
 unfold d5 at h2
 refine spec_of Tryz.func7 rfl (by kernel_rfl) (by kernel_rfl) (by kernel_rfl) fun qa qb qc qd qe qg qh qi qj qk ql qm qn qo qp qq qt qu qv qw qx qy qz va vc vd ve vf vg vh vj vk vl vm vn vo vp vq vr vt vu vv vw hA=>?_
 obtain ⟨e1,e2,e3,e4,e5,e6,e7,e8,e9⟩:=ar_at hA
 obtain ⟨s1,s2,s3,s4,s5,s6,s7⟩:=str_at hA
 cbv
 repeat ((with_reducible apply next_at hA);cbv)
 refine lit_at hA false ?_
 cbv
 refine new_at hA true ?_
 cbv
 refine mark_at hA 0 5 (by kernel_rfl) (by kernel_rfl) rfl rfl rfl (by simp) ?_
 cbv
 have q1:qk (qa .i64 (qb (qa .i64 0) (qa .i64 0))) 0 = true:=by rw [e9,e1,e1,e2];rfl
 obtain ⟨S,hS⟩:∃ S,S = (⟨#[123,97,58,63,45,62,66,111,111,108,44,98,58,73,110,116,124,63,125]⟩:ByteArray):=⟨_,rfl⟩
 rw [← hS] at h2
 have q2:qm (qo S) (qo ⟨#[123,97,58,63,45,62,66,111,111,108,44,98,58,73,110,116,124,63,125]⟩) = true:=by rw [s1,hS];exact beq_self_eq_true _
 iterate 2 (try cbv;repeat ((first | with_reducible apply next_at hA | rw [q1] | rw [q2] | refine call_at hA _ h1 rfl ?_ | refine calm_at hA _ h1 ?_ | refine call_at hA _ h2 rfl ?_ | refine calm_at hA _ h2 ?_);cbv))
 try simp (maxSteps:=4000000) only [nc] at *
end Go.Proofs.YtahpnackkmbmgaaGreatDoor.Vm
end
section
namespace Go.Proofs.YtahpnackkmbmgaaGreatDoor.Vm
open Go.RowKit
set_option maxRecDepth 100000
theorem open_list {α:Type} (f:α → List D) (Q:α → Nat → Prop) (hQ:∀ x m n,m ≤ n → Q x m → Q x n) (hpos:∀ x m,Q x m → 1 ≤ m) {tl te:Nat} (hu:Tryz.prog.underlying tl = some (.slice te)) (h:∀ ds m,Deep Tryz.prog te ds m → ∃ x,ds = f x ∧ Q x m) {r:R} {m:Nat} (hd:DeepR Tryz.prog tl r m) :
  ∃ l:List α,r = .one (.sl (Tryz.prog.cellsOf te) (l.map f)) ∧ l.length ≤ m ∧ ∀ x ∈ l,Q x m:=by
 have hd:∃ x,r = .one x ∧ Deep Tryz.prog tl [x] m:=by
  unfold DeepR at hd
  rw [hu] at hd
  cases r with
  | one x=>exact ⟨x,rfl,hd⟩
  | ag xs=>exact hd.elim
 obtain ⟨x,rfl,hx⟩:=hd
 obtain ⟨rows,ks,e,hl,hb,rfl,hr⟩:=hx.unsl hu
 injection e with e _
 subst e
 have key:∀ (rows:List (List D)) (ks:List Nat),ks.length = rows.length → (∀ (i:Nat) (r:List D) (m:Nat),rows[i]? = some r → ks[i]? = some m → Deep Tryz.prog te r m) → ∃ l:List α,rows = l.map f ∧ l.length ≤ ks.sum ∧ ∀ x ∈ l,Q x ks.sum:=by
  intro rows
  induction rows with
  | nil=>intro ks hl _;exact ⟨[],rfl,Nat.zero_le _,by simp⟩
  | cons r rows ih =>
   intro ks hl hr
   match ks,hl with
   | k :: ks,hl =>
    obtain ⟨t,e1,e2⟩:=h r k (hr 0 r k rfl rfl)
    obtain ⟨l,f1,f2,f3⟩:=ih ks (by simpa using hl) fun i r' m' hi hm=>hr (i + 1) r' m' (by simpa using hi) (by simpa using hm)
    have hp:=hpos t k e2
    refine ⟨t :: l,by rw [e1,f1];rfl,by rw [List.length_cons,List.sum_cons];omega,fun x hx=>?_⟩
    rw [List.sum_cons]
    rcases List.mem_cons.1 hx with rfl | hx
    ·exact hQ _ _ _ (by omega) e2
    ·exact hQ _ _ _ (by omega) (f3 x hx)
 obtain ⟨l,h1,h2,h3⟩:=key rows ks hl hr
 rw [h1]
 exact ⟨l,rfl,by omega,fun x hx=>hQ _ _ _ (by omega) (h3 x hx)⟩
end Go.Proofs.YtahpnackkmbmgaaGreatDoor.Vm
end
section
namespace Go.Proofs.YtahpnackkmbmgaaGreatDoor.Vm
open Go.RowKit
set_option maxRecDepth 100000
set_option maxHeartbeats 4000000
theorem AlikeZ_s:∀ t u:Ty,t.parts.length ≤ 1048576 → Spec 14 [.ag (cT t),.ag (cT u)] [.one (.sc (.bool (alikeB t u)))]:=by
 intro t
 induction t using Ty.ind with
 | h t ih =>
  intro u hN
  have hkl:=kids_le t
  obtain ⟨op,nm,n,ks⟩:=t
  obtain ⟨op2,nm2,n2,ks2⟩:=u
  simp only [Ty.kids] at hkl ih
  have hm:ks.length ≤ 1048576:=by omega
  rw [cT,cT]
  generalize hb:alikeB (.mk op nm n ks) (.mk op2 nm2 n2 ks2) = b
  obtain ⟨K,hK⟩:∃ K,K = rT ks:=⟨_,rfl⟩
  obtain ⟨K2,hK2⟩:∃ K,K = rT ks2:=⟨_,rfl⟩
  rw [← hK,← hK2]
  refine spec_of Tryz.func14 rfl (by kernel_rfl) (by kernel_rfl) (by kernel_rfl) fun qa qb qc qd qe qg qh qi qj qk ql qm qn qo qp qq qt qu qv qw qx qy qz va vc vd ve vf vg vh vj vk vl vm vn vo vp vq vr vt vu vv vw hA=>?_
  cbv
  repeat ((with_reducible apply next_at hA);cbv)
  obtain ⟨e1,e2,e3,e4,e5,e6,e7,e8,e9⟩:=ar_at hA
  obtain ⟨s1,s2,s3,-⟩:=str_at hA
  obtain ⟨r1,r2,-⟩:=row_at hA
  rw [alikeB] at hb
  cases h1:qk op op2
  ·cbv
   repeat ((with_reducible apply next_at hA);cbv)
   rw [e9] at h1
   rw [← hb,h1]
   exact ⟨rfl,trivial⟩
  cbv
  cases h2:qm (qo nm) (qo nm2)
  ·cbv
   repeat ((with_reducible apply next_at hA);cbv)
   rw [s1,s3,s3] at h2
   rw [← hb,h2]
   simp
  cbv
  cases h3:qk n n2
  ·cbv
   repeat ((with_reducible apply next_at hA);cbv)
   rw [e9] at h3
   rw [← hb,h3]
   simp
  cbv
  cases h4:qk (qz K) (qz K2)
  ·cbv
   repeat ((with_reducible apply next_at hA);cbv)
   have h5:ks.length ≠ ks2.length:=by
    rw [e9,r1,r1,hK,hK2,rT_len,rT_len] at h4
    intro h
    rw [h] at h4
    simp at h4
   rw [← hb,alikes_len2 h5]
   simp
  cbv
  repeat ((with_reducible apply next_at hA);cbv)
  have h5:ks.length = ks2.length:=by
   rw [e9,r1,r1,hK,hK2,rT_len,rT_len] at h4
   rw [beq_iff_eq] at h4
   exact Int.ofNat.inj h4
  refine loop_at hA (γ:=Int) (fun z=>[(5,vi .i64 z)]) (fun _=>[]) (fun z=>∃ k:Nat,z = (k:Int) ∧ k ≤ ks.length ∧ alikesB (ks.drop k) (ks2.drop k) = b) (fun z=>ks.length - z.toNat) 0 ?_ ?_ ?_
  ·exact ⟨0,rfl,Nat.zero_le _,by rw [← hb,(by rw [← e9];exact h1:(op == op2) = true),(by rw [← s1,← s3,← s3];exact h2:(nm.toList == nm2.toList) = true),(by rw [← e9];exact h3:(n == n2) = true)];rfl⟩
  ·cbv
  ·intro z hinv
   cbv
   repeat ((with_reducible apply next_at hA);cbv)
   obtain ⟨k,hz,hk,hE⟩:=hinv
   have hz:z = (k:Int):=hz
   have hlen:qz K = (ks.length:Int):=by rw [r1,hK,rT_len]
   have hlt:qi z (qz K) = decide (k < ks.length):=by rw [e7,hlen,hz];exact decide_eq_decide.2 (by omega)
   by_cases h9:k < ks.length
   ·rw [decide_eq_true h9] at hlt
    obtain ⟨x,hx⟩:∃ x,ks[k]? = some x:=⟨_,List.getElem?_eq_getElem h9⟩
    obtain ⟨y,hy⟩:∃ y,ks2[k]? = some y:=⟨_,List.getElem?_eq_getElem (by omega)⟩
    have g1:va K z = some (cT x):=by rw [r2,hz,if_pos (by omega),hK];exact rT_get hx
    have g2:va K2 z = some (cT y):=by rw [r2,hz,if_pos (by omega),hK2];exact rT_get hy
    have hsp:=ih x (List.mem_of_getElem? hx) y (by have:=hkl.2 x (List.mem_of_getElem? hx);omega)
    have hst:=alikes_step2 hx hy
    obtain ⟨o1,m1,n1,l1⟩:=x
    obtain ⟨o2,m2,n2',l2⟩:=y
    rw [cT] at g1 g2 hsp
    rw [cT] at hsp
    generalize rT l1 = L1 at *
    generalize rT l2 = L2 at *
    generalize alikeB (.mk o1 m1 n1 l1) (.mk o2 m2 n2' l2) = c at *
    rw [hlt]
    cbv
    repeat ((with_reducible apply next_at hA);cbv)
    rw [g1]
    cbv
    rw [g2]
    cbv
    refine calm_at hA _ hsp ?_
    cases c
    ·cbv
     repeat ((with_reducible apply next_at hA);cbv)
     rw [← hE,hst]
     exact ⟨rfl,trivial⟩
    ·cbv
     repeat ((with_reducible apply next_at hA);cbv)
     replace hz:z = (k:Int):=hz
     have hz1:qa .i64 (qb z 1) = ((k + 1:Nat):Int):=by rw [e1,e2,hz,IntWalk.i64_in _ (by omega)];omega
     refine ⟨qa .i64 (qb z 1),⟨k + 1,hz1,h9,by rw [← hE,hst];rfl⟩,by rw [hz1,hz];omega,?_⟩
     cbv
   ·rw [decide_eq_false h9] at hlt
    rw [hlt]
    cbv
    repeat ((with_reducible apply next_at hA);cbv)
    rw [← hE,List.drop_eq_nil_of_le (by omega),List.drop_eq_nil_of_le (by omega),alikesB]
    exact ⟨rfl,trivial⟩
theorem alike_self (t:Ty):alikeB t t = true:=by
 induction t using Ty.ind with
 | h t ih =>
  obtain ⟨op,nm,n,ks⟩:=t
  simp only [Ty.kids] at ih
  have hk:∀ l:List Ty,(∀ x ∈ l,alikeB x x = true) → alikesB l l = true:=by
   intro l
   induction l with
   | nil=>intro _;rfl
   | cons x l ihl =>
    intro h
    rw [alikesB,h x (List.mem_cons_self ..),ihl fun y hy=>h y (List.mem_cons_of_mem _ hy)]
    rfl
  rw [alikeB,hk ks ih,beq_self_eq_true,beq_self_eq_true,beq_self_eq_true]
  rfl
theorem cells_u8:Tryz.prog.cellsOf 5 = 1:=by kernel_rfl
theorem open_bytes {r:R} {m:Nat} (h:DeepR Tryz.prog 32 r m):∃ l:List UInt8,r = .one (.sl 1 (rU l)) ∧ l.length ≤ m:=by
 obtain ⟨l,h1,h2,_⟩:=open_list (fun c:UInt8=>[D.sc (.int .u8 (c.toNat:Int))]) (fun _ m=>1 ≤ m) (fun _ m n hmn h=>by omega) (fun _ m h=>h) Tryz.underlying32 (fun ds m hd=>by
  obtain ⟨n,e1,e2,e3⟩:=hd.unint Tryz.underlying5
  have hb:0 ≤ n ∧ n ≤ 255:=by
   simp [Lit.wf] at e2
   first | exact e2 | omega | (simp [IntKind.wrap,IntKind.bits] at e2;omega)
  refine ⟨UInt8.ofNat n.toNat,?_,by omega⟩
  have:((UInt8.ofNat n.toNat).toNat:Int) = n:=by rw [UInt8.toNat_ofNat'];omega
  rw [this]
  exact e1) h
 rw [cells_u8] at h1
 exact ⟨l,h1,h2⟩
section
theorem LvOk_of (L:Int) (h0:0 ≤ L):LvOk (201 - L).toNat L:=by
 unfold LvOk
 omega
abbrev NilN (L:Int):Prop:=Spec 17 [.one (.sc (.pointer none)),.one (.sc (.int .i64 L))] [.ag (lf0 0),.one (.sc (.int .i64 0)),.one (.sc (.int .u8 2))]
theorem ReadNil_s (L:Int):NilN L:=by
 unfold NilN lf0
 refine spec_of Tryz.func17 rfl (by kernel_rfl) (by kernel_rfl) (by kernel_rfl) fun qa qb qc qd qe qg qh qi qj qk ql qm qn qo qp qq qt qu qv qw qx qy qz va vc vd ve vf vg vh vj vk vl vm vn vo vp vq vr vt vu vv vw hA=>?_
 iterate 2 (try cbv;repeat ((first | with_reducible apply next_at hA);cbv))
 try simp (maxSteps:=4000000) only [nc] at *
abbrev SrN (B:List (List D)) (L:Int):Prop:=Spec 5 [.one (.sl 1 B),.one (.sc (.int .i64 L))] [.one (.sc (.bool true))]
abbrev AlN:Prop:=Spec 7 [] [.one (.sc (.bool true))]
abbrev TkN (B T:List (List D)) (p c:Int):Prop:=Spec 15 [.one (.sl 1 B)] [.one (.sl 4 T),.one (.sc (.int .i64 p)),.one (.sc (.int .i64 c))]
theorem sr_long {B:List (List D)} {L:Int} (hal:AlN) (h:2000 < B.length ∨ L < 0):SrN B L:=by
 refine spec_of Tryz.func5 rfl (by kernel_rfl) (by kernel_rfl) (by kernel_rfl) fun qa qb qc qd qe qg qh qi qj qk ql qm qn qo qp qq qt qu qv qw qx qy qz va vc vd ve vf vg vh vj vk vl vm vn vo vp vq vr vt vu vv vw hA=>?_
 obtain ⟨e1,e2,e3,e4,e5,e6,e7,e8,e9⟩:=ar_at hA
 obtain ⟨r1,r2,r3,r4⟩:=row_at hA
 by_cases h1:2000 < B.length
 ·have q:qi 2000 (qz B) = true:=by rw [e7,r1];exact decide_eq_true (by omega)
  iterate 2 (try cbv;repeat ((first | with_reducible apply next_at hA | rw [q] | refine call_at hA _ hal rfl ?_ | refine calm_at hA _ hal ?_);cbv))
  try simp (maxSteps:=4000000) only [nc] at *
 ·have q:qi 2000 (qz B) = false:=by rw [e7,r1];exact decide_eq_false (by omega)
  have q2:qi L 0 = true:=by rw [e7];exact decide_eq_true (by omega)
  iterate 2 (try cbv;repeat ((first | with_reducible apply next_at hA | rw [q] | rw [q2] | refine call_at hA _ hal rfl ?_ | refine calm_at hA _ hal ?_);cbv))
  try simp (maxSteps:=4000000) only [nc] at *
theorem sr_bad {B T:List (List D)} {L p c:Int} (hal:AlN) (h1:B.length ≤ 2000) (h2:0 ≤ L) (hc:c ≠ 0) (hT:TkN B T p c):SrN B L:=by
 refine spec_of Tryz.func5 rfl (by kernel_rfl) (by kernel_rfl) (by kernel_rfl) fun qa qb qc qd qe qg qh qi qj qk ql qm qn qo qp qq qt qu qv qw qx qy qz va vc vd ve vf vg vh vj vk vl vm vn vo vp vq vr vt vu vv vw hA=>?_
 obtain ⟨e1,e2,e3,e4,e5,e6,e7,e8,e9⟩:=ar_at hA
 obtain ⟨r1,r2,r3,r4⟩:=row_at hA
 have q:qi 2000 (qz B) = false:=by rw [e7,r1];exact decide_eq_false (by omega)
 have q2:qi L 0 = false:=by rw [e7];exact decide_eq_false (by omega)
 have q3:qk c 0 = false:=by rw [e9];exact decide_eq_false hc
 iterate 2 (try cbv;repeat ((first | with_reducible apply next_at hA | rw [q] | rw [q2] | rw [q3] | refine call_at hA _ hal rfl ?_ | refine calm_at hA _ hal ?_ | refine call_at hA _ hT rfl ?_ | refine calm_at hA _ hT ?_);cbv))
 try simp (maxSteps:=4000000) only [nc] at *
theorem dsEq_tok (k n a:Int) (s:ByteArray):dsEq [.sc (.int .u8 k),.sc (.string s),.sc (.int .i64 n),.sc (.int .i64 a)] [.sc (.int .u8 k),.sc (.string s),.sc (.int .i64 n),.sc (.int .i64 a)] = true:=by
 simp [dsEq,dEq,intEq_is,bytesEq_is]
section
variable {B T:List (List D)} {L p0 a e k n0 q0:Int} {s0:ByteArray} {z0 z1 z2 z3:D}
theorem sr_err (hal:AlN) (h1:B.length ≤ 2000) (h2:0 ≤ L) (hT:TkN B T p0 0) (hN:SpecO 16 [.d (.sl 4 T)] [] (fun res os=>res = [.ptr 0 0] ∧ os = [.box [.d (.sl 4 T),.d (.sc (.int .i64 0))]]))
  (hR:RdN T L [.d (.sc (.int .u8 0)),.d (.sc (.string noS)),.d (.sc (.int .i64 0)),.d (.sl 4 [])] 0 q0 e a) (he:e ≠ 0) (hbd:0 ≤ e ∧ e ≤ 255) (hZ:RdZ 18 T 0 L [z0,z1,z2,z3] a e)
  (hp:SpecS 19 [.ptr 0 0] [.box [.d (.sl 4 T),.d (.sc (.int .i64 a))]] (fun res os=>res = [.ag [.d (.sc (.int .u8 k)),.d (.sc (.string s0)),.d (.sc (.int .i64 n0)),.d (.sc (.int .i64 q0))]] ∧ os = [.box [.d (.sl 4 T),.d (.sc (.int .i64 a))]]))
  (hg:T[a.toNat]? = some [.sc (.int .u8 k),.sc (.string s0),.sc (.int .i64 n0),.sc (.int .i64 q0)]) (ha:0 ≤ a) (hlt:a < T.length) (hlen:T.length ≤ 1048576) (hn:NilN L)
  (hk0:Spec 14 [.ag (lf0 0),.ag (lf0 0)] [.one (.sc (.bool true))]) (hk1:Spec 14 [.ag [.sc (.int .u8 0),.sc (.string noS),.sc (.int .i64 0),.sl 4 []],.ag (lf0 0)] [.one (.sc (.bool true))]):SrN B L:=by
 have hd:=dsEq_tok k n0 q0 s0
 unfold lf0 at hk0 hk1
 unfold NilN lf0 at hn
 refine spec_of Tryz.func5 rfl (by kernel_rfl) (by kernel_rfl) (by kernel_rfl) fun qa qb qc qd qe qg qh qi qj qk ql qm qn qo qp qq qt qu qv qw qx qy qz va vc vd ve vf vg vh vj vk vl vm vn vo vp vq vr vt vu vv vw hA=>?_
 obtain ⟨e1,e2,e3,e4,e5,e6,e7,e8,e9⟩:=ar_at hA
 obtain ⟨r1,r2,r3,r4⟩:=row_at hA
 have hde:=deq_at hA
 have w1:qi 2000 (qz B) = false:=by rw [e7,r1];exact decide_eq_false (by omega)
 have w2:qi L 0 = false:=by rw [e7];exact decide_eq_false (by omega)
 have w3:qk 0 0 = true:=by rw [e9];rfl
 have w4:qa .i64 (qc (qz T) 1) = (T.length:Int) - 1:=by rw [e1,e3,r1,IntWalk.i64_in _ (by omega)]
 have w5:va T a = some [.sc (.int .u8 k),.sc (.string s0),.sc (.int .i64 n0),.sc (.int .i64 q0)]:=by rw [r2,if_pos (by omega)];exact hg
 have w6:vj [.sc (.int .u8 k),.sc (.string s0),.sc (.int .i64 n0),.sc (.int .i64 q0)] [.sc (.int .u8 k),.sc (.string s0),.sc (.int .i64 n0),.sc (.int .i64 q0)] = true:=by rw [hde,hd]
 have w7:qk (qa .i64 2) 2 = true:=by rw [e9,e1];rfl
 have w8:qk e 0 = false:=by rw [e9];exact decide_eq_false he
 have w9:qk (qa .i64 e) e = true:=by rw [e9,e1,IntWalk.i64_in _ (by omega)];exact decide_eq_true rfl
 have wa:qk q0 q0 = true:=by rw [e9];exact decide_eq_true rfl
 obtain ⟨m,hm⟩:∃ m,m = (T.length:Int) - 1:=⟨_,rfl⟩
 rw [← hm] at w4
 have wb:qi m a = false:=by rw [e7,hm];exact decide_eq_false (by omega)
 have wd:qj a m = true:=by rw [e8,hm];exact decide_eq_true (by omega)
 clear hd hde hg hm
 iterate 2 (try cbv;repeat ((first | with_reducible apply next_at hA | rw [w1] | rw [w2] | rw [w3] | rw [w4] | rw [w5] | rw [w6] | rw [w7] | rw [w8] | rw [w9] | rw [wa] | rw [wb] | rw [wd] | refine call_at hA _ hal rfl ?_ | refine calm_at hA _ hal ?_ | refine call_at hA _ hT rfl ?_ | refine calm_at hA _ hT ?_ | refine call_at hA _ hZ rfl ?_ | refine calm_at hA _ hZ ?_ | refine call_at hA _ hn rfl ?_ | refine calm_at hA _ hn ?_ | refine call_at hA _ hk0 rfl ?_ | refine calm_at hA _ hk0 ?_ | refine call_at hA _ hk1 rfl ?_ | refine calm_at hA _ hk1 ?_ | (refine callo_at hA [] hN ⟨rfl,rfl,rfl,rfl,rfl,rfl,rfl⟩ ?_;rintro _ _ ⟨rfl,rfl⟩) | (refine callo_at hA [0] hR ⟨rfl,rfl,rfl,rfl,rfl,rfl,rfl⟩ ?_;rintro _ _ ⟨rfl,rfl⟩) | refine rdq_at hA [0] hp ⟨rfl,rfl,rfl,rfl,rfl,rfl,rfl⟩ rfl ?_);cbv))
 try simp (maxSteps:=4000000) only [nc] at *
theorem sr_ok {d0 d1 d2 d3:D} (hal:AlN) (h1:B.length ≤ 2000) (h2:0 ≤ L) (hT:TkN B T p0 0) (hN:SpecO 16 [.d (.sl 4 T)] [] (fun res os=>res = [.ptr 0 0] ∧ os = [.box [.d (.sl 4 T),.d (.sc (.int .i64 0))]]))
  (hR:RdN T L [.d d0,.d d1,.d d2,.d d3] 0 0 0 a) (hZ:RdZ 18 T 0 L [z0,z1,z2,z3] a 0)
  (hp:SpecS 19 [.ptr 0 0] [.box [.d (.sl 4 T),.d (.sc (.int .i64 a))]] (fun res os=>res = [.ag [.d (.sc (.int .u8 k)),.d (.sc (.string s0)),.d (.sc (.int .i64 n0)),.d (.sc (.int .i64 q0))]] ∧ os = [.box [.d (.sl 4 T),.d (.sc (.int .i64 a))]]))
  (hg:T[a.toNat]? = some [.sc (.int .u8 k),.sc (.string s0),.sc (.int .i64 n0),.sc (.int .i64 q0)]) (ha:0 ≤ a) (hlt:a < T.length) (hlen:T.length ≤ 1048576) (hn:NilN L)
  (hk0:Spec 14 [.ag (lf0 0),.ag (lf0 0)] [.one (.sc (.bool true))]) (hC:Spec 20 [.ag [z0,z1,z2,z3]] [.ag [d0,d1,d2,d3]]) (hk1:Spec 14 [.ag [d0,d1,d2,d3],.ag [d0,d1,d2,d3]] [.one (.sc (.bool true))]):SrN B L:=by
 have hd:=dsEq_tok k n0 q0 s0
 unfold lf0 at hk0
 unfold NilN lf0 at hn
 refine spec_of Tryz.func5 rfl (by kernel_rfl) (by kernel_rfl) (by kernel_rfl) fun qa qb qc qd qe qg qh qi qj qk ql qm qn qo qp qq qt qu qv qw qx qy qz va vc vd ve vf vg vh vj vk vl vm vn vo vp vq vr vt vu vv vw hA=>?_
 obtain ⟨e1,e2,e3,e4,e5,e6,e7,e8,e9⟩:=ar_at hA
 obtain ⟨r1,r2,r3,r4⟩:=row_at hA
 have hde:=deq_at hA
 have w1:qi 2000 (qz B) = false:=by rw [e7,r1];exact decide_eq_false (by omega)
 have w2:qi L 0 = false:=by rw [e7];exact decide_eq_false (by omega)
 have w3:qk 0 0 = true:=by rw [e9];rfl
 have w4:qa .i64 (qc (qz T) 1) = (T.length:Int) - 1:=by rw [e1,e3,r1,IntWalk.i64_in _ (by omega)]
 have w5:va T a = some [.sc (.int .u8 k),.sc (.string s0),.sc (.int .i64 n0),.sc (.int .i64 q0)]:=by rw [r2,if_pos (by omega)];exact hg
 have w6:vj [.sc (.int .u8 k),.sc (.string s0),.sc (.int .i64 n0),.sc (.int .i64 q0)] [.sc (.int .u8 k),.sc (.string s0),.sc (.int .i64 n0),.sc (.int .i64 q0)] = true:=by rw [hde,hd]
 have w7:qk (qa .i64 2) 2 = true:=by rw [e9,e1];rfl
 have w9:qk (qa .i64 0) 0 = true:=by rw [e9,e1];rfl
 obtain ⟨m,hm⟩:∃ m,m = (T.length:Int) - 1:=⟨_,rfl⟩
 rw [← hm] at w4
 have wb:qi m a = false:=by rw [e7,hm];exact decide_eq_false (by omega)
 clear hd hde hg hm
 iterate 2 (try cbv;repeat ((first | with_reducible apply next_at hA | rw [w1] | rw [w2] | rw [w3] | rw [w4] | rw [w5] | rw [w6] | rw [w7] | rw [w9] | rw [wb] | refine call_at hA _ hal rfl ?_ | refine calm_at hA _ hal ?_ | refine call_at hA _ hT rfl ?_ | refine calm_at hA _ hT ?_ | refine call_at hA _ hZ rfl ?_ | refine calm_at hA _ hZ ?_ | refine call_at hA _ hn rfl ?_ | refine calm_at hA _ hn ?_ | refine call_at hA _ hk0 rfl ?_ | refine calm_at hA _ hk0 ?_ | refine call_at hA _ hC rfl ?_ | refine calm_at hA _ hC ?_ | refine call_at hA _ hk1 rfl ?_ | refine calm_at hA _ hk1 ?_ | (refine callo_at hA [] hN ⟨rfl,rfl,rfl,rfl,rfl,rfl,rfl⟩ ?_;rintro _ _ ⟨rfl,rfl⟩) | (refine callo_at hA [0] hR ⟨rfl,rfl,rfl,rfl,rfl,rfl,rfl⟩ ?_;rintro _ _ ⟨rfl,rfl⟩) | refine rdq_at hA [0] hp ⟨rfl,rfl,rfl,rfl,rfl,rfl,rfl⟩ rfl ?_);cbv))
 try simp (maxSteps:=4000000) only [nc] at *
end
theorem SR_s (l:List UInt8) (L:Int):SrN (rU l) L:=by
 have hal:=alive5_s
 have hln:=rU_len l
 by_cases hL:2000 < l.length ∨ L < 0
 ·exact sr_long hal (by rw [hln];exact hL)
 have h2:0 ≤ L:=by omega
 have h1:(rU l).length ≤ 2000:=by omega
 have hT:=RTokens_s l (by omega)
 have hok:=toks_ok (numsU l)
 have hnl:(numsU l).length = l.length:=by unfold numsU;rw [List.length_map]
 generalize scanS (numsU l) 0 false [] = r at *
 by_cases h0:r.2.2 = 0
 ·obtain ⟨hE,hN,hpos,hle⟩:=hok h0
  rw [h0] at hT
  have hlt:r.1.length ≤ 65537:=by omega
  have hne:rTk r.1 ≠ []:=fun h=>by have:=congrArg List.length h;rw [rTk_len] at this;simp at this;rw [this] at hpos;simp at hpos
  have hlen:(rTk r.1).length ≤ 1048576:=by rw [rTk_len];omega
  have hNR:=NewReader_s (rTk r.1) hne hlen
  unfold rdB at hNR
  have hv:=LvOk_of L h2
  have hR:=Read_s hE hN hlt _ L hv 0 hpos
  obtain ⟨g,hg1,hg2⟩:=read_z hE hlt _ L hv 0 hpos
  have hf:=(fit_whole hE (201 - L).toNat (0,0) hpos).1
  have hcd:=cd_whole r.1 (201 - L).toNat (0,0) (.inl rfl)
  unfold readW at hR
  generalize wholeW r.1 (201 - L).toNat (0,0) = u at *
  have hp:=Peek_s r.1 _ u.2.1 (tkA_is hf.hi) (by omega)
  have hgt:=rTk_get (tkA_is hf.hi)
  unfold rdB tkD at hp
  unfold tkD at hgt
  have hl2:(u.2.1:Int) < (rTk r.1).length:=by rw [rTk_len];have:=hf.hi;omega
  have hgt2:(rTk r.1)[((u.2.1:Nat):Int).toNat]? = some [.sc (.int .u8 (tkA r.1 u.2.1).kind),.sc (.string (tkA r.1 u.2.1).text),.sc (.int .i64 (tkA r.1 u.2.1).n),.sc (.int .i64 (tkA r.1 u.2.1).at_)]:=hgt
  have hk0:Spec 14 [.ag (lf0 0),.ag (lf0 0)] [.one (.sc (.bool true))]:=by
   have h:=AlikeZ_s zeroTy zeroTy (by rw [zero_parts];decide)
   rw [alike_self] at h
   unfold zeroTy at h
   rw [cT,rT] at h
   exact h.like ⟨lf0_like 0,lf0_like 0,trivial⟩
  by_cases hu:u.2.2 = 0
  ·rw [if_neg (fun h=>h hu)] at hR
   rw [hu] at hg1
   rw [hg2 hu] at hg1
   have hC:=canon_s _ u.1 (Nat.le_refl _) (by have:=hf.sz;have:=hf.hi;omega) hf.sp
   have hk1:=AlikeZ_s (canonS u.1) (canonS u.1) (by rw [canon_len _ u.1 (Nat.le_refl _) hf.sp];have:=hf.sz;have:=hf.hi;omega)
   rw [alike_self] at hk1
   obtain ⟨x0,x1,x2,x3,hx⟩:=cT_four u.1
   obtain ⟨y0,y1,y2,y3,hy⟩:=cT_four (canonS u.1)
   rw [hy] at hR hC hk1
   rw [hx] at hg1 hC
   exact sr_ok hal h1 h2 hT hNR hR hg1 hp hgt2 (by omega) hl2 hlen (ReadNil_s L) hk0 hC hk1
  ·rw [if_pos hu] at hR
   have hb:0 ≤ u.2.2 ∧ u.2.2 ≤ 255:=by unfold CdOk at hcd;omega
   have hk1:Spec 14 [.ag [.sc (.int .u8 0),.sc (.string noS),.sc (.int .i64 0),.sl 4 []],.ag (lf0 0)] [.one (.sc (.bool true))]:=by
    have h:=AlikeZ_s zeroTy zeroTy (by rw [zero_parts];decide)
    rw [alike_self] at h
    unfold zeroTy at h
    rw [cT,rT] at h
    exact h.like ⟨.same _,lf0_like 0,trivial⟩
   obtain ⟨x0,x1,x2,x3,hx⟩:=cT_four g
   rw [hx] at hg1
   rw [zero_c] at hR
   exact sr_err hal h1 h2 hT hNR hR hu hb hg1 hp hgt2 (by omega) hl2 hlen (ReadNil_s L) hk0 hk1
 ·exact sr_bad hal h1 h2 h0 hT
theorem SR_up {r0 r1:R} {m0 m1:Nat} (d0:DeepR Tryz.prog 32 r0 m0) (d1:DeepR Tryz.prog 3 r1 m1):Spec 5 [r0,r1] [.one (.sc (.bool true))]:=by
 obtain ⟨l,rfl,_⟩:=open_bytes d0
 obtain ⟨n,rfl,_⟩:=open_int Tryz.underlying3 d1
 exact SR_s l n
end
end Go.Proofs.YtahpnackkmbmgaaGreatDoor.Vm
end
