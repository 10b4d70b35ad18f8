import Derived.RangeFuncNested
import Derived.RangeFuncBound
import Derived.RangeFuncCalls
import Derived.RangeFuncLeaves
import Derived.RangeFuncFrom
import Derived.Shelf.Abstract
import Derived.WalkKit
import Derived.OwnWalkIn
import Derived.TacticsInMore
import Derived.LoopNIn
import Derived.LoopIn
import Derived.Test.YtclehkgnacekkaaVConc
set_option linter.unusedVariables false
set_option linter.unusedSimpArgs false
namespace Go.Proofs.Ytclehkgnacekkaa.Vm
open Go.RowKit Go.Shelf Go.Proofs
attribute [local go_sem] Oper.semAt_some
theorem cell_new_l (W : World) (v : Value) (t : TypeId) : (W.alloc (.cells #[v] t)).cell? ⟨W.heap.size, 0, none⟩ = some v := by
  have h := World.alloc_heap_new W (.cells #[v] t)
  show (match (W.alloc (.cells #[v] t)).heap[W.heap.size]? with | some (.cells c _ _) => c[0]? | _ => none) = some v
  rw [h]; rfl
theorem cell_alloc_l {W : World} {a : Addr} {v : Value} (o : Obj) (h : W.cell? a = some v) : (W.alloc o).cell? a = some v := cell_kept h (World.grownBy_alloc W o none) (fun r e => by cases e)
set_option maxRecDepth 100000 in
set_option maxHeartbeats 2000000 in
theorem back1_nil (A : Option Addr) (cap : Nat) (F : Fence) (n : Nat) (hf : F.fn 143) (hro : F.round = none) (l Bs : Nat) (J : World → Prop) (W : World) (hBs : W.cell? ⟨Bs, 0, none⟩ = some (.slice A 0 cap)) (h0 : J W) :
    CallsIn F n Try.prog 143 #[.func (.yield l) #[] #[], .pointer (some ⟨Bs, 0, none⟩)] W fun e W' => (∃ v, e = .returned v) ∧ J W' := by
  refine callsIn_of_wp Try.func143 rfl hf ?_ hro
  simp only [Try.ntmps143, List.size_toArray, List.length_cons, List.length_nil, Nat.reduceAdd, Nat.reduceSub, Array.replicate_succ, Array.replicate_zero, List.push_toArray, List.append_toArray, List.nil_append, List.cons_append]
  gi_wp2
  gi_loopw [3] (fun i wr => i = .int .i64 (-1) ∧ J wr) (fun _ _ => 0)
  case atStart => exact ⟨rfl, h0⟩
  case round =>
    obtain ⟨rfl, hJs⟩ := hrel
    gi_wp2
    go_end0
    exact ⟨⟨_, rfl⟩, hJs⟩
set_option maxRecDepth 100000 in
set_option maxHeartbeats 1000000 in
theorem back_nil (A : Option Addr) (cap : Nat) (F : Fence) (n : Nat) (h : F.fn 122) (hro : F.round = none) (w : World) :
    CallsIn F n Try.prog 122 #[.slice A 0 cap] w fun e w' => e = .returned (.func (.func 143) #[] #[.pointer (some ⟨w.heap.size, 0, none⟩)]) ∧ w' = w.alloc (.cells #[.slice A 0 cap] 64) := by
  refine callsIn_of_wp Try.func122 rfl h ?_ hro
  simp only [Try.ntmps122, List.size_toArray, List.length_cons, List.length_nil, Nat.reduceAdd, Nat.reduceSub, Array.replicate_succ, Array.replicate_zero, List.push_toArray, List.append_toArray, List.nil_append, List.cons_append]
  gi_wp2
  go_ret
  exact ⟨rfl, rfl⟩
theorem back_stops (A : Option Addr) (cap : Nat) (F : Fence) (n : Nat) (hf : F.fn 143) (hro : F.round = none) (Bs : Nat) (w : World) (hb : Bs < w.heap.size) (n₀ : Nat) (hBs : w.cell? ⟨Bs, 0, none⟩ = some (.slice A 0 cap)) :
    SeqStopsK F n Try.prog 143 #[.pointer (some ⟨Bs, 0, none⟩)] (fun x : Empty => x.elim) (Below n₀) (fun ys => ys = []) (fun _ => False) 0 w := fun l J Jx W hW _ _ hY h0 => by
  have hc' := (hW.cell (p := ⟨Bs, 0, none⟩) hb).trans hBs
  exact (back1_nil A cap F n hf hro l Bs (J []) W hc' h0).mono fun e W' ⟨he, hj⟩ => ⟨he, .inl ⟨_, rfl, hj⟩⟩
set_option maxRecDepth 100000 in
set_option maxHeartbeats 2000000 in
theorem join_nil_in (A : Option Addr) (cap : Nat) (F : Fence) (n : Nat) (h1 : F.fn 122) (h2 : F.fn 143) (h3 : F.fn 88) (hro : F.round = none) (hn : 3 ≤ n) (p : Option Addr) (k : IntKind) (t : Int) (w : World) :
    CallsIn F n Try.prog 88 #[.pointer p, .slice A 0 cap, .int k t] w fun e w' => e = .returned (.int k t) ∧ Below w.heap.size w w' := by
  have hn1 : 1 ≤ n := by omega
  refine callsIn_of_wp_marks Try.func88 rfl h3 ?_ hro
  simp only [Try.ntmps88, List.size_toArray, List.length_cons, List.length_nil, Nat.reduceAdd, Nat.reduceSub, Array.replicate_succ, Array.replicate_zero, List.push_toArray, List.append_toArray, List.nil_append, List.cons_append]
  gi_wp2_with (gi_at_call 122; refine (back_nil A cap F (n - 1) h1 hro _).mono ?_; rintro e w' ⟨rfl, rfl⟩)
  have hb := cell_new_l ((w.alloc (Obj.cells #[Value.pointer p] 44)).alloc (Obj.cells #[Value.int k t] 46)) (.slice A 0 cap) 64
  have ht := cell_new_l (w.alloc (Obj.cells #[Value.pointer p] 44)) (.int k t) 46
  simp only [World.size_alloc] at hb ht
  have hbw : Below w.heap.size w (((w.alloc (Obj.cells #[Value.pointer p] 44)).alloc (Obj.cells #[Value.int k t] 46)).alloc (Obj.cells #[Value.slice A 0 cap] 64)) := (((Below.refl _ w).alloc (Nat.le_refl _) _).alloc (by simp) _).alloc (by simp; omega) _
  refine wpIn_rangeFunc_ownF (α := Empty) hro hn1 (gf := 143) (lb := #[.pointer (some ⟨w.heap.size + 1 + 1, 0, none⟩)]) rfl h2 (enters_of Try.func143 (by kernel_rfl) rfl)
    (back_stops A cap F (n - 1) h2 hro (w.heap.size + 1 + 1) _ (by simp) w.heap.size hb) belowK_t (belowK_b (by simp; omega)) (Below.refl _ _) (fun x => x.elim)
    (fun _ W => W.cell? ⟨w.heap.size + 1, 0, none⟩ = some (.int k t) ∧ Below w.heap.size w W) (fun _ _ _ => False)
    (OwnFrom.and (Own.from (fun s _ _ row hs hg hr => cell_kept hs hg hr) _) (ownFrom_below (Nat.le_refl _) (by simp; omega)))
    (fun _ _ _ _ _ hs _ _ => hs)
    ⟨cell_alloc_l _ ht, hbw⟩
    (fun x => x.elim) ?assign ?body ?done ?stop
  case assign => exact fun _ x => x.elim
  case body => exact fun _ _ x => x.elim
  case stop => exact fun D c pre W _ h => h.elim
  case done =>
    rintro D ys W hD rfl ⟨hc, hB⟩ hK
    gi_wp2
    refine ⟨by simp, .inl ⟨_, _, rfl, run_takeDeferred hK, ?_⟩⟩
    refine ⟨_, results_tmp rfl _ _ _, rfl, ?_⟩
    exact hB.trans (belowK_b (w := w) (Nat.le_refl _) W D _ _ (by simp at hD; omega) hK rfl rfl)
theorem join_nil (A : Option Addr) (cap : Nat) (p : Option Addr) (k : IntKind) (t : Int) (w : World) :
    Calls Try.prog 88 #[.pointer p, .slice A 0 cap, .int k t] w fun e w' => e = .returned (.int k t) ∧ Below w.heap.size w w' :=
  callsIn_wide.1 (join_nil_in A cap Fence.wide 3 trivial trivial trivial rfl (Nat.le_refl _) p k t w)
def joinF : List V → List O → Option (V × List O × List Nat)
  | [.ptr _ _, .em, .d (.sc (.int k t))], o => some (.d (.sc (.int k t)), o, [])
  | [.ptr _ _, .d (.sl _ []), .d (.sc (.int k t))], o => some (.d (.sc (.int k t)), o, [])
  | _, _ => none
theorem join_own (vs : List V) (o : List O) (r : V × List O × List Nat) (h : joinF vs o = some r) : SoundO 88 vs o fun x o' ks => (x, o', ks) = r := by
  have key : ∀ (j off : Nat) (x : V) (k : IntKind) (t : Int), (∀ I w g u, AtV I w g u x → ∃ A cap, u = .slice A 0 cap) → SoundO 88 [.ptr j off, x, .d (.sc (.int k t))] o fun x o' ks => (x, o', ks) = (.d (.sc (.int k t)), o, []) := by
    intro j off x k t hx
    refine ⟨by kernel_rfl, ?_⟩
    intro I0 X w0 I g t' a w us hrel hv
    obtain ⟨hl, hv⟩ := hv
    match us, hl with
    | [u1, u2, u3], _ =>
      have h1 := hv 0 u1 _ rfl rfl
      have h2 := hv 1 u2 _ rfl rfl
      have h3 := hv 2 u3 _ rfl rfl
      obtain ⟨A, cap, rfl⟩ := hx _ _ _ _ h2
      cases h1 with
      | ptr _ _ b hg =>
        cases h3 with
        | d h3 =>
          cases h3 with
          | sc _ =>
            refine (join_nil A cap _ _ _ w).mono ?_
            rintro e w' ⟨rfl, hbel⟩
            exact ⟨_, _, o, [], _, g, rfl, hrel.grow hbel (I' := nxt I w w') (fun _ _ h => .inl h) (fun _ _ h => h), .d (.sc _ rfl), rfl⟩
  unfold joinF at h
  split at h
  · cases h
    exact key _ _ _ _ _ fun I w g u hu => by cases hu with | em => exact ⟨_, _, rfl⟩
  · cases h
    exact key _ _ _ _ _ fun I w g u hu => by
      cases hu with
      | d hu => obtain ⟨A, cap, rfl, _⟩ := hu.slice; exact ⟨A, cap, rfl⟩
  · cases h
end Go.Proofs.Ytclehkgnacekkaa.Vm
