/- The law ProseWords, over whatever comes in. -/
import Derived.Test.YtgedpbpfoaljhaaDoorVWords
import Derived.Test.YtgedpbpfoaljhaaDoorVScOpen
namespace Go.Proofs.YtgedpbpfoaljhaaDoor.Vm
open Go.RowKit
set_option maxRecDepth 100000
theorem cells_str : Tryd.prog.cellsOf 9 = 1 := by kernel_rfl
theorem open_strs {r : R} {m : Nat} (h : DeepR Tryd.prog 22 r m) : ∃ ss : List ByteArray, r = .one (.sl 1 (rS ss)) ∧ Lib.lens (ss.map btl) + ss.length ≤ m := by
  obtain ⟨x, rfl, h1⟩ := h.one (fun fs => by rw [Tryd.underlying22]; simp)
  obtain ⟨rows, ms, e, hl, _, rfl, hr⟩ := h1.unsl Tryd.underlying22
  cases e
  rw [cells_str]
  have key : ∀ (rows : List (List D)) (ms : List Nat), ms.length = rows.length → (∀ (i : Nat) (r : List D) (m : Nat), rows[i]? = some r → ms[i]? = some m → Deep Tryd.prog 9 r m) → ∃ ss : List ByteArray, rows = rS ss ∧ Lib.lens (ss.map btl) + ss.length ≤ ms.sum := by
    intro rows
    induction rows with
    | nil => intro ms _ _; exact ⟨[], rfl, by simp [Lib.lens]⟩
    | cons r rows ih =>
      intro ms hl hr
      match ms, hl with
      | m :: ms, hl =>
        obtain ⟨s, rfl, _, rfl⟩ := (hr 0 r m rfl rfl).unstr Tryd.underlying9
        obtain ⟨ss, rfl, h2⟩ := ih ms (by simpa using hl) fun i r' m' h1 h2 => hr (i + 1) r' m' (by simpa using h1) (by simpa using h2)
        refine ⟨s :: ss, rfl, ?_⟩
        simp only [Lib.lens, List.map_cons, List.sum_cons, List.length_cons, btl_size] at h2 ⊢
        omega
  obtain ⟨ss, rfl, h2⟩ := key rows ms hl hr
  exact ⟨ss, rfl, by omega⟩
theorem ProseWords_law {r0 r1 : R} {m0 m1 : Nat} (d0 : DeepR Tryd.prog 9 r0 m0) (d1 : DeepR Tryd.prog 22 r1 m1) (hm : m0 + m1 ≤ 1048576) : Spec 3 [r0, r1] [.one (.sc (.bool true))] := by
  obtain ⟨s, rfl, _, rfl⟩ := open_str Tryd.underlying9 d0
  obtain ⟨ss, rfl, h1⟩ := open_strs d1
  exact ProseWords_s s ss (by omega) (by omega) (by omega)
end Go.Proofs.YtgedpbpfoaljhaaDoor.Vm
