/- Contracts of package typecaselaw10: Fault. -/
import Derived.Test.YtbkgdepblaibkaaDoorTok
import Derived.Test.YtbkgdepblaibkaaDoorErrt
import Derived.Test.YtbkgdepblaibkaaDoorQuiet
import Derived.Test.YtbkgdepblaibkaaDoorRow
import Derived.RegionTactic
namespace Go.Proofs.YtbkgdepblaibkaaDoor
open Go.RowKit
set_option linter.unusedVariables false
set_option linter.unusedSimpArgs false

theorem fault_nil (w : World) : Calls Tryd.prog 21 #[.nilIface] w fun e w' => e = .returned (.agg #[.int .i64 0, .int .i64 0, .int .i64 0]) ∧ Nx w w' := by
  go_enter Tryd.func21, Tryd.ntmps21
  go_wp2
  refine bodyPost_ret (v := .agg #[.int .i64 0, .int .i64 0, .int .i64 0]) (by simp [results, Tryd.results21, go_sem]) rfl ⟨rfl, ?_⟩
  repeat (with_reducible first | exact Nx.refl _ | refine Nx.setCell ?_ (Nat.le_refl _) _ | refine Nx.alloc ?_ _)

set_option maxHeartbeats 2000000 in
theorem fault_hit (g o : Nat) (l c : Int) (k : Nat) (w : World) (hE : ErrT w) (h0 : w.cell? ⟨g, o, none⟩ = some (.int .i64 l)) (h1 : w.cell? ⟨g, o + 1, none⟩ = some (.int .i64 c)) (h2 : w.cell? ⟨g, o + 2, none⟩ = some (.iface 83 (.int .i64 k))) (hk : 1 ≤ k) (hk' : k ≤ 16) :
    Calls Tryd.prog 21 #[.iface 77 (.pointer (some ⟨g, o, none⟩))] w fun e w' => e = .returned (.agg #[.int .i64 l, .int .i64 c, .int .i64 k]) ∧ Nx w w' := by
  have HE := Lib.hid (((hE.nx ((Nx.refl w).alloc (.cells #[.int .i64 0, .int .i64 0, .int .i64 0] 30))).nx ((Nx.refl _).alloc (.cells #[.pointer none] 77))))
  have hg := block_lt h0
  have H0 := Lib.hid (And.intro h0 (And.intro h1 h2))
  clear h0 h1 h2 hE
  go_enter Tryd.func21, Tryd.ntmps21
  go_wp2_with fail
  refine (as_fault ⟨g, o, none⟩ ⟨w.heap.size + 1, 0, none⟩ (.pointer none) _ HE.out (by simp) (by simp)).mono ?_
  rintro e w1 ⟨rfl, W2, hn, rfl⟩
  have hz : w.heap.size + 1 < (W2.setCell ⟨w.heap.size + 1, 0, none⟩ (.pointer (some ⟨g, o, none⟩))).heap.size := by have := hn.size; simp at this ⊢; omega
  have hnx : Nx w (W2.setCell ⟨w.heap.size + 1, 0, none⟩ (.pointer (some ⟨g, o, none⟩))) := set_nx hn (((Nx.refl w).alloc _).alloc _) (by show w.heap.size ≤ w.heap.size + 1; omega) _
  have c3 := set_same (t := ⟨w.heap.size + 1, 0, none⟩) (v := .pointer none) hn (by simp) (.pointer (some ⟨g, o, none⟩))
  have r0 := (set_cell (t := ⟨w.heap.size + 1, 0, none⟩) (p := ⟨w.heap.size, 0, none⟩) hn (by simp; omega) (by simp) (.pointer (some ⟨g, o, none⟩))).trans (show _ = some (.int .i64 0) by simp)
  have f0 := (set_free (t := ⟨w.heap.size + 1, 0, none⟩) (p := ⟨w.heap.size, 0, none⟩) hn (by simp; omega) (.pointer (some ⟨g, o, none⟩))).trans (show _ = false by simp)
  have r1 := (set_cell (t := ⟨w.heap.size + 1, 0, none⟩) (p := ⟨w.heap.size, 1, none⟩) hn (by simp; omega) (by simp) (.pointer (some ⟨g, o, none⟩))).trans (show _ = some (.int .i64 0) by simp)
  have f1 := (set_free (t := ⟨w.heap.size + 1, 0, none⟩) (p := ⟨w.heap.size, 1, none⟩) hn (by simp; omega) (.pointer (some ⟨g, o, none⟩))).trans (show _ = false by simp)
  have r2 := (set_cell (t := ⟨w.heap.size + 1, 0, none⟩) (p := ⟨w.heap.size, 2, none⟩) hn (by simp; omega) (by simp) (.pointer (some ⟨g, o, none⟩))).trans (show _ = some (.int .i64 0) by simp)
  have f2 := (set_free (t := ⟨w.heap.size + 1, 0, none⟩) (p := ⟨w.heap.size, 2, none⟩) hn (by simp; omega) (.pointer (some ⟨g, o, none⟩))).trans (show _ = false by simp)
  have e0 := hnx.cell H0.out.1
  have e1 := hnx.cell H0.out.2.1
  have e2 := hnx.cell H0.out.2.2
  generalize W2.setCell ⟨w.heap.size + 1, 0, none⟩ (.pointer (some ⟨g, o, none⟩)) = W3 at *
  have HX := Lib.hid hnx
  have E2 := Lib.hid e2
  clear hn hnx e2 HE
  go_wp2
  go_loop [4] (fun i => ∃ j : Nat, 1 ≤ j ∧ j ≤ k ∧ i = .int .i64 j) (fun i => k + 1 - (intOf i).toNat)
  case atStart => exact ⟨1, by omega, by omega, rfl⟩
  case round =>
    obtain ⟨j, h1, h2, rfl⟩ := hrel
    have hj : (j : Int) ≤ 16 := by omega
    have HC := Lib.hid (fun c => is_code g o c k W3 E2.out)
    by_cases hlt : j < k
    · have hb : ((k : Int) == (j : Int)) = false := by simp; omega
      have HI := HC.out j
      rw [hb] at HI
      have HI := Lib.hid HI
      clear HC hb
      go_wp2_with (go_at_call 47; refine HI.out.mono ?_; rintro e w' ⟨rfl, rfl⟩)
      go_round
      case rel => exact ⟨j + 1, by omega, by omega, by go_num⟩
      case measure => simp [intOf]; omega
    · obtain rfl : j = k := by omega
      have hb : ((j : Int) == (j : Int)) = true := by simp
      have HI := HC.out j
      rw [hb] at HI
      have HI := Lib.hid HI
      clear HC hb
      go_wp2_with (go_at_call 47; refine HI.out.mono ?_; rintro e w' ⟨rfl, rfl⟩)
      go_region
      all_goals go_wp2
      all_goals
        refine bodyPost_ret (v := .agg #[.int .i64 l, .int .i64 c, .int .i64 j]) (by simp [results, Tryd.results21, go_sem, f0, f1, f2, r0, r1, r2]) rfl ⟨rfl, ?_⟩
        repeat (with_reducible first | exact HX.out | refine Nx.setCell ?_ (Nat.le_refl _) _ | refine Nx.drew ?_)

theorem fault_is (v : Value) (l c k : Int) (w : World) (hE : ErrT w) (hv : FaultIs w v l c k) (hk : 1 ≤ k) (hk' : k ≤ 16) :
    Calls Tryd.prog 21 #[v] w fun e w' => e = .returned (.agg #[.int .i64 l, .int .i64 c, .int .i64 k]) ∧ Nx w w' := by
  obtain ⟨g, o, rfl, h0, h1, h2⟩ := hv
  obtain ⟨n, rfl⟩ := Int.eq_ofNat_of_zero_le (show 0 ≤ k by omega)
  exact fault_hit g o l c n w hE h0 h1 h2 (by omega) (by omega)

end Go.Proofs.YtbkgdepblaibkaaDoor
