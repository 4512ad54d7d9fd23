/- Contracts of package enc: the table. -/
import Derived.Test.YtpaadeiopflfgaaDoorEnc
import Derived.Great.BuildSlice
namespace Go.Proofs.YtpaadeiopflfgaaDoor
open Go.RowKit
set_option linter.unusedVariables false

theorem row_info : (Tryd.prog.info? 37).map (fun i => (i.zero, i.size, i.bytes)) = some (some (.agg #[.int .i64 0, .int .u32 0, .int .u32 0]), 3, 16) := by kernel_rfl

set_option maxRecDepth 100000 in
set_option maxHeartbeats 2000000 in
theorem rows_any (w : World) : Calls Tryd.prog 14 #[] w fun e w' => e = .returned (.slice (some ⟨w.heap.size, 0, none⟩) 48 48) ∧ RowsAt w' w.heap.size ∧ Nx w w' := by
  have h := Lib.hid (rowsAt_new w)
  obtain ⟨i0, hi0, hz0, hz1, hz2⟩ := info_parts row_info
  have hs1 : ¬ 48 * i0.size > 2 ^ 24 := by rw [hz1]; decide
  have hs2 : ¬ 48 * i0.size = 0 := by rw [hz1]; decide
  have H1 := Lib.hid hs1
  have H2 := Lib.hid hs2
  clear hs1 hs2
  go_enter Tryd.func14, Tryd.ntmps14
  go_wp2_with (with_reducible refine wpList_buildSlice rfl 32 37 48 _ rfl rowsC.toArray i0 _ Tryd.underlying32 hi0 hz0 H1.out H2.out ?hf ?_)
  case hf => kernel_rfl
  go_ret
  exact ⟨rfl, h.out, (Nx.refl _).alloc _⟩

end Go.Proofs.YtpaadeiopflfgaaDoor
