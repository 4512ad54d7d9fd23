/- Contracts of package typecaseref08: codes, operation by operation. -/
import Derived.Test.YtpaadeiopflfgaaDoorRefh
namespace Go.Proofs.YtpaadeiopflfgaaDoor
open Go.RowKit
set_option linter.unusedVariables false
set_option linter.unusedSimpArgs false

set_option maxHeartbeats 1000000 in
theorem codes_21 (w : World) : Calls Tryd.prog 36 #[.int .i64 21] w fun e w' => e = .returned (codeV 21) ∧ Nx w w' := by
  go_enter Tryd.func36, Tryd.ntmps36
  go_wp2
  refine bodyPost_ret (v := codeV 21) (by simp [results, Tryd.results36, go_sem, codeV, codeA, codeB, codeC, codeD, codesA, codesB, codesC, codesD]) rfl ⟨rfl, ?_⟩
  repeat (with_reducible first | refine Nx.drew ?_ | refine Nx.alloc ?_ _ | refine Nx.setCell ?_ (Nat.le_refl _) _)
  exact Nx.refl _

set_option maxHeartbeats 1000000 in
theorem codes_22 (w : World) : Calls Tryd.prog 36 #[.int .i64 22] w fun e w' => e = .returned (codeV 22) ∧ Nx w w' := by
  go_enter Tryd.func36, Tryd.ntmps36
  go_wp2
  refine bodyPost_ret (v := codeV 22) (by simp [results, Tryd.results36, go_sem, codeV, codeA, codeB, codeC, codeD, codesA, codesB, codesC, codesD]) rfl ⟨rfl, ?_⟩
  repeat (with_reducible first | refine Nx.drew ?_ | refine Nx.alloc ?_ _ | refine Nx.setCell ?_ (Nat.le_refl _) _)
  exact Nx.refl _

set_option maxHeartbeats 1000000 in
theorem codes_23 (w : World) : Calls Tryd.prog 36 #[.int .i64 23] w fun e w' => e = .returned (codeV 23) ∧ Nx w w' := by
  go_enter Tryd.func36, Tryd.ntmps36
  go_wp2
  refine bodyPost_ret (v := codeV 23) (by simp [results, Tryd.results36, go_sem, codeV, codeA, codeB, codeC, codeD, codesA, codesB, codesC, codesD]) rfl ⟨rfl, ?_⟩
  repeat (with_reducible first | refine Nx.drew ?_ | refine Nx.alloc ?_ _ | refine Nx.setCell ?_ (Nat.le_refl _) _)
  exact Nx.refl _

set_option maxHeartbeats 1000000 in
theorem codes_24 (w : World) : Calls Tryd.prog 36 #[.int .i64 24] w fun e w' => e = .returned (codeV 24) ∧ Nx w w' := by
  go_enter Tryd.func36, Tryd.ntmps36
  go_wp2
  refine bodyPost_ret (v := codeV 24) (by simp [results, Tryd.results36, go_sem, codeV, codeA, codeB, codeC, codeD, codesA, codesB, codesC, codesD]) rfl ⟨rfl, ?_⟩
  repeat (with_reducible first | refine Nx.drew ?_ | refine Nx.alloc ?_ _ | refine Nx.setCell ?_ (Nat.le_refl _) _)
  exact Nx.refl _

set_option maxHeartbeats 1000000 in
theorem codes_25 (w : World) : Calls Tryd.prog 36 #[.int .i64 25] w fun e w' => e = .returned (codeV 25) ∧ Nx w w' := by
  go_enter Tryd.func36, Tryd.ntmps36
  go_wp2
  go_region
  all_goals
    go_wp2
    refine bodyPost_ret (v := codeV 25) (by simp [results, Tryd.results36, go_sem, codeV, codeA, codeB, codeC, codeD, codesA, codesB, codesC, codesD]) rfl ⟨rfl, ?_⟩
    repeat (with_reducible first | refine Nx.drew ?_ | refine Nx.alloc ?_ _ | refine Nx.setCell ?_ (Nat.le_refl _) _)
    exact Nx.refl _

set_option maxHeartbeats 1000000 in
theorem codes_26 (w : World) : Calls Tryd.prog 36 #[.int .i64 26] w fun e w' => e = .returned (codeV 26) ∧ Nx w w' := by
  go_enter Tryd.func36, Tryd.ntmps36
  go_wp2
  go_region
  all_goals
    go_wp2
    refine bodyPost_ret (v := codeV 26) (by simp [results, Tryd.results36, go_sem, codeV, codeA, codeB, codeC, codeD, codesA, codesB, codesC, codesD]) rfl ⟨rfl, ?_⟩
    repeat (with_reducible first | refine Nx.drew ?_ | refine Nx.alloc ?_ _ | refine Nx.setCell ?_ (Nat.le_refl _) _)
    exact Nx.refl _

set_option maxHeartbeats 1000000 in
theorem codes_27 (w : World) : Calls Tryd.prog 36 #[.int .i64 27] w fun e w' => e = .returned (codeV 27) ∧ Nx w w' := by
  go_enter Tryd.func36, Tryd.ntmps36
  go_wp2
  go_region
  all_goals
    go_wp2
    refine bodyPost_ret (v := codeV 27) (by simp [results, Tryd.results36, go_sem, codeV, codeA, codeB, codeC, codeD, codesA, codesB, codesC, codesD]) rfl ⟨rfl, ?_⟩
    repeat (with_reducible first | refine Nx.drew ?_ | refine Nx.alloc ?_ _ | refine Nx.setCell ?_ (Nat.le_refl _) _)
    exact Nx.refl _

set_option maxHeartbeats 1000000 in
theorem codes_28 (w : World) : Calls Tryd.prog 36 #[.int .i64 28] w fun e w' => e = .returned (codeV 28) ∧ Nx w w' := by
  go_enter Tryd.func36, Tryd.ntmps36
  go_wp2
  go_region
  all_goals
    go_wp2
    refine bodyPost_ret (v := codeV 28) (by simp [results, Tryd.results36, go_sem, codeV, codeA, codeB, codeC, codeD, codesA, codesB, codesC, codesD]) rfl ⟨rfl, ?_⟩
    repeat (with_reducible first | refine Nx.drew ?_ | refine Nx.alloc ?_ _ | refine Nx.setCell ?_ (Nat.le_refl _) _)
    exact Nx.refl _

end Go.Proofs.YtpaadeiopflfgaaDoor
