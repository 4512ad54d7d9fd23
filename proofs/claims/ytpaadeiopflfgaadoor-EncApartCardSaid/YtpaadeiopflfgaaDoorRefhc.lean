/- Contracts of package typecaseref08: codes, operation by operation. -/
import Derived.Test.YtpaadeiopflfgaaDoorRefh
namespace Go.Proofs.YtpaadeiopflfgaaDoor
open Go.RowKit
set_option linter.unusedVariables false
set_option linter.unusedSimpArgs false

set_option maxHeartbeats 1000000 in
theorem codes_29 (w : World) : Calls Tryd.prog 36 #[.int .i64 29] w fun e w' => e = .returned (codeV 29) ∧ Nx w w' := by
  go_enter Tryd.func36, Tryd.ntmps36
  go_wp2
  go_region
  all_goals
    go_wp2
    refine bodyPost_ret (v := codeV 29) (by simp [results, Tryd.results36, go_sem, codeV, codeA, codeB, codeC, codeD, codesA, codesB, codesC, codesD]) rfl ⟨rfl, ?_⟩
    repeat (with_reducible first | refine Nx.drew ?_ | refine Nx.alloc ?_ _ | refine Nx.setCell ?_ (Nat.le_refl _) _)
    exact Nx.refl _

set_option maxHeartbeats 1000000 in
theorem codes_30 (w : World) : Calls Tryd.prog 36 #[.int .i64 30] w fun e w' => e = .returned (codeV 30) ∧ Nx w w' := by
  go_enter Tryd.func36, Tryd.ntmps36
  go_wp2
  go_region
  all_goals
    go_wp2
    refine bodyPost_ret (v := codeV 30) (by simp [results, Tryd.results36, go_sem, codeV, codeA, codeB, codeC, codeD, codesA, codesB, codesC, codesD]) rfl ⟨rfl, ?_⟩
    repeat (with_reducible first | refine Nx.drew ?_ | refine Nx.alloc ?_ _ | refine Nx.setCell ?_ (Nat.le_refl _) _)
    exact Nx.refl _

set_option maxHeartbeats 1000000 in
theorem codes_31 (w : World) : Calls Tryd.prog 36 #[.int .i64 31] w fun e w' => e = .returned (codeV 31) ∧ Nx w w' := by
  go_enter Tryd.func36, Tryd.ntmps36
  go_wp2
  go_region
  all_goals
    go_wp2
    refine bodyPost_ret (v := codeV 31) (by simp [results, Tryd.results36, go_sem, codeV, codeA, codeB, codeC, codeD, codesA, codesB, codesC, codesD]) rfl ⟨rfl, ?_⟩
    repeat (with_reducible first | refine Nx.drew ?_ | refine Nx.alloc ?_ _ | refine Nx.setCell ?_ (Nat.le_refl _) _)
    exact Nx.refl _

set_option maxHeartbeats 1000000 in
theorem codes_32 (w : World) : Calls Tryd.prog 36 #[.int .i64 32] w fun e w' => e = .returned (codeV 32) ∧ Nx w w' := by
  go_enter Tryd.func36, Tryd.ntmps36
  go_wp2
  go_region
  all_goals
    go_wp2
    refine bodyPost_ret (v := codeV 32) (by simp [results, Tryd.results36, go_sem, codeV, codeA, codeB, codeC, codeD, codesA, codesB, codesC, codesD]) rfl ⟨rfl, ?_⟩
    repeat (with_reducible first | refine Nx.drew ?_ | refine Nx.alloc ?_ _ | refine Nx.setCell ?_ (Nat.le_refl _) _)
    exact Nx.refl _

set_option maxHeartbeats 1000000 in
theorem codes_33 (w : World) : Calls Tryd.prog 36 #[.int .i64 33] w fun e w' => e = .returned (codeV 33) ∧ Nx w w' := by
  go_enter Tryd.func36, Tryd.ntmps36
  go_wp2
  go_region
  all_goals
    go_wp2
    refine bodyPost_ret (v := codeV 33) (by simp [results, Tryd.results36, go_sem, codeV, codeA, codeB, codeC, codeD, codesA, codesB, codesC, codesD]) rfl ⟨rfl, ?_⟩
    repeat (with_reducible first | refine Nx.drew ?_ | refine Nx.alloc ?_ _ | refine Nx.setCell ?_ (Nat.le_refl _) _)
    exact Nx.refl _

set_option maxHeartbeats 1000000 in
theorem codes_34 (w : World) : Calls Tryd.prog 36 #[.int .i64 34] w fun e w' => e = .returned (codeV 34) ∧ Nx w w' := by
  go_enter Tryd.func36, Tryd.ntmps36
  go_wp2
  go_region
  all_goals
    go_wp2
    refine bodyPost_ret (v := codeV 34) (by simp [results, Tryd.results36, go_sem, codeV, codeA, codeB, codeC, codeD, codesA, codesB, codesC, codesD]) rfl ⟨rfl, ?_⟩
    repeat (with_reducible first | refine Nx.drew ?_ | refine Nx.alloc ?_ _ | refine Nx.setCell ?_ (Nat.le_refl _) _)
    exact Nx.refl _

set_option maxHeartbeats 1000000 in
theorem codes_35 (w : World) : Calls Tryd.prog 36 #[.int .i64 35] w fun e w' => e = .returned (codeV 35) ∧ Nx w w' := by
  go_enter Tryd.func36, Tryd.ntmps36
  go_wp2
  go_region
  all_goals
    go_wp2
    refine bodyPost_ret (v := codeV 35) (by simp [results, Tryd.results36, go_sem, codeV, codeA, codeB, codeC, codeD, codesA, codesB, codesC, codesD]) rfl ⟨rfl, ?_⟩
    repeat (with_reducible first | refine Nx.drew ?_ | refine Nx.alloc ?_ _ | refine Nx.setCell ?_ (Nat.le_refl _) _)
    exact Nx.refl _

set_option maxHeartbeats 1000000 in
theorem codes_36 (w : World) : Calls Tryd.prog 36 #[.int .i64 36] w fun e w' => e = .returned (codeV 36) ∧ Nx w w' := by
  go_enter Tryd.func36, Tryd.ntmps36
  go_wp2
  go_region
  all_goals
    go_wp2
    refine bodyPost_ret (v := codeV 36) (by simp [results, Tryd.results36, go_sem, codeV, codeA, codeB, codeC, codeD, codesA, codesB, codesC, codesD]) rfl ⟨rfl, ?_⟩
    repeat (with_reducible first | refine Nx.drew ?_ | refine Nx.alloc ?_ _ | refine Nx.setCell ?_ (Nat.le_refl _) _)
    exact Nx.refl _

set_option maxHeartbeats 1000000 in
theorem codes_37 (w : World) : Calls Tryd.prog 36 #[.int .i64 37] w fun e w' => e = .returned (codeV 37) ∧ Nx w w' := by
  go_enter Tryd.func36, Tryd.ntmps36
  go_wp2
  go_region
  all_goals
    go_wp2
    refine bodyPost_ret (v := codeV 37) (by simp [results, Tryd.results36, go_sem, codeV, codeA, codeB, codeC, codeD, codesA, codesB, codesC, codesD]) rfl ⟨rfl, ?_⟩
    repeat (with_reducible first | refine Nx.drew ?_ | refine Nx.alloc ?_ _ | refine Nx.setCell ?_ (Nat.le_refl _) _)
    exact Nx.refl _

end Go.Proofs.YtpaadeiopflfgaaDoor
