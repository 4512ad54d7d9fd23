/- Contracts of package typecaseref08: codes, operation by operation. -/
import Derived.Test.YtpaadeiopflfgaaDoorRefh
namespace Go.Proofs.YtpaadeiopflfgaaDoor
open Go.RowKit
set_option linter.unusedVariables false
set_option linter.unusedSimpArgs false

set_option maxHeartbeats 1000000 in
theorem codes_38 (w : World) : Calls Tryd.prog 36 #[.int .i64 38] w fun e w' => e = .returned (codeV 38) ∧ Nx w w' := by
  go_enter Tryd.func36, Tryd.ntmps36
  go_wp2
  refine bodyPost_ret (v := codeV 38) (by simp [results, Tryd.results36, go_sem, codeV, codeA, codeB, codeC, codeD, codesA, codesB, codesC, codesD]) rfl ⟨rfl, ?_⟩
  repeat (with_reducible first | refine Nx.drew ?_ | refine Nx.alloc ?_ _ | refine Nx.setCell ?_ (Nat.le_refl _) _)
  exact Nx.refl _

set_option maxHeartbeats 1000000 in
theorem codes_39 (w : World) : Calls Tryd.prog 36 #[.int .i64 39] w fun e w' => e = .returned (codeV 39) ∧ Nx w w' := by
  go_enter Tryd.func36, Tryd.ntmps36
  go_wp2
  refine bodyPost_ret (v := codeV 39) (by simp [results, Tryd.results36, go_sem, codeV, codeA, codeB, codeC, codeD, codesA, codesB, codesC, codesD]) rfl ⟨rfl, ?_⟩
  repeat (with_reducible first | refine Nx.drew ?_ | refine Nx.alloc ?_ _ | refine Nx.setCell ?_ (Nat.le_refl _) _)
  exact Nx.refl _

set_option maxHeartbeats 1000000 in
theorem codes_40 (w : World) : Calls Tryd.prog 36 #[.int .i64 40] w fun e w' => e = .returned (codeV 40) ∧ Nx w w' := by
  go_enter Tryd.func36, Tryd.ntmps36
  go_wp2
  refine bodyPost_ret (v := codeV 40) (by simp [results, Tryd.results36, go_sem, codeV, codeA, codeB, codeC, codeD, codesA, codesB, codesC, codesD]) rfl ⟨rfl, ?_⟩
  repeat (with_reducible first | refine Nx.drew ?_ | refine Nx.alloc ?_ _ | refine Nx.setCell ?_ (Nat.le_refl _) _)
  exact Nx.refl _

set_option maxHeartbeats 1000000 in
theorem codes_41 (w : World) : Calls Tryd.prog 36 #[.int .i64 41] w fun e w' => e = .returned (codeV 41) ∧ Nx w w' := by
  go_enter Tryd.func36, Tryd.ntmps36
  go_wp2
  refine bodyPost_ret (v := codeV 41) (by simp [results, Tryd.results36, go_sem, codeV, codeA, codeB, codeC, codeD, codesA, codesB, codesC, codesD]) rfl ⟨rfl, ?_⟩
  repeat (with_reducible first | refine Nx.drew ?_ | refine Nx.alloc ?_ _ | refine Nx.setCell ?_ (Nat.le_refl _) _)
  exact Nx.refl _

set_option maxHeartbeats 1000000 in
theorem codes_42 (w : World) : Calls Tryd.prog 36 #[.int .i64 42] w fun e w' => e = .returned (codeV 42) ∧ Nx w w' := by
  go_enter Tryd.func36, Tryd.ntmps36
  go_wp2
  refine bodyPost_ret (v := codeV 42) (by simp [results, Tryd.results36, go_sem, codeV, codeA, codeB, codeC, codeD, codesA, codesB, codesC, codesD]) rfl ⟨rfl, ?_⟩
  repeat (with_reducible first | refine Nx.drew ?_ | refine Nx.alloc ?_ _ | refine Nx.setCell ?_ (Nat.le_refl _) _)
  exact Nx.refl _

set_option maxHeartbeats 1000000 in
theorem codes_43 (w : World) : Calls Tryd.prog 36 #[.int .i64 43] w fun e w' => e = .returned (codeV 43) ∧ Nx w w' := by
  go_enter Tryd.func36, Tryd.ntmps36
  go_wp2
  refine bodyPost_ret (v := codeV 43) (by simp [results, Tryd.results36, go_sem, codeV, codeA, codeB, codeC, codeD, codesA, codesB, codesC, codesD]) rfl ⟨rfl, ?_⟩
  repeat (with_reducible first | refine Nx.drew ?_ | refine Nx.alloc ?_ _ | refine Nx.setCell ?_ (Nat.le_refl _) _)
  exact Nx.refl _

set_option maxHeartbeats 1000000 in
theorem codes_44 (w : World) : Calls Tryd.prog 36 #[.int .i64 44] w fun e w' => e = .returned (codeV 44) ∧ Nx w w' := by
  go_enter Tryd.func36, Tryd.ntmps36
  go_wp2
  refine bodyPost_ret (v := codeV 44) (by simp [results, Tryd.results36, go_sem, codeV, codeA, codeB, codeC, codeD, codesA, codesB, codesC, codesD]) rfl ⟨rfl, ?_⟩
  repeat (with_reducible first | refine Nx.drew ?_ | refine Nx.alloc ?_ _ | refine Nx.setCell ?_ (Nat.le_refl _) _)
  exact Nx.refl _

set_option maxHeartbeats 1000000 in
theorem codes_45 (w : World) : Calls Tryd.prog 36 #[.int .i64 45] w fun e w' => e = .returned (codeV 45) ∧ Nx w w' := by
  go_enter Tryd.func36, Tryd.ntmps36
  go_wp2
  refine bodyPost_ret (v := codeV 45) (by simp [results, Tryd.results36, go_sem, codeV, codeA, codeB, codeC, codeD, codesA, codesB, codesC, codesD]) rfl ⟨rfl, ?_⟩
  repeat (with_reducible first | refine Nx.drew ?_ | refine Nx.alloc ?_ _ | refine Nx.setCell ?_ (Nat.le_refl _) _)
  exact Nx.refl _

set_option maxHeartbeats 1000000 in
theorem codes_46 (w : World) : Calls Tryd.prog 36 #[.int .i64 46] w fun e w' => e = .returned (codeV 46) ∧ Nx w w' := by
  go_enter Tryd.func36, Tryd.ntmps36
  go_wp2
  refine bodyPost_ret (v := codeV 46) (by simp [results, Tryd.results36, go_sem, codeV, codeA, codeB, codeC, codeD, codesA, codesB, codesC, codesD]) rfl ⟨rfl, ?_⟩
  repeat (with_reducible first | refine Nx.drew ?_ | refine Nx.alloc ?_ _ | refine Nx.setCell ?_ (Nat.le_refl _) _)
  exact Nx.refl _

set_option maxHeartbeats 1000000 in
theorem codes_47 (w : World) : Calls Tryd.prog 36 #[.int .i64 47] w fun e w' => e = .returned (codeV 47) ∧ Nx w w' := by
  go_enter Tryd.func36, Tryd.ntmps36
  go_wp2
  refine bodyPost_ret (v := codeV 47) (by simp [results, Tryd.results36, go_sem, codeV, codeA, codeB, codeC, codeD, codesA, codesB, codesC, codesD]) rfl ⟨rfl, ?_⟩
  repeat (with_reducible first | refine Nx.drew ?_ | refine Nx.alloc ?_ _ | refine Nx.setCell ?_ (Nat.le_refl _) _)
  exact Nx.refl _

set_option maxHeartbeats 1000000 in
theorem codes_48 (w : World) : Calls Tryd.prog 36 #[.int .i64 48] w fun e w' => e = .returned (codeV 48) ∧ Nx w w' := by
  go_enter Tryd.func36, Tryd.ntmps36
  go_wp2
  refine bodyPost_ret (v := codeV 48) (by simp [results, Tryd.results36, go_sem, codeV, codeA, codeB, codeC, codeD, codesA, codesB, codesC, codesD]) rfl ⟨rfl, ?_⟩
  repeat (with_reducible first | refine Nx.drew ?_ | refine Nx.alloc ?_ _ | refine Nx.setCell ?_ (Nat.le_refl _) _)
  exact Nx.refl _

end Go.Proofs.YtpaadeiopflfgaaDoor
