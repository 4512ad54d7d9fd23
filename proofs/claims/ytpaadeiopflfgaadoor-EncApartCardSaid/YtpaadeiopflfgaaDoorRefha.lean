/- Contracts of package typecaseref08: codes, operation by operation. -/
import Derived.Test.YtpaadeiopflfgaaDoorRefh
namespace Go.Proofs.YtpaadeiopflfgaaDoor
open Go.RowKit
set_option linter.unusedVariables false
set_option linter.unusedSimpArgs false

set_option maxHeartbeats 1000000 in
theorem codes_1 (w : World) : Calls Tryd.prog 36 #[.int .i64 1] w fun e w' => e = .returned (codeV 1) ∧ Nx w w' := by
  go_enter Tryd.func36, Tryd.ntmps36
  go_wp2
  refine bodyPost_ret (v := codeV 1) (by simp [results, Tryd.results36, go_sem, codeV, codeA, codeB, codeC, codeD, codesA, codesB, codesC, codesD]) rfl ⟨rfl, ?_⟩
  repeat (with_reducible first | refine Nx.drew ?_ | refine Nx.alloc ?_ _ | refine Nx.setCell ?_ (Nat.le_refl _) _)
  exact Nx.refl _

set_option maxHeartbeats 1000000 in
theorem codes_2 (w : World) : Calls Tryd.prog 36 #[.int .i64 2] w fun e w' => e = .returned (codeV 2) ∧ Nx w w' := by
  go_enter Tryd.func36, Tryd.ntmps36
  go_wp2
  refine bodyPost_ret (v := codeV 2) (by simp [results, Tryd.results36, go_sem, codeV, codeA, codeB, codeC, codeD, codesA, codesB, codesC, codesD]) rfl ⟨rfl, ?_⟩
  repeat (with_reducible first | refine Nx.drew ?_ | refine Nx.alloc ?_ _ | refine Nx.setCell ?_ (Nat.le_refl _) _)
  exact Nx.refl _

set_option maxHeartbeats 1000000 in
theorem codes_3 (w : World) : Calls Tryd.prog 36 #[.int .i64 3] w fun e w' => e = .returned (codeV 3) ∧ Nx w w' := by
  go_enter Tryd.func36, Tryd.ntmps36
  go_wp2
  refine bodyPost_ret (v := codeV 3) (by simp [results, Tryd.results36, go_sem, codeV, codeA, codeB, codeC, codeD, codesA, codesB, codesC, codesD]) rfl ⟨rfl, ?_⟩
  repeat (with_reducible first | refine Nx.drew ?_ | refine Nx.alloc ?_ _ | refine Nx.setCell ?_ (Nat.le_refl _) _)
  exact Nx.refl _

set_option maxHeartbeats 1000000 in
theorem codes_4 (w : World) : Calls Tryd.prog 36 #[.int .i64 4] w fun e w' => e = .returned (codeV 4) ∧ Nx w w' := by
  go_enter Tryd.func36, Tryd.ntmps36
  go_wp2
  refine bodyPost_ret (v := codeV 4) (by simp [results, Tryd.results36, go_sem, codeV, codeA, codeB, codeC, codeD, codesA, codesB, codesC, codesD]) rfl ⟨rfl, ?_⟩
  repeat (with_reducible first | refine Nx.drew ?_ | refine Nx.alloc ?_ _ | refine Nx.setCell ?_ (Nat.le_refl _) _)
  exact Nx.refl _

set_option maxHeartbeats 1000000 in
theorem codes_5 (w : World) : Calls Tryd.prog 36 #[.int .i64 5] w fun e w' => e = .returned (codeV 5) ∧ Nx w w' := by
  go_enter Tryd.func36, Tryd.ntmps36
  go_wp2
  refine bodyPost_ret (v := codeV 5) (by simp [results, Tryd.results36, go_sem, codeV, codeA, codeB, codeC, codeD, codesA, codesB, codesC, codesD]) rfl ⟨rfl, ?_⟩
  repeat (with_reducible first | refine Nx.drew ?_ | refine Nx.alloc ?_ _ | refine Nx.setCell ?_ (Nat.le_refl _) _)
  exact Nx.refl _

set_option maxHeartbeats 1000000 in
theorem codes_6 (w : World) : Calls Tryd.prog 36 #[.int .i64 6] w fun e w' => e = .returned (codeV 6) ∧ Nx w w' := by
  go_enter Tryd.func36, Tryd.ntmps36
  go_wp2
  refine bodyPost_ret (v := codeV 6) (by simp [results, Tryd.results36, go_sem, codeV, codeA, codeB, codeC, codeD, codesA, codesB, codesC, codesD]) rfl ⟨rfl, ?_⟩
  repeat (with_reducible first | refine Nx.drew ?_ | refine Nx.alloc ?_ _ | refine Nx.setCell ?_ (Nat.le_refl _) _)
  exact Nx.refl _

set_option maxHeartbeats 1000000 in
theorem codes_7 (w : World) : Calls Tryd.prog 36 #[.int .i64 7] w fun e w' => e = .returned (codeV 7) ∧ Nx w w' := by
  go_enter Tryd.func36, Tryd.ntmps36
  go_wp2
  refine bodyPost_ret (v := codeV 7) (by simp [results, Tryd.results36, go_sem, codeV, codeA, codeB, codeC, codeD, codesA, codesB, codesC, codesD]) rfl ⟨rfl, ?_⟩
  repeat (with_reducible first | refine Nx.drew ?_ | refine Nx.alloc ?_ _ | refine Nx.setCell ?_ (Nat.le_refl _) _)
  exact Nx.refl _

set_option maxHeartbeats 1000000 in
theorem codes_8 (w : World) : Calls Tryd.prog 36 #[.int .i64 8] w fun e w' => e = .returned (codeV 8) ∧ Nx w w' := by
  go_enter Tryd.func36, Tryd.ntmps36
  go_wp2
  refine bodyPost_ret (v := codeV 8) (by simp [results, Tryd.results36, go_sem, codeV, codeA, codeB, codeC, codeD, codesA, codesB, codesC, codesD]) rfl ⟨rfl, ?_⟩
  repeat (with_reducible first | refine Nx.drew ?_ | refine Nx.alloc ?_ _ | refine Nx.setCell ?_ (Nat.le_refl _) _)
  exact Nx.refl _

set_option maxHeartbeats 1000000 in
theorem codes_9 (w : World) : Calls Tryd.prog 36 #[.int .i64 9] w fun e w' => e = .returned (codeV 9) ∧ Nx w w' := by
  go_enter Tryd.func36, Tryd.ntmps36
  go_wp2
  refine bodyPost_ret (v := codeV 9) (by simp [results, Tryd.results36, go_sem, codeV, codeA, codeB, codeC, codeD, codesA, codesB, codesC, codesD]) rfl ⟨rfl, ?_⟩
  repeat (with_reducible first | refine Nx.drew ?_ | refine Nx.alloc ?_ _ | refine Nx.setCell ?_ (Nat.le_refl _) _)
  exact Nx.refl _

set_option maxHeartbeats 1000000 in
theorem codes_10 (w : World) : Calls Tryd.prog 36 #[.int .i64 10] w fun e w' => e = .returned (codeV 10) ∧ Nx w w' := by
  go_enter Tryd.func36, Tryd.ntmps36
  go_wp2
  refine bodyPost_ret (v := codeV 10) (by simp [results, Tryd.results36, go_sem, codeV, codeA, codeB, codeC, codeD, codesA, codesB, codesC, codesD]) rfl ⟨rfl, ?_⟩
  repeat (with_reducible first | refine Nx.drew ?_ | refine Nx.alloc ?_ _ | refine Nx.setCell ?_ (Nat.le_refl _) _)
  exact Nx.refl _

set_option maxHeartbeats 1000000 in
theorem codes_11 (w : World) : Calls Tryd.prog 36 #[.int .i64 11] w fun e w' => e = .returned (codeV 11) ∧ Nx w w' := by
  go_enter Tryd.func36, Tryd.ntmps36
  go_wp2
  refine bodyPost_ret (v := codeV 11) (by simp [results, Tryd.results36, go_sem, codeV, codeA, codeB, codeC, codeD, codesA, codesB, codesC, codesD]) rfl ⟨rfl, ?_⟩
  repeat (with_reducible first | refine Nx.drew ?_ | refine Nx.alloc ?_ _ | refine Nx.setCell ?_ (Nat.le_refl _) _)
  exact Nx.refl _

set_option maxHeartbeats 1000000 in
theorem codes_12 (w : World) : Calls Tryd.prog 36 #[.int .i64 12] w fun e w' => e = .returned (codeV 12) ∧ Nx w w' := by
  go_enter Tryd.func36, Tryd.ntmps36
  go_wp2
  refine bodyPost_ret (v := codeV 12) (by simp [results, Tryd.results36, go_sem, codeV, codeA, codeB, codeC, codeD, codesA, codesB, codesC, codesD]) rfl ⟨rfl, ?_⟩
  repeat (with_reducible first | refine Nx.drew ?_ | refine Nx.alloc ?_ _ | refine Nx.setCell ?_ (Nat.le_refl _) _)
  exact Nx.refl _

set_option maxHeartbeats 1000000 in
theorem codes_13 (w : World) : Calls Tryd.prog 36 #[.int .i64 13] w fun e w' => e = .returned (codeV 13) ∧ Nx w w' := by
  go_enter Tryd.func36, Tryd.ntmps36
  go_wp2
  refine bodyPost_ret (v := codeV 13) (by simp [results, Tryd.results36, go_sem, codeV, codeA, codeB, codeC, codeD, codesA, codesB, codesC, codesD]) rfl ⟨rfl, ?_⟩
  repeat (with_reducible first | refine Nx.drew ?_ | refine Nx.alloc ?_ _ | refine Nx.setCell ?_ (Nat.le_refl _) _)
  exact Nx.refl _

set_option maxHeartbeats 1000000 in
theorem codes_14 (w : World) : Calls Tryd.prog 36 #[.int .i64 14] w fun e w' => e = .returned (codeV 14) ∧ Nx w w' := by
  go_enter Tryd.func36, Tryd.ntmps36
  go_wp2
  refine bodyPost_ret (v := codeV 14) (by simp [results, Tryd.results36, go_sem, codeV, codeA, codeB, codeC, codeD, codesA, codesB, codesC, codesD]) rfl ⟨rfl, ?_⟩
  repeat (with_reducible first | refine Nx.drew ?_ | refine Nx.alloc ?_ _ | refine Nx.setCell ?_ (Nat.le_refl _) _)
  exact Nx.refl _

set_option maxHeartbeats 1000000 in
theorem codes_15 (w : World) : Calls Tryd.prog 36 #[.int .i64 15] w fun e w' => e = .returned (codeV 15) ∧ Nx w w' := by
  go_enter Tryd.func36, Tryd.ntmps36
  go_wp2
  refine bodyPost_ret (v := codeV 15) (by simp [results, Tryd.results36, go_sem, codeV, codeA, codeB, codeC, codeD, codesA, codesB, codesC, codesD]) rfl ⟨rfl, ?_⟩
  repeat (with_reducible first | refine Nx.drew ?_ | refine Nx.alloc ?_ _ | refine Nx.setCell ?_ (Nat.le_refl _) _)
  exact Nx.refl _

set_option maxHeartbeats 1000000 in
theorem codes_16 (w : World) : Calls Tryd.prog 36 #[.int .i64 16] w fun e w' => e = .returned (codeV 16) ∧ Nx w w' := by
  go_enter Tryd.func36, Tryd.ntmps36
  go_wp2
  refine bodyPost_ret (v := codeV 16) (by simp [results, Tryd.results36, go_sem, codeV, codeA, codeB, codeC, codeD, codesA, codesB, codesC, codesD]) rfl ⟨rfl, ?_⟩
  repeat (with_reducible first | refine Nx.drew ?_ | refine Nx.alloc ?_ _ | refine Nx.setCell ?_ (Nat.le_refl _) _)
  exact Nx.refl _

set_option maxHeartbeats 1000000 in
theorem codes_17 (w : World) : Calls Tryd.prog 36 #[.int .i64 17] w fun e w' => e = .returned (codeV 17) ∧ Nx w w' := by
  go_enter Tryd.func36, Tryd.ntmps36
  go_wp2
  refine bodyPost_ret (v := codeV 17) (by simp [results, Tryd.results36, go_sem, codeV, codeA, codeB, codeC, codeD, codesA, codesB, codesC, codesD]) rfl ⟨rfl, ?_⟩
  repeat (with_reducible first | refine Nx.drew ?_ | refine Nx.alloc ?_ _ | refine Nx.setCell ?_ (Nat.le_refl _) _)
  exact Nx.refl _

set_option maxHeartbeats 1000000 in
theorem codes_18 (w : World) : Calls Tryd.prog 36 #[.int .i64 18] w fun e w' => e = .returned (codeV 18) ∧ Nx w w' := by
  go_enter Tryd.func36, Tryd.ntmps36
  go_wp2
  refine bodyPost_ret (v := codeV 18) (by simp [results, Tryd.results36, go_sem, codeV, codeA, codeB, codeC, codeD, codesA, codesB, codesC, codesD]) rfl ⟨rfl, ?_⟩
  repeat (with_reducible first | refine Nx.drew ?_ | refine Nx.alloc ?_ _ | refine Nx.setCell ?_ (Nat.le_refl _) _)
  exact Nx.refl _

set_option maxHeartbeats 1000000 in
theorem codes_19 (w : World) : Calls Tryd.prog 36 #[.int .i64 19] w fun e w' => e = .returned (codeV 19) ∧ Nx w w' := by
  go_enter Tryd.func36, Tryd.ntmps36
  go_wp2
  refine bodyPost_ret (v := codeV 19) (by simp [results, Tryd.results36, go_sem, codeV, codeA, codeB, codeC, codeD, codesA, codesB, codesC, codesD]) rfl ⟨rfl, ?_⟩
  repeat (with_reducible first | refine Nx.drew ?_ | refine Nx.alloc ?_ _ | refine Nx.setCell ?_ (Nat.le_refl _) _)
  exact Nx.refl _

set_option maxHeartbeats 1000000 in
theorem codes_20 (w : World) : Calls Tryd.prog 36 #[.int .i64 20] w fun e w' => e = .returned (codeV 20) ∧ Nx w w' := by
  go_enter Tryd.func36, Tryd.ntmps36
  go_wp2
  refine bodyPost_ret (v := codeV 20) (by simp [results, Tryd.results36, go_sem, codeV, codeA, codeB, codeC, codeD, codesA, codesB, codesC, codesD]) rfl ⟨rfl, ?_⟩
  repeat (with_reducible first | refine Nx.drew ?_ | refine Nx.alloc ?_ _ | refine Nx.setCell ?_ (Nat.le_refl _) _)
  exact Nx.refl _

end Go.Proofs.YtpaadeiopflfgaaDoor
