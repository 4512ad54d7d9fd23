/- Contracts of package typecaseref06: base. -/
import Derived.Test.YtmobkjdbjgopgaaReff
namespace Go.Proofs.Ytmobkjdbjgopgaa
open Go.RowKit
set_option linter.unusedVariables false
set_option linter.unusedSimpArgs false

set_option maxHeartbeats 400000 in
theorem base_1 (w : World) : Calls Try.prog 20 #[.string (B [108, 117, 105])] w fun e w' => e = .returned (.string (B [108, 117, 105])) ∧ w = w' := by
  go_enter Try.func20, Try.ntmps20
  go_wp2
  go_ret
  exact ⟨rfl, rfl⟩

set_option maxHeartbeats 400000 in
theorem base_2 (w : World) : Calls Try.prog 20 #[.string (B [97, 117, 105, 112, 99])] w fun e w' => e = .returned (.string (B [97, 117, 105, 112, 99])) ∧ w = w' := by
  go_enter Try.func20, Try.ntmps20
  go_wp2
  go_ret
  exact ⟨rfl, rfl⟩

set_option maxHeartbeats 400000 in
theorem base_3 (w : World) : Calls Try.prog 20 #[.string (B [106, 97, 108])] w fun e w' => e = .returned (.string (B [106, 97, 108])) ∧ w = w' := by
  go_enter Try.func20, Try.ntmps20
  go_wp2
  go_ret
  exact ⟨rfl, rfl⟩

set_option maxHeartbeats 400000 in
theorem base_4 (w : World) : Calls Try.prog 20 #[.string (B [106, 97, 108, 114])] w fun e w' => e = .returned (.string (B [106, 97, 108, 114])) ∧ w = w' := by
  go_enter Try.func20, Try.ntmps20
  go_wp2
  go_ret
  exact ⟨rfl, rfl⟩

set_option maxHeartbeats 400000 in
theorem base_5 (w : World) : Calls Try.prog 20 #[.string (B [98, 101, 113])] w fun e w' => e = .returned (.string (B [98, 101, 113])) ∧ w = w' := by
  go_enter Try.func20, Try.ntmps20
  go_wp2
  go_ret
  exact ⟨rfl, rfl⟩

set_option maxHeartbeats 400000 in
theorem base_6 (w : World) : Calls Try.prog 20 #[.string (B [98, 110, 101])] w fun e w' => e = .returned (.string (B [98, 110, 101])) ∧ w = w' := by
  go_enter Try.func20, Try.ntmps20
  go_wp2
  go_ret
  exact ⟨rfl, rfl⟩

set_option maxHeartbeats 400000 in
theorem base_7 (w : World) : Calls Try.prog 20 #[.string (B [98, 108, 116])] w fun e w' => e = .returned (.string (B [98, 108, 116])) ∧ w = w' := by
  go_enter Try.func20, Try.ntmps20
  go_wp2
  go_ret
  exact ⟨rfl, rfl⟩

set_option maxHeartbeats 400000 in
theorem base_8 (w : World) : Calls Try.prog 20 #[.string (B [98, 103, 101])] w fun e w' => e = .returned (.string (B [98, 103, 101])) ∧ w = w' := by
  go_enter Try.func20, Try.ntmps20
  go_wp2
  go_ret
  exact ⟨rfl, rfl⟩

set_option maxHeartbeats 400000 in
theorem base_9 (w : World) : Calls Try.prog 20 #[.string (B [98, 108, 116, 117])] w fun e w' => e = .returned (.string (B [98, 108, 116, 117])) ∧ w = w' := by
  go_enter Try.func20, Try.ntmps20
  go_wp2
  go_ret
  exact ⟨rfl, rfl⟩

set_option maxHeartbeats 400000 in
theorem base_10 (w : World) : Calls Try.prog 20 #[.string (B [98, 103, 101, 117])] w fun e w' => e = .returned (.string (B [98, 103, 101, 117])) ∧ w = w' := by
  go_enter Try.func20, Try.ntmps20
  go_wp2
  go_ret
  exact ⟨rfl, rfl⟩

set_option maxHeartbeats 400000 in
theorem base_11 (w : World) : Calls Try.prog 20 #[.string (B [108, 98])] w fun e w' => e = .returned (.string (B [108, 98])) ∧ w = w' := by
  go_enter Try.func20, Try.ntmps20
  go_wp2
  go_ret
  exact ⟨rfl, rfl⟩

set_option maxHeartbeats 400000 in
theorem base_12 (w : World) : Calls Try.prog 20 #[.string (B [108, 104])] w fun e w' => e = .returned (.string (B [108, 104])) ∧ w = w' := by
  go_enter Try.func20, Try.ntmps20
  go_wp2
  go_ret
  exact ⟨rfl, rfl⟩

set_option maxHeartbeats 400000 in
theorem base_13 (w : World) : Calls Try.prog 20 #[.string (B [108, 119])] w fun e w' => e = .returned (.string (B [108, 119])) ∧ w = w' := by
  go_enter Try.func20, Try.ntmps20
  go_wp2
  go_ret
  exact ⟨rfl, rfl⟩

set_option maxHeartbeats 400000 in
theorem base_14 (w : World) : Calls Try.prog 20 #[.string (B [108, 98, 117])] w fun e w' => e = .returned (.string (B [108, 98, 117])) ∧ w = w' := by
  go_enter Try.func20, Try.ntmps20
  go_wp2
  go_ret
  exact ⟨rfl, rfl⟩

set_option maxHeartbeats 400000 in
theorem base_15 (w : World) : Calls Try.prog 20 #[.string (B [108, 104, 117])] w fun e w' => e = .returned (.string (B [108, 104, 117])) ∧ w = w' := by
  go_enter Try.func20, Try.ntmps20
  go_wp2
  go_ret
  exact ⟨rfl, rfl⟩

set_option maxHeartbeats 400000 in
theorem base_16 (w : World) : Calls Try.prog 20 #[.string (B [115, 98])] w fun e w' => e = .returned (.string (B [115, 98])) ∧ w = w' := by
  go_enter Try.func20, Try.ntmps20
  go_wp2
  go_ret
  exact ⟨rfl, rfl⟩

set_option maxHeartbeats 400000 in
theorem base_17 (w : World) : Calls Try.prog 20 #[.string (B [115, 104])] w fun e w' => e = .returned (.string (B [115, 104])) ∧ w = w' := by
  go_enter Try.func20, Try.ntmps20
  go_wp2
  go_ret
  exact ⟨rfl, rfl⟩

set_option maxHeartbeats 400000 in
theorem base_18 (w : World) : Calls Try.prog 20 #[.string (B [115, 119])] w fun e w' => e = .returned (.string (B [115, 119])) ∧ w = w' := by
  go_enter Try.func20, Try.ntmps20
  go_wp2
  go_ret
  exact ⟨rfl, rfl⟩

set_option maxHeartbeats 400000 in
theorem base_19 (w : World) : Calls Try.prog 20 #[.string (B [97, 100, 100, 105])] w fun e w' => e = .returned (.string (B [97, 100, 100])) ∧ w = w' := by
  go_enter Try.func20, Try.ntmps20
  go_wp2
  go_ret
  exact ⟨rfl, rfl⟩

set_option maxHeartbeats 400000 in
theorem base_20 (w : World) : Calls Try.prog 20 #[.string (B [115, 108, 116, 105])] w fun e w' => e = .returned (.string (B [115, 108, 116])) ∧ w = w' := by
  go_enter Try.func20, Try.ntmps20
  go_wp2
  go_ret
  exact ⟨rfl, rfl⟩

set_option maxHeartbeats 400000 in
theorem base_21 (w : World) : Calls Try.prog 20 #[.string (B [115, 108, 116, 105, 117])] w fun e w' => e = .returned (.string (B [115, 108, 116, 117])) ∧ w = w' := by
  go_enter Try.func20, Try.ntmps20
  go_wp2
  go_ret
  exact ⟨rfl, rfl⟩

set_option maxHeartbeats 400000 in
theorem base_22 (w : World) : Calls Try.prog 20 #[.string (B [120, 111, 114, 105])] w fun e w' => e = .returned (.string (B [120, 111, 114])) ∧ w = w' := by
  go_enter Try.func20, Try.ntmps20
  go_wp2
  go_ret
  exact ⟨rfl, rfl⟩

set_option maxHeartbeats 400000 in
theorem base_23 (w : World) : Calls Try.prog 20 #[.string (B [111, 114, 105])] w fun e w' => e = .returned (.string (B [111, 114])) ∧ w = w' := by
  go_enter Try.func20, Try.ntmps20
  go_wp2
  go_ret
  exact ⟨rfl, rfl⟩

set_option maxHeartbeats 400000 in
theorem base_24 (w : World) : Calls Try.prog 20 #[.string (B [97, 110, 100, 105])] w fun e w' => e = .returned (.string (B [97, 110, 100])) ∧ w = w' := by
  go_enter Try.func20, Try.ntmps20
  go_wp2
  go_ret
  exact ⟨rfl, rfl⟩

set_option maxHeartbeats 400000 in
theorem base_25 (w : World) : Calls Try.prog 20 #[.string (B [115, 108, 108, 105])] w fun e w' => e = .returned (.string (B [115, 108, 108])) ∧ w = w' := by
  go_enter Try.func20, Try.ntmps20
  go_wp2
  go_ret
  exact ⟨rfl, rfl⟩

set_option maxHeartbeats 400000 in
theorem base_26 (w : World) : Calls Try.prog 20 #[.string (B [115, 114, 108, 105])] w fun e w' => e = .returned (.string (B [115, 114, 108])) ∧ w = w' := by
  go_enter Try.func20, Try.ntmps20
  go_wp2
  go_ret
  exact ⟨rfl, rfl⟩

set_option maxHeartbeats 400000 in
theorem base_27 (w : World) : Calls Try.prog 20 #[.string (B [115, 114, 97, 105])] w fun e w' => e = .returned (.string (B [115, 114, 97])) ∧ w = w' := by
  go_enter Try.func20, Try.ntmps20
  go_wp2
  go_ret
  exact ⟨rfl, rfl⟩

set_option maxHeartbeats 400000 in
theorem base_28 (w : World) : Calls Try.prog 20 #[.string (B [97, 100, 100])] w fun e w' => e = .returned (.string (B [97, 100, 100])) ∧ w = w' := by
  go_enter Try.func20, Try.ntmps20
  go_wp2
  go_ret
  exact ⟨rfl, rfl⟩

set_option maxHeartbeats 400000 in
theorem base_29 (w : World) : Calls Try.prog 20 #[.string (B [115, 117, 98])] w fun e w' => e = .returned (.string (B [115, 117, 98])) ∧ w = w' := by
  go_enter Try.func20, Try.ntmps20
  go_wp2
  go_ret
  exact ⟨rfl, rfl⟩

set_option maxHeartbeats 400000 in
theorem base_30 (w : World) : Calls Try.prog 20 #[.string (B [115, 108, 108])] w fun e w' => e = .returned (.string (B [115, 108, 108])) ∧ w = w' := by
  go_enter Try.func20, Try.ntmps20
  go_wp2
  go_ret
  exact ⟨rfl, rfl⟩

set_option maxHeartbeats 400000 in
theorem base_31 (w : World) : Calls Try.prog 20 #[.string (B [115, 108, 116])] w fun e w' => e = .returned (.string (B [115, 108, 116])) ∧ w = w' := by
  go_enter Try.func20, Try.ntmps20
  go_wp2
  go_ret
  exact ⟨rfl, rfl⟩

set_option maxHeartbeats 400000 in
theorem base_32 (w : World) : Calls Try.prog 20 #[.string (B [115, 108, 116, 117])] w fun e w' => e = .returned (.string (B [115, 108, 116, 117])) ∧ w = w' := by
  go_enter Try.func20, Try.ntmps20
  go_wp2
  go_ret
  exact ⟨rfl, rfl⟩

set_option maxHeartbeats 400000 in
theorem base_33 (w : World) : Calls Try.prog 20 #[.string (B [120, 111, 114])] w fun e w' => e = .returned (.string (B [120, 111, 114])) ∧ w = w' := by
  go_enter Try.func20, Try.ntmps20
  go_wp2
  go_ret
  exact ⟨rfl, rfl⟩

set_option maxHeartbeats 400000 in
theorem base_34 (w : World) : Calls Try.prog 20 #[.string (B [115, 114, 108])] w fun e w' => e = .returned (.string (B [115, 114, 108])) ∧ w = w' := by
  go_enter Try.func20, Try.ntmps20
  go_wp2
  go_ret
  exact ⟨rfl, rfl⟩

set_option maxHeartbeats 400000 in
theorem base_35 (w : World) : Calls Try.prog 20 #[.string (B [115, 114, 97])] w fun e w' => e = .returned (.string (B [115, 114, 97])) ∧ w = w' := by
  go_enter Try.func20, Try.ntmps20
  go_wp2
  go_ret
  exact ⟨rfl, rfl⟩

set_option maxHeartbeats 400000 in
theorem base_36 (w : World) : Calls Try.prog 20 #[.string (B [111, 114])] w fun e w' => e = .returned (.string (B [111, 114])) ∧ w = w' := by
  go_enter Try.func20, Try.ntmps20
  go_wp2
  go_ret
  exact ⟨rfl, rfl⟩

set_option maxHeartbeats 400000 in
theorem base_37 (w : World) : Calls Try.prog 20 #[.string (B [97, 110, 100])] w fun e w' => e = .returned (.string (B [97, 110, 100])) ∧ w = w' := by
  go_enter Try.func20, Try.ntmps20
  go_wp2
  go_ret
  exact ⟨rfl, rfl⟩

set_option maxHeartbeats 400000 in
theorem base_38 (w : World) : Calls Try.prog 20 #[.string (B [102, 101, 110, 99, 101])] w fun e w' => e = .returned (.string (B [102, 101, 110, 99, 101])) ∧ w = w' := by
  go_enter Try.func20, Try.ntmps20
  go_wp2
  go_ret
  exact ⟨rfl, rfl⟩

set_option maxHeartbeats 400000 in
theorem base_39 (w : World) : Calls Try.prog 20 #[.string (B [101, 99, 97, 108, 108])] w fun e w' => e = .returned (.string (B [101, 99, 97, 108, 108])) ∧ w = w' := by
  go_enter Try.func20, Try.ntmps20
  go_wp2
  go_ret
  exact ⟨rfl, rfl⟩

set_option maxHeartbeats 400000 in
theorem base_40 (w : World) : Calls Try.prog 20 #[.string (B [101, 98, 114, 101, 97, 107])] w fun e w' => e = .returned (.string (B [101, 98, 114, 101, 97, 107])) ∧ w = w' := by
  go_enter Try.func20, Try.ntmps20
  go_wp2
  go_ret
  exact ⟨rfl, rfl⟩

set_option maxHeartbeats 400000 in
theorem base_41 (w : World) : Calls Try.prog 20 #[.string (B [109, 117, 108])] w fun e w' => e = .returned (.string (B [109, 117, 108])) ∧ w = w' := by
  go_enter Try.func20, Try.ntmps20
  go_wp2
  go_ret
  exact ⟨rfl, rfl⟩

set_option maxHeartbeats 400000 in
theorem base_42 (w : World) : Calls Try.prog 20 #[.string (B [109, 117, 108, 104])] w fun e w' => e = .returned (.string (B [109, 117, 108, 104])) ∧ w = w' := by
  go_enter Try.func20, Try.ntmps20
  go_wp2
  go_ret
  exact ⟨rfl, rfl⟩

set_option maxHeartbeats 400000 in
theorem base_43 (w : World) : Calls Try.prog 20 #[.string (B [109, 117, 108, 104, 115, 117])] w fun e w' => e = .returned (.string (B [109, 117, 108, 104, 115, 117])) ∧ w = w' := by
  go_enter Try.func20, Try.ntmps20
  go_wp2
  go_ret
  exact ⟨rfl, rfl⟩

set_option maxHeartbeats 400000 in
theorem base_44 (w : World) : Calls Try.prog 20 #[.string (B [109, 117, 108, 104, 117])] w fun e w' => e = .returned (.string (B [109, 117, 108, 104, 117])) ∧ w = w' := by
  go_enter Try.func20, Try.ntmps20
  go_wp2
  go_ret
  exact ⟨rfl, rfl⟩

set_option maxHeartbeats 400000 in
theorem base_45 (w : World) : Calls Try.prog 20 #[.string (B [100, 105, 118])] w fun e w' => e = .returned (.string (B [100, 105, 118])) ∧ w = w' := by
  go_enter Try.func20, Try.ntmps20
  go_wp2
  go_ret
  exact ⟨rfl, rfl⟩

set_option maxHeartbeats 400000 in
theorem base_46 (w : World) : Calls Try.prog 20 #[.string (B [100, 105, 118, 117])] w fun e w' => e = .returned (.string (B [100, 105, 118, 117])) ∧ w = w' := by
  go_enter Try.func20, Try.ntmps20
  go_wp2
  go_ret
  exact ⟨rfl, rfl⟩

set_option maxHeartbeats 400000 in
theorem base_47 (w : World) : Calls Try.prog 20 #[.string (B [114, 101, 109])] w fun e w' => e = .returned (.string (B [114, 101, 109])) ∧ w = w' := by
  go_enter Try.func20, Try.ntmps20
  go_wp2
  go_ret
  exact ⟨rfl, rfl⟩

set_option maxHeartbeats 400000 in
theorem base_48 (w : World) : Calls Try.prog 20 #[.string (B [114, 101, 109, 117])] w fun e w' => e = .returned (.string (B [114, 101, 109, 117])) ∧ w = w' := by
  go_enter Try.func20, Try.ntmps20
  go_wp2
  go_ret
  exact ⟨rfl, rfl⟩

end Go.Proofs.Ytmobkjdbjgopgaa
