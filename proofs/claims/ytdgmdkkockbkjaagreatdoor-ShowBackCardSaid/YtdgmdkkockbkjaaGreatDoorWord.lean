/- Contracts of package word: each function returns what its plain Lean form says. -/
import Derived.Test.YtdgmdkkockbkjaaGreatDoorFrame
import Derived.Test.YtdgmdkkockbkjaaGreatDoorPlain
namespace Go.Proofs.YtdgmdkkockbkjaaGreatDoor
open Go.RowKit
set_option linter.unusedVariables false

set_option maxHeartbeats 400000 in
theorem within_any (x a b : Int) (w : World) :
    Calls Tryz.prog 91 #[.int .i64 x, .int .i64 a, .int .i64 b] w fun e w' => e = .returned (.int .i64 (min (max x a) b)) ∧ w = w' := by
  go_enter Tryz.func91, Tryz.ntmps91
  go_wp2
  all_goals
    go_ret
    refine ⟨congrArg _ ?_, rfl⟩
    show Value.int IntKind.i64 _ = _
    congr 1
    first | rfl | (split at * <;> omega) | omega

set_option maxHeartbeats 400000 in
theorem sign_any (x n : Int) (w : World) (hx : 0 ≤ x) (hx' : x < 4294967296) :
    Calls Tryz.prog 81 #[.int .u32 x, .int .i64 n] w fun e w' => e = .returned (.int .i32 (sgn x (cl n))) ∧ w = w' := by
  have H := Lib.hid (sign_spell x (cl n) (cl_le n))
  have hk : (32 - min (max n 0) 32).toNat = 32 - cl n := by unfold cl; omega
  have K := Lib.hid hk
  clear hk
  go_enter Tryz.func81, Tryz.ntmps81
  go_wp2_with (go_at_call 91; refine (within_any _ _ _ _).mono ?_; rintro e w' ⟨rfl, rfl⟩)
  go_ret
  exact ⟨congrArg (fun v => Ending.returned (.int .i32 v)) (by rw [K.out]; exact H.out), rfl⟩

theorem sign_in (x n : Int) (w : World) (hx : 0 ≤ x) (hx' : x < 4294967296) (hn : 0 ≤ n) (hn' : n ≤ 32) :
    Calls Tryz.prog 81 #[.int .u32 x, .int .i64 n] w fun e w' => e = .returned (.int .i32 (sgn x n.toNat)) ∧ w = w' := by
  have h2 : cl n = n.toNat := by unfold cl; omega
  rw [← h2]
  exact sign_any x n w hx hx'

set_option maxHeartbeats 400000 in
theorem fits_any (x n : Int) (w : World) (hx : -2147483648 ≤ x) (hx' : x ≤ 2147483647) :
    Calls Tryz.prog 53 #[.int .i32 x, .int .i64 n] w fun e w' => e = .returned (.bool (sgn (x % 4294967296) (cl n) == x)) ∧ w = w' := by
  go_enter Tryz.func53, Tryz.ntmps53
  go_wp2_with (go_at_call 81; refine (sign_any _ _ _ (by omega) (by omega)).mono ?_; rintro e w' ⟨rfl, rfl⟩)
  go_ret
  exact ⟨rfl, rfl⟩

end Go.Proofs.YtdgmdkkockbkjaaGreatDoor
