/- Contracts of package word: each function returns what its plain Lean form says. -/
import Derived.Test.YtcdjabfhmhibjaaFrame
import Derived.Test.YtcdjabfhmhibjaaPlain
namespace Go.Proofs.Ytcdjabfhmhibjaa
open Go.RowKit
set_option linter.unusedVariables false

set_option maxHeartbeats 400000 in
theorem within_any (x a b : Int) (w : World) :
    Calls Try.prog 35 #[.int .i64 x, .int .i64 a, .int .i64 b] w fun e w' => e = .returned (.int .i64 (min (max x a) b)) ∧ w = w' := by
  go_enter Try.func35, Try.ntmps35
  go_wp2
  all_goals
    go_ret
    refine ⟨congrArg _ ?_, rfl⟩
    show Value.int IntKind.i64 _ = _
    congr 1
    first | rfl | (split at * <;> omega) | omega

set_option maxHeartbeats 400000 in
theorem field_any (x l n : Int) (w : World) (hx : 0 ≤ x) (hx' : x < 4294967296) :
    Calls Try.prog 34 #[.int .u32 x, .int .i64 l, .int .i64 n] w fun e w' => e = .returned (.int .u32 (fld x (cl l) (cl n))) ∧ w = w' := by
  have H := Lib.hid (field_spell x (cl l) (cl n) hx hx' (cl_le n))
  go_enter Try.func34, Try.ntmps34
  go_wp2_with (go_at_call 35; refine (within_any _ _ _ _).mono ?_; rintro e w' ⟨rfl, rfl⟩)
  go_ret
  exact ⟨congrArg (fun v => Ending.returned (.int .u32 v)) H.out, rfl⟩

set_option maxHeartbeats 400000 in
theorem sign_any (x n : Int) (w : World) (hx : 0 ≤ x) (hx' : x < 4294967296) :
    Calls Try.prog 21 #[.int .u32 x, .int .i64 n] w fun e w' => e = .returned (.int .i32 (sgn x (cl n))) ∧ w = w' := by
  have H := Lib.hid (sign_spell x (cl n) (cl_le n))
  have hk : (32 - min (max n 0) 32).toNat = 32 - cl n := by unfold cl; omega
  have K := Lib.hid hk
  clear hk
  go_enter Try.func21, Try.ntmps21
  go_wp2_with (go_at_call 35; refine (within_any _ _ _ _).mono ?_; rintro e w' ⟨rfl, rfl⟩)
  go_ret
  exact ⟨congrArg (fun v => Ending.returned (.int .i32 v)) (by rw [K.out]; exact H.out), rfl⟩

theorem field_in (x l n : Int) (w : World) (hx : 0 ≤ x) (hx' : x < 4294967296) (hl : 0 ≤ l) (hl' : l ≤ 32) (hn : 0 ≤ n) (hn' : n ≤ 32) :
    Calls Try.prog 34 #[.int .u32 x, .int .i64 l, .int .i64 n] w fun e w' => e = .returned (.int .u32 (fld x l.toNat n.toNat)) ∧ w = w' := by
  have h1 : cl l = l.toNat := by unfold cl; omega
  have h2 : cl n = n.toNat := by unfold cl; omega
  rw [← h1, ← h2]
  exact field_any x l n w hx hx'

theorem sign_in (x n : Int) (w : World) (hx : 0 ≤ x) (hx' : x < 4294967296) (hn : 0 ≤ n) (hn' : n ≤ 32) :
    Calls Try.prog 21 #[.int .u32 x, .int .i64 n] w fun e w' => e = .returned (.int .i32 (sgn x n.toNat)) ∧ w = w' := by
  have h2 : cl n = n.toNat := by unfold cl; omega
  rw [← h2]
  exact sign_any x n w hx hx'

end Go.Proofs.Ytcdjabfhmhibjaa
