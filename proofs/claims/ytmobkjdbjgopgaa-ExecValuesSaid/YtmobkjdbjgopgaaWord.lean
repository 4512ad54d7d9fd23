/- Contracts of package word: each function returns what its plain Lean form says. -/
import Derived.Test.YtmobkjdbjgopgaaFrame
import Derived.Test.YtmobkjdbjgopgaaPlain
namespace Go.Proofs.Ytmobkjdbjgopgaa
open Go.RowKit
set_option linter.unusedVariables false

set_option maxHeartbeats 400000 in
theorem within_any (x a b : Int) (w : World) :
    Calls Try.prog 61 #[.int .i64 x, .int .i64 a, .int .i64 b] w fun e w' => e = .returned (.int .i64 (min (max x a) b)) ∧ w = w' := by
  go_enter Try.func61, Try.ntmps61
  go_wp2
  all_goals
    go_ret
    refine ⟨congrArg _ ?_, rfl⟩
    show Value.int IntKind.i64 _ = _
    congr 1
    first | rfl | (split at * <;> omega) | omega

set_option maxHeartbeats 400000 in
theorem sign_any (x n : Int) (w : World) (hx : 0 ≤ x) (hx' : x < 4294967296) :
    Calls Try.prog 58 #[.int .u32 x, .int .i64 n] w fun e w' => e = .returned (.int .i32 (sgn x (cl n))) ∧ w = w' := by
  have H := Lib.hid (sign_spell x (cl n) (cl_le n))
  have hk : (32 - min (max n 0) 32).toNat = 32 - cl n := by unfold cl; omega
  have K := Lib.hid hk
  clear hk
  go_enter Try.func58, Try.ntmps58
  go_wp2_with (go_at_call 61; refine (within_any _ _ _ _).mono ?_; rintro e w' ⟨rfl, rfl⟩)
  go_ret
  exact ⟨congrArg (fun v => Ending.returned (.int .i32 v)) (by rw [K.out]; exact H.out), rfl⟩

theorem sign_in (x n : Int) (w : World) (hx : 0 ≤ x) (hx' : x < 4294967296) (hn : 0 ≤ n) (hn' : n ≤ 32) :
    Calls Try.prog 58 #[.int .u32 x, .int .i64 n] w fun e w' => e = .returned (.int .i32 (sgn x n.toNat)) ∧ w = w' := by
  have h2 : cl n = n.toNat := by unfold cl; omega
  rw [← h2]
  exact sign_any x n w hx hx'

set_option maxHeartbeats 400000 in
theorem fits_any (x n : Int) (w : World) (hx : -2147483648 ≤ x) (hx' : x ≤ 2147483647) :
    Calls Try.prog 49 #[.int .i32 x, .int .i64 n] w fun e w' => e = .returned (.bool (sgn (x % 4294967296) (cl n) == x)) ∧ w = w' := by
  go_enter Try.func49, Try.ntmps49
  go_wp2_with (go_at_call 58; refine (sign_any _ _ _ (by omega) (by omega)).mono ?_; rintro e w' ⟨rfl, rfl⟩)
  go_ret
  exact ⟨rfl, rfl⟩

set_option maxHeartbeats 400000 in
theorem mulh_any (a b : Int) (sa sb : Bool) (w : World) (ha : 0 ≤ a) (ha' : a < 4294967296) (hb : 0 ≤ b) (hb' : b < 4294967296) :
    Calls Try.prog 52 #[.int .u32 a, .int .u32 b, .bool sa, .bool sb] w fun e w' => e = .returned (.int .u32 (mulh a b sa sb)) ∧ w = w' := by
  have H := Lib.hid (mul_u64 a b ha ha' hb hb')
  cases sa <;> cases sb
  all_goals
    go_enter Try.func52, Try.ntmps52
    go_wp2
  all_goals
    go_ret
    refine ⟨ret_u32 (?_ : _ = _), rfl⟩
    rw [H.out]
    try simp only [wrap32] at *
    first | exact mulh_ff a b ha hb | exact mulh_ft a b (by omega) | exact mulh_ft' a b (by omega) | exact mulh_tf a b (by omega) | exact mulh_tf' a b (by omega) | exact mulh_tt1 a b (by omega) (by omega) | exact mulh_tt2 a b (by omega) (by omega) | exact mulh_tt3 a b (by omega) (by omega) | exact mulh_tt4 a b (by omega) (by omega)

set_option maxHeartbeats 400000 in
theorem divide_any (a b : Int) (s : Bool) (w : World) (ha : 0 ≤ a) (ha' : a < 4294967296) (hb : 0 ≤ b) (hb' : b < 4294967296) :
    Calls Try.prog 59 #[.int .u32 a, .int .u32 b, .bool s] w fun e w' => e = .returned (.tuple #[.int .u32 (dv a b s), .int .u32 (rm a b s)]) ∧ ∃ n, w' = w.drewN n := by
  by_cases h0 : b = 0
  · subst h0
    cases s
    all_goals
      go_enter Try.func59, Try.ntmps59
      go_wp2
      go_ret2
      exact ⟨rfl, 0, rfl⟩
  have h1 : (b == 0) = false := by simpa using h0
  have h2 : ¬ wrap32 b = 0 := by simp only [wrap32]; omega
  cases s
  · go_enter Try.func59, Try.ntmps59
    go_wp2
    go_quiet (fail)
    go_wp2
    go_ret2
    exact ⟨ret2_u32 (div_uu a b ha ha' hb h0) (rem_uu a b ha ha' hb h0), _, rfl⟩
  · by_cases h3 : a = 2147483648 ∧ b = 4294967295
    · obtain ⟨rfl, rfl⟩ := h3
      go_enter Try.func59, Try.ntmps59
      go_wp2
      go_ret2
      exact ⟨rfl, 0, rfl⟩
    · go_enter Try.func59, Try.ntmps59
      go_wp2
      all_goals
        go_quiet (fail)
        go_wp2
        go_ret2
        first
          | exact ⟨ret2_u32 (div_ss a b ha ha' hb hb' h0) (rem_ss a b ha ha' hb hb' h0), _, rfl⟩
          | (have e : a = 2147483648 := by assumption
             rw [e]
             exact ⟨ret2_u32 (div_ss 2147483648 b (by omega) (by omega) hb hb' h0) (rem_ss 2147483648 b (by omega) (by omega) hb hb' h0), _, rfl⟩)

set_option maxHeartbeats 400000 in
theorem div_any (a b : Int) (s : Bool) (w : World) (ha : 0 ≤ a) (ha' : a < 4294967296) (hb : 0 ≤ b) (hb' : b < 4294967296) :
    Calls Try.prog 54 #[.int .u32 a, .int .u32 b, .bool s] w fun e w' => e = .returned (.int .u32 (dv a b s)) ∧ ∃ n, w' = w.drewN n := by
  go_enter Try.func54, Try.ntmps54
  go_wp2_with (go_at_call 59; refine (divide_any _ _ _ _ ha ha' hb hb').mono ?_; rintro e w' ⟨rfl, n, rfl⟩)
  go_ret
  exact ⟨rfl, _, rfl⟩

set_option maxHeartbeats 400000 in
theorem rem_any (a b : Int) (s : Bool) (w : World) (ha : 0 ≤ a) (ha' : a < 4294967296) (hb : 0 ≤ b) (hb' : b < 4294967296) :
    Calls Try.prog 56 #[.int .u32 a, .int .u32 b, .bool s] w fun e w' => e = .returned (.int .u32 (rm a b s)) ∧ ∃ n, w' = w.drewN n := by
  go_enter Try.func56, Try.ntmps56
  go_wp2_with (go_at_call 59; refine (divide_any _ _ _ _ ha ha' hb hb').mono ?_; rintro e w' ⟨rfl, n, rfl⟩)
  go_ret
  exact ⟨rfl, _, rfl⟩

end Go.Proofs.Ytmobkjdbjgopgaa
