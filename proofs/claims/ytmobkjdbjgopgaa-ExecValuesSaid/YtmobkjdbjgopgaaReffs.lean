/- Contracts of package typecaseref06: shifted. -/
import Derived.Test.YtmobkjdbjgopgaaReff
namespace Go.Proofs.Ytmobkjdbjgopgaa
open Go.RowKit
set_option linter.unusedVariables false
set_option linter.unusedSimpArgs false

/-- A word, moved by one, k times. -/
def shf (up keep : Bool) (a : Int) : Nat → Int
  | 0 => a
  | k + 1 => if up = true then 2 * shf up keep a k % 4294967296 else if keep = true then shf up keep a k / 2 + shf up keep a k / 2147483648 * 2147483648 else shf up keep a k / 2

theorem shf_bd (up keep : Bool) (a : Int) (a1 : 0 ≤ a) (a2 : a < 4294967296) (k : Nat) : 0 ≤ shf up keep a k ∧ shf up keep a k < 4294967296 := by
  induction k with
  | zero => exact ⟨a1, a2⟩
  | succ k ih =>
    have e : shf up keep a (k + 1) = if up = true then 2 * shf up keep a k % 4294967296 else if keep = true then shf up keep a k / 2 + shf up keep a k / 2147483648 * 2147483648 else shf up keep a k / 2 := rfl
    rw [e]; split
    · omega
    · split <;> omega

theorem shf_up (a : Int) (a1 : 0 ≤ a) (a2 : a < 4294967296) (keep : Bool) (k : Nat) : shf true keep a k = a * 2 ^ k % 4294967296 := by
  induction k with
  | zero => simp [shf]; omega
  | succ k ih =>
    have e : shf true keep a (k + 1) = 2 * shf true keep a k % 4294967296 := rfl
    rw [e, ih, Int.pow_succ, Int.mul_emod, Int.emod_emod, ← Int.mul_emod]
    congr 1
    rw [Int.mul_comm, Int.mul_assoc]

theorem shf_down (a : Int) (k : Nat) : shf false false a k = a / 2 ^ k := by
  induction k with
  | zero => simp [shf]
  | succ k ih =>
    have e : shf false false a (k + 1) = shf false false a k / 2 := rfl
    rw [e, ih, Int.pow_succ, Int.ediv_ediv_of_nonneg (Int.le_of_lt (pow_pos' k))]

theorem shf_keep (a : Int) (a1 : 0 ≤ a) (a2 : a < 4294967296) (k : Nat) : shf false true a k = wrap32 a / 2 ^ k % 4294967296 := by
  have hw : -2147483648 ≤ wrap32 a ∧ wrap32 a ≤ 2147483647 ∧ wrap32 a % 4294967296 = a := by unfold wrap32; omega
  obtain ⟨w1, w2, w3⟩ := hw
  have hr : ∀ k : Nat, -2147483648 ≤ wrap32 a / 2 ^ k ∧ wrap32 a / 2 ^ k ≤ 2147483647 := by
    intro k
    induction k with
    | zero => simp; omega
    | succ k ih =>
      have e : wrap32 a / 2 ^ (k + 1) = wrap32 a / 2 ^ k / 2 := by rw [Int.pow_succ, Int.ediv_ediv_of_nonneg (Int.le_of_lt (pow_pos' k))]
      rw [e]; omega
  induction k with
  | zero => simp [shf]; omega
  | succ k ih =>
    have e : shf false true a (k + 1) = shf false true a k / 2 + shf false true a k / 2147483648 * 2147483648 := rfl
    have e2 : wrap32 a / 2 ^ (k + 1) = wrap32 a / 2 ^ k / 2 := by rw [Int.pow_succ, Int.ediv_ediv_of_nonneg (Int.le_of_lt (pow_pos' k))]
    obtain ⟨r1, r2⟩ := hr k
    rw [e, ih, e2]
    generalize wrap32 a / 2 ^ k = q at *
    omega

set_option maxHeartbeats 2000000 in
theorem rshifted_any (up keep : Bool) (a n : Int) (w : World) (a1 : 0 ≤ a) (a2 : a < 4294967296) (n1 : 0 ≤ n) (n2 : n < 4294967296) :
    Calls Try.prog 25 #[.int .u32 a, .int .u32 n, .bool up, .bool keep] w fun e w' => e = .returned (.int .u32 (shf up keep a (n % 32).toNat)) ∧ w = w' := by
  obtain ⟨m, hm⟩ := Int.eq_ofNat_of_zero_le (show 0 ≤ n % 32 by omega)
  have hm32 : m < 32 := by omega
  have HM := Lib.hid hm
  clear hm
  have HB := Lib.hid (fun k => shf_bd up keep a a1 a2 k)
  have hnm := HM.out
  go_enter Try.func25, Try.ntmps25
  go_wp2
  go_loop [0, 9] (fun x i => ∃ k : Nat, k ≤ m ∧ i = .int .u32 k ∧ x = .int .u32 (shf up keep a k)) (fun _ i => m - (intOf i).toNat)
  case atStart => exact ⟨0, by omega, rfl, rfl⟩
  case round =>
    obtain ⟨k, hk, rfl, rfl⟩ := hrel
    obtain ⟨o1, o2⟩ := HB.out k
    by_cases hlt : k < m
    · have HS := Lib.hid (show shf up keep a (k + 1) = if up = true then 2 * shf up keep a k % 4294967296 else if keep = true then shf up keep a k / 2 + shf up keep a k / 2147483648 * 2147483648 else shf up keep a k / 2 from rfl)
      generalize shf up keep a k = s at *
      have d1 : decide ((k : Int) < m) = true := by simp; omega
      have s1 : 0 ≤ s / 2147483648 := by omega
      have s2 : s / 2147483648 ≤ 1 := by omega
      cases up <;> cases keep
      all_goals
        simp only [reduceCtorEq, if_true, if_false] at HS
        go_wp2
        go_round
        case rel => exact ⟨k + 1, by omega, by go_num, congrArg _ (by first | exact HS.out.symm | (rw [HS.out]; omega))⟩
        case measure => simp [intOf]; omega
    · have e : k = m := by omega
      have HE : Hid (shf up keep a k = shf up keep a m) := by
        show _ = _
        rw [e]
      have d1 : decide ((k : Int) < m) = false := by simp; omega
      clear e
      generalize shf up keep a k = s at *
      go_wp2
      go_ret
      exact ⟨ret_u32 HE.out, rfl⟩

end Go.Proofs.Ytmobkjdbjgopgaa
