/- Contracts of package typecaseref01: each function returns what its plain Lean form says. -/
import Derived.Test.YtdgmdkkockbkjaaGreatDoorWord
namespace Go.Proofs.YtdgmdkkockbkjaaGreatDoor
open Go.RowKit
set_option linter.unusedVariables false

set_option maxHeartbeats 400000 in
theorem rheld_any (n : Int) (w : World) :
    Calls Tryz.prog 79 #[.int .i64 n] w fun e w' => e = .returned (.int .i64 (cl n)) ∧ w = w' := by
  go_enter Tryz.func79, Tryz.ntmps79
  go_wp2
  all_goals
    go_ret
    exact ⟨ret_i64 (by unfold cl; omega), rfl⟩

set_option maxHeartbeats 400000 in
theorem rbit_any (x i : Int) (w : World) (hx : 0 ≤ x) (hx' : x < 4294967296) :
    Calls Tryz.prog 80 #[.int .u32 x, .int .i64 i] w fun e w' => e = .returned (.int .u32 (fld x i.toNat 1)) ∧ w = w' := by
  go_enter Tryz.func80, Tryz.ntmps80
  go_wp2
  go_loop [0, 5] (fun v j => ∃ k : Nat, k ≤ 40 ∧ (k : Int) ≤ max i 0 ∧ j = .int .i64 k ∧ v = .int .u32 (x / 2 ^ k)) (fun _ j => 40 - (intOf j).toNat)
  case atStart => exact ⟨0, by omega, by omega, rfl, by simp⟩
  case round =>
    obtain ⟨k, hk, hki, rfl, rfl⟩ := hrel
    have hd := div_pow_bd x k hx hx'
    obtain ⟨hd1, hd2⟩ := hd
    have HS := Lib.hid (div_succ x k)
    have HE := Lib.hid (bit_end x i k hx hx' hk hki)
    by_cases h1 : (k : Int) < i
    · by_cases h2 : k < 40
      · go_wp2
        go_round
        case rel => exact ⟨k + 1, by omega, by omega, by go_num, by rw [← HS.out]⟩
        case measure => simp [intOf]; omega
      · have hd2 : decide (k < 40) = false := by simpa using h2
        go_wp2
        go_ret
        exact ⟨ret_u32 (HE.out (by omega)), rfl⟩
    · have hd1 : decide ((k : Int) < i) = false := by simpa using h1
      go_wp2
      go_ret
      exact ⟨ret_u32 (HE.out (by omega)), rfl⟩

set_option maxHeartbeats 1000000 in
theorem rfield_any (x l n : Int) (w : World) (hx : 0 ≤ x) (hx' : x < 4294967296) :
    Calls Tryz.prog 78 #[.int .u32 x, .int .i64 l, .int .i64 n] w fun e w' => e = .returned (.int .u32 (fld x (cl l) (cl n))) ∧ w = w' := by
  have hn := cl_le n
  have hL := Lib.hid (show cl l = (min (max l 0) 32).toNat from rfl)
  rcases (by omega : l < 0 ∨ 32 < l ∨ (0 ≤ l ∧ l ≤ 32)) with h | h | ⟨h, h'⟩
  all_goals
    go_enter Tryz.func78, Tryz.ntmps78
    go_wp2
    go_loop [7, 8, 9] (fun o u j => ∃ k : Nat, k ≤ cl n ∧ j = .int .i64 k ∧ o = .int .u32 (fld x (cl l) k) ∧ u = .int .u32 (2 ^ k % 4294967296)) (fun _ _ j => 33 - (intOf j).toNat)
    case atStart => exact ⟨0, by omega, rfl, by simp [fld], rfl⟩
    case round =>
      obtain ⟨k, hk, rfl, rfl, rfl⟩ := hrel
      by_cases hlt : k < cl n
      · go_wp2_with (first | (go_at_call 79; refine (rheld_any _ _).mono ?_; rintro e w' ⟨rfl, rfl⟩) | (go_at_call 80; refine (rbit_any _ _ _ hx hx').mono ?_; rintro e w' ⟨rfl, rfl⟩))
        go_round
        case rel => exact ⟨k + 1, by omega, by go_num, congrArg _ (field_step x _ k _ (by omega) (by rw [hL.out]; omega)), congrArg _ (unit_step k)⟩
        case measure => simp [intOf]; omega
      · go_wp2_with (first | (go_at_call 79; refine (rheld_any _ _).mono ?_; rintro e w' ⟨rfl, rfl⟩) | (go_at_call 80; refine (rbit_any _ _ _ hx hx').mono ?_; rintro e w' ⟨rfl, rfl⟩))
        go_ret
        have e : k = cl n := by omega
        exact ⟨ret_u32 (by rw [e]), rfl⟩

theorem rfield_in (x l n : Int) (w : World) (hx : 0 ≤ x) (hx' : x < 4294967296) (hl : 0 ≤ l) (hl' : l ≤ 32) (hn : 0 ≤ n) (hn' : n ≤ 32) :
    Calls Tryz.prog 78 #[.int .u32 x, .int .i64 l, .int .i64 n] w fun e w' => e = .returned (.int .u32 (fld x l.toNat n.toNat)) ∧ w = w' := by
  have h1 : cl l = l.toNat := by unfold cl; omega
  have h2 : cl n = n.toNat := by unfold cl; omega
  rw [← h1, ← h2]
  exact rfield_any x l n w hx hx'

set_option maxHeartbeats 1000000 in
theorem rsign_any (x n : Int) (w : World) (hx : 0 ≤ x) (hx' : x < 4294967296) :
    Calls Tryz.prog 50 #[.int .u32 x, .int .i64 n] w fun e w' => e = .returned (.int .i32 (sgn x (cl n))) ∧ w = w' := by
  have hn := cl_le n
  have hf := fld_nonneg x 0 (cl n)
  have hf' := fld_u32 x 0 (cl n) hn
  by_cases h0 : cl n = 0
  · have hz : (((cl n : Nat) : Int) == 0) = true := by simpa using h0
    have H0 := Lib.hid h0
    clear h0
    go_enter Tryz.func50, Tryz.ntmps50
    go_wp2_with (first | (go_at_call 79; refine (rheld_any _ _).mono ?_; rintro e w' ⟨rfl, rfl⟩))
    go_ret
    exact ⟨ret_i32 (by rw [H0.out, sgn_zero]), rfl⟩
  have hz : (((cl n : Nat) : Int) == 0) = false := by simpa using h0
  rcases bit01 x (cl n - 1) with hb | hb
  · have hb' : (fld x (cl n - 1) 1 == 1) = false := by rw [hb]; rfl
    have HS := Lib.hid (sgn_lo x (cl n) (by omega) hn hb)
    clear hb
    go_enter Tryz.func50, Tryz.ntmps50
    go_wp2_with (first | (go_at_call 79; refine (rheld_any _ _).mono ?_; rintro e w' ⟨rfl, rfl⟩) | (go_at_call 78; refine (rfield_in _ _ _ _ hx hx' (by omega) (by omega) (by omega) (by omega)).mono ?_; rintro e w' ⟨rfl, rfl⟩) | (go_at_call 80; refine (rbit_any _ _ _ hx hx').mono ?_; rintro e w' ⟨rfl, rfl⟩))
    go_ret
    exact ⟨ret_i32 HS.out, rfl⟩
  · have hb' : (fld x (cl n - 1) 1 == 1) = true := by rw [hb]; rfl
    have HS := Lib.hid (sgn_hi x (cl n) (by omega) hn hb)
    clear hb
    go_enter Tryz.func50, Tryz.ntmps50
    go_wp2_with (first | (go_at_call 79; refine (rheld_any _ _).mono ?_; rintro e w' ⟨rfl, rfl⟩) | (go_at_call 78; refine (rfield_in _ _ _ _ hx hx' (by omega) (by omega) (by omega) (by omega)).mono ?_; rintro e w' ⟨rfl, rfl⟩) | (go_at_call 80; refine (rbit_any _ _ _ hx hx').mono ?_; rintro e w' ⟨rfl, rfl⟩))
    go_loop [6, 7] (fun u j => ∃ k : Nat, k ≤ cl n ∧ j = .int .i64 k ∧ u = .int .i64 (2 ^ k)) (fun _ j => 33 - (intOf j).toNat)
    case atStart => exact ⟨0, by omega, rfl, rfl⟩
    case round =>
      obtain ⟨k, hk, rfl, rfl⟩ := hrel
      have hp := pow_pos' k
      have hq := pow_le32 k (by omega)
      by_cases hlt : k < cl n
      · go_wp2
        go_round
        case rel => exact ⟨k + 1, by omega, by go_num, congrArg _ (by rw [Int.pow_succ]; omega)⟩
        case measure => simp [intOf]; omega
      · go_wp2
        go_ret
        have e : k = cl n := by omega
        exact ⟨ret_i32 (by rw [e]; exact HS.out), rfl⟩

theorem rsign_in (x n : Int) (w : World) (hx : 0 ≤ x) (hx' : x < 4294967296) (hn : 0 ≤ n) (hn' : n ≤ 32) :
    Calls Tryz.prog 50 #[.int .u32 x, .int .i64 n] w fun e w' => e = .returned (.int .i32 (sgn x n.toNat)) ∧ w = w' := by
  have h2 : cl n = n.toNat := by unfold cl; omega
  rw [← h2]
  exact rsign_any x n w hx hx'

set_option maxHeartbeats 400000 in
theorem rhi_any (x : Int) (w : World) (hx : 0 ≤ x) (hx' : x < 4294967296) :
    Calls Tryz.prog 49 #[.int .u32 x] w fun e w' => e = .returned (.int .u32 (hi x)) ∧ w = w' := by
  have HS := Lib.hid (rhi_spell x)
  go_enter Tryz.func49, Tryz.ntmps49
  go_wp2_with (first | (go_at_call 50; refine (rsign_in _ _ _ hx hx' (by omega) (by omega)).mono ?_; rintro e w' ⟨rfl, rfl⟩) | (go_at_call 78; refine (rfield_in _ _ _ _ (by omega) (by omega) (by omega) (by omega) (by omega) (by omega)).mono ?_; rintro e w' ⟨rfl, rfl⟩))
  go_ret
  exact ⟨ret_u32 HS.out, rfl⟩

end Go.Proofs.YtdgmdkkockbkjaaGreatDoor
