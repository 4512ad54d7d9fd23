/- The walks of the laws of typecaselaw01. -/
import Derived.Test.YtaeobnhildiibaaAwakea
import Derived.OpenShut
namespace Go.Proofs.Ytaeobnhildiibaa
open Go.RowKit
set_option linter.unusedVariables false

theorem halves1 (x : Int) : (lo x == sgn x 12) = true := by simp [lo]
theorem halves2 (x : Int) : hi x < 1048576 := by unfold hi; omega
theorem halves3 (x : Int) (h : 0 ≤ x) (h' : x ≤ 4294967295) : ((hi x * 4096 + lo x) % 4294967296 == x) = true := by
  rw [beq_iff_eq]
  unfold hi lo sgn
  rw [Int.bmod_def]
  have : ((2 ^ 12 : Nat) : Int) = 4096 := by decide
  rw [this]
  split <;> omega
set_option maxHeartbeats 400000 in
theorem WordHalves_walk (x : Int) (w0 : (Lit.int .u32 x).wf = true) (w : World) :
    Calls Try.prog 3 #[.int .u32 x] w fun e w' => e = .returned (.bool true) ∧ Grown w w' := by
  obtain ⟨hx, hx'⟩ := bounds_u32 w0
  have h1 := halves1 x
  have h2 := halves2 x
  have h3 : 0 ≤ hi x := by unfold hi; omega
  have h4 := halves3 x hx hx'
  go_enter Try.func3, Try.ntmps3
  go_wp2_with (first | (go_at_call 9; refine (awakea_any _).mono ?_; rintro e w' ⟨rfl, n0, rfl⟩) | (go_at_call 10; refine (hi_any _ _ (by omega) (by omega)).mono ?_; rintro e w' ⟨rfl, rfl⟩) | (go_at_call 11; refine (rhi_any _ _ (by omega) (by omega)).mono ?_; rintro e w' ⟨rfl, rfl⟩) | (go_at_call 12; refine (lo_any _ _ (by omega) (by omega)).mono ?_; rintro e w' ⟨rfl, rfl⟩) | (go_at_call 13; refine (rsign_in _ _ _ (by omega) (by omega) (by omega) (by omega)).mono ?_; rintro e w' ⟨rfl, rfl⟩))
  go_ret
  exact ⟨rfl, Grown.refl _⟩

theorem wrap32_bd (x : Int) : -2147483648 ≤ wrap32 x ∧ wrap32 x ≤ 2147483647 := by unfold wrap32; omega
set_option maxHeartbeats 400000 in
theorem WordFields_walk (x l n : Int) (w0 : (Lit.int .u32 x).wf = true) (w1 : (Lit.int .i64 l).wf = true) (w2 : (Lit.int .i64 n).wf = true) (w : World) :
    Calls Try.prog 5 #[.int .u32 x, .int .i64 l, .int .i64 n] w fun e w' => e = .returned (.bool true) ∧ Grown w w' := by
  obtain ⟨hx, hx'⟩ := bounds_u32 w0
  obtain ⟨hw, hw'⟩ := wrap32_bd x
  have he : wrap32 x % 4294967296 = x := by rw [wrap32_u32]; omega
  clear w1 w2
  go_enter Try.func5, Try.ntmps5
  go_wp2_with (first | (go_at_call 9; refine (awakea_any _).mono ?_; rintro e w' ⟨rfl, n0, rfl⟩) | (go_at_call 15; refine (sign_any _ _ _ (by omega) (by omega)).mono ?_; rintro e w' ⟨rfl, rfl⟩) | (go_at_call 13; refine (rsign_any _ _ _ (by omega) (by omega)).mono ?_; rintro e w' ⟨rfl, rfl⟩) | (go_at_call 14; refine (field_any _ _ _ _ (by omega) (by omega)).mono ?_; rintro e w' ⟨rfl, rfl⟩) | (go_at_call 16; refine (rfield_any _ _ _ _ (by omega) (by omega)).mono ?_; rintro e w' ⟨rfl, rfl⟩) | (go_at_call 17; refine (fits_any _ _ _ (by omega) (by omega)).mono ?_; rintro e w' ⟨rfl, rfl⟩))
  go_ret
  exact ⟨rfl, Grown.refl _⟩

theorem back1 (x : Int) (k : Nat) (hx : 0 ≤ x) (hx' : x ≤ 4294967295) (hk : k ≤ 32) : (bits BinOp.or IntKind.u32 (fld x 0 k) (fld x k (32 - k) * 2 ^ k % 4294967296) == x) = true := by
  have hj := fld_join x k (32 - k) hx (by omega) (by omega)
  have h0 := fld_nonneg x 0 k
  have h1 := fld_nonneg x k (32 - k)
  have h2 : 0 ≤ fld x k (32 - k) * 2 ^ k := Int.mul_nonneg h1 (Int.le_of_lt (pow_pos' k))
  have h3 : fld x k (32 - k) * 2 ^ k % 4294967296 = fld x k (32 - k) * 2 ^ k := Int.emod_eq_of_lt h2 (by omega)
  rw [beq_iff_eq, h3, or_spell _ _ k hk h0 (fld_lt x 0 k) h1 (by omega), hj]

set_option maxHeartbeats 400000 in
theorem WordBack_walk (x n : Int) (w0 : (Lit.int .u32 x).wf = true) (w1 : (Lit.int .u8 n).wf = true) (w : World) :
    Calls Try.prog 4 #[.int .u32 x, .int .u8 n] w fun e w' => e = .returned (.bool true) ∧ Grown w w' := by
  obtain ⟨hx, hx'⟩ := bounds_u32 w0
  obtain ⟨hn, hn'⟩ := bounds_u8 w1
  obtain ⟨k, hk⟩ := Int.eq_ofNat_of_zero_le (show 0 ≤ n % 33 by omega)
  have hk' : k ≤ 32 := by omega
  by_cases h : k = 32
  · subst h
    have h1 : (fld x 0 32 == x) = true := by rw [beq_iff_eq]; exact fld_all x hx (by omega)
    have h2 : (fld x 32 0 == 0) = true := by rw [beq_iff_eq]; unfold fld; simp
    go_enter Try.func4, Try.ntmps4
    go_wp2_with (first | (go_at_call 9; refine (awakea_any _).mono ?_; rintro e w' ⟨rfl, n0, rfl⟩) | (go_at_call 14; refine (field_in _ _ _ _ (by omega) (by omega) (by omega) (by omega) (by omega) (by omega)).mono ?_; rintro e w' ⟨rfl, rfl⟩))
    go_ret
    exact ⟨rfl, Grown.refl _⟩
  · have h1 : ((k : Int) == 32) = false := by rw [beq_eq_false_iff_ne]; omega
    have h2 := fld_nonneg x 0 k
    have h3 := fld_u32 x 0 k (by omega)
    have h4 := back1 x k hx hx' hk'
    have h5 : (fld (fld x 0 k) k 32 == 0) = true := by rw [beq_iff_eq]; exact fld_above x k
    go_enter Try.func4, Try.ntmps4
    go_wp2_with (first | (go_at_call 9; refine (awakea_any _).mono ?_; rintro e w' ⟨rfl, n0, rfl⟩) | (go_at_call 14; refine (field_in _ _ _ _ (by omega) (by omega) (by omega) (by omega) (by omega) (by omega)).mono ?_; rintro e w' ⟨rfl, rfl⟩))
    go_ret
    exact ⟨rfl, Grown.refl _⟩

set_option maxHeartbeats 400000 in
theorem WordFitting_walk (v a b : Int) (w0 : (Lit.int .i32 v).wf = true) (w1 : (Lit.int .u8 a).wf = true) (w2 : (Lit.int .u8 b).wf = true) (w : World) :
    Calls Try.prog 6 #[.int .i32 v, .int .u8 a, .int .u8 b] w fun e w' => e = .returned (.bool true) ∧ Grown w w' := by
  obtain ⟨hx, hx'⟩ := bounds_i32 w0
  obtain ⟨ha, ha'⟩ := bounds_u8 w1
  obtain ⟨hb, hb'⟩ := bounds_u8 w2
  by_cases hab : a < b
  · have hba : ¬ b < a := by omega
    have hle : a ≤ b := by omega
    obtain ⟨hs, hs'⟩ := sgn_bd (v % 4294967296) (cl a) (cl_le a)
    have h1 := fits_again v (cl a) (cl_le a)
    have h2 := field_again v (cl a) (cl_le a)
    have h0 : cl 0 = 0 := by decide
    by_cases hf : sgn (v % 4294967296) (cl a) = v
    · have hm := fits_mono v (cl a) (cl b) (cl_le b) (by unfold cl; omega) hf
      have hf' : (sgn (v % 4294967296) (cl a) == v) = true := by rw [beq_iff_eq]; exact hf
      have hm' : (sgn (v % 4294967296) (cl b) == v) = true := by rw [beq_iff_eq]; exact hm
      clear hf hm
      go_enter Try.func6, Try.ntmps6
      go_wp2_with (first | (go_at_call 9; refine (awakea_any _).mono ?_; rintro e w' ⟨rfl, n0, rfl⟩) | (go_at_call 17; refine (fits_any _ _ _ (by omega) (by omega)).mono ?_; rintro e w' ⟨rfl, rfl⟩) | (go_at_call 15; refine (sign_any _ _ _ (by omega) (by omega)).mono ?_; rintro e w' ⟨rfl, rfl⟩) | (go_at_call 14; refine (field_any _ _ _ _ (by omega) (by omega)).mono ?_; rintro e w' ⟨rfl, rfl⟩))
      all_goals
        go_ret
        exact ⟨rfl, Grown.refl _⟩
    · have hf' : (sgn (v % 4294967296) (cl a) == v) = false := by rw [beq_eq_false_iff_ne]; exact hf
      clear hf
      go_enter Try.func6, Try.ntmps6
      go_wp2_with (first | (go_at_call 9; refine (awakea_any _).mono ?_; rintro e w' ⟨rfl, n0, rfl⟩) | (go_at_call 17; refine (fits_any _ _ _ (by omega) (by omega)).mono ?_; rintro e w' ⟨rfl, rfl⟩) | (go_at_call 15; refine (sign_any _ _ _ (by omega) (by omega)).mono ?_; rintro e w' ⟨rfl, rfl⟩) | (go_at_call 14; refine (field_any _ _ _ _ (by omega) (by omega)).mono ?_; rintro e w' ⟨rfl, rfl⟩))
      all_goals
        go_ret
        exact ⟨rfl, Grown.refl _⟩
  · by_cases hab' : b < a
    · have hle : b ≤ a := by omega
      obtain ⟨hs, hs'⟩ := sgn_bd (v % 4294967296) (cl b) (cl_le b)
      have h1 := fits_again v (cl b) (cl_le b)
      have h2 := field_again v (cl b) (cl_le b)
      have h0 : cl 0 = 0 := by decide
      by_cases hf : sgn (v % 4294967296) (cl b) = v
      · have hm := fits_mono v (cl b) (cl a) (cl_le a) (by unfold cl; omega) hf
        have hf' : (sgn (v % 4294967296) (cl b) == v) = true := by rw [beq_iff_eq]; exact hf
        have hm' : (sgn (v % 4294967296) (cl a) == v) = true := by rw [beq_iff_eq]; exact hm
        clear hf hm
        go_enter Try.func6, Try.ntmps6
        go_wp2_with (first | (go_at_call 9; refine (awakea_any _).mono ?_; rintro e w' ⟨rfl, n0, rfl⟩) | (go_at_call 17; refine (fits_any _ _ _ (by omega) (by omega)).mono ?_; rintro e w' ⟨rfl, rfl⟩) | (go_at_call 15; refine (sign_any _ _ _ (by omega) (by omega)).mono ?_; rintro e w' ⟨rfl, rfl⟩) | (go_at_call 14; refine (field_any _ _ _ _ (by omega) (by omega)).mono ?_; rintro e w' ⟨rfl, rfl⟩))
        all_goals
          go_ret
          exact ⟨rfl, Grown.refl _⟩
      · have hf' : (sgn (v % 4294967296) (cl b) == v) = false := by rw [beq_eq_false_iff_ne]; exact hf
        clear hf
        go_enter Try.func6, Try.ntmps6
        go_wp2_with (first | (go_at_call 9; refine (awakea_any _).mono ?_; rintro e w' ⟨rfl, n0, rfl⟩) | (go_at_call 17; refine (fits_any _ _ _ (by omega) (by omega)).mono ?_; rintro e w' ⟨rfl, rfl⟩) | (go_at_call 15; refine (sign_any _ _ _ (by omega) (by omega)).mono ?_; rintro e w' ⟨rfl, rfl⟩) | (go_at_call 14; refine (field_any _ _ _ _ (by omega) (by omega)).mono ?_; rintro e w' ⟨rfl, rfl⟩))
        all_goals
          go_ret
          exact ⟨rfl, Grown.refl _⟩
    · obtain rfl : a = b := by omega
      obtain ⟨hs, hs'⟩ := sgn_bd (v % 4294967296) (cl a) (cl_le a)
      have h1 := fits_again v (cl a) (cl_le a)
      have h2 := field_again v (cl a) (cl_le a)
      have h0 : cl 0 = 0 := by decide
      by_cases hf : sgn (v % 4294967296) (cl a) = v
      · have hm := fits_mono v (cl a) (cl a) (cl_le a) (by unfold cl; omega) hf
        have hf' : (sgn (v % 4294967296) (cl a) == v) = true := by rw [beq_iff_eq]; exact hf
        have hm' : (sgn (v % 4294967296) (cl a) == v) = true := by rw [beq_iff_eq]; exact hm
        clear hf hm
        go_enter Try.func6, Try.ntmps6
        go_wp2_with (first | (go_at_call 9; refine (awakea_any _).mono ?_; rintro e w' ⟨rfl, n0, rfl⟩) | (go_at_call 17; refine (fits_any _ _ _ (by omega) (by omega)).mono ?_; rintro e w' ⟨rfl, rfl⟩) | (go_at_call 15; refine (sign_any _ _ _ (by omega) (by omega)).mono ?_; rintro e w' ⟨rfl, rfl⟩) | (go_at_call 14; refine (field_any _ _ _ _ (by omega) (by omega)).mono ?_; rintro e w' ⟨rfl, rfl⟩))
        all_goals
          go_ret
          exact ⟨rfl, Grown.refl _⟩
      · have hf' : (sgn (v % 4294967296) (cl a) == v) = false := by rw [beq_eq_false_iff_ne]; exact hf
        clear hf
        go_enter Try.func6, Try.ntmps6
        go_wp2_with (first | (go_at_call 9; refine (awakea_any _).mono ?_; rintro e w' ⟨rfl, n0, rfl⟩) | (go_at_call 17; refine (fits_any _ _ _ (by omega) (by omega)).mono ?_; rintro e w' ⟨rfl, rfl⟩) | (go_at_call 15; refine (sign_any _ _ _ (by omega) (by omega)).mono ?_; rintro e w' ⟨rfl, rfl⟩) | (go_at_call 14; refine (field_any _ _ _ _ (by omega) (by omega)).mono ?_; rintro e w' ⟨rfl, rfl⟩))
        all_goals
          go_ret
          exact ⟨rfl, Grown.refl _⟩

set_option maxHeartbeats 400000 in
theorem WordDivides_walk (a b : Int) (s o : Bool) (w0 : (Lit.int .u32 a).wf = true) (w1 : (Lit.int .u32 b).wf = true) (w : World) :
    Calls Try.prog 7 #[.int .u32 a, .int .u32 b, .bool s, .bool o] w fun e w' => e = .returned (.bool true) ∧ Grown w w' := by
  obtain ⟨ha, ha'⟩ := bounds_u32 w0
  obtain ⟨hb, hb'⟩ := bounds_u32 w1
  have h1 := div_back a b s ha ha'
  go_enter Try.func7, Try.ntmps7
  go_wp2_with (first | (go_at_call 9; refine (awakea_any _).mono ?_; rintro e w' ⟨rfl, n0, rfl⟩) | (go_at_call 18; refine (div_any _ _ _ _ (by omega) (by omega) (by omega) (by omega)).mono ?_; rintro e w' ⟨rfl, n, rfl⟩) | (go_at_call 19; refine (rem_any _ _ _ _ (by omega) (by omega) (by omega) (by omega)).mono ?_; rintro e w' ⟨rfl, n, rfl⟩) | (go_at_call 20; refine (mulh_any _ _ _ _ _ (by omega) (by omega) (by omega) (by omega)).mono ?_; rintro e w' ⟨rfl, rfl⟩) | (go_at_call 21; refine (rmulh_any _ _ _ _ _ (by omega) (by omega) (by omega) (by omega)).mono ?_; rintro e w' ⟨rfl, rfl⟩) | (go_at_call 22; refine (rdiv_any _ _ _ _ (by omega) (by omega) (by omega) (by omega)).mono ?_; rintro e w' ⟨rfl, rfl⟩) | (go_at_call 23; refine (rrem_any _ _ _ _ (by omega) (by omega) (by omega) (by omega)).mono ?_; rintro e w' ⟨rfl, rfl⟩))
  go_ret
  exact ⟨rfl, Grown.refl _⟩

theorem prod0 (a b : Int) (ha : 0 ≤ a) (ha' : a < 4294967296) (hb : 0 ≤ b) (hb' : b < 4294967296) :
    (IntKind.u64.wrap (IntKind.u64.wrap (IntKind.u64.wrap (mulh a b false false) * 4294967296) + a * b % 4294967296) != IntKind.u64.wrap (a * b)) = false := by
  have h := mul_bd a b ha ha' hb hb'
  have e := mulh_ff a b ha hb
  rw [← e]
  rw [bne_eq_false_iff_eq]
  rw [IntKind.wrap_u64, IntKind.wrap_u64, IntKind.wrap_u64, IntKind.wrap_u64]
  generalize a * b = P at *
  omega
theorem prod1 (a b : Int) (h : 2147483648 ≤ a) : (mulh a b true false == (mulh a b false false - b) % 4294967296) = true := by
  rw [beq_iff_eq, ← mulh_tf a b h]; unfold mulh wd; simp
theorem prod1' (a b : Int) (h : a < 2147483648) : (mulh a b true false == mulh a b false false) = true := by
  rw [beq_iff_eq, ← mulh_tf' a b h]; unfold mulh wd; simp
theorem prod2 (a b : Int) (h : 2147483648 ≤ a) (h' : 2147483648 ≤ b) : (mulh a b true true == (mulh a b false false - b - a) % 4294967296) = true := by
  rw [beq_iff_eq, ← mulh_tt1 a b h h']; unfold mulh wd; simp; omega
theorem prod3 (a b : Int) (h : 2147483648 ≤ a) (h' : b < 2147483648) : (mulh a b true true == (mulh a b false false - b) % 4294967296) = true := by
  rw [beq_iff_eq, ← mulh_tt3 a b h h']; unfold mulh wd; simp
theorem prod4 (a b : Int) (h : a < 2147483648) (h' : 2147483648 ≤ b) : (mulh a b true true == (mulh a b false false - a) % 4294967296) = true := by
  rw [beq_iff_eq, ← mulh_tt2 a b h h']; unfold mulh wd; simp
theorem prod5 (a b : Int) (h : a < 2147483648) (h' : b < 2147483648) : (mulh a b true true == mulh a b false false) = true := by
  rw [beq_iff_eq, ← mulh_tt4 a b h h']; unfold mulh wd; simp
set_option maxHeartbeats 400000 in
theorem WordProducts_walk (a b : Int) (w0 : (Lit.int .u32 a).wf = true) (w1 : (Lit.int .u32 b).wf = true) (w : World) :
    Calls Try.prog 8 #[.int .u32 a, .int .u32 b] w fun e w' => e = .returned (.bool true) ∧ Grown w w' := by
  obtain ⟨ha, ha'⟩ := bounds_u32 w0
  obtain ⟨hb, hb'⟩ := bounds_u32 w1
  have h0 := prod0 a b ha (by omega) hb (by omega)
  by_cases h1 : 2147483648 ≤ a
  all_goals
    by_cases h2 : 2147483648 ≤ b
    all_goals
      first
        | (have h3 := prod1 a b h1; have h4 := prod2 a b h1 h2)
        | (have h3 := prod1 a b h1; have h4 := prod3 a b h1 (by omega))
        | (have h3 := prod1' a b (by omega); have h4 := prod4 a b (by omega) h2)
        | (have h3 := prod1' a b (by omega); have h4 := prod5 a b (by omega) (by omega))
      go_enter Try.func8, Try.ntmps8
      go_wp2_with (first | (go_at_call 9; refine (awakea_any _).mono ?_; rintro e w' ⟨rfl, n0, rfl⟩) | (go_at_call 20; refine (mulh_any _ _ _ _ _ (by omega) (by omega) (by omega) (by omega)).mono ?_; rintro e w' ⟨rfl, rfl⟩))
      go_ret
      exact ⟨rfl, Grown.refl _⟩
end Go.Proofs.Ytaeobnhildiibaa
