/- Contracts of package typecaseref06: bits, shifted, base. -/
import Derived.Test.YtmobkjdbjgopgaaReff
namespace Go.Proofs.Ytmobkjdbjgopgaa
open Go.RowKit
set_option linter.unusedVariables false
set_option linter.unusedSimpArgs false

/-- A table of what 00, 01, 10, 11 come to. -/
def tabV (t0 t1 t2 t3 : Int) (i : Int) : Int := if i = 0 then t0 else if i = 1 then t1 else if i = 2 then t2 else t3

/-- The lowest k bits, by the table. -/
def tbl (t : Int → Int) (a b : Int) : Nat → Int
  | 0 => 0
  | k + 1 => tbl t a b k + 2 ^ k * t (2 * fld a k 1 + fld b k 1)

theorem fld1 (A i : Nat) : fld (A : Int) i 1 = ((A.testBit i).toNat : Int) := by
  unfold fld
  have e1 : ((A : Int) / 2 ^ i % 2 ^ 1) = ((A / 2 ^ i % 2 : Nat) : Int) := by
    rw [← pow_cast]; simp
  rw [e1, Nat.testBit_eq_decide_div_mod_eq]
  by_cases h : A / 2 ^ i % 2 = 1
  · simp [h]
  · have : A / 2 ^ i % 2 = 0 := by omega
    simp [this]

theorem tbl_mod (t : Int → Int) (A C : Nat) (op : Nat → Nat → Nat) (hop : ∀ i, (op A C).testBit i = true ↔ t (2 * ((A.testBit i).toNat : Int) + ((C.testBit i).toNat : Int)) = 1) (h01 : ∀ i : Int, t i = 0 ∨ t i = 1) (k : Nat) : tbl t A C k = ((op A C % 2 ^ k : Nat) : Int) := by
  induction k with
  | zero => simp [tbl, Nat.mod_one]
  | succ k ih =>
    have e : tbl t A C (k + 1) = tbl t A C k + 2 ^ k * t (2 * fld A k 1 + fld C k 1) := rfl
    rw [e, ih, fld1, fld1, Nat.mod_pow_succ, ← Nat.toNat_testBit]
    have hv : t (2 * ((A.testBit k).toNat : Int) + ((C.testBit k).toNat : Int)) = (((op A C).testBit k).toNat : Int) := by
      cases hb : (op A C).testBit k
      · have : ¬ t (2 * ((A.testBit k).toNat : Int) + ((C.testBit k).toNat : Int)) = 1 := fun c => by
          have := (hop k).2 c
          rw [hb] at this; cases this
        rcases h01 (2 * ((A.testBit k).toNat : Int) + ((C.testBit k).toNat : Int)) with h | h
        · rw [h]; rfl
        · exact absurd h this
      · rw [(hop k).1 hb]; rfl
    rw [hv, ← pow_cast]
    simp

theorem tab01 (t0 t1 t2 t3 : Int) (h0 : t0 = 0 ∨ t0 = 1) (h1 : t1 = 0 ∨ t1 = 1) (h2 : t2 = 0 ∨ t2 = 1) (h3 : t3 = 0 ∨ t3 = 1) (i : Int) : tabV t0 t1 t2 t3 i = 0 ∨ tabV t0 t1 t2 t3 i = 1 := by
  unfold tabV; split
  · exact h0
  · split
    · exact h1
    · split
      · exact h2
      · exact h3

theorem tbl_xor (a b : Int) (a1 : 0 ≤ a) (a2 : a < 4294967296) (b1 : 0 ≤ b) (b2 : b < 4294967296) : tbl (tabV 0 1 1 0) a b 32 = bits .xor .u32 a b := by
  obtain ⟨A, rfl⟩ := Int.eq_ofNat_of_zero_le a1
  obtain ⟨C, rfl⟩ := Int.eq_ofNat_of_zero_le b1
  rw [tbl_mod (tabV 0 1 1 0) A C (fun x y => x ^^^ y) (fun i => by rw [Nat.testBit_xor]; cases A.testBit i <;> cases C.testBit i <;> decide) (tab01 0 1 1 0 (by decide) (by decide) (by decide) (by decide)) 32, u32_xor_nat A C (by omega) (by omega)]
  have := Nat.xor_lt_two_pow (n := 32) (show A < 2 ^ 32 by omega) (show C < 2 ^ 32 by omega)
  rw [Nat.mod_eq_of_lt this]

theorem tbl_or (a b : Int) (a1 : 0 ≤ a) (a2 : a < 4294967296) (b1 : 0 ≤ b) (b2 : b < 4294967296) : tbl (tabV 0 1 1 1) a b 32 = bits .or .u32 a b := by
  obtain ⟨A, rfl⟩ := Int.eq_ofNat_of_zero_le a1
  obtain ⟨C, rfl⟩ := Int.eq_ofNat_of_zero_le b1
  rw [tbl_mod (tabV 0 1 1 1) A C (fun x y => x ||| y) (fun i => by rw [Nat.testBit_or]; cases A.testBit i <;> cases C.testBit i <;> decide) (tab01 0 1 1 1 (by decide) (by decide) (by decide) (by decide)) 32, u32_or_nat A C (by omega) (by omega)]
  have := Nat.or_lt_two_pow (n := 32) (show A < 2 ^ 32 by omega) (show C < 2 ^ 32 by omega)
  rw [Nat.mod_eq_of_lt this]

theorem tbl_and (a b : Int) (a1 : 0 ≤ a) (a2 : a < 4294967296) (b1 : 0 ≤ b) (b2 : b < 4294967296) : tbl (tabV 0 0 0 1) a b 32 = bits .and .u32 a b := by
  obtain ⟨A, rfl⟩ := Int.eq_ofNat_of_zero_le a1
  obtain ⟨C, rfl⟩ := Int.eq_ofNat_of_zero_le b1
  rw [tbl_mod (tabV 0 0 0 1) A C (fun x y => x &&& y) (fun i => by rw [Nat.testBit_and]; cases A.testBit i <;> cases C.testBit i <;> decide) (tab01 0 0 0 1 (by decide) (by decide) (by decide) (by decide)) 32, u32_and_nat A C (by omega) (by omega)]
  have := Nat.and_lt_two_pow (n := 32) A (show C < 2 ^ 32 by omega)
  rw [Nat.mod_eq_of_lt this]

theorem tbl_bd (t : Int → Int) (a b : Int) (h : ∀ i, t i = 0 ∨ t i = 1) (k : Nat) : 0 ≤ tbl t a b k ∧ tbl t a b k < 2 ^ k := by
  induction k with
  | zero => exact ⟨Int.le_refl 0, (by decide : (0 : Int) < 1)⟩
  | succ k ih =>
    have e : tbl t a b (k + 1) = tbl t a b k + 2 ^ k * t (2 * fld a k 1 + fld b k 1) := rfl
    have hp := pow_pos' k
    rw [e, Int.pow_succ]
    rcases h (2 * fld a k 1 + fld b k 1) with q | q <;> rw [q] <;> omega

theorem fld01 (a : Int) (k : Nat) : fld a k 1 = 0 ∨ fld a k 1 = 1 := by
  have h1 := fld_nonneg a k 1
  have h2 : fld a k 1 < 2 := fld_lt a k 1
  omega

theorem pow_le31 (k : Nat) (h : k < 32) : (2 : Int) ^ k ≤ 2147483648 := by
  have := Nat.pow_le_pow_right (n := 2) (by omega) (show k ≤ 31 by omega)
  have e : (2 : Nat) ^ 31 = 2147483648 := by decide
  rw [e] at this
  rw [← pow_cast]
  omega

set_option maxHeartbeats 2000000 in
theorem rbits_any (a b t0 t1 t2 t3 : Int) (h0 : t0 = 0 ∨ t0 = 1) (h1 : t1 = 0 ∨ t1 = 1) (h2 : t2 = 0 ∨ t2 = 1) (h3 : t3 = 0 ∨ t3 = 1) (w : World) (a1 : 0 ≤ a) (a2 : a < 4294967296) (b1 : 0 ≤ b) (b2 : b < 4294967296) :
    Calls Try.prog 24 #[.int .u32 a, .int .u32 b, .agg #[.int .u32 t0, .int .u32 t1, .int .u32 t2, .int .u32 t3]] w fun e w' => e = .returned (.int .u32 (tbl (tabV t0 t1 t2 t3) a b 32)) ∧ Nx w w' := by
  have HB := Lib.hid (fun k => tbl_bd (tabV t0 t1 t2 t3) a b (tab01 t0 t1 t2 t3 h0 h1 h2 h3) k)
  go_enter Try.func24, Try.ntmps24
  go_wp2
  go_loop [7, 8, 9] (fun o u i => ∃ k : Nat, k ≤ 32 ∧ i = .int .i64 k ∧ o = .int .u32 (tbl (tabV t0 t1 t2 t3) a b k) ∧ u = .int .u32 (2 ^ k % 4294967296)) (fun _ _ i => 32 - (intOf i).toNat)
  case atStart => exact ⟨0, by omega, rfl, rfl, rfl⟩
  case round =>
    obtain ⟨k, hk, rfl, rfl, rfl⟩ := hrel
    obtain ⟨o1, o2⟩ := HB.out k
    by_cases hlt : k < 32
    · have hp := pow_pos' k
      have hp2 := pow_le31 k hlt
      have HS := Lib.hid (show tbl (tabV t0 t1 t2 t3) a b (k + 1) = tbl (tabV t0 t1 t2 t3) a b k + 2 ^ k * tabV t0 t1 t2 t3 (2 * fld a k 1 + fld b k 1) from rfl)
      have HP := Lib.hid (show (2 : Int) ^ (k + 1) = 2 * 2 ^ k by rw [Int.pow_succ]; omega)
      have HM := Lib.hid (show (2 : Int) ^ k % 4294967296 = 2 ^ k from Int.emod_eq_of_lt (by omega) (by omega))
      rw [HM.out]
      have T0 := Lib.hid (show tabV t0 t1 t2 t3 (2 * 0 + 0) = t0 from rfl)
      have T1 := Lib.hid (show tabV t0 t1 t2 t3 (2 * 0 + 1) = t1 from rfl)
      have T2 := Lib.hid (show tabV t0 t1 t2 t3 (2 * 1 + 0) = t2 from rfl)
      have T3 := Lib.hid (show tabV t0 t1 t2 t3 (2 * 1 + 1) = t3 from rfl)
      have FA := fld01 a k
      have FB := fld01 b k
      have CA := Lib.hid (fun w => rbit_any a k w a1 a2)
      have CB := Lib.hid (fun w => rbit_any b k w b1 b2)
      simp only [Int.toNat_natCast] at CA CB
      generalize fld a k 1 = fa at *
      generalize fld b k 1 = fb at *
      generalize tbl (tabV t0 t1 t2 t3) a b k = o at *
      generalize (2 : Int) ^ k = u at *
      rcases FA with rfl | rfl <;> rcases FB with rfl | rfl
      all_goals
        first
          | rw [T0.out] at HS
          | rw [T1.out] at HS
          | rw [T2.out] at HS
          | rw [T3.out] at HS
        go_wp2_with fail
        refine (CA.out _).mono ?_
        rintro e w' ⟨rfl, rfl⟩
        go_wp2_with fail
        refine (CB.out _).mono ?_
        rintro e w' ⟨rfl, rfl⟩
        go_wp2
        go_round
        case rel =>
          refine ⟨k + 1, by omega, by go_num, congrArg _ ?_, congrArg _ ?_⟩
          · rw [HS.out]
            first
              | (rcases h0 with q | q <;> subst q <;> (try simp) <;> omega)
              | (rcases h1 with q | q <;> subst q <;> (try simp) <;> omega)
              | (rcases h2 with q | q <;> subst q <;> (try simp) <;> omega)
              | (rcases h3 with q | q <;> subst q <;> (try simp) <;> omega)
          · rw [HP.out]
        case measure => simp [intOf]; omega
    · have hk32 : k = 32 := by omega
      subst hk32
      generalize ho : tbl (tabV t0 t1 t2 t3) a b 32 = o at o1 o2 ⊢
      have HO := Lib.hid ho
      clear ho
      go_wp2
      go_ret
      exact ⟨ret_u32 HO.out.symm, (Nx.refl _).alloc _⟩

end Go.Proofs.Ytmobkjdbjgopgaa
