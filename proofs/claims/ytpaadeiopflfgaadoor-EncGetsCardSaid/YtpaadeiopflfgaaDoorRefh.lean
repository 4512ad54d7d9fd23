/- Contracts of package typecaseref08: what is fixed of an operation, where a number lies. -/
import Derived.Test.YtpaadeiopflfgaaDoorDenc
import Derived.RegionTactic
namespace Go.Proofs.YtpaadeiopflfgaaDoor
open Go.RowKit
set_option linter.unusedVariables false
set_option linter.unusedSimpArgs false

set_option maxHeartbeats 400000 in
theorem unit_any (n : Nat) (hn : n ≤ 31) (w : World) : Calls Tryd.prog 21 #[.int .i64 n] w fun e w' => e = .returned (.int .u32 (2 ^ n)) ∧ w = w' := by
  go_enter Tryd.func21, Tryd.ntmps21
  go_wp2
  go_loop [3, 4] (fun u i => ∃ k : Nat, k ≤ n ∧ i = .int .i64 k ∧ u = .int .u32 (2 ^ k)) (fun _ i => n - (intOf i).toNat)
  case atStart => exact ⟨0, by omega, rfl, rfl⟩
  case round =>
    obtain ⟨k, hk, rfl, rfl⟩ := hrel
    have hp := pow_pos' k
    by_cases hlt : k < n
    · have h31 : (2 : Int) ^ (k + 1) ≤ 2 ^ 31 := by
        have := Nat.pow_le_pow_right (n := 2) (by omega) (show k + 1 ≤ 31 by omega)
        exact_mod_cast this
      have HS := Lib.hid (show (2 : Int) ^ (k + 1) = 2 * 2 ^ k by rw [Int.pow_succ]; omega)
      have hb : (2 : Int) * 2 ^ k < 4294967296 := by rw [← HS.out]; have : (2 : Int) ^ 31 = 2147483648 := by decide
                                                     omega
      clear h31
      generalize (2 : Int) ^ k = u at *
      go_wp2
      go_round
      case rel => exact ⟨k + 1, by omega, by go_num, congrArg _ (by rw [HS.out]; try (rw [Int.emod_eq_of_lt (by omega) hb]))⟩
      case measure => simp [intOf]; omega
    · have e : k = n := by omega
      have HE := Lib.hid e
      clear e
      generalize hu : (2 : Int) ^ k = u at *
      have HU := Lib.hid hu
      clear hu
      go_wp2
      go_ret
      exact ⟨ret_u32 (by rw [← HU.out, HE.out]), rfl⟩

def codesA : List Int := [0, 55, 23, 111, 103, 99, 99, 99, 99, 99, 99, 3, 3, 3, 3, 3, 35, 35, 35, 19, 19, 19, 19, 19, 19, 19, 19, 19, 51, 51, 51, 51, 51, 51, 51, 51, 51, 51, 267386895, 115, 1048691, 51, 51, 51, 51, 51, 51, 51, 51]

def codesB : List Int := [0, 0, 0, 0, 0, 0, 1, 4, 5, 6, 7, 0, 1, 2, 4, 5, 0, 1, 2, 0, 2, 3, 4, 6, 7, 1, 5, 5, 0, 0, 1, 2, 3, 4, 5, 5, 6, 7, 0, 0, 0, 0, 1, 2, 3, 4, 5, 6, 7]

def codesC : List Int := [0, 0, 0, 0, 0, 0, 0, 0, 0, 0, 0, 0, 0, 0, 0, 0, 0, 0, 0, 0, 0, 0, 0, 0, 0, 0, 0, 32, 0, 32, 0, 0, 0, 0, 0, 32, 0, 0, 0, 0, 0, 1, 1, 1, 1, 1, 1, 1, 1]

def codesD : List Int := [0, 1, 1, 1, 2, 2, 2, 2, 2, 2, 2, 2, 2, 2, 2, 2, 2, 2, 2, 2, 2, 2, 2, 2, 2, 3, 3, 3, 3, 3, 3, 3, 3, 3, 3, 3, 3, 3, 4, 4, 4, 3, 3, 3, 3, 3, 3, 3, 3]

def codeA (op : Int) : Int := codesA.getD op.toNat 0

def codeB (op : Int) : Int := codesB.getD op.toNat 0

def codeC (op : Int) : Int := codesC.getD op.toNat 0

def codeD (op : Int) : Int := codesD.getD op.toNat 0

def codeV (op : Int) : Value := .agg #[.int .u32 (codeA op), .int .u32 (codeB op), .int .u32 (codeC op), .int .u32 (codeD op)]

end Go.Proofs.YtpaadeiopflfgaaDoor
