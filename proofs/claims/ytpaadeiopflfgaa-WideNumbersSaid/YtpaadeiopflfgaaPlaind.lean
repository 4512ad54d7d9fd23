/- Plain facts on the numbers of a word. -/
import Derived.Test.YtpaadeiopflfgaaWided
namespace Go.Proofs.Ytpaadeiopflfgaa
open Go.RowKit
set_option linter.unusedVariables false

theorem sgn_lo' (v : Int) (n : Nat) (h : 0 ≤ v) (h' : 2 * v < 2 ^ n) : sgn v n = v := sgn_of_range v n (by have := pow_pos' n; omega) h'

theorem sgn_hi' (v : Int) (n : Nat) (h : v < 2 ^ n) (h' : 2 ^ n ≤ 2 * v) : sgn v n = v - 2 ^ n := by
  have e : sgn v n = sgn (v - 2 ^ n) n := by
    unfold sgn
    have h1 : (v - 2 ^ n) % 2 ^ n = v % 2 ^ n := by
      have := Int.add_mul_emod_self_right v (-1) (2 ^ n)
      rw [← this]; congr 1; omega
    rw [← Int.emod_bmod (x := v), ← Int.emod_bmod (x := v - 2 ^ n), pow_cast, h1]
  rw [e]
  exact sgn_of_range _ n (by omega) (by omega)

theorem sgn_inj (u v : Int) (n : Nat) (hu : 0 ≤ u) (hu' : u < 2 ^ n) (hv : 0 ≤ v) (hv' : v < 2 ^ n) (h : sgn u n = sgn v n) : u = v := by
  rcases Int.lt_or_le (2 * u) (2 ^ n) with a | a <;> rcases Int.lt_or_le (2 * v) (2 ^ n) with b | b
  · rw [sgn_lo' u n hu a, sgn_lo' v n hv b] at h; exact h
  · rw [sgn_lo' u n hu a, sgn_hi' v n hv' b] at h; omega
  · rw [sgn_hi' u n hu' a, sgn_lo' v n hv b] at h; omega
  · rw [sgn_hi' u n hu' a, sgn_hi' v n hv' b] at h; omega

def vI (x : Int) : Int := x / 1048576 % 4096

def vS (x : Int) : Int := x / 33554432 % 128 * 32 + x / 128 % 32

def vB (x : Int) : Int := (((x / 2147483648 % 2 * 2 + x / 128 % 2) * 64 + x / 33554432 % 64) * 16 + x / 256 % 16) * 2

def vU (x : Int) : Int := x / 4096 % 1048576 * 4096

def vJ (x : Int) : Int := (((x / 2147483648 % 2 * 256 + x / 4096 % 256) * 2 + x / 1048576 % 2) * 1024 + x / 2097152 % 1024) * 2

theorem immI_eq (x : Int) : immI x = sgn (vI x) 12 := by
  unfold immI vI; congr 1; simp [runsV, rsI, runV, fld]; omega

theorem immS_eq (x : Int) : immS x = sgn (vS x) 12 := by
  unfold immS vS; congr 1; simp [runsV, rsS, runV, fld]; omega

theorem immB_eq (x : Int) : immB x = sgn (vB x) 13 := by
  unfold immB vB; congr 1; simp [runsV, rsB, runV, fld]; omega

theorem immU_eq (x : Int) : immU x = sgn (vU x) 32 := by
  unfold immU vU; congr 1; simp [runsV, rsU, runV, fld]; omega

theorem immJ_eq (x : Int) : immJ x = sgn (vJ x) 21 := by
  unfold immJ vJ; congr 1; simp [runsV, rsJ, runV, fld]; omega

theorem p12 : (2 : Int) ^ 12 = 4096 := by decide

theorem p13 : (2 : Int) ^ 13 = 8192 := by decide

theorem p21 : (2 : Int) ^ 21 = 2097152 := by decide

theorem p32 : (2 : Int) ^ 32 = 4294967296 := by decide

end Go.Proofs.Ytpaadeiopflfgaa
