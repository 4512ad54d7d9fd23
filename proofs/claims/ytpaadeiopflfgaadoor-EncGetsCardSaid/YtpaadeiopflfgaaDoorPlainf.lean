/- Plain: the document's numbers of a word are the plain ones. -/
import Derived.Test.YtpaadeiopflfgaaDoorDec
import Derived.Test.YtpaadeiopflfgaaDoorRefdb
namespace Go.Proofs.YtpaadeiopflfgaaDoor
open Go.RowKit
set_option linter.unusedVariables false

def dnl (b : Nat) : Nat → List Int
  | 0 => []
  | n + 1 => ((b + n : Nat) : Int) :: dnl b n

theorem hor_append (x v : Int) (l m : List Int) : hor x v (l ++ m) = hor x (hor x v l) m := by
  induction l generalizing v with
  | nil => rfl
  | cons a t ih => exact ih _

theorem hor_dnl (x : Int) (b n : Nat) (v : Int) (hv : 0 ≤ v) (h : (v + 1) * 2 ^ n ≤ 4294967296) : hor x v (dnl b n) = v * 2 ^ n + fld x b n := by
  induction n generalizing v with
  | zero => simp [dnl, hor, fld]
  | succ n ih =>
    have hp := pow_pos' n
    have hb := bit01 x (b + n)
    have e1 : (v + 1) * 2 ^ (n + 1) = (2 * v + 2) * 2 ^ n := by rw [Int.pow_succ, Int.mul_comm (2 ^ n) 2, ← Int.mul_assoc]; congr 1; omega
    rw [e1] at h
    have h2 : 2 * v + 2 ≤ (2 * v + 2) * 2 ^ n := by
      have := Int.mul_le_mul_of_nonneg_left (show (1 : Int) ≤ 2 ^ n by omega) (show 0 ≤ 2 * v + 2 by omega)
      rwa [Int.mul_one] at this
    have e2 : (2 * v % 4294967296 + fld x (b + n) 1) % 4294967296 = 2 * v + fld x (b + n) 1 := by omega
    simp only [dnl, hor]
    rw [if_pos (by omega), Int.toNat_natCast, e2, ih _ (by omega) ?_]
    · rw [fld_step x b n, Int.add_mul, Int.pow_succ, Int.mul_comm (fld x (b + n) 1), Int.mul_comm 2 v, Int.mul_assoc, Int.mul_comm 2]; omega
    · refine Int.le_trans (Int.mul_le_mul_of_nonneg_right ?_ (Int.le_of_lt hp)) h
      omega

theorem hor_neg (x v : Int) (l : List Int) (hv : 0 ≤ v) (hv' : 2 * v < 4294967296) : hor x v (-1 :: l) = hor x (2 * v) l := by
  simp only [hor]
  rw [if_neg (by omega), Int.emod_eq_of_lt (by omega) hv']

theorem rimmI_eq (x : Int) : rimmI x = jI x := by
  unfold rimmI jI
  have e : ([31, 30, 29, 28, 27, 26, 25, 24, 23, 22, 21, 20] : List Int) = dnl 20 12 := rfl
  rw [e, hor_dnl x 20 12 0 (by omega) (by decide)]
  congr 1; unfold vI; simp [fld]

theorem rimmS_eq (x : Int) : rimmS x = jS x := by
  unfold rimmS jS
  have e : ([31, 30, 29, 28, 27, 26, 25] : List Int) = dnl 25 7 := rfl
  have e2 : ([11, 10, 9, 8, 7] : List Int) = dnl 7 5 := rfl
  have h1 := fld_nonneg x 25 7
  have h2 : fld x 25 7 < 128 := fld_lt x 25 7
  rw [hor_append, e, hor_dnl x 25 7 0 (by omega) (by decide), e2, hor_dnl x 7 5 _ (by omega) (by simp; omega)]
  congr 1; unfold vS; simp [fld]

theorem rimmU_eq (x : Int) : rimmU x = jU x := by
  unfold rimmU jU
  have e : ([31, 30, 29, 28, 27, 26, 25, 24, 23, 22, 21, 20, 19, 18, 17, 16, 15, 14, 13, 12] : List Int) = dnl 12 20 := rfl
  have h1 := fld_nonneg x 12 20
  have h2 : fld x 12 20 < 1048576 := fld_lt x 12 20
  rw [hor_append, e, hor_dnl x 12 20 0 (by omega) (by decide)]
  simp only [Int.zero_mul, Int.zero_add]
  rw [hor_neg _ _ _ (by omega) (by omega), hor_neg _ _ _ (by omega) (by omega), hor_neg _ _ _ (by omega) (by omega), hor_neg _ _ _ (by omega) (by omega), hor_neg _ _ _ (by omega) (by omega), hor_neg _ _ _ (by omega) (by omega), hor_neg _ _ _ (by omega) (by omega), hor_neg _ _ _ (by omega) (by omega), hor_neg _ _ _ (by omega) (by omega), hor_neg _ _ _ (by omega) (by omega), hor_neg _ _ _ (by omega) (by omega), hor_neg _ _ _ (by omega) (by omega)]
  simp only [hor]
  congr 1; unfold vU; simp [fld]; omega

theorem rimmB_eq (x : Int) : rimmB x = jB x := by
  unfold rimmB jB
  have e : ([31, 7] : List Int) = dnl 31 1 ++ dnl 7 1 := rfl
  have e2 : ([30, 29, 28, 27, 26, 25] : List Int) = dnl 25 6 := rfl
  have e3 : ([11, 10, 9, 8] : List Int) = dnl 8 4 := rfl
  have a1 := fld_nonneg x 31 1
  have a2 : fld x 31 1 < 2 := fld_lt x 31 1
  have b1 := fld_nonneg x 7 1
  have b2 : fld x 7 1 < 2 := fld_lt x 7 1
  have c1 := fld_nonneg x 25 6
  have c2 : fld x 25 6 < 64 := fld_lt x 25 6
  have d1 := fld_nonneg x 8 4
  have d2 : fld x 8 4 < 16 := fld_lt x 8 4
  rw [e, e2, e3, hor_append, hor_append, hor_append, hor_append, hor_dnl x 31 1 0 (by omega) (by decide)]
  simp only [Int.zero_mul, Int.zero_add]
  rw [hor_dnl x 7 1 _ (by omega) (by simp; omega), hor_dnl x 25 6 _ (by simp; omega) (by simp; omega), hor_dnl x 8 4 _ (by simp; omega) (by simp; omega), hor_neg _ _ _ (by simp; omega) (by simp; omega)]
  simp only [hor]
  congr 1; unfold vB; simp [fld]; omega

theorem rimmJ_eq (x : Int) : rimmJ x = jJ x := by
  unfold rimmJ jJ
  have e : ([31] : List Int) = dnl 31 1 := rfl
  have e2 : ([19, 18, 17, 16, 15, 14, 13, 12] : List Int) = dnl 12 8 := rfl
  have e3 : ([20] : List Int) = dnl 20 1 := rfl
  have e4 : ([30, 29, 28, 27, 26, 25, 24, 23, 22, 21] : List Int) = dnl 21 10 := rfl
  have a1 := fld_nonneg x 31 1
  have a2 : fld x 31 1 < 2 := fld_lt x 31 1
  have b1 := fld_nonneg x 12 8
  have b2 : fld x 12 8 < 256 := fld_lt x 12 8
  have c1 := fld_nonneg x 20 1
  have c2 : fld x 20 1 < 2 := fld_lt x 20 1
  have d1 := fld_nonneg x 21 10
  have d2 : fld x 21 10 < 1024 := fld_lt x 21 10
  rw [e, e2, e3, e4, hor_append, hor_append, hor_append, hor_append, hor_dnl x 31 1 0 (by omega) (by decide)]
  simp only [Int.zero_mul, Int.zero_add]
  rw [hor_dnl x 12 8 _ (by omega) (by simp; omega), hor_dnl x 20 1 _ (by simp; omega) (by simp; omega), hor_dnl x 21 10 _ (by simp; omega) (by simp; omega), hor_neg _ _ _ (by simp; omega) (by simp; omega)]
  simp only [hor]
  congr 1; unfold vJ; simp [fld]; omega

end Go.Proofs.YtpaadeiopflfgaaDoor
