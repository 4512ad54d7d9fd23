/- Plain: the bits of an instruction's word do not meet, so that the program's ors are sums. -/
import Derived.Test.YtpaadeiopflfgaaDoorEnc
namespace Go.Proofs.YtpaadeiopflfgaaDoor
open Go.RowKit
set_option linter.unusedVariables false

/-- The piece k of a form. -/
def pFrom (f : Int) (k : Nat) : Int := placesL.getD ((f.toNat * 4 + k) * 3) 0

def pAt (f : Int) (k : Nat) : Int := placesL.getD ((f.toNat * 4 + k) * 3 + 1) 0

def pBits (f : Int) (k : Nat) : Int := placesL.getD ((f.toNat * 4 + k) * 3 + 2) 0

theorem places_ok (f : Int) (k : Nat) (hf : 0 ≤ f) (hf' : f ≤ 9) (hk : k < 4) : 0 ≤ pFrom f k ∧ pFrom f k ≤ 32 ∧ 0 ≤ pAt f k ∧ pAt f k ≤ 31 ∧ 0 ≤ pBits f k ∧ pBits f k ≤ 32 := by
  obtain ⟨n, rfl⟩ := Int.eq_ofNat_of_zero_le hf
  have h : ∀ n : Fin 10, ∀ k : Fin 4, 0 ≤ pFrom n.val k.val ∧ pFrom n.val k.val ≤ 32 ∧ 0 ≤ pAt n.val k.val ∧ pAt n.val k.val ≤ 31 ∧ 0 ≤ pBits n.val k.val ∧ pBits n.val k.val ≤ 32 := by decide
  exact h ⟨n, by omega⟩ ⟨k, hk⟩

/-- The word behind k pieces. -/
def putW (f v m : Int) : Nat → Int
  | 0 => m
  | k + 1 => bits BinOp.or IntKind.u32 (putW f v m k) (fld (v % 4294967296) (pFrom f k).toNat (pBits f k).toNat * 2 ^ (pAt f k).toNat % 4294967296)

/-- a has no bit outside M. -/
def Sub (a M : Nat) : Prop := a &&& M = a

theorem Sub.le {a M : Nat} (h : Sub a M) : a ≤ M := by unfold Sub at h; rw [← h]; exact Nat.and_le_right

theorem Sub.or {a b M N : Nat} (h : Sub a M) (k : Sub b N) : Sub (a ||| b) (M ||| N) := by
  unfold Sub at *
  apply Nat.eq_of_testBit_eq
  intro i
  have h1 := congrArg (fun x => Nat.testBit x i) h
  have h2 := congrArg (fun x => Nat.testBit x i) k
  simp only [Nat.testBit_and, Nat.testBit_or] at *
  cases ha : a.testBit i <;> cases hb : b.testBit i <;> cases hM : M.testBit i <;> cases hN : N.testBit i <;> simp_all

theorem or_add {a b M N : Nat} (h : Sub a M) (k : Sub b N) (hd : M &&& N = 0) (hM : M < 4294967296) (hN : N < 4294967296) : a ||| b = a + b := by
  have ha := h.le
  have hb := k.le
  have h0 : a &&& b = 0 := by
    apply Nat.eq_of_testBit_eq
    intro i
    have h1 := congrArg (fun x => Nat.testBit x i) h
    have h2 := congrArg (fun x => Nat.testBit x i) k
    have h3 := congrArg (fun x => Nat.testBit x i) hd
    simp only [Nat.testBit_and, Nat.zero_testBit] at *
    cases qa : a.testBit i <;> cases qb : b.testBit i <;> cases qM : M.testBit i <;> cases qN : N.testBit i <;> simp_all
  have h1 := BitVec.add_eq_or_of_and_eq_zero (BitVec.ofNat 64 a) (BitVec.ofNat 64 b) (by apply BitVec.eq_of_toNat_eq; simp only [BitVec.toNat_and, BitVec.toNat_ofNat]; rw [Nat.mod_eq_of_lt (by omega), Nat.mod_eq_of_lt (by omega), h0])
  have h2 := congrArg BitVec.toNat h1
  simp only [BitVec.toNat_add, BitVec.toNat_or, BitVec.toNat_ofNat] at h2
  rw [Nat.mod_eq_of_lt (by omega : a < 2 ^ 64), Nat.mod_eq_of_lt (by omega : b < 2 ^ 64), Nat.mod_eq_of_lt (by omega)] at h2
  exact h2.symm

theorem sub_field (f k n : Nat) (h : f < 2 ^ n) : Sub (f * 2 ^ k) ((2 ^ n - 1) * 2 ^ k) := by
  unfold Sub
  rw [← Nat.shiftLeft_eq, ← Nat.shiftLeft_eq, ← Nat.shiftLeft_and_distrib, Nat.and_two_pow_sub_one_eq_mod, Nat.mod_eq_of_lt h]

theorem sub_mono {a M N : Nat} (h : Sub a M) (k : M &&& N = M) : Sub a N := by
  unfold Sub at *
  apply Nat.eq_of_testBit_eq
  intro i
  have h1 := congrArg (fun x => Nat.testBit x i) h
  have h2 := congrArg (fun x => Nat.testBit x i) k
  simp only [Nat.testBit_and] at *
  cases qa : a.testBit i <;> cases qM : M.testBit i <;> cases qN : N.testBit i <;> simp_all

/-- One or: a below M, a field of n bits at k below N, which do not meet. -/
theorem or_int (a : Int) (f : Int) (M N k n : Nat) (ha : 0 ≤ a) (hs : Sub a.toNat M) (hf : 0 ≤ f) (hf' : f < 2 ^ n) (hN : (2 ^ n - 1) * 2 ^ k = N) (hd : M &&& N = 0) (hM : M < 4294967296) (hN' : N < 4294967296) :
    bits BinOp.or IntKind.u32 a (f * 2 ^ k % 4294967296) = a + f * 2 ^ k ∧ Sub (a + f * 2 ^ k).toNat (M ||| N) ∧ 0 ≤ a + f * 2 ^ k := by
  obtain ⟨x, rfl⟩ := Int.eq_ofNat_of_zero_le ha
  obtain ⟨y, rfl⟩ := Int.eq_ofNat_of_zero_le hf
  rw [Int.toNat_natCast] at hs
  have hy : y < 2 ^ n := by have h : ((y : Nat) : Int) < ((2 ^ n : Nat) : Int) := by rw [pow_cast]; exact hf'
                            exact Int.ofNat_lt.1 h
  have h1 := sub_field y k n hy
  rw [hN] at h1
  have h2 := h1.le
  have h3 := hs.le
  have e : ((y : Int) * 2 ^ k) = ((y * 2 ^ k : Nat) : Int) := by simp
  rw [e]
  have e2 : ((y * 2 ^ k : Nat) : Int) % 4294967296 = ((y * 2 ^ k : Nat) : Int) := by omega
  rw [e2, u32_or_nat x _ (by omega) (by omega), or_add hs h1 hd hM hN']
  refine ⟨by omega, ?_, by omega⟩
  have e3 : ((x : Int) + ((y * 2 ^ k : Nat) : Int)).toNat = x + y * 2 ^ k := by omega
  rw [e3, ← or_add hs h1 hd hM hN']
  exact hs.or h1

theorem fld_mod (v : Int) (l n : Nat) (h : l + n ≤ 32) : fld (v % 4294967296) l n = fld v l n := by
  unfold fld
  have e : (4294967296 : Int) = 2 ^ l * 2 ^ (32 - l) := by
    rw [← Int.pow_add]; have : l + (32 - l) = 32 := by omega
    rw [this]; decide
  have h1 : v % 4294967296 / 2 ^ l = v / 2 ^ l % 2 ^ (32 - l) := by
    rw [e]
    generalize hA : (2 : Int) ^ l = A
    generalize hB : (2 : Int) ^ (32 - l) = C
    have pA : 0 < A := hA ▸ pow_pos' l
    rw [Int.emod_def v (A * C), Int.emod_def (v / A) C, Int.ediv_ediv_of_nonneg (Int.le_of_lt pA)]
    have : v - A * C * (v / (A * C)) = v + A * (-(C * (v / (A * C)))) := by rw [Int.mul_neg, Int.mul_assoc]; omega
    rw [this, Int.add_mul_ediv_left _ _ (Int.ne_of_gt pA)]
    omega
  have hd : (2 : Int) ^ n ∣ 2 ^ (32 - l) := ⟨2 ^ (32 - l - n), by rw [← Int.pow_add]; congr 1; omega⟩
  rw [h1, Int.emod_emod_of_dvd _ hd]

end Go.Proofs.YtpaadeiopflfgaaDoor
