/- Plain arithmetic of words: fields, signed fields, and how the model spells them. No program in sight. -/
import Derived.WalkKit
import Derived.Laws.BitsAllLaws
namespace Go.Proofs.YtdgmdkkockbkjaaGreatDoor
open Go.RowKit
set_option linter.unusedVariables false

/-- A number of bits, as it counts. -/
def cl (n : Int) : Nat := (min (max n 0) 32).toNat
theorem cl_le (n : Int) : cl n ≤ 32 := by unfold cl; omega
theorem cl_nat (n : Nat) (h : n ≤ 32) : cl (n : Int) = n := by unfold cl; omega
theorem cl_cast (n : Int) : (min (max n 0) 32) = ((cl n : Nat) : Int) := by unfold cl; omega

/-- Some bits of a word. -/
def fld (x : Int) (l n : Nat) : Int := x / 2 ^ l % 2 ^ n
/-- The lowest bits of a word as a signed number. -/
def sgn (x : Int) (n : Nat) : Int := Int.bmod x (2 ^ n)

theorem pow_pos' (n : Nat) : (0 : Int) < 2 ^ n := Int.pow_pos (by decide)
theorem fld_nonneg (x : Int) (l n : Nat) : 0 ≤ fld x l n := Int.emod_nonneg _ (Int.ne_of_gt (pow_pos' n))
theorem fld_lt (x : Int) (l n : Nat) : fld x l n < 2 ^ n := Int.emod_lt_of_pos _ (pow_pos' n)
theorem pow_le32 (n : Nat) (h : n ≤ 32) : (2 : Int) ^ n ≤ 4294967296 := by
  have : (2 : Nat) ^ n ≤ 2 ^ 32 := Nat.pow_le_pow_right (by decide) h
  have h2 : ((2 ^ n : Nat) : Int) ≤ ((2 ^ 32 : Nat) : Int) := Int.ofNat_le.2 this
  simpa using h2
theorem fld_u32 (x : Int) (l n : Nat) (h : n ≤ 32) : fld x l n < 4294967296 := Int.lt_of_lt_of_le (fld_lt x l n) (pow_le32 n h)

theorem nat_mask (a n : Nat) : a &&& (2 ^ n - 1) = a % 2 ^ n := Nat.and_two_pow_sub_one_eq_mod a n

theorem div_pow_bd (x : Int) (l : Nat) (hx : 0 ≤ x) (hx' : x < 4294967296) : 0 ≤ x / 2 ^ l ∧ x / 2 ^ l < 4294967296 :=
  ⟨Int.ediv_nonneg hx (Int.le_of_lt (pow_pos' l)), Int.lt_of_le_of_lt (Int.ediv_le_self _ hx) hx'⟩

/-- word.Field's last line. -/
theorem field_spell (x : Int) (l n : Nat) (hx : 0 ≤ x) (hx' : x < 4294967296) (hn : n ≤ 32) :
    bits BinOp.and IntKind.u32 (x / 2 ^ l) ((2 ^ n - 1) % 4294967296) = fld x l n := by
  have hd := div_pow_bd x l hx hx'
  have h1 : ((2 : Int) ^ n - 1) % 4294967296 = ((2 ^ n - 1 : Nat) : Int) := by
    have hp : 1 ≤ (2 : Nat) ^ n := Nat.one_le_two_pow
    have hq := pow_le32 n hn
    have hz := pow_pos' n
    rw [Int.emod_eq_of_lt (by omega) (by omega)]
    rw [Int.natCast_sub hp]; simp
  rw [h1]
  obtain ⟨m, hm⟩ := Int.eq_ofNat_of_zero_le hd.1
  rw [fld, hm]
  have hm' : m < 4294967296 := by have := hd.2; omega
  have hq : (2 : Nat) ^ n ≤ 4294967296 := by have := Nat.pow_le_pow_right (n := 2) (by decide) hn; simpa using this
  rw [u32_and_nat m _ hm' (by have : 1 ≤ (2 : Nat) ^ n := Nat.one_le_two_pow; omega), nat_mask]
  simp

/-- word.Sign's last line. -/
theorem sign_spell (x : Int) (n : Nat) (hn : n ≤ 32) : wrap32 (x * 2 ^ (32 - n) % 4294967296) / 2 ^ (32 - n) = sgn x n := by
  have : n ∈ List.range 33 := List.mem_range.2 (by omega)
  simp [List.range, List.range.loop] at this
  unfold sgn wrap32
  rcases this with rfl | rfl | rfl | rfl | rfl | rfl | rfl | rfl | rfl | rfl | rfl | rfl | rfl | rfl | rfl | rfl | rfl | rfl | rfl | rfl | rfl | rfl | rfl | rfl | rfl | rfl | rfl | rfl | rfl | rfl | rfl | rfl | rfl
  all_goals
    simp only [Int.bmod_def]
    simp
    try omega

def lo (x : Int) : Int := sgn x 12
def hi (x : Int) : Int := (x - sgn x 12) % 4294967296 / 4096
def wd (x : Int) (s : Bool) : Int := if s = true ∧ 2147483648 ≤ x then x - 4294967296 else x
def mulh (a b : Int) (sa sb : Bool) : Int := wd a sa * wd b sb / 4294967296 % 4294967296
def dv (a b : Int) (s : Bool) : Int := if b = 0 then 4294967295 else (wd a s).tdiv (wd b s) % 4294967296
def rm (a b : Int) (s : Bool) : Int := if b = 0 then a else (wd a s).tmod (wd b s) % 4294967296

theorem mul_bd (a b : Int) (ha : 0 ≤ a) (ha' : a < 4294967296) (hb : 0 ≤ b) (hb' : b < 4294967296) : 0 ≤ a * b ∧ a * b ≤ 18446744065119617025 := by
  have h1 : a * b ≤ 4294967295 * b := Int.mul_le_mul_of_nonneg_right (by omega) hb
  have h2 := Int.mul_nonneg ha hb
  omega
theorem mul_u64 (a b : Int) (ha : 0 ≤ a) (ha' : a < 4294967296) (hb : 0 ≤ b) (hb' : b < 4294967296) : IntKind.u64.wrap (a * b) = a * b := by
  have h := mul_bd a b ha ha' hb hb'
  rw [IntKind.wrap_u64]
  omega
theorem mulh_ff (a b : Int) (ha : 0 ≤ a) (hb : 0 ≤ b) : a * b / 4294967296 % 4294967296 = mulh a b false false := by
  unfold mulh wd; simp
theorem mulh_ft (a b : Int) (h : 2147483648 ≤ b) : (a * b / 4294967296 % 4294967296 - a) % 4294967296 = mulh a b false true := by
  unfold mulh wd; simp [h, Int.mul_sub]; omega
theorem mulh_ft' (a b : Int) (h : b < 2147483648) : a * b / 4294967296 % 4294967296 = mulh a b false true := by
  unfold mulh wd; simp [show ¬ 2147483648 ≤ b from by omega]
theorem mulh_tf (a b : Int) (h : 2147483648 ≤ a) : (a * b / 4294967296 % 4294967296 - b) % 4294967296 = mulh a b true false := by
  unfold mulh wd; simp [h, Int.sub_mul]; omega
theorem mulh_tf' (a b : Int) (h : a < 2147483648) : a * b / 4294967296 % 4294967296 = mulh a b true false := by
  unfold mulh wd; simp [show ¬ 2147483648 ≤ a from by omega]
theorem mulh_tt1 (a b : Int) (h : 2147483648 ≤ a) (h' : 2147483648 ≤ b) : ((a * b / 4294967296 - a) % 4294967296 - b) % 4294967296 = mulh a b true true := by
  unfold mulh wd; simp [h, h', Int.sub_mul, Int.mul_sub]; omega
theorem mulh_tt2 (a b : Int) (h : a < 2147483648) (h' : 2147483648 ≤ b) : (a * b / 4294967296 % 4294967296 - a) % 4294967296 = mulh a b true true := by
  unfold mulh wd; simp [show ¬ 2147483648 ≤ a from by omega, h', Int.mul_sub]; omega
theorem mulh_tt3 (a b : Int) (h : 2147483648 ≤ a) (h' : b < 2147483648) : (a * b / 4294967296 % 4294967296 - b) % 4294967296 = mulh a b true true := by
  unfold mulh wd; simp [h, show ¬ 2147483648 ≤ b from by omega, Int.sub_mul]; omega
theorem mulh_tt4 (a b : Int) (h : a < 2147483648) (h' : b < 2147483648) : a * b / 4294967296 % 4294967296 = mulh a b true true := by
  unfold mulh wd; simp [show ¬ 2147483648 ≤ a from by omega, show ¬ 2147483648 ≤ b from by omega]

theorem wd_false (x : Int) : wd x false = x := by simp [wd]
theorem wd_true (x : Int) (h : 0 ≤ x) (h' : x < 4294967296) : wd x true = wrap32 x := by unfold wd wrap32; simp; split <;> omega
theorem wrap32_u32 (x : Int) : wrap32 x % 4294967296 = x % 4294967296 := by unfold wrap32; omega
theorem div_uu (a b : Int) (ha : 0 ≤ a) (ha' : a < 4294967296) (hb : 0 ≤ b) (h0 : ¬ b = 0) : a / b = dv a b false := by
  unfold dv; rw [if_neg h0, wd_false, wd_false, Int.tdiv_eq_ediv_of_nonneg ha]
  have h1 := Int.ediv_le_self b ha
  have h2 := Int.ediv_nonneg ha hb
  omega
theorem rem_uu (a b : Int) (ha : 0 ≤ a) (ha' : a < 4294967296) (hb : 0 ≤ b) (h0 : ¬ b = 0) : a % b = rm a b false := by
  unfold rm; rw [if_neg h0, wd_false, wd_false, Int.tmod_eq_emod_of_nonneg ha]
  have h1 : a % b ≤ a := by
    have := Int.emod_add_mul_ediv a b
    have := Int.mul_nonneg hb (Int.ediv_nonneg ha hb)
    omega
  have h2 := Int.emod_nonneg a h0
  omega
theorem div_ss (a b : Int) (ha : 0 ≤ a) (ha' : a < 4294967296) (hb : 0 ≤ b) (hb' : b < 4294967296) (h0 : ¬ b = 0) : wrap32 ((wrap32 a).tdiv (wrap32 b)) % 4294967296 = dv a b true := by
  unfold dv; rw [if_neg h0, wd_true a ha ha', wd_true b hb hb', wrap32_u32]
theorem rem_ss (a b : Int) (ha : 0 ≤ a) (ha' : a < 4294967296) (hb : 0 ≤ b) (hb' : b < 4294967296) (h0 : ¬ b = 0) : (wrap32 a).tmod (wrap32 b) % 4294967296 = rm a b true := by
  unfold rm; rw [if_neg h0, wd_true a ha ha', wd_true b hb hb']

theorem div_succ (x : Int) (k : Nat) : x / 2 ^ (k + 1) = x / 2 ^ k / 2 := by
  rw [Int.pow_succ, Int.ediv_ediv_of_nonneg (Int.le_of_lt (pow_pos' k))]
theorem div_big (x : Int) (k : Nat) (hx : 0 ≤ x) (hx' : x < 4294967296) (hk : 32 ≤ k) : x / 2 ^ k = 0 := by
  apply Int.ediv_eq_zero_of_lt hx
  have : (2 : Nat) ^ 32 ≤ 2 ^ k := Nat.pow_le_pow_right (by decide) hk
  have h2 : ((2 ^ 32 : Nat) : Int) ≤ ((2 ^ k : Nat) : Int) := Int.ofNat_le.2 this
  simp at h2
  omega
theorem bit_end (x i : Int) (k : Nat) (hx : 0 ≤ x) (hx' : x < 4294967296) (hk : k ≤ 40) (hki : (k : Int) ≤ max i 0) (h : ¬ ((k : Int) < i ∧ k < 40)) : x / 2 ^ k % 2 = fld x i.toNat 1 := by
  unfold fld
  by_cases h1 : (k : Int) < i
  · rw [div_big x k hx hx' (by omega), div_big x i.toNat hx hx' (by omega)]; simp
  · have : k = i.toNat := by omega
    subst this; simp

theorem emod_split (y p : Int) (hp : 0 < p) : y % (p * 2) = y % p + p * (y / p % 2) := by
  have h1 := Int.emod_add_mul_ediv y p
  have h2 := Int.emod_add_mul_ediv (y / p) 2
  have h3 := Int.emod_nonneg y (Int.ne_of_gt hp)
  have h4 := Int.emod_lt_of_pos y hp
  have h5 : y = (y % p + p * (y / p % 2)) + p * 2 * (y / p / 2) := by
    have : p * (y / p) = p * (y / p % 2) + p * 2 * (y / p / 2) := by
      rw [Int.mul_assoc, ← Int.mul_add, h2]
    omega
  have h6 : y % (p * 2) = (y % p + p * (y / p % 2)) % (p * 2) := by
    conv => lhs; rw [h5]
    rw [Int.add_mul_emod_self_left]
  rw [h6]
  apply Int.emod_eq_of_lt
  · have : 0 ≤ p * (y / p % 2) := Int.mul_nonneg (by omega) (by omega)
    omega
  · have : y / p % 2 = 0 ∨ y / p % 2 = 1 := by omega
    rcases this with h | h <;> rw [h] <;> omega
theorem fld_step (x : Int) (L k : Nat) : fld x L (k + 1) = fld x L k + 2 ^ k * fld x (L + k) 1 := by
  unfold fld
  rw [Int.pow_succ, emod_split _ _ (pow_pos' k), Int.pow_add, Int.ediv_ediv_of_nonneg (Int.le_of_lt (pow_pos' L))]
  simp
theorem pow_lt32 (k : Nat) (h : k < 32) : (2 : Int) ^ k ≤ 2147483648 := by
  have : (2 : Nat) ^ k ≤ 2 ^ 31 := Nat.pow_le_pow_right (by decide) (by omega)
  have h2 : ((2 ^ k : Nat) : Int) ≤ ((2 ^ 31 : Nat) : Int) := Int.ofNat_le.2 this
  simpa using h2
theorem bit01 (x : Int) (i : Nat) : fld x i 1 = 0 ∨ fld x i 1 = 1 := by unfold fld; simp; omega
theorem field_step (x : Int) (L k m : Nat) (hk : k < 32) (hm : m = L + k) :
    (fld x L k + 2 ^ k % 4294967296 * fld x m 1 % 4294967296) % 4294967296 = fld x L (k + 1) := by
  subst hm
  rw [fld_step x L k]
  have h1 := fld_nonneg x L k
  have h2 := fld_lt x L k
  have h3 := pow_lt32 k hk
  have h4 := pow_pos' k
  rcases bit01 x (L + k) with h | h <;> rw [h] <;> omega
theorem unit_step (k : Nat) : (2 : Int) * (2 ^ k % 4294967296) % 4294967296 = 2 ^ (k + 1) % 4294967296 := by
  rw [Int.pow_succ]; omega

theorem sgn_zero (x : Int) : sgn x 0 = 0 := by unfold sgn; simp [Int.bmod_def]
theorem sgn_bit (x : Int) (m : Nat) (hm : 0 < m) : sgn x m = fld x 0 m - 2 ^ m * fld x (m - 1) 1 := by
  obtain ⟨k, rfl⟩ : ∃ k, m = k + 1 := ⟨m - 1, by omega⟩
  have h1 : sgn x (k + 1) = if fld x 0 (k + 1) < 2 ^ k then fld x 0 (k + 1) else fld x 0 (k + 1) - 2 ^ (k + 1) := by
    unfold sgn fld
    rw [Int.bmod_def]
    have : ((2 ^ (k + 1) : Nat) : Int) = 2 ^ (k + 1) := by simp
    rw [this]
    have e : ((2 : Int) ^ (k + 1) + 1) / 2 = 2 ^ k := by rw [Int.pow_succ]; omega
    rw [e]; simp
  have h2 := fld_step x 0 k
  have h3 := fld_nonneg x 0 k
  have h4 := fld_lt x 0 k
  have h5 := pow_pos' k
  simp only [Nat.zero_add] at h2
  rw [h1, h2]
  simp only [Nat.add_sub_cancel]
  rw [Int.pow_succ]
  rcases bit01 x k with h | h <;> rw [h] <;> split <;> omega

theorem sgn_bd (x : Int) (m : Nat) (h : m ≤ 32) : -2147483648 ≤ sgn x m ∧ sgn x m ≤ 2147483647 := by
  unfold sgn
  have hp := pow_le32 m h
  have hq := pow_pos' m
  have h1 := Int.le_bmod (x := x) (m := 2 ^ m) (by exact Nat.two_pow_pos m)
  have h2 := Int.bmod_lt (x := x) (m := 2 ^ m) (by exact Nat.two_pow_pos m)
  have e : ((2 ^ m : Nat) : Int) = 2 ^ m := by simp
  rw [e] at h1 h2
  omega
theorem sgn_lo (x : Int) (m : Nat) (hm : 0 < m) (h32 : m ≤ 32) (h : fld x (m - 1) 1 = 0) : wrap32 (fld x 0 m) = sgn x m := by
  have h1 := sgn_bit x m hm
  rw [h] at h1
  have h2 : -(2147483648 : Int) ≤ sgn x m ∧ sgn x m ≤ 2147483647 := sgn_bd x m h32
  unfold wrap32; omega
theorem sgn_hi (x : Int) (m : Nat) (hm : 0 < m) (h32 : m ≤ 32) (h : fld x (m - 1) 1 = 1) : wrap32 (fld x 0 m - 2 ^ m) = sgn x m := by
  have h1 := sgn_bit x m hm
  rw [h] at h1
  have h2 : -(2147483648 : Int) ≤ sgn x m ∧ sgn x m ≤ 2147483647 := sgn_bd x m h32
  unfold wrap32; omega
theorem rhi_spell (x : Int) : fld ((x - sgn x 12) % 4294967296) 12 20 = hi x := by
  unfold fld hi
  have e1 : (2 : Int) ^ 12 = 4096 := by decide
  have e2 : (2 : Int) ^ 20 = 1048576 := by decide
  rw [e1, e2]; omega
theorem mul_bd2 (x y : Int) (A B : Int) (hA : 0 ≤ A) (hB : 0 ≤ B) (h1 : -A ≤ x) (h2 : x ≤ A) (h3 : -B ≤ y) (h4 : y ≤ B) : -(A * B) ≤ x * y ∧ x * y ≤ A * B := by
  have e1 : x * y ≤ A * B := by
    by_cases hx : 0 ≤ x
    · by_cases hy : 0 ≤ y
      · exact Int.le_trans (Int.mul_le_mul_of_nonneg_right h2 hy) (Int.mul_le_mul_of_nonneg_left h4 hA)
      · have : x * y ≤ 0 := Int.mul_nonpos_of_nonneg_of_nonpos hx (by omega)
        have := Int.mul_nonneg hA hB; omega
    · by_cases hy : 0 ≤ y
      · have : x * y ≤ 0 := Int.mul_nonpos_of_nonpos_of_nonneg (by omega) hy
        have := Int.mul_nonneg hA hB; omega
      · have e : x * y = (-x) * (-y) := by rw [Int.neg_mul_neg]
        rw [e]
        exact Int.le_trans (Int.mul_le_mul_of_nonneg_right (by omega : -x ≤ A) (by omega)) (Int.mul_le_mul_of_nonneg_left (by omega) hA)
  have e2 : -(x * y) ≤ A * B := by
    have e : -(x * y) = (-x) * y := by rw [Int.neg_mul]
    rw [e]
    by_cases hx : 0 ≤ x
    · by_cases hy : 0 ≤ y
      · have : (-x) * y ≤ 0 := Int.mul_nonpos_of_nonpos_of_nonneg (by omega) hy
        have := Int.mul_nonneg hA hB; omega
      · have e : (-x) * y = x * (-y) := by rw [Int.neg_mul, Int.mul_neg]
        rw [e]
        exact Int.le_trans (Int.mul_le_mul_of_nonneg_right h2 (by omega)) (Int.mul_le_mul_of_nonneg_left (by omega) hA)
    · by_cases hy : 0 ≤ y
      · exact Int.le_trans (Int.mul_le_mul_of_nonneg_right (by omega : -x ≤ A) hy) (Int.mul_le_mul_of_nonneg_left h4 hA)
      · have : (-x) * y ≤ 0 := Int.mul_nonpos_of_nonneg_of_nonpos (by omega) (by omega)
        have := Int.mul_nonneg hA hB; omega
  omega
theorem wd_bd (x : Int) (s : Bool) (h : 0 ≤ x) (h' : x < 4294967296) : -2147483648 ≤ wd x s ∧ wd x s < 4294967296 := by unfold wd; split <;> omega

theorem wrap64_u32 (x : Int) : wrap64 x % 4294967296 = x % 4294967296 := by unfold wrap64; omega
theorem rmulh_spell (x l h : Int) (hx : -2147483648 ≤ x) (hx' : x < 4294967296) (hl : 0 ≤ l) (hl' : l < 65536) (hh : -65536 ≤ h) (hh' : h ≤ 65536) :
    wrap64 (wrap64 (x * h) + wrap64 (x * l) / 65536) / 65536 % 4294967296 = x * (h * 65536 + l) / 4294967296 % 4294967296 := by
  have h1 := mul_bd2 x h 4294967296 65536 (by omega) (by omega) (by omega) (by omega) (by omega) (by omega)
  have h2 := mul_bd2 x l 4294967296 65536 (by omega) (by omega) (by omega) (by omega) (by omega) (by omega)
  have e : x * (h * 65536 + l) = x * h * 65536 + x * l := by rw [Int.mul_add, Int.mul_assoc]
  rw [e]
  generalize x * h = P at *
  generalize x * l = Q at *
  unfold wrap64
  omega

theorem pow_cast (m : Nat) : ((2 ^ m : Nat) : Int) = 2 ^ m := by simp
theorem pow_dvd32 (m : Nat) (h : m ≤ 32) : (2 : Int) ^ m ∣ 4294967296 := by
  have : (4294967296 : Int) = 2 ^ m * 2 ^ (32 - m) := by rw [← Int.pow_add]; have : m + (32 - m) = 32 := by omega
                                                         rw [this]; decide
  exact ⟨_, this⟩
theorem sgn_emod (y : Int) (m : Nat) (h : m ≤ 32) : sgn (y % 4294967296) m = sgn y m := by
  unfold sgn
  rw [← Int.emod_bmod, ← Int.emod_bmod (x := y), pow_cast, Int.emod_emod_of_dvd _ (pow_dvd32 m h)]
theorem fld0_emod (y : Int) (m : Nat) (h : m ≤ 32) : fld (y % 4294967296) 0 m = fld y 0 m := by
  unfold fld
  simp
  rw [Int.emod_emod_of_dvd _ (pow_dvd32 m h)]
theorem sgn_sgn (x : Int) (m : Nat) : sgn (sgn x m) m = sgn x m := by unfold sgn; rw [Int.bmod_bmod]
theorem fld_sgn (x : Int) (m : Nat) : fld (sgn x m) 0 m = fld x 0 m := by
  unfold fld sgn; simp
  have := Int.bmod_emod (x := x) (m := 2 ^ m)
  rw [pow_cast] at this
  exact this
theorem sgn_range (x : Int) (m : Nat) : -(2 ^ m) ≤ 2 * sgn x m ∧ 2 * sgn x m < 2 ^ m := by
  unfold sgn
  have h1 := Int.le_bmod (x := x) (m := 2 ^ m) (by exact Nat.two_pow_pos m)
  have h2 := Int.bmod_lt (x := x) (m := 2 ^ m) (by exact Nat.two_pow_pos m)
  rw [pow_cast] at h1 h2
  omega
theorem sgn_of_range (v : Int) (m : Nat) (h1 : -(2 ^ m) ≤ 2 * v) (h2 : 2 * v < 2 ^ m) : sgn v m = v := by
  unfold sgn
  rw [Int.bmod_def, pow_cast]
  cases m with
  | zero => simp at *; omega
  | succ k =>
    rw [Int.pow_succ] at *
    have hp := pow_pos' k
    generalize (2 : Int) ^ k = p at *
    by_cases hv : 0 ≤ v
    · rw [Int.emod_eq_of_lt hv (by omega), if_pos (by omega)]
    · have e : v % (p * 2) = v + p * 2 := by
        have : v % (p * 2) = (v + p * 2) % (p * 2) := by simp
        rw [this, Int.emod_eq_of_lt (by omega) (by omega)]
      rw [e, if_neg (by omega)]; omega
theorem pow_mono (a b : Nat) (h : a ≤ b) : (2 : Int) ^ a ≤ 2 ^ b := by
  have : (2 : Nat) ^ a ≤ 2 ^ b := Nat.pow_le_pow_right (by decide) h
  have h2 : ((2 ^ a : Nat) : Int) ≤ ((2 ^ b : Nat) : Int) := Int.ofNat_le.2 this
  simpa using h2
theorem fits_mono (v : Int) (a b : Nat) (hb : b ≤ 32) (h : a ≤ b) (hv : sgn (v % 4294967296) a = v) : sgn (v % 4294967296) b = v := by
  rw [sgn_emod _ _ (by omega)] at hv
  rw [sgn_emod _ _ hb]
  have h1 := sgn_range v a
  have h2 := pow_mono a b h
  rw [hv] at h1
  exact sgn_of_range v b (by omega) (by omega)
theorem fits_again (v : Int) (m : Nat) (h : m ≤ 32) : (sgn (sgn (v % 4294967296) m % 4294967296) m == sgn (v % 4294967296) m) = true := by
  rw [beq_iff_eq, sgn_emod _ _ h, sgn_emod _ _ h, sgn_sgn]
theorem field_again (v : Int) (m : Nat) (h : m ≤ 32) : (fld (sgn (v % 4294967296) m % 4294967296) 0 m == fld (v % 4294967296) 0 m) = true := by
  rw [beq_iff_eq, sgn_emod _ _ h, fld0_emod _ _ h, fld0_emod _ _ h, fld_sgn]
theorem wd_mod (a : Int) (s : Bool) : wd a s % 4294967296 = a % 4294967296 := by unfold wd; split <;> omega
theorem div_back (a b : Int) (s : Bool) (ha : 0 ≤ a) (ha' : a ≤ 4294967295) : ((dv a b s * b + rm a b s) % 4294967296 == a) = true := by
  rw [beq_iff_eq]
  unfold dv rm
  by_cases h : b = 0
  · subst h; simp; omega
  · rw [if_neg h, if_neg h]
    have e := Int.tdiv_mul_add_tmod (wd a s) (wd b s)
    have hb := wd_mod b s
    have hA := wd_mod a s
    have : ((wd a s).tdiv (wd b s) % 4294967296 * b + (wd a s).tmod (wd b s) % 4294967296) % 4294967296 = ((wd a s).tdiv (wd b s) * wd b s + (wd a s).tmod (wd b s)) % 4294967296 := by
      rw [Int.add_emod, Int.emod_emod, Int.mul_emod, Int.emod_emod, ← hb, ← Int.mul_emod, ← Int.add_emod]
    rw [this, e, hA]; omega
/-- low | high << k. -/
theorem or_spell (a b : Int) (k : Nat) (hk : k ≤ 32) (ha : 0 ≤ a) (ha' : a < 2 ^ k) (hb : 0 ≤ b) (hb' : b * 2 ^ k < 4294967296) : bits BinOp.or IntKind.u32 a (b * 2 ^ k) = a + b * 2 ^ k := by
  obtain ⟨m, rfl⟩ := Int.eq_ofNat_of_zero_le ha
  obtain ⟨n, rfl⟩ := Int.eq_ofNat_of_zero_le hb
  have e : ((n : Int) * 2 ^ k) = ((n * 2 ^ k : Nat) : Int) := by simp
  have hm : m < 2 ^ k := by have h : ((m : Nat) : Int) < ((2 ^ k : Nat) : Int) := by rw [pow_cast]; exact ha'
                            exact Int.ofNat_lt.1 h
  have hq := pow_le32 k hk
  rw [e] at hb' ⊢
  rw [u32_or_nat m _ (by omega) (by omega), Nat.or_comm, Nat.mul_comm, ← Nat.two_pow_add_eq_or_of_lt hm]
  omega
theorem fld_all (x : Int) (h : 0 ≤ x) (h' : x < 4294967296) : fld x 0 32 = x := by unfold fld; simp; omega
theorem fld_join (x : Int) (k m : Nat) (h : 0 ≤ x) (h' : x < 4294967296) (hm : 32 ≤ k + m) : fld x 0 k + fld x k m * 2 ^ k = x := by
  unfold fld
  have h1 : x / 2 ^ k % 2 ^ m = x / 2 ^ k := by
    apply Int.emod_eq_of_lt (div_pow_bd x k h h').1
    apply Int.ediv_lt_of_lt_mul (pow_pos' k)
    rw [← Int.pow_add]
    have := pow_mono 32 (m + k) (by omega)
    have e : (2 : Int) ^ 32 = 4294967296 := by decide
    omega
  rw [h1]
  have := Int.emod_add_mul_ediv x (2 ^ k)
  simp
  rw [Int.mul_comm] at this
  exact this
theorem fld_above (x : Int) (k : Nat) : fld (fld x 0 k) k 32 = 0 := by
  have h := fld_nonneg x 0 k
  have h' := fld_lt x 0 k
  generalize fld x 0 k = y at *
  unfold fld
  rw [Int.ediv_eq_zero_of_lt h h']; decide
end Go.Proofs.YtdgmdkkockbkjaaGreatDoor
