/- Parts of the proof, one behind the other. -/
import Derived.WalkKit
import Derived.Laws.BitsAllLaws
/- Plain arithmetic of words: fields, signed fields, and how the model spells them. No program in sight. -/
namespace Go.Proofs.YtndpgakjpokllaaGreat
open Go.RowKit
set_option linter.unusedVariables false

/-- A number of bits, as it counts. -/
def cl (n : Int) : Nat := (min (max n 0) 32).toNat

theorem cl_le (n : Int) : cl n ≤ 32 := by unfold cl; omega

theorem cl_nat (n : Nat) (h : n ≤ 32) : cl (n : Int) = n := by unfold cl; omega

/-- Some bits of a word. -/
def fld (x : Int) (l n : Nat) : Int := x / 2 ^ l % 2 ^ n

/-- The lowest bits of a word as a signed number. -/
def sgn (x : Int) (n : Nat) : Int := Int.bmod x (2 ^ n)

theorem pow_pos' (n : Nat) : (0 : Int) < 2 ^ n := Int.pow_pos (by decide)

theorem fld_nonneg (x : Int) (l n : Nat) : 0 ≤ fld x l n := Int.emod_nonneg _ (Int.ne_of_gt (pow_pos' n))

theorem fld_lt (x : Int) (l n : Nat) : fld x l n < 2 ^ n := Int.emod_lt_of_pos _ (pow_pos' n)

theorem pow_le32 (n : Nat) (h : n ≤ 32) : (2 : Int) ^ n ≤ 4294967296 := by
  have : (2 : Nat) ^ n ≤ 2 ^ 32 := Nat.pow_le_pow_right (by decide) h
  have h2 : ((2 ^ n : Nat) : Int) ≤ ((2 ^ 32 : Nat) : Int) := Int.ofNat_le.2 this
  simpa using h2

theorem fld_u32 (x : Int) (l n : Nat) (h : n ≤ 32) : fld x l n < 4294967296 := Int.lt_of_lt_of_le (fld_lt x l n) (pow_le32 n h)

theorem nat_mask (a n : Nat) : a &&& (2 ^ n - 1) = a % 2 ^ n := Nat.and_two_pow_sub_one_eq_mod a n

theorem div_pow_bd (x : Int) (l : Nat) (hx : 0 ≤ x) (hx' : x < 4294967296) : 0 ≤ x / 2 ^ l ∧ x / 2 ^ l < 4294967296 :=
  ⟨Int.ediv_nonneg hx (Int.le_of_lt (pow_pos' l)), Int.lt_of_le_of_lt (Int.ediv_le_self _ hx) hx'⟩

/-- word.Field's last line. -/
theorem field_spell (x : Int) (l n : Nat) (hx : 0 ≤ x) (hx' : x < 4294967296) (hn : n ≤ 32) :
    bits BinOp.and IntKind.u32 (x / 2 ^ l) ((2 ^ n - 1) % 4294967296) = fld x l n := by
  have hd := div_pow_bd x l hx hx'
  have h1 : ((2 : Int) ^ n - 1) % 4294967296 = ((2 ^ n - 1 : Nat) : Int) := by
    have hp : 1 ≤ (2 : Nat) ^ n := Nat.one_le_two_pow
    have hq := pow_le32 n hn
    have hz := pow_pos' n
    rw [Int.emod_eq_of_lt (by omega) (by omega)]
    rw [Int.natCast_sub hp]; simp
  rw [h1]
  obtain ⟨m, hm⟩ := Int.eq_ofNat_of_zero_le hd.1
  rw [fld, hm]
  have hm' : m < 4294967296 := by have := hd.2; omega
  have hq : (2 : Nat) ^ n ≤ 4294967296 := by have := Nat.pow_le_pow_right (n := 2) (by decide) hn; simpa using this
  rw [u32_and_nat m _ hm' (by have : 1 ≤ (2 : Nat) ^ n := Nat.one_le_two_pow; omega), nat_mask]
  simp

/-- word.Sign's last line. -/
theorem sign_spell (x : Int) (n : Nat) (hn : n ≤ 32) : wrap32 (x * 2 ^ (32 - n) % 4294967296) / 2 ^ (32 - n) = sgn x n := by
  have : n ∈ List.range 33 := List.mem_range.2 (by omega)
  simp [List.range, List.range.loop] at this
  unfold sgn wrap32
  rcases this with rfl | rfl | rfl | rfl | rfl | rfl | rfl | rfl | rfl | rfl | rfl | rfl | rfl | rfl | rfl | rfl | rfl | rfl | rfl | rfl | rfl | rfl | rfl | rfl | rfl | rfl | rfl | rfl | rfl | rfl | rfl | rfl | rfl
  all_goals
    simp only [Int.bmod_def]
    simp
    try omega

def lo (x : Int) : Int := sgn x 12

def hi (x : Int) : Int := (x - sgn x 12) % 4294967296 / 4096

def wd (x : Int) (s : Bool) : Int := if s = true ∧ 2147483648 ≤ x then x - 4294967296 else x

def mulh (a b : Int) (sa sb : Bool) : Int := wd a sa * wd b sb / 4294967296 % 4294967296

def dv (a b : Int) (s : Bool) : Int := if b = 0 then 4294967295 else (wd a s).tdiv (wd b s) % 4294967296

def rm (a b : Int) (s : Bool) : Int := if b = 0 then a else (wd a s).tmod (wd b s) % 4294967296

theorem mul_bd (a b : Int) (ha : 0 ≤ a) (ha' : a < 4294967296) (hb : 0 ≤ b) (hb' : b < 4294967296) : 0 ≤ a * b ∧ a * b ≤ 18446744065119617025 := by
  have h1 : a * b ≤ 4294967295 * b := Int.mul_le_mul_of_nonneg_right (by omega) hb
  have h2 := Int.mul_nonneg ha hb
  omega

theorem mul_u64 (a b : Int) (ha : 0 ≤ a) (ha' : a < 4294967296) (hb : 0 ≤ b) (hb' : b < 4294967296) : IntKind.u64.wrap (a * b) = a * b := by
  have h := mul_bd a b ha ha' hb hb'
  rw [IntKind.wrap_u64]
  omega

theorem mulh_ff (a b : Int) (ha : 0 ≤ a) (hb : 0 ≤ b) : a * b / 4294967296 % 4294967296 = mulh a b false false := by
  unfold mulh wd; simp

theorem mulh_ft (a b : Int) (h : 2147483648 ≤ b) : (a * b / 4294967296 % 4294967296 - a) % 4294967296 = mulh a b false true := by
  unfold mulh wd; simp [h, Int.mul_sub]; omega

theorem mulh_ft' (a b : Int) (h : b < 2147483648) : a * b / 4294967296 % 4294967296 = mulh a b false true := by
  unfold mulh wd; simp [show ¬ 2147483648 ≤ b from by omega]

theorem mulh_tf (a b : Int) (h : 2147483648 ≤ a) : (a * b / 4294967296 % 4294967296 - b) % 4294967296 = mulh a b true false := by
  unfold mulh wd; simp [h, Int.sub_mul]; omega

theorem mulh_tf' (a b : Int) (h : a < 2147483648) : a * b / 4294967296 % 4294967296 = mulh a b true false := by
  unfold mulh wd; simp [show ¬ 2147483648 ≤ a from by omega]

theorem mulh_tt1 (a b : Int) (h : 2147483648 ≤ a) (h' : 2147483648 ≤ b) : ((a * b / 4294967296 - a) % 4294967296 - b) % 4294967296 = mulh a b true true := by
  unfold mulh wd; simp [h, h', Int.sub_mul, Int.mul_sub]; omega

theorem mulh_tt2 (a b : Int) (h : a < 2147483648) (h' : 2147483648 ≤ b) : (a * b / 4294967296 % 4294967296 - a) % 4294967296 = mulh a b true true := by
  unfold mulh wd; simp [show ¬ 2147483648 ≤ a from by omega, h', Int.mul_sub]; omega

theorem mulh_tt3 (a b : Int) (h : 2147483648 ≤ a) (h' : b < 2147483648) : (a * b / 4294967296 % 4294967296 - b) % 4294967296 = mulh a b true true := by
  unfold mulh wd; simp [h, show ¬ 2147483648 ≤ b from by omega, Int.sub_mul]; omega

theorem mulh_tt4 (a b : Int) (h : a < 2147483648) (h' : b < 2147483648) : a * b / 4294967296 % 4294967296 = mulh a b true true := by
  unfold mulh wd; simp [show ¬ 2147483648 ≤ a from by omega, show ¬ 2147483648 ≤ b from by omega]

theorem wd_false (x : Int) : wd x false = x := by simp [wd]

theorem wd_true (x : Int) (h : 0 ≤ x) (h' : x < 4294967296) : wd x true = wrap32 x := by unfold wd wrap32; simp; split <;> omega

theorem wrap32_u32 (x : Int) : wrap32 x % 4294967296 = x % 4294967296 := by unfold wrap32; omega

theorem div_uu (a b : Int) (ha : 0 ≤ a) (ha' : a < 4294967296) (hb : 0 ≤ b) (h0 : ¬ b = 0) : a / b = dv a b false := by
  unfold dv; rw [if_neg h0, wd_false, wd_false, Int.tdiv_eq_ediv_of_nonneg ha]
  have h1 := Int.ediv_le_self b ha
  have h2 := Int.ediv_nonneg ha hb
  omega

theorem rem_uu (a b : Int) (ha : 0 ≤ a) (ha' : a < 4294967296) (hb : 0 ≤ b) (h0 : ¬ b = 0) : a % b = rm a b false := by
  unfold rm; rw [if_neg h0, wd_false, wd_false, Int.tmod_eq_emod_of_nonneg ha]
  have h1 : a % b ≤ a := by
    have := Int.emod_add_mul_ediv a b
    have := Int.mul_nonneg hb (Int.ediv_nonneg ha hb)
    omega
  have h2 := Int.emod_nonneg a h0
  omega

theorem div_ss (a b : Int) (ha : 0 ≤ a) (ha' : a < 4294967296) (hb : 0 ≤ b) (hb' : b < 4294967296) (h0 : ¬ b = 0) : wrap32 ((wrap32 a).tdiv (wrap32 b)) % 4294967296 = dv a b true := by
  unfold dv; rw [if_neg h0, wd_true a ha ha', wd_true b hb hb', wrap32_u32]

theorem rem_ss (a b : Int) (ha : 0 ≤ a) (ha' : a < 4294967296) (hb : 0 ≤ b) (hb' : b < 4294967296) (h0 : ¬ b = 0) : (wrap32 a).tmod (wrap32 b) % 4294967296 = rm a b true := by
  unfold rm; rw [if_neg h0, wd_true a ha ha', wd_true b hb hb']

theorem div_succ (x : Int) (k : Nat) : x / 2 ^ (k + 1) = x / 2 ^ k / 2 := by
  rw [Int.pow_succ, Int.ediv_ediv_of_nonneg (Int.le_of_lt (pow_pos' k))]

theorem div_big (x : Int) (k : Nat) (hx : 0 ≤ x) (hx' : x < 4294967296) (hk : 32 ≤ k) : x / 2 ^ k = 0 := by
  apply Int.ediv_eq_zero_of_lt hx
  have : (2 : Nat) ^ 32 ≤ 2 ^ k := Nat.pow_le_pow_right (by decide) hk
  have h2 : ((2 ^ 32 : Nat) : Int) ≤ ((2 ^ k : Nat) : Int) := Int.ofNat_le.2 this
  simp at h2
  omega

theorem bit_end (x i : Int) (k : Nat) (hx : 0 ≤ x) (hx' : x < 4294967296) (hk : k ≤ 40) (hki : (k : Int) ≤ max i 0) (h : ¬ ((k : Int) < i ∧ k < 40)) : x / 2 ^ k % 2 = fld x i.toNat 1 := by
  unfold fld
  by_cases h1 : (k : Int) < i
  · rw [div_big x k hx hx' (by omega), div_big x i.toNat hx hx' (by omega)]; simp
  · have : k = i.toNat := by omega
    subst this; simp

theorem emod_split (y p : Int) (hp : 0 < p) : y % (p * 2) = y % p + p * (y / p % 2) := by
  have h1 := Int.emod_add_mul_ediv y p
  have h2 := Int.emod_add_mul_ediv (y / p) 2
  have h3 := Int.emod_nonneg y (Int.ne_of_gt hp)
  have h4 := Int.emod_lt_of_pos y hp
  have h5 : y = (y % p + p * (y / p % 2)) + p * 2 * (y / p / 2) := by
    have : p * (y / p) = p * (y / p % 2) + p * 2 * (y / p / 2) := by
      rw [Int.mul_assoc, ← Int.mul_add, h2]
    omega
  have h6 : y % (p * 2) = (y % p + p * (y / p % 2)) % (p * 2) := by
    conv => lhs; rw [h5]
    rw [Int.add_mul_emod_self_left]
  rw [h6]
  apply Int.emod_eq_of_lt
  · have : 0 ≤ p * (y / p % 2) := Int.mul_nonneg (by omega) (by omega)
    omega
  · have : y / p % 2 = 0 ∨ y / p % 2 = 1 := by omega
    rcases this with h | h <;> rw [h] <;> omega

theorem fld_step (x : Int) (L k : Nat) : fld x L (k + 1) = fld x L k + 2 ^ k * fld x (L + k) 1 := by
  unfold fld
  rw [Int.pow_succ, emod_split _ _ (pow_pos' k), Int.pow_add, Int.ediv_ediv_of_nonneg (Int.le_of_lt (pow_pos' L))]
  simp

theorem pow_lt32 (k : Nat) (h : k < 32) : (2 : Int) ^ k ≤ 2147483648 := by
  have : (2 : Nat) ^ k ≤ 2 ^ 31 := Nat.pow_le_pow_right (by decide) (by omega)
  have h2 : ((2 ^ k : Nat) : Int) ≤ ((2 ^ 31 : Nat) : Int) := Int.ofNat_le.2 this
  simpa using h2

theorem bit01 (x : Int) (i : Nat) : fld x i 1 = 0 ∨ fld x i 1 = 1 := by unfold fld; simp; omega

theorem field_step (x : Int) (L k m : Nat) (hk : k < 32) (hm : m = L + k) :
    (fld x L k + 2 ^ k % 4294967296 * fld x m 1 % 4294967296) % 4294967296 = fld x L (k + 1) := by
  subst hm
  rw [fld_step x L k]
  have h1 := fld_nonneg x L k
  have h2 := fld_lt x L k
  have h3 := pow_lt32 k hk
  have h4 := pow_pos' k
  rcases bit01 x (L + k) with h | h <;> rw [h] <;> omega

theorem unit_step (k : Nat) : (2 : Int) * (2 ^ k % 4294967296) % 4294967296 = 2 ^ (k + 1) % 4294967296 := by
  rw [Int.pow_succ]; omega

theorem sgn_zero (x : Int) : sgn x 0 = 0 := by unfold sgn; simp [Int.bmod_def]

theorem sgn_bit (x : Int) (m : Nat) (hm : 0 < m) : sgn x m = fld x 0 m - 2 ^ m * fld x (m - 1) 1 := by
  obtain ⟨k, rfl⟩ : ∃ k, m = k + 1 := ⟨m - 1, by omega⟩
  have h1 : sgn x (k + 1) = if fld x 0 (k + 1) < 2 ^ k then fld x 0 (k + 1) else fld x 0 (k + 1) - 2 ^ (k + 1) := by
    unfold sgn fld
    rw [Int.bmod_def]
    have : ((2 ^ (k + 1) : Nat) : Int) = 2 ^ (k + 1) := by simp
    rw [this]
    have e : ((2 : Int) ^ (k + 1) + 1) / 2 = 2 ^ k := by rw [Int.pow_succ]; omega
    rw [e]; simp
  have h2 := fld_step x 0 k
  have h3 := fld_nonneg x 0 k
  have h4 := fld_lt x 0 k
  have h5 := pow_pos' k
  simp only [Nat.zero_add] at h2
  rw [h1, h2]
  simp only [Nat.add_sub_cancel]
  rw [Int.pow_succ]
  rcases bit01 x k with h | h <;> rw [h] <;> split <;> omega

theorem sgn_bd (x : Int) (m : Nat) (h : m ≤ 32) : -2147483648 ≤ sgn x m ∧ sgn x m ≤ 2147483647 := by
  unfold sgn
  have hp := pow_le32 m h
  have hq := pow_pos' m
  have h1 := Int.le_bmod (x := x) (m := 2 ^ m) (by exact Nat.two_pow_pos m)
  have h2 := Int.bmod_lt (x := x) (m := 2 ^ m) (by exact Nat.two_pow_pos m)
  have e : ((2 ^ m : Nat) : Int) = 2 ^ m := by simp
  rw [e] at h1 h2
  omega

theorem sgn_lo (x : Int) (m : Nat) (hm : 0 < m) (h32 : m ≤ 32) (h : fld x (m - 1) 1 = 0) : wrap32 (fld x 0 m) = sgn x m := by
  have h1 := sgn_bit x m hm
  rw [h] at h1
  have h2 : -(2147483648 : Int) ≤ sgn x m ∧ sgn x m ≤ 2147483647 := sgn_bd x m h32
  unfold wrap32; omega

theorem sgn_hi (x : Int) (m : Nat) (hm : 0 < m) (h32 : m ≤ 32) (h : fld x (m - 1) 1 = 1) : wrap32 (fld x 0 m - 2 ^ m) = sgn x m := by
  have h1 := sgn_bit x m hm
  rw [h] at h1
  have h2 : -(2147483648 : Int) ≤ sgn x m ∧ sgn x m ≤ 2147483647 := sgn_bd x m h32
  unfold wrap32; omega

theorem mul_bd2 (x y : Int) (A B : Int) (hA : 0 ≤ A) (hB : 0 ≤ B) (h1 : -A ≤ x) (h2 : x ≤ A) (h3 : -B ≤ y) (h4 : y ≤ B) : -(A * B) ≤ x * y ∧ x * y ≤ A * B := by
  have e1 : x * y ≤ A * B := by
    by_cases hx : 0 ≤ x
    · by_cases hy : 0 ≤ y
      · exact Int.le_trans (Int.mul_le_mul_of_nonneg_right h2 hy) (Int.mul_le_mul_of_nonneg_left h4 hA)
      · have : x * y ≤ 0 := Int.mul_nonpos_of_nonneg_of_nonpos hx (by omega)
        have := Int.mul_nonneg hA hB; omega
    · by_cases hy : 0 ≤ y
      · have : x * y ≤ 0 := Int.mul_nonpos_of_nonpos_of_nonneg (by omega) hy
        have := Int.mul_nonneg hA hB; omega
      · have e : x * y = (-x) * (-y) := by rw [Int.neg_mul_neg]
        rw [e]
        exact Int.le_trans (Int.mul_le_mul_of_nonneg_right (by omega : -x ≤ A) (by omega)) (Int.mul_le_mul_of_nonneg_left (by omega) hA)
  have e2 : -(x * y) ≤ A * B := by
    have e : -(x * y) = (-x) * y := by rw [Int.neg_mul]
    rw [e]
    by_cases hx : 0 ≤ x
    · by_cases hy : 0 ≤ y
      · have : (-x) * y ≤ 0 := Int.mul_nonpos_of_nonpos_of_nonneg (by omega) hy
        have := Int.mul_nonneg hA hB; omega
      · have e : (-x) * y = x * (-y) := by rw [Int.neg_mul, Int.mul_neg]
        rw [e]
        exact Int.le_trans (Int.mul_le_mul_of_nonneg_right h2 (by omega)) (Int.mul_le_mul_of_nonneg_left (by omega) hA)
    · by_cases hy : 0 ≤ y
      · exact Int.le_trans (Int.mul_le_mul_of_nonneg_right (by omega : -x ≤ A) hy) (Int.mul_le_mul_of_nonneg_left h4 hA)
      · have : (-x) * y ≤ 0 := Int.mul_nonpos_of_nonneg_of_nonpos (by omega) (by omega)
        have := Int.mul_nonneg hA hB; omega
  omega

theorem wd_bd (x : Int) (s : Bool) (h : 0 ≤ x) (h' : x < 4294967296) : -2147483648 ≤ wd x s ∧ wd x s < 4294967296 := by unfold wd; split <;> omega

theorem wrap64_u32 (x : Int) : wrap64 x % 4294967296 = x % 4294967296 := by unfold wrap64; omega

theorem rmulh_spell (x l h : Int) (hx : -2147483648 ≤ x) (hx' : x < 4294967296) (hl : 0 ≤ l) (hl' : l < 65536) (hh : -65536 ≤ h) (hh' : h ≤ 65536) :
    wrap64 (wrap64 (x * h) + wrap64 (x * l) / 65536) / 65536 % 4294967296 = x * (h * 65536 + l) / 4294967296 % 4294967296 := by
  have h1 := mul_bd2 x h 4294967296 65536 (by omega) (by omega) (by omega) (by omega) (by omega) (by omega)
  have h2 := mul_bd2 x l 4294967296 65536 (by omega) (by omega) (by omega) (by omega) (by omega) (by omega)
  have e : x * (h * 65536 + l) = x * h * 65536 + x * l := by rw [Int.mul_add, Int.mul_assoc]
  rw [e]
  generalize x * h = P at *
  generalize x * l = Q at *
  unfold wrap64
  omega

theorem pow_cast (m : Nat) : ((2 ^ m : Nat) : Int) = 2 ^ m := by simp

theorem pow_dvd32 (m : Nat) (h : m ≤ 32) : (2 : Int) ^ m ∣ 4294967296 := by
  have : (4294967296 : Int) = 2 ^ m * 2 ^ (32 - m) := by rw [← Int.pow_add]; have : m + (32 - m) = 32 := by omega
                                                         rw [this]; decide
  exact ⟨_, this⟩

theorem sgn_emod (y : Int) (m : Nat) (h : m ≤ 32) : sgn (y % 4294967296) m = sgn y m := by
  unfold sgn
  rw [← Int.emod_bmod, ← Int.emod_bmod (x := y), pow_cast, Int.emod_emod_of_dvd _ (pow_dvd32 m h)]

theorem sgn_sgn (x : Int) (m : Nat) : sgn (sgn x m) m = sgn x m := by unfold sgn; rw [Int.bmod_bmod]

theorem sgn_range (x : Int) (m : Nat) : -(2 ^ m) ≤ 2 * sgn x m ∧ 2 * sgn x m < 2 ^ m := by
  unfold sgn
  have h1 := Int.le_bmod (x := x) (m := 2 ^ m) (by exact Nat.two_pow_pos m)
  have h2 := Int.bmod_lt (x := x) (m := 2 ^ m) (by exact Nat.two_pow_pos m)
  rw [pow_cast] at h1 h2
  omega

theorem sgn_of_range (v : Int) (m : Nat) (h1 : -(2 ^ m) ≤ 2 * v) (h2 : 2 * v < 2 ^ m) : sgn v m = v := by
  unfold sgn
  rw [Int.bmod_def, pow_cast]
  cases m with
  | zero => simp at *; omega
  | succ k =>
    rw [Int.pow_succ] at *
    have hp := pow_pos' k
    generalize (2 : Int) ^ k = p at *
    by_cases hv : 0 ≤ v
    · rw [Int.emod_eq_of_lt hv (by omega), if_pos (by omega)]
    · have e : v % (p * 2) = v + p * 2 := by
        have : v % (p * 2) = (v + p * 2) % (p * 2) := by simp
        rw [this, Int.emod_eq_of_lt (by omega) (by omega)]
      rw [e, if_neg (by omega)]; omega

/-- low | high << k. -/
theorem or_spell (a b : Int) (k : Nat) (hk : k ≤ 32) (ha : 0 ≤ a) (ha' : a < 2 ^ k) (hb : 0 ≤ b) (hb' : b * 2 ^ k < 4294967296) : bits BinOp.or IntKind.u32 a (b * 2 ^ k) = a + b * 2 ^ k := by
  obtain ⟨m, rfl⟩ := Int.eq_ofNat_of_zero_le ha
  obtain ⟨n, rfl⟩ := Int.eq_ofNat_of_zero_le hb
  have e : ((n : Int) * 2 ^ k) = ((n * 2 ^ k : Nat) : Int) := by simp
  have hm : m < 2 ^ k := by have h : ((m : Nat) : Int) < ((2 ^ k : Nat) : Int) := by rw [pow_cast]; exact ha'
                            exact Int.ofNat_lt.1 h
  have hq := pow_le32 k hk
  rw [e] at hb' ⊢
  rw [u32_or_nat m _ (by omega) (by omega), Nat.or_comm, Nat.mul_comm, ← Nat.two_pow_add_eq_or_of_lt hm]
  omega

end Go.Proofs.YtndpgakjpokllaaGreat

/- Plain: the operations' fixed bits and forms, by their numbers. -/
namespace Go.Proofs.YtndpgakjpokllaaGreat

/-- The forms, by the operation's number: 1 Upper, 2 Jump, 3 Branch, 4 Load, 5 Store, 6 Number, 7 Shift, 8 Register, 9 Bare. -/
def formsL : List Int := [0, 1, 1, 2, 4, 3, 3, 3, 3, 3, 3, 4, 4, 4, 4, 4, 5, 5, 5, 6, 6, 6, 6, 6, 6, 7, 7, 7, 8, 8, 8, 8, 8, 8, 8, 8, 8, 8, 9, 9, 9, 8, 8, 8, 8, 8, 8, 8, 8]

def formN (op : Int) : Int := formsL.getD op.toNat 0

/-- Is it a register, or 0 where there is none? -/
def regB (n : Int) (need : Bool) : Bool := if need = true then decide (0 ≤ n) && decide (n ≤ 31) else n == 0

/-- Is a number a signed one of so many bits? -/
def fitB (v : Int) (b : Nat) : Bool := sgn (v % 4294967296) b == v

/-- May a number stand in a form? -/
def numB (f v : Int) : Bool :=
  if f = 1 then v % 4096 == 0
  else if f = 2 then v % 2 == 0 && fitB v 21
  else if f = 3 then v % 2 == 0 && fitB v 13
  else if f = 4 ∨ f = 5 ∨ f = 6 then fitB v 12
  else if f = 7 then decide (0 ≤ v) && decide (v ≤ 31)
  else v == 0

def needD (f : Int) : Bool := f == 1 || f == 2 || f == 4 || f == 6 || f == 7 || f == 8

def needS (f : Int) : Bool := f == 3 || f == 4 || f == 5 || f == 6 || f == 7 || f == 8

def needT (f : Int) : Bool := f == 3 || f == 5 || f == 8

/-- May it be an instruction? -/
def mayB (op rd rs1 rs2 imm : Int) : Bool :=
  !(formN op == 0) && (regB rd (needD (formN op)) && (regB rs1 (needS (formN op)) && (regB rs2 (needT (formN op)) && numB (formN op) imm)))

theorem formN_range (op : Int) : formN op = 0 ∨ formN op = 1 ∨ formN op = 2 ∨ formN op = 3 ∨ formN op = 4 ∨ formN op = 5 ∨ formN op = 6 ∨ formN op = 7 ∨ formN op = 8 ∨ formN op = 9 := by
  have h : ∀ x ∈ formsL, x = 0 ∨ x = 1 ∨ x = 2 ∨ x = 3 ∨ x = 4 ∨ x = 5 ∨ x = 6 ∨ x = 7 ∨ x = 8 ∨ x = 9 := by decide
  unfold formN
  by_cases hl : op.toNat < formsL.length
  · have e : formsL.getD op.toNat 0 = formsL[op.toNat] := by rw [List.getD_eq_getElem?_getD, List.getElem?_eq_getElem hl]; rfl
    rw [e]; exact h _ (List.getElem_mem hl)
  · have e : formsL.getD op.toNat 0 = 0 := by rw [List.getD_eq_getElem?_getD, List.getElem?_eq_none (by omega)]; rfl
    rw [e]; exact Or.inl rfl

end Go.Proofs.YtndpgakjpokllaaGreat

/- Plain: a word's instruction, an instruction's word, and that the second undoes the first. No program in sight. -/
namespace Go.Proofs.YtndpgakjpokllaaGreat
open Go.RowKit
set_option linter.unusedVariables false

/-- An instruction: its operation, its registers, its number. -/
structure In5 where
  op : Int
  rd : Int
  rs1 : Int
  rs2 : Int
  imm : Int

def none5 : In5 := ⟨0, 0, 0, 0, 0⟩

def brOp (f : Int) : Int := if f = 0 then 5 else if f = 1 then 6 else if f = 4 then 7 else if f = 5 then 8 else if f = 6 then 9 else if f = 7 then 10 else 0

def stOp (f : Int) : Int := if f = 0 then 16 else if f = 1 then 17 else if f = 2 then 18 else 0

def reOp (f : Int) : Int := if f = 0 then 19 else if f = 2 then 20 else if f = 3 then 21 else if f = 4 then 22 else if f = 6 then 23 else if f = 7 then 24 else 0

def ldOp (f : Int) : Int := if f = 0 then 11 else if f = 1 then 12 else if f = 2 then 13 else if f = 4 then 14 else if f = 5 then 15 else 0

def nuOp (o f : Int) : Int := if o = 19 then reOp f else if o = 103 then (if f = 0 then 4 else 0) else ldOp f

def shOp (f g : Int) : Int := if f = 1 ∧ g = 0 then 25 else if f = 5 ∧ g = 0 then 26 else if f = 5 ∧ g = 32 then 27 else 0

def plOp (f : Int) : Int := if f = 0 then 28 else if f = 1 then 30 else if f = 2 then 31 else if f = 3 then 32 else if f = 4 then 33 else if f = 5 then 34 else if f = 6 then 36 else 37

def rgOp (f g : Int) : Int := if g = 0 then plOp f else if g = 1 then 41 + f else if g = 32 then (if f = 0 then 29 else if f = 5 then 35 else 0) else 0

def baOp (x o f : Int) : Int := if o = 15 ∧ f = 0 then 38 else if x = 115 then 39 else if x = 1048691 then 40 else 0

theorem sgn_lo' (v : Int) (n : Nat) (h : 0 ≤ v) (h' : 2 * v < 2 ^ n) : sgn v n = v := sgn_of_range v n (by have := pow_pos' n; omega) h'

theorem sgn_hi' (v : Int) (n : Nat) (h : v < 2 ^ n) (h' : 2 ^ n ≤ 2 * v) : sgn v n = v - 2 ^ n := by
  have e : sgn v n = sgn (v - 2 ^ n) n := by
    unfold sgn
    have h1 : (v - 2 ^ n) % 2 ^ n = v % 2 ^ n := by
      have := Int.add_mul_emod_self_right v (-1) (2 ^ n)
      rw [← this]; congr 1; omega
    rw [← Int.emod_bmod (x := v), ← Int.emod_bmod (x := v - 2 ^ n), pow_cast, h1]
  rw [e]
  exact sgn_of_range _ n (by omega) (by omega)

def vI (x : Int) : Int := x / 1048576 % 4096

def vS (x : Int) : Int := x / 33554432 % 128 * 32 + x / 128 % 32

def vB (x : Int) : Int := (((x / 2147483648 % 2 * 2 + x / 128 % 2) * 64 + x / 33554432 % 64) * 16 + x / 256 % 16) * 2

def vU (x : Int) : Int := x / 4096 % 1048576 * 4096

def vJ (x : Int) : Int := (((x / 2147483648 % 2 * 256 + x / 4096 % 256) * 2 + x / 1048576 % 2) * 1024 + x / 2097152 % 1024) * 2

theorem p12 : (2 : Int) ^ 12 = 4096 := by decide

theorem p32 : (2 : Int) ^ 32 = 4294967296 := by decide

def jI (x : Int) : Int := sgn (vI x) 12

def jS (x : Int) : Int := sgn (vS x) 12

def jB (x : Int) : Int := sgn (vB x) 13

def jU (x : Int) : Int := sgn (vU x) 32

def jJ (x : Int) : Int := sgn (vJ x) 21

theorem sgn_two (v : Int) (n : Nat) (h : 0 ≤ v) (h' : v < 2 ^ n) : (2 * v < 2 ^ n ∧ sgn v n = v) ∨ (2 ^ n ≤ 2 * v ∧ sgn v n = v - 2 ^ n) := by
  rcases Int.lt_or_le (2 * v) (2 ^ n) with a | a
  · exact Or.inl ⟨a, sgn_lo' v n h a⟩
  · exact Or.inr ⟨a, sgn_hi' v n h' a⟩

theorem jU_two (x : Int) : (vU x < 2147483648 ∧ jU x = vU x) ∨ (2147483648 ≤ vU x ∧ jU x = vU x - 4294967296) := by
  have h := sgn_two (vU x) 32 (by unfold vU; omega) (by rw [p32]; unfold vU; omega)
  rw [p32] at h; unfold jU; omega

theorem f8 (f : Int) (h : 0 ≤ f) (h' : f < 8) : f = 0 ∨ f = 1 ∨ f = 2 ∨ f = 3 ∨ f = 4 ∨ f = 5 ∨ f = 6 ∨ f = 7 := by omega

/-- A word's instruction, as the machine decodes it; of the operation 0, if there is none. -/
def decP (x : Int) : In5 :=
  if x % 128 = 55 then ⟨1, x / 128 % 32, 0, 0, jU x⟩
  else if x % 128 = 23 then ⟨2, x / 128 % 32, 0, 0, jU x⟩
  else if x % 128 = 111 then ⟨3, x / 128 % 32, 0, 0, jJ x⟩
  else if x % 128 = 99 then ⟨brOp (x / 4096 % 8), 0, x / 32768 % 32, x / 1048576 % 32, jB x⟩
  else if x % 128 = 35 then ⟨stOp (x / 4096 % 8), 0, x / 32768 % 32, x / 1048576 % 32, jS x⟩
  else if x % 128 = 19 then (if x / 4096 % 8 = 1 ∨ x / 4096 % 8 = 5 then ⟨shOp (x / 4096 % 8) (x / 33554432 % 128), x / 128 % 32, x / 32768 % 32, 0, x / 1048576 % 32⟩ else ⟨nuOp 19 (x / 4096 % 8), x / 128 % 32, x / 32768 % 32, 0, jI x⟩)
  else if x % 128 = 103 then ⟨nuOp 103 (x / 4096 % 8), x / 128 % 32, x / 32768 % 32, 0, jI x⟩
  else if x % 128 = 3 then ⟨nuOp 3 (x / 4096 % 8), x / 128 % 32, x / 32768 % 32, 0, jI x⟩
  else if x % 128 = 51 then ⟨rgOp (x / 4096 % 8) (x / 33554432 % 128), x / 128 % 32, x / 32768 % 32, x / 1048576 % 32, 0⟩
  else if x % 128 = 15 ∨ x % 128 = 115 then ⟨baOp x (x % 128) (x / 4096 % 8), 0, 0, 0, 0⟩
  else none5

end Go.Proofs.YtndpgakjpokllaaGreat

