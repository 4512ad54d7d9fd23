/- Plain: the numbers of a parcel, bit by bit, and by runs of bits. -/
import Derived.Test.YtcdjabfhmhibjaaSlims
import Derived.Test.YtcdjabfhmhibjaaRefe
namespace Go.Proofs.Ytcdjabfhmhibjaa
open Go.RowKit
set_option linter.unusedVariables false
set_option linter.unusedSimpArgs false

theorem fld_more (x : Int) (l n : Nat) : fld x l (n + 1) = fld x (l + 1) n * 2 + fld x l 1 := by
  unfold fld
  rw [Int.pow_succ, Int.pow_succ, Int.pow_one, Int.mul_comm (2 ^ l) 2]
  rw [show (2 : Int) * 2 ^ l = 2 ^ l * 2 from Int.mul_comm _ _, ← Int.ediv_ediv_of_nonneg (Int.le_of_lt (pow_pos' l)), Int.mul_comm (2 ^ n) 2]
  generalize x / 2 ^ l = y
  rw [Int.emod_def y (2 * 2 ^ n), Int.emod_def (y / 2) (2 ^ n), Int.ediv_ediv_of_nonneg (by omega : (0 : Int) ≤ 2), Int.mul_assoc]
  generalize (2 : Int) ^ n * (y / (2 * 2 ^ n)) = z
  omega

def bt (x : Int) (l : Nat) : Int := fld x l 1

theorem bt_bd (x : Int) (l : Nat) : 0 ≤ bt x l ∧ bt x l ≤ 1 := by
  have h1 := fld_nonneg x l 1
  have h2 : fld x l 1 < 2 := fld_lt x l 1
  unfold bt
  omega

theorem f1 (x : Int) (l : Nat) : fld x l 1 = bt x l := rfl

theorem f2 (x : Int) (l : Nat) : fld x l 2 = bt x (l + 1) * 2 + bt x l := fld_more x l 1

theorem f3 (x : Int) (l : Nat) : fld x l 3 = (bt x (l + 2) * 2 + bt x (l + 1)) * 2 + bt x l := by rw [fld_more x l 2, f2]; rfl

theorem f4 (x : Int) (l : Nat) : fld x l 4 = ((bt x (l + 3) * 2 + bt x (l + 2)) * 2 + bt x (l + 1)) * 2 + bt x l := by rw [fld_more x l 3, f3]; rfl

theorem f5 (x : Int) (l : Nat) : fld x l 5 = (((bt x (l + 4) * 2 + bt x (l + 3)) * 2 + bt x (l + 2)) * 2 + bt x (l + 1)) * 2 + bt x l := by rw [fld_more x l 4, f4]; rfl

def hstep (x v i : Int) : Int := if 0 ≤ i then (2 * v % 4294967296 + fld x i.toNat 1) % 4294967296 else 2 * v % 4294967296

theorem hstep_p (x v : Int) (i : Nat) : hstep x v i = (2 * v % 4294967296 + bt x i) % 4294967296 := by unfold hstep; rw [if_pos (by omega)]; rfl

theorem hstep_n (x v : Int) : hstep x v (-1) = 2 * v % 4294967296 := by unfold hstep; rw [if_neg (by omega)]

/-- A number whose highest bits are told, with no bound. -/
def hr (x : Int) : Int → List Int → Int
  | v, [] => v
  | v, i :: t => hr x (if 0 ≤ i then v * 2 + bt x i.toNat else v * 2) t

theorem hr_bd (x v : Int) (l : List Int) (n : Nat) (h : 0 ≤ v) (h' : v < 2 ^ n) : 0 ≤ hr x v l ∧ hr x v l < 2 ^ (n + l.length) := by
  induction l generalizing v n with
  | nil => exact ⟨h, h'⟩
  | cons i t ih =>
    have b := bt_bd x i.toNat
    have e : (2 : Int) ^ (n + 1) = 2 ^ n * 2 := Int.pow_succ 2 n
    have := ih (if 0 ≤ i then v * 2 + bt x i.toNat else v * 2) (n + 1) (by split <;> omega) (by rw [e]; split <;> omega)
    rw [List.length_cons, show n + (t.length + 1) = n + 1 + t.length by omega]
    exact this

theorem hor_hr (x v : Int) (l : List Int) (n : Nat) (h : 0 ≤ v) (h' : v < 2 ^ n) (hn : n + l.length ≤ 32) : hor x v l = hr x v l := by
  induction l generalizing v n with
  | nil => rfl
  | cons i t ih =>
    have b := bt_bd x i.toNat
    have e : (2 : Int) ^ (n + 1) = 2 ^ n * 2 := Int.pow_succ 2 n
    rw [List.length_cons] at hn
    have hp : (2 : Int) ^ (n + 1) ≤ 4294967296 := by
      have := pow_le32 (n + 1) (by omega)
      exact this
    have e2 : (if 0 ≤ i then (2 * v % 4294967296 + fld x i.toNat 1) % 4294967296 else 2 * v % 4294967296) = (if 0 ≤ i then v * 2 + bt x i.toNat else v * 2) := by
      have := f1 x i.toNat
      rw [this]
      split <;> omega
    show hor x _ t = hr x _ t
    rw [e2]
    exact ih _ (n + 1) (by split <;> omega) (by rw [e]; split <;> omega) (by omega)

theorem hor0 (x : Int) (l : List Int) (hn : l.length ≤ 32) : hor x 0 l = hr x 0 l := hor_hr x 0 l 0 (by omega) (by decide) (by omega)

theorem e_n6 (x : Int) : hor x 0 [12, 6, 5, 4, 3, 2] = runsV x 0 [(12, 1), (2, 5)] % 4294967296 := by
  rw [hor0 _ _ (by decide)]
  have b2 := bt_bd x 2
  have b3 := bt_bd x 3
  have b4 := bt_bd x 4
  have b5 := bt_bd x 5
  have b6 := bt_bd x 6
  have b12 := bt_bd x 12
  have q12 : fld x 12 1 = bt x 12 := f1 x 12
  have q2 : fld x 2 5 = (((bt x 6 * 2 + bt x 5) * 2 + bt x 4) * 2 + bt x 3) * 2 + bt x 2 := f5 x 2
  show ((((((0 * 2 + bt x 12) * 2 + bt x 6) * 2 + bt x 5) * 2 + bt x 4) * 2 + bt x 3) * 2 + bt x 2) = ((0 * 2 ^ 1 % 4294967296 + fld x 12 1) * 2 ^ 5 % 4294967296 + fld x 2 5) % 4294967296
  rw [q12, q2]
  omega

theorem e_j (x : Int) : hor x 0 [12, 8, 10, 9, 6, 7, 2, 11, 5, 4, 3, -1] = runsV x 0 rsJ * 2 % 4294967296 := by
  rw [hor0 _ _ (by decide)]
  have b2 := bt_bd x 2
  have b3 := bt_bd x 3
  have b4 := bt_bd x 4
  have b5 := bt_bd x 5
  have b6 := bt_bd x 6
  have b7 := bt_bd x 7
  have b8 := bt_bd x 8
  have b9 := bt_bd x 9
  have b10 := bt_bd x 10
  have b11 := bt_bd x 11
  have b12 := bt_bd x 12
  have q12 : fld x 12 1 = bt x 12 := f1 x 12
  have q8 : fld x 8 1 = bt x 8 := f1 x 8
  have q9 : fld x 9 2 = bt x 10 * 2 + bt x 9 := f2 x 9
  have q6 : fld x 6 1 = bt x 6 := f1 x 6
  have q7 : fld x 7 1 = bt x 7 := f1 x 7
  have q2 : fld x 2 1 = bt x 2 := f1 x 2
  have q11 : fld x 11 1 = bt x 11 := f1 x 11
  have q3 : fld x 3 3 = (bt x 5 * 2 + bt x 4) * 2 + bt x 3 := f3 x 3
  show ((((((((((((0 * 2 + bt x 12) * 2 + bt x 8) * 2 + bt x 10) * 2 + bt x 9) * 2 + bt x 6) * 2 + bt x 7) * 2 + bt x 2) * 2 + bt x 11) * 2 + bt x 5) * 2 + bt x 4) * 2 + bt x 3) * 2) = ((((((((0 * 2 ^ 1 % 4294967296 + fld x 12 1) * 2 ^ 1 % 4294967296 + fld x 8 1) * 2 ^ 2 % 4294967296 + fld x 9 2) * 2 ^ 1 % 4294967296 + fld x 6 1) * 2 ^ 1 % 4294967296 + fld x 7 1) * 2 ^ 1 % 4294967296 + fld x 2 1) * 2 ^ 1 % 4294967296 + fld x 11 1) * 2 ^ 3 % 4294967296 + fld x 3 3) * 2 % 4294967296
  rw [q12, q8, q9, q6, q7, q2, q11, q3]
  omega

theorem e_b (x : Int) : hor x 0 [12, 6, 5, 2, 11, 10, 4, 3, -1] = runsV x 0 rsB * 2 % 4294967296 := by
  rw [hor0 _ _ (by decide)]
  have b2 := bt_bd x 2
  have b3 := bt_bd x 3
  have b4 := bt_bd x 4
  have b5 := bt_bd x 5
  have b6 := bt_bd x 6
  have b10 := bt_bd x 10
  have b11 := bt_bd x 11
  have b12 := bt_bd x 12
  have q12 : fld x 12 1 = bt x 12 := f1 x 12
  have q5 : fld x 5 2 = bt x 6 * 2 + bt x 5 := f2 x 5
  have q2 : fld x 2 1 = bt x 2 := f1 x 2
  have q10 : fld x 10 2 = bt x 11 * 2 + bt x 10 := f2 x 10
  have q3 : fld x 3 2 = bt x 4 * 2 + bt x 3 := f2 x 3
  show (((((((((0 * 2 + bt x 12) * 2 + bt x 6) * 2 + bt x 5) * 2 + bt x 2) * 2 + bt x 11) * 2 + bt x 10) * 2 + bt x 4) * 2 + bt x 3) * 2) = (((((0 * 2 ^ 1 % 4294967296 + fld x 12 1) * 2 ^ 2 % 4294967296 + fld x 5 2) * 2 ^ 1 % 4294967296 + fld x 2 1) * 2 ^ 2 % 4294967296 + fld x 10 2) * 2 ^ 2 % 4294967296 + fld x 3 2) * 2 % 4294967296
  rw [q12, q5, q2, q10, q3]
  omega

theorem e_far (x : Int) : hor x 0 [12, 4, 3, 5, 2, 6, -1, -1, -1, -1] = runsV x 0 rsF * 16 % 4294967296 := by
  rw [hor0 _ _ (by decide)]
  have b2 := bt_bd x 2
  have b3 := bt_bd x 3
  have b4 := bt_bd x 4
  have b5 := bt_bd x 5
  have b6 := bt_bd x 6
  have b12 := bt_bd x 12
  have q12 : fld x 12 1 = bt x 12 := f1 x 12
  have q3 : fld x 3 2 = bt x 4 * 2 + bt x 3 := f2 x 3
  have q5 : fld x 5 1 = bt x 5 := f1 x 5
  have q2 : fld x 2 1 = bt x 2 := f1 x 2
  have q6 : fld x 6 1 = bt x 6 := f1 x 6
  show ((((((((((0 * 2 + bt x 12) * 2 + bt x 4) * 2 + bt x 3) * 2 + bt x 5) * 2 + bt x 2) * 2 + bt x 6) * 2) * 2) * 2) * 2) = (((((0 * 2 ^ 1 % 4294967296 + fld x 12 1) * 2 ^ 2 % 4294967296 + fld x 3 2) * 2 ^ 1 % 4294967296 + fld x 5 1) * 2 ^ 1 % 4294967296 + fld x 2 1) * 2 ^ 1 % 4294967296 + fld x 6 1) * 16 % 4294967296
  rw [q12, q3, q5, q2, q6]
  omega

theorem e_u (x : Int) : hor x 0 [-1, 10, 9, 8, 7, 12, 11, 5, 6, -1, -1] = uP x := by
  rw [hor0 _ _ (by decide)]
  have b5 := bt_bd x 5
  have b6 := bt_bd x 6
  have b7 := bt_bd x 7
  have b8 := bt_bd x 8
  have b9 := bt_bd x 9
  have b10 := bt_bd x 10
  have b11 := bt_bd x 11
  have b12 := bt_bd x 12
  have q7 : fld x 7 4 = ((bt x 10 * 2 + bt x 9) * 2 + bt x 8) * 2 + bt x 7 := f4 x 7
  have q11 : fld x 11 2 = bt x 12 * 2 + bt x 11 := f2 x 11
  have q5 : fld x 5 1 = bt x 5 := f1 x 5
  have q6 : fld x 6 1 = bt x 6 := f1 x 6
  show (((((((((((0 * 2) * 2 + bt x 10) * 2 + bt x 9) * 2 + bt x 8) * 2 + bt x 7) * 2 + bt x 12) * 2 + bt x 11) * 2 + bt x 5) * 2 + bt x 6) * 2) * 2) = ((((0 * 2 ^ 4 % 4294967296 + fld x 7 4) * 2 ^ 2 % 4294967296 + fld x 11 2) * 2 ^ 1 % 4294967296 + fld x 5 1) * 2 ^ 1 % 4294967296 + fld x 6 1) * 4 % 4294967296
  rw [q7, q11, q5, q6]
  omega

theorem e_near (x : Int) : hor x 0 [-1, 5, 12, 11, 10, 6, -1, -1] = nearP x := by
  rw [hor0 _ _ (by decide)]
  have b5 := bt_bd x 5
  have b6 := bt_bd x 6
  have b10 := bt_bd x 10
  have b11 := bt_bd x 11
  have b12 := bt_bd x 12
  have q5 : fld x 5 1 = bt x 5 := f1 x 5
  have q10 : fld x 10 3 = (bt x 12 * 2 + bt x 11) * 2 + bt x 10 := f3 x 10
  have q6 : fld x 6 1 = bt x 6 := f1 x 6
  show ((((((((0 * 2) * 2 + bt x 5) * 2 + bt x 12) * 2 + bt x 11) * 2 + bt x 10) * 2 + bt x 6) * 2) * 2) = (((0 * 2 ^ 1 % 4294967296 + fld x 5 1) * 2 ^ 3 % 4294967296 + fld x 10 3) * 2 ^ 1 % 4294967296 + fld x 6 1) * 4 % 4294967296
  rw [q5, q10, q6]
  omega

theorem e_ls (x : Int) : hor x 0 [-1, 3, 2, 12, 6, 5, 4, -1, -1] = lsP x := by
  rw [hor0 _ _ (by decide)]
  have b2 := bt_bd x 2
  have b3 := bt_bd x 3
  have b4 := bt_bd x 4
  have b5 := bt_bd x 5
  have b6 := bt_bd x 6
  have b12 := bt_bd x 12
  have q2 : fld x 2 2 = bt x 3 * 2 + bt x 2 := f2 x 2
  have q12 : fld x 12 1 = bt x 12 := f1 x 12
  have q4 : fld x 4 3 = (bt x 6 * 2 + bt x 5) * 2 + bt x 4 := f3 x 4
  show (((((((((0 * 2) * 2 + bt x 3) * 2 + bt x 2) * 2 + bt x 12) * 2 + bt x 6) * 2 + bt x 5) * 2 + bt x 4) * 2) * 2) = (((0 * 2 ^ 2 % 4294967296 + fld x 2 2) * 2 ^ 1 % 4294967296 + fld x 12 1) * 2 ^ 3 % 4294967296 + fld x 4 3) * 4 % 4294967296
  rw [q2, q12, q4]
  omega

theorem e_ss (x : Int) : hor x 0 [-1, 8, 7, 12, 11, 10, 9, -1, -1] = ssP x := by
  rw [hor0 _ _ (by decide)]
  have b7 := bt_bd x 7
  have b8 := bt_bd x 8
  have b9 := bt_bd x 9
  have b10 := bt_bd x 10
  have b11 := bt_bd x 11
  have b12 := bt_bd x 12
  have q7 : fld x 7 2 = bt x 8 * 2 + bt x 7 := f2 x 7
  have q9 : fld x 9 4 = ((bt x 12 * 2 + bt x 11) * 2 + bt x 10) * 2 + bt x 9 := f4 x 9
  show (((((((((0 * 2) * 2 + bt x 8) * 2 + bt x 7) * 2 + bt x 12) * 2 + bt x 11) * 2 + bt x 10) * 2 + bt x 9) * 2) * 2) = ((0 * 2 ^ 2 % 4294967296 + fld x 7 2) * 2 ^ 4 % 4294967296 + fld x 9 4) * 4 % 4294967296
  rw [q7, q9]
  omega

/-- A number whose first bit is a nought is itself as a signed one. -/
theorem sgn_plain (x : Int) (l : List Int) (m : Nat) (hm : 1 + l.length = m) (h : m ≤ 32) : sgn (hor x 0 (-1 :: l)) m = hor x 0 (-1 :: l) := by
  subst hm
  rw [hor0 _ _ (by simp; omega)]
  have b := hr_bd x 0 l 0 (by omega) (by decide)
  have e : hr x 0 (-1 :: l) = hr x 0 l := rfl
  rw [e]
  refine sgn_lo' _ _ b.1 ?_
  rw [Nat.add_comm 1, Int.pow_succ]
  have := b.2
  rw [Nat.zero_add] at this
  omega

end Go.Proofs.Ytcdjabfhmhibjaa
