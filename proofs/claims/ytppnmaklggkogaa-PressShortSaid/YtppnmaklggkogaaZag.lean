/- Parts of the proof, one behind the other. -/
import Derived.Test.YtppnmaklggkogaaZad
import Derived.Test.YtppnmaklggkogaaZaf
/- Plain: the numbers of a parcel, bit by bit, and by runs of bits. -/
namespace Go.Proofs.Ytppnmaklggkogaa
open Go.RowKit
set_option linter.unusedVariables false
set_option linter.unusedSimpArgs false

theorem fld_more (x : Int) (l n : Nat) : fld x l (n + 1) = fld x (l + 1) n * 2 + fld x l 1 := by
  unfold fld
  rw [Int.pow_succ, Int.pow_succ, Int.pow_one, Int.mul_comm (2 ^ l) 2]
  rw [show (2 : Int) * 2 ^ l = 2 ^ l * 2 from Int.mul_comm _ _, ← Int.ediv_ediv_of_nonneg (Int.le_of_lt (pow_pos' l)), Int.mul_comm (2 ^ n) 2]
  generalize x / 2 ^ l = y
  rw [Int.emod_def y (2 * 2 ^ n), Int.emod_def (y / 2) (2 ^ n), Int.ediv_ediv_of_nonneg (by omega : (0 : Int) ≤ 2), Int.mul_assoc]
  generalize (2 : Int) ^ n * (y / (2 * 2 ^ n)) = z
  omega

def bt (x : Int) (l : Nat) : Int := fld x l 1

theorem bt_bd (x : Int) (l : Nat) : 0 ≤ bt x l ∧ bt x l ≤ 1 := by
  have h1 := fld_nonneg x l 1
  have h2 : fld x l 1 < 2 := fld_lt x l 1
  unfold bt
  omega

theorem f1 (x : Int) (l : Nat) : fld x l 1 = bt x l := rfl

theorem f2 (x : Int) (l : Nat) : fld x l 2 = bt x (l + 1) * 2 + bt x l := fld_more x l 1

theorem f3 (x : Int) (l : Nat) : fld x l 3 = (bt x (l + 2) * 2 + bt x (l + 1)) * 2 + bt x l := by rw [fld_more x l 2, f2]; rfl

theorem f4 (x : Int) (l : Nat) : fld x l 4 = ((bt x (l + 3) * 2 + bt x (l + 2)) * 2 + bt x (l + 1)) * 2 + bt x l := by rw [fld_more x l 3, f3]; rfl

theorem f5 (x : Int) (l : Nat) : fld x l 5 = (((bt x (l + 4) * 2 + bt x (l + 3)) * 2 + bt x (l + 2)) * 2 + bt x (l + 1)) * 2 + bt x l := by rw [fld_more x l 4, f4]; rfl

def hstep (x v i : Int) : Int := if 0 ≤ i then (2 * v % 4294967296 + fld x i.toNat 1) % 4294967296 else 2 * v % 4294967296

theorem hstep_p (x v : Int) (i : Nat) : hstep x v i = (2 * v % 4294967296 + bt x i) % 4294967296 := by unfold hstep; rw [if_pos (by omega)]; rfl

theorem hstep_n (x v : Int) : hstep x v (-1) = 2 * v % 4294967296 := by unfold hstep; rw [if_neg (by omega)]

/-- A number whose highest bits are told, with no bound. -/
def hr (x : Int) : Int → List Int → Int
  | v, [] => v
  | v, i :: t => hr x (if 0 ≤ i then v * 2 + bt x i.toNat else v * 2) t

theorem hr_bd (x v : Int) (l : List Int) (n : Nat) (h : 0 ≤ v) (h' : v < 2 ^ n) : 0 ≤ hr x v l ∧ hr x v l < 2 ^ (n + l.length) := by
  induction l generalizing v n with
  | nil => exact ⟨h, h'⟩
  | cons i t ih =>
    have b := bt_bd x i.toNat
    have e : (2 : Int) ^ (n + 1) = 2 ^ n * 2 := Int.pow_succ 2 n
    have := ih (if 0 ≤ i then v * 2 + bt x i.toNat else v * 2) (n + 1) (by split <;> omega) (by rw [e]; split <;> omega)
    rw [List.length_cons, show n + (t.length + 1) = n + 1 + t.length by omega]
    exact this

theorem hor_hr (x v : Int) (l : List Int) (n : Nat) (h : 0 ≤ v) (h' : v < 2 ^ n) (hn : n + l.length ≤ 32) : hor x v l = hr x v l := by
  induction l generalizing v n with
  | nil => rfl
  | cons i t ih =>
    have b := bt_bd x i.toNat
    have e : (2 : Int) ^ (n + 1) = 2 ^ n * 2 := Int.pow_succ 2 n
    rw [List.length_cons] at hn
    have hp : (2 : Int) ^ (n + 1) ≤ 4294967296 := by
      have := pow_le32 (n + 1) (by omega)
      exact this
    have e2 : (if 0 ≤ i then (2 * v % 4294967296 + fld x i.toNat 1) % 4294967296 else 2 * v % 4294967296) = (if 0 ≤ i then v * 2 + bt x i.toNat else v * 2) := by
      have := f1 x i.toNat
      rw [this]
      split <;> omega
    show hor x _ t = hr x _ t
    rw [e2]
    exact ih _ (n + 1) (by split <;> omega) (by rw [e]; split <;> omega) (by omega)

theorem hor0 (x : Int) (l : List Int) (hn : l.length ≤ 32) : hor x 0 l = hr x 0 l := hor_hr x 0 l 0 (by omega) (by decide) (by omega)

theorem e_n6 (x : Int) : hor x 0 [12, 6, 5, 4, 3, 2] = runsV x 0 [(12, 1), (2, 5)] % 4294967296 := by
  rw [hor0 _ _ (by decide)]
  have b2 := bt_bd x 2
  have b3 := bt_bd x 3
  have b4 := bt_bd x 4
  have b5 := bt_bd x 5
  have b6 := bt_bd x 6
  have b12 := bt_bd x 12
  have q12 : fld x 12 1 = bt x 12 := f1 x 12
  have q2 : fld x 2 5 = (((bt x 6 * 2 + bt x 5) * 2 + bt x 4) * 2 + bt x 3) * 2 + bt x 2 := f5 x 2
  show ((((((0 * 2 + bt x 12) * 2 + bt x 6) * 2 + bt x 5) * 2 + bt x 4) * 2 + bt x 3) * 2 + bt x 2) = ((0 * 2 ^ 1 % 4294967296 + fld x 12 1) * 2 ^ 5 % 4294967296 + fld x 2 5) % 4294967296
  rw [q12, q2]
  omega

theorem e_j (x : Int) : hor x 0 [12, 8, 10, 9, 6, 7, 2, 11, 5, 4, 3, -1] = runsV x 0 rsJ * 2 % 4294967296 := by
  rw [hor0 _ _ (by decide)]
  have b2 := bt_bd x 2
  have b3 := bt_bd x 3
  have b4 := bt_bd x 4
  have b5 := bt_bd x 5
  have b6 := bt_bd x 6
  have b7 := bt_bd x 7
  have b8 := bt_bd x 8
  have b9 := bt_bd x 9
  have b10 := bt_bd x 10
  have b11 := bt_bd x 11
  have b12 := bt_bd x 12
  have q12 : fld x 12 1 = bt x 12 := f1 x 12
  have q8 : fld x 8 1 = bt x 8 := f1 x 8
  have q9 : fld x 9 2 = bt x 10 * 2 + bt x 9 := f2 x 9
  have q6 : fld x 6 1 = bt x 6 := f1 x 6
  have q7 : fld x 7 1 = bt x 7 := f1 x 7
  have q2 : fld x 2 1 = bt x 2 := f1 x 2
  have q11 : fld x 11 1 = bt x 11 := f1 x 11
  have q3 : fld x 3 3 = (bt x 5 * 2 + bt x 4) * 2 + bt x 3 := f3 x 3
  show ((((((((((((0 * 2 + bt x 12) * 2 + bt x 8) * 2 + bt x 10) * 2 + bt x 9) * 2 + bt x 6) * 2 + bt x 7) * 2 + bt x 2) * 2 + bt x 11) * 2 + bt x 5) * 2 + bt x 4) * 2 + bt x 3) * 2) = ((((((((0 * 2 ^ 1 % 4294967296 + fld x 12 1) * 2 ^ 1 % 4294967296 + fld x 8 1) * 2 ^ 2 % 4294967296 + fld x 9 2) * 2 ^ 1 % 4294967296 + fld x 6 1) * 2 ^ 1 % 4294967296 + fld x 7 1) * 2 ^ 1 % 4294967296 + fld x 2 1) * 2 ^ 1 % 4294967296 + fld x 11 1) * 2 ^ 3 % 4294967296 + fld x 3 3) * 2 % 4294967296
  rw [q12, q8, q9, q6, q7, q2, q11, q3]
  omega

theorem e_b (x : Int) : hor x 0 [12, 6, 5, 2, 11, 10, 4, 3, -1] = runsV x 0 rsB * 2 % 4294967296 := by
  rw [hor0 _ _ (by decide)]
  have b2 := bt_bd x 2
  have b3 := bt_bd x 3
  have b4 := bt_bd x 4
  have b5 := bt_bd x 5
  have b6 := bt_bd x 6
  have b10 := bt_bd x 10
  have b11 := bt_bd x 11
  have b12 := bt_bd x 12
  have q12 : fld x 12 1 = bt x 12 := f1 x 12
  have q5 : fld x 5 2 = bt x 6 * 2 + bt x 5 := f2 x 5
  have q2 : fld x 2 1 = bt x 2 := f1 x 2
  have q10 : fld x 10 2 = bt x 11 * 2 + bt x 10 := f2 x 10
  have q3 : fld x 3 2 = bt x 4 * 2 + bt x 3 := f2 x 3
  show (((((((((0 * 2 + bt x 12) * 2 + bt x 6) * 2 + bt x 5) * 2 + bt x 2) * 2 + bt x 11) * 2 + bt x 10) * 2 + bt x 4) * 2 + bt x 3) * 2) = (((((0 * 2 ^ 1 % 4294967296 + fld x 12 1) * 2 ^ 2 % 4294967296 + fld x 5 2) * 2 ^ 1 % 4294967296 + fld x 2 1) * 2 ^ 2 % 4294967296 + fld x 10 2) * 2 ^ 2 % 4294967296 + fld x 3 2) * 2 % 4294967296
  rw [q12, q5, q2, q10, q3]
  omega

theorem e_far (x : Int) : hor x 0 [12, 4, 3, 5, 2, 6, -1, -1, -1, -1] = runsV x 0 rsF * 16 % 4294967296 := by
  rw [hor0 _ _ (by decide)]
  have b2 := bt_bd x 2
  have b3 := bt_bd x 3
  have b4 := bt_bd x 4
  have b5 := bt_bd x 5
  have b6 := bt_bd x 6
  have b12 := bt_bd x 12
  have q12 : fld x 12 1 = bt x 12 := f1 x 12
  have q3 : fld x 3 2 = bt x 4 * 2 + bt x 3 := f2 x 3
  have q5 : fld x 5 1 = bt x 5 := f1 x 5
  have q2 : fld x 2 1 = bt x 2 := f1 x 2
  have q6 : fld x 6 1 = bt x 6 := f1 x 6
  show ((((((((((0 * 2 + bt x 12) * 2 + bt x 4) * 2 + bt x 3) * 2 + bt x 5) * 2 + bt x 2) * 2 + bt x 6) * 2) * 2) * 2) * 2) = (((((0 * 2 ^ 1 % 4294967296 + fld x 12 1) * 2 ^ 2 % 4294967296 + fld x 3 2) * 2 ^ 1 % 4294967296 + fld x 5 1) * 2 ^ 1 % 4294967296 + fld x 2 1) * 2 ^ 1 % 4294967296 + fld x 6 1) * 16 % 4294967296
  rw [q12, q3, q5, q2, q6]
  omega

theorem e_u (x : Int) : hor x 0 [-1, 10, 9, 8, 7, 12, 11, 5, 6, -1, -1] = uP x := by
  rw [hor0 _ _ (by decide)]
  have b5 := bt_bd x 5
  have b6 := bt_bd x 6
  have b7 := bt_bd x 7
  have b8 := bt_bd x 8
  have b9 := bt_bd x 9
  have b10 := bt_bd x 10
  have b11 := bt_bd x 11
  have b12 := bt_bd x 12
  have q7 : fld x 7 4 = ((bt x 10 * 2 + bt x 9) * 2 + bt x 8) * 2 + bt x 7 := f4 x 7
  have q11 : fld x 11 2 = bt x 12 * 2 + bt x 11 := f2 x 11
  have q5 : fld x 5 1 = bt x 5 := f1 x 5
  have q6 : fld x 6 1 = bt x 6 := f1 x 6
  show (((((((((((0 * 2) * 2 + bt x 10) * 2 + bt x 9) * 2 + bt x 8) * 2 + bt x 7) * 2 + bt x 12) * 2 + bt x 11) * 2 + bt x 5) * 2 + bt x 6) * 2) * 2) = ((((0 * 2 ^ 4 % 4294967296 + fld x 7 4) * 2 ^ 2 % 4294967296 + fld x 11 2) * 2 ^ 1 % 4294967296 + fld x 5 1) * 2 ^ 1 % 4294967296 + fld x 6 1) * 4 % 4294967296
  rw [q7, q11, q5, q6]
  omega

theorem e_near (x : Int) : hor x 0 [-1, 5, 12, 11, 10, 6, -1, -1] = nearP x := by
  rw [hor0 _ _ (by decide)]
  have b5 := bt_bd x 5
  have b6 := bt_bd x 6
  have b10 := bt_bd x 10
  have b11 := bt_bd x 11
  have b12 := bt_bd x 12
  have q5 : fld x 5 1 = bt x 5 := f1 x 5
  have q10 : fld x 10 3 = (bt x 12 * 2 + bt x 11) * 2 + bt x 10 := f3 x 10
  have q6 : fld x 6 1 = bt x 6 := f1 x 6
  show ((((((((0 * 2) * 2 + bt x 5) * 2 + bt x 12) * 2 + bt x 11) * 2 + bt x 10) * 2 + bt x 6) * 2) * 2) = (((0 * 2 ^ 1 % 4294967296 + fld x 5 1) * 2 ^ 3 % 4294967296 + fld x 10 3) * 2 ^ 1 % 4294967296 + fld x 6 1) * 4 % 4294967296
  rw [q5, q10, q6]
  omega

theorem e_ls (x : Int) : hor x 0 [-1, 3, 2, 12, 6, 5, 4, -1, -1] = lsP x := by
  rw [hor0 _ _ (by decide)]
  have b2 := bt_bd x 2
  have b3 := bt_bd x 3
  have b4 := bt_bd x 4
  have b5 := bt_bd x 5
  have b6 := bt_bd x 6
  have b12 := bt_bd x 12
  have q2 : fld x 2 2 = bt x 3 * 2 + bt x 2 := f2 x 2
  have q12 : fld x 12 1 = bt x 12 := f1 x 12
  have q4 : fld x 4 3 = (bt x 6 * 2 + bt x 5) * 2 + bt x 4 := f3 x 4
  show (((((((((0 * 2) * 2 + bt x 3) * 2 + bt x 2) * 2 + bt x 12) * 2 + bt x 6) * 2 + bt x 5) * 2 + bt x 4) * 2) * 2) = (((0 * 2 ^ 2 % 4294967296 + fld x 2 2) * 2 ^ 1 % 4294967296 + fld x 12 1) * 2 ^ 3 % 4294967296 + fld x 4 3) * 4 % 4294967296
  rw [q2, q12, q4]
  omega

theorem e_ss (x : Int) : hor x 0 [-1, 8, 7, 12, 11, 10, 9, -1, -1] = ssP x := by
  rw [hor0 _ _ (by decide)]
  have b7 := bt_bd x 7
  have b8 := bt_bd x 8
  have b9 := bt_bd x 9
  have b10 := bt_bd x 10
  have b11 := bt_bd x 11
  have b12 := bt_bd x 12
  have q7 : fld x 7 2 = bt x 8 * 2 + bt x 7 := f2 x 7
  have q9 : fld x 9 4 = ((bt x 12 * 2 + bt x 11) * 2 + bt x 10) * 2 + bt x 9 := f4 x 9
  show (((((((((0 * 2) * 2 + bt x 8) * 2 + bt x 7) * 2 + bt x 12) * 2 + bt x 11) * 2 + bt x 10) * 2 + bt x 9) * 2) * 2) = ((0 * 2 ^ 2 % 4294967296 + fld x 7 2) * 2 ^ 4 % 4294967296 + fld x 9 4) * 4 % 4294967296
  rw [q7, q9]
  omega

/-- A number whose first bit is a nought is itself as a signed one. -/
theorem sgn_plain (x : Int) (l : List Int) (m : Nat) (hm : 1 + l.length = m) (h : m ≤ 32) : sgn (hor x 0 (-1 :: l)) m = hor x 0 (-1 :: l) := by
  subst hm
  rw [hor0 _ _ (by simp; omega)]
  have b := hr_bd x 0 l 0 (by omega) (by decide)
  have e : hr x 0 (-1 :: l) = hr x 0 l := rfl
  rw [e]
  refine sgn_lo' _ _ b.1 ?_
  rw [Nat.add_comm 1, Int.pow_succ]
  have := b.2
  rw [Nat.zero_add] at this
  omega

end Go.Proofs.Ytppnmaklggkogaa

/- Contracts of package typecaseref09: few, from, Names. -/
namespace Go.Proofs.Ytppnmaklggkogaa
open Go.RowKit
set_option linter.unusedVariables false
set_option linter.unusedSimpArgs false

def fewB (r : Int) : Bool := decide (8 ≤ r) && decide (r ≤ 15)

def fromB (v u lo hi : Int) : Bool := decide (lo ≤ v) && (decide (v ≤ hi) && (v % u == 0))

theorem rfew_any (r : Int) (w : World) : Calls Try.prog 29 #[.int .i64 r] w fun e w' => e = .returned (.bool (fewB r)) ∧ w = w' := by
  have HF := Lib.hid (show fewB r = (decide (8 ≤ r) && decide (r ≤ 15)) from rfl)
  cases h : decide (8 ≤ r)
  · have h2 : ¬ 8 ≤ r := by simpa using h
    rw [h, Bool.false_and] at HF
    rw [HF.out]
    go_enter Try.func29, Try.ntmps29
    go_wp2
    go_ret
    exact ⟨rfl, rfl⟩
  · have h2 : 8 ≤ r := by simpa using h
    rw [h, Bool.true_and] at HF
    rw [HF.out]
    go_enter Try.func29, Try.ntmps29
    go_wp2
    go_ret
    exact ⟨rfl, rfl⟩

theorem tmod0 (a b : Int) : (Int.tmod a b == 0) = (a % b == 0) := by
  rw [Bool.eq_iff_iff]
  simp only [beq_iff_eq]
  exact ⟨fun h => Int.emod_eq_zero_of_dvd (Int.dvd_of_tmod_eq_zero h), fun h => Int.tmod_eq_zero_of_dvd (Int.dvd_of_emod_eq_zero h)⟩

theorem rfrom_any (v u lo hi : Int) (w : World) (hu : 0 < u) : Calls Try.prog 30 #[.int .i32 v, .int .i32 u, .int .i32 lo, .int .i32 hi] w fun e w' => e = .returned (.bool (fromB v u lo hi)) ∧ w = w' := by
  have HF := Lib.hid (show fromB v u lo hi = (decide (lo ≤ v) && (decide (v ≤ hi) && (v % u == 0))) from rfl)
  have k8 : ¬ u = 0 := by omega
  have k9 : ¬ u = -1 := by omega
  cases h : decide (lo ≤ v)
  · have h2 : ¬ lo ≤ v := by simpa using h
    rw [h, Bool.false_and] at HF
    rw [HF.out]
    go_enter Try.func30, Try.ntmps30
    go_wp2
    go_ret
    exact ⟨rfl, rfl⟩
  · have h2 : lo ≤ v := by simpa using h
    cases h' : decide (v ≤ hi)
    · have h3 : ¬ v ≤ hi := by simpa using h'
      rw [h, h', Bool.false_and, Bool.and_false] at HF
      rw [HF.out]
      go_enter Try.func30, Try.ntmps30
      go_wp2
      go_ret
      exact ⟨rfl, rfl⟩
    · have h3 : v ≤ hi := by simpa using h'
      rw [h, h', Bool.true_and, Bool.true_and] at HF
      rw [HF.out]
      go_enter Try.func30, Try.ntmps30
      go_wp2
      go_ret
      exact ⟨ret_bool (by first | rfl | exact tmod0 _ _ | simp [tmod0]), rfl⟩

/-- Of what Names leaves, the text at k. -/
def RetNm (k : Nat) (s : List UInt8) (w : World) (e : Ending) (w' : World) : Prop := ∃ g, e = .returned (.slice (some ⟨g, 0, none⟩) 49 49) ∧ w'.cell? ⟨g, k, none⟩ = some (.string (B s)) ∧ Nx w w'

theorem names_nm (k : Nat) (s : List UInt8) (h : nmB[k]? = some s) (w : World) : Calls Try.prog 28 #[] w (RetNm k s w) :=
  (names_any w).mono fun e w' ⟨h1, h2, h3⟩ => ⟨w.heap.size, h1, h2 k s h, h3⟩

theorem nm_len (k : Nat) (s : List UInt8) (hk : k < 49) (h : nmB[k]? = some s) : ¬ 9223372036854775807 < 2 + s.length := by
  have : ∀ k, k < 49 → ∀ s, nmB[k]? = some s → s.length ≤ 6 := by decide
  have := this k hk s h
  omega

theorem cat_c (s : List UInt8) : (({ data := #[99, 46] } : ByteArray) ++ B s).toList = 99 :: 46 :: s := by
  rw [ByteArray.toList_eq]
  rw [ByteArray.data_append]
  simp

/-- The shorts' names, in the document's order. -/
def shB : List (List UInt8) := [[99, 46, 97, 100, 100, 105, 52, 115, 112, 110], [99, 46, 108, 119], [99, 46, 115, 119], [99, 46, 110, 111, 112], [99, 46, 97, 100, 100, 105], [99, 46, 106, 97, 108], [99, 46, 108, 105], [99, 46, 97, 100, 100, 105, 49, 54, 115, 112], [99, 46, 108, 117, 105], [99, 46, 115, 114, 108, 105], [99, 46, 115, 114, 97, 105], [99, 46, 97, 110, 100, 105], [99, 46, 115, 117, 98], [99, 46, 120, 111, 114], [99, 46, 111, 114], [99, 46, 97, 110, 100], [99, 46, 106], [99, 46, 98, 101, 113, 122], [99, 46, 98, 110, 101, 122], [99, 46, 115, 108, 108, 105], [99, 46, 108, 119, 115, 112], [99, 46, 106, 114], [99, 46, 109, 118], [99, 46, 101, 98, 114, 101, 97, 107], [99, 46, 106, 97, 108, 114], [99, 46, 97, 100, 100], [99, 46, 115, 119, 115, 112]]

set_option maxHeartbeats 1000000 in
theorem rNames_any (w : World) : Calls Try.prog 16 #[] w fun e w' => e = .returned (.slice (some ⟨w.heap.size, 0, none⟩) 27 27) ∧ Strs w' w.heap.size shB ∧ Nx w w' := by
  have h := Lib.hid (Strs.new w shB 9)
  go_enter Try.func16, Try.ntmps16
  go_wp2
  go_ret
  exact ⟨rfl, h.out, (Nx.refl _).alloc _⟩

end Go.Proofs.Ytppnmaklggkogaa

/- Contracts of package typecaseref09: diagram. -/
namespace Go.Proofs.Ytppnmaklggkogaa
open Go.RowKit
set_option linter.unusedVariables false
set_option linter.unusedSimpArgs false

/-- By which diagram a parcel is expanded: the short's place in the list. -/
def dgN (h : Int) : Nat :=
  if h % 4 * 8 + h / 8192 = 0 then 0 else if h % 4 * 8 + h / 8192 = 2 then 1 else if h % 4 * 8 + h / 8192 = 6 then 2
  else if h % 4 * 8 + h / 8192 = 8 then (if h / 128 % 32 = 0 then 3 else 4)
  else if h % 4 * 8 + h / 8192 = 9 then 5 else if h % 4 * 8 + h / 8192 = 10 then 6
  else if h % 4 * 8 + h / 8192 = 11 then (if h / 128 % 32 = 2 then 7 else 8)
  else if h % 4 * 8 + h / 8192 = 12 then (if h / 1024 % 4 < 3 then 9 + (h / 1024 % 4).toNat else 12 + (h / 32 % 4).toNat)
  else if h % 4 * 8 + h / 8192 = 13 then 16 else if h % 4 * 8 + h / 8192 = 14 then 17 else if h % 4 * 8 + h / 8192 = 15 then 18
  else if h % 4 * 8 + h / 8192 = 16 then 19 else if h % 4 * 8 + h / 8192 = 18 then 20
  else if h % 4 * 8 + h / 8192 = 20 then (if 0 < h / 4 % 32 then (if h / 4096 % 2 = 0 then 22 else 25) else if 0 < h / 128 % 32 then (if h / 4096 % 2 = 0 then 21 else 24) else 23)
  else if h % 4 * 8 + h / 8192 = 22 then 26 else 27

set_option maxHeartbeats 1000000 in
theorem dg_0 (h : Int) (w : World) (h0 : 0 ≤ h) (h1 : h < 65536) (ht : h % 4 * 8 + h / 8192 = 0)  :
    Calls Try.prog 37 #[.int .u16 h] w fun e w' => e = .returned (.string (B [99, 46, 97, 100, 100, 105, 52, 115, 112, 110])) ∧ Nx w w' := by
  go_enter Try.func37, Try.ntmps37
  go_wp2
  go_ret
  exact ⟨rfl, by first | exact Nx.refl _ | exact (Nx.refl _).alloc _ | exact ((Nx.refl _).alloc _).alloc _⟩

set_option maxHeartbeats 1000000 in
theorem dg_1 (h : Int) (w : World) (h0 : 0 ≤ h) (h1 : h < 65536) (ht : h % 4 * 8 + h / 8192 = 2)  :
    Calls Try.prog 37 #[.int .u16 h] w fun e w' => e = .returned (.string (B [99, 46, 108, 119])) ∧ Nx w w' := by
  go_enter Try.func37, Try.ntmps37
  go_wp2
  go_ret
  exact ⟨rfl, by first | exact Nx.refl _ | exact (Nx.refl _).alloc _ | exact ((Nx.refl _).alloc _).alloc _⟩

set_option maxHeartbeats 1000000 in
theorem dg_2 (h : Int) (w : World) (h0 : 0 ≤ h) (h1 : h < 65536) (ht : h % 4 * 8 + h / 8192 = 6)  :
    Calls Try.prog 37 #[.int .u16 h] w fun e w' => e = .returned (.string (B [99, 46, 115, 119])) ∧ Nx w w' := by
  go_enter Try.func37, Try.ntmps37
  go_wp2
  go_ret
  exact ⟨rfl, by first | exact Nx.refl _ | exact (Nx.refl _).alloc _ | exact ((Nx.refl _).alloc _).alloc _⟩

set_option maxHeartbeats 1000000 in
theorem dg_3 (h : Int) (w : World) (h0 : 0 ≤ h) (h1 : h < 65536) (ht : h % 4 * 8 + h / 8192 = 9)  :
    Calls Try.prog 37 #[.int .u16 h] w fun e w' => e = .returned (.string (B [99, 46, 106, 97, 108])) ∧ Nx w w' := by
  go_enter Try.func37, Try.ntmps37
  go_wp2
  go_ret
  exact ⟨rfl, by first | exact Nx.refl _ | exact (Nx.refl _).alloc _ | exact ((Nx.refl _).alloc _).alloc _⟩

set_option maxHeartbeats 1000000 in
theorem dg_4 (h : Int) (w : World) (h0 : 0 ≤ h) (h1 : h < 65536) (ht : h % 4 * 8 + h / 8192 = 10)  :
    Calls Try.prog 37 #[.int .u16 h] w fun e w' => e = .returned (.string (B [99, 46, 108, 105])) ∧ Nx w w' := by
  go_enter Try.func37, Try.ntmps37
  go_wp2
  go_ret
  exact ⟨rfl, by first | exact Nx.refl _ | exact (Nx.refl _).alloc _ | exact ((Nx.refl _).alloc _).alloc _⟩

set_option maxHeartbeats 1000000 in
theorem dg_5 (h : Int) (w : World) (h0 : 0 ≤ h) (h1 : h < 65536) (ht : h % 4 * 8 + h / 8192 = 13)  :
    Calls Try.prog 37 #[.int .u16 h] w fun e w' => e = .returned (.string (B [99, 46, 106])) ∧ Nx w w' := by
  go_enter Try.func37, Try.ntmps37
  go_wp2
  go_ret
  exact ⟨rfl, by first | exact Nx.refl _ | exact (Nx.refl _).alloc _ | exact ((Nx.refl _).alloc _).alloc _⟩

set_option maxHeartbeats 1000000 in
theorem dg_6 (h : Int) (w : World) (h0 : 0 ≤ h) (h1 : h < 65536) (ht : h % 4 * 8 + h / 8192 = 14)  :
    Calls Try.prog 37 #[.int .u16 h] w fun e w' => e = .returned (.string (B [99, 46, 98, 101, 113, 122])) ∧ Nx w w' := by
  go_enter Try.func37, Try.ntmps37
  go_wp2
  go_ret
  exact ⟨rfl, by first | exact Nx.refl _ | exact (Nx.refl _).alloc _ | exact ((Nx.refl _).alloc _).alloc _⟩

set_option maxHeartbeats 1000000 in
theorem dg_7 (h : Int) (w : World) (h0 : 0 ≤ h) (h1 : h < 65536) (ht : h % 4 * 8 + h / 8192 = 15)  :
    Calls Try.prog 37 #[.int .u16 h] w fun e w' => e = .returned (.string (B [99, 46, 98, 110, 101, 122])) ∧ Nx w w' := by
  go_enter Try.func37, Try.ntmps37
  go_wp2
  go_ret
  exact ⟨rfl, by first | exact Nx.refl _ | exact (Nx.refl _).alloc _ | exact ((Nx.refl _).alloc _).alloc _⟩

set_option maxHeartbeats 1000000 in
theorem dg_8 (h : Int) (w : World) (h0 : 0 ≤ h) (h1 : h < 65536) (ht : h % 4 * 8 + h / 8192 = 16)  :
    Calls Try.prog 37 #[.int .u16 h] w fun e w' => e = .returned (.string (B [99, 46, 115, 108, 108, 105])) ∧ Nx w w' := by
  go_enter Try.func37, Try.ntmps37
  go_wp2
  go_ret
  exact ⟨rfl, by first | exact Nx.refl _ | exact (Nx.refl _).alloc _ | exact ((Nx.refl _).alloc _).alloc _⟩

set_option maxHeartbeats 1000000 in
theorem dg_9 (h : Int) (w : World) (h0 : 0 ≤ h) (h1 : h < 65536) (ht : h % 4 * 8 + h / 8192 = 18)  :
    Calls Try.prog 37 #[.int .u16 h] w fun e w' => e = .returned (.string (B [99, 46, 108, 119, 115, 112])) ∧ Nx w w' := by
  go_enter Try.func37, Try.ntmps37
  go_wp2
  go_ret
  exact ⟨rfl, by first | exact Nx.refl _ | exact (Nx.refl _).alloc _ | exact ((Nx.refl _).alloc _).alloc _⟩

set_option maxHeartbeats 1000000 in
theorem dg_10 (h : Int) (w : World) (h0 : 0 ≤ h) (h1 : h < 65536) (ht : h % 4 * 8 + h / 8192 = 22)  :
    Calls Try.prog 37 #[.int .u16 h] w fun e w' => e = .returned (.string (B [99, 46, 115, 119, 115, 112])) ∧ Nx w w' := by
  go_enter Try.func37, Try.ntmps37
  go_wp2
  go_ret
  exact ⟨rfl, by first | exact Nx.refl _ | exact (Nx.refl _).alloc _ | exact ((Nx.refl _).alloc _).alloc _⟩

set_option maxHeartbeats 1000000 in
theorem dg_11 (h : Int) (w : World) (h0 : 0 ≤ h) (h1 : h < 65536) (ht : h % 4 * 8 + h / 8192 = 8) (g0 : h / 128 % 32 = 0) :
    Calls Try.prog 37 #[.int .u16 h] w fun e w' => e = .returned (.string (B [99, 46, 110, 111, 112])) ∧ Nx w w' := by
  go_enter Try.func37, Try.ntmps37
  go_wp2
  go_ret
  exact ⟨rfl, by first | exact Nx.refl _ | exact (Nx.refl _).alloc _ | exact ((Nx.refl _).alloc _).alloc _⟩

set_option maxHeartbeats 1000000 in
theorem dg_12 (h : Int) (w : World) (h0 : 0 ≤ h) (h1 : h < 65536) (ht : h % 4 * 8 + h / 8192 = 8) (g0 : (h / 128 % 32 == 0) = false) :
    Calls Try.prog 37 #[.int .u16 h] w fun e w' => e = .returned (.string (B [99, 46, 97, 100, 100, 105])) ∧ Nx w w' := by
  go_enter Try.func37, Try.ntmps37
  go_wp2
  go_ret
  exact ⟨rfl, by first | exact Nx.refl _ | exact (Nx.refl _).alloc _ | exact ((Nx.refl _).alloc _).alloc _⟩

set_option maxHeartbeats 1000000 in
theorem dg_13 (h : Int) (w : World) (h0 : 0 ≤ h) (h1 : h < 65536) (ht : h % 4 * 8 + h / 8192 = 11) (g0 : h / 128 % 32 = 2) :
    Calls Try.prog 37 #[.int .u16 h] w fun e w' => e = .returned (.string (B [99, 46, 97, 100, 100, 105, 49, 54, 115, 112])) ∧ Nx w w' := by
  go_enter Try.func37, Try.ntmps37
  go_wp2
  go_ret
  exact ⟨rfl, by first | exact Nx.refl _ | exact (Nx.refl _).alloc _ | exact ((Nx.refl _).alloc _).alloc _⟩

set_option maxHeartbeats 1000000 in
theorem dg_14 (h : Int) (w : World) (h0 : 0 ≤ h) (h1 : h < 65536) (ht : h % 4 * 8 + h / 8192 = 11) (g0 : (h / 128 % 32 == 2) = false) :
    Calls Try.prog 37 #[.int .u16 h] w fun e w' => e = .returned (.string (B [99, 46, 108, 117, 105])) ∧ Nx w w' := by
  go_enter Try.func37, Try.ntmps37
  go_wp2
  go_ret
  exact ⟨rfl, by first | exact Nx.refl _ | exact (Nx.refl _).alloc _ | exact ((Nx.refl _).alloc _).alloc _⟩

set_option maxHeartbeats 1000000 in
theorem dg_15 (h : Int) (w : World) (h0 : 0 ≤ h) (h1 : h < 65536) (ht : h % 4 * 8 + h / 8192 = 12) (g0 : h / 1024 % 4 = 0) :
    Calls Try.prog 37 #[.int .u16 h] w fun e w' => e = .returned (.string (B [99, 46, 115, 114, 108, 105])) ∧ Nx w w' := by
  go_enter Try.func37, Try.ntmps37
  go_wp2
  go_ret
  exact ⟨rfl, by first | exact Nx.refl _ | exact (Nx.refl _).alloc _ | exact ((Nx.refl _).alloc _).alloc _⟩

set_option maxHeartbeats 1000000 in
theorem dg_16 (h : Int) (w : World) (h0 : 0 ≤ h) (h1 : h < 65536) (ht : h % 4 * 8 + h / 8192 = 12) (g0 : h / 1024 % 4 = 1) :
    Calls Try.prog 37 #[.int .u16 h] w fun e w' => e = .returned (.string (B [99, 46, 115, 114, 97, 105])) ∧ Nx w w' := by
  go_enter Try.func37, Try.ntmps37
  go_wp2
  go_ret
  exact ⟨rfl, by first | exact Nx.refl _ | exact (Nx.refl _).alloc _ | exact ((Nx.refl _).alloc _).alloc _⟩

set_option maxHeartbeats 1000000 in
theorem dg_17 (h : Int) (w : World) (h0 : 0 ≤ h) (h1 : h < 65536) (ht : h % 4 * 8 + h / 8192 = 12) (g0 : h / 1024 % 4 = 2) :
    Calls Try.prog 37 #[.int .u16 h] w fun e w' => e = .returned (.string (B [99, 46, 97, 110, 100, 105])) ∧ Nx w w' := by
  go_enter Try.func37, Try.ntmps37
  go_wp2
  go_ret
  exact ⟨rfl, by first | exact Nx.refl _ | exact (Nx.refl _).alloc _ | exact ((Nx.refl _).alloc _).alloc _⟩

set_option maxHeartbeats 1000000 in
theorem dg_18 (h : Int) (w : World) (h0 : 0 ≤ h) (h1 : h < 65536) (ht : h % 4 * 8 + h / 8192 = 12) (g0 : h / 1024 % 4 = 3) (g1 : h / 32 % 4 = 0) :
    Calls Try.prog 37 #[.int .u16 h] w fun e w' => e = .returned (.string (B [99, 46, 115, 117, 98])) ∧ Nx w w' := by
  go_enter Try.func37, Try.ntmps37
  go_wp2
  go_ret
  exact ⟨rfl, by first | exact Nx.refl _ | exact (Nx.refl _).alloc _ | exact ((Nx.refl _).alloc _).alloc _⟩

set_option maxHeartbeats 1000000 in
theorem dg_19 (h : Int) (w : World) (h0 : 0 ≤ h) (h1 : h < 65536) (ht : h % 4 * 8 + h / 8192 = 12) (g0 : h / 1024 % 4 = 3) (g1 : h / 32 % 4 = 1) :
    Calls Try.prog 37 #[.int .u16 h] w fun e w' => e = .returned (.string (B [99, 46, 120, 111, 114])) ∧ Nx w w' := by
  go_enter Try.func37, Try.ntmps37
  go_wp2
  go_ret
  exact ⟨rfl, by first | exact Nx.refl _ | exact (Nx.refl _).alloc _ | exact ((Nx.refl _).alloc _).alloc _⟩

set_option maxHeartbeats 1000000 in
theorem dg_20 (h : Int) (w : World) (h0 : 0 ≤ h) (h1 : h < 65536) (ht : h % 4 * 8 + h / 8192 = 12) (g0 : h / 1024 % 4 = 3) (g1 : h / 32 % 4 = 2) :
    Calls Try.prog 37 #[.int .u16 h] w fun e w' => e = .returned (.string (B [99, 46, 111, 114])) ∧ Nx w w' := by
  go_enter Try.func37, Try.ntmps37
  go_wp2
  go_ret
  exact ⟨rfl, by first | exact Nx.refl _ | exact (Nx.refl _).alloc _ | exact ((Nx.refl _).alloc _).alloc _⟩

set_option maxHeartbeats 1000000 in
theorem dg_21 (h : Int) (w : World) (h0 : 0 ≤ h) (h1 : h < 65536) (ht : h % 4 * 8 + h / 8192 = 12) (g0 : h / 1024 % 4 = 3) (g1 : h / 32 % 4 = 3) :
    Calls Try.prog 37 #[.int .u16 h] w fun e w' => e = .returned (.string (B [99, 46, 97, 110, 100])) ∧ Nx w w' := by
  go_enter Try.func37, Try.ntmps37
  go_wp2
  go_ret
  exact ⟨rfl, by first | exact Nx.refl _ | exact (Nx.refl _).alloc _ | exact ((Nx.refl _).alloc _).alloc _⟩

set_option maxHeartbeats 1000000 in
theorem dg_22 (h : Int) (w : World) (h0 : 0 ≤ h) (h1 : h < 65536) (ht : h % 4 * 8 + h / 8192 = 20) (g0 : 0 < h / 4 % 32) (g1 : h / 4096 % 2 = 0) :
    Calls Try.prog 37 #[.int .u16 h] w fun e w' => e = .returned (.string (B [99, 46, 109, 118])) ∧ Nx w w' := by
  go_enter Try.func37, Try.ntmps37
  go_wp2
  go_ret
  exact ⟨rfl, by first | exact Nx.refl _ | exact (Nx.refl _).alloc _ | exact ((Nx.refl _).alloc _).alloc _⟩

set_option maxHeartbeats 1000000 in
theorem dg_23 (h : Int) (w : World) (h0 : 0 ≤ h) (h1 : h < 65536) (ht : h % 4 * 8 + h / 8192 = 20) (g0 : 0 < h / 4 % 32) (g1 : h / 4096 % 2 = 1) :
    Calls Try.prog 37 #[.int .u16 h] w fun e w' => e = .returned (.string (B [99, 46, 97, 100, 100])) ∧ Nx w w' := by
  go_enter Try.func37, Try.ntmps37
  go_wp2
  go_ret
  exact ⟨rfl, by first | exact Nx.refl _ | exact (Nx.refl _).alloc _ | exact ((Nx.refl _).alloc _).alloc _⟩

set_option maxHeartbeats 1000000 in
theorem dg_24 (h : Int) (w : World) (h0 : 0 ≤ h) (h1 : h < 65536) (ht : h % 4 * 8 + h / 8192 = 20) (g0 : h / 4 % 32 = 0) (g1 : 0 < h / 128 % 32) (g2 : h / 4096 % 2 = 0) :
    Calls Try.prog 37 #[.int .u16 h] w fun e w' => e = .returned (.string (B [99, 46, 106, 114])) ∧ Nx w w' := by
  go_enter Try.func37, Try.ntmps37
  go_wp2
  go_ret
  exact ⟨rfl, by first | exact Nx.refl _ | exact (Nx.refl _).alloc _ | exact ((Nx.refl _).alloc _).alloc _⟩

set_option maxHeartbeats 1000000 in
theorem dg_25 (h : Int) (w : World) (h0 : 0 ≤ h) (h1 : h < 65536) (ht : h % 4 * 8 + h / 8192 = 20) (g0 : h / 4 % 32 = 0) (g1 : 0 < h / 128 % 32) (g2 : h / 4096 % 2 = 1) :
    Calls Try.prog 37 #[.int .u16 h] w fun e w' => e = .returned (.string (B [99, 46, 106, 97, 108, 114])) ∧ Nx w w' := by
  go_enter Try.func37, Try.ntmps37
  go_wp2
  go_ret
  exact ⟨rfl, by first | exact Nx.refl _ | exact (Nx.refl _).alloc _ | exact ((Nx.refl _).alloc _).alloc _⟩

set_option maxHeartbeats 1000000 in
theorem dg_26 (h : Int) (w : World) (h0 : 0 ≤ h) (h1 : h < 65536) (ht : h % 4 * 8 + h / 8192 = 20) (g0 : h / 4 % 32 = 0) (g1 : h / 128 % 32 = 0) :
    Calls Try.prog 37 #[.int .u16 h] w fun e w' => e = .returned (.string (B [99, 46, 101, 98, 114, 101, 97, 107])) ∧ Nx w w' := by
  go_enter Try.func37, Try.ntmps37
  go_wp2
  go_ret
  exact ⟨rfl, by first | exact Nx.refl _ | exact (Nx.refl _).alloc _ | exact ((Nx.refl _).alloc _).alloc _⟩

set_option maxHeartbeats 1000000 in
theorem dg_other (h : Int) (w : World) (h0 : 0 ≤ h) (h1 : h < 65536) (e0 : (h % 4 * 8 + h / 8192 == 0) = false) (e2 : (h % 4 * 8 + h / 8192 == 2) = false) (e6 : (h % 4 * 8 + h / 8192 == 6) = false) (e8 : (h % 4 * 8 + h / 8192 == 8) = false) (e9 : (h % 4 * 8 + h / 8192 == 9) = false) (e10 : (h % 4 * 8 + h / 8192 == 10) = false) (e11 : (h % 4 * 8 + h / 8192 == 11) = false) (e12 : (h % 4 * 8 + h / 8192 == 12) = false) (e13 : (h % 4 * 8 + h / 8192 == 13) = false) (e14 : (h % 4 * 8 + h / 8192 == 14) = false) (e15 : (h % 4 * 8 + h / 8192 == 15) = false) (e16 : (h % 4 * 8 + h / 8192 == 16) = false) (e18 : (h % 4 * 8 + h / 8192 == 18) = false) (e20 : (h % 4 * 8 + h / 8192 == 20) = false) (e22 : (h % 4 * 8 + h / 8192 == 22) = false) :
    Calls Try.prog 37 #[.int .u16 h] w fun e w' => e = .returned (.string (B [])) ∧ Nx w w' := by
  go_enter Try.func37, Try.ntmps37
  go_wp2
  go_ret
  exact ⟨rfl, Nx.refl _⟩

def dgS (h : Int) : List UInt8 := shB.getD (dgN h) []

theorem diag_any (h : Int) (w : World) (h0 : 0 ≤ h) (h1 : h < 65536) : Calls Try.prog 37 #[.int .u16 h] w fun e w' => e = .returned (.string (B (dgS h))) ∧ Nx w w' := by
  by_cases e0 : h % 4 * 8 + h / 8192 = 0
  · have e : dgN h = 0 := by unfold dgN; simp [e0]
    have es : dgS h = [99, 46, 97, 100, 100, 105, 52, 115, 112, 110] := by unfold dgS; rw [e]; rfl
    rw [es]
    exact dg_0 h w h0 h1 e0 
  by_cases e2 : h % 4 * 8 + h / 8192 = 2
  · have e : dgN h = 1 := by unfold dgN; simp [e2]
    have es : dgS h = [99, 46, 108, 119] := by unfold dgS; rw [e]; rfl
    rw [es]
    exact dg_1 h w h0 h1 e2 
  by_cases e6 : h % 4 * 8 + h / 8192 = 6
  · have e : dgN h = 2 := by unfold dgN; simp [e6]
    have es : dgS h = [99, 46, 115, 119] := by unfold dgS; rw [e]; rfl
    rw [es]
    exact dg_2 h w h0 h1 e6 
  by_cases e8 : h % 4 * 8 + h / 8192 = 8
  · by_cases q : h / 128 % 32 = 0
    · have e : dgN h = 3 := by unfold dgN; simp [e8, q]
      have es : dgS h = [99, 46, 110, 111, 112] := by unfold dgS; rw [e]; rfl
      rw [es]
      exact dg_11 h w h0 h1 e8 (by simpa using q)
    · have e : dgN h = 4 := by unfold dgN; simp [e8, q]
      have es : dgS h = [99, 46, 97, 100, 100, 105] := by unfold dgS; rw [e]; rfl
      rw [es]
      exact dg_12 h w h0 h1 e8 (by simpa using q)
  by_cases e9 : h % 4 * 8 + h / 8192 = 9
  · have e : dgN h = 5 := by unfold dgN; simp [e9]
    have es : dgS h = [99, 46, 106, 97, 108] := by unfold dgS; rw [e]; rfl
    rw [es]
    exact dg_3 h w h0 h1 e9 
  by_cases e10 : h % 4 * 8 + h / 8192 = 10
  · have e : dgN h = 6 := by unfold dgN; simp [e10]
    have es : dgS h = [99, 46, 108, 105] := by unfold dgS; rw [e]; rfl
    rw [es]
    exact dg_4 h w h0 h1 e10 
  by_cases e11 : h % 4 * 8 + h / 8192 = 11
  · by_cases q : h / 128 % 32 = 2
    · have e : dgN h = 7 := by unfold dgN; simp [e11, q]
      have es : dgS h = [99, 46, 97, 100, 100, 105, 49, 54, 115, 112] := by unfold dgS; rw [e]; rfl
      rw [es]
      exact dg_13 h w h0 h1 e11 (by simpa using q)
    · have e : dgN h = 8 := by unfold dgN; simp [e11, q]
      have es : dgS h = [99, 46, 108, 117, 105] := by unfold dgS; rw [e]; rfl
      rw [es]
      exact dg_14 h w h0 h1 e11 (by simpa using q)
  by_cases e12 : h % 4 * 8 + h / 8192 = 12
  · rcases (by omega : h / 1024 % 4 = 0 ∨ h / 1024 % 4 = 1 ∨ h / 1024 % 4 = 2 ∨ h / 1024 % 4 = 3) with q | q | q | q
    · have e : dgN h = 9 := by unfold dgN; simp [e12, q]
      have es : dgS h = [99, 46, 115, 114, 108, 105] := by unfold dgS; rw [e]; rfl
      rw [es]
      exact dg_15 h w h0 h1 e12 (by simpa using q)
    · have e : dgN h = 10 := by unfold dgN; simp [e12, q]
      have es : dgS h = [99, 46, 115, 114, 97, 105] := by unfold dgS; rw [e]; rfl
      rw [es]
      exact dg_16 h w h0 h1 e12 (by simpa using q)
    · have e : dgN h = 11 := by unfold dgN; simp [e12, q]
      have es : dgS h = [99, 46, 97, 110, 100, 105] := by unfold dgS; rw [e]; rfl
      rw [es]
      exact dg_17 h w h0 h1 e12 (by simpa using q)
    · rcases (by omega : h / 32 % 4 = 0 ∨ h / 32 % 4 = 1 ∨ h / 32 % 4 = 2 ∨ h / 32 % 4 = 3) with p | p | p | p
      · have e : dgN h = 12 := by unfold dgN; simp [e12, q, p]
        have es : dgS h = [99, 46, 115, 117, 98] := by unfold dgS; rw [e]; rfl
        rw [es]
        exact dg_18 h w h0 h1 e12 (by simpa using q) (by simpa using p)
      · have e : dgN h = 13 := by unfold dgN; simp [e12, q, p]
        have es : dgS h = [99, 46, 120, 111, 114] := by unfold dgS; rw [e]; rfl
        rw [es]
        exact dg_19 h w h0 h1 e12 (by simpa using q) (by simpa using p)
      · have e : dgN h = 14 := by unfold dgN; simp [e12, q, p]
        have es : dgS h = [99, 46, 111, 114] := by unfold dgS; rw [e]; rfl
        rw [es]
        exact dg_20 h w h0 h1 e12 (by simpa using q) (by simpa using p)
      · have e : dgN h = 15 := by unfold dgN; simp [e12, q, p]
        have es : dgS h = [99, 46, 97, 110, 100] := by unfold dgS; rw [e]; rfl
        rw [es]
        exact dg_21 h w h0 h1 e12 (by simpa using q) (by simpa using p)
  by_cases e13 : h % 4 * 8 + h / 8192 = 13
  · have e : dgN h = 16 := by unfold dgN; simp [e13]
    have es : dgS h = [99, 46, 106] := by unfold dgS; rw [e]; rfl
    rw [es]
    exact dg_5 h w h0 h1 e13 
  by_cases e14 : h % 4 * 8 + h / 8192 = 14
  · have e : dgN h = 17 := by unfold dgN; simp [e14]
    have es : dgS h = [99, 46, 98, 101, 113, 122] := by unfold dgS; rw [e]; rfl
    rw [es]
    exact dg_6 h w h0 h1 e14 
  by_cases e15 : h % 4 * 8 + h / 8192 = 15
  · have e : dgN h = 18 := by unfold dgN; simp [e15]
    have es : dgS h = [99, 46, 98, 110, 101, 122] := by unfold dgS; rw [e]; rfl
    rw [es]
    exact dg_7 h w h0 h1 e15 
  by_cases e16 : h % 4 * 8 + h / 8192 = 16
  · have e : dgN h = 19 := by unfold dgN; simp [e16]
    have es : dgS h = [99, 46, 115, 108, 108, 105] := by unfold dgS; rw [e]; rfl
    rw [es]
    exact dg_8 h w h0 h1 e16 
  by_cases e18 : h % 4 * 8 + h / 8192 = 18
  · have e : dgN h = 20 := by unfold dgN; simp [e18]
    have es : dgS h = [99, 46, 108, 119, 115, 112] := by unfold dgS; rw [e]; rfl
    rw [es]
    exact dg_9 h w h0 h1 e18 
  by_cases e20 : h % 4 * 8 + h / 8192 = 20
  · by_cases q : 0 < h / 4 % 32
    · rcases (by omega : h / 4096 % 2 = 0 ∨ h / 4096 % 2 = 1) with p | p
      · have e : dgN h = 22 := by unfold dgN; simp [e20, q, p]
        have es : dgS h = [99, 46, 109, 118] := by unfold dgS; rw [e]; rfl
        rw [es]
        exact dg_22 h w h0 h1 e20 (by simpa using q) (by simpa using p)
      · have e : dgN h = 25 := by unfold dgN; simp [e20, q, p]
        have es : dgS h = [99, 46, 97, 100, 100] := by unfold dgS; rw [e]; rfl
        rw [es]
        exact dg_23 h w h0 h1 e20 (by simpa using q) (by simpa using p)
    · have q2 : h / 4 % 32 = 0 := by omega
      by_cases r : 0 < h / 128 % 32
      · rcases (by omega : h / 4096 % 2 = 0 ∨ h / 4096 % 2 = 1) with p | p
        · have e : dgN h = 21 := by unfold dgN; simp [e20, q2, r, p]
          have es : dgS h = [99, 46, 106, 114] := by unfold dgS; rw [e]; rfl
          rw [es]
          exact dg_24 h w h0 h1 e20 (by simpa using q2) (by simpa using r) (by simpa using p)
        · have e : dgN h = 24 := by unfold dgN; simp [e20, q2, r, p]
          have es : dgS h = [99, 46, 106, 97, 108, 114] := by unfold dgS; rw [e]; rfl
          rw [es]
          exact dg_25 h w h0 h1 e20 (by simpa using q2) (by simpa using r) (by simpa using p)
      · have r2 : h / 128 % 32 = 0 := by omega
        have e : dgN h = 23 := by unfold dgN; simp [e20, q2, r2]
        have es : dgS h = [99, 46, 101, 98, 114, 101, 97, 107] := by unfold dgS; rw [e]; rfl
        rw [es]
        exact dg_26 h w h0 h1 e20 (by simpa using q2) (by simpa using r2)
  by_cases e22 : h % 4 * 8 + h / 8192 = 22
  · have e : dgN h = 26 := by unfold dgN; simp [e22]
    have es : dgS h = [99, 46, 115, 119, 115, 112] := by unfold dgS; rw [e]; rfl
    rw [es]
    exact dg_10 h w h0 h1 e22 
  have e : dgN h = 27 := by unfold dgN; simp [e0, e2, e6, e8, e9, e10, e11, e12, e13, e14, e15, e16, e18, e20, e22]
  have es : dgS h = [] := by unfold dgS; rw [e]; rfl
  rw [es]
  exact dg_other h w h0 h1 (by simpa using e0) (by simpa using e2) (by simpa using e6) (by simpa using e8) (by simpa using e9) (by simpa using e10) (by simpa using e11) (by simpa using e12) (by simpa using e13) (by simpa using e14) (by simpa using e15) (by simpa using e16) (by simpa using e18) (by simpa using e20) (by simpa using e22)

end Go.Proofs.Ytppnmaklggkogaa

