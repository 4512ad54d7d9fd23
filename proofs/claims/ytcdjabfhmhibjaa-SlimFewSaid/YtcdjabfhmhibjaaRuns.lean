/- Plain: runs of bits put together. -/
import Derived.Test.YtcdjabfhmhibjaaWord
namespace Go.Proofs.Ytcdjabfhmhibjaa
open Go.RowKit
set_option linter.unusedVariables false

/-- One run more: its bits behind those that were. -/
def runV (x v l b : Int) : Int := v * 2 ^ b.toNat % 4294967296 + fld x l.toNat b.toNat

def runsV (x : Int) : Int → List (Int × Int) → Int
  | v, [] => v
  | v, r :: rs => runsV x (runV x v r.1 r.2) rs

def runsN : Int → List (Int × Int) → Int
  | n, [] => n
  | n, r :: rs => runsN (n + r.2) rs

theorem runsV_snoc (x v : Int) (rs : List (Int × Int)) (r : Int × Int) : runsV x v (rs ++ [r]) = runV x (runsV x v rs) r.1 r.2 := by
  induction rs generalizing v with
  | nil => rfl
  | cons a t ih => exact ih _

theorem runsN_snoc (n : Int) (rs : List (Int × Int)) (r : Int × Int) : runsN n (rs ++ [r]) = runsN n rs + r.2 := by
  induction rs generalizing n with
  | nil => rfl
  | cons a t ih => exact ih _

def runOk (r : Int × Int) : Prop := 0 ≤ r.1 ∧ r.1 ≤ 32 ∧ 0 ≤ r.2 ∧ r.2 ≤ 32

theorem runV_bd (x v l b : Int) (hb : 0 ≤ b) (hb' : b ≤ 32) : 0 ≤ runV x v l b ∧ runV x v l b < 4294967296 := by
  obtain ⟨n, rfl⟩ := Int.eq_ofNat_of_zero_le hb
  have hn : n ≤ 32 := by omega
  unfold runV
  simp only [Int.toNat_natCast]
  have h1 := fld_nonneg x l.toNat n
  have h2 := fld_lt x l.toNat n
  have e : (4294967296 : Int) = 2 ^ n * 2 ^ (32 - n) := by
    rw [← Int.pow_add]; have : n + (32 - n) = 32 := by omega
    rw [this]; decide
  have h3 : v * 2 ^ n % 4294967296 = 2 ^ n * (v % 2 ^ (32 - n)) := by
    rw [e, Int.mul_comm v, Int.mul_emod_mul_of_pos _ _ (pow_pos' n)]
  have h4 := Int.emod_nonneg v (Int.ne_of_gt (pow_pos' (32 - n)))
  have h5 := Int.emod_lt_of_pos v (pow_pos' (32 - n))
  have h6 : 2 ^ n * (v % 2 ^ (32 - n)) ≤ 2 ^ n * (2 ^ (32 - n) - 1) := Int.mul_le_mul_of_nonneg_left (by omega) (Int.le_of_lt (pow_pos' n))
  have h7 : 0 ≤ 2 ^ n * (v % 2 ^ (32 - n)) := Int.mul_nonneg (Int.le_of_lt (pow_pos' n)) h4
  rw [h3]
  rw [Int.mul_sub, ← e, Int.mul_one] at h6
  omega

theorem run_spell (x v l b : Int) (hv : 0 ≤ v) (hl : 0 ≤ l) (hb : 0 ≤ b) (hb' : b ≤ 32) :
    bits BinOp.or IntKind.u32 (v * 2 ^ b.toNat % 4294967296) (fld x l.toNat b.toNat) = runV x v l b := by
  obtain ⟨n, rfl⟩ := Int.eq_ofNat_of_zero_le hb
  obtain ⟨u, rfl⟩ := Int.eq_ofNat_of_zero_le hv
  have hn : n ≤ 32 := by omega
  unfold runV
  simp only [Int.toNat_natCast]
  have h1 := fld_nonneg x l.toNat n
  have h2 := fld_lt x l.toNat n
  have h3 := pow_le32 n hn
  obtain ⟨f, hf⟩ := Int.eq_ofNat_of_zero_le h1
  rw [hf] at h2 ⊢
  have hfn : f < 2 ^ n := by have h : ((f : Nat) : Int) < ((2 ^ n : Nat) : Int) := by rw [pow_cast]; exact h2
                             exact Int.ofNat_lt.1 h
  have e : (4294967296 : Nat) = 2 ^ n * 2 ^ (32 - n) := by
    rw [← Nat.pow_add]; have : n + (32 - n) = 32 := by omega
    rw [this]
  have h4 : ((u : Int) * 2 ^ n % 4294967296) = ((2 ^ n * (u % 2 ^ (32 - n)) : Nat) : Int) := by
    have : u * 2 ^ n % 4294967296 = 2 ^ n * (u % 2 ^ (32 - n)) := by rw [e, Nat.mul_comm u, Nat.mul_mod_mul_left]
    rw [← this]; simp
  rw [h4]
  have h5 : u % 2 ^ (32 - n) ≤ 2 ^ (32 - n) - 1 := by have := Nat.mod_lt u (Nat.two_pow_pos (32 - n)); omega
  have h6 : 2 ^ n * (u % 2 ^ (32 - n)) ≤ 2 ^ n * (2 ^ (32 - n) - 1) := Nat.mul_le_mul_left _ h5
  have h7 : 2 ^ n * (2 ^ (32 - n) - 1) = 4294967296 - 2 ^ n := by rw [Nat.mul_sub, ← e, Nat.mul_one]
  have h8 : 0 < 2 ^ n := Nat.two_pow_pos n
  have h9 : 2 ^ n ≤ 4294967296 := by rw [e]; exact Nat.le_mul_of_pos_right _ (Nat.two_pow_pos _)
  rw [u32_or_nat _ _ (by omega) (by omega), ← Nat.two_pow_add_eq_or_of_lt hfn]
  omega

theorem runsV_bd (x : Int) (rs : List (Int × Int)) (h : ∀ r ∈ rs, runOk r) (v : Int) (hv : 0 ≤ v ∧ v < 4294967296) : 0 ≤ runsV x v rs ∧ runsV x v rs < 4294967296 := by
  induction rs generalizing v with
  | nil => exact hv
  | cons a t ih =>
    have ha := h a (by simp)
    exact ih (fun r hr => h r (by simp [hr])) _ (runV_bd x v a.1 a.2 ha.2.2.1 ha.2.2.2)

theorem runsN_bd (rs : List (Int × Int)) (h : ∀ r ∈ rs, runOk r) (n : Int) : n ≤ runsN n rs ∧ runsN n rs ≤ n + 32 * rs.length := by
  induction rs generalizing n with
  | nil => simp [runsN]
  | cons a t ih =>
    have ha := h a (by simp)
    have := ih (fun r hr => h r (by simp [hr])) (n + a.2)
    unfold runOk at ha
    simp only [runsN, List.length_cons]
    omega

/-- A slice of runs, in a block of its own. -/
def Runs (w : World) (g : Nat) (rs : List (Int × Int)) : Prop :=
  ∀ j r, rs[j]? = some r → w.cell? ⟨g, j * 2, none⟩ = some (.int .i64 r.1) ∧ w.cell? ⟨g, j * 2 + 1, none⟩ = some (.int .i64 r.2)

theorem Runs.keep {w w' : World} {g : Nat} {rs : List (Int × Int)} (h : Runs w g rs) (hn : Nx w w') : Runs w' g rs :=
  fun j r hr => ⟨hn.cell (h j r hr).1, hn.cell (h j r hr).2⟩

theorem one_run (x a n : Int) (ha : 0 ≤ a) (hn : 0 ≤ n) (hn32 : n ≤ 32) : runsV x 0 [(a, n)] * 2 ^ (0 : Int).toNat % 4294967296 = fld x a.toNat n.toNat := by
  have h1 := fld_nonneg x a.toNat n.toNat
  have h2 := fld_u32 x a.toNat n.toNat (by omega)
  show (0 * 2 ^ n.toNat % 4294967296 + fld x a.toNat n.toNat) * 2 ^ 0 % 4294967296 = _
  rw [Int.zero_mul, Int.pow_zero]
  omega

end Go.Proofs.Ytcdjabfhmhibjaa
