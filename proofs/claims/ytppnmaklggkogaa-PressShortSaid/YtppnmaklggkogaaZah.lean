/- Parts of the proof, one behind the other. -/
import Derived.Test.YtppnmaklggkogaaZag
/- Plain: a parcel's meaning by its sixteen bits. -/
namespace Go.Proofs.Ytppnmaklggkogaa
open Go.RowKit
set_option linter.unusedVariables false
set_option linter.unusedSimpArgs false

/-- What the machine expands, by the bits. -/
def expB (b0 b1 b2 b3 b4 b5 b6 b7 b8 b9 b10 b11 b12 b13 b14 b15 : Int) : In5 :=
  if b0 = 0 ∧ b1 = 0 then
    (if b13 = 0 ∧ b14 = 0 ∧ b15 = 0 then (if 4 * b6 + 8 * b5 + 16 * b11 + 32 * b12 + 64 * b7 + 128 * b8 + 256 * b9 + 512 * b10 = 0 then none5 else ⟨19, 8 + b2 + 2 * b3 + 4 * b4, 2, 0, 4 * b6 + 8 * b5 + 16 * b11 + 32 * b12 + 64 * b7 + 128 * b8 + 256 * b9 + 512 * b10⟩)
    else if b13 = 0 ∧ b14 = 1 ∧ b15 = 0 then ⟨13, 8 + b2 + 2 * b3 + 4 * b4, 8 + b7 + 2 * b8 + 4 * b9, 0, 4 * b6 + 8 * b10 + 16 * b11 + 32 * b12 + 64 * b5⟩
    else if b13 = 0 ∧ b14 = 1 ∧ b15 = 1 then ⟨18, 0, 8 + b7 + 2 * b8 + 4 * b9, 8 + b2 + 2 * b3 + 4 * b4, 4 * b6 + 8 * b10 + 16 * b11 + 32 * b12 + 64 * b5⟩
    else none5)
  else if b0 = 1 ∧ b1 = 0 then
    (if b13 = 0 ∧ b14 = 0 ∧ b15 = 0 then ⟨19, b7 + 2 * b8 + 4 * b9 + 8 * b10 + 16 * b11, b7 + 2 * b8 + 4 * b9 + 8 * b10 + 16 * b11, 0, b2 + 2 * b3 + 4 * b4 + 8 * b5 + 16 * b6 - 32 * b12⟩
    else if b13 = 1 ∧ b14 = 0 ∧ b15 = 0 then ⟨3, 1, 0, 0, 2 * b3 + 4 * b4 + 8 * b5 + 16 * b11 + 32 * b2 + 64 * b7 + 128 * b6 + 256 * b9 + 512 * b10 + 1024 * b8 - 2048 * b12⟩
    else if b13 = 0 ∧ b14 = 1 ∧ b15 = 0 then ⟨19, b7 + 2 * b8 + 4 * b9 + 8 * b10 + 16 * b11, 0, 0, b2 + 2 * b3 + 4 * b4 + 8 * b5 + 16 * b6 - 32 * b12⟩
    else if b13 = 1 ∧ b14 = 1 ∧ b15 = 0 then (if b2 + 2 * b3 + 4 * b4 + 8 * b5 + 16 * b6 - 32 * b12 = 0 then none5 else if b7 + 2 * b8 + 4 * b9 + 8 * b10 + 16 * b11 = 2 then ⟨19, 2, 2, 0, 16 * b6 + 32 * b2 + 64 * b5 + 128 * b3 + 256 * b4 - 512 * b12⟩ else ⟨1, b7 + 2 * b8 + 4 * b9 + 8 * b10 + 16 * b11, 0, 0, (b2 + 2 * b3 + 4 * b4 + 8 * b5 + 16 * b6 - 32 * b12) * 4096⟩)
    else if b13 = 0 ∧ b14 = 0 ∧ b15 = 1 then
      (if b10 = 0 ∧ b11 = 1 then ⟨24, 8 + b7 + 2 * b8 + 4 * b9, 8 + b7 + 2 * b8 + 4 * b9, 0, b2 + 2 * b3 + 4 * b4 + 8 * b5 + 16 * b6 - 32 * b12⟩
      else if b12 = 1 then none5
      else if b10 = 0 ∧ b11 = 0 then ⟨26, 8 + b7 + 2 * b8 + 4 * b9, 8 + b7 + 2 * b8 + 4 * b9, 0, b2 + 2 * b3 + 4 * b4 + 8 * b5 + 16 * b6⟩
      else if b10 = 1 ∧ b11 = 0 then ⟨27, 8 + b7 + 2 * b8 + 4 * b9, 8 + b7 + 2 * b8 + 4 * b9, 0, b2 + 2 * b3 + 4 * b4 + 8 * b5 + 16 * b6⟩
      else ⟨if b5 = 0 ∧ b6 = 0 then 29 else if b5 = 1 ∧ b6 = 0 then 33 else if b5 = 0 ∧ b6 = 1 then 36 else 37, 8 + b7 + 2 * b8 + 4 * b9, 8 + b7 + 2 * b8 + 4 * b9, 8 + b2 + 2 * b3 + 4 * b4, 0⟩)
    else if b13 = 1 ∧ b14 = 0 ∧ b15 = 1 then ⟨3, 0, 0, 0, 2 * b3 + 4 * b4 + 8 * b5 + 16 * b11 + 32 * b2 + 64 * b7 + 128 * b6 + 256 * b9 + 512 * b10 + 1024 * b8 - 2048 * b12⟩
    else ⟨if b13 = 0 then 5 else 6, 0, 8 + b7 + 2 * b8 + 4 * b9, 0, 2 * b3 + 4 * b4 + 8 * b10 + 16 * b11 + 32 * b2 + 64 * b5 + 128 * b6 - 256 * b12⟩)
  else if b0 = 0 ∧ b1 = 1 then
    (if b13 = 0 ∧ b14 = 0 ∧ b15 = 0 then (if b12 = 0 then ⟨25, b7 + 2 * b8 + 4 * b9 + 8 * b10 + 16 * b11, b7 + 2 * b8 + 4 * b9 + 8 * b10 + 16 * b11, 0, b2 + 2 * b3 + 4 * b4 + 8 * b5 + 16 * b6⟩ else none5)
    else if b13 = 0 ∧ b14 = 1 ∧ b15 = 0 then (if b7 + 2 * b8 + 4 * b9 + 8 * b10 + 16 * b11 = 0 then none5 else ⟨13, b7 + 2 * b8 + 4 * b9 + 8 * b10 + 16 * b11, 2, 0, 4 * b4 + 8 * b5 + 16 * b6 + 32 * b12 + 64 * b2 + 128 * b3⟩)
    else if b13 = 0 ∧ b14 = 0 ∧ b15 = 1 then
      (if b2 + 2 * b3 + 4 * b4 + 8 * b5 + 16 * b6 = 0 then (if b7 + 2 * b8 + 4 * b9 + 8 * b10 + 16 * b11 = 0 then (if b12 = 1 then ⟨40, 0, 0, 0, 0⟩ else none5) else ⟨4, b12, b7 + 2 * b8 + 4 * b9 + 8 * b10 + 16 * b11, 0, 0⟩)
      else if b12 = 0 then ⟨28, b7 + 2 * b8 + 4 * b9 + 8 * b10 + 16 * b11, 0, b2 + 2 * b3 + 4 * b4 + 8 * b5 + 16 * b6, 0⟩ else ⟨28, b7 + 2 * b8 + 4 * b9 + 8 * b10 + 16 * b11, b7 + 2 * b8 + 4 * b9 + 8 * b10 + 16 * b11, b2 + 2 * b3 + 4 * b4 + 8 * b5 + 16 * b6, 0⟩)
    else if b13 = 0 ∧ b14 = 1 ∧ b15 = 1 then ⟨18, 0, 2, b2 + 2 * b3 + 4 * b4 + 8 * b5 + 16 * b6, 4 * b9 + 8 * b10 + 16 * b11 + 32 * b12 + 64 * b7 + 128 * b8⟩
    else none5)
  else none5

theorem e6 (x : Int) : n6P x = bt x 2 + 2 * bt x 3 + 4 * bt x 4 + 8 * bt x 5 + 16 * bt x 6 - 32 * bt x 12 := by
  have h2 := bt_bd x 2
  have h3 := bt_bd x 3
  have h4 := bt_bd x 4
  have h5 := bt_bd x 5
  have h6 := bt_bd x 6
  have h12 := bt_bd x 12
  have e : runsV x 0 [(12, 1), (2, 5)] % 4294967296 = bt x 2 + 2 * bt x 3 + 4 * bt x 4 + 8 * bt x 5 + 16 * bt x 6 + 32 * bt x 12 := by
    simp only [runsV, runV, Int.toNat_one, Int.reduceToNat, f1, f2, f3, f4, f5, Nat.reduceAdd, Int.reducePow]
    omega
  unfold n6P
  rw [e]
  unfold sgn Int.bmod
  simp
  split <;> omega

theorem ej (x : Int) : jP x = 2 * bt x 3 + 4 * bt x 4 + 8 * bt x 5 + 16 * bt x 11 + 32 * bt x 2 + 64 * bt x 7 + 128 * bt x 6 + 256 * bt x 9 + 512 * bt x 10 + 1024 * bt x 8 - 2048 * bt x 12 := by
  have h2 := bt_bd x 2
  have h3 := bt_bd x 3
  have h4 := bt_bd x 4
  have h5 := bt_bd x 5
  have h6 := bt_bd x 6
  have h7 := bt_bd x 7
  have h8 := bt_bd x 8
  have h9 := bt_bd x 9
  have h10 := bt_bd x 10
  have h11 := bt_bd x 11
  have h12 := bt_bd x 12
  have e : runsV x 0 rsJ * 2 % 4294967296 = 2 * bt x 3 + 4 * bt x 4 + 8 * bt x 5 + 16 * bt x 11 + 32 * bt x 2 + 64 * bt x 7 + 128 * bt x 6 + 256 * bt x 9 + 512 * bt x 10 + 1024 * bt x 8 + 2048 * bt x 12 := by
    simp only [rsJ, runsV, runV, Int.toNat_one, Int.reduceToNat, f1, f2, f3, f4, f5, Nat.reduceAdd, Int.reducePow]
    omega
  unfold jP
  rw [e]
  unfold sgn Int.bmod
  simp
  split <;> omega

theorem ebr (x : Int) : brP x = 2 * bt x 3 + 4 * bt x 4 + 8 * bt x 10 + 16 * bt x 11 + 32 * bt x 2 + 64 * bt x 5 + 128 * bt x 6 - 256 * bt x 12 := by
  have h2 := bt_bd x 2
  have h3 := bt_bd x 3
  have h4 := bt_bd x 4
  have h5 := bt_bd x 5
  have h6 := bt_bd x 6
  have h10 := bt_bd x 10
  have h11 := bt_bd x 11
  have h12 := bt_bd x 12
  have e : runsV x 0 rsB * 2 % 4294967296 = 2 * bt x 3 + 4 * bt x 4 + 8 * bt x 10 + 16 * bt x 11 + 32 * bt x 2 + 64 * bt x 5 + 128 * bt x 6 + 256 * bt x 12 := by
    simp only [rsB, runsV, runV, Int.toNat_one, Int.reduceToNat, f1, f2, f3, f4, f5, Nat.reduceAdd, Int.reducePow]
    omega
  unfold brP
  rw [e]
  unfold sgn Int.bmod
  simp
  split <;> omega

theorem efar (x : Int) : farP x = 16 * bt x 6 + 32 * bt x 2 + 64 * bt x 5 + 128 * bt x 3 + 256 * bt x 4 - 512 * bt x 12 := by
  have h2 := bt_bd x 2
  have h3 := bt_bd x 3
  have h4 := bt_bd x 4
  have h5 := bt_bd x 5
  have h6 := bt_bd x 6
  have h12 := bt_bd x 12
  have e : runsV x 0 rsF * 16 % 4294967296 = 16 * bt x 6 + 32 * bt x 2 + 64 * bt x 5 + 128 * bt x 3 + 256 * bt x 4 + 512 * bt x 12 := by
    simp only [rsF, runsV, runV, Int.toNat_one, Int.reduceToNat, f1, f2, f3, f4, f5, Nat.reduceAdd, Int.reducePow]
    omega
  unfold farP
  rw [e]
  unfold sgn Int.bmod
  simp
  split <;> omega

theorem eu (x : Int) : uP x = 4 * bt x 6 + 8 * bt x 5 + 16 * bt x 11 + 32 * bt x 12 + 64 * bt x 7 + 128 * bt x 8 + 256 * bt x 9 + 512 * bt x 10 := by
  have h5 := bt_bd x 5
  have h6 := bt_bd x 6
  have h7 := bt_bd x 7
  have h8 := bt_bd x 8
  have h9 := bt_bd x 9
  have h10 := bt_bd x 10
  have h11 := bt_bd x 11
  have h12 := bt_bd x 12
  have e : runsV x 0 rsU * 4 % 4294967296 = 4 * bt x 6 + 8 * bt x 5 + 16 * bt x 11 + 32 * bt x 12 + 64 * bt x 7 + 128 * bt x 8 + 256 * bt x 9 + 512 * bt x 10 := by
    simp only [rsU, runsV, runV, Int.toNat_one, Int.reduceToNat, f1, f2, f3, f4, f5, Nat.reduceAdd, Int.reducePow]
    omega
  unfold uP
  rw [e]

theorem enear (x : Int) : nearP x = 4 * bt x 6 + 8 * bt x 10 + 16 * bt x 11 + 32 * bt x 12 + 64 * bt x 5 := by
  have h5 := bt_bd x 5
  have h6 := bt_bd x 6
  have h10 := bt_bd x 10
  have h11 := bt_bd x 11
  have h12 := bt_bd x 12
  have e : runsV x 0 rsN * 4 % 4294967296 = 4 * bt x 6 + 8 * bt x 10 + 16 * bt x 11 + 32 * bt x 12 + 64 * bt x 5 := by
    simp only [rsN, runsV, runV, Int.toNat_one, Int.reduceToNat, f1, f2, f3, f4, f5, Nat.reduceAdd, Int.reducePow]
    omega
  unfold nearP
  rw [e]

theorem els (x : Int) : lsP x = 4 * bt x 4 + 8 * bt x 5 + 16 * bt x 6 + 32 * bt x 12 + 64 * bt x 2 + 128 * bt x 3 := by
  have h2 := bt_bd x 2
  have h3 := bt_bd x 3
  have h4 := bt_bd x 4
  have h5 := bt_bd x 5
  have h6 := bt_bd x 6
  have h12 := bt_bd x 12
  have e : runsV x 0 rsL * 4 % 4294967296 = 4 * bt x 4 + 8 * bt x 5 + 16 * bt x 6 + 32 * bt x 12 + 64 * bt x 2 + 128 * bt x 3 := by
    simp only [rsL, runsV, runV, Int.toNat_one, Int.reduceToNat, f1, f2, f3, f4, f5, Nat.reduceAdd, Int.reducePow]
    omega
  unfold lsP
  rw [e]

theorem ess (x : Int) : ssP x = 4 * bt x 9 + 8 * bt x 10 + 16 * bt x 11 + 32 * bt x 12 + 64 * bt x 7 + 128 * bt x 8 := by
  have h7 := bt_bd x 7
  have h8 := bt_bd x 8
  have h9 := bt_bd x 9
  have h10 := bt_bd x 10
  have h11 := bt_bd x 11
  have h12 := bt_bd x 12
  have e : runsV x 0 rsS * 4 % 4294967296 = 4 * bt x 9 + 8 * bt x 10 + 16 * bt x 11 + 32 * bt x 12 + 64 * bt x 7 + 128 * bt x 8 := by
    simp only [rsS, runsV, runV, Int.toNat_one, Int.reduceToNat, f1, f2, f3, f4, f5, Nat.reduceAdd, Int.reducePow]
    omega
  unfold ssP
  rw [e]

theorem bt01 (x : Int) (k : Nat) : bt x k = 0 ∨ bt x k = 1 := bit01 x k

theorem fld_bits (x : Int) (h0 : 0 ≤ x) (h1 : x < 65536) : x = bt x 0 + 2 * bt x 1 + 4 * bt x 2 + 8 * bt x 3 + 16 * bt x 4 + 32 * bt x 5 + 64 * bt x 6 + 128 * bt x 7 + 256 * bt x 8 + 512 * bt x 9 + 1024 * bt x 10 + 2048 * bt x 11 + 4096 * bt x 12 + 8192 * bt x 13 + 16384 * bt x 14 + 32768 * bt x 15 := by
  have e : fld x 0 16 = x := by unfold fld; simp; omega
  have g : ∀ l n, fld x l (n + 1) = fld x (l + 1) n * 2 + bt x l := fun l n => fld_more x l n
  rw [g, g, g, g, g, g, g, g, g, g, g, g, g, g, g, show fld x 15 1 = bt x 15 from rfl] at e
  simp only [Nat.zero_add, Nat.reduceAdd] at e
  omega

set_option maxHeartbeats 8000000 in
theorem expI_bits (x : Int) : expI x = expB (bt x 0) (bt x 1) (bt x 2) (bt x 3) (bt x 4) (bt x 5) (bt x 6) (bt x 7) (bt x 8) (bt x 9) (bt x 10) (bt x 11) (bt x 12) (bt x 13) (bt x 14) (bt x 15) := by
  have h2 := bt_bd x 2
  have h3 := bt_bd x 3
  have h4 := bt_bd x 4
  have h5 := bt_bd x 5
  have h6 := bt_bd x 6
  have h7 := bt_bd x 7
  have h8 := bt_bd x 8
  have h9 := bt_bd x 9
  have h10 := bt_bd x 10
  have h11 := bt_bd x 11
  have h12 := bt_bd x 12
  have hw : wrap32 (n6P x * 4096) = n6P x * 4096 := by
    have := e6 x
    unfold wrap32
    omega
  have r1 : 8 + fld x 7 3 = 8 + bt x 7 + 2 * bt x 8 + 4 * bt x 9 := by rw [f3]; simp only [Nat.reduceAdd]; omega
  have r2 : 8 + fld x 2 3 = 8 + bt x 2 + 2 * bt x 3 + 4 * bt x 4 := by rw [f3]; simp only [Nat.reduceAdd]; omega
  have r3 : fld x 7 5 = bt x 7 + 2 * bt x 8 + 4 * bt x 9 + 8 * bt x 10 + 16 * bt x 11 := by rw [f5]; simp only [Nat.reduceAdd]; omega
  have r4 : fld x 2 5 = bt x 2 + 2 * bt x 3 + 4 * bt x 4 + 8 * bt x 5 + 16 * bt x 6 := by rw [f5]; simp only [Nat.reduceAdd]; omega
  unfold expI fstI sndI thdI uppI recI movI
  rw [hw, r1, r2, r3, r4]
  simp only [e6, ej, ebr, efar, eu, enear, els, ess, f1, f2, f3, Nat.reduceAdd]
  clear hw
  rcases bt01 x 0 with a0 | a0 <;> rcases bt01 x 1 with a1 | a1 <;> rcases bt01 x 13 with a13 | a13 <;> rcases bt01 x 14 with a14 | a14 <;> rcases bt01 x 15 with a15 | a15
  all_goals
    have c5 := bt01 x 5
    have c6 := bt01 x 6
    have c10 := bt01 x 10
    have c11 := bt01 x 11
    have c12 := bt01 x 12
    simp only [expB, a0, a1, a13, a14, a15]
    simp
    try (first | rfl | ((repeat' split) <;> (first | rfl | (exfalso; omega) | (congr 1 <;> omega) | (simp_all; done))))

end Go.Proofs.Ytppnmaklggkogaa

