/- Parts of the proof, one behind the other. -/
import Derived.Test.YtppnmaklggkogaaZam
import Derived.Test.YtppnmaklggkogaaZan
/- Plain: what a row reads, whichever row. -/
namespace Go.Proofs.Ytppnmaklggkogaa
open Go.RowKit
set_option linter.unusedVariables false
set_option linter.unusedSimpArgs false

theorem rows_let : ∀ r ∈ rowsL, (r.bits.filter isLet).Nodup ∧ r.bits.all okC = true := by decide

theorem getS_row (h : Int) (r : PR) (hr : r ∈ rowsL) : getS h r.bits GS0 = if chk h r.bits = true then some (getT h r.bits GS0) else none :=
  getS_T h r.bits GS0 (rows_let r hr).1 (rows_let r hr).2 (by decide) (fun c _ _ => Nat.zero_testBit _)

/-- The instruction that a row reads. -/
def rowI (h : Int) (r : PR) : In5 := gsI r (getT h r.bits GS0)

theorem rowGet_chk (h : Int) (r : PR) (hr : r ∈ rowsL) : rowGet h r = if chk h r.bits = true ∧ fitsI r (rowI h r) = true then some (rowI h r) else none := by
  unfold rowGet
  rw [getS_row h r hr]
  by_cases hc : chk h r.bits = true
  · rw [if_pos hc]
    show (if fitsI r (rowI h r) = true then some (rowI h r) else none) = _
    by_cases hf : fitsI r (rowI h r) = true
    · rw [if_pos hf, if_pos ⟨hc, hf⟩]
    · rw [if_neg hf, if_neg (fun x => hf x.2)]
  · rw [if_neg hc, if_neg (fun x => hc x.1)]

theorem bn_iff (h : Int) (k v : Nat) : bn h k = v ↔ bt h k = (v : Int) := by
  rw [← bn_bt]
  omega

/-- Quarter and f, by the diagram's place in the list. -/
def dgT : List Int := [0, 2, 6, 8, 8, 9, 10, 11, 11, 12, 12, 12, 12, 12, 12, 12, 13, 14, 15, 16, 18, 20, 20, 20, 20, 20, 22]

theorem dg_key (n : Nat) (b0 b1 b2 b3 b4 b5 b6 b7 b8 b9 b10 b11 b12 b13 b14 b15 : Int) (a5 : 0 ≤ b5 ∧ b5 ≤ 1) (a6 : 0 ≤ b6 ∧ b6 ≤ 1) (a10 : 0 ≤ b10 ∧ b10 ≤ 1) (a11 : 0 ≤ b11 ∧ b11 ≤ 1) (hn : n < 27)
    (hd : dgB b0 b1 b2 b3 b4 b5 b6 b7 b8 b9 b10 b11 b12 b13 b14 b15 = n) : 8 * b0 + 16 * b1 + b13 + 2 * b14 + 4 * b15 = dgT.getD n 0 := by
  unfold dgB at hd
  generalize 8 * b0 + 16 * b1 + b13 + 2 * b14 + 4 * b15 = t at *
  by_cases e0 : t = 0
  · rw [if_pos e0] at hd
    subst hd; exact e0
  rw [if_neg e0] at hd
  by_cases e2 : t = 2
  · rw [if_pos e2] at hd
    subst hd; exact e2
  rw [if_neg e2] at hd
  by_cases e6 : t = 6
  · rw [if_pos e6] at hd
    subst hd; exact e6
  rw [if_neg e6] at hd
  by_cases e8 : t = 8
  · rw [if_pos e8] at hd
    split at hd <;> (subst hd; exact e8)
  rw [if_neg e8] at hd
  by_cases e9 : t = 9
  · rw [if_pos e9] at hd
    subst hd; exact e9
  rw [if_neg e9] at hd
  by_cases e10 : t = 10
  · rw [if_pos e10] at hd
    subst hd; exact e10
  rw [if_neg e10] at hd
  by_cases e11 : t = 11
  · rw [if_pos e11] at hd
    split at hd <;> (subst hd; exact e11)
  rw [if_neg e11] at hd
  by_cases e12 : t = 12
  · rw [if_pos e12] at hd
    split at hd
    · rcases (by omega : b10 + 2 * b11 = 0 ∨ b10 + 2 * b11 = 1 ∨ b10 + 2 * b11 = 2) with e | e | e <;> (rw [e] at hd; subst hd; exact e12)
    · rcases (by omega : b5 + 2 * b6 = 0 ∨ b5 + 2 * b6 = 1 ∨ b5 + 2 * b6 = 2 ∨ b5 + 2 * b6 = 3) with e | e | e | e <;> (rw [e] at hd; subst hd; exact e12)
  rw [if_neg e12] at hd
  by_cases e13 : t = 13
  · rw [if_pos e13] at hd
    subst hd; exact e13
  rw [if_neg e13] at hd
  by_cases e14 : t = 14
  · rw [if_pos e14] at hd
    subst hd; exact e14
  rw [if_neg e14] at hd
  by_cases e15 : t = 15
  · rw [if_pos e15] at hd
    subst hd; exact e15
  rw [if_neg e15] at hd
  by_cases e16 : t = 16
  · rw [if_pos e16] at hd
    subst hd; exact e16
  rw [if_neg e16] at hd
  by_cases e18 : t = 18
  · rw [if_pos e18] at hd
    subst hd; exact e18
  rw [if_neg e18] at hd
  by_cases e20 : t = 20
  · rw [if_pos e20] at hd
    split at hd <;> split at hd <;> first | (subst hd; exact e20) | (split at hd <;> (subst hd; exact e20))
  rw [if_neg e20] at hd
  by_cases e22 : t = 22
  · rw [if_pos e22] at hd
    subst hd; exact e22
  rw [if_neg e22] at hd
  omega

theorem bts (h : Int) : ∃ b : Nat → Int, (∀ k, bt h k = b k) ∧ ∀ k, 0 ≤ b k ∧ b k ≤ 1 := ⟨bt h, fun _ => rfl, bt_bd h⟩

theorem sgn_lin (v : Int) (m : Nat) (a b : Int) (ha : 0 ≤ a ∧ a < b) (hb : b * 2 = 2 ^ m) (c : Int) (hc : c = 0 ∨ c = 1) (hv : v = a + b * c) (hm : 0 < m) : sgn v m = a - b * c := by
  rcases hc with rfl | rfl
  · have : v = a := by omega
    subst this
    rw [sgn_of_range _ _ (by omega) (by omega)]
    omega
  · have e : sgn v m = sgn (a - b) m := by
      have : v = (a - b) + 2 ^ m * 1 := by omega
      rw [this]
      unfold sgn
      have e2 : (((2 ^ m : Nat)) : Int) = 2 ^ m := by simp
      rw [← e2]
      exact Int.add_mul_bmod_self_left _ _ _
    rw [e, sgn_of_range _ _ (by omega) (by omega)]
    omega

end Go.Proofs.Ytppnmaklggkogaa

/- Plain: row by row, what a row reads is what the machine expands, and is put as it was. -/
namespace Go.Proofs.Ytppnmaklggkogaa
open Go.RowKit
set_option linter.unusedVariables false
set_option linter.unusedSimpArgs false

theorem gi_0 (h : Int) : rowI h (⟨[99, 46, 97, 100, 100, 105, 52, 115, 112, 110], 19, 4, 2, 0, 4, 1020, 4, 0, [48, 48, 48, 102, 101, 106, 105, 104, 103, 99, 100, 68, 68, 68, 48, 48]⟩ : PR) = ⟨19, 8 + bt h 2 + 2 * bt h 3 + 4 * bt h 4, 2, 0, 4 * bt h 6 + 8 * bt h 5 + 16 * bt h 11 + 32 * bt h 12 + 64 * bt h 7 + 128 * bt h 8 + 256 * bt h 9 + 512 * bt h 10⟩ := by
  have e : getT h [48, 48, 48, 102, 101, 106, 105, 104, 103, 99, 100, 68, 68, 68, 48, 48] GS0 = ⟨((((((((0 + bn h 12 * 2 ^ 5) + bn h 11 * 2 ^ 4) + bn h 10 * 2 ^ 9) + bn h 9 * 2 ^ 8) + bn h 8 * 2 ^ 7) + bn h 7 * 2 ^ 6) + bn h 6 * 2 ^ 2) + bn h 5 * 2 ^ 3), (max (max (max (max (max (max (max (max 0 6) 5) 10) 9) 8) 7) 3) 4), (2 * (2 * (2 * 0 + bn h 4) + bn h 3) + bn h 2), 0, 0⟩ := rfl
  have h2 := bt_bd h 2
  have h3 := bt_bd h 3
  have h4 := bt_bd h 4
  have h5 := bt_bd h 5
  have h6 := bt_bd h 6
  have h7 := bt_bd h 7
  have h8 := bt_bd h 8
  have h9 := bt_bd h 9
  have h10 := bt_bd h 10
  have h11 := bt_bd h 11
  have h12 := bt_bd h 12
  unfold rowI
  show gsI (⟨[99, 46, 97, 100, 100, 105, 52, 115, 112, 110], 19, 4, 2, 0, 4, 1020, 4, 0, [48, 48, 48, 102, 101, 106, 105, 104, 103, 99, 100, 68, 68, 68, 48, 48]⟩ : PR) (getT h [48, 48, 48, 102, 101, 106, 105, 104, 103, 99, 100, 68, 68, 68, 48, 48] GS0) = _
  rw [e]
  clear e
  unfold gsI fullP
  simp [bn_bt]
  try ((repeat' apply And.intro) <;> first | omega | (unfold wrap32; omega))

set_option maxHeartbeats 4000000 in
theorem rb_0 (h : Int) (h0 : 0 ≤ h) (h1 : h < 65536) (hc : chk h [48, 48, 48, 102, 101, 106, 105, 104, 103, 99, 100, 68, 68, 68, 48, 48] = true) (hf : fitsI (⟨[99, 46, 97, 100, 100, 105, 52, 115, 112, 110], 19, 4, 2, 0, 4, 1020, 4, 0, [48, 48, 48, 102, 101, 106, 105, 104, 103, 99, 100, 68, 68, 68, 48, 48]⟩ : PR) (rowI h (⟨[99, 46, 97, 100, 100, 105, 52, 115, 112, 110], 19, 4, 2, 0, 4, 1020, 4, 0, [48, 48, 48, 102, 101, 106, 105, 104, 103, 99, 100, 68, 68, 68, 48, 48]⟩ : PR)) = true) :
    expI h = rowI h (⟨[99, 46, 97, 100, 100, 105, 52, 115, 112, 110], 19, 4, 2, 0, 4, 1020, 4, 0, [48, 48, 48, 102, 101, 106, 105, 104, 103, 99, 100, 68, 68, 68, 48, 48]⟩ : PR) ∧ dgN h = 0 ∧ putV ((rowI h (⟨[99, 46, 97, 100, 100, 105, 52, 115, 112, 110], 19, 4, 2, 0, 4, 1020, 4, 0, [48, 48, 48, 102, 101, 106, 105, 104, 103, 99, 100, 68, 68, 68, 48, 48]⟩ : PR)).rd % 4294967296) ((rowI h (⟨[99, 46, 97, 100, 100, 105, 52, 115, 112, 110], 19, 4, 2, 0, 4, 1020, 4, 0, [48, 48, 48, 102, 101, 106, 105, 104, 103, 99, 100, 68, 68, 68, 48, 48]⟩ : PR)).rs1 % 4294967296) ((rowI h (⟨[99, 46, 97, 100, 100, 105, 52, 115, 112, 110], 19, 4, 2, 0, 4, 1020, 4, 0, [48, 48, 48, 102, 101, 106, 105, 104, 103, 99, 100, 68, 68, 68, 48, 48]⟩ : PR)).rs2 % 4294967296) ((rowI h (⟨[99, 46, 97, 100, 100, 105, 52, 115, 112, 110], 19, 4, 2, 0, 4, 1020, 4, 0, [48, 48, 48, 102, 101, 106, 105, 104, 103, 99, 100, 68, 68, 68, 48, 48]⟩ : PR)).imm % 4294967296) [48, 48, 48, 102, 101, 106, 105, 104, 103, 99, 100, 68, 68, 68, 48, 48] 0 = h := by
  rw [gi_0] at hf ⊢
  have hx := fld_bits h h0 h1
  rw [expI_bits, dgN_bits h h0 h1]
  clear h0 h1
  dsimp only
  rw [put_0]
  simp [chk, bn_iff] at hc
  have a0 := bt_bd h 0
  have a1 := bt_bd h 1
  have a2 := bt_bd h 2
  have a3 := bt_bd h 3
  have a4 := bt_bd h 4
  have a5 := bt_bd h 5
  have a6 := bt_bd h 6
  have a7 := bt_bd h 7
  have a8 := bt_bd h 8
  have a9 := bt_bd h 9
  have a10 := bt_bd h 10
  have a11 := bt_bd h 11
  have a12 := bt_bd h 12
  have a13 := bt_bd h 13
  have a14 := bt_bd h 14
  have a15 := bt_bd h 15
  generalize bt h 0 = b0 at *
  generalize bt h 1 = b1 at *
  generalize bt h 2 = b2 at *
  generalize bt h 3 = b3 at *
  generalize bt h 4 = b4 at *
  generalize bt h 5 = b5 at *
  generalize bt h 6 = b6 at *
  generalize bt h 7 = b7 at *
  generalize bt h 8 = b8 at *
  generalize bt h 9 = b9 at *
  generalize bt h 10 = b10 at *
  generalize bt h 11 = b11 at *
  generalize bt h 12 = b12 at *
  generalize bt h 13 = b13 at *
  generalize bt h 14 = b14 at *
  generalize bt h 15 = b15 at *
  obtain ⟨z15, z14, z13, z1, z0⟩ := hc
  subst z0 z1 z13 z14 z15
  simp [fitsI, fitsB, kindB] at hf
  refine ⟨?_, ?_, ?_⟩
  · simp only [expB]
    simp
    try (clear hx; first | rfl | ((repeat' split) <;> (first | rfl | (exfalso; omega) | (congr 1 <;> omega))) | (congr 1 <;> omega) | omega)
  · simp only [dgB]
    simp
    try (clear hx; first | rfl | ((repeat' split) <;> (first | rfl | (exfalso; omega) | omega)) | omega)
  · have p2 : (8 + b2 + 2 * b3 + 4 * b4) / 1 % 2 = b2 := by clear hx hf; omega
    have p3 : (8 + b2 + 2 * b3 + 4 * b4) / 2 % 2 = b3 := by clear hx hf p2; omega
    have p4 : (8 + b2 + 2 * b3 + 4 * b4) / 4 % 2 = b4 := by clear hx hf p2 p3; omega
    have p5 : (4 * b6 + 8 * b5 + 16 * b11 + 32 * b12 + 64 * b7 + 128 * b8 + 256 * b9 + 512 * b10) / 8 % 2 = b5 := by clear hx hf p2 p3 p4; omega
    have p6 : (4 * b6 + 8 * b5 + 16 * b11 + 32 * b12 + 64 * b7 + 128 * b8 + 256 * b9 + 512 * b10) / 4 % 2 = b6 := by clear hx hf p2 p3 p4 p5; omega
    have p7 : (4 * b6 + 8 * b5 + 16 * b11 + 32 * b12 + 64 * b7 + 128 * b8 + 256 * b9 + 512 * b10) / 64 % 2 = b7 := by clear hx hf p2 p3 p4 p5 p6; omega
    have p8 : (4 * b6 + 8 * b5 + 16 * b11 + 32 * b12 + 64 * b7 + 128 * b8 + 256 * b9 + 512 * b10) / 128 % 2 = b8 := by clear hx hf p2 p3 p4 p5 p6 p7; omega
    have p9 : (4 * b6 + 8 * b5 + 16 * b11 + 32 * b12 + 64 * b7 + 128 * b8 + 256 * b9 + 512 * b10) / 256 % 2 = b9 := by clear hx hf p2 p3 p4 p5 p6 p7 p8; omega
    have p10 : (4 * b6 + 8 * b5 + 16 * b11 + 32 * b12 + 64 * b7 + 128 * b8 + 256 * b9 + 512 * b10) / 512 % 2 = b10 := by clear hx hf p2 p3 p4 p5 p6 p7 p8 p9; omega
    have p11 : (4 * b6 + 8 * b5 + 16 * b11 + 32 * b12 + 64 * b7 + 128 * b8 + 256 * b9 + 512 * b10) / 16 % 2 = b11 := by clear hx hf p2 p3 p4 p5 p6 p7 p8 p9 p10; omega
    have p12 : (4 * b6 + 8 * b5 + 16 * b11 + 32 * b12 + 64 * b7 + 128 * b8 + 256 * b9 + 512 * b10) / 32 % 2 = b12 := by clear hx hf p2 p3 p4 p5 p6 p7 p8 p9 p10 p11; omega
    try rw [p2, p3, p4, p5, p6, p7, p8, p9, p10, p11, p12]
    clear hf
    omega

set_option maxHeartbeats 4000000 in
theorem rc_0 (h : Int) (h0 : 0 ≤ h) (h1 : h < 65536) (hd : dgN h = 0) (hf : fitsI (⟨[99, 46, 97, 100, 100, 105, 52, 115, 112, 110], 19, 4, 2, 0, 4, 1020, 4, 0, [48, 48, 48, 102, 101, 106, 105, 104, 103, 99, 100, 68, 68, 68, 48, 48]⟩ : PR) (expI h) = true) : chk h [48, 48, 48, 102, 101, 106, 105, 104, 103, 99, 100, 68, 68, 68, 48, 48] = true := by
  rw [expI_bits] at hf
  rw [dgN_bits h h0 h1] at hd
  clear h0 h1
  simp [chk, bn_iff]
  have a0 := bt_bd h 0
  have a1 := bt_bd h 1
  have a2 := bt_bd h 2
  have a3 := bt_bd h 3
  have a4 := bt_bd h 4
  have a5 := bt_bd h 5
  have a6 := bt_bd h 6
  have a7 := bt_bd h 7
  have a8 := bt_bd h 8
  have a9 := bt_bd h 9
  have a10 := bt_bd h 10
  have a11 := bt_bd h 11
  have a12 := bt_bd h 12
  have a13 := bt_bd h 13
  have a14 := bt_bd h 14
  have a15 := bt_bd h 15
  generalize bt h 0 = b0 at *
  generalize bt h 1 = b1 at *
  generalize bt h 2 = b2 at *
  generalize bt h 3 = b3 at *
  generalize bt h 4 = b4 at *
  generalize bt h 5 = b5 at *
  generalize bt h 6 = b6 at *
  generalize bt h 7 = b7 at *
  generalize bt h 8 = b8 at *
  generalize bt h 9 = b9 at *
  generalize bt h 10 = b10 at *
  generalize bt h 11 = b11 at *
  generalize bt h 12 = b12 at *
  generalize bt h 13 = b13 at *
  generalize bt h 14 = b14 at *
  generalize bt h 15 = b15 at *
  have key : 8 * b0 + 16 * b1 + b13 + 2 * b14 + 4 * b15 = 0 := dg_key 0 _ _ _ _ _ _ _ _ _ _ _ _ _ _ _ _ a5 a6 a10 a11 (by omega) hd
  have z0 : b0 = 0 := by clear hf hd; omega
  have z1 : b1 = 0 := by clear hf hd; omega
  have z13 : b13 = 0 := by clear hf hd; omega
  have z14 : b14 = 0 := by clear hf hd; omega
  have z15 : b15 = 0 := by clear hf hd; omega
  clear key
  subst z0 z1 z13 z14 z15
  simp only [dgB] at hd
  simp at hd
  simp only [expB] at hf
  simp at hf
  try ((repeat' split at hd) <;> (first | (exfalso; omega) | ((repeat' split at hf) <;> (first | (exact absurd hf (by decide)) | ((try simp [fitsI, fitsB, kindB] at hf); omega)))))

theorem gi_1 (h : Int) : rowI h (⟨[99, 46, 108, 119], 13, 4, 4, 0, 0, 124, 4, 0, [48, 49, 48, 102, 101, 100, 83, 83, 83, 99, 103, 68, 68, 68, 48, 48]⟩ : PR) = ⟨13, 8 + bt h 2 + 2 * bt h 3 + 4 * bt h 4, 8 + bt h 7 + 2 * bt h 8 + 4 * bt h 9, 0, 4 * bt h 6 + 8 * bt h 10 + 16 * bt h 11 + 32 * bt h 12 + 64 * bt h 5⟩ := by
  have e : getT h [48, 49, 48, 102, 101, 100, 83, 83, 83, 99, 103, 68, 68, 68, 48, 48] GS0 = ⟨(((((0 + bn h 12 * 2 ^ 5) + bn h 11 * 2 ^ 4) + bn h 10 * 2 ^ 3) + bn h 6 * 2 ^ 2) + bn h 5 * 2 ^ 6), (max (max (max (max (max 0 6) 5) 4) 3) 7), (2 * (2 * (2 * 0 + bn h 4) + bn h 3) + bn h 2), (2 * (2 * (2 * 0 + bn h 9) + bn h 8) + bn h 7), 0⟩ := rfl
  have h2 := bt_bd h 2
  have h3 := bt_bd h 3
  have h4 := bt_bd h 4
  have h5 := bt_bd h 5
  have h6 := bt_bd h 6
  have h7 := bt_bd h 7
  have h8 := bt_bd h 8
  have h9 := bt_bd h 9
  have h10 := bt_bd h 10
  have h11 := bt_bd h 11
  have h12 := bt_bd h 12
  unfold rowI
  show gsI (⟨[99, 46, 108, 119], 13, 4, 4, 0, 0, 124, 4, 0, [48, 49, 48, 102, 101, 100, 83, 83, 83, 99, 103, 68, 68, 68, 48, 48]⟩ : PR) (getT h [48, 49, 48, 102, 101, 100, 83, 83, 83, 99, 103, 68, 68, 68, 48, 48] GS0) = _
  rw [e]
  clear e
  unfold gsI fullP
  simp [bn_bt]
  try ((repeat' apply And.intro) <;> first | omega | (unfold wrap32; omega))

set_option maxHeartbeats 4000000 in
theorem rb_1 (h : Int) (h0 : 0 ≤ h) (h1 : h < 65536) (hc : chk h [48, 49, 48, 102, 101, 100, 83, 83, 83, 99, 103, 68, 68, 68, 48, 48] = true) (hf : fitsI (⟨[99, 46, 108, 119], 13, 4, 4, 0, 0, 124, 4, 0, [48, 49, 48, 102, 101, 100, 83, 83, 83, 99, 103, 68, 68, 68, 48, 48]⟩ : PR) (rowI h (⟨[99, 46, 108, 119], 13, 4, 4, 0, 0, 124, 4, 0, [48, 49, 48, 102, 101, 100, 83, 83, 83, 99, 103, 68, 68, 68, 48, 48]⟩ : PR)) = true) :
    expI h = rowI h (⟨[99, 46, 108, 119], 13, 4, 4, 0, 0, 124, 4, 0, [48, 49, 48, 102, 101, 100, 83, 83, 83, 99, 103, 68, 68, 68, 48, 48]⟩ : PR) ∧ dgN h = 1 ∧ putV ((rowI h (⟨[99, 46, 108, 119], 13, 4, 4, 0, 0, 124, 4, 0, [48, 49, 48, 102, 101, 100, 83, 83, 83, 99, 103, 68, 68, 68, 48, 48]⟩ : PR)).rd % 4294967296) ((rowI h (⟨[99, 46, 108, 119], 13, 4, 4, 0, 0, 124, 4, 0, [48, 49, 48, 102, 101, 100, 83, 83, 83, 99, 103, 68, 68, 68, 48, 48]⟩ : PR)).rs1 % 4294967296) ((rowI h (⟨[99, 46, 108, 119], 13, 4, 4, 0, 0, 124, 4, 0, [48, 49, 48, 102, 101, 100, 83, 83, 83, 99, 103, 68, 68, 68, 48, 48]⟩ : PR)).rs2 % 4294967296) ((rowI h (⟨[99, 46, 108, 119], 13, 4, 4, 0, 0, 124, 4, 0, [48, 49, 48, 102, 101, 100, 83, 83, 83, 99, 103, 68, 68, 68, 48, 48]⟩ : PR)).imm % 4294967296) [48, 49, 48, 102, 101, 100, 83, 83, 83, 99, 103, 68, 68, 68, 48, 48] 0 = h := by
  rw [gi_1] at hf ⊢
  have hx := fld_bits h h0 h1
  rw [expI_bits, dgN_bits h h0 h1]
  clear h0 h1
  dsimp only
  rw [put_1]
  simp [chk, bn_iff] at hc
  have a0 := bt_bd h 0
  have a1 := bt_bd h 1
  have a2 := bt_bd h 2
  have a3 := bt_bd h 3
  have a4 := bt_bd h 4
  have a5 := bt_bd h 5
  have a6 := bt_bd h 6
  have a7 := bt_bd h 7
  have a8 := bt_bd h 8
  have a9 := bt_bd h 9
  have a10 := bt_bd h 10
  have a11 := bt_bd h 11
  have a12 := bt_bd h 12
  have a13 := bt_bd h 13
  have a14 := bt_bd h 14
  have a15 := bt_bd h 15
  generalize bt h 0 = b0 at *
  generalize bt h 1 = b1 at *
  generalize bt h 2 = b2 at *
  generalize bt h 3 = b3 at *
  generalize bt h 4 = b4 at *
  generalize bt h 5 = b5 at *
  generalize bt h 6 = b6 at *
  generalize bt h 7 = b7 at *
  generalize bt h 8 = b8 at *
  generalize bt h 9 = b9 at *
  generalize bt h 10 = b10 at *
  generalize bt h 11 = b11 at *
  generalize bt h 12 = b12 at *
  generalize bt h 13 = b13 at *
  generalize bt h 14 = b14 at *
  generalize bt h 15 = b15 at *
  obtain ⟨z15, z14, z13, z1, z0⟩ := hc
  subst z0 z1 z13 z14 z15
  simp [fitsI, fitsB, kindB] at hf
  refine ⟨?_, ?_, ?_⟩
  · simp only [expB]
    simp
    try (clear hx; first | rfl | ((repeat' split) <;> (first | rfl | (exfalso; omega) | (congr 1 <;> omega))) | (congr 1 <;> omega) | omega)
  · simp only [dgB]
    simp
    try (clear hx; first | rfl | ((repeat' split) <;> (first | rfl | (exfalso; omega) | omega)) | omega)
  · have p2 : (8 + b2 + 2 * b3 + 4 * b4) / 1 % 2 = b2 := by clear hx hf; omega
    have p3 : (8 + b2 + 2 * b3 + 4 * b4) / 2 % 2 = b3 := by clear hx hf p2; omega
    have p4 : (8 + b2 + 2 * b3 + 4 * b4) / 4 % 2 = b4 := by clear hx hf p2 p3; omega
    have p5 : (4 * b6 + 8 * b10 + 16 * b11 + 32 * b12 + 64 * b5) / 64 % 2 = b5 := by clear hx hf p2 p3 p4; omega
    have p6 : (4 * b6 + 8 * b10 + 16 * b11 + 32 * b12 + 64 * b5) / 4 % 2 = b6 := by clear hx hf p2 p3 p4 p5; omega
    have p7 : (8 + b7 + 2 * b8 + 4 * b9) / 1 % 2 = b7 := by clear hx hf p2 p3 p4 p5 p6; omega
    have p8 : (8 + b7 + 2 * b8 + 4 * b9) / 2 % 2 = b8 := by clear hx hf p2 p3 p4 p5 p6 p7; omega
    have p9 : (8 + b7 + 2 * b8 + 4 * b9) / 4 % 2 = b9 := by clear hx hf p2 p3 p4 p5 p6 p7 p8; omega
    have p10 : (4 * b6 + 8 * b10 + 16 * b11 + 32 * b12 + 64 * b5) / 8 % 2 = b10 := by clear hx hf p2 p3 p4 p5 p6 p7 p8 p9; omega
    have p11 : (4 * b6 + 8 * b10 + 16 * b11 + 32 * b12 + 64 * b5) / 16 % 2 = b11 := by clear hx hf p2 p3 p4 p5 p6 p7 p8 p9 p10; omega
    have p12 : (4 * b6 + 8 * b10 + 16 * b11 + 32 * b12 + 64 * b5) / 32 % 2 = b12 := by clear hx hf p2 p3 p4 p5 p6 p7 p8 p9 p10 p11; omega
    try rw [p2, p3, p4, p5, p6, p7, p8, p9, p10, p11, p12]
    clear hf
    omega

set_option maxHeartbeats 4000000 in
theorem rc_1 (h : Int) (h0 : 0 ≤ h) (h1 : h < 65536) (hd : dgN h = 1) (hf : fitsI (⟨[99, 46, 108, 119], 13, 4, 4, 0, 0, 124, 4, 0, [48, 49, 48, 102, 101, 100, 83, 83, 83, 99, 103, 68, 68, 68, 48, 48]⟩ : PR) (expI h) = true) : chk h [48, 49, 48, 102, 101, 100, 83, 83, 83, 99, 103, 68, 68, 68, 48, 48] = true := by
  rw [expI_bits] at hf
  rw [dgN_bits h h0 h1] at hd
  clear h0 h1
  simp [chk, bn_iff]
  have a0 := bt_bd h 0
  have a1 := bt_bd h 1
  have a2 := bt_bd h 2
  have a3 := bt_bd h 3
  have a4 := bt_bd h 4
  have a5 := bt_bd h 5
  have a6 := bt_bd h 6
  have a7 := bt_bd h 7
  have a8 := bt_bd h 8
  have a9 := bt_bd h 9
  have a10 := bt_bd h 10
  have a11 := bt_bd h 11
  have a12 := bt_bd h 12
  have a13 := bt_bd h 13
  have a14 := bt_bd h 14
  have a15 := bt_bd h 15
  generalize bt h 0 = b0 at *
  generalize bt h 1 = b1 at *
  generalize bt h 2 = b2 at *
  generalize bt h 3 = b3 at *
  generalize bt h 4 = b4 at *
  generalize bt h 5 = b5 at *
  generalize bt h 6 = b6 at *
  generalize bt h 7 = b7 at *
  generalize bt h 8 = b8 at *
  generalize bt h 9 = b9 at *
  generalize bt h 10 = b10 at *
  generalize bt h 11 = b11 at *
  generalize bt h 12 = b12 at *
  generalize bt h 13 = b13 at *
  generalize bt h 14 = b14 at *
  generalize bt h 15 = b15 at *
  have key : 8 * b0 + 16 * b1 + b13 + 2 * b14 + 4 * b15 = 2 := dg_key 1 _ _ _ _ _ _ _ _ _ _ _ _ _ _ _ _ a5 a6 a10 a11 (by omega) hd
  have z0 : b0 = 0 := by clear hf hd; omega
  have z1 : b1 = 0 := by clear hf hd; omega
  have z13 : b13 = 0 := by clear hf hd; omega
  have z14 : b14 = 1 := by clear hf hd; omega
  have z15 : b15 = 0 := by clear hf hd; omega
  clear key
  subst z0 z1 z13 z14 z15
  simp only [dgB] at hd
  simp at hd
  simp only [expB] at hf
  simp at hf
  try ((repeat' split at hd) <;> (first | (exfalso; omega) | ((repeat' split at hf) <;> (first | (exact absurd hf (by decide)) | ((try simp [fitsI, fitsB, kindB] at hf); omega)))))

theorem gi_2 (h : Int) : rowI h (⟨[99, 46, 115, 119], 18, 0, 4, 4, 0, 124, 4, 0, [49, 49, 48, 102, 101, 100, 83, 83, 83, 99, 103, 84, 84, 84, 48, 48]⟩ : PR) = ⟨18, 0, 8 + bt h 7 + 2 * bt h 8 + 4 * bt h 9, 8 + bt h 2 + 2 * bt h 3 + 4 * bt h 4, 4 * bt h 6 + 8 * bt h 10 + 16 * bt h 11 + 32 * bt h 12 + 64 * bt h 5⟩ := by
  have e : getT h [49, 49, 48, 102, 101, 100, 83, 83, 83, 99, 103, 84, 84, 84, 48, 48] GS0 = ⟨(((((0 + bn h 12 * 2 ^ 5) + bn h 11 * 2 ^ 4) + bn h 10 * 2 ^ 3) + bn h 6 * 2 ^ 2) + bn h 5 * 2 ^ 6), (max (max (max (max (max 0 6) 5) 4) 3) 7), 0, (2 * (2 * (2 * 0 + bn h 9) + bn h 8) + bn h 7), (2 * (2 * (2 * 0 + bn h 4) + bn h 3) + bn h 2)⟩ := rfl
  have h2 := bt_bd h 2
  have h3 := bt_bd h 3
  have h4 := bt_bd h 4
  have h5 := bt_bd h 5
  have h6 := bt_bd h 6
  have h7 := bt_bd h 7
  have h8 := bt_bd h 8
  have h9 := bt_bd h 9
  have h10 := bt_bd h 10
  have h11 := bt_bd h 11
  have h12 := bt_bd h 12
  unfold rowI
  show gsI (⟨[99, 46, 115, 119], 18, 0, 4, 4, 0, 124, 4, 0, [49, 49, 48, 102, 101, 100, 83, 83, 83, 99, 103, 84, 84, 84, 48, 48]⟩ : PR) (getT h [49, 49, 48, 102, 101, 100, 83, 83, 83, 99, 103, 84, 84, 84, 48, 48] GS0) = _
  rw [e]
  clear e
  unfold gsI fullP
  simp [bn_bt]
  try ((repeat' apply And.intro) <;> first | omega | (unfold wrap32; omega))

set_option maxHeartbeats 4000000 in
theorem rb_2 (h : Int) (h0 : 0 ≤ h) (h1 : h < 65536) (hc : chk h [49, 49, 48, 102, 101, 100, 83, 83, 83, 99, 103, 84, 84, 84, 48, 48] = true) (hf : fitsI (⟨[99, 46, 115, 119], 18, 0, 4, 4, 0, 124, 4, 0, [49, 49, 48, 102, 101, 100, 83, 83, 83, 99, 103, 84, 84, 84, 48, 48]⟩ : PR) (rowI h (⟨[99, 46, 115, 119], 18, 0, 4, 4, 0, 124, 4, 0, [49, 49, 48, 102, 101, 100, 83, 83, 83, 99, 103, 84, 84, 84, 48, 48]⟩ : PR)) = true) :
    expI h = rowI h (⟨[99, 46, 115, 119], 18, 0, 4, 4, 0, 124, 4, 0, [49, 49, 48, 102, 101, 100, 83, 83, 83, 99, 103, 84, 84, 84, 48, 48]⟩ : PR) ∧ dgN h = 2 ∧ putV ((rowI h (⟨[99, 46, 115, 119], 18, 0, 4, 4, 0, 124, 4, 0, [49, 49, 48, 102, 101, 100, 83, 83, 83, 99, 103, 84, 84, 84, 48, 48]⟩ : PR)).rd % 4294967296) ((rowI h (⟨[99, 46, 115, 119], 18, 0, 4, 4, 0, 124, 4, 0, [49, 49, 48, 102, 101, 100, 83, 83, 83, 99, 103, 84, 84, 84, 48, 48]⟩ : PR)).rs1 % 4294967296) ((rowI h (⟨[99, 46, 115, 119], 18, 0, 4, 4, 0, 124, 4, 0, [49, 49, 48, 102, 101, 100, 83, 83, 83, 99, 103, 84, 84, 84, 48, 48]⟩ : PR)).rs2 % 4294967296) ((rowI h (⟨[99, 46, 115, 119], 18, 0, 4, 4, 0, 124, 4, 0, [49, 49, 48, 102, 101, 100, 83, 83, 83, 99, 103, 84, 84, 84, 48, 48]⟩ : PR)).imm % 4294967296) [49, 49, 48, 102, 101, 100, 83, 83, 83, 99, 103, 84, 84, 84, 48, 48] 0 = h := by
  rw [gi_2] at hf ⊢
  have hx := fld_bits h h0 h1
  rw [expI_bits, dgN_bits h h0 h1]
  clear h0 h1
  dsimp only
  rw [put_2]
  simp [chk, bn_iff] at hc
  have a0 := bt_bd h 0
  have a1 := bt_bd h 1
  have a2 := bt_bd h 2
  have a3 := bt_bd h 3
  have a4 := bt_bd h 4
  have a5 := bt_bd h 5
  have a6 := bt_bd h 6
  have a7 := bt_bd h 7
  have a8 := bt_bd h 8
  have a9 := bt_bd h 9
  have a10 := bt_bd h 10
  have a11 := bt_bd h 11
  have a12 := bt_bd h 12
  have a13 := bt_bd h 13
  have a14 := bt_bd h 14
  have a15 := bt_bd h 15
  generalize bt h 0 = b0 at *
  generalize bt h 1 = b1 at *
  generalize bt h 2 = b2 at *
  generalize bt h 3 = b3 at *
  generalize bt h 4 = b4 at *
  generalize bt h 5 = b5 at *
  generalize bt h 6 = b6 at *
  generalize bt h 7 = b7 at *
  generalize bt h 8 = b8 at *
  generalize bt h 9 = b9 at *
  generalize bt h 10 = b10 at *
  generalize bt h 11 = b11 at *
  generalize bt h 12 = b12 at *
  generalize bt h 13 = b13 at *
  generalize bt h 14 = b14 at *
  generalize bt h 15 = b15 at *
  obtain ⟨z15, z14, z13, z1, z0⟩ := hc
  subst z0 z1 z13 z14 z15
  simp [fitsI, fitsB, kindB] at hf
  refine ⟨?_, ?_, ?_⟩
  · simp only [expB]
    simp
    try (clear hx; first | rfl | ((repeat' split) <;> (first | rfl | (exfalso; omega) | (congr 1 <;> omega))) | (congr 1 <;> omega) | omega)
  · simp only [dgB]
    simp
    try (clear hx; first | rfl | ((repeat' split) <;> (first | rfl | (exfalso; omega) | omega)) | omega)
  · have p2 : (8 + b2 + 2 * b3 + 4 * b4) / 1 % 2 = b2 := by clear hx hf; omega
    have p3 : (8 + b2 + 2 * b3 + 4 * b4) / 2 % 2 = b3 := by clear hx hf p2; omega
    have p4 : (8 + b2 + 2 * b3 + 4 * b4) / 4 % 2 = b4 := by clear hx hf p2 p3; omega
    have p5 : (4 * b6 + 8 * b10 + 16 * b11 + 32 * b12 + 64 * b5) / 64 % 2 = b5 := by clear hx hf p2 p3 p4; omega
    have p6 : (4 * b6 + 8 * b10 + 16 * b11 + 32 * b12 + 64 * b5) / 4 % 2 = b6 := by clear hx hf p2 p3 p4 p5; omega
    have p7 : (8 + b7 + 2 * b8 + 4 * b9) / 1 % 2 = b7 := by clear hx hf p2 p3 p4 p5 p6; omega
    have p8 : (8 + b7 + 2 * b8 + 4 * b9) / 2 % 2 = b8 := by clear hx hf p2 p3 p4 p5 p6 p7; omega
    have p9 : (8 + b7 + 2 * b8 + 4 * b9) / 4 % 2 = b9 := by clear hx hf p2 p3 p4 p5 p6 p7 p8; omega
    have p10 : (4 * b6 + 8 * b10 + 16 * b11 + 32 * b12 + 64 * b5) / 8 % 2 = b10 := by clear hx hf p2 p3 p4 p5 p6 p7 p8 p9; omega
    have p11 : (4 * b6 + 8 * b10 + 16 * b11 + 32 * b12 + 64 * b5) / 16 % 2 = b11 := by clear hx hf p2 p3 p4 p5 p6 p7 p8 p9 p10; omega
    have p12 : (4 * b6 + 8 * b10 + 16 * b11 + 32 * b12 + 64 * b5) / 32 % 2 = b12 := by clear hx hf p2 p3 p4 p5 p6 p7 p8 p9 p10 p11; omega
    try rw [p2, p3, p4, p5, p6, p7, p8, p9, p10, p11, p12]
    clear hf
    omega

set_option maxHeartbeats 4000000 in
theorem rc_2 (h : Int) (h0 : 0 ≤ h) (h1 : h < 65536) (hd : dgN h = 2) (hf : fitsI (⟨[99, 46, 115, 119], 18, 0, 4, 4, 0, 124, 4, 0, [49, 49, 48, 102, 101, 100, 83, 83, 83, 99, 103, 84, 84, 84, 48, 48]⟩ : PR) (expI h) = true) : chk h [49, 49, 48, 102, 101, 100, 83, 83, 83, 99, 103, 84, 84, 84, 48, 48] = true := by
  rw [expI_bits] at hf
  rw [dgN_bits h h0 h1] at hd
  clear h0 h1
  simp [chk, bn_iff]
  have a0 := bt_bd h 0
  have a1 := bt_bd h 1
  have a2 := bt_bd h 2
  have a3 := bt_bd h 3
  have a4 := bt_bd h 4
  have a5 := bt_bd h 5
  have a6 := bt_bd h 6
  have a7 := bt_bd h 7
  have a8 := bt_bd h 8
  have a9 := bt_bd h 9
  have a10 := bt_bd h 10
  have a11 := bt_bd h 11
  have a12 := bt_bd h 12
  have a13 := bt_bd h 13
  have a14 := bt_bd h 14
  have a15 := bt_bd h 15
  generalize bt h 0 = b0 at *
  generalize bt h 1 = b1 at *
  generalize bt h 2 = b2 at *
  generalize bt h 3 = b3 at *
  generalize bt h 4 = b4 at *
  generalize bt h 5 = b5 at *
  generalize bt h 6 = b6 at *
  generalize bt h 7 = b7 at *
  generalize bt h 8 = b8 at *
  generalize bt h 9 = b9 at *
  generalize bt h 10 = b10 at *
  generalize bt h 11 = b11 at *
  generalize bt h 12 = b12 at *
  generalize bt h 13 = b13 at *
  generalize bt h 14 = b14 at *
  generalize bt h 15 = b15 at *
  have key : 8 * b0 + 16 * b1 + b13 + 2 * b14 + 4 * b15 = 6 := dg_key 2 _ _ _ _ _ _ _ _ _ _ _ _ _ _ _ _ a5 a6 a10 a11 (by omega) hd
  have z0 : b0 = 0 := by clear hf hd; omega
  have z1 : b1 = 0 := by clear hf hd; omega
  have z13 : b13 = 0 := by clear hf hd; omega
  have z14 : b14 = 1 := by clear hf hd; omega
  have z15 : b15 = 1 := by clear hf hd; omega
  clear key
  subst z0 z1 z13 z14 z15
  simp only [dgB] at hd
  simp at hd
  simp only [expB] at hf
  simp at hf
  try ((repeat' split at hd) <;> (first | (exfalso; omega) | ((repeat' split at hf) <;> (first | (exact absurd hf (by decide)) | ((try simp [fitsI, fitsB, kindB] at hf); omega)))))

theorem gi_3 (h : Int) : rowI h (⟨[99, 46, 110, 111, 112], 19, 0, 0, 0, 0, 0, 1, 0, [48, 48, 48, 48, 48, 48, 48, 48, 48, 48, 48, 48, 48, 48, 48, 49]⟩ : PR) = ⟨19, 0, 0, 0, 0⟩ := by
  have e : getT h [48, 48, 48, 48, 48, 48, 48, 48, 48, 48, 48, 48, 48, 48, 48, 49] GS0 = ⟨0, 0, 0, 0, 0⟩ := rfl
  unfold rowI
  show gsI (⟨[99, 46, 110, 111, 112], 19, 0, 0, 0, 0, 0, 1, 0, [48, 48, 48, 48, 48, 48, 48, 48, 48, 48, 48, 48, 48, 48, 48, 49]⟩ : PR) (getT h [48, 48, 48, 48, 48, 48, 48, 48, 48, 48, 48, 48, 48, 48, 48, 49] GS0) = _
  rw [e]
  clear e
  unfold gsI fullP
  simp [bn_bt]
  try ((repeat' apply And.intro) <;> first | omega | (unfold wrap32; omega))

set_option maxHeartbeats 4000000 in
theorem rb_3 (h : Int) (h0 : 0 ≤ h) (h1 : h < 65536) (hc : chk h [48, 48, 48, 48, 48, 48, 48, 48, 48, 48, 48, 48, 48, 48, 48, 49] = true) (hf : fitsI (⟨[99, 46, 110, 111, 112], 19, 0, 0, 0, 0, 0, 1, 0, [48, 48, 48, 48, 48, 48, 48, 48, 48, 48, 48, 48, 48, 48, 48, 49]⟩ : PR) (rowI h (⟨[99, 46, 110, 111, 112], 19, 0, 0, 0, 0, 0, 1, 0, [48, 48, 48, 48, 48, 48, 48, 48, 48, 48, 48, 48, 48, 48, 48, 49]⟩ : PR)) = true) :
    expI h = rowI h (⟨[99, 46, 110, 111, 112], 19, 0, 0, 0, 0, 0, 1, 0, [48, 48, 48, 48, 48, 48, 48, 48, 48, 48, 48, 48, 48, 48, 48, 49]⟩ : PR) ∧ dgN h = 3 ∧ putV ((rowI h (⟨[99, 46, 110, 111, 112], 19, 0, 0, 0, 0, 0, 1, 0, [48, 48, 48, 48, 48, 48, 48, 48, 48, 48, 48, 48, 48, 48, 48, 49]⟩ : PR)).rd % 4294967296) ((rowI h (⟨[99, 46, 110, 111, 112], 19, 0, 0, 0, 0, 0, 1, 0, [48, 48, 48, 48, 48, 48, 48, 48, 48, 48, 48, 48, 48, 48, 48, 49]⟩ : PR)).rs1 % 4294967296) ((rowI h (⟨[99, 46, 110, 111, 112], 19, 0, 0, 0, 0, 0, 1, 0, [48, 48, 48, 48, 48, 48, 48, 48, 48, 48, 48, 48, 48, 48, 48, 49]⟩ : PR)).rs2 % 4294967296) ((rowI h (⟨[99, 46, 110, 111, 112], 19, 0, 0, 0, 0, 0, 1, 0, [48, 48, 48, 48, 48, 48, 48, 48, 48, 48, 48, 48, 48, 48, 48, 49]⟩ : PR)).imm % 4294967296) [48, 48, 48, 48, 48, 48, 48, 48, 48, 48, 48, 48, 48, 48, 48, 49] 0 = h := by
  rw [gi_3] at hf ⊢
  have hx := fld_bits h h0 h1
  rw [expI_bits, dgN_bits h h0 h1]
  clear h0 h1
  dsimp only
  rw [put_3]
  simp [chk, bn_iff] at hc
  have a0 := bt_bd h 0
  have a1 := bt_bd h 1
  have a2 := bt_bd h 2
  have a3 := bt_bd h 3
  have a4 := bt_bd h 4
  have a5 := bt_bd h 5
  have a6 := bt_bd h 6
  have a7 := bt_bd h 7
  have a8 := bt_bd h 8
  have a9 := bt_bd h 9
  have a10 := bt_bd h 10
  have a11 := bt_bd h 11
  have a12 := bt_bd h 12
  have a13 := bt_bd h 13
  have a14 := bt_bd h 14
  have a15 := bt_bd h 15
  generalize bt h 0 = b0 at *
  generalize bt h 1 = b1 at *
  generalize bt h 2 = b2 at *
  generalize bt h 3 = b3 at *
  generalize bt h 4 = b4 at *
  generalize bt h 5 = b5 at *
  generalize bt h 6 = b6 at *
  generalize bt h 7 = b7 at *
  generalize bt h 8 = b8 at *
  generalize bt h 9 = b9 at *
  generalize bt h 10 = b10 at *
  generalize bt h 11 = b11 at *
  generalize bt h 12 = b12 at *
  generalize bt h 13 = b13 at *
  generalize bt h 14 = b14 at *
  generalize bt h 15 = b15 at *
  obtain ⟨z15, z14, z13, z12, z11, z10, z9, z8, z7, z6, z5, z4, z3, z2, z1, z0⟩ := hc
  subst z0 z1 z2 z3 z4 z5 z6 z7 z8 z9 z10 z11 z12 z13 z14 z15
  simp [fitsI, fitsB, kindB] at hf
  refine ⟨?_, ?_, ?_⟩
  · simp only [expB]
    simp
    try (clear hx; first | rfl | ((repeat' split) <;> (first | rfl | (exfalso; omega) | (congr 1 <;> omega))) | (congr 1 <;> omega) | omega)
  · simp only [dgB]
    simp
    try (clear hx; first | rfl | ((repeat' split) <;> (first | rfl | (exfalso; omega) | omega)) | omega)
  · omega

set_option maxHeartbeats 4000000 in
theorem rc_3 (h : Int) (h0 : 0 ≤ h) (h1 : h < 65536) (hd : dgN h = 3) (hf : fitsI (⟨[99, 46, 110, 111, 112], 19, 0, 0, 0, 0, 0, 1, 0, [48, 48, 48, 48, 48, 48, 48, 48, 48, 48, 48, 48, 48, 48, 48, 49]⟩ : PR) (expI h) = true) : chk h [48, 48, 48, 48, 48, 48, 48, 48, 48, 48, 48, 48, 48, 48, 48, 49] = true := by
  rw [expI_bits] at hf
  rw [dgN_bits h h0 h1] at hd
  clear h0 h1
  simp [chk, bn_iff]
  have a0 := bt_bd h 0
  have a1 := bt_bd h 1
  have a2 := bt_bd h 2
  have a3 := bt_bd h 3
  have a4 := bt_bd h 4
  have a5 := bt_bd h 5
  have a6 := bt_bd h 6
  have a7 := bt_bd h 7
  have a8 := bt_bd h 8
  have a9 := bt_bd h 9
  have a10 := bt_bd h 10
  have a11 := bt_bd h 11
  have a12 := bt_bd h 12
  have a13 := bt_bd h 13
  have a14 := bt_bd h 14
  have a15 := bt_bd h 15
  generalize bt h 0 = b0 at *
  generalize bt h 1 = b1 at *
  generalize bt h 2 = b2 at *
  generalize bt h 3 = b3 at *
  generalize bt h 4 = b4 at *
  generalize bt h 5 = b5 at *
  generalize bt h 6 = b6 at *
  generalize bt h 7 = b7 at *
  generalize bt h 8 = b8 at *
  generalize bt h 9 = b9 at *
  generalize bt h 10 = b10 at *
  generalize bt h 11 = b11 at *
  generalize bt h 12 = b12 at *
  generalize bt h 13 = b13 at *
  generalize bt h 14 = b14 at *
  generalize bt h 15 = b15 at *
  have key : 8 * b0 + 16 * b1 + b13 + 2 * b14 + 4 * b15 = 8 := dg_key 3 _ _ _ _ _ _ _ _ _ _ _ _ _ _ _ _ a5 a6 a10 a11 (by omega) hd
  have z0 : b0 = 1 := by clear hf hd; omega
  have z1 : b1 = 0 := by clear hf hd; omega
  have z13 : b13 = 0 := by clear hf hd; omega
  have z14 : b14 = 0 := by clear hf hd; omega
  have z15 : b15 = 0 := by clear hf hd; omega
  clear key
  subst z0 z1 z13 z14 z15
  simp only [dgB] at hd
  simp at hd
  simp only [expB] at hf
  simp at hf
  try ((repeat' split at hd) <;> (first | (exfalso; omega) | ((repeat' split at hf) <;> (first | (exact absurd hf (by decide)) | ((try simp [fitsI, fitsB, kindB] at hf); omega)))))

theorem gi_4 (h : Int) : rowI h (⟨[99, 46, 97, 100, 100, 105], 19, 5, 7, 0, (-32), 31, 1, 1, [48, 48, 48, 102, 68, 68, 68, 68, 68, 101, 100, 99, 98, 97, 48, 49]⟩ : PR) = ⟨19, bt h 7 + 2 * bt h 8 + 4 * bt h 9 + 8 * bt h 10 + 16 * bt h 11, bt h 7 + 2 * bt h 8 + 4 * bt h 9 + 8 * bt h 10 + 16 * bt h 11, 0, bt h 2 + 2 * bt h 3 + 4 * bt h 4 + 8 * bt h 5 + 16 * bt h 6 - 32 * bt h 12⟩ := by
  have e : getT h [48, 48, 48, 102, 68, 68, 68, 68, 68, 101, 100, 99, 98, 97, 48, 49] GS0 = ⟨((((((0 + bn h 12 * 2 ^ 5) + bn h 6 * 2 ^ 4) + bn h 5 * 2 ^ 3) + bn h 4 * 2 ^ 2) + bn h 3 * 2 ^ 1) + bn h 2 * 2 ^ 0), (max (max (max (max (max (max 0 6) 5) 4) 3) 2) 1), (2 * (2 * (2 * (2 * (2 * 0 + bn h 11) + bn h 10) + bn h 9) + bn h 8) + bn h 7), 0, 0⟩ := rfl
  have h2 := bt_bd h 2
  have h3 := bt_bd h 3
  have h4 := bt_bd h 4
  have h5 := bt_bd h 5
  have h6 := bt_bd h 6
  have h7 := bt_bd h 7
  have h8 := bt_bd h 8
  have h9 := bt_bd h 9
  have h10 := bt_bd h 10
  have h11 := bt_bd h 11
  have h12 := bt_bd h 12
  unfold rowI
  show gsI (⟨[99, 46, 97, 100, 100, 105], 19, 5, 7, 0, (-32), 31, 1, 1, [48, 48, 48, 102, 68, 68, 68, 68, 68, 101, 100, 99, 98, 97, 48, 49]⟩ : PR) (getT h [48, 48, 48, 102, 68, 68, 68, 68, 68, 101, 100, 99, 98, 97, 48, 49] GS0) = _
  rw [e]
  clear e
  unfold gsI fullP
  have es : ∀ v, v = bt h 2 + 2 * bt h 3 + 4 * bt h 4 + 8 * bt h 5 + 16 * bt h 6 + 32 * bt h 12 → sgn v 6 = bt h 2 + 2 * bt h 3 + 4 * bt h 4 + 8 * bt h 5 + 16 * bt h 6 - 32 * bt h 12 := fun v hv => by
    rw [sgn_lin v 6 (bt h 2 + 2 * bt h 3 + 4 * bt h 4 + 8 * bt h 5 + 16 * bt h 6) 32 (by omega) (by decide) (bt h 12) (bt01 h 12) (by omega) (by omega)]
  simp [bn_bt]
  try ((repeat' apply And.intro) <;> first | omega | (unfold wrap32; omega) | (exact es _ (by omega)))

set_option maxHeartbeats 4000000 in
theorem rb_4 (h : Int) (h0 : 0 ≤ h) (h1 : h < 65536) (hc : chk h [48, 48, 48, 102, 68, 68, 68, 68, 68, 101, 100, 99, 98, 97, 48, 49] = true) (hf : fitsI (⟨[99, 46, 97, 100, 100, 105], 19, 5, 7, 0, (-32), 31, 1, 1, [48, 48, 48, 102, 68, 68, 68, 68, 68, 101, 100, 99, 98, 97, 48, 49]⟩ : PR) (rowI h (⟨[99, 46, 97, 100, 100, 105], 19, 5, 7, 0, (-32), 31, 1, 1, [48, 48, 48, 102, 68, 68, 68, 68, 68, 101, 100, 99, 98, 97, 48, 49]⟩ : PR)) = true) :
    expI h = rowI h (⟨[99, 46, 97, 100, 100, 105], 19, 5, 7, 0, (-32), 31, 1, 1, [48, 48, 48, 102, 68, 68, 68, 68, 68, 101, 100, 99, 98, 97, 48, 49]⟩ : PR) ∧ dgN h = 4 ∧ putV ((rowI h (⟨[99, 46, 97, 100, 100, 105], 19, 5, 7, 0, (-32), 31, 1, 1, [48, 48, 48, 102, 68, 68, 68, 68, 68, 101, 100, 99, 98, 97, 48, 49]⟩ : PR)).rd % 4294967296) ((rowI h (⟨[99, 46, 97, 100, 100, 105], 19, 5, 7, 0, (-32), 31, 1, 1, [48, 48, 48, 102, 68, 68, 68, 68, 68, 101, 100, 99, 98, 97, 48, 49]⟩ : PR)).rs1 % 4294967296) ((rowI h (⟨[99, 46, 97, 100, 100, 105], 19, 5, 7, 0, (-32), 31, 1, 1, [48, 48, 48, 102, 68, 68, 68, 68, 68, 101, 100, 99, 98, 97, 48, 49]⟩ : PR)).rs2 % 4294967296) ((rowI h (⟨[99, 46, 97, 100, 100, 105], 19, 5, 7, 0, (-32), 31, 1, 1, [48, 48, 48, 102, 68, 68, 68, 68, 68, 101, 100, 99, 98, 97, 48, 49]⟩ : PR)).imm % 4294967296) [48, 48, 48, 102, 68, 68, 68, 68, 68, 101, 100, 99, 98, 97, 48, 49] 0 = h := by
  rw [gi_4] at hf ⊢
  have hx := fld_bits h h0 h1
  rw [expI_bits, dgN_bits h h0 h1]
  clear h0 h1
  dsimp only
  rw [put_4]
  simp [chk, bn_iff] at hc
  have a0 := bt_bd h 0
  have a1 := bt_bd h 1
  have a2 := bt_bd h 2
  have a3 := bt_bd h 3
  have a4 := bt_bd h 4
  have a5 := bt_bd h 5
  have a6 := bt_bd h 6
  have a7 := bt_bd h 7
  have a8 := bt_bd h 8
  have a9 := bt_bd h 9
  have a10 := bt_bd h 10
  have a11 := bt_bd h 11
  have a12 := bt_bd h 12
  have a13 := bt_bd h 13
  have a14 := bt_bd h 14
  have a15 := bt_bd h 15
  generalize bt h 0 = b0 at *
  generalize bt h 1 = b1 at *
  generalize bt h 2 = b2 at *
  generalize bt h 3 = b3 at *
  generalize bt h 4 = b4 at *
  generalize bt h 5 = b5 at *
  generalize bt h 6 = b6 at *
  generalize bt h 7 = b7 at *
  generalize bt h 8 = b8 at *
  generalize bt h 9 = b9 at *
  generalize bt h 10 = b10 at *
  generalize bt h 11 = b11 at *
  generalize bt h 12 = b12 at *
  generalize bt h 13 = b13 at *
  generalize bt h 14 = b14 at *
  generalize bt h 15 = b15 at *
  obtain ⟨z15, z14, z13, z1, z0⟩ := hc
  subst z0 z1 z13 z14 z15
  simp [fitsI, fitsB, kindB] at hf
  refine ⟨?_, ?_, ?_⟩
  · simp only [expB]
    simp
    try (clear hx; first | rfl | ((repeat' split) <;> (first | rfl | (exfalso; omega) | (congr 1 <;> omega))) | (congr 1 <;> omega) | omega)
  · simp only [dgB]
    simp
    try (clear hx; first | rfl | ((repeat' split) <;> (first | rfl | (exfalso; omega) | omega)) | omega)
  · have p2 : (b2 + 2 * b3 + 4 * b4 + 8 * b5 + 16 * b6 - 32 * b12) / 1 % 2 = b2 := by clear hx hf; omega
    have p3 : (b2 + 2 * b3 + 4 * b4 + 8 * b5 + 16 * b6 - 32 * b12) / 2 % 2 = b3 := by clear hx hf p2; omega
    have p4 : (b2 + 2 * b3 + 4 * b4 + 8 * b5 + 16 * b6 - 32 * b12) / 4 % 2 = b4 := by clear hx hf p2 p3; omega
    have p5 : (b2 + 2 * b3 + 4 * b4 + 8 * b5 + 16 * b6 - 32 * b12) / 8 % 2 = b5 := by clear hx hf p2 p3 p4; omega
    have p6 : (b2 + 2 * b3 + 4 * b4 + 8 * b5 + 16 * b6 - 32 * b12) / 16 % 2 = b6 := by clear hx hf p2 p3 p4 p5; omega
    have p7 : (b7 + 2 * b8 + 4 * b9 + 8 * b10 + 16 * b11) / 1 % 2 = b7 := by clear hx hf p2 p3 p4 p5 p6; omega
    have p8 : (b7 + 2 * b8 + 4 * b9 + 8 * b10 + 16 * b11) / 2 % 2 = b8 := by clear hx hf p2 p3 p4 p5 p6 p7; omega
    have p9 : (b7 + 2 * b8 + 4 * b9 + 8 * b10 + 16 * b11) / 4 % 2 = b9 := by clear hx hf p2 p3 p4 p5 p6 p7 p8; omega
    have p10 : (b7 + 2 * b8 + 4 * b9 + 8 * b10 + 16 * b11) / 8 % 2 = b10 := by clear hx hf p2 p3 p4 p5 p6 p7 p8 p9; omega
    have p11 : (b7 + 2 * b8 + 4 * b9 + 8 * b10 + 16 * b11) / 16 % 2 = b11 := by clear hx hf p2 p3 p4 p5 p6 p7 p8 p9 p10; omega
    have p12 : (b2 + 2 * b3 + 4 * b4 + 8 * b5 + 16 * b6 - 32 * b12) / 32 % 2 = b12 := by clear hx hf p2 p3 p4 p5 p6 p7 p8 p9 p10 p11; omega
    try rw [p2, p3, p4, p5, p6, p7, p8, p9, p10, p11, p12]
    clear hf
    omega

set_option maxHeartbeats 4000000 in
theorem rc_4 (h : Int) (h0 : 0 ≤ h) (h1 : h < 65536) (hd : dgN h = 4) (hf : fitsI (⟨[99, 46, 97, 100, 100, 105], 19, 5, 7, 0, (-32), 31, 1, 1, [48, 48, 48, 102, 68, 68, 68, 68, 68, 101, 100, 99, 98, 97, 48, 49]⟩ : PR) (expI h) = true) : chk h [48, 48, 48, 102, 68, 68, 68, 68, 68, 101, 100, 99, 98, 97, 48, 49] = true := by
  rw [expI_bits] at hf
  rw [dgN_bits h h0 h1] at hd
  clear h0 h1
  simp [chk, bn_iff]
  have a0 := bt_bd h 0
  have a1 := bt_bd h 1
  have a2 := bt_bd h 2
  have a3 := bt_bd h 3
  have a4 := bt_bd h 4
  have a5 := bt_bd h 5
  have a6 := bt_bd h 6
  have a7 := bt_bd h 7
  have a8 := bt_bd h 8
  have a9 := bt_bd h 9
  have a10 := bt_bd h 10
  have a11 := bt_bd h 11
  have a12 := bt_bd h 12
  have a13 := bt_bd h 13
  have a14 := bt_bd h 14
  have a15 := bt_bd h 15
  generalize bt h 0 = b0 at *
  generalize bt h 1 = b1 at *
  generalize bt h 2 = b2 at *
  generalize bt h 3 = b3 at *
  generalize bt h 4 = b4 at *
  generalize bt h 5 = b5 at *
  generalize bt h 6 = b6 at *
  generalize bt h 7 = b7 at *
  generalize bt h 8 = b8 at *
  generalize bt h 9 = b9 at *
  generalize bt h 10 = b10 at *
  generalize bt h 11 = b11 at *
  generalize bt h 12 = b12 at *
  generalize bt h 13 = b13 at *
  generalize bt h 14 = b14 at *
  generalize bt h 15 = b15 at *
  have key : 8 * b0 + 16 * b1 + b13 + 2 * b14 + 4 * b15 = 8 := dg_key 4 _ _ _ _ _ _ _ _ _ _ _ _ _ _ _ _ a5 a6 a10 a11 (by omega) hd
  have z0 : b0 = 1 := by clear hf hd; omega
  have z1 : b1 = 0 := by clear hf hd; omega
  have z13 : b13 = 0 := by clear hf hd; omega
  have z14 : b14 = 0 := by clear hf hd; omega
  have z15 : b15 = 0 := by clear hf hd; omega
  clear key
  subst z0 z1 z13 z14 z15
  simp only [dgB] at hd
  simp at hd
  simp only [expB] at hf
  simp at hf
  try ((repeat' split at hd) <;> (first | (exfalso; omega) | ((repeat' split at hf) <;> (first | (exact absurd hf (by decide)) | ((try simp [fitsI, fitsB, kindB] at hf); omega)))))

theorem gi_5 (h : Int) : rowI h (⟨[99, 46, 106, 97, 108], 3, 1, 0, 0, (-2048), 2046, 2, 0, [48, 48, 49, 108, 101, 106, 105, 107, 103, 104, 100, 99, 98, 102, 48, 49]⟩ : PR) = ⟨3, 1, 0, 0, 2 * bt h 3 + 4 * bt h 4 + 8 * bt h 5 + 16 * bt h 11 + 32 * bt h 2 + 64 * bt h 7 + 128 * bt h 6 + 256 * bt h 9 + 512 * bt h 10 + 1024 * bt h 8 - 2048 * bt h 12⟩ := by
  have e : getT h [48, 48, 49, 108, 101, 106, 105, 107, 103, 104, 100, 99, 98, 102, 48, 49] GS0 = ⟨(((((((((((0 + bn h 12 * 2 ^ 11) + bn h 11 * 2 ^ 4) + bn h 10 * 2 ^ 9) + bn h 9 * 2 ^ 8) + bn h 8 * 2 ^ 10) + bn h 7 * 2 ^ 6) + bn h 6 * 2 ^ 7) + bn h 5 * 2 ^ 3) + bn h 4 * 2 ^ 2) + bn h 3 * 2 ^ 1) + bn h 2 * 2 ^ 5), (max (max (max (max (max (max (max (max (max (max (max 0 12) 5) 10) 9) 11) 7) 8) 4) 3) 2) 6), 0, 0, 0⟩ := rfl
  have h2 := bt_bd h 2
  have h3 := bt_bd h 3
  have h4 := bt_bd h 4
  have h5 := bt_bd h 5
  have h6 := bt_bd h 6
  have h7 := bt_bd h 7
  have h8 := bt_bd h 8
  have h9 := bt_bd h 9
  have h10 := bt_bd h 10
  have h11 := bt_bd h 11
  have h12 := bt_bd h 12
  unfold rowI
  show gsI (⟨[99, 46, 106, 97, 108], 3, 1, 0, 0, (-2048), 2046, 2, 0, [48, 48, 49, 108, 101, 106, 105, 107, 103, 104, 100, 99, 98, 102, 48, 49]⟩ : PR) (getT h [48, 48, 49, 108, 101, 106, 105, 107, 103, 104, 100, 99, 98, 102, 48, 49] GS0) = _
  rw [e]
  clear e
  unfold gsI fullP
  have es : ∀ v, v = 2 * bt h 3 + 4 * bt h 4 + 8 * bt h 5 + 16 * bt h 11 + 32 * bt h 2 + 64 * bt h 7 + 128 * bt h 6 + 256 * bt h 9 + 512 * bt h 10 + 1024 * bt h 8 + 2048 * bt h 12 → sgn v 12 = 2 * bt h 3 + 4 * bt h 4 + 8 * bt h 5 + 16 * bt h 11 + 32 * bt h 2 + 64 * bt h 7 + 128 * bt h 6 + 256 * bt h 9 + 512 * bt h 10 + 1024 * bt h 8 - 2048 * bt h 12 := fun v hv => by
    rw [sgn_lin v 12 (2 * bt h 3 + 4 * bt h 4 + 8 * bt h 5 + 16 * bt h 11 + 32 * bt h 2 + 64 * bt h 7 + 128 * bt h 6 + 256 * bt h 9 + 512 * bt h 10 + 1024 * bt h 8) 2048 (by omega) (by decide) (bt h 12) (bt01 h 12) (by omega) (by omega)]
  simp [bn_bt]
  try ((repeat' apply And.intro) <;> first | omega | (unfold wrap32; omega) | (exact es _ (by omega)))

set_option maxHeartbeats 4000000 in
theorem rb_5 (h : Int) (h0 : 0 ≤ h) (h1 : h < 65536) (hc : chk h [48, 48, 49, 108, 101, 106, 105, 107, 103, 104, 100, 99, 98, 102, 48, 49] = true) (hf : fitsI (⟨[99, 46, 106, 97, 108], 3, 1, 0, 0, (-2048), 2046, 2, 0, [48, 48, 49, 108, 101, 106, 105, 107, 103, 104, 100, 99, 98, 102, 48, 49]⟩ : PR) (rowI h (⟨[99, 46, 106, 97, 108], 3, 1, 0, 0, (-2048), 2046, 2, 0, [48, 48, 49, 108, 101, 106, 105, 107, 103, 104, 100, 99, 98, 102, 48, 49]⟩ : PR)) = true) :
    expI h = rowI h (⟨[99, 46, 106, 97, 108], 3, 1, 0, 0, (-2048), 2046, 2, 0, [48, 48, 49, 108, 101, 106, 105, 107, 103, 104, 100, 99, 98, 102, 48, 49]⟩ : PR) ∧ dgN h = 5 ∧ putV ((rowI h (⟨[99, 46, 106, 97, 108], 3, 1, 0, 0, (-2048), 2046, 2, 0, [48, 48, 49, 108, 101, 106, 105, 107, 103, 104, 100, 99, 98, 102, 48, 49]⟩ : PR)).rd % 4294967296) ((rowI h (⟨[99, 46, 106, 97, 108], 3, 1, 0, 0, (-2048), 2046, 2, 0, [48, 48, 49, 108, 101, 106, 105, 107, 103, 104, 100, 99, 98, 102, 48, 49]⟩ : PR)).rs1 % 4294967296) ((rowI h (⟨[99, 46, 106, 97, 108], 3, 1, 0, 0, (-2048), 2046, 2, 0, [48, 48, 49, 108, 101, 106, 105, 107, 103, 104, 100, 99, 98, 102, 48, 49]⟩ : PR)).rs2 % 4294967296) ((rowI h (⟨[99, 46, 106, 97, 108], 3, 1, 0, 0, (-2048), 2046, 2, 0, [48, 48, 49, 108, 101, 106, 105, 107, 103, 104, 100, 99, 98, 102, 48, 49]⟩ : PR)).imm % 4294967296) [48, 48, 49, 108, 101, 106, 105, 107, 103, 104, 100, 99, 98, 102, 48, 49] 0 = h := by
  rw [gi_5] at hf ⊢
  have hx := fld_bits h h0 h1
  rw [expI_bits, dgN_bits h h0 h1]
  clear h0 h1
  dsimp only
  rw [put_5]
  simp [chk, bn_iff] at hc
  have a0 := bt_bd h 0
  have a1 := bt_bd h 1
  have a2 := bt_bd h 2
  have a3 := bt_bd h 3
  have a4 := bt_bd h 4
  have a5 := bt_bd h 5
  have a6 := bt_bd h 6
  have a7 := bt_bd h 7
  have a8 := bt_bd h 8
  have a9 := bt_bd h 9
  have a10 := bt_bd h 10
  have a11 := bt_bd h 11
  have a12 := bt_bd h 12
  have a13 := bt_bd h 13
  have a14 := bt_bd h 14
  have a15 := bt_bd h 15
  generalize bt h 0 = b0 at *
  generalize bt h 1 = b1 at *
  generalize bt h 2 = b2 at *
  generalize bt h 3 = b3 at *
  generalize bt h 4 = b4 at *
  generalize bt h 5 = b5 at *
  generalize bt h 6 = b6 at *
  generalize bt h 7 = b7 at *
  generalize bt h 8 = b8 at *
  generalize bt h 9 = b9 at *
  generalize bt h 10 = b10 at *
  generalize bt h 11 = b11 at *
  generalize bt h 12 = b12 at *
  generalize bt h 13 = b13 at *
  generalize bt h 14 = b14 at *
  generalize bt h 15 = b15 at *
  obtain ⟨z15, z14, z13, z1, z0⟩ := hc
  subst z0 z1 z13 z14 z15
  simp [fitsI, fitsB, kindB] at hf
  refine ⟨?_, ?_, ?_⟩
  · simp only [expB]
    simp
    try (clear hx; first | rfl | ((repeat' split) <;> (first | rfl | (exfalso; omega) | (congr 1 <;> omega))) | (congr 1 <;> omega) | omega)
  · simp only [dgB]
    simp
    try (clear hx; first | rfl | ((repeat' split) <;> (first | rfl | (exfalso; omega) | omega)) | omega)
  · have p2 : (2 * b3 + 4 * b4 + 8 * b5 + 16 * b11 + 32 * b2 + 64 * b7 + 128 * b6 + 256 * b9 + 512 * b10 + 1024 * b8 - 2048 * b12) / 32 % 2 = b2 := by clear hx hf; omega
    have p3 : (2 * b3 + 4 * b4 + 8 * b5 + 16 * b11 + 32 * b2 + 64 * b7 + 128 * b6 + 256 * b9 + 512 * b10 + 1024 * b8 - 2048 * b12) / 2 % 2 = b3 := by clear hx hf p2; omega
    have p4 : (2 * b3 + 4 * b4 + 8 * b5 + 16 * b11 + 32 * b2 + 64 * b7 + 128 * b6 + 256 * b9 + 512 * b10 + 1024 * b8 - 2048 * b12) / 4 % 2 = b4 := by clear hx hf p2 p3; omega
    have p5 : (2 * b3 + 4 * b4 + 8 * b5 + 16 * b11 + 32 * b2 + 64 * b7 + 128 * b6 + 256 * b9 + 512 * b10 + 1024 * b8 - 2048 * b12) / 8 % 2 = b5 := by clear hx hf p2 p3 p4; omega
    have p6 : (2 * b3 + 4 * b4 + 8 * b5 + 16 * b11 + 32 * b2 + 64 * b7 + 128 * b6 + 256 * b9 + 512 * b10 + 1024 * b8 - 2048 * b12) / 128 % 2 = b6 := by clear hx hf p2 p3 p4 p5; omega
    have p7 : (2 * b3 + 4 * b4 + 8 * b5 + 16 * b11 + 32 * b2 + 64 * b7 + 128 * b6 + 256 * b9 + 512 * b10 + 1024 * b8 - 2048 * b12) / 64 % 2 = b7 := by clear hx hf p2 p3 p4 p5 p6; omega
    have p8 : (2 * b3 + 4 * b4 + 8 * b5 + 16 * b11 + 32 * b2 + 64 * b7 + 128 * b6 + 256 * b9 + 512 * b10 + 1024 * b8 - 2048 * b12) / 1024 % 2 = b8 := by clear hx hf p2 p3 p4 p5 p6 p7; omega
    have p9 : (2 * b3 + 4 * b4 + 8 * b5 + 16 * b11 + 32 * b2 + 64 * b7 + 128 * b6 + 256 * b9 + 512 * b10 + 1024 * b8 - 2048 * b12) / 256 % 2 = b9 := by clear hx hf p2 p3 p4 p5 p6 p7 p8; omega
    have p10 : (2 * b3 + 4 * b4 + 8 * b5 + 16 * b11 + 32 * b2 + 64 * b7 + 128 * b6 + 256 * b9 + 512 * b10 + 1024 * b8 - 2048 * b12) / 512 % 2 = b10 := by clear hx hf p2 p3 p4 p5 p6 p7 p8 p9; omega
    have p11 : (2 * b3 + 4 * b4 + 8 * b5 + 16 * b11 + 32 * b2 + 64 * b7 + 128 * b6 + 256 * b9 + 512 * b10 + 1024 * b8 - 2048 * b12) / 16 % 2 = b11 := by clear hx hf p2 p3 p4 p5 p6 p7 p8 p9 p10; omega
    have p12 : (2 * b3 + 4 * b4 + 8 * b5 + 16 * b11 + 32 * b2 + 64 * b7 + 128 * b6 + 256 * b9 + 512 * b10 + 1024 * b8 - 2048 * b12) / 2048 % 2 = b12 := by clear hx hf p2 p3 p4 p5 p6 p7 p8 p9 p10 p11; omega
    try rw [p2, p3, p4, p5, p6, p7, p8, p9, p10, p11, p12]
    clear hf
    omega

set_option maxHeartbeats 4000000 in
theorem rc_5 (h : Int) (h0 : 0 ≤ h) (h1 : h < 65536) (hd : dgN h = 5) (hf : fitsI (⟨[99, 46, 106, 97, 108], 3, 1, 0, 0, (-2048), 2046, 2, 0, [48, 48, 49, 108, 101, 106, 105, 107, 103, 104, 100, 99, 98, 102, 48, 49]⟩ : PR) (expI h) = true) : chk h [48, 48, 49, 108, 101, 106, 105, 107, 103, 104, 100, 99, 98, 102, 48, 49] = true := by
  rw [expI_bits] at hf
  rw [dgN_bits h h0 h1] at hd
  clear h0 h1
  simp [chk, bn_iff]
  have a0 := bt_bd h 0
  have a1 := bt_bd h 1
  have a2 := bt_bd h 2
  have a3 := bt_bd h 3
  have a4 := bt_bd h 4
  have a5 := bt_bd h 5
  have a6 := bt_bd h 6
  have a7 := bt_bd h 7
  have a8 := bt_bd h 8
  have a9 := bt_bd h 9
  have a10 := bt_bd h 10
  have a11 := bt_bd h 11
  have a12 := bt_bd h 12
  have a13 := bt_bd h 13
  have a14 := bt_bd h 14
  have a15 := bt_bd h 15
  generalize bt h 0 = b0 at *
  generalize bt h 1 = b1 at *
  generalize bt h 2 = b2 at *
  generalize bt h 3 = b3 at *
  generalize bt h 4 = b4 at *
  generalize bt h 5 = b5 at *
  generalize bt h 6 = b6 at *
  generalize bt h 7 = b7 at *
  generalize bt h 8 = b8 at *
  generalize bt h 9 = b9 at *
  generalize bt h 10 = b10 at *
  generalize bt h 11 = b11 at *
  generalize bt h 12 = b12 at *
  generalize bt h 13 = b13 at *
  generalize bt h 14 = b14 at *
  generalize bt h 15 = b15 at *
  have key : 8 * b0 + 16 * b1 + b13 + 2 * b14 + 4 * b15 = 9 := dg_key 5 _ _ _ _ _ _ _ _ _ _ _ _ _ _ _ _ a5 a6 a10 a11 (by omega) hd
  have z0 : b0 = 1 := by clear hf hd; omega
  have z1 : b1 = 0 := by clear hf hd; omega
  have z13 : b13 = 1 := by clear hf hd; omega
  have z14 : b14 = 0 := by clear hf hd; omega
  have z15 : b15 = 0 := by clear hf hd; omega
  clear key
  subst z0 z1 z13 z14 z15
  simp only [dgB] at hd
  simp at hd
  simp only [expB] at hf
  simp at hf
  try ((repeat' split at hd) <;> (first | (exfalso; omega) | ((repeat' split at hf) <;> (first | (exact absurd hf (by decide)) | ((try simp [fitsI, fitsB, kindB] at hf); omega)))))

theorem gi_6 (h : Int) : rowI h (⟨[99, 46, 108, 105], 19, 5, 0, 0, (-32), 31, 1, 0, [48, 49, 48, 102, 68, 68, 68, 68, 68, 101, 100, 99, 98, 97, 48, 49]⟩ : PR) = ⟨19, bt h 7 + 2 * bt h 8 + 4 * bt h 9 + 8 * bt h 10 + 16 * bt h 11, 0, 0, bt h 2 + 2 * bt h 3 + 4 * bt h 4 + 8 * bt h 5 + 16 * bt h 6 - 32 * bt h 12⟩ := by
  have e : getT h [48, 49, 48, 102, 68, 68, 68, 68, 68, 101, 100, 99, 98, 97, 48, 49] GS0 = ⟨((((((0 + bn h 12 * 2 ^ 5) + bn h 6 * 2 ^ 4) + bn h 5 * 2 ^ 3) + bn h 4 * 2 ^ 2) + bn h 3 * 2 ^ 1) + bn h 2 * 2 ^ 0), (max (max (max (max (max (max 0 6) 5) 4) 3) 2) 1), (2 * (2 * (2 * (2 * (2 * 0 + bn h 11) + bn h 10) + bn h 9) + bn h 8) + bn h 7), 0, 0⟩ := rfl
  have h2 := bt_bd h 2
  have h3 := bt_bd h 3
  have h4 := bt_bd h 4
  have h5 := bt_bd h 5
  have h6 := bt_bd h 6
  have h7 := bt_bd h 7
  have h8 := bt_bd h 8
  have h9 := bt_bd h 9
  have h10 := bt_bd h 10
  have h11 := bt_bd h 11
  have h12 := bt_bd h 12
  unfold rowI
  show gsI (⟨[99, 46, 108, 105], 19, 5, 0, 0, (-32), 31, 1, 0, [48, 49, 48, 102, 68, 68, 68, 68, 68, 101, 100, 99, 98, 97, 48, 49]⟩ : PR) (getT h [48, 49, 48, 102, 68, 68, 68, 68, 68, 101, 100, 99, 98, 97, 48, 49] GS0) = _
  rw [e]
  clear e
  unfold gsI fullP
  have es : ∀ v, v = bt h 2 + 2 * bt h 3 + 4 * bt h 4 + 8 * bt h 5 + 16 * bt h 6 + 32 * bt h 12 → sgn v 6 = bt h 2 + 2 * bt h 3 + 4 * bt h 4 + 8 * bt h 5 + 16 * bt h 6 - 32 * bt h 12 := fun v hv => by
    rw [sgn_lin v 6 (bt h 2 + 2 * bt h 3 + 4 * bt h 4 + 8 * bt h 5 + 16 * bt h 6) 32 (by omega) (by decide) (bt h 12) (bt01 h 12) (by omega) (by omega)]
  simp [bn_bt]
  try ((repeat' apply And.intro) <;> first | omega | (unfold wrap32; omega) | (exact es _ (by omega)))

set_option maxHeartbeats 4000000 in
theorem rb_6 (h : Int) (h0 : 0 ≤ h) (h1 : h < 65536) (hc : chk h [48, 49, 48, 102, 68, 68, 68, 68, 68, 101, 100, 99, 98, 97, 48, 49] = true) (hf : fitsI (⟨[99, 46, 108, 105], 19, 5, 0, 0, (-32), 31, 1, 0, [48, 49, 48, 102, 68, 68, 68, 68, 68, 101, 100, 99, 98, 97, 48, 49]⟩ : PR) (rowI h (⟨[99, 46, 108, 105], 19, 5, 0, 0, (-32), 31, 1, 0, [48, 49, 48, 102, 68, 68, 68, 68, 68, 101, 100, 99, 98, 97, 48, 49]⟩ : PR)) = true) :
    expI h = rowI h (⟨[99, 46, 108, 105], 19, 5, 0, 0, (-32), 31, 1, 0, [48, 49, 48, 102, 68, 68, 68, 68, 68, 101, 100, 99, 98, 97, 48, 49]⟩ : PR) ∧ dgN h = 6 ∧ putV ((rowI h (⟨[99, 46, 108, 105], 19, 5, 0, 0, (-32), 31, 1, 0, [48, 49, 48, 102, 68, 68, 68, 68, 68, 101, 100, 99, 98, 97, 48, 49]⟩ : PR)).rd % 4294967296) ((rowI h (⟨[99, 46, 108, 105], 19, 5, 0, 0, (-32), 31, 1, 0, [48, 49, 48, 102, 68, 68, 68, 68, 68, 101, 100, 99, 98, 97, 48, 49]⟩ : PR)).rs1 % 4294967296) ((rowI h (⟨[99, 46, 108, 105], 19, 5, 0, 0, (-32), 31, 1, 0, [48, 49, 48, 102, 68, 68, 68, 68, 68, 101, 100, 99, 98, 97, 48, 49]⟩ : PR)).rs2 % 4294967296) ((rowI h (⟨[99, 46, 108, 105], 19, 5, 0, 0, (-32), 31, 1, 0, [48, 49, 48, 102, 68, 68, 68, 68, 68, 101, 100, 99, 98, 97, 48, 49]⟩ : PR)).imm % 4294967296) [48, 49, 48, 102, 68, 68, 68, 68, 68, 101, 100, 99, 98, 97, 48, 49] 0 = h := by
  rw [gi_6] at hf ⊢
  have hx := fld_bits h h0 h1
  rw [expI_bits, dgN_bits h h0 h1]
  clear h0 h1
  dsimp only
  rw [put_6]
  simp [chk, bn_iff] at hc
  have a0 := bt_bd h 0
  have a1 := bt_bd h 1
  have a2 := bt_bd h 2
  have a3 := bt_bd h 3
  have a4 := bt_bd h 4
  have a5 := bt_bd h 5
  have a6 := bt_bd h 6
  have a7 := bt_bd h 7
  have a8 := bt_bd h 8
  have a9 := bt_bd h 9
  have a10 := bt_bd h 10
  have a11 := bt_bd h 11
  have a12 := bt_bd h 12
  have a13 := bt_bd h 13
  have a14 := bt_bd h 14
  have a15 := bt_bd h 15
  generalize bt h 0 = b0 at *
  generalize bt h 1 = b1 at *
  generalize bt h 2 = b2 at *
  generalize bt h 3 = b3 at *
  generalize bt h 4 = b4 at *
  generalize bt h 5 = b5 at *
  generalize bt h 6 = b6 at *
  generalize bt h 7 = b7 at *
  generalize bt h 8 = b8 at *
  generalize bt h 9 = b9 at *
  generalize bt h 10 = b10 at *
  generalize bt h 11 = b11 at *
  generalize bt h 12 = b12 at *
  generalize bt h 13 = b13 at *
  generalize bt h 14 = b14 at *
  generalize bt h 15 = b15 at *
  obtain ⟨z15, z14, z13, z1, z0⟩ := hc
  subst z0 z1 z13 z14 z15
  simp [fitsI, fitsB, kindB] at hf
  refine ⟨?_, ?_, ?_⟩
  · simp only [expB]
    simp
    try (clear hx; first | rfl | ((repeat' split) <;> (first | rfl | (exfalso; omega) | (congr 1 <;> omega))) | (congr 1 <;> omega) | omega)
  · simp only [dgB]
    simp
    try (clear hx; first | rfl | ((repeat' split) <;> (first | rfl | (exfalso; omega) | omega)) | omega)
  · have p2 : (b2 + 2 * b3 + 4 * b4 + 8 * b5 + 16 * b6 - 32 * b12) / 1 % 2 = b2 := by clear hx hf; omega
    have p3 : (b2 + 2 * b3 + 4 * b4 + 8 * b5 + 16 * b6 - 32 * b12) / 2 % 2 = b3 := by clear hx hf p2; omega
    have p4 : (b2 + 2 * b3 + 4 * b4 + 8 * b5 + 16 * b6 - 32 * b12) / 4 % 2 = b4 := by clear hx hf p2 p3; omega
    have p5 : (b2 + 2 * b3 + 4 * b4 + 8 * b5 + 16 * b6 - 32 * b12) / 8 % 2 = b5 := by clear hx hf p2 p3 p4; omega
    have p6 : (b2 + 2 * b3 + 4 * b4 + 8 * b5 + 16 * b6 - 32 * b12) / 16 % 2 = b6 := by clear hx hf p2 p3 p4 p5; omega
    have p7 : (b7 + 2 * b8 + 4 * b9 + 8 * b10 + 16 * b11) / 1 % 2 = b7 := by clear hx hf p2 p3 p4 p5 p6; omega
    have p8 : (b7 + 2 * b8 + 4 * b9 + 8 * b10 + 16 * b11) / 2 % 2 = b8 := by clear hx hf p2 p3 p4 p5 p6 p7; omega
    have p9 : (b7 + 2 * b8 + 4 * b9 + 8 * b10 + 16 * b11) / 4 % 2 = b9 := by clear hx hf p2 p3 p4 p5 p6 p7 p8; omega
    have p10 : (b7 + 2 * b8 + 4 * b9 + 8 * b10 + 16 * b11) / 8 % 2 = b10 := by clear hx hf p2 p3 p4 p5 p6 p7 p8 p9; omega
    have p11 : (b7 + 2 * b8 + 4 * b9 + 8 * b10 + 16 * b11) / 16 % 2 = b11 := by clear hx hf p2 p3 p4 p5 p6 p7 p8 p9 p10; omega
    have p12 : (b2 + 2 * b3 + 4 * b4 + 8 * b5 + 16 * b6 - 32 * b12) / 32 % 2 = b12 := by clear hx hf p2 p3 p4 p5 p6 p7 p8 p9 p10 p11; omega
    try rw [p2, p3, p4, p5, p6, p7, p8, p9, p10, p11, p12]
    clear hf
    omega

set_option maxHeartbeats 4000000 in
theorem rc_6 (h : Int) (h0 : 0 ≤ h) (h1 : h < 65536) (hd : dgN h = 6) (hf : fitsI (⟨[99, 46, 108, 105], 19, 5, 0, 0, (-32), 31, 1, 0, [48, 49, 48, 102, 68, 68, 68, 68, 68, 101, 100, 99, 98, 97, 48, 49]⟩ : PR) (expI h) = true) : chk h [48, 49, 48, 102, 68, 68, 68, 68, 68, 101, 100, 99, 98, 97, 48, 49] = true := by
  rw [expI_bits] at hf
  rw [dgN_bits h h0 h1] at hd
  clear h0 h1
  simp [chk, bn_iff]
  have a0 := bt_bd h 0
  have a1 := bt_bd h 1
  have a2 := bt_bd h 2
  have a3 := bt_bd h 3
  have a4 := bt_bd h 4
  have a5 := bt_bd h 5
  have a6 := bt_bd h 6
  have a7 := bt_bd h 7
  have a8 := bt_bd h 8
  have a9 := bt_bd h 9
  have a10 := bt_bd h 10
  have a11 := bt_bd h 11
  have a12 := bt_bd h 12
  have a13 := bt_bd h 13
  have a14 := bt_bd h 14
  have a15 := bt_bd h 15
  generalize bt h 0 = b0 at *
  generalize bt h 1 = b1 at *
  generalize bt h 2 = b2 at *
  generalize bt h 3 = b3 at *
  generalize bt h 4 = b4 at *
  generalize bt h 5 = b5 at *
  generalize bt h 6 = b6 at *
  generalize bt h 7 = b7 at *
  generalize bt h 8 = b8 at *
  generalize bt h 9 = b9 at *
  generalize bt h 10 = b10 at *
  generalize bt h 11 = b11 at *
  generalize bt h 12 = b12 at *
  generalize bt h 13 = b13 at *
  generalize bt h 14 = b14 at *
  generalize bt h 15 = b15 at *
  have key : 8 * b0 + 16 * b1 + b13 + 2 * b14 + 4 * b15 = 10 := dg_key 6 _ _ _ _ _ _ _ _ _ _ _ _ _ _ _ _ a5 a6 a10 a11 (by omega) hd
  have z0 : b0 = 1 := by clear hf hd; omega
  have z1 : b1 = 0 := by clear hf hd; omega
  have z13 : b13 = 0 := by clear hf hd; omega
  have z14 : b14 = 1 := by clear hf hd; omega
  have z15 : b15 = 0 := by clear hf hd; omega
  clear key
  subst z0 z1 z13 z14 z15
  simp only [dgB] at hd
  simp at hd
  simp only [expB] at hf
  simp at hf
  try ((repeat' split at hd) <;> (first | (exfalso; omega) | ((repeat' split at hf) <;> (first | (exact absurd hf (by decide)) | ((try simp [fitsI, fitsB, kindB] at hf); omega)))))

theorem gi_7 (h : Int) : rowI h (⟨[99, 46, 97, 100, 100, 105, 49, 54, 115, 112], 19, 2, 7, 0, (-512), 496, 16, 1, [48, 49, 49, 106, 48, 48, 48, 49, 48, 101, 103, 105, 104, 102, 48, 49]⟩ : PR) = ⟨19, 2, 2, 0, 16 * bt h 6 + 32 * bt h 2 + 64 * bt h 5 + 128 * bt h 3 + 256 * bt h 4 - 512 * bt h 12⟩ := by
  have e : getT h [48, 49, 49, 106, 48, 48, 48, 49, 48, 101, 103, 105, 104, 102, 48, 49] GS0 = ⟨((((((0 + bn h 12 * 2 ^ 9) + bn h 6 * 2 ^ 4) + bn h 5 * 2 ^ 6) + bn h 4 * 2 ^ 8) + bn h 3 * 2 ^ 7) + bn h 2 * 2 ^ 5), (max (max (max (max (max (max 0 10) 5) 7) 9) 8) 6), 0, 0, 0⟩ := rfl
  have h2 := bt_bd h 2
  have h3 := bt_bd h 3
  have h4 := bt_bd h 4
  have h5 := bt_bd h 5
  have h6 := bt_bd h 6
  have h12 := bt_bd h 12
  unfold rowI
  show gsI (⟨[99, 46, 97, 100, 100, 105, 49, 54, 115, 112], 19, 2, 7, 0, (-512), 496, 16, 1, [48, 49, 49, 106, 48, 48, 48, 49, 48, 101, 103, 105, 104, 102, 48, 49]⟩ : PR) (getT h [48, 49, 49, 106, 48, 48, 48, 49, 48, 101, 103, 105, 104, 102, 48, 49] GS0) = _
  rw [e]
  clear e
  unfold gsI fullP
  have es : ∀ v, v = 16 * bt h 6 + 32 * bt h 2 + 64 * bt h 5 + 128 * bt h 3 + 256 * bt h 4 + 512 * bt h 12 → sgn v 10 = 16 * bt h 6 + 32 * bt h 2 + 64 * bt h 5 + 128 * bt h 3 + 256 * bt h 4 - 512 * bt h 12 := fun v hv => by
    rw [sgn_lin v 10 (16 * bt h 6 + 32 * bt h 2 + 64 * bt h 5 + 128 * bt h 3 + 256 * bt h 4) 512 (by omega) (by decide) (bt h 12) (bt01 h 12) (by omega) (by omega)]
  simp [bn_bt]
  try ((repeat' apply And.intro) <;> first | omega | (unfold wrap32; omega) | (exact es _ (by omega)))

set_option maxHeartbeats 4000000 in
theorem rb_7 (h : Int) (h0 : 0 ≤ h) (h1 : h < 65536) (hc : chk h [48, 49, 49, 106, 48, 48, 48, 49, 48, 101, 103, 105, 104, 102, 48, 49] = true) (hf : fitsI (⟨[99, 46, 97, 100, 100, 105, 49, 54, 115, 112], 19, 2, 7, 0, (-512), 496, 16, 1, [48, 49, 49, 106, 48, 48, 48, 49, 48, 101, 103, 105, 104, 102, 48, 49]⟩ : PR) (rowI h (⟨[99, 46, 97, 100, 100, 105, 49, 54, 115, 112], 19, 2, 7, 0, (-512), 496, 16, 1, [48, 49, 49, 106, 48, 48, 48, 49, 48, 101, 103, 105, 104, 102, 48, 49]⟩ : PR)) = true) :
    expI h = rowI h (⟨[99, 46, 97, 100, 100, 105, 49, 54, 115, 112], 19, 2, 7, 0, (-512), 496, 16, 1, [48, 49, 49, 106, 48, 48, 48, 49, 48, 101, 103, 105, 104, 102, 48, 49]⟩ : PR) ∧ dgN h = 7 ∧ putV ((rowI h (⟨[99, 46, 97, 100, 100, 105, 49, 54, 115, 112], 19, 2, 7, 0, (-512), 496, 16, 1, [48, 49, 49, 106, 48, 48, 48, 49, 48, 101, 103, 105, 104, 102, 48, 49]⟩ : PR)).rd % 4294967296) ((rowI h (⟨[99, 46, 97, 100, 100, 105, 49, 54, 115, 112], 19, 2, 7, 0, (-512), 496, 16, 1, [48, 49, 49, 106, 48, 48, 48, 49, 48, 101, 103, 105, 104, 102, 48, 49]⟩ : PR)).rs1 % 4294967296) ((rowI h (⟨[99, 46, 97, 100, 100, 105, 49, 54, 115, 112], 19, 2, 7, 0, (-512), 496, 16, 1, [48, 49, 49, 106, 48, 48, 48, 49, 48, 101, 103, 105, 104, 102, 48, 49]⟩ : PR)).rs2 % 4294967296) ((rowI h (⟨[99, 46, 97, 100, 100, 105, 49, 54, 115, 112], 19, 2, 7, 0, (-512), 496, 16, 1, [48, 49, 49, 106, 48, 48, 48, 49, 48, 101, 103, 105, 104, 102, 48, 49]⟩ : PR)).imm % 4294967296) [48, 49, 49, 106, 48, 48, 48, 49, 48, 101, 103, 105, 104, 102, 48, 49] 0 = h := by
  rw [gi_7] at hf ⊢
  have hx := fld_bits h h0 h1
  rw [expI_bits, dgN_bits h h0 h1]
  clear h0 h1
  dsimp only
  rw [put_7]
  simp [chk, bn_iff] at hc
  have a0 := bt_bd h 0
  have a1 := bt_bd h 1
  have a2 := bt_bd h 2
  have a3 := bt_bd h 3
  have a4 := bt_bd h 4
  have a5 := bt_bd h 5
  have a6 := bt_bd h 6
  have a7 := bt_bd h 7
  have a8 := bt_bd h 8
  have a9 := bt_bd h 9
  have a10 := bt_bd h 10
  have a11 := bt_bd h 11
  have a12 := bt_bd h 12
  have a13 := bt_bd h 13
  have a14 := bt_bd h 14
  have a15 := bt_bd h 15
  generalize bt h 0 = b0 at *
  generalize bt h 1 = b1 at *
  generalize bt h 2 = b2 at *
  generalize bt h 3 = b3 at *
  generalize bt h 4 = b4 at *
  generalize bt h 5 = b5 at *
  generalize bt h 6 = b6 at *
  generalize bt h 7 = b7 at *
  generalize bt h 8 = b8 at *
  generalize bt h 9 = b9 at *
  generalize bt h 10 = b10 at *
  generalize bt h 11 = b11 at *
  generalize bt h 12 = b12 at *
  generalize bt h 13 = b13 at *
  generalize bt h 14 = b14 at *
  generalize bt h 15 = b15 at *
  obtain ⟨z15, z14, z13, z11, z10, z9, z8, z7, z1, z0⟩ := hc
  subst z0 z1 z7 z8 z9 z10 z11 z13 z14 z15
  simp [fitsI, fitsB, kindB] at hf
  refine ⟨?_, ?_, ?_⟩
  · simp only [expB]
    simp
    try (clear hx; first | rfl | ((repeat' split) <;> (first | rfl | (exfalso; omega) | (congr 1 <;> omega))) | (congr 1 <;> omega) | omega)
  · simp only [dgB]
    simp
    try (clear hx; first | rfl | ((repeat' split) <;> (first | rfl | (exfalso; omega) | omega)) | omega)
  · have p2 : (16 * b6 + 32 * b2 + 64 * b5 + 128 * b3 + 256 * b4 - 512 * b12) / 32 % 2 = b2 := by clear hx hf; omega
    have p3 : (16 * b6 + 32 * b2 + 64 * b5 + 128 * b3 + 256 * b4 - 512 * b12) / 128 % 2 = b3 := by clear hx hf p2; omega
    have p4 : (16 * b6 + 32 * b2 + 64 * b5 + 128 * b3 + 256 * b4 - 512 * b12) / 256 % 2 = b4 := by clear hx hf p2 p3; omega
    have p5 : (16 * b6 + 32 * b2 + 64 * b5 + 128 * b3 + 256 * b4 - 512 * b12) / 64 % 2 = b5 := by clear hx hf p2 p3 p4; omega
    have p6 : (16 * b6 + 32 * b2 + 64 * b5 + 128 * b3 + 256 * b4 - 512 * b12) / 16 % 2 = b6 := by clear hx hf p2 p3 p4 p5; omega
    have p12 : (16 * b6 + 32 * b2 + 64 * b5 + 128 * b3 + 256 * b4 - 512 * b12) / 512 % 2 = b12 := by clear hx hf p2 p3 p4 p5 p6; omega
    try rw [p2, p3, p4, p5, p6, p12]
    clear hf
    omega

set_option maxHeartbeats 4000000 in
theorem rc_7 (h : Int) (h0 : 0 ≤ h) (h1 : h < 65536) (hd : dgN h = 7) (hf : fitsI (⟨[99, 46, 97, 100, 100, 105, 49, 54, 115, 112], 19, 2, 7, 0, (-512), 496, 16, 1, [48, 49, 49, 106, 48, 48, 48, 49, 48, 101, 103, 105, 104, 102, 48, 49]⟩ : PR) (expI h) = true) : chk h [48, 49, 49, 106, 48, 48, 48, 49, 48, 101, 103, 105, 104, 102, 48, 49] = true := by
  rw [expI_bits] at hf
  rw [dgN_bits h h0 h1] at hd
  clear h0 h1
  simp [chk, bn_iff]
  have a0 := bt_bd h 0
  have a1 := bt_bd h 1
  have a2 := bt_bd h 2
  have a3 := bt_bd h 3
  have a4 := bt_bd h 4
  have a5 := bt_bd h 5
  have a6 := bt_bd h 6
  have a7 := bt_bd h 7
  have a8 := bt_bd h 8
  have a9 := bt_bd h 9
  have a10 := bt_bd h 10
  have a11 := bt_bd h 11
  have a12 := bt_bd h 12
  have a13 := bt_bd h 13
  have a14 := bt_bd h 14
  have a15 := bt_bd h 15
  generalize bt h 0 = b0 at *
  generalize bt h 1 = b1 at *
  generalize bt h 2 = b2 at *
  generalize bt h 3 = b3 at *
  generalize bt h 4 = b4 at *
  generalize bt h 5 = b5 at *
  generalize bt h 6 = b6 at *
  generalize bt h 7 = b7 at *
  generalize bt h 8 = b8 at *
  generalize bt h 9 = b9 at *
  generalize bt h 10 = b10 at *
  generalize bt h 11 = b11 at *
  generalize bt h 12 = b12 at *
  generalize bt h 13 = b13 at *
  generalize bt h 14 = b14 at *
  generalize bt h 15 = b15 at *
  have key : 8 * b0 + 16 * b1 + b13 + 2 * b14 + 4 * b15 = 11 := dg_key 7 _ _ _ _ _ _ _ _ _ _ _ _ _ _ _ _ a5 a6 a10 a11 (by omega) hd
  have z0 : b0 = 1 := by clear hf hd; omega
  have z1 : b1 = 0 := by clear hf hd; omega
  have z13 : b13 = 1 := by clear hf hd; omega
  have z14 : b14 = 1 := by clear hf hd; omega
  have z15 : b15 = 0 := by clear hf hd; omega
  clear key
  subst z0 z1 z13 z14 z15
  simp only [dgB] at hd
  simp at hd
  simp only [expB] at hf
  simp at hf
  try ((repeat' split at hd) <;> (first | (exfalso; omega) | ((repeat' split at hf) <;> (first | (exact absurd hf (by decide)) | ((try simp [fitsI, fitsB, kindB] at hf); omega)))))

theorem gi_8 (h : Int) : rowI h (⟨[99, 46, 108, 117, 105], 1, 6, 0, 0, (-131072), 126976, 4096, 1, [48, 49, 49, 114, 68, 68, 68, 68, 68, 113, 112, 111, 110, 109, 48, 49]⟩ : PR) = ⟨1, bt h 7 + 2 * bt h 8 + 4 * bt h 9 + 8 * bt h 10 + 16 * bt h 11, 0, 0, 4096 * bt h 2 + 8192 * bt h 3 + 16384 * bt h 4 + 32768 * bt h 5 + 65536 * bt h 6 - 131072 * bt h 12⟩ := by
  have e : getT h [48, 49, 49, 114, 68, 68, 68, 68, 68, 113, 112, 111, 110, 109, 48, 49] GS0 = ⟨((((((0 + bn h 12 * 2 ^ 17) + bn h 6 * 2 ^ 16) + bn h 5 * 2 ^ 15) + bn h 4 * 2 ^ 14) + bn h 3 * 2 ^ 13) + bn h 2 * 2 ^ 12), (max (max (max (max (max (max 0 18) 17) 16) 15) 14) 13), (2 * (2 * (2 * (2 * (2 * 0 + bn h 11) + bn h 10) + bn h 9) + bn h 8) + bn h 7), 0, 0⟩ := rfl
  have h2 := bt_bd h 2
  have h3 := bt_bd h 3
  have h4 := bt_bd h 4
  have h5 := bt_bd h 5
  have h6 := bt_bd h 6
  have h7 := bt_bd h 7
  have h8 := bt_bd h 8
  have h9 := bt_bd h 9
  have h10 := bt_bd h 10
  have h11 := bt_bd h 11
  have h12 := bt_bd h 12
  unfold rowI
  show gsI (⟨[99, 46, 108, 117, 105], 1, 6, 0, 0, (-131072), 126976, 4096, 1, [48, 49, 49, 114, 68, 68, 68, 68, 68, 113, 112, 111, 110, 109, 48, 49]⟩ : PR) (getT h [48, 49, 49, 114, 68, 68, 68, 68, 68, 113, 112, 111, 110, 109, 48, 49] GS0) = _
  rw [e]
  clear e
  unfold gsI fullP
  have es : ∀ v, v = 4096 * bt h 2 + 8192 * bt h 3 + 16384 * bt h 4 + 32768 * bt h 5 + 65536 * bt h 6 + 131072 * bt h 12 → sgn v 18 = 4096 * bt h 2 + 8192 * bt h 3 + 16384 * bt h 4 + 32768 * bt h 5 + 65536 * bt h 6 - 131072 * bt h 12 := fun v hv => by
    rw [sgn_lin v 18 (4096 * bt h 2 + 8192 * bt h 3 + 16384 * bt h 4 + 32768 * bt h 5 + 65536 * bt h 6) 131072 (by omega) (by decide) (bt h 12) (bt01 h 12) (by omega) (by omega)]
  simp [bn_bt]
  try ((repeat' apply And.intro) <;> first | omega | (unfold wrap32; omega) | (exact es _ (by omega)))

set_option maxHeartbeats 4000000 in
theorem rb_8 (h : Int) (h0 : 0 ≤ h) (h1 : h < 65536) (hc : chk h [48, 49, 49, 114, 68, 68, 68, 68, 68, 113, 112, 111, 110, 109, 48, 49] = true) (hf : fitsI (⟨[99, 46, 108, 117, 105], 1, 6, 0, 0, (-131072), 126976, 4096, 1, [48, 49, 49, 114, 68, 68, 68, 68, 68, 113, 112, 111, 110, 109, 48, 49]⟩ : PR) (rowI h (⟨[99, 46, 108, 117, 105], 1, 6, 0, 0, (-131072), 126976, 4096, 1, [48, 49, 49, 114, 68, 68, 68, 68, 68, 113, 112, 111, 110, 109, 48, 49]⟩ : PR)) = true) :
    expI h = rowI h (⟨[99, 46, 108, 117, 105], 1, 6, 0, 0, (-131072), 126976, 4096, 1, [48, 49, 49, 114, 68, 68, 68, 68, 68, 113, 112, 111, 110, 109, 48, 49]⟩ : PR) ∧ dgN h = 8 ∧ putV ((rowI h (⟨[99, 46, 108, 117, 105], 1, 6, 0, 0, (-131072), 126976, 4096, 1, [48, 49, 49, 114, 68, 68, 68, 68, 68, 113, 112, 111, 110, 109, 48, 49]⟩ : PR)).rd % 4294967296) ((rowI h (⟨[99, 46, 108, 117, 105], 1, 6, 0, 0, (-131072), 126976, 4096, 1, [48, 49, 49, 114, 68, 68, 68, 68, 68, 113, 112, 111, 110, 109, 48, 49]⟩ : PR)).rs1 % 4294967296) ((rowI h (⟨[99, 46, 108, 117, 105], 1, 6, 0, 0, (-131072), 126976, 4096, 1, [48, 49, 49, 114, 68, 68, 68, 68, 68, 113, 112, 111, 110, 109, 48, 49]⟩ : PR)).rs2 % 4294967296) ((rowI h (⟨[99, 46, 108, 117, 105], 1, 6, 0, 0, (-131072), 126976, 4096, 1, [48, 49, 49, 114, 68, 68, 68, 68, 68, 113, 112, 111, 110, 109, 48, 49]⟩ : PR)).imm % 4294967296) [48, 49, 49, 114, 68, 68, 68, 68, 68, 113, 112, 111, 110, 109, 48, 49] 0 = h := by
  rw [gi_8] at hf ⊢
  have hx := fld_bits h h0 h1
  rw [expI_bits, dgN_bits h h0 h1]
  clear h0 h1
  dsimp only
  rw [put_8]
  simp [chk, bn_iff] at hc
  have a0 := bt_bd h 0
  have a1 := bt_bd h 1
  have a2 := bt_bd h 2
  have a3 := bt_bd h 3
  have a4 := bt_bd h 4
  have a5 := bt_bd h 5
  have a6 := bt_bd h 6
  have a7 := bt_bd h 7
  have a8 := bt_bd h 8
  have a9 := bt_bd h 9
  have a10 := bt_bd h 10
  have a11 := bt_bd h 11
  have a12 := bt_bd h 12
  have a13 := bt_bd h 13
  have a14 := bt_bd h 14
  have a15 := bt_bd h 15
  generalize bt h 0 = b0 at *
  generalize bt h 1 = b1 at *
  generalize bt h 2 = b2 at *
  generalize bt h 3 = b3 at *
  generalize bt h 4 = b4 at *
  generalize bt h 5 = b5 at *
  generalize bt h 6 = b6 at *
  generalize bt h 7 = b7 at *
  generalize bt h 8 = b8 at *
  generalize bt h 9 = b9 at *
  generalize bt h 10 = b10 at *
  generalize bt h 11 = b11 at *
  generalize bt h 12 = b12 at *
  generalize bt h 13 = b13 at *
  generalize bt h 14 = b14 at *
  generalize bt h 15 = b15 at *
  obtain ⟨z15, z14, z13, z1, z0⟩ := hc
  subst z0 z1 z13 z14 z15
  simp [fitsI, fitsB, kindB] at hf
  refine ⟨?_, ?_, ?_⟩
  · simp only [expB]
    simp
    try (clear hx; first | rfl | ((repeat' split) <;> (first | rfl | (exfalso; omega) | (congr 1 <;> omega))) | (congr 1 <;> omega) | omega)
  · simp only [dgB]
    simp
    try (clear hx; first | rfl | ((repeat' split) <;> (first | rfl | (exfalso; omega) | omega)) | omega)
  · have p2 : (4096 * b2 + 8192 * b3 + 16384 * b4 + 32768 * b5 + 65536 * b6 - 131072 * b12) / 4096 % 2 = b2 := by clear hx hf; omega
    have p3 : (4096 * b2 + 8192 * b3 + 16384 * b4 + 32768 * b5 + 65536 * b6 - 131072 * b12) / 8192 % 2 = b3 := by clear hx hf p2; omega
    have p4 : (4096 * b2 + 8192 * b3 + 16384 * b4 + 32768 * b5 + 65536 * b6 - 131072 * b12) / 16384 % 2 = b4 := by clear hx hf p2 p3; omega
    have p5 : (4096 * b2 + 8192 * b3 + 16384 * b4 + 32768 * b5 + 65536 * b6 - 131072 * b12) / 32768 % 2 = b5 := by clear hx hf p2 p3 p4; omega
    have p6 : (4096 * b2 + 8192 * b3 + 16384 * b4 + 32768 * b5 + 65536 * b6 - 131072 * b12) / 65536 % 2 = b6 := by clear hx hf p2 p3 p4 p5; omega
    have p7 : (b7 + 2 * b8 + 4 * b9 + 8 * b10 + 16 * b11) / 1 % 2 = b7 := by clear hx hf p2 p3 p4 p5 p6; omega
    have p8 : (b7 + 2 * b8 + 4 * b9 + 8 * b10 + 16 * b11) / 2 % 2 = b8 := by clear hx hf p2 p3 p4 p5 p6 p7; omega
    have p9 : (b7 + 2 * b8 + 4 * b9 + 8 * b10 + 16 * b11) / 4 % 2 = b9 := by clear hx hf p2 p3 p4 p5 p6 p7 p8; omega
    have p10 : (b7 + 2 * b8 + 4 * b9 + 8 * b10 + 16 * b11) / 8 % 2 = b10 := by clear hx hf p2 p3 p4 p5 p6 p7 p8 p9; omega
    have p11 : (b7 + 2 * b8 + 4 * b9 + 8 * b10 + 16 * b11) / 16 % 2 = b11 := by clear hx hf p2 p3 p4 p5 p6 p7 p8 p9 p10; omega
    have p12 : (4096 * b2 + 8192 * b3 + 16384 * b4 + 32768 * b5 + 65536 * b6 - 131072 * b12) / 131072 % 2 = b12 := by clear hx hf p2 p3 p4 p5 p6 p7 p8 p9 p10 p11; omega
    try rw [p2, p3, p4, p5, p6, p7, p8, p9, p10, p11, p12]
    clear hf
    omega

set_option maxHeartbeats 4000000 in
theorem rc_8 (h : Int) (h0 : 0 ≤ h) (h1 : h < 65536) (hd : dgN h = 8) (hf : fitsI (⟨[99, 46, 108, 117, 105], 1, 6, 0, 0, (-131072), 126976, 4096, 1, [48, 49, 49, 114, 68, 68, 68, 68, 68, 113, 112, 111, 110, 109, 48, 49]⟩ : PR) (expI h) = true) : chk h [48, 49, 49, 114, 68, 68, 68, 68, 68, 113, 112, 111, 110, 109, 48, 49] = true := by
  rw [expI_bits] at hf
  rw [dgN_bits h h0 h1] at hd
  clear h0 h1
  simp [chk, bn_iff]
  have a0 := bt_bd h 0
  have a1 := bt_bd h 1
  have a2 := bt_bd h 2
  have a3 := bt_bd h 3
  have a4 := bt_bd h 4
  have a5 := bt_bd h 5
  have a6 := bt_bd h 6
  have a7 := bt_bd h 7
  have a8 := bt_bd h 8
  have a9 := bt_bd h 9
  have a10 := bt_bd h 10
  have a11 := bt_bd h 11
  have a12 := bt_bd h 12
  have a13 := bt_bd h 13
  have a14 := bt_bd h 14
  have a15 := bt_bd h 15
  generalize bt h 0 = b0 at *
  generalize bt h 1 = b1 at *
  generalize bt h 2 = b2 at *
  generalize bt h 3 = b3 at *
  generalize bt h 4 = b4 at *
  generalize bt h 5 = b5 at *
  generalize bt h 6 = b6 at *
  generalize bt h 7 = b7 at *
  generalize bt h 8 = b8 at *
  generalize bt h 9 = b9 at *
  generalize bt h 10 = b10 at *
  generalize bt h 11 = b11 at *
  generalize bt h 12 = b12 at *
  generalize bt h 13 = b13 at *
  generalize bt h 14 = b14 at *
  generalize bt h 15 = b15 at *
  have key : 8 * b0 + 16 * b1 + b13 + 2 * b14 + 4 * b15 = 11 := dg_key 8 _ _ _ _ _ _ _ _ _ _ _ _ _ _ _ _ a5 a6 a10 a11 (by omega) hd
  have z0 : b0 = 1 := by clear hf hd; omega
  have z1 : b1 = 0 := by clear hf hd; omega
  have z13 : b13 = 1 := by clear hf hd; omega
  have z14 : b14 = 1 := by clear hf hd; omega
  have z15 : b15 = 0 := by clear hf hd; omega
  clear key
  subst z0 z1 z13 z14 z15
  simp only [dgB] at hd
  simp at hd
  simp only [expB] at hf
  simp at hf
  try ((repeat' split at hd) <;> (first | (exfalso; omega) | ((repeat' split at hf) <;> (first | (exact absurd hf (by decide)) | ((try simp [fitsI, fitsB, kindB] at hf); omega)))))

end Go.Proofs.Ytppnmaklggkogaa

/- Plain: row by row, what a row reads is what the machine expands, and is put as it was. -/
namespace Go.Proofs.Ytppnmaklggkogaa
open Go.RowKit
set_option linter.unusedVariables false
set_option linter.unusedSimpArgs false

theorem gi_9 (h : Int) : rowI h (⟨[99, 46, 115, 114, 108, 105], 26, 4, 7, 0, 1, 31, 1, 0, [49, 48, 48, 48, 48, 48, 68, 68, 68, 101, 100, 99, 98, 97, 48, 49]⟩ : PR) = ⟨26, 8 + bt h 7 + 2 * bt h 8 + 4 * bt h 9, 8 + bt h 7 + 2 * bt h 8 + 4 * bt h 9, 0, bt h 2 + 2 * bt h 3 + 4 * bt h 4 + 8 * bt h 5 + 16 * bt h 6⟩ := by
  have e : getT h [49, 48, 48, 48, 48, 48, 68, 68, 68, 101, 100, 99, 98, 97, 48, 49] GS0 = ⟨(((((0 + bn h 6 * 2 ^ 4) + bn h 5 * 2 ^ 3) + bn h 4 * 2 ^ 2) + bn h 3 * 2 ^ 1) + bn h 2 * 2 ^ 0), (max (max (max (max (max 0 5) 4) 3) 2) 1), (2 * (2 * (2 * 0 + bn h 9) + bn h 8) + bn h 7), 0, 0⟩ := rfl
  have h2 := bt_bd h 2
  have h3 := bt_bd h 3
  have h4 := bt_bd h 4
  have h5 := bt_bd h 5
  have h6 := bt_bd h 6
  have h7 := bt_bd h 7
  have h8 := bt_bd h 8
  have h9 := bt_bd h 9
  unfold rowI
  show gsI (⟨[99, 46, 115, 114, 108, 105], 26, 4, 7, 0, 1, 31, 1, 0, [49, 48, 48, 48, 48, 48, 68, 68, 68, 101, 100, 99, 98, 97, 48, 49]⟩ : PR) (getT h [49, 48, 48, 48, 48, 48, 68, 68, 68, 101, 100, 99, 98, 97, 48, 49] GS0) = _
  rw [e]
  clear e
  unfold gsI fullP
  simp [bn_bt]
  try ((repeat' apply And.intro) <;> first | omega | (unfold wrap32; omega))

set_option maxHeartbeats 4000000 in
theorem rb_9 (h : Int) (h0 : 0 ≤ h) (h1 : h < 65536) (hc : chk h [49, 48, 48, 48, 48, 48, 68, 68, 68, 101, 100, 99, 98, 97, 48, 49] = true) (hf : fitsI (⟨[99, 46, 115, 114, 108, 105], 26, 4, 7, 0, 1, 31, 1, 0, [49, 48, 48, 48, 48, 48, 68, 68, 68, 101, 100, 99, 98, 97, 48, 49]⟩ : PR) (rowI h (⟨[99, 46, 115, 114, 108, 105], 26, 4, 7, 0, 1, 31, 1, 0, [49, 48, 48, 48, 48, 48, 68, 68, 68, 101, 100, 99, 98, 97, 48, 49]⟩ : PR)) = true) :
    expI h = rowI h (⟨[99, 46, 115, 114, 108, 105], 26, 4, 7, 0, 1, 31, 1, 0, [49, 48, 48, 48, 48, 48, 68, 68, 68, 101, 100, 99, 98, 97, 48, 49]⟩ : PR) ∧ dgN h = 9 ∧ putV ((rowI h (⟨[99, 46, 115, 114, 108, 105], 26, 4, 7, 0, 1, 31, 1, 0, [49, 48, 48, 48, 48, 48, 68, 68, 68, 101, 100, 99, 98, 97, 48, 49]⟩ : PR)).rd % 4294967296) ((rowI h (⟨[99, 46, 115, 114, 108, 105], 26, 4, 7, 0, 1, 31, 1, 0, [49, 48, 48, 48, 48, 48, 68, 68, 68, 101, 100, 99, 98, 97, 48, 49]⟩ : PR)).rs1 % 4294967296) ((rowI h (⟨[99, 46, 115, 114, 108, 105], 26, 4, 7, 0, 1, 31, 1, 0, [49, 48, 48, 48, 48, 48, 68, 68, 68, 101, 100, 99, 98, 97, 48, 49]⟩ : PR)).rs2 % 4294967296) ((rowI h (⟨[99, 46, 115, 114, 108, 105], 26, 4, 7, 0, 1, 31, 1, 0, [49, 48, 48, 48, 48, 48, 68, 68, 68, 101, 100, 99, 98, 97, 48, 49]⟩ : PR)).imm % 4294967296) [49, 48, 48, 48, 48, 48, 68, 68, 68, 101, 100, 99, 98, 97, 48, 49] 0 = h := by
  rw [gi_9] at hf ⊢
  have hx := fld_bits h h0 h1
  rw [expI_bits, dgN_bits h h0 h1]
  clear h0 h1
  dsimp only
  rw [put_9]
  simp [chk, bn_iff] at hc
  have a0 := bt_bd h 0
  have a1 := bt_bd h 1
  have a2 := bt_bd h 2
  have a3 := bt_bd h 3
  have a4 := bt_bd h 4
  have a5 := bt_bd h 5
  have a6 := bt_bd h 6
  have a7 := bt_bd h 7
  have a8 := bt_bd h 8
  have a9 := bt_bd h 9
  have a10 := bt_bd h 10
  have a11 := bt_bd h 11
  have a12 := bt_bd h 12
  have a13 := bt_bd h 13
  have a14 := bt_bd h 14
  have a15 := bt_bd h 15
  generalize bt h 0 = b0 at *
  generalize bt h 1 = b1 at *
  generalize bt h 2 = b2 at *
  generalize bt h 3 = b3 at *
  generalize bt h 4 = b4 at *
  generalize bt h 5 = b5 at *
  generalize bt h 6 = b6 at *
  generalize bt h 7 = b7 at *
  generalize bt h 8 = b8 at *
  generalize bt h 9 = b9 at *
  generalize bt h 10 = b10 at *
  generalize bt h 11 = b11 at *
  generalize bt h 12 = b12 at *
  generalize bt h 13 = b13 at *
  generalize bt h 14 = b14 at *
  generalize bt h 15 = b15 at *
  obtain ⟨z15, z14, z13, z12, z11, z10, z1, z0⟩ := hc
  subst z0 z1 z10 z11 z12 z13 z14 z15
  simp [fitsI, fitsB, kindB] at hf
  refine ⟨?_, ?_, ?_⟩
  · simp only [expB]
    simp
    try (clear hx; first | rfl | ((repeat' split) <;> (first | rfl | (exfalso; omega) | (congr 1 <;> omega))) | (congr 1 <;> omega) | omega)
  · simp only [dgB]
    simp
    try (clear hx; first | rfl | ((repeat' split) <;> (first | rfl | (exfalso; omega) | omega)) | omega)
  · have p2 : (b2 + 2 * b3 + 4 * b4 + 8 * b5 + 16 * b6) / 1 % 2 = b2 := by clear hx hf; omega
    have p3 : (b2 + 2 * b3 + 4 * b4 + 8 * b5 + 16 * b6) / 2 % 2 = b3 := by clear hx hf p2; omega
    have p4 : (b2 + 2 * b3 + 4 * b4 + 8 * b5 + 16 * b6) / 4 % 2 = b4 := by clear hx hf p2 p3; omega
    have p5 : (b2 + 2 * b3 + 4 * b4 + 8 * b5 + 16 * b6) / 8 % 2 = b5 := by clear hx hf p2 p3 p4; omega
    have p6 : (b2 + 2 * b3 + 4 * b4 + 8 * b5 + 16 * b6) / 16 % 2 = b6 := by clear hx hf p2 p3 p4 p5; omega
    have p7 : (8 + b7 + 2 * b8 + 4 * b9) / 1 % 2 = b7 := by clear hx hf p2 p3 p4 p5 p6; omega
    have p8 : (8 + b7 + 2 * b8 + 4 * b9) / 2 % 2 = b8 := by clear hx hf p2 p3 p4 p5 p6 p7; omega
    have p9 : (8 + b7 + 2 * b8 + 4 * b9) / 4 % 2 = b9 := by clear hx hf p2 p3 p4 p5 p6 p7 p8; omega
    try rw [p2, p3, p4, p5, p6, p7, p8, p9]
    clear hf
    omega

set_option maxHeartbeats 4000000 in
theorem rc_9 (h : Int) (h0 : 0 ≤ h) (h1 : h < 65536) (hd : dgN h = 9) (hf : fitsI (⟨[99, 46, 115, 114, 108, 105], 26, 4, 7, 0, 1, 31, 1, 0, [49, 48, 48, 48, 48, 48, 68, 68, 68, 101, 100, 99, 98, 97, 48, 49]⟩ : PR) (expI h) = true) : chk h [49, 48, 48, 48, 48, 48, 68, 68, 68, 101, 100, 99, 98, 97, 48, 49] = true := by
  rw [expI_bits] at hf
  rw [dgN_bits h h0 h1] at hd
  clear h0 h1
  simp [chk, bn_iff]
  have a0 := bt_bd h 0
  have a1 := bt_bd h 1
  have a2 := bt_bd h 2
  have a3 := bt_bd h 3
  have a4 := bt_bd h 4
  have a5 := bt_bd h 5
  have a6 := bt_bd h 6
  have a7 := bt_bd h 7
  have a8 := bt_bd h 8
  have a9 := bt_bd h 9
  have a10 := bt_bd h 10
  have a11 := bt_bd h 11
  have a12 := bt_bd h 12
  have a13 := bt_bd h 13
  have a14 := bt_bd h 14
  have a15 := bt_bd h 15
  generalize bt h 0 = b0 at *
  generalize bt h 1 = b1 at *
  generalize bt h 2 = b2 at *
  generalize bt h 3 = b3 at *
  generalize bt h 4 = b4 at *
  generalize bt h 5 = b5 at *
  generalize bt h 6 = b6 at *
  generalize bt h 7 = b7 at *
  generalize bt h 8 = b8 at *
  generalize bt h 9 = b9 at *
  generalize bt h 10 = b10 at *
  generalize bt h 11 = b11 at *
  generalize bt h 12 = b12 at *
  generalize bt h 13 = b13 at *
  generalize bt h 14 = b14 at *
  generalize bt h 15 = b15 at *
  have key : 8 * b0 + 16 * b1 + b13 + 2 * b14 + 4 * b15 = 12 := dg_key 9 _ _ _ _ _ _ _ _ _ _ _ _ _ _ _ _ a5 a6 a10 a11 (by omega) hd
  have z0 : b0 = 1 := by clear hf hd; omega
  have z1 : b1 = 0 := by clear hf hd; omega
  have z13 : b13 = 0 := by clear hf hd; omega
  have z14 : b14 = 0 := by clear hf hd; omega
  have z15 : b15 = 1 := by clear hf hd; omega
  clear key
  subst z0 z1 z13 z14 z15
  simp only [dgB] at hd
  simp at hd
  simp only [expB] at hf
  rcases (by omega : b10 = 0 ∨ b10 = 1) with rfl | rfl <;> rcases (by omega : b11 = 0 ∨ b11 = 1) with rfl | rfl <;> rcases (by omega : b12 = 0 ∨ b12 = 1) with rfl | rfl <;> rcases (by omega : b5 = 0 ∨ b5 = 1) with rfl | rfl <;> rcases (by omega : b6 = 0 ∨ b6 = 1) with rfl | rfl
  all_goals first | (exfalso; revert hd; clear hf; decide) | (simp at hf; first | (exact absurd hf (by decide)) | ((try simp [fitsI, fitsB, kindB] at hf); omega)) | (simp; done)

theorem gi_10 (h : Int) : rowI h (⟨[99, 46, 115, 114, 97, 105], 27, 4, 7, 0, 1, 31, 1, 0, [49, 48, 48, 48, 48, 49, 68, 68, 68, 101, 100, 99, 98, 97, 48, 49]⟩ : PR) = ⟨27, 8 + bt h 7 + 2 * bt h 8 + 4 * bt h 9, 8 + bt h 7 + 2 * bt h 8 + 4 * bt h 9, 0, bt h 2 + 2 * bt h 3 + 4 * bt h 4 + 8 * bt h 5 + 16 * bt h 6⟩ := by
  have e : getT h [49, 48, 48, 48, 48, 49, 68, 68, 68, 101, 100, 99, 98, 97, 48, 49] GS0 = ⟨(((((0 + bn h 6 * 2 ^ 4) + bn h 5 * 2 ^ 3) + bn h 4 * 2 ^ 2) + bn h 3 * 2 ^ 1) + bn h 2 * 2 ^ 0), (max (max (max (max (max 0 5) 4) 3) 2) 1), (2 * (2 * (2 * 0 + bn h 9) + bn h 8) + bn h 7), 0, 0⟩ := rfl
  have h2 := bt_bd h 2
  have h3 := bt_bd h 3
  have h4 := bt_bd h 4
  have h5 := bt_bd h 5
  have h6 := bt_bd h 6
  have h7 := bt_bd h 7
  have h8 := bt_bd h 8
  have h9 := bt_bd h 9
  unfold rowI
  show gsI (⟨[99, 46, 115, 114, 97, 105], 27, 4, 7, 0, 1, 31, 1, 0, [49, 48, 48, 48, 48, 49, 68, 68, 68, 101, 100, 99, 98, 97, 48, 49]⟩ : PR) (getT h [49, 48, 48, 48, 48, 49, 68, 68, 68, 101, 100, 99, 98, 97, 48, 49] GS0) = _
  rw [e]
  clear e
  unfold gsI fullP
  simp [bn_bt]
  try ((repeat' apply And.intro) <;> first | omega | (unfold wrap32; omega))

set_option maxHeartbeats 4000000 in
theorem rb_10 (h : Int) (h0 : 0 ≤ h) (h1 : h < 65536) (hc : chk h [49, 48, 48, 48, 48, 49, 68, 68, 68, 101, 100, 99, 98, 97, 48, 49] = true) (hf : fitsI (⟨[99, 46, 115, 114, 97, 105], 27, 4, 7, 0, 1, 31, 1, 0, [49, 48, 48, 48, 48, 49, 68, 68, 68, 101, 100, 99, 98, 97, 48, 49]⟩ : PR) (rowI h (⟨[99, 46, 115, 114, 97, 105], 27, 4, 7, 0, 1, 31, 1, 0, [49, 48, 48, 48, 48, 49, 68, 68, 68, 101, 100, 99, 98, 97, 48, 49]⟩ : PR)) = true) :
    expI h = rowI h (⟨[99, 46, 115, 114, 97, 105], 27, 4, 7, 0, 1, 31, 1, 0, [49, 48, 48, 48, 48, 49, 68, 68, 68, 101, 100, 99, 98, 97, 48, 49]⟩ : PR) ∧ dgN h = 10 ∧ putV ((rowI h (⟨[99, 46, 115, 114, 97, 105], 27, 4, 7, 0, 1, 31, 1, 0, [49, 48, 48, 48, 48, 49, 68, 68, 68, 101, 100, 99, 98, 97, 48, 49]⟩ : PR)).rd % 4294967296) ((rowI h (⟨[99, 46, 115, 114, 97, 105], 27, 4, 7, 0, 1, 31, 1, 0, [49, 48, 48, 48, 48, 49, 68, 68, 68, 101, 100, 99, 98, 97, 48, 49]⟩ : PR)).rs1 % 4294967296) ((rowI h (⟨[99, 46, 115, 114, 97, 105], 27, 4, 7, 0, 1, 31, 1, 0, [49, 48, 48, 48, 48, 49, 68, 68, 68, 101, 100, 99, 98, 97, 48, 49]⟩ : PR)).rs2 % 4294967296) ((rowI h (⟨[99, 46, 115, 114, 97, 105], 27, 4, 7, 0, 1, 31, 1, 0, [49, 48, 48, 48, 48, 49, 68, 68, 68, 101, 100, 99, 98, 97, 48, 49]⟩ : PR)).imm % 4294967296) [49, 48, 48, 48, 48, 49, 68, 68, 68, 101, 100, 99, 98, 97, 48, 49] 0 = h := by
  rw [gi_10] at hf ⊢
  have hx := fld_bits h h0 h1
  rw [expI_bits, dgN_bits h h0 h1]
  clear h0 h1
  dsimp only
  rw [put_10]
  simp [chk, bn_iff] at hc
  have a0 := bt_bd h 0
  have a1 := bt_bd h 1
  have a2 := bt_bd h 2
  have a3 := bt_bd h 3
  have a4 := bt_bd h 4
  have a5 := bt_bd h 5
  have a6 := bt_bd h 6
  have a7 := bt_bd h 7
  have a8 := bt_bd h 8
  have a9 := bt_bd h 9
  have a10 := bt_bd h 10
  have a11 := bt_bd h 11
  have a12 := bt_bd h 12
  have a13 := bt_bd h 13
  have a14 := bt_bd h 14
  have a15 := bt_bd h 15
  generalize bt h 0 = b0 at *
  generalize bt h 1 = b1 at *
  generalize bt h 2 = b2 at *
  generalize bt h 3 = b3 at *
  generalize bt h 4 = b4 at *
  generalize bt h 5 = b5 at *
  generalize bt h 6 = b6 at *
  generalize bt h 7 = b7 at *
  generalize bt h 8 = b8 at *
  generalize bt h 9 = b9 at *
  generalize bt h 10 = b10 at *
  generalize bt h 11 = b11 at *
  generalize bt h 12 = b12 at *
  generalize bt h 13 = b13 at *
  generalize bt h 14 = b14 at *
  generalize bt h 15 = b15 at *
  obtain ⟨z15, z14, z13, z12, z11, z10, z1, z0⟩ := hc
  subst z0 z1 z10 z11 z12 z13 z14 z15
  simp [fitsI, fitsB, kindB] at hf
  refine ⟨?_, ?_, ?_⟩
  · simp only [expB]
    simp
    try (clear hx; first | rfl | ((repeat' split) <;> (first | rfl | (exfalso; omega) | (congr 1 <;> omega))) | (congr 1 <;> omega) | omega)
  · simp only [dgB]
    simp
    try (clear hx; first | rfl | ((repeat' split) <;> (first | rfl | (exfalso; omega) | omega)) | omega)
  · have p2 : (b2 + 2 * b3 + 4 * b4 + 8 * b5 + 16 * b6) / 1 % 2 = b2 := by clear hx hf; omega
    have p3 : (b2 + 2 * b3 + 4 * b4 + 8 * b5 + 16 * b6) / 2 % 2 = b3 := by clear hx hf p2; omega
    have p4 : (b2 + 2 * b3 + 4 * b4 + 8 * b5 + 16 * b6) / 4 % 2 = b4 := by clear hx hf p2 p3; omega
    have p5 : (b2 + 2 * b3 + 4 * b4 + 8 * b5 + 16 * b6) / 8 % 2 = b5 := by clear hx hf p2 p3 p4; omega
    have p6 : (b2 + 2 * b3 + 4 * b4 + 8 * b5 + 16 * b6) / 16 % 2 = b6 := by clear hx hf p2 p3 p4 p5; omega
    have p7 : (8 + b7 + 2 * b8 + 4 * b9) / 1 % 2 = b7 := by clear hx hf p2 p3 p4 p5 p6; omega
    have p8 : (8 + b7 + 2 * b8 + 4 * b9) / 2 % 2 = b8 := by clear hx hf p2 p3 p4 p5 p6 p7; omega
    have p9 : (8 + b7 + 2 * b8 + 4 * b9) / 4 % 2 = b9 := by clear hx hf p2 p3 p4 p5 p6 p7 p8; omega
    try rw [p2, p3, p4, p5, p6, p7, p8, p9]
    clear hf
    omega

set_option maxHeartbeats 4000000 in
theorem rc_10 (h : Int) (h0 : 0 ≤ h) (h1 : h < 65536) (hd : dgN h = 10) (hf : fitsI (⟨[99, 46, 115, 114, 97, 105], 27, 4, 7, 0, 1, 31, 1, 0, [49, 48, 48, 48, 48, 49, 68, 68, 68, 101, 100, 99, 98, 97, 48, 49]⟩ : PR) (expI h) = true) : chk h [49, 48, 48, 48, 48, 49, 68, 68, 68, 101, 100, 99, 98, 97, 48, 49] = true := by
  rw [expI_bits] at hf
  rw [dgN_bits h h0 h1] at hd
  clear h0 h1
  simp [chk, bn_iff]
  have a0 := bt_bd h 0
  have a1 := bt_bd h 1
  have a2 := bt_bd h 2
  have a3 := bt_bd h 3
  have a4 := bt_bd h 4
  have a5 := bt_bd h 5
  have a6 := bt_bd h 6
  have a7 := bt_bd h 7
  have a8 := bt_bd h 8
  have a9 := bt_bd h 9
  have a10 := bt_bd h 10
  have a11 := bt_bd h 11
  have a12 := bt_bd h 12
  have a13 := bt_bd h 13
  have a14 := bt_bd h 14
  have a15 := bt_bd h 15
  generalize bt h 0 = b0 at *
  generalize bt h 1 = b1 at *
  generalize bt h 2 = b2 at *
  generalize bt h 3 = b3 at *
  generalize bt h 4 = b4 at *
  generalize bt h 5 = b5 at *
  generalize bt h 6 = b6 at *
  generalize bt h 7 = b7 at *
  generalize bt h 8 = b8 at *
  generalize bt h 9 = b9 at *
  generalize bt h 10 = b10 at *
  generalize bt h 11 = b11 at *
  generalize bt h 12 = b12 at *
  generalize bt h 13 = b13 at *
  generalize bt h 14 = b14 at *
  generalize bt h 15 = b15 at *
  have key : 8 * b0 + 16 * b1 + b13 + 2 * b14 + 4 * b15 = 12 := dg_key 10 _ _ _ _ _ _ _ _ _ _ _ _ _ _ _ _ a5 a6 a10 a11 (by omega) hd
  have z0 : b0 = 1 := by clear hf hd; omega
  have z1 : b1 = 0 := by clear hf hd; omega
  have z13 : b13 = 0 := by clear hf hd; omega
  have z14 : b14 = 0 := by clear hf hd; omega
  have z15 : b15 = 1 := by clear hf hd; omega
  clear key
  subst z0 z1 z13 z14 z15
  simp only [dgB] at hd
  simp at hd
  simp only [expB] at hf
  rcases (by omega : b10 = 0 ∨ b10 = 1) with rfl | rfl <;> rcases (by omega : b11 = 0 ∨ b11 = 1) with rfl | rfl <;> rcases (by omega : b12 = 0 ∨ b12 = 1) with rfl | rfl <;> rcases (by omega : b5 = 0 ∨ b5 = 1) with rfl | rfl <;> rcases (by omega : b6 = 0 ∨ b6 = 1) with rfl | rfl
  all_goals first | (exfalso; revert hd; clear hf; decide) | (simp at hf; first | (exact absurd hf (by decide)) | ((try simp [fitsI, fitsB, kindB] at hf); omega)) | (simp; done)

theorem gi_11 (h : Int) : rowI h (⟨[99, 46, 97, 110, 100, 105], 24, 4, 7, 0, (-32), 31, 1, 0, [49, 48, 48, 102, 49, 48, 68, 68, 68, 101, 100, 99, 98, 97, 48, 49]⟩ : PR) = ⟨24, 8 + bt h 7 + 2 * bt h 8 + 4 * bt h 9, 8 + bt h 7 + 2 * bt h 8 + 4 * bt h 9, 0, bt h 2 + 2 * bt h 3 + 4 * bt h 4 + 8 * bt h 5 + 16 * bt h 6 - 32 * bt h 12⟩ := by
  have e : getT h [49, 48, 48, 102, 49, 48, 68, 68, 68, 101, 100, 99, 98, 97, 48, 49] GS0 = ⟨((((((0 + bn h 12 * 2 ^ 5) + bn h 6 * 2 ^ 4) + bn h 5 * 2 ^ 3) + bn h 4 * 2 ^ 2) + bn h 3 * 2 ^ 1) + bn h 2 * 2 ^ 0), (max (max (max (max (max (max 0 6) 5) 4) 3) 2) 1), (2 * (2 * (2 * 0 + bn h 9) + bn h 8) + bn h 7), 0, 0⟩ := rfl
  have h2 := bt_bd h 2
  have h3 := bt_bd h 3
  have h4 := bt_bd h 4
  have h5 := bt_bd h 5
  have h6 := bt_bd h 6
  have h7 := bt_bd h 7
  have h8 := bt_bd h 8
  have h9 := bt_bd h 9
  have h12 := bt_bd h 12
  unfold rowI
  show gsI (⟨[99, 46, 97, 110, 100, 105], 24, 4, 7, 0, (-32), 31, 1, 0, [49, 48, 48, 102, 49, 48, 68, 68, 68, 101, 100, 99, 98, 97, 48, 49]⟩ : PR) (getT h [49, 48, 48, 102, 49, 48, 68, 68, 68, 101, 100, 99, 98, 97, 48, 49] GS0) = _
  rw [e]
  clear e
  unfold gsI fullP
  have es : ∀ v, v = bt h 2 + 2 * bt h 3 + 4 * bt h 4 + 8 * bt h 5 + 16 * bt h 6 + 32 * bt h 12 → sgn v 6 = bt h 2 + 2 * bt h 3 + 4 * bt h 4 + 8 * bt h 5 + 16 * bt h 6 - 32 * bt h 12 := fun v hv => by
    rw [sgn_lin v 6 (bt h 2 + 2 * bt h 3 + 4 * bt h 4 + 8 * bt h 5 + 16 * bt h 6) 32 (by omega) (by decide) (bt h 12) (bt01 h 12) (by omega) (by omega)]
  simp [bn_bt]
  try ((repeat' apply And.intro) <;> first | omega | (unfold wrap32; omega) | (exact es _ (by omega)))

set_option maxHeartbeats 4000000 in
theorem rb_11 (h : Int) (h0 : 0 ≤ h) (h1 : h < 65536) (hc : chk h [49, 48, 48, 102, 49, 48, 68, 68, 68, 101, 100, 99, 98, 97, 48, 49] = true) (hf : fitsI (⟨[99, 46, 97, 110, 100, 105], 24, 4, 7, 0, (-32), 31, 1, 0, [49, 48, 48, 102, 49, 48, 68, 68, 68, 101, 100, 99, 98, 97, 48, 49]⟩ : PR) (rowI h (⟨[99, 46, 97, 110, 100, 105], 24, 4, 7, 0, (-32), 31, 1, 0, [49, 48, 48, 102, 49, 48, 68, 68, 68, 101, 100, 99, 98, 97, 48, 49]⟩ : PR)) = true) :
    expI h = rowI h (⟨[99, 46, 97, 110, 100, 105], 24, 4, 7, 0, (-32), 31, 1, 0, [49, 48, 48, 102, 49, 48, 68, 68, 68, 101, 100, 99, 98, 97, 48, 49]⟩ : PR) ∧ dgN h = 11 ∧ putV ((rowI h (⟨[99, 46, 97, 110, 100, 105], 24, 4, 7, 0, (-32), 31, 1, 0, [49, 48, 48, 102, 49, 48, 68, 68, 68, 101, 100, 99, 98, 97, 48, 49]⟩ : PR)).rd % 4294967296) ((rowI h (⟨[99, 46, 97, 110, 100, 105], 24, 4, 7, 0, (-32), 31, 1, 0, [49, 48, 48, 102, 49, 48, 68, 68, 68, 101, 100, 99, 98, 97, 48, 49]⟩ : PR)).rs1 % 4294967296) ((rowI h (⟨[99, 46, 97, 110, 100, 105], 24, 4, 7, 0, (-32), 31, 1, 0, [49, 48, 48, 102, 49, 48, 68, 68, 68, 101, 100, 99, 98, 97, 48, 49]⟩ : PR)).rs2 % 4294967296) ((rowI h (⟨[99, 46, 97, 110, 100, 105], 24, 4, 7, 0, (-32), 31, 1, 0, [49, 48, 48, 102, 49, 48, 68, 68, 68, 101, 100, 99, 98, 97, 48, 49]⟩ : PR)).imm % 4294967296) [49, 48, 48, 102, 49, 48, 68, 68, 68, 101, 100, 99, 98, 97, 48, 49] 0 = h := by
  rw [gi_11] at hf ⊢
  have hx := fld_bits h h0 h1
  rw [expI_bits, dgN_bits h h0 h1]
  clear h0 h1
  dsimp only
  rw [put_11]
  simp [chk, bn_iff] at hc
  have a0 := bt_bd h 0
  have a1 := bt_bd h 1
  have a2 := bt_bd h 2
  have a3 := bt_bd h 3
  have a4 := bt_bd h 4
  have a5 := bt_bd h 5
  have a6 := bt_bd h 6
  have a7 := bt_bd h 7
  have a8 := bt_bd h 8
  have a9 := bt_bd h 9
  have a10 := bt_bd h 10
  have a11 := bt_bd h 11
  have a12 := bt_bd h 12
  have a13 := bt_bd h 13
  have a14 := bt_bd h 14
  have a15 := bt_bd h 15
  generalize bt h 0 = b0 at *
  generalize bt h 1 = b1 at *
  generalize bt h 2 = b2 at *
  generalize bt h 3 = b3 at *
  generalize bt h 4 = b4 at *
  generalize bt h 5 = b5 at *
  generalize bt h 6 = b6 at *
  generalize bt h 7 = b7 at *
  generalize bt h 8 = b8 at *
  generalize bt h 9 = b9 at *
  generalize bt h 10 = b10 at *
  generalize bt h 11 = b11 at *
  generalize bt h 12 = b12 at *
  generalize bt h 13 = b13 at *
  generalize bt h 14 = b14 at *
  generalize bt h 15 = b15 at *
  obtain ⟨z15, z14, z13, z11, z10, z1, z0⟩ := hc
  subst z0 z1 z10 z11 z13 z14 z15
  simp [fitsI, fitsB, kindB] at hf
  refine ⟨?_, ?_, ?_⟩
  · simp only [expB]
    simp
    try (clear hx; first | rfl | ((repeat' split) <;> (first | rfl | (exfalso; omega) | (congr 1 <;> omega))) | (congr 1 <;> omega) | omega)
  · simp only [dgB]
    simp
    try (clear hx; first | rfl | ((repeat' split) <;> (first | rfl | (exfalso; omega) | omega)) | omega)
  · have p2 : (b2 + 2 * b3 + 4 * b4 + 8 * b5 + 16 * b6 - 32 * b12) / 1 % 2 = b2 := by clear hx hf; omega
    have p3 : (b2 + 2 * b3 + 4 * b4 + 8 * b5 + 16 * b6 - 32 * b12) / 2 % 2 = b3 := by clear hx hf p2; omega
    have p4 : (b2 + 2 * b3 + 4 * b4 + 8 * b5 + 16 * b6 - 32 * b12) / 4 % 2 = b4 := by clear hx hf p2 p3; omega
    have p5 : (b2 + 2 * b3 + 4 * b4 + 8 * b5 + 16 * b6 - 32 * b12) / 8 % 2 = b5 := by clear hx hf p2 p3 p4; omega
    have p6 : (b2 + 2 * b3 + 4 * b4 + 8 * b5 + 16 * b6 - 32 * b12) / 16 % 2 = b6 := by clear hx hf p2 p3 p4 p5; omega
    have p7 : (8 + b7 + 2 * b8 + 4 * b9) / 1 % 2 = b7 := by clear hx hf p2 p3 p4 p5 p6; omega
    have p8 : (8 + b7 + 2 * b8 + 4 * b9) / 2 % 2 = b8 := by clear hx hf p2 p3 p4 p5 p6 p7; omega
    have p9 : (8 + b7 + 2 * b8 + 4 * b9) / 4 % 2 = b9 := by clear hx hf p2 p3 p4 p5 p6 p7 p8; omega
    have p12 : (b2 + 2 * b3 + 4 * b4 + 8 * b5 + 16 * b6 - 32 * b12) / 32 % 2 = b12 := by clear hx hf p2 p3 p4 p5 p6 p7 p8 p9; omega
    try rw [p2, p3, p4, p5, p6, p7, p8, p9, p12]
    clear hf
    omega

set_option maxHeartbeats 4000000 in
theorem rc_11 (h : Int) (h0 : 0 ≤ h) (h1 : h < 65536) (hd : dgN h = 11) (hf : fitsI (⟨[99, 46, 97, 110, 100, 105], 24, 4, 7, 0, (-32), 31, 1, 0, [49, 48, 48, 102, 49, 48, 68, 68, 68, 101, 100, 99, 98, 97, 48, 49]⟩ : PR) (expI h) = true) : chk h [49, 48, 48, 102, 49, 48, 68, 68, 68, 101, 100, 99, 98, 97, 48, 49] = true := by
  rw [expI_bits] at hf
  rw [dgN_bits h h0 h1] at hd
  clear h0 h1
  simp [chk, bn_iff]
  have a0 := bt_bd h 0
  have a1 := bt_bd h 1
  have a2 := bt_bd h 2
  have a3 := bt_bd h 3
  have a4 := bt_bd h 4
  have a5 := bt_bd h 5
  have a6 := bt_bd h 6
  have a7 := bt_bd h 7
  have a8 := bt_bd h 8
  have a9 := bt_bd h 9
  have a10 := bt_bd h 10
  have a11 := bt_bd h 11
  have a12 := bt_bd h 12
  have a13 := bt_bd h 13
  have a14 := bt_bd h 14
  have a15 := bt_bd h 15
  generalize bt h 0 = b0 at *
  generalize bt h 1 = b1 at *
  generalize bt h 2 = b2 at *
  generalize bt h 3 = b3 at *
  generalize bt h 4 = b4 at *
  generalize bt h 5 = b5 at *
  generalize bt h 6 = b6 at *
  generalize bt h 7 = b7 at *
  generalize bt h 8 = b8 at *
  generalize bt h 9 = b9 at *
  generalize bt h 10 = b10 at *
  generalize bt h 11 = b11 at *
  generalize bt h 12 = b12 at *
  generalize bt h 13 = b13 at *
  generalize bt h 14 = b14 at *
  generalize bt h 15 = b15 at *
  have key : 8 * b0 + 16 * b1 + b13 + 2 * b14 + 4 * b15 = 12 := dg_key 11 _ _ _ _ _ _ _ _ _ _ _ _ _ _ _ _ a5 a6 a10 a11 (by omega) hd
  have z0 : b0 = 1 := by clear hf hd; omega
  have z1 : b1 = 0 := by clear hf hd; omega
  have z13 : b13 = 0 := by clear hf hd; omega
  have z14 : b14 = 0 := by clear hf hd; omega
  have z15 : b15 = 1 := by clear hf hd; omega
  clear key
  subst z0 z1 z13 z14 z15
  simp only [dgB] at hd
  simp at hd
  simp only [expB] at hf
  rcases (by omega : b10 = 0 ∨ b10 = 1) with rfl | rfl <;> rcases (by omega : b11 = 0 ∨ b11 = 1) with rfl | rfl <;> rcases (by omega : b12 = 0 ∨ b12 = 1) with rfl | rfl <;> rcases (by omega : b5 = 0 ∨ b5 = 1) with rfl | rfl <;> rcases (by omega : b6 = 0 ∨ b6 = 1) with rfl | rfl
  all_goals first | (exfalso; revert hd; clear hf; decide) | (simp at hf; first | (exact absurd hf (by decide)) | ((try simp [fitsI, fitsB, kindB] at hf); omega)) | (simp; done)

theorem gi_12 (h : Int) : rowI h (⟨[99, 46, 115, 117, 98], 29, 4, 7, 4, 0, 0, 1, 0, [49, 48, 48, 48, 49, 49, 68, 68, 68, 48, 48, 84, 84, 84, 48, 49]⟩ : PR) = ⟨29, 8 + bt h 7 + 2 * bt h 8 + 4 * bt h 9, 8 + bt h 7 + 2 * bt h 8 + 4 * bt h 9, 8 + bt h 2 + 2 * bt h 3 + 4 * bt h 4, 0⟩ := by
  have e : getT h [49, 48, 48, 48, 49, 49, 68, 68, 68, 48, 48, 84, 84, 84, 48, 49] GS0 = ⟨0, 0, (2 * (2 * (2 * 0 + bn h 9) + bn h 8) + bn h 7), 0, (2 * (2 * (2 * 0 + bn h 4) + bn h 3) + bn h 2)⟩ := rfl
  have h2 := bt_bd h 2
  have h3 := bt_bd h 3
  have h4 := bt_bd h 4
  have h7 := bt_bd h 7
  have h8 := bt_bd h 8
  have h9 := bt_bd h 9
  unfold rowI
  show gsI (⟨[99, 46, 115, 117, 98], 29, 4, 7, 4, 0, 0, 1, 0, [49, 48, 48, 48, 49, 49, 68, 68, 68, 48, 48, 84, 84, 84, 48, 49]⟩ : PR) (getT h [49, 48, 48, 48, 49, 49, 68, 68, 68, 48, 48, 84, 84, 84, 48, 49] GS0) = _
  rw [e]
  clear e
  unfold gsI fullP
  simp [bn_bt]
  try ((repeat' apply And.intro) <;> first | omega | (unfold wrap32; omega))

set_option maxHeartbeats 4000000 in
theorem rb_12 (h : Int) (h0 : 0 ≤ h) (h1 : h < 65536) (hc : chk h [49, 48, 48, 48, 49, 49, 68, 68, 68, 48, 48, 84, 84, 84, 48, 49] = true) (hf : fitsI (⟨[99, 46, 115, 117, 98], 29, 4, 7, 4, 0, 0, 1, 0, [49, 48, 48, 48, 49, 49, 68, 68, 68, 48, 48, 84, 84, 84, 48, 49]⟩ : PR) (rowI h (⟨[99, 46, 115, 117, 98], 29, 4, 7, 4, 0, 0, 1, 0, [49, 48, 48, 48, 49, 49, 68, 68, 68, 48, 48, 84, 84, 84, 48, 49]⟩ : PR)) = true) :
    expI h = rowI h (⟨[99, 46, 115, 117, 98], 29, 4, 7, 4, 0, 0, 1, 0, [49, 48, 48, 48, 49, 49, 68, 68, 68, 48, 48, 84, 84, 84, 48, 49]⟩ : PR) ∧ dgN h = 12 ∧ putV ((rowI h (⟨[99, 46, 115, 117, 98], 29, 4, 7, 4, 0, 0, 1, 0, [49, 48, 48, 48, 49, 49, 68, 68, 68, 48, 48, 84, 84, 84, 48, 49]⟩ : PR)).rd % 4294967296) ((rowI h (⟨[99, 46, 115, 117, 98], 29, 4, 7, 4, 0, 0, 1, 0, [49, 48, 48, 48, 49, 49, 68, 68, 68, 48, 48, 84, 84, 84, 48, 49]⟩ : PR)).rs1 % 4294967296) ((rowI h (⟨[99, 46, 115, 117, 98], 29, 4, 7, 4, 0, 0, 1, 0, [49, 48, 48, 48, 49, 49, 68, 68, 68, 48, 48, 84, 84, 84, 48, 49]⟩ : PR)).rs2 % 4294967296) ((rowI h (⟨[99, 46, 115, 117, 98], 29, 4, 7, 4, 0, 0, 1, 0, [49, 48, 48, 48, 49, 49, 68, 68, 68, 48, 48, 84, 84, 84, 48, 49]⟩ : PR)).imm % 4294967296) [49, 48, 48, 48, 49, 49, 68, 68, 68, 48, 48, 84, 84, 84, 48, 49] 0 = h := by
  rw [gi_12] at hf ⊢
  have hx := fld_bits h h0 h1
  rw [expI_bits, dgN_bits h h0 h1]
  clear h0 h1
  dsimp only
  rw [put_12]
  simp [chk, bn_iff] at hc
  have a0 := bt_bd h 0
  have a1 := bt_bd h 1
  have a2 := bt_bd h 2
  have a3 := bt_bd h 3
  have a4 := bt_bd h 4
  have a5 := bt_bd h 5
  have a6 := bt_bd h 6
  have a7 := bt_bd h 7
  have a8 := bt_bd h 8
  have a9 := bt_bd h 9
  have a10 := bt_bd h 10
  have a11 := bt_bd h 11
  have a12 := bt_bd h 12
  have a13 := bt_bd h 13
  have a14 := bt_bd h 14
  have a15 := bt_bd h 15
  generalize bt h 0 = b0 at *
  generalize bt h 1 = b1 at *
  generalize bt h 2 = b2 at *
  generalize bt h 3 = b3 at *
  generalize bt h 4 = b4 at *
  generalize bt h 5 = b5 at *
  generalize bt h 6 = b6 at *
  generalize bt h 7 = b7 at *
  generalize bt h 8 = b8 at *
  generalize bt h 9 = b9 at *
  generalize bt h 10 = b10 at *
  generalize bt h 11 = b11 at *
  generalize bt h 12 = b12 at *
  generalize bt h 13 = b13 at *
  generalize bt h 14 = b14 at *
  generalize bt h 15 = b15 at *
  obtain ⟨z15, z14, z13, z12, z11, z10, z6, z5, z1, z0⟩ := hc
  subst z0 z1 z5 z6 z10 z11 z12 z13 z14 z15
  simp [fitsI, fitsB, kindB] at hf
  refine ⟨?_, ?_, ?_⟩
  · simp only [expB]
    simp
    try (clear hx; first | rfl | ((repeat' split) <;> (first | rfl | (exfalso; omega) | (congr 1 <;> omega))) | (congr 1 <;> omega) | omega)
  · simp only [dgB]
    simp
    try (clear hx; first | rfl | ((repeat' split) <;> (first | rfl | (exfalso; omega) | omega)) | omega)
  · have p2 : (8 + b2 + 2 * b3 + 4 * b4) / 1 % 2 = b2 := by clear hx hf; omega
    have p3 : (8 + b2 + 2 * b3 + 4 * b4) / 2 % 2 = b3 := by clear hx hf p2; omega
    have p4 : (8 + b2 + 2 * b3 + 4 * b4) / 4 % 2 = b4 := by clear hx hf p2 p3; omega
    have p7 : (8 + b7 + 2 * b8 + 4 * b9) / 1 % 2 = b7 := by clear hx hf p2 p3 p4; omega
    have p8 : (8 + b7 + 2 * b8 + 4 * b9) / 2 % 2 = b8 := by clear hx hf p2 p3 p4 p7; omega
    have p9 : (8 + b7 + 2 * b8 + 4 * b9) / 4 % 2 = b9 := by clear hx hf p2 p3 p4 p7 p8; omega
    try rw [p2, p3, p4, p7, p8, p9]
    clear hf
    omega

set_option maxHeartbeats 4000000 in
theorem rc_12 (h : Int) (h0 : 0 ≤ h) (h1 : h < 65536) (hd : dgN h = 12) (hf : fitsI (⟨[99, 46, 115, 117, 98], 29, 4, 7, 4, 0, 0, 1, 0, [49, 48, 48, 48, 49, 49, 68, 68, 68, 48, 48, 84, 84, 84, 48, 49]⟩ : PR) (expI h) = true) : chk h [49, 48, 48, 48, 49, 49, 68, 68, 68, 48, 48, 84, 84, 84, 48, 49] = true := by
  rw [expI_bits] at hf
  rw [dgN_bits h h0 h1] at hd
  clear h0 h1
  simp [chk, bn_iff]
  have a0 := bt_bd h 0
  have a1 := bt_bd h 1
  have a2 := bt_bd h 2
  have a3 := bt_bd h 3
  have a4 := bt_bd h 4
  have a5 := bt_bd h 5
  have a6 := bt_bd h 6
  have a7 := bt_bd h 7
  have a8 := bt_bd h 8
  have a9 := bt_bd h 9
  have a10 := bt_bd h 10
  have a11 := bt_bd h 11
  have a12 := bt_bd h 12
  have a13 := bt_bd h 13
  have a14 := bt_bd h 14
  have a15 := bt_bd h 15
  generalize bt h 0 = b0 at *
  generalize bt h 1 = b1 at *
  generalize bt h 2 = b2 at *
  generalize bt h 3 = b3 at *
  generalize bt h 4 = b4 at *
  generalize bt h 5 = b5 at *
  generalize bt h 6 = b6 at *
  generalize bt h 7 = b7 at *
  generalize bt h 8 = b8 at *
  generalize bt h 9 = b9 at *
  generalize bt h 10 = b10 at *
  generalize bt h 11 = b11 at *
  generalize bt h 12 = b12 at *
  generalize bt h 13 = b13 at *
  generalize bt h 14 = b14 at *
  generalize bt h 15 = b15 at *
  have key : 8 * b0 + 16 * b1 + b13 + 2 * b14 + 4 * b15 = 12 := dg_key 12 _ _ _ _ _ _ _ _ _ _ _ _ _ _ _ _ a5 a6 a10 a11 (by omega) hd
  have z0 : b0 = 1 := by clear hf hd; omega
  have z1 : b1 = 0 := by clear hf hd; omega
  have z13 : b13 = 0 := by clear hf hd; omega
  have z14 : b14 = 0 := by clear hf hd; omega
  have z15 : b15 = 1 := by clear hf hd; omega
  clear key
  subst z0 z1 z13 z14 z15
  simp only [dgB] at hd
  simp at hd
  simp only [expB] at hf
  rcases (by omega : b10 = 0 ∨ b10 = 1) with rfl | rfl <;> rcases (by omega : b11 = 0 ∨ b11 = 1) with rfl | rfl <;> rcases (by omega : b12 = 0 ∨ b12 = 1) with rfl | rfl <;> rcases (by omega : b5 = 0 ∨ b5 = 1) with rfl | rfl <;> rcases (by omega : b6 = 0 ∨ b6 = 1) with rfl | rfl
  all_goals first | (exfalso; revert hd; clear hf; decide) | (simp at hf; first | (exact absurd hf (by decide)) | ((try simp [fitsI, fitsB, kindB] at hf); omega)) | (simp; done)

theorem gi_13 (h : Int) : rowI h (⟨[99, 46, 120, 111, 114], 33, 4, 7, 4, 0, 0, 1, 0, [49, 48, 48, 48, 49, 49, 68, 68, 68, 48, 49, 84, 84, 84, 48, 49]⟩ : PR) = ⟨33, 8 + bt h 7 + 2 * bt h 8 + 4 * bt h 9, 8 + bt h 7 + 2 * bt h 8 + 4 * bt h 9, 8 + bt h 2 + 2 * bt h 3 + 4 * bt h 4, 0⟩ := by
  have e : getT h [49, 48, 48, 48, 49, 49, 68, 68, 68, 48, 49, 84, 84, 84, 48, 49] GS0 = ⟨0, 0, (2 * (2 * (2 * 0 + bn h 9) + bn h 8) + bn h 7), 0, (2 * (2 * (2 * 0 + bn h 4) + bn h 3) + bn h 2)⟩ := rfl
  have h2 := bt_bd h 2
  have h3 := bt_bd h 3
  have h4 := bt_bd h 4
  have h7 := bt_bd h 7
  have h8 := bt_bd h 8
  have h9 := bt_bd h 9
  unfold rowI
  show gsI (⟨[99, 46, 120, 111, 114], 33, 4, 7, 4, 0, 0, 1, 0, [49, 48, 48, 48, 49, 49, 68, 68, 68, 48, 49, 84, 84, 84, 48, 49]⟩ : PR) (getT h [49, 48, 48, 48, 49, 49, 68, 68, 68, 48, 49, 84, 84, 84, 48, 49] GS0) = _
  rw [e]
  clear e
  unfold gsI fullP
  simp [bn_bt]
  try ((repeat' apply And.intro) <;> first | omega | (unfold wrap32; omega))

set_option maxHeartbeats 4000000 in
theorem rb_13 (h : Int) (h0 : 0 ≤ h) (h1 : h < 65536) (hc : chk h [49, 48, 48, 48, 49, 49, 68, 68, 68, 48, 49, 84, 84, 84, 48, 49] = true) (hf : fitsI (⟨[99, 46, 120, 111, 114], 33, 4, 7, 4, 0, 0, 1, 0, [49, 48, 48, 48, 49, 49, 68, 68, 68, 48, 49, 84, 84, 84, 48, 49]⟩ : PR) (rowI h (⟨[99, 46, 120, 111, 114], 33, 4, 7, 4, 0, 0, 1, 0, [49, 48, 48, 48, 49, 49, 68, 68, 68, 48, 49, 84, 84, 84, 48, 49]⟩ : PR)) = true) :
    expI h = rowI h (⟨[99, 46, 120, 111, 114], 33, 4, 7, 4, 0, 0, 1, 0, [49, 48, 48, 48, 49, 49, 68, 68, 68, 48, 49, 84, 84, 84, 48, 49]⟩ : PR) ∧ dgN h = 13 ∧ putV ((rowI h (⟨[99, 46, 120, 111, 114], 33, 4, 7, 4, 0, 0, 1, 0, [49, 48, 48, 48, 49, 49, 68, 68, 68, 48, 49, 84, 84, 84, 48, 49]⟩ : PR)).rd % 4294967296) ((rowI h (⟨[99, 46, 120, 111, 114], 33, 4, 7, 4, 0, 0, 1, 0, [49, 48, 48, 48, 49, 49, 68, 68, 68, 48, 49, 84, 84, 84, 48, 49]⟩ : PR)).rs1 % 4294967296) ((rowI h (⟨[99, 46, 120, 111, 114], 33, 4, 7, 4, 0, 0, 1, 0, [49, 48, 48, 48, 49, 49, 68, 68, 68, 48, 49, 84, 84, 84, 48, 49]⟩ : PR)).rs2 % 4294967296) ((rowI h (⟨[99, 46, 120, 111, 114], 33, 4, 7, 4, 0, 0, 1, 0, [49, 48, 48, 48, 49, 49, 68, 68, 68, 48, 49, 84, 84, 84, 48, 49]⟩ : PR)).imm % 4294967296) [49, 48, 48, 48, 49, 49, 68, 68, 68, 48, 49, 84, 84, 84, 48, 49] 0 = h := by
  rw [gi_13] at hf ⊢
  have hx := fld_bits h h0 h1
  rw [expI_bits, dgN_bits h h0 h1]
  clear h0 h1
  dsimp only
  rw [put_13]
  simp [chk, bn_iff] at hc
  have a0 := bt_bd h 0
  have a1 := bt_bd h 1
  have a2 := bt_bd h 2
  have a3 := bt_bd h 3
  have a4 := bt_bd h 4
  have a5 := bt_bd h 5
  have a6 := bt_bd h 6
  have a7 := bt_bd h 7
  have a8 := bt_bd h 8
  have a9 := bt_bd h 9
  have a10 := bt_bd h 10
  have a11 := bt_bd h 11
  have a12 := bt_bd h 12
  have a13 := bt_bd h 13
  have a14 := bt_bd h 14
  have a15 := bt_bd h 15
  generalize bt h 0 = b0 at *
  generalize bt h 1 = b1 at *
  generalize bt h 2 = b2 at *
  generalize bt h 3 = b3 at *
  generalize bt h 4 = b4 at *
  generalize bt h 5 = b5 at *
  generalize bt h 6 = b6 at *
  generalize bt h 7 = b7 at *
  generalize bt h 8 = b8 at *
  generalize bt h 9 = b9 at *
  generalize bt h 10 = b10 at *
  generalize bt h 11 = b11 at *
  generalize bt h 12 = b12 at *
  generalize bt h 13 = b13 at *
  generalize bt h 14 = b14 at *
  generalize bt h 15 = b15 at *
  obtain ⟨z15, z14, z13, z12, z11, z10, z6, z5, z1, z0⟩ := hc
  subst z0 z1 z5 z6 z10 z11 z12 z13 z14 z15
  simp [fitsI, fitsB, kindB] at hf
  refine ⟨?_, ?_, ?_⟩
  · simp only [expB]
    simp
    try (clear hx; first | rfl | ((repeat' split) <;> (first | rfl | (exfalso; omega) | (congr 1 <;> omega))) | (congr 1 <;> omega) | omega)
  · simp only [dgB]
    simp
    try (clear hx; first | rfl | ((repeat' split) <;> (first | rfl | (exfalso; omega) | omega)) | omega)
  · have p2 : (8 + b2 + 2 * b3 + 4 * b4) / 1 % 2 = b2 := by clear hx hf; omega
    have p3 : (8 + b2 + 2 * b3 + 4 * b4) / 2 % 2 = b3 := by clear hx hf p2; omega
    have p4 : (8 + b2 + 2 * b3 + 4 * b4) / 4 % 2 = b4 := by clear hx hf p2 p3; omega
    have p7 : (8 + b7 + 2 * b8 + 4 * b9) / 1 % 2 = b7 := by clear hx hf p2 p3 p4; omega
    have p8 : (8 + b7 + 2 * b8 + 4 * b9) / 2 % 2 = b8 := by clear hx hf p2 p3 p4 p7; omega
    have p9 : (8 + b7 + 2 * b8 + 4 * b9) / 4 % 2 = b9 := by clear hx hf p2 p3 p4 p7 p8; omega
    try rw [p2, p3, p4, p7, p8, p9]
    clear hf
    omega

set_option maxHeartbeats 4000000 in
theorem rc_13 (h : Int) (h0 : 0 ≤ h) (h1 : h < 65536) (hd : dgN h = 13) (hf : fitsI (⟨[99, 46, 120, 111, 114], 33, 4, 7, 4, 0, 0, 1, 0, [49, 48, 48, 48, 49, 49, 68, 68, 68, 48, 49, 84, 84, 84, 48, 49]⟩ : PR) (expI h) = true) : chk h [49, 48, 48, 48, 49, 49, 68, 68, 68, 48, 49, 84, 84, 84, 48, 49] = true := by
  rw [expI_bits] at hf
  rw [dgN_bits h h0 h1] at hd
  clear h0 h1
  simp [chk, bn_iff]
  have a0 := bt_bd h 0
  have a1 := bt_bd h 1
  have a2 := bt_bd h 2
  have a3 := bt_bd h 3
  have a4 := bt_bd h 4
  have a5 := bt_bd h 5
  have a6 := bt_bd h 6
  have a7 := bt_bd h 7
  have a8 := bt_bd h 8
  have a9 := bt_bd h 9
  have a10 := bt_bd h 10
  have a11 := bt_bd h 11
  have a12 := bt_bd h 12
  have a13 := bt_bd h 13
  have a14 := bt_bd h 14
  have a15 := bt_bd h 15
  generalize bt h 0 = b0 at *
  generalize bt h 1 = b1 at *
  generalize bt h 2 = b2 at *
  generalize bt h 3 = b3 at *
  generalize bt h 4 = b4 at *
  generalize bt h 5 = b5 at *
  generalize bt h 6 = b6 at *
  generalize bt h 7 = b7 at *
  generalize bt h 8 = b8 at *
  generalize bt h 9 = b9 at *
  generalize bt h 10 = b10 at *
  generalize bt h 11 = b11 at *
  generalize bt h 12 = b12 at *
  generalize bt h 13 = b13 at *
  generalize bt h 14 = b14 at *
  generalize bt h 15 = b15 at *
  have key : 8 * b0 + 16 * b1 + b13 + 2 * b14 + 4 * b15 = 12 := dg_key 13 _ _ _ _ _ _ _ _ _ _ _ _ _ _ _ _ a5 a6 a10 a11 (by omega) hd
  have z0 : b0 = 1 := by clear hf hd; omega
  have z1 : b1 = 0 := by clear hf hd; omega
  have z13 : b13 = 0 := by clear hf hd; omega
  have z14 : b14 = 0 := by clear hf hd; omega
  have z15 : b15 = 1 := by clear hf hd; omega
  clear key
  subst z0 z1 z13 z14 z15
  simp only [dgB] at hd
  simp at hd
  simp only [expB] at hf
  rcases (by omega : b10 = 0 ∨ b10 = 1) with rfl | rfl <;> rcases (by omega : b11 = 0 ∨ b11 = 1) with rfl | rfl <;> rcases (by omega : b12 = 0 ∨ b12 = 1) with rfl | rfl <;> rcases (by omega : b5 = 0 ∨ b5 = 1) with rfl | rfl <;> rcases (by omega : b6 = 0 ∨ b6 = 1) with rfl | rfl
  all_goals first | (exfalso; revert hd; clear hf; decide) | (simp at hf; first | (exact absurd hf (by decide)) | ((try simp [fitsI, fitsB, kindB] at hf); omega)) | (simp; done)

theorem gi_14 (h : Int) : rowI h (⟨[99, 46, 111, 114], 36, 4, 7, 4, 0, 0, 1, 0, [49, 48, 48, 48, 49, 49, 68, 68, 68, 49, 48, 84, 84, 84, 48, 49]⟩ : PR) = ⟨36, 8 + bt h 7 + 2 * bt h 8 + 4 * bt h 9, 8 + bt h 7 + 2 * bt h 8 + 4 * bt h 9, 8 + bt h 2 + 2 * bt h 3 + 4 * bt h 4, 0⟩ := by
  have e : getT h [49, 48, 48, 48, 49, 49, 68, 68, 68, 49, 48, 84, 84, 84, 48, 49] GS0 = ⟨0, 0, (2 * (2 * (2 * 0 + bn h 9) + bn h 8) + bn h 7), 0, (2 * (2 * (2 * 0 + bn h 4) + bn h 3) + bn h 2)⟩ := rfl
  have h2 := bt_bd h 2
  have h3 := bt_bd h 3
  have h4 := bt_bd h 4
  have h7 := bt_bd h 7
  have h8 := bt_bd h 8
  have h9 := bt_bd h 9
  unfold rowI
  show gsI (⟨[99, 46, 111, 114], 36, 4, 7, 4, 0, 0, 1, 0, [49, 48, 48, 48, 49, 49, 68, 68, 68, 49, 48, 84, 84, 84, 48, 49]⟩ : PR) (getT h [49, 48, 48, 48, 49, 49, 68, 68, 68, 49, 48, 84, 84, 84, 48, 49] GS0) = _
  rw [e]
  clear e
  unfold gsI fullP
  simp [bn_bt]
  try ((repeat' apply And.intro) <;> first | omega | (unfold wrap32; omega))

set_option maxHeartbeats 4000000 in
theorem rb_14 (h : Int) (h0 : 0 ≤ h) (h1 : h < 65536) (hc : chk h [49, 48, 48, 48, 49, 49, 68, 68, 68, 49, 48, 84, 84, 84, 48, 49] = true) (hf : fitsI (⟨[99, 46, 111, 114], 36, 4, 7, 4, 0, 0, 1, 0, [49, 48, 48, 48, 49, 49, 68, 68, 68, 49, 48, 84, 84, 84, 48, 49]⟩ : PR) (rowI h (⟨[99, 46, 111, 114], 36, 4, 7, 4, 0, 0, 1, 0, [49, 48, 48, 48, 49, 49, 68, 68, 68, 49, 48, 84, 84, 84, 48, 49]⟩ : PR)) = true) :
    expI h = rowI h (⟨[99, 46, 111, 114], 36, 4, 7, 4, 0, 0, 1, 0, [49, 48, 48, 48, 49, 49, 68, 68, 68, 49, 48, 84, 84, 84, 48, 49]⟩ : PR) ∧ dgN h = 14 ∧ putV ((rowI h (⟨[99, 46, 111, 114], 36, 4, 7, 4, 0, 0, 1, 0, [49, 48, 48, 48, 49, 49, 68, 68, 68, 49, 48, 84, 84, 84, 48, 49]⟩ : PR)).rd % 4294967296) ((rowI h (⟨[99, 46, 111, 114], 36, 4, 7, 4, 0, 0, 1, 0, [49, 48, 48, 48, 49, 49, 68, 68, 68, 49, 48, 84, 84, 84, 48, 49]⟩ : PR)).rs1 % 4294967296) ((rowI h (⟨[99, 46, 111, 114], 36, 4, 7, 4, 0, 0, 1, 0, [49, 48, 48, 48, 49, 49, 68, 68, 68, 49, 48, 84, 84, 84, 48, 49]⟩ : PR)).rs2 % 4294967296) ((rowI h (⟨[99, 46, 111, 114], 36, 4, 7, 4, 0, 0, 1, 0, [49, 48, 48, 48, 49, 49, 68, 68, 68, 49, 48, 84, 84, 84, 48, 49]⟩ : PR)).imm % 4294967296) [49, 48, 48, 48, 49, 49, 68, 68, 68, 49, 48, 84, 84, 84, 48, 49] 0 = h := by
  rw [gi_14] at hf ⊢
  have hx := fld_bits h h0 h1
  rw [expI_bits, dgN_bits h h0 h1]
  clear h0 h1
  dsimp only
  rw [put_14]
  simp [chk, bn_iff] at hc
  have a0 := bt_bd h 0
  have a1 := bt_bd h 1
  have a2 := bt_bd h 2
  have a3 := bt_bd h 3
  have a4 := bt_bd h 4
  have a5 := bt_bd h 5
  have a6 := bt_bd h 6
  have a7 := bt_bd h 7
  have a8 := bt_bd h 8
  have a9 := bt_bd h 9
  have a10 := bt_bd h 10
  have a11 := bt_bd h 11
  have a12 := bt_bd h 12
  have a13 := bt_bd h 13
  have a14 := bt_bd h 14
  have a15 := bt_bd h 15
  generalize bt h 0 = b0 at *
  generalize bt h 1 = b1 at *
  generalize bt h 2 = b2 at *
  generalize bt h 3 = b3 at *
  generalize bt h 4 = b4 at *
  generalize bt h 5 = b5 at *
  generalize bt h 6 = b6 at *
  generalize bt h 7 = b7 at *
  generalize bt h 8 = b8 at *
  generalize bt h 9 = b9 at *
  generalize bt h 10 = b10 at *
  generalize bt h 11 = b11 at *
  generalize bt h 12 = b12 at *
  generalize bt h 13 = b13 at *
  generalize bt h 14 = b14 at *
  generalize bt h 15 = b15 at *
  obtain ⟨z15, z14, z13, z12, z11, z10, z6, z5, z1, z0⟩ := hc
  subst z0 z1 z5 z6 z10 z11 z12 z13 z14 z15
  simp [fitsI, fitsB, kindB] at hf
  refine ⟨?_, ?_, ?_⟩
  · simp only [expB]
    simp
    try (clear hx; first | rfl | ((repeat' split) <;> (first | rfl | (exfalso; omega) | (congr 1 <;> omega))) | (congr 1 <;> omega) | omega)
  · simp only [dgB]
    simp
    try (clear hx; first | rfl | ((repeat' split) <;> (first | rfl | (exfalso; omega) | omega)) | omega)
  · have p2 : (8 + b2 + 2 * b3 + 4 * b4) / 1 % 2 = b2 := by clear hx hf; omega
    have p3 : (8 + b2 + 2 * b3 + 4 * b4) / 2 % 2 = b3 := by clear hx hf p2; omega
    have p4 : (8 + b2 + 2 * b3 + 4 * b4) / 4 % 2 = b4 := by clear hx hf p2 p3; omega
    have p7 : (8 + b7 + 2 * b8 + 4 * b9) / 1 % 2 = b7 := by clear hx hf p2 p3 p4; omega
    have p8 : (8 + b7 + 2 * b8 + 4 * b9) / 2 % 2 = b8 := by clear hx hf p2 p3 p4 p7; omega
    have p9 : (8 + b7 + 2 * b8 + 4 * b9) / 4 % 2 = b9 := by clear hx hf p2 p3 p4 p7 p8; omega
    try rw [p2, p3, p4, p7, p8, p9]
    clear hf
    omega

set_option maxHeartbeats 4000000 in
theorem rc_14 (h : Int) (h0 : 0 ≤ h) (h1 : h < 65536) (hd : dgN h = 14) (hf : fitsI (⟨[99, 46, 111, 114], 36, 4, 7, 4, 0, 0, 1, 0, [49, 48, 48, 48, 49, 49, 68, 68, 68, 49, 48, 84, 84, 84, 48, 49]⟩ : PR) (expI h) = true) : chk h [49, 48, 48, 48, 49, 49, 68, 68, 68, 49, 48, 84, 84, 84, 48, 49] = true := by
  rw [expI_bits] at hf
  rw [dgN_bits h h0 h1] at hd
  clear h0 h1
  simp [chk, bn_iff]
  have a0 := bt_bd h 0
  have a1 := bt_bd h 1
  have a2 := bt_bd h 2
  have a3 := bt_bd h 3
  have a4 := bt_bd h 4
  have a5 := bt_bd h 5
  have a6 := bt_bd h 6
  have a7 := bt_bd h 7
  have a8 := bt_bd h 8
  have a9 := bt_bd h 9
  have a10 := bt_bd h 10
  have a11 := bt_bd h 11
  have a12 := bt_bd h 12
  have a13 := bt_bd h 13
  have a14 := bt_bd h 14
  have a15 := bt_bd h 15
  generalize bt h 0 = b0 at *
  generalize bt h 1 = b1 at *
  generalize bt h 2 = b2 at *
  generalize bt h 3 = b3 at *
  generalize bt h 4 = b4 at *
  generalize bt h 5 = b5 at *
  generalize bt h 6 = b6 at *
  generalize bt h 7 = b7 at *
  generalize bt h 8 = b8 at *
  generalize bt h 9 = b9 at *
  generalize bt h 10 = b10 at *
  generalize bt h 11 = b11 at *
  generalize bt h 12 = b12 at *
  generalize bt h 13 = b13 at *
  generalize bt h 14 = b14 at *
  generalize bt h 15 = b15 at *
  have key : 8 * b0 + 16 * b1 + b13 + 2 * b14 + 4 * b15 = 12 := dg_key 14 _ _ _ _ _ _ _ _ _ _ _ _ _ _ _ _ a5 a6 a10 a11 (by omega) hd
  have z0 : b0 = 1 := by clear hf hd; omega
  have z1 : b1 = 0 := by clear hf hd; omega
  have z13 : b13 = 0 := by clear hf hd; omega
  have z14 : b14 = 0 := by clear hf hd; omega
  have z15 : b15 = 1 := by clear hf hd; omega
  clear key
  subst z0 z1 z13 z14 z15
  simp only [dgB] at hd
  simp at hd
  simp only [expB] at hf
  rcases (by omega : b10 = 0 ∨ b10 = 1) with rfl | rfl <;> rcases (by omega : b11 = 0 ∨ b11 = 1) with rfl | rfl <;> rcases (by omega : b12 = 0 ∨ b12 = 1) with rfl | rfl <;> rcases (by omega : b5 = 0 ∨ b5 = 1) with rfl | rfl <;> rcases (by omega : b6 = 0 ∨ b6 = 1) with rfl | rfl
  all_goals first | (exfalso; revert hd; clear hf; decide) | (simp at hf; first | (exact absurd hf (by decide)) | ((try simp [fitsI, fitsB, kindB] at hf); omega)) | (simp; done)

theorem gi_15 (h : Int) : rowI h (⟨[99, 46, 97, 110, 100], 37, 4, 7, 4, 0, 0, 1, 0, [49, 48, 48, 48, 49, 49, 68, 68, 68, 49, 49, 84, 84, 84, 48, 49]⟩ : PR) = ⟨37, 8 + bt h 7 + 2 * bt h 8 + 4 * bt h 9, 8 + bt h 7 + 2 * bt h 8 + 4 * bt h 9, 8 + bt h 2 + 2 * bt h 3 + 4 * bt h 4, 0⟩ := by
  have e : getT h [49, 48, 48, 48, 49, 49, 68, 68, 68, 49, 49, 84, 84, 84, 48, 49] GS0 = ⟨0, 0, (2 * (2 * (2 * 0 + bn h 9) + bn h 8) + bn h 7), 0, (2 * (2 * (2 * 0 + bn h 4) + bn h 3) + bn h 2)⟩ := rfl
  have h2 := bt_bd h 2
  have h3 := bt_bd h 3
  have h4 := bt_bd h 4
  have h7 := bt_bd h 7
  have h8 := bt_bd h 8
  have h9 := bt_bd h 9
  unfold rowI
  show gsI (⟨[99, 46, 97, 110, 100], 37, 4, 7, 4, 0, 0, 1, 0, [49, 48, 48, 48, 49, 49, 68, 68, 68, 49, 49, 84, 84, 84, 48, 49]⟩ : PR) (getT h [49, 48, 48, 48, 49, 49, 68, 68, 68, 49, 49, 84, 84, 84, 48, 49] GS0) = _
  rw [e]
  clear e
  unfold gsI fullP
  simp [bn_bt]
  try ((repeat' apply And.intro) <;> first | omega | (unfold wrap32; omega))

set_option maxHeartbeats 4000000 in
theorem rb_15 (h : Int) (h0 : 0 ≤ h) (h1 : h < 65536) (hc : chk h [49, 48, 48, 48, 49, 49, 68, 68, 68, 49, 49, 84, 84, 84, 48, 49] = true) (hf : fitsI (⟨[99, 46, 97, 110, 100], 37, 4, 7, 4, 0, 0, 1, 0, [49, 48, 48, 48, 49, 49, 68, 68, 68, 49, 49, 84, 84, 84, 48, 49]⟩ : PR) (rowI h (⟨[99, 46, 97, 110, 100], 37, 4, 7, 4, 0, 0, 1, 0, [49, 48, 48, 48, 49, 49, 68, 68, 68, 49, 49, 84, 84, 84, 48, 49]⟩ : PR)) = true) :
    expI h = rowI h (⟨[99, 46, 97, 110, 100], 37, 4, 7, 4, 0, 0, 1, 0, [49, 48, 48, 48, 49, 49, 68, 68, 68, 49, 49, 84, 84, 84, 48, 49]⟩ : PR) ∧ dgN h = 15 ∧ putV ((rowI h (⟨[99, 46, 97, 110, 100], 37, 4, 7, 4, 0, 0, 1, 0, [49, 48, 48, 48, 49, 49, 68, 68, 68, 49, 49, 84, 84, 84, 48, 49]⟩ : PR)).rd % 4294967296) ((rowI h (⟨[99, 46, 97, 110, 100], 37, 4, 7, 4, 0, 0, 1, 0, [49, 48, 48, 48, 49, 49, 68, 68, 68, 49, 49, 84, 84, 84, 48, 49]⟩ : PR)).rs1 % 4294967296) ((rowI h (⟨[99, 46, 97, 110, 100], 37, 4, 7, 4, 0, 0, 1, 0, [49, 48, 48, 48, 49, 49, 68, 68, 68, 49, 49, 84, 84, 84, 48, 49]⟩ : PR)).rs2 % 4294967296) ((rowI h (⟨[99, 46, 97, 110, 100], 37, 4, 7, 4, 0, 0, 1, 0, [49, 48, 48, 48, 49, 49, 68, 68, 68, 49, 49, 84, 84, 84, 48, 49]⟩ : PR)).imm % 4294967296) [49, 48, 48, 48, 49, 49, 68, 68, 68, 49, 49, 84, 84, 84, 48, 49] 0 = h := by
  rw [gi_15] at hf ⊢
  have hx := fld_bits h h0 h1
  rw [expI_bits, dgN_bits h h0 h1]
  clear h0 h1
  dsimp only
  rw [put_15]
  simp [chk, bn_iff] at hc
  have a0 := bt_bd h 0
  have a1 := bt_bd h 1
  have a2 := bt_bd h 2
  have a3 := bt_bd h 3
  have a4 := bt_bd h 4
  have a5 := bt_bd h 5
  have a6 := bt_bd h 6
  have a7 := bt_bd h 7
  have a8 := bt_bd h 8
  have a9 := bt_bd h 9
  have a10 := bt_bd h 10
  have a11 := bt_bd h 11
  have a12 := bt_bd h 12
  have a13 := bt_bd h 13
  have a14 := bt_bd h 14
  have a15 := bt_bd h 15
  generalize bt h 0 = b0 at *
  generalize bt h 1 = b1 at *
  generalize bt h 2 = b2 at *
  generalize bt h 3 = b3 at *
  generalize bt h 4 = b4 at *
  generalize bt h 5 = b5 at *
  generalize bt h 6 = b6 at *
  generalize bt h 7 = b7 at *
  generalize bt h 8 = b8 at *
  generalize bt h 9 = b9 at *
  generalize bt h 10 = b10 at *
  generalize bt h 11 = b11 at *
  generalize bt h 12 = b12 at *
  generalize bt h 13 = b13 at *
  generalize bt h 14 = b14 at *
  generalize bt h 15 = b15 at *
  obtain ⟨z15, z14, z13, z12, z11, z10, z6, z5, z1, z0⟩ := hc
  subst z0 z1 z5 z6 z10 z11 z12 z13 z14 z15
  simp [fitsI, fitsB, kindB] at hf
  refine ⟨?_, ?_, ?_⟩
  · simp only [expB]
    simp
    try (clear hx; first | rfl | ((repeat' split) <;> (first | rfl | (exfalso; omega) | (congr 1 <;> omega))) | (congr 1 <;> omega) | omega)
  · simp only [dgB]
    simp
    try (clear hx; first | rfl | ((repeat' split) <;> (first | rfl | (exfalso; omega) | omega)) | omega)
  · have p2 : (8 + b2 + 2 * b3 + 4 * b4) / 1 % 2 = b2 := by clear hx hf; omega
    have p3 : (8 + b2 + 2 * b3 + 4 * b4) / 2 % 2 = b3 := by clear hx hf p2; omega
    have p4 : (8 + b2 + 2 * b3 + 4 * b4) / 4 % 2 = b4 := by clear hx hf p2 p3; omega
    have p7 : (8 + b7 + 2 * b8 + 4 * b9) / 1 % 2 = b7 := by clear hx hf p2 p3 p4; omega
    have p8 : (8 + b7 + 2 * b8 + 4 * b9) / 2 % 2 = b8 := by clear hx hf p2 p3 p4 p7; omega
    have p9 : (8 + b7 + 2 * b8 + 4 * b9) / 4 % 2 = b9 := by clear hx hf p2 p3 p4 p7 p8; omega
    try rw [p2, p3, p4, p7, p8, p9]
    clear hf
    omega

set_option maxHeartbeats 4000000 in
theorem rc_15 (h : Int) (h0 : 0 ≤ h) (h1 : h < 65536) (hd : dgN h = 15) (hf : fitsI (⟨[99, 46, 97, 110, 100], 37, 4, 7, 4, 0, 0, 1, 0, [49, 48, 48, 48, 49, 49, 68, 68, 68, 49, 49, 84, 84, 84, 48, 49]⟩ : PR) (expI h) = true) : chk h [49, 48, 48, 48, 49, 49, 68, 68, 68, 49, 49, 84, 84, 84, 48, 49] = true := by
  rw [expI_bits] at hf
  rw [dgN_bits h h0 h1] at hd
  clear h0 h1
  simp [chk, bn_iff]
  have a0 := bt_bd h 0
  have a1 := bt_bd h 1
  have a2 := bt_bd h 2
  have a3 := bt_bd h 3
  have a4 := bt_bd h 4
  have a5 := bt_bd h 5
  have a6 := bt_bd h 6
  have a7 := bt_bd h 7
  have a8 := bt_bd h 8
  have a9 := bt_bd h 9
  have a10 := bt_bd h 10
  have a11 := bt_bd h 11
  have a12 := bt_bd h 12
  have a13 := bt_bd h 13
  have a14 := bt_bd h 14
  have a15 := bt_bd h 15
  generalize bt h 0 = b0 at *
  generalize bt h 1 = b1 at *
  generalize bt h 2 = b2 at *
  generalize bt h 3 = b3 at *
  generalize bt h 4 = b4 at *
  generalize bt h 5 = b5 at *
  generalize bt h 6 = b6 at *
  generalize bt h 7 = b7 at *
  generalize bt h 8 = b8 at *
  generalize bt h 9 = b9 at *
  generalize bt h 10 = b10 at *
  generalize bt h 11 = b11 at *
  generalize bt h 12 = b12 at *
  generalize bt h 13 = b13 at *
  generalize bt h 14 = b14 at *
  generalize bt h 15 = b15 at *
  have key : 8 * b0 + 16 * b1 + b13 + 2 * b14 + 4 * b15 = 12 := dg_key 15 _ _ _ _ _ _ _ _ _ _ _ _ _ _ _ _ a5 a6 a10 a11 (by omega) hd
  have z0 : b0 = 1 := by clear hf hd; omega
  have z1 : b1 = 0 := by clear hf hd; omega
  have z13 : b13 = 0 := by clear hf hd; omega
  have z14 : b14 = 0 := by clear hf hd; omega
  have z15 : b15 = 1 := by clear hf hd; omega
  clear key
  subst z0 z1 z13 z14 z15
  simp only [dgB] at hd
  simp at hd
  simp only [expB] at hf
  rcases (by omega : b10 = 0 ∨ b10 = 1) with rfl | rfl <;> rcases (by omega : b11 = 0 ∨ b11 = 1) with rfl | rfl <;> rcases (by omega : b12 = 0 ∨ b12 = 1) with rfl | rfl <;> rcases (by omega : b5 = 0 ∨ b5 = 1) with rfl | rfl <;> rcases (by omega : b6 = 0 ∨ b6 = 1) with rfl | rfl
  all_goals first | (exfalso; revert hd; clear hf; decide) | (simp at hf; first | (exact absurd hf (by decide)) | ((try simp [fitsI, fitsB, kindB] at hf); omega)) | (simp; done)

theorem gi_16 (h : Int) : rowI h (⟨[99, 46, 106], 3, 0, 0, 0, (-2048), 2046, 2, 0, [49, 48, 49, 108, 101, 106, 105, 107, 103, 104, 100, 99, 98, 102, 48, 49]⟩ : PR) = ⟨3, 0, 0, 0, 2 * bt h 3 + 4 * bt h 4 + 8 * bt h 5 + 16 * bt h 11 + 32 * bt h 2 + 64 * bt h 7 + 128 * bt h 6 + 256 * bt h 9 + 512 * bt h 10 + 1024 * bt h 8 - 2048 * bt h 12⟩ := by
  have e : getT h [49, 48, 49, 108, 101, 106, 105, 107, 103, 104, 100, 99, 98, 102, 48, 49] GS0 = ⟨(((((((((((0 + bn h 12 * 2 ^ 11) + bn h 11 * 2 ^ 4) + bn h 10 * 2 ^ 9) + bn h 9 * 2 ^ 8) + bn h 8 * 2 ^ 10) + bn h 7 * 2 ^ 6) + bn h 6 * 2 ^ 7) + bn h 5 * 2 ^ 3) + bn h 4 * 2 ^ 2) + bn h 3 * 2 ^ 1) + bn h 2 * 2 ^ 5), (max (max (max (max (max (max (max (max (max (max (max 0 12) 5) 10) 9) 11) 7) 8) 4) 3) 2) 6), 0, 0, 0⟩ := rfl
  have h2 := bt_bd h 2
  have h3 := bt_bd h 3
  have h4 := bt_bd h 4
  have h5 := bt_bd h 5
  have h6 := bt_bd h 6
  have h7 := bt_bd h 7
  have h8 := bt_bd h 8
  have h9 := bt_bd h 9
  have h10 := bt_bd h 10
  have h11 := bt_bd h 11
  have h12 := bt_bd h 12
  unfold rowI
  show gsI (⟨[99, 46, 106], 3, 0, 0, 0, (-2048), 2046, 2, 0, [49, 48, 49, 108, 101, 106, 105, 107, 103, 104, 100, 99, 98, 102, 48, 49]⟩ : PR) (getT h [49, 48, 49, 108, 101, 106, 105, 107, 103, 104, 100, 99, 98, 102, 48, 49] GS0) = _
  rw [e]
  clear e
  unfold gsI fullP
  have es : ∀ v, v = 2 * bt h 3 + 4 * bt h 4 + 8 * bt h 5 + 16 * bt h 11 + 32 * bt h 2 + 64 * bt h 7 + 128 * bt h 6 + 256 * bt h 9 + 512 * bt h 10 + 1024 * bt h 8 + 2048 * bt h 12 → sgn v 12 = 2 * bt h 3 + 4 * bt h 4 + 8 * bt h 5 + 16 * bt h 11 + 32 * bt h 2 + 64 * bt h 7 + 128 * bt h 6 + 256 * bt h 9 + 512 * bt h 10 + 1024 * bt h 8 - 2048 * bt h 12 := fun v hv => by
    rw [sgn_lin v 12 (2 * bt h 3 + 4 * bt h 4 + 8 * bt h 5 + 16 * bt h 11 + 32 * bt h 2 + 64 * bt h 7 + 128 * bt h 6 + 256 * bt h 9 + 512 * bt h 10 + 1024 * bt h 8) 2048 (by omega) (by decide) (bt h 12) (bt01 h 12) (by omega) (by omega)]
  simp [bn_bt]
  try ((repeat' apply And.intro) <;> first | omega | (unfold wrap32; omega) | (exact es _ (by omega)))

set_option maxHeartbeats 4000000 in
theorem rb_16 (h : Int) (h0 : 0 ≤ h) (h1 : h < 65536) (hc : chk h [49, 48, 49, 108, 101, 106, 105, 107, 103, 104, 100, 99, 98, 102, 48, 49] = true) (hf : fitsI (⟨[99, 46, 106], 3, 0, 0, 0, (-2048), 2046, 2, 0, [49, 48, 49, 108, 101, 106, 105, 107, 103, 104, 100, 99, 98, 102, 48, 49]⟩ : PR) (rowI h (⟨[99, 46, 106], 3, 0, 0, 0, (-2048), 2046, 2, 0, [49, 48, 49, 108, 101, 106, 105, 107, 103, 104, 100, 99, 98, 102, 48, 49]⟩ : PR)) = true) :
    expI h = rowI h (⟨[99, 46, 106], 3, 0, 0, 0, (-2048), 2046, 2, 0, [49, 48, 49, 108, 101, 106, 105, 107, 103, 104, 100, 99, 98, 102, 48, 49]⟩ : PR) ∧ dgN h = 16 ∧ putV ((rowI h (⟨[99, 46, 106], 3, 0, 0, 0, (-2048), 2046, 2, 0, [49, 48, 49, 108, 101, 106, 105, 107, 103, 104, 100, 99, 98, 102, 48, 49]⟩ : PR)).rd % 4294967296) ((rowI h (⟨[99, 46, 106], 3, 0, 0, 0, (-2048), 2046, 2, 0, [49, 48, 49, 108, 101, 106, 105, 107, 103, 104, 100, 99, 98, 102, 48, 49]⟩ : PR)).rs1 % 4294967296) ((rowI h (⟨[99, 46, 106], 3, 0, 0, 0, (-2048), 2046, 2, 0, [49, 48, 49, 108, 101, 106, 105, 107, 103, 104, 100, 99, 98, 102, 48, 49]⟩ : PR)).rs2 % 4294967296) ((rowI h (⟨[99, 46, 106], 3, 0, 0, 0, (-2048), 2046, 2, 0, [49, 48, 49, 108, 101, 106, 105, 107, 103, 104, 100, 99, 98, 102, 48, 49]⟩ : PR)).imm % 4294967296) [49, 48, 49, 108, 101, 106, 105, 107, 103, 104, 100, 99, 98, 102, 48, 49] 0 = h := by
  rw [gi_16] at hf ⊢
  have hx := fld_bits h h0 h1
  rw [expI_bits, dgN_bits h h0 h1]
  clear h0 h1
  dsimp only
  rw [put_16]
  simp [chk, bn_iff] at hc
  have a0 := bt_bd h 0
  have a1 := bt_bd h 1
  have a2 := bt_bd h 2
  have a3 := bt_bd h 3
  have a4 := bt_bd h 4
  have a5 := bt_bd h 5
  have a6 := bt_bd h 6
  have a7 := bt_bd h 7
  have a8 := bt_bd h 8
  have a9 := bt_bd h 9
  have a10 := bt_bd h 10
  have a11 := bt_bd h 11
  have a12 := bt_bd h 12
  have a13 := bt_bd h 13
  have a14 := bt_bd h 14
  have a15 := bt_bd h 15
  generalize bt h 0 = b0 at *
  generalize bt h 1 = b1 at *
  generalize bt h 2 = b2 at *
  generalize bt h 3 = b3 at *
  generalize bt h 4 = b4 at *
  generalize bt h 5 = b5 at *
  generalize bt h 6 = b6 at *
  generalize bt h 7 = b7 at *
  generalize bt h 8 = b8 at *
  generalize bt h 9 = b9 at *
  generalize bt h 10 = b10 at *
  generalize bt h 11 = b11 at *
  generalize bt h 12 = b12 at *
  generalize bt h 13 = b13 at *
  generalize bt h 14 = b14 at *
  generalize bt h 15 = b15 at *
  obtain ⟨z15, z14, z13, z1, z0⟩ := hc
  subst z0 z1 z13 z14 z15
  simp [fitsI, fitsB, kindB] at hf
  refine ⟨?_, ?_, ?_⟩
  · simp only [expB]
    simp
    try (clear hx; first | rfl | ((repeat' split) <;> (first | rfl | (exfalso; omega) | (congr 1 <;> omega))) | (congr 1 <;> omega) | omega)
  · simp only [dgB]
    simp
    try (clear hx; first | rfl | ((repeat' split) <;> (first | rfl | (exfalso; omega) | omega)) | omega)
  · have p2 : (2 * b3 + 4 * b4 + 8 * b5 + 16 * b11 + 32 * b2 + 64 * b7 + 128 * b6 + 256 * b9 + 512 * b10 + 1024 * b8 - 2048 * b12) / 32 % 2 = b2 := by clear hx hf; omega
    have p3 : (2 * b3 + 4 * b4 + 8 * b5 + 16 * b11 + 32 * b2 + 64 * b7 + 128 * b6 + 256 * b9 + 512 * b10 + 1024 * b8 - 2048 * b12) / 2 % 2 = b3 := by clear hx hf p2; omega
    have p4 : (2 * b3 + 4 * b4 + 8 * b5 + 16 * b11 + 32 * b2 + 64 * b7 + 128 * b6 + 256 * b9 + 512 * b10 + 1024 * b8 - 2048 * b12) / 4 % 2 = b4 := by clear hx hf p2 p3; omega
    have p5 : (2 * b3 + 4 * b4 + 8 * b5 + 16 * b11 + 32 * b2 + 64 * b7 + 128 * b6 + 256 * b9 + 512 * b10 + 1024 * b8 - 2048 * b12) / 8 % 2 = b5 := by clear hx hf p2 p3 p4; omega
    have p6 : (2 * b3 + 4 * b4 + 8 * b5 + 16 * b11 + 32 * b2 + 64 * b7 + 128 * b6 + 256 * b9 + 512 * b10 + 1024 * b8 - 2048 * b12) / 128 % 2 = b6 := by clear hx hf p2 p3 p4 p5; omega
    have p7 : (2 * b3 + 4 * b4 + 8 * b5 + 16 * b11 + 32 * b2 + 64 * b7 + 128 * b6 + 256 * b9 + 512 * b10 + 1024 * b8 - 2048 * b12) / 64 % 2 = b7 := by clear hx hf p2 p3 p4 p5 p6; omega
    have p8 : (2 * b3 + 4 * b4 + 8 * b5 + 16 * b11 + 32 * b2 + 64 * b7 + 128 * b6 + 256 * b9 + 512 * b10 + 1024 * b8 - 2048 * b12) / 1024 % 2 = b8 := by clear hx hf p2 p3 p4 p5 p6 p7; omega
    have p9 : (2 * b3 + 4 * b4 + 8 * b5 + 16 * b11 + 32 * b2 + 64 * b7 + 128 * b6 + 256 * b9 + 512 * b10 + 1024 * b8 - 2048 * b12) / 256 % 2 = b9 := by clear hx hf p2 p3 p4 p5 p6 p7 p8; omega
    have p10 : (2 * b3 + 4 * b4 + 8 * b5 + 16 * b11 + 32 * b2 + 64 * b7 + 128 * b6 + 256 * b9 + 512 * b10 + 1024 * b8 - 2048 * b12) / 512 % 2 = b10 := by clear hx hf p2 p3 p4 p5 p6 p7 p8 p9; omega
    have p11 : (2 * b3 + 4 * b4 + 8 * b5 + 16 * b11 + 32 * b2 + 64 * b7 + 128 * b6 + 256 * b9 + 512 * b10 + 1024 * b8 - 2048 * b12) / 16 % 2 = b11 := by clear hx hf p2 p3 p4 p5 p6 p7 p8 p9 p10; omega
    have p12 : (2 * b3 + 4 * b4 + 8 * b5 + 16 * b11 + 32 * b2 + 64 * b7 + 128 * b6 + 256 * b9 + 512 * b10 + 1024 * b8 - 2048 * b12) / 2048 % 2 = b12 := by clear hx hf p2 p3 p4 p5 p6 p7 p8 p9 p10 p11; omega
    try rw [p2, p3, p4, p5, p6, p7, p8, p9, p10, p11, p12]
    clear hf
    omega

set_option maxHeartbeats 4000000 in
theorem rc_16 (h : Int) (h0 : 0 ≤ h) (h1 : h < 65536) (hd : dgN h = 16) (hf : fitsI (⟨[99, 46, 106], 3, 0, 0, 0, (-2048), 2046, 2, 0, [49, 48, 49, 108, 101, 106, 105, 107, 103, 104, 100, 99, 98, 102, 48, 49]⟩ : PR) (expI h) = true) : chk h [49, 48, 49, 108, 101, 106, 105, 107, 103, 104, 100, 99, 98, 102, 48, 49] = true := by
  rw [expI_bits] at hf
  rw [dgN_bits h h0 h1] at hd
  clear h0 h1
  simp [chk, bn_iff]
  have a0 := bt_bd h 0
  have a1 := bt_bd h 1
  have a2 := bt_bd h 2
  have a3 := bt_bd h 3
  have a4 := bt_bd h 4
  have a5 := bt_bd h 5
  have a6 := bt_bd h 6
  have a7 := bt_bd h 7
  have a8 := bt_bd h 8
  have a9 := bt_bd h 9
  have a10 := bt_bd h 10
  have a11 := bt_bd h 11
  have a12 := bt_bd h 12
  have a13 := bt_bd h 13
  have a14 := bt_bd h 14
  have a15 := bt_bd h 15
  generalize bt h 0 = b0 at *
  generalize bt h 1 = b1 at *
  generalize bt h 2 = b2 at *
  generalize bt h 3 = b3 at *
  generalize bt h 4 = b4 at *
  generalize bt h 5 = b5 at *
  generalize bt h 6 = b6 at *
  generalize bt h 7 = b7 at *
  generalize bt h 8 = b8 at *
  generalize bt h 9 = b9 at *
  generalize bt h 10 = b10 at *
  generalize bt h 11 = b11 at *
  generalize bt h 12 = b12 at *
  generalize bt h 13 = b13 at *
  generalize bt h 14 = b14 at *
  generalize bt h 15 = b15 at *
  have key : 8 * b0 + 16 * b1 + b13 + 2 * b14 + 4 * b15 = 13 := dg_key 16 _ _ _ _ _ _ _ _ _ _ _ _ _ _ _ _ a5 a6 a10 a11 (by omega) hd
  have z0 : b0 = 1 := by clear hf hd; omega
  have z1 : b1 = 0 := by clear hf hd; omega
  have z13 : b13 = 1 := by clear hf hd; omega
  have z14 : b14 = 0 := by clear hf hd; omega
  have z15 : b15 = 1 := by clear hf hd; omega
  clear key
  subst z0 z1 z13 z14 z15
  simp only [dgB] at hd
  simp at hd
  simp only [expB] at hf
  simp at hf
  try ((repeat' split at hd) <;> (first | (exfalso; omega) | ((repeat' split at hf) <;> (first | (exact absurd hf (by decide)) | ((try simp [fitsI, fitsB, kindB] at hf); omega)))))

theorem gi_17 (h : Int) : rowI h (⟨[99, 46, 98, 101, 113, 122], 5, 0, 4, 0, (-256), 254, 2, 0, [49, 49, 48, 105, 101, 100, 83, 83, 83, 104, 103, 99, 98, 102, 48, 49]⟩ : PR) = ⟨5, 0, 8 + bt h 7 + 2 * bt h 8 + 4 * bt h 9, 0, 2 * bt h 3 + 4 * bt h 4 + 8 * bt h 10 + 16 * bt h 11 + 32 * bt h 2 + 64 * bt h 5 + 128 * bt h 6 - 256 * bt h 12⟩ := by
  have e : getT h [49, 49, 48, 105, 101, 100, 83, 83, 83, 104, 103, 99, 98, 102, 48, 49] GS0 = ⟨((((((((0 + bn h 12 * 2 ^ 8) + bn h 11 * 2 ^ 4) + bn h 10 * 2 ^ 3) + bn h 6 * 2 ^ 7) + bn h 5 * 2 ^ 6) + bn h 4 * 2 ^ 2) + bn h 3 * 2 ^ 1) + bn h 2 * 2 ^ 5), (max (max (max (max (max (max (max (max 0 9) 5) 4) 8) 7) 3) 2) 6), 0, (2 * (2 * (2 * 0 + bn h 9) + bn h 8) + bn h 7), 0⟩ := rfl
  have h2 := bt_bd h 2
  have h3 := bt_bd h 3
  have h4 := bt_bd h 4
  have h5 := bt_bd h 5
  have h6 := bt_bd h 6
  have h7 := bt_bd h 7
  have h8 := bt_bd h 8
  have h9 := bt_bd h 9
  have h10 := bt_bd h 10
  have h11 := bt_bd h 11
  have h12 := bt_bd h 12
  unfold rowI
  show gsI (⟨[99, 46, 98, 101, 113, 122], 5, 0, 4, 0, (-256), 254, 2, 0, [49, 49, 48, 105, 101, 100, 83, 83, 83, 104, 103, 99, 98, 102, 48, 49]⟩ : PR) (getT h [49, 49, 48, 105, 101, 100, 83, 83, 83, 104, 103, 99, 98, 102, 48, 49] GS0) = _
  rw [e]
  clear e
  unfold gsI fullP
  have es : ∀ v, v = 2 * bt h 3 + 4 * bt h 4 + 8 * bt h 10 + 16 * bt h 11 + 32 * bt h 2 + 64 * bt h 5 + 128 * bt h 6 + 256 * bt h 12 → sgn v 9 = 2 * bt h 3 + 4 * bt h 4 + 8 * bt h 10 + 16 * bt h 11 + 32 * bt h 2 + 64 * bt h 5 + 128 * bt h 6 - 256 * bt h 12 := fun v hv => by
    rw [sgn_lin v 9 (2 * bt h 3 + 4 * bt h 4 + 8 * bt h 10 + 16 * bt h 11 + 32 * bt h 2 + 64 * bt h 5 + 128 * bt h 6) 256 (by omega) (by decide) (bt h 12) (bt01 h 12) (by omega) (by omega)]
  simp [bn_bt]
  try ((repeat' apply And.intro) <;> first | omega | (unfold wrap32; omega) | (exact es _ (by omega)))

set_option maxHeartbeats 4000000 in
theorem rb_17 (h : Int) (h0 : 0 ≤ h) (h1 : h < 65536) (hc : chk h [49, 49, 48, 105, 101, 100, 83, 83, 83, 104, 103, 99, 98, 102, 48, 49] = true) (hf : fitsI (⟨[99, 46, 98, 101, 113, 122], 5, 0, 4, 0, (-256), 254, 2, 0, [49, 49, 48, 105, 101, 100, 83, 83, 83, 104, 103, 99, 98, 102, 48, 49]⟩ : PR) (rowI h (⟨[99, 46, 98, 101, 113, 122], 5, 0, 4, 0, (-256), 254, 2, 0, [49, 49, 48, 105, 101, 100, 83, 83, 83, 104, 103, 99, 98, 102, 48, 49]⟩ : PR)) = true) :
    expI h = rowI h (⟨[99, 46, 98, 101, 113, 122], 5, 0, 4, 0, (-256), 254, 2, 0, [49, 49, 48, 105, 101, 100, 83, 83, 83, 104, 103, 99, 98, 102, 48, 49]⟩ : PR) ∧ dgN h = 17 ∧ putV ((rowI h (⟨[99, 46, 98, 101, 113, 122], 5, 0, 4, 0, (-256), 254, 2, 0, [49, 49, 48, 105, 101, 100, 83, 83, 83, 104, 103, 99, 98, 102, 48, 49]⟩ : PR)).rd % 4294967296) ((rowI h (⟨[99, 46, 98, 101, 113, 122], 5, 0, 4, 0, (-256), 254, 2, 0, [49, 49, 48, 105, 101, 100, 83, 83, 83, 104, 103, 99, 98, 102, 48, 49]⟩ : PR)).rs1 % 4294967296) ((rowI h (⟨[99, 46, 98, 101, 113, 122], 5, 0, 4, 0, (-256), 254, 2, 0, [49, 49, 48, 105, 101, 100, 83, 83, 83, 104, 103, 99, 98, 102, 48, 49]⟩ : PR)).rs2 % 4294967296) ((rowI h (⟨[99, 46, 98, 101, 113, 122], 5, 0, 4, 0, (-256), 254, 2, 0, [49, 49, 48, 105, 101, 100, 83, 83, 83, 104, 103, 99, 98, 102, 48, 49]⟩ : PR)).imm % 4294967296) [49, 49, 48, 105, 101, 100, 83, 83, 83, 104, 103, 99, 98, 102, 48, 49] 0 = h := by
  rw [gi_17] at hf ⊢
  have hx := fld_bits h h0 h1
  rw [expI_bits, dgN_bits h h0 h1]
  clear h0 h1
  dsimp only
  rw [put_17]
  simp [chk, bn_iff] at hc
  have a0 := bt_bd h 0
  have a1 := bt_bd h 1
  have a2 := bt_bd h 2
  have a3 := bt_bd h 3
  have a4 := bt_bd h 4
  have a5 := bt_bd h 5
  have a6 := bt_bd h 6
  have a7 := bt_bd h 7
  have a8 := bt_bd h 8
  have a9 := bt_bd h 9
  have a10 := bt_bd h 10
  have a11 := bt_bd h 11
  have a12 := bt_bd h 12
  have a13 := bt_bd h 13
  have a14 := bt_bd h 14
  have a15 := bt_bd h 15
  generalize bt h 0 = b0 at *
  generalize bt h 1 = b1 at *
  generalize bt h 2 = b2 at *
  generalize bt h 3 = b3 at *
  generalize bt h 4 = b4 at *
  generalize bt h 5 = b5 at *
  generalize bt h 6 = b6 at *
  generalize bt h 7 = b7 at *
  generalize bt h 8 = b8 at *
  generalize bt h 9 = b9 at *
  generalize bt h 10 = b10 at *
  generalize bt h 11 = b11 at *
  generalize bt h 12 = b12 at *
  generalize bt h 13 = b13 at *
  generalize bt h 14 = b14 at *
  generalize bt h 15 = b15 at *
  obtain ⟨z15, z14, z13, z1, z0⟩ := hc
  subst z0 z1 z13 z14 z15
  simp [fitsI, fitsB, kindB] at hf
  refine ⟨?_, ?_, ?_⟩
  · simp only [expB]
    simp
    try (clear hx; first | rfl | ((repeat' split) <;> (first | rfl | (exfalso; omega) | (congr 1 <;> omega))) | (congr 1 <;> omega) | omega)
  · simp only [dgB]
    simp
    try (clear hx; first | rfl | ((repeat' split) <;> (first | rfl | (exfalso; omega) | omega)) | omega)
  · have p2 : (2 * b3 + 4 * b4 + 8 * b10 + 16 * b11 + 32 * b2 + 64 * b5 + 128 * b6 - 256 * b12) / 32 % 2 = b2 := by clear hx hf; omega
    have p3 : (2 * b3 + 4 * b4 + 8 * b10 + 16 * b11 + 32 * b2 + 64 * b5 + 128 * b6 - 256 * b12) / 2 % 2 = b3 := by clear hx hf p2; omega
    have p4 : (2 * b3 + 4 * b4 + 8 * b10 + 16 * b11 + 32 * b2 + 64 * b5 + 128 * b6 - 256 * b12) / 4 % 2 = b4 := by clear hx hf p2 p3; omega
    have p5 : (2 * b3 + 4 * b4 + 8 * b10 + 16 * b11 + 32 * b2 + 64 * b5 + 128 * b6 - 256 * b12) / 64 % 2 = b5 := by clear hx hf p2 p3 p4; omega
    have p6 : (2 * b3 + 4 * b4 + 8 * b10 + 16 * b11 + 32 * b2 + 64 * b5 + 128 * b6 - 256 * b12) / 128 % 2 = b6 := by clear hx hf p2 p3 p4 p5; omega
    have p7 : (8 + b7 + 2 * b8 + 4 * b9) / 1 % 2 = b7 := by clear hx hf p2 p3 p4 p5 p6; omega
    have p8 : (8 + b7 + 2 * b8 + 4 * b9) / 2 % 2 = b8 := by clear hx hf p2 p3 p4 p5 p6 p7; omega
    have p9 : (8 + b7 + 2 * b8 + 4 * b9) / 4 % 2 = b9 := by clear hx hf p2 p3 p4 p5 p6 p7 p8; omega
    have p10 : (2 * b3 + 4 * b4 + 8 * b10 + 16 * b11 + 32 * b2 + 64 * b5 + 128 * b6 - 256 * b12) / 8 % 2 = b10 := by clear hx hf p2 p3 p4 p5 p6 p7 p8 p9; omega
    have p11 : (2 * b3 + 4 * b4 + 8 * b10 + 16 * b11 + 32 * b2 + 64 * b5 + 128 * b6 - 256 * b12) / 16 % 2 = b11 := by clear hx hf p2 p3 p4 p5 p6 p7 p8 p9 p10; omega
    have p12 : (2 * b3 + 4 * b4 + 8 * b10 + 16 * b11 + 32 * b2 + 64 * b5 + 128 * b6 - 256 * b12) / 256 % 2 = b12 := by clear hx hf p2 p3 p4 p5 p6 p7 p8 p9 p10 p11; omega
    try rw [p2, p3, p4, p5, p6, p7, p8, p9, p10, p11, p12]
    clear hf
    omega

set_option maxHeartbeats 4000000 in
theorem rc_17 (h : Int) (h0 : 0 ≤ h) (h1 : h < 65536) (hd : dgN h = 17) (hf : fitsI (⟨[99, 46, 98, 101, 113, 122], 5, 0, 4, 0, (-256), 254, 2, 0, [49, 49, 48, 105, 101, 100, 83, 83, 83, 104, 103, 99, 98, 102, 48, 49]⟩ : PR) (expI h) = true) : chk h [49, 49, 48, 105, 101, 100, 83, 83, 83, 104, 103, 99, 98, 102, 48, 49] = true := by
  rw [expI_bits] at hf
  rw [dgN_bits h h0 h1] at hd
  clear h0 h1
  simp [chk, bn_iff]
  have a0 := bt_bd h 0
  have a1 := bt_bd h 1
  have a2 := bt_bd h 2
  have a3 := bt_bd h 3
  have a4 := bt_bd h 4
  have a5 := bt_bd h 5
  have a6 := bt_bd h 6
  have a7 := bt_bd h 7
  have a8 := bt_bd h 8
  have a9 := bt_bd h 9
  have a10 := bt_bd h 10
  have a11 := bt_bd h 11
  have a12 := bt_bd h 12
  have a13 := bt_bd h 13
  have a14 := bt_bd h 14
  have a15 := bt_bd h 15
  generalize bt h 0 = b0 at *
  generalize bt h 1 = b1 at *
  generalize bt h 2 = b2 at *
  generalize bt h 3 = b3 at *
  generalize bt h 4 = b4 at *
  generalize bt h 5 = b5 at *
  generalize bt h 6 = b6 at *
  generalize bt h 7 = b7 at *
  generalize bt h 8 = b8 at *
  generalize bt h 9 = b9 at *
  generalize bt h 10 = b10 at *
  generalize bt h 11 = b11 at *
  generalize bt h 12 = b12 at *
  generalize bt h 13 = b13 at *
  generalize bt h 14 = b14 at *
  generalize bt h 15 = b15 at *
  have key : 8 * b0 + 16 * b1 + b13 + 2 * b14 + 4 * b15 = 14 := dg_key 17 _ _ _ _ _ _ _ _ _ _ _ _ _ _ _ _ a5 a6 a10 a11 (by omega) hd
  have z0 : b0 = 1 := by clear hf hd; omega
  have z1 : b1 = 0 := by clear hf hd; omega
  have z13 : b13 = 0 := by clear hf hd; omega
  have z14 : b14 = 1 := by clear hf hd; omega
  have z15 : b15 = 1 := by clear hf hd; omega
  clear key
  subst z0 z1 z13 z14 z15
  simp only [dgB] at hd
  simp at hd
  simp only [expB] at hf
  simp at hf
  try ((repeat' split at hd) <;> (first | (exfalso; omega) | ((repeat' split at hf) <;> (first | (exact absurd hf (by decide)) | ((try simp [fitsI, fitsB, kindB] at hf); omega)))))

end Go.Proofs.Ytppnmaklggkogaa

