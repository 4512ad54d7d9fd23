/- Parts of the proof, one behind the other. -/
import Derived.Test.YtppnmaklggkogaaZao
import Derived.Test.YtppnmaklggkogaaZaw
/- Plain: row by row, what a row reads is what the machine expands, and is put as it was. -/
namespace Go.Proofs.Ytppnmaklggkogaa
open Go.RowKit
set_option linter.unusedVariables false
set_option linter.unusedSimpArgs false

theorem gi_18 (h : Int) : rowI h (⟨[99, 46, 98, 110, 101, 122], 6, 0, 4, 0, (-256), 254, 2, 0, [49, 49, 49, 105, 101, 100, 83, 83, 83, 104, 103, 99, 98, 102, 48, 49]⟩ : PR) = ⟨6, 0, 8 + bt h 7 + 2 * bt h 8 + 4 * bt h 9, 0, 2 * bt h 3 + 4 * bt h 4 + 8 * bt h 10 + 16 * bt h 11 + 32 * bt h 2 + 64 * bt h 5 + 128 * bt h 6 - 256 * bt h 12⟩ := by
  have e : getT h [49, 49, 49, 105, 101, 100, 83, 83, 83, 104, 103, 99, 98, 102, 48, 49] GS0 = ⟨((((((((0 + bn h 12 * 2 ^ 8) + bn h 11 * 2 ^ 4) + bn h 10 * 2 ^ 3) + bn h 6 * 2 ^ 7) + bn h 5 * 2 ^ 6) + bn h 4 * 2 ^ 2) + bn h 3 * 2 ^ 1) + bn h 2 * 2 ^ 5), (max (max (max (max (max (max (max (max 0 9) 5) 4) 8) 7) 3) 2) 6), 0, (2 * (2 * (2 * 0 + bn h 9) + bn h 8) + bn h 7), 0⟩ := rfl
  have h2 := bt_bd h 2
  have h3 := bt_bd h 3
  have h4 := bt_bd h 4
  have h5 := bt_bd h 5
  have h6 := bt_bd h 6
  have h7 := bt_bd h 7
  have h8 := bt_bd h 8
  have h9 := bt_bd h 9
  have h10 := bt_bd h 10
  have h11 := bt_bd h 11
  have h12 := bt_bd h 12
  unfold rowI
  show gsI (⟨[99, 46, 98, 110, 101, 122], 6, 0, 4, 0, (-256), 254, 2, 0, [49, 49, 49, 105, 101, 100, 83, 83, 83, 104, 103, 99, 98, 102, 48, 49]⟩ : PR) (getT h [49, 49, 49, 105, 101, 100, 83, 83, 83, 104, 103, 99, 98, 102, 48, 49] GS0) = _
  rw [e]
  clear e
  unfold gsI fullP
  have es : ∀ v, v = 2 * bt h 3 + 4 * bt h 4 + 8 * bt h 10 + 16 * bt h 11 + 32 * bt h 2 + 64 * bt h 5 + 128 * bt h 6 + 256 * bt h 12 → sgn v 9 = 2 * bt h 3 + 4 * bt h 4 + 8 * bt h 10 + 16 * bt h 11 + 32 * bt h 2 + 64 * bt h 5 + 128 * bt h 6 - 256 * bt h 12 := fun v hv => by
    rw [sgn_lin v 9 (2 * bt h 3 + 4 * bt h 4 + 8 * bt h 10 + 16 * bt h 11 + 32 * bt h 2 + 64 * bt h 5 + 128 * bt h 6) 256 (by omega) (by decide) (bt h 12) (bt01 h 12) (by omega) (by omega)]
  simp [bn_bt]
  try ((repeat' apply And.intro) <;> first | omega | (unfold wrap32; omega) | (exact es _ (by omega)))

set_option maxHeartbeats 4000000 in
theorem rb_18 (h : Int) (h0 : 0 ≤ h) (h1 : h < 65536) (hc : chk h [49, 49, 49, 105, 101, 100, 83, 83, 83, 104, 103, 99, 98, 102, 48, 49] = true) (hf : fitsI (⟨[99, 46, 98, 110, 101, 122], 6, 0, 4, 0, (-256), 254, 2, 0, [49, 49, 49, 105, 101, 100, 83, 83, 83, 104, 103, 99, 98, 102, 48, 49]⟩ : PR) (rowI h (⟨[99, 46, 98, 110, 101, 122], 6, 0, 4, 0, (-256), 254, 2, 0, [49, 49, 49, 105, 101, 100, 83, 83, 83, 104, 103, 99, 98, 102, 48, 49]⟩ : PR)) = true) :
    expI h = rowI h (⟨[99, 46, 98, 110, 101, 122], 6, 0, 4, 0, (-256), 254, 2, 0, [49, 49, 49, 105, 101, 100, 83, 83, 83, 104, 103, 99, 98, 102, 48, 49]⟩ : PR) ∧ dgN h = 18 ∧ putV ((rowI h (⟨[99, 46, 98, 110, 101, 122], 6, 0, 4, 0, (-256), 254, 2, 0, [49, 49, 49, 105, 101, 100, 83, 83, 83, 104, 103, 99, 98, 102, 48, 49]⟩ : PR)).rd % 4294967296) ((rowI h (⟨[99, 46, 98, 110, 101, 122], 6, 0, 4, 0, (-256), 254, 2, 0, [49, 49, 49, 105, 101, 100, 83, 83, 83, 104, 103, 99, 98, 102, 48, 49]⟩ : PR)).rs1 % 4294967296) ((rowI h (⟨[99, 46, 98, 110, 101, 122], 6, 0, 4, 0, (-256), 254, 2, 0, [49, 49, 49, 105, 101, 100, 83, 83, 83, 104, 103, 99, 98, 102, 48, 49]⟩ : PR)).rs2 % 4294967296) ((rowI h (⟨[99, 46, 98, 110, 101, 122], 6, 0, 4, 0, (-256), 254, 2, 0, [49, 49, 49, 105, 101, 100, 83, 83, 83, 104, 103, 99, 98, 102, 48, 49]⟩ : PR)).imm % 4294967296) [49, 49, 49, 105, 101, 100, 83, 83, 83, 104, 103, 99, 98, 102, 48, 49] 0 = h := by
  rw [gi_18] at hf ⊢
  have hx := fld_bits h h0 h1
  rw [expI_bits, dgN_bits h h0 h1]
  clear h0 h1
  dsimp only
  rw [put_18]
  simp [chk, bn_iff] at hc
  have a0 := bt_bd h 0
  have a1 := bt_bd h 1
  have a2 := bt_bd h 2
  have a3 := bt_bd h 3
  have a4 := bt_bd h 4
  have a5 := bt_bd h 5
  have a6 := bt_bd h 6
  have a7 := bt_bd h 7
  have a8 := bt_bd h 8
  have a9 := bt_bd h 9
  have a10 := bt_bd h 10
  have a11 := bt_bd h 11
  have a12 := bt_bd h 12
  have a13 := bt_bd h 13
  have a14 := bt_bd h 14
  have a15 := bt_bd h 15
  generalize bt h 0 = b0 at *
  generalize bt h 1 = b1 at *
  generalize bt h 2 = b2 at *
  generalize bt h 3 = b3 at *
  generalize bt h 4 = b4 at *
  generalize bt h 5 = b5 at *
  generalize bt h 6 = b6 at *
  generalize bt h 7 = b7 at *
  generalize bt h 8 = b8 at *
  generalize bt h 9 = b9 at *
  generalize bt h 10 = b10 at *
  generalize bt h 11 = b11 at *
  generalize bt h 12 = b12 at *
  generalize bt h 13 = b13 at *
  generalize bt h 14 = b14 at *
  generalize bt h 15 = b15 at *
  obtain ⟨z15, z14, z13, z1, z0⟩ := hc
  subst z0 z1 z13 z14 z15
  simp [fitsI, fitsB, kindB] at hf
  refine ⟨?_, ?_, ?_⟩
  · simp only [expB]
    simp
    try (clear hx; first | rfl | ((repeat' split) <;> (first | rfl | (exfalso; omega) | (congr 1 <;> omega))) | (congr 1 <;> omega) | omega)
  · simp only [dgB]
    simp
    try (clear hx; first | rfl | ((repeat' split) <;> (first | rfl | (exfalso; omega) | omega)) | omega)
  · have p2 : (2 * b3 + 4 * b4 + 8 * b10 + 16 * b11 + 32 * b2 + 64 * b5 + 128 * b6 - 256 * b12) / 32 % 2 = b2 := by clear hx hf; omega
    have p3 : (2 * b3 + 4 * b4 + 8 * b10 + 16 * b11 + 32 * b2 + 64 * b5 + 128 * b6 - 256 * b12) / 2 % 2 = b3 := by clear hx hf p2; omega
    have p4 : (2 * b3 + 4 * b4 + 8 * b10 + 16 * b11 + 32 * b2 + 64 * b5 + 128 * b6 - 256 * b12) / 4 % 2 = b4 := by clear hx hf p2 p3; omega
    have p5 : (2 * b3 + 4 * b4 + 8 * b10 + 16 * b11 + 32 * b2 + 64 * b5 + 128 * b6 - 256 * b12) / 64 % 2 = b5 := by clear hx hf p2 p3 p4; omega
    have p6 : (2 * b3 + 4 * b4 + 8 * b10 + 16 * b11 + 32 * b2 + 64 * b5 + 128 * b6 - 256 * b12) / 128 % 2 = b6 := by clear hx hf p2 p3 p4 p5; omega
    have p7 : (8 + b7 + 2 * b8 + 4 * b9) / 1 % 2 = b7 := by clear hx hf p2 p3 p4 p5 p6; omega
    have p8 : (8 + b7 + 2 * b8 + 4 * b9) / 2 % 2 = b8 := by clear hx hf p2 p3 p4 p5 p6 p7; omega
    have p9 : (8 + b7 + 2 * b8 + 4 * b9) / 4 % 2 = b9 := by clear hx hf p2 p3 p4 p5 p6 p7 p8; omega
    have p10 : (2 * b3 + 4 * b4 + 8 * b10 + 16 * b11 + 32 * b2 + 64 * b5 + 128 * b6 - 256 * b12) / 8 % 2 = b10 := by clear hx hf p2 p3 p4 p5 p6 p7 p8 p9; omega
    have p11 : (2 * b3 + 4 * b4 + 8 * b10 + 16 * b11 + 32 * b2 + 64 * b5 + 128 * b6 - 256 * b12) / 16 % 2 = b11 := by clear hx hf p2 p3 p4 p5 p6 p7 p8 p9 p10; omega
    have p12 : (2 * b3 + 4 * b4 + 8 * b10 + 16 * b11 + 32 * b2 + 64 * b5 + 128 * b6 - 256 * b12) / 256 % 2 = b12 := by clear hx hf p2 p3 p4 p5 p6 p7 p8 p9 p10 p11; omega
    try rw [p2, p3, p4, p5, p6, p7, p8, p9, p10, p11, p12]
    clear hf
    omega

set_option maxHeartbeats 4000000 in
theorem rc_18 (h : Int) (h0 : 0 ≤ h) (h1 : h < 65536) (hd : dgN h = 18) (hf : fitsI (⟨[99, 46, 98, 110, 101, 122], 6, 0, 4, 0, (-256), 254, 2, 0, [49, 49, 49, 105, 101, 100, 83, 83, 83, 104, 103, 99, 98, 102, 48, 49]⟩ : PR) (expI h) = true) : chk h [49, 49, 49, 105, 101, 100, 83, 83, 83, 104, 103, 99, 98, 102, 48, 49] = true := by
  rw [expI_bits] at hf
  rw [dgN_bits h h0 h1] at hd
  clear h0 h1
  simp [chk, bn_iff]
  have a0 := bt_bd h 0
  have a1 := bt_bd h 1
  have a2 := bt_bd h 2
  have a3 := bt_bd h 3
  have a4 := bt_bd h 4
  have a5 := bt_bd h 5
  have a6 := bt_bd h 6
  have a7 := bt_bd h 7
  have a8 := bt_bd h 8
  have a9 := bt_bd h 9
  have a10 := bt_bd h 10
  have a11 := bt_bd h 11
  have a12 := bt_bd h 12
  have a13 := bt_bd h 13
  have a14 := bt_bd h 14
  have a15 := bt_bd h 15
  generalize bt h 0 = b0 at *
  generalize bt h 1 = b1 at *
  generalize bt h 2 = b2 at *
  generalize bt h 3 = b3 at *
  generalize bt h 4 = b4 at *
  generalize bt h 5 = b5 at *
  generalize bt h 6 = b6 at *
  generalize bt h 7 = b7 at *
  generalize bt h 8 = b8 at *
  generalize bt h 9 = b9 at *
  generalize bt h 10 = b10 at *
  generalize bt h 11 = b11 at *
  generalize bt h 12 = b12 at *
  generalize bt h 13 = b13 at *
  generalize bt h 14 = b14 at *
  generalize bt h 15 = b15 at *
  have key : 8 * b0 + 16 * b1 + b13 + 2 * b14 + 4 * b15 = 15 := dg_key 18 _ _ _ _ _ _ _ _ _ _ _ _ _ _ _ _ a5 a6 a10 a11 (by omega) hd
  have z0 : b0 = 1 := by clear hf hd; omega
  have z1 : b1 = 0 := by clear hf hd; omega
  have z13 : b13 = 1 := by clear hf hd; omega
  have z14 : b14 = 1 := by clear hf hd; omega
  have z15 : b15 = 1 := by clear hf hd; omega
  clear key
  subst z0 z1 z13 z14 z15
  simp only [dgB] at hd
  simp at hd
  simp only [expB] at hf
  simp at hf
  try ((repeat' split at hd) <;> (first | (exfalso; omega) | ((repeat' split at hf) <;> (first | (exact absurd hf (by decide)) | ((try simp [fitsI, fitsB, kindB] at hf); omega)))))

theorem gi_19 (h : Int) : rowI h (⟨[99, 46, 115, 108, 108, 105], 25, 5, 7, 0, 1, 31, 1, 0, [48, 48, 48, 48, 68, 68, 68, 68, 68, 101, 100, 99, 98, 97, 49, 48]⟩ : PR) = ⟨25, bt h 7 + 2 * bt h 8 + 4 * bt h 9 + 8 * bt h 10 + 16 * bt h 11, bt h 7 + 2 * bt h 8 + 4 * bt h 9 + 8 * bt h 10 + 16 * bt h 11, 0, bt h 2 + 2 * bt h 3 + 4 * bt h 4 + 8 * bt h 5 + 16 * bt h 6⟩ := by
  have e : getT h [48, 48, 48, 48, 68, 68, 68, 68, 68, 101, 100, 99, 98, 97, 49, 48] GS0 = ⟨(((((0 + bn h 6 * 2 ^ 4) + bn h 5 * 2 ^ 3) + bn h 4 * 2 ^ 2) + bn h 3 * 2 ^ 1) + bn h 2 * 2 ^ 0), (max (max (max (max (max 0 5) 4) 3) 2) 1), (2 * (2 * (2 * (2 * (2 * 0 + bn h 11) + bn h 10) + bn h 9) + bn h 8) + bn h 7), 0, 0⟩ := rfl
  have h2 := bt_bd h 2
  have h3 := bt_bd h 3
  have h4 := bt_bd h 4
  have h5 := bt_bd h 5
  have h6 := bt_bd h 6
  have h7 := bt_bd h 7
  have h8 := bt_bd h 8
  have h9 := bt_bd h 9
  have h10 := bt_bd h 10
  have h11 := bt_bd h 11
  unfold rowI
  show gsI (⟨[99, 46, 115, 108, 108, 105], 25, 5, 7, 0, 1, 31, 1, 0, [48, 48, 48, 48, 68, 68, 68, 68, 68, 101, 100, 99, 98, 97, 49, 48]⟩ : PR) (getT h [48, 48, 48, 48, 68, 68, 68, 68, 68, 101, 100, 99, 98, 97, 49, 48] GS0) = _
  rw [e]
  clear e
  unfold gsI fullP
  simp [bn_bt]
  try ((repeat' apply And.intro) <;> first | omega | (unfold wrap32; omega))

set_option maxHeartbeats 4000000 in
theorem rb_19 (h : Int) (h0 : 0 ≤ h) (h1 : h < 65536) (hc : chk h [48, 48, 48, 48, 68, 68, 68, 68, 68, 101, 100, 99, 98, 97, 49, 48] = true) (hf : fitsI (⟨[99, 46, 115, 108, 108, 105], 25, 5, 7, 0, 1, 31, 1, 0, [48, 48, 48, 48, 68, 68, 68, 68, 68, 101, 100, 99, 98, 97, 49, 48]⟩ : PR) (rowI h (⟨[99, 46, 115, 108, 108, 105], 25, 5, 7, 0, 1, 31, 1, 0, [48, 48, 48, 48, 68, 68, 68, 68, 68, 101, 100, 99, 98, 97, 49, 48]⟩ : PR)) = true) :
    expI h = rowI h (⟨[99, 46, 115, 108, 108, 105], 25, 5, 7, 0, 1, 31, 1, 0, [48, 48, 48, 48, 68, 68, 68, 68, 68, 101, 100, 99, 98, 97, 49, 48]⟩ : PR) ∧ dgN h = 19 ∧ putV ((rowI h (⟨[99, 46, 115, 108, 108, 105], 25, 5, 7, 0, 1, 31, 1, 0, [48, 48, 48, 48, 68, 68, 68, 68, 68, 101, 100, 99, 98, 97, 49, 48]⟩ : PR)).rd % 4294967296) ((rowI h (⟨[99, 46, 115, 108, 108, 105], 25, 5, 7, 0, 1, 31, 1, 0, [48, 48, 48, 48, 68, 68, 68, 68, 68, 101, 100, 99, 98, 97, 49, 48]⟩ : PR)).rs1 % 4294967296) ((rowI h (⟨[99, 46, 115, 108, 108, 105], 25, 5, 7, 0, 1, 31, 1, 0, [48, 48, 48, 48, 68, 68, 68, 68, 68, 101, 100, 99, 98, 97, 49, 48]⟩ : PR)).rs2 % 4294967296) ((rowI h (⟨[99, 46, 115, 108, 108, 105], 25, 5, 7, 0, 1, 31, 1, 0, [48, 48, 48, 48, 68, 68, 68, 68, 68, 101, 100, 99, 98, 97, 49, 48]⟩ : PR)).imm % 4294967296) [48, 48, 48, 48, 68, 68, 68, 68, 68, 101, 100, 99, 98, 97, 49, 48] 0 = h := by
  rw [gi_19] at hf ⊢
  have hx := fld_bits h h0 h1
  rw [expI_bits, dgN_bits h h0 h1]
  clear h0 h1
  dsimp only
  rw [put_19]
  simp [chk, bn_iff] at hc
  have a0 := bt_bd h 0
  have a1 := bt_bd h 1
  have a2 := bt_bd h 2
  have a3 := bt_bd h 3
  have a4 := bt_bd h 4
  have a5 := bt_bd h 5
  have a6 := bt_bd h 6
  have a7 := bt_bd h 7
  have a8 := bt_bd h 8
  have a9 := bt_bd h 9
  have a10 := bt_bd h 10
  have a11 := bt_bd h 11
  have a12 := bt_bd h 12
  have a13 := bt_bd h 13
  have a14 := bt_bd h 14
  have a15 := bt_bd h 15
  generalize bt h 0 = b0 at *
  generalize bt h 1 = b1 at *
  generalize bt h 2 = b2 at *
  generalize bt h 3 = b3 at *
  generalize bt h 4 = b4 at *
  generalize bt h 5 = b5 at *
  generalize bt h 6 = b6 at *
  generalize bt h 7 = b7 at *
  generalize bt h 8 = b8 at *
  generalize bt h 9 = b9 at *
  generalize bt h 10 = b10 at *
  generalize bt h 11 = b11 at *
  generalize bt h 12 = b12 at *
  generalize bt h 13 = b13 at *
  generalize bt h 14 = b14 at *
  generalize bt h 15 = b15 at *
  obtain ⟨z15, z14, z13, z12, z1, z0⟩ := hc
  subst z0 z1 z12 z13 z14 z15
  simp [fitsI, fitsB, kindB] at hf
  refine ⟨?_, ?_, ?_⟩
  · simp only [expB]
    simp
    try (clear hx; first | rfl | ((repeat' split) <;> (first | rfl | (exfalso; omega) | (congr 1 <;> omega))) | (congr 1 <;> omega) | omega)
  · simp only [dgB]
    simp
    try (clear hx; first | rfl | ((repeat' split) <;> (first | rfl | (exfalso; omega) | omega)) | omega)
  · have p2 : (b2 + 2 * b3 + 4 * b4 + 8 * b5 + 16 * b6) / 1 % 2 = b2 := by clear hx hf; omega
    have p3 : (b2 + 2 * b3 + 4 * b4 + 8 * b5 + 16 * b6) / 2 % 2 = b3 := by clear hx hf p2; omega
    have p4 : (b2 + 2 * b3 + 4 * b4 + 8 * b5 + 16 * b6) / 4 % 2 = b4 := by clear hx hf p2 p3; omega
    have p5 : (b2 + 2 * b3 + 4 * b4 + 8 * b5 + 16 * b6) / 8 % 2 = b5 := by clear hx hf p2 p3 p4; omega
    have p6 : (b2 + 2 * b3 + 4 * b4 + 8 * b5 + 16 * b6) / 16 % 2 = b6 := by clear hx hf p2 p3 p4 p5; omega
    have p7 : (b7 + 2 * b8 + 4 * b9 + 8 * b10 + 16 * b11) / 1 % 2 = b7 := by clear hx hf p2 p3 p4 p5 p6; omega
    have p8 : (b7 + 2 * b8 + 4 * b9 + 8 * b10 + 16 * b11) / 2 % 2 = b8 := by clear hx hf p2 p3 p4 p5 p6 p7; omega
    have p9 : (b7 + 2 * b8 + 4 * b9 + 8 * b10 + 16 * b11) / 4 % 2 = b9 := by clear hx hf p2 p3 p4 p5 p6 p7 p8; omega
    have p10 : (b7 + 2 * b8 + 4 * b9 + 8 * b10 + 16 * b11) / 8 % 2 = b10 := by clear hx hf p2 p3 p4 p5 p6 p7 p8 p9; omega
    have p11 : (b7 + 2 * b8 + 4 * b9 + 8 * b10 + 16 * b11) / 16 % 2 = b11 := by clear hx hf p2 p3 p4 p5 p6 p7 p8 p9 p10; omega
    try rw [p2, p3, p4, p5, p6, p7, p8, p9, p10, p11]
    clear hf
    omega

set_option maxHeartbeats 4000000 in
theorem rc_19 (h : Int) (h0 : 0 ≤ h) (h1 : h < 65536) (hd : dgN h = 19) (hf : fitsI (⟨[99, 46, 115, 108, 108, 105], 25, 5, 7, 0, 1, 31, 1, 0, [48, 48, 48, 48, 68, 68, 68, 68, 68, 101, 100, 99, 98, 97, 49, 48]⟩ : PR) (expI h) = true) : chk h [48, 48, 48, 48, 68, 68, 68, 68, 68, 101, 100, 99, 98, 97, 49, 48] = true := by
  rw [expI_bits] at hf
  rw [dgN_bits h h0 h1] at hd
  clear h0 h1
  simp [chk, bn_iff]
  have a0 := bt_bd h 0
  have a1 := bt_bd h 1
  have a2 := bt_bd h 2
  have a3 := bt_bd h 3
  have a4 := bt_bd h 4
  have a5 := bt_bd h 5
  have a6 := bt_bd h 6
  have a7 := bt_bd h 7
  have a8 := bt_bd h 8
  have a9 := bt_bd h 9
  have a10 := bt_bd h 10
  have a11 := bt_bd h 11
  have a12 := bt_bd h 12
  have a13 := bt_bd h 13
  have a14 := bt_bd h 14
  have a15 := bt_bd h 15
  generalize bt h 0 = b0 at *
  generalize bt h 1 = b1 at *
  generalize bt h 2 = b2 at *
  generalize bt h 3 = b3 at *
  generalize bt h 4 = b4 at *
  generalize bt h 5 = b5 at *
  generalize bt h 6 = b6 at *
  generalize bt h 7 = b7 at *
  generalize bt h 8 = b8 at *
  generalize bt h 9 = b9 at *
  generalize bt h 10 = b10 at *
  generalize bt h 11 = b11 at *
  generalize bt h 12 = b12 at *
  generalize bt h 13 = b13 at *
  generalize bt h 14 = b14 at *
  generalize bt h 15 = b15 at *
  have key : 8 * b0 + 16 * b1 + b13 + 2 * b14 + 4 * b15 = 16 := dg_key 19 _ _ _ _ _ _ _ _ _ _ _ _ _ _ _ _ a5 a6 a10 a11 (by omega) hd
  have z0 : b0 = 0 := by clear hf hd; omega
  have z1 : b1 = 1 := by clear hf hd; omega
  have z13 : b13 = 0 := by clear hf hd; omega
  have z14 : b14 = 0 := by clear hf hd; omega
  have z15 : b15 = 0 := by clear hf hd; omega
  clear key
  subst z0 z1 z13 z14 z15
  simp only [dgB] at hd
  simp at hd
  simp only [expB] at hf
  simp at hf
  try ((repeat' split at hd) <;> (first | (exfalso; omega) | ((repeat' split at hf) <;> (first | (exact absurd hf (by decide)) | ((try simp [fitsI, fitsB, kindB] at hf); omega)))))

theorem gi_20 (h : Int) : rowI h (⟨[99, 46, 108, 119, 115, 112], 13, 5, 2, 0, 0, 252, 4, 0, [48, 49, 48, 102, 68, 68, 68, 68, 68, 101, 100, 99, 104, 103, 49, 48]⟩ : PR) = ⟨13, bt h 7 + 2 * bt h 8 + 4 * bt h 9 + 8 * bt h 10 + 16 * bt h 11, 2, 0, 4 * bt h 4 + 8 * bt h 5 + 16 * bt h 6 + 32 * bt h 12 + 64 * bt h 2 + 128 * bt h 3⟩ := by
  have e : getT h [48, 49, 48, 102, 68, 68, 68, 68, 68, 101, 100, 99, 104, 103, 49, 48] GS0 = ⟨((((((0 + bn h 12 * 2 ^ 5) + bn h 6 * 2 ^ 4) + bn h 5 * 2 ^ 3) + bn h 4 * 2 ^ 2) + bn h 3 * 2 ^ 7) + bn h 2 * 2 ^ 6), (max (max (max (max (max (max 0 6) 5) 4) 3) 8) 7), (2 * (2 * (2 * (2 * (2 * 0 + bn h 11) + bn h 10) + bn h 9) + bn h 8) + bn h 7), 0, 0⟩ := rfl
  have h2 := bt_bd h 2
  have h3 := bt_bd h 3
  have h4 := bt_bd h 4
  have h5 := bt_bd h 5
  have h6 := bt_bd h 6
  have h7 := bt_bd h 7
  have h8 := bt_bd h 8
  have h9 := bt_bd h 9
  have h10 := bt_bd h 10
  have h11 := bt_bd h 11
  have h12 := bt_bd h 12
  unfold rowI
  show gsI (⟨[99, 46, 108, 119, 115, 112], 13, 5, 2, 0, 0, 252, 4, 0, [48, 49, 48, 102, 68, 68, 68, 68, 68, 101, 100, 99, 104, 103, 49, 48]⟩ : PR) (getT h [48, 49, 48, 102, 68, 68, 68, 68, 68, 101, 100, 99, 104, 103, 49, 48] GS0) = _
  rw [e]
  clear e
  unfold gsI fullP
  simp [bn_bt]
  try ((repeat' apply And.intro) <;> first | omega | (unfold wrap32; omega))

set_option maxHeartbeats 4000000 in
theorem rb_20 (h : Int) (h0 : 0 ≤ h) (h1 : h < 65536) (hc : chk h [48, 49, 48, 102, 68, 68, 68, 68, 68, 101, 100, 99, 104, 103, 49, 48] = true) (hf : fitsI (⟨[99, 46, 108, 119, 115, 112], 13, 5, 2, 0, 0, 252, 4, 0, [48, 49, 48, 102, 68, 68, 68, 68, 68, 101, 100, 99, 104, 103, 49, 48]⟩ : PR) (rowI h (⟨[99, 46, 108, 119, 115, 112], 13, 5, 2, 0, 0, 252, 4, 0, [48, 49, 48, 102, 68, 68, 68, 68, 68, 101, 100, 99, 104, 103, 49, 48]⟩ : PR)) = true) :
    expI h = rowI h (⟨[99, 46, 108, 119, 115, 112], 13, 5, 2, 0, 0, 252, 4, 0, [48, 49, 48, 102, 68, 68, 68, 68, 68, 101, 100, 99, 104, 103, 49, 48]⟩ : PR) ∧ dgN h = 20 ∧ putV ((rowI h (⟨[99, 46, 108, 119, 115, 112], 13, 5, 2, 0, 0, 252, 4, 0, [48, 49, 48, 102, 68, 68, 68, 68, 68, 101, 100, 99, 104, 103, 49, 48]⟩ : PR)).rd % 4294967296) ((rowI h (⟨[99, 46, 108, 119, 115, 112], 13, 5, 2, 0, 0, 252, 4, 0, [48, 49, 48, 102, 68, 68, 68, 68, 68, 101, 100, 99, 104, 103, 49, 48]⟩ : PR)).rs1 % 4294967296) ((rowI h (⟨[99, 46, 108, 119, 115, 112], 13, 5, 2, 0, 0, 252, 4, 0, [48, 49, 48, 102, 68, 68, 68, 68, 68, 101, 100, 99, 104, 103, 49, 48]⟩ : PR)).rs2 % 4294967296) ((rowI h (⟨[99, 46, 108, 119, 115, 112], 13, 5, 2, 0, 0, 252, 4, 0, [48, 49, 48, 102, 68, 68, 68, 68, 68, 101, 100, 99, 104, 103, 49, 48]⟩ : PR)).imm % 4294967296) [48, 49, 48, 102, 68, 68, 68, 68, 68, 101, 100, 99, 104, 103, 49, 48] 0 = h := by
  rw [gi_20] at hf ⊢
  have hx := fld_bits h h0 h1
  rw [expI_bits, dgN_bits h h0 h1]
  clear h0 h1
  dsimp only
  rw [put_20]
  simp [chk, bn_iff] at hc
  have a0 := bt_bd h 0
  have a1 := bt_bd h 1
  have a2 := bt_bd h 2
  have a3 := bt_bd h 3
  have a4 := bt_bd h 4
  have a5 := bt_bd h 5
  have a6 := bt_bd h 6
  have a7 := bt_bd h 7
  have a8 := bt_bd h 8
  have a9 := bt_bd h 9
  have a10 := bt_bd h 10
  have a11 := bt_bd h 11
  have a12 := bt_bd h 12
  have a13 := bt_bd h 13
  have a14 := bt_bd h 14
  have a15 := bt_bd h 15
  generalize bt h 0 = b0 at *
  generalize bt h 1 = b1 at *
  generalize bt h 2 = b2 at *
  generalize bt h 3 = b3 at *
  generalize bt h 4 = b4 at *
  generalize bt h 5 = b5 at *
  generalize bt h 6 = b6 at *
  generalize bt h 7 = b7 at *
  generalize bt h 8 = b8 at *
  generalize bt h 9 = b9 at *
  generalize bt h 10 = b10 at *
  generalize bt h 11 = b11 at *
  generalize bt h 12 = b12 at *
  generalize bt h 13 = b13 at *
  generalize bt h 14 = b14 at *
  generalize bt h 15 = b15 at *
  obtain ⟨z15, z14, z13, z1, z0⟩ := hc
  subst z0 z1 z13 z14 z15
  simp [fitsI, fitsB, kindB] at hf
  refine ⟨?_, ?_, ?_⟩
  · simp only [expB]
    simp
    try (clear hx; first | rfl | ((repeat' split) <;> (first | rfl | (exfalso; omega) | (congr 1 <;> omega))) | (congr 1 <;> omega) | omega)
  · simp only [dgB]
    simp
    try (clear hx; first | rfl | ((repeat' split) <;> (first | rfl | (exfalso; omega) | omega)) | omega)
  · have p2 : (4 * b4 + 8 * b5 + 16 * b6 + 32 * b12 + 64 * b2 + 128 * b3) / 64 % 2 = b2 := by clear hx hf; omega
    have p3 : (4 * b4 + 8 * b5 + 16 * b6 + 32 * b12 + 64 * b2 + 128 * b3) / 128 % 2 = b3 := by clear hx hf p2; omega
    have p4 : (4 * b4 + 8 * b5 + 16 * b6 + 32 * b12 + 64 * b2 + 128 * b3) / 4 % 2 = b4 := by clear hx hf p2 p3; omega
    have p5 : (4 * b4 + 8 * b5 + 16 * b6 + 32 * b12 + 64 * b2 + 128 * b3) / 8 % 2 = b5 := by clear hx hf p2 p3 p4; omega
    have p6 : (4 * b4 + 8 * b5 + 16 * b6 + 32 * b12 + 64 * b2 + 128 * b3) / 16 % 2 = b6 := by clear hx hf p2 p3 p4 p5; omega
    have p7 : (b7 + 2 * b8 + 4 * b9 + 8 * b10 + 16 * b11) / 1 % 2 = b7 := by clear hx hf p2 p3 p4 p5 p6; omega
    have p8 : (b7 + 2 * b8 + 4 * b9 + 8 * b10 + 16 * b11) / 2 % 2 = b8 := by clear hx hf p2 p3 p4 p5 p6 p7; omega
    have p9 : (b7 + 2 * b8 + 4 * b9 + 8 * b10 + 16 * b11) / 4 % 2 = b9 := by clear hx hf p2 p3 p4 p5 p6 p7 p8; omega
    have p10 : (b7 + 2 * b8 + 4 * b9 + 8 * b10 + 16 * b11) / 8 % 2 = b10 := by clear hx hf p2 p3 p4 p5 p6 p7 p8 p9; omega
    have p11 : (b7 + 2 * b8 + 4 * b9 + 8 * b10 + 16 * b11) / 16 % 2 = b11 := by clear hx hf p2 p3 p4 p5 p6 p7 p8 p9 p10; omega
    have p12 : (4 * b4 + 8 * b5 + 16 * b6 + 32 * b12 + 64 * b2 + 128 * b3) / 32 % 2 = b12 := by clear hx hf p2 p3 p4 p5 p6 p7 p8 p9 p10 p11; omega
    try rw [p2, p3, p4, p5, p6, p7, p8, p9, p10, p11, p12]
    clear hf
    omega

set_option maxHeartbeats 4000000 in
theorem rc_20 (h : Int) (h0 : 0 ≤ h) (h1 : h < 65536) (hd : dgN h = 20) (hf : fitsI (⟨[99, 46, 108, 119, 115, 112], 13, 5, 2, 0, 0, 252, 4, 0, [48, 49, 48, 102, 68, 68, 68, 68, 68, 101, 100, 99, 104, 103, 49, 48]⟩ : PR) (expI h) = true) : chk h [48, 49, 48, 102, 68, 68, 68, 68, 68, 101, 100, 99, 104, 103, 49, 48] = true := by
  rw [expI_bits] at hf
  rw [dgN_bits h h0 h1] at hd
  clear h0 h1
  simp [chk, bn_iff]
  have a0 := bt_bd h 0
  have a1 := bt_bd h 1
  have a2 := bt_bd h 2
  have a3 := bt_bd h 3
  have a4 := bt_bd h 4
  have a5 := bt_bd h 5
  have a6 := bt_bd h 6
  have a7 := bt_bd h 7
  have a8 := bt_bd h 8
  have a9 := bt_bd h 9
  have a10 := bt_bd h 10
  have a11 := bt_bd h 11
  have a12 := bt_bd h 12
  have a13 := bt_bd h 13
  have a14 := bt_bd h 14
  have a15 := bt_bd h 15
  generalize bt h 0 = b0 at *
  generalize bt h 1 = b1 at *
  generalize bt h 2 = b2 at *
  generalize bt h 3 = b3 at *
  generalize bt h 4 = b4 at *
  generalize bt h 5 = b5 at *
  generalize bt h 6 = b6 at *
  generalize bt h 7 = b7 at *
  generalize bt h 8 = b8 at *
  generalize bt h 9 = b9 at *
  generalize bt h 10 = b10 at *
  generalize bt h 11 = b11 at *
  generalize bt h 12 = b12 at *
  generalize bt h 13 = b13 at *
  generalize bt h 14 = b14 at *
  generalize bt h 15 = b15 at *
  have key : 8 * b0 + 16 * b1 + b13 + 2 * b14 + 4 * b15 = 18 := dg_key 20 _ _ _ _ _ _ _ _ _ _ _ _ _ _ _ _ a5 a6 a10 a11 (by omega) hd
  have z0 : b0 = 0 := by clear hf hd; omega
  have z1 : b1 = 1 := by clear hf hd; omega
  have z13 : b13 = 0 := by clear hf hd; omega
  have z14 : b14 = 1 := by clear hf hd; omega
  have z15 : b15 = 0 := by clear hf hd; omega
  clear key
  subst z0 z1 z13 z14 z15
  simp only [dgB] at hd
  simp at hd
  simp only [expB] at hf
  simp at hf
  try ((repeat' split at hd) <;> (first | (exfalso; omega) | ((repeat' split at hf) <;> (first | (exact absurd hf (by decide)) | ((try simp [fitsI, fitsB, kindB] at hf); omega)))))

theorem gi_21 (h : Int) : rowI h (⟨[99, 46, 106, 114], 4, 0, 5, 0, 0, 0, 1, 0, [49, 48, 48, 48, 83, 83, 83, 83, 83, 48, 48, 48, 48, 48, 49, 48]⟩ : PR) = ⟨4, 0, bt h 7 + 2 * bt h 8 + 4 * bt h 9 + 8 * bt h 10 + 16 * bt h 11, 0, 0⟩ := by
  have e : getT h [49, 48, 48, 48, 83, 83, 83, 83, 83, 48, 48, 48, 48, 48, 49, 48] GS0 = ⟨0, 0, 0, (2 * (2 * (2 * (2 * (2 * 0 + bn h 11) + bn h 10) + bn h 9) + bn h 8) + bn h 7), 0⟩ := rfl
  have h7 := bt_bd h 7
  have h8 := bt_bd h 8
  have h9 := bt_bd h 9
  have h10 := bt_bd h 10
  have h11 := bt_bd h 11
  unfold rowI
  show gsI (⟨[99, 46, 106, 114], 4, 0, 5, 0, 0, 0, 1, 0, [49, 48, 48, 48, 83, 83, 83, 83, 83, 48, 48, 48, 48, 48, 49, 48]⟩ : PR) (getT h [49, 48, 48, 48, 83, 83, 83, 83, 83, 48, 48, 48, 48, 48, 49, 48] GS0) = _
  rw [e]
  clear e
  unfold gsI fullP
  simp [bn_bt]
  try ((repeat' apply And.intro) <;> first | omega | (unfold wrap32; omega))

set_option maxHeartbeats 4000000 in
theorem rb_21 (h : Int) (h0 : 0 ≤ h) (h1 : h < 65536) (hc : chk h [49, 48, 48, 48, 83, 83, 83, 83, 83, 48, 48, 48, 48, 48, 49, 48] = true) (hf : fitsI (⟨[99, 46, 106, 114], 4, 0, 5, 0, 0, 0, 1, 0, [49, 48, 48, 48, 83, 83, 83, 83, 83, 48, 48, 48, 48, 48, 49, 48]⟩ : PR) (rowI h (⟨[99, 46, 106, 114], 4, 0, 5, 0, 0, 0, 1, 0, [49, 48, 48, 48, 83, 83, 83, 83, 83, 48, 48, 48, 48, 48, 49, 48]⟩ : PR)) = true) :
    expI h = rowI h (⟨[99, 46, 106, 114], 4, 0, 5, 0, 0, 0, 1, 0, [49, 48, 48, 48, 83, 83, 83, 83, 83, 48, 48, 48, 48, 48, 49, 48]⟩ : PR) ∧ dgN h = 21 ∧ putV ((rowI h (⟨[99, 46, 106, 114], 4, 0, 5, 0, 0, 0, 1, 0, [49, 48, 48, 48, 83, 83, 83, 83, 83, 48, 48, 48, 48, 48, 49, 48]⟩ : PR)).rd % 4294967296) ((rowI h (⟨[99, 46, 106, 114], 4, 0, 5, 0, 0, 0, 1, 0, [49, 48, 48, 48, 83, 83, 83, 83, 83, 48, 48, 48, 48, 48, 49, 48]⟩ : PR)).rs1 % 4294967296) ((rowI h (⟨[99, 46, 106, 114], 4, 0, 5, 0, 0, 0, 1, 0, [49, 48, 48, 48, 83, 83, 83, 83, 83, 48, 48, 48, 48, 48, 49, 48]⟩ : PR)).rs2 % 4294967296) ((rowI h (⟨[99, 46, 106, 114], 4, 0, 5, 0, 0, 0, 1, 0, [49, 48, 48, 48, 83, 83, 83, 83, 83, 48, 48, 48, 48, 48, 49, 48]⟩ : PR)).imm % 4294967296) [49, 48, 48, 48, 83, 83, 83, 83, 83, 48, 48, 48, 48, 48, 49, 48] 0 = h := by
  rw [gi_21] at hf ⊢
  have hx := fld_bits h h0 h1
  rw [expI_bits, dgN_bits h h0 h1]
  clear h0 h1
  dsimp only
  rw [put_21]
  simp [chk, bn_iff] at hc
  have a0 := bt_bd h 0
  have a1 := bt_bd h 1
  have a2 := bt_bd h 2
  have a3 := bt_bd h 3
  have a4 := bt_bd h 4
  have a5 := bt_bd h 5
  have a6 := bt_bd h 6
  have a7 := bt_bd h 7
  have a8 := bt_bd h 8
  have a9 := bt_bd h 9
  have a10 := bt_bd h 10
  have a11 := bt_bd h 11
  have a12 := bt_bd h 12
  have a13 := bt_bd h 13
  have a14 := bt_bd h 14
  have a15 := bt_bd h 15
  generalize bt h 0 = b0 at *
  generalize bt h 1 = b1 at *
  generalize bt h 2 = b2 at *
  generalize bt h 3 = b3 at *
  generalize bt h 4 = b4 at *
  generalize bt h 5 = b5 at *
  generalize bt h 6 = b6 at *
  generalize bt h 7 = b7 at *
  generalize bt h 8 = b8 at *
  generalize bt h 9 = b9 at *
  generalize bt h 10 = b10 at *
  generalize bt h 11 = b11 at *
  generalize bt h 12 = b12 at *
  generalize bt h 13 = b13 at *
  generalize bt h 14 = b14 at *
  generalize bt h 15 = b15 at *
  obtain ⟨z15, z14, z13, z12, z6, z5, z4, z3, z2, z1, z0⟩ := hc
  subst z0 z1 z2 z3 z4 z5 z6 z12 z13 z14 z15
  simp [fitsI, fitsB, kindB] at hf
  refine ⟨?_, ?_, ?_⟩
  · simp only [expB]
    simp
    try (clear hx; first | rfl | ((repeat' split) <;> (first | rfl | (exfalso; omega) | (congr 1 <;> omega))) | (congr 1 <;> omega) | omega)
  · simp only [dgB]
    simp
    try (clear hx; first | rfl | ((repeat' split) <;> (first | rfl | (exfalso; omega) | omega)) | omega)
  · have p7 : (b7 + 2 * b8 + 4 * b9 + 8 * b10 + 16 * b11) / 1 % 2 = b7 := by clear hx hf; omega
    have p8 : (b7 + 2 * b8 + 4 * b9 + 8 * b10 + 16 * b11) / 2 % 2 = b8 := by clear hx hf p7; omega
    have p9 : (b7 + 2 * b8 + 4 * b9 + 8 * b10 + 16 * b11) / 4 % 2 = b9 := by clear hx hf p7 p8; omega
    have p10 : (b7 + 2 * b8 + 4 * b9 + 8 * b10 + 16 * b11) / 8 % 2 = b10 := by clear hx hf p7 p8 p9; omega
    have p11 : (b7 + 2 * b8 + 4 * b9 + 8 * b10 + 16 * b11) / 16 % 2 = b11 := by clear hx hf p7 p8 p9 p10; omega
    try rw [p7, p8, p9, p10, p11]
    clear hf
    omega

set_option maxHeartbeats 4000000 in
theorem rc_21 (h : Int) (h0 : 0 ≤ h) (h1 : h < 65536) (hd : dgN h = 21) (hf : fitsI (⟨[99, 46, 106, 114], 4, 0, 5, 0, 0, 0, 1, 0, [49, 48, 48, 48, 83, 83, 83, 83, 83, 48, 48, 48, 48, 48, 49, 48]⟩ : PR) (expI h) = true) : chk h [49, 48, 48, 48, 83, 83, 83, 83, 83, 48, 48, 48, 48, 48, 49, 48] = true := by
  rw [expI_bits] at hf
  rw [dgN_bits h h0 h1] at hd
  clear h0 h1
  simp [chk, bn_iff]
  have a0 := bt_bd h 0
  have a1 := bt_bd h 1
  have a2 := bt_bd h 2
  have a3 := bt_bd h 3
  have a4 := bt_bd h 4
  have a5 := bt_bd h 5
  have a6 := bt_bd h 6
  have a7 := bt_bd h 7
  have a8 := bt_bd h 8
  have a9 := bt_bd h 9
  have a10 := bt_bd h 10
  have a11 := bt_bd h 11
  have a12 := bt_bd h 12
  have a13 := bt_bd h 13
  have a14 := bt_bd h 14
  have a15 := bt_bd h 15
  generalize bt h 0 = b0 at *
  generalize bt h 1 = b1 at *
  generalize bt h 2 = b2 at *
  generalize bt h 3 = b3 at *
  generalize bt h 4 = b4 at *
  generalize bt h 5 = b5 at *
  generalize bt h 6 = b6 at *
  generalize bt h 7 = b7 at *
  generalize bt h 8 = b8 at *
  generalize bt h 9 = b9 at *
  generalize bt h 10 = b10 at *
  generalize bt h 11 = b11 at *
  generalize bt h 12 = b12 at *
  generalize bt h 13 = b13 at *
  generalize bt h 14 = b14 at *
  generalize bt h 15 = b15 at *
  have key : 8 * b0 + 16 * b1 + b13 + 2 * b14 + 4 * b15 = 20 := dg_key 21 _ _ _ _ _ _ _ _ _ _ _ _ _ _ _ _ a5 a6 a10 a11 (by omega) hd
  have z0 : b0 = 0 := by clear hf hd; omega
  have z1 : b1 = 1 := by clear hf hd; omega
  have z13 : b13 = 0 := by clear hf hd; omega
  have z14 : b14 = 0 := by clear hf hd; omega
  have z15 : b15 = 1 := by clear hf hd; omega
  clear key
  subst z0 z1 z13 z14 z15
  simp only [dgB] at hd
  simp at hd
  simp only [expB] at hf
  rcases (by omega : b12 = 0 ∨ b12 = 1) with rfl | rfl <;> rcases (by omega : b2 + 2 * b3 + 4 * b4 + 8 * b5 + 16 * b6 = 0 ∨ 0 < b2 + 2 * b3 + 4 * b4 + 8 * b5 + 16 * b6) with p | p <;> rcases (by omega : b7 + 2 * b8 + 4 * b9 + 8 * b10 + 16 * b11 = 0 ∨ 0 < b7 + 2 * b8 + 4 * b9 + 8 * b10 + 16 * b11) with q | q
  all_goals
    have p1 := Int.lt_irrefl 0
    have p2 : 0 < b2 + 2 * b3 + 4 * b4 + 8 * b5 + 16 * b6 → ¬ b2 + 2 * b3 + 4 * b4 + 8 * b5 + 16 * b6 = 0 := by omega
    have q2 : 0 < b7 + 2 * b8 + 4 * b9 + 8 * b10 + 16 * b11 → ¬ b7 + 2 * b8 + 4 * b9 + 8 * b10 + 16 * b11 = 0 := by omega
    simp [p, q, p2, q2] at hd hf
  all_goals first | (exact absurd hf (by decide)) | (simp [fitsI, fitsB, kindB] at hf; done) | ((try simp [fitsI, fitsB, kindB] at hf); omega)

theorem gi_22 (h : Int) : rowI h (⟨[99, 46, 109, 118], 28, 5, 0, 5, 0, 0, 1, 0, [49, 48, 48, 48, 68, 68, 68, 68, 68, 84, 84, 84, 84, 84, 49, 48]⟩ : PR) = ⟨28, bt h 7 + 2 * bt h 8 + 4 * bt h 9 + 8 * bt h 10 + 16 * bt h 11, 0, bt h 2 + 2 * bt h 3 + 4 * bt h 4 + 8 * bt h 5 + 16 * bt h 6, 0⟩ := by
  have e : getT h [49, 48, 48, 48, 68, 68, 68, 68, 68, 84, 84, 84, 84, 84, 49, 48] GS0 = ⟨0, 0, (2 * (2 * (2 * (2 * (2 * 0 + bn h 11) + bn h 10) + bn h 9) + bn h 8) + bn h 7), 0, (2 * (2 * (2 * (2 * (2 * 0 + bn h 6) + bn h 5) + bn h 4) + bn h 3) + bn h 2)⟩ := rfl
  have h2 := bt_bd h 2
  have h3 := bt_bd h 3
  have h4 := bt_bd h 4
  have h5 := bt_bd h 5
  have h6 := bt_bd h 6
  have h7 := bt_bd h 7
  have h8 := bt_bd h 8
  have h9 := bt_bd h 9
  have h10 := bt_bd h 10
  have h11 := bt_bd h 11
  unfold rowI
  show gsI (⟨[99, 46, 109, 118], 28, 5, 0, 5, 0, 0, 1, 0, [49, 48, 48, 48, 68, 68, 68, 68, 68, 84, 84, 84, 84, 84, 49, 48]⟩ : PR) (getT h [49, 48, 48, 48, 68, 68, 68, 68, 68, 84, 84, 84, 84, 84, 49, 48] GS0) = _
  rw [e]
  clear e
  unfold gsI fullP
  simp [bn_bt]
  try ((repeat' apply And.intro) <;> first | omega | (unfold wrap32; omega))

set_option maxHeartbeats 4000000 in
theorem rb_22 (h : Int) (h0 : 0 ≤ h) (h1 : h < 65536) (hc : chk h [49, 48, 48, 48, 68, 68, 68, 68, 68, 84, 84, 84, 84, 84, 49, 48] = true) (hf : fitsI (⟨[99, 46, 109, 118], 28, 5, 0, 5, 0, 0, 1, 0, [49, 48, 48, 48, 68, 68, 68, 68, 68, 84, 84, 84, 84, 84, 49, 48]⟩ : PR) (rowI h (⟨[99, 46, 109, 118], 28, 5, 0, 5, 0, 0, 1, 0, [49, 48, 48, 48, 68, 68, 68, 68, 68, 84, 84, 84, 84, 84, 49, 48]⟩ : PR)) = true) :
    expI h = rowI h (⟨[99, 46, 109, 118], 28, 5, 0, 5, 0, 0, 1, 0, [49, 48, 48, 48, 68, 68, 68, 68, 68, 84, 84, 84, 84, 84, 49, 48]⟩ : PR) ∧ dgN h = 22 ∧ putV ((rowI h (⟨[99, 46, 109, 118], 28, 5, 0, 5, 0, 0, 1, 0, [49, 48, 48, 48, 68, 68, 68, 68, 68, 84, 84, 84, 84, 84, 49, 48]⟩ : PR)).rd % 4294967296) ((rowI h (⟨[99, 46, 109, 118], 28, 5, 0, 5, 0, 0, 1, 0, [49, 48, 48, 48, 68, 68, 68, 68, 68, 84, 84, 84, 84, 84, 49, 48]⟩ : PR)).rs1 % 4294967296) ((rowI h (⟨[99, 46, 109, 118], 28, 5, 0, 5, 0, 0, 1, 0, [49, 48, 48, 48, 68, 68, 68, 68, 68, 84, 84, 84, 84, 84, 49, 48]⟩ : PR)).rs2 % 4294967296) ((rowI h (⟨[99, 46, 109, 118], 28, 5, 0, 5, 0, 0, 1, 0, [49, 48, 48, 48, 68, 68, 68, 68, 68, 84, 84, 84, 84, 84, 49, 48]⟩ : PR)).imm % 4294967296) [49, 48, 48, 48, 68, 68, 68, 68, 68, 84, 84, 84, 84, 84, 49, 48] 0 = h := by
  rw [gi_22] at hf ⊢
  have hx := fld_bits h h0 h1
  rw [expI_bits, dgN_bits h h0 h1]
  clear h0 h1
  dsimp only
  rw [put_22]
  simp [chk, bn_iff] at hc
  have a0 := bt_bd h 0
  have a1 := bt_bd h 1
  have a2 := bt_bd h 2
  have a3 := bt_bd h 3
  have a4 := bt_bd h 4
  have a5 := bt_bd h 5
  have a6 := bt_bd h 6
  have a7 := bt_bd h 7
  have a8 := bt_bd h 8
  have a9 := bt_bd h 9
  have a10 := bt_bd h 10
  have a11 := bt_bd h 11
  have a12 := bt_bd h 12
  have a13 := bt_bd h 13
  have a14 := bt_bd h 14
  have a15 := bt_bd h 15
  generalize bt h 0 = b0 at *
  generalize bt h 1 = b1 at *
  generalize bt h 2 = b2 at *
  generalize bt h 3 = b3 at *
  generalize bt h 4 = b4 at *
  generalize bt h 5 = b5 at *
  generalize bt h 6 = b6 at *
  generalize bt h 7 = b7 at *
  generalize bt h 8 = b8 at *
  generalize bt h 9 = b9 at *
  generalize bt h 10 = b10 at *
  generalize bt h 11 = b11 at *
  generalize bt h 12 = b12 at *
  generalize bt h 13 = b13 at *
  generalize bt h 14 = b14 at *
  generalize bt h 15 = b15 at *
  obtain ⟨z15, z14, z13, z12, z1, z0⟩ := hc
  subst z0 z1 z12 z13 z14 z15
  simp [fitsI, fitsB, kindB] at hf
  refine ⟨?_, ?_, ?_⟩
  · simp only [expB]
    simp
    try (clear hx; first | rfl | ((repeat' split) <;> (first | rfl | (exfalso; omega) | (congr 1 <;> omega))) | (congr 1 <;> omega) | omega)
  · simp only [dgB]
    simp
    try (clear hx; first | rfl | ((repeat' split) <;> (first | rfl | (exfalso; omega) | omega)) | omega)
  · have p2 : (b2 + 2 * b3 + 4 * b4 + 8 * b5 + 16 * b6) / 1 % 2 = b2 := by clear hx hf; omega
    have p3 : (b2 + 2 * b3 + 4 * b4 + 8 * b5 + 16 * b6) / 2 % 2 = b3 := by clear hx hf p2; omega
    have p4 : (b2 + 2 * b3 + 4 * b4 + 8 * b5 + 16 * b6) / 4 % 2 = b4 := by clear hx hf p2 p3; omega
    have p5 : (b2 + 2 * b3 + 4 * b4 + 8 * b5 + 16 * b6) / 8 % 2 = b5 := by clear hx hf p2 p3 p4; omega
    have p6 : (b2 + 2 * b3 + 4 * b4 + 8 * b5 + 16 * b6) / 16 % 2 = b6 := by clear hx hf p2 p3 p4 p5; omega
    have p7 : (b7 + 2 * b8 + 4 * b9 + 8 * b10 + 16 * b11) / 1 % 2 = b7 := by clear hx hf p2 p3 p4 p5 p6; omega
    have p8 : (b7 + 2 * b8 + 4 * b9 + 8 * b10 + 16 * b11) / 2 % 2 = b8 := by clear hx hf p2 p3 p4 p5 p6 p7; omega
    have p9 : (b7 + 2 * b8 + 4 * b9 + 8 * b10 + 16 * b11) / 4 % 2 = b9 := by clear hx hf p2 p3 p4 p5 p6 p7 p8; omega
    have p10 : (b7 + 2 * b8 + 4 * b9 + 8 * b10 + 16 * b11) / 8 % 2 = b10 := by clear hx hf p2 p3 p4 p5 p6 p7 p8 p9; omega
    have p11 : (b7 + 2 * b8 + 4 * b9 + 8 * b10 + 16 * b11) / 16 % 2 = b11 := by clear hx hf p2 p3 p4 p5 p6 p7 p8 p9 p10; omega
    try rw [p2, p3, p4, p5, p6, p7, p8, p9, p10, p11]
    clear hf
    omega

set_option maxHeartbeats 4000000 in
theorem rc_22 (h : Int) (h0 : 0 ≤ h) (h1 : h < 65536) (hd : dgN h = 22) (hf : fitsI (⟨[99, 46, 109, 118], 28, 5, 0, 5, 0, 0, 1, 0, [49, 48, 48, 48, 68, 68, 68, 68, 68, 84, 84, 84, 84, 84, 49, 48]⟩ : PR) (expI h) = true) : chk h [49, 48, 48, 48, 68, 68, 68, 68, 68, 84, 84, 84, 84, 84, 49, 48] = true := by
  rw [expI_bits] at hf
  rw [dgN_bits h h0 h1] at hd
  clear h0 h1
  simp [chk, bn_iff]
  have a0 := bt_bd h 0
  have a1 := bt_bd h 1
  have a2 := bt_bd h 2
  have a3 := bt_bd h 3
  have a4 := bt_bd h 4
  have a5 := bt_bd h 5
  have a6 := bt_bd h 6
  have a7 := bt_bd h 7
  have a8 := bt_bd h 8
  have a9 := bt_bd h 9
  have a10 := bt_bd h 10
  have a11 := bt_bd h 11
  have a12 := bt_bd h 12
  have a13 := bt_bd h 13
  have a14 := bt_bd h 14
  have a15 := bt_bd h 15
  generalize bt h 0 = b0 at *
  generalize bt h 1 = b1 at *
  generalize bt h 2 = b2 at *
  generalize bt h 3 = b3 at *
  generalize bt h 4 = b4 at *
  generalize bt h 5 = b5 at *
  generalize bt h 6 = b6 at *
  generalize bt h 7 = b7 at *
  generalize bt h 8 = b8 at *
  generalize bt h 9 = b9 at *
  generalize bt h 10 = b10 at *
  generalize bt h 11 = b11 at *
  generalize bt h 12 = b12 at *
  generalize bt h 13 = b13 at *
  generalize bt h 14 = b14 at *
  generalize bt h 15 = b15 at *
  have key : 8 * b0 + 16 * b1 + b13 + 2 * b14 + 4 * b15 = 20 := dg_key 22 _ _ _ _ _ _ _ _ _ _ _ _ _ _ _ _ a5 a6 a10 a11 (by omega) hd
  have z0 : b0 = 0 := by clear hf hd; omega
  have z1 : b1 = 1 := by clear hf hd; omega
  have z13 : b13 = 0 := by clear hf hd; omega
  have z14 : b14 = 0 := by clear hf hd; omega
  have z15 : b15 = 1 := by clear hf hd; omega
  clear key
  subst z0 z1 z13 z14 z15
  simp only [dgB] at hd
  simp at hd
  simp only [expB] at hf
  rcases (by omega : b12 = 0 ∨ b12 = 1) with rfl | rfl <;> rcases (by omega : b2 + 2 * b3 + 4 * b4 + 8 * b5 + 16 * b6 = 0 ∨ 0 < b2 + 2 * b3 + 4 * b4 + 8 * b5 + 16 * b6) with p | p <;> rcases (by omega : b7 + 2 * b8 + 4 * b9 + 8 * b10 + 16 * b11 = 0 ∨ 0 < b7 + 2 * b8 + 4 * b9 + 8 * b10 + 16 * b11) with q | q
  all_goals
    have p1 := Int.lt_irrefl 0
    have p2 : 0 < b2 + 2 * b3 + 4 * b4 + 8 * b5 + 16 * b6 → ¬ b2 + 2 * b3 + 4 * b4 + 8 * b5 + 16 * b6 = 0 := by omega
    have q2 : 0 < b7 + 2 * b8 + 4 * b9 + 8 * b10 + 16 * b11 → ¬ b7 + 2 * b8 + 4 * b9 + 8 * b10 + 16 * b11 = 0 := by omega
    simp [p, q, p2, q2] at hd hf
  all_goals first | (exact absurd hf (by decide)) | (simp [fitsI, fitsB, kindB] at hf; done) | ((try simp [fitsI, fitsB, kindB] at hf); omega)

theorem gi_23 (h : Int) : rowI h (⟨[99, 46, 101, 98, 114, 101, 97, 107], 40, 0, 0, 0, 0, 0, 1, 0, [49, 48, 48, 49, 48, 48, 48, 48, 48, 48, 48, 48, 48, 48, 49, 48]⟩ : PR) = ⟨40, 0, 0, 0, 0⟩ := by
  have e : getT h [49, 48, 48, 49, 48, 48, 48, 48, 48, 48, 48, 48, 48, 48, 49, 48] GS0 = ⟨0, 0, 0, 0, 0⟩ := rfl
  unfold rowI
  show gsI (⟨[99, 46, 101, 98, 114, 101, 97, 107], 40, 0, 0, 0, 0, 0, 1, 0, [49, 48, 48, 49, 48, 48, 48, 48, 48, 48, 48, 48, 48, 48, 49, 48]⟩ : PR) (getT h [49, 48, 48, 49, 48, 48, 48, 48, 48, 48, 48, 48, 48, 48, 49, 48] GS0) = _
  rw [e]
  clear e
  unfold gsI fullP
  simp [bn_bt]
  try ((repeat' apply And.intro) <;> first | omega | (unfold wrap32; omega))

set_option maxHeartbeats 4000000 in
theorem rb_23 (h : Int) (h0 : 0 ≤ h) (h1 : h < 65536) (hc : chk h [49, 48, 48, 49, 48, 48, 48, 48, 48, 48, 48, 48, 48, 48, 49, 48] = true) (hf : fitsI (⟨[99, 46, 101, 98, 114, 101, 97, 107], 40, 0, 0, 0, 0, 0, 1, 0, [49, 48, 48, 49, 48, 48, 48, 48, 48, 48, 48, 48, 48, 48, 49, 48]⟩ : PR) (rowI h (⟨[99, 46, 101, 98, 114, 101, 97, 107], 40, 0, 0, 0, 0, 0, 1, 0, [49, 48, 48, 49, 48, 48, 48, 48, 48, 48, 48, 48, 48, 48, 49, 48]⟩ : PR)) = true) :
    expI h = rowI h (⟨[99, 46, 101, 98, 114, 101, 97, 107], 40, 0, 0, 0, 0, 0, 1, 0, [49, 48, 48, 49, 48, 48, 48, 48, 48, 48, 48, 48, 48, 48, 49, 48]⟩ : PR) ∧ dgN h = 23 ∧ putV ((rowI h (⟨[99, 46, 101, 98, 114, 101, 97, 107], 40, 0, 0, 0, 0, 0, 1, 0, [49, 48, 48, 49, 48, 48, 48, 48, 48, 48, 48, 48, 48, 48, 49, 48]⟩ : PR)).rd % 4294967296) ((rowI h (⟨[99, 46, 101, 98, 114, 101, 97, 107], 40, 0, 0, 0, 0, 0, 1, 0, [49, 48, 48, 49, 48, 48, 48, 48, 48, 48, 48, 48, 48, 48, 49, 48]⟩ : PR)).rs1 % 4294967296) ((rowI h (⟨[99, 46, 101, 98, 114, 101, 97, 107], 40, 0, 0, 0, 0, 0, 1, 0, [49, 48, 48, 49, 48, 48, 48, 48, 48, 48, 48, 48, 48, 48, 49, 48]⟩ : PR)).rs2 % 4294967296) ((rowI h (⟨[99, 46, 101, 98, 114, 101, 97, 107], 40, 0, 0, 0, 0, 0, 1, 0, [49, 48, 48, 49, 48, 48, 48, 48, 48, 48, 48, 48, 48, 48, 49, 48]⟩ : PR)).imm % 4294967296) [49, 48, 48, 49, 48, 48, 48, 48, 48, 48, 48, 48, 48, 48, 49, 48] 0 = h := by
  rw [gi_23] at hf ⊢
  have hx := fld_bits h h0 h1
  rw [expI_bits, dgN_bits h h0 h1]
  clear h0 h1
  dsimp only
  rw [put_23]
  simp [chk, bn_iff] at hc
  have a0 := bt_bd h 0
  have a1 := bt_bd h 1
  have a2 := bt_bd h 2
  have a3 := bt_bd h 3
  have a4 := bt_bd h 4
  have a5 := bt_bd h 5
  have a6 := bt_bd h 6
  have a7 := bt_bd h 7
  have a8 := bt_bd h 8
  have a9 := bt_bd h 9
  have a10 := bt_bd h 10
  have a11 := bt_bd h 11
  have a12 := bt_bd h 12
  have a13 := bt_bd h 13
  have a14 := bt_bd h 14
  have a15 := bt_bd h 15
  generalize bt h 0 = b0 at *
  generalize bt h 1 = b1 at *
  generalize bt h 2 = b2 at *
  generalize bt h 3 = b3 at *
  generalize bt h 4 = b4 at *
  generalize bt h 5 = b5 at *
  generalize bt h 6 = b6 at *
  generalize bt h 7 = b7 at *
  generalize bt h 8 = b8 at *
  generalize bt h 9 = b9 at *
  generalize bt h 10 = b10 at *
  generalize bt h 11 = b11 at *
  generalize bt h 12 = b12 at *
  generalize bt h 13 = b13 at *
  generalize bt h 14 = b14 at *
  generalize bt h 15 = b15 at *
  obtain ⟨z15, z14, z13, z12, z11, z10, z9, z8, z7, z6, z5, z4, z3, z2, z1, z0⟩ := hc
  subst z0 z1 z2 z3 z4 z5 z6 z7 z8 z9 z10 z11 z12 z13 z14 z15
  simp [fitsI, fitsB, kindB] at hf
  refine ⟨?_, ?_, ?_⟩
  · simp only [expB]
    simp
    try (clear hx; first | rfl | ((repeat' split) <;> (first | rfl | (exfalso; omega) | (congr 1 <;> omega))) | (congr 1 <;> omega) | omega)
  · simp only [dgB]
    simp
    try (clear hx; first | rfl | ((repeat' split) <;> (first | rfl | (exfalso; omega) | omega)) | omega)
  · omega

set_option maxHeartbeats 4000000 in
theorem rc_23 (h : Int) (h0 : 0 ≤ h) (h1 : h < 65536) (hd : dgN h = 23) (hf : fitsI (⟨[99, 46, 101, 98, 114, 101, 97, 107], 40, 0, 0, 0, 0, 0, 1, 0, [49, 48, 48, 49, 48, 48, 48, 48, 48, 48, 48, 48, 48, 48, 49, 48]⟩ : PR) (expI h) = true) : chk h [49, 48, 48, 49, 48, 48, 48, 48, 48, 48, 48, 48, 48, 48, 49, 48] = true := by
  rw [expI_bits] at hf
  rw [dgN_bits h h0 h1] at hd
  clear h0 h1
  simp [chk, bn_iff]
  have a0 := bt_bd h 0
  have a1 := bt_bd h 1
  have a2 := bt_bd h 2
  have a3 := bt_bd h 3
  have a4 := bt_bd h 4
  have a5 := bt_bd h 5
  have a6 := bt_bd h 6
  have a7 := bt_bd h 7
  have a8 := bt_bd h 8
  have a9 := bt_bd h 9
  have a10 := bt_bd h 10
  have a11 := bt_bd h 11
  have a12 := bt_bd h 12
  have a13 := bt_bd h 13
  have a14 := bt_bd h 14
  have a15 := bt_bd h 15
  generalize bt h 0 = b0 at *
  generalize bt h 1 = b1 at *
  generalize bt h 2 = b2 at *
  generalize bt h 3 = b3 at *
  generalize bt h 4 = b4 at *
  generalize bt h 5 = b5 at *
  generalize bt h 6 = b6 at *
  generalize bt h 7 = b7 at *
  generalize bt h 8 = b8 at *
  generalize bt h 9 = b9 at *
  generalize bt h 10 = b10 at *
  generalize bt h 11 = b11 at *
  generalize bt h 12 = b12 at *
  generalize bt h 13 = b13 at *
  generalize bt h 14 = b14 at *
  generalize bt h 15 = b15 at *
  have key : 8 * b0 + 16 * b1 + b13 + 2 * b14 + 4 * b15 = 20 := dg_key 23 _ _ _ _ _ _ _ _ _ _ _ _ _ _ _ _ a5 a6 a10 a11 (by omega) hd
  have z0 : b0 = 0 := by clear hf hd; omega
  have z1 : b1 = 1 := by clear hf hd; omega
  have z13 : b13 = 0 := by clear hf hd; omega
  have z14 : b14 = 0 := by clear hf hd; omega
  have z15 : b15 = 1 := by clear hf hd; omega
  clear key
  subst z0 z1 z13 z14 z15
  simp only [dgB] at hd
  simp at hd
  simp only [expB] at hf
  rcases (by omega : b12 = 0 ∨ b12 = 1) with rfl | rfl <;> rcases (by omega : b2 + 2 * b3 + 4 * b4 + 8 * b5 + 16 * b6 = 0 ∨ 0 < b2 + 2 * b3 + 4 * b4 + 8 * b5 + 16 * b6) with p | p <;> rcases (by omega : b7 + 2 * b8 + 4 * b9 + 8 * b10 + 16 * b11 = 0 ∨ 0 < b7 + 2 * b8 + 4 * b9 + 8 * b10 + 16 * b11) with q | q
  all_goals
    have p1 := Int.lt_irrefl 0
    have p2 : 0 < b2 + 2 * b3 + 4 * b4 + 8 * b5 + 16 * b6 → ¬ b2 + 2 * b3 + 4 * b4 + 8 * b5 + 16 * b6 = 0 := by omega
    have q2 : 0 < b7 + 2 * b8 + 4 * b9 + 8 * b10 + 16 * b11 → ¬ b7 + 2 * b8 + 4 * b9 + 8 * b10 + 16 * b11 = 0 := by omega
    simp [p, q, p2, q2] at hd hf
  all_goals first | (exact absurd hf (by decide)) | (simp [fitsI, fitsB, kindB] at hf; done) | ((try simp [fitsI, fitsB, kindB] at hf); omega)

theorem gi_24 (h : Int) : rowI h (⟨[99, 46, 106, 97, 108, 114], 4, 1, 5, 0, 0, 0, 1, 0, [49, 48, 48, 49, 83, 83, 83, 83, 83, 48, 48, 48, 48, 48, 49, 48]⟩ : PR) = ⟨4, 1, bt h 7 + 2 * bt h 8 + 4 * bt h 9 + 8 * bt h 10 + 16 * bt h 11, 0, 0⟩ := by
  have e : getT h [49, 48, 48, 49, 83, 83, 83, 83, 83, 48, 48, 48, 48, 48, 49, 48] GS0 = ⟨0, 0, 0, (2 * (2 * (2 * (2 * (2 * 0 + bn h 11) + bn h 10) + bn h 9) + bn h 8) + bn h 7), 0⟩ := rfl
  have h7 := bt_bd h 7
  have h8 := bt_bd h 8
  have h9 := bt_bd h 9
  have h10 := bt_bd h 10
  have h11 := bt_bd h 11
  unfold rowI
  show gsI (⟨[99, 46, 106, 97, 108, 114], 4, 1, 5, 0, 0, 0, 1, 0, [49, 48, 48, 49, 83, 83, 83, 83, 83, 48, 48, 48, 48, 48, 49, 48]⟩ : PR) (getT h [49, 48, 48, 49, 83, 83, 83, 83, 83, 48, 48, 48, 48, 48, 49, 48] GS0) = _
  rw [e]
  clear e
  unfold gsI fullP
  simp [bn_bt]
  try ((repeat' apply And.intro) <;> first | omega | (unfold wrap32; omega))

set_option maxHeartbeats 4000000 in
theorem rb_24 (h : Int) (h0 : 0 ≤ h) (h1 : h < 65536) (hc : chk h [49, 48, 48, 49, 83, 83, 83, 83, 83, 48, 48, 48, 48, 48, 49, 48] = true) (hf : fitsI (⟨[99, 46, 106, 97, 108, 114], 4, 1, 5, 0, 0, 0, 1, 0, [49, 48, 48, 49, 83, 83, 83, 83, 83, 48, 48, 48, 48, 48, 49, 48]⟩ : PR) (rowI h (⟨[99, 46, 106, 97, 108, 114], 4, 1, 5, 0, 0, 0, 1, 0, [49, 48, 48, 49, 83, 83, 83, 83, 83, 48, 48, 48, 48, 48, 49, 48]⟩ : PR)) = true) :
    expI h = rowI h (⟨[99, 46, 106, 97, 108, 114], 4, 1, 5, 0, 0, 0, 1, 0, [49, 48, 48, 49, 83, 83, 83, 83, 83, 48, 48, 48, 48, 48, 49, 48]⟩ : PR) ∧ dgN h = 24 ∧ putV ((rowI h (⟨[99, 46, 106, 97, 108, 114], 4, 1, 5, 0, 0, 0, 1, 0, [49, 48, 48, 49, 83, 83, 83, 83, 83, 48, 48, 48, 48, 48, 49, 48]⟩ : PR)).rd % 4294967296) ((rowI h (⟨[99, 46, 106, 97, 108, 114], 4, 1, 5, 0, 0, 0, 1, 0, [49, 48, 48, 49, 83, 83, 83, 83, 83, 48, 48, 48, 48, 48, 49, 48]⟩ : PR)).rs1 % 4294967296) ((rowI h (⟨[99, 46, 106, 97, 108, 114], 4, 1, 5, 0, 0, 0, 1, 0, [49, 48, 48, 49, 83, 83, 83, 83, 83, 48, 48, 48, 48, 48, 49, 48]⟩ : PR)).rs2 % 4294967296) ((rowI h (⟨[99, 46, 106, 97, 108, 114], 4, 1, 5, 0, 0, 0, 1, 0, [49, 48, 48, 49, 83, 83, 83, 83, 83, 48, 48, 48, 48, 48, 49, 48]⟩ : PR)).imm % 4294967296) [49, 48, 48, 49, 83, 83, 83, 83, 83, 48, 48, 48, 48, 48, 49, 48] 0 = h := by
  rw [gi_24] at hf ⊢
  have hx := fld_bits h h0 h1
  rw [expI_bits, dgN_bits h h0 h1]
  clear h0 h1
  dsimp only
  rw [put_24]
  simp [chk, bn_iff] at hc
  have a0 := bt_bd h 0
  have a1 := bt_bd h 1
  have a2 := bt_bd h 2
  have a3 := bt_bd h 3
  have a4 := bt_bd h 4
  have a5 := bt_bd h 5
  have a6 := bt_bd h 6
  have a7 := bt_bd h 7
  have a8 := bt_bd h 8
  have a9 := bt_bd h 9
  have a10 := bt_bd h 10
  have a11 := bt_bd h 11
  have a12 := bt_bd h 12
  have a13 := bt_bd h 13
  have a14 := bt_bd h 14
  have a15 := bt_bd h 15
  generalize bt h 0 = b0 at *
  generalize bt h 1 = b1 at *
  generalize bt h 2 = b2 at *
  generalize bt h 3 = b3 at *
  generalize bt h 4 = b4 at *
  generalize bt h 5 = b5 at *
  generalize bt h 6 = b6 at *
  generalize bt h 7 = b7 at *
  generalize bt h 8 = b8 at *
  generalize bt h 9 = b9 at *
  generalize bt h 10 = b10 at *
  generalize bt h 11 = b11 at *
  generalize bt h 12 = b12 at *
  generalize bt h 13 = b13 at *
  generalize bt h 14 = b14 at *
  generalize bt h 15 = b15 at *
  obtain ⟨z15, z14, z13, z12, z6, z5, z4, z3, z2, z1, z0⟩ := hc
  subst z0 z1 z2 z3 z4 z5 z6 z12 z13 z14 z15
  simp [fitsI, fitsB, kindB] at hf
  refine ⟨?_, ?_, ?_⟩
  · simp only [expB]
    simp
    try (clear hx; first | rfl | ((repeat' split) <;> (first | rfl | (exfalso; omega) | (congr 1 <;> omega))) | (congr 1 <;> omega) | omega)
  · simp only [dgB]
    simp
    try (clear hx; first | rfl | ((repeat' split) <;> (first | rfl | (exfalso; omega) | omega)) | omega)
  · have p7 : (b7 + 2 * b8 + 4 * b9 + 8 * b10 + 16 * b11) / 1 % 2 = b7 := by clear hx hf; omega
    have p8 : (b7 + 2 * b8 + 4 * b9 + 8 * b10 + 16 * b11) / 2 % 2 = b8 := by clear hx hf p7; omega
    have p9 : (b7 + 2 * b8 + 4 * b9 + 8 * b10 + 16 * b11) / 4 % 2 = b9 := by clear hx hf p7 p8; omega
    have p10 : (b7 + 2 * b8 + 4 * b9 + 8 * b10 + 16 * b11) / 8 % 2 = b10 := by clear hx hf p7 p8 p9; omega
    have p11 : (b7 + 2 * b8 + 4 * b9 + 8 * b10 + 16 * b11) / 16 % 2 = b11 := by clear hx hf p7 p8 p9 p10; omega
    try rw [p7, p8, p9, p10, p11]
    clear hf
    omega

set_option maxHeartbeats 4000000 in
theorem rc_24 (h : Int) (h0 : 0 ≤ h) (h1 : h < 65536) (hd : dgN h = 24) (hf : fitsI (⟨[99, 46, 106, 97, 108, 114], 4, 1, 5, 0, 0, 0, 1, 0, [49, 48, 48, 49, 83, 83, 83, 83, 83, 48, 48, 48, 48, 48, 49, 48]⟩ : PR) (expI h) = true) : chk h [49, 48, 48, 49, 83, 83, 83, 83, 83, 48, 48, 48, 48, 48, 49, 48] = true := by
  rw [expI_bits] at hf
  rw [dgN_bits h h0 h1] at hd
  clear h0 h1
  simp [chk, bn_iff]
  have a0 := bt_bd h 0
  have a1 := bt_bd h 1
  have a2 := bt_bd h 2
  have a3 := bt_bd h 3
  have a4 := bt_bd h 4
  have a5 := bt_bd h 5
  have a6 := bt_bd h 6
  have a7 := bt_bd h 7
  have a8 := bt_bd h 8
  have a9 := bt_bd h 9
  have a10 := bt_bd h 10
  have a11 := bt_bd h 11
  have a12 := bt_bd h 12
  have a13 := bt_bd h 13
  have a14 := bt_bd h 14
  have a15 := bt_bd h 15
  generalize bt h 0 = b0 at *
  generalize bt h 1 = b1 at *
  generalize bt h 2 = b2 at *
  generalize bt h 3 = b3 at *
  generalize bt h 4 = b4 at *
  generalize bt h 5 = b5 at *
  generalize bt h 6 = b6 at *
  generalize bt h 7 = b7 at *
  generalize bt h 8 = b8 at *
  generalize bt h 9 = b9 at *
  generalize bt h 10 = b10 at *
  generalize bt h 11 = b11 at *
  generalize bt h 12 = b12 at *
  generalize bt h 13 = b13 at *
  generalize bt h 14 = b14 at *
  generalize bt h 15 = b15 at *
  have key : 8 * b0 + 16 * b1 + b13 + 2 * b14 + 4 * b15 = 20 := dg_key 24 _ _ _ _ _ _ _ _ _ _ _ _ _ _ _ _ a5 a6 a10 a11 (by omega) hd
  have z0 : b0 = 0 := by clear hf hd; omega
  have z1 : b1 = 1 := by clear hf hd; omega
  have z13 : b13 = 0 := by clear hf hd; omega
  have z14 : b14 = 0 := by clear hf hd; omega
  have z15 : b15 = 1 := by clear hf hd; omega
  clear key
  subst z0 z1 z13 z14 z15
  simp only [dgB] at hd
  simp at hd
  simp only [expB] at hf
  rcases (by omega : b12 = 0 ∨ b12 = 1) with rfl | rfl <;> rcases (by omega : b2 + 2 * b3 + 4 * b4 + 8 * b5 + 16 * b6 = 0 ∨ 0 < b2 + 2 * b3 + 4 * b4 + 8 * b5 + 16 * b6) with p | p <;> rcases (by omega : b7 + 2 * b8 + 4 * b9 + 8 * b10 + 16 * b11 = 0 ∨ 0 < b7 + 2 * b8 + 4 * b9 + 8 * b10 + 16 * b11) with q | q
  all_goals
    have p1 := Int.lt_irrefl 0
    have p2 : 0 < b2 + 2 * b3 + 4 * b4 + 8 * b5 + 16 * b6 → ¬ b2 + 2 * b3 + 4 * b4 + 8 * b5 + 16 * b6 = 0 := by omega
    have q2 : 0 < b7 + 2 * b8 + 4 * b9 + 8 * b10 + 16 * b11 → ¬ b7 + 2 * b8 + 4 * b9 + 8 * b10 + 16 * b11 = 0 := by omega
    simp [p, q, p2, q2] at hd hf
  all_goals first | (exact absurd hf (by decide)) | (simp [fitsI, fitsB, kindB] at hf; done) | ((try simp [fitsI, fitsB, kindB] at hf); omega)

theorem gi_25 (h : Int) : rowI h (⟨[99, 46, 97, 100, 100], 28, 5, 7, 5, 0, 0, 1, 0, [49, 48, 48, 49, 68, 68, 68, 68, 68, 84, 84, 84, 84, 84, 49, 48]⟩ : PR) = ⟨28, bt h 7 + 2 * bt h 8 + 4 * bt h 9 + 8 * bt h 10 + 16 * bt h 11, bt h 7 + 2 * bt h 8 + 4 * bt h 9 + 8 * bt h 10 + 16 * bt h 11, bt h 2 + 2 * bt h 3 + 4 * bt h 4 + 8 * bt h 5 + 16 * bt h 6, 0⟩ := by
  have e : getT h [49, 48, 48, 49, 68, 68, 68, 68, 68, 84, 84, 84, 84, 84, 49, 48] GS0 = ⟨0, 0, (2 * (2 * (2 * (2 * (2 * 0 + bn h 11) + bn h 10) + bn h 9) + bn h 8) + bn h 7), 0, (2 * (2 * (2 * (2 * (2 * 0 + bn h 6) + bn h 5) + bn h 4) + bn h 3) + bn h 2)⟩ := rfl
  have h2 := bt_bd h 2
  have h3 := bt_bd h 3
  have h4 := bt_bd h 4
  have h5 := bt_bd h 5
  have h6 := bt_bd h 6
  have h7 := bt_bd h 7
  have h8 := bt_bd h 8
  have h9 := bt_bd h 9
  have h10 := bt_bd h 10
  have h11 := bt_bd h 11
  unfold rowI
  show gsI (⟨[99, 46, 97, 100, 100], 28, 5, 7, 5, 0, 0, 1, 0, [49, 48, 48, 49, 68, 68, 68, 68, 68, 84, 84, 84, 84, 84, 49, 48]⟩ : PR) (getT h [49, 48, 48, 49, 68, 68, 68, 68, 68, 84, 84, 84, 84, 84, 49, 48] GS0) = _
  rw [e]
  clear e
  unfold gsI fullP
  simp [bn_bt]
  try ((repeat' apply And.intro) <;> first | omega | (unfold wrap32; omega))

set_option maxHeartbeats 4000000 in
theorem rb_25 (h : Int) (h0 : 0 ≤ h) (h1 : h < 65536) (hc : chk h [49, 48, 48, 49, 68, 68, 68, 68, 68, 84, 84, 84, 84, 84, 49, 48] = true) (hf : fitsI (⟨[99, 46, 97, 100, 100], 28, 5, 7, 5, 0, 0, 1, 0, [49, 48, 48, 49, 68, 68, 68, 68, 68, 84, 84, 84, 84, 84, 49, 48]⟩ : PR) (rowI h (⟨[99, 46, 97, 100, 100], 28, 5, 7, 5, 0, 0, 1, 0, [49, 48, 48, 49, 68, 68, 68, 68, 68, 84, 84, 84, 84, 84, 49, 48]⟩ : PR)) = true) :
    expI h = rowI h (⟨[99, 46, 97, 100, 100], 28, 5, 7, 5, 0, 0, 1, 0, [49, 48, 48, 49, 68, 68, 68, 68, 68, 84, 84, 84, 84, 84, 49, 48]⟩ : PR) ∧ dgN h = 25 ∧ putV ((rowI h (⟨[99, 46, 97, 100, 100], 28, 5, 7, 5, 0, 0, 1, 0, [49, 48, 48, 49, 68, 68, 68, 68, 68, 84, 84, 84, 84, 84, 49, 48]⟩ : PR)).rd % 4294967296) ((rowI h (⟨[99, 46, 97, 100, 100], 28, 5, 7, 5, 0, 0, 1, 0, [49, 48, 48, 49, 68, 68, 68, 68, 68, 84, 84, 84, 84, 84, 49, 48]⟩ : PR)).rs1 % 4294967296) ((rowI h (⟨[99, 46, 97, 100, 100], 28, 5, 7, 5, 0, 0, 1, 0, [49, 48, 48, 49, 68, 68, 68, 68, 68, 84, 84, 84, 84, 84, 49, 48]⟩ : PR)).rs2 % 4294967296) ((rowI h (⟨[99, 46, 97, 100, 100], 28, 5, 7, 5, 0, 0, 1, 0, [49, 48, 48, 49, 68, 68, 68, 68, 68, 84, 84, 84, 84, 84, 49, 48]⟩ : PR)).imm % 4294967296) [49, 48, 48, 49, 68, 68, 68, 68, 68, 84, 84, 84, 84, 84, 49, 48] 0 = h := by
  rw [gi_25] at hf ⊢
  have hx := fld_bits h h0 h1
  rw [expI_bits, dgN_bits h h0 h1]
  clear h0 h1
  dsimp only
  rw [put_25]
  simp [chk, bn_iff] at hc
  have a0 := bt_bd h 0
  have a1 := bt_bd h 1
  have a2 := bt_bd h 2
  have a3 := bt_bd h 3
  have a4 := bt_bd h 4
  have a5 := bt_bd h 5
  have a6 := bt_bd h 6
  have a7 := bt_bd h 7
  have a8 := bt_bd h 8
  have a9 := bt_bd h 9
  have a10 := bt_bd h 10
  have a11 := bt_bd h 11
  have a12 := bt_bd h 12
  have a13 := bt_bd h 13
  have a14 := bt_bd h 14
  have a15 := bt_bd h 15
  generalize bt h 0 = b0 at *
  generalize bt h 1 = b1 at *
  generalize bt h 2 = b2 at *
  generalize bt h 3 = b3 at *
  generalize bt h 4 = b4 at *
  generalize bt h 5 = b5 at *
  generalize bt h 6 = b6 at *
  generalize bt h 7 = b7 at *
  generalize bt h 8 = b8 at *
  generalize bt h 9 = b9 at *
  generalize bt h 10 = b10 at *
  generalize bt h 11 = b11 at *
  generalize bt h 12 = b12 at *
  generalize bt h 13 = b13 at *
  generalize bt h 14 = b14 at *
  generalize bt h 15 = b15 at *
  obtain ⟨z15, z14, z13, z12, z1, z0⟩ := hc
  subst z0 z1 z12 z13 z14 z15
  simp [fitsI, fitsB, kindB] at hf
  refine ⟨?_, ?_, ?_⟩
  · simp only [expB]
    simp
    try (clear hx; first | rfl | ((repeat' split) <;> (first | rfl | (exfalso; omega) | (congr 1 <;> omega))) | (congr 1 <;> omega) | omega)
  · simp only [dgB]
    simp
    try (clear hx; first | rfl | ((repeat' split) <;> (first | rfl | (exfalso; omega) | omega)) | omega)
  · have p2 : (b2 + 2 * b3 + 4 * b4 + 8 * b5 + 16 * b6) / 1 % 2 = b2 := by clear hx hf; omega
    have p3 : (b2 + 2 * b3 + 4 * b4 + 8 * b5 + 16 * b6) / 2 % 2 = b3 := by clear hx hf p2; omega
    have p4 : (b2 + 2 * b3 + 4 * b4 + 8 * b5 + 16 * b6) / 4 % 2 = b4 := by clear hx hf p2 p3; omega
    have p5 : (b2 + 2 * b3 + 4 * b4 + 8 * b5 + 16 * b6) / 8 % 2 = b5 := by clear hx hf p2 p3 p4; omega
    have p6 : (b2 + 2 * b3 + 4 * b4 + 8 * b5 + 16 * b6) / 16 % 2 = b6 := by clear hx hf p2 p3 p4 p5; omega
    have p7 : (b7 + 2 * b8 + 4 * b9 + 8 * b10 + 16 * b11) / 1 % 2 = b7 := by clear hx hf p2 p3 p4 p5 p6; omega
    have p8 : (b7 + 2 * b8 + 4 * b9 + 8 * b10 + 16 * b11) / 2 % 2 = b8 := by clear hx hf p2 p3 p4 p5 p6 p7; omega
    have p9 : (b7 + 2 * b8 + 4 * b9 + 8 * b10 + 16 * b11) / 4 % 2 = b9 := by clear hx hf p2 p3 p4 p5 p6 p7 p8; omega
    have p10 : (b7 + 2 * b8 + 4 * b9 + 8 * b10 + 16 * b11) / 8 % 2 = b10 := by clear hx hf p2 p3 p4 p5 p6 p7 p8 p9; omega
    have p11 : (b7 + 2 * b8 + 4 * b9 + 8 * b10 + 16 * b11) / 16 % 2 = b11 := by clear hx hf p2 p3 p4 p5 p6 p7 p8 p9 p10; omega
    try rw [p2, p3, p4, p5, p6, p7, p8, p9, p10, p11]
    clear hf
    omega

set_option maxHeartbeats 4000000 in
theorem rc_25 (h : Int) (h0 : 0 ≤ h) (h1 : h < 65536) (hd : dgN h = 25) (hf : fitsI (⟨[99, 46, 97, 100, 100], 28, 5, 7, 5, 0, 0, 1, 0, [49, 48, 48, 49, 68, 68, 68, 68, 68, 84, 84, 84, 84, 84, 49, 48]⟩ : PR) (expI h) = true) : chk h [49, 48, 48, 49, 68, 68, 68, 68, 68, 84, 84, 84, 84, 84, 49, 48] = true := by
  rw [expI_bits] at hf
  rw [dgN_bits h h0 h1] at hd
  clear h0 h1
  simp [chk, bn_iff]
  have a0 := bt_bd h 0
  have a1 := bt_bd h 1
  have a2 := bt_bd h 2
  have a3 := bt_bd h 3
  have a4 := bt_bd h 4
  have a5 := bt_bd h 5
  have a6 := bt_bd h 6
  have a7 := bt_bd h 7
  have a8 := bt_bd h 8
  have a9 := bt_bd h 9
  have a10 := bt_bd h 10
  have a11 := bt_bd h 11
  have a12 := bt_bd h 12
  have a13 := bt_bd h 13
  have a14 := bt_bd h 14
  have a15 := bt_bd h 15
  generalize bt h 0 = b0 at *
  generalize bt h 1 = b1 at *
  generalize bt h 2 = b2 at *
  generalize bt h 3 = b3 at *
  generalize bt h 4 = b4 at *
  generalize bt h 5 = b5 at *
  generalize bt h 6 = b6 at *
  generalize bt h 7 = b7 at *
  generalize bt h 8 = b8 at *
  generalize bt h 9 = b9 at *
  generalize bt h 10 = b10 at *
  generalize bt h 11 = b11 at *
  generalize bt h 12 = b12 at *
  generalize bt h 13 = b13 at *
  generalize bt h 14 = b14 at *
  generalize bt h 15 = b15 at *
  have key : 8 * b0 + 16 * b1 + b13 + 2 * b14 + 4 * b15 = 20 := dg_key 25 _ _ _ _ _ _ _ _ _ _ _ _ _ _ _ _ a5 a6 a10 a11 (by omega) hd
  have z0 : b0 = 0 := by clear hf hd; omega
  have z1 : b1 = 1 := by clear hf hd; omega
  have z13 : b13 = 0 := by clear hf hd; omega
  have z14 : b14 = 0 := by clear hf hd; omega
  have z15 : b15 = 1 := by clear hf hd; omega
  clear key
  subst z0 z1 z13 z14 z15
  simp only [dgB] at hd
  simp at hd
  simp only [expB] at hf
  rcases (by omega : b12 = 0 ∨ b12 = 1) with rfl | rfl <;> rcases (by omega : b2 + 2 * b3 + 4 * b4 + 8 * b5 + 16 * b6 = 0 ∨ 0 < b2 + 2 * b3 + 4 * b4 + 8 * b5 + 16 * b6) with p | p <;> rcases (by omega : b7 + 2 * b8 + 4 * b9 + 8 * b10 + 16 * b11 = 0 ∨ 0 < b7 + 2 * b8 + 4 * b9 + 8 * b10 + 16 * b11) with q | q
  all_goals
    have p1 := Int.lt_irrefl 0
    have p2 : 0 < b2 + 2 * b3 + 4 * b4 + 8 * b5 + 16 * b6 → ¬ b2 + 2 * b3 + 4 * b4 + 8 * b5 + 16 * b6 = 0 := by omega
    have q2 : 0 < b7 + 2 * b8 + 4 * b9 + 8 * b10 + 16 * b11 → ¬ b7 + 2 * b8 + 4 * b9 + 8 * b10 + 16 * b11 = 0 := by omega
    simp [p, q, p2, q2] at hd hf
  all_goals first | (exact absurd hf (by decide)) | (simp [fitsI, fitsB, kindB] at hf; done) | ((try simp [fitsI, fitsB, kindB] at hf); omega)

theorem gi_26 (h : Int) : rowI h (⟨[99, 46, 115, 119, 115, 112], 18, 0, 2, 3, 0, 252, 4, 0, [49, 49, 48, 102, 101, 100, 99, 104, 103, 84, 84, 84, 84, 84, 49, 48]⟩ : PR) = ⟨18, 0, 2, bt h 2 + 2 * bt h 3 + 4 * bt h 4 + 8 * bt h 5 + 16 * bt h 6, 4 * bt h 9 + 8 * bt h 10 + 16 * bt h 11 + 32 * bt h 12 + 64 * bt h 7 + 128 * bt h 8⟩ := by
  have e : getT h [49, 49, 48, 102, 101, 100, 99, 104, 103, 84, 84, 84, 84, 84, 49, 48] GS0 = ⟨((((((0 + bn h 12 * 2 ^ 5) + bn h 11 * 2 ^ 4) + bn h 10 * 2 ^ 3) + bn h 9 * 2 ^ 2) + bn h 8 * 2 ^ 7) + bn h 7 * 2 ^ 6), (max (max (max (max (max (max 0 6) 5) 4) 3) 8) 7), 0, 0, (2 * (2 * (2 * (2 * (2 * 0 + bn h 6) + bn h 5) + bn h 4) + bn h 3) + bn h 2)⟩ := rfl
  have h2 := bt_bd h 2
  have h3 := bt_bd h 3
  have h4 := bt_bd h 4
  have h5 := bt_bd h 5
  have h6 := bt_bd h 6
  have h7 := bt_bd h 7
  have h8 := bt_bd h 8
  have h9 := bt_bd h 9
  have h10 := bt_bd h 10
  have h11 := bt_bd h 11
  have h12 := bt_bd h 12
  unfold rowI
  show gsI (⟨[99, 46, 115, 119, 115, 112], 18, 0, 2, 3, 0, 252, 4, 0, [49, 49, 48, 102, 101, 100, 99, 104, 103, 84, 84, 84, 84, 84, 49, 48]⟩ : PR) (getT h [49, 49, 48, 102, 101, 100, 99, 104, 103, 84, 84, 84, 84, 84, 49, 48] GS0) = _
  rw [e]
  clear e
  unfold gsI fullP
  simp [bn_bt]
  try ((repeat' apply And.intro) <;> first | omega | (unfold wrap32; omega))

set_option maxHeartbeats 4000000 in
theorem rb_26 (h : Int) (h0 : 0 ≤ h) (h1 : h < 65536) (hc : chk h [49, 49, 48, 102, 101, 100, 99, 104, 103, 84, 84, 84, 84, 84, 49, 48] = true) (hf : fitsI (⟨[99, 46, 115, 119, 115, 112], 18, 0, 2, 3, 0, 252, 4, 0, [49, 49, 48, 102, 101, 100, 99, 104, 103, 84, 84, 84, 84, 84, 49, 48]⟩ : PR) (rowI h (⟨[99, 46, 115, 119, 115, 112], 18, 0, 2, 3, 0, 252, 4, 0, [49, 49, 48, 102, 101, 100, 99, 104, 103, 84, 84, 84, 84, 84, 49, 48]⟩ : PR)) = true) :
    expI h = rowI h (⟨[99, 46, 115, 119, 115, 112], 18, 0, 2, 3, 0, 252, 4, 0, [49, 49, 48, 102, 101, 100, 99, 104, 103, 84, 84, 84, 84, 84, 49, 48]⟩ : PR) ∧ dgN h = 26 ∧ putV ((rowI h (⟨[99, 46, 115, 119, 115, 112], 18, 0, 2, 3, 0, 252, 4, 0, [49, 49, 48, 102, 101, 100, 99, 104, 103, 84, 84, 84, 84, 84, 49, 48]⟩ : PR)).rd % 4294967296) ((rowI h (⟨[99, 46, 115, 119, 115, 112], 18, 0, 2, 3, 0, 252, 4, 0, [49, 49, 48, 102, 101, 100, 99, 104, 103, 84, 84, 84, 84, 84, 49, 48]⟩ : PR)).rs1 % 4294967296) ((rowI h (⟨[99, 46, 115, 119, 115, 112], 18, 0, 2, 3, 0, 252, 4, 0, [49, 49, 48, 102, 101, 100, 99, 104, 103, 84, 84, 84, 84, 84, 49, 48]⟩ : PR)).rs2 % 4294967296) ((rowI h (⟨[99, 46, 115, 119, 115, 112], 18, 0, 2, 3, 0, 252, 4, 0, [49, 49, 48, 102, 101, 100, 99, 104, 103, 84, 84, 84, 84, 84, 49, 48]⟩ : PR)).imm % 4294967296) [49, 49, 48, 102, 101, 100, 99, 104, 103, 84, 84, 84, 84, 84, 49, 48] 0 = h := by
  rw [gi_26] at hf ⊢
  have hx := fld_bits h h0 h1
  rw [expI_bits, dgN_bits h h0 h1]
  clear h0 h1
  dsimp only
  rw [put_26]
  simp [chk, bn_iff] at hc
  have a0 := bt_bd h 0
  have a1 := bt_bd h 1
  have a2 := bt_bd h 2
  have a3 := bt_bd h 3
  have a4 := bt_bd h 4
  have a5 := bt_bd h 5
  have a6 := bt_bd h 6
  have a7 := bt_bd h 7
  have a8 := bt_bd h 8
  have a9 := bt_bd h 9
  have a10 := bt_bd h 10
  have a11 := bt_bd h 11
  have a12 := bt_bd h 12
  have a13 := bt_bd h 13
  have a14 := bt_bd h 14
  have a15 := bt_bd h 15
  generalize bt h 0 = b0 at *
  generalize bt h 1 = b1 at *
  generalize bt h 2 = b2 at *
  generalize bt h 3 = b3 at *
  generalize bt h 4 = b4 at *
  generalize bt h 5 = b5 at *
  generalize bt h 6 = b6 at *
  generalize bt h 7 = b7 at *
  generalize bt h 8 = b8 at *
  generalize bt h 9 = b9 at *
  generalize bt h 10 = b10 at *
  generalize bt h 11 = b11 at *
  generalize bt h 12 = b12 at *
  generalize bt h 13 = b13 at *
  generalize bt h 14 = b14 at *
  generalize bt h 15 = b15 at *
  obtain ⟨z15, z14, z13, z1, z0⟩ := hc
  subst z0 z1 z13 z14 z15
  simp [fitsI, fitsB, kindB] at hf
  refine ⟨?_, ?_, ?_⟩
  · simp only [expB]
    simp
    try (clear hx; first | rfl | ((repeat' split) <;> (first | rfl | (exfalso; omega) | (congr 1 <;> omega))) | (congr 1 <;> omega) | omega)
  · simp only [dgB]
    simp
    try (clear hx; first | rfl | ((repeat' split) <;> (first | rfl | (exfalso; omega) | omega)) | omega)
  · have p2 : (b2 + 2 * b3 + 4 * b4 + 8 * b5 + 16 * b6) / 1 % 2 = b2 := by clear hx hf; omega
    have p3 : (b2 + 2 * b3 + 4 * b4 + 8 * b5 + 16 * b6) / 2 % 2 = b3 := by clear hx hf p2; omega
    have p4 : (b2 + 2 * b3 + 4 * b4 + 8 * b5 + 16 * b6) / 4 % 2 = b4 := by clear hx hf p2 p3; omega
    have p5 : (b2 + 2 * b3 + 4 * b4 + 8 * b5 + 16 * b6) / 8 % 2 = b5 := by clear hx hf p2 p3 p4; omega
    have p6 : (b2 + 2 * b3 + 4 * b4 + 8 * b5 + 16 * b6) / 16 % 2 = b6 := by clear hx hf p2 p3 p4 p5; omega
    have p7 : (4 * b9 + 8 * b10 + 16 * b11 + 32 * b12 + 64 * b7 + 128 * b8) / 64 % 2 = b7 := by clear hx hf p2 p3 p4 p5 p6; omega
    have p8 : (4 * b9 + 8 * b10 + 16 * b11 + 32 * b12 + 64 * b7 + 128 * b8) / 128 % 2 = b8 := by clear hx hf p2 p3 p4 p5 p6 p7; omega
    have p9 : (4 * b9 + 8 * b10 + 16 * b11 + 32 * b12 + 64 * b7 + 128 * b8) / 4 % 2 = b9 := by clear hx hf p2 p3 p4 p5 p6 p7 p8; omega
    have p10 : (4 * b9 + 8 * b10 + 16 * b11 + 32 * b12 + 64 * b7 + 128 * b8) / 8 % 2 = b10 := by clear hx hf p2 p3 p4 p5 p6 p7 p8 p9; omega
    have p11 : (4 * b9 + 8 * b10 + 16 * b11 + 32 * b12 + 64 * b7 + 128 * b8) / 16 % 2 = b11 := by clear hx hf p2 p3 p4 p5 p6 p7 p8 p9 p10; omega
    have p12 : (4 * b9 + 8 * b10 + 16 * b11 + 32 * b12 + 64 * b7 + 128 * b8) / 32 % 2 = b12 := by clear hx hf p2 p3 p4 p5 p6 p7 p8 p9 p10 p11; omega
    try rw [p2, p3, p4, p5, p6, p7, p8, p9, p10, p11, p12]
    clear hf
    omega

set_option maxHeartbeats 4000000 in
theorem rc_26 (h : Int) (h0 : 0 ≤ h) (h1 : h < 65536) (hd : dgN h = 26) (hf : fitsI (⟨[99, 46, 115, 119, 115, 112], 18, 0, 2, 3, 0, 252, 4, 0, [49, 49, 48, 102, 101, 100, 99, 104, 103, 84, 84, 84, 84, 84, 49, 48]⟩ : PR) (expI h) = true) : chk h [49, 49, 48, 102, 101, 100, 99, 104, 103, 84, 84, 84, 84, 84, 49, 48] = true := by
  rw [expI_bits] at hf
  rw [dgN_bits h h0 h1] at hd
  clear h0 h1
  simp [chk, bn_iff]
  have a0 := bt_bd h 0
  have a1 := bt_bd h 1
  have a2 := bt_bd h 2
  have a3 := bt_bd h 3
  have a4 := bt_bd h 4
  have a5 := bt_bd h 5
  have a6 := bt_bd h 6
  have a7 := bt_bd h 7
  have a8 := bt_bd h 8
  have a9 := bt_bd h 9
  have a10 := bt_bd h 10
  have a11 := bt_bd h 11
  have a12 := bt_bd h 12
  have a13 := bt_bd h 13
  have a14 := bt_bd h 14
  have a15 := bt_bd h 15
  generalize bt h 0 = b0 at *
  generalize bt h 1 = b1 at *
  generalize bt h 2 = b2 at *
  generalize bt h 3 = b3 at *
  generalize bt h 4 = b4 at *
  generalize bt h 5 = b5 at *
  generalize bt h 6 = b6 at *
  generalize bt h 7 = b7 at *
  generalize bt h 8 = b8 at *
  generalize bt h 9 = b9 at *
  generalize bt h 10 = b10 at *
  generalize bt h 11 = b11 at *
  generalize bt h 12 = b12 at *
  generalize bt h 13 = b13 at *
  generalize bt h 14 = b14 at *
  generalize bt h 15 = b15 at *
  have key : 8 * b0 + 16 * b1 + b13 + 2 * b14 + 4 * b15 = 22 := dg_key 26 _ _ _ _ _ _ _ _ _ _ _ _ _ _ _ _ a5 a6 a10 a11 (by omega) hd
  have z0 : b0 = 0 := by clear hf hd; omega
  have z1 : b1 = 1 := by clear hf hd; omega
  have z13 : b13 = 0 := by clear hf hd; omega
  have z14 : b14 = 1 := by clear hf hd; omega
  have z15 : b15 = 1 := by clear hf hd; omega
  clear key
  subst z0 z1 z13 z14 z15
  simp only [dgB] at hd
  simp at hd
  simp only [expB] at hf
  simp at hf
  try ((repeat' split at hd) <;> (first | (exfalso; omega) | ((repeat' split at hf) <;> (first | (exact absurd hf (by decide)) | ((try simp [fitsI, fitsB, kindB] at hf); omega)))))

end Go.Proofs.Ytppnmaklggkogaa

/- Plain: row by row, what a row reads is what the machine expands, or that is nothing. -/
namespace Go.Proofs.Ytppnmaklggkogaa
open Go.RowKit
set_option linter.unusedVariables false
set_option linter.unusedSimpArgs false

set_option maxHeartbeats 4000000 in
theorem rd_0 (h : Int) (h0 : 0 ≤ h) (h1 : h < 65536) (hd : dgN h = 0) (hc : chk h [48, 48, 48, 102, 101, 106, 105, 104, 103, 99, 100, 68, 68, 68, 48, 48] = true) : expI h = none5 ∨ expI h = rowI h (⟨[99, 46, 97, 100, 100, 105, 52, 115, 112, 110], 19, 4, 2, 0, 4, 1020, 4, 0, [48, 48, 48, 102, 101, 106, 105, 104, 103, 99, 100, 68, 68, 68, 48, 48]⟩ : PR) := by
  rw [gi_0, expI_bits]
  rw [dgN_bits h h0 h1] at hd
  clear h0 h1
  simp [chk, bn_iff] at hc
  have a0 := bt_bd h 0
  have a1 := bt_bd h 1
  have a2 := bt_bd h 2
  have a3 := bt_bd h 3
  have a4 := bt_bd h 4
  have a5 := bt_bd h 5
  have a6 := bt_bd h 6
  have a7 := bt_bd h 7
  have a8 := bt_bd h 8
  have a9 := bt_bd h 9
  have a10 := bt_bd h 10
  have a11 := bt_bd h 11
  have a12 := bt_bd h 12
  have a13 := bt_bd h 13
  have a14 := bt_bd h 14
  have a15 := bt_bd h 15
  generalize bt h 0 = b0 at *
  generalize bt h 1 = b1 at *
  generalize bt h 2 = b2 at *
  generalize bt h 3 = b3 at *
  generalize bt h 4 = b4 at *
  generalize bt h 5 = b5 at *
  generalize bt h 6 = b6 at *
  generalize bt h 7 = b7 at *
  generalize bt h 8 = b8 at *
  generalize bt h 9 = b9 at *
  generalize bt h 10 = b10 at *
  generalize bt h 11 = b11 at *
  generalize bt h 12 = b12 at *
  generalize bt h 13 = b13 at *
  generalize bt h 14 = b14 at *
  generalize bt h 15 = b15 at *
  obtain ⟨z15, z14, z13, z1, z0⟩ := hc
  subst z0 z1 z13 z14 z15
  clear hd
  simp only [expB]
  simp
  try (first | (right; rfl) | ((repeat' split) <;> (first | (left; rfl) | (right; rfl) | (right; congr 1 <;> omega) | (exfalso; omega))) | (right; congr 1 <;> omega) | omega)

set_option maxHeartbeats 4000000 in
theorem rd_1 (h : Int) (h0 : 0 ≤ h) (h1 : h < 65536) (hd : dgN h = 1) (hc : chk h [48, 49, 48, 102, 101, 100, 83, 83, 83, 99, 103, 68, 68, 68, 48, 48] = true) : expI h = none5 ∨ expI h = rowI h (⟨[99, 46, 108, 119], 13, 4, 4, 0, 0, 124, 4, 0, [48, 49, 48, 102, 101, 100, 83, 83, 83, 99, 103, 68, 68, 68, 48, 48]⟩ : PR) := by
  rw [gi_1, expI_bits]
  rw [dgN_bits h h0 h1] at hd
  clear h0 h1
  simp [chk, bn_iff] at hc
  have a0 := bt_bd h 0
  have a1 := bt_bd h 1
  have a2 := bt_bd h 2
  have a3 := bt_bd h 3
  have a4 := bt_bd h 4
  have a5 := bt_bd h 5
  have a6 := bt_bd h 6
  have a7 := bt_bd h 7
  have a8 := bt_bd h 8
  have a9 := bt_bd h 9
  have a10 := bt_bd h 10
  have a11 := bt_bd h 11
  have a12 := bt_bd h 12
  have a13 := bt_bd h 13
  have a14 := bt_bd h 14
  have a15 := bt_bd h 15
  generalize bt h 0 = b0 at *
  generalize bt h 1 = b1 at *
  generalize bt h 2 = b2 at *
  generalize bt h 3 = b3 at *
  generalize bt h 4 = b4 at *
  generalize bt h 5 = b5 at *
  generalize bt h 6 = b6 at *
  generalize bt h 7 = b7 at *
  generalize bt h 8 = b8 at *
  generalize bt h 9 = b9 at *
  generalize bt h 10 = b10 at *
  generalize bt h 11 = b11 at *
  generalize bt h 12 = b12 at *
  generalize bt h 13 = b13 at *
  generalize bt h 14 = b14 at *
  generalize bt h 15 = b15 at *
  obtain ⟨z15, z14, z13, z1, z0⟩ := hc
  subst z0 z1 z13 z14 z15
  clear hd
  simp only [expB]
  simp
  try (first | (right; rfl) | ((repeat' split) <;> (first | (left; rfl) | (right; rfl) | (right; congr 1 <;> omega) | (exfalso; omega))) | (right; congr 1 <;> omega) | omega)

set_option maxHeartbeats 4000000 in
theorem rd_2 (h : Int) (h0 : 0 ≤ h) (h1 : h < 65536) (hd : dgN h = 2) (hc : chk h [49, 49, 48, 102, 101, 100, 83, 83, 83, 99, 103, 84, 84, 84, 48, 48] = true) : expI h = none5 ∨ expI h = rowI h (⟨[99, 46, 115, 119], 18, 0, 4, 4, 0, 124, 4, 0, [49, 49, 48, 102, 101, 100, 83, 83, 83, 99, 103, 84, 84, 84, 48, 48]⟩ : PR) := by
  rw [gi_2, expI_bits]
  rw [dgN_bits h h0 h1] at hd
  clear h0 h1
  simp [chk, bn_iff] at hc
  have a0 := bt_bd h 0
  have a1 := bt_bd h 1
  have a2 := bt_bd h 2
  have a3 := bt_bd h 3
  have a4 := bt_bd h 4
  have a5 := bt_bd h 5
  have a6 := bt_bd h 6
  have a7 := bt_bd h 7
  have a8 := bt_bd h 8
  have a9 := bt_bd h 9
  have a10 := bt_bd h 10
  have a11 := bt_bd h 11
  have a12 := bt_bd h 12
  have a13 := bt_bd h 13
  have a14 := bt_bd h 14
  have a15 := bt_bd h 15
  generalize bt h 0 = b0 at *
  generalize bt h 1 = b1 at *
  generalize bt h 2 = b2 at *
  generalize bt h 3 = b3 at *
  generalize bt h 4 = b4 at *
  generalize bt h 5 = b5 at *
  generalize bt h 6 = b6 at *
  generalize bt h 7 = b7 at *
  generalize bt h 8 = b8 at *
  generalize bt h 9 = b9 at *
  generalize bt h 10 = b10 at *
  generalize bt h 11 = b11 at *
  generalize bt h 12 = b12 at *
  generalize bt h 13 = b13 at *
  generalize bt h 14 = b14 at *
  generalize bt h 15 = b15 at *
  obtain ⟨z15, z14, z13, z1, z0⟩ := hc
  subst z0 z1 z13 z14 z15
  clear hd
  simp only [expB]
  simp
  try (first | (right; rfl) | ((repeat' split) <;> (first | (left; rfl) | (right; rfl) | (right; congr 1 <;> omega) | (exfalso; omega))) | (right; congr 1 <;> omega) | omega)

set_option maxHeartbeats 4000000 in
theorem rd_3 (h : Int) (h0 : 0 ≤ h) (h1 : h < 65536) (hd : dgN h = 3) (hc : chk h [48, 48, 48, 48, 48, 48, 48, 48, 48, 48, 48, 48, 48, 48, 48, 49] = true) : expI h = none5 ∨ expI h = rowI h (⟨[99, 46, 110, 111, 112], 19, 0, 0, 0, 0, 0, 1, 0, [48, 48, 48, 48, 48, 48, 48, 48, 48, 48, 48, 48, 48, 48, 48, 49]⟩ : PR) := by
  rw [gi_3, expI_bits]
  rw [dgN_bits h h0 h1] at hd
  clear h0 h1
  simp [chk, bn_iff] at hc
  have a0 := bt_bd h 0
  have a1 := bt_bd h 1
  have a2 := bt_bd h 2
  have a3 := bt_bd h 3
  have a4 := bt_bd h 4
  have a5 := bt_bd h 5
  have a6 := bt_bd h 6
  have a7 := bt_bd h 7
  have a8 := bt_bd h 8
  have a9 := bt_bd h 9
  have a10 := bt_bd h 10
  have a11 := bt_bd h 11
  have a12 := bt_bd h 12
  have a13 := bt_bd h 13
  have a14 := bt_bd h 14
  have a15 := bt_bd h 15
  generalize bt h 0 = b0 at *
  generalize bt h 1 = b1 at *
  generalize bt h 2 = b2 at *
  generalize bt h 3 = b3 at *
  generalize bt h 4 = b4 at *
  generalize bt h 5 = b5 at *
  generalize bt h 6 = b6 at *
  generalize bt h 7 = b7 at *
  generalize bt h 8 = b8 at *
  generalize bt h 9 = b9 at *
  generalize bt h 10 = b10 at *
  generalize bt h 11 = b11 at *
  generalize bt h 12 = b12 at *
  generalize bt h 13 = b13 at *
  generalize bt h 14 = b14 at *
  generalize bt h 15 = b15 at *
  obtain ⟨z15, z14, z13, z12, z11, z10, z9, z8, z7, z6, z5, z4, z3, z2, z1, z0⟩ := hc
  subst z0 z1 z2 z3 z4 z5 z6 z7 z8 z9 z10 z11 z12 z13 z14 z15
  clear hd
  simp only [expB]
  simp
  try (first | (right; rfl) | ((repeat' split) <;> (first | (left; rfl) | (right; rfl) | (right; congr 1 <;> omega) | (exfalso; omega))) | (right; congr 1 <;> omega) | omega)

set_option maxHeartbeats 4000000 in
theorem rd_4 (h : Int) (h0 : 0 ≤ h) (h1 : h < 65536) (hd : dgN h = 4) (hc : chk h [48, 48, 48, 102, 68, 68, 68, 68, 68, 101, 100, 99, 98, 97, 48, 49] = true) : expI h = none5 ∨ expI h = rowI h (⟨[99, 46, 97, 100, 100, 105], 19, 5, 7, 0, (-32), 31, 1, 1, [48, 48, 48, 102, 68, 68, 68, 68, 68, 101, 100, 99, 98, 97, 48, 49]⟩ : PR) := by
  rw [gi_4, expI_bits]
  rw [dgN_bits h h0 h1] at hd
  clear h0 h1
  simp [chk, bn_iff] at hc
  have a0 := bt_bd h 0
  have a1 := bt_bd h 1
  have a2 := bt_bd h 2
  have a3 := bt_bd h 3
  have a4 := bt_bd h 4
  have a5 := bt_bd h 5
  have a6 := bt_bd h 6
  have a7 := bt_bd h 7
  have a8 := bt_bd h 8
  have a9 := bt_bd h 9
  have a10 := bt_bd h 10
  have a11 := bt_bd h 11
  have a12 := bt_bd h 12
  have a13 := bt_bd h 13
  have a14 := bt_bd h 14
  have a15 := bt_bd h 15
  generalize bt h 0 = b0 at *
  generalize bt h 1 = b1 at *
  generalize bt h 2 = b2 at *
  generalize bt h 3 = b3 at *
  generalize bt h 4 = b4 at *
  generalize bt h 5 = b5 at *
  generalize bt h 6 = b6 at *
  generalize bt h 7 = b7 at *
  generalize bt h 8 = b8 at *
  generalize bt h 9 = b9 at *
  generalize bt h 10 = b10 at *
  generalize bt h 11 = b11 at *
  generalize bt h 12 = b12 at *
  generalize bt h 13 = b13 at *
  generalize bt h 14 = b14 at *
  generalize bt h 15 = b15 at *
  obtain ⟨z15, z14, z13, z1, z0⟩ := hc
  subst z0 z1 z13 z14 z15
  clear hd
  simp only [expB]
  simp
  try (first | (right; rfl) | ((repeat' split) <;> (first | (left; rfl) | (right; rfl) | (right; congr 1 <;> omega) | (exfalso; omega))) | (right; congr 1 <;> omega) | omega)

set_option maxHeartbeats 4000000 in
theorem rd_5 (h : Int) (h0 : 0 ≤ h) (h1 : h < 65536) (hd : dgN h = 5) (hc : chk h [48, 48, 49, 108, 101, 106, 105, 107, 103, 104, 100, 99, 98, 102, 48, 49] = true) : expI h = none5 ∨ expI h = rowI h (⟨[99, 46, 106, 97, 108], 3, 1, 0, 0, (-2048), 2046, 2, 0, [48, 48, 49, 108, 101, 106, 105, 107, 103, 104, 100, 99, 98, 102, 48, 49]⟩ : PR) := by
  rw [gi_5, expI_bits]
  rw [dgN_bits h h0 h1] at hd
  clear h0 h1
  simp [chk, bn_iff] at hc
  have a0 := bt_bd h 0
  have a1 := bt_bd h 1
  have a2 := bt_bd h 2
  have a3 := bt_bd h 3
  have a4 := bt_bd h 4
  have a5 := bt_bd h 5
  have a6 := bt_bd h 6
  have a7 := bt_bd h 7
  have a8 := bt_bd h 8
  have a9 := bt_bd h 9
  have a10 := bt_bd h 10
  have a11 := bt_bd h 11
  have a12 := bt_bd h 12
  have a13 := bt_bd h 13
  have a14 := bt_bd h 14
  have a15 := bt_bd h 15
  generalize bt h 0 = b0 at *
  generalize bt h 1 = b1 at *
  generalize bt h 2 = b2 at *
  generalize bt h 3 = b3 at *
  generalize bt h 4 = b4 at *
  generalize bt h 5 = b5 at *
  generalize bt h 6 = b6 at *
  generalize bt h 7 = b7 at *
  generalize bt h 8 = b8 at *
  generalize bt h 9 = b9 at *
  generalize bt h 10 = b10 at *
  generalize bt h 11 = b11 at *
  generalize bt h 12 = b12 at *
  generalize bt h 13 = b13 at *
  generalize bt h 14 = b14 at *
  generalize bt h 15 = b15 at *
  obtain ⟨z15, z14, z13, z1, z0⟩ := hc
  subst z0 z1 z13 z14 z15
  clear hd
  simp only [expB]
  simp
  try (first | (right; rfl) | ((repeat' split) <;> (first | (left; rfl) | (right; rfl) | (right; congr 1 <;> omega) | (exfalso; omega))) | (right; congr 1 <;> omega) | omega)

set_option maxHeartbeats 4000000 in
theorem rd_6 (h : Int) (h0 : 0 ≤ h) (h1 : h < 65536) (hd : dgN h = 6) (hc : chk h [48, 49, 48, 102, 68, 68, 68, 68, 68, 101, 100, 99, 98, 97, 48, 49] = true) : expI h = none5 ∨ expI h = rowI h (⟨[99, 46, 108, 105], 19, 5, 0, 0, (-32), 31, 1, 0, [48, 49, 48, 102, 68, 68, 68, 68, 68, 101, 100, 99, 98, 97, 48, 49]⟩ : PR) := by
  rw [gi_6, expI_bits]
  rw [dgN_bits h h0 h1] at hd
  clear h0 h1
  simp [chk, bn_iff] at hc
  have a0 := bt_bd h 0
  have a1 := bt_bd h 1
  have a2 := bt_bd h 2
  have a3 := bt_bd h 3
  have a4 := bt_bd h 4
  have a5 := bt_bd h 5
  have a6 := bt_bd h 6
  have a7 := bt_bd h 7
  have a8 := bt_bd h 8
  have a9 := bt_bd h 9
  have a10 := bt_bd h 10
  have a11 := bt_bd h 11
  have a12 := bt_bd h 12
  have a13 := bt_bd h 13
  have a14 := bt_bd h 14
  have a15 := bt_bd h 15
  generalize bt h 0 = b0 at *
  generalize bt h 1 = b1 at *
  generalize bt h 2 = b2 at *
  generalize bt h 3 = b3 at *
  generalize bt h 4 = b4 at *
  generalize bt h 5 = b5 at *
  generalize bt h 6 = b6 at *
  generalize bt h 7 = b7 at *
  generalize bt h 8 = b8 at *
  generalize bt h 9 = b9 at *
  generalize bt h 10 = b10 at *
  generalize bt h 11 = b11 at *
  generalize bt h 12 = b12 at *
  generalize bt h 13 = b13 at *
  generalize bt h 14 = b14 at *
  generalize bt h 15 = b15 at *
  obtain ⟨z15, z14, z13, z1, z0⟩ := hc
  subst z0 z1 z13 z14 z15
  clear hd
  simp only [expB]
  simp
  try (first | (right; rfl) | ((repeat' split) <;> (first | (left; rfl) | (right; rfl) | (right; congr 1 <;> omega) | (exfalso; omega))) | (right; congr 1 <;> omega) | omega)

set_option maxHeartbeats 4000000 in
theorem rd_7 (h : Int) (h0 : 0 ≤ h) (h1 : h < 65536) (hd : dgN h = 7) (hc : chk h [48, 49, 49, 106, 48, 48, 48, 49, 48, 101, 103, 105, 104, 102, 48, 49] = true) : expI h = none5 ∨ expI h = rowI h (⟨[99, 46, 97, 100, 100, 105, 49, 54, 115, 112], 19, 2, 7, 0, (-512), 496, 16, 1, [48, 49, 49, 106, 48, 48, 48, 49, 48, 101, 103, 105, 104, 102, 48, 49]⟩ : PR) := by
  rw [gi_7, expI_bits]
  rw [dgN_bits h h0 h1] at hd
  clear h0 h1
  simp [chk, bn_iff] at hc
  have a0 := bt_bd h 0
  have a1 := bt_bd h 1
  have a2 := bt_bd h 2
  have a3 := bt_bd h 3
  have a4 := bt_bd h 4
  have a5 := bt_bd h 5
  have a6 := bt_bd h 6
  have a7 := bt_bd h 7
  have a8 := bt_bd h 8
  have a9 := bt_bd h 9
  have a10 := bt_bd h 10
  have a11 := bt_bd h 11
  have a12 := bt_bd h 12
  have a13 := bt_bd h 13
  have a14 := bt_bd h 14
  have a15 := bt_bd h 15
  generalize bt h 0 = b0 at *
  generalize bt h 1 = b1 at *
  generalize bt h 2 = b2 at *
  generalize bt h 3 = b3 at *
  generalize bt h 4 = b4 at *
  generalize bt h 5 = b5 at *
  generalize bt h 6 = b6 at *
  generalize bt h 7 = b7 at *
  generalize bt h 8 = b8 at *
  generalize bt h 9 = b9 at *
  generalize bt h 10 = b10 at *
  generalize bt h 11 = b11 at *
  generalize bt h 12 = b12 at *
  generalize bt h 13 = b13 at *
  generalize bt h 14 = b14 at *
  generalize bt h 15 = b15 at *
  obtain ⟨z15, z14, z13, z11, z10, z9, z8, z7, z1, z0⟩ := hc
  subst z0 z1 z7 z8 z9 z10 z11 z13 z14 z15
  clear hd
  simp only [expB]
  simp
  try (first | (right; rfl) | ((repeat' split) <;> (first | (left; rfl) | (right; rfl) | (right; congr 1 <;> omega) | (exfalso; omega))) | (right; congr 1 <;> omega) | omega)

set_option maxHeartbeats 4000000 in
theorem rd_8 (h : Int) (h0 : 0 ≤ h) (h1 : h < 65536) (hd : dgN h = 8) (hc : chk h [48, 49, 49, 114, 68, 68, 68, 68, 68, 113, 112, 111, 110, 109, 48, 49] = true) : expI h = none5 ∨ expI h = rowI h (⟨[99, 46, 108, 117, 105], 1, 6, 0, 0, (-131072), 126976, 4096, 1, [48, 49, 49, 114, 68, 68, 68, 68, 68, 113, 112, 111, 110, 109, 48, 49]⟩ : PR) := by
  rw [gi_8, expI_bits]
  rw [dgN_bits h h0 h1] at hd
  clear h0 h1
  simp [chk, bn_iff] at hc
  have a0 := bt_bd h 0
  have a1 := bt_bd h 1
  have a2 := bt_bd h 2
  have a3 := bt_bd h 3
  have a4 := bt_bd h 4
  have a5 := bt_bd h 5
  have a6 := bt_bd h 6
  have a7 := bt_bd h 7
  have a8 := bt_bd h 8
  have a9 := bt_bd h 9
  have a10 := bt_bd h 10
  have a11 := bt_bd h 11
  have a12 := bt_bd h 12
  have a13 := bt_bd h 13
  have a14 := bt_bd h 14
  have a15 := bt_bd h 15
  generalize bt h 0 = b0 at *
  generalize bt h 1 = b1 at *
  generalize bt h 2 = b2 at *
  generalize bt h 3 = b3 at *
  generalize bt h 4 = b4 at *
  generalize bt h 5 = b5 at *
  generalize bt h 6 = b6 at *
  generalize bt h 7 = b7 at *
  generalize bt h 8 = b8 at *
  generalize bt h 9 = b9 at *
  generalize bt h 10 = b10 at *
  generalize bt h 11 = b11 at *
  generalize bt h 12 = b12 at *
  generalize bt h 13 = b13 at *
  generalize bt h 14 = b14 at *
  generalize bt h 15 = b15 at *
  obtain ⟨z15, z14, z13, z1, z0⟩ := hc
  subst z0 z1 z13 z14 z15
  have hq : ¬ b7 + 2 * b8 + 4 * b9 + 8 * b10 + 16 * b11 = 2 := by
    intro e
    simp [dgB, e] at hd
  simp only [expB]
  simp [hq]
  by_cases e : b2 + 2 * b3 + 4 * b4 + 8 * b5 + 16 * b6 - 32 * b12 = 0
  · left
    intro hh; exact absurd e hh
  · right
    rw [if_neg e]
    congr 1
    omega

set_option maxHeartbeats 4000000 in
theorem rd_9 (h : Int) (h0 : 0 ≤ h) (h1 : h < 65536) (hd : dgN h = 9) (hc : chk h [49, 48, 48, 48, 48, 48, 68, 68, 68, 101, 100, 99, 98, 97, 48, 49] = true) : expI h = none5 ∨ expI h = rowI h (⟨[99, 46, 115, 114, 108, 105], 26, 4, 7, 0, 1, 31, 1, 0, [49, 48, 48, 48, 48, 48, 68, 68, 68, 101, 100, 99, 98, 97, 48, 49]⟩ : PR) := by
  rw [gi_9, expI_bits]
  rw [dgN_bits h h0 h1] at hd
  clear h0 h1
  simp [chk, bn_iff] at hc
  have a0 := bt_bd h 0
  have a1 := bt_bd h 1
  have a2 := bt_bd h 2
  have a3 := bt_bd h 3
  have a4 := bt_bd h 4
  have a5 := bt_bd h 5
  have a6 := bt_bd h 6
  have a7 := bt_bd h 7
  have a8 := bt_bd h 8
  have a9 := bt_bd h 9
  have a10 := bt_bd h 10
  have a11 := bt_bd h 11
  have a12 := bt_bd h 12
  have a13 := bt_bd h 13
  have a14 := bt_bd h 14
  have a15 := bt_bd h 15
  generalize bt h 0 = b0 at *
  generalize bt h 1 = b1 at *
  generalize bt h 2 = b2 at *
  generalize bt h 3 = b3 at *
  generalize bt h 4 = b4 at *
  generalize bt h 5 = b5 at *
  generalize bt h 6 = b6 at *
  generalize bt h 7 = b7 at *
  generalize bt h 8 = b8 at *
  generalize bt h 9 = b9 at *
  generalize bt h 10 = b10 at *
  generalize bt h 11 = b11 at *
  generalize bt h 12 = b12 at *
  generalize bt h 13 = b13 at *
  generalize bt h 14 = b14 at *
  generalize bt h 15 = b15 at *
  obtain ⟨z15, z14, z13, z12, z11, z10, z1, z0⟩ := hc
  subst z0 z1 z10 z11 z12 z13 z14 z15
  clear hd
  simp only [expB]
  simp
  try (first | (right; rfl) | ((repeat' split) <;> (first | (left; rfl) | (right; rfl) | (right; congr 1 <;> omega) | (exfalso; omega))) | (right; congr 1 <;> omega) | omega)

set_option maxHeartbeats 4000000 in
theorem rd_10 (h : Int) (h0 : 0 ≤ h) (h1 : h < 65536) (hd : dgN h = 10) (hc : chk h [49, 48, 48, 48, 48, 49, 68, 68, 68, 101, 100, 99, 98, 97, 48, 49] = true) : expI h = none5 ∨ expI h = rowI h (⟨[99, 46, 115, 114, 97, 105], 27, 4, 7, 0, 1, 31, 1, 0, [49, 48, 48, 48, 48, 49, 68, 68, 68, 101, 100, 99, 98, 97, 48, 49]⟩ : PR) := by
  rw [gi_10, expI_bits]
  rw [dgN_bits h h0 h1] at hd
  clear h0 h1
  simp [chk, bn_iff] at hc
  have a0 := bt_bd h 0
  have a1 := bt_bd h 1
  have a2 := bt_bd h 2
  have a3 := bt_bd h 3
  have a4 := bt_bd h 4
  have a5 := bt_bd h 5
  have a6 := bt_bd h 6
  have a7 := bt_bd h 7
  have a8 := bt_bd h 8
  have a9 := bt_bd h 9
  have a10 := bt_bd h 10
  have a11 := bt_bd h 11
  have a12 := bt_bd h 12
  have a13 := bt_bd h 13
  have a14 := bt_bd h 14
  have a15 := bt_bd h 15
  generalize bt h 0 = b0 at *
  generalize bt h 1 = b1 at *
  generalize bt h 2 = b2 at *
  generalize bt h 3 = b3 at *
  generalize bt h 4 = b4 at *
  generalize bt h 5 = b5 at *
  generalize bt h 6 = b6 at *
  generalize bt h 7 = b7 at *
  generalize bt h 8 = b8 at *
  generalize bt h 9 = b9 at *
  generalize bt h 10 = b10 at *
  generalize bt h 11 = b11 at *
  generalize bt h 12 = b12 at *
  generalize bt h 13 = b13 at *
  generalize bt h 14 = b14 at *
  generalize bt h 15 = b15 at *
  obtain ⟨z15, z14, z13, z12, z11, z10, z1, z0⟩ := hc
  subst z0 z1 z10 z11 z12 z13 z14 z15
  clear hd
  simp only [expB]
  simp
  try (first | (right; rfl) | ((repeat' split) <;> (first | (left; rfl) | (right; rfl) | (right; congr 1 <;> omega) | (exfalso; omega))) | (right; congr 1 <;> omega) | omega)

set_option maxHeartbeats 4000000 in
theorem rd_11 (h : Int) (h0 : 0 ≤ h) (h1 : h < 65536) (hd : dgN h = 11) (hc : chk h [49, 48, 48, 102, 49, 48, 68, 68, 68, 101, 100, 99, 98, 97, 48, 49] = true) : expI h = none5 ∨ expI h = rowI h (⟨[99, 46, 97, 110, 100, 105], 24, 4, 7, 0, (-32), 31, 1, 0, [49, 48, 48, 102, 49, 48, 68, 68, 68, 101, 100, 99, 98, 97, 48, 49]⟩ : PR) := by
  rw [gi_11, expI_bits]
  rw [dgN_bits h h0 h1] at hd
  clear h0 h1
  simp [chk, bn_iff] at hc
  have a0 := bt_bd h 0
  have a1 := bt_bd h 1
  have a2 := bt_bd h 2
  have a3 := bt_bd h 3
  have a4 := bt_bd h 4
  have a5 := bt_bd h 5
  have a6 := bt_bd h 6
  have a7 := bt_bd h 7
  have a8 := bt_bd h 8
  have a9 := bt_bd h 9
  have a10 := bt_bd h 10
  have a11 := bt_bd h 11
  have a12 := bt_bd h 12
  have a13 := bt_bd h 13
  have a14 := bt_bd h 14
  have a15 := bt_bd h 15
  generalize bt h 0 = b0 at *
  generalize bt h 1 = b1 at *
  generalize bt h 2 = b2 at *
  generalize bt h 3 = b3 at *
  generalize bt h 4 = b4 at *
  generalize bt h 5 = b5 at *
  generalize bt h 6 = b6 at *
  generalize bt h 7 = b7 at *
  generalize bt h 8 = b8 at *
  generalize bt h 9 = b9 at *
  generalize bt h 10 = b10 at *
  generalize bt h 11 = b11 at *
  generalize bt h 12 = b12 at *
  generalize bt h 13 = b13 at *
  generalize bt h 14 = b14 at *
  generalize bt h 15 = b15 at *
  obtain ⟨z15, z14, z13, z11, z10, z1, z0⟩ := hc
  subst z0 z1 z10 z11 z13 z14 z15
  clear hd
  simp only [expB]
  simp
  try (first | (right; rfl) | ((repeat' split) <;> (first | (left; rfl) | (right; rfl) | (right; congr 1 <;> omega) | (exfalso; omega))) | (right; congr 1 <;> omega) | omega)

set_option maxHeartbeats 4000000 in
theorem rd_12 (h : Int) (h0 : 0 ≤ h) (h1 : h < 65536) (hd : dgN h = 12) (hc : chk h [49, 48, 48, 48, 49, 49, 68, 68, 68, 48, 48, 84, 84, 84, 48, 49] = true) : expI h = none5 ∨ expI h = rowI h (⟨[99, 46, 115, 117, 98], 29, 4, 7, 4, 0, 0, 1, 0, [49, 48, 48, 48, 49, 49, 68, 68, 68, 48, 48, 84, 84, 84, 48, 49]⟩ : PR) := by
  rw [gi_12, expI_bits]
  rw [dgN_bits h h0 h1] at hd
  clear h0 h1
  simp [chk, bn_iff] at hc
  have a0 := bt_bd h 0
  have a1 := bt_bd h 1
  have a2 := bt_bd h 2
  have a3 := bt_bd h 3
  have a4 := bt_bd h 4
  have a5 := bt_bd h 5
  have a6 := bt_bd h 6
  have a7 := bt_bd h 7
  have a8 := bt_bd h 8
  have a9 := bt_bd h 9
  have a10 := bt_bd h 10
  have a11 := bt_bd h 11
  have a12 := bt_bd h 12
  have a13 := bt_bd h 13
  have a14 := bt_bd h 14
  have a15 := bt_bd h 15
  generalize bt h 0 = b0 at *
  generalize bt h 1 = b1 at *
  generalize bt h 2 = b2 at *
  generalize bt h 3 = b3 at *
  generalize bt h 4 = b4 at *
  generalize bt h 5 = b5 at *
  generalize bt h 6 = b6 at *
  generalize bt h 7 = b7 at *
  generalize bt h 8 = b8 at *
  generalize bt h 9 = b9 at *
  generalize bt h 10 = b10 at *
  generalize bt h 11 = b11 at *
  generalize bt h 12 = b12 at *
  generalize bt h 13 = b13 at *
  generalize bt h 14 = b14 at *
  generalize bt h 15 = b15 at *
  obtain ⟨z15, z14, z13, z12, z11, z10, z6, z5, z1, z0⟩ := hc
  subst z0 z1 z5 z6 z10 z11 z12 z13 z14 z15
  clear hd
  simp only [expB]
  simp
  try (first | (right; rfl) | ((repeat' split) <;> (first | (left; rfl) | (right; rfl) | (right; congr 1 <;> omega) | (exfalso; omega))) | (right; congr 1 <;> omega) | omega)

set_option maxHeartbeats 4000000 in
theorem rd_13 (h : Int) (h0 : 0 ≤ h) (h1 : h < 65536) (hd : dgN h = 13) (hc : chk h [49, 48, 48, 48, 49, 49, 68, 68, 68, 48, 49, 84, 84, 84, 48, 49] = true) : expI h = none5 ∨ expI h = rowI h (⟨[99, 46, 120, 111, 114], 33, 4, 7, 4, 0, 0, 1, 0, [49, 48, 48, 48, 49, 49, 68, 68, 68, 48, 49, 84, 84, 84, 48, 49]⟩ : PR) := by
  rw [gi_13, expI_bits]
  rw [dgN_bits h h0 h1] at hd
  clear h0 h1
  simp [chk, bn_iff] at hc
  have a0 := bt_bd h 0
  have a1 := bt_bd h 1
  have a2 := bt_bd h 2
  have a3 := bt_bd h 3
  have a4 := bt_bd h 4
  have a5 := bt_bd h 5
  have a6 := bt_bd h 6
  have a7 := bt_bd h 7
  have a8 := bt_bd h 8
  have a9 := bt_bd h 9
  have a10 := bt_bd h 10
  have a11 := bt_bd h 11
  have a12 := bt_bd h 12
  have a13 := bt_bd h 13
  have a14 := bt_bd h 14
  have a15 := bt_bd h 15
  generalize bt h 0 = b0 at *
  generalize bt h 1 = b1 at *
  generalize bt h 2 = b2 at *
  generalize bt h 3 = b3 at *
  generalize bt h 4 = b4 at *
  generalize bt h 5 = b5 at *
  generalize bt h 6 = b6 at *
  generalize bt h 7 = b7 at *
  generalize bt h 8 = b8 at *
  generalize bt h 9 = b9 at *
  generalize bt h 10 = b10 at *
  generalize bt h 11 = b11 at *
  generalize bt h 12 = b12 at *
  generalize bt h 13 = b13 at *
  generalize bt h 14 = b14 at *
  generalize bt h 15 = b15 at *
  obtain ⟨z15, z14, z13, z12, z11, z10, z6, z5, z1, z0⟩ := hc
  subst z0 z1 z5 z6 z10 z11 z12 z13 z14 z15
  clear hd
  simp only [expB]
  simp
  try (first | (right; rfl) | ((repeat' split) <;> (first | (left; rfl) | (right; rfl) | (right; congr 1 <;> omega) | (exfalso; omega))) | (right; congr 1 <;> omega) | omega)

set_option maxHeartbeats 4000000 in
theorem rd_14 (h : Int) (h0 : 0 ≤ h) (h1 : h < 65536) (hd : dgN h = 14) (hc : chk h [49, 48, 48, 48, 49, 49, 68, 68, 68, 49, 48, 84, 84, 84, 48, 49] = true) : expI h = none5 ∨ expI h = rowI h (⟨[99, 46, 111, 114], 36, 4, 7, 4, 0, 0, 1, 0, [49, 48, 48, 48, 49, 49, 68, 68, 68, 49, 48, 84, 84, 84, 48, 49]⟩ : PR) := by
  rw [gi_14, expI_bits]
  rw [dgN_bits h h0 h1] at hd
  clear h0 h1
  simp [chk, bn_iff] at hc
  have a0 := bt_bd h 0
  have a1 := bt_bd h 1
  have a2 := bt_bd h 2
  have a3 := bt_bd h 3
  have a4 := bt_bd h 4
  have a5 := bt_bd h 5
  have a6 := bt_bd h 6
  have a7 := bt_bd h 7
  have a8 := bt_bd h 8
  have a9 := bt_bd h 9
  have a10 := bt_bd h 10
  have a11 := bt_bd h 11
  have a12 := bt_bd h 12
  have a13 := bt_bd h 13
  have a14 := bt_bd h 14
  have a15 := bt_bd h 15
  generalize bt h 0 = b0 at *
  generalize bt h 1 = b1 at *
  generalize bt h 2 = b2 at *
  generalize bt h 3 = b3 at *
  generalize bt h 4 = b4 at *
  generalize bt h 5 = b5 at *
  generalize bt h 6 = b6 at *
  generalize bt h 7 = b7 at *
  generalize bt h 8 = b8 at *
  generalize bt h 9 = b9 at *
  generalize bt h 10 = b10 at *
  generalize bt h 11 = b11 at *
  generalize bt h 12 = b12 at *
  generalize bt h 13 = b13 at *
  generalize bt h 14 = b14 at *
  generalize bt h 15 = b15 at *
  obtain ⟨z15, z14, z13, z12, z11, z10, z6, z5, z1, z0⟩ := hc
  subst z0 z1 z5 z6 z10 z11 z12 z13 z14 z15
  clear hd
  simp only [expB]
  simp
  try (first | (right; rfl) | ((repeat' split) <;> (first | (left; rfl) | (right; rfl) | (right; congr 1 <;> omega) | (exfalso; omega))) | (right; congr 1 <;> omega) | omega)

set_option maxHeartbeats 4000000 in
theorem rd_15 (h : Int) (h0 : 0 ≤ h) (h1 : h < 65536) (hd : dgN h = 15) (hc : chk h [49, 48, 48, 48, 49, 49, 68, 68, 68, 49, 49, 84, 84, 84, 48, 49] = true) : expI h = none5 ∨ expI h = rowI h (⟨[99, 46, 97, 110, 100], 37, 4, 7, 4, 0, 0, 1, 0, [49, 48, 48, 48, 49, 49, 68, 68, 68, 49, 49, 84, 84, 84, 48, 49]⟩ : PR) := by
  rw [gi_15, expI_bits]
  rw [dgN_bits h h0 h1] at hd
  clear h0 h1
  simp [chk, bn_iff] at hc
  have a0 := bt_bd h 0
  have a1 := bt_bd h 1
  have a2 := bt_bd h 2
  have a3 := bt_bd h 3
  have a4 := bt_bd h 4
  have a5 := bt_bd h 5
  have a6 := bt_bd h 6
  have a7 := bt_bd h 7
  have a8 := bt_bd h 8
  have a9 := bt_bd h 9
  have a10 := bt_bd h 10
  have a11 := bt_bd h 11
  have a12 := bt_bd h 12
  have a13 := bt_bd h 13
  have a14 := bt_bd h 14
  have a15 := bt_bd h 15
  generalize bt h 0 = b0 at *
  generalize bt h 1 = b1 at *
  generalize bt h 2 = b2 at *
  generalize bt h 3 = b3 at *
  generalize bt h 4 = b4 at *
  generalize bt h 5 = b5 at *
  generalize bt h 6 = b6 at *
  generalize bt h 7 = b7 at *
  generalize bt h 8 = b8 at *
  generalize bt h 9 = b9 at *
  generalize bt h 10 = b10 at *
  generalize bt h 11 = b11 at *
  generalize bt h 12 = b12 at *
  generalize bt h 13 = b13 at *
  generalize bt h 14 = b14 at *
  generalize bt h 15 = b15 at *
  obtain ⟨z15, z14, z13, z12, z11, z10, z6, z5, z1, z0⟩ := hc
  subst z0 z1 z5 z6 z10 z11 z12 z13 z14 z15
  clear hd
  simp only [expB]
  simp
  try (first | (right; rfl) | ((repeat' split) <;> (first | (left; rfl) | (right; rfl) | (right; congr 1 <;> omega) | (exfalso; omega))) | (right; congr 1 <;> omega) | omega)

set_option maxHeartbeats 4000000 in
theorem rd_16 (h : Int) (h0 : 0 ≤ h) (h1 : h < 65536) (hd : dgN h = 16) (hc : chk h [49, 48, 49, 108, 101, 106, 105, 107, 103, 104, 100, 99, 98, 102, 48, 49] = true) : expI h = none5 ∨ expI h = rowI h (⟨[99, 46, 106], 3, 0, 0, 0, (-2048), 2046, 2, 0, [49, 48, 49, 108, 101, 106, 105, 107, 103, 104, 100, 99, 98, 102, 48, 49]⟩ : PR) := by
  rw [gi_16, expI_bits]
  rw [dgN_bits h h0 h1] at hd
  clear h0 h1
  simp [chk, bn_iff] at hc
  have a0 := bt_bd h 0
  have a1 := bt_bd h 1
  have a2 := bt_bd h 2
  have a3 := bt_bd h 3
  have a4 := bt_bd h 4
  have a5 := bt_bd h 5
  have a6 := bt_bd h 6
  have a7 := bt_bd h 7
  have a8 := bt_bd h 8
  have a9 := bt_bd h 9
  have a10 := bt_bd h 10
  have a11 := bt_bd h 11
  have a12 := bt_bd h 12
  have a13 := bt_bd h 13
  have a14 := bt_bd h 14
  have a15 := bt_bd h 15
  generalize bt h 0 = b0 at *
  generalize bt h 1 = b1 at *
  generalize bt h 2 = b2 at *
  generalize bt h 3 = b3 at *
  generalize bt h 4 = b4 at *
  generalize bt h 5 = b5 at *
  generalize bt h 6 = b6 at *
  generalize bt h 7 = b7 at *
  generalize bt h 8 = b8 at *
  generalize bt h 9 = b9 at *
  generalize bt h 10 = b10 at *
  generalize bt h 11 = b11 at *
  generalize bt h 12 = b12 at *
  generalize bt h 13 = b13 at *
  generalize bt h 14 = b14 at *
  generalize bt h 15 = b15 at *
  obtain ⟨z15, z14, z13, z1, z0⟩ := hc
  subst z0 z1 z13 z14 z15
  clear hd
  simp only [expB]
  simp
  try (first | (right; rfl) | ((repeat' split) <;> (first | (left; rfl) | (right; rfl) | (right; congr 1 <;> omega) | (exfalso; omega))) | (right; congr 1 <;> omega) | omega)

set_option maxHeartbeats 4000000 in
theorem rd_17 (h : Int) (h0 : 0 ≤ h) (h1 : h < 65536) (hd : dgN h = 17) (hc : chk h [49, 49, 48, 105, 101, 100, 83, 83, 83, 104, 103, 99, 98, 102, 48, 49] = true) : expI h = none5 ∨ expI h = rowI h (⟨[99, 46, 98, 101, 113, 122], 5, 0, 4, 0, (-256), 254, 2, 0, [49, 49, 48, 105, 101, 100, 83, 83, 83, 104, 103, 99, 98, 102, 48, 49]⟩ : PR) := by
  rw [gi_17, expI_bits]
  rw [dgN_bits h h0 h1] at hd
  clear h0 h1
  simp [chk, bn_iff] at hc
  have a0 := bt_bd h 0
  have a1 := bt_bd h 1
  have a2 := bt_bd h 2
  have a3 := bt_bd h 3
  have a4 := bt_bd h 4
  have a5 := bt_bd h 5
  have a6 := bt_bd h 6
  have a7 := bt_bd h 7
  have a8 := bt_bd h 8
  have a9 := bt_bd h 9
  have a10 := bt_bd h 10
  have a11 := bt_bd h 11
  have a12 := bt_bd h 12
  have a13 := bt_bd h 13
  have a14 := bt_bd h 14
  have a15 := bt_bd h 15
  generalize bt h 0 = b0 at *
  generalize bt h 1 = b1 at *
  generalize bt h 2 = b2 at *
  generalize bt h 3 = b3 at *
  generalize bt h 4 = b4 at *
  generalize bt h 5 = b5 at *
  generalize bt h 6 = b6 at *
  generalize bt h 7 = b7 at *
  generalize bt h 8 = b8 at *
  generalize bt h 9 = b9 at *
  generalize bt h 10 = b10 at *
  generalize bt h 11 = b11 at *
  generalize bt h 12 = b12 at *
  generalize bt h 13 = b13 at *
  generalize bt h 14 = b14 at *
  generalize bt h 15 = b15 at *
  obtain ⟨z15, z14, z13, z1, z0⟩ := hc
  subst z0 z1 z13 z14 z15
  clear hd
  simp only [expB]
  simp
  try (first | (right; rfl) | ((repeat' split) <;> (first | (left; rfl) | (right; rfl) | (right; congr 1 <;> omega) | (exfalso; omega))) | (right; congr 1 <;> omega) | omega)

set_option maxHeartbeats 4000000 in
theorem rd_18 (h : Int) (h0 : 0 ≤ h) (h1 : h < 65536) (hd : dgN h = 18) (hc : chk h [49, 49, 49, 105, 101, 100, 83, 83, 83, 104, 103, 99, 98, 102, 48, 49] = true) : expI h = none5 ∨ expI h = rowI h (⟨[99, 46, 98, 110, 101, 122], 6, 0, 4, 0, (-256), 254, 2, 0, [49, 49, 49, 105, 101, 100, 83, 83, 83, 104, 103, 99, 98, 102, 48, 49]⟩ : PR) := by
  rw [gi_18, expI_bits]
  rw [dgN_bits h h0 h1] at hd
  clear h0 h1
  simp [chk, bn_iff] at hc
  have a0 := bt_bd h 0
  have a1 := bt_bd h 1
  have a2 := bt_bd h 2
  have a3 := bt_bd h 3
  have a4 := bt_bd h 4
  have a5 := bt_bd h 5
  have a6 := bt_bd h 6
  have a7 := bt_bd h 7
  have a8 := bt_bd h 8
  have a9 := bt_bd h 9
  have a10 := bt_bd h 10
  have a11 := bt_bd h 11
  have a12 := bt_bd h 12
  have a13 := bt_bd h 13
  have a14 := bt_bd h 14
  have a15 := bt_bd h 15
  generalize bt h 0 = b0 at *
  generalize bt h 1 = b1 at *
  generalize bt h 2 = b2 at *
  generalize bt h 3 = b3 at *
  generalize bt h 4 = b4 at *
  generalize bt h 5 = b5 at *
  generalize bt h 6 = b6 at *
  generalize bt h 7 = b7 at *
  generalize bt h 8 = b8 at *
  generalize bt h 9 = b9 at *
  generalize bt h 10 = b10 at *
  generalize bt h 11 = b11 at *
  generalize bt h 12 = b12 at *
  generalize bt h 13 = b13 at *
  generalize bt h 14 = b14 at *
  generalize bt h 15 = b15 at *
  obtain ⟨z15, z14, z13, z1, z0⟩ := hc
  subst z0 z1 z13 z14 z15
  clear hd
  simp only [expB]
  simp
  try (first | (right; rfl) | ((repeat' split) <;> (first | (left; rfl) | (right; rfl) | (right; congr 1 <;> omega) | (exfalso; omega))) | (right; congr 1 <;> omega) | omega)

set_option maxHeartbeats 4000000 in
theorem rd_19 (h : Int) (h0 : 0 ≤ h) (h1 : h < 65536) (hd : dgN h = 19) (hc : chk h [48, 48, 48, 48, 68, 68, 68, 68, 68, 101, 100, 99, 98, 97, 49, 48] = true) : expI h = none5 ∨ expI h = rowI h (⟨[99, 46, 115, 108, 108, 105], 25, 5, 7, 0, 1, 31, 1, 0, [48, 48, 48, 48, 68, 68, 68, 68, 68, 101, 100, 99, 98, 97, 49, 48]⟩ : PR) := by
  rw [gi_19, expI_bits]
  rw [dgN_bits h h0 h1] at hd
  clear h0 h1
  simp [chk, bn_iff] at hc
  have a0 := bt_bd h 0
  have a1 := bt_bd h 1
  have a2 := bt_bd h 2
  have a3 := bt_bd h 3
  have a4 := bt_bd h 4
  have a5 := bt_bd h 5
  have a6 := bt_bd h 6
  have a7 := bt_bd h 7
  have a8 := bt_bd h 8
  have a9 := bt_bd h 9
  have a10 := bt_bd h 10
  have a11 := bt_bd h 11
  have a12 := bt_bd h 12
  have a13 := bt_bd h 13
  have a14 := bt_bd h 14
  have a15 := bt_bd h 15
  generalize bt h 0 = b0 at *
  generalize bt h 1 = b1 at *
  generalize bt h 2 = b2 at *
  generalize bt h 3 = b3 at *
  generalize bt h 4 = b4 at *
  generalize bt h 5 = b5 at *
  generalize bt h 6 = b6 at *
  generalize bt h 7 = b7 at *
  generalize bt h 8 = b8 at *
  generalize bt h 9 = b9 at *
  generalize bt h 10 = b10 at *
  generalize bt h 11 = b11 at *
  generalize bt h 12 = b12 at *
  generalize bt h 13 = b13 at *
  generalize bt h 14 = b14 at *
  generalize bt h 15 = b15 at *
  obtain ⟨z15, z14, z13, z12, z1, z0⟩ := hc
  subst z0 z1 z12 z13 z14 z15
  clear hd
  simp only [expB]
  simp
  try (first | (right; rfl) | ((repeat' split) <;> (first | (left; rfl) | (right; rfl) | (right; congr 1 <;> omega) | (exfalso; omega))) | (right; congr 1 <;> omega) | omega)

set_option maxHeartbeats 4000000 in
theorem rd_20 (h : Int) (h0 : 0 ≤ h) (h1 : h < 65536) (hd : dgN h = 20) (hc : chk h [48, 49, 48, 102, 68, 68, 68, 68, 68, 101, 100, 99, 104, 103, 49, 48] = true) : expI h = none5 ∨ expI h = rowI h (⟨[99, 46, 108, 119, 115, 112], 13, 5, 2, 0, 0, 252, 4, 0, [48, 49, 48, 102, 68, 68, 68, 68, 68, 101, 100, 99, 104, 103, 49, 48]⟩ : PR) := by
  rw [gi_20, expI_bits]
  rw [dgN_bits h h0 h1] at hd
  clear h0 h1
  simp [chk, bn_iff] at hc
  have a0 := bt_bd h 0
  have a1 := bt_bd h 1
  have a2 := bt_bd h 2
  have a3 := bt_bd h 3
  have a4 := bt_bd h 4
  have a5 := bt_bd h 5
  have a6 := bt_bd h 6
  have a7 := bt_bd h 7
  have a8 := bt_bd h 8
  have a9 := bt_bd h 9
  have a10 := bt_bd h 10
  have a11 := bt_bd h 11
  have a12 := bt_bd h 12
  have a13 := bt_bd h 13
  have a14 := bt_bd h 14
  have a15 := bt_bd h 15
  generalize bt h 0 = b0 at *
  generalize bt h 1 = b1 at *
  generalize bt h 2 = b2 at *
  generalize bt h 3 = b3 at *
  generalize bt h 4 = b4 at *
  generalize bt h 5 = b5 at *
  generalize bt h 6 = b6 at *
  generalize bt h 7 = b7 at *
  generalize bt h 8 = b8 at *
  generalize bt h 9 = b9 at *
  generalize bt h 10 = b10 at *
  generalize bt h 11 = b11 at *
  generalize bt h 12 = b12 at *
  generalize bt h 13 = b13 at *
  generalize bt h 14 = b14 at *
  generalize bt h 15 = b15 at *
  obtain ⟨z15, z14, z13, z1, z0⟩ := hc
  subst z0 z1 z13 z14 z15
  clear hd
  simp only [expB]
  simp
  try (first | (right; rfl) | ((repeat' split) <;> (first | (left; rfl) | (right; rfl) | (right; congr 1 <;> omega) | (exfalso; omega))) | (right; congr 1 <;> omega) | omega)

set_option maxHeartbeats 4000000 in
theorem rd_21 (h : Int) (h0 : 0 ≤ h) (h1 : h < 65536) (hd : dgN h = 21) (hc : chk h [49, 48, 48, 48, 83, 83, 83, 83, 83, 48, 48, 48, 48, 48, 49, 48] = true) : expI h = none5 ∨ expI h = rowI h (⟨[99, 46, 106, 114], 4, 0, 5, 0, 0, 0, 1, 0, [49, 48, 48, 48, 83, 83, 83, 83, 83, 48, 48, 48, 48, 48, 49, 48]⟩ : PR) := by
  rw [gi_21, expI_bits]
  rw [dgN_bits h h0 h1] at hd
  clear h0 h1
  simp [chk, bn_iff] at hc
  have a0 := bt_bd h 0
  have a1 := bt_bd h 1
  have a2 := bt_bd h 2
  have a3 := bt_bd h 3
  have a4 := bt_bd h 4
  have a5 := bt_bd h 5
  have a6 := bt_bd h 6
  have a7 := bt_bd h 7
  have a8 := bt_bd h 8
  have a9 := bt_bd h 9
  have a10 := bt_bd h 10
  have a11 := bt_bd h 11
  have a12 := bt_bd h 12
  have a13 := bt_bd h 13
  have a14 := bt_bd h 14
  have a15 := bt_bd h 15
  generalize bt h 0 = b0 at *
  generalize bt h 1 = b1 at *
  generalize bt h 2 = b2 at *
  generalize bt h 3 = b3 at *
  generalize bt h 4 = b4 at *
  generalize bt h 5 = b5 at *
  generalize bt h 6 = b6 at *
  generalize bt h 7 = b7 at *
  generalize bt h 8 = b8 at *
  generalize bt h 9 = b9 at *
  generalize bt h 10 = b10 at *
  generalize bt h 11 = b11 at *
  generalize bt h 12 = b12 at *
  generalize bt h 13 = b13 at *
  generalize bt h 14 = b14 at *
  generalize bt h 15 = b15 at *
  obtain ⟨z15, z14, z13, z12, z6, z5, z4, z3, z2, z1, z0⟩ := hc
  subst z0 z1 z2 z3 z4 z5 z6 z12 z13 z14 z15
  clear hd
  simp only [expB]
  simp
  try (first | (right; rfl) | ((repeat' split) <;> (first | (left; rfl) | (right; rfl) | (right; congr 1 <;> omega) | (exfalso; omega))) | (right; congr 1 <;> omega) | omega)

set_option maxHeartbeats 4000000 in
theorem rd_22 (h : Int) (h0 : 0 ≤ h) (h1 : h < 65536) (hd : dgN h = 22) (hc : chk h [49, 48, 48, 48, 68, 68, 68, 68, 68, 84, 84, 84, 84, 84, 49, 48] = true) : expI h = none5 ∨ expI h = rowI h (⟨[99, 46, 109, 118], 28, 5, 0, 5, 0, 0, 1, 0, [49, 48, 48, 48, 68, 68, 68, 68, 68, 84, 84, 84, 84, 84, 49, 48]⟩ : PR) := by
  rw [gi_22, expI_bits]
  rw [dgN_bits h h0 h1] at hd
  clear h0 h1
  simp [chk, bn_iff] at hc
  have a0 := bt_bd h 0
  have a1 := bt_bd h 1
  have a2 := bt_bd h 2
  have a3 := bt_bd h 3
  have a4 := bt_bd h 4
  have a5 := bt_bd h 5
  have a6 := bt_bd h 6
  have a7 := bt_bd h 7
  have a8 := bt_bd h 8
  have a9 := bt_bd h 9
  have a10 := bt_bd h 10
  have a11 := bt_bd h 11
  have a12 := bt_bd h 12
  have a13 := bt_bd h 13
  have a14 := bt_bd h 14
  have a15 := bt_bd h 15
  generalize bt h 0 = b0 at *
  generalize bt h 1 = b1 at *
  generalize bt h 2 = b2 at *
  generalize bt h 3 = b3 at *
  generalize bt h 4 = b4 at *
  generalize bt h 5 = b5 at *
  generalize bt h 6 = b6 at *
  generalize bt h 7 = b7 at *
  generalize bt h 8 = b8 at *
  generalize bt h 9 = b9 at *
  generalize bt h 10 = b10 at *
  generalize bt h 11 = b11 at *
  generalize bt h 12 = b12 at *
  generalize bt h 13 = b13 at *
  generalize bt h 14 = b14 at *
  generalize bt h 15 = b15 at *
  obtain ⟨z15, z14, z13, z12, z1, z0⟩ := hc
  subst z0 z1 z12 z13 z14 z15
  have hq : ¬ b2 + 2 * b3 + 4 * b4 + 8 * b5 + 16 * b6 = 0 := by
    intro e
    simp [dgB, e] at hd
    try (split at hd <;> omega)
  simp only [expB]
  simp [hq]

set_option maxHeartbeats 4000000 in
theorem rd_23 (h : Int) (h0 : 0 ≤ h) (h1 : h < 65536) (hd : dgN h = 23) (hc : chk h [49, 48, 48, 49, 48, 48, 48, 48, 48, 48, 48, 48, 48, 48, 49, 48] = true) : expI h = none5 ∨ expI h = rowI h (⟨[99, 46, 101, 98, 114, 101, 97, 107], 40, 0, 0, 0, 0, 0, 1, 0, [49, 48, 48, 49, 48, 48, 48, 48, 48, 48, 48, 48, 48, 48, 49, 48]⟩ : PR) := by
  rw [gi_23, expI_bits]
  rw [dgN_bits h h0 h1] at hd
  clear h0 h1
  simp [chk, bn_iff] at hc
  have a0 := bt_bd h 0
  have a1 := bt_bd h 1
  have a2 := bt_bd h 2
  have a3 := bt_bd h 3
  have a4 := bt_bd h 4
  have a5 := bt_bd h 5
  have a6 := bt_bd h 6
  have a7 := bt_bd h 7
  have a8 := bt_bd h 8
  have a9 := bt_bd h 9
  have a10 := bt_bd h 10
  have a11 := bt_bd h 11
  have a12 := bt_bd h 12
  have a13 := bt_bd h 13
  have a14 := bt_bd h 14
  have a15 := bt_bd h 15
  generalize bt h 0 = b0 at *
  generalize bt h 1 = b1 at *
  generalize bt h 2 = b2 at *
  generalize bt h 3 = b3 at *
  generalize bt h 4 = b4 at *
  generalize bt h 5 = b5 at *
  generalize bt h 6 = b6 at *
  generalize bt h 7 = b7 at *
  generalize bt h 8 = b8 at *
  generalize bt h 9 = b9 at *
  generalize bt h 10 = b10 at *
  generalize bt h 11 = b11 at *
  generalize bt h 12 = b12 at *
  generalize bt h 13 = b13 at *
  generalize bt h 14 = b14 at *
  generalize bt h 15 = b15 at *
  obtain ⟨z15, z14, z13, z12, z11, z10, z9, z8, z7, z6, z5, z4, z3, z2, z1, z0⟩ := hc
  subst z0 z1 z2 z3 z4 z5 z6 z7 z8 z9 z10 z11 z12 z13 z14 z15
  clear hd
  simp only [expB]
  simp
  try (first | (right; rfl) | ((repeat' split) <;> (first | (left; rfl) | (right; rfl) | (right; congr 1 <;> omega) | (exfalso; omega))) | (right; congr 1 <;> omega) | omega)

set_option maxHeartbeats 4000000 in
theorem rd_24 (h : Int) (h0 : 0 ≤ h) (h1 : h < 65536) (hd : dgN h = 24) (hc : chk h [49, 48, 48, 49, 83, 83, 83, 83, 83, 48, 48, 48, 48, 48, 49, 48] = true) : expI h = none5 ∨ expI h = rowI h (⟨[99, 46, 106, 97, 108, 114], 4, 1, 5, 0, 0, 0, 1, 0, [49, 48, 48, 49, 83, 83, 83, 83, 83, 48, 48, 48, 48, 48, 49, 48]⟩ : PR) := by
  rw [gi_24, expI_bits]
  rw [dgN_bits h h0 h1] at hd
  clear h0 h1
  simp [chk, bn_iff] at hc
  have a0 := bt_bd h 0
  have a1 := bt_bd h 1
  have a2 := bt_bd h 2
  have a3 := bt_bd h 3
  have a4 := bt_bd h 4
  have a5 := bt_bd h 5
  have a6 := bt_bd h 6
  have a7 := bt_bd h 7
  have a8 := bt_bd h 8
  have a9 := bt_bd h 9
  have a10 := bt_bd h 10
  have a11 := bt_bd h 11
  have a12 := bt_bd h 12
  have a13 := bt_bd h 13
  have a14 := bt_bd h 14
  have a15 := bt_bd h 15
  generalize bt h 0 = b0 at *
  generalize bt h 1 = b1 at *
  generalize bt h 2 = b2 at *
  generalize bt h 3 = b3 at *
  generalize bt h 4 = b4 at *
  generalize bt h 5 = b5 at *
  generalize bt h 6 = b6 at *
  generalize bt h 7 = b7 at *
  generalize bt h 8 = b8 at *
  generalize bt h 9 = b9 at *
  generalize bt h 10 = b10 at *
  generalize bt h 11 = b11 at *
  generalize bt h 12 = b12 at *
  generalize bt h 13 = b13 at *
  generalize bt h 14 = b14 at *
  generalize bt h 15 = b15 at *
  obtain ⟨z15, z14, z13, z12, z6, z5, z4, z3, z2, z1, z0⟩ := hc
  subst z0 z1 z2 z3 z4 z5 z6 z12 z13 z14 z15
  have hq : ¬ b7 + 2 * b8 + 4 * b9 + 8 * b10 + 16 * b11 = 0 := by
    intro e
    simp [dgB, e] at hd
    try (split at hd <;> omega)
  simp only [expB]
  simp [hq]

set_option maxHeartbeats 4000000 in
theorem rd_25 (h : Int) (h0 : 0 ≤ h) (h1 : h < 65536) (hd : dgN h = 25) (hc : chk h [49, 48, 48, 49, 68, 68, 68, 68, 68, 84, 84, 84, 84, 84, 49, 48] = true) : expI h = none5 ∨ expI h = rowI h (⟨[99, 46, 97, 100, 100], 28, 5, 7, 5, 0, 0, 1, 0, [49, 48, 48, 49, 68, 68, 68, 68, 68, 84, 84, 84, 84, 84, 49, 48]⟩ : PR) := by
  rw [gi_25, expI_bits]
  rw [dgN_bits h h0 h1] at hd
  clear h0 h1
  simp [chk, bn_iff] at hc
  have a0 := bt_bd h 0
  have a1 := bt_bd h 1
  have a2 := bt_bd h 2
  have a3 := bt_bd h 3
  have a4 := bt_bd h 4
  have a5 := bt_bd h 5
  have a6 := bt_bd h 6
  have a7 := bt_bd h 7
  have a8 := bt_bd h 8
  have a9 := bt_bd h 9
  have a10 := bt_bd h 10
  have a11 := bt_bd h 11
  have a12 := bt_bd h 12
  have a13 := bt_bd h 13
  have a14 := bt_bd h 14
  have a15 := bt_bd h 15
  generalize bt h 0 = b0 at *
  generalize bt h 1 = b1 at *
  generalize bt h 2 = b2 at *
  generalize bt h 3 = b3 at *
  generalize bt h 4 = b4 at *
  generalize bt h 5 = b5 at *
  generalize bt h 6 = b6 at *
  generalize bt h 7 = b7 at *
  generalize bt h 8 = b8 at *
  generalize bt h 9 = b9 at *
  generalize bt h 10 = b10 at *
  generalize bt h 11 = b11 at *
  generalize bt h 12 = b12 at *
  generalize bt h 13 = b13 at *
  generalize bt h 14 = b14 at *
  generalize bt h 15 = b15 at *
  obtain ⟨z15, z14, z13, z12, z1, z0⟩ := hc
  subst z0 z1 z12 z13 z14 z15
  have hq : ¬ b2 + 2 * b3 + 4 * b4 + 8 * b5 + 16 * b6 = 0 := by
    intro e
    simp [dgB, e] at hd
    try (split at hd <;> omega)
  simp only [expB]
  simp [hq]

set_option maxHeartbeats 4000000 in
theorem rd_26 (h : Int) (h0 : 0 ≤ h) (h1 : h < 65536) (hd : dgN h = 26) (hc : chk h [49, 49, 48, 102, 101, 100, 99, 104, 103, 84, 84, 84, 84, 84, 49, 48] = true) : expI h = none5 ∨ expI h = rowI h (⟨[99, 46, 115, 119, 115, 112], 18, 0, 2, 3, 0, 252, 4, 0, [49, 49, 48, 102, 101, 100, 99, 104, 103, 84, 84, 84, 84, 84, 49, 48]⟩ : PR) := by
  rw [gi_26, expI_bits]
  rw [dgN_bits h h0 h1] at hd
  clear h0 h1
  simp [chk, bn_iff] at hc
  have a0 := bt_bd h 0
  have a1 := bt_bd h 1
  have a2 := bt_bd h 2
  have a3 := bt_bd h 3
  have a4 := bt_bd h 4
  have a5 := bt_bd h 5
  have a6 := bt_bd h 6
  have a7 := bt_bd h 7
  have a8 := bt_bd h 8
  have a9 := bt_bd h 9
  have a10 := bt_bd h 10
  have a11 := bt_bd h 11
  have a12 := bt_bd h 12
  have a13 := bt_bd h 13
  have a14 := bt_bd h 14
  have a15 := bt_bd h 15
  generalize bt h 0 = b0 at *
  generalize bt h 1 = b1 at *
  generalize bt h 2 = b2 at *
  generalize bt h 3 = b3 at *
  generalize bt h 4 = b4 at *
  generalize bt h 5 = b5 at *
  generalize bt h 6 = b6 at *
  generalize bt h 7 = b7 at *
  generalize bt h 8 = b8 at *
  generalize bt h 9 = b9 at *
  generalize bt h 10 = b10 at *
  generalize bt h 11 = b11 at *
  generalize bt h 12 = b12 at *
  generalize bt h 13 = b13 at *
  generalize bt h 14 = b14 at *
  generalize bt h 15 = b15 at *
  obtain ⟨z15, z14, z13, z1, z0⟩ := hc
  subst z0 z1 z13 z14 z15
  clear hd
  simp only [expB]
  simp
  try (first | (right; rfl) | ((repeat' split) <;> (first | (left; rfl) | (right; rfl) | (right; congr 1 <;> omega) | (exfalso; omega))) | (right; congr 1 <;> omega) | omega)

end Go.Proofs.Ytppnmaklggkogaa

