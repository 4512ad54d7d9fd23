/- Parts of the proof, one behind the other. -/
import Derived.Test.YtppnmaklggkogaaZam
/- Plain: row by row, a parcel that is put is expanded to its instruction. -/
namespace Go.Proofs.Ytppnmaklggkogaa
open Go.RowKit
set_option linter.unusedVariables false
set_option linter.unusedSimpArgs false

theorem put_0 (rd rs1 rs2 imm : Int) : putV (rd % 4294967296) (rs1 % 4294967296) (rs2 % 4294967296) (imm % 4294967296) [48, 48, 48, 102, 101, 106, 105, 104, 103, 99, 100, 68, 68, 68, 48, 48] 0 = 0 + 2 * 0 + 4 * (rd / 1 % 2) + 8 * (rd / 2 % 2) + 16 * (rd / 4 % 2) + 32 * (imm / 8 % 2) + 64 * (imm / 4 % 2) + 128 * (imm / 64 % 2) + 256 * (imm / 128 % 2) + 512 * (imm / 256 % 2) + 1024 * (imm / 512 % 2) + 2048 * (imm / 16 % 2) + 4096 * (imm / 32 % 2) + 8192 * 0 + 16384 * 0 + 32768 * 0 := by
  have e : putV (rd % 4294967296) (rs1 % 4294967296) (rs2 % 4294967296) (imm % 4294967296) [48, 48, 48, 102, 101, 106, 105, 104, 103, 99, 100, 68, 68, 68, 48, 48] 0 = (2 * (2 * (2 * (2 * (2 * (2 * (2 * (2 * (2 * (2 * (2 * (2 * (2 * (2 * (2 * (2 * 0 + 0) + 0) + 0) + fld (imm % 4294967296) 5 1) + fld (imm % 4294967296) 4 1) + fld (imm % 4294967296) 9 1) + fld (imm % 4294967296) 8 1) + fld (imm % 4294967296) 7 1) + fld (imm % 4294967296) 6 1) + fld (imm % 4294967296) 2 1) + fld (imm % 4294967296) 3 1) + fld (rd % 4294967296) 2 1) + fld (rd % 4294967296) 1 1) + fld (rd % 4294967296) 0 1) + 0) + 0) := rfl
  rw [e]
  clear e
  rw [fld_at imm 2 (by omega)]
  rw [fld_at imm 3 (by omega)]
  rw [fld_at imm 4 (by omega)]
  rw [fld_at imm 5 (by omega)]
  rw [fld_at imm 6 (by omega)]
  rw [fld_at imm 7 (by omega)]
  rw [fld_at imm 8 (by omega)]
  rw [fld_at imm 9 (by omega)]
  rw [fld_at rd 0 (by omega)]
  rw [fld_at rd 1 (by omega)]
  rw [fld_at rd 2 (by omega)]
  simp only [Int.reducePow]
  generalize imm / 4 % 2 = imm_2
  generalize imm / 8 % 2 = imm_3
  generalize imm / 16 % 2 = imm_4
  generalize imm / 32 % 2 = imm_5
  generalize imm / 64 % 2 = imm_6
  generalize imm / 128 % 2 = imm_7
  generalize imm / 256 % 2 = imm_8
  generalize imm / 512 % 2 = imm_9
  generalize rd / 1 % 2 = rd_0
  generalize rd / 2 % 2 = rd_1
  generalize rd / 4 % 2 = rd_2
  omega

set_option maxHeartbeats 4000000 in
theorem xexp_0 (op rd rs1 rs2 imm : Int) (hf : fitsB (⟨[99, 46, 97, 100, 100, 105, 52, 115, 112, 110], 19, 4, 2, 0, 4, 1020, 4, 0, [48, 48, 48, 102, 101, 106, 105, 104, 103, 99, 100, 68, 68, 68, 48, 48]⟩ : PR) op rd rs1 rs2 imm = true) : expI (putV (rd % 4294967296) (rs1 % 4294967296) (rs2 % 4294967296) (imm % 4294967296) [48, 48, 48, 102, 101, 106, 105, 104, 103, 99, 100, 68, 68, 68, 48, 48] 0) = ⟨op, rd, rs1, rs2, imm⟩ ∧ dgN (putV (rd % 4294967296) (rs1 % 4294967296) (rs2 % 4294967296) (imm % 4294967296) [48, 48, 48, 102, 101, 106, 105, 104, 103, 99, 100, 68, 68, 68, 48, 48] 0) = 0 := by
  simp only [fitsB, Bool.and_eq_true] at hf
  obtain ⟨ho, hm, k1, k2, k3, hz, hl, hu, hs⟩ := hf
  obtain ⟨⟨m1, m2⟩, ⟨m3, m4⟩, m5, m6⟩ := may_regs' op rd rs1 rs2 imm hm
  have ho2 : op = 19 := by simpa using ho
  subst ho2
  try simp [kindB] at k1
  try simp [kindB] at k2
  try simp [kindB] at k3
  try simp at hz
  try simp at hl
  try simp at hu
  try simp at hs
  clear hm ho
  obtain ⟨x1, x2⟩ := bits16 _ 0 0 (rd / 1 % 2) (rd / 2 % 2) (rd / 4 % 2) (imm / 8 % 2) (imm / 4 % 2) (imm / 64 % 2) (imm / 128 % 2) (imm / 256 % 2) (imm / 512 % 2) (imm / 16 % 2) (imm / 32 % 2) 0 0 0 (by omega) (by omega) (by omega) (by omega) (by omega) (by omega) (by omega) (by omega) (by omega) (by omega) (by omega) (by omega) (by omega) (by omega) (by omega) (by omega) (put_0 rd rs1 rs2 imm)
  rw [x1, x2]
  clear x1 x2
  have cw : imm / 1024 = 0 := by clear m1 m2 m3 m4 m5 m6; omega
  have cl0 : imm / 1 % 2 = 0 := by clear m1 m2 m3 m4 m5 m6 cw; omega
  have cl1 : imm / 2 % 2 = 0 := by clear m1 m2 m3 m4 m5 m6 cw cl0; omega
  have c0 := half2 imm 1 2 rfl (by decide)
  have d0 := bit2 imm 1
  have c1 := half2 imm 2 4 rfl (by decide)
  have d1 := bit2 imm 2
  have c2 := half2 imm 4 8 rfl (by decide)
  have d2 := bit2 imm 4
  have c3 := half2 imm 8 16 rfl (by decide)
  have d3 := bit2 imm 8
  have c4 := half2 imm 16 32 rfl (by decide)
  have d4 := bit2 imm 16
  have c5 := half2 imm 32 64 rfl (by decide)
  have d5 := bit2 imm 32
  have c6 := half2 imm 64 128 rfl (by decide)
  have d6 := bit2 imm 64
  have c7 := half2 imm 128 256 rfl (by decide)
  have d7 := bit2 imm 128
  have c8 := half2 imm 256 512 rfl (by decide)
  have d8 := bit2 imm 256
  have c9 := half2 imm 512 1024 rfl (by decide)
  have d9 := bit2 imm 512
  have cz := Int.ediv_one imm
  generalize imm / 1 % 2 = i0 at *
  generalize imm / 2 % 2 = i1 at *
  generalize imm / 4 % 2 = i2 at *
  generalize imm / 8 % 2 = i3 at *
  generalize imm / 16 % 2 = i4 at *
  generalize imm / 32 % 2 = i5 at *
  generalize imm / 64 % 2 = i6 at *
  generalize imm / 128 % 2 = i7 at *
  generalize imm / 256 % 2 = i8 at *
  generalize imm / 512 % 2 = i9 at *
  generalize imm / 1 = q0 at *
  generalize imm / 2 = q1 at *
  generalize imm / 4 = q2 at *
  generalize imm / 8 = q3 at *
  generalize imm / 16 = q4 at *
  generalize imm / 32 = q5 at *
  generalize imm / 64 = q6 at *
  generalize imm / 128 = q7 at *
  generalize imm / 256 = q8 at *
  generalize imm / 512 = q9 at *
  generalize imm / 1024 = q10 at *
  constructor
  · simp only [expB]
    simp
    try (first | rfl | ((repeat' split) <;> (first | rfl | (exfalso; omega) | (congr 1 <;> omega))) | (congr 1 <;> omega) | omega)
  · clear c0 d0 c1 d1 c2 d2 c3 d3 c4 d4 c5 d5 c6 d6 c7 d7 c8 d8 c9 d9 cz cw cl0 cl1 hz hl hu hs
    simp only [dgB]
    simp
    try (first | rfl | ((repeat' split) <;> (first | rfl | (exfalso; omega) | omega)) | omega)

theorem put_1 (rd rs1 rs2 imm : Int) : putV (rd % 4294967296) (rs1 % 4294967296) (rs2 % 4294967296) (imm % 4294967296) [48, 49, 48, 102, 101, 100, 83, 83, 83, 99, 103, 68, 68, 68, 48, 48] 0 = 0 + 2 * 0 + 4 * (rd / 1 % 2) + 8 * (rd / 2 % 2) + 16 * (rd / 4 % 2) + 32 * (imm / 64 % 2) + 64 * (imm / 4 % 2) + 128 * (rs1 / 1 % 2) + 256 * (rs1 / 2 % 2) + 512 * (rs1 / 4 % 2) + 1024 * (imm / 8 % 2) + 2048 * (imm / 16 % 2) + 4096 * (imm / 32 % 2) + 8192 * 0 + 16384 * 1 + 32768 * 0 := by
  have e : putV (rd % 4294967296) (rs1 % 4294967296) (rs2 % 4294967296) (imm % 4294967296) [48, 49, 48, 102, 101, 100, 83, 83, 83, 99, 103, 68, 68, 68, 48, 48] 0 = (2 * (2 * (2 * (2 * (2 * (2 * (2 * (2 * (2 * (2 * (2 * (2 * (2 * (2 * (2 * (2 * 0 + 0) + 1) + 0) + fld (imm % 4294967296) 5 1) + fld (imm % 4294967296) 4 1) + fld (imm % 4294967296) 3 1) + fld (rs1 % 4294967296) 2 1) + fld (rs1 % 4294967296) 1 1) + fld (rs1 % 4294967296) 0 1) + fld (imm % 4294967296) 2 1) + fld (imm % 4294967296) 6 1) + fld (rd % 4294967296) 2 1) + fld (rd % 4294967296) 1 1) + fld (rd % 4294967296) 0 1) + 0) + 0) := rfl
  rw [e]
  clear e
  rw [fld_at imm 2 (by omega)]
  rw [fld_at imm 3 (by omega)]
  rw [fld_at imm 4 (by omega)]
  rw [fld_at imm 5 (by omega)]
  rw [fld_at imm 6 (by omega)]
  rw [fld_at rd 0 (by omega)]
  rw [fld_at rd 1 (by omega)]
  rw [fld_at rd 2 (by omega)]
  rw [fld_at rs1 0 (by omega)]
  rw [fld_at rs1 1 (by omega)]
  rw [fld_at rs1 2 (by omega)]
  simp only [Int.reducePow]
  generalize imm / 4 % 2 = imm_2
  generalize imm / 8 % 2 = imm_3
  generalize imm / 16 % 2 = imm_4
  generalize imm / 32 % 2 = imm_5
  generalize imm / 64 % 2 = imm_6
  generalize rd / 1 % 2 = rd_0
  generalize rd / 2 % 2 = rd_1
  generalize rd / 4 % 2 = rd_2
  generalize rs1 / 1 % 2 = rs1_0
  generalize rs1 / 2 % 2 = rs1_1
  generalize rs1 / 4 % 2 = rs1_2
  omega

set_option maxHeartbeats 4000000 in
theorem xexp_1 (op rd rs1 rs2 imm : Int) (hf : fitsB (⟨[99, 46, 108, 119], 13, 4, 4, 0, 0, 124, 4, 0, [48, 49, 48, 102, 101, 100, 83, 83, 83, 99, 103, 68, 68, 68, 48, 48]⟩ : PR) op rd rs1 rs2 imm = true) : expI (putV (rd % 4294967296) (rs1 % 4294967296) (rs2 % 4294967296) (imm % 4294967296) [48, 49, 48, 102, 101, 100, 83, 83, 83, 99, 103, 68, 68, 68, 48, 48] 0) = ⟨op, rd, rs1, rs2, imm⟩ ∧ dgN (putV (rd % 4294967296) (rs1 % 4294967296) (rs2 % 4294967296) (imm % 4294967296) [48, 49, 48, 102, 101, 100, 83, 83, 83, 99, 103, 68, 68, 68, 48, 48] 0) = 1 := by
  simp only [fitsB, Bool.and_eq_true] at hf
  obtain ⟨ho, hm, k1, k2, k3, hz, hl, hu, hs⟩ := hf
  obtain ⟨⟨m1, m2⟩, ⟨m3, m4⟩, m5, m6⟩ := may_regs' op rd rs1 rs2 imm hm
  have ho2 : op = 13 := by simpa using ho
  subst ho2
  try simp [kindB] at k1
  try simp [kindB] at k2
  try simp [kindB] at k3
  try simp at hz
  try simp at hl
  try simp at hu
  try simp at hs
  clear hm ho
  obtain ⟨x1, x2⟩ := bits16 _ 0 0 (rd / 1 % 2) (rd / 2 % 2) (rd / 4 % 2) (imm / 64 % 2) (imm / 4 % 2) (rs1 / 1 % 2) (rs1 / 2 % 2) (rs1 / 4 % 2) (imm / 8 % 2) (imm / 16 % 2) (imm / 32 % 2) 0 1 0 (by omega) (by omega) (by omega) (by omega) (by omega) (by omega) (by omega) (by omega) (by omega) (by omega) (by omega) (by omega) (by omega) (by omega) (by omega) (by omega) (put_1 rd rs1 rs2 imm)
  rw [x1, x2]
  clear x1 x2
  have cw : imm / 128 = 0 := by clear m1 m2 m3 m4 m5 m6; omega
  have cl0 : imm / 1 % 2 = 0 := by clear m1 m2 m3 m4 m5 m6 cw; omega
  have cl1 : imm / 2 % 2 = 0 := by clear m1 m2 m3 m4 m5 m6 cw cl0; omega
  have c0 := half2 imm 1 2 rfl (by decide)
  have d0 := bit2 imm 1
  have c1 := half2 imm 2 4 rfl (by decide)
  have d1 := bit2 imm 2
  have c2 := half2 imm 4 8 rfl (by decide)
  have d2 := bit2 imm 4
  have c3 := half2 imm 8 16 rfl (by decide)
  have d3 := bit2 imm 8
  have c4 := half2 imm 16 32 rfl (by decide)
  have d4 := bit2 imm 16
  have c5 := half2 imm 32 64 rfl (by decide)
  have d5 := bit2 imm 32
  have c6 := half2 imm 64 128 rfl (by decide)
  have d6 := bit2 imm 64
  have cz := Int.ediv_one imm
  generalize imm / 1 % 2 = i0 at *
  generalize imm / 2 % 2 = i1 at *
  generalize imm / 4 % 2 = i2 at *
  generalize imm / 8 % 2 = i3 at *
  generalize imm / 16 % 2 = i4 at *
  generalize imm / 32 % 2 = i5 at *
  generalize imm / 64 % 2 = i6 at *
  generalize imm / 1 = q0 at *
  generalize imm / 2 = q1 at *
  generalize imm / 4 = q2 at *
  generalize imm / 8 = q3 at *
  generalize imm / 16 = q4 at *
  generalize imm / 32 = q5 at *
  generalize imm / 64 = q6 at *
  generalize imm / 128 = q7 at *
  constructor
  · simp only [expB]
    simp
    try (first | rfl | ((repeat' split) <;> (first | rfl | (exfalso; omega) | (congr 1 <;> omega))) | (congr 1 <;> omega) | omega)
  · clear c0 d0 c1 d1 c2 d2 c3 d3 c4 d4 c5 d5 c6 d6 cz cw cl0 cl1 hz hl hu hs
    simp only [dgB]
    simp
    try (first | rfl | ((repeat' split) <;> (first | rfl | (exfalso; omega) | omega)) | omega)

theorem put_2 (rd rs1 rs2 imm : Int) : putV (rd % 4294967296) (rs1 % 4294967296) (rs2 % 4294967296) (imm % 4294967296) [49, 49, 48, 102, 101, 100, 83, 83, 83, 99, 103, 84, 84, 84, 48, 48] 0 = 0 + 2 * 0 + 4 * (rs2 / 1 % 2) + 8 * (rs2 / 2 % 2) + 16 * (rs2 / 4 % 2) + 32 * (imm / 64 % 2) + 64 * (imm / 4 % 2) + 128 * (rs1 / 1 % 2) + 256 * (rs1 / 2 % 2) + 512 * (rs1 / 4 % 2) + 1024 * (imm / 8 % 2) + 2048 * (imm / 16 % 2) + 4096 * (imm / 32 % 2) + 8192 * 0 + 16384 * 1 + 32768 * 1 := by
  have e : putV (rd % 4294967296) (rs1 % 4294967296) (rs2 % 4294967296) (imm % 4294967296) [49, 49, 48, 102, 101, 100, 83, 83, 83, 99, 103, 84, 84, 84, 48, 48] 0 = (2 * (2 * (2 * (2 * (2 * (2 * (2 * (2 * (2 * (2 * (2 * (2 * (2 * (2 * (2 * (2 * 0 + 1) + 1) + 0) + fld (imm % 4294967296) 5 1) + fld (imm % 4294967296) 4 1) + fld (imm % 4294967296) 3 1) + fld (rs1 % 4294967296) 2 1) + fld (rs1 % 4294967296) 1 1) + fld (rs1 % 4294967296) 0 1) + fld (imm % 4294967296) 2 1) + fld (imm % 4294967296) 6 1) + fld (rs2 % 4294967296) 2 1) + fld (rs2 % 4294967296) 1 1) + fld (rs2 % 4294967296) 0 1) + 0) + 0) := rfl
  rw [e]
  clear e
  rw [fld_at imm 2 (by omega)]
  rw [fld_at imm 3 (by omega)]
  rw [fld_at imm 4 (by omega)]
  rw [fld_at imm 5 (by omega)]
  rw [fld_at imm 6 (by omega)]
  rw [fld_at rs1 0 (by omega)]
  rw [fld_at rs1 1 (by omega)]
  rw [fld_at rs1 2 (by omega)]
  rw [fld_at rs2 0 (by omega)]
  rw [fld_at rs2 1 (by omega)]
  rw [fld_at rs2 2 (by omega)]
  simp only [Int.reducePow]
  generalize imm / 4 % 2 = imm_2
  generalize imm / 8 % 2 = imm_3
  generalize imm / 16 % 2 = imm_4
  generalize imm / 32 % 2 = imm_5
  generalize imm / 64 % 2 = imm_6
  generalize rs1 / 1 % 2 = rs1_0
  generalize rs1 / 2 % 2 = rs1_1
  generalize rs1 / 4 % 2 = rs1_2
  generalize rs2 / 1 % 2 = rs2_0
  generalize rs2 / 2 % 2 = rs2_1
  generalize rs2 / 4 % 2 = rs2_2
  omega

set_option maxHeartbeats 4000000 in
theorem xexp_2 (op rd rs1 rs2 imm : Int) (hf : fitsB (⟨[99, 46, 115, 119], 18, 0, 4, 4, 0, 124, 4, 0, [49, 49, 48, 102, 101, 100, 83, 83, 83, 99, 103, 84, 84, 84, 48, 48]⟩ : PR) op rd rs1 rs2 imm = true) : expI (putV (rd % 4294967296) (rs1 % 4294967296) (rs2 % 4294967296) (imm % 4294967296) [49, 49, 48, 102, 101, 100, 83, 83, 83, 99, 103, 84, 84, 84, 48, 48] 0) = ⟨op, rd, rs1, rs2, imm⟩ ∧ dgN (putV (rd % 4294967296) (rs1 % 4294967296) (rs2 % 4294967296) (imm % 4294967296) [49, 49, 48, 102, 101, 100, 83, 83, 83, 99, 103, 84, 84, 84, 48, 48] 0) = 2 := by
  simp only [fitsB, Bool.and_eq_true] at hf
  obtain ⟨ho, hm, k1, k2, k3, hz, hl, hu, hs⟩ := hf
  obtain ⟨⟨m1, m2⟩, ⟨m3, m4⟩, m5, m6⟩ := may_regs' op rd rs1 rs2 imm hm
  have ho2 : op = 18 := by simpa using ho
  subst ho2
  try simp [kindB] at k1
  try simp [kindB] at k2
  try simp [kindB] at k3
  try simp at hz
  try simp at hl
  try simp at hu
  try simp at hs
  clear hm ho
  obtain ⟨x1, x2⟩ := bits16 _ 0 0 (rs2 / 1 % 2) (rs2 / 2 % 2) (rs2 / 4 % 2) (imm / 64 % 2) (imm / 4 % 2) (rs1 / 1 % 2) (rs1 / 2 % 2) (rs1 / 4 % 2) (imm / 8 % 2) (imm / 16 % 2) (imm / 32 % 2) 0 1 1 (by omega) (by omega) (by omega) (by omega) (by omega) (by omega) (by omega) (by omega) (by omega) (by omega) (by omega) (by omega) (by omega) (by omega) (by omega) (by omega) (put_2 rd rs1 rs2 imm)
  rw [x1, x2]
  clear x1 x2
  have cw : imm / 128 = 0 := by clear m1 m2 m3 m4 m5 m6; omega
  have cl0 : imm / 1 % 2 = 0 := by clear m1 m2 m3 m4 m5 m6 cw; omega
  have cl1 : imm / 2 % 2 = 0 := by clear m1 m2 m3 m4 m5 m6 cw cl0; omega
  have c0 := half2 imm 1 2 rfl (by decide)
  have d0 := bit2 imm 1
  have c1 := half2 imm 2 4 rfl (by decide)
  have d1 := bit2 imm 2
  have c2 := half2 imm 4 8 rfl (by decide)
  have d2 := bit2 imm 4
  have c3 := half2 imm 8 16 rfl (by decide)
  have d3 := bit2 imm 8
  have c4 := half2 imm 16 32 rfl (by decide)
  have d4 := bit2 imm 16
  have c5 := half2 imm 32 64 rfl (by decide)
  have d5 := bit2 imm 32
  have c6 := half2 imm 64 128 rfl (by decide)
  have d6 := bit2 imm 64
  have cz := Int.ediv_one imm
  generalize imm / 1 % 2 = i0 at *
  generalize imm / 2 % 2 = i1 at *
  generalize imm / 4 % 2 = i2 at *
  generalize imm / 8 % 2 = i3 at *
  generalize imm / 16 % 2 = i4 at *
  generalize imm / 32 % 2 = i5 at *
  generalize imm / 64 % 2 = i6 at *
  generalize imm / 1 = q0 at *
  generalize imm / 2 = q1 at *
  generalize imm / 4 = q2 at *
  generalize imm / 8 = q3 at *
  generalize imm / 16 = q4 at *
  generalize imm / 32 = q5 at *
  generalize imm / 64 = q6 at *
  generalize imm / 128 = q7 at *
  constructor
  · simp only [expB]
    simp
    try (first | rfl | ((repeat' split) <;> (first | rfl | (exfalso; omega) | (congr 1 <;> omega))) | (congr 1 <;> omega) | omega)
  · clear c0 d0 c1 d1 c2 d2 c3 d3 c4 d4 c5 d5 c6 d6 cz cw cl0 cl1 hz hl hu hs
    simp only [dgB]
    simp
    try (first | rfl | ((repeat' split) <;> (first | rfl | (exfalso; omega) | omega)) | omega)

theorem put_3 (rd rs1 rs2 imm : Int) : putV (rd % 4294967296) (rs1 % 4294967296) (rs2 % 4294967296) (imm % 4294967296) [48, 48, 48, 48, 48, 48, 48, 48, 48, 48, 48, 48, 48, 48, 48, 49] 0 = 1 + 2 * 0 + 4 * 0 + 8 * 0 + 16 * 0 + 32 * 0 + 64 * 0 + 128 * 0 + 256 * 0 + 512 * 0 + 1024 * 0 + 2048 * 0 + 4096 * 0 + 8192 * 0 + 16384 * 0 + 32768 * 0 := by
  have e : putV (rd % 4294967296) (rs1 % 4294967296) (rs2 % 4294967296) (imm % 4294967296) [48, 48, 48, 48, 48, 48, 48, 48, 48, 48, 48, 48, 48, 48, 48, 49] 0 = (2 * (2 * (2 * (2 * (2 * (2 * (2 * (2 * (2 * (2 * (2 * (2 * (2 * (2 * (2 * (2 * 0 + 0) + 0) + 0) + 0) + 0) + 0) + 0) + 0) + 0) + 0) + 0) + 0) + 0) + 0) + 0) + 1) := rfl
  rw [e]
  clear e
  rfl

set_option maxHeartbeats 4000000 in
theorem xexp_3 (op rd rs1 rs2 imm : Int) (hf : fitsB (⟨[99, 46, 110, 111, 112], 19, 0, 0, 0, 0, 0, 1, 0, [48, 48, 48, 48, 48, 48, 48, 48, 48, 48, 48, 48, 48, 48, 48, 49]⟩ : PR) op rd rs1 rs2 imm = true) : expI (putV (rd % 4294967296) (rs1 % 4294967296) (rs2 % 4294967296) (imm % 4294967296) [48, 48, 48, 48, 48, 48, 48, 48, 48, 48, 48, 48, 48, 48, 48, 49] 0) = ⟨op, rd, rs1, rs2, imm⟩ ∧ dgN (putV (rd % 4294967296) (rs1 % 4294967296) (rs2 % 4294967296) (imm % 4294967296) [48, 48, 48, 48, 48, 48, 48, 48, 48, 48, 48, 48, 48, 48, 48, 49] 0) = 3 := by
  simp only [fitsB, Bool.and_eq_true] at hf
  obtain ⟨ho, hm, k1, k2, k3, hz, hl, hu, hs⟩ := hf
  obtain ⟨⟨m1, m2⟩, ⟨m3, m4⟩, m5, m6⟩ := may_regs' op rd rs1 rs2 imm hm
  have ho2 : op = 19 := by simpa using ho
  subst ho2
  try simp [kindB] at k1
  try simp [kindB] at k2
  try simp [kindB] at k3
  try simp at hz
  try simp at hl
  try simp at hu
  try simp at hs
  clear hm ho
  obtain ⟨x1, x2⟩ := bits16 _ 1 0 0 0 0 0 0 0 0 0 0 0 0 0 0 0 (by omega) (by omega) (by omega) (by omega) (by omega) (by omega) (by omega) (by omega) (by omega) (by omega) (by omega) (by omega) (by omega) (by omega) (by omega) (by omega) (put_3 rd rs1 rs2 imm)
  rw [x1, x2]
  clear x1 x2
  constructor
  · simp only [expB]
    simp
    try (first | rfl | ((repeat' split) <;> (first | rfl | (exfalso; omega) | (congr 1 <;> omega))) | (congr 1 <;> omega) | omega)
  · simp only [dgB]
    simp
    try (first | rfl | ((repeat' split) <;> (first | rfl | (exfalso; omega) | omega)) | omega)

theorem put_4 (rd rs1 rs2 imm : Int) : putV (rd % 4294967296) (rs1 % 4294967296) (rs2 % 4294967296) (imm % 4294967296) [48, 48, 48, 102, 68, 68, 68, 68, 68, 101, 100, 99, 98, 97, 48, 49] 0 = 1 + 2 * 0 + 4 * (imm / 1 % 2) + 8 * (imm / 2 % 2) + 16 * (imm / 4 % 2) + 32 * (imm / 8 % 2) + 64 * (imm / 16 % 2) + 128 * (rd / 1 % 2) + 256 * (rd / 2 % 2) + 512 * (rd / 4 % 2) + 1024 * (rd / 8 % 2) + 2048 * (rd / 16 % 2) + 4096 * (imm / 32 % 2) + 8192 * 0 + 16384 * 0 + 32768 * 0 := by
  have e : putV (rd % 4294967296) (rs1 % 4294967296) (rs2 % 4294967296) (imm % 4294967296) [48, 48, 48, 102, 68, 68, 68, 68, 68, 101, 100, 99, 98, 97, 48, 49] 0 = (2 * (2 * (2 * (2 * (2 * (2 * (2 * (2 * (2 * (2 * (2 * (2 * (2 * (2 * (2 * (2 * 0 + 0) + 0) + 0) + fld (imm % 4294967296) 5 1) + fld (rd % 4294967296) 4 1) + fld (rd % 4294967296) 3 1) + fld (rd % 4294967296) 2 1) + fld (rd % 4294967296) 1 1) + fld (rd % 4294967296) 0 1) + fld (imm % 4294967296) 4 1) + fld (imm % 4294967296) 3 1) + fld (imm % 4294967296) 2 1) + fld (imm % 4294967296) 1 1) + fld (imm % 4294967296) 0 1) + 0) + 1) := rfl
  rw [e]
  clear e
  rw [fld_at imm 0 (by omega)]
  rw [fld_at imm 1 (by omega)]
  rw [fld_at imm 2 (by omega)]
  rw [fld_at imm 3 (by omega)]
  rw [fld_at imm 4 (by omega)]
  rw [fld_at imm 5 (by omega)]
  rw [fld_at rd 0 (by omega)]
  rw [fld_at rd 1 (by omega)]
  rw [fld_at rd 2 (by omega)]
  rw [fld_at rd 3 (by omega)]
  rw [fld_at rd 4 (by omega)]
  simp only [Int.reducePow]
  generalize imm / 1 % 2 = imm_0
  generalize imm / 2 % 2 = imm_1
  generalize imm / 4 % 2 = imm_2
  generalize imm / 8 % 2 = imm_3
  generalize imm / 16 % 2 = imm_4
  generalize imm / 32 % 2 = imm_5
  generalize rd / 1 % 2 = rd_0
  generalize rd / 2 % 2 = rd_1
  generalize rd / 4 % 2 = rd_2
  generalize rd / 8 % 2 = rd_3
  generalize rd / 16 % 2 = rd_4
  omega

set_option maxHeartbeats 4000000 in
theorem xexp_4 (op rd rs1 rs2 imm : Int) (hf : fitsB (⟨[99, 46, 97, 100, 100, 105], 19, 5, 7, 0, (-32), 31, 1, 1, [48, 48, 48, 102, 68, 68, 68, 68, 68, 101, 100, 99, 98, 97, 48, 49]⟩ : PR) op rd rs1 rs2 imm = true) : expI (putV (rd % 4294967296) (rs1 % 4294967296) (rs2 % 4294967296) (imm % 4294967296) [48, 48, 48, 102, 68, 68, 68, 68, 68, 101, 100, 99, 98, 97, 48, 49] 0) = ⟨op, rd, rs1, rs2, imm⟩ ∧ dgN (putV (rd % 4294967296) (rs1 % 4294967296) (rs2 % 4294967296) (imm % 4294967296) [48, 48, 48, 102, 68, 68, 68, 68, 68, 101, 100, 99, 98, 97, 48, 49] 0) = 4 := by
  simp only [fitsB, Bool.and_eq_true] at hf
  obtain ⟨ho, hm, k1, k2, k3, hz, hl, hu, hs⟩ := hf
  obtain ⟨⟨m1, m2⟩, ⟨m3, m4⟩, m5, m6⟩ := may_regs' op rd rs1 rs2 imm hm
  have ho2 : op = 19 := by simpa using ho
  subst ho2
  try simp [kindB] at k1
  try simp [kindB] at k2
  try simp [kindB] at k3
  try simp at hz
  try simp at hl
  try simp at hu
  try simp at hs
  clear hm ho
  obtain ⟨x1, x2⟩ := bits16 _ 1 0 (imm / 1 % 2) (imm / 2 % 2) (imm / 4 % 2) (imm / 8 % 2) (imm / 16 % 2) (rd / 1 % 2) (rd / 2 % 2) (rd / 4 % 2) (rd / 8 % 2) (rd / 16 % 2) (imm / 32 % 2) 0 0 0 (by omega) (by omega) (by omega) (by omega) (by omega) (by omega) (by omega) (by omega) (by omega) (by omega) (by omega) (by omega) (by omega) (by omega) (by omega) (by omega) (put_4 rd rs1 rs2 imm)
  rw [x1, x2]
  clear x1 x2
  have cw : imm / 32 = -(imm / 32 % 2) := by clear m1 m2 m3 m4 m5 m6; omega
  have c0 := half2 imm 1 2 rfl (by decide)
  have d0 := bit2 imm 1
  have c1 := half2 imm 2 4 rfl (by decide)
  have d1 := bit2 imm 2
  have c2 := half2 imm 4 8 rfl (by decide)
  have d2 := bit2 imm 4
  have c3 := half2 imm 8 16 rfl (by decide)
  have d3 := bit2 imm 8
  have c4 := half2 imm 16 32 rfl (by decide)
  have d4 := bit2 imm 16
  have c5 := half2 imm 32 64 rfl (by decide)
  have d5 := bit2 imm 32
  have cz := Int.ediv_one imm
  generalize imm / 1 % 2 = i0 at *
  generalize imm / 2 % 2 = i1 at *
  generalize imm / 4 % 2 = i2 at *
  generalize imm / 8 % 2 = i3 at *
  generalize imm / 16 % 2 = i4 at *
  generalize imm / 32 % 2 = i5 at *
  generalize imm / 1 = q0 at *
  generalize imm / 2 = q1 at *
  generalize imm / 4 = q2 at *
  generalize imm / 8 = q3 at *
  generalize imm / 16 = q4 at *
  generalize imm / 32 = q5 at *
  generalize imm / 64 = q6 at *
  constructor
  · simp only [expB]
    simp
    try (first | rfl | ((repeat' split) <;> (first | rfl | (exfalso; omega) | (congr 1 <;> omega))) | (congr 1 <;> omega) | omega)
  · clear c0 d0 c1 d1 c2 d2 c3 d3 c4 d4 c5 d5 cz cw hz hl hu hs
    simp only [dgB]
    simp
    try (first | rfl | ((repeat' split) <;> (first | rfl | (exfalso; omega) | omega)) | omega)

theorem put_5 (rd rs1 rs2 imm : Int) : putV (rd % 4294967296) (rs1 % 4294967296) (rs2 % 4294967296) (imm % 4294967296) [48, 48, 49, 108, 101, 106, 105, 107, 103, 104, 100, 99, 98, 102, 48, 49] 0 = 1 + 2 * 0 + 4 * (imm / 32 % 2) + 8 * (imm / 2 % 2) + 16 * (imm / 4 % 2) + 32 * (imm / 8 % 2) + 64 * (imm / 128 % 2) + 128 * (imm / 64 % 2) + 256 * (imm / 1024 % 2) + 512 * (imm / 256 % 2) + 1024 * (imm / 512 % 2) + 2048 * (imm / 16 % 2) + 4096 * (imm / 2048 % 2) + 8192 * 1 + 16384 * 0 + 32768 * 0 := by
  have e : putV (rd % 4294967296) (rs1 % 4294967296) (rs2 % 4294967296) (imm % 4294967296) [48, 48, 49, 108, 101, 106, 105, 107, 103, 104, 100, 99, 98, 102, 48, 49] 0 = (2 * (2 * (2 * (2 * (2 * (2 * (2 * (2 * (2 * (2 * (2 * (2 * (2 * (2 * (2 * (2 * 0 + 0) + 0) + 1) + fld (imm % 4294967296) 11 1) + fld (imm % 4294967296) 4 1) + fld (imm % 4294967296) 9 1) + fld (imm % 4294967296) 8 1) + fld (imm % 4294967296) 10 1) + fld (imm % 4294967296) 6 1) + fld (imm % 4294967296) 7 1) + fld (imm % 4294967296) 3 1) + fld (imm % 4294967296) 2 1) + fld (imm % 4294967296) 1 1) + fld (imm % 4294967296) 5 1) + 0) + 1) := rfl
  rw [e]
  clear e
  rw [fld_at imm 1 (by omega)]
  rw [fld_at imm 2 (by omega)]
  rw [fld_at imm 3 (by omega)]
  rw [fld_at imm 4 (by omega)]
  rw [fld_at imm 5 (by omega)]
  rw [fld_at imm 6 (by omega)]
  rw [fld_at imm 7 (by omega)]
  rw [fld_at imm 8 (by omega)]
  rw [fld_at imm 9 (by omega)]
  rw [fld_at imm 10 (by omega)]
  rw [fld_at imm 11 (by omega)]
  simp only [Int.reducePow]
  generalize imm / 2 % 2 = imm_1
  generalize imm / 4 % 2 = imm_2
  generalize imm / 8 % 2 = imm_3
  generalize imm / 16 % 2 = imm_4
  generalize imm / 32 % 2 = imm_5
  generalize imm / 64 % 2 = imm_6
  generalize imm / 128 % 2 = imm_7
  generalize imm / 256 % 2 = imm_8
  generalize imm / 512 % 2 = imm_9
  generalize imm / 1024 % 2 = imm_10
  generalize imm / 2048 % 2 = imm_11
  omega

set_option maxHeartbeats 4000000 in
theorem xexp_5 (op rd rs1 rs2 imm : Int) (hf : fitsB (⟨[99, 46, 106, 97, 108], 3, 1, 0, 0, (-2048), 2046, 2, 0, [48, 48, 49, 108, 101, 106, 105, 107, 103, 104, 100, 99, 98, 102, 48, 49]⟩ : PR) op rd rs1 rs2 imm = true) : expI (putV (rd % 4294967296) (rs1 % 4294967296) (rs2 % 4294967296) (imm % 4294967296) [48, 48, 49, 108, 101, 106, 105, 107, 103, 104, 100, 99, 98, 102, 48, 49] 0) = ⟨op, rd, rs1, rs2, imm⟩ ∧ dgN (putV (rd % 4294967296) (rs1 % 4294967296) (rs2 % 4294967296) (imm % 4294967296) [48, 48, 49, 108, 101, 106, 105, 107, 103, 104, 100, 99, 98, 102, 48, 49] 0) = 5 := by
  simp only [fitsB, Bool.and_eq_true] at hf
  obtain ⟨ho, hm, k1, k2, k3, hz, hl, hu, hs⟩ := hf
  obtain ⟨⟨m1, m2⟩, ⟨m3, m4⟩, m5, m6⟩ := may_regs' op rd rs1 rs2 imm hm
  have ho2 : op = 3 := by simpa using ho
  subst ho2
  try simp [kindB] at k1
  try simp [kindB] at k2
  try simp [kindB] at k3
  try simp at hz
  try simp at hl
  try simp at hu
  try simp at hs
  clear hm ho
  obtain ⟨x1, x2⟩ := bits16 _ 1 0 (imm / 32 % 2) (imm / 2 % 2) (imm / 4 % 2) (imm / 8 % 2) (imm / 128 % 2) (imm / 64 % 2) (imm / 1024 % 2) (imm / 256 % 2) (imm / 512 % 2) (imm / 16 % 2) (imm / 2048 % 2) 1 0 0 (by omega) (by omega) (by omega) (by omega) (by omega) (by omega) (by omega) (by omega) (by omega) (by omega) (by omega) (by omega) (by omega) (by omega) (by omega) (by omega) (put_5 rd rs1 rs2 imm)
  rw [x1, x2]
  clear x1 x2
  have cw : imm / 2048 = -(imm / 2048 % 2) := by clear m1 m2 m3 m4 m5 m6; omega
  have cl0 : imm / 1 % 2 = 0 := by clear m1 m2 m3 m4 m5 m6 cw; omega
  have c0 := half2 imm 1 2 rfl (by decide)
  have d0 := bit2 imm 1
  have c1 := half2 imm 2 4 rfl (by decide)
  have d1 := bit2 imm 2
  have c2 := half2 imm 4 8 rfl (by decide)
  have d2 := bit2 imm 4
  have c3 := half2 imm 8 16 rfl (by decide)
  have d3 := bit2 imm 8
  have c4 := half2 imm 16 32 rfl (by decide)
  have d4 := bit2 imm 16
  have c5 := half2 imm 32 64 rfl (by decide)
  have d5 := bit2 imm 32
  have c6 := half2 imm 64 128 rfl (by decide)
  have d6 := bit2 imm 64
  have c7 := half2 imm 128 256 rfl (by decide)
  have d7 := bit2 imm 128
  have c8 := half2 imm 256 512 rfl (by decide)
  have d8 := bit2 imm 256
  have c9 := half2 imm 512 1024 rfl (by decide)
  have d9 := bit2 imm 512
  have c10 := half2 imm 1024 2048 rfl (by decide)
  have d10 := bit2 imm 1024
  have c11 := half2 imm 2048 4096 rfl (by decide)
  have d11 := bit2 imm 2048
  have cz := Int.ediv_one imm
  generalize imm / 1 % 2 = i0 at *
  generalize imm / 2 % 2 = i1 at *
  generalize imm / 4 % 2 = i2 at *
  generalize imm / 8 % 2 = i3 at *
  generalize imm / 16 % 2 = i4 at *
  generalize imm / 32 % 2 = i5 at *
  generalize imm / 64 % 2 = i6 at *
  generalize imm / 128 % 2 = i7 at *
  generalize imm / 256 % 2 = i8 at *
  generalize imm / 512 % 2 = i9 at *
  generalize imm / 1024 % 2 = i10 at *
  generalize imm / 2048 % 2 = i11 at *
  generalize imm / 1 = q0 at *
  generalize imm / 2 = q1 at *
  generalize imm / 4 = q2 at *
  generalize imm / 8 = q3 at *
  generalize imm / 16 = q4 at *
  generalize imm / 32 = q5 at *
  generalize imm / 64 = q6 at *
  generalize imm / 128 = q7 at *
  generalize imm / 256 = q8 at *
  generalize imm / 512 = q9 at *
  generalize imm / 1024 = q10 at *
  generalize imm / 2048 = q11 at *
  generalize imm / 4096 = q12 at *
  constructor
  · simp only [expB]
    simp
    try (first | rfl | ((repeat' split) <;> (first | rfl | (exfalso; omega) | (congr 1 <;> omega))) | (congr 1 <;> omega) | omega)
  · clear c0 d0 c1 d1 c2 d2 c3 d3 c4 d4 c5 d5 c6 d6 c7 d7 c8 d8 c9 d9 c10 d10 c11 d11 cz cw cl0 hz hl hu hs
    simp only [dgB]
    simp
    try (first | rfl | ((repeat' split) <;> (first | rfl | (exfalso; omega) | omega)) | omega)

theorem put_6 (rd rs1 rs2 imm : Int) : putV (rd % 4294967296) (rs1 % 4294967296) (rs2 % 4294967296) (imm % 4294967296) [48, 49, 48, 102, 68, 68, 68, 68, 68, 101, 100, 99, 98, 97, 48, 49] 0 = 1 + 2 * 0 + 4 * (imm / 1 % 2) + 8 * (imm / 2 % 2) + 16 * (imm / 4 % 2) + 32 * (imm / 8 % 2) + 64 * (imm / 16 % 2) + 128 * (rd / 1 % 2) + 256 * (rd / 2 % 2) + 512 * (rd / 4 % 2) + 1024 * (rd / 8 % 2) + 2048 * (rd / 16 % 2) + 4096 * (imm / 32 % 2) + 8192 * 0 + 16384 * 1 + 32768 * 0 := by
  have e : putV (rd % 4294967296) (rs1 % 4294967296) (rs2 % 4294967296) (imm % 4294967296) [48, 49, 48, 102, 68, 68, 68, 68, 68, 101, 100, 99, 98, 97, 48, 49] 0 = (2 * (2 * (2 * (2 * (2 * (2 * (2 * (2 * (2 * (2 * (2 * (2 * (2 * (2 * (2 * (2 * 0 + 0) + 1) + 0) + fld (imm % 4294967296) 5 1) + fld (rd % 4294967296) 4 1) + fld (rd % 4294967296) 3 1) + fld (rd % 4294967296) 2 1) + fld (rd % 4294967296) 1 1) + fld (rd % 4294967296) 0 1) + fld (imm % 4294967296) 4 1) + fld (imm % 4294967296) 3 1) + fld (imm % 4294967296) 2 1) + fld (imm % 4294967296) 1 1) + fld (imm % 4294967296) 0 1) + 0) + 1) := rfl
  rw [e]
  clear e
  rw [fld_at imm 0 (by omega)]
  rw [fld_at imm 1 (by omega)]
  rw [fld_at imm 2 (by omega)]
  rw [fld_at imm 3 (by omega)]
  rw [fld_at imm 4 (by omega)]
  rw [fld_at imm 5 (by omega)]
  rw [fld_at rd 0 (by omega)]
  rw [fld_at rd 1 (by omega)]
  rw [fld_at rd 2 (by omega)]
  rw [fld_at rd 3 (by omega)]
  rw [fld_at rd 4 (by omega)]
  simp only [Int.reducePow]
  generalize imm / 1 % 2 = imm_0
  generalize imm / 2 % 2 = imm_1
  generalize imm / 4 % 2 = imm_2
  generalize imm / 8 % 2 = imm_3
  generalize imm / 16 % 2 = imm_4
  generalize imm / 32 % 2 = imm_5
  generalize rd / 1 % 2 = rd_0
  generalize rd / 2 % 2 = rd_1
  generalize rd / 4 % 2 = rd_2
  generalize rd / 8 % 2 = rd_3
  generalize rd / 16 % 2 = rd_4
  omega

set_option maxHeartbeats 4000000 in
theorem xexp_6 (op rd rs1 rs2 imm : Int) (hf : fitsB (⟨[99, 46, 108, 105], 19, 5, 0, 0, (-32), 31, 1, 0, [48, 49, 48, 102, 68, 68, 68, 68, 68, 101, 100, 99, 98, 97, 48, 49]⟩ : PR) op rd rs1 rs2 imm = true) : expI (putV (rd % 4294967296) (rs1 % 4294967296) (rs2 % 4294967296) (imm % 4294967296) [48, 49, 48, 102, 68, 68, 68, 68, 68, 101, 100, 99, 98, 97, 48, 49] 0) = ⟨op, rd, rs1, rs2, imm⟩ ∧ dgN (putV (rd % 4294967296) (rs1 % 4294967296) (rs2 % 4294967296) (imm % 4294967296) [48, 49, 48, 102, 68, 68, 68, 68, 68, 101, 100, 99, 98, 97, 48, 49] 0) = 6 := by
  simp only [fitsB, Bool.and_eq_true] at hf
  obtain ⟨ho, hm, k1, k2, k3, hz, hl, hu, hs⟩ := hf
  obtain ⟨⟨m1, m2⟩, ⟨m3, m4⟩, m5, m6⟩ := may_regs' op rd rs1 rs2 imm hm
  have ho2 : op = 19 := by simpa using ho
  subst ho2
  try simp [kindB] at k1
  try simp [kindB] at k2
  try simp [kindB] at k3
  try simp at hz
  try simp at hl
  try simp at hu
  try simp at hs
  clear hm ho
  obtain ⟨x1, x2⟩ := bits16 _ 1 0 (imm / 1 % 2) (imm / 2 % 2) (imm / 4 % 2) (imm / 8 % 2) (imm / 16 % 2) (rd / 1 % 2) (rd / 2 % 2) (rd / 4 % 2) (rd / 8 % 2) (rd / 16 % 2) (imm / 32 % 2) 0 1 0 (by omega) (by omega) (by omega) (by omega) (by omega) (by omega) (by omega) (by omega) (by omega) (by omega) (by omega) (by omega) (by omega) (by omega) (by omega) (by omega) (put_6 rd rs1 rs2 imm)
  rw [x1, x2]
  clear x1 x2
  have cw : imm / 32 = -(imm / 32 % 2) := by clear m1 m2 m3 m4 m5 m6; omega
  have c0 := half2 imm 1 2 rfl (by decide)
  have d0 := bit2 imm 1
  have c1 := half2 imm 2 4 rfl (by decide)
  have d1 := bit2 imm 2
  have c2 := half2 imm 4 8 rfl (by decide)
  have d2 := bit2 imm 4
  have c3 := half2 imm 8 16 rfl (by decide)
  have d3 := bit2 imm 8
  have c4 := half2 imm 16 32 rfl (by decide)
  have d4 := bit2 imm 16
  have c5 := half2 imm 32 64 rfl (by decide)
  have d5 := bit2 imm 32
  have cz := Int.ediv_one imm
  generalize imm / 1 % 2 = i0 at *
  generalize imm / 2 % 2 = i1 at *
  generalize imm / 4 % 2 = i2 at *
  generalize imm / 8 % 2 = i3 at *
  generalize imm / 16 % 2 = i4 at *
  generalize imm / 32 % 2 = i5 at *
  generalize imm / 1 = q0 at *
  generalize imm / 2 = q1 at *
  generalize imm / 4 = q2 at *
  generalize imm / 8 = q3 at *
  generalize imm / 16 = q4 at *
  generalize imm / 32 = q5 at *
  generalize imm / 64 = q6 at *
  constructor
  · simp only [expB]
    simp
    try (first | rfl | ((repeat' split) <;> (first | rfl | (exfalso; omega) | (congr 1 <;> omega))) | (congr 1 <;> omega) | omega)
  · clear c0 d0 c1 d1 c2 d2 c3 d3 c4 d4 c5 d5 cz cw hz hl hu hs
    simp only [dgB]
    simp
    try (first | rfl | ((repeat' split) <;> (first | rfl | (exfalso; omega) | omega)) | omega)

theorem put_7 (rd rs1 rs2 imm : Int) : putV (rd % 4294967296) (rs1 % 4294967296) (rs2 % 4294967296) (imm % 4294967296) [48, 49, 49, 106, 48, 48, 48, 49, 48, 101, 103, 105, 104, 102, 48, 49] 0 = 1 + 2 * 0 + 4 * (imm / 32 % 2) + 8 * (imm / 128 % 2) + 16 * (imm / 256 % 2) + 32 * (imm / 64 % 2) + 64 * (imm / 16 % 2) + 128 * 0 + 256 * 1 + 512 * 0 + 1024 * 0 + 2048 * 0 + 4096 * (imm / 512 % 2) + 8192 * 1 + 16384 * 1 + 32768 * 0 := by
  have e : putV (rd % 4294967296) (rs1 % 4294967296) (rs2 % 4294967296) (imm % 4294967296) [48, 49, 49, 106, 48, 48, 48, 49, 48, 101, 103, 105, 104, 102, 48, 49] 0 = (2 * (2 * (2 * (2 * (2 * (2 * (2 * (2 * (2 * (2 * (2 * (2 * (2 * (2 * (2 * (2 * 0 + 0) + 1) + 1) + fld (imm % 4294967296) 9 1) + 0) + 0) + 0) + 1) + 0) + fld (imm % 4294967296) 4 1) + fld (imm % 4294967296) 6 1) + fld (imm % 4294967296) 8 1) + fld (imm % 4294967296) 7 1) + fld (imm % 4294967296) 5 1) + 0) + 1) := rfl
  rw [e]
  clear e
  rw [fld_at imm 4 (by omega)]
  rw [fld_at imm 5 (by omega)]
  rw [fld_at imm 6 (by omega)]
  rw [fld_at imm 7 (by omega)]
  rw [fld_at imm 8 (by omega)]
  rw [fld_at imm 9 (by omega)]
  simp only [Int.reducePow]
  generalize imm / 16 % 2 = imm_4
  generalize imm / 32 % 2 = imm_5
  generalize imm / 64 % 2 = imm_6
  generalize imm / 128 % 2 = imm_7
  generalize imm / 256 % 2 = imm_8
  generalize imm / 512 % 2 = imm_9
  omega

set_option maxHeartbeats 4000000 in
theorem xexp_7 (op rd rs1 rs2 imm : Int) (hf : fitsB (⟨[99, 46, 97, 100, 100, 105, 49, 54, 115, 112], 19, 2, 7, 0, (-512), 496, 16, 1, [48, 49, 49, 106, 48, 48, 48, 49, 48, 101, 103, 105, 104, 102, 48, 49]⟩ : PR) op rd rs1 rs2 imm = true) : expI (putV (rd % 4294967296) (rs1 % 4294967296) (rs2 % 4294967296) (imm % 4294967296) [48, 49, 49, 106, 48, 48, 48, 49, 48, 101, 103, 105, 104, 102, 48, 49] 0) = ⟨op, rd, rs1, rs2, imm⟩ ∧ dgN (putV (rd % 4294967296) (rs1 % 4294967296) (rs2 % 4294967296) (imm % 4294967296) [48, 49, 49, 106, 48, 48, 48, 49, 48, 101, 103, 105, 104, 102, 48, 49] 0) = 7 := by
  simp only [fitsB, Bool.and_eq_true] at hf
  obtain ⟨ho, hm, k1, k2, k3, hz, hl, hu, hs⟩ := hf
  obtain ⟨⟨m1, m2⟩, ⟨m3, m4⟩, m5, m6⟩ := may_regs' op rd rs1 rs2 imm hm
  have ho2 : op = 19 := by simpa using ho
  subst ho2
  try simp [kindB] at k1
  try simp [kindB] at k2
  try simp [kindB] at k3
  try simp at hz
  try simp at hl
  try simp at hu
  try simp at hs
  clear hm ho
  obtain ⟨x1, x2⟩ := bits16 _ 1 0 (imm / 32 % 2) (imm / 128 % 2) (imm / 256 % 2) (imm / 64 % 2) (imm / 16 % 2) 0 1 0 0 0 (imm / 512 % 2) 1 1 0 (by omega) (by omega) (by omega) (by omega) (by omega) (by omega) (by omega) (by omega) (by omega) (by omega) (by omega) (by omega) (by omega) (by omega) (by omega) (by omega) (put_7 rd rs1 rs2 imm)
  rw [x1, x2]
  clear x1 x2
  have cw : imm / 512 = -(imm / 512 % 2) := by clear m1 m2 m3 m4 m5 m6; omega
  have cl0 : imm / 1 % 2 = 0 := by clear m1 m2 m3 m4 m5 m6 cw; omega
  have cl1 : imm / 2 % 2 = 0 := by clear m1 m2 m3 m4 m5 m6 cw cl0; omega
  have cl2 : imm / 4 % 2 = 0 := by clear m1 m2 m3 m4 m5 m6 cw cl0 cl1; omega
  have cl3 : imm / 8 % 2 = 0 := by clear m1 m2 m3 m4 m5 m6 cw cl0 cl1 cl2; omega
  have c0 := half2 imm 1 2 rfl (by decide)
  have d0 := bit2 imm 1
  have c1 := half2 imm 2 4 rfl (by decide)
  have d1 := bit2 imm 2
  have c2 := half2 imm 4 8 rfl (by decide)
  have d2 := bit2 imm 4
  have c3 := half2 imm 8 16 rfl (by decide)
  have d3 := bit2 imm 8
  have c4 := half2 imm 16 32 rfl (by decide)
  have d4 := bit2 imm 16
  have c5 := half2 imm 32 64 rfl (by decide)
  have d5 := bit2 imm 32
  have c6 := half2 imm 64 128 rfl (by decide)
  have d6 := bit2 imm 64
  have c7 := half2 imm 128 256 rfl (by decide)
  have d7 := bit2 imm 128
  have c8 := half2 imm 256 512 rfl (by decide)
  have d8 := bit2 imm 256
  have c9 := half2 imm 512 1024 rfl (by decide)
  have d9 := bit2 imm 512
  have cz := Int.ediv_one imm
  generalize imm / 1 % 2 = i0 at *
  generalize imm / 2 % 2 = i1 at *
  generalize imm / 4 % 2 = i2 at *
  generalize imm / 8 % 2 = i3 at *
  generalize imm / 16 % 2 = i4 at *
  generalize imm / 32 % 2 = i5 at *
  generalize imm / 64 % 2 = i6 at *
  generalize imm / 128 % 2 = i7 at *
  generalize imm / 256 % 2 = i8 at *
  generalize imm / 512 % 2 = i9 at *
  generalize imm / 1 = q0 at *
  generalize imm / 2 = q1 at *
  generalize imm / 4 = q2 at *
  generalize imm / 8 = q3 at *
  generalize imm / 16 = q4 at *
  generalize imm / 32 = q5 at *
  generalize imm / 64 = q6 at *
  generalize imm / 128 = q7 at *
  generalize imm / 256 = q8 at *
  generalize imm / 512 = q9 at *
  generalize imm / 1024 = q10 at *
  constructor
  · simp only [expB]
    simp
    try (first | rfl | ((repeat' split) <;> (first | rfl | (exfalso; omega) | (congr 1 <;> omega))) | (congr 1 <;> omega) | omega)
  · clear c0 d0 c1 d1 c2 d2 c3 d3 c4 d4 c5 d5 c6 d6 c7 d7 c8 d8 c9 d9 cz cw cl0 cl1 cl2 cl3 hz hl hu hs
    simp only [dgB]
    simp
    try (first | rfl | ((repeat' split) <;> (first | rfl | (exfalso; omega) | omega)) | omega)

theorem put_8 (rd rs1 rs2 imm : Int) : putV (rd % 4294967296) (rs1 % 4294967296) (rs2 % 4294967296) (imm % 4294967296) [48, 49, 49, 114, 68, 68, 68, 68, 68, 113, 112, 111, 110, 109, 48, 49] 0 = 1 + 2 * 0 + 4 * (imm / 4096 % 2) + 8 * (imm / 8192 % 2) + 16 * (imm / 16384 % 2) + 32 * (imm / 32768 % 2) + 64 * (imm / 65536 % 2) + 128 * (rd / 1 % 2) + 256 * (rd / 2 % 2) + 512 * (rd / 4 % 2) + 1024 * (rd / 8 % 2) + 2048 * (rd / 16 % 2) + 4096 * (imm / 131072 % 2) + 8192 * 1 + 16384 * 1 + 32768 * 0 := by
  have e : putV (rd % 4294967296) (rs1 % 4294967296) (rs2 % 4294967296) (imm % 4294967296) [48, 49, 49, 114, 68, 68, 68, 68, 68, 113, 112, 111, 110, 109, 48, 49] 0 = (2 * (2 * (2 * (2 * (2 * (2 * (2 * (2 * (2 * (2 * (2 * (2 * (2 * (2 * (2 * (2 * 0 + 0) + 1) + 1) + fld (imm % 4294967296) 17 1) + fld (rd % 4294967296) 4 1) + fld (rd % 4294967296) 3 1) + fld (rd % 4294967296) 2 1) + fld (rd % 4294967296) 1 1) + fld (rd % 4294967296) 0 1) + fld (imm % 4294967296) 16 1) + fld (imm % 4294967296) 15 1) + fld (imm % 4294967296) 14 1) + fld (imm % 4294967296) 13 1) + fld (imm % 4294967296) 12 1) + 0) + 1) := rfl
  rw [e]
  clear e
  rw [fld_at imm 12 (by omega)]
  rw [fld_at imm 13 (by omega)]
  rw [fld_at imm 14 (by omega)]
  rw [fld_at imm 15 (by omega)]
  rw [fld_at imm 16 (by omega)]
  rw [fld_at imm 17 (by omega)]
  rw [fld_at rd 0 (by omega)]
  rw [fld_at rd 1 (by omega)]
  rw [fld_at rd 2 (by omega)]
  rw [fld_at rd 3 (by omega)]
  rw [fld_at rd 4 (by omega)]
  simp only [Int.reducePow]
  generalize imm / 4096 % 2 = imm_12
  generalize imm / 8192 % 2 = imm_13
  generalize imm / 16384 % 2 = imm_14
  generalize imm / 32768 % 2 = imm_15
  generalize imm / 65536 % 2 = imm_16
  generalize imm / 131072 % 2 = imm_17
  generalize rd / 1 % 2 = rd_0
  generalize rd / 2 % 2 = rd_1
  generalize rd / 4 % 2 = rd_2
  generalize rd / 8 % 2 = rd_3
  generalize rd / 16 % 2 = rd_4
  omega

set_option maxHeartbeats 4000000 in
theorem xexp_8 (op rd rs1 rs2 imm : Int) (hf : fitsB (⟨[99, 46, 108, 117, 105], 1, 6, 0, 0, (-131072), 126976, 4096, 1, [48, 49, 49, 114, 68, 68, 68, 68, 68, 113, 112, 111, 110, 109, 48, 49]⟩ : PR) op rd rs1 rs2 imm = true) : expI (putV (rd % 4294967296) (rs1 % 4294967296) (rs2 % 4294967296) (imm % 4294967296) [48, 49, 49, 114, 68, 68, 68, 68, 68, 113, 112, 111, 110, 109, 48, 49] 0) = ⟨op, rd, rs1, rs2, imm⟩ ∧ dgN (putV (rd % 4294967296) (rs1 % 4294967296) (rs2 % 4294967296) (imm % 4294967296) [48, 49, 49, 114, 68, 68, 68, 68, 68, 113, 112, 111, 110, 109, 48, 49] 0) = 8 := by
  simp only [fitsB, Bool.and_eq_true] at hf
  obtain ⟨ho, hm, k1, k2, k3, hz, hl, hu, hs⟩ := hf
  obtain ⟨⟨m1, m2⟩, ⟨m3, m4⟩, m5, m6⟩ := may_regs' op rd rs1 rs2 imm hm
  have ho2 : op = 1 := by simpa using ho
  subst ho2
  try simp [kindB] at k1
  try simp [kindB] at k2
  try simp [kindB] at k3
  try simp at hz
  try simp at hl
  try simp at hu
  try simp at hs
  clear hm ho
  obtain ⟨x1, x2⟩ := bits16 _ 1 0 (imm / 4096 % 2) (imm / 8192 % 2) (imm / 16384 % 2) (imm / 32768 % 2) (imm / 65536 % 2) (rd / 1 % 2) (rd / 2 % 2) (rd / 4 % 2) (rd / 8 % 2) (rd / 16 % 2) (imm / 131072 % 2) 1 1 0 (by omega) (by omega) (by omega) (by omega) (by omega) (by omega) (by omega) (by omega) (by omega) (by omega) (by omega) (by omega) (by omega) (by omega) (by omega) (by omega) (put_8 rd rs1 rs2 imm)
  rw [x1, x2]
  clear x1 x2
  have cw : imm / 131072 = -(imm / 131072 % 2) := by clear m1 m2 m3 m4 m5 m6; omega
  have cl0 : imm / 1 % 2 = 0 := by clear m1 m2 m3 m4 m5 m6 cw; omega
  have cl1 : imm / 2 % 2 = 0 := by clear m1 m2 m3 m4 m5 m6 cw cl0; omega
  have cl2 : imm / 4 % 2 = 0 := by clear m1 m2 m3 m4 m5 m6 cw cl0 cl1; omega
  have cl3 : imm / 8 % 2 = 0 := by clear m1 m2 m3 m4 m5 m6 cw cl0 cl1 cl2; omega
  have cl4 : imm / 16 % 2 = 0 := by clear m1 m2 m3 m4 m5 m6 cw cl0 cl1 cl2 cl3; omega
  have cl5 : imm / 32 % 2 = 0 := by clear m1 m2 m3 m4 m5 m6 cw cl0 cl1 cl2 cl3 cl4; omega
  have cl6 : imm / 64 % 2 = 0 := by clear m1 m2 m3 m4 m5 m6 cw cl0 cl1 cl2 cl3 cl4 cl5; omega
  have cl7 : imm / 128 % 2 = 0 := by clear m1 m2 m3 m4 m5 m6 cw cl0 cl1 cl2 cl3 cl4 cl5 cl6; omega
  have cl8 : imm / 256 % 2 = 0 := by clear m1 m2 m3 m4 m5 m6 cw cl0 cl1 cl2 cl3 cl4 cl5 cl6 cl7; omega
  have cl9 : imm / 512 % 2 = 0 := by clear m1 m2 m3 m4 m5 m6 cw cl0 cl1 cl2 cl3 cl4 cl5 cl6 cl7 cl8; omega
  have cl10 : imm / 1024 % 2 = 0 := by clear m1 m2 m3 m4 m5 m6 cw cl0 cl1 cl2 cl3 cl4 cl5 cl6 cl7 cl8 cl9; omega
  have cl11 : imm / 2048 % 2 = 0 := by clear m1 m2 m3 m4 m5 m6 cw cl0 cl1 cl2 cl3 cl4 cl5 cl6 cl7 cl8 cl9 cl10; omega
  have c0 := half2 imm 1 2 rfl (by decide)
  have d0 := bit2 imm 1
  have c1 := half2 imm 2 4 rfl (by decide)
  have d1 := bit2 imm 2
  have c2 := half2 imm 4 8 rfl (by decide)
  have d2 := bit2 imm 4
  have c3 := half2 imm 8 16 rfl (by decide)
  have d3 := bit2 imm 8
  have c4 := half2 imm 16 32 rfl (by decide)
  have d4 := bit2 imm 16
  have c5 := half2 imm 32 64 rfl (by decide)
  have d5 := bit2 imm 32
  have c6 := half2 imm 64 128 rfl (by decide)
  have d6 := bit2 imm 64
  have c7 := half2 imm 128 256 rfl (by decide)
  have d7 := bit2 imm 128
  have c8 := half2 imm 256 512 rfl (by decide)
  have d8 := bit2 imm 256
  have c9 := half2 imm 512 1024 rfl (by decide)
  have d9 := bit2 imm 512
  have c10 := half2 imm 1024 2048 rfl (by decide)
  have d10 := bit2 imm 1024
  have c11 := half2 imm 2048 4096 rfl (by decide)
  have d11 := bit2 imm 2048
  have c12 := half2 imm 4096 8192 rfl (by decide)
  have d12 := bit2 imm 4096
  have c13 := half2 imm 8192 16384 rfl (by decide)
  have d13 := bit2 imm 8192
  have c14 := half2 imm 16384 32768 rfl (by decide)
  have d14 := bit2 imm 16384
  have c15 := half2 imm 32768 65536 rfl (by decide)
  have d15 := bit2 imm 32768
  have c16 := half2 imm 65536 131072 rfl (by decide)
  have d16 := bit2 imm 65536
  have c17 := half2 imm 131072 262144 rfl (by decide)
  have d17 := bit2 imm 131072
  have cz := Int.ediv_one imm
  generalize imm / 1 % 2 = i0 at *
  generalize imm / 2 % 2 = i1 at *
  generalize imm / 4 % 2 = i2 at *
  generalize imm / 8 % 2 = i3 at *
  generalize imm / 16 % 2 = i4 at *
  generalize imm / 32 % 2 = i5 at *
  generalize imm / 64 % 2 = i6 at *
  generalize imm / 128 % 2 = i7 at *
  generalize imm / 256 % 2 = i8 at *
  generalize imm / 512 % 2 = i9 at *
  generalize imm / 1024 % 2 = i10 at *
  generalize imm / 2048 % 2 = i11 at *
  generalize imm / 4096 % 2 = i12 at *
  generalize imm / 8192 % 2 = i13 at *
  generalize imm / 16384 % 2 = i14 at *
  generalize imm / 32768 % 2 = i15 at *
  generalize imm / 65536 % 2 = i16 at *
  generalize imm / 131072 % 2 = i17 at *
  generalize imm / 1 = q0 at *
  generalize imm / 2 = q1 at *
  generalize imm / 4 = q2 at *
  generalize imm / 8 = q3 at *
  generalize imm / 16 = q4 at *
  generalize imm / 32 = q5 at *
  generalize imm / 64 = q6 at *
  generalize imm / 128 = q7 at *
  generalize imm / 256 = q8 at *
  generalize imm / 512 = q9 at *
  generalize imm / 1024 = q10 at *
  generalize imm / 2048 = q11 at *
  generalize imm / 4096 = q12 at *
  generalize imm / 8192 = q13 at *
  generalize imm / 16384 = q14 at *
  generalize imm / 32768 = q15 at *
  generalize imm / 65536 = q16 at *
  generalize imm / 131072 = q17 at *
  generalize imm / 262144 = q18 at *
  constructor
  · simp only [expB]
    simp
    try (first | rfl | ((repeat' split) <;> (first | rfl | (exfalso; omega) | (congr 1 <;> omega))) | (congr 1 <;> omega) | omega)
  · clear c0 d0 c1 d1 c2 d2 c3 d3 c4 d4 c5 d5 c6 d6 c7 d7 c8 d8 c9 d9 c10 d10 c11 d11 c12 d12 c13 d13 c14 d14 c15 d15 c16 d16 c17 d17 cz cw cl0 cl1 cl2 cl3 cl4 cl5 cl6 cl7 cl8 cl9 cl10 cl11 hz hl hu hs
    simp only [dgB]
    simp
    try (first | rfl | ((repeat' split) <;> (first | rfl | (exfalso; omega) | omega)) | omega)

end Go.Proofs.Ytppnmaklggkogaa

/- Plain: row by row, a parcel that is put is expanded to its instruction. -/
namespace Go.Proofs.Ytppnmaklggkogaa
open Go.RowKit
set_option linter.unusedVariables false
set_option linter.unusedSimpArgs false

theorem put_9 (rd rs1 rs2 imm : Int) : putV (rd % 4294967296) (rs1 % 4294967296) (rs2 % 4294967296) (imm % 4294967296) [49, 48, 48, 48, 48, 48, 68, 68, 68, 101, 100, 99, 98, 97, 48, 49] 0 = 1 + 2 * 0 + 4 * (imm / 1 % 2) + 8 * (imm / 2 % 2) + 16 * (imm / 4 % 2) + 32 * (imm / 8 % 2) + 64 * (imm / 16 % 2) + 128 * (rd / 1 % 2) + 256 * (rd / 2 % 2) + 512 * (rd / 4 % 2) + 1024 * 0 + 2048 * 0 + 4096 * 0 + 8192 * 0 + 16384 * 0 + 32768 * 1 := by
  have e : putV (rd % 4294967296) (rs1 % 4294967296) (rs2 % 4294967296) (imm % 4294967296) [49, 48, 48, 48, 48, 48, 68, 68, 68, 101, 100, 99, 98, 97, 48, 49] 0 = (2 * (2 * (2 * (2 * (2 * (2 * (2 * (2 * (2 * (2 * (2 * (2 * (2 * (2 * (2 * (2 * 0 + 1) + 0) + 0) + 0) + 0) + 0) + fld (rd % 4294967296) 2 1) + fld (rd % 4294967296) 1 1) + fld (rd % 4294967296) 0 1) + fld (imm % 4294967296) 4 1) + fld (imm % 4294967296) 3 1) + fld (imm % 4294967296) 2 1) + fld (imm % 4294967296) 1 1) + fld (imm % 4294967296) 0 1) + 0) + 1) := rfl
  rw [e]
  clear e
  rw [fld_at imm 0 (by omega)]
  rw [fld_at imm 1 (by omega)]
  rw [fld_at imm 2 (by omega)]
  rw [fld_at imm 3 (by omega)]
  rw [fld_at imm 4 (by omega)]
  rw [fld_at rd 0 (by omega)]
  rw [fld_at rd 1 (by omega)]
  rw [fld_at rd 2 (by omega)]
  simp only [Int.reducePow]
  generalize imm / 1 % 2 = imm_0
  generalize imm / 2 % 2 = imm_1
  generalize imm / 4 % 2 = imm_2
  generalize imm / 8 % 2 = imm_3
  generalize imm / 16 % 2 = imm_4
  generalize rd / 1 % 2 = rd_0
  generalize rd / 2 % 2 = rd_1
  generalize rd / 4 % 2 = rd_2
  omega

set_option maxHeartbeats 4000000 in
theorem xexp_9 (op rd rs1 rs2 imm : Int) (hf : fitsB (⟨[99, 46, 115, 114, 108, 105], 26, 4, 7, 0, 1, 31, 1, 0, [49, 48, 48, 48, 48, 48, 68, 68, 68, 101, 100, 99, 98, 97, 48, 49]⟩ : PR) op rd rs1 rs2 imm = true) : expI (putV (rd % 4294967296) (rs1 % 4294967296) (rs2 % 4294967296) (imm % 4294967296) [49, 48, 48, 48, 48, 48, 68, 68, 68, 101, 100, 99, 98, 97, 48, 49] 0) = ⟨op, rd, rs1, rs2, imm⟩ ∧ dgN (putV (rd % 4294967296) (rs1 % 4294967296) (rs2 % 4294967296) (imm % 4294967296) [49, 48, 48, 48, 48, 48, 68, 68, 68, 101, 100, 99, 98, 97, 48, 49] 0) = 9 := by
  simp only [fitsB, Bool.and_eq_true] at hf
  obtain ⟨ho, hm, k1, k2, k3, hz, hl, hu, hs⟩ := hf
  obtain ⟨⟨m1, m2⟩, ⟨m3, m4⟩, m5, m6⟩ := may_regs' op rd rs1 rs2 imm hm
  have ho2 : op = 26 := by simpa using ho
  subst ho2
  try simp [kindB] at k1
  try simp [kindB] at k2
  try simp [kindB] at k3
  try simp at hz
  try simp at hl
  try simp at hu
  try simp at hs
  clear hm ho
  obtain ⟨x1, x2⟩ := bits16 _ 1 0 (imm / 1 % 2) (imm / 2 % 2) (imm / 4 % 2) (imm / 8 % 2) (imm / 16 % 2) (rd / 1 % 2) (rd / 2 % 2) (rd / 4 % 2) 0 0 0 0 0 1 (by omega) (by omega) (by omega) (by omega) (by omega) (by omega) (by omega) (by omega) (by omega) (by omega) (by omega) (by omega) (by omega) (by omega) (by omega) (by omega) (put_9 rd rs1 rs2 imm)
  rw [x1, x2]
  clear x1 x2
  have cw : imm / 32 = 0 := by clear m1 m2 m3 m4 m5 m6; omega
  have c0 := half2 imm 1 2 rfl (by decide)
  have d0 := bit2 imm 1
  have c1 := half2 imm 2 4 rfl (by decide)
  have d1 := bit2 imm 2
  have c2 := half2 imm 4 8 rfl (by decide)
  have d2 := bit2 imm 4
  have c3 := half2 imm 8 16 rfl (by decide)
  have d3 := bit2 imm 8
  have c4 := half2 imm 16 32 rfl (by decide)
  have d4 := bit2 imm 16
  have cz := Int.ediv_one imm
  generalize imm / 1 % 2 = i0 at *
  generalize imm / 2 % 2 = i1 at *
  generalize imm / 4 % 2 = i2 at *
  generalize imm / 8 % 2 = i3 at *
  generalize imm / 16 % 2 = i4 at *
  generalize imm / 1 = q0 at *
  generalize imm / 2 = q1 at *
  generalize imm / 4 = q2 at *
  generalize imm / 8 = q3 at *
  generalize imm / 16 = q4 at *
  generalize imm / 32 = q5 at *
  constructor
  · simp only [expB]
    simp
    try (first | rfl | ((repeat' split) <;> (first | rfl | (exfalso; omega) | (congr 1 <;> omega))) | (congr 1 <;> omega) | omega)
  · clear c0 d0 c1 d1 c2 d2 c3 d3 c4 d4 cz cw hz hl hu hs
    simp only [dgB]
    simp
    try (first | rfl | ((repeat' split) <;> (first | rfl | (exfalso; omega) | omega)) | omega)

theorem put_10 (rd rs1 rs2 imm : Int) : putV (rd % 4294967296) (rs1 % 4294967296) (rs2 % 4294967296) (imm % 4294967296) [49, 48, 48, 48, 48, 49, 68, 68, 68, 101, 100, 99, 98, 97, 48, 49] 0 = 1 + 2 * 0 + 4 * (imm / 1 % 2) + 8 * (imm / 2 % 2) + 16 * (imm / 4 % 2) + 32 * (imm / 8 % 2) + 64 * (imm / 16 % 2) + 128 * (rd / 1 % 2) + 256 * (rd / 2 % 2) + 512 * (rd / 4 % 2) + 1024 * 1 + 2048 * 0 + 4096 * 0 + 8192 * 0 + 16384 * 0 + 32768 * 1 := by
  have e : putV (rd % 4294967296) (rs1 % 4294967296) (rs2 % 4294967296) (imm % 4294967296) [49, 48, 48, 48, 48, 49, 68, 68, 68, 101, 100, 99, 98, 97, 48, 49] 0 = (2 * (2 * (2 * (2 * (2 * (2 * (2 * (2 * (2 * (2 * (2 * (2 * (2 * (2 * (2 * (2 * 0 + 1) + 0) + 0) + 0) + 0) + 1) + fld (rd % 4294967296) 2 1) + fld (rd % 4294967296) 1 1) + fld (rd % 4294967296) 0 1) + fld (imm % 4294967296) 4 1) + fld (imm % 4294967296) 3 1) + fld (imm % 4294967296) 2 1) + fld (imm % 4294967296) 1 1) + fld (imm % 4294967296) 0 1) + 0) + 1) := rfl
  rw [e]
  clear e
  rw [fld_at imm 0 (by omega)]
  rw [fld_at imm 1 (by omega)]
  rw [fld_at imm 2 (by omega)]
  rw [fld_at imm 3 (by omega)]
  rw [fld_at imm 4 (by omega)]
  rw [fld_at rd 0 (by omega)]
  rw [fld_at rd 1 (by omega)]
  rw [fld_at rd 2 (by omega)]
  simp only [Int.reducePow]
  generalize imm / 1 % 2 = imm_0
  generalize imm / 2 % 2 = imm_1
  generalize imm / 4 % 2 = imm_2
  generalize imm / 8 % 2 = imm_3
  generalize imm / 16 % 2 = imm_4
  generalize rd / 1 % 2 = rd_0
  generalize rd / 2 % 2 = rd_1
  generalize rd / 4 % 2 = rd_2
  omega

set_option maxHeartbeats 4000000 in
theorem xexp_10 (op rd rs1 rs2 imm : Int) (hf : fitsB (⟨[99, 46, 115, 114, 97, 105], 27, 4, 7, 0, 1, 31, 1, 0, [49, 48, 48, 48, 48, 49, 68, 68, 68, 101, 100, 99, 98, 97, 48, 49]⟩ : PR) op rd rs1 rs2 imm = true) : expI (putV (rd % 4294967296) (rs1 % 4294967296) (rs2 % 4294967296) (imm % 4294967296) [49, 48, 48, 48, 48, 49, 68, 68, 68, 101, 100, 99, 98, 97, 48, 49] 0) = ⟨op, rd, rs1, rs2, imm⟩ ∧ dgN (putV (rd % 4294967296) (rs1 % 4294967296) (rs2 % 4294967296) (imm % 4294967296) [49, 48, 48, 48, 48, 49, 68, 68, 68, 101, 100, 99, 98, 97, 48, 49] 0) = 10 := by
  simp only [fitsB, Bool.and_eq_true] at hf
  obtain ⟨ho, hm, k1, k2, k3, hz, hl, hu, hs⟩ := hf
  obtain ⟨⟨m1, m2⟩, ⟨m3, m4⟩, m5, m6⟩ := may_regs' op rd rs1 rs2 imm hm
  have ho2 : op = 27 := by simpa using ho
  subst ho2
  try simp [kindB] at k1
  try simp [kindB] at k2
  try simp [kindB] at k3
  try simp at hz
  try simp at hl
  try simp at hu
  try simp at hs
  clear hm ho
  obtain ⟨x1, x2⟩ := bits16 _ 1 0 (imm / 1 % 2) (imm / 2 % 2) (imm / 4 % 2) (imm / 8 % 2) (imm / 16 % 2) (rd / 1 % 2) (rd / 2 % 2) (rd / 4 % 2) 1 0 0 0 0 1 (by omega) (by omega) (by omega) (by omega) (by omega) (by omega) (by omega) (by omega) (by omega) (by omega) (by omega) (by omega) (by omega) (by omega) (by omega) (by omega) (put_10 rd rs1 rs2 imm)
  rw [x1, x2]
  clear x1 x2
  have cw : imm / 32 = 0 := by clear m1 m2 m3 m4 m5 m6; omega
  have c0 := half2 imm 1 2 rfl (by decide)
  have d0 := bit2 imm 1
  have c1 := half2 imm 2 4 rfl (by decide)
  have d1 := bit2 imm 2
  have c2 := half2 imm 4 8 rfl (by decide)
  have d2 := bit2 imm 4
  have c3 := half2 imm 8 16 rfl (by decide)
  have d3 := bit2 imm 8
  have c4 := half2 imm 16 32 rfl (by decide)
  have d4 := bit2 imm 16
  have cz := Int.ediv_one imm
  generalize imm / 1 % 2 = i0 at *
  generalize imm / 2 % 2 = i1 at *
  generalize imm / 4 % 2 = i2 at *
  generalize imm / 8 % 2 = i3 at *
  generalize imm / 16 % 2 = i4 at *
  generalize imm / 1 = q0 at *
  generalize imm / 2 = q1 at *
  generalize imm / 4 = q2 at *
  generalize imm / 8 = q3 at *
  generalize imm / 16 = q4 at *
  generalize imm / 32 = q5 at *
  constructor
  · simp only [expB]
    simp
    try (first | rfl | ((repeat' split) <;> (first | rfl | (exfalso; omega) | (congr 1 <;> omega))) | (congr 1 <;> omega) | omega)
  · clear c0 d0 c1 d1 c2 d2 c3 d3 c4 d4 cz cw hz hl hu hs
    simp only [dgB]
    simp
    try (first | rfl | ((repeat' split) <;> (first | rfl | (exfalso; omega) | omega)) | omega)

theorem put_11 (rd rs1 rs2 imm : Int) : putV (rd % 4294967296) (rs1 % 4294967296) (rs2 % 4294967296) (imm % 4294967296) [49, 48, 48, 102, 49, 48, 68, 68, 68, 101, 100, 99, 98, 97, 48, 49] 0 = 1 + 2 * 0 + 4 * (imm / 1 % 2) + 8 * (imm / 2 % 2) + 16 * (imm / 4 % 2) + 32 * (imm / 8 % 2) + 64 * (imm / 16 % 2) + 128 * (rd / 1 % 2) + 256 * (rd / 2 % 2) + 512 * (rd / 4 % 2) + 1024 * 0 + 2048 * 1 + 4096 * (imm / 32 % 2) + 8192 * 0 + 16384 * 0 + 32768 * 1 := by
  have e : putV (rd % 4294967296) (rs1 % 4294967296) (rs2 % 4294967296) (imm % 4294967296) [49, 48, 48, 102, 49, 48, 68, 68, 68, 101, 100, 99, 98, 97, 48, 49] 0 = (2 * (2 * (2 * (2 * (2 * (2 * (2 * (2 * (2 * (2 * (2 * (2 * (2 * (2 * (2 * (2 * 0 + 1) + 0) + 0) + fld (imm % 4294967296) 5 1) + 1) + 0) + fld (rd % 4294967296) 2 1) + fld (rd % 4294967296) 1 1) + fld (rd % 4294967296) 0 1) + fld (imm % 4294967296) 4 1) + fld (imm % 4294967296) 3 1) + fld (imm % 4294967296) 2 1) + fld (imm % 4294967296) 1 1) + fld (imm % 4294967296) 0 1) + 0) + 1) := rfl
  rw [e]
  clear e
  rw [fld_at imm 0 (by omega)]
  rw [fld_at imm 1 (by omega)]
  rw [fld_at imm 2 (by omega)]
  rw [fld_at imm 3 (by omega)]
  rw [fld_at imm 4 (by omega)]
  rw [fld_at imm 5 (by omega)]
  rw [fld_at rd 0 (by omega)]
  rw [fld_at rd 1 (by omega)]
  rw [fld_at rd 2 (by omega)]
  simp only [Int.reducePow]
  generalize imm / 1 % 2 = imm_0
  generalize imm / 2 % 2 = imm_1
  generalize imm / 4 % 2 = imm_2
  generalize imm / 8 % 2 = imm_3
  generalize imm / 16 % 2 = imm_4
  generalize imm / 32 % 2 = imm_5
  generalize rd / 1 % 2 = rd_0
  generalize rd / 2 % 2 = rd_1
  generalize rd / 4 % 2 = rd_2
  omega

set_option maxHeartbeats 4000000 in
theorem xexp_11 (op rd rs1 rs2 imm : Int) (hf : fitsB (⟨[99, 46, 97, 110, 100, 105], 24, 4, 7, 0, (-32), 31, 1, 0, [49, 48, 48, 102, 49, 48, 68, 68, 68, 101, 100, 99, 98, 97, 48, 49]⟩ : PR) op rd rs1 rs2 imm = true) : expI (putV (rd % 4294967296) (rs1 % 4294967296) (rs2 % 4294967296) (imm % 4294967296) [49, 48, 48, 102, 49, 48, 68, 68, 68, 101, 100, 99, 98, 97, 48, 49] 0) = ⟨op, rd, rs1, rs2, imm⟩ ∧ dgN (putV (rd % 4294967296) (rs1 % 4294967296) (rs2 % 4294967296) (imm % 4294967296) [49, 48, 48, 102, 49, 48, 68, 68, 68, 101, 100, 99, 98, 97, 48, 49] 0) = 11 := by
  simp only [fitsB, Bool.and_eq_true] at hf
  obtain ⟨ho, hm, k1, k2, k3, hz, hl, hu, hs⟩ := hf
  obtain ⟨⟨m1, m2⟩, ⟨m3, m4⟩, m5, m6⟩ := may_regs' op rd rs1 rs2 imm hm
  have ho2 : op = 24 := by simpa using ho
  subst ho2
  try simp [kindB] at k1
  try simp [kindB] at k2
  try simp [kindB] at k3
  try simp at hz
  try simp at hl
  try simp at hu
  try simp at hs
  clear hm ho
  obtain ⟨x1, x2⟩ := bits16 _ 1 0 (imm / 1 % 2) (imm / 2 % 2) (imm / 4 % 2) (imm / 8 % 2) (imm / 16 % 2) (rd / 1 % 2) (rd / 2 % 2) (rd / 4 % 2) 0 1 (imm / 32 % 2) 0 0 1 (by omega) (by omega) (by omega) (by omega) (by omega) (by omega) (by omega) (by omega) (by omega) (by omega) (by omega) (by omega) (by omega) (by omega) (by omega) (by omega) (put_11 rd rs1 rs2 imm)
  rw [x1, x2]
  clear x1 x2
  have cw : imm / 32 = -(imm / 32 % 2) := by clear m1 m2 m3 m4 m5 m6; omega
  have c0 := half2 imm 1 2 rfl (by decide)
  have d0 := bit2 imm 1
  have c1 := half2 imm 2 4 rfl (by decide)
  have d1 := bit2 imm 2
  have c2 := half2 imm 4 8 rfl (by decide)
  have d2 := bit2 imm 4
  have c3 := half2 imm 8 16 rfl (by decide)
  have d3 := bit2 imm 8
  have c4 := half2 imm 16 32 rfl (by decide)
  have d4 := bit2 imm 16
  have c5 := half2 imm 32 64 rfl (by decide)
  have d5 := bit2 imm 32
  have cz := Int.ediv_one imm
  generalize imm / 1 % 2 = i0 at *
  generalize imm / 2 % 2 = i1 at *
  generalize imm / 4 % 2 = i2 at *
  generalize imm / 8 % 2 = i3 at *
  generalize imm / 16 % 2 = i4 at *
  generalize imm / 32 % 2 = i5 at *
  generalize imm / 1 = q0 at *
  generalize imm / 2 = q1 at *
  generalize imm / 4 = q2 at *
  generalize imm / 8 = q3 at *
  generalize imm / 16 = q4 at *
  generalize imm / 32 = q5 at *
  generalize imm / 64 = q6 at *
  constructor
  · simp only [expB]
    simp
    try (first | rfl | ((repeat' split) <;> (first | rfl | (exfalso; omega) | (congr 1 <;> omega))) | (congr 1 <;> omega) | omega)
  · clear c0 d0 c1 d1 c2 d2 c3 d3 c4 d4 c5 d5 cz cw hz hl hu hs
    simp only [dgB]
    simp
    try (first | rfl | ((repeat' split) <;> (first | rfl | (exfalso; omega) | omega)) | omega)

theorem put_12 (rd rs1 rs2 imm : Int) : putV (rd % 4294967296) (rs1 % 4294967296) (rs2 % 4294967296) (imm % 4294967296) [49, 48, 48, 48, 49, 49, 68, 68, 68, 48, 48, 84, 84, 84, 48, 49] 0 = 1 + 2 * 0 + 4 * (rs2 / 1 % 2) + 8 * (rs2 / 2 % 2) + 16 * (rs2 / 4 % 2) + 32 * 0 + 64 * 0 + 128 * (rd / 1 % 2) + 256 * (rd / 2 % 2) + 512 * (rd / 4 % 2) + 1024 * 1 + 2048 * 1 + 4096 * 0 + 8192 * 0 + 16384 * 0 + 32768 * 1 := by
  have e : putV (rd % 4294967296) (rs1 % 4294967296) (rs2 % 4294967296) (imm % 4294967296) [49, 48, 48, 48, 49, 49, 68, 68, 68, 48, 48, 84, 84, 84, 48, 49] 0 = (2 * (2 * (2 * (2 * (2 * (2 * (2 * (2 * (2 * (2 * (2 * (2 * (2 * (2 * (2 * (2 * 0 + 1) + 0) + 0) + 0) + 1) + 1) + fld (rd % 4294967296) 2 1) + fld (rd % 4294967296) 1 1) + fld (rd % 4294967296) 0 1) + 0) + 0) + fld (rs2 % 4294967296) 2 1) + fld (rs2 % 4294967296) 1 1) + fld (rs2 % 4294967296) 0 1) + 0) + 1) := rfl
  rw [e]
  clear e
  rw [fld_at rd 0 (by omega)]
  rw [fld_at rd 1 (by omega)]
  rw [fld_at rd 2 (by omega)]
  rw [fld_at rs2 0 (by omega)]
  rw [fld_at rs2 1 (by omega)]
  rw [fld_at rs2 2 (by omega)]
  simp only [Int.reducePow]
  generalize rd / 1 % 2 = rd_0
  generalize rd / 2 % 2 = rd_1
  generalize rd / 4 % 2 = rd_2
  generalize rs2 / 1 % 2 = rs2_0
  generalize rs2 / 2 % 2 = rs2_1
  generalize rs2 / 4 % 2 = rs2_2
  omega

set_option maxHeartbeats 4000000 in
theorem xexp_12 (op rd rs1 rs2 imm : Int) (hf : fitsB (⟨[99, 46, 115, 117, 98], 29, 4, 7, 4, 0, 0, 1, 0, [49, 48, 48, 48, 49, 49, 68, 68, 68, 48, 48, 84, 84, 84, 48, 49]⟩ : PR) op rd rs1 rs2 imm = true) : expI (putV (rd % 4294967296) (rs1 % 4294967296) (rs2 % 4294967296) (imm % 4294967296) [49, 48, 48, 48, 49, 49, 68, 68, 68, 48, 48, 84, 84, 84, 48, 49] 0) = ⟨op, rd, rs1, rs2, imm⟩ ∧ dgN (putV (rd % 4294967296) (rs1 % 4294967296) (rs2 % 4294967296) (imm % 4294967296) [49, 48, 48, 48, 49, 49, 68, 68, 68, 48, 48, 84, 84, 84, 48, 49] 0) = 12 := by
  simp only [fitsB, Bool.and_eq_true] at hf
  obtain ⟨ho, hm, k1, k2, k3, hz, hl, hu, hs⟩ := hf
  obtain ⟨⟨m1, m2⟩, ⟨m3, m4⟩, m5, m6⟩ := may_regs' op rd rs1 rs2 imm hm
  have ho2 : op = 29 := by simpa using ho
  subst ho2
  try simp [kindB] at k1
  try simp [kindB] at k2
  try simp [kindB] at k3
  try simp at hz
  try simp at hl
  try simp at hu
  try simp at hs
  clear hm ho
  obtain ⟨x1, x2⟩ := bits16 _ 1 0 (rs2 / 1 % 2) (rs2 / 2 % 2) (rs2 / 4 % 2) 0 0 (rd / 1 % 2) (rd / 2 % 2) (rd / 4 % 2) 1 1 0 0 0 1 (by omega) (by omega) (by omega) (by omega) (by omega) (by omega) (by omega) (by omega) (by omega) (by omega) (by omega) (by omega) (by omega) (by omega) (by omega) (by omega) (put_12 rd rs1 rs2 imm)
  rw [x1, x2]
  clear x1 x2
  constructor
  · simp only [expB]
    simp
    try (first | rfl | ((repeat' split) <;> (first | rfl | (exfalso; omega) | (congr 1 <;> omega))) | (congr 1 <;> omega) | omega)
  · simp only [dgB]
    simp
    try (first | rfl | ((repeat' split) <;> (first | rfl | (exfalso; omega) | omega)) | omega)

theorem put_13 (rd rs1 rs2 imm : Int) : putV (rd % 4294967296) (rs1 % 4294967296) (rs2 % 4294967296) (imm % 4294967296) [49, 48, 48, 48, 49, 49, 68, 68, 68, 48, 49, 84, 84, 84, 48, 49] 0 = 1 + 2 * 0 + 4 * (rs2 / 1 % 2) + 8 * (rs2 / 2 % 2) + 16 * (rs2 / 4 % 2) + 32 * 1 + 64 * 0 + 128 * (rd / 1 % 2) + 256 * (rd / 2 % 2) + 512 * (rd / 4 % 2) + 1024 * 1 + 2048 * 1 + 4096 * 0 + 8192 * 0 + 16384 * 0 + 32768 * 1 := by
  have e : putV (rd % 4294967296) (rs1 % 4294967296) (rs2 % 4294967296) (imm % 4294967296) [49, 48, 48, 48, 49, 49, 68, 68, 68, 48, 49, 84, 84, 84, 48, 49] 0 = (2 * (2 * (2 * (2 * (2 * (2 * (2 * (2 * (2 * (2 * (2 * (2 * (2 * (2 * (2 * (2 * 0 + 1) + 0) + 0) + 0) + 1) + 1) + fld (rd % 4294967296) 2 1) + fld (rd % 4294967296) 1 1) + fld (rd % 4294967296) 0 1) + 0) + 1) + fld (rs2 % 4294967296) 2 1) + fld (rs2 % 4294967296) 1 1) + fld (rs2 % 4294967296) 0 1) + 0) + 1) := rfl
  rw [e]
  clear e
  rw [fld_at rd 0 (by omega)]
  rw [fld_at rd 1 (by omega)]
  rw [fld_at rd 2 (by omega)]
  rw [fld_at rs2 0 (by omega)]
  rw [fld_at rs2 1 (by omega)]
  rw [fld_at rs2 2 (by omega)]
  simp only [Int.reducePow]
  generalize rd / 1 % 2 = rd_0
  generalize rd / 2 % 2 = rd_1
  generalize rd / 4 % 2 = rd_2
  generalize rs2 / 1 % 2 = rs2_0
  generalize rs2 / 2 % 2 = rs2_1
  generalize rs2 / 4 % 2 = rs2_2
  omega

set_option maxHeartbeats 4000000 in
theorem xexp_13 (op rd rs1 rs2 imm : Int) (hf : fitsB (⟨[99, 46, 120, 111, 114], 33, 4, 7, 4, 0, 0, 1, 0, [49, 48, 48, 48, 49, 49, 68, 68, 68, 48, 49, 84, 84, 84, 48, 49]⟩ : PR) op rd rs1 rs2 imm = true) : expI (putV (rd % 4294967296) (rs1 % 4294967296) (rs2 % 4294967296) (imm % 4294967296) [49, 48, 48, 48, 49, 49, 68, 68, 68, 48, 49, 84, 84, 84, 48, 49] 0) = ⟨op, rd, rs1, rs2, imm⟩ ∧ dgN (putV (rd % 4294967296) (rs1 % 4294967296) (rs2 % 4294967296) (imm % 4294967296) [49, 48, 48, 48, 49, 49, 68, 68, 68, 48, 49, 84, 84, 84, 48, 49] 0) = 13 := by
  simp only [fitsB, Bool.and_eq_true] at hf
  obtain ⟨ho, hm, k1, k2, k3, hz, hl, hu, hs⟩ := hf
  obtain ⟨⟨m1, m2⟩, ⟨m3, m4⟩, m5, m6⟩ := may_regs' op rd rs1 rs2 imm hm
  have ho2 : op = 33 := by simpa using ho
  subst ho2
  try simp [kindB] at k1
  try simp [kindB] at k2
  try simp [kindB] at k3
  try simp at hz
  try simp at hl
  try simp at hu
  try simp at hs
  clear hm ho
  obtain ⟨x1, x2⟩ := bits16 _ 1 0 (rs2 / 1 % 2) (rs2 / 2 % 2) (rs2 / 4 % 2) 1 0 (rd / 1 % 2) (rd / 2 % 2) (rd / 4 % 2) 1 1 0 0 0 1 (by omega) (by omega) (by omega) (by omega) (by omega) (by omega) (by omega) (by omega) (by omega) (by omega) (by omega) (by omega) (by omega) (by omega) (by omega) (by omega) (put_13 rd rs1 rs2 imm)
  rw [x1, x2]
  clear x1 x2
  constructor
  · simp only [expB]
    simp
    try (first | rfl | ((repeat' split) <;> (first | rfl | (exfalso; omega) | (congr 1 <;> omega))) | (congr 1 <;> omega) | omega)
  · simp only [dgB]
    simp
    try (first | rfl | ((repeat' split) <;> (first | rfl | (exfalso; omega) | omega)) | omega)

theorem put_14 (rd rs1 rs2 imm : Int) : putV (rd % 4294967296) (rs1 % 4294967296) (rs2 % 4294967296) (imm % 4294967296) [49, 48, 48, 48, 49, 49, 68, 68, 68, 49, 48, 84, 84, 84, 48, 49] 0 = 1 + 2 * 0 + 4 * (rs2 / 1 % 2) + 8 * (rs2 / 2 % 2) + 16 * (rs2 / 4 % 2) + 32 * 0 + 64 * 1 + 128 * (rd / 1 % 2) + 256 * (rd / 2 % 2) + 512 * (rd / 4 % 2) + 1024 * 1 + 2048 * 1 + 4096 * 0 + 8192 * 0 + 16384 * 0 + 32768 * 1 := by
  have e : putV (rd % 4294967296) (rs1 % 4294967296) (rs2 % 4294967296) (imm % 4294967296) [49, 48, 48, 48, 49, 49, 68, 68, 68, 49, 48, 84, 84, 84, 48, 49] 0 = (2 * (2 * (2 * (2 * (2 * (2 * (2 * (2 * (2 * (2 * (2 * (2 * (2 * (2 * (2 * (2 * 0 + 1) + 0) + 0) + 0) + 1) + 1) + fld (rd % 4294967296) 2 1) + fld (rd % 4294967296) 1 1) + fld (rd % 4294967296) 0 1) + 1) + 0) + fld (rs2 % 4294967296) 2 1) + fld (rs2 % 4294967296) 1 1) + fld (rs2 % 4294967296) 0 1) + 0) + 1) := rfl
  rw [e]
  clear e
  rw [fld_at rd 0 (by omega)]
  rw [fld_at rd 1 (by omega)]
  rw [fld_at rd 2 (by omega)]
  rw [fld_at rs2 0 (by omega)]
  rw [fld_at rs2 1 (by omega)]
  rw [fld_at rs2 2 (by omega)]
  simp only [Int.reducePow]
  generalize rd / 1 % 2 = rd_0
  generalize rd / 2 % 2 = rd_1
  generalize rd / 4 % 2 = rd_2
  generalize rs2 / 1 % 2 = rs2_0
  generalize rs2 / 2 % 2 = rs2_1
  generalize rs2 / 4 % 2 = rs2_2
  omega

set_option maxHeartbeats 4000000 in
theorem xexp_14 (op rd rs1 rs2 imm : Int) (hf : fitsB (⟨[99, 46, 111, 114], 36, 4, 7, 4, 0, 0, 1, 0, [49, 48, 48, 48, 49, 49, 68, 68, 68, 49, 48, 84, 84, 84, 48, 49]⟩ : PR) op rd rs1 rs2 imm = true) : expI (putV (rd % 4294967296) (rs1 % 4294967296) (rs2 % 4294967296) (imm % 4294967296) [49, 48, 48, 48, 49, 49, 68, 68, 68, 49, 48, 84, 84, 84, 48, 49] 0) = ⟨op, rd, rs1, rs2, imm⟩ ∧ dgN (putV (rd % 4294967296) (rs1 % 4294967296) (rs2 % 4294967296) (imm % 4294967296) [49, 48, 48, 48, 49, 49, 68, 68, 68, 49, 48, 84, 84, 84, 48, 49] 0) = 14 := by
  simp only [fitsB, Bool.and_eq_true] at hf
  obtain ⟨ho, hm, k1, k2, k3, hz, hl, hu, hs⟩ := hf
  obtain ⟨⟨m1, m2⟩, ⟨m3, m4⟩, m5, m6⟩ := may_regs' op rd rs1 rs2 imm hm
  have ho2 : op = 36 := by simpa using ho
  subst ho2
  try simp [kindB] at k1
  try simp [kindB] at k2
  try simp [kindB] at k3
  try simp at hz
  try simp at hl
  try simp at hu
  try simp at hs
  clear hm ho
  obtain ⟨x1, x2⟩ := bits16 _ 1 0 (rs2 / 1 % 2) (rs2 / 2 % 2) (rs2 / 4 % 2) 0 1 (rd / 1 % 2) (rd / 2 % 2) (rd / 4 % 2) 1 1 0 0 0 1 (by omega) (by omega) (by omega) (by omega) (by omega) (by omega) (by omega) (by omega) (by omega) (by omega) (by omega) (by omega) (by omega) (by omega) (by omega) (by omega) (put_14 rd rs1 rs2 imm)
  rw [x1, x2]
  clear x1 x2
  constructor
  · simp only [expB]
    simp
    try (first | rfl | ((repeat' split) <;> (first | rfl | (exfalso; omega) | (congr 1 <;> omega))) | (congr 1 <;> omega) | omega)
  · simp only [dgB]
    simp
    try (first | rfl | ((repeat' split) <;> (first | rfl | (exfalso; omega) | omega)) | omega)

theorem put_15 (rd rs1 rs2 imm : Int) : putV (rd % 4294967296) (rs1 % 4294967296) (rs2 % 4294967296) (imm % 4294967296) [49, 48, 48, 48, 49, 49, 68, 68, 68, 49, 49, 84, 84, 84, 48, 49] 0 = 1 + 2 * 0 + 4 * (rs2 / 1 % 2) + 8 * (rs2 / 2 % 2) + 16 * (rs2 / 4 % 2) + 32 * 1 + 64 * 1 + 128 * (rd / 1 % 2) + 256 * (rd / 2 % 2) + 512 * (rd / 4 % 2) + 1024 * 1 + 2048 * 1 + 4096 * 0 + 8192 * 0 + 16384 * 0 + 32768 * 1 := by
  have e : putV (rd % 4294967296) (rs1 % 4294967296) (rs2 % 4294967296) (imm % 4294967296) [49, 48, 48, 48, 49, 49, 68, 68, 68, 49, 49, 84, 84, 84, 48, 49] 0 = (2 * (2 * (2 * (2 * (2 * (2 * (2 * (2 * (2 * (2 * (2 * (2 * (2 * (2 * (2 * (2 * 0 + 1) + 0) + 0) + 0) + 1) + 1) + fld (rd % 4294967296) 2 1) + fld (rd % 4294967296) 1 1) + fld (rd % 4294967296) 0 1) + 1) + 1) + fld (rs2 % 4294967296) 2 1) + fld (rs2 % 4294967296) 1 1) + fld (rs2 % 4294967296) 0 1) + 0) + 1) := rfl
  rw [e]
  clear e
  rw [fld_at rd 0 (by omega)]
  rw [fld_at rd 1 (by omega)]
  rw [fld_at rd 2 (by omega)]
  rw [fld_at rs2 0 (by omega)]
  rw [fld_at rs2 1 (by omega)]
  rw [fld_at rs2 2 (by omega)]
  simp only [Int.reducePow]
  generalize rd / 1 % 2 = rd_0
  generalize rd / 2 % 2 = rd_1
  generalize rd / 4 % 2 = rd_2
  generalize rs2 / 1 % 2 = rs2_0
  generalize rs2 / 2 % 2 = rs2_1
  generalize rs2 / 4 % 2 = rs2_2
  omega

set_option maxHeartbeats 4000000 in
theorem xexp_15 (op rd rs1 rs2 imm : Int) (hf : fitsB (⟨[99, 46, 97, 110, 100], 37, 4, 7, 4, 0, 0, 1, 0, [49, 48, 48, 48, 49, 49, 68, 68, 68, 49, 49, 84, 84, 84, 48, 49]⟩ : PR) op rd rs1 rs2 imm = true) : expI (putV (rd % 4294967296) (rs1 % 4294967296) (rs2 % 4294967296) (imm % 4294967296) [49, 48, 48, 48, 49, 49, 68, 68, 68, 49, 49, 84, 84, 84, 48, 49] 0) = ⟨op, rd, rs1, rs2, imm⟩ ∧ dgN (putV (rd % 4294967296) (rs1 % 4294967296) (rs2 % 4294967296) (imm % 4294967296) [49, 48, 48, 48, 49, 49, 68, 68, 68, 49, 49, 84, 84, 84, 48, 49] 0) = 15 := by
  simp only [fitsB, Bool.and_eq_true] at hf
  obtain ⟨ho, hm, k1, k2, k3, hz, hl, hu, hs⟩ := hf
  obtain ⟨⟨m1, m2⟩, ⟨m3, m4⟩, m5, m6⟩ := may_regs' op rd rs1 rs2 imm hm
  have ho2 : op = 37 := by simpa using ho
  subst ho2
  try simp [kindB] at k1
  try simp [kindB] at k2
  try simp [kindB] at k3
  try simp at hz
  try simp at hl
  try simp at hu
  try simp at hs
  clear hm ho
  obtain ⟨x1, x2⟩ := bits16 _ 1 0 (rs2 / 1 % 2) (rs2 / 2 % 2) (rs2 / 4 % 2) 1 1 (rd / 1 % 2) (rd / 2 % 2) (rd / 4 % 2) 1 1 0 0 0 1 (by omega) (by omega) (by omega) (by omega) (by omega) (by omega) (by omega) (by omega) (by omega) (by omega) (by omega) (by omega) (by omega) (by omega) (by omega) (by omega) (put_15 rd rs1 rs2 imm)
  rw [x1, x2]
  clear x1 x2
  constructor
  · simp only [expB]
    simp
    try (first | rfl | ((repeat' split) <;> (first | rfl | (exfalso; omega) | (congr 1 <;> omega))) | (congr 1 <;> omega) | omega)
  · simp only [dgB]
    simp
    try (first | rfl | ((repeat' split) <;> (first | rfl | (exfalso; omega) | omega)) | omega)

theorem put_16 (rd rs1 rs2 imm : Int) : putV (rd % 4294967296) (rs1 % 4294967296) (rs2 % 4294967296) (imm % 4294967296) [49, 48, 49, 108, 101, 106, 105, 107, 103, 104, 100, 99, 98, 102, 48, 49] 0 = 1 + 2 * 0 + 4 * (imm / 32 % 2) + 8 * (imm / 2 % 2) + 16 * (imm / 4 % 2) + 32 * (imm / 8 % 2) + 64 * (imm / 128 % 2) + 128 * (imm / 64 % 2) + 256 * (imm / 1024 % 2) + 512 * (imm / 256 % 2) + 1024 * (imm / 512 % 2) + 2048 * (imm / 16 % 2) + 4096 * (imm / 2048 % 2) + 8192 * 1 + 16384 * 0 + 32768 * 1 := by
  have e : putV (rd % 4294967296) (rs1 % 4294967296) (rs2 % 4294967296) (imm % 4294967296) [49, 48, 49, 108, 101, 106, 105, 107, 103, 104, 100, 99, 98, 102, 48, 49] 0 = (2 * (2 * (2 * (2 * (2 * (2 * (2 * (2 * (2 * (2 * (2 * (2 * (2 * (2 * (2 * (2 * 0 + 1) + 0) + 1) + fld (imm % 4294967296) 11 1) + fld (imm % 4294967296) 4 1) + fld (imm % 4294967296) 9 1) + fld (imm % 4294967296) 8 1) + fld (imm % 4294967296) 10 1) + fld (imm % 4294967296) 6 1) + fld (imm % 4294967296) 7 1) + fld (imm % 4294967296) 3 1) + fld (imm % 4294967296) 2 1) + fld (imm % 4294967296) 1 1) + fld (imm % 4294967296) 5 1) + 0) + 1) := rfl
  rw [e]
  clear e
  rw [fld_at imm 1 (by omega)]
  rw [fld_at imm 2 (by omega)]
  rw [fld_at imm 3 (by omega)]
  rw [fld_at imm 4 (by omega)]
  rw [fld_at imm 5 (by omega)]
  rw [fld_at imm 6 (by omega)]
  rw [fld_at imm 7 (by omega)]
  rw [fld_at imm 8 (by omega)]
  rw [fld_at imm 9 (by omega)]
  rw [fld_at imm 10 (by omega)]
  rw [fld_at imm 11 (by omega)]
  simp only [Int.reducePow]
  generalize imm / 2 % 2 = imm_1
  generalize imm / 4 % 2 = imm_2
  generalize imm / 8 % 2 = imm_3
  generalize imm / 16 % 2 = imm_4
  generalize imm / 32 % 2 = imm_5
  generalize imm / 64 % 2 = imm_6
  generalize imm / 128 % 2 = imm_7
  generalize imm / 256 % 2 = imm_8
  generalize imm / 512 % 2 = imm_9
  generalize imm / 1024 % 2 = imm_10
  generalize imm / 2048 % 2 = imm_11
  omega

set_option maxHeartbeats 4000000 in
theorem xexp_16 (op rd rs1 rs2 imm : Int) (hf : fitsB (⟨[99, 46, 106], 3, 0, 0, 0, (-2048), 2046, 2, 0, [49, 48, 49, 108, 101, 106, 105, 107, 103, 104, 100, 99, 98, 102, 48, 49]⟩ : PR) op rd rs1 rs2 imm = true) : expI (putV (rd % 4294967296) (rs1 % 4294967296) (rs2 % 4294967296) (imm % 4294967296) [49, 48, 49, 108, 101, 106, 105, 107, 103, 104, 100, 99, 98, 102, 48, 49] 0) = ⟨op, rd, rs1, rs2, imm⟩ ∧ dgN (putV (rd % 4294967296) (rs1 % 4294967296) (rs2 % 4294967296) (imm % 4294967296) [49, 48, 49, 108, 101, 106, 105, 107, 103, 104, 100, 99, 98, 102, 48, 49] 0) = 16 := by
  simp only [fitsB, Bool.and_eq_true] at hf
  obtain ⟨ho, hm, k1, k2, k3, hz, hl, hu, hs⟩ := hf
  obtain ⟨⟨m1, m2⟩, ⟨m3, m4⟩, m5, m6⟩ := may_regs' op rd rs1 rs2 imm hm
  have ho2 : op = 3 := by simpa using ho
  subst ho2
  try simp [kindB] at k1
  try simp [kindB] at k2
  try simp [kindB] at k3
  try simp at hz
  try simp at hl
  try simp at hu
  try simp at hs
  clear hm ho
  obtain ⟨x1, x2⟩ := bits16 _ 1 0 (imm / 32 % 2) (imm / 2 % 2) (imm / 4 % 2) (imm / 8 % 2) (imm / 128 % 2) (imm / 64 % 2) (imm / 1024 % 2) (imm / 256 % 2) (imm / 512 % 2) (imm / 16 % 2) (imm / 2048 % 2) 1 0 1 (by omega) (by omega) (by omega) (by omega) (by omega) (by omega) (by omega) (by omega) (by omega) (by omega) (by omega) (by omega) (by omega) (by omega) (by omega) (by omega) (put_16 rd rs1 rs2 imm)
  rw [x1, x2]
  clear x1 x2
  have cw : imm / 2048 = -(imm / 2048 % 2) := by clear m1 m2 m3 m4 m5 m6; omega
  have cl0 : imm / 1 % 2 = 0 := by clear m1 m2 m3 m4 m5 m6 cw; omega
  have c0 := half2 imm 1 2 rfl (by decide)
  have d0 := bit2 imm 1
  have c1 := half2 imm 2 4 rfl (by decide)
  have d1 := bit2 imm 2
  have c2 := half2 imm 4 8 rfl (by decide)
  have d2 := bit2 imm 4
  have c3 := half2 imm 8 16 rfl (by decide)
  have d3 := bit2 imm 8
  have c4 := half2 imm 16 32 rfl (by decide)
  have d4 := bit2 imm 16
  have c5 := half2 imm 32 64 rfl (by decide)
  have d5 := bit2 imm 32
  have c6 := half2 imm 64 128 rfl (by decide)
  have d6 := bit2 imm 64
  have c7 := half2 imm 128 256 rfl (by decide)
  have d7 := bit2 imm 128
  have c8 := half2 imm 256 512 rfl (by decide)
  have d8 := bit2 imm 256
  have c9 := half2 imm 512 1024 rfl (by decide)
  have d9 := bit2 imm 512
  have c10 := half2 imm 1024 2048 rfl (by decide)
  have d10 := bit2 imm 1024
  have c11 := half2 imm 2048 4096 rfl (by decide)
  have d11 := bit2 imm 2048
  have cz := Int.ediv_one imm
  generalize imm / 1 % 2 = i0 at *
  generalize imm / 2 % 2 = i1 at *
  generalize imm / 4 % 2 = i2 at *
  generalize imm / 8 % 2 = i3 at *
  generalize imm / 16 % 2 = i4 at *
  generalize imm / 32 % 2 = i5 at *
  generalize imm / 64 % 2 = i6 at *
  generalize imm / 128 % 2 = i7 at *
  generalize imm / 256 % 2 = i8 at *
  generalize imm / 512 % 2 = i9 at *
  generalize imm / 1024 % 2 = i10 at *
  generalize imm / 2048 % 2 = i11 at *
  generalize imm / 1 = q0 at *
  generalize imm / 2 = q1 at *
  generalize imm / 4 = q2 at *
  generalize imm / 8 = q3 at *
  generalize imm / 16 = q4 at *
  generalize imm / 32 = q5 at *
  generalize imm / 64 = q6 at *
  generalize imm / 128 = q7 at *
  generalize imm / 256 = q8 at *
  generalize imm / 512 = q9 at *
  generalize imm / 1024 = q10 at *
  generalize imm / 2048 = q11 at *
  generalize imm / 4096 = q12 at *
  constructor
  · simp only [expB]
    simp
    try (first | rfl | ((repeat' split) <;> (first | rfl | (exfalso; omega) | (congr 1 <;> omega))) | (congr 1 <;> omega) | omega)
  · clear c0 d0 c1 d1 c2 d2 c3 d3 c4 d4 c5 d5 c6 d6 c7 d7 c8 d8 c9 d9 c10 d10 c11 d11 cz cw cl0 hz hl hu hs
    simp only [dgB]
    simp
    try (first | rfl | ((repeat' split) <;> (first | rfl | (exfalso; omega) | omega)) | omega)

theorem put_17 (rd rs1 rs2 imm : Int) : putV (rd % 4294967296) (rs1 % 4294967296) (rs2 % 4294967296) (imm % 4294967296) [49, 49, 48, 105, 101, 100, 83, 83, 83, 104, 103, 99, 98, 102, 48, 49] 0 = 1 + 2 * 0 + 4 * (imm / 32 % 2) + 8 * (imm / 2 % 2) + 16 * (imm / 4 % 2) + 32 * (imm / 64 % 2) + 64 * (imm / 128 % 2) + 128 * (rs1 / 1 % 2) + 256 * (rs1 / 2 % 2) + 512 * (rs1 / 4 % 2) + 1024 * (imm / 8 % 2) + 2048 * (imm / 16 % 2) + 4096 * (imm / 256 % 2) + 8192 * 0 + 16384 * 1 + 32768 * 1 := by
  have e : putV (rd % 4294967296) (rs1 % 4294967296) (rs2 % 4294967296) (imm % 4294967296) [49, 49, 48, 105, 101, 100, 83, 83, 83, 104, 103, 99, 98, 102, 48, 49] 0 = (2 * (2 * (2 * (2 * (2 * (2 * (2 * (2 * (2 * (2 * (2 * (2 * (2 * (2 * (2 * (2 * 0 + 1) + 1) + 0) + fld (imm % 4294967296) 8 1) + fld (imm % 4294967296) 4 1) + fld (imm % 4294967296) 3 1) + fld (rs1 % 4294967296) 2 1) + fld (rs1 % 4294967296) 1 1) + fld (rs1 % 4294967296) 0 1) + fld (imm % 4294967296) 7 1) + fld (imm % 4294967296) 6 1) + fld (imm % 4294967296) 2 1) + fld (imm % 4294967296) 1 1) + fld (imm % 4294967296) 5 1) + 0) + 1) := rfl
  rw [e]
  clear e
  rw [fld_at imm 1 (by omega)]
  rw [fld_at imm 2 (by omega)]
  rw [fld_at imm 3 (by omega)]
  rw [fld_at imm 4 (by omega)]
  rw [fld_at imm 5 (by omega)]
  rw [fld_at imm 6 (by omega)]
  rw [fld_at imm 7 (by omega)]
  rw [fld_at imm 8 (by omega)]
  rw [fld_at rs1 0 (by omega)]
  rw [fld_at rs1 1 (by omega)]
  rw [fld_at rs1 2 (by omega)]
  simp only [Int.reducePow]
  generalize imm / 2 % 2 = imm_1
  generalize imm / 4 % 2 = imm_2
  generalize imm / 8 % 2 = imm_3
  generalize imm / 16 % 2 = imm_4
  generalize imm / 32 % 2 = imm_5
  generalize imm / 64 % 2 = imm_6
  generalize imm / 128 % 2 = imm_7
  generalize imm / 256 % 2 = imm_8
  generalize rs1 / 1 % 2 = rs1_0
  generalize rs1 / 2 % 2 = rs1_1
  generalize rs1 / 4 % 2 = rs1_2
  omega

set_option maxHeartbeats 4000000 in
theorem xexp_17 (op rd rs1 rs2 imm : Int) (hf : fitsB (⟨[99, 46, 98, 101, 113, 122], 5, 0, 4, 0, (-256), 254, 2, 0, [49, 49, 48, 105, 101, 100, 83, 83, 83, 104, 103, 99, 98, 102, 48, 49]⟩ : PR) op rd rs1 rs2 imm = true) : expI (putV (rd % 4294967296) (rs1 % 4294967296) (rs2 % 4294967296) (imm % 4294967296) [49, 49, 48, 105, 101, 100, 83, 83, 83, 104, 103, 99, 98, 102, 48, 49] 0) = ⟨op, rd, rs1, rs2, imm⟩ ∧ dgN (putV (rd % 4294967296) (rs1 % 4294967296) (rs2 % 4294967296) (imm % 4294967296) [49, 49, 48, 105, 101, 100, 83, 83, 83, 104, 103, 99, 98, 102, 48, 49] 0) = 17 := by
  simp only [fitsB, Bool.and_eq_true] at hf
  obtain ⟨ho, hm, k1, k2, k3, hz, hl, hu, hs⟩ := hf
  obtain ⟨⟨m1, m2⟩, ⟨m3, m4⟩, m5, m6⟩ := may_regs' op rd rs1 rs2 imm hm
  have ho2 : op = 5 := by simpa using ho
  subst ho2
  try simp [kindB] at k1
  try simp [kindB] at k2
  try simp [kindB] at k3
  try simp at hz
  try simp at hl
  try simp at hu
  try simp at hs
  clear hm ho
  obtain ⟨x1, x2⟩ := bits16 _ 1 0 (imm / 32 % 2) (imm / 2 % 2) (imm / 4 % 2) (imm / 64 % 2) (imm / 128 % 2) (rs1 / 1 % 2) (rs1 / 2 % 2) (rs1 / 4 % 2) (imm / 8 % 2) (imm / 16 % 2) (imm / 256 % 2) 0 1 1 (by omega) (by omega) (by omega) (by omega) (by omega) (by omega) (by omega) (by omega) (by omega) (by omega) (by omega) (by omega) (by omega) (by omega) (by omega) (by omega) (put_17 rd rs1 rs2 imm)
  rw [x1, x2]
  clear x1 x2
  have cw : imm / 256 = -(imm / 256 % 2) := by clear m1 m2 m3 m4 m5 m6; omega
  have cl0 : imm / 1 % 2 = 0 := by clear m1 m2 m3 m4 m5 m6 cw; omega
  have c0 := half2 imm 1 2 rfl (by decide)
  have d0 := bit2 imm 1
  have c1 := half2 imm 2 4 rfl (by decide)
  have d1 := bit2 imm 2
  have c2 := half2 imm 4 8 rfl (by decide)
  have d2 := bit2 imm 4
  have c3 := half2 imm 8 16 rfl (by decide)
  have d3 := bit2 imm 8
  have c4 := half2 imm 16 32 rfl (by decide)
  have d4 := bit2 imm 16
  have c5 := half2 imm 32 64 rfl (by decide)
  have d5 := bit2 imm 32
  have c6 := half2 imm 64 128 rfl (by decide)
  have d6 := bit2 imm 64
  have c7 := half2 imm 128 256 rfl (by decide)
  have d7 := bit2 imm 128
  have c8 := half2 imm 256 512 rfl (by decide)
  have d8 := bit2 imm 256
  have cz := Int.ediv_one imm
  generalize imm / 1 % 2 = i0 at *
  generalize imm / 2 % 2 = i1 at *
  generalize imm / 4 % 2 = i2 at *
  generalize imm / 8 % 2 = i3 at *
  generalize imm / 16 % 2 = i4 at *
  generalize imm / 32 % 2 = i5 at *
  generalize imm / 64 % 2 = i6 at *
  generalize imm / 128 % 2 = i7 at *
  generalize imm / 256 % 2 = i8 at *
  generalize imm / 1 = q0 at *
  generalize imm / 2 = q1 at *
  generalize imm / 4 = q2 at *
  generalize imm / 8 = q3 at *
  generalize imm / 16 = q4 at *
  generalize imm / 32 = q5 at *
  generalize imm / 64 = q6 at *
  generalize imm / 128 = q7 at *
  generalize imm / 256 = q8 at *
  generalize imm / 512 = q9 at *
  constructor
  · simp only [expB]
    simp
    try (first | rfl | ((repeat' split) <;> (first | rfl | (exfalso; omega) | (congr 1 <;> omega))) | (congr 1 <;> omega) | omega)
  · clear c0 d0 c1 d1 c2 d2 c3 d3 c4 d4 c5 d5 c6 d6 c7 d7 c8 d8 cz cw cl0 hz hl hu hs
    simp only [dgB]
    simp
    try (first | rfl | ((repeat' split) <;> (first | rfl | (exfalso; omega) | omega)) | omega)

end Go.Proofs.Ytppnmaklggkogaa

