/- Parts of the proof, one behind the other. -/
import Derived.Test.YtppnmaklggkogaaZaf
import Derived.Test.YtppnmaklggkogaaZag
import Derived.Test.YtppnmaklggkogaaZam
/- Plain: row by row, a parcel that is put is expanded to its instruction. -/
namespace Go.Proofs.Ytppnmaklggkogaa
open Go.RowKit
set_option linter.unusedVariables false
set_option linter.unusedSimpArgs false

theorem put_18 (rd rs1 rs2 imm : Int) : putV (rd % 4294967296) (rs1 % 4294967296) (rs2 % 4294967296) (imm % 4294967296) [49, 49, 49, 105, 101, 100, 83, 83, 83, 104, 103, 99, 98, 102, 48, 49] 0 = 1 + 2 * 0 + 4 * (imm / 32 % 2) + 8 * (imm / 2 % 2) + 16 * (imm / 4 % 2) + 32 * (imm / 64 % 2) + 64 * (imm / 128 % 2) + 128 * (rs1 / 1 % 2) + 256 * (rs1 / 2 % 2) + 512 * (rs1 / 4 % 2) + 1024 * (imm / 8 % 2) + 2048 * (imm / 16 % 2) + 4096 * (imm / 256 % 2) + 8192 * 1 + 16384 * 1 + 32768 * 1 := by
  have e : putV (rd % 4294967296) (rs1 % 4294967296) (rs2 % 4294967296) (imm % 4294967296) [49, 49, 49, 105, 101, 100, 83, 83, 83, 104, 103, 99, 98, 102, 48, 49] 0 = (2 * (2 * (2 * (2 * (2 * (2 * (2 * (2 * (2 * (2 * (2 * (2 * (2 * (2 * (2 * (2 * 0 + 1) + 1) + 1) + fld (imm % 4294967296) 8 1) + fld (imm % 4294967296) 4 1) + fld (imm % 4294967296) 3 1) + fld (rs1 % 4294967296) 2 1) + fld (rs1 % 4294967296) 1 1) + fld (rs1 % 4294967296) 0 1) + fld (imm % 4294967296) 7 1) + fld (imm % 4294967296) 6 1) + fld (imm % 4294967296) 2 1) + fld (imm % 4294967296) 1 1) + fld (imm % 4294967296) 5 1) + 0) + 1) := rfl
  rw [e]
  clear e
  rw [fld_at imm 1 (by omega)]
  rw [fld_at imm 2 (by omega)]
  rw [fld_at imm 3 (by omega)]
  rw [fld_at imm 4 (by omega)]
  rw [fld_at imm 5 (by omega)]
  rw [fld_at imm 6 (by omega)]
  rw [fld_at imm 7 (by omega)]
  rw [fld_at imm 8 (by omega)]
  rw [fld_at rs1 0 (by omega)]
  rw [fld_at rs1 1 (by omega)]
  rw [fld_at rs1 2 (by omega)]
  simp only [Int.reducePow]
  generalize imm / 2 % 2 = imm_1
  generalize imm / 4 % 2 = imm_2
  generalize imm / 8 % 2 = imm_3
  generalize imm / 16 % 2 = imm_4
  generalize imm / 32 % 2 = imm_5
  generalize imm / 64 % 2 = imm_6
  generalize imm / 128 % 2 = imm_7
  generalize imm / 256 % 2 = imm_8
  generalize rs1 / 1 % 2 = rs1_0
  generalize rs1 / 2 % 2 = rs1_1
  generalize rs1 / 4 % 2 = rs1_2
  omega

set_option maxHeartbeats 4000000 in
theorem xexp_18 (op rd rs1 rs2 imm : Int) (hf : fitsB (⟨[99, 46, 98, 110, 101, 122], 6, 0, 4, 0, (-256), 254, 2, 0, [49, 49, 49, 105, 101, 100, 83, 83, 83, 104, 103, 99, 98, 102, 48, 49]⟩ : PR) op rd rs1 rs2 imm = true) : expI (putV (rd % 4294967296) (rs1 % 4294967296) (rs2 % 4294967296) (imm % 4294967296) [49, 49, 49, 105, 101, 100, 83, 83, 83, 104, 103, 99, 98, 102, 48, 49] 0) = ⟨op, rd, rs1, rs2, imm⟩ ∧ dgN (putV (rd % 4294967296) (rs1 % 4294967296) (rs2 % 4294967296) (imm % 4294967296) [49, 49, 49, 105, 101, 100, 83, 83, 83, 104, 103, 99, 98, 102, 48, 49] 0) = 18 := by
  simp only [fitsB, Bool.and_eq_true] at hf
  obtain ⟨ho, hm, k1, k2, k3, hz, hl, hu, hs⟩ := hf
  obtain ⟨⟨m1, m2⟩, ⟨m3, m4⟩, m5, m6⟩ := may_regs' op rd rs1 rs2 imm hm
  have ho2 : op = 6 := by simpa using ho
  subst ho2
  try simp [kindB] at k1
  try simp [kindB] at k2
  try simp [kindB] at k3
  try simp at hz
  try simp at hl
  try simp at hu
  try simp at hs
  clear hm ho
  obtain ⟨x1, x2⟩ := bits16 _ 1 0 (imm / 32 % 2) (imm / 2 % 2) (imm / 4 % 2) (imm / 64 % 2) (imm / 128 % 2) (rs1 / 1 % 2) (rs1 / 2 % 2) (rs1 / 4 % 2) (imm / 8 % 2) (imm / 16 % 2) (imm / 256 % 2) 1 1 1 (by omega) (by omega) (by omega) (by omega) (by omega) (by omega) (by omega) (by omega) (by omega) (by omega) (by omega) (by omega) (by omega) (by omega) (by omega) (by omega) (put_18 rd rs1 rs2 imm)
  rw [x1, x2]
  clear x1 x2
  have cw : imm / 256 = -(imm / 256 % 2) := by clear m1 m2 m3 m4 m5 m6; omega
  have cl0 : imm / 1 % 2 = 0 := by clear m1 m2 m3 m4 m5 m6 cw; omega
  have c0 := half2 imm 1 2 rfl (by decide)
  have d0 := bit2 imm 1
  have c1 := half2 imm 2 4 rfl (by decide)
  have d1 := bit2 imm 2
  have c2 := half2 imm 4 8 rfl (by decide)
  have d2 := bit2 imm 4
  have c3 := half2 imm 8 16 rfl (by decide)
  have d3 := bit2 imm 8
  have c4 := half2 imm 16 32 rfl (by decide)
  have d4 := bit2 imm 16
  have c5 := half2 imm 32 64 rfl (by decide)
  have d5 := bit2 imm 32
  have c6 := half2 imm 64 128 rfl (by decide)
  have d6 := bit2 imm 64
  have c7 := half2 imm 128 256 rfl (by decide)
  have d7 := bit2 imm 128
  have c8 := half2 imm 256 512 rfl (by decide)
  have d8 := bit2 imm 256
  have cz := Int.ediv_one imm
  generalize imm / 1 % 2 = i0 at *
  generalize imm / 2 % 2 = i1 at *
  generalize imm / 4 % 2 = i2 at *
  generalize imm / 8 % 2 = i3 at *
  generalize imm / 16 % 2 = i4 at *
  generalize imm / 32 % 2 = i5 at *
  generalize imm / 64 % 2 = i6 at *
  generalize imm / 128 % 2 = i7 at *
  generalize imm / 256 % 2 = i8 at *
  generalize imm / 1 = q0 at *
  generalize imm / 2 = q1 at *
  generalize imm / 4 = q2 at *
  generalize imm / 8 = q3 at *
  generalize imm / 16 = q4 at *
  generalize imm / 32 = q5 at *
  generalize imm / 64 = q6 at *
  generalize imm / 128 = q7 at *
  generalize imm / 256 = q8 at *
  generalize imm / 512 = q9 at *
  constructor
  · simp only [expB]
    simp
    try (first | rfl | ((repeat' split) <;> (first | rfl | (exfalso; omega) | (congr 1 <;> omega))) | (congr 1 <;> omega) | omega)
  · clear c0 d0 c1 d1 c2 d2 c3 d3 c4 d4 c5 d5 c6 d6 c7 d7 c8 d8 cz cw cl0 hz hl hu hs
    simp only [dgB]
    simp
    try (first | rfl | ((repeat' split) <;> (first | rfl | (exfalso; omega) | omega)) | omega)

theorem put_19 (rd rs1 rs2 imm : Int) : putV (rd % 4294967296) (rs1 % 4294967296) (rs2 % 4294967296) (imm % 4294967296) [48, 48, 48, 48, 68, 68, 68, 68, 68, 101, 100, 99, 98, 97, 49, 48] 0 = 0 + 2 * 1 + 4 * (imm / 1 % 2) + 8 * (imm / 2 % 2) + 16 * (imm / 4 % 2) + 32 * (imm / 8 % 2) + 64 * (imm / 16 % 2) + 128 * (rd / 1 % 2) + 256 * (rd / 2 % 2) + 512 * (rd / 4 % 2) + 1024 * (rd / 8 % 2) + 2048 * (rd / 16 % 2) + 4096 * 0 + 8192 * 0 + 16384 * 0 + 32768 * 0 := by
  have e : putV (rd % 4294967296) (rs1 % 4294967296) (rs2 % 4294967296) (imm % 4294967296) [48, 48, 48, 48, 68, 68, 68, 68, 68, 101, 100, 99, 98, 97, 49, 48] 0 = (2 * (2 * (2 * (2 * (2 * (2 * (2 * (2 * (2 * (2 * (2 * (2 * (2 * (2 * (2 * (2 * 0 + 0) + 0) + 0) + 0) + fld (rd % 4294967296) 4 1) + fld (rd % 4294967296) 3 1) + fld (rd % 4294967296) 2 1) + fld (rd % 4294967296) 1 1) + fld (rd % 4294967296) 0 1) + fld (imm % 4294967296) 4 1) + fld (imm % 4294967296) 3 1) + fld (imm % 4294967296) 2 1) + fld (imm % 4294967296) 1 1) + fld (imm % 4294967296) 0 1) + 1) + 0) := rfl
  rw [e]
  clear e
  rw [fld_at imm 0 (by omega)]
  rw [fld_at imm 1 (by omega)]
  rw [fld_at imm 2 (by omega)]
  rw [fld_at imm 3 (by omega)]
  rw [fld_at imm 4 (by omega)]
  rw [fld_at rd 0 (by omega)]
  rw [fld_at rd 1 (by omega)]
  rw [fld_at rd 2 (by omega)]
  rw [fld_at rd 3 (by omega)]
  rw [fld_at rd 4 (by omega)]
  simp only [Int.reducePow]
  generalize imm / 1 % 2 = imm_0
  generalize imm / 2 % 2 = imm_1
  generalize imm / 4 % 2 = imm_2
  generalize imm / 8 % 2 = imm_3
  generalize imm / 16 % 2 = imm_4
  generalize rd / 1 % 2 = rd_0
  generalize rd / 2 % 2 = rd_1
  generalize rd / 4 % 2 = rd_2
  generalize rd / 8 % 2 = rd_3
  generalize rd / 16 % 2 = rd_4
  omega

set_option maxHeartbeats 4000000 in
theorem xexp_19 (op rd rs1 rs2 imm : Int) (hf : fitsB (⟨[99, 46, 115, 108, 108, 105], 25, 5, 7, 0, 1, 31, 1, 0, [48, 48, 48, 48, 68, 68, 68, 68, 68, 101, 100, 99, 98, 97, 49, 48]⟩ : PR) op rd rs1 rs2 imm = true) : expI (putV (rd % 4294967296) (rs1 % 4294967296) (rs2 % 4294967296) (imm % 4294967296) [48, 48, 48, 48, 68, 68, 68, 68, 68, 101, 100, 99, 98, 97, 49, 48] 0) = ⟨op, rd, rs1, rs2, imm⟩ ∧ dgN (putV (rd % 4294967296) (rs1 % 4294967296) (rs2 % 4294967296) (imm % 4294967296) [48, 48, 48, 48, 68, 68, 68, 68, 68, 101, 100, 99, 98, 97, 49, 48] 0) = 19 := by
  simp only [fitsB, Bool.and_eq_true] at hf
  obtain ⟨ho, hm, k1, k2, k3, hz, hl, hu, hs⟩ := hf
  obtain ⟨⟨m1, m2⟩, ⟨m3, m4⟩, m5, m6⟩ := may_regs' op rd rs1 rs2 imm hm
  have ho2 : op = 25 := by simpa using ho
  subst ho2
  try simp [kindB] at k1
  try simp [kindB] at k2
  try simp [kindB] at k3
  try simp at hz
  try simp at hl
  try simp at hu
  try simp at hs
  clear hm ho
  obtain ⟨x1, x2⟩ := bits16 _ 0 1 (imm / 1 % 2) (imm / 2 % 2) (imm / 4 % 2) (imm / 8 % 2) (imm / 16 % 2) (rd / 1 % 2) (rd / 2 % 2) (rd / 4 % 2) (rd / 8 % 2) (rd / 16 % 2) 0 0 0 0 (by omega) (by omega) (by omega) (by omega) (by omega) (by omega) (by omega) (by omega) (by omega) (by omega) (by omega) (by omega) (by omega) (by omega) (by omega) (by omega) (put_19 rd rs1 rs2 imm)
  rw [x1, x2]
  clear x1 x2
  have cw : imm / 32 = 0 := by clear m1 m2 m3 m4 m5 m6; omega
  have c0 := half2 imm 1 2 rfl (by decide)
  have d0 := bit2 imm 1
  have c1 := half2 imm 2 4 rfl (by decide)
  have d1 := bit2 imm 2
  have c2 := half2 imm 4 8 rfl (by decide)
  have d2 := bit2 imm 4
  have c3 := half2 imm 8 16 rfl (by decide)
  have d3 := bit2 imm 8
  have c4 := half2 imm 16 32 rfl (by decide)
  have d4 := bit2 imm 16
  have cz := Int.ediv_one imm
  generalize imm / 1 % 2 = i0 at *
  generalize imm / 2 % 2 = i1 at *
  generalize imm / 4 % 2 = i2 at *
  generalize imm / 8 % 2 = i3 at *
  generalize imm / 16 % 2 = i4 at *
  generalize imm / 1 = q0 at *
  generalize imm / 2 = q1 at *
  generalize imm / 4 = q2 at *
  generalize imm / 8 = q3 at *
  generalize imm / 16 = q4 at *
  generalize imm / 32 = q5 at *
  constructor
  · simp only [expB]
    simp
    try (first | rfl | ((repeat' split) <;> (first | rfl | (exfalso; omega) | (congr 1 <;> omega))) | (congr 1 <;> omega) | omega)
  · clear c0 d0 c1 d1 c2 d2 c3 d3 c4 d4 cz cw hz hl hu hs
    simp only [dgB]
    simp
    try (first | rfl | ((repeat' split) <;> (first | rfl | (exfalso; omega) | omega)) | omega)

theorem put_20 (rd rs1 rs2 imm : Int) : putV (rd % 4294967296) (rs1 % 4294967296) (rs2 % 4294967296) (imm % 4294967296) [48, 49, 48, 102, 68, 68, 68, 68, 68, 101, 100, 99, 104, 103, 49, 48] 0 = 0 + 2 * 1 + 4 * (imm / 64 % 2) + 8 * (imm / 128 % 2) + 16 * (imm / 4 % 2) + 32 * (imm / 8 % 2) + 64 * (imm / 16 % 2) + 128 * (rd / 1 % 2) + 256 * (rd / 2 % 2) + 512 * (rd / 4 % 2) + 1024 * (rd / 8 % 2) + 2048 * (rd / 16 % 2) + 4096 * (imm / 32 % 2) + 8192 * 0 + 16384 * 1 + 32768 * 0 := by
  have e : putV (rd % 4294967296) (rs1 % 4294967296) (rs2 % 4294967296) (imm % 4294967296) [48, 49, 48, 102, 68, 68, 68, 68, 68, 101, 100, 99, 104, 103, 49, 48] 0 = (2 * (2 * (2 * (2 * (2 * (2 * (2 * (2 * (2 * (2 * (2 * (2 * (2 * (2 * (2 * (2 * 0 + 0) + 1) + 0) + fld (imm % 4294967296) 5 1) + fld (rd % 4294967296) 4 1) + fld (rd % 4294967296) 3 1) + fld (rd % 4294967296) 2 1) + fld (rd % 4294967296) 1 1) + fld (rd % 4294967296) 0 1) + fld (imm % 4294967296) 4 1) + fld (imm % 4294967296) 3 1) + fld (imm % 4294967296) 2 1) + fld (imm % 4294967296) 7 1) + fld (imm % 4294967296) 6 1) + 1) + 0) := rfl
  rw [e]
  clear e
  rw [fld_at imm 2 (by omega)]
  rw [fld_at imm 3 (by omega)]
  rw [fld_at imm 4 (by omega)]
  rw [fld_at imm 5 (by omega)]
  rw [fld_at imm 6 (by omega)]
  rw [fld_at imm 7 (by omega)]
  rw [fld_at rd 0 (by omega)]
  rw [fld_at rd 1 (by omega)]
  rw [fld_at rd 2 (by omega)]
  rw [fld_at rd 3 (by omega)]
  rw [fld_at rd 4 (by omega)]
  simp only [Int.reducePow]
  generalize imm / 4 % 2 = imm_2
  generalize imm / 8 % 2 = imm_3
  generalize imm / 16 % 2 = imm_4
  generalize imm / 32 % 2 = imm_5
  generalize imm / 64 % 2 = imm_6
  generalize imm / 128 % 2 = imm_7
  generalize rd / 1 % 2 = rd_0
  generalize rd / 2 % 2 = rd_1
  generalize rd / 4 % 2 = rd_2
  generalize rd / 8 % 2 = rd_3
  generalize rd / 16 % 2 = rd_4
  omega

set_option maxHeartbeats 4000000 in
theorem xexp_20 (op rd rs1 rs2 imm : Int) (hf : fitsB (⟨[99, 46, 108, 119, 115, 112], 13, 5, 2, 0, 0, 252, 4, 0, [48, 49, 48, 102, 68, 68, 68, 68, 68, 101, 100, 99, 104, 103, 49, 48]⟩ : PR) op rd rs1 rs2 imm = true) : expI (putV (rd % 4294967296) (rs1 % 4294967296) (rs2 % 4294967296) (imm % 4294967296) [48, 49, 48, 102, 68, 68, 68, 68, 68, 101, 100, 99, 104, 103, 49, 48] 0) = ⟨op, rd, rs1, rs2, imm⟩ ∧ dgN (putV (rd % 4294967296) (rs1 % 4294967296) (rs2 % 4294967296) (imm % 4294967296) [48, 49, 48, 102, 68, 68, 68, 68, 68, 101, 100, 99, 104, 103, 49, 48] 0) = 20 := by
  simp only [fitsB, Bool.and_eq_true] at hf
  obtain ⟨ho, hm, k1, k2, k3, hz, hl, hu, hs⟩ := hf
  obtain ⟨⟨m1, m2⟩, ⟨m3, m4⟩, m5, m6⟩ := may_regs' op rd rs1 rs2 imm hm
  have ho2 : op = 13 := by simpa using ho
  subst ho2
  try simp [kindB] at k1
  try simp [kindB] at k2
  try simp [kindB] at k3
  try simp at hz
  try simp at hl
  try simp at hu
  try simp at hs
  clear hm ho
  obtain ⟨x1, x2⟩ := bits16 _ 0 1 (imm / 64 % 2) (imm / 128 % 2) (imm / 4 % 2) (imm / 8 % 2) (imm / 16 % 2) (rd / 1 % 2) (rd / 2 % 2) (rd / 4 % 2) (rd / 8 % 2) (rd / 16 % 2) (imm / 32 % 2) 0 1 0 (by omega) (by omega) (by omega) (by omega) (by omega) (by omega) (by omega) (by omega) (by omega) (by omega) (by omega) (by omega) (by omega) (by omega) (by omega) (by omega) (put_20 rd rs1 rs2 imm)
  rw [x1, x2]
  clear x1 x2
  have cw : imm / 256 = 0 := by clear m1 m2 m3 m4 m5 m6; omega
  have cl0 : imm / 1 % 2 = 0 := by clear m1 m2 m3 m4 m5 m6 cw; omega
  have cl1 : imm / 2 % 2 = 0 := by clear m1 m2 m3 m4 m5 m6 cw cl0; omega
  have c0 := half2 imm 1 2 rfl (by decide)
  have d0 := bit2 imm 1
  have c1 := half2 imm 2 4 rfl (by decide)
  have d1 := bit2 imm 2
  have c2 := half2 imm 4 8 rfl (by decide)
  have d2 := bit2 imm 4
  have c3 := half2 imm 8 16 rfl (by decide)
  have d3 := bit2 imm 8
  have c4 := half2 imm 16 32 rfl (by decide)
  have d4 := bit2 imm 16
  have c5 := half2 imm 32 64 rfl (by decide)
  have d5 := bit2 imm 32
  have c6 := half2 imm 64 128 rfl (by decide)
  have d6 := bit2 imm 64
  have c7 := half2 imm 128 256 rfl (by decide)
  have d7 := bit2 imm 128
  have cz := Int.ediv_one imm
  generalize imm / 1 % 2 = i0 at *
  generalize imm / 2 % 2 = i1 at *
  generalize imm / 4 % 2 = i2 at *
  generalize imm / 8 % 2 = i3 at *
  generalize imm / 16 % 2 = i4 at *
  generalize imm / 32 % 2 = i5 at *
  generalize imm / 64 % 2 = i6 at *
  generalize imm / 128 % 2 = i7 at *
  generalize imm / 1 = q0 at *
  generalize imm / 2 = q1 at *
  generalize imm / 4 = q2 at *
  generalize imm / 8 = q3 at *
  generalize imm / 16 = q4 at *
  generalize imm / 32 = q5 at *
  generalize imm / 64 = q6 at *
  generalize imm / 128 = q7 at *
  generalize imm / 256 = q8 at *
  constructor
  · simp only [expB]
    simp
    try (first | rfl | ((repeat' split) <;> (first | rfl | (exfalso; omega) | (congr 1 <;> omega))) | (congr 1 <;> omega) | omega)
  · clear c0 d0 c1 d1 c2 d2 c3 d3 c4 d4 c5 d5 c6 d6 c7 d7 cz cw cl0 cl1 hz hl hu hs
    simp only [dgB]
    simp
    try (first | rfl | ((repeat' split) <;> (first | rfl | (exfalso; omega) | omega)) | omega)

theorem put_21 (rd rs1 rs2 imm : Int) : putV (rd % 4294967296) (rs1 % 4294967296) (rs2 % 4294967296) (imm % 4294967296) [49, 48, 48, 48, 83, 83, 83, 83, 83, 48, 48, 48, 48, 48, 49, 48] 0 = 0 + 2 * 1 + 4 * 0 + 8 * 0 + 16 * 0 + 32 * 0 + 64 * 0 + 128 * (rs1 / 1 % 2) + 256 * (rs1 / 2 % 2) + 512 * (rs1 / 4 % 2) + 1024 * (rs1 / 8 % 2) + 2048 * (rs1 / 16 % 2) + 4096 * 0 + 8192 * 0 + 16384 * 0 + 32768 * 1 := by
  have e : putV (rd % 4294967296) (rs1 % 4294967296) (rs2 % 4294967296) (imm % 4294967296) [49, 48, 48, 48, 83, 83, 83, 83, 83, 48, 48, 48, 48, 48, 49, 48] 0 = (2 * (2 * (2 * (2 * (2 * (2 * (2 * (2 * (2 * (2 * (2 * (2 * (2 * (2 * (2 * (2 * 0 + 1) + 0) + 0) + 0) + fld (rs1 % 4294967296) 4 1) + fld (rs1 % 4294967296) 3 1) + fld (rs1 % 4294967296) 2 1) + fld (rs1 % 4294967296) 1 1) + fld (rs1 % 4294967296) 0 1) + 0) + 0) + 0) + 0) + 0) + 1) + 0) := rfl
  rw [e]
  clear e
  rw [fld_at rs1 0 (by omega)]
  rw [fld_at rs1 1 (by omega)]
  rw [fld_at rs1 2 (by omega)]
  rw [fld_at rs1 3 (by omega)]
  rw [fld_at rs1 4 (by omega)]
  simp only [Int.reducePow]
  generalize rs1 / 1 % 2 = rs1_0
  generalize rs1 / 2 % 2 = rs1_1
  generalize rs1 / 4 % 2 = rs1_2
  generalize rs1 / 8 % 2 = rs1_3
  generalize rs1 / 16 % 2 = rs1_4
  omega

set_option maxHeartbeats 4000000 in
theorem xexp_21 (op rd rs1 rs2 imm : Int) (hf : fitsB (⟨[99, 46, 106, 114], 4, 0, 5, 0, 0, 0, 1, 0, [49, 48, 48, 48, 83, 83, 83, 83, 83, 48, 48, 48, 48, 48, 49, 48]⟩ : PR) op rd rs1 rs2 imm = true) : expI (putV (rd % 4294967296) (rs1 % 4294967296) (rs2 % 4294967296) (imm % 4294967296) [49, 48, 48, 48, 83, 83, 83, 83, 83, 48, 48, 48, 48, 48, 49, 48] 0) = ⟨op, rd, rs1, rs2, imm⟩ ∧ dgN (putV (rd % 4294967296) (rs1 % 4294967296) (rs2 % 4294967296) (imm % 4294967296) [49, 48, 48, 48, 83, 83, 83, 83, 83, 48, 48, 48, 48, 48, 49, 48] 0) = 21 := by
  simp only [fitsB, Bool.and_eq_true] at hf
  obtain ⟨ho, hm, k1, k2, k3, hz, hl, hu, hs⟩ := hf
  obtain ⟨⟨m1, m2⟩, ⟨m3, m4⟩, m5, m6⟩ := may_regs' op rd rs1 rs2 imm hm
  have ho2 : op = 4 := by simpa using ho
  subst ho2
  try simp [kindB] at k1
  try simp [kindB] at k2
  try simp [kindB] at k3
  try simp at hz
  try simp at hl
  try simp at hu
  try simp at hs
  clear hm ho
  obtain ⟨x1, x2⟩ := bits16 _ 0 1 0 0 0 0 0 (rs1 / 1 % 2) (rs1 / 2 % 2) (rs1 / 4 % 2) (rs1 / 8 % 2) (rs1 / 16 % 2) 0 0 0 1 (by omega) (by omega) (by omega) (by omega) (by omega) (by omega) (by omega) (by omega) (by omega) (by omega) (by omega) (by omega) (by omega) (by omega) (by omega) (by omega) (put_21 rd rs1 rs2 imm)
  rw [x1, x2]
  clear x1 x2
  constructor
  · simp only [expB]
    simp
    try (first | rfl | ((repeat' split) <;> (first | rfl | (exfalso; omega) | (congr 1 <;> omega))) | (congr 1 <;> omega) | omega)
  · simp only [dgB]
    simp
    try (first | rfl | ((repeat' split) <;> (first | rfl | (exfalso; omega) | omega)) | omega)

theorem put_22 (rd rs1 rs2 imm : Int) : putV (rd % 4294967296) (rs1 % 4294967296) (rs2 % 4294967296) (imm % 4294967296) [49, 48, 48, 48, 68, 68, 68, 68, 68, 84, 84, 84, 84, 84, 49, 48] 0 = 0 + 2 * 1 + 4 * (rs2 / 1 % 2) + 8 * (rs2 / 2 % 2) + 16 * (rs2 / 4 % 2) + 32 * (rs2 / 8 % 2) + 64 * (rs2 / 16 % 2) + 128 * (rd / 1 % 2) + 256 * (rd / 2 % 2) + 512 * (rd / 4 % 2) + 1024 * (rd / 8 % 2) + 2048 * (rd / 16 % 2) + 4096 * 0 + 8192 * 0 + 16384 * 0 + 32768 * 1 := by
  have e : putV (rd % 4294967296) (rs1 % 4294967296) (rs2 % 4294967296) (imm % 4294967296) [49, 48, 48, 48, 68, 68, 68, 68, 68, 84, 84, 84, 84, 84, 49, 48] 0 = (2 * (2 * (2 * (2 * (2 * (2 * (2 * (2 * (2 * (2 * (2 * (2 * (2 * (2 * (2 * (2 * 0 + 1) + 0) + 0) + 0) + fld (rd % 4294967296) 4 1) + fld (rd % 4294967296) 3 1) + fld (rd % 4294967296) 2 1) + fld (rd % 4294967296) 1 1) + fld (rd % 4294967296) 0 1) + fld (rs2 % 4294967296) 4 1) + fld (rs2 % 4294967296) 3 1) + fld (rs2 % 4294967296) 2 1) + fld (rs2 % 4294967296) 1 1) + fld (rs2 % 4294967296) 0 1) + 1) + 0) := rfl
  rw [e]
  clear e
  rw [fld_at rd 0 (by omega)]
  rw [fld_at rd 1 (by omega)]
  rw [fld_at rd 2 (by omega)]
  rw [fld_at rd 3 (by omega)]
  rw [fld_at rd 4 (by omega)]
  rw [fld_at rs2 0 (by omega)]
  rw [fld_at rs2 1 (by omega)]
  rw [fld_at rs2 2 (by omega)]
  rw [fld_at rs2 3 (by omega)]
  rw [fld_at rs2 4 (by omega)]
  simp only [Int.reducePow]
  generalize rd / 1 % 2 = rd_0
  generalize rd / 2 % 2 = rd_1
  generalize rd / 4 % 2 = rd_2
  generalize rd / 8 % 2 = rd_3
  generalize rd / 16 % 2 = rd_4
  generalize rs2 / 1 % 2 = rs2_0
  generalize rs2 / 2 % 2 = rs2_1
  generalize rs2 / 4 % 2 = rs2_2
  generalize rs2 / 8 % 2 = rs2_3
  generalize rs2 / 16 % 2 = rs2_4
  omega

set_option maxHeartbeats 4000000 in
theorem xexp_22 (op rd rs1 rs2 imm : Int) (hf : fitsB (⟨[99, 46, 109, 118], 28, 5, 0, 5, 0, 0, 1, 0, [49, 48, 48, 48, 68, 68, 68, 68, 68, 84, 84, 84, 84, 84, 49, 48]⟩ : PR) op rd rs1 rs2 imm = true) : expI (putV (rd % 4294967296) (rs1 % 4294967296) (rs2 % 4294967296) (imm % 4294967296) [49, 48, 48, 48, 68, 68, 68, 68, 68, 84, 84, 84, 84, 84, 49, 48] 0) = ⟨op, rd, rs1, rs2, imm⟩ ∧ dgN (putV (rd % 4294967296) (rs1 % 4294967296) (rs2 % 4294967296) (imm % 4294967296) [49, 48, 48, 48, 68, 68, 68, 68, 68, 84, 84, 84, 84, 84, 49, 48] 0) = 22 := by
  simp only [fitsB, Bool.and_eq_true] at hf
  obtain ⟨ho, hm, k1, k2, k3, hz, hl, hu, hs⟩ := hf
  obtain ⟨⟨m1, m2⟩, ⟨m3, m4⟩, m5, m6⟩ := may_regs' op rd rs1 rs2 imm hm
  have ho2 : op = 28 := by simpa using ho
  subst ho2
  try simp [kindB] at k1
  try simp [kindB] at k2
  try simp [kindB] at k3
  try simp at hz
  try simp at hl
  try simp at hu
  try simp at hs
  clear hm ho
  obtain ⟨x1, x2⟩ := bits16 _ 0 1 (rs2 / 1 % 2) (rs2 / 2 % 2) (rs2 / 4 % 2) (rs2 / 8 % 2) (rs2 / 16 % 2) (rd / 1 % 2) (rd / 2 % 2) (rd / 4 % 2) (rd / 8 % 2) (rd / 16 % 2) 0 0 0 1 (by omega) (by omega) (by omega) (by omega) (by omega) (by omega) (by omega) (by omega) (by omega) (by omega) (by omega) (by omega) (by omega) (by omega) (by omega) (by omega) (put_22 rd rs1 rs2 imm)
  rw [x1, x2]
  clear x1 x2
  constructor
  · simp only [expB]
    simp
    try (first | rfl | ((repeat' split) <;> (first | rfl | (exfalso; omega) | (congr 1 <;> omega))) | (congr 1 <;> omega) | omega)
  · simp only [dgB]
    simp
    try (first | rfl | ((repeat' split) <;> (first | rfl | (exfalso; omega) | omega)) | omega)

theorem put_23 (rd rs1 rs2 imm : Int) : putV (rd % 4294967296) (rs1 % 4294967296) (rs2 % 4294967296) (imm % 4294967296) [49, 48, 48, 49, 48, 48, 48, 48, 48, 48, 48, 48, 48, 48, 49, 48] 0 = 0 + 2 * 1 + 4 * 0 + 8 * 0 + 16 * 0 + 32 * 0 + 64 * 0 + 128 * 0 + 256 * 0 + 512 * 0 + 1024 * 0 + 2048 * 0 + 4096 * 1 + 8192 * 0 + 16384 * 0 + 32768 * 1 := by
  have e : putV (rd % 4294967296) (rs1 % 4294967296) (rs2 % 4294967296) (imm % 4294967296) [49, 48, 48, 49, 48, 48, 48, 48, 48, 48, 48, 48, 48, 48, 49, 48] 0 = (2 * (2 * (2 * (2 * (2 * (2 * (2 * (2 * (2 * (2 * (2 * (2 * (2 * (2 * (2 * (2 * 0 + 1) + 0) + 0) + 1) + 0) + 0) + 0) + 0) + 0) + 0) + 0) + 0) + 0) + 0) + 1) + 0) := rfl
  rw [e]
  clear e
  rfl

set_option maxHeartbeats 4000000 in
theorem xexp_23 (op rd rs1 rs2 imm : Int) (hf : fitsB (⟨[99, 46, 101, 98, 114, 101, 97, 107], 40, 0, 0, 0, 0, 0, 1, 0, [49, 48, 48, 49, 48, 48, 48, 48, 48, 48, 48, 48, 48, 48, 49, 48]⟩ : PR) op rd rs1 rs2 imm = true) : expI (putV (rd % 4294967296) (rs1 % 4294967296) (rs2 % 4294967296) (imm % 4294967296) [49, 48, 48, 49, 48, 48, 48, 48, 48, 48, 48, 48, 48, 48, 49, 48] 0) = ⟨op, rd, rs1, rs2, imm⟩ ∧ dgN (putV (rd % 4294967296) (rs1 % 4294967296) (rs2 % 4294967296) (imm % 4294967296) [49, 48, 48, 49, 48, 48, 48, 48, 48, 48, 48, 48, 48, 48, 49, 48] 0) = 23 := by
  simp only [fitsB, Bool.and_eq_true] at hf
  obtain ⟨ho, hm, k1, k2, k3, hz, hl, hu, hs⟩ := hf
  obtain ⟨⟨m1, m2⟩, ⟨m3, m4⟩, m5, m6⟩ := may_regs' op rd rs1 rs2 imm hm
  have ho2 : op = 40 := by simpa using ho
  subst ho2
  try simp [kindB] at k1
  try simp [kindB] at k2
  try simp [kindB] at k3
  try simp at hz
  try simp at hl
  try simp at hu
  try simp at hs
  clear hm ho
  obtain ⟨x1, x2⟩ := bits16 _ 0 1 0 0 0 0 0 0 0 0 0 0 1 0 0 1 (by omega) (by omega) (by omega) (by omega) (by omega) (by omega) (by omega) (by omega) (by omega) (by omega) (by omega) (by omega) (by omega) (by omega) (by omega) (by omega) (put_23 rd rs1 rs2 imm)
  rw [x1, x2]
  clear x1 x2
  constructor
  · simp only [expB]
    simp
    try (first | rfl | ((repeat' split) <;> (first | rfl | (exfalso; omega) | (congr 1 <;> omega))) | (congr 1 <;> omega) | omega)
  · simp only [dgB]
    simp
    try (first | rfl | ((repeat' split) <;> (first | rfl | (exfalso; omega) | omega)) | omega)

theorem put_24 (rd rs1 rs2 imm : Int) : putV (rd % 4294967296) (rs1 % 4294967296) (rs2 % 4294967296) (imm % 4294967296) [49, 48, 48, 49, 83, 83, 83, 83, 83, 48, 48, 48, 48, 48, 49, 48] 0 = 0 + 2 * 1 + 4 * 0 + 8 * 0 + 16 * 0 + 32 * 0 + 64 * 0 + 128 * (rs1 / 1 % 2) + 256 * (rs1 / 2 % 2) + 512 * (rs1 / 4 % 2) + 1024 * (rs1 / 8 % 2) + 2048 * (rs1 / 16 % 2) + 4096 * 1 + 8192 * 0 + 16384 * 0 + 32768 * 1 := by
  have e : putV (rd % 4294967296) (rs1 % 4294967296) (rs2 % 4294967296) (imm % 4294967296) [49, 48, 48, 49, 83, 83, 83, 83, 83, 48, 48, 48, 48, 48, 49, 48] 0 = (2 * (2 * (2 * (2 * (2 * (2 * (2 * (2 * (2 * (2 * (2 * (2 * (2 * (2 * (2 * (2 * 0 + 1) + 0) + 0) + 1) + fld (rs1 % 4294967296) 4 1) + fld (rs1 % 4294967296) 3 1) + fld (rs1 % 4294967296) 2 1) + fld (rs1 % 4294967296) 1 1) + fld (rs1 % 4294967296) 0 1) + 0) + 0) + 0) + 0) + 0) + 1) + 0) := rfl
  rw [e]
  clear e
  rw [fld_at rs1 0 (by omega)]
  rw [fld_at rs1 1 (by omega)]
  rw [fld_at rs1 2 (by omega)]
  rw [fld_at rs1 3 (by omega)]
  rw [fld_at rs1 4 (by omega)]
  simp only [Int.reducePow]
  generalize rs1 / 1 % 2 = rs1_0
  generalize rs1 / 2 % 2 = rs1_1
  generalize rs1 / 4 % 2 = rs1_2
  generalize rs1 / 8 % 2 = rs1_3
  generalize rs1 / 16 % 2 = rs1_4
  omega

set_option maxHeartbeats 4000000 in
theorem xexp_24 (op rd rs1 rs2 imm : Int) (hf : fitsB (⟨[99, 46, 106, 97, 108, 114], 4, 1, 5, 0, 0, 0, 1, 0, [49, 48, 48, 49, 83, 83, 83, 83, 83, 48, 48, 48, 48, 48, 49, 48]⟩ : PR) op rd rs1 rs2 imm = true) : expI (putV (rd % 4294967296) (rs1 % 4294967296) (rs2 % 4294967296) (imm % 4294967296) [49, 48, 48, 49, 83, 83, 83, 83, 83, 48, 48, 48, 48, 48, 49, 48] 0) = ⟨op, rd, rs1, rs2, imm⟩ ∧ dgN (putV (rd % 4294967296) (rs1 % 4294967296) (rs2 % 4294967296) (imm % 4294967296) [49, 48, 48, 49, 83, 83, 83, 83, 83, 48, 48, 48, 48, 48, 49, 48] 0) = 24 := by
  simp only [fitsB, Bool.and_eq_true] at hf
  obtain ⟨ho, hm, k1, k2, k3, hz, hl, hu, hs⟩ := hf
  obtain ⟨⟨m1, m2⟩, ⟨m3, m4⟩, m5, m6⟩ := may_regs' op rd rs1 rs2 imm hm
  have ho2 : op = 4 := by simpa using ho
  subst ho2
  try simp [kindB] at k1
  try simp [kindB] at k2
  try simp [kindB] at k3
  try simp at hz
  try simp at hl
  try simp at hu
  try simp at hs
  clear hm ho
  obtain ⟨x1, x2⟩ := bits16 _ 0 1 0 0 0 0 0 (rs1 / 1 % 2) (rs1 / 2 % 2) (rs1 / 4 % 2) (rs1 / 8 % 2) (rs1 / 16 % 2) 1 0 0 1 (by omega) (by omega) (by omega) (by omega) (by omega) (by omega) (by omega) (by omega) (by omega) (by omega) (by omega) (by omega) (by omega) (by omega) (by omega) (by omega) (put_24 rd rs1 rs2 imm)
  rw [x1, x2]
  clear x1 x2
  constructor
  · simp only [expB]
    simp
    try (first | rfl | ((repeat' split) <;> (first | rfl | (exfalso; omega) | (congr 1 <;> omega))) | (congr 1 <;> omega) | omega)
  · simp only [dgB]
    simp
    try (first | rfl | ((repeat' split) <;> (first | rfl | (exfalso; omega) | omega)) | omega)

theorem put_25 (rd rs1 rs2 imm : Int) : putV (rd % 4294967296) (rs1 % 4294967296) (rs2 % 4294967296) (imm % 4294967296) [49, 48, 48, 49, 68, 68, 68, 68, 68, 84, 84, 84, 84, 84, 49, 48] 0 = 0 + 2 * 1 + 4 * (rs2 / 1 % 2) + 8 * (rs2 / 2 % 2) + 16 * (rs2 / 4 % 2) + 32 * (rs2 / 8 % 2) + 64 * (rs2 / 16 % 2) + 128 * (rd / 1 % 2) + 256 * (rd / 2 % 2) + 512 * (rd / 4 % 2) + 1024 * (rd / 8 % 2) + 2048 * (rd / 16 % 2) + 4096 * 1 + 8192 * 0 + 16384 * 0 + 32768 * 1 := by
  have e : putV (rd % 4294967296) (rs1 % 4294967296) (rs2 % 4294967296) (imm % 4294967296) [49, 48, 48, 49, 68, 68, 68, 68, 68, 84, 84, 84, 84, 84, 49, 48] 0 = (2 * (2 * (2 * (2 * (2 * (2 * (2 * (2 * (2 * (2 * (2 * (2 * (2 * (2 * (2 * (2 * 0 + 1) + 0) + 0) + 1) + fld (rd % 4294967296) 4 1) + fld (rd % 4294967296) 3 1) + fld (rd % 4294967296) 2 1) + fld (rd % 4294967296) 1 1) + fld (rd % 4294967296) 0 1) + fld (rs2 % 4294967296) 4 1) + fld (rs2 % 4294967296) 3 1) + fld (rs2 % 4294967296) 2 1) + fld (rs2 % 4294967296) 1 1) + fld (rs2 % 4294967296) 0 1) + 1) + 0) := rfl
  rw [e]
  clear e
  rw [fld_at rd 0 (by omega)]
  rw [fld_at rd 1 (by omega)]
  rw [fld_at rd 2 (by omega)]
  rw [fld_at rd 3 (by omega)]
  rw [fld_at rd 4 (by omega)]
  rw [fld_at rs2 0 (by omega)]
  rw [fld_at rs2 1 (by omega)]
  rw [fld_at rs2 2 (by omega)]
  rw [fld_at rs2 3 (by omega)]
  rw [fld_at rs2 4 (by omega)]
  simp only [Int.reducePow]
  generalize rd / 1 % 2 = rd_0
  generalize rd / 2 % 2 = rd_1
  generalize rd / 4 % 2 = rd_2
  generalize rd / 8 % 2 = rd_3
  generalize rd / 16 % 2 = rd_4
  generalize rs2 / 1 % 2 = rs2_0
  generalize rs2 / 2 % 2 = rs2_1
  generalize rs2 / 4 % 2 = rs2_2
  generalize rs2 / 8 % 2 = rs2_3
  generalize rs2 / 16 % 2 = rs2_4
  omega

set_option maxHeartbeats 4000000 in
theorem xexp_25 (op rd rs1 rs2 imm : Int) (hf : fitsB (⟨[99, 46, 97, 100, 100], 28, 5, 7, 5, 0, 0, 1, 0, [49, 48, 48, 49, 68, 68, 68, 68, 68, 84, 84, 84, 84, 84, 49, 48]⟩ : PR) op rd rs1 rs2 imm = true) : expI (putV (rd % 4294967296) (rs1 % 4294967296) (rs2 % 4294967296) (imm % 4294967296) [49, 48, 48, 49, 68, 68, 68, 68, 68, 84, 84, 84, 84, 84, 49, 48] 0) = ⟨op, rd, rs1, rs2, imm⟩ ∧ dgN (putV (rd % 4294967296) (rs1 % 4294967296) (rs2 % 4294967296) (imm % 4294967296) [49, 48, 48, 49, 68, 68, 68, 68, 68, 84, 84, 84, 84, 84, 49, 48] 0) = 25 := by
  simp only [fitsB, Bool.and_eq_true] at hf
  obtain ⟨ho, hm, k1, k2, k3, hz, hl, hu, hs⟩ := hf
  obtain ⟨⟨m1, m2⟩, ⟨m3, m4⟩, m5, m6⟩ := may_regs' op rd rs1 rs2 imm hm
  have ho2 : op = 28 := by simpa using ho
  subst ho2
  try simp [kindB] at k1
  try simp [kindB] at k2
  try simp [kindB] at k3
  try simp at hz
  try simp at hl
  try simp at hu
  try simp at hs
  clear hm ho
  obtain ⟨x1, x2⟩ := bits16 _ 0 1 (rs2 / 1 % 2) (rs2 / 2 % 2) (rs2 / 4 % 2) (rs2 / 8 % 2) (rs2 / 16 % 2) (rd / 1 % 2) (rd / 2 % 2) (rd / 4 % 2) (rd / 8 % 2) (rd / 16 % 2) 1 0 0 1 (by omega) (by omega) (by omega) (by omega) (by omega) (by omega) (by omega) (by omega) (by omega) (by omega) (by omega) (by omega) (by omega) (by omega) (by omega) (by omega) (put_25 rd rs1 rs2 imm)
  rw [x1, x2]
  clear x1 x2
  constructor
  · simp only [expB]
    simp
    try (first | rfl | ((repeat' split) <;> (first | rfl | (exfalso; omega) | (congr 1 <;> omega))) | (congr 1 <;> omega) | omega)
  · simp only [dgB]
    simp
    try (first | rfl | ((repeat' split) <;> (first | rfl | (exfalso; omega) | omega)) | omega)

theorem put_26 (rd rs1 rs2 imm : Int) : putV (rd % 4294967296) (rs1 % 4294967296) (rs2 % 4294967296) (imm % 4294967296) [49, 49, 48, 102, 101, 100, 99, 104, 103, 84, 84, 84, 84, 84, 49, 48] 0 = 0 + 2 * 1 + 4 * (rs2 / 1 % 2) + 8 * (rs2 / 2 % 2) + 16 * (rs2 / 4 % 2) + 32 * (rs2 / 8 % 2) + 64 * (rs2 / 16 % 2) + 128 * (imm / 64 % 2) + 256 * (imm / 128 % 2) + 512 * (imm / 4 % 2) + 1024 * (imm / 8 % 2) + 2048 * (imm / 16 % 2) + 4096 * (imm / 32 % 2) + 8192 * 0 + 16384 * 1 + 32768 * 1 := by
  have e : putV (rd % 4294967296) (rs1 % 4294967296) (rs2 % 4294967296) (imm % 4294967296) [49, 49, 48, 102, 101, 100, 99, 104, 103, 84, 84, 84, 84, 84, 49, 48] 0 = (2 * (2 * (2 * (2 * (2 * (2 * (2 * (2 * (2 * (2 * (2 * (2 * (2 * (2 * (2 * (2 * 0 + 1) + 1) + 0) + fld (imm % 4294967296) 5 1) + fld (imm % 4294967296) 4 1) + fld (imm % 4294967296) 3 1) + fld (imm % 4294967296) 2 1) + fld (imm % 4294967296) 7 1) + fld (imm % 4294967296) 6 1) + fld (rs2 % 4294967296) 4 1) + fld (rs2 % 4294967296) 3 1) + fld (rs2 % 4294967296) 2 1) + fld (rs2 % 4294967296) 1 1) + fld (rs2 % 4294967296) 0 1) + 1) + 0) := rfl
  rw [e]
  clear e
  rw [fld_at imm 2 (by omega)]
  rw [fld_at imm 3 (by omega)]
  rw [fld_at imm 4 (by omega)]
  rw [fld_at imm 5 (by omega)]
  rw [fld_at imm 6 (by omega)]
  rw [fld_at imm 7 (by omega)]
  rw [fld_at rs2 0 (by omega)]
  rw [fld_at rs2 1 (by omega)]
  rw [fld_at rs2 2 (by omega)]
  rw [fld_at rs2 3 (by omega)]
  rw [fld_at rs2 4 (by omega)]
  simp only [Int.reducePow]
  generalize imm / 4 % 2 = imm_2
  generalize imm / 8 % 2 = imm_3
  generalize imm / 16 % 2 = imm_4
  generalize imm / 32 % 2 = imm_5
  generalize imm / 64 % 2 = imm_6
  generalize imm / 128 % 2 = imm_7
  generalize rs2 / 1 % 2 = rs2_0
  generalize rs2 / 2 % 2 = rs2_1
  generalize rs2 / 4 % 2 = rs2_2
  generalize rs2 / 8 % 2 = rs2_3
  generalize rs2 / 16 % 2 = rs2_4
  omega

set_option maxHeartbeats 4000000 in
theorem xexp_26 (op rd rs1 rs2 imm : Int) (hf : fitsB (⟨[99, 46, 115, 119, 115, 112], 18, 0, 2, 3, 0, 252, 4, 0, [49, 49, 48, 102, 101, 100, 99, 104, 103, 84, 84, 84, 84, 84, 49, 48]⟩ : PR) op rd rs1 rs2 imm = true) : expI (putV (rd % 4294967296) (rs1 % 4294967296) (rs2 % 4294967296) (imm % 4294967296) [49, 49, 48, 102, 101, 100, 99, 104, 103, 84, 84, 84, 84, 84, 49, 48] 0) = ⟨op, rd, rs1, rs2, imm⟩ ∧ dgN (putV (rd % 4294967296) (rs1 % 4294967296) (rs2 % 4294967296) (imm % 4294967296) [49, 49, 48, 102, 101, 100, 99, 104, 103, 84, 84, 84, 84, 84, 49, 48] 0) = 26 := by
  simp only [fitsB, Bool.and_eq_true] at hf
  obtain ⟨ho, hm, k1, k2, k3, hz, hl, hu, hs⟩ := hf
  obtain ⟨⟨m1, m2⟩, ⟨m3, m4⟩, m5, m6⟩ := may_regs' op rd rs1 rs2 imm hm
  have ho2 : op = 18 := by simpa using ho
  subst ho2
  try simp [kindB] at k1
  try simp [kindB] at k2
  try simp [kindB] at k3
  try simp at hz
  try simp at hl
  try simp at hu
  try simp at hs
  clear hm ho
  obtain ⟨x1, x2⟩ := bits16 _ 0 1 (rs2 / 1 % 2) (rs2 / 2 % 2) (rs2 / 4 % 2) (rs2 / 8 % 2) (rs2 / 16 % 2) (imm / 64 % 2) (imm / 128 % 2) (imm / 4 % 2) (imm / 8 % 2) (imm / 16 % 2) (imm / 32 % 2) 0 1 1 (by omega) (by omega) (by omega) (by omega) (by omega) (by omega) (by omega) (by omega) (by omega) (by omega) (by omega) (by omega) (by omega) (by omega) (by omega) (by omega) (put_26 rd rs1 rs2 imm)
  rw [x1, x2]
  clear x1 x2
  have cw : imm / 256 = 0 := by clear m1 m2 m3 m4 m5 m6; omega
  have cl0 : imm / 1 % 2 = 0 := by clear m1 m2 m3 m4 m5 m6 cw; omega
  have cl1 : imm / 2 % 2 = 0 := by clear m1 m2 m3 m4 m5 m6 cw cl0; omega
  have c0 := half2 imm 1 2 rfl (by decide)
  have d0 := bit2 imm 1
  have c1 := half2 imm 2 4 rfl (by decide)
  have d1 := bit2 imm 2
  have c2 := half2 imm 4 8 rfl (by decide)
  have d2 := bit2 imm 4
  have c3 := half2 imm 8 16 rfl (by decide)
  have d3 := bit2 imm 8
  have c4 := half2 imm 16 32 rfl (by decide)
  have d4 := bit2 imm 16
  have c5 := half2 imm 32 64 rfl (by decide)
  have d5 := bit2 imm 32
  have c6 := half2 imm 64 128 rfl (by decide)
  have d6 := bit2 imm 64
  have c7 := half2 imm 128 256 rfl (by decide)
  have d7 := bit2 imm 128
  have cz := Int.ediv_one imm
  generalize imm / 1 % 2 = i0 at *
  generalize imm / 2 % 2 = i1 at *
  generalize imm / 4 % 2 = i2 at *
  generalize imm / 8 % 2 = i3 at *
  generalize imm / 16 % 2 = i4 at *
  generalize imm / 32 % 2 = i5 at *
  generalize imm / 64 % 2 = i6 at *
  generalize imm / 128 % 2 = i7 at *
  generalize imm / 1 = q0 at *
  generalize imm / 2 = q1 at *
  generalize imm / 4 = q2 at *
  generalize imm / 8 = q3 at *
  generalize imm / 16 = q4 at *
  generalize imm / 32 = q5 at *
  generalize imm / 64 = q6 at *
  generalize imm / 128 = q7 at *
  generalize imm / 256 = q8 at *
  constructor
  · simp only [expB]
    simp
    try (first | rfl | ((repeat' split) <;> (first | rfl | (exfalso; omega) | (congr 1 <;> omega))) | (congr 1 <;> omega) | omega)
  · clear c0 d0 c1 d1 c2 d2 c3 d3 c4 d4 c5 d5 c6 d6 c7 d7 cz cw cl0 cl1 hz hl hu hs
    simp only [dgB]
    simp
    try (first | rfl | ((repeat' split) <;> (first | rfl | (exfalso; omega) | omega)) | omega)

end Go.Proofs.Ytppnmaklggkogaa

/- Contracts of package typecaseref09: frame. -/
namespace Go.Proofs.Ytppnmaklggkogaa
open Go.RowKit
set_option linter.unusedVariables false
set_option linter.unusedSimpArgs false

/-- What is fixed in the parcels of the shorts. -/
def baseL : List Int := [0, 16384, 49152, 1, 1, 8193, 16385, 24833, 24577, 32769, 33793, 34817, 35841, 35873, 35905, 35937, 40961, 49153, 57345, 2, 16386, 32770, 32770, 36866, 36866, 36866, 49154]

theorem ints_new (w : World) (l : List Int) (T : TypeId) : Ints (w.alloc (.cells (l.map (Value.int .i64)).toArray T)) w.heap.size l := by
  intro j x hx
  have : (w.alloc (.cells (l.map (Value.int .i64)).toArray T)).cell? ⟨w.heap.size, j, none⟩ = ((l.map (Value.int .i64)).toArray)[j]? := by simp
  rw [this]
  simp [hx]

theorem rNames_some (w : World) : Calls Try.prog 16 #[] w fun e w' => ∃ g, e = .returned (.slice (some ⟨g, 0, none⟩) 27 27) ∧ Strs w' g shB ∧ Nx w w' :=
  (rNames_any w).mono fun e w' ⟨h1, h2, h3⟩ => ⟨w.heap.size, h1, h2, h3⟩

set_option maxHeartbeats 2000000 in
theorem frame_at (nm : List UInt8) (n : Nat) (b : Int) (w : World) (hn : shB[n]? = some nm) (hb : baseL[n]? = some b) :
    Calls Try.prog 24 #[.string (B nm)] w fun e w' => e = .returned (.int .i64 b) ∧ Nx w w' := by
  have hn27 : n < 27 := (List.getElem?_eq_some_iff.1 hn).1
  have HI := Lib.hid (show shB.idxOf nm = n by
    have : ∀ k, k < 27 → ∀ x, shB[k]? = some x → shB.idxOf x = k := by decide
    exact this n hn27 nm hn)
  have HN := Lib.hid hn
  have HB := Lib.hid hb
  clear hn hb
  go_enter Try.func24, Try.ntmps24
  go_wp2_with fail
  refine (rNames_some _).mono ?_
  rintro e w1 ⟨g, rfl, hS, hn1⟩
  have HS := Lib.hid hS
  have HN1 := Lib.hid hn1
  clear hS hn1
  have HB1 : Hid (Ints (w1.alloc (.cells #[.int .i64 0, .int .i64 16384, .int .i64 49152, .int .i64 1, .int .i64 1, .int .i64 8193, .int .i64 16385, .int .i64 24833, .int .i64 24577, .int .i64 32769, .int .i64 33793, .int .i64 34817, .int .i64 35841, .int .i64 35873, .int .i64 35905, .int .i64 35937, .int .i64 40961, .int .i64 49153, .int .i64 57345, .int .i64 2, .int .i64 16386, .int .i64 32770, .int .i64 32770, .int .i64 36866, .int .i64 36866, .int .i64 36866, .int .i64 49154] 3)) w1.heap.size baseL) := Lib.hid (ints_new w1 baseL 3)
  have HS1 : Hid (Strs (w1.alloc (.cells #[.int .i64 0, .int .i64 16384, .int .i64 49152, .int .i64 1, .int .i64 1, .int .i64 8193, .int .i64 16385, .int .i64 24833, .int .i64 24577, .int .i64 32769, .int .i64 33793, .int .i64 34817, .int .i64 35841, .int .i64 35873, .int .i64 35905, .int .i64 35937, .int .i64 40961, .int .i64 49153, .int .i64 57345, .int .i64 2, .int .i64 16386, .int .i64 32770, .int .i64 32770, .int .i64 36866, .int .i64 36866, .int .i64 36866, .int .i64 49154] 3)) g shB) := Lib.hid (HS.out.keep ((Nx.refl w1).alloc (.cells (baseL.map (Value.int .i64)).toArray 3)))
  go_wp2
  go_loop [5] (fun i => ∃ k : Nat, k ≤ n ∧ i = .int .i64 k) (fun i => 27 - (intOf i).toNat)
  case atStart => exact ⟨0, by omega, rfl⟩
  case round =>
    obtain ⟨k, hk, rfl⟩ := hrel
    have hk27 : k < 27 := by omega
    obtain ⟨s, hs⟩ : ∃ s, shB[k]? = some s := ⟨_, List.getElem?_eq_getElem (show k < shB.length from hk27)⟩
    have hc := HS1.out k s hs
    by_cases he : k = n
    · subst he
      have es : s = nm := by have := HN.out; rw [hs] at this; exact Option.some.inj this
      subst es
      have hd := HB1.out k b HB.out
      clear hs
      have ht : (s == s) = true := by simp
      go_wp2
      go_ret
      exact ⟨rfl, HN1.out.trans ((Nx.refl _).alloc _)⟩
    · have ht : (s == nm) = false := by
        have h1 : ∀ k, k < 27 → ∀ x, shB[k]? = some x → shB.idxOf x = k := by decide
        have := h1 k hk27 s hs
        apply Bool.eq_false_iff.2
        intro h
        have e : s = nm := by simpa using h
        rw [e, HI.out] at this
        omega
      clear hs
      go_wp2
      go_round
      case rel => exact ⟨k + 1, by omega, by go_num⟩
      case measure => simp [intOf]; omega

end Go.Proofs.Ytppnmaklggkogaa

