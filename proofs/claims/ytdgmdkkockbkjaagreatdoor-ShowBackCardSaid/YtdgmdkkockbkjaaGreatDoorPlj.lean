/- Plain: what a row of press asks is what the document asks. -/
import Derived.Test.YtdgmdkkockbkjaaGreatDoorRefil
import Derived.Test.YtdgmdkkockbkjaaGreatDoorPressc
namespace Go.Proofs.YtdgmdkkockbkjaaGreatDoor
open Go.RowKit
set_option linter.unusedVariables false
set_option linter.unusedSimpArgs false

theorem nm_ne (op rd rs1 rs2 imm : Int) (n : Nat) (l : List UInt8) (hm : mayB op rd rs1 rs2 imm = true) (ho : ¬ op = (n : Int)) (hl : ∀ k, k < 49 → nmB[k]? = some l → k = n) : (nmB.getD op.toNat [] == l) = false := by
  obtain ⟨k, e, hk, hs⟩ := may_nm op rd rs1 rs2 imm hm
  apply Bool.eq_false_iff.2
  intro h
  have e2 : nmB.getD op.toNat [] = l := by simpa using h
  rw [e2] at hs
  have := hl k hk hs
  omega

theorem fit_0 (op rd rs1 rs2 imm : Int) : fitsB (⟨[99, 46, 97, 100, 100, 105, 52, 115, 112, 110], 19, 4, 2, 0, 4, 1020, 4, 0, [48, 48, 48, 102, 101, 106, 105, 104, 103, 99, 100, 68, 68, 68, 48, 48]⟩ : PR) op rd rs1 rs2 imm = (mayB op rd rs1 rs2 imm && ((nmB.getD op.toNat [] == [97, 100, 100, 105]) && (fewB rd && ((rs1 == 2) && fromB imm 4 4 1020)))) := by
  cases hm : mayB op rd rs1 rs2 imm
  · simp [fitsB, hm]
  · by_cases ho : op = 19
    · subst ho
      have hs : nmB.getD (19 : Int).toNat [] = [97, 100, 100, 105] := rfl
      have hf : formN 19 = 6 := rfl
      rw [hs]
      have hm2 := hm
      simp only [mayB, hf] at hm2
      simp [regB, needD, needS, needT, numB] at hm2
      rw [Bool.eq_iff_iff]
      simp [fitsB, hm, kindB, fewB, fromB]
      try omega
    · have hs : (nmB.getD op.toNat [] == [97, 100, 100, 105]) = false := nm_ne op rd rs1 rs2 imm 19 [97, 100, 100, 105] hm ho (by decide)
      simp only [fitsB, hm]
      simp only [hs]
      simp [ho]

theorem fit_1 (op rd rs1 rs2 imm : Int) : fitsB (⟨[99, 46, 108, 119], 13, 4, 4, 0, 0, 124, 4, 0, [48, 49, 48, 102, 101, 100, 83, 83, 83, 99, 103, 68, 68, 68, 48, 48]⟩ : PR) op rd rs1 rs2 imm = (mayB op rd rs1 rs2 imm && ((nmB.getD op.toNat [] == [108, 119]) && (fewB rd && (fewB rs1 && fromB imm 4 0 124)))) := by
  cases hm : mayB op rd rs1 rs2 imm
  · simp [fitsB, hm]
  · by_cases ho : op = 13
    · subst ho
      have hs : nmB.getD (13 : Int).toNat [] = [108, 119] := rfl
      have hf : formN 13 = 4 := rfl
      rw [hs]
      have hm2 := hm
      simp only [mayB, hf] at hm2
      simp [regB, needD, needS, needT, numB] at hm2
      rw [Bool.eq_iff_iff]
      simp [fitsB, hm, kindB, fewB, fromB]
      try omega
    · have hs : (nmB.getD op.toNat [] == [108, 119]) = false := nm_ne op rd rs1 rs2 imm 13 [108, 119] hm ho (by decide)
      simp only [fitsB, hm]
      simp only [hs]
      simp [ho]

theorem fit_2 (op rd rs1 rs2 imm : Int) : fitsB (⟨[99, 46, 115, 119], 18, 0, 4, 4, 0, 124, 4, 0, [49, 49, 48, 102, 101, 100, 83, 83, 83, 99, 103, 84, 84, 84, 48, 48]⟩ : PR) op rd rs1 rs2 imm = (mayB op rd rs1 rs2 imm && ((nmB.getD op.toNat [] == [115, 119]) && (fewB rs1 && (fewB rs2 && fromB imm 4 0 124)))) := by
  cases hm : mayB op rd rs1 rs2 imm
  · simp [fitsB, hm]
  · by_cases ho : op = 18
    · subst ho
      have hs : nmB.getD (18 : Int).toNat [] = [115, 119] := rfl
      have hf : formN 18 = 5 := rfl
      rw [hs]
      have hm2 := hm
      simp only [mayB, hf] at hm2
      simp [regB, needD, needS, needT, numB] at hm2
      rw [Bool.eq_iff_iff]
      simp [fitsB, hm, kindB, fewB, fromB]
      try omega
    · have hs : (nmB.getD op.toNat [] == [115, 119]) = false := nm_ne op rd rs1 rs2 imm 18 [115, 119] hm ho (by decide)
      simp only [fitsB, hm]
      simp only [hs]
      simp [ho]

theorem fit_3 (op rd rs1 rs2 imm : Int) : fitsB (⟨[99, 46, 110, 111, 112], 19, 0, 0, 0, 0, 0, 1, 0, [48, 48, 48, 48, 48, 48, 48, 48, 48, 48, 48, 48, 48, 48, 48, 49]⟩ : PR) op rd rs1 rs2 imm = (mayB op rd rs1 rs2 imm && ((nmB.getD op.toNat [] == [97, 100, 100, 105]) && ((rd == 0) && ((rs1 == 0) && (imm == 0))))) := by
  cases hm : mayB op rd rs1 rs2 imm
  · simp [fitsB, hm]
  · by_cases ho : op = 19
    · subst ho
      have hs : nmB.getD (19 : Int).toNat [] = [97, 100, 100, 105] := rfl
      have hf : formN 19 = 6 := rfl
      rw [hs]
      have hm2 := hm
      simp only [mayB, hf] at hm2
      simp [regB, needD, needS, needT, numB] at hm2
      rw [Bool.eq_iff_iff]
      simp [fitsB, hm, kindB, fewB, fromB]
      try omega
    · have hs : (nmB.getD op.toNat [] == [97, 100, 100, 105]) = false := nm_ne op rd rs1 rs2 imm 19 [97, 100, 100, 105] hm ho (by decide)
      simp only [fitsB, hm]
      simp only [hs]
      simp [ho]

theorem fit_4 (op rd rs1 rs2 imm : Int) : fitsB (⟨[99, 46, 97, 100, 100, 105], 19, 5, 7, 0, (-32), 31, 1, 1, [48, 48, 48, 102, 68, 68, 68, 68, 68, 101, 100, 99, 98, 97, 48, 49]⟩ : PR) op rd rs1 rs2 imm = (mayB op rd rs1 rs2 imm && ((nmB.getD op.toNat [] == [97, 100, 100, 105]) && (!(rd == 0) && ((rd == rs1) && (fromB imm 1 (-32) 31 && !(imm == 0)))))) := by
  cases hm : mayB op rd rs1 rs2 imm
  · simp [fitsB, hm]
  · by_cases ho : op = 19
    · subst ho
      have hs : nmB.getD (19 : Int).toNat [] = [97, 100, 100, 105] := rfl
      have hf : formN 19 = 6 := rfl
      rw [hs]
      have hm2 := hm
      simp only [mayB, hf] at hm2
      simp [regB, needD, needS, needT, numB] at hm2
      rw [Bool.eq_iff_iff]
      simp [fitsB, hm, kindB, fewB, fromB]
      try omega
    · have hs : (nmB.getD op.toNat [] == [97, 100, 100, 105]) = false := nm_ne op rd rs1 rs2 imm 19 [97, 100, 100, 105] hm ho (by decide)
      simp only [fitsB, hm]
      simp only [hs]
      simp [ho]

theorem fit_5 (op rd rs1 rs2 imm : Int) : fitsB (⟨[99, 46, 106, 97, 108], 3, 1, 0, 0, (-2048), 2046, 2, 0, [48, 48, 49, 108, 101, 106, 105, 107, 103, 104, 100, 99, 98, 102, 48, 49]⟩ : PR) op rd rs1 rs2 imm = (mayB op rd rs1 rs2 imm && ((nmB.getD op.toNat [] == [106, 97, 108]) && ((rd == 1) && fromB imm 2 (-2048) 2047))) := by
  cases hm : mayB op rd rs1 rs2 imm
  · simp [fitsB, hm]
  · by_cases ho : op = 3
    · subst ho
      have hs : nmB.getD (3 : Int).toNat [] = [106, 97, 108] := rfl
      have hf : formN 3 = 2 := rfl
      rw [hs]
      have hm2 := hm
      simp only [mayB, hf] at hm2
      simp [regB, needD, needS, needT, numB] at hm2
      rw [Bool.eq_iff_iff]
      simp [fitsB, hm, kindB, fewB, fromB]
      try omega
    · have hs : (nmB.getD op.toNat [] == [106, 97, 108]) = false := nm_ne op rd rs1 rs2 imm 3 [106, 97, 108] hm ho (by decide)
      simp only [fitsB, hm]
      simp only [hs]
      simp [ho]

theorem fit_6 (op rd rs1 rs2 imm : Int) : fitsB (⟨[99, 46, 108, 105], 19, 5, 0, 0, (-32), 31, 1, 0, [48, 49, 48, 102, 68, 68, 68, 68, 68, 101, 100, 99, 98, 97, 48, 49]⟩ : PR) op rd rs1 rs2 imm = (mayB op rd rs1 rs2 imm && ((nmB.getD op.toNat [] == [97, 100, 100, 105]) && (!(rd == 0) && ((rs1 == 0) && fromB imm 1 (-32) 31)))) := by
  cases hm : mayB op rd rs1 rs2 imm
  · simp [fitsB, hm]
  · by_cases ho : op = 19
    · subst ho
      have hs : nmB.getD (19 : Int).toNat [] = [97, 100, 100, 105] := rfl
      have hf : formN 19 = 6 := rfl
      rw [hs]
      have hm2 := hm
      simp only [mayB, hf] at hm2
      simp [regB, needD, needS, needT, numB] at hm2
      rw [Bool.eq_iff_iff]
      simp [fitsB, hm, kindB, fewB, fromB]
      try omega
    · have hs : (nmB.getD op.toNat [] == [97, 100, 100, 105]) = false := nm_ne op rd rs1 rs2 imm 19 [97, 100, 100, 105] hm ho (by decide)
      simp only [fitsB, hm]
      simp only [hs]
      simp [ho]

theorem fit_7 (op rd rs1 rs2 imm : Int) : fitsB (⟨[99, 46, 97, 100, 100, 105, 49, 54, 115, 112], 19, 2, 7, 0, (-512), 496, 16, 1, [48, 49, 49, 106, 48, 48, 48, 49, 48, 101, 103, 105, 104, 102, 48, 49]⟩ : PR) op rd rs1 rs2 imm = (mayB op rd rs1 rs2 imm && ((nmB.getD op.toNat [] == [97, 100, 100, 105]) && ((rd == 2) && ((rs1 == 2) && (fromB imm 16 (-512) 511 && !(imm == 0)))))) := by
  cases hm : mayB op rd rs1 rs2 imm
  · simp [fitsB, hm]
  · by_cases ho : op = 19
    · subst ho
      have hs : nmB.getD (19 : Int).toNat [] = [97, 100, 100, 105] := rfl
      have hf : formN 19 = 6 := rfl
      rw [hs]
      have hm2 := hm
      simp only [mayB, hf] at hm2
      simp [regB, needD, needS, needT, numB] at hm2
      rw [Bool.eq_iff_iff]
      simp [fitsB, hm, kindB, fewB, fromB]
      try omega
    · have hs : (nmB.getD op.toNat [] == [97, 100, 100, 105]) = false := nm_ne op rd rs1 rs2 imm 19 [97, 100, 100, 105] hm ho (by decide)
      simp only [fitsB, hm]
      simp only [hs]
      simp [ho]

theorem fit_8 (op rd rs1 rs2 imm : Int) : fitsB (⟨[99, 46, 108, 117, 105], 1, 6, 0, 0, (-131072), 126976, 4096, 1, [48, 49, 49, 114, 68, 68, 68, 68, 68, 113, 112, 111, 110, 109, 48, 49]⟩ : PR) op rd rs1 rs2 imm = (mayB op rd rs1 rs2 imm && ((nmB.getD op.toNat [] == [108, 117, 105]) && (!(rd == 0) && (!(rd == 2) && (fromB imm 4096 (-131072) 126976 && !(imm == 0)))))) := by
  cases hm : mayB op rd rs1 rs2 imm
  · simp [fitsB, hm]
  · by_cases ho : op = 1
    · subst ho
      have hs : nmB.getD (1 : Int).toNat [] = [108, 117, 105] := rfl
      have hf : formN 1 = 1 := rfl
      rw [hs]
      have hm2 := hm
      simp only [mayB, hf] at hm2
      simp [regB, needD, needS, needT, numB] at hm2
      rw [Bool.eq_iff_iff]
      simp [fitsB, hm, kindB, fewB, fromB]
      try omega
    · have hs : (nmB.getD op.toNat [] == [108, 117, 105]) = false := nm_ne op rd rs1 rs2 imm 1 [108, 117, 105] hm ho (by decide)
      simp only [fitsB, hm]
      simp only [hs]
      simp [ho]

theorem fit_9 (op rd rs1 rs2 imm : Int) : fitsB (⟨[99, 46, 115, 114, 108, 105], 26, 4, 7, 0, 1, 31, 1, 0, [49, 48, 48, 48, 48, 48, 68, 68, 68, 101, 100, 99, 98, 97, 48, 49]⟩ : PR) op rd rs1 rs2 imm = (mayB op rd rs1 rs2 imm && (([99, 46] ++ nmB.getD op.toNat [] == [99, 46, 115, 114, 108, 105]) && (fewB rd && ((rd == rs1) && fromB imm 1 1 31)))) := by
  cases hm : mayB op rd rs1 rs2 imm
  · simp [fitsB, hm]
  · by_cases ho : op = 26
    · subst ho
      have hs : nmB.getD (26 : Int).toNat [] = [115, 114, 108, 105] := rfl
      have hf : formN 26 = 7 := rfl
      rw [hs]
      have hm2 := hm
      simp only [mayB, hf] at hm2
      simp [regB, needD, needS, needT, numB] at hm2
      rw [Bool.eq_iff_iff]
      simp [fitsB, hm, kindB, fewB, fromB]
      try omega
    · have hs : (nmB.getD op.toNat [] == [115, 114, 108, 105]) = false := nm_ne op rd rs1 rs2 imm 26 [115, 114, 108, 105] hm ho (by decide)
      simp only [fitsB, hm]
      have hs2 : ([99, 46] ++ nmB.getD op.toNat [] == [99, 46, 115, 114, 108, 105]) = false := by simpa using hs
      simp only [hs2]
      simp [ho]

theorem fit_10 (op rd rs1 rs2 imm : Int) : fitsB (⟨[99, 46, 115, 114, 97, 105], 27, 4, 7, 0, 1, 31, 1, 0, [49, 48, 48, 48, 48, 49, 68, 68, 68, 101, 100, 99, 98, 97, 48, 49]⟩ : PR) op rd rs1 rs2 imm = (mayB op rd rs1 rs2 imm && (([99, 46] ++ nmB.getD op.toNat [] == [99, 46, 115, 114, 97, 105]) && (fewB rd && ((rd == rs1) && fromB imm 1 1 31)))) := by
  cases hm : mayB op rd rs1 rs2 imm
  · simp [fitsB, hm]
  · by_cases ho : op = 27
    · subst ho
      have hs : nmB.getD (27 : Int).toNat [] = [115, 114, 97, 105] := rfl
      have hf : formN 27 = 7 := rfl
      rw [hs]
      have hm2 := hm
      simp only [mayB, hf] at hm2
      simp [regB, needD, needS, needT, numB] at hm2
      rw [Bool.eq_iff_iff]
      simp [fitsB, hm, kindB, fewB, fromB]
      try omega
    · have hs : (nmB.getD op.toNat [] == [115, 114, 97, 105]) = false := nm_ne op rd rs1 rs2 imm 27 [115, 114, 97, 105] hm ho (by decide)
      simp only [fitsB, hm]
      have hs2 : ([99, 46] ++ nmB.getD op.toNat [] == [99, 46, 115, 114, 97, 105]) = false := by simpa using hs
      simp only [hs2]
      simp [ho]

theorem fit_11 (op rd rs1 rs2 imm : Int) : fitsB (⟨[99, 46, 97, 110, 100, 105], 24, 4, 7, 0, (-32), 31, 1, 0, [49, 48, 48, 102, 49, 48, 68, 68, 68, 101, 100, 99, 98, 97, 48, 49]⟩ : PR) op rd rs1 rs2 imm = (mayB op rd rs1 rs2 imm && ((nmB.getD op.toNat [] == [97, 110, 100, 105]) && (fewB rd && ((rd == rs1) && fromB imm 1 (-32) 31)))) := by
  cases hm : mayB op rd rs1 rs2 imm
  · simp [fitsB, hm]
  · by_cases ho : op = 24
    · subst ho
      have hs : nmB.getD (24 : Int).toNat [] = [97, 110, 100, 105] := rfl
      have hf : formN 24 = 6 := rfl
      rw [hs]
      have hm2 := hm
      simp only [mayB, hf] at hm2
      simp [regB, needD, needS, needT, numB] at hm2
      rw [Bool.eq_iff_iff]
      simp [fitsB, hm, kindB, fewB, fromB]
      try omega
    · have hs : (nmB.getD op.toNat [] == [97, 110, 100, 105]) = false := nm_ne op rd rs1 rs2 imm 24 [97, 110, 100, 105] hm ho (by decide)
      simp only [fitsB, hm]
      simp only [hs]
      simp [ho]

theorem fit_12 (op rd rs1 rs2 imm : Int) : fitsB (⟨[99, 46, 115, 117, 98], 29, 4, 7, 4, 0, 0, 1, 0, [49, 48, 48, 48, 49, 49, 68, 68, 68, 48, 48, 84, 84, 84, 48, 49]⟩ : PR) op rd rs1 rs2 imm = (mayB op rd rs1 rs2 imm && (([99, 46] ++ nmB.getD op.toNat [] == [99, 46, 115, 117, 98]) && (fewB rd && ((rd == rs1) && fewB rs2)))) := by
  cases hm : mayB op rd rs1 rs2 imm
  · simp [fitsB, hm]
  · by_cases ho : op = 29
    · subst ho
      have hs : nmB.getD (29 : Int).toNat [] = [115, 117, 98] := rfl
      have hf : formN 29 = 8 := rfl
      rw [hs]
      have hm2 := hm
      simp only [mayB, hf] at hm2
      simp [regB, needD, needS, needT, numB] at hm2
      rw [Bool.eq_iff_iff]
      simp [fitsB, hm, kindB, fewB, fromB]
      try omega
    · have hs : (nmB.getD op.toNat [] == [115, 117, 98]) = false := nm_ne op rd rs1 rs2 imm 29 [115, 117, 98] hm ho (by decide)
      simp only [fitsB, hm]
      have hs2 : ([99, 46] ++ nmB.getD op.toNat [] == [99, 46, 115, 117, 98]) = false := by simpa using hs
      simp only [hs2]
      simp [ho]

theorem fit_13 (op rd rs1 rs2 imm : Int) : fitsB (⟨[99, 46, 120, 111, 114], 33, 4, 7, 4, 0, 0, 1, 0, [49, 48, 48, 48, 49, 49, 68, 68, 68, 48, 49, 84, 84, 84, 48, 49]⟩ : PR) op rd rs1 rs2 imm = (mayB op rd rs1 rs2 imm && (([99, 46] ++ nmB.getD op.toNat [] == [99, 46, 120, 111, 114]) && (fewB rd && ((rd == rs1) && fewB rs2)))) := by
  cases hm : mayB op rd rs1 rs2 imm
  · simp [fitsB, hm]
  · by_cases ho : op = 33
    · subst ho
      have hs : nmB.getD (33 : Int).toNat [] = [120, 111, 114] := rfl
      have hf : formN 33 = 8 := rfl
      rw [hs]
      have hm2 := hm
      simp only [mayB, hf] at hm2
      simp [regB, needD, needS, needT, numB] at hm2
      rw [Bool.eq_iff_iff]
      simp [fitsB, hm, kindB, fewB, fromB]
      try omega
    · have hs : (nmB.getD op.toNat [] == [120, 111, 114]) = false := nm_ne op rd rs1 rs2 imm 33 [120, 111, 114] hm ho (by decide)
      simp only [fitsB, hm]
      have hs2 : ([99, 46] ++ nmB.getD op.toNat [] == [99, 46, 120, 111, 114]) = false := by simpa using hs
      simp only [hs2]
      simp [ho]

theorem fit_14 (op rd rs1 rs2 imm : Int) : fitsB (⟨[99, 46, 111, 114], 36, 4, 7, 4, 0, 0, 1, 0, [49, 48, 48, 48, 49, 49, 68, 68, 68, 49, 48, 84, 84, 84, 48, 49]⟩ : PR) op rd rs1 rs2 imm = (mayB op rd rs1 rs2 imm && (([99, 46] ++ nmB.getD op.toNat [] == [99, 46, 111, 114]) && (fewB rd && ((rd == rs1) && fewB rs2)))) := by
  cases hm : mayB op rd rs1 rs2 imm
  · simp [fitsB, hm]
  · by_cases ho : op = 36
    · subst ho
      have hs : nmB.getD (36 : Int).toNat [] = [111, 114] := rfl
      have hf : formN 36 = 8 := rfl
      rw [hs]
      have hm2 := hm
      simp only [mayB, hf] at hm2
      simp [regB, needD, needS, needT, numB] at hm2
      rw [Bool.eq_iff_iff]
      simp [fitsB, hm, kindB, fewB, fromB]
      try omega
    · have hs : (nmB.getD op.toNat [] == [111, 114]) = false := nm_ne op rd rs1 rs2 imm 36 [111, 114] hm ho (by decide)
      simp only [fitsB, hm]
      have hs2 : ([99, 46] ++ nmB.getD op.toNat [] == [99, 46, 111, 114]) = false := by simpa using hs
      simp only [hs2]
      simp [ho]

theorem fit_15 (op rd rs1 rs2 imm : Int) : fitsB (⟨[99, 46, 97, 110, 100], 37, 4, 7, 4, 0, 0, 1, 0, [49, 48, 48, 48, 49, 49, 68, 68, 68, 49, 49, 84, 84, 84, 48, 49]⟩ : PR) op rd rs1 rs2 imm = (mayB op rd rs1 rs2 imm && (([99, 46] ++ nmB.getD op.toNat [] == [99, 46, 97, 110, 100]) && (fewB rd && ((rd == rs1) && fewB rs2)))) := by
  cases hm : mayB op rd rs1 rs2 imm
  · simp [fitsB, hm]
  · by_cases ho : op = 37
    · subst ho
      have hs : nmB.getD (37 : Int).toNat [] = [97, 110, 100] := rfl
      have hf : formN 37 = 8 := rfl
      rw [hs]
      have hm2 := hm
      simp only [mayB, hf] at hm2
      simp [regB, needD, needS, needT, numB] at hm2
      rw [Bool.eq_iff_iff]
      simp [fitsB, hm, kindB, fewB, fromB]
      try omega
    · have hs : (nmB.getD op.toNat [] == [97, 110, 100]) = false := nm_ne op rd rs1 rs2 imm 37 [97, 110, 100] hm ho (by decide)
      simp only [fitsB, hm]
      have hs2 : ([99, 46] ++ nmB.getD op.toNat [] == [99, 46, 97, 110, 100]) = false := by simpa using hs
      simp only [hs2]
      simp [ho]

theorem fit_16 (op rd rs1 rs2 imm : Int) : fitsB (⟨[99, 46, 106], 3, 0, 0, 0, (-2048), 2046, 2, 0, [49, 48, 49, 108, 101, 106, 105, 107, 103, 104, 100, 99, 98, 102, 48, 49]⟩ : PR) op rd rs1 rs2 imm = (mayB op rd rs1 rs2 imm && ((nmB.getD op.toNat [] == [106, 97, 108]) && ((rd == 0) && fromB imm 2 (-2048) 2047))) := by
  cases hm : mayB op rd rs1 rs2 imm
  · simp [fitsB, hm]
  · by_cases ho : op = 3
    · subst ho
      have hs : nmB.getD (3 : Int).toNat [] = [106, 97, 108] := rfl
      have hf : formN 3 = 2 := rfl
      rw [hs]
      have hm2 := hm
      simp only [mayB, hf] at hm2
      simp [regB, needD, needS, needT, numB] at hm2
      rw [Bool.eq_iff_iff]
      simp [fitsB, hm, kindB, fewB, fromB]
      try omega
    · have hs : (nmB.getD op.toNat [] == [106, 97, 108]) = false := nm_ne op rd rs1 rs2 imm 3 [106, 97, 108] hm ho (by decide)
      simp only [fitsB, hm]
      simp only [hs]
      simp [ho]

theorem fit_17 (op rd rs1 rs2 imm : Int) : fitsB (⟨[99, 46, 98, 101, 113, 122], 5, 0, 4, 0, (-256), 254, 2, 0, [49, 49, 48, 105, 101, 100, 83, 83, 83, 104, 103, 99, 98, 102, 48, 49]⟩ : PR) op rd rs1 rs2 imm = (mayB op rd rs1 rs2 imm && ((nmB.getD op.toNat [] == [98, 101, 113]) && (fewB rs1 && ((rs2 == 0) && fromB imm 2 (-256) 255)))) := by
  cases hm : mayB op rd rs1 rs2 imm
  · simp [fitsB, hm]
  · by_cases ho : op = 5
    · subst ho
      have hs : nmB.getD (5 : Int).toNat [] = [98, 101, 113] := rfl
      have hf : formN 5 = 3 := rfl
      rw [hs]
      have hm2 := hm
      simp only [mayB, hf] at hm2
      simp [regB, needD, needS, needT, numB] at hm2
      rw [Bool.eq_iff_iff]
      simp [fitsB, hm, kindB, fewB, fromB]
      try omega
    · have hs : (nmB.getD op.toNat [] == [98, 101, 113]) = false := nm_ne op rd rs1 rs2 imm 5 [98, 101, 113] hm ho (by decide)
      simp only [fitsB, hm]
      simp only [hs]
      simp [ho]

theorem fit_18 (op rd rs1 rs2 imm : Int) : fitsB (⟨[99, 46, 98, 110, 101, 122], 6, 0, 4, 0, (-256), 254, 2, 0, [49, 49, 49, 105, 101, 100, 83, 83, 83, 104, 103, 99, 98, 102, 48, 49]⟩ : PR) op rd rs1 rs2 imm = (mayB op rd rs1 rs2 imm && ((nmB.getD op.toNat [] == [98, 110, 101]) && (fewB rs1 && ((rs2 == 0) && fromB imm 2 (-256) 255)))) := by
  cases hm : mayB op rd rs1 rs2 imm
  · simp [fitsB, hm]
  · by_cases ho : op = 6
    · subst ho
      have hs : nmB.getD (6 : Int).toNat [] = [98, 110, 101] := rfl
      have hf : formN 6 = 3 := rfl
      rw [hs]
      have hm2 := hm
      simp only [mayB, hf] at hm2
      simp [regB, needD, needS, needT, numB] at hm2
      rw [Bool.eq_iff_iff]
      simp [fitsB, hm, kindB, fewB, fromB]
      try omega
    · have hs : (nmB.getD op.toNat [] == [98, 110, 101]) = false := nm_ne op rd rs1 rs2 imm 6 [98, 110, 101] hm ho (by decide)
      simp only [fitsB, hm]
      simp only [hs]
      simp [ho]

theorem fit_19 (op rd rs1 rs2 imm : Int) : fitsB (⟨[99, 46, 115, 108, 108, 105], 25, 5, 7, 0, 1, 31, 1, 0, [48, 48, 48, 48, 68, 68, 68, 68, 68, 101, 100, 99, 98, 97, 49, 48]⟩ : PR) op rd rs1 rs2 imm = (mayB op rd rs1 rs2 imm && ((nmB.getD op.toNat [] == [115, 108, 108, 105]) && (!(rd == 0) && ((rd == rs1) && fromB imm 1 1 31)))) := by
  cases hm : mayB op rd rs1 rs2 imm
  · simp [fitsB, hm]
  · by_cases ho : op = 25
    · subst ho
      have hs : nmB.getD (25 : Int).toNat [] = [115, 108, 108, 105] := rfl
      have hf : formN 25 = 7 := rfl
      rw [hs]
      have hm2 := hm
      simp only [mayB, hf] at hm2
      simp [regB, needD, needS, needT, numB] at hm2
      rw [Bool.eq_iff_iff]
      simp [fitsB, hm, kindB, fewB, fromB]
      try omega
    · have hs : (nmB.getD op.toNat [] == [115, 108, 108, 105]) = false := nm_ne op rd rs1 rs2 imm 25 [115, 108, 108, 105] hm ho (by decide)
      simp only [fitsB, hm]
      simp only [hs]
      simp [ho]

theorem fit_20 (op rd rs1 rs2 imm : Int) : fitsB (⟨[99, 46, 108, 119, 115, 112], 13, 5, 2, 0, 0, 252, 4, 0, [48, 49, 48, 102, 68, 68, 68, 68, 68, 101, 100, 99, 104, 103, 49, 48]⟩ : PR) op rd rs1 rs2 imm = (mayB op rd rs1 rs2 imm && ((nmB.getD op.toNat [] == [108, 119]) && (!(rd == 0) && ((rs1 == 2) && fromB imm 4 0 252)))) := by
  cases hm : mayB op rd rs1 rs2 imm
  · simp [fitsB, hm]
  · by_cases ho : op = 13
    · subst ho
      have hs : nmB.getD (13 : Int).toNat [] = [108, 119] := rfl
      have hf : formN 13 = 4 := rfl
      rw [hs]
      have hm2 := hm
      simp only [mayB, hf] at hm2
      simp [regB, needD, needS, needT, numB] at hm2
      rw [Bool.eq_iff_iff]
      simp [fitsB, hm, kindB, fewB, fromB]
      try omega
    · have hs : (nmB.getD op.toNat [] == [108, 119]) = false := nm_ne op rd rs1 rs2 imm 13 [108, 119] hm ho (by decide)
      simp only [fitsB, hm]
      simp only [hs]
      simp [ho]

theorem fit_21 (op rd rs1 rs2 imm : Int) : fitsB (⟨[99, 46, 106, 114], 4, 0, 5, 0, 0, 0, 1, 0, [49, 48, 48, 48, 83, 83, 83, 83, 83, 48, 48, 48, 48, 48, 49, 48]⟩ : PR) op rd rs1 rs2 imm = (mayB op rd rs1 rs2 imm && ((nmB.getD op.toNat [] == [106, 97, 108, 114]) && ((rd == 0) && (!(rs1 == 0) && (imm == 0))))) := by
  cases hm : mayB op rd rs1 rs2 imm
  · simp [fitsB, hm]
  · by_cases ho : op = 4
    · subst ho
      have hs : nmB.getD (4 : Int).toNat [] = [106, 97, 108, 114] := rfl
      have hf : formN 4 = 4 := rfl
      rw [hs]
      have hm2 := hm
      simp only [mayB, hf] at hm2
      simp [regB, needD, needS, needT, numB] at hm2
      rw [Bool.eq_iff_iff]
      simp [fitsB, hm, kindB, fewB, fromB]
      try omega
    · have hs : (nmB.getD op.toNat [] == [106, 97, 108, 114]) = false := nm_ne op rd rs1 rs2 imm 4 [106, 97, 108, 114] hm ho (by decide)
      simp only [fitsB, hm]
      simp only [hs]
      simp [ho]

theorem fit_22 (op rd rs1 rs2 imm : Int) : fitsB (⟨[99, 46, 109, 118], 28, 5, 0, 5, 0, 0, 1, 0, [49, 48, 48, 48, 68, 68, 68, 68, 68, 84, 84, 84, 84, 84, 49, 48]⟩ : PR) op rd rs1 rs2 imm = (mayB op rd rs1 rs2 imm && ((nmB.getD op.toNat [] == [97, 100, 100]) && (!(rd == 0) && ((rs1 == 0) && !(rs2 == 0))))) := by
  cases hm : mayB op rd rs1 rs2 imm
  · simp [fitsB, hm]
  · by_cases ho : op = 28
    · subst ho
      have hs : nmB.getD (28 : Int).toNat [] = [97, 100, 100] := rfl
      have hf : formN 28 = 8 := rfl
      rw [hs]
      have hm2 := hm
      simp only [mayB, hf] at hm2
      simp [regB, needD, needS, needT, numB] at hm2
      rw [Bool.eq_iff_iff]
      simp [fitsB, hm, kindB, fewB, fromB]
      try omega
    · have hs : (nmB.getD op.toNat [] == [97, 100, 100]) = false := nm_ne op rd rs1 rs2 imm 28 [97, 100, 100] hm ho (by decide)
      simp only [fitsB, hm]
      simp only [hs]
      simp [ho]

theorem fit_23 (op rd rs1 rs2 imm : Int) : fitsB (⟨[99, 46, 101, 98, 114, 101, 97, 107], 40, 0, 0, 0, 0, 0, 1, 0, [49, 48, 48, 49, 48, 48, 48, 48, 48, 48, 48, 48, 48, 48, 49, 48]⟩ : PR) op rd rs1 rs2 imm = (mayB op rd rs1 rs2 imm && (nmB.getD op.toNat [] == [101, 98, 114, 101, 97, 107])) := by
  cases hm : mayB op rd rs1 rs2 imm
  · simp [fitsB, hm]
  · by_cases ho : op = 40
    · subst ho
      have hs : nmB.getD (40 : Int).toNat [] = [101, 98, 114, 101, 97, 107] := rfl
      have hf : formN 40 = 9 := rfl
      rw [hs]
      have hm2 := hm
      simp only [mayB, hf] at hm2
      simp [regB, needD, needS, needT, numB] at hm2
      rw [Bool.eq_iff_iff]
      simp [fitsB, hm, kindB, fewB, fromB]
      try omega
    · have hs : (nmB.getD op.toNat [] == [101, 98, 114, 101, 97, 107]) = false := nm_ne op rd rs1 rs2 imm 40 [101, 98, 114, 101, 97, 107] hm ho (by decide)
      simp only [fitsB, hm]
      simp only [hs]
      simp [ho]

theorem fit_24 (op rd rs1 rs2 imm : Int) : fitsB (⟨[99, 46, 106, 97, 108, 114], 4, 1, 5, 0, 0, 0, 1, 0, [49, 48, 48, 49, 83, 83, 83, 83, 83, 48, 48, 48, 48, 48, 49, 48]⟩ : PR) op rd rs1 rs2 imm = (mayB op rd rs1 rs2 imm && ((nmB.getD op.toNat [] == [106, 97, 108, 114]) && ((rd == 1) && (!(rs1 == 0) && (imm == 0))))) := by
  cases hm : mayB op rd rs1 rs2 imm
  · simp [fitsB, hm]
  · by_cases ho : op = 4
    · subst ho
      have hs : nmB.getD (4 : Int).toNat [] = [106, 97, 108, 114] := rfl
      have hf : formN 4 = 4 := rfl
      rw [hs]
      have hm2 := hm
      simp only [mayB, hf] at hm2
      simp [regB, needD, needS, needT, numB] at hm2
      rw [Bool.eq_iff_iff]
      simp [fitsB, hm, kindB, fewB, fromB]
      try omega
    · have hs : (nmB.getD op.toNat [] == [106, 97, 108, 114]) = false := nm_ne op rd rs1 rs2 imm 4 [106, 97, 108, 114] hm ho (by decide)
      simp only [fitsB, hm]
      simp only [hs]
      simp [ho]

theorem fit_25 (op rd rs1 rs2 imm : Int) : fitsB (⟨[99, 46, 97, 100, 100], 28, 5, 7, 5, 0, 0, 1, 0, [49, 48, 48, 49, 68, 68, 68, 68, 68, 84, 84, 84, 84, 84, 49, 48]⟩ : PR) op rd rs1 rs2 imm = (mayB op rd rs1 rs2 imm && ((nmB.getD op.toNat [] == [97, 100, 100]) && (!(rd == 0) && ((rd == rs1) && !(rs2 == 0))))) := by
  cases hm : mayB op rd rs1 rs2 imm
  · simp [fitsB, hm]
  · by_cases ho : op = 28
    · subst ho
      have hs : nmB.getD (28 : Int).toNat [] = [97, 100, 100] := rfl
      have hf : formN 28 = 8 := rfl
      rw [hs]
      have hm2 := hm
      simp only [mayB, hf] at hm2
      simp [regB, needD, needS, needT, numB] at hm2
      rw [Bool.eq_iff_iff]
      simp [fitsB, hm, kindB, fewB, fromB]
      try omega
    · have hs : (nmB.getD op.toNat [] == [97, 100, 100]) = false := nm_ne op rd rs1 rs2 imm 28 [97, 100, 100] hm ho (by decide)
      simp only [fitsB, hm]
      simp only [hs]
      simp [ho]

theorem fit_26 (op rd rs1 rs2 imm : Int) : fitsB (⟨[99, 46, 115, 119, 115, 112], 18, 0, 2, 3, 0, 252, 4, 0, [49, 49, 48, 102, 101, 100, 99, 104, 103, 84, 84, 84, 84, 84, 49, 48]⟩ : PR) op rd rs1 rs2 imm = (mayB op rd rs1 rs2 imm && ((nmB.getD op.toNat [] == [115, 119]) && ((rs1 == 2) && fromB imm 4 0 252))) := by
  cases hm : mayB op rd rs1 rs2 imm
  · simp [fitsB, hm]
  · by_cases ho : op = 18
    · subst ho
      have hs : nmB.getD (18 : Int).toNat [] = [115, 119] := rfl
      have hf : formN 18 = 5 := rfl
      rw [hs]
      have hm2 := hm
      simp only [mayB, hf] at hm2
      simp [regB, needD, needS, needT, numB] at hm2
      rw [Bool.eq_iff_iff]
      simp [fitsB, hm, kindB, fewB, fromB]
      try omega
    · have hs : (nmB.getD op.toNat [] == [115, 119]) = false := nm_ne op rd rs1 rs2 imm 18 [115, 119] hm ho (by decide)
      simp only [fitsB, hm]
      simp only [hs]
      simp [ho]

end Go.Proofs.YtdgmdkkockbkjaaGreatDoor
