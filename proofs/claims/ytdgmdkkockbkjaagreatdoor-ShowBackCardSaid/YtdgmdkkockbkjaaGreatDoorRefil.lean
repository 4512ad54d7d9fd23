/- What the document asks of an instruction, by the short. -/
import Derived.Test.YtdgmdkkockbkjaaGreatDoorRefia
namespace Go.Proofs.YtdgmdkkockbkjaaGreatDoor
open Go.RowKit
set_option linter.unusedVariables false
set_option linter.unusedSimpArgs false

/-- What the document asks of an instruction, by the short. -/
def refL (s : List UInt8) (rd rs1 rs2 imm : Int) : List Bool := [
  ((s == [97, 100, 100, 105]) && (fewB rd && ((rs1 == 2) && fromB imm 4 4 1020))),
  ((s == [108, 119]) && (fewB rd && (fewB rs1 && fromB imm 4 0 124))),
  ((s == [115, 119]) && (fewB rs1 && (fewB rs2 && fromB imm 4 0 124))),
  ((s == [97, 100, 100, 105]) && ((rd == 0) && ((rs1 == 0) && (imm == 0)))),
  ((s == [97, 100, 100, 105]) && (!(rd == 0) && ((rd == rs1) && (fromB imm 1 (-32) 31 && !(imm == 0))))),
  ((s == [106, 97, 108]) && ((rd == 1) && fromB imm 2 (-2048) 2047)),
  ((s == [97, 100, 100, 105]) && (!(rd == 0) && ((rs1 == 0) && fromB imm 1 (-32) 31))),
  ((s == [97, 100, 100, 105]) && ((rd == 2) && ((rs1 == 2) && (fromB imm 16 (-512) 511 && !(imm == 0))))),
  ((s == [108, 117, 105]) && (!(rd == 0) && (!(rd == 2) && (fromB imm 4096 (-131072) 126976 && !(imm == 0))))),
  (([99, 46] ++ s == [99, 46, 115, 114, 108, 105]) && (fewB rd && ((rd == rs1) && fromB imm 1 1 31))),
  (([99, 46] ++ s == [99, 46, 115, 114, 97, 105]) && (fewB rd && ((rd == rs1) && fromB imm 1 1 31))),
  ((s == [97, 110, 100, 105]) && (fewB rd && ((rd == rs1) && fromB imm 1 (-32) 31))),
  (([99, 46] ++ s == [99, 46, 115, 117, 98]) && (fewB rd && ((rd == rs1) && fewB rs2))),
  (([99, 46] ++ s == [99, 46, 120, 111, 114]) && (fewB rd && ((rd == rs1) && fewB rs2))),
  (([99, 46] ++ s == [99, 46, 111, 114]) && (fewB rd && ((rd == rs1) && fewB rs2))),
  (([99, 46] ++ s == [99, 46, 97, 110, 100]) && (fewB rd && ((rd == rs1) && fewB rs2))),
  ((s == [106, 97, 108]) && ((rd == 0) && fromB imm 2 (-2048) 2047)),
  ((s == [98, 101, 113]) && (fewB rs1 && ((rs2 == 0) && fromB imm 2 (-256) 255))),
  ((s == [98, 110, 101]) && (fewB rs1 && ((rs2 == 0) && fromB imm 2 (-256) 255))),
  ((s == [115, 108, 108, 105]) && (!(rd == 0) && ((rd == rs1) && fromB imm 1 1 31))),
  ((s == [108, 119]) && (!(rd == 0) && ((rs1 == 2) && fromB imm 4 0 252))),
  ((s == [106, 97, 108, 114]) && ((rd == 0) && (!(rs1 == 0) && (imm == 0)))),
  ((s == [97, 100, 100]) && (!(rd == 0) && ((rs1 == 0) && !(rs2 == 0)))),
  (s == [101, 98, 114, 101, 97, 107]),
  ((s == [106, 97, 108, 114]) && ((rd == 1) && (!(rs1 == 0) && (imm == 0)))),
  ((s == [97, 100, 100]) && (!(rd == 0) && ((rd == rs1) && !(rs2 == 0)))),
  ((s == [115, 119]) && ((rs1 == 2) && fromB imm 4 0 252))]

def refB (l s : List UInt8) (rd rs1 rs2 imm : Int) : Bool := (refL s rd rs1 rs2 imm).getD (shB.idxOf l) false

def rFitB (l : List UInt8) (op rd rs1 rs2 imm : Int) : Bool := mayB op rd rs1 rs2 imm && refB l (nmB.getD op.toNat []) rd rs1 rs2 imm

theorem may_nm (op rd rs1 rs2 imm : Int) (h : mayB op rd rs1 rs2 imm = true) : ∃ k : Nat, op = k ∧ k < 49 ∧ nmB[k]? = some (nmB.getD op.toNat []) := by
  have hf : formN op ≠ 0 := by
    intro e
    simp [mayB, e] at h
  have hk : op.toNat < 49 := by
    by_cases hl : op.toNat < 49
    · exact hl
    · exact absurd (by unfold formN; rw [List.getD_eq_getElem?_getD, List.getElem?_eq_none (by show 49 ≤ op.toNat; omega)]; rfl) hf
  have h0 : 0 < op := by
    rcases Int.lt_or_le 0 op with h1 | h1
    · exact h1
    · exact absurd (by unfold formN; rw [show op.toNat = 0 by omega]; rfl) hf
  refine ⟨op.toNat, by omega, hk, ?_⟩
  rw [List.getD_eq_getElem?_getD, List.getElem?_eq_getElem (show op.toNat < nmB.length from hk)]
  rfl

theorem bytes_eq {nm : ByteArray} {l : List UInt8} (h : nm.toList = l) : nm = B l := by
  have : nm.data.toList = l := by rw [← h, ByteArray.toList_eq]
  cases nm
  subst this
  simp [B]

end Go.Proofs.YtdgmdkkockbkjaaGreatDoor
