/- Parts of the proof, one behind the other. -/
import Derived.Test.YtndpgakjpokllaaGreatZtag
/- Plain: what package wide computes is the plain decoding. -/
namespace Go.Proofs.YtndpgakjpokllaaGreat
open Go.RowKit
set_option linter.unusedVariables false

theorem immI_eq (x : Int) : immI x = jI x := by
  unfold immI jI vI; congr 1; simp [runsVW, rsI, runVW, fld]; omega

theorem immS_eq (x : Int) : immS x = jS x := by
  unfold immS jS vS; congr 1; simp [runsVW, rsSW, runVW, fld]; omega

theorem immB_eq (x : Int) : immB x = jB x := by
  unfold immB jB vB; congr 1; simp [runsVW, rsBW, runVW, fld]; omega

theorem immU_eq (x : Int) : immU x = jU x := by
  unfold immU jU vU; congr 1; simp [runsVW, rsUW, runVW, fld]; omega

theorem immJ_eq (x : Int) : immJ x = jJ x := by
  unfold immJ jJ vJ; congr 1; simp [runsVW, rsJW, runVW, fld]; omega

theorem fldv (x : Int) : fld x 0 7 = x % 128 ∧ fld x 7 5 = x / 128 % 32 ∧ fld x 12 3 = x / 4096 % 8 ∧ fld x 15 5 = x / 32768 % 32 ∧ fld x 20 5 = x / 1048576 % 32 ∧ fld x 25 7 = x / 33554432 % 128 := by
  simp [fld]

theorem dec_eq (x : Int) : dec x = decP x := by
  obtain ⟨e1, e2, e3, e4, e5, e6⟩ := fldv x
  unfold dec decP
  rw [e1, e2, e3, e4, e5, e6, immI_eq, immS_eq, immB_eq, immU_eq, immJ_eq]

end Go.Proofs.YtndpgakjpokllaaGreat

