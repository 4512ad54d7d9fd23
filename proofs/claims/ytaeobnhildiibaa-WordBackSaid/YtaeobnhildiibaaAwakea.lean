/- The answers of package word that the document fixes. -/
import Derived.Test.YtaeobnhildiibaaRefa
namespace Go.Proofs.Ytaeobnhildiibaa
open Go.RowKit
set_option linter.unusedVariables false
theorem aw1 : sgn 255 8 = -1 := by decide
theorem aw2 : hi 2048 = 1 := by decide
theorem aw3 : lo 2048 = -2048 := by decide
theorem aw4 : dv 7 0 true = 4294967295 := by decide
theorem aw5 : rm 7 0 false = 7 := by decide
theorem aw6 : fld 43981 4 8 = 188 := by decide
set_option maxHeartbeats 400000 in
theorem awakea_any (w : World) :
    Calls Try.prog 9 #[] w fun e w' => e = .returned (.bool true) ∧ ∃ n, w' = w.drewN n := by
  have h1 := aw1
  have h2 := aw2
  have h3 := aw3
  have h4 := aw4
  have h5 := aw5
  have h6 := aw6
  go_enter Try.func9, Try.ntmps9
  go_wp2_with (first | (go_at_call 15; refine (sign_in _ _ _ (by omega) (by omega) (by omega) (by omega)).mono ?_; rintro e w' ⟨rfl, rfl⟩) | (go_at_call 14; refine (field_in _ _ _ _ (by omega) (by omega) (by omega) (by omega) (by omega) (by omega)).mono ?_; rintro e w' ⟨rfl, rfl⟩) | (go_at_call 10; refine (hi_any _ _ (by omega) (by omega)).mono ?_; rintro e w' ⟨rfl, rfl⟩) | (go_at_call 12; refine (lo_any _ _ (by omega) (by omega)).mono ?_; rintro e w' ⟨rfl, rfl⟩) | (go_at_call 18; refine (div_any _ _ _ _ (by omega) (by omega) (by omega) (by omega)).mono ?_; rintro e w' ⟨rfl, n, rfl⟩) | (go_at_call 19; refine (rem_any _ _ _ _ (by omega) (by omega) (by omega) (by omega)).mono ?_; rintro e w' ⟨rfl, n, rfl⟩))
  go_ret
  exact ⟨rfl, _, rfl⟩
end Go.Proofs.Ytaeobnhildiibaa
