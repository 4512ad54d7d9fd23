/- The walk of the law WideNumbers. -/
import Derived.Test.YtpaadeiopflfgaaAwaked
import Derived.Test.YtpaadeiopflfgaaPlainf
namespace Go.Proofs.Ytpaadeiopflfgaa
open Go.RowKit
set_option linter.unusedVariables false

set_option maxHeartbeats 1000000 in
theorem WideNumbers_walk (x : Int) (w0 : (Lit.int .u32 x).wf = true) (w : World) :
    Calls Try.prog 4 #[.int .u32 x] w fun e w' => e = .returned (.bool true) ∧ Nx w w' := by
  obtain ⟨hx, hx'⟩ := bounds_u32 w0
  clear w0
  have hx2 : x < 4294967296 := by omega
  have eI := rimmI_eq x
  have eS := rimmS_eq x
  have eB := rimmB_eq x
  have eU := rimmU_eq x
  have eJ := rimmJ_eq x
  have hb := Lib.hid (Nx.refl w)
  go_enter Try.func4, Try.ntmps4
  go_wp2_with (first | (go_at_call 7; refine (awaked_any _).mono ?_; rintro e w' ⟨rfl, hn⟩; replace hb := Lib.hid (hb.out.trans hn); clear hn) | (go_at_call 11; refine (immI_any _ _ hx hx2).mono ?_; rintro e w' ⟨rfl, hn⟩; replace hb := Lib.hid (hb.out.trans hn); clear hn) | (go_at_call 12; refine (rimmI_any _ _ hx hx2).mono ?_; rintro e w' ⟨rfl, hn⟩; replace hb := Lib.hid (hb.out.trans hn); clear hn) | (go_at_call 13; refine (immS_any _ _ hx hx2).mono ?_; rintro e w' ⟨rfl, hn⟩; replace hb := Lib.hid (hb.out.trans hn); clear hn) | (go_at_call 14; refine (rimmS_any _ _ hx hx2).mono ?_; rintro e w' ⟨rfl, hn⟩; replace hb := Lib.hid (hb.out.trans hn); clear hn) | (go_at_call 15; refine (immB_any _ _ hx hx2).mono ?_; rintro e w' ⟨rfl, hn⟩; replace hb := Lib.hid (hb.out.trans hn); clear hn) | (go_at_call 16; refine (rimmB_any _ _ hx hx2).mono ?_; rintro e w' ⟨rfl, hn⟩; replace hb := Lib.hid (hb.out.trans hn); clear hn) | (go_at_call 17; refine (immU_any _ _ hx hx2).mono ?_; rintro e w' ⟨rfl, hn⟩; replace hb := Lib.hid (hb.out.trans hn); clear hn) | (go_at_call 18; refine (rimmU_any _ _ hx hx2).mono ?_; rintro e w' ⟨rfl, hn⟩; replace hb := Lib.hid (hb.out.trans hn); clear hn) | (go_at_call 19; refine (immJ_any _ _ hx hx2).mono ?_; rintro e w' ⟨rfl, hn⟩; replace hb := Lib.hid (hb.out.trans hn); clear hn) | (go_at_call 20; refine (rimmJ_any _ _ hx hx2).mono ?_; rintro e w' ⟨rfl, hn⟩; replace hb := Lib.hid (hb.out.trans hn); clear hn))
  go_ret
  exact ⟨rfl, hb.out⟩

end Go.Proofs.Ytpaadeiopflfgaa
