/- Contracts of package typecaseref05: the fields that are asked for. -/
import Derived.Test.YtcdjabfhmhibjaaRefeb
namespace Go.Proofs.Ytcdjabfhmhibjaa
open Go.RowKit
set_option linter.unusedVariables false
set_option linter.unusedSimpArgs false

theorem ef_11_7 (x v : Int) (w : World) (hx : 0 ≤ x) (hx' : x < 65536) (hv : fld x 7 5 = v) :
    Calls Try.prog 27 #[.int .u32 x, .int .i64 11, .int .i64 7] w fun e w' => e = .returned (.int .i64 v) ∧ w = w' :=
  efield_v x 11 7 5 v w hx hx' (by decide) (by decide) (by decide) (by decide) rfl hv

theorem ef_6_2 (x v : Int) (w : World) (hx : 0 ≤ x) (hx' : x < 65536) (hv : fld x 2 5 = v) :
    Calls Try.prog 27 #[.int .u32 x, .int .i64 6, .int .i64 2] w fun e w' => e = .returned (.int .i64 v) ∧ w = w' :=
  efield_v x 6 2 5 v w hx hx' (by decide) (by decide) (by decide) (by decide) rfl hv

theorem ef_12_12 (x v : Int) (w : World) (hx : 0 ≤ x) (hx' : x < 65536) (hv : fld x 12 1 = v) :
    Calls Try.prog 27 #[.int .u32 x, .int .i64 12, .int .i64 12] w fun e w' => e = .returned (.int .i64 v) ∧ w = w' :=
  efield_v x 12 12 1 v w hx hx' (by decide) (by decide) (by decide) (by decide) rfl hv

theorem ef_15_13 (x v : Int) (w : World) (hx : 0 ≤ x) (hx' : x < 65536) (hv : fld x 13 3 = v) :
    Calls Try.prog 27 #[.int .u32 x, .int .i64 15, .int .i64 13] w fun e w' => e = .returned (.int .i64 v) ∧ w = w' :=
  efield_v x 15 13 3 v w hx hx' (by decide) (by decide) (by decide) (by decide) rfl hv

theorem ef_11_10 (x v : Int) (w : World) (hx : 0 ≤ x) (hx' : x < 65536) (hv : fld x 10 2 = v) :
    Calls Try.prog 27 #[.int .u32 x, .int .i64 11, .int .i64 10] w fun e w' => e = .returned (.int .i64 v) ∧ w = w' :=
  efield_v x 11 10 2 v w hx hx' (by decide) (by decide) (by decide) (by decide) rfl hv

theorem ef_6_5 (x v : Int) (w : World) (hx : 0 ≤ x) (hx' : x < 65536) (hv : fld x 5 2 = v) :
    Calls Try.prog 27 #[.int .u32 x, .int .i64 6, .int .i64 5] w fun e w' => e = .returned (.int .i64 v) ∧ w = w' :=
  efield_v x 6 5 2 v w hx hx' (by decide) (by decide) (by decide) (by decide) rfl hv

end Go.Proofs.Ytcdjabfhmhibjaa
