/- Contracts of package typecaseref06: Value, operation by operation. -/
import Derived.Test.YtmobkjdbjgopgaaReffc
import Derived.Test.YtmobkjdbjgopgaaReffb
import Derived.Test.YtmobkjdbjgopgaaReffs
import Derived.Test.YtmobkjdbjgopgaaExecc
namespace Go.Proofs.Ytmobkjdbjgopgaa
open Go.RowKit
set_option linter.unusedVariables false
set_option linter.unusedSimpArgs false

set_option maxHeartbeats 400000 in
theorem rone_any (b : Bool) (w : World) : Calls Try.prog 22 #[.bool b] w fun e w' => e = .returned (.int .u32 (if b = true then 1 else 0)) ∧ w = w' := by
  cases b
  all_goals
    go_enter Try.func22, Try.ntmps22
    go_wp2
    go_ret
    exact ⟨rfl, rfl⟩

end Go.Proofs.Ytmobkjdbjgopgaa
