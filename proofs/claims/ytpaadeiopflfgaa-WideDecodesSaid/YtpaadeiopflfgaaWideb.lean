/- Contracts of package wide: a word's parts, its operation, its instruction. -/
import Derived.Test.YtpaadeiopflfgaaWide
import Derived.Test.YtpaadeiopflfgaaDec
import Derived.Test.YtpaadeiopflfgaaQuiet
namespace Go.Proofs.Ytpaadeiopflfgaa
open Go.RowKit
set_option linter.unusedVariables false

set_option maxHeartbeats 400000 in
theorem split_any (x : Int) (w : World) (hx : 0 ≤ x) (hx' : x < 4294967296) :
    Calls Try.prog 30 #[.int .u32 x] w fun e w' => e = .returned (.agg #[.int .u32 (fld x 0 7), .int .u32 (fld x 12 3), .int .u32 (fld x 25 7), .int .i64 (fld x 7 5), .int .i64 (fld x 15 5), .int .i64 (fld x 20 5)]) ∧ Nx w w' := by
  have a1 := fld_nonneg x 7 5
  have a2 := fld_u32 x 7 5 (by omega)
  have b1 := fld_nonneg x 15 5
  have b2 := fld_u32 x 15 5 (by omega)
  have c1 := fld_nonneg x 20 5
  have c2 := fld_u32 x 20 5 (by omega)
  go_enter Try.func30, Try.ntmps30
  go_wp2_with (go_at_call 42; refine (field_in _ _ _ _ hx hx' (by omega) (by omega) (by omega) (by omega)).mono ?_; rintro e w' ⟨rfl, rfl⟩)
  refine bodyPost_ret (v := .agg #[.int .u32 (fld x 0 7), .int .u32 (fld x 12 3), .int .u32 (fld x 25 7), .int .i64 (fld x 7 5), .int .i64 (fld x 15 5), .int .i64 (fld x 20 5)]) (by simp [results, Try.results30, go_sem]) rfl ⟨rfl, ?_⟩
  exact (Nx.refl _).alloc _

set_option maxHeartbeats 400000 in
theorem branch_any (f : Int) (w : World) : Calls Try.prog 31 #[.int .u32 f] w fun e w' => e = .returned (.int .i64 (brOp f)) ∧ w = w' := by
  go_enter Try.func31, Try.ntmps31
  go_wp2
  all_goals
    go_ret
    exact ⟨ret_i64 (by unfold brOp; simp_all), rfl⟩

set_option maxHeartbeats 400000 in
theorem store_any (f : Int) (w : World) : Calls Try.prog 32 #[.int .u32 f] w fun e w' => e = .returned (.int .i64 (stOp f)) ∧ w = w' := by
  go_enter Try.func32, Try.ntmps32
  go_wp2
  all_goals
    go_ret
    exact ⟨ret_i64 (by unfold stOp; simp_all), rfl⟩

set_option maxHeartbeats 400000 in
theorem reckoning_any (f : Int) (w : World) : Calls Try.prog 45 #[.int .u32 f] w fun e w' => e = .returned (.int .i64 (reOp f)) ∧ w = w' := by
  go_enter Try.func45, Try.ntmps45
  go_wp2
  all_goals
    go_ret
    exact ⟨ret_i64 (by unfold reOp; simp_all), rfl⟩

set_option maxHeartbeats 400000 in
theorem number_any (o f : Int) (w : World) : Calls Try.prog 34 #[.int .u32 o, .int .u32 f] w fun e w' => e = .returned (.int .i64 (nuOp o f)) ∧ w = w' := by
  go_enter Try.func34, Try.ntmps34
  go_wp2_with (go_at_call 45; refine (reckoning_any _ _).mono ?_; rintro e w' ⟨rfl, rfl⟩)
  all_goals
    go_ret
    exact ⟨ret_i64 (by unfold nuOp ldOp; simp_all), rfl⟩

set_option maxHeartbeats 400000 in
theorem shift_any (f g : Int) (w : World) : Calls Try.prog 33 #[.int .u32 f, .int .u32 g] w fun e w' => e = .returned (.int .i64 (shOp f g)) ∧ w = w' := by
  go_enter Try.func33, Try.ntmps33
  go_wp2
  all_goals
    go_ret
    exact ⟨ret_i64 (by unfold shOp; simp_all), rfl⟩

set_option maxHeartbeats 400000 in
theorem plain_any (f : Int) (w : World) : Calls Try.prog 46 #[.int .u32 f] w fun e w' => e = .returned (.int .i64 (plOp f)) ∧ w = w' := by
  go_enter Try.func46, Try.ntmps46
  go_wp2
  all_goals
    go_ret
    exact ⟨ret_i64 (by unfold plOp; simp_all), rfl⟩

set_option maxHeartbeats 400000 in
theorem register_any (f g : Int) (w : World) (hf : 0 ≤ f) (hf' : f < 4294967296) : Calls Try.prog 35 #[.int .u32 f, .int .u32 g] w fun e w' => e = .returned (.int .i64 (rgOp f g)) ∧ w = w' := by
  go_enter Try.func35, Try.ntmps35
  go_wp2_with (go_at_call 46; refine (plain_any _ _).mono ?_; rintro e w' ⟨rfl, rfl⟩)
  all_goals
    go_ret
    exact ⟨ret_i64 (by unfold rgOp; simp_all), rfl⟩

set_option maxHeartbeats 400000 in
theorem bare_any (x o f g a b c : Int) (w : World) : Calls Try.prog 36 #[.int .u32 x, .agg #[.int .u32 o, .int .u32 f, .int .u32 g, .int .i64 a, .int .i64 b, .int .i64 c]] w fun e w' => e = .returned (.int .i64 (baOp x o f)) ∧ Nx w w' := by
  go_enter Try.func36, Try.ntmps36
  go_wp2
  all_goals
    go_ret
    exact ⟨ret_i64 (by unfold baOp; simp_all), (Nx.refl _).alloc _⟩

end Go.Proofs.Ytpaadeiopflfgaa
