/- Parts of the proof, one behind the other. -/
import Derived.Deep.RegionHeld3
import Derived.Test.YtndpgakjpokllaaGreatZsao
/- Contracts of package typecaseref05: sums. -/
namespace Go.Proofs.YtndpgakjpokllaaGreat
open Go.RowKit
set_option linter.unusedVariables false
set_option linter.unusedSimpArgs false

set_option maxHeartbeats 1000000 in
theorem sums_00 (x n6 Lv : Int) (w : World) (hx : 0 ≤ x) (hx' : x < 65536) (hb : fld x 12 1 = 0) (hk : fld x 10 2 = 0) :
    Calls Tryz.prog 82 #[.int .u32 x, .int .i32 n6] w fun e w' => e = .returned (insV (recI (8 + fld x 7 3) (8 + fld x 2 3) 0 n6 (fld x 2 5) 0 Lv)) ∧ Nx w w' := by
  have p0 := fld_nonneg x 2 5
  have p1 : fld x 2 5 < 32 := fld_lt x 2 5
  have g0 := fld_nonneg x 7 3
  have g1 : fld x 7 3 < 8 := fld_lt x 7 3
  have k0 := fld_nonneg x 2 3
  have k1 : fld x 2 3 < 8 := fld_lt x 2 3
  go_enter Tryz.func82, Tryz.ntmps82
  go_wp2_with fail
  refine (efew_any _ _ _ hx hx' (by decide) (by decide)).mono ?_
  rintro e w' ⟨rfl, rfl⟩
  go_wp2_with fail
  refine (ef_6_2 x (fld x 2 5) _ hx hx' rfl).mono ?_
  rintro e w' ⟨rfl, rfl⟩
  go_wp2_with fail
  refine (ef_12_12 x _ _ hx hx' hb).mono ?_
  rintro e w' ⟨rfl, rfl⟩
  go_wp2_with fail
  refine (ef_11_10 x _ _ hx hx' hk).mono ?_
  rintro e w' ⟨rfl, rfl⟩
  go_wp2
  refine bodyPost_ret (v := insV (recI (8 + fld x 7 3) (8 + fld x 2 3) 0 n6 (fld x 2 5) 0 Lv)) (by simp [results, Tryz.results82, go_sem, insV, recI, none5]) rfl ⟨rfl, ?_⟩
  repeat (with_reducible first | exact Nx.refl _ | refine Nx.drew ?_ | refine Nx.drewN ?_ _ | refine Nx.alloc ?_ _ | refine Nx.setCell ?_ (Nat.le_refl _) _)

set_option maxHeartbeats 1000000 in
theorem sums_01 (x n6 Lv : Int) (w : World) (hx : 0 ≤ x) (hx' : x < 65536) (hb : fld x 12 1 = 0) (hk : fld x 10 2 = 1) :
    Calls Tryz.prog 82 #[.int .u32 x, .int .i32 n6] w fun e w' => e = .returned (insV (recI (8 + fld x 7 3) (8 + fld x 2 3) 0 n6 (fld x 2 5) 1 Lv)) ∧ Nx w w' := by
  have p0 := fld_nonneg x 2 5
  have p1 : fld x 2 5 < 32 := fld_lt x 2 5
  have g0 := fld_nonneg x 7 3
  have g1 : fld x 7 3 < 8 := fld_lt x 7 3
  have k0 := fld_nonneg x 2 3
  have k1 : fld x 2 3 < 8 := fld_lt x 2 3
  go_enter Tryz.func82, Tryz.ntmps82
  go_wp2_with fail
  refine (efew_any _ _ _ hx hx' (by decide) (by decide)).mono ?_
  rintro e w' ⟨rfl, rfl⟩
  go_wp2_with fail
  refine (ef_6_2 x (fld x 2 5) _ hx hx' rfl).mono ?_
  rintro e w' ⟨rfl, rfl⟩
  go_wp2_with fail
  refine (ef_12_12 x _ _ hx hx' hb).mono ?_
  rintro e w' ⟨rfl, rfl⟩
  go_wp2_with fail
  refine (ef_11_10 x _ _ hx hx' hk).mono ?_
  rintro e w' ⟨rfl, rfl⟩
  go_wp2
  refine bodyPost_ret (v := insV (recI (8 + fld x 7 3) (8 + fld x 2 3) 0 n6 (fld x 2 5) 1 Lv)) (by simp [results, Tryz.results82, go_sem, insV, recI, none5]) rfl ⟨rfl, ?_⟩
  repeat (with_reducible first | exact Nx.refl _ | refine Nx.drew ?_ | refine Nx.drewN ?_ _ | refine Nx.alloc ?_ _ | refine Nx.setCell ?_ (Nat.le_refl _) _)

set_option maxHeartbeats 1000000 in
theorem sums_02 (x n6 Lv : Int) (w : World) (hx : 0 ≤ x) (hx' : x < 65536) (hb : fld x 12 1 = 0) (hk : fld x 10 2 = 2) :
    Calls Tryz.prog 82 #[.int .u32 x, .int .i32 n6] w fun e w' => e = .returned (insV (recI (8 + fld x 7 3) (8 + fld x 2 3) 0 n6 (fld x 2 5) 2 Lv)) ∧ Nx w w' := by
  have p0 := fld_nonneg x 2 5
  have p1 : fld x 2 5 < 32 := fld_lt x 2 5
  have g0 := fld_nonneg x 7 3
  have g1 : fld x 7 3 < 8 := fld_lt x 7 3
  have k0 := fld_nonneg x 2 3
  have k1 : fld x 2 3 < 8 := fld_lt x 2 3
  go_enter Tryz.func82, Tryz.ntmps82
  go_wp2_with fail
  refine (efew_any _ _ _ hx hx' (by decide) (by decide)).mono ?_
  rintro e w' ⟨rfl, rfl⟩
  go_wp2_with fail
  refine (ef_6_2 x (fld x 2 5) _ hx hx' rfl).mono ?_
  rintro e w' ⟨rfl, rfl⟩
  go_wp2_with fail
  refine (ef_12_12 x _ _ hx hx' hb).mono ?_
  rintro e w' ⟨rfl, rfl⟩
  go_wp2_with fail
  refine (ef_11_10 x _ _ hx hx' hk).mono ?_
  rintro e w' ⟨rfl, rfl⟩
  go_wp2
  refine bodyPost_ret (v := insV (recI (8 + fld x 7 3) (8 + fld x 2 3) 0 n6 (fld x 2 5) 2 Lv)) (by simp [results, Tryz.results82, go_sem, insV, recI, none5]) rfl ⟨rfl, ?_⟩
  repeat (with_reducible first | exact Nx.refl _ | refine Nx.drew ?_ | refine Nx.drewN ?_ _ | refine Nx.alloc ?_ _ | refine Nx.setCell ?_ (Nat.le_refl _) _)

set_option maxHeartbeats 1000000 in
theorem sums_10 (x n6 Lv : Int) (w : World) (hx : 0 ≤ x) (hx' : x < 65536) (hb : fld x 12 1 = 1) (hk : fld x 10 2 = 0) :
    Calls Tryz.prog 82 #[.int .u32 x, .int .i32 n6] w fun e w' => e = .returned (insV (recI (8 + fld x 7 3) (8 + fld x 2 3) 1 n6 (fld x 2 5) 0 Lv)) ∧ Nx w w' := by
  have p0 := fld_nonneg x 2 5
  have p1 : fld x 2 5 < 32 := fld_lt x 2 5
  have g0 := fld_nonneg x 7 3
  have g1 : fld x 7 3 < 8 := fld_lt x 7 3
  have k0 := fld_nonneg x 2 3
  have k1 : fld x 2 3 < 8 := fld_lt x 2 3
  go_enter Tryz.func82, Tryz.ntmps82
  go_wp2_with fail
  refine (efew_any _ _ _ hx hx' (by decide) (by decide)).mono ?_
  rintro e w' ⟨rfl, rfl⟩
  go_wp2_with fail
  refine (ef_6_2 x (fld x 2 5) _ hx hx' rfl).mono ?_
  rintro e w' ⟨rfl, rfl⟩
  go_wp2_with fail
  refine (ef_12_12 x _ _ hx hx' hb).mono ?_
  rintro e w' ⟨rfl, rfl⟩
  go_wp2_with fail
  refine (ef_11_10 x _ _ hx hx' hk).mono ?_
  rintro e w' ⟨rfl, rfl⟩
  go_wp2
  refine bodyPost_ret (v := insV (recI (8 + fld x 7 3) (8 + fld x 2 3) 1 n6 (fld x 2 5) 0 Lv)) (by simp [results, Tryz.results82, go_sem, insV, recI, none5]) rfl ⟨rfl, ?_⟩
  repeat (with_reducible first | exact Nx.refl _ | refine Nx.drew ?_ | refine Nx.drewN ?_ _ | refine Nx.alloc ?_ _ | refine Nx.setCell ?_ (Nat.le_refl _) _)

set_option maxHeartbeats 1000000 in
theorem sums_11 (x n6 Lv : Int) (w : World) (hx : 0 ≤ x) (hx' : x < 65536) (hb : fld x 12 1 = 1) (hk : fld x 10 2 = 1) :
    Calls Tryz.prog 82 #[.int .u32 x, .int .i32 n6] w fun e w' => e = .returned (insV (recI (8 + fld x 7 3) (8 + fld x 2 3) 1 n6 (fld x 2 5) 1 Lv)) ∧ Nx w w' := by
  have p0 := fld_nonneg x 2 5
  have p1 : fld x 2 5 < 32 := fld_lt x 2 5
  have g0 := fld_nonneg x 7 3
  have g1 : fld x 7 3 < 8 := fld_lt x 7 3
  have k0 := fld_nonneg x 2 3
  have k1 : fld x 2 3 < 8 := fld_lt x 2 3
  go_enter Tryz.func82, Tryz.ntmps82
  go_wp2_with fail
  refine (efew_any _ _ _ hx hx' (by decide) (by decide)).mono ?_
  rintro e w' ⟨rfl, rfl⟩
  go_wp2_with fail
  refine (ef_6_2 x (fld x 2 5) _ hx hx' rfl).mono ?_
  rintro e w' ⟨rfl, rfl⟩
  go_wp2_with fail
  refine (ef_12_12 x _ _ hx hx' hb).mono ?_
  rintro e w' ⟨rfl, rfl⟩
  go_wp2_with fail
  refine (ef_11_10 x _ _ hx hx' hk).mono ?_
  rintro e w' ⟨rfl, rfl⟩
  go_wp2
  refine bodyPost_ret (v := insV (recI (8 + fld x 7 3) (8 + fld x 2 3) 1 n6 (fld x 2 5) 1 Lv)) (by simp [results, Tryz.results82, go_sem, insV, recI, none5]) rfl ⟨rfl, ?_⟩
  repeat (with_reducible first | exact Nx.refl _ | refine Nx.drew ?_ | refine Nx.drewN ?_ _ | refine Nx.alloc ?_ _ | refine Nx.setCell ?_ (Nat.le_refl _) _)

set_option maxHeartbeats 1000000 in
theorem sums_12 (x n6 Lv : Int) (w : World) (hx : 0 ≤ x) (hx' : x < 65536) (hb : fld x 12 1 = 1) (hk : fld x 10 2 = 2) :
    Calls Tryz.prog 82 #[.int .u32 x, .int .i32 n6] w fun e w' => e = .returned (insV (recI (8 + fld x 7 3) (8 + fld x 2 3) 1 n6 (fld x 2 5) 2 Lv)) ∧ Nx w w' := by
  have p0 := fld_nonneg x 2 5
  have p1 : fld x 2 5 < 32 := fld_lt x 2 5
  have g0 := fld_nonneg x 7 3
  have g1 : fld x 7 3 < 8 := fld_lt x 7 3
  have k0 := fld_nonneg x 2 3
  have k1 : fld x 2 3 < 8 := fld_lt x 2 3
  go_enter Tryz.func82, Tryz.ntmps82
  go_wp2_with fail
  refine (efew_any _ _ _ hx hx' (by decide) (by decide)).mono ?_
  rintro e w' ⟨rfl, rfl⟩
  go_wp2_with fail
  refine (ef_6_2 x (fld x 2 5) _ hx hx' rfl).mono ?_
  rintro e w' ⟨rfl, rfl⟩
  go_wp2_with fail
  refine (ef_12_12 x _ _ hx hx' hb).mono ?_
  rintro e w' ⟨rfl, rfl⟩
  go_wp2_with fail
  refine (ef_11_10 x _ _ hx hx' hk).mono ?_
  rintro e w' ⟨rfl, rfl⟩
  go_wp2
  refine bodyPost_ret (v := insV (recI (8 + fld x 7 3) (8 + fld x 2 3) 1 n6 (fld x 2 5) 2 Lv)) (by simp [results, Tryz.results82, go_sem, insV, recI, none5]) rfl ⟨rfl, ?_⟩
  repeat (with_reducible first | exact Nx.refl _ | refine Nx.drew ?_ | refine Nx.drewN ?_ _ | refine Nx.alloc ?_ _ | refine Nx.setCell ?_ (Nat.le_refl _) _)

set_option maxHeartbeats 1000000 in
theorem sums_13 (x n6 Lv : Int) (w : World) (hx : 0 ≤ x) (hx' : x < 65536) (hb : fld x 12 1 = 1) (hk : fld x 10 2 = 3) :
    Calls Tryz.prog 82 #[.int .u32 x, .int .i32 n6] w fun e w' => e = .returned (insV (recI (8 + fld x 7 3) (8 + fld x 2 3) 1 n6 (fld x 2 5) 3 Lv)) ∧ Nx w w' := by
  have p0 := fld_nonneg x 2 5
  have p1 : fld x 2 5 < 32 := fld_lt x 2 5
  have g0 := fld_nonneg x 7 3
  have g1 : fld x 7 3 < 8 := fld_lt x 7 3
  have k0 := fld_nonneg x 2 3
  have k1 : fld x 2 3 < 8 := fld_lt x 2 3
  go_enter Tryz.func82, Tryz.ntmps82
  go_wp2_with fail
  refine (efew_any _ _ _ hx hx' (by decide) (by decide)).mono ?_
  rintro e w' ⟨rfl, rfl⟩
  go_wp2_with fail
  refine (ef_6_2 x (fld x 2 5) _ hx hx' rfl).mono ?_
  rintro e w' ⟨rfl, rfl⟩
  go_wp2_with fail
  refine (ef_12_12 x _ _ hx hx' hb).mono ?_
  rintro e w' ⟨rfl, rfl⟩
  go_wp2_with fail
  refine (ef_11_10 x _ _ hx hx' hk).mono ?_
  rintro e w' ⟨rfl, rfl⟩
  go_wp2
  refine bodyPost_ret (v := insV (recI (8 + fld x 7 3) (8 + fld x 2 3) 1 n6 (fld x 2 5) 3 Lv)) (by simp [results, Tryz.results82, go_sem, insV, recI, none5]) rfl ⟨rfl, ?_⟩
  repeat (with_reducible first | exact Nx.refl _ | refine Nx.drew ?_ | refine Nx.drewN ?_ _ | refine Nx.alloc ?_ _ | refine Nx.setCell ?_ (Nat.le_refl _) _)

set_option maxHeartbeats 1000000 in
theorem sums_030 (x n6 : Int) (w : World) (hx : 0 ≤ x) (hx' : x < 65536) (hb : fld x 12 1 = 0) (hk : fld x 10 2 = 3) (hl : fld x 5 2 = 0) :
    Calls Tryz.prog 82 #[.int .u32 x, .int .i32 n6] w fun e w' => e = .returned (insV (recI (8 + fld x 7 3) (8 + fld x 2 3) 0 n6 (fld x 2 5) 3 0)) ∧ Nx w w' := by
  have p0 := fld_nonneg x 2 5
  have p1 : fld x 2 5 < 32 := fld_lt x 2 5
  have g0 := fld_nonneg x 7 3
  have g1 : fld x 7 3 < 8 := fld_lt x 7 3
  have k0 := fld_nonneg x 2 3
  have k1 : fld x 2 3 < 8 := fld_lt x 2 3
  go_enter Tryz.func82, Tryz.ntmps82
  go_wp2_with fail
  refine (efew_any _ _ _ hx hx' (by decide) (by decide)).mono ?_
  rintro e w' ⟨rfl, rfl⟩
  go_wp2_with fail
  refine (ef_6_2 x (fld x 2 5) _ hx hx' rfl).mono ?_
  rintro e w' ⟨rfl, rfl⟩
  go_wp2_with fail
  refine (ef_12_12 x _ _ hx hx' hb).mono ?_
  rintro e w' ⟨rfl, rfl⟩
  go_wp2_with fail
  refine (ef_11_10 x _ _ hx hx' hk).mono ?_
  rintro e w' ⟨rfl, rfl⟩
  go_wp2_with fail
  go_region_with (first | (go_at_call 79; refine (ef_6_5 x _ _ hx hx' hl).mono ?_; rintro e w' ⟨rfl, rfl⟩) | (go_at_call 80; refine (efew_any _ _ _ hx hx' (by decide) (by decide)).mono ?_; rintro e w' ⟨rfl, rfl⟩))
  all_goals go_wp2
  all_goals
    refine bodyPost_ret (v := insV (recI (8 + fld x 7 3) (8 + fld x 2 3) 0 n6 (fld x 2 5) 3 0)) (by simp [results, Tryz.results82, go_sem, insV, recI, none5]) rfl ⟨rfl, ?_⟩
    repeat (with_reducible first | exact Nx.refl _ | refine Nx.drew ?_ | refine Nx.drewN ?_ _ | refine Nx.alloc ?_ _ | refine Nx.setCell ?_ (Nat.le_refl _) _)

set_option maxHeartbeats 1000000 in
theorem sums_031 (x n6 : Int) (w : World) (hx : 0 ≤ x) (hx' : x < 65536) (hb : fld x 12 1 = 0) (hk : fld x 10 2 = 3) (hl : fld x 5 2 = 1) :
    Calls Tryz.prog 82 #[.int .u32 x, .int .i32 n6] w fun e w' => e = .returned (insV (recI (8 + fld x 7 3) (8 + fld x 2 3) 0 n6 (fld x 2 5) 3 1)) ∧ Nx w w' := by
  have p0 := fld_nonneg x 2 5
  have p1 : fld x 2 5 < 32 := fld_lt x 2 5
  have g0 := fld_nonneg x 7 3
  have g1 : fld x 7 3 < 8 := fld_lt x 7 3
  have k0 := fld_nonneg x 2 3
  have k1 : fld x 2 3 < 8 := fld_lt x 2 3
  go_enter Tryz.func82, Tryz.ntmps82
  go_wp2_with fail
  refine (efew_any _ _ _ hx hx' (by decide) (by decide)).mono ?_
  rintro e w' ⟨rfl, rfl⟩
  go_wp2_with fail
  refine (ef_6_2 x (fld x 2 5) _ hx hx' rfl).mono ?_
  rintro e w' ⟨rfl, rfl⟩
  go_wp2_with fail
  refine (ef_12_12 x _ _ hx hx' hb).mono ?_
  rintro e w' ⟨rfl, rfl⟩
  go_wp2_with fail
  refine (ef_11_10 x _ _ hx hx' hk).mono ?_
  rintro e w' ⟨rfl, rfl⟩
  go_wp2_with fail
  go_region_with (first | (go_at_call 79; refine (ef_6_5 x _ _ hx hx' hl).mono ?_; rintro e w' ⟨rfl, rfl⟩) | (go_at_call 80; refine (efew_any _ _ _ hx hx' (by decide) (by decide)).mono ?_; rintro e w' ⟨rfl, rfl⟩))
  all_goals go_wp2
  all_goals
    refine bodyPost_ret (v := insV (recI (8 + fld x 7 3) (8 + fld x 2 3) 0 n6 (fld x 2 5) 3 1)) (by simp [results, Tryz.results82, go_sem, insV, recI, none5]) rfl ⟨rfl, ?_⟩
    repeat (with_reducible first | exact Nx.refl _ | refine Nx.drew ?_ | refine Nx.drewN ?_ _ | refine Nx.alloc ?_ _ | refine Nx.setCell ?_ (Nat.le_refl _) _)

set_option maxHeartbeats 1000000 in
theorem sums_032 (x n6 : Int) (w : World) (hx : 0 ≤ x) (hx' : x < 65536) (hb : fld x 12 1 = 0) (hk : fld x 10 2 = 3) (hl : fld x 5 2 = 2) :
    Calls Tryz.prog 82 #[.int .u32 x, .int .i32 n6] w fun e w' => e = .returned (insV (recI (8 + fld x 7 3) (8 + fld x 2 3) 0 n6 (fld x 2 5) 3 2)) ∧ Nx w w' := by
  have p0 := fld_nonneg x 2 5
  have p1 : fld x 2 5 < 32 := fld_lt x 2 5
  have g0 := fld_nonneg x 7 3
  have g1 : fld x 7 3 < 8 := fld_lt x 7 3
  have k0 := fld_nonneg x 2 3
  have k1 : fld x 2 3 < 8 := fld_lt x 2 3
  go_enter Tryz.func82, Tryz.ntmps82
  go_wp2_with fail
  refine (efew_any _ _ _ hx hx' (by decide) (by decide)).mono ?_
  rintro e w' ⟨rfl, rfl⟩
  go_wp2_with fail
  refine (ef_6_2 x (fld x 2 5) _ hx hx' rfl).mono ?_
  rintro e w' ⟨rfl, rfl⟩
  go_wp2_with fail
  refine (ef_12_12 x _ _ hx hx' hb).mono ?_
  rintro e w' ⟨rfl, rfl⟩
  go_wp2_with fail
  refine (ef_11_10 x _ _ hx hx' hk).mono ?_
  rintro e w' ⟨rfl, rfl⟩
  go_wp2_with fail
  go_region_with (first | (go_at_call 79; refine (ef_6_5 x _ _ hx hx' hl).mono ?_; rintro e w' ⟨rfl, rfl⟩) | (go_at_call 80; refine (efew_any _ _ _ hx hx' (by decide) (by decide)).mono ?_; rintro e w' ⟨rfl, rfl⟩))
  all_goals go_wp2
  all_goals
    refine bodyPost_ret (v := insV (recI (8 + fld x 7 3) (8 + fld x 2 3) 0 n6 (fld x 2 5) 3 2)) (by simp [results, Tryz.results82, go_sem, insV, recI, none5]) rfl ⟨rfl, ?_⟩
    repeat (with_reducible first | exact Nx.refl _ | refine Nx.drew ?_ | refine Nx.drewN ?_ _ | refine Nx.alloc ?_ _ | refine Nx.setCell ?_ (Nat.le_refl _) _)

set_option maxHeartbeats 1000000 in
theorem sums_033 (x n6 : Int) (w : World) (hx : 0 ≤ x) (hx' : x < 65536) (hb : fld x 12 1 = 0) (hk : fld x 10 2 = 3) (hl : fld x 5 2 = 3) :
    Calls Tryz.prog 82 #[.int .u32 x, .int .i32 n6] w fun e w' => e = .returned (insV (recI (8 + fld x 7 3) (8 + fld x 2 3) 0 n6 (fld x 2 5) 3 3)) ∧ Nx w w' := by
  have p0 := fld_nonneg x 2 5
  have p1 : fld x 2 5 < 32 := fld_lt x 2 5
  have g0 := fld_nonneg x 7 3
  have g1 : fld x 7 3 < 8 := fld_lt x 7 3
  have k0 := fld_nonneg x 2 3
  have k1 : fld x 2 3 < 8 := fld_lt x 2 3
  go_enter Tryz.func82, Tryz.ntmps82
  go_wp2_with fail
  refine (efew_any _ _ _ hx hx' (by decide) (by decide)).mono ?_
  rintro e w' ⟨rfl, rfl⟩
  go_wp2_with fail
  refine (ef_6_2 x (fld x 2 5) _ hx hx' rfl).mono ?_
  rintro e w' ⟨rfl, rfl⟩
  go_wp2_with fail
  refine (ef_12_12 x _ _ hx hx' hb).mono ?_
  rintro e w' ⟨rfl, rfl⟩
  go_wp2_with fail
  refine (ef_11_10 x _ _ hx hx' hk).mono ?_
  rintro e w' ⟨rfl, rfl⟩
  go_wp2_with fail
  go_region_with (first | (go_at_call 79; refine (ef_6_5 x _ _ hx hx' hl).mono ?_; rintro e w' ⟨rfl, rfl⟩) | (go_at_call 80; refine (efew_any _ _ _ hx hx' (by decide) (by decide)).mono ?_; rintro e w' ⟨rfl, rfl⟩))
  all_goals go_wp2
  all_goals
    refine bodyPost_ret (v := insV (recI (8 + fld x 7 3) (8 + fld x 2 3) 0 n6 (fld x 2 5) 3 3)) (by simp [results, Tryz.results82, go_sem, insV, recI, none5]) rfl ⟨rfl, ?_⟩
    repeat (with_reducible first | exact Nx.refl _ | refine Nx.drew ?_ | refine Nx.drewN ?_ _ | refine Nx.alloc ?_ _ | refine Nx.setCell ?_ (Nat.le_refl _) _)

theorem sums_any (x n6 : Int) (w : World) (hx : 0 ≤ x) (hx' : x < 65536) :
    Calls Tryz.prog 82 #[.int .u32 x, .int .i32 n6] w fun e w' => e = .returned (insV (recI (8 + fld x 7 3) (8 + fld x 2 3) (fld x 12 1) n6 (fld x 2 5) (fld x 10 2) (fld x 5 2))) ∧ Nx w w' := by
  have g0 := fld_nonneg x 12 1
  have g1 : fld x 12 1 < 2 := fld_lt x 12 1
  have k0 := fld_nonneg x 10 2
  have k1 : fld x 10 2 < 4 := fld_lt x 10 2
  have l0 := fld_nonneg x 5 2
  have l1 : fld x 5 2 < 4 := fld_lt x 5 2
  have hb : fld x 12 1 = 0 ∨ fld x 12 1 = 1 := by omega
  have hk : fld x 10 2 = 0 ∨ fld x 10 2 = 1 ∨ fld x 10 2 = 2 ∨ fld x 10 2 = 3 := by omega
  have hl : fld x 5 2 = 0 ∨ fld x 5 2 = 1 ∨ fld x 5 2 = 2 ∨ fld x 5 2 = 3 := by omega
  rcases hb with hb | hb <;> rcases hk with hk | hk | hk | hk <;> rw [hb, hk]
  · exact sums_00 x n6 _ w hx hx' hb hk
  · exact sums_01 x n6 _ w hx hx' hb hk
  · exact sums_02 x n6 _ w hx hx' hb hk
  · rcases hl with hl | hl | hl | hl <;> rw [hl]
    · exact sums_030 x n6 w hx hx' hb hk hl
    · exact sums_031 x n6 w hx hx' hb hk hl
    · exact sums_032 x n6 w hx hx' hb hk hl
    · exact sums_033 x n6 w hx hx' hb hk hl
  · exact sums_10 x n6 _ w hx hx' hb hk
  · exact sums_11 x n6 _ w hx hx' hb hk
  · exact sums_12 x n6 _ w hx hx' hb hk
  · exact sums_13 x n6 _ w hx hx' hb hk

end Go.Proofs.YtndpgakjpokllaaGreat

