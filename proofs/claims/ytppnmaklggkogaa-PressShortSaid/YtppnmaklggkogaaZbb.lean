/- Parts of the proof, one behind the other. -/
import Derived.Test.YtppnmaklggkogaaZay
/- Contracts of package typecaseref05: quarter2. -/
namespace Go.Proofs.Ytppnmaklggkogaa
open Go.RowKit
set_option linter.unusedVariables false
set_option linter.unusedSimpArgs false

set_option maxHeartbeats 1000000 in
theorem q2_00 (x : Int) (w : World) (hx : 0 ≤ x) (hx' : x < 65536) (hf : fld x 13 3 = 0) (hb : fld x 12 1 = 0) :
    Calls Try.prog 33 #[.int .u32 x] w fun e w' => e = .returned (insV (thdI x 0 (fld x 7 5) (fld x 2 5) 0 (fld x 2 5))) ∧ Nx w w' := by
  have r0 := fld_nonneg x 7 5
  have r1 : fld x 7 5 < 32 := fld_lt x 7 5
  have p0 := fld_nonneg x 2 5
  have p1 : fld x 2 5 < 32 := fld_lt x 2 5
  go_enter Try.func33, Try.ntmps33
  go_wp2_with fail
  refine (ef_11_7 x (fld x 7 5) _ hx hx' rfl).mono ?_
  rintro e w' ⟨rfl, rfl⟩
  go_wp2_with fail
  refine (ef_6_2 x (fld x 2 5) _ hx hx' rfl).mono ?_
  rintro e w' ⟨rfl, rfl⟩
  go_wp2_with fail
  refine (ef_12_12 x _ _ hx hx' hb).mono ?_
  rintro e w' ⟨rfl, rfl⟩
  go_wp2_with fail
  refine (ef_15_13 x _ _ hx hx' hf).mono ?_
  rintro e w' ⟨rfl, rfl⟩
  go_wp2
  refine bodyPost_ret (v := insV (thdI x 0 (fld x 7 5) (fld x 2 5) 0 (fld x 2 5))) (by simp [results, Try.results33, go_sem, insV, thdI, movI, none5]) rfl ⟨rfl, ?_⟩
  repeat (with_reducible first | exact Nx.refl _ | refine Nx.alloc ?_ _ | refine Nx.setCell ?_ (Nat.le_refl _) _)

set_option maxHeartbeats 1000000 in
theorem q2_01 (x : Int) (w : World) (hx : 0 ≤ x) (hx' : x < 65536) (hf : fld x 13 3 = 0) (hb : fld x 12 1 = 1) :
    Calls Try.prog 33 #[.int .u32 x] w fun e w' => e = .returned (insV (thdI x 0 (fld x 7 5) (fld x 2 5) 1 (fld x 2 5))) ∧ Nx w w' := by
  have r0 := fld_nonneg x 7 5
  have r1 : fld x 7 5 < 32 := fld_lt x 7 5
  have p0 := fld_nonneg x 2 5
  have p1 : fld x 2 5 < 32 := fld_lt x 2 5
  go_enter Try.func33, Try.ntmps33
  go_wp2_with fail
  refine (ef_11_7 x (fld x 7 5) _ hx hx' rfl).mono ?_
  rintro e w' ⟨rfl, rfl⟩
  go_wp2_with fail
  refine (ef_6_2 x (fld x 2 5) _ hx hx' rfl).mono ?_
  rintro e w' ⟨rfl, rfl⟩
  go_wp2_with fail
  refine (ef_12_12 x _ _ hx hx' hb).mono ?_
  rintro e w' ⟨rfl, rfl⟩
  go_wp2_with fail
  refine (ef_15_13 x _ _ hx hx' hf).mono ?_
  rintro e w' ⟨rfl, rfl⟩
  go_wp2
  refine bodyPost_ret (v := insV (thdI x 0 (fld x 7 5) (fld x 2 5) 1 (fld x 2 5))) (by simp [results, Try.results33, go_sem, insV, thdI, movI, none5]) rfl ⟨rfl, ?_⟩
  repeat (with_reducible first | exact Nx.refl _ | refine Nx.alloc ?_ _ | refine Nx.setCell ?_ (Nat.le_refl _) _)

set_option maxHeartbeats 1000000 in
theorem q2_1 (x B : Int) (w : World) (hx : 0 ≤ x) (hx' : x < 65536) (hf : fld x 13 3 = 1) (hb : fld x 12 1 = B) :
    Calls Try.prog 33 #[.int .u32 x] w fun e w' => e = .returned (insV (thdI x 1 (fld x 7 5) (fld x 2 5) B (fld x 2 5))) ∧ Nx w w' := by
  have r0 := fld_nonneg x 7 5
  have r1 : fld x 7 5 < 32 := fld_lt x 7 5
  have p0 := fld_nonneg x 2 5
  have p1 : fld x 2 5 < 32 := fld_lt x 2 5
  go_enter Try.func33, Try.ntmps33
  go_wp2_with fail
  refine (ef_11_7 x (fld x 7 5) _ hx hx' rfl).mono ?_
  rintro e w' ⟨rfl, rfl⟩
  go_wp2_with fail
  refine (ef_6_2 x (fld x 2 5) _ hx hx' rfl).mono ?_
  rintro e w' ⟨rfl, rfl⟩
  go_wp2_with fail
  refine (ef_12_12 x _ _ hx hx' hb).mono ?_
  rintro e w' ⟨rfl, rfl⟩
  go_wp2_with fail
  refine (ef_15_13 x _ _ hx hx' hf).mono ?_
  rintro e w' ⟨rfl, rfl⟩
  go_wp2
  refine bodyPost_ret (v := insV (thdI x 1 (fld x 7 5) (fld x 2 5) B (fld x 2 5))) (by simp [results, Try.results33, go_sem, insV, thdI, movI, none5]) rfl ⟨rfl, ?_⟩
  repeat (with_reducible first | exact Nx.refl _ | refine Nx.alloc ?_ _ | refine Nx.setCell ?_ (Nat.le_refl _) _)

set_option maxHeartbeats 1000000 in
theorem q2_3 (x B : Int) (w : World) (hx : 0 ≤ x) (hx' : x < 65536) (hf : fld x 13 3 = 3) (hb : fld x 12 1 = B) :
    Calls Try.prog 33 #[.int .u32 x] w fun e w' => e = .returned (insV (thdI x 3 (fld x 7 5) (fld x 2 5) B (fld x 2 5))) ∧ Nx w w' := by
  have r0 := fld_nonneg x 7 5
  have r1 : fld x 7 5 < 32 := fld_lt x 7 5
  have p0 := fld_nonneg x 2 5
  have p1 : fld x 2 5 < 32 := fld_lt x 2 5
  go_enter Try.func33, Try.ntmps33
  go_wp2_with fail
  refine (ef_11_7 x (fld x 7 5) _ hx hx' rfl).mono ?_
  rintro e w' ⟨rfl, rfl⟩
  go_wp2_with fail
  refine (ef_6_2 x (fld x 2 5) _ hx hx' rfl).mono ?_
  rintro e w' ⟨rfl, rfl⟩
  go_wp2_with fail
  refine (ef_12_12 x _ _ hx hx' hb).mono ?_
  rintro e w' ⟨rfl, rfl⟩
  go_wp2_with fail
  refine (ef_15_13 x _ _ hx hx' hf).mono ?_
  rintro e w' ⟨rfl, rfl⟩
  go_wp2
  refine bodyPost_ret (v := insV (thdI x 3 (fld x 7 5) (fld x 2 5) B (fld x 2 5))) (by simp [results, Try.results33, go_sem, insV, thdI, movI, none5]) rfl ⟨rfl, ?_⟩
  repeat (with_reducible first | exact Nx.refl _ | refine Nx.alloc ?_ _ | refine Nx.setCell ?_ (Nat.le_refl _) _)

set_option maxHeartbeats 1000000 in
theorem q2_5 (x B : Int) (w : World) (hx : 0 ≤ x) (hx' : x < 65536) (hf : fld x 13 3 = 5) (hb : fld x 12 1 = B) :
    Calls Try.prog 33 #[.int .u32 x] w fun e w' => e = .returned (insV (thdI x 5 (fld x 7 5) (fld x 2 5) B (fld x 2 5))) ∧ Nx w w' := by
  have r0 := fld_nonneg x 7 5
  have r1 : fld x 7 5 < 32 := fld_lt x 7 5
  have p0 := fld_nonneg x 2 5
  have p1 : fld x 2 5 < 32 := fld_lt x 2 5
  go_enter Try.func33, Try.ntmps33
  go_wp2_with fail
  refine (ef_11_7 x (fld x 7 5) _ hx hx' rfl).mono ?_
  rintro e w' ⟨rfl, rfl⟩
  go_wp2_with fail
  refine (ef_6_2 x (fld x 2 5) _ hx hx' rfl).mono ?_
  rintro e w' ⟨rfl, rfl⟩
  go_wp2_with fail
  refine (ef_12_12 x _ _ hx hx' hb).mono ?_
  rintro e w' ⟨rfl, rfl⟩
  go_wp2_with fail
  refine (ef_15_13 x _ _ hx hx' hf).mono ?_
  rintro e w' ⟨rfl, rfl⟩
  go_wp2
  refine bodyPost_ret (v := insV (thdI x 5 (fld x 7 5) (fld x 2 5) B (fld x 2 5))) (by simp [results, Try.results33, go_sem, insV, thdI, movI, none5]) rfl ⟨rfl, ?_⟩
  repeat (with_reducible first | exact Nx.refl _ | refine Nx.alloc ?_ _ | refine Nx.setCell ?_ (Nat.le_refl _) _)

set_option maxHeartbeats 1000000 in
theorem q2_7 (x B : Int) (w : World) (hx : 0 ≤ x) (hx' : x < 65536) (hf : fld x 13 3 = 7) (hb : fld x 12 1 = B) :
    Calls Try.prog 33 #[.int .u32 x] w fun e w' => e = .returned (insV (thdI x 7 (fld x 7 5) (fld x 2 5) B (fld x 2 5))) ∧ Nx w w' := by
  have r0 := fld_nonneg x 7 5
  have r1 : fld x 7 5 < 32 := fld_lt x 7 5
  have p0 := fld_nonneg x 2 5
  have p1 : fld x 2 5 < 32 := fld_lt x 2 5
  go_enter Try.func33, Try.ntmps33
  go_wp2_with fail
  refine (ef_11_7 x (fld x 7 5) _ hx hx' rfl).mono ?_
  rintro e w' ⟨rfl, rfl⟩
  go_wp2_with fail
  refine (ef_6_2 x (fld x 2 5) _ hx hx' rfl).mono ?_
  rintro e w' ⟨rfl, rfl⟩
  go_wp2_with fail
  refine (ef_12_12 x _ _ hx hx' hb).mono ?_
  rintro e w' ⟨rfl, rfl⟩
  go_wp2_with fail
  refine (ef_15_13 x _ _ hx hx' hf).mono ?_
  rintro e w' ⟨rfl, rfl⟩
  go_wp2
  refine bodyPost_ret (v := insV (thdI x 7 (fld x 7 5) (fld x 2 5) B (fld x 2 5))) (by simp [results, Try.results33, go_sem, insV, thdI, movI, none5]) rfl ⟨rfl, ?_⟩
  repeat (with_reducible first | exact Nx.refl _ | refine Nx.alloc ?_ _ | refine Nx.setCell ?_ (Nat.le_refl _) _)

set_option maxHeartbeats 1000000 in
theorem q2_40a (x : Int) (w : World) (hx : 0 ≤ x) (hx' : x < 65536) (hf : fld x 13 3 = 4) (hb : fld x 12 1 = 0) (h1 : fld x 2 5 = 0) (h2 : fld x 7 5 = 0) :
    Calls Try.prog 33 #[.int .u32 x] w fun e w' => e = .returned (insV (thdI x 4 (fld x 7 5) (fld x 2 5) 0 (fld x 2 5))) ∧ Nx w w' := by
  have r0 := fld_nonneg x 7 5
  have r1 : fld x 7 5 < 32 := fld_lt x 7 5
  have p0 := fld_nonneg x 2 5
  have p1 : fld x 2 5 < 32 := fld_lt x 2 5
  have e1 : (fld x 2 5 == 0) = true := by rw [beq_iff_eq]; exact h1
  have e2 : (fld x 7 5 == 0) = true := by rw [beq_iff_eq]; exact h2
  go_enter Try.func33, Try.ntmps33
  go_wp2_with fail
  refine (ef_11_7 x (fld x 7 5) _ hx hx' rfl).mono ?_
  rintro e w' ⟨rfl, rfl⟩
  go_wp2_with fail
  refine (ef_6_2 x (fld x 2 5) _ hx hx' rfl).mono ?_
  rintro e w' ⟨rfl, rfl⟩
  go_wp2_with fail
  refine (ef_12_12 x _ _ hx hx' hb).mono ?_
  rintro e w' ⟨rfl, rfl⟩
  go_wp2_with fail
  refine (ef_15_13 x _ _ hx hx' hf).mono ?_
  rintro e w' ⟨rfl, rfl⟩
  go_wp2
  refine bodyPost_ret (v := insV (thdI x 4 (fld x 7 5) (fld x 2 5) 0 (fld x 2 5))) (by simp [results, Try.results33, go_sem, insV, thdI, movI, none5, h1, h2]) rfl ⟨rfl, ?_⟩
  repeat (with_reducible first | exact Nx.refl _ | refine Nx.alloc ?_ _ | refine Nx.setCell ?_ (Nat.le_refl _) _)

set_option maxHeartbeats 1000000 in
theorem q2_40b (x : Int) (w : World) (hx : 0 ≤ x) (hx' : x < 65536) (hf : fld x 13 3 = 4) (hb : fld x 12 1 = 0) (h1 : fld x 2 5 = 0) (h2 : ¬ fld x 7 5 = 0) :
    Calls Try.prog 33 #[.int .u32 x] w fun e w' => e = .returned (insV (thdI x 4 (fld x 7 5) (fld x 2 5) 0 (fld x 2 5))) ∧ Nx w w' := by
  have r0 := fld_nonneg x 7 5
  have r1 : fld x 7 5 < 32 := fld_lt x 7 5
  have p0 := fld_nonneg x 2 5
  have p1 : fld x 2 5 < 32 := fld_lt x 2 5
  have e1 : (fld x 2 5 == 0) = true := by rw [beq_iff_eq]; exact h1
  have e2 : (fld x 7 5 == 0) = false := beq_eq_false_iff_ne.2 h2
  go_enter Try.func33, Try.ntmps33
  go_wp2_with fail
  refine (ef_11_7 x (fld x 7 5) _ hx hx' rfl).mono ?_
  rintro e w' ⟨rfl, rfl⟩
  go_wp2_with fail
  refine (ef_6_2 x (fld x 2 5) _ hx hx' rfl).mono ?_
  rintro e w' ⟨rfl, rfl⟩
  go_wp2_with fail
  refine (ef_12_12 x _ _ hx hx' hb).mono ?_
  rintro e w' ⟨rfl, rfl⟩
  go_wp2_with fail
  refine (ef_15_13 x _ _ hx hx' hf).mono ?_
  rintro e w' ⟨rfl, rfl⟩
  go_wp2
  refine bodyPost_ret (v := insV (thdI x 4 (fld x 7 5) (fld x 2 5) 0 (fld x 2 5))) (by simp [results, Try.results33, go_sem, insV, thdI, movI, none5, h1, h2]) rfl ⟨rfl, ?_⟩
  repeat (with_reducible first | exact Nx.refl _ | refine Nx.alloc ?_ _ | refine Nx.setCell ?_ (Nat.le_refl _) _)

set_option maxHeartbeats 1000000 in
theorem q2_40c (x : Int) (w : World) (hx : 0 ≤ x) (hx' : x < 65536) (hf : fld x 13 3 = 4) (hb : fld x 12 1 = 0) (h1 : ¬ fld x 2 5 = 0) (h2 : fld x 7 5 = 0) :
    Calls Try.prog 33 #[.int .u32 x] w fun e w' => e = .returned (insV (thdI x 4 (fld x 7 5) (fld x 2 5) 0 (fld x 2 5))) ∧ Nx w w' := by
  have r0 := fld_nonneg x 7 5
  have r1 : fld x 7 5 < 32 := fld_lt x 7 5
  have p0 := fld_nonneg x 2 5
  have p1 : fld x 2 5 < 32 := fld_lt x 2 5
  have e1 : (fld x 2 5 == 0) = false := beq_eq_false_iff_ne.2 h1
  have e2 : (fld x 7 5 == 0) = true := by rw [beq_iff_eq]; exact h2
  go_enter Try.func33, Try.ntmps33
  go_wp2_with fail
  refine (ef_11_7 x (fld x 7 5) _ hx hx' rfl).mono ?_
  rintro e w' ⟨rfl, rfl⟩
  go_wp2_with fail
  refine (ef_6_2 x (fld x 2 5) _ hx hx' rfl).mono ?_
  rintro e w' ⟨rfl, rfl⟩
  go_wp2_with fail
  refine (ef_12_12 x _ _ hx hx' hb).mono ?_
  rintro e w' ⟨rfl, rfl⟩
  go_wp2_with fail
  refine (ef_15_13 x _ _ hx hx' hf).mono ?_
  rintro e w' ⟨rfl, rfl⟩
  go_wp2
  refine bodyPost_ret (v := insV (thdI x 4 (fld x 7 5) (fld x 2 5) 0 (fld x 2 5))) (by simp [results, Try.results33, go_sem, insV, thdI, movI, none5, h1, h2]) rfl ⟨rfl, ?_⟩
  repeat (with_reducible first | exact Nx.refl _ | refine Nx.alloc ?_ _ | refine Nx.setCell ?_ (Nat.le_refl _) _)

set_option maxHeartbeats 1000000 in
theorem q2_40d (x : Int) (w : World) (hx : 0 ≤ x) (hx' : x < 65536) (hf : fld x 13 3 = 4) (hb : fld x 12 1 = 0) (h1 : ¬ fld x 2 5 = 0) (h2 : ¬ fld x 7 5 = 0) :
    Calls Try.prog 33 #[.int .u32 x] w fun e w' => e = .returned (insV (thdI x 4 (fld x 7 5) (fld x 2 5) 0 (fld x 2 5))) ∧ Nx w w' := by
  have r0 := fld_nonneg x 7 5
  have r1 : fld x 7 5 < 32 := fld_lt x 7 5
  have p0 := fld_nonneg x 2 5
  have p1 : fld x 2 5 < 32 := fld_lt x 2 5
  have e1 : (fld x 2 5 == 0) = false := beq_eq_false_iff_ne.2 h1
  have e2 : (fld x 7 5 == 0) = false := beq_eq_false_iff_ne.2 h2
  go_enter Try.func33, Try.ntmps33
  go_wp2_with fail
  refine (ef_11_7 x (fld x 7 5) _ hx hx' rfl).mono ?_
  rintro e w' ⟨rfl, rfl⟩
  go_wp2_with fail
  refine (ef_6_2 x (fld x 2 5) _ hx hx' rfl).mono ?_
  rintro e w' ⟨rfl, rfl⟩
  go_wp2_with fail
  refine (ef_12_12 x _ _ hx hx' hb).mono ?_
  rintro e w' ⟨rfl, rfl⟩
  go_wp2_with fail
  refine (ef_15_13 x _ _ hx hx' hf).mono ?_
  rintro e w' ⟨rfl, rfl⟩
  go_wp2
  refine bodyPost_ret (v := insV (thdI x 4 (fld x 7 5) (fld x 2 5) 0 (fld x 2 5))) (by simp [results, Try.results33, go_sem, insV, thdI, movI, none5, h1, h2]) rfl ⟨rfl, ?_⟩
  repeat (with_reducible first | exact Nx.refl _ | refine Nx.alloc ?_ _ | refine Nx.setCell ?_ (Nat.le_refl _) _)

set_option maxHeartbeats 1000000 in
theorem q2_41a (x : Int) (w : World) (hx : 0 ≤ x) (hx' : x < 65536) (hf : fld x 13 3 = 4) (hb : fld x 12 1 = 1) (h1 : fld x 2 5 = 0) (h2 : fld x 7 5 = 0) :
    Calls Try.prog 33 #[.int .u32 x] w fun e w' => e = .returned (insV (thdI x 4 (fld x 7 5) (fld x 2 5) 1 (fld x 2 5))) ∧ Nx w w' := by
  have r0 := fld_nonneg x 7 5
  have r1 : fld x 7 5 < 32 := fld_lt x 7 5
  have p0 := fld_nonneg x 2 5
  have p1 : fld x 2 5 < 32 := fld_lt x 2 5
  have e1 : (fld x 2 5 == 0) = true := by rw [beq_iff_eq]; exact h1
  have e2 : (fld x 7 5 == 0) = true := by rw [beq_iff_eq]; exact h2
  go_enter Try.func33, Try.ntmps33
  go_wp2_with fail
  refine (ef_11_7 x (fld x 7 5) _ hx hx' rfl).mono ?_
  rintro e w' ⟨rfl, rfl⟩
  go_wp2_with fail
  refine (ef_6_2 x (fld x 2 5) _ hx hx' rfl).mono ?_
  rintro e w' ⟨rfl, rfl⟩
  go_wp2_with fail
  refine (ef_12_12 x _ _ hx hx' hb).mono ?_
  rintro e w' ⟨rfl, rfl⟩
  go_wp2_with fail
  refine (ef_15_13 x _ _ hx hx' hf).mono ?_
  rintro e w' ⟨rfl, rfl⟩
  go_wp2
  refine bodyPost_ret (v := insV (thdI x 4 (fld x 7 5) (fld x 2 5) 1 (fld x 2 5))) (by simp [results, Try.results33, go_sem, insV, thdI, movI, none5, h1, h2]) rfl ⟨rfl, ?_⟩
  repeat (with_reducible first | exact Nx.refl _ | refine Nx.alloc ?_ _ | refine Nx.setCell ?_ (Nat.le_refl _) _)

set_option maxHeartbeats 1000000 in
theorem q2_41b (x : Int) (w : World) (hx : 0 ≤ x) (hx' : x < 65536) (hf : fld x 13 3 = 4) (hb : fld x 12 1 = 1) (h1 : fld x 2 5 = 0) (h2 : ¬ fld x 7 5 = 0) :
    Calls Try.prog 33 #[.int .u32 x] w fun e w' => e = .returned (insV (thdI x 4 (fld x 7 5) (fld x 2 5) 1 (fld x 2 5))) ∧ Nx w w' := by
  have r0 := fld_nonneg x 7 5
  have r1 : fld x 7 5 < 32 := fld_lt x 7 5
  have p0 := fld_nonneg x 2 5
  have p1 : fld x 2 5 < 32 := fld_lt x 2 5
  have e1 : (fld x 2 5 == 0) = true := by rw [beq_iff_eq]; exact h1
  have e2 : (fld x 7 5 == 0) = false := beq_eq_false_iff_ne.2 h2
  go_enter Try.func33, Try.ntmps33
  go_wp2_with fail
  refine (ef_11_7 x (fld x 7 5) _ hx hx' rfl).mono ?_
  rintro e w' ⟨rfl, rfl⟩
  go_wp2_with fail
  refine (ef_6_2 x (fld x 2 5) _ hx hx' rfl).mono ?_
  rintro e w' ⟨rfl, rfl⟩
  go_wp2_with fail
  refine (ef_12_12 x _ _ hx hx' hb).mono ?_
  rintro e w' ⟨rfl, rfl⟩
  go_wp2_with fail
  refine (ef_15_13 x _ _ hx hx' hf).mono ?_
  rintro e w' ⟨rfl, rfl⟩
  go_wp2
  refine bodyPost_ret (v := insV (thdI x 4 (fld x 7 5) (fld x 2 5) 1 (fld x 2 5))) (by simp [results, Try.results33, go_sem, insV, thdI, movI, none5, h1, h2]) rfl ⟨rfl, ?_⟩
  repeat (with_reducible first | exact Nx.refl _ | refine Nx.alloc ?_ _ | refine Nx.setCell ?_ (Nat.le_refl _) _)

set_option maxHeartbeats 1000000 in
theorem q2_41c (x : Int) (w : World) (hx : 0 ≤ x) (hx' : x < 65536) (hf : fld x 13 3 = 4) (hb : fld x 12 1 = 1) (h1 : ¬ fld x 2 5 = 0) (h2 : fld x 7 5 = 0) :
    Calls Try.prog 33 #[.int .u32 x] w fun e w' => e = .returned (insV (thdI x 4 (fld x 7 5) (fld x 2 5) 1 (fld x 2 5))) ∧ Nx w w' := by
  have r0 := fld_nonneg x 7 5
  have r1 : fld x 7 5 < 32 := fld_lt x 7 5
  have p0 := fld_nonneg x 2 5
  have p1 : fld x 2 5 < 32 := fld_lt x 2 5
  have e1 : (fld x 2 5 == 0) = false := beq_eq_false_iff_ne.2 h1
  have e2 : (fld x 7 5 == 0) = true := by rw [beq_iff_eq]; exact h2
  go_enter Try.func33, Try.ntmps33
  go_wp2_with fail
  refine (ef_11_7 x (fld x 7 5) _ hx hx' rfl).mono ?_
  rintro e w' ⟨rfl, rfl⟩
  go_wp2_with fail
  refine (ef_6_2 x (fld x 2 5) _ hx hx' rfl).mono ?_
  rintro e w' ⟨rfl, rfl⟩
  go_wp2_with fail
  refine (ef_12_12 x _ _ hx hx' hb).mono ?_
  rintro e w' ⟨rfl, rfl⟩
  go_wp2_with fail
  refine (ef_15_13 x _ _ hx hx' hf).mono ?_
  rintro e w' ⟨rfl, rfl⟩
  go_wp2
  refine bodyPost_ret (v := insV (thdI x 4 (fld x 7 5) (fld x 2 5) 1 (fld x 2 5))) (by simp [results, Try.results33, go_sem, insV, thdI, movI, none5, h1, h2]) rfl ⟨rfl, ?_⟩
  repeat (with_reducible first | exact Nx.refl _ | refine Nx.alloc ?_ _ | refine Nx.setCell ?_ (Nat.le_refl _) _)

set_option maxHeartbeats 1000000 in
theorem q2_41d (x : Int) (w : World) (hx : 0 ≤ x) (hx' : x < 65536) (hf : fld x 13 3 = 4) (hb : fld x 12 1 = 1) (h1 : ¬ fld x 2 5 = 0) (h2 : ¬ fld x 7 5 = 0) :
    Calls Try.prog 33 #[.int .u32 x] w fun e w' => e = .returned (insV (thdI x 4 (fld x 7 5) (fld x 2 5) 1 (fld x 2 5))) ∧ Nx w w' := by
  have r0 := fld_nonneg x 7 5
  have r1 : fld x 7 5 < 32 := fld_lt x 7 5
  have p0 := fld_nonneg x 2 5
  have p1 : fld x 2 5 < 32 := fld_lt x 2 5
  have e1 : (fld x 2 5 == 0) = false := beq_eq_false_iff_ne.2 h1
  have e2 : (fld x 7 5 == 0) = false := beq_eq_false_iff_ne.2 h2
  go_enter Try.func33, Try.ntmps33
  go_wp2_with fail
  refine (ef_11_7 x (fld x 7 5) _ hx hx' rfl).mono ?_
  rintro e w' ⟨rfl, rfl⟩
  go_wp2_with fail
  refine (ef_6_2 x (fld x 2 5) _ hx hx' rfl).mono ?_
  rintro e w' ⟨rfl, rfl⟩
  go_wp2_with fail
  refine (ef_12_12 x _ _ hx hx' hb).mono ?_
  rintro e w' ⟨rfl, rfl⟩
  go_wp2_with fail
  refine (ef_15_13 x _ _ hx hx' hf).mono ?_
  rintro e w' ⟨rfl, rfl⟩
  go_wp2
  refine bodyPost_ret (v := insV (thdI x 4 (fld x 7 5) (fld x 2 5) 1 (fld x 2 5))) (by simp [results, Try.results33, go_sem, insV, thdI, movI, none5, h1, h2]) rfl ⟨rfl, ?_⟩
  repeat (with_reducible first | exact Nx.refl _ | refine Nx.alloc ?_ _ | refine Nx.setCell ?_ (Nat.le_refl _) _)

set_option maxHeartbeats 1000000 in
theorem q2_2a0 (x : Int) (w : World) (hx : 0 ≤ x) (hx' : x < 65536) (hf : fld x 13 3 = 2) (hb : fld x 12 1 = 0) (hr : fld x 7 5 = 0) :
    Calls Try.prog 33 #[.int .u32 x] w fun e w' => e = .returned (insV (thdI x 2 (fld x 7 5) (fld x 2 5) 0 (fld x 2 5))) ∧ Nx w w' := by
  have r0 := fld_nonneg x 7 5
  have r1 : fld x 7 5 < 32 := fld_lt x 7 5
  have p0 := fld_nonneg x 2 5
  have p1 : fld x 2 5 < 32 := fld_lt x 2 5
  have e2 : (fld x 7 5 == 0) = true := by rw [beq_iff_eq]; exact hr
  go_enter Try.func33, Try.ntmps33
  go_wp2_with fail
  refine (ef_11_7 x (fld x 7 5) _ hx hx' rfl).mono ?_
  rintro e w' ⟨rfl, rfl⟩
  go_wp2_with fail
  refine (ef_6_2 x (fld x 2 5) _ hx hx' rfl).mono ?_
  rintro e w' ⟨rfl, rfl⟩
  go_wp2_with fail
  refine (ef_12_12 x _ _ hx hx' hb).mono ?_
  rintro e w' ⟨rfl, rfl⟩
  go_wp2_with fail
  refine (ef_15_13 x _ _ hx hx' hf).mono ?_
  rintro e w' ⟨rfl, rfl⟩
  go_wp2
  refine bodyPost_ret (v := insV (thdI x 2 (fld x 7 5) (fld x 2 5) 0 (fld x 2 5))) (by simp [results, Try.results33, go_sem, insV, thdI, movI, none5, hr]) rfl ⟨rfl, ?_⟩
  repeat (with_reducible first | exact Nx.refl _ | refine Nx.alloc ?_ _ | refine Nx.setCell ?_ (Nat.le_refl _) _)

set_option maxHeartbeats 1000000 in
theorem q2_2a1 (x : Int) (w : World) (hx : 0 ≤ x) (hx' : x < 65536) (hf : fld x 13 3 = 2) (hb : fld x 12 1 = 1) (hr : fld x 7 5 = 0) :
    Calls Try.prog 33 #[.int .u32 x] w fun e w' => e = .returned (insV (thdI x 2 (fld x 7 5) (fld x 2 5) 1 (fld x 2 5))) ∧ Nx w w' := by
  have r0 := fld_nonneg x 7 5
  have r1 : fld x 7 5 < 32 := fld_lt x 7 5
  have p0 := fld_nonneg x 2 5
  have p1 : fld x 2 5 < 32 := fld_lt x 2 5
  have e2 : (fld x 7 5 == 0) = true := by rw [beq_iff_eq]; exact hr
  go_enter Try.func33, Try.ntmps33
  go_wp2_with fail
  refine (ef_11_7 x (fld x 7 5) _ hx hx' rfl).mono ?_
  rintro e w' ⟨rfl, rfl⟩
  go_wp2_with fail
  refine (ef_6_2 x (fld x 2 5) _ hx hx' rfl).mono ?_
  rintro e w' ⟨rfl, rfl⟩
  go_wp2_with fail
  refine (ef_12_12 x _ _ hx hx' hb).mono ?_
  rintro e w' ⟨rfl, rfl⟩
  go_wp2_with fail
  refine (ef_15_13 x _ _ hx hx' hf).mono ?_
  rintro e w' ⟨rfl, rfl⟩
  go_wp2
  refine bodyPost_ret (v := insV (thdI x 2 (fld x 7 5) (fld x 2 5) 1 (fld x 2 5))) (by simp [results, Try.results33, go_sem, insV, thdI, movI, none5, hr]) rfl ⟨rfl, ?_⟩
  repeat (with_reducible first | exact Nx.refl _ | refine Nx.alloc ?_ _ | refine Nx.setCell ?_ (Nat.le_refl _) _)

set_option maxHeartbeats 8000000 in
theorem q2_2b (x B : Int) (w : World) (hx : 0 ≤ x) (hx' : x < 65536) (hf : fld x 13 3 = 2) (hb : fld x 12 1 = B) (hB : B = 0 ∨ B = 1) (hr : ¬ fld x 7 5 = 0) :
    Calls Try.prog 33 #[.int .u32 x] w fun e w' => e = .returned (insV (thdI x 2 (fld x 7 5) (fld x 2 5) B (fld x 2 5))) ∧ Nx w w' := by
  have r0 := fld_nonneg x 7 5
  have r1 : fld x 7 5 < 32 := fld_lt x 7 5
  have p0 := fld_nonneg x 2 5
  have p1 : fld x 2 5 < 32 := fld_lt x 2 5
  have g0 := fld_nonneg x 7 3
  have g1 : fld x 7 3 < 8 := fld_lt x 7 3
  have k0 := fld_nonneg x 2 3
  have k1 : fld x 2 3 < 8 := fld_lt x 2 3
  obtain ⟨s1, s2⟩ := ls_bd x
  have e2 : (fld x 7 5 == 0) = false := beq_eq_false_iff_ne.2 hr
  rcases hB with rfl | rfl
  all_goals
    go_enter Try.func33, Try.ntmps33
    go_wp2_with fail
    refine (efield_v x 11 7 5 (fld x 7 5) _ hx hx' (by decide) (by decide) (by decide) (by decide) rfl rfl).mono ?_
    rintro e w' ⟨rfl, rfl⟩
    go_wp2_with fail
    refine (efield_v x 6 2 5 (fld x 2 5) _ hx hx' (by decide) (by decide) (by decide) (by decide) rfl rfl).mono ?_
    rintro e w' ⟨rfl, rfl⟩
    go_wp2_with fail
    refine (efield_v x 12 12 1 _ _ hx hx' (by decide) (by decide) (by decide) (by decide) rfl hb).mono ?_
    rintro e w' ⟨rfl, rfl⟩
    go_wp2_with fail
    refine (efield_v x 15 13 3 _ _ hx hx' (by decide) (by decide) (by decide) (by decide) rfl hf).mono ?_
    rintro e w' ⟨rfl, rfl⟩
    go_wp2_with fail
    refine (elist_lst 2 [3, 2, 12, 6, 5, 4] 6 8 [3, 2, 12, 6, 5, 4, -1, -1] _ rfl _ _ (by simp) (by decide) (by decide) rfl (by decide) (by decide) rfl rfl).mono ?_
    rintro e w1 ⟨gA, cA, rfl, iA, n1⟩
    go_wp2_with fail
    refine (eplain_lst x _ gA 8 cA (lsP x) _ hx hx' rfl (by decide) iA (e_ls x)).mono ?_
    rintro e w2 ⟨rfl, n2⟩
    have n4 := n1.trans n2
    clear n1 n2 iA
    obtain ⟨c0, c1, c2, c3, c4, z0, z1, z2, z3, z4, hz⟩ := five_cells n4
    have HN := Lib.hid (((Nx.refl w).alloc _).trans n4)
    clear n4
    go_wp2
    refine bodyPost_ret (v := insV (thdI x 2 (fld x 7 5) (fld x 2 5) _ (fld x 2 5))) (by simp [results, Try.results33, go_sem, insV, thdI, c0, c1, c2, c3, c4, hr]) rfl ⟨rfl, ?_⟩
    repeat (with_reducible first | exact HN.out | refine Nx.alloc ?_ _ | refine Nx.setCell ?_ (Nat.le_refl _) _)

set_option maxHeartbeats 8000000 in
theorem q2_6 (x B : Int) (w : World) (hx : 0 ≤ x) (hx' : x < 65536) (hf : fld x 13 3 = 6) (hb : fld x 12 1 = B) (hB : B = 0 ∨ B = 1) :
    Calls Try.prog 33 #[.int .u32 x] w fun e w' => e = .returned (insV (thdI x 6 (fld x 7 5) (fld x 2 5) B (fld x 2 5))) ∧ Nx w w' := by
  have r0 := fld_nonneg x 7 5
  have r1 : fld x 7 5 < 32 := fld_lt x 7 5
  have p0 := fld_nonneg x 2 5
  have p1 : fld x 2 5 < 32 := fld_lt x 2 5
  have g0 := fld_nonneg x 7 3
  have g1 : fld x 7 3 < 8 := fld_lt x 7 3
  have k0 := fld_nonneg x 2 3
  have k1 : fld x 2 3 < 8 := fld_lt x 2 3
  obtain ⟨s1, s2⟩ := ss_bd x
  rcases hB with rfl | rfl
  all_goals
    go_enter Try.func33, Try.ntmps33
    go_wp2_with fail
    refine (efield_v x 11 7 5 (fld x 7 5) _ hx hx' (by decide) (by decide) (by decide) (by decide) rfl rfl).mono ?_
    rintro e w' ⟨rfl, rfl⟩
    go_wp2_with fail
    refine (efield_v x 6 2 5 (fld x 2 5) _ hx hx' (by decide) (by decide) (by decide) (by decide) rfl rfl).mono ?_
    rintro e w' ⟨rfl, rfl⟩
    go_wp2_with fail
    refine (efield_v x 12 12 1 _ _ hx hx' (by decide) (by decide) (by decide) (by decide) rfl hb).mono ?_
    rintro e w' ⟨rfl, rfl⟩
    go_wp2_with fail
    refine (efield_v x 15 13 3 _ _ hx hx' (by decide) (by decide) (by decide) (by decide) rfl hf).mono ?_
    rintro e w' ⟨rfl, rfl⟩
    go_wp2_with fail
    refine (elist_lst 2 [8, 7, 12, 11, 10, 9] 6 8 [8, 7, 12, 11, 10, 9, -1, -1] _ rfl _ _ (by simp) (by decide) (by decide) rfl (by decide) (by decide) rfl rfl).mono ?_
    rintro e w1 ⟨gA, cA, rfl, iA, n1⟩
    go_wp2_with fail
    refine (eplain_lst x _ gA 8 cA (ssP x) _ hx hx' rfl (by decide) iA (e_ss x)).mono ?_
    rintro e w2 ⟨rfl, n2⟩
    have n4 := n1.trans n2
    clear n1 n2 iA
    obtain ⟨c0, c1, c2, c3, c4, z0, z1, z2, z3, z4, hz⟩ := five_cells n4
    have HN := Lib.hid (((Nx.refl w).alloc _).trans n4)
    clear n4
    go_wp2
    refine bodyPost_ret (v := insV (thdI x 6 (fld x 7 5) (fld x 2 5) _ (fld x 2 5))) (by simp [results, Try.results33, go_sem, insV, thdI, c0, c1, c2, c3, c4]) rfl ⟨rfl, ?_⟩
    repeat (with_reducible first | exact HN.out | refine Nx.alloc ?_ _ | refine Nx.setCell ?_ (Nat.le_refl _) _)

theorem quarter2_any (x : Int) (w : World) (hx : 0 ≤ x) (hx' : x < 65536) :
    Calls Try.prog 33 #[.int .u32 x] w fun e w' => e = .returned (insV (thdI x (fld x 13 3) (fld x 7 5) (fld x 2 5) (fld x 12 1) (fld x 2 5))) ∧ Nx w w' := by
  have f0 := fld_nonneg x 13 3
  have ff : fld x 13 3 < 8 := fld_lt x 13 3
  have g0 := fld_nonneg x 12 1
  have g1 : fld x 12 1 < 2 := fld_lt x 12 1
  have hB : fld x 12 1 = 0 ∨ fld x 12 1 = 1 := by omega
  have hf : fld x 13 3 = 0 ∨ fld x 13 3 = 1 ∨ fld x 13 3 = 2 ∨ fld x 13 3 = 3 ∨ fld x 13 3 = 4 ∨ fld x 13 3 = 5 ∨ fld x 13 3 = 6 ∨ fld x 13 3 = 7 := by omega
  rcases hf with h | h | h | h | h | h | h | h <;> rw [h]
  · rcases hB with hb | hb <;> rw [hb]
    · exact q2_00 x w hx hx' h hb
    · exact q2_01 x w hx hx' h hb
  · exact q2_1 x _ w hx hx' h rfl
  · by_cases hr : fld x 7 5 = 0
    · rcases hB with hb | hb <;> rw [hb]
      · exact q2_2a0 x w hx hx' h hb hr
      · exact q2_2a1 x w hx hx' h hb hr
    · exact q2_2b x _ w hx hx' h rfl hB hr
  · exact q2_3 x _ w hx hx' h rfl
  · by_cases h1 : fld x 2 5 = 0 <;> by_cases h2 : fld x 7 5 = 0 <;> rcases hB with hb | hb <;> rw [hb]
    · exact q2_40a x w hx hx' h hb h1 h2
    · exact q2_41a x w hx hx' h hb h1 h2
    · exact q2_40b x w hx hx' h hb h1 h2
    · exact q2_41b x w hx hx' h hb h1 h2
    · exact q2_40c x w hx hx' h hb h1 h2
    · exact q2_41c x w hx hx' h hb h1 h2
    · exact q2_40d x w hx hx' h hb h1 h2
    · exact q2_41d x w hx hx' h hb h1 h2
  · exact q2_5 x _ w hx hx' h rfl
  · exact q2_6 x _ w hx hx' h rfl hB
  · exact q2_7 x _ w hx hx' h rfl

end Go.Proofs.Ytppnmaklggkogaa

