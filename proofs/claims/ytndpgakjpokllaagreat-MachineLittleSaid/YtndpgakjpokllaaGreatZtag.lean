/- Parts of the proof, one behind the other. -/
import Derived.OwnWalk
import Derived.Test.YtndpgakjpokllaaGreatZtab
import Derived.Test.YtndpgakjpokllaaGreatZtac
import Derived.Test.YtndpgakjpokllaaGreatZtad
import Derived.Test.YtndpgakjpokllaaGreatZtaf
/- Contracts of package wide: a word's instruction. -/
namespace Go.Proofs.YtndpgakjpokllaaGreat
open Go.RowKit
set_option linter.unusedVariables false

set_option maxHeartbeats 1000000 in
theorem decoded_37 (x : Int) (w : World) (hx : 0 ≤ x) (hx' : x < 4294967296) (ho : fld x 0 7 = 55) :
    Calls Tryz.prog 164 #[.int .u32 x] w fun e w' => e = .returned (.agg #[.int .i64 1, .int .i64 (fld x 7 5), .int .i64 0, .int .i64 0, .int .i32 (immU x)]) ∧ Nx w w' := by
  go_enter Tryz.func164, Tryz.ntmps164
  go_wp2_with fail
  refine (split_anyW _ _ hx hx').mono ?_
  rintro e w1 ⟨rfl, hn⟩
  go_wp2_with fail
  (refine wp_region_nx 5 (by kernel_rfl) (by kernel_rfl) ?_; simp only [List.take_succ_cons, List.take_zero, List.drop_succ_cons, List.drop_zero]; (repeat (refine wpQuiet_step (fun K hK => ?_); go_simp; first | (refine hK _ ?_; clear hK K) | (apply Exists.intro; refine ⟨fun w' hw' => ?_, hK _ ?_⟩; (first | rfl | (obtain ⟨hc, hf⟩ := nx_cells hw'; go_simp; rfl) | (go_at_call 166; exact (immU_any _ _ hx hx').mono fun _ _ h => ⟨h.1, hw'.trans h.2⟩)); clear hK K))); refine wpQuiet_nil ?_; intro w2 hn2)
  have hn3 := hn.trans (((Nx.refl w1).alloc _).trans hn2)
  obtain ⟨c0, c1, c2, c3, c4, z0, z1, z2, z3, z4, hz⟩ := five_cells hn3
  have hb := Lib.hid (((Nx.refl w).alloc _).trans hn3)
  go_wp2
  refine bodyPost_ret (v := .agg #[.int .i64 1, .int .i64 (fld x 7 5), .int .i64 0, .int .i64 0, .int .i32 (immU x)]) (by simp [results, Tryz.results164, go_sem, c0, c1, c2, c3, c4]) rfl ⟨rfl, ?_⟩
  repeat (refine Nx.setCell ?_ (Nat.le_refl _) _)
  exact hb.out

set_option maxHeartbeats 1000000 in
theorem decoded_17 (x : Int) (w : World) (hx : 0 ≤ x) (hx' : x < 4294967296) (ho : fld x 0 7 = 23) :
    Calls Tryz.prog 164 #[.int .u32 x] w fun e w' => e = .returned (.agg #[.int .i64 2, .int .i64 (fld x 7 5), .int .i64 0, .int .i64 0, .int .i32 (immU x)]) ∧ Nx w w' := by
  go_enter Tryz.func164, Tryz.ntmps164
  go_wp2_with fail
  refine (split_anyW _ _ hx hx').mono ?_
  rintro e w1 ⟨rfl, hn⟩
  go_wp2_with fail
  (refine wp_region_nx 5 (by kernel_rfl) (by kernel_rfl) ?_; simp only [List.take_succ_cons, List.take_zero, List.drop_succ_cons, List.drop_zero]; (repeat (refine wpQuiet_step (fun K hK => ?_); go_simp; first | (refine hK _ ?_; clear hK K) | (apply Exists.intro; refine ⟨fun w' hw' => ?_, hK _ ?_⟩; (first | rfl | (obtain ⟨hc, hf⟩ := nx_cells hw'; go_simp; rfl) | (go_at_call 166; exact (immU_any _ _ hx hx').mono fun _ _ h => ⟨h.1, hw'.trans h.2⟩)); clear hK K))); refine wpQuiet_nil ?_; intro w2 hn2)
  have hn3 := hn.trans (((Nx.refl w1).alloc _).trans hn2)
  obtain ⟨c0, c1, c2, c3, c4, z0, z1, z2, z3, z4, hz⟩ := five_cells hn3
  have hb := Lib.hid (((Nx.refl w).alloc _).trans hn3)
  go_wp2
  refine bodyPost_ret (v := .agg #[.int .i64 2, .int .i64 (fld x 7 5), .int .i64 0, .int .i64 0, .int .i32 (immU x)]) (by simp [results, Tryz.results164, go_sem, c0, c1, c2, c3, c4]) rfl ⟨rfl, ?_⟩
  repeat (refine Nx.setCell ?_ (Nat.le_refl _) _)
  exact hb.out

set_option maxHeartbeats 1000000 in
theorem decoded_6f (x : Int) (w : World) (hx : 0 ≤ x) (hx' : x < 4294967296) (ho : fld x 0 7 = 111) :
    Calls Tryz.prog 164 #[.int .u32 x] w fun e w' => e = .returned (.agg #[.int .i64 3, .int .i64 (fld x 7 5), .int .i64 0, .int .i64 0, .int .i32 (immJ x)]) ∧ Nx w w' := by
  go_enter Tryz.func164, Tryz.ntmps164
  go_wp2_with fail
  refine (split_anyW _ _ hx hx').mono ?_
  rintro e w1 ⟨rfl, hn⟩
  go_wp2_with fail
  (refine wp_region_nx 5 (by kernel_rfl) (by kernel_rfl) ?_; simp only [List.take_succ_cons, List.take_zero, List.drop_succ_cons, List.drop_zero]; (repeat (refine wpQuiet_step (fun K hK => ?_); go_simp; first | (refine hK _ ?_; clear hK K) | (apply Exists.intro; refine ⟨fun w' hw' => ?_, hK _ ?_⟩; (first | rfl | (obtain ⟨hc, hf⟩ := nx_cells hw'; go_simp; rfl) | (go_at_call 167; exact (immJ_any _ _ hx hx').mono fun _ _ h => ⟨h.1, hw'.trans h.2⟩)); clear hK K))); refine wpQuiet_nil ?_; intro w2 hn2)
  have hn3 := hn.trans (((Nx.refl w1).alloc _).trans hn2)
  obtain ⟨c0, c1, c2, c3, c4, z0, z1, z2, z3, z4, hz⟩ := five_cells hn3
  have hb := Lib.hid (((Nx.refl w).alloc _).trans hn3)
  go_wp2
  refine bodyPost_ret (v := .agg #[.int .i64 3, .int .i64 (fld x 7 5), .int .i64 0, .int .i64 0, .int .i32 (immJ x)]) (by simp [results, Tryz.results164, go_sem, c0, c1, c2, c3, c4]) rfl ⟨rfl, ?_⟩
  repeat (refine Nx.setCell ?_ (Nat.le_refl _) _)
  exact hb.out

set_option maxHeartbeats 1000000 in
theorem decoded_63 (x : Int) (w : World) (hx : 0 ≤ x) (hx' : x < 4294967296) (ho : fld x 0 7 = 99) :
    Calls Tryz.prog 164 #[.int .u32 x] w fun e w' => e = .returned (.agg #[.int .i64 (brOp (fld x 12 3)), .int .i64 0, .int .i64 (fld x 15 5), .int .i64 (fld x 20 5), .int .i32 (immB x)]) ∧ Nx w w' := by
  go_enter Tryz.func164, Tryz.ntmps164
  go_wp2_with fail
  refine (split_anyW _ _ hx hx').mono ?_
  rintro e w1 ⟨rfl, hn⟩
  go_wp2_with fail
  (refine wp_region_nx 10 (by kernel_rfl) (by kernel_rfl) ?_; simp only [List.take_succ_cons, List.take_zero, List.drop_succ_cons, List.drop_zero]; (repeat (refine wpQuiet_step (fun K hK => ?_); go_simp; first | (refine hK _ ?_; clear hK K) | (apply Exists.intro; refine ⟨fun w' hw' => ?_, hK _ ?_⟩; (first | rfl | (obtain ⟨hc, hf⟩ := nx_cells hw'; go_simp; rfl) | (go_at_call 168; exact (branch_any _ _).mono fun _ _ h => ⟨h.1, hw'.trans (Nx.of_eq h.2)⟩) | (go_at_call 169; exact (immB_any _ _ hx hx').mono fun _ _ h => ⟨h.1, hw'.trans h.2⟩)); clear hK K))); refine wpQuiet_nil ?_; intro w2 hn2)
  have hn3 := hn.trans (((Nx.refl w1).alloc _).trans hn2)
  obtain ⟨c0, c1, c2, c3, c4, z0, z1, z2, z3, z4, hz⟩ := five_cells hn3
  have hb := Lib.hid (((Nx.refl w).alloc _).trans hn3)
  go_wp2
  refine bodyPost_ret (v := .agg #[.int .i64 (brOp (fld x 12 3)), .int .i64 0, .int .i64 (fld x 15 5), .int .i64 (fld x 20 5), .int .i32 (immB x)]) (by simp [results, Tryz.results164, go_sem, c0, c1, c2, c3, c4]) rfl ⟨rfl, ?_⟩
  repeat (refine Nx.setCell ?_ (Nat.le_refl _) _)
  exact hb.out

set_option maxHeartbeats 1000000 in
theorem decoded_23 (x : Int) (w : World) (hx : 0 ≤ x) (hx' : x < 4294967296) (ho : fld x 0 7 = 35) :
    Calls Tryz.prog 164 #[.int .u32 x] w fun e w' => e = .returned (.agg #[.int .i64 (stOp (fld x 12 3)), .int .i64 0, .int .i64 (fld x 15 5), .int .i64 (fld x 20 5), .int .i32 (immS x)]) ∧ Nx w w' := by
  go_enter Tryz.func164, Tryz.ntmps164
  go_wp2_with fail
  refine (split_anyW _ _ hx hx').mono ?_
  rintro e w1 ⟨rfl, hn⟩
  go_wp2_with fail
  (refine wp_region_nx 10 (by kernel_rfl) (by kernel_rfl) ?_; simp only [List.take_succ_cons, List.take_zero, List.drop_succ_cons, List.drop_zero]; (repeat (refine wpQuiet_step (fun K hK => ?_); go_simp; first | (refine hK _ ?_; clear hK K) | (apply Exists.intro; refine ⟨fun w' hw' => ?_, hK _ ?_⟩; (first | rfl | (obtain ⟨hc, hf⟩ := nx_cells hw'; go_simp; rfl) | (go_at_call 170; exact (store_any _ _).mono fun _ _ h => ⟨h.1, hw'.trans (Nx.of_eq h.2)⟩) | (go_at_call 171; exact (immS_any _ _ hx hx').mono fun _ _ h => ⟨h.1, hw'.trans h.2⟩)); clear hK K))); refine wpQuiet_nil ?_; intro w2 hn2)
  have hn3 := hn.trans (((Nx.refl w1).alloc _).trans hn2)
  obtain ⟨c0, c1, c2, c3, c4, z0, z1, z2, z3, z4, hz⟩ := five_cells hn3
  have hb := Lib.hid (((Nx.refl w).alloc _).trans hn3)
  go_wp2
  refine bodyPost_ret (v := .agg #[.int .i64 (stOp (fld x 12 3)), .int .i64 0, .int .i64 (fld x 15 5), .int .i64 (fld x 20 5), .int .i32 (immS x)]) (by simp [results, Tryz.results164, go_sem, c0, c1, c2, c3, c4]) rfl ⟨rfl, ?_⟩
  repeat (refine Nx.setCell ?_ (Nat.le_refl _) _)
  exact hb.out

set_option maxHeartbeats 1000000 in
theorem decoded_13s (x : Int) (w : World) (hx : 0 ≤ x) (hx' : x < 4294967296) (ho : fld x 0 7 = 19) (hf : fld x 12 3 = 1 ∨ fld x 12 3 = 5) :
    Calls Tryz.prog 164 #[.int .u32 x] w fun e w' => e = .returned (.agg #[.int .i64 (shOp (fld x 12 3) (fld x 25 7)), .int .i64 (fld x 7 5), .int .i64 (fld x 15 5), .int .i64 0, .int .i32 (fld x 20 5)]) ∧ Nx w w' := by
  have b1 := fld_nonneg x 20 5
  have b2 : fld x 20 5 < 32 := fld_lt x 20 5
  rcases hf with hf | hf
  all_goals
  go_enter Tryz.func164, Tryz.ntmps164
  go_wp2_with fail
  refine (split_anyW _ _ hx hx').mono ?_
  rintro e w1 ⟨rfl, hn⟩
  go_wp2_with fail
  (refine wp_region_nx 13 (by kernel_rfl) (by kernel_rfl) ?_; simp only [List.take_succ_cons, List.take_zero, List.drop_succ_cons, List.drop_zero]; (repeat (refine wpQuiet_step (fun K hK => ?_); go_simp; first | (refine hK _ ?_; clear hK K) | (apply Exists.intro; refine ⟨fun w' hw' => ?_, hK _ ?_⟩; (first | rfl | (obtain ⟨hc, hf⟩ := nx_cells hw'; go_simp; rfl) | (go_at_call 172; exact (shift_any _ _ _).mono fun _ _ h => ⟨h.1, hw'.trans (Nx.of_eq h.2)⟩)); clear hK K))); refine wpQuiet_nil ?_; intro w2 hn2)
  have hn3 := hn.trans (((Nx.refl w1).alloc _).trans hn2)
  obtain ⟨c0, c1, c2, c3, c4, z0, z1, z2, z3, z4, hz⟩ := five_cells hn3
  have hb := Lib.hid (((Nx.refl w).alloc _).trans hn3)
  go_wp2
  refine bodyPost_ret (v := .agg #[.int .i64 (shOp (fld x 12 3) (fld x 25 7)), .int .i64 (fld x 7 5), .int .i64 (fld x 15 5), .int .i64 0, .int .i32 (fld x 20 5)]) (by simp [results, Tryz.results164, go_sem, c0, c1, c2, c3, c4, hf]) rfl ⟨rfl, ?_⟩
  repeat (refine Nx.setCell ?_ (Nat.le_refl _) _)
  exact hb.out

set_option maxHeartbeats 1000000 in
theorem decoded_13n (x : Int) (w : World) (hx : 0 ≤ x) (hx' : x < 4294967296) (ho : fld x 0 7 = 19) (hf : (fld x 12 3 == 1) = false) (hf5 : (fld x 12 3 == 5) = false) :
    Calls Tryz.prog 164 #[.int .u32 x] w fun e w' => e = .returned (.agg #[.int .i64 (nuOp 19 (fld x 12 3)), .int .i64 (fld x 7 5), .int .i64 (fld x 15 5), .int .i64 0, .int .i32 (immI x)]) ∧ Nx w w' := by
  go_enter Tryz.func164, Tryz.ntmps164
  go_wp2_with fail
  refine (split_anyW _ _ hx hx').mono ?_
  rintro e w1 ⟨rfl, hn⟩
  go_wp2_with fail
  (refine wp_region_nx 12 (by kernel_rfl) (by kernel_rfl) ?_; simp only [List.take_succ_cons, List.take_zero, List.drop_succ_cons, List.drop_zero]; (repeat (refine wpQuiet_step (fun K hK => ?_); go_simp; first | (refine hK _ ?_; clear hK K) | (apply Exists.intro; refine ⟨fun w' hw' => ?_, hK _ ?_⟩; (first | rfl | (obtain ⟨hc, hf⟩ := nx_cells hw'; go_simp; rfl) | (go_at_call 173; exact (number_any _ _ _).mono fun _ _ h => ⟨h.1, hw'.trans (Nx.of_eq h.2)⟩) | (go_at_call 174; exact (immI_any _ _ hx hx').mono fun _ _ h => ⟨h.1, hw'.trans h.2⟩)); clear hK K))); refine wpQuiet_nil ?_; intro w2 hn2)
  have hn3 := hn.trans (((Nx.refl w1).alloc _).trans hn2)
  obtain ⟨c0, c1, c2, c3, c4, z0, z1, z2, z3, z4, hz⟩ := five_cells hn3
  have hb := Lib.hid (((Nx.refl w).alloc _).trans hn3)
  go_wp2
  refine bodyPost_ret (v := .agg #[.int .i64 (nuOp 19 (fld x 12 3)), .int .i64 (fld x 7 5), .int .i64 (fld x 15 5), .int .i64 0, .int .i32 (immI x)]) (by simp [results, Tryz.results164, go_sem, c0, c1, c2, c3, c4]) rfl ⟨rfl, ?_⟩
  repeat (refine Nx.setCell ?_ (Nat.le_refl _) _)
  exact hb.out

set_option maxHeartbeats 1000000 in
theorem decoded_67 (x : Int) (w : World) (hx : 0 ≤ x) (hx' : x < 4294967296) (ho : fld x 0 7 = 103) :
    Calls Tryz.prog 164 #[.int .u32 x] w fun e w' => e = .returned (.agg #[.int .i64 (nuOp 103 (fld x 12 3)), .int .i64 (fld x 7 5), .int .i64 (fld x 15 5), .int .i64 0, .int .i32 (immI x)]) ∧ Nx w w' := by
  go_enter Tryz.func164, Tryz.ntmps164
  go_wp2_with fail
  refine (split_anyW _ _ hx hx').mono ?_
  rintro e w1 ⟨rfl, hn⟩
  go_wp2_with fail
  (refine wp_region_nx 12 (by kernel_rfl) (by kernel_rfl) ?_; simp only [List.take_succ_cons, List.take_zero, List.drop_succ_cons, List.drop_zero]; (repeat (refine wpQuiet_step (fun K hK => ?_); go_simp; first | (refine hK _ ?_; clear hK K) | (apply Exists.intro; refine ⟨fun w' hw' => ?_, hK _ ?_⟩; (first | rfl | (obtain ⟨hc, hf⟩ := nx_cells hw'; go_simp; rfl) | (go_at_call 173; exact (number_any _ _ _).mono fun _ _ h => ⟨h.1, hw'.trans (Nx.of_eq h.2)⟩) | (go_at_call 174; exact (immI_any _ _ hx hx').mono fun _ _ h => ⟨h.1, hw'.trans h.2⟩)); clear hK K))); refine wpQuiet_nil ?_; intro w2 hn2)
  have hn3 := hn.trans (((Nx.refl w1).alloc _).trans hn2)
  obtain ⟨c0, c1, c2, c3, c4, z0, z1, z2, z3, z4, hz⟩ := five_cells hn3
  have hb := Lib.hid (((Nx.refl w).alloc _).trans hn3)
  go_wp2
  refine bodyPost_ret (v := .agg #[.int .i64 (nuOp 103 (fld x 12 3)), .int .i64 (fld x 7 5), .int .i64 (fld x 15 5), .int .i64 0, .int .i32 (immI x)]) (by simp [results, Tryz.results164, go_sem, c0, c1, c2, c3, c4]) rfl ⟨rfl, ?_⟩
  repeat (refine Nx.setCell ?_ (Nat.le_refl _) _)
  exact hb.out

set_option maxHeartbeats 1000000 in
theorem decoded_03 (x : Int) (w : World) (hx : 0 ≤ x) (hx' : x < 4294967296) (ho : fld x 0 7 = 3) :
    Calls Tryz.prog 164 #[.int .u32 x] w fun e w' => e = .returned (.agg #[.int .i64 (nuOp 3 (fld x 12 3)), .int .i64 (fld x 7 5), .int .i64 (fld x 15 5), .int .i64 0, .int .i32 (immI x)]) ∧ Nx w w' := by
  go_enter Tryz.func164, Tryz.ntmps164
  go_wp2_with fail
  refine (split_anyW _ _ hx hx').mono ?_
  rintro e w1 ⟨rfl, hn⟩
  go_wp2_with fail
  (refine wp_region_nx 12 (by kernel_rfl) (by kernel_rfl) ?_; simp only [List.take_succ_cons, List.take_zero, List.drop_succ_cons, List.drop_zero]; (repeat (refine wpQuiet_step (fun K hK => ?_); go_simp; first | (refine hK _ ?_; clear hK K) | (apply Exists.intro; refine ⟨fun w' hw' => ?_, hK _ ?_⟩; (first | rfl | (obtain ⟨hc, hf⟩ := nx_cells hw'; go_simp; rfl) | (go_at_call 173; exact (number_any _ _ _).mono fun _ _ h => ⟨h.1, hw'.trans (Nx.of_eq h.2)⟩) | (go_at_call 174; exact (immI_any _ _ hx hx').mono fun _ _ h => ⟨h.1, hw'.trans h.2⟩)); clear hK K))); refine wpQuiet_nil ?_; intro w2 hn2)
  have hn3 := hn.trans (((Nx.refl w1).alloc _).trans hn2)
  obtain ⟨c0, c1, c2, c3, c4, z0, z1, z2, z3, z4, hz⟩ := five_cells hn3
  have hb := Lib.hid (((Nx.refl w).alloc _).trans hn3)
  go_wp2
  refine bodyPost_ret (v := .agg #[.int .i64 (nuOp 3 (fld x 12 3)), .int .i64 (fld x 7 5), .int .i64 (fld x 15 5), .int .i64 0, .int .i32 (immI x)]) (by simp [results, Tryz.results164, go_sem, c0, c1, c2, c3, c4]) rfl ⟨rfl, ?_⟩
  repeat (refine Nx.setCell ?_ (Nat.le_refl _) _)
  exact hb.out

set_option maxHeartbeats 1000000 in
theorem decoded_33 (x : Int) (w : World) (hx : 0 ≤ x) (hx' : x < 4294967296) (ho : fld x 0 7 = 51) :
    Calls Tryz.prog 164 #[.int .u32 x] w fun e w' => e = .returned (.agg #[.int .i64 (rgOp (fld x 12 3) (fld x 25 7)), .int .i64 (fld x 7 5), .int .i64 (fld x 15 5), .int .i64 (fld x 20 5), .int .i32 0]) ∧ Nx w w' := by
  go_enter Tryz.func164, Tryz.ntmps164
  go_wp2_with fail
  refine (split_anyW _ _ hx hx').mono ?_
  rintro e w1 ⟨rfl, hn⟩
  go_wp2_with fail
  (refine wp_region_nx 12 (by kernel_rfl) (by kernel_rfl) ?_; simp only [List.take_succ_cons, List.take_zero, List.drop_succ_cons, List.drop_zero]; (repeat (refine wpQuiet_step (fun K hK => ?_); go_simp; first | (refine hK _ ?_; clear hK K) | (apply Exists.intro; refine ⟨fun w' hw' => ?_, hK _ ?_⟩; (first | rfl | (obtain ⟨hc, hf⟩ := nx_cells hw'; go_simp; rfl) | (go_at_call 175; exact (register_any _ _ _ (fld_nonneg _ _ _) (fld_u32 _ _ _ (by omega))).mono fun _ _ h => ⟨h.1, hw'.trans (Nx.of_eq h.2)⟩)); clear hK K))); refine wpQuiet_nil ?_; intro w2 hn2)
  have hn3 := hn.trans (((Nx.refl w1).alloc _).trans hn2)
  obtain ⟨c0, c1, c2, c3, c4, z0, z1, z2, z3, z4, hz⟩ := five_cells hn3
  have hb := Lib.hid (((Nx.refl w).alloc _).trans hn3)
  go_wp2
  refine bodyPost_ret (v := .agg #[.int .i64 (rgOp (fld x 12 3) (fld x 25 7)), .int .i64 (fld x 7 5), .int .i64 (fld x 15 5), .int .i64 (fld x 20 5), .int .i32 0]) (by simp [results, Tryz.results164, go_sem, c0, c1, c2, c3, c4]) rfl ⟨rfl, ?_⟩
  repeat (refine Nx.setCell ?_ (Nat.le_refl _) _)
  exact hb.out

set_option maxHeartbeats 1000000 in
theorem decoded_bare (x : Int) (w : World) (hx : 0 ≤ x) (hx' : x < 4294967296) (ho : fld x 0 7 = 15 ∨ fld x 0 7 = 115) :
    Calls Tryz.prog 164 #[.int .u32 x] w fun e w' => e = .returned (.agg #[.int .i64 (baOp x (fld x 0 7) (fld x 12 3)), .int .i64 0, .int .i64 0, .int .i64 0, .int .i32 0]) ∧ Nx w w' := by
  rcases ho with ho | ho
  all_goals
  go_enter Tryz.func164, Tryz.ntmps164
  go_wp2_with fail
  refine (split_anyW _ _ hx hx').mono ?_
  rintro e w1 ⟨rfl, hn⟩
  go_wp2_with fail
  refine (bare_any _ _ _ _ _ _ _ _).mono ?_
  rintro e w2 ⟨rfl, hn2⟩
  have hn3 := hn.trans (((Nx.refl w1).alloc _).trans hn2)
  obtain ⟨c0, c1, c2, c3, c4, z0, z1, z2, z3, z4, hz⟩ := five_cells hn3
  have hb := Lib.hid (((Nx.refl w).alloc _).trans hn3)
  go_wp2
  refine bodyPost_ret (v := .agg #[.int .i64 (baOp x (fld x 0 7) (fld x 12 3)), .int .i64 0, .int .i64 0, .int .i64 0, .int .i32 0]) (by simp [results, Tryz.results164, go_sem, c0, c1, c2, c3, c4, ho]) rfl ⟨rfl, ?_⟩
  repeat (refine Nx.setCell ?_ (Nat.le_refl _) _)
  exact hb.out

end Go.Proofs.YtndpgakjpokllaaGreat

/- Contracts of package wide: a word's instruction, all cases. -/
namespace Go.Proofs.YtndpgakjpokllaaGreat
open Go.RowKit
set_option linter.unusedVariables false

def known (o : Int) : Bool := o == 55 || o == 23 || o == 111 || o == 99 || o == 35 || o == 19 || o == 103 || o == 3 || o == 51 || o == 15 || o == 115

set_option maxHeartbeats 1000000 in
theorem decoded_none (x : Int) (w : World) (hx : 0 ≤ x) (hx' : x < 4294967296) (ho : known (fld x 0 7) = false) :
    Calls Tryz.prog 164 #[.int .u32 x] w fun e w' => e = .returned (.agg #[.int .i64 0, .int .i64 0, .int .i64 0, .int .i64 0, .int .i32 0]) ∧ Nx w w' := by
  simp only [known, Bool.or_eq_false_iff] at ho
  obtain ⟨⟨⟨⟨⟨⟨⟨⟨⟨⟨h1, h2⟩, h3⟩, h4⟩, h5⟩, h6⟩, h7⟩, h8⟩, h9⟩, h10⟩, h11⟩ := ho
  go_enter Tryz.func164, Tryz.ntmps164
  go_wp2_with fail
  refine (split_anyW _ _ hx hx').mono ?_
  rintro e w1 ⟨rfl, hn⟩
  obtain ⟨c0, c1, c2, c3, c4, z0, z1, z2, z3, z4, hz⟩ := five_cells hn
  have hb := Lib.hid (((Nx.refl w).alloc _).trans hn)
  go_wp2
  refine bodyPost_ret (v := .agg #[.int .i64 0, .int .i64 0, .int .i64 0, .int .i64 0, .int .i32 0]) (by simp [results, Tryz.results164, go_sem, c0, c1, c2, c3, c4, hz]) rfl ⟨rfl, ?_⟩
  refine Nx.alloc ?_ _
  repeat (refine Nx.setCell ?_ (Nat.le_refl _) _)
  exact hb.out

def dec (x : Int) : In5 :=
  if fld x 0 7 = 55 then ⟨1, fld x 7 5, 0, 0, immU x⟩
  else if fld x 0 7 = 23 then ⟨2, fld x 7 5, 0, 0, immU x⟩
  else if fld x 0 7 = 111 then ⟨3, fld x 7 5, 0, 0, immJ x⟩
  else if fld x 0 7 = 99 then ⟨brOp (fld x 12 3), 0, fld x 15 5, fld x 20 5, immB x⟩
  else if fld x 0 7 = 35 then ⟨stOp (fld x 12 3), 0, fld x 15 5, fld x 20 5, immS x⟩
  else if fld x 0 7 = 19 then (if fld x 12 3 = 1 ∨ fld x 12 3 = 5 then ⟨shOp (fld x 12 3) (fld x 25 7), fld x 7 5, fld x 15 5, 0, fld x 20 5⟩ else ⟨nuOp 19 (fld x 12 3), fld x 7 5, fld x 15 5, 0, immI x⟩)
  else if fld x 0 7 = 103 then ⟨nuOp 103 (fld x 12 3), fld x 7 5, fld x 15 5, 0, immI x⟩
  else if fld x 0 7 = 3 then ⟨nuOp 3 (fld x 12 3), fld x 7 5, fld x 15 5, 0, immI x⟩
  else if fld x 0 7 = 51 then ⟨rgOp (fld x 12 3) (fld x 25 7), fld x 7 5, fld x 15 5, fld x 20 5, 0⟩
  else if fld x 0 7 = 15 ∨ fld x 0 7 = 115 then ⟨baOp x (fld x 0 7) (fld x 12 3), 0, 0, 0, 0⟩
  else none5

theorem decoded_any (x : Int) (w : World) (hx : 0 ≤ x) (hx' : x < 4294967296) :
    Calls Tryz.prog 164 #[.int .u32 x] w fun e w' => e = .returned (.agg #[.int .i64 (dec x).op, .int .i64 (dec x).rd, .int .i64 (dec x).rs1, .int .i64 (dec x).rs2, .int .i32 (dec x).imm]) ∧ Nx w w' := by
  unfold dec
  by_cases h1 : fld x 0 7 = 55
  · rw [if_pos h1]; exact decoded_37 x w hx hx' h1
  rw [if_neg h1]
  by_cases h2 : fld x 0 7 = 23
  · rw [if_pos h2]; exact decoded_17 x w hx hx' h2
  rw [if_neg h2]
  by_cases h3 : fld x 0 7 = 111
  · rw [if_pos h3]; exact decoded_6f x w hx hx' h3
  rw [if_neg h3]
  by_cases h4 : fld x 0 7 = 99
  · rw [if_pos h4]; exact decoded_63 x w hx hx' h4
  rw [if_neg h4]
  by_cases h5 : fld x 0 7 = 35
  · rw [if_pos h5]; exact decoded_23 x w hx hx' h5
  rw [if_neg h5]
  by_cases h6 : fld x 0 7 = 19
  · rw [if_pos h6]
    by_cases hf : fld x 12 3 = 1 ∨ fld x 12 3 = 5
    · rw [if_pos hf]; exact decoded_13s x w hx hx' h6 hf
    · rw [if_neg hf]; exact decoded_13n x w hx hx' h6 (beq_eq_false_iff_ne.2 (fun c => hf (Or.inl c))) (beq_eq_false_iff_ne.2 (fun c => hf (Or.inr c)))
  rw [if_neg h6]
  by_cases h7 : fld x 0 7 = 103
  · rw [if_pos h7]; exact decoded_67 x w hx hx' h7
  rw [if_neg h7]
  by_cases h8 : fld x 0 7 = 3
  · rw [if_pos h8]; exact decoded_03 x w hx hx' h8
  rw [if_neg h8]
  by_cases h9 : fld x 0 7 = 51
  · rw [if_pos h9]; exact decoded_33 x w hx hx' h9
  rw [if_neg h9]
  by_cases h10 : fld x 0 7 = 15 ∨ fld x 0 7 = 115
  · rw [if_pos h10]; exact decoded_bare x w hx hx' h10
  rw [if_neg h10]
  refine decoded_none x w hx hx' ?_
  have ha : ¬ fld x 0 7 = 15 := fun c => h10 (Or.inl c)
  have hb : ¬ fld x 0 7 = 115 := fun c => h10 (Or.inr c)
  simp [known, h1, h2, h3, h4, h5, h6, h7, h8, h9, ha, hb]

/-- What Decode hands back: the instruction, or nothing. -/
def decI (x : Int) : In5 := if (dec x).op = 0 then none5 else dec x

set_option maxHeartbeats 1000000 in
theorem decode_any (x : Int) (w : World) (hx : 0 ≤ x) (hx' : x < 4294967296) :
    Calls Tryz.prog 163 #[.int .u32 x] w fun e w' => e = .returned (.tuple #[.agg #[.int .i64 (decI x).op, .int .i64 (decI x).rd, .int .i64 (decI x).rs1, .int .i64 (decI x).rs2, .int .i32 (decI x).imm], .bool (!((dec x).op == 0))]) ∧ Nx w w' := by
  by_cases h : (dec x).op = 0
  · have h' : ((dec x).op == 0) = true := by rw [beq_iff_eq]; exact h
    have e1 : decI x = none5 := by unfold decI; rw [if_pos h]
    rw [e1, h']
    clear e1 h
    go_enter Tryz.func163, Tryz.ntmps163
    go_wp2_with fail
    refine (decoded_any _ _ hx hx').mono ?_
    rintro e w1 ⟨rfl, hn⟩
    obtain ⟨c0, c1, c2, c3, c4, z0, z1, z2, z3, z4, hz⟩ := five_cells hn
    have hb := Lib.hid (((Nx.refl w).alloc _).trans hn)
    go_wp2
    refine bodyPost_ret (v := .tuple #[.agg #[.int .i64 0, .int .i64 0, .int .i64 0, .int .i64 0, .int .i32 0], .bool false]) (by simp [results, Tryz.results163, go_sem, c0, c1, c2, c3, c4, hz]) rfl ⟨by simp [none5], ?_⟩
    repeat (with_reducible first | refine Nx.alloc ?_ _ | refine Nx.setCell ?_ (Nat.le_refl _) _)
    exact hb.out
  · have h' : ((dec x).op == 0) = false := beq_eq_false_iff_ne.2 h
    have e1 : decI x = dec x := by unfold decI; rw [if_neg h]
    rw [e1, h']
    clear e1
    go_enter Tryz.func163, Tryz.ntmps163
    go_wp2_with fail
    refine (decoded_any _ _ hx hx').mono ?_
    rintro e w1 ⟨rfl, hn⟩
    obtain ⟨c0, c1, c2, c3, c4, z0, z1, z2, z3, z4, hz⟩ := five_cells hn
    have hb := Lib.hid (((Nx.refl w).alloc _).trans hn)
    go_wp2
    refine bodyPost_ret (v := .tuple #[.agg #[.int .i64 (dec x).op, .int .i64 (dec x).rd, .int .i64 (dec x).rs1, .int .i64 (dec x).rs2, .int .i32 (dec x).imm], .bool true]) (by simp [results, Tryz.results163, go_sem, c0, c1, c2, c3, c4, hz]) rfl ⟨rfl, ?_⟩
    repeat (with_reducible first | refine Nx.alloc ?_ _ | refine Nx.setCell ?_ (Nat.le_refl _) _)
    exact hb.out

end Go.Proofs.YtndpgakjpokllaaGreat

/- Contracts of package typecaseref03: the names, the forms. -/
namespace Go.Proofs.YtndpgakjpokllaaGreat
open Go.RowKit
set_option linter.unusedVariables false

/-- A text, by its bytes. -/
abbrev B (l : List UInt8) : ByteArray := ⟨l.toArray⟩

/-- The block g holds these texts, one a cell. -/
def Strs (w : World) (g : Nat) (l : List (List UInt8)) : Prop := ∀ j s, l[j]? = some s → w.cell? ⟨g, j, none⟩ = some (.string (B s))

theorem Strs.keep {w w' : World} {g : Nat} {l : List (List UInt8)} (h : Strs w g l) (hn : Nx w w') : Strs w' g l := fun j s hs => hn.cell (h j s hs)

theorem Strs.new (w : World) (l : List (List UInt8)) (T : TypeId) : Strs (w.alloc (.cells (l.map fun s => Value.string (B s)).toArray T)) w.heap.size l := by
  intro j s hs
  have : ((l.map fun s => Value.string (B s)).toArray)[j]? = some (.string (B s)) := by simp [hs]
  simpa using this

end Go.Proofs.YtndpgakjpokllaaGreat

/- Contracts of package typecaseref04: lists of bits, and the numbers of a word. -/
namespace Go.Proofs.YtndpgakjpokllaaGreat
open Go.RowKit
set_option linter.unusedVariables false
set_option maxRecDepth 100000

theorem Nx.grown {a w w' : World} {row : Option Nat} (h : Nx a w) (hg : w.grownBy w' row) (hr : ∀ k, row = some k → a.heap.size ≤ k) : Nx a w' := Below.grown h hg h.size hr

/-- The block g holds these ints, one a cell. -/
def Ints (w : World) (g : Nat) (l : List Int) : Prop := ∀ j x, l[j]? = some x → w.cell? ⟨g, j, none⟩ = some (.int .i64 x)

theorem Ints.keep {w w' : World} {g : Nat} {l : List Int} (h : Ints w g l) (hn : Nx w w') : Ints w' g l := fun j s hs => hn.cell (h j s hs)

/-- The number of bits of a word, told from the highest on; below 0: a nought. -/
def hor (x : Int) : Int → List Int → Int
  | v, [] => v
  | v, i :: t => hor x (if 0 ≤ i then (2 * v % 4294967296 + fld x i.toNat 1) % 4294967296 else 2 * v % 4294967296) t

end Go.Proofs.YtndpgakjpokllaaGreat

/- Contracts of package typecaseref04: a word's instruction. -/
namespace Go.Proofs.YtndpgakjpokllaaGreat
open Go.RowKit
set_option linter.unusedVariables false

/-- The number of a form. -/
def immF (f x : Int) : Int := if f = 1 then jU x else if f = 2 then jJ x else if f = 3 then jB x else if f = 4 ∨ f = 6 then jI x else if f = 5 then jS x else if f = 7 then x / 1048576 % 32 else 0

/-- What a form has of a word. -/
def partsF (f op x : Int) : In5 := ⟨op, if needD f = true then x / 128 % 32 else 0, if needS f = true then x / 32768 % 32 else 0, if needT f = true then x / 1048576 % 32 else 0, immF f x⟩

theorem dec_parts (x : Int) (h0 : (decP x).op ≠ 0) : decP x = partsF (formN (decP x).op) (decP x).op x := by
  unfold decP at *
  have hf := f8 (x / 4096 % 8) (by omega) (by omega)
  by_cases h1 : x % 128 = 55
  · rw [if_pos h1]; rfl
  rw [if_neg h1] at h0 ⊢
  by_cases h2 : x % 128 = 23
  · rw [if_pos h2]; rfl
  rw [if_neg h2] at h0 ⊢
  by_cases h3 : x % 128 = 111
  · rw [if_pos h3]; rfl
  rw [if_neg h3] at h0 ⊢
  by_cases h4 : x % 128 = 99
  · rw [if_pos h4] at h0 ⊢
    rcases hf with f | f | f | f | f | f | f | f <;> rw [f] at h0 ⊢ <;> first | exact absurd rfl h0 | rfl
  rw [if_neg h4] at h0 ⊢
  by_cases h5 : x % 128 = 35
  · rw [if_pos h5] at h0 ⊢
    rcases hf with f | f | f | f | f | f | f | f <;> rw [f] at h0 ⊢ <;> first | exact absurd rfl h0 | rfl
  rw [if_neg h5] at h0 ⊢
  by_cases h6 : x % 128 = 19
  · rw [if_pos h6] at h0 ⊢
    by_cases h7 : x / 4096 % 8 = 1 ∨ x / 4096 % 8 = 5
    · rw [if_pos h7] at h0 ⊢
      rcases h7 with f | f
      all_goals
        rw [f] at h0 ⊢
        by_cases g0 : x / 33554432 % 128 = 0
        · rw [g0] at h0 ⊢; rfl
        · by_cases g1 : x / 33554432 % 128 = 32
          · rw [g1] at h0 ⊢
            first | exact absurd rfl h0 | rfl
          · exact absurd (by simp [shOp, g0, g1]) h0
    · rw [if_neg h7] at h0 ⊢
      rcases hf with f | f | f | f | f | f | f | f
      all_goals
        rw [f] at h0 h7 ⊢
        first | exact absurd rfl h0 | exact absurd (Or.inl rfl) h7 | exact absurd (Or.inr rfl) h7 | rfl
  rw [if_neg h6] at h0 ⊢
  by_cases h7 : x % 128 = 103
  · rw [if_pos h7] at h0 ⊢
    rcases hf with f | f | f | f | f | f | f | f <;> rw [f] at h0 ⊢ <;> first | exact absurd rfl h0 | rfl
  rw [if_neg h7] at h0 ⊢
  by_cases h8 : x % 128 = 3
  · rw [if_pos h8] at h0 ⊢
    rcases hf with f | f | f | f | f | f | f | f <;> rw [f] at h0 ⊢ <;> first | exact absurd rfl h0 | rfl
  rw [if_neg h8] at h0 ⊢
  by_cases h9 : x % 128 = 51
  · rw [if_pos h9] at h0 ⊢
    by_cases g0 : x / 33554432 % 128 = 0
    · rw [g0] at h0 ⊢
      rcases hf with f | f | f | f | f | f | f | f <;> rw [f] at h0 ⊢ <;> first | exact absurd rfl h0 | rfl
    · by_cases g1 : x / 33554432 % 128 = 1
      · rw [g1] at h0 ⊢
        rcases hf with f | f | f | f | f | f | f | f <;> rw [f] at h0 ⊢ <;> first | exact absurd rfl h0 | rfl
      · by_cases g2 : x / 33554432 % 128 = 32
        · rw [g2] at h0 ⊢
          rcases hf with f | f | f | f | f | f | f | f <;> rw [f] at h0 ⊢ <;> first | exact absurd rfl h0 | rfl
        · exact absurd (by simp [rgOp, g0, g1, g2]) h0
  rw [if_neg h9] at h0 ⊢
  by_cases h10 : x % 128 = 15 ∨ x % 128 = 115
  · rw [if_pos h10] at h0 ⊢
    by_cases b1 : x % 128 = 15 ∧ x / 4096 % 8 = 0
    · have e : baOp x (x % 128) (x / 4096 % 8) = 38 := by simp [baOp, b1]
      rw [e]; rfl
    · by_cases b2 : x = 115
      · subst b2; rfl
      · by_cases b3 : x = 1048691
        · subst b3; rfl
        · exact absurd (by simp only [baOp]; rw [if_neg b1, if_neg b2, if_neg b3]) h0
  rw [if_neg h10] at h0
  exact absurd rfl h0

/-- What Decode hands back: the instruction, or nothing. -/
def decJ (x : Int) : In5 := if (decP x).op = 0 then none5 else decP x

theorem op_br (f : Int) : 0 ≤ brOp f ∧ brOp f ≤ 48 := by
  unfold brOp
  repeat' split
  all_goals omega

theorem op_st (f : Int) : 0 ≤ stOp f ∧ stOp f ≤ 48 := by
  unfold stOp
  repeat' split
  all_goals omega

theorem op_sh (f g : Int) : 0 ≤ shOp f g ∧ shOp f g ≤ 48 := by
  unfold shOp
  repeat' split
  all_goals omega

theorem op_nu (o f : Int) : 0 ≤ nuOp o f ∧ nuOp o f ≤ 48 := by
  unfold nuOp reOp ldOp
  repeat' split
  all_goals omega

theorem op_rg (f g : Int) (h : 0 ≤ f) (h' : f < 8) : 0 ≤ rgOp f g ∧ rgOp f g ≤ 48 := by
  unfold rgOp plOp
  repeat' split
  all_goals omega

theorem op_ba (x o f : Int) : 0 ≤ baOp x o f ∧ baOp x o f ≤ 48 := by
  unfold baOp
  repeat' split
  all_goals omega

theorem dec_range (x : Int) : 0 ≤ (decP x).op ∧ (decP x).op ≤ 48 := by
  unfold decP
  by_cases h1 : x % 128 = 55
  · rw [if_pos h1]; dsimp only; omega
  rw [if_neg h1]
  by_cases h2 : x % 128 = 23
  · rw [if_pos h2]; dsimp only; omega
  rw [if_neg h2]
  by_cases h3 : x % 128 = 111
  · rw [if_pos h3]; dsimp only; omega
  rw [if_neg h3]
  by_cases h4 : x % 128 = 99
  · rw [if_pos h4]; exact op_br _
  rw [if_neg h4]
  by_cases h5 : x % 128 = 35
  · rw [if_pos h5]; exact op_st _
  rw [if_neg h5]
  by_cases h6 : x % 128 = 19
  · rw [if_pos h6]
    by_cases h7 : x / 4096 % 8 = 1 ∨ x / 4096 % 8 = 5
    · rw [if_pos h7]; exact op_sh _ _
    · rw [if_neg h7]; exact op_nu 19 (x / 4096 % 8)
  rw [if_neg h6]
  by_cases h7 : x % 128 = 103
  · rw [if_pos h7]; exact op_nu 103 (x / 4096 % 8)
  rw [if_neg h7]
  by_cases h8 : x % 128 = 3
  · rw [if_pos h8]; exact op_nu 3 (x / 4096 % 8)
  rw [if_neg h8]
  by_cases h9 : x % 128 = 51
  · rw [if_pos h9]; exact op_rg _ _ (by omega) (by omega)
  rw [if_neg h9]
  by_cases h10 : x % 128 = 15 ∨ x % 128 = 115
  · rw [if_pos h10]; exact op_ba _ _ _
  rw [if_neg h10]; decide

theorem formN_zero (x : Int) (h : formN (decP x).op = 0) : (decP x).op = 0 := by
  apply Classical.byContradiction
  intro h0
  have e := dec_parts x h0
  have : ∀ op : Int, formN op = 0 → op = 0 ∨ op < 1 ∨ 48 < op := by
    intro op ho
    apply Classical.byContradiction
    intro hc
    obtain ⟨n, rfl⟩ := Int.eq_ofNat_of_zero_le (show 0 ≤ op by omega)
    have h3 : ∀ n : Fin 49, 1 ≤ n.val → ¬ formN n.val = 0 := by decide
    exact h3 ⟨n, by omega⟩ (by show 1 ≤ n; omega) ho
  have hr := dec_range x
  rcases this _ h with h1 | h1 | h1 <;> omega

end Go.Proofs.YtndpgakjpokllaaGreat

/- Plain: what the machine decodes may be. -/
namespace Go.Proofs.YtndpgakjpokllaaGreat
open Go.RowKit
set_option linter.unusedVariables false

theorem fit_sgn (v : Int) (n : Nat) (h : n ≤ 32) : fitB (sgn v n) n = true := by
  unfold fitB
  rw [beq_iff_eq, sgn_emod _ _ h, sgn_sgn]

theorem even_of (v : Int) (n : Nat) (h : v % 2 = 0) (hn : 0 < n) : sgn v n % 2 = 0 := by
  obtain ⟨k, rfl⟩ : ∃ k, n = k + 1 := ⟨n - 1, by omega⟩
  have h1 := Int.bmod_emod (x := v) (m := 2 ^ (k + 1))
  rw [pow_cast] at h1
  unfold sgn
  have h2 : (2 : Int) ∣ 2 ^ (k + 1) := ⟨2 ^ k, by rw [Int.pow_succ, Int.mul_comm]⟩
  have h3 := Int.emod_emod_of_dvd (Int.bmod v (2 ^ (k + 1))) h2
  have h4 := Int.emod_emod_of_dvd v h2
  rw [← h3, h1, h4, h]

theorem num_imm (f x : Int) (h : 1 ≤ f) (h9 : f ≤ 9) : numB f (immF f x) = true := by
  rcases (by omega : f = 1 ∨ f = 2 ∨ f = 3 ∨ f = 4 ∨ f = 5 ∨ f = 6 ∨ f = 7 ∨ f = 8 ∨ f = 9) with rfl | rfl | rfl | rfl | rfl | rfl | rfl | rfl | rfl
  · have h1 := jU_two x
    have h2 : vU x % 4096 = 0 := by unfold vU; omega
    simp only [numB, immF]
    simp
    omega
  · have h2 : vJ x % 2 = 0 := by unfold vJ; omega
    have e1 := even_of (vJ x) 21 h2 (by omega)
    have e2 := fit_sgn (vJ x) 21 (by omega)
    simp [numB, immF, jJ, e1, e2]
  · have h2 : vB x % 2 = 0 := by unfold vB; omega
    have e1 := even_of (vB x) 13 h2 (by omega)
    have e2 := fit_sgn (vB x) 13 (by omega)
    simp [numB, immF, jB, e1, e2]
  · have e2 := fit_sgn (vI x) 12 (by omega)
    simp [numB, immF, jI, e2]
  · have e2 := fit_sgn (vS x) 12 (by omega)
    simp [numB, immF, jS, e2]
  · have e2 := fit_sgn (vI x) 12 (by omega)
    simp [numB, immF, jI, e2]
  · simp [numB, immF]; omega
  · simp [numB, immF]
  · simp [numB, immF]

theorem reg_if (c : Bool) (n : Int) : regB (if c = true then n % 32 else 0) c = true := by
  cases c <;> simp [regB]; omega

theorem may_dec (x : Int) (h0 : (decP x).op ≠ 0) : mayB (decP x).op (decP x).rd (decP x).rs1 (decP x).rs2 (decP x).imm = true := by
  have e := dec_parts x h0
  have hf : ¬ formN (decP x).op = 0 := fun c => h0 (formN_zero x c)
  have hr := formN_range (decP x).op
  have q1 : (decP x).rd = _ := congrArg In5.rd e
  have q2 : (decP x).rs1 = _ := congrArg In5.rs1 e
  have q3 : (decP x).rs2 = _ := congrArg In5.rs2 e
  have q4 : (decP x).imm = _ := congrArg In5.imm e
  rw [q1, q2, q3, q4]
  generalize (decP x).op = op at *
  unfold mayB partsF
  dsimp only
  have a1 := reg_if (needD (formN op)) (x / 128)
  have a2 := reg_if (needS (formN op)) (x / 32768)
  have a3 := reg_if (needT (formN op)) (x / 1048576)
  have a4 := num_imm (formN op) x (by omega) (by omega)
  rw [a1, a2, a3, a4]
  simp [hf]

theorem may_decJ (x : Int) (h0 : ((decP x).op == 0) = false) : mayB (decJ x).op (decJ x).rd (decJ x).rs1 (decJ x).rs2 (decJ x).imm = true := by
  rw [beq_eq_false_iff_ne] at h0
  unfold decJ
  rw [if_neg h0]
  exact may_dec x h0

theorem dec_imm_bd (x : Int) : -2147483648 ≤ (decJ x).imm ∧ (decJ x).imm ≤ 2147483647 := by
  unfold decJ
  by_cases h0 : (decP x).op = 0
  · rw [if_pos h0]; exact ⟨by decide, by decide⟩
  · rw [if_neg h0]
    have e := dec_parts x h0
    have q4 : (decP x).imm = _ := congrArg In5.imm e
    rw [q4]
    unfold partsF immF
    dsimp only
    repeat' split
    · exact sgn_bd _ 32 (by omega)
    · exact sgn_bd _ 21 (by omega)
    · exact sgn_bd _ 13 (by omega)
    · exact sgn_bd _ 12 (by omega)
    · exact sgn_bd _ 12 (by omega)
    · omega
    · omega

end Go.Proofs.YtndpgakjpokllaaGreat

