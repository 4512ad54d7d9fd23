/- Parts of the proof, one behind the other. -/
import Derived.Test.YtndpgakjpokllaaGreatZsab
import Derived.Test.YtndpgakjpokllaaGreatZsac
import Derived.Test.YtndpgakjpokllaaGreatZsae
import Derived.Test.YtndpgakjpokllaaGreatZsag
/- Contracts of package wide: a word's instruction. -/
namespace Go.Proofs.YtndpgakjpokllaaGreat
open Go.RowKit
set_option linter.unusedVariables false

set_option maxHeartbeats 1000000 in
theorem decoded_37 (x : Int) (w : World) (hx : 0 ≤ x) (hx' : x < 4294967296) (ho : fld x 0 7 = 55) :
    Calls Tryz.prog 164 #[.int .u32 x] w fun e w' => e = .returned (.agg #[.int .i64 1, .int .i64 (fld x 7 5), .int .i64 0, .int .i64 0, .int .i32 (immU x)]) ∧ Nx w w' := by
  go_enter Tryz.func164, Tryz.ntmps164
  go_wp2_with fail
  refine (split_anyW _ _ hx hx').mono ?_
  rintro e w1 ⟨rfl, hn⟩
  go_wp2_with fail
  (refine wp_region_nx 5 (by kernel_rfl) (by kernel_rfl) ?_; simp only [List.take_succ_cons, List.take_zero, List.drop_succ_cons, List.drop_zero]; (repeat (refine wpQuiet_step (fun K hK => ?_); go_simp; first | (refine hK _ ?_; clear hK K) | (apply Exists.intro; refine ⟨fun w' hw' => ?_, hK _ ?_⟩; (first | rfl | (obtain ⟨hc, hf⟩ := nx_cells hw'; go_simp; rfl) | (go_at_call 166; exact (immU_any _ _ hx hx').mono fun _ _ h => ⟨h.1, hw'.trans h.2⟩)); clear hK K))); refine wpQuiet_nil ?_; intro w2 hn2)
  have hn3 := hn.trans (((Nx.refl w1).alloc _).trans hn2)
  obtain ⟨c0, c1, c2, c3, c4, z0, z1, z2, z3, z4, hz⟩ := five_cells hn3
  have hb := Lib.hid (((Nx.refl w).alloc _).trans hn3)
  go_wp2
  refine bodyPost_ret (v := .agg #[.int .i64 1, .int .i64 (fld x 7 5), .int .i64 0, .int .i64 0, .int .i32 (immU x)]) (by simp [results, Tryz.results164, go_sem, c0, c1, c2, c3, c4]) rfl ⟨rfl, ?_⟩
  repeat (refine Nx.setCell ?_ (Nat.le_refl _) _)
  exact hb.out

set_option maxHeartbeats 1000000 in
theorem decoded_17 (x : Int) (w : World) (hx : 0 ≤ x) (hx' : x < 4294967296) (ho : fld x 0 7 = 23) :
    Calls Tryz.prog 164 #[.int .u32 x] w fun e w' => e = .returned (.agg #[.int .i64 2, .int .i64 (fld x 7 5), .int .i64 0, .int .i64 0, .int .i32 (immU x)]) ∧ Nx w w' := by
  go_enter Tryz.func164, Tryz.ntmps164
  go_wp2_with fail
  refine (split_anyW _ _ hx hx').mono ?_
  rintro e w1 ⟨rfl, hn⟩
  go_wp2_with fail
  (refine wp_region_nx 5 (by kernel_rfl) (by kernel_rfl) ?_; simp only [List.take_succ_cons, List.take_zero, List.drop_succ_cons, List.drop_zero]; (repeat (refine wpQuiet_step (fun K hK => ?_); go_simp; first | (refine hK _ ?_; clear hK K) | (apply Exists.intro; refine ⟨fun w' hw' => ?_, hK _ ?_⟩; (first | rfl | (obtain ⟨hc, hf⟩ := nx_cells hw'; go_simp; rfl) | (go_at_call 166; exact (immU_any _ _ hx hx').mono fun _ _ h => ⟨h.1, hw'.trans h.2⟩)); clear hK K))); refine wpQuiet_nil ?_; intro w2 hn2)
  have hn3 := hn.trans (((Nx.refl w1).alloc _).trans hn2)
  obtain ⟨c0, c1, c2, c3, c4, z0, z1, z2, z3, z4, hz⟩ := five_cells hn3
  have hb := Lib.hid (((Nx.refl w).alloc _).trans hn3)
  go_wp2
  refine bodyPost_ret (v := .agg #[.int .i64 2, .int .i64 (fld x 7 5), .int .i64 0, .int .i64 0, .int .i32 (immU x)]) (by simp [results, Tryz.results164, go_sem, c0, c1, c2, c3, c4]) rfl ⟨rfl, ?_⟩
  repeat (refine Nx.setCell ?_ (Nat.le_refl _) _)
  exact hb.out

set_option maxHeartbeats 1000000 in
theorem decoded_6f (x : Int) (w : World) (hx : 0 ≤ x) (hx' : x < 4294967296) (ho : fld x 0 7 = 111) :
    Calls Tryz.prog 164 #[.int .u32 x] w fun e w' => e = .returned (.agg #[.int .i64 3, .int .i64 (fld x 7 5), .int .i64 0, .int .i64 0, .int .i32 (immJ x)]) ∧ Nx w w' := by
  go_enter Tryz.func164, Tryz.ntmps164
  go_wp2_with fail
  refine (split_anyW _ _ hx hx').mono ?_
  rintro e w1 ⟨rfl, hn⟩
  go_wp2_with fail
  (refine wp_region_nx 5 (by kernel_rfl) (by kernel_rfl) ?_; simp only [List.take_succ_cons, List.take_zero, List.drop_succ_cons, List.drop_zero]; (repeat (refine wpQuiet_step (fun K hK => ?_); go_simp; first | (refine hK _ ?_; clear hK K) | (apply Exists.intro; refine ⟨fun w' hw' => ?_, hK _ ?_⟩; (first | rfl | (obtain ⟨hc, hf⟩ := nx_cells hw'; go_simp; rfl) | (go_at_call 167; exact (immJ_any _ _ hx hx').mono fun _ _ h => ⟨h.1, hw'.trans h.2⟩)); clear hK K))); refine wpQuiet_nil ?_; intro w2 hn2)
  have hn3 := hn.trans (((Nx.refl w1).alloc _).trans hn2)
  obtain ⟨c0, c1, c2, c3, c4, z0, z1, z2, z3, z4, hz⟩ := five_cells hn3
  have hb := Lib.hid (((Nx.refl w).alloc _).trans hn3)
  go_wp2
  refine bodyPost_ret (v := .agg #[.int .i64 3, .int .i64 (fld x 7 5), .int .i64 0, .int .i64 0, .int .i32 (immJ x)]) (by simp [results, Tryz.results164, go_sem, c0, c1, c2, c3, c4]) rfl ⟨rfl, ?_⟩
  repeat (refine Nx.setCell ?_ (Nat.le_refl _) _)
  exact hb.out

set_option maxHeartbeats 1000000 in
theorem decoded_63 (x : Int) (w : World) (hx : 0 ≤ x) (hx' : x < 4294967296) (ho : fld x 0 7 = 99) :
    Calls Tryz.prog 164 #[.int .u32 x] w fun e w' => e = .returned (.agg #[.int .i64 (brOp (fld x 12 3)), .int .i64 0, .int .i64 (fld x 15 5), .int .i64 (fld x 20 5), .int .i32 (immB x)]) ∧ Nx w w' := by
  go_enter Tryz.func164, Tryz.ntmps164
  go_wp2_with fail
  refine (split_anyW _ _ hx hx').mono ?_
  rintro e w1 ⟨rfl, hn⟩
  go_wp2_with fail
  (refine wp_region_nx 10 (by kernel_rfl) (by kernel_rfl) ?_; simp only [List.take_succ_cons, List.take_zero, List.drop_succ_cons, List.drop_zero]; (repeat (refine wpQuiet_step (fun K hK => ?_); go_simp; first | (refine hK _ ?_; clear hK K) | (apply Exists.intro; refine ⟨fun w' hw' => ?_, hK _ ?_⟩; (first | rfl | (obtain ⟨hc, hf⟩ := nx_cells hw'; go_simp; rfl) | (go_at_call 168; exact (branch_any _ _).mono fun _ _ h => ⟨h.1, hw'.trans (Nx.of_eq h.2)⟩) | (go_at_call 169; exact (immB_any _ _ hx hx').mono fun _ _ h => ⟨h.1, hw'.trans h.2⟩)); clear hK K))); refine wpQuiet_nil ?_; intro w2 hn2)
  have hn3 := hn.trans (((Nx.refl w1).alloc _).trans hn2)
  obtain ⟨c0, c1, c2, c3, c4, z0, z1, z2, z3, z4, hz⟩ := five_cells hn3
  have hb := Lib.hid (((Nx.refl w).alloc _).trans hn3)
  go_wp2
  refine bodyPost_ret (v := .agg #[.int .i64 (brOp (fld x 12 3)), .int .i64 0, .int .i64 (fld x 15 5), .int .i64 (fld x 20 5), .int .i32 (immB x)]) (by simp [results, Tryz.results164, go_sem, c0, c1, c2, c3, c4]) rfl ⟨rfl, ?_⟩
  repeat (refine Nx.setCell ?_ (Nat.le_refl _) _)
  exact hb.out

set_option maxHeartbeats 1000000 in
theorem decoded_23 (x : Int) (w : World) (hx : 0 ≤ x) (hx' : x < 4294967296) (ho : fld x 0 7 = 35) :
    Calls Tryz.prog 164 #[.int .u32 x] w fun e w' => e = .returned (.agg #[.int .i64 (stOp (fld x 12 3)), .int .i64 0, .int .i64 (fld x 15 5), .int .i64 (fld x 20 5), .int .i32 (immS x)]) ∧ Nx w w' := by
  go_enter Tryz.func164, Tryz.ntmps164
  go_wp2_with fail
  refine (split_anyW _ _ hx hx').mono ?_
  rintro e w1 ⟨rfl, hn⟩
  go_wp2_with fail
  (refine wp_region_nx 10 (by kernel_rfl) (by kernel_rfl) ?_; simp only [List.take_succ_cons, List.take_zero, List.drop_succ_cons, List.drop_zero]; (repeat (refine wpQuiet_step (fun K hK => ?_); go_simp; first | (refine hK _ ?_; clear hK K) | (apply Exists.intro; refine ⟨fun w' hw' => ?_, hK _ ?_⟩; (first | rfl | (obtain ⟨hc, hf⟩ := nx_cells hw'; go_simp; rfl) | (go_at_call 170; exact (store_any _ _).mono fun _ _ h => ⟨h.1, hw'.trans (Nx.of_eq h.2)⟩) | (go_at_call 171; exact (immS_any _ _ hx hx').mono fun _ _ h => ⟨h.1, hw'.trans h.2⟩)); clear hK K))); refine wpQuiet_nil ?_; intro w2 hn2)
  have hn3 := hn.trans (((Nx.refl w1).alloc _).trans hn2)
  obtain ⟨c0, c1, c2, c3, c4, z0, z1, z2, z3, z4, hz⟩ := five_cells hn3
  have hb := Lib.hid (((Nx.refl w).alloc _).trans hn3)
  go_wp2
  refine bodyPost_ret (v := .agg #[.int .i64 (stOp (fld x 12 3)), .int .i64 0, .int .i64 (fld x 15 5), .int .i64 (fld x 20 5), .int .i32 (immS x)]) (by simp [results, Tryz.results164, go_sem, c0, c1, c2, c3, c4]) rfl ⟨rfl, ?_⟩
  repeat (refine Nx.setCell ?_ (Nat.le_refl _) _)
  exact hb.out

set_option maxHeartbeats 1000000 in
theorem decoded_13s (x : Int) (w : World) (hx : 0 ≤ x) (hx' : x < 4294967296) (ho : fld x 0 7 = 19) (hf : fld x 12 3 = 1 ∨ fld x 12 3 = 5) :
    Calls Tryz.prog 164 #[.int .u32 x] w fun e w' => e = .returned (.agg #[.int .i64 (shOp (fld x 12 3) (fld x 25 7)), .int .i64 (fld x 7 5), .int .i64 (fld x 15 5), .int .i64 0, .int .i32 (fld x 20 5)]) ∧ Nx w w' := by
  have b1 := fld_nonneg x 20 5
  have b2 : fld x 20 5 < 32 := fld_lt x 20 5
  rcases hf with hf | hf
  all_goals
  go_enter Tryz.func164, Tryz.ntmps164
  go_wp2_with fail
  refine (split_anyW _ _ hx hx').mono ?_
  rintro e w1 ⟨rfl, hn⟩
  go_wp2_with fail
  (refine wp_region_nx 13 (by kernel_rfl) (by kernel_rfl) ?_; simp only [List.take_succ_cons, List.take_zero, List.drop_succ_cons, List.drop_zero]; (repeat (refine wpQuiet_step (fun K hK => ?_); go_simp; first | (refine hK _ ?_; clear hK K) | (apply Exists.intro; refine ⟨fun w' hw' => ?_, hK _ ?_⟩; (first | rfl | (obtain ⟨hc, hf⟩ := nx_cells hw'; go_simp; rfl) | (go_at_call 172; exact (shift_any _ _ _).mono fun _ _ h => ⟨h.1, hw'.trans (Nx.of_eq h.2)⟩)); clear hK K))); refine wpQuiet_nil ?_; intro w2 hn2)
  have hn3 := hn.trans (((Nx.refl w1).alloc _).trans hn2)
  obtain ⟨c0, c1, c2, c3, c4, z0, z1, z2, z3, z4, hz⟩ := five_cells hn3
  have hb := Lib.hid (((Nx.refl w).alloc _).trans hn3)
  go_wp2
  refine bodyPost_ret (v := .agg #[.int .i64 (shOp (fld x 12 3) (fld x 25 7)), .int .i64 (fld x 7 5), .int .i64 (fld x 15 5), .int .i64 0, .int .i32 (fld x 20 5)]) (by simp [results, Tryz.results164, go_sem, c0, c1, c2, c3, c4, hf]) rfl ⟨rfl, ?_⟩
  repeat (refine Nx.setCell ?_ (Nat.le_refl _) _)
  exact hb.out

set_option maxHeartbeats 1000000 in
theorem decoded_13n (x : Int) (w : World) (hx : 0 ≤ x) (hx' : x < 4294967296) (ho : fld x 0 7 = 19) (hf : (fld x 12 3 == 1) = false) (hf5 : (fld x 12 3 == 5) = false) :
    Calls Tryz.prog 164 #[.int .u32 x] w fun e w' => e = .returned (.agg #[.int .i64 (nuOp 19 (fld x 12 3)), .int .i64 (fld x 7 5), .int .i64 (fld x 15 5), .int .i64 0, .int .i32 (immI x)]) ∧ Nx w w' := by
  go_enter Tryz.func164, Tryz.ntmps164
  go_wp2_with fail
  refine (split_anyW _ _ hx hx').mono ?_
  rintro e w1 ⟨rfl, hn⟩
  go_wp2_with fail
  (refine wp_region_nx 12 (by kernel_rfl) (by kernel_rfl) ?_; simp only [List.take_succ_cons, List.take_zero, List.drop_succ_cons, List.drop_zero]; (repeat (refine wpQuiet_step (fun K hK => ?_); go_simp; first | (refine hK _ ?_; clear hK K) | (apply Exists.intro; refine ⟨fun w' hw' => ?_, hK _ ?_⟩; (first | rfl | (obtain ⟨hc, hf⟩ := nx_cells hw'; go_simp; rfl) | (go_at_call 173; exact (number_any _ _ _).mono fun _ _ h => ⟨h.1, hw'.trans (Nx.of_eq h.2)⟩) | (go_at_call 174; exact (immI_any _ _ hx hx').mono fun _ _ h => ⟨h.1, hw'.trans h.2⟩)); clear hK K))); refine wpQuiet_nil ?_; intro w2 hn2)
  have hn3 := hn.trans (((Nx.refl w1).alloc _).trans hn2)
  obtain ⟨c0, c1, c2, c3, c4, z0, z1, z2, z3, z4, hz⟩ := five_cells hn3
  have hb := Lib.hid (((Nx.refl w).alloc _).trans hn3)
  go_wp2
  refine bodyPost_ret (v := .agg #[.int .i64 (nuOp 19 (fld x 12 3)), .int .i64 (fld x 7 5), .int .i64 (fld x 15 5), .int .i64 0, .int .i32 (immI x)]) (by simp [results, Tryz.results164, go_sem, c0, c1, c2, c3, c4]) rfl ⟨rfl, ?_⟩
  repeat (refine Nx.setCell ?_ (Nat.le_refl _) _)
  exact hb.out

set_option maxHeartbeats 1000000 in
theorem decoded_67 (x : Int) (w : World) (hx : 0 ≤ x) (hx' : x < 4294967296) (ho : fld x 0 7 = 103) :
    Calls Tryz.prog 164 #[.int .u32 x] w fun e w' => e = .returned (.agg #[.int .i64 (nuOp 103 (fld x 12 3)), .int .i64 (fld x 7 5), .int .i64 (fld x 15 5), .int .i64 0, .int .i32 (immI x)]) ∧ Nx w w' := by
  go_enter Tryz.func164, Tryz.ntmps164
  go_wp2_with fail
  refine (split_anyW _ _ hx hx').mono ?_
  rintro e w1 ⟨rfl, hn⟩
  go_wp2_with fail
  (refine wp_region_nx 12 (by kernel_rfl) (by kernel_rfl) ?_; simp only [List.take_succ_cons, List.take_zero, List.drop_succ_cons, List.drop_zero]; (repeat (refine wpQuiet_step (fun K hK => ?_); go_simp; first | (refine hK _ ?_; clear hK K) | (apply Exists.intro; refine ⟨fun w' hw' => ?_, hK _ ?_⟩; (first | rfl | (obtain ⟨hc, hf⟩ := nx_cells hw'; go_simp; rfl) | (go_at_call 173; exact (number_any _ _ _).mono fun _ _ h => ⟨h.1, hw'.trans (Nx.of_eq h.2)⟩) | (go_at_call 174; exact (immI_any _ _ hx hx').mono fun _ _ h => ⟨h.1, hw'.trans h.2⟩)); clear hK K))); refine wpQuiet_nil ?_; intro w2 hn2)
  have hn3 := hn.trans (((Nx.refl w1).alloc _).trans hn2)
  obtain ⟨c0, c1, c2, c3, c4, z0, z1, z2, z3, z4, hz⟩ := five_cells hn3
  have hb := Lib.hid (((Nx.refl w).alloc _).trans hn3)
  go_wp2
  refine bodyPost_ret (v := .agg #[.int .i64 (nuOp 103 (fld x 12 3)), .int .i64 (fld x 7 5), .int .i64 (fld x 15 5), .int .i64 0, .int .i32 (immI x)]) (by simp [results, Tryz.results164, go_sem, c0, c1, c2, c3, c4]) rfl ⟨rfl, ?_⟩
  repeat (refine Nx.setCell ?_ (Nat.le_refl _) _)
  exact hb.out

set_option maxHeartbeats 1000000 in
theorem decoded_03 (x : Int) (w : World) (hx : 0 ≤ x) (hx' : x < 4294967296) (ho : fld x 0 7 = 3) :
    Calls Tryz.prog 164 #[.int .u32 x] w fun e w' => e = .returned (.agg #[.int .i64 (nuOp 3 (fld x 12 3)), .int .i64 (fld x 7 5), .int .i64 (fld x 15 5), .int .i64 0, .int .i32 (immI x)]) ∧ Nx w w' := by
  go_enter Tryz.func164, Tryz.ntmps164
  go_wp2_with fail
  refine (split_anyW _ _ hx hx').mono ?_
  rintro e w1 ⟨rfl, hn⟩
  go_wp2_with fail
  (refine wp_region_nx 12 (by kernel_rfl) (by kernel_rfl) ?_; simp only [List.take_succ_cons, List.take_zero, List.drop_succ_cons, List.drop_zero]; (repeat (refine wpQuiet_step (fun K hK => ?_); go_simp; first | (refine hK _ ?_; clear hK K) | (apply Exists.intro; refine ⟨fun w' hw' => ?_, hK _ ?_⟩; (first | rfl | (obtain ⟨hc, hf⟩ := nx_cells hw'; go_simp; rfl) | (go_at_call 173; exact (number_any _ _ _).mono fun _ _ h => ⟨h.1, hw'.trans (Nx.of_eq h.2)⟩) | (go_at_call 174; exact (immI_any _ _ hx hx').mono fun _ _ h => ⟨h.1, hw'.trans h.2⟩)); clear hK K))); refine wpQuiet_nil ?_; intro w2 hn2)
  have hn3 := hn.trans (((Nx.refl w1).alloc _).trans hn2)
  obtain ⟨c0, c1, c2, c3, c4, z0, z1, z2, z3, z4, hz⟩ := five_cells hn3
  have hb := Lib.hid (((Nx.refl w).alloc _).trans hn3)
  go_wp2
  refine bodyPost_ret (v := .agg #[.int .i64 (nuOp 3 (fld x 12 3)), .int .i64 (fld x 7 5), .int .i64 (fld x 15 5), .int .i64 0, .int .i32 (immI x)]) (by simp [results, Tryz.results164, go_sem, c0, c1, c2, c3, c4]) rfl ⟨rfl, ?_⟩
  repeat (refine Nx.setCell ?_ (Nat.le_refl _) _)
  exact hb.out

set_option maxHeartbeats 1000000 in
theorem decoded_33 (x : Int) (w : World) (hx : 0 ≤ x) (hx' : x < 4294967296) (ho : fld x 0 7 = 51) :
    Calls Tryz.prog 164 #[.int .u32 x] w fun e w' => e = .returned (.agg #[.int .i64 (rgOp (fld x 12 3) (fld x 25 7)), .int .i64 (fld x 7 5), .int .i64 (fld x 15 5), .int .i64 (fld x 20 5), .int .i32 0]) ∧ Nx w w' := by
  go_enter Tryz.func164, Tryz.ntmps164
  go_wp2_with fail
  refine (split_anyW _ _ hx hx').mono ?_
  rintro e w1 ⟨rfl, hn⟩
  go_wp2_with fail
  (refine wp_region_nx 12 (by kernel_rfl) (by kernel_rfl) ?_; simp only [List.take_succ_cons, List.take_zero, List.drop_succ_cons, List.drop_zero]; (repeat (refine wpQuiet_step (fun K hK => ?_); go_simp; first | (refine hK _ ?_; clear hK K) | (apply Exists.intro; refine ⟨fun w' hw' => ?_, hK _ ?_⟩; (first | rfl | (obtain ⟨hc, hf⟩ := nx_cells hw'; go_simp; rfl) | (go_at_call 175; exact (register_any _ _ _ (fld_nonneg _ _ _) (fld_u32 _ _ _ (by omega))).mono fun _ _ h => ⟨h.1, hw'.trans (Nx.of_eq h.2)⟩)); clear hK K))); refine wpQuiet_nil ?_; intro w2 hn2)
  have hn3 := hn.trans (((Nx.refl w1).alloc _).trans hn2)
  obtain ⟨c0, c1, c2, c3, c4, z0, z1, z2, z3, z4, hz⟩ := five_cells hn3
  have hb := Lib.hid (((Nx.refl w).alloc _).trans hn3)
  go_wp2
  refine bodyPost_ret (v := .agg #[.int .i64 (rgOp (fld x 12 3) (fld x 25 7)), .int .i64 (fld x 7 5), .int .i64 (fld x 15 5), .int .i64 (fld x 20 5), .int .i32 0]) (by simp [results, Tryz.results164, go_sem, c0, c1, c2, c3, c4]) rfl ⟨rfl, ?_⟩
  repeat (refine Nx.setCell ?_ (Nat.le_refl _) _)
  exact hb.out

set_option maxHeartbeats 1000000 in
theorem decoded_bare (x : Int) (w : World) (hx : 0 ≤ x) (hx' : x < 4294967296) (ho : fld x 0 7 = 15 ∨ fld x 0 7 = 115) :
    Calls Tryz.prog 164 #[.int .u32 x] w fun e w' => e = .returned (.agg #[.int .i64 (baOp x (fld x 0 7) (fld x 12 3)), .int .i64 0, .int .i64 0, .int .i64 0, .int .i32 0]) ∧ Nx w w' := by
  rcases ho with ho | ho
  all_goals
  go_enter Tryz.func164, Tryz.ntmps164
  go_wp2_with fail
  refine (split_anyW _ _ hx hx').mono ?_
  rintro e w1 ⟨rfl, hn⟩
  go_wp2_with fail
  refine (bare_any _ _ _ _ _ _ _ _).mono ?_
  rintro e w2 ⟨rfl, hn2⟩
  have hn3 := hn.trans (((Nx.refl w1).alloc _).trans hn2)
  obtain ⟨c0, c1, c2, c3, c4, z0, z1, z2, z3, z4, hz⟩ := five_cells hn3
  have hb := Lib.hid (((Nx.refl w).alloc _).trans hn3)
  go_wp2
  refine bodyPost_ret (v := .agg #[.int .i64 (baOp x (fld x 0 7) (fld x 12 3)), .int .i64 0, .int .i64 0, .int .i64 0, .int .i32 0]) (by simp [results, Tryz.results164, go_sem, c0, c1, c2, c3, c4, ho]) rfl ⟨rfl, ?_⟩
  repeat (refine Nx.setCell ?_ (Nat.le_refl _) _)
  exact hb.out

end Go.Proofs.YtndpgakjpokllaaGreat

/- Contracts of package wide: a word's instruction, all cases. -/
namespace Go.Proofs.YtndpgakjpokllaaGreat
open Go.RowKit
set_option linter.unusedVariables false

def known (o : Int) : Bool := o == 55 || o == 23 || o == 111 || o == 99 || o == 35 || o == 19 || o == 103 || o == 3 || o == 51 || o == 15 || o == 115

set_option maxHeartbeats 1000000 in
theorem decoded_none (x : Int) (w : World) (hx : 0 ≤ x) (hx' : x < 4294967296) (ho : known (fld x 0 7) = false) :
    Calls Tryz.prog 164 #[.int .u32 x] w fun e w' => e = .returned (.agg #[.int .i64 0, .int .i64 0, .int .i64 0, .int .i64 0, .int .i32 0]) ∧ Nx w w' := by
  simp only [known, Bool.or_eq_false_iff] at ho
  obtain ⟨⟨⟨⟨⟨⟨⟨⟨⟨⟨h1, h2⟩, h3⟩, h4⟩, h5⟩, h6⟩, h7⟩, h8⟩, h9⟩, h10⟩, h11⟩ := ho
  go_enter Tryz.func164, Tryz.ntmps164
  go_wp2_with fail
  refine (split_anyW _ _ hx hx').mono ?_
  rintro e w1 ⟨rfl, hn⟩
  obtain ⟨c0, c1, c2, c3, c4, z0, z1, z2, z3, z4, hz⟩ := five_cells hn
  have hb := Lib.hid (((Nx.refl w).alloc _).trans hn)
  go_wp2
  refine bodyPost_ret (v := .agg #[.int .i64 0, .int .i64 0, .int .i64 0, .int .i64 0, .int .i32 0]) (by simp [results, Tryz.results164, go_sem, c0, c1, c2, c3, c4, hz]) rfl ⟨rfl, ?_⟩
  refine Nx.alloc ?_ _
  repeat (refine Nx.setCell ?_ (Nat.le_refl _) _)
  exact hb.out

def dec (x : Int) : In5 :=
  if fld x 0 7 = 55 then ⟨1, fld x 7 5, 0, 0, immU x⟩
  else if fld x 0 7 = 23 then ⟨2, fld x 7 5, 0, 0, immU x⟩
  else if fld x 0 7 = 111 then ⟨3, fld x 7 5, 0, 0, immJ x⟩
  else if fld x 0 7 = 99 then ⟨brOp (fld x 12 3), 0, fld x 15 5, fld x 20 5, immB x⟩
  else if fld x 0 7 = 35 then ⟨stOp (fld x 12 3), 0, fld x 15 5, fld x 20 5, immS x⟩
  else if fld x 0 7 = 19 then (if fld x 12 3 = 1 ∨ fld x 12 3 = 5 then ⟨shOp (fld x 12 3) (fld x 25 7), fld x 7 5, fld x 15 5, 0, fld x 20 5⟩ else ⟨nuOp 19 (fld x 12 3), fld x 7 5, fld x 15 5, 0, immI x⟩)
  else if fld x 0 7 = 103 then ⟨nuOp 103 (fld x 12 3), fld x 7 5, fld x 15 5, 0, immI x⟩
  else if fld x 0 7 = 3 then ⟨nuOp 3 (fld x 12 3), fld x 7 5, fld x 15 5, 0, immI x⟩
  else if fld x 0 7 = 51 then ⟨rgOp (fld x 12 3) (fld x 25 7), fld x 7 5, fld x 15 5, fld x 20 5, 0⟩
  else if fld x 0 7 = 15 ∨ fld x 0 7 = 115 then ⟨baOp x (fld x 0 7) (fld x 12 3), 0, 0, 0, 0⟩
  else none5

theorem decoded_any (x : Int) (w : World) (hx : 0 ≤ x) (hx' : x < 4294967296) :
    Calls Tryz.prog 164 #[.int .u32 x] w fun e w' => e = .returned (.agg #[.int .i64 (dec x).op, .int .i64 (dec x).rd, .int .i64 (dec x).rs1, .int .i64 (dec x).rs2, .int .i32 (dec x).imm]) ∧ Nx w w' := by
  unfold dec
  by_cases h1 : fld x 0 7 = 55
  · rw [if_pos h1]; exact decoded_37 x w hx hx' h1
  rw [if_neg h1]
  by_cases h2 : fld x 0 7 = 23
  · rw [if_pos h2]; exact decoded_17 x w hx hx' h2
  rw [if_neg h2]
  by_cases h3 : fld x 0 7 = 111
  · rw [if_pos h3]; exact decoded_6f x w hx hx' h3
  rw [if_neg h3]
  by_cases h4 : fld x 0 7 = 99
  · rw [if_pos h4]; exact decoded_63 x w hx hx' h4
  rw [if_neg h4]
  by_cases h5 : fld x 0 7 = 35
  · rw [if_pos h5]; exact decoded_23 x w hx hx' h5
  rw [if_neg h5]
  by_cases h6 : fld x 0 7 = 19
  · rw [if_pos h6]
    by_cases hf : fld x 12 3 = 1 ∨ fld x 12 3 = 5
    · rw [if_pos hf]; exact decoded_13s x w hx hx' h6 hf
    · rw [if_neg hf]; exact decoded_13n x w hx hx' h6 (beq_eq_false_iff_ne.2 (fun c => hf (Or.inl c))) (beq_eq_false_iff_ne.2 (fun c => hf (Or.inr c)))
  rw [if_neg h6]
  by_cases h7 : fld x 0 7 = 103
  · rw [if_pos h7]; exact decoded_67 x w hx hx' h7
  rw [if_neg h7]
  by_cases h8 : fld x 0 7 = 3
  · rw [if_pos h8]; exact decoded_03 x w hx hx' h8
  rw [if_neg h8]
  by_cases h9 : fld x 0 7 = 51
  · rw [if_pos h9]; exact decoded_33 x w hx hx' h9
  rw [if_neg h9]
  by_cases h10 : fld x 0 7 = 15 ∨ fld x 0 7 = 115
  · rw [if_pos h10]; exact decoded_bare x w hx hx' h10
  rw [if_neg h10]
  refine decoded_none x w hx hx' ?_
  have ha : ¬ fld x 0 7 = 15 := fun c => h10 (Or.inl c)
  have hb : ¬ fld x 0 7 = 115 := fun c => h10 (Or.inr c)
  simp [known, h1, h2, h3, h4, h5, h6, h7, h8, h9, ha, hb]

/-- What Decode hands back: the instruction, or nothing. -/
def decI (x : Int) : In5 := if (dec x).op = 0 then none5 else dec x

set_option maxHeartbeats 1000000 in
theorem decode_any (x : Int) (w : World) (hx : 0 ≤ x) (hx' : x < 4294967296) :
    Calls Tryz.prog 163 #[.int .u32 x] w fun e w' => e = .returned (.tuple #[.agg #[.int .i64 (decI x).op, .int .i64 (decI x).rd, .int .i64 (decI x).rs1, .int .i64 (decI x).rs2, .int .i32 (decI x).imm], .bool (!((dec x).op == 0))]) ∧ Nx w w' := by
  by_cases h : (dec x).op = 0
  · have h' : ((dec x).op == 0) = true := by rw [beq_iff_eq]; exact h
    have e1 : decI x = none5 := by unfold decI; rw [if_pos h]
    rw [e1, h']
    clear e1 h
    go_enter Tryz.func163, Tryz.ntmps163
    go_wp2_with fail
    refine (decoded_any _ _ hx hx').mono ?_
    rintro e w1 ⟨rfl, hn⟩
    obtain ⟨c0, c1, c2, c3, c4, z0, z1, z2, z3, z4, hz⟩ := five_cells hn
    have hb := Lib.hid (((Nx.refl w).alloc _).trans hn)
    go_wp2
    refine bodyPost_ret (v := .tuple #[.agg #[.int .i64 0, .int .i64 0, .int .i64 0, .int .i64 0, .int .i32 0], .bool false]) (by simp [results, Tryz.results163, go_sem, c0, c1, c2, c3, c4, hz]) rfl ⟨by simp [none5], ?_⟩
    repeat (with_reducible first | refine Nx.alloc ?_ _ | refine Nx.setCell ?_ (Nat.le_refl _) _)
    exact hb.out
  · have h' : ((dec x).op == 0) = false := beq_eq_false_iff_ne.2 h
    have e1 : decI x = dec x := by unfold decI; rw [if_neg h]
    rw [e1, h']
    clear e1
    go_enter Tryz.func163, Tryz.ntmps163
    go_wp2_with fail
    refine (decoded_any _ _ hx hx').mono ?_
    rintro e w1 ⟨rfl, hn⟩
    obtain ⟨c0, c1, c2, c3, c4, z0, z1, z2, z3, z4, hz⟩ := five_cells hn
    have hb := Lib.hid (((Nx.refl w).alloc _).trans hn)
    go_wp2
    refine bodyPost_ret (v := .tuple #[.agg #[.int .i64 (dec x).op, .int .i64 (dec x).rd, .int .i64 (dec x).rs1, .int .i64 (dec x).rs2, .int .i32 (dec x).imm], .bool true]) (by simp [results, Tryz.results163, go_sem, c0, c1, c2, c3, c4, hz]) rfl ⟨rfl, ?_⟩
    repeat (with_reducible first | refine Nx.alloc ?_ _ | refine Nx.setCell ?_ (Nat.le_refl _) _)
    exact hb.out

end Go.Proofs.YtndpgakjpokllaaGreat

/- Contracts of package typecaseref03: the names, the forms. -/
namespace Go.Proofs.YtndpgakjpokllaaGreat
open Go.RowKit
set_option linter.unusedVariables false

/-- A text, by its bytes. -/
abbrev B (l : List UInt8) : ByteArray := ⟨l.toArray⟩

/-- The block g holds these texts, one a cell. -/
def Strs (w : World) (g : Nat) (l : List (List UInt8)) : Prop := ∀ j s, l[j]? = some s → w.cell? ⟨g, j, none⟩ = some (.string (B s))

theorem Strs.keep {w w' : World} {g : Nat} {l : List (List UInt8)} (h : Strs w g l) (hn : Nx w w') : Strs w' g l := fun j s hs => hn.cell (h j s hs)

theorem Strs.new (w : World) (l : List (List UInt8)) (T : TypeId) : Strs (w.alloc (.cells (l.map fun s => Value.string (B s)).toArray T)) w.heap.size l := by
  intro j s hs
  have : ((l.map fun s => Value.string (B s)).toArray)[j]? = some (.string (B s)) := by simp [hs]
  simpa using this

/-- The operations' names, by their numbers. -/
def nmB : List (List UInt8) := [[], [108, 117, 105], [97, 117, 105, 112, 99], [106, 97, 108], [106, 97, 108, 114], [98, 101, 113], [98, 110, 101], [98, 108, 116], [98, 103, 101], [98, 108, 116, 117], [98, 103, 101, 117], [108, 98], [108, 104], [108, 119], [108, 98, 117], [108, 104, 117], [115, 98], [115, 104], [115, 119], [97, 100, 100, 105], [115, 108, 116, 105], [115, 108, 116, 105, 117], [120, 111, 114, 105], [111, 114, 105], [97, 110, 100, 105], [115, 108, 108, 105], [115, 114, 108, 105], [115, 114, 97, 105], [97, 100, 100], [115, 117, 98], [115, 108, 108], [115, 108, 116], [115, 108, 116, 117], [120, 111, 114], [115, 114, 108], [115, 114, 97], [111, 114], [97, 110, 100], [102, 101, 110, 99, 101], [101, 99, 97, 108, 108], [101, 98, 114, 101, 97, 107], [109, 117, 108], [109, 117, 108, 104], [109, 117, 108, 104, 115, 117], [109, 117, 108, 104, 117], [100, 105, 118], [100, 105, 118, 117], [114, 101, 109], [114, 101, 109, 117]]

set_option maxHeartbeats 1000000 in
theorem names_any (w : World) : Calls Tryz.prog 62 #[] w fun e w' => e = .returned (.slice (some ⟨w.heap.size, 0, none⟩) 49 49) ∧ Strs w' w.heap.size nmB ∧ Nx w w' := by
  have h := Lib.hid (Strs.new w nmB 9)
  go_enter Tryz.func62, Tryz.ntmps62
  go_wp2
  go_ret
  exact ⟨rfl, h.out, (Nx.refl _).alloc _⟩

/-- The document's lists of names, by form. -/
def llB : List (List (List UInt8)) := [[[108, 117, 105], [97, 117, 105, 112, 99]], [[106, 97, 108]], [[98, 101, 113], [98, 110, 101], [98, 108, 116], [98, 103, 101], [98, 108, 116, 117], [98, 103, 101, 117]], [[108, 98], [108, 104], [108, 119], [108, 98, 117], [108, 104, 117], [106, 97, 108, 114]], [[115, 98], [115, 104], [115, 119]], [[97, 100, 100, 105], [115, 108, 116, 105], [115, 108, 116, 105, 117], [120, 111, 114, 105], [111, 114, 105], [97, 110, 100, 105]], [[115, 108, 108, 105], [115, 114, 108, 105], [115, 114, 97, 105]], [], [[102, 101, 110, 99, 101], [101, 99, 97, 108, 108], [101, 98, 114, 101, 97, 107]]]

def llN (k : Nat) : Nat := (llB.getD k []).length

theorem find_form (n k i : Nat) (hn : n ≤ 48) (h1 : 1 ≤ n) (hk : k < 9) (hi : (llB.getD k [])[i]? = some (nmB.getD n [])) : ((k : Int) + 1) = formN n := by
  have h2 : ∀ n : Fin 49, ∀ k : Fin 9, ∀ i : Fin 6, 1 ≤ n.val → (llB.getD k.val [])[i.val]? = some (nmB.getD n.val []) → ((k.val : Int) + 1) = formN n.val := by decide +kernel
  have hi6 : i < 6 := by
    have hl : i < (llB.getD k []).length := (List.getElem?_eq_some_iff.1 hi).1
    have : ∀ k : Fin 9, (llB.getD k.val []).length ≤ 6 := by decide
    have h3 : (llB.getD k []).length ≤ 6 := this ⟨k, hk⟩
    omega
  exact h2 ⟨n, by omega⟩ ⟨k, hk⟩ ⟨i, hi6⟩ h1 hi

theorem find_none (n : Nat) (hn : n ≤ 48) (h1 : 1 ≤ n) (h : ∀ k i, k < 9 → i < llN k → ¬ (llB.getD k [])[i]? = some (nmB.getD n [])) : (8 : Int) = formN n := by
  have h2 : ∀ n : Fin 49, 1 ≤ n.val → (∀ k : Fin 9, ∀ i : Fin (llN k.val), ¬ (llB.getD k.val [])[i.val]? = some (nmB.getD n.val [])) → (8 : Int) = formN n.val := by decide +kernel
  exact h2 ⟨n, by omega⟩ h1 (fun k i => h k.val i.val k.isLt i.isLt)

def lw0 (w : World) : World := w

def lw1 (w : World) : World := (lw0 w).alloc (.cells #[.string (B [108, 117, 105]), .string (B [97, 117, 105, 112, 99])] 9)

def lw2 (w : World) : World := (lw1 w).alloc (.cells #[.string (B [106, 97, 108])] 9)

def lw3 (w : World) : World := (lw2 w).alloc (.cells #[.string (B [98, 101, 113]), .string (B [98, 110, 101]), .string (B [98, 108, 116]), .string (B [98, 103, 101]), .string (B [98, 108, 116, 117]), .string (B [98, 103, 101, 117])] 9)

def lw4 (w : World) : World := (lw3 w).alloc (.cells #[.string (B [108, 98]), .string (B [108, 104]), .string (B [108, 119]), .string (B [108, 98, 117]), .string (B [108, 104, 117]), .string (B [106, 97, 108, 114])] 9)

def lw5 (w : World) : World := (lw4 w).alloc (.cells #[.string (B [115, 98]), .string (B [115, 104]), .string (B [115, 119])] 9)

def lw6 (w : World) : World := (lw5 w).alloc (.cells #[.string (B [97, 100, 100, 105]), .string (B [115, 108, 116, 105]), .string (B [115, 108, 116, 105, 117]), .string (B [120, 111, 114, 105]), .string (B [111, 114, 105]), .string (B [97, 110, 100, 105])] 9)

def lw7 (w : World) : World := (lw6 w).alloc (.cells #[.string (B [115, 108, 108, 105]), .string (B [115, 114, 108, 105]), .string (B [115, 114, 97, 105])] 9)

def lw8 (w : World) : World := (lw7 w).alloc (.cells #[.string (B [102, 101, 110, 99, 101]), .string (B [101, 99, 97, 108, 108]), .string (B [101, 98, 114, 101, 97, 107])] 9)

/-- The world in which the lists lie. -/
def llW (w : World) : World := (lw8 w).alloc (.cells #[.slice (some ⟨w.heap.size, 0, none⟩) 2 2, .slice (some ⟨w.heap.size + 1, 0, none⟩) 1 1, .slice (some ⟨w.heap.size + 2, 0, none⟩) 6 6, .slice (some ⟨w.heap.size + 3, 0, none⟩) 6 6, .slice (some ⟨w.heap.size + 4, 0, none⟩) 3 3, .slice (some ⟨w.heap.size + 5, 0, none⟩) 6 6, .slice (some ⟨w.heap.size + 6, 0, none⟩) 3 3, .slice none 0 0, .slice (some ⟨w.heap.size + 7, 0, none⟩) 3 3] 104)

theorem lw_size (w : World) : (lw0 w).heap.size = w.heap.size ∧ (lw1 w).heap.size = w.heap.size + 1 ∧ (lw2 w).heap.size = w.heap.size + 2 ∧ (lw3 w).heap.size = w.heap.size + 3 ∧ (lw4 w).heap.size = w.heap.size + 4 ∧ (lw5 w).heap.size = w.heap.size + 5 ∧ (lw6 w).heap.size = w.heap.size + 6 ∧ (lw7 w).heap.size = w.heap.size + 7 ∧ (lw8 w).heap.size = w.heap.size + 8 := by
  simp [lw0, lw1, lw2, lw3, lw4, lw5, lw6, lw7, lw8]

theorem lwn8 (w : World) : Nx (lw8 w) (llW w) := (Nx.refl _).alloc _

theorem lwn7 (w : World) : Nx (lw7 w) (llW w) := ((Nx.refl _).alloc _).trans (lwn8 w)

theorem lwn6 (w : World) : Nx (lw6 w) (llW w) := ((Nx.refl _).alloc _).trans (lwn7 w)

theorem lwn5 (w : World) : Nx (lw5 w) (llW w) := ((Nx.refl _).alloc _).trans (lwn6 w)

theorem lwn4 (w : World) : Nx (lw4 w) (llW w) := ((Nx.refl _).alloc _).trans (lwn5 w)

theorem lwn3 (w : World) : Nx (lw3 w) (llW w) := ((Nx.refl _).alloc _).trans (lwn4 w)

theorem lwn2 (w : World) : Nx (lw2 w) (llW w) := ((Nx.refl _).alloc _).trans (lwn3 w)

theorem lwn1 (w : World) : Nx (lw1 w) (llW w) := ((Nx.refl _).alloc _).trans (lwn2 w)

theorem llW_nx (w : World) : Nx w (llW w) := ((Nx.refl (lw0 w)).alloc _).trans (lwn1 w)

theorem llW_outer (w : World) (k : Nat) (v : Value) (h : (#[.slice (some ⟨w.heap.size, 0, none⟩) 2 2, .slice (some ⟨w.heap.size + 1, 0, none⟩) 1 1, .slice (some ⟨w.heap.size + 2, 0, none⟩) 6 6, .slice (some ⟨w.heap.size + 3, 0, none⟩) 6 6, .slice (some ⟨w.heap.size + 4, 0, none⟩) 3 3, .slice (some ⟨w.heap.size + 5, 0, none⟩) 6 6, .slice (some ⟨w.heap.size + 6, 0, none⟩) 3 3, .slice none 0 0, .slice (some ⟨w.heap.size + 7, 0, none⟩) 3 3] : Array Value)[k]? = some v) : (llW w).cell? ⟨w.heap.size + 8, k, none⟩ = some v := by
  have e : w.heap.size + 8 = (lw8 w).heap.size := (lw_size w).2.2.2.2.2.2.2.2.symm
  rw [e]
  unfold llW
  simpa using h

theorem llW_rows (w : World) (k : Nat) (hk : k < 9) : ∃ A, (llW w).cell? ⟨w.heap.size + 8, k, none⟩ = some (.slice A (llN k) (llN k)) ∧ (0 < llN k → ∃ g, A = some ⟨g, 0, none⟩ ∧ Strs (llW w) g (llB.getD k [])) := by
  obtain ⟨e0, e1, e2, e3, e4, e5, e6, e7, e8⟩ := lw_size w
  match k, hk with
  | 0, _ => exact ⟨some ⟨w.heap.size, 0, none⟩, llW_outer w 0 _ rfl, fun _ => ⟨_, rfl, by have h := (Strs.new (lw0 w) (llB.getD 0 []) 9).keep (lwn1 w); rw [e0] at h; exact h⟩⟩
  | 1, _ => exact ⟨some ⟨w.heap.size + 1, 0, none⟩, llW_outer w 1 _ rfl, fun _ => ⟨_, rfl, by have h := (Strs.new (lw1 w) (llB.getD 1 []) 9).keep (lwn2 w); rw [e1] at h; exact h⟩⟩
  | 2, _ => exact ⟨some ⟨w.heap.size + 2, 0, none⟩, llW_outer w 2 _ rfl, fun _ => ⟨_, rfl, by have h := (Strs.new (lw2 w) (llB.getD 2 []) 9).keep (lwn3 w); rw [e2] at h; exact h⟩⟩
  | 3, _ => exact ⟨some ⟨w.heap.size + 3, 0, none⟩, llW_outer w 3 _ rfl, fun _ => ⟨_, rfl, by have h := (Strs.new (lw3 w) (llB.getD 3 []) 9).keep (lwn4 w); rw [e3] at h; exact h⟩⟩
  | 4, _ => exact ⟨some ⟨w.heap.size + 4, 0, none⟩, llW_outer w 4 _ rfl, fun _ => ⟨_, rfl, by have h := (Strs.new (lw4 w) (llB.getD 4 []) 9).keep (lwn5 w); rw [e4] at h; exact h⟩⟩
  | 5, _ => exact ⟨some ⟨w.heap.size + 5, 0, none⟩, llW_outer w 5 _ rfl, fun _ => ⟨_, rfl, by have h := (Strs.new (lw5 w) (llB.getD 5 []) 9).keep (lwn6 w); rw [e5] at h; exact h⟩⟩
  | 6, _ => exact ⟨some ⟨w.heap.size + 6, 0, none⟩, llW_outer w 6 _ rfl, fun _ => ⟨_, rfl, by have h := (Strs.new (lw6 w) (llB.getD 6 []) 9).keep (lwn7 w); rw [e6] at h; exact h⟩⟩
  | 7, _ => exact ⟨none, llW_outer w 7 _ rfl, fun h => absurd h (by decide)⟩
  | 8, _ => exact ⟨some ⟨w.heap.size + 7, 0, none⟩, llW_outer w 8 _ rfl, fun _ => ⟨_, rfl, by have h := (Strs.new (lw7 w) (llB.getD 8 []) 9).keep (lwn8 w); rw [e7] at h; exact h⟩⟩

end Go.Proofs.YtndpgakjpokllaaGreat

/- Contracts of package typecaseref03: Form, and what may be. -/
namespace Go.Proofs.YtndpgakjpokllaaGreat
open Go.RowKit
set_option linter.unusedVariables false

theorem formN_out (op : Int) (h : op < 1 ∨ 48 < op) : formN op = 0 := by
  unfold formN
  rcases h with h | h
  · have : op.toNat = 0 := by omega
    rw [this]; rfl
  · have : formsL.length ≤ op.toNat := by have : formsL.length = 49 := rfl
                                          omega
    rw [List.getD_eq_getElem?_getD, List.getElem?_eq_none this]; rfl

theorem getq {α : Type} (l : List α) (m : Nat) (d : α) (h : m < l.length) : l[m]? = some (l.getD m d) := by
  rw [List.getD_eq_getElem?_getD, List.getElem?_eq_getElem h]; rfl

set_option maxHeartbeats 2000000 in
theorem form_any (op : Int) (w : World) : Calls Tryz.prog 50 #[.int .i64 op] w fun e w' => e = .returned (.int .i64 (formN op)) ∧ Nx w w' := by
  by_cases h : op < 1 ∨ 48 < op
  · have he := Lib.hid (formN_out op h)
    rcases h with h | h
    · go_enter Tryz.func50, Tryz.ntmps50
      go_wp2
      go_ret
      exact ⟨ret_i64 he.out.symm, Nx.refl _⟩
    · have h' : ¬ op < 1 := by omega
      go_enter Tryz.func50, Tryz.ntmps50
      go_wp2
      go_ret
      exact ⟨ret_i64 he.out.symm, Nx.refl _⟩
  obtain ⟨n, rfl⟩ := Int.eq_ofNat_of_zero_le (show 0 ≤ op by omega)
  have h1 : 1 ≤ n := by omega
  have h2 : n ≤ 48 := by omega
  have d1 : decide ((n : Int) < 1) = false := by simp; omega
  have d2 : decide (48 < (n : Int)) = false := by simp; omega
  clear h
  have FF := Lib.hid (fun k i hk hi => find_form n k i h2 h1 hk hi)
  have FN := Lib.hid (find_none n h2 h1)
  have hget : nmB[n]? = some (nmB.getD n []) := by
    have : n < nmB.length := by have : nmB.length = 49 := rfl
                                omega
    rw [List.getD_eq_getElem?_getD, List.getElem?_eq_getElem this]; rfl
  have HG := Lib.hid hget
  clear hget
  generalize nmB.getD n [] = nm at *
  go_enter Tryz.func50, Tryz.ntmps50
  go_wp2_with fail
  refine (names_any _).mono ?_
  rintro e w1 ⟨rfl, hs, hn⟩
  have hc := hs n nm HG.out
  clear hs
  go_wp2
  generalize hW : World.alloc (World.alloc (World.alloc _ _) _) _ = W
  have rows : ∀ k, k < 9 → ∃ A, W.cell? ⟨w1.heap.size + 1 + 1 + 1 + 1 + 1 + 1 + 1 + 1, k, none⟩ = some (.slice A (llN k) (llN k)) ∧ (0 < llN k → ∃ g, A = some ⟨g, 0, none⟩ ∧ Strs W g (llB.getD k [])) := fun k hk => by
    subst hW; exact llW_rows w1 k hk
  have hnW : Nx w1 W := by subst hW; exact llW_nx w1
  have hnW2 := Lib.hid (hn.trans hnW)
  have ROWS := Lib.hid rows
  clear rows hW hn hnW hc HG
  generalize w1.heap.size + 1 + 1 + 1 + 1 + 1 + 1 + 1 + 1 = G at *
  go_loop [5, 6] (fun f i => ∃ k : Nat, k ≤ 9 ∧ f = .int .i64 k ∧ Hid (∀ j i, j < k → i < llN j → ¬ (llB.getD j [])[i]? = some nm)) (fun f _ => 9 - (Go.RowKit.intOf f).toNat)
  case atStart => exact ⟨0, by omega, rfl, Lib.hid (fun j i hj => absurd hj (by omega))⟩
  case round =>
    obtain ⟨k, hk, rfl, hno⟩ := hrel
    by_cases hlt : k < 9
    · obtain ⟨A, hA, hA2⟩ := ROWS.out k hlt
      have HA2 := Lib.hid hA2
      have hlen : llN k ≤ 6 := by
        have h3 : ∀ k : Fin 9, llN k.val ≤ 6 := by decide
        exact h3 ⟨k, hlt⟩
      have HK := Lib.hid (show (llB.getD k []).length = llN k from rfl)
      clear hA2
      generalize llN k = len at *
      go_wp2
      go_loop [6] (fun i => ∃ m : Nat, m ≤ len ∧ i = .int .i64 m ∧ Hid (∀ i, i < m → ¬ (llB.getD k [])[i]? = some nm)) (fun i => len - (Go.RowKit.intOf i).toNat)
      case atStart => exact ⟨0, by omega, rfl, Lib.hid (fun i hi => absurd hi (by omega))⟩
      case round =>
        obtain ⟨m, hm, rfl, hno2⟩ := hrel
        by_cases hlt2 : m < len
        · obtain ⟨g, hgA, hs⟩ := HA2.out (by omega)
          subst hgA
          have hgm : (llB.getD k [])[m]? = some ((llB.getD k []).getD m []) := by
            exact getq _ m [] (by rw [HK.out]; exact hlt2)
          have hcell := hs m _ hgm
          have HGM := Lib.hid hgm
          clear hs hgm
          generalize (llB.getD k []).getD m [] = s at *
          by_cases hsn : s = nm
          · have hb : (s == nm) = true := by rw [hsn]; simp
            have HR := Lib.hid (FF.out k m hlt (by rw [← hsn]; exact HGM.out))
            clear hsn
            go_wp2
            go_ret
            exact ⟨ret_i64 HR.out, hnW2.out⟩
          · have hb : (s == nm) = false := by simpa using hsn
            have HNE := Lib.hid hsn
            clear hsn
            go_wp2
            go_round
            case rel =>
              refine ⟨m + 1, by omega, by go_num, Lib.hid (fun i hi => ?_)⟩
              by_cases e : i = m
              · subst e; rw [HGM.out]; exact fun c => HNE.out (Option.some.inj c)
              · exact hno2.out i (by omega)
            case measure => simp [Go.RowKit.intOf]; omega
        · have hml : m = len := by omega
          have HML := Lib.hid hml
          clear hml
          go_wp2
          go_round
          case rel =>
            refine ⟨k + 1, by omega, by go_num, Lib.hid (fun j i hj hi => ?_)⟩
            by_cases e : j = k
            · subst e; exact hno2.out i (by rw [HML.out, ← HK.out]; exact hi)
            · exact hno.out j i (by omega) hi
          case measure => simp [Go.RowKit.intOf]; omega
    · have hk9 : k = 9 := by omega
      have HR := Lib.hid (FN.out (fun j i hj hi => hno.out j i (by omega) hi))
      clear hk9
      go_wp2
      go_ret
      exact ⟨ret_i64 HR.out, hnW2.out⟩

set_option maxHeartbeats 400000 in
theorem rreg_any (n : Int) (b : Bool) (w : World) : Calls Tryz.prog 100 #[.int .i64 n, .bool b] w fun e w' => e = .returned (.bool (regB n b)) ∧ w = w' := by
  cases b
  · go_enter Tryz.func100, Tryz.ntmps100
    go_wp2
    go_ret
    exact ⟨rfl, rfl⟩
  · go_enter Tryz.func100, Tryz.ntmps100
    go_wp2
    all_goals
      go_ret
      exact ⟨ret_bool (by first | (simp_all [regB]; done) | (simp [regB]; omega)), rfl⟩

set_option maxHeartbeats 400000 in
theorem rfits_any (v n : Int) (w : World) (hv : -2147483648 ≤ v) (hv' : v ≤ 2147483647) (hn : 0 ≤ n) (hn' : n ≤ 32) : Calls Tryz.prog 114 #[.int .i32 v, .int .i64 n] w fun e w' => e = .returned (.bool (fitB v n.toNat)) ∧ w = w' := by
  go_enter Tryz.func114, Tryz.ntmps114
  go_wp2_with (go_at_call 37; refine (rsign_in _ _ _ (by omega) (by omega) (by omega) (by omega)).mono ?_; rintro e w' ⟨rfl, rfl⟩)
  go_ret
  exact ⟨rfl, rfl⟩

theorem mod_mod_4096 (v : Int) : v % 4294967296 % 4096 = v % 4096 := by omega

theorem mod_mod_2 (v : Int) : v % 4294967296 % 2 = v % 2 := by omega

set_option maxHeartbeats 1000000 in
theorem rnumber_any (f v : Int) (w : World) (hv : -2147483648 ≤ v) (hv' : v ≤ 2147483647) (hf : 0 ≤ f) (hf' : f ≤ 9) : Calls Tryz.prog 101 #[.int .i64 f, .int .i32 v] w fun e w' => e = .returned (.bool (numB f v)) ∧ w = w' := by
  have m1 := mod_mod_4096 v
  have m2 := mod_mod_2 v
  rcases (by omega : f = 0 ∨ f = 1 ∨ f = 2 ∨ f = 3 ∨ f = 4 ∨ f = 5 ∨ f = 6 ∨ f = 7 ∨ f = 8 ∨ f = 9) with rfl | rfl | rfl | rfl | rfl | rfl | rfl | rfl | rfl | rfl
  all_goals
    go_enter Tryz.func101, Tryz.ntmps101
    go_wp2_with (go_at_call 114; refine (rfits_any _ _ _ (by omega) (by omega) (by omega) (by omega)).mono ?_; rintro e w' ⟨rfl, rfl⟩)
  all_goals
    go_ret
    first
      | exact ⟨rfl, rfl⟩
      | (refine ⟨ret_bool ?_, rfl⟩; simp_all [numB]; done)
      | (refine ⟨ret_bool ?_, rfl⟩; simp only [numB]; rw [Bool.eq_iff_iff]; simp; omega)

set_option maxHeartbeats 2000000 in
theorem rmay_any (op rd rs1 rs2 imm : Int) (w : World) (hv : -2147483648 ≤ imm) (hv' : imm ≤ 2147483647) :
    Calls Tryz.prog 61 #[.agg #[.int .i64 op, .int .i64 rd, .int .i64 rs1, .int .i64 rs2, .int .i32 imm]] w fun e w' => e = .returned (.bool (mayB op rd rs1 rs2 imm)) ∧ Nx w w' := by
  have hM := Lib.hid (show mayB op rd rs1 rs2 imm = (!(formN op == 0) && (regB rd (needD (formN op)) && (regB rs1 (needS (formN op)) && (regB rs2 (needT (formN op)) && numB (formN op) imm)))) from rfl)
  rcases formN_range op with hf | hf | hf | hf | hf | hf | hf | hf | hf | hf
  all_goals
    have h1 := hM.out
    rw [hf] at h1
    have HM := Lib.hid h1
    clear h1 hM
    go_enter Tryz.func61, Tryz.ntmps61
    go_wp2_with fail
    refine (form_any _ _).mono ?_
    rintro e w1 ⟨rfl, hn⟩
    obtain ⟨c0, c1, c2, c3, c4, hz⟩ := five_in hn
    have hb := Lib.hid (((Nx.refl w).alloc _).trans hn)
    clear hn
    go_wp2_with (first | (go_at_call 100; refine (rreg_any _ _ _).mono ?_; rintro e w' ⟨rfl, rfl⟩) | (go_at_call 101; refine (rnumber_any _ _ _ hv hv' (by omega) (by omega)).mono ?_; rintro e w' ⟨rfl, rfl⟩))
  all_goals
    go_ret
    refine ⟨ret_bool ?_, hb.out⟩
    rw [HM.out]
    first | rfl | (simp_all [needD, needS, needT]; done)

end Go.Proofs.YtndpgakjpokllaaGreat

