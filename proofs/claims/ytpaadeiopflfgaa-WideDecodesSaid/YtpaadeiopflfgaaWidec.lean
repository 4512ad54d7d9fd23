/- Contracts of package wide: a word's instruction. -/
import Derived.Test.YtpaadeiopflfgaaWideb
namespace Go.Proofs.Ytpaadeiopflfgaa
open Go.RowKit
set_option linter.unusedVariables false

set_option maxHeartbeats 1000000 in
theorem decoded_37 (x : Int) (w : World) (hx : 0 ≤ x) (hx' : x < 4294967296) (ho : fld x 0 7 = 55) :
    Calls Try.prog 21 #[.int .u32 x] w fun e w' => e = .returned (.agg #[.int .i64 1, .int .i64 (fld x 7 5), .int .i64 0, .int .i64 0, .int .i32 (immU x)]) ∧ Nx w w' := by
  go_enter Try.func21, Try.ntmps21
  go_wp2_with fail
  refine (split_any _ _ hx hx').mono ?_
  rintro e w1 ⟨rfl, hn⟩
  go_wp2_with fail
  (refine wp_region_nx 5 (by kernel_rfl) (by kernel_rfl) ?_; simp only [List.take_succ_cons, List.take_zero, List.drop_succ_cons, List.drop_zero]; (repeat (refine wpQuiet_step (fun K hK => ?_); go_simp; first | (refine hK _ ?_; clear hK K) | (apply Exists.intro; refine ⟨fun w' hw' => ?_, hK _ ?_⟩; (first | rfl | (obtain ⟨hc, hf⟩ := nx_cells hw'; go_simp; rfl) | (go_at_call 17; exact (immU_any _ _ hx hx').mono fun _ _ h => ⟨h.1, hw'.trans h.2⟩)); clear hK K))); refine wpQuiet_nil ?_; intro w2 hn2)
  have hn3 := hn.trans (((Nx.refl w1).alloc _).trans hn2)
  obtain ⟨c0, c1, c2, c3, c4, z0, z1, z2, z3, z4, hz⟩ := five_cells hn3
  have hb := Lib.hid (((Nx.refl w).alloc _).trans hn3)
  go_wp2
  refine bodyPost_ret (v := .agg #[.int .i64 1, .int .i64 (fld x 7 5), .int .i64 0, .int .i64 0, .int .i32 (immU x)]) (by simp [results, Try.results21, go_sem, c0, c1, c2, c3, c4]) rfl ⟨rfl, ?_⟩
  repeat (refine Nx.setCell ?_ (Nat.le_refl _) _)
  exact hb.out

set_option maxHeartbeats 1000000 in
theorem decoded_17 (x : Int) (w : World) (hx : 0 ≤ x) (hx' : x < 4294967296) (ho : fld x 0 7 = 23) :
    Calls Try.prog 21 #[.int .u32 x] w fun e w' => e = .returned (.agg #[.int .i64 2, .int .i64 (fld x 7 5), .int .i64 0, .int .i64 0, .int .i32 (immU x)]) ∧ Nx w w' := by
  go_enter Try.func21, Try.ntmps21
  go_wp2_with fail
  refine (split_any _ _ hx hx').mono ?_
  rintro e w1 ⟨rfl, hn⟩
  go_wp2_with fail
  (refine wp_region_nx 5 (by kernel_rfl) (by kernel_rfl) ?_; simp only [List.take_succ_cons, List.take_zero, List.drop_succ_cons, List.drop_zero]; (repeat (refine wpQuiet_step (fun K hK => ?_); go_simp; first | (refine hK _ ?_; clear hK K) | (apply Exists.intro; refine ⟨fun w' hw' => ?_, hK _ ?_⟩; (first | rfl | (obtain ⟨hc, hf⟩ := nx_cells hw'; go_simp; rfl) | (go_at_call 17; exact (immU_any _ _ hx hx').mono fun _ _ h => ⟨h.1, hw'.trans h.2⟩)); clear hK K))); refine wpQuiet_nil ?_; intro w2 hn2)
  have hn3 := hn.trans (((Nx.refl w1).alloc _).trans hn2)
  obtain ⟨c0, c1, c2, c3, c4, z0, z1, z2, z3, z4, hz⟩ := five_cells hn3
  have hb := Lib.hid (((Nx.refl w).alloc _).trans hn3)
  go_wp2
  refine bodyPost_ret (v := .agg #[.int .i64 2, .int .i64 (fld x 7 5), .int .i64 0, .int .i64 0, .int .i32 (immU x)]) (by simp [results, Try.results21, go_sem, c0, c1, c2, c3, c4]) rfl ⟨rfl, ?_⟩
  repeat (refine Nx.setCell ?_ (Nat.le_refl _) _)
  exact hb.out

set_option maxHeartbeats 1000000 in
theorem decoded_6f (x : Int) (w : World) (hx : 0 ≤ x) (hx' : x < 4294967296) (ho : fld x 0 7 = 111) :
    Calls Try.prog 21 #[.int .u32 x] w fun e w' => e = .returned (.agg #[.int .i64 3, .int .i64 (fld x 7 5), .int .i64 0, .int .i64 0, .int .i32 (immJ x)]) ∧ Nx w w' := by
  go_enter Try.func21, Try.ntmps21
  go_wp2_with fail
  refine (split_any _ _ hx hx').mono ?_
  rintro e w1 ⟨rfl, hn⟩
  go_wp2_with fail
  (refine wp_region_nx 5 (by kernel_rfl) (by kernel_rfl) ?_; simp only [List.take_succ_cons, List.take_zero, List.drop_succ_cons, List.drop_zero]; (repeat (refine wpQuiet_step (fun K hK => ?_); go_simp; first | (refine hK _ ?_; clear hK K) | (apply Exists.intro; refine ⟨fun w' hw' => ?_, hK _ ?_⟩; (first | rfl | (obtain ⟨hc, hf⟩ := nx_cells hw'; go_simp; rfl) | (go_at_call 19; exact (immJ_any _ _ hx hx').mono fun _ _ h => ⟨h.1, hw'.trans h.2⟩)); clear hK K))); refine wpQuiet_nil ?_; intro w2 hn2)
  have hn3 := hn.trans (((Nx.refl w1).alloc _).trans hn2)
  obtain ⟨c0, c1, c2, c3, c4, z0, z1, z2, z3, z4, hz⟩ := five_cells hn3
  have hb := Lib.hid (((Nx.refl w).alloc _).trans hn3)
  go_wp2
  refine bodyPost_ret (v := .agg #[.int .i64 3, .int .i64 (fld x 7 5), .int .i64 0, .int .i64 0, .int .i32 (immJ x)]) (by simp [results, Try.results21, go_sem, c0, c1, c2, c3, c4]) rfl ⟨rfl, ?_⟩
  repeat (refine Nx.setCell ?_ (Nat.le_refl _) _)
  exact hb.out

set_option maxHeartbeats 1000000 in
theorem decoded_63 (x : Int) (w : World) (hx : 0 ≤ x) (hx' : x < 4294967296) (ho : fld x 0 7 = 99) :
    Calls Try.prog 21 #[.int .u32 x] w fun e w' => e = .returned (.agg #[.int .i64 (brOp (fld x 12 3)), .int .i64 0, .int .i64 (fld x 15 5), .int .i64 (fld x 20 5), .int .i32 (immB x)]) ∧ Nx w w' := by
  go_enter Try.func21, Try.ntmps21
  go_wp2_with fail
  refine (split_any _ _ hx hx').mono ?_
  rintro e w1 ⟨rfl, hn⟩
  go_wp2_with fail
  (refine wp_region_nx 10 (by kernel_rfl) (by kernel_rfl) ?_; simp only [List.take_succ_cons, List.take_zero, List.drop_succ_cons, List.drop_zero]; (repeat (refine wpQuiet_step (fun K hK => ?_); go_simp; first | (refine hK _ ?_; clear hK K) | (apply Exists.intro; refine ⟨fun w' hw' => ?_, hK _ ?_⟩; (first | rfl | (obtain ⟨hc, hf⟩ := nx_cells hw'; go_simp; rfl) | (go_at_call 31; exact (branch_any _ _).mono fun _ _ h => ⟨h.1, hw'.trans (Nx.of_eq h.2)⟩) | (go_at_call 15; exact (immB_any _ _ hx hx').mono fun _ _ h => ⟨h.1, hw'.trans h.2⟩)); clear hK K))); refine wpQuiet_nil ?_; intro w2 hn2)
  have hn3 := hn.trans (((Nx.refl w1).alloc _).trans hn2)
  obtain ⟨c0, c1, c2, c3, c4, z0, z1, z2, z3, z4, hz⟩ := five_cells hn3
  have hb := Lib.hid (((Nx.refl w).alloc _).trans hn3)
  go_wp2
  refine bodyPost_ret (v := .agg #[.int .i64 (brOp (fld x 12 3)), .int .i64 0, .int .i64 (fld x 15 5), .int .i64 (fld x 20 5), .int .i32 (immB x)]) (by simp [results, Try.results21, go_sem, c0, c1, c2, c3, c4]) rfl ⟨rfl, ?_⟩
  repeat (refine Nx.setCell ?_ (Nat.le_refl _) _)
  exact hb.out

set_option maxHeartbeats 1000000 in
theorem decoded_23 (x : Int) (w : World) (hx : 0 ≤ x) (hx' : x < 4294967296) (ho : fld x 0 7 = 35) :
    Calls Try.prog 21 #[.int .u32 x] w fun e w' => e = .returned (.agg #[.int .i64 (stOp (fld x 12 3)), .int .i64 0, .int .i64 (fld x 15 5), .int .i64 (fld x 20 5), .int .i32 (immS x)]) ∧ Nx w w' := by
  go_enter Try.func21, Try.ntmps21
  go_wp2_with fail
  refine (split_any _ _ hx hx').mono ?_
  rintro e w1 ⟨rfl, hn⟩
  go_wp2_with fail
  (refine wp_region_nx 10 (by kernel_rfl) (by kernel_rfl) ?_; simp only [List.take_succ_cons, List.take_zero, List.drop_succ_cons, List.drop_zero]; (repeat (refine wpQuiet_step (fun K hK => ?_); go_simp; first | (refine hK _ ?_; clear hK K) | (apply Exists.intro; refine ⟨fun w' hw' => ?_, hK _ ?_⟩; (first | rfl | (obtain ⟨hc, hf⟩ := nx_cells hw'; go_simp; rfl) | (go_at_call 32; exact (store_any _ _).mono fun _ _ h => ⟨h.1, hw'.trans (Nx.of_eq h.2)⟩) | (go_at_call 13; exact (immS_any _ _ hx hx').mono fun _ _ h => ⟨h.1, hw'.trans h.2⟩)); clear hK K))); refine wpQuiet_nil ?_; intro w2 hn2)
  have hn3 := hn.trans (((Nx.refl w1).alloc _).trans hn2)
  obtain ⟨c0, c1, c2, c3, c4, z0, z1, z2, z3, z4, hz⟩ := five_cells hn3
  have hb := Lib.hid (((Nx.refl w).alloc _).trans hn3)
  go_wp2
  refine bodyPost_ret (v := .agg #[.int .i64 (stOp (fld x 12 3)), .int .i64 0, .int .i64 (fld x 15 5), .int .i64 (fld x 20 5), .int .i32 (immS x)]) (by simp [results, Try.results21, go_sem, c0, c1, c2, c3, c4]) rfl ⟨rfl, ?_⟩
  repeat (refine Nx.setCell ?_ (Nat.le_refl _) _)
  exact hb.out

set_option maxHeartbeats 1000000 in
theorem decoded_13s (x : Int) (w : World) (hx : 0 ≤ x) (hx' : x < 4294967296) (ho : fld x 0 7 = 19) (hf : fld x 12 3 = 1 ∨ fld x 12 3 = 5) :
    Calls Try.prog 21 #[.int .u32 x] w fun e w' => e = .returned (.agg #[.int .i64 (shOp (fld x 12 3) (fld x 25 7)), .int .i64 (fld x 7 5), .int .i64 (fld x 15 5), .int .i64 0, .int .i32 (fld x 20 5)]) ∧ Nx w w' := by
  have b1 := fld_nonneg x 20 5
  have b2 : fld x 20 5 < 32 := fld_lt x 20 5
  rcases hf with hf | hf
  all_goals
  go_enter Try.func21, Try.ntmps21
  go_wp2_with fail
  refine (split_any _ _ hx hx').mono ?_
  rintro e w1 ⟨rfl, hn⟩
  go_wp2_with fail
  (refine wp_region_nx 13 (by kernel_rfl) (by kernel_rfl) ?_; simp only [List.take_succ_cons, List.take_zero, List.drop_succ_cons, List.drop_zero]; (repeat (refine wpQuiet_step (fun K hK => ?_); go_simp; first | (refine hK _ ?_; clear hK K) | (apply Exists.intro; refine ⟨fun w' hw' => ?_, hK _ ?_⟩; (first | rfl | (obtain ⟨hc, hf⟩ := nx_cells hw'; go_simp; rfl) | (go_at_call 33; exact (shift_any _ _ _).mono fun _ _ h => ⟨h.1, hw'.trans (Nx.of_eq h.2)⟩)); clear hK K))); refine wpQuiet_nil ?_; intro w2 hn2)
  have hn3 := hn.trans (((Nx.refl w1).alloc _).trans hn2)
  obtain ⟨c0, c1, c2, c3, c4, z0, z1, z2, z3, z4, hz⟩ := five_cells hn3
  have hb := Lib.hid (((Nx.refl w).alloc _).trans hn3)
  go_wp2
  refine bodyPost_ret (v := .agg #[.int .i64 (shOp (fld x 12 3) (fld x 25 7)), .int .i64 (fld x 7 5), .int .i64 (fld x 15 5), .int .i64 0, .int .i32 (fld x 20 5)]) (by simp [results, Try.results21, go_sem, c0, c1, c2, c3, c4, hf]) rfl ⟨rfl, ?_⟩
  repeat (refine Nx.setCell ?_ (Nat.le_refl _) _)
  exact hb.out

set_option maxHeartbeats 1000000 in
theorem decoded_13n (x : Int) (w : World) (hx : 0 ≤ x) (hx' : x < 4294967296) (ho : fld x 0 7 = 19) (hf : (fld x 12 3 == 1) = false) (hf5 : (fld x 12 3 == 5) = false) :
    Calls Try.prog 21 #[.int .u32 x] w fun e w' => e = .returned (.agg #[.int .i64 (nuOp 19 (fld x 12 3)), .int .i64 (fld x 7 5), .int .i64 (fld x 15 5), .int .i64 0, .int .i32 (immI x)]) ∧ Nx w w' := by
  go_enter Try.func21, Try.ntmps21
  go_wp2_with fail
  refine (split_any _ _ hx hx').mono ?_
  rintro e w1 ⟨rfl, hn⟩
  go_wp2_with fail
  (refine wp_region_nx 12 (by kernel_rfl) (by kernel_rfl) ?_; simp only [List.take_succ_cons, List.take_zero, List.drop_succ_cons, List.drop_zero]; (repeat (refine wpQuiet_step (fun K hK => ?_); go_simp; first | (refine hK _ ?_; clear hK K) | (apply Exists.intro; refine ⟨fun w' hw' => ?_, hK _ ?_⟩; (first | rfl | (obtain ⟨hc, hf⟩ := nx_cells hw'; go_simp; rfl) | (go_at_call 34; exact (number_any _ _ _).mono fun _ _ h => ⟨h.1, hw'.trans (Nx.of_eq h.2)⟩) | (go_at_call 11; exact (immI_any _ _ hx hx').mono fun _ _ h => ⟨h.1, hw'.trans h.2⟩)); clear hK K))); refine wpQuiet_nil ?_; intro w2 hn2)
  have hn3 := hn.trans (((Nx.refl w1).alloc _).trans hn2)
  obtain ⟨c0, c1, c2, c3, c4, z0, z1, z2, z3, z4, hz⟩ := five_cells hn3
  have hb := Lib.hid (((Nx.refl w).alloc _).trans hn3)
  go_wp2
  refine bodyPost_ret (v := .agg #[.int .i64 (nuOp 19 (fld x 12 3)), .int .i64 (fld x 7 5), .int .i64 (fld x 15 5), .int .i64 0, .int .i32 (immI x)]) (by simp [results, Try.results21, go_sem, c0, c1, c2, c3, c4]) rfl ⟨rfl, ?_⟩
  repeat (refine Nx.setCell ?_ (Nat.le_refl _) _)
  exact hb.out

set_option maxHeartbeats 1000000 in
theorem decoded_67 (x : Int) (w : World) (hx : 0 ≤ x) (hx' : x < 4294967296) (ho : fld x 0 7 = 103) :
    Calls Try.prog 21 #[.int .u32 x] w fun e w' => e = .returned (.agg #[.int .i64 (nuOp 103 (fld x 12 3)), .int .i64 (fld x 7 5), .int .i64 (fld x 15 5), .int .i64 0, .int .i32 (immI x)]) ∧ Nx w w' := by
  go_enter Try.func21, Try.ntmps21
  go_wp2_with fail
  refine (split_any _ _ hx hx').mono ?_
  rintro e w1 ⟨rfl, hn⟩
  go_wp2_with fail
  (refine wp_region_nx 12 (by kernel_rfl) (by kernel_rfl) ?_; simp only [List.take_succ_cons, List.take_zero, List.drop_succ_cons, List.drop_zero]; (repeat (refine wpQuiet_step (fun K hK => ?_); go_simp; first | (refine hK _ ?_; clear hK K) | (apply Exists.intro; refine ⟨fun w' hw' => ?_, hK _ ?_⟩; (first | rfl | (obtain ⟨hc, hf⟩ := nx_cells hw'; go_simp; rfl) | (go_at_call 34; exact (number_any _ _ _).mono fun _ _ h => ⟨h.1, hw'.trans (Nx.of_eq h.2)⟩) | (go_at_call 11; exact (immI_any _ _ hx hx').mono fun _ _ h => ⟨h.1, hw'.trans h.2⟩)); clear hK K))); refine wpQuiet_nil ?_; intro w2 hn2)
  have hn3 := hn.trans (((Nx.refl w1).alloc _).trans hn2)
  obtain ⟨c0, c1, c2, c3, c4, z0, z1, z2, z3, z4, hz⟩ := five_cells hn3
  have hb := Lib.hid (((Nx.refl w).alloc _).trans hn3)
  go_wp2
  refine bodyPost_ret (v := .agg #[.int .i64 (nuOp 103 (fld x 12 3)), .int .i64 (fld x 7 5), .int .i64 (fld x 15 5), .int .i64 0, .int .i32 (immI x)]) (by simp [results, Try.results21, go_sem, c0, c1, c2, c3, c4]) rfl ⟨rfl, ?_⟩
  repeat (refine Nx.setCell ?_ (Nat.le_refl _) _)
  exact hb.out

set_option maxHeartbeats 1000000 in
theorem decoded_03 (x : Int) (w : World) (hx : 0 ≤ x) (hx' : x < 4294967296) (ho : fld x 0 7 = 3) :
    Calls Try.prog 21 #[.int .u32 x] w fun e w' => e = .returned (.agg #[.int .i64 (nuOp 3 (fld x 12 3)), .int .i64 (fld x 7 5), .int .i64 (fld x 15 5), .int .i64 0, .int .i32 (immI x)]) ∧ Nx w w' := by
  go_enter Try.func21, Try.ntmps21
  go_wp2_with fail
  refine (split_any _ _ hx hx').mono ?_
  rintro e w1 ⟨rfl, hn⟩
  go_wp2_with fail
  (refine wp_region_nx 12 (by kernel_rfl) (by kernel_rfl) ?_; simp only [List.take_succ_cons, List.take_zero, List.drop_succ_cons, List.drop_zero]; (repeat (refine wpQuiet_step (fun K hK => ?_); go_simp; first | (refine hK _ ?_; clear hK K) | (apply Exists.intro; refine ⟨fun w' hw' => ?_, hK _ ?_⟩; (first | rfl | (obtain ⟨hc, hf⟩ := nx_cells hw'; go_simp; rfl) | (go_at_call 34; exact (number_any _ _ _).mono fun _ _ h => ⟨h.1, hw'.trans (Nx.of_eq h.2)⟩) | (go_at_call 11; exact (immI_any _ _ hx hx').mono fun _ _ h => ⟨h.1, hw'.trans h.2⟩)); clear hK K))); refine wpQuiet_nil ?_; intro w2 hn2)
  have hn3 := hn.trans (((Nx.refl w1).alloc _).trans hn2)
  obtain ⟨c0, c1, c2, c3, c4, z0, z1, z2, z3, z4, hz⟩ := five_cells hn3
  have hb := Lib.hid (((Nx.refl w).alloc _).trans hn3)
  go_wp2
  refine bodyPost_ret (v := .agg #[.int .i64 (nuOp 3 (fld x 12 3)), .int .i64 (fld x 7 5), .int .i64 (fld x 15 5), .int .i64 0, .int .i32 (immI x)]) (by simp [results, Try.results21, go_sem, c0, c1, c2, c3, c4]) rfl ⟨rfl, ?_⟩
  repeat (refine Nx.setCell ?_ (Nat.le_refl _) _)
  exact hb.out

set_option maxHeartbeats 1000000 in
theorem decoded_33 (x : Int) (w : World) (hx : 0 ≤ x) (hx' : x < 4294967296) (ho : fld x 0 7 = 51) :
    Calls Try.prog 21 #[.int .u32 x] w fun e w' => e = .returned (.agg #[.int .i64 (rgOp (fld x 12 3) (fld x 25 7)), .int .i64 (fld x 7 5), .int .i64 (fld x 15 5), .int .i64 (fld x 20 5), .int .i32 0]) ∧ Nx w w' := by
  go_enter Try.func21, Try.ntmps21
  go_wp2_with fail
  refine (split_any _ _ hx hx').mono ?_
  rintro e w1 ⟨rfl, hn⟩
  go_wp2_with fail
  (refine wp_region_nx 12 (by kernel_rfl) (by kernel_rfl) ?_; simp only [List.take_succ_cons, List.take_zero, List.drop_succ_cons, List.drop_zero]; (repeat (refine wpQuiet_step (fun K hK => ?_); go_simp; first | (refine hK _ ?_; clear hK K) | (apply Exists.intro; refine ⟨fun w' hw' => ?_, hK _ ?_⟩; (first | rfl | (obtain ⟨hc, hf⟩ := nx_cells hw'; go_simp; rfl) | (go_at_call 35; exact (register_any _ _ _ (fld_nonneg _ _ _) (fld_u32 _ _ _ (by omega))).mono fun _ _ h => ⟨h.1, hw'.trans (Nx.of_eq h.2)⟩)); clear hK K))); refine wpQuiet_nil ?_; intro w2 hn2)
  have hn3 := hn.trans (((Nx.refl w1).alloc _).trans hn2)
  obtain ⟨c0, c1, c2, c3, c4, z0, z1, z2, z3, z4, hz⟩ := five_cells hn3
  have hb := Lib.hid (((Nx.refl w).alloc _).trans hn3)
  go_wp2
  refine bodyPost_ret (v := .agg #[.int .i64 (rgOp (fld x 12 3) (fld x 25 7)), .int .i64 (fld x 7 5), .int .i64 (fld x 15 5), .int .i64 (fld x 20 5), .int .i32 0]) (by simp [results, Try.results21, go_sem, c0, c1, c2, c3, c4]) rfl ⟨rfl, ?_⟩
  repeat (refine Nx.setCell ?_ (Nat.le_refl _) _)
  exact hb.out

set_option maxHeartbeats 1000000 in
theorem decoded_bare (x : Int) (w : World) (hx : 0 ≤ x) (hx' : x < 4294967296) (ho : fld x 0 7 = 15 ∨ fld x 0 7 = 115) :
    Calls Try.prog 21 #[.int .u32 x] w fun e w' => e = .returned (.agg #[.int .i64 (baOp x (fld x 0 7) (fld x 12 3)), .int .i64 0, .int .i64 0, .int .i64 0, .int .i32 0]) ∧ Nx w w' := by
  rcases ho with ho | ho
  all_goals
  go_enter Try.func21, Try.ntmps21
  go_wp2_with fail
  refine (split_any _ _ hx hx').mono ?_
  rintro e w1 ⟨rfl, hn⟩
  go_wp2_with fail
  refine (bare_any _ _ _ _ _ _ _ _).mono ?_
  rintro e w2 ⟨rfl, hn2⟩
  have hn3 := hn.trans (((Nx.refl w1).alloc _).trans hn2)
  obtain ⟨c0, c1, c2, c3, c4, z0, z1, z2, z3, z4, hz⟩ := five_cells hn3
  have hb := Lib.hid (((Nx.refl w).alloc _).trans hn3)
  go_wp2
  refine bodyPost_ret (v := .agg #[.int .i64 (baOp x (fld x 0 7) (fld x 12 3)), .int .i64 0, .int .i64 0, .int .i64 0, .int .i32 0]) (by simp [results, Try.results21, go_sem, c0, c1, c2, c3, c4, ho]) rfl ⟨rfl, ?_⟩
  repeat (refine Nx.setCell ?_ (Nat.le_refl _) _)
  exact hb.out

end Go.Proofs.Ytpaadeiopflfgaa
