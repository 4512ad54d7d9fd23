/- Parts of the proof, one behind the other. -/
import Derived.Test.YtdgmdkkockbkjaaGreatDoorRefia
import Derived.RegionTactic
import Derived.Deep.RegionHeld3
/- Contracts of package typecaseref09: Fits, name by name. -/
namespace Go.Proofs.YtdgmdkkockbkjaaGreatDoor
open Go.RowKit
set_option linter.unusedVariables false
set_option linter.unusedSimpArgs false

set_option maxRecDepth 100000 in
set_option maxHeartbeats 4000000 in
theorem rfit_7 (k : Nat) (s : List UInt8) (rd rs1 rs2 imm : Int) (w : World) (hv : -2147483648 ≤ imm) (hv' : imm ≤ 2147483647) (hs : nmB[k]? = some s) (hk : k < 49) (h : mayB k rd rs1 rs2 imm = true) :
    Calls Tryz.prog 75 #[.string (B [99, 46, 97, 100, 100, 105, 49, 54, 115, 112]), .agg #[.int .i64 k, .int .i64 rd, .int .i64 rs1, .int .i64 rs2, .int .i32 imm]] w fun e w' => e = .returned (.bool ((s == [97, 100, 100, 105]) && ((rd == 2) && ((rs1 == 2) && (fromB imm 16 (-512) 511 && !(imm == 0)))))) ∧ Nx w w' := by
  have HS := Lib.hid hs
  have hlen := nm_len k s hk hs
  have hcat := cat_c s
  clear hs
  go_enter Tryz.func75, Tryz.ntmps75
  go_wp2_with fail
  refine (rmay_any _ _ _ _ _ _ hv hv').mono ?_
  rintro e w1 ⟨rfl, hn1⟩
  rw [h]
  obtain ⟨c0, c1, c2, c3, c4, hz⟩ := five_in hn1
  have HN := Lib.hid (((Nx.refl w).alloc _).trans hn1)
  clear hn1
  go_wp2
  go_region_with (go_at_call 85; refine (names_nm k s HS.out _).mono ?_; rintro e w2 ⟨g, rfl, hg, hn2⟩; have hn3 : Nx w1 w2 := Nx.trans ((Nx.refl _).drew) hn2; have d0 := hn3.cell c0)
  all_goals
    have d1 := hn3.cell c1
    have d2 := hn3.cell c2
    have d3 := hn3.cell c3
    have d4 := hn3.cell c4
    have hz3 : w.heap.size < w2.heap.size := Nat.lt_of_lt_of_le hz hn3.size
    have HN3 := Lib.hid (HN.out.trans hn3)
    clear hn2 hn3 hg c0 c1 c2 c3 c4
    go_wp2_with (first | (go_at_call 88; refine (rfew_any _ _).mono ?_; rintro e w' ⟨rfl, rfl⟩) | (go_at_call 89; refine (rfrom_any _ _ _ _ _ (by decide)).mono ?_; rintro e w' ⟨rfl, rfl⟩))
    all_goals
      go_ret
      exact ⟨ret_bool (by first | rfl | (simp [*, bne, Bool.and_assoc]; done) | (subst_vars; simp [*, bne, Bool.and_assoc]; done)), HN3.out⟩

set_option maxRecDepth 100000 in
set_option maxHeartbeats 4000000 in
theorem rfit_8 (k : Nat) (s : List UInt8) (rd rs1 rs2 imm : Int) (w : World) (hv : -2147483648 ≤ imm) (hv' : imm ≤ 2147483647) (hs : nmB[k]? = some s) (hk : k < 49) (h : mayB k rd rs1 rs2 imm = true) :
    Calls Tryz.prog 75 #[.string (B [99, 46, 108, 117, 105]), .agg #[.int .i64 k, .int .i64 rd, .int .i64 rs1, .int .i64 rs2, .int .i32 imm]] w fun e w' => e = .returned (.bool ((s == [108, 117, 105]) && (!(rd == 0) && (!(rd == 2) && (fromB imm 4096 (-131072) 126976 && !(imm == 0)))))) ∧ Nx w w' := by
  have HS := Lib.hid hs
  have hlen := nm_len k s hk hs
  have hcat := cat_c s
  clear hs
  go_enter Tryz.func75, Tryz.ntmps75
  go_wp2_with fail
  refine (rmay_any _ _ _ _ _ _ hv hv').mono ?_
  rintro e w1 ⟨rfl, hn1⟩
  rw [h]
  obtain ⟨c0, c1, c2, c3, c4, hz⟩ := five_in hn1
  have HN := Lib.hid (((Nx.refl w).alloc _).trans hn1)
  clear hn1
  go_wp2
  go_region_with (go_at_call 85; refine (names_nm k s HS.out _).mono ?_; rintro e w2 ⟨g, rfl, hg, hn2⟩; have hn3 : Nx w1 w2 := Nx.trans ((Nx.refl _).drew) hn2; have d0 := hn3.cell c0)
  all_goals
    have d1 := hn3.cell c1
    have d2 := hn3.cell c2
    have d3 := hn3.cell c3
    have d4 := hn3.cell c4
    have hz3 : w.heap.size < w2.heap.size := Nat.lt_of_lt_of_le hz hn3.size
    have HN3 := Lib.hid (HN.out.trans hn3)
    clear hn2 hn3 hg c0 c1 c2 c3 c4
    go_wp2_with (first | (go_at_call 88; refine (rfew_any _ _).mono ?_; rintro e w' ⟨rfl, rfl⟩) | (go_at_call 89; refine (rfrom_any _ _ _ _ _ (by decide)).mono ?_; rintro e w' ⟨rfl, rfl⟩))
    all_goals
      go_ret
      exact ⟨ret_bool (by first | rfl | (simp [*, bne, Bool.and_assoc]; done) | (subst_vars; simp [*, bne, Bool.and_assoc]; done)), HN3.out⟩

set_option maxRecDepth 100000 in
set_option maxHeartbeats 4000000 in
theorem rfit_9 (k : Nat) (s : List UInt8) (rd rs1 rs2 imm : Int) (w : World) (hv : -2147483648 ≤ imm) (hv' : imm ≤ 2147483647) (hs : nmB[k]? = some s) (hk : k < 49) (h : mayB k rd rs1 rs2 imm = true) :
    Calls Tryz.prog 75 #[.string (B [99, 46, 115, 114, 108, 105]), .agg #[.int .i64 k, .int .i64 rd, .int .i64 rs1, .int .i64 rs2, .int .i32 imm]] w fun e w' => e = .returned (.bool (([99, 46] ++ s == [99, 46, 115, 114, 108, 105]) && (fewB rd && ((rd == rs1) && fromB imm 1 1 31)))) ∧ Nx w w' := by
  have HS := Lib.hid hs
  have hlen := nm_len k s hk hs
  have hcat := cat_c s
  clear hs
  go_enter Tryz.func75, Tryz.ntmps75
  go_wp2_with fail
  refine (rmay_any _ _ _ _ _ _ hv hv').mono ?_
  rintro e w1 ⟨rfl, hn1⟩
  rw [h]
  obtain ⟨c0, c1, c2, c3, c4, hz⟩ := five_in hn1
  have HN := Lib.hid (((Nx.refl w).alloc _).trans hn1)
  clear hn1
  go_wp2
  go_region_with (go_at_call 85; refine (names_nm k s HS.out _).mono ?_; rintro e w2 ⟨g, rfl, hg, hn2⟩; have hn3 : Nx w1 w2 := Nx.trans ((Nx.refl _).drew) hn2; have d0 := hn3.cell c0)
  all_goals
    have d1 := hn3.cell c1
    have d2 := hn3.cell c2
    have d3 := hn3.cell c3
    have d4 := hn3.cell c4
    have hz3 : w.heap.size < w2.heap.size := Nat.lt_of_lt_of_le hz hn3.size
    have HN3 := Lib.hid (HN.out.trans hn3)
    clear hn2 hn3 hg c0 c1 c2 c3 c4
    go_wp2_with (first | (go_at_call 88; refine (rfew_any _ _).mono ?_; rintro e w' ⟨rfl, rfl⟩) | (go_at_call 89; refine (rfrom_any _ _ _ _ _ (by decide)).mono ?_; rintro e w' ⟨rfl, rfl⟩))
    all_goals
      go_ret
      exact ⟨ret_bool (by first | rfl | (simp [*, bne, Bool.and_assoc]; done) | (subst_vars; simp [*, bne, Bool.and_assoc]; done)), HN3.out⟩

set_option maxRecDepth 100000 in
set_option maxHeartbeats 4000000 in
theorem rfit_10 (k : Nat) (s : List UInt8) (rd rs1 rs2 imm : Int) (w : World) (hv : -2147483648 ≤ imm) (hv' : imm ≤ 2147483647) (hs : nmB[k]? = some s) (hk : k < 49) (h : mayB k rd rs1 rs2 imm = true) :
    Calls Tryz.prog 75 #[.string (B [99, 46, 115, 114, 97, 105]), .agg #[.int .i64 k, .int .i64 rd, .int .i64 rs1, .int .i64 rs2, .int .i32 imm]] w fun e w' => e = .returned (.bool (([99, 46] ++ s == [99, 46, 115, 114, 97, 105]) && (fewB rd && ((rd == rs1) && fromB imm 1 1 31)))) ∧ Nx w w' := by
  have HS := Lib.hid hs
  have hlen := nm_len k s hk hs
  have hcat := cat_c s
  clear hs
  go_enter Tryz.func75, Tryz.ntmps75
  go_wp2_with fail
  refine (rmay_any _ _ _ _ _ _ hv hv').mono ?_
  rintro e w1 ⟨rfl, hn1⟩
  rw [h]
  obtain ⟨c0, c1, c2, c3, c4, hz⟩ := five_in hn1
  have HN := Lib.hid (((Nx.refl w).alloc _).trans hn1)
  clear hn1
  go_wp2
  go_region_with (go_at_call 85; refine (names_nm k s HS.out _).mono ?_; rintro e w2 ⟨g, rfl, hg, hn2⟩; have hn3 : Nx w1 w2 := Nx.trans ((Nx.refl _).drew) hn2; have d0 := hn3.cell c0)
  all_goals
    have d1 := hn3.cell c1
    have d2 := hn3.cell c2
    have d3 := hn3.cell c3
    have d4 := hn3.cell c4
    have hz3 : w.heap.size < w2.heap.size := Nat.lt_of_lt_of_le hz hn3.size
    have HN3 := Lib.hid (HN.out.trans hn3)
    clear hn2 hn3 hg c0 c1 c2 c3 c4
    go_wp2_with (first | (go_at_call 88; refine (rfew_any _ _).mono ?_; rintro e w' ⟨rfl, rfl⟩) | (go_at_call 89; refine (rfrom_any _ _ _ _ _ (by decide)).mono ?_; rintro e w' ⟨rfl, rfl⟩))
    all_goals
      go_ret
      exact ⟨ret_bool (by first | rfl | (simp [*, bne, Bool.and_assoc]; done) | (subst_vars; simp [*, bne, Bool.and_assoc]; done)), HN3.out⟩

set_option maxRecDepth 100000 in
set_option maxHeartbeats 4000000 in
theorem rfit_11 (k : Nat) (s : List UInt8) (rd rs1 rs2 imm : Int) (w : World) (hv : -2147483648 ≤ imm) (hv' : imm ≤ 2147483647) (hs : nmB[k]? = some s) (hk : k < 49) (h : mayB k rd rs1 rs2 imm = true) :
    Calls Tryz.prog 75 #[.string (B [99, 46, 97, 110, 100, 105]), .agg #[.int .i64 k, .int .i64 rd, .int .i64 rs1, .int .i64 rs2, .int .i32 imm]] w fun e w' => e = .returned (.bool ((s == [97, 110, 100, 105]) && (fewB rd && ((rd == rs1) && fromB imm 1 (-32) 31)))) ∧ Nx w w' := by
  have HS := Lib.hid hs
  have hlen := nm_len k s hk hs
  have hcat := cat_c s
  clear hs
  go_enter Tryz.func75, Tryz.ntmps75
  go_wp2_with fail
  refine (rmay_any _ _ _ _ _ _ hv hv').mono ?_
  rintro e w1 ⟨rfl, hn1⟩
  rw [h]
  obtain ⟨c0, c1, c2, c3, c4, hz⟩ := five_in hn1
  have HN := Lib.hid (((Nx.refl w).alloc _).trans hn1)
  clear hn1
  go_wp2
  go_region_with (go_at_call 85; refine (names_nm k s HS.out _).mono ?_; rintro e w2 ⟨g, rfl, hg, hn2⟩; have hn3 : Nx w1 w2 := Nx.trans ((Nx.refl _).drew) hn2; have d0 := hn3.cell c0)
  all_goals
    have d1 := hn3.cell c1
    have d2 := hn3.cell c2
    have d3 := hn3.cell c3
    have d4 := hn3.cell c4
    have hz3 : w.heap.size < w2.heap.size := Nat.lt_of_lt_of_le hz hn3.size
    have HN3 := Lib.hid (HN.out.trans hn3)
    clear hn2 hn3 hg c0 c1 c2 c3 c4
    go_wp2_with (first | (go_at_call 88; refine (rfew_any _ _).mono ?_; rintro e w' ⟨rfl, rfl⟩) | (go_at_call 89; refine (rfrom_any _ _ _ _ _ (by decide)).mono ?_; rintro e w' ⟨rfl, rfl⟩))
    all_goals
      go_ret
      exact ⟨ret_bool (by first | rfl | (simp [*, bne, Bool.and_assoc]; done) | (subst_vars; simp [*, bne, Bool.and_assoc]; done)), HN3.out⟩

set_option maxRecDepth 100000 in
set_option maxHeartbeats 4000000 in
theorem rfit_12 (k : Nat) (s : List UInt8) (rd rs1 rs2 imm : Int) (w : World) (hv : -2147483648 ≤ imm) (hv' : imm ≤ 2147483647) (hs : nmB[k]? = some s) (hk : k < 49) (h : mayB k rd rs1 rs2 imm = true) :
    Calls Tryz.prog 75 #[.string (B [99, 46, 115, 117, 98]), .agg #[.int .i64 k, .int .i64 rd, .int .i64 rs1, .int .i64 rs2, .int .i32 imm]] w fun e w' => e = .returned (.bool (([99, 46] ++ s == [99, 46, 115, 117, 98]) && (fewB rd && ((rd == rs1) && fewB rs2)))) ∧ Nx w w' := by
  have HS := Lib.hid hs
  have hlen := nm_len k s hk hs
  have hcat := cat_c s
  clear hs
  go_enter Tryz.func75, Tryz.ntmps75
  go_wp2_with fail
  refine (rmay_any _ _ _ _ _ _ hv hv').mono ?_
  rintro e w1 ⟨rfl, hn1⟩
  rw [h]
  obtain ⟨c0, c1, c2, c3, c4, hz⟩ := five_in hn1
  have HN := Lib.hid (((Nx.refl w).alloc _).trans hn1)
  clear hn1
  go_wp2
  go_region_with (go_at_call 85; refine (names_nm k s HS.out _).mono ?_; rintro e w2 ⟨g, rfl, hg, hn2⟩; have hn3 : Nx w1 w2 := Nx.trans ((Nx.refl _).drew) hn2; have d0 := hn3.cell c0)
  all_goals
    have d1 := hn3.cell c1
    have d2 := hn3.cell c2
    have d3 := hn3.cell c3
    have d4 := hn3.cell c4
    have hz3 : w.heap.size < w2.heap.size := Nat.lt_of_lt_of_le hz hn3.size
    have HN3 := Lib.hid (HN.out.trans hn3)
    clear hn2 hn3 hg c0 c1 c2 c3 c4
    go_wp2_with (first | (go_at_call 88; refine (rfew_any _ _).mono ?_; rintro e w' ⟨rfl, rfl⟩) | (go_at_call 89; refine (rfrom_any _ _ _ _ _ (by decide)).mono ?_; rintro e w' ⟨rfl, rfl⟩))
    all_goals
      go_ret
      exact ⟨ret_bool (by first | rfl | (simp [*, bne, Bool.and_assoc]; done) | (subst_vars; simp [*, bne, Bool.and_assoc]; done)), HN3.out⟩

set_option maxRecDepth 100000 in
set_option maxHeartbeats 4000000 in
theorem rfit_13 (k : Nat) (s : List UInt8) (rd rs1 rs2 imm : Int) (w : World) (hv : -2147483648 ≤ imm) (hv' : imm ≤ 2147483647) (hs : nmB[k]? = some s) (hk : k < 49) (h : mayB k rd rs1 rs2 imm = true) :
    Calls Tryz.prog 75 #[.string (B [99, 46, 120, 111, 114]), .agg #[.int .i64 k, .int .i64 rd, .int .i64 rs1, .int .i64 rs2, .int .i32 imm]] w fun e w' => e = .returned (.bool (([99, 46] ++ s == [99, 46, 120, 111, 114]) && (fewB rd && ((rd == rs1) && fewB rs2)))) ∧ Nx w w' := by
  have HS := Lib.hid hs
  have hlen := nm_len k s hk hs
  have hcat := cat_c s
  clear hs
  go_enter Tryz.func75, Tryz.ntmps75
  go_wp2_with fail
  refine (rmay_any _ _ _ _ _ _ hv hv').mono ?_
  rintro e w1 ⟨rfl, hn1⟩
  rw [h]
  obtain ⟨c0, c1, c2, c3, c4, hz⟩ := five_in hn1
  have HN := Lib.hid (((Nx.refl w).alloc _).trans hn1)
  clear hn1
  go_wp2
  go_region_with (go_at_call 85; refine (names_nm k s HS.out _).mono ?_; rintro e w2 ⟨g, rfl, hg, hn2⟩; have hn3 : Nx w1 w2 := Nx.trans ((Nx.refl _).drew) hn2; have d0 := hn3.cell c0)
  all_goals
    have d1 := hn3.cell c1
    have d2 := hn3.cell c2
    have d3 := hn3.cell c3
    have d4 := hn3.cell c4
    have hz3 : w.heap.size < w2.heap.size := Nat.lt_of_lt_of_le hz hn3.size
    have HN3 := Lib.hid (HN.out.trans hn3)
    clear hn2 hn3 hg c0 c1 c2 c3 c4
    go_wp2_with (first | (go_at_call 88; refine (rfew_any _ _).mono ?_; rintro e w' ⟨rfl, rfl⟩) | (go_at_call 89; refine (rfrom_any _ _ _ _ _ (by decide)).mono ?_; rintro e w' ⟨rfl, rfl⟩))
    all_goals
      go_ret
      exact ⟨ret_bool (by first | rfl | (simp [*, bne, Bool.and_assoc]; done) | (subst_vars; simp [*, bne, Bool.and_assoc]; done)), HN3.out⟩

end Go.Proofs.YtdgmdkkockbkjaaGreatDoor

