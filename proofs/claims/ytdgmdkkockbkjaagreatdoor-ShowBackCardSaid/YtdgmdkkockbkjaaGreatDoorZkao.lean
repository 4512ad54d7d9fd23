/- Parts of the proof, one behind the other. -/
import Derived.Test.YtdgmdkkockbkjaaGreatDoorRefia
import Derived.RegionTactic
import Derived.Deep.RegionHeld3
/- Contracts of package typecaseref09: Fits, name by name. -/
namespace Go.Proofs.YtdgmdkkockbkjaaGreatDoor
open Go.RowKit
set_option linter.unusedVariables false
set_option linter.unusedSimpArgs false

set_option maxRecDepth 100000 in
set_option maxHeartbeats 4000000 in
theorem rfit_21 (k : Nat) (s : List UInt8) (rd rs1 rs2 imm : Int) (w : World) (hv : -2147483648 ≤ imm) (hv' : imm ≤ 2147483647) (hs : nmB[k]? = some s) (hk : k < 49) (h : mayB k rd rs1 rs2 imm = true) :
    Calls Tryz.prog 75 #[.string (B [99, 46, 106, 114]), .agg #[.int .i64 k, .int .i64 rd, .int .i64 rs1, .int .i64 rs2, .int .i32 imm]] w fun e w' => e = .returned (.bool ((s == [106, 97, 108, 114]) && ((rd == 0) && (!(rs1 == 0) && (imm == 0))))) ∧ Nx w w' := by
  have HS := Lib.hid hs
  have hlen := nm_len k s hk hs
  have hcat := cat_c s
  clear hs
  go_enter Tryz.func75, Tryz.ntmps75
  go_wp2_with fail
  refine (rmay_any _ _ _ _ _ _ hv hv').mono ?_
  rintro e w1 ⟨rfl, hn1⟩
  rw [h]
  obtain ⟨c0, c1, c2, c3, c4, hz⟩ := five_in hn1
  have HN := Lib.hid (((Nx.refl w).alloc _).trans hn1)
  clear hn1
  go_wp2
  go_region_with (go_at_call 85; refine (names_nm k s HS.out _).mono ?_; rintro e w2 ⟨g, rfl, hg, hn2⟩; have hn3 : Nx w1 w2 := Nx.trans ((Nx.refl _).drew) hn2; have d0 := hn3.cell c0)
  all_goals
    have d1 := hn3.cell c1
    have d2 := hn3.cell c2
    have d3 := hn3.cell c3
    have d4 := hn3.cell c4
    have hz3 : w.heap.size < w2.heap.size := Nat.lt_of_lt_of_le hz hn3.size
    have HN3 := Lib.hid (HN.out.trans hn3)
    clear hn2 hn3 hg c0 c1 c2 c3 c4
    go_wp2_with (first | (go_at_call 88; refine (rfew_any _ _).mono ?_; rintro e w' ⟨rfl, rfl⟩) | (go_at_call 89; refine (rfrom_any _ _ _ _ _ (by decide)).mono ?_; rintro e w' ⟨rfl, rfl⟩))
    all_goals
      go_ret
      exact ⟨ret_bool (by first | rfl | (simp [*, bne, Bool.and_assoc]; done)), HN3.out⟩

set_option maxRecDepth 100000 in
set_option maxHeartbeats 4000000 in
theorem rfit_22 (k : Nat) (s : List UInt8) (rd rs1 rs2 imm : Int) (w : World) (hv : -2147483648 ≤ imm) (hv' : imm ≤ 2147483647) (hs : nmB[k]? = some s) (hk : k < 49) (h : mayB k rd rs1 rs2 imm = true) :
    Calls Tryz.prog 75 #[.string (B [99, 46, 109, 118]), .agg #[.int .i64 k, .int .i64 rd, .int .i64 rs1, .int .i64 rs2, .int .i32 imm]] w fun e w' => e = .returned (.bool ((s == [97, 100, 100]) && (!(rd == 0) && ((rs1 == 0) && !(rs2 == 0))))) ∧ Nx w w' := by
  have HS := Lib.hid hs
  have hlen := nm_len k s hk hs
  have hcat := cat_c s
  clear hs
  go_enter Tryz.func75, Tryz.ntmps75
  go_wp2_with fail
  refine (rmay_any _ _ _ _ _ _ hv hv').mono ?_
  rintro e w1 ⟨rfl, hn1⟩
  rw [h]
  obtain ⟨c0, c1, c2, c3, c4, hz⟩ := five_in hn1
  have HN := Lib.hid (((Nx.refl w).alloc _).trans hn1)
  clear hn1
  go_wp2
  go_region_with (go_at_call 85; refine (names_nm k s HS.out _).mono ?_; rintro e w2 ⟨g, rfl, hg, hn2⟩; have hn3 : Nx w1 w2 := Nx.trans ((Nx.refl _).drew) hn2; have d0 := hn3.cell c0)
  all_goals
    have d1 := hn3.cell c1
    have d2 := hn3.cell c2
    have d3 := hn3.cell c3
    have d4 := hn3.cell c4
    have hz3 : w.heap.size < w2.heap.size := Nat.lt_of_lt_of_le hz hn3.size
    have HN3 := Lib.hid (HN.out.trans hn3)
    clear hn2 hn3 hg c0 c1 c2 c3 c4
    go_wp2_with (first | (go_at_call 88; refine (rfew_any _ _).mono ?_; rintro e w' ⟨rfl, rfl⟩) | (go_at_call 89; refine (rfrom_any _ _ _ _ _ (by decide)).mono ?_; rintro e w' ⟨rfl, rfl⟩))
    all_goals
      go_ret
      exact ⟨ret_bool (by first | rfl | (simp [*, bne, Bool.and_assoc]; done)), HN3.out⟩

set_option maxRecDepth 100000 in
set_option maxHeartbeats 4000000 in
theorem rfit_23 (k : Nat) (s : List UInt8) (rd rs1 rs2 imm : Int) (w : World) (hv : -2147483648 ≤ imm) (hv' : imm ≤ 2147483647) (hs : nmB[k]? = some s) (hk : k < 49) (h : mayB k rd rs1 rs2 imm = true) :
    Calls Tryz.prog 75 #[.string (B [99, 46, 101, 98, 114, 101, 97, 107]), .agg #[.int .i64 k, .int .i64 rd, .int .i64 rs1, .int .i64 rs2, .int .i32 imm]] w fun e w' => e = .returned (.bool (s == [101, 98, 114, 101, 97, 107])) ∧ Nx w w' := by
  have HS := Lib.hid hs
  have hlen := nm_len k s hk hs
  have hcat := cat_c s
  clear hs
  go_enter Tryz.func75, Tryz.ntmps75
  go_wp2_with fail
  refine (rmay_any _ _ _ _ _ _ hv hv').mono ?_
  rintro e w1 ⟨rfl, hn1⟩
  rw [h]
  obtain ⟨c0, c1, c2, c3, c4, hz⟩ := five_in hn1
  have HN := Lib.hid (((Nx.refl w).alloc _).trans hn1)
  clear hn1
  go_wp2
  go_region_with (go_at_call 85; refine (names_nm k s HS.out _).mono ?_; rintro e w2 ⟨g, rfl, hg, hn2⟩; have hn3 : Nx w1 w2 := Nx.trans ((Nx.refl _).drew) hn2; have d0 := hn3.cell c0)
  all_goals
    have d1 := hn3.cell c1
    have d2 := hn3.cell c2
    have d3 := hn3.cell c3
    have d4 := hn3.cell c4
    have hz3 : w.heap.size < w2.heap.size := Nat.lt_of_lt_of_le hz hn3.size
    have HN3 := Lib.hid (HN.out.trans hn3)
    clear hn2 hn3 hg c0 c1 c2 c3 c4
    go_wp2_with (first | (go_at_call 88; refine (rfew_any _ _).mono ?_; rintro e w' ⟨rfl, rfl⟩) | (go_at_call 89; refine (rfrom_any _ _ _ _ _ (by decide)).mono ?_; rintro e w' ⟨rfl, rfl⟩))
    all_goals
      go_ret
      exact ⟨ret_bool (by first | rfl | (simp [*, bne, Bool.and_assoc]; done)), HN3.out⟩

set_option maxRecDepth 100000 in
set_option maxHeartbeats 4000000 in
theorem rfit_24 (k : Nat) (s : List UInt8) (rd rs1 rs2 imm : Int) (w : World) (hv : -2147483648 ≤ imm) (hv' : imm ≤ 2147483647) (hs : nmB[k]? = some s) (hk : k < 49) (h : mayB k rd rs1 rs2 imm = true) :
    Calls Tryz.prog 75 #[.string (B [99, 46, 106, 97, 108, 114]), .agg #[.int .i64 k, .int .i64 rd, .int .i64 rs1, .int .i64 rs2, .int .i32 imm]] w fun e w' => e = .returned (.bool ((s == [106, 97, 108, 114]) && ((rd == 1) && (!(rs1 == 0) && (imm == 0))))) ∧ Nx w w' := by
  have HS := Lib.hid hs
  have hlen := nm_len k s hk hs
  have hcat := cat_c s
  clear hs
  go_enter Tryz.func75, Tryz.ntmps75
  go_wp2_with fail
  refine (rmay_any _ _ _ _ _ _ hv hv').mono ?_
  rintro e w1 ⟨rfl, hn1⟩
  rw [h]
  obtain ⟨c0, c1, c2, c3, c4, hz⟩ := five_in hn1
  have HN := Lib.hid (((Nx.refl w).alloc _).trans hn1)
  clear hn1
  go_wp2
  go_region_with (go_at_call 85; refine (names_nm k s HS.out _).mono ?_; rintro e w2 ⟨g, rfl, hg, hn2⟩; have hn3 : Nx w1 w2 := Nx.trans ((Nx.refl _).drew) hn2; have d0 := hn3.cell c0)
  all_goals
    have d1 := hn3.cell c1
    have d2 := hn3.cell c2
    have d3 := hn3.cell c3
    have d4 := hn3.cell c4
    have hz3 : w.heap.size < w2.heap.size := Nat.lt_of_lt_of_le hz hn3.size
    have HN3 := Lib.hid (HN.out.trans hn3)
    clear hn2 hn3 hg c0 c1 c2 c3 c4
    go_wp2_with (first | (go_at_call 88; refine (rfew_any _ _).mono ?_; rintro e w' ⟨rfl, rfl⟩) | (go_at_call 89; refine (rfrom_any _ _ _ _ _ (by decide)).mono ?_; rintro e w' ⟨rfl, rfl⟩))
    all_goals
      go_ret
      exact ⟨ret_bool (by first | rfl | (simp [*, bne, Bool.and_assoc]; done)), HN3.out⟩

set_option maxRecDepth 100000 in
set_option maxHeartbeats 4000000 in
theorem rfit_25 (k : Nat) (s : List UInt8) (rd rs1 rs2 imm : Int) (w : World) (hv : -2147483648 ≤ imm) (hv' : imm ≤ 2147483647) (hs : nmB[k]? = some s) (hk : k < 49) (h : mayB k rd rs1 rs2 imm = true) :
    Calls Tryz.prog 75 #[.string (B [99, 46, 97, 100, 100]), .agg #[.int .i64 k, .int .i64 rd, .int .i64 rs1, .int .i64 rs2, .int .i32 imm]] w fun e w' => e = .returned (.bool ((s == [97, 100, 100]) && (!(rd == 0) && ((rd == rs1) && !(rs2 == 0))))) ∧ Nx w w' := by
  have HS := Lib.hid hs
  have hlen := nm_len k s hk hs
  have hcat := cat_c s
  clear hs
  go_enter Tryz.func75, Tryz.ntmps75
  go_wp2_with fail
  refine (rmay_any _ _ _ _ _ _ hv hv').mono ?_
  rintro e w1 ⟨rfl, hn1⟩
  rw [h]
  obtain ⟨c0, c1, c2, c3, c4, hz⟩ := five_in hn1
  have HN := Lib.hid (((Nx.refl w).alloc _).trans hn1)
  clear hn1
  go_wp2
  go_region_with (go_at_call 85; refine (names_nm k s HS.out _).mono ?_; rintro e w2 ⟨g, rfl, hg, hn2⟩; have hn3 : Nx w1 w2 := Nx.trans ((Nx.refl _).drew) hn2; have d0 := hn3.cell c0)
  all_goals
    have d1 := hn3.cell c1
    have d2 := hn3.cell c2
    have d3 := hn3.cell c3
    have d4 := hn3.cell c4
    have hz3 : w.heap.size < w2.heap.size := Nat.lt_of_lt_of_le hz hn3.size
    have HN3 := Lib.hid (HN.out.trans hn3)
    clear hn2 hn3 hg c0 c1 c2 c3 c4
    go_wp2_with (first | (go_at_call 88; refine (rfew_any _ _).mono ?_; rintro e w' ⟨rfl, rfl⟩) | (go_at_call 89; refine (rfrom_any _ _ _ _ _ (by decide)).mono ?_; rintro e w' ⟨rfl, rfl⟩))
    all_goals
      go_ret
      exact ⟨ret_bool (by first | rfl | (simp [*, bne, Bool.and_assoc]; done)), HN3.out⟩

set_option maxRecDepth 100000 in
set_option maxHeartbeats 4000000 in
theorem rfit_26 (k : Nat) (s : List UInt8) (rd rs1 rs2 imm : Int) (w : World) (hv : -2147483648 ≤ imm) (hv' : imm ≤ 2147483647) (hs : nmB[k]? = some s) (hk : k < 49) (h : mayB k rd rs1 rs2 imm = true) :
    Calls Tryz.prog 75 #[.string (B [99, 46, 115, 119, 115, 112]), .agg #[.int .i64 k, .int .i64 rd, .int .i64 rs1, .int .i64 rs2, .int .i32 imm]] w fun e w' => e = .returned (.bool ((s == [115, 119]) && ((rs1 == 2) && fromB imm 4 0 252))) ∧ Nx w w' := by
  have HS := Lib.hid hs
  have hlen := nm_len k s hk hs
  have hcat := cat_c s
  clear hs
  go_enter Tryz.func75, Tryz.ntmps75
  go_wp2_with fail
  refine (rmay_any _ _ _ _ _ _ hv hv').mono ?_
  rintro e w1 ⟨rfl, hn1⟩
  rw [h]
  obtain ⟨c0, c1, c2, c3, c4, hz⟩ := five_in hn1
  have HN := Lib.hid (((Nx.refl w).alloc _).trans hn1)
  clear hn1
  go_wp2
  go_region_with (go_at_call 85; refine (names_nm k s HS.out _).mono ?_; rintro e w2 ⟨g, rfl, hg, hn2⟩; have hn3 : Nx w1 w2 := Nx.trans ((Nx.refl _).drew) hn2; have d0 := hn3.cell c0)
  all_goals
    have d1 := hn3.cell c1
    have d2 := hn3.cell c2
    have d3 := hn3.cell c3
    have d4 := hn3.cell c4
    have hz3 : w.heap.size < w2.heap.size := Nat.lt_of_lt_of_le hz hn3.size
    have HN3 := Lib.hid (HN.out.trans hn3)
    clear hn2 hn3 hg c0 c1 c2 c3 c4
    go_wp2_with (first | (go_at_call 88; refine (rfew_any _ _).mono ?_; rintro e w' ⟨rfl, rfl⟩) | (go_at_call 89; refine (rfrom_any _ _ _ _ _ (by decide)).mono ?_; rintro e w' ⟨rfl, rfl⟩))
    all_goals
      go_ret
      exact ⟨ret_bool (by first | rfl | (simp [*, bne, Bool.and_assoc]; done)), HN3.out⟩

end Go.Proofs.YtdgmdkkockbkjaaGreatDoor

