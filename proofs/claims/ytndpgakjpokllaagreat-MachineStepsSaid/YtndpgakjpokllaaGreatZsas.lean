/- Parts of the proof, one behind the other. -/
import Derived.Test.YtndpgakjpokllaaGreatZsaq
/- Contracts of package typecaseref06: Next, operation by operation. -/
namespace Go.Proofs.YtndpgakjpokllaaGreat
open Go.RowKit
set_option linter.unusedVariables false
set_option linter.unusedSimpArgs false

set_option maxHeartbeats 1000000 in
theorem rnext_13 (rd rs1 rs2 imm a b pc size : Int) (w : World) (hv : -2147483648 ≤ imm) (hv' : imm ≤ 2147483647) (a1 : 0 ≤ a) (a2 : a < 4294967296) (b1 : 0 ≤ b) (b2 : b < 4294967296) (p1 : 0 ≤ pc) (p2 : pc < 4294967296) (h : mayB 13 rd rs1 rs2 imm = true) :
    Calls Tryz.prog 38 #[.agg #[.int .i64 13, .int .i64 rd, .int .i64 rs1, .int .i64 rs2, .int .i32 imm], .int .u32 a, .int .u32 b, .int .u32 pc, .int .i64 size] w fun e w' => e = .returned (.int .u32 (nextV 13 a b pc imm size)) ∧ Nx w w' := by
  have HV : Hid (nextV 13 a b pc imm size = (pc + size % 4294967296) % 4294967296) := rfl
  go_enter Tryz.func38, Tryz.ntmps38
  go_wp2_with fail
  refine (rmay_any _ _ _ _ _ _ hv hv').mono ?_
  rintro e w1 ⟨rfl, hn1⟩
  obtain ⟨c0, c1, c2, c3, c4, hz⟩ := five_in hn1
  have HN := Lib.hid (((Nx.refl w).alloc _).trans hn1)
  clear hn1
  go_wp2
  go_region_with (go_at_call 62; refine (names_at 13 [108, 119] rfl _).mono ?_; rintro e w2 ⟨g, rfl, hg, hn2⟩; have hn3 : Nx w1 w2 := Nx.trans ((Nx.refl _).drew) hn2; have d0 := hn3.cell c0)
  all_goals
    have d4 := hn3.cell c4
    have hz3 : w.heap.size < w2.heap.size := Nat.lt_of_lt_of_le hz hn3.size
    go_wp2_with (go_at_call 73; refine (goes_13 a b _ a1 a2 b1 b2).mono ?_; rintro e w' ⟨rfl, rfl⟩)
    go_ret
    exact ⟨ret_u32 (by have q := HV.out; first | exact q.symm | (rw [q]; omega) | (rw [q]; simp; done)), HN.out.trans hn3⟩

set_option maxHeartbeats 1000000 in
theorem rnext_14 (rd rs1 rs2 imm a b pc size : Int) (w : World) (hv : -2147483648 ≤ imm) (hv' : imm ≤ 2147483647) (a1 : 0 ≤ a) (a2 : a < 4294967296) (b1 : 0 ≤ b) (b2 : b < 4294967296) (p1 : 0 ≤ pc) (p2 : pc < 4294967296) (h : mayB 14 rd rs1 rs2 imm = true) :
    Calls Tryz.prog 38 #[.agg #[.int .i64 14, .int .i64 rd, .int .i64 rs1, .int .i64 rs2, .int .i32 imm], .int .u32 a, .int .u32 b, .int .u32 pc, .int .i64 size] w fun e w' => e = .returned (.int .u32 (nextV 14 a b pc imm size)) ∧ Nx w w' := by
  have HV : Hid (nextV 14 a b pc imm size = (pc + size % 4294967296) % 4294967296) := rfl
  go_enter Tryz.func38, Tryz.ntmps38
  go_wp2_with fail
  refine (rmay_any _ _ _ _ _ _ hv hv').mono ?_
  rintro e w1 ⟨rfl, hn1⟩
  obtain ⟨c0, c1, c2, c3, c4, hz⟩ := five_in hn1
  have HN := Lib.hid (((Nx.refl w).alloc _).trans hn1)
  clear hn1
  go_wp2
  go_region_with (go_at_call 62; refine (names_at 14 [108, 98, 117] rfl _).mono ?_; rintro e w2 ⟨g, rfl, hg, hn2⟩; have hn3 : Nx w1 w2 := Nx.trans ((Nx.refl _).drew) hn2; have d0 := hn3.cell c0)
  all_goals
    have d4 := hn3.cell c4
    have hz3 : w.heap.size < w2.heap.size := Nat.lt_of_lt_of_le hz hn3.size
    go_wp2_with (go_at_call 73; refine (goes_14 a b _ a1 a2 b1 b2).mono ?_; rintro e w' ⟨rfl, rfl⟩)
    go_ret
    exact ⟨ret_u32 (by have q := HV.out; first | exact q.symm | (rw [q]; omega) | (rw [q]; simp; done)), HN.out.trans hn3⟩

set_option maxHeartbeats 1000000 in
theorem rnext_15 (rd rs1 rs2 imm a b pc size : Int) (w : World) (hv : -2147483648 ≤ imm) (hv' : imm ≤ 2147483647) (a1 : 0 ≤ a) (a2 : a < 4294967296) (b1 : 0 ≤ b) (b2 : b < 4294967296) (p1 : 0 ≤ pc) (p2 : pc < 4294967296) (h : mayB 15 rd rs1 rs2 imm = true) :
    Calls Tryz.prog 38 #[.agg #[.int .i64 15, .int .i64 rd, .int .i64 rs1, .int .i64 rs2, .int .i32 imm], .int .u32 a, .int .u32 b, .int .u32 pc, .int .i64 size] w fun e w' => e = .returned (.int .u32 (nextV 15 a b pc imm size)) ∧ Nx w w' := by
  have HV : Hid (nextV 15 a b pc imm size = (pc + size % 4294967296) % 4294967296) := rfl
  go_enter Tryz.func38, Tryz.ntmps38
  go_wp2_with fail
  refine (rmay_any _ _ _ _ _ _ hv hv').mono ?_
  rintro e w1 ⟨rfl, hn1⟩
  obtain ⟨c0, c1, c2, c3, c4, hz⟩ := five_in hn1
  have HN := Lib.hid (((Nx.refl w).alloc _).trans hn1)
  clear hn1
  go_wp2
  go_region_with (go_at_call 62; refine (names_at 15 [108, 104, 117] rfl _).mono ?_; rintro e w2 ⟨g, rfl, hg, hn2⟩; have hn3 : Nx w1 w2 := Nx.trans ((Nx.refl _).drew) hn2; have d0 := hn3.cell c0)
  all_goals
    have d4 := hn3.cell c4
    have hz3 : w.heap.size < w2.heap.size := Nat.lt_of_lt_of_le hz hn3.size
    go_wp2_with (go_at_call 73; refine (goes_15 a b _ a1 a2 b1 b2).mono ?_; rintro e w' ⟨rfl, rfl⟩)
    go_ret
    exact ⟨ret_u32 (by have q := HV.out; first | exact q.symm | (rw [q]; omega) | (rw [q]; simp; done)), HN.out.trans hn3⟩

set_option maxHeartbeats 1000000 in
theorem rnext_16 (rd rs1 rs2 imm a b pc size : Int) (w : World) (hv : -2147483648 ≤ imm) (hv' : imm ≤ 2147483647) (a1 : 0 ≤ a) (a2 : a < 4294967296) (b1 : 0 ≤ b) (b2 : b < 4294967296) (p1 : 0 ≤ pc) (p2 : pc < 4294967296) (h : mayB 16 rd rs1 rs2 imm = true) :
    Calls Tryz.prog 38 #[.agg #[.int .i64 16, .int .i64 rd, .int .i64 rs1, .int .i64 rs2, .int .i32 imm], .int .u32 a, .int .u32 b, .int .u32 pc, .int .i64 size] w fun e w' => e = .returned (.int .u32 (nextV 16 a b pc imm size)) ∧ Nx w w' := by
  have HV : Hid (nextV 16 a b pc imm size = (pc + size % 4294967296) % 4294967296) := rfl
  go_enter Tryz.func38, Tryz.ntmps38
  go_wp2_with fail
  refine (rmay_any _ _ _ _ _ _ hv hv').mono ?_
  rintro e w1 ⟨rfl, hn1⟩
  obtain ⟨c0, c1, c2, c3, c4, hz⟩ := five_in hn1
  have HN := Lib.hid (((Nx.refl w).alloc _).trans hn1)
  clear hn1
  go_wp2
  go_region_with (go_at_call 62; refine (names_at 16 [115, 98] rfl _).mono ?_; rintro e w2 ⟨g, rfl, hg, hn2⟩; have hn3 : Nx w1 w2 := Nx.trans ((Nx.refl _).drew) hn2; have d0 := hn3.cell c0)
  all_goals
    have d4 := hn3.cell c4
    have hz3 : w.heap.size < w2.heap.size := Nat.lt_of_lt_of_le hz hn3.size
    go_wp2_with (go_at_call 73; refine (goes_16 a b _ a1 a2 b1 b2).mono ?_; rintro e w' ⟨rfl, rfl⟩)
    go_ret
    exact ⟨ret_u32 (by have q := HV.out; first | exact q.symm | (rw [q]; omega) | (rw [q]; simp; done)), HN.out.trans hn3⟩

set_option maxHeartbeats 1000000 in
theorem rnext_17 (rd rs1 rs2 imm a b pc size : Int) (w : World) (hv : -2147483648 ≤ imm) (hv' : imm ≤ 2147483647) (a1 : 0 ≤ a) (a2 : a < 4294967296) (b1 : 0 ≤ b) (b2 : b < 4294967296) (p1 : 0 ≤ pc) (p2 : pc < 4294967296) (h : mayB 17 rd rs1 rs2 imm = true) :
    Calls Tryz.prog 38 #[.agg #[.int .i64 17, .int .i64 rd, .int .i64 rs1, .int .i64 rs2, .int .i32 imm], .int .u32 a, .int .u32 b, .int .u32 pc, .int .i64 size] w fun e w' => e = .returned (.int .u32 (nextV 17 a b pc imm size)) ∧ Nx w w' := by
  have HV : Hid (nextV 17 a b pc imm size = (pc + size % 4294967296) % 4294967296) := rfl
  go_enter Tryz.func38, Tryz.ntmps38
  go_wp2_with fail
  refine (rmay_any _ _ _ _ _ _ hv hv').mono ?_
  rintro e w1 ⟨rfl, hn1⟩
  obtain ⟨c0, c1, c2, c3, c4, hz⟩ := five_in hn1
  have HN := Lib.hid (((Nx.refl w).alloc _).trans hn1)
  clear hn1
  go_wp2
  go_region_with (go_at_call 62; refine (names_at 17 [115, 104] rfl _).mono ?_; rintro e w2 ⟨g, rfl, hg, hn2⟩; have hn3 : Nx w1 w2 := Nx.trans ((Nx.refl _).drew) hn2; have d0 := hn3.cell c0)
  all_goals
    have d4 := hn3.cell c4
    have hz3 : w.heap.size < w2.heap.size := Nat.lt_of_lt_of_le hz hn3.size
    go_wp2_with (go_at_call 73; refine (goes_17 a b _ a1 a2 b1 b2).mono ?_; rintro e w' ⟨rfl, rfl⟩)
    go_ret
    exact ⟨ret_u32 (by have q := HV.out; first | exact q.symm | (rw [q]; omega) | (rw [q]; simp; done)), HN.out.trans hn3⟩

set_option maxHeartbeats 1000000 in
theorem rnext_18 (rd rs1 rs2 imm a b pc size : Int) (w : World) (hv : -2147483648 ≤ imm) (hv' : imm ≤ 2147483647) (a1 : 0 ≤ a) (a2 : a < 4294967296) (b1 : 0 ≤ b) (b2 : b < 4294967296) (p1 : 0 ≤ pc) (p2 : pc < 4294967296) (h : mayB 18 rd rs1 rs2 imm = true) :
    Calls Tryz.prog 38 #[.agg #[.int .i64 18, .int .i64 rd, .int .i64 rs1, .int .i64 rs2, .int .i32 imm], .int .u32 a, .int .u32 b, .int .u32 pc, .int .i64 size] w fun e w' => e = .returned (.int .u32 (nextV 18 a b pc imm size)) ∧ Nx w w' := by
  have HV : Hid (nextV 18 a b pc imm size = (pc + size % 4294967296) % 4294967296) := rfl
  go_enter Tryz.func38, Tryz.ntmps38
  go_wp2_with fail
  refine (rmay_any _ _ _ _ _ _ hv hv').mono ?_
  rintro e w1 ⟨rfl, hn1⟩
  obtain ⟨c0, c1, c2, c3, c4, hz⟩ := five_in hn1
  have HN := Lib.hid (((Nx.refl w).alloc _).trans hn1)
  clear hn1
  go_wp2
  go_region_with (go_at_call 62; refine (names_at 18 [115, 119] rfl _).mono ?_; rintro e w2 ⟨g, rfl, hg, hn2⟩; have hn3 : Nx w1 w2 := Nx.trans ((Nx.refl _).drew) hn2; have d0 := hn3.cell c0)
  all_goals
    have d4 := hn3.cell c4
    have hz3 : w.heap.size < w2.heap.size := Nat.lt_of_lt_of_le hz hn3.size
    go_wp2_with (go_at_call 73; refine (goes_18 a b _ a1 a2 b1 b2).mono ?_; rintro e w' ⟨rfl, rfl⟩)
    go_ret
    exact ⟨ret_u32 (by have q := HV.out; first | exact q.symm | (rw [q]; omega) | (rw [q]; simp; done)), HN.out.trans hn3⟩

set_option maxHeartbeats 1000000 in
theorem rnext_19 (rd rs1 rs2 imm a b pc size : Int) (w : World) (hv : -2147483648 ≤ imm) (hv' : imm ≤ 2147483647) (a1 : 0 ≤ a) (a2 : a < 4294967296) (b1 : 0 ≤ b) (b2 : b < 4294967296) (p1 : 0 ≤ pc) (p2 : pc < 4294967296) (h : mayB 19 rd rs1 rs2 imm = true) :
    Calls Tryz.prog 38 #[.agg #[.int .i64 19, .int .i64 rd, .int .i64 rs1, .int .i64 rs2, .int .i32 imm], .int .u32 a, .int .u32 b, .int .u32 pc, .int .i64 size] w fun e w' => e = .returned (.int .u32 (nextV 19 a b pc imm size)) ∧ Nx w w' := by
  have HV : Hid (nextV 19 a b pc imm size = (pc + size % 4294967296) % 4294967296) := rfl
  go_enter Tryz.func38, Tryz.ntmps38
  go_wp2_with fail
  refine (rmay_any _ _ _ _ _ _ hv hv').mono ?_
  rintro e w1 ⟨rfl, hn1⟩
  obtain ⟨c0, c1, c2, c3, c4, hz⟩ := five_in hn1
  have HN := Lib.hid (((Nx.refl w).alloc _).trans hn1)
  clear hn1
  go_wp2
  go_region_with (go_at_call 62; refine (names_at 19 [97, 100, 100, 105] rfl _).mono ?_; rintro e w2 ⟨g, rfl, hg, hn2⟩; have hn3 : Nx w1 w2 := Nx.trans ((Nx.refl _).drew) hn2; have d0 := hn3.cell c0)
  all_goals
    have d4 := hn3.cell c4
    have hz3 : w.heap.size < w2.heap.size := Nat.lt_of_lt_of_le hz hn3.size
    go_wp2_with (go_at_call 73; refine (goes_19 a b _ a1 a2 b1 b2).mono ?_; rintro e w' ⟨rfl, rfl⟩)
    go_ret
    exact ⟨ret_u32 (by have q := HV.out; first | exact q.symm | (rw [q]; omega) | (rw [q]; simp; done)), HN.out.trans hn3⟩

set_option maxHeartbeats 1000000 in
theorem rnext_20 (rd rs1 rs2 imm a b pc size : Int) (w : World) (hv : -2147483648 ≤ imm) (hv' : imm ≤ 2147483647) (a1 : 0 ≤ a) (a2 : a < 4294967296) (b1 : 0 ≤ b) (b2 : b < 4294967296) (p1 : 0 ≤ pc) (p2 : pc < 4294967296) (h : mayB 20 rd rs1 rs2 imm = true) :
    Calls Tryz.prog 38 #[.agg #[.int .i64 20, .int .i64 rd, .int .i64 rs1, .int .i64 rs2, .int .i32 imm], .int .u32 a, .int .u32 b, .int .u32 pc, .int .i64 size] w fun e w' => e = .returned (.int .u32 (nextV 20 a b pc imm size)) ∧ Nx w w' := by
  have HV : Hid (nextV 20 a b pc imm size = (pc + size % 4294967296) % 4294967296) := rfl
  go_enter Tryz.func38, Tryz.ntmps38
  go_wp2_with fail
  refine (rmay_any _ _ _ _ _ _ hv hv').mono ?_
  rintro e w1 ⟨rfl, hn1⟩
  obtain ⟨c0, c1, c2, c3, c4, hz⟩ := five_in hn1
  have HN := Lib.hid (((Nx.refl w).alloc _).trans hn1)
  clear hn1
  go_wp2
  go_region_with (go_at_call 62; refine (names_at 20 [115, 108, 116, 105] rfl _).mono ?_; rintro e w2 ⟨g, rfl, hg, hn2⟩; have hn3 : Nx w1 w2 := Nx.trans ((Nx.refl _).drew) hn2; have d0 := hn3.cell c0)
  all_goals
    have d4 := hn3.cell c4
    have hz3 : w.heap.size < w2.heap.size := Nat.lt_of_lt_of_le hz hn3.size
    go_wp2_with (go_at_call 73; refine (goes_20 a b _ a1 a2 b1 b2).mono ?_; rintro e w' ⟨rfl, rfl⟩)
    go_ret
    exact ⟨ret_u32 (by have q := HV.out; first | exact q.symm | (rw [q]; omega) | (rw [q]; simp; done)), HN.out.trans hn3⟩

set_option maxHeartbeats 1000000 in
theorem rnext_21 (rd rs1 rs2 imm a b pc size : Int) (w : World) (hv : -2147483648 ≤ imm) (hv' : imm ≤ 2147483647) (a1 : 0 ≤ a) (a2 : a < 4294967296) (b1 : 0 ≤ b) (b2 : b < 4294967296) (p1 : 0 ≤ pc) (p2 : pc < 4294967296) (h : mayB 21 rd rs1 rs2 imm = true) :
    Calls Tryz.prog 38 #[.agg #[.int .i64 21, .int .i64 rd, .int .i64 rs1, .int .i64 rs2, .int .i32 imm], .int .u32 a, .int .u32 b, .int .u32 pc, .int .i64 size] w fun e w' => e = .returned (.int .u32 (nextV 21 a b pc imm size)) ∧ Nx w w' := by
  have HV : Hid (nextV 21 a b pc imm size = (pc + size % 4294967296) % 4294967296) := rfl
  go_enter Tryz.func38, Tryz.ntmps38
  go_wp2_with fail
  refine (rmay_any _ _ _ _ _ _ hv hv').mono ?_
  rintro e w1 ⟨rfl, hn1⟩
  obtain ⟨c0, c1, c2, c3, c4, hz⟩ := five_in hn1
  have HN := Lib.hid (((Nx.refl w).alloc _).trans hn1)
  clear hn1
  go_wp2
  go_region_with (go_at_call 62; refine (names_at 21 [115, 108, 116, 105, 117] rfl _).mono ?_; rintro e w2 ⟨g, rfl, hg, hn2⟩; have hn3 : Nx w1 w2 := Nx.trans ((Nx.refl _).drew) hn2; have d0 := hn3.cell c0)
  all_goals
    have d4 := hn3.cell c4
    have hz3 : w.heap.size < w2.heap.size := Nat.lt_of_lt_of_le hz hn3.size
    go_wp2_with (go_at_call 73; refine (goes_21 a b _ a1 a2 b1 b2).mono ?_; rintro e w' ⟨rfl, rfl⟩)
    go_ret
    exact ⟨ret_u32 (by have q := HV.out; first | exact q.symm | (rw [q]; omega) | (rw [q]; simp; done)), HN.out.trans hn3⟩

set_option maxHeartbeats 1000000 in
theorem rnext_22 (rd rs1 rs2 imm a b pc size : Int) (w : World) (hv : -2147483648 ≤ imm) (hv' : imm ≤ 2147483647) (a1 : 0 ≤ a) (a2 : a < 4294967296) (b1 : 0 ≤ b) (b2 : b < 4294967296) (p1 : 0 ≤ pc) (p2 : pc < 4294967296) (h : mayB 22 rd rs1 rs2 imm = true) :
    Calls Tryz.prog 38 #[.agg #[.int .i64 22, .int .i64 rd, .int .i64 rs1, .int .i64 rs2, .int .i32 imm], .int .u32 a, .int .u32 b, .int .u32 pc, .int .i64 size] w fun e w' => e = .returned (.int .u32 (nextV 22 a b pc imm size)) ∧ Nx w w' := by
  have HV : Hid (nextV 22 a b pc imm size = (pc + size % 4294967296) % 4294967296) := rfl
  go_enter Tryz.func38, Tryz.ntmps38
  go_wp2_with fail
  refine (rmay_any _ _ _ _ _ _ hv hv').mono ?_
  rintro e w1 ⟨rfl, hn1⟩
  obtain ⟨c0, c1, c2, c3, c4, hz⟩ := five_in hn1
  have HN := Lib.hid (((Nx.refl w).alloc _).trans hn1)
  clear hn1
  go_wp2
  go_region_with (go_at_call 62; refine (names_at 22 [120, 111, 114, 105] rfl _).mono ?_; rintro e w2 ⟨g, rfl, hg, hn2⟩; have hn3 : Nx w1 w2 := Nx.trans ((Nx.refl _).drew) hn2; have d0 := hn3.cell c0)
  all_goals
    have d4 := hn3.cell c4
    have hz3 : w.heap.size < w2.heap.size := Nat.lt_of_lt_of_le hz hn3.size
    go_wp2_with (go_at_call 73; refine (goes_22 a b _ a1 a2 b1 b2).mono ?_; rintro e w' ⟨rfl, rfl⟩)
    go_ret
    exact ⟨ret_u32 (by have q := HV.out; first | exact q.symm | (rw [q]; omega) | (rw [q]; simp; done)), HN.out.trans hn3⟩

set_option maxHeartbeats 1000000 in
theorem rnext_23 (rd rs1 rs2 imm a b pc size : Int) (w : World) (hv : -2147483648 ≤ imm) (hv' : imm ≤ 2147483647) (a1 : 0 ≤ a) (a2 : a < 4294967296) (b1 : 0 ≤ b) (b2 : b < 4294967296) (p1 : 0 ≤ pc) (p2 : pc < 4294967296) (h : mayB 23 rd rs1 rs2 imm = true) :
    Calls Tryz.prog 38 #[.agg #[.int .i64 23, .int .i64 rd, .int .i64 rs1, .int .i64 rs2, .int .i32 imm], .int .u32 a, .int .u32 b, .int .u32 pc, .int .i64 size] w fun e w' => e = .returned (.int .u32 (nextV 23 a b pc imm size)) ∧ Nx w w' := by
  have HV : Hid (nextV 23 a b pc imm size = (pc + size % 4294967296) % 4294967296) := rfl
  go_enter Tryz.func38, Tryz.ntmps38
  go_wp2_with fail
  refine (rmay_any _ _ _ _ _ _ hv hv').mono ?_
  rintro e w1 ⟨rfl, hn1⟩
  obtain ⟨c0, c1, c2, c3, c4, hz⟩ := five_in hn1
  have HN := Lib.hid (((Nx.refl w).alloc _).trans hn1)
  clear hn1
  go_wp2
  go_region_with (go_at_call 62; refine (names_at 23 [111, 114, 105] rfl _).mono ?_; rintro e w2 ⟨g, rfl, hg, hn2⟩; have hn3 : Nx w1 w2 := Nx.trans ((Nx.refl _).drew) hn2; have d0 := hn3.cell c0)
  all_goals
    have d4 := hn3.cell c4
    have hz3 : w.heap.size < w2.heap.size := Nat.lt_of_lt_of_le hz hn3.size
    go_wp2_with (go_at_call 73; refine (goes_23 a b _ a1 a2 b1 b2).mono ?_; rintro e w' ⟨rfl, rfl⟩)
    go_ret
    exact ⟨ret_u32 (by have q := HV.out; first | exact q.symm | (rw [q]; omega) | (rw [q]; simp; done)), HN.out.trans hn3⟩

set_option maxHeartbeats 1000000 in
theorem rnext_24 (rd rs1 rs2 imm a b pc size : Int) (w : World) (hv : -2147483648 ≤ imm) (hv' : imm ≤ 2147483647) (a1 : 0 ≤ a) (a2 : a < 4294967296) (b1 : 0 ≤ b) (b2 : b < 4294967296) (p1 : 0 ≤ pc) (p2 : pc < 4294967296) (h : mayB 24 rd rs1 rs2 imm = true) :
    Calls Tryz.prog 38 #[.agg #[.int .i64 24, .int .i64 rd, .int .i64 rs1, .int .i64 rs2, .int .i32 imm], .int .u32 a, .int .u32 b, .int .u32 pc, .int .i64 size] w fun e w' => e = .returned (.int .u32 (nextV 24 a b pc imm size)) ∧ Nx w w' := by
  have HV : Hid (nextV 24 a b pc imm size = (pc + size % 4294967296) % 4294967296) := rfl
  go_enter Tryz.func38, Tryz.ntmps38
  go_wp2_with fail
  refine (rmay_any _ _ _ _ _ _ hv hv').mono ?_
  rintro e w1 ⟨rfl, hn1⟩
  obtain ⟨c0, c1, c2, c3, c4, hz⟩ := five_in hn1
  have HN := Lib.hid (((Nx.refl w).alloc _).trans hn1)
  clear hn1
  go_wp2
  go_region_with (go_at_call 62; refine (names_at 24 [97, 110, 100, 105] rfl _).mono ?_; rintro e w2 ⟨g, rfl, hg, hn2⟩; have hn3 : Nx w1 w2 := Nx.trans ((Nx.refl _).drew) hn2; have d0 := hn3.cell c0)
  all_goals
    have d4 := hn3.cell c4
    have hz3 : w.heap.size < w2.heap.size := Nat.lt_of_lt_of_le hz hn3.size
    go_wp2_with (go_at_call 73; refine (goes_24 a b _ a1 a2 b1 b2).mono ?_; rintro e w' ⟨rfl, rfl⟩)
    go_ret
    exact ⟨ret_u32 (by have q := HV.out; first | exact q.symm | (rw [q]; omega) | (rw [q]; simp; done)), HN.out.trans hn3⟩

set_option maxHeartbeats 1000000 in
theorem rnext_25 (rd rs1 rs2 imm a b pc size : Int) (w : World) (hv : -2147483648 ≤ imm) (hv' : imm ≤ 2147483647) (a1 : 0 ≤ a) (a2 : a < 4294967296) (b1 : 0 ≤ b) (b2 : b < 4294967296) (p1 : 0 ≤ pc) (p2 : pc < 4294967296) (h : mayB 25 rd rs1 rs2 imm = true) :
    Calls Tryz.prog 38 #[.agg #[.int .i64 25, .int .i64 rd, .int .i64 rs1, .int .i64 rs2, .int .i32 imm], .int .u32 a, .int .u32 b, .int .u32 pc, .int .i64 size] w fun e w' => e = .returned (.int .u32 (nextV 25 a b pc imm size)) ∧ Nx w w' := by
  have HV : Hid (nextV 25 a b pc imm size = (pc + size % 4294967296) % 4294967296) := rfl
  go_enter Tryz.func38, Tryz.ntmps38
  go_wp2_with fail
  refine (rmay_any _ _ _ _ _ _ hv hv').mono ?_
  rintro e w1 ⟨rfl, hn1⟩
  obtain ⟨c0, c1, c2, c3, c4, hz⟩ := five_in hn1
  have HN := Lib.hid (((Nx.refl w).alloc _).trans hn1)
  clear hn1
  go_wp2
  go_region_with (go_at_call 62; refine (names_at 25 [115, 108, 108, 105] rfl _).mono ?_; rintro e w2 ⟨g, rfl, hg, hn2⟩; have hn3 : Nx w1 w2 := Nx.trans ((Nx.refl _).drew) hn2; have d0 := hn3.cell c0)
  all_goals
    have d4 := hn3.cell c4
    have hz3 : w.heap.size < w2.heap.size := Nat.lt_of_lt_of_le hz hn3.size
    go_wp2_with (go_at_call 73; refine (goes_25 a b _ a1 a2 b1 b2).mono ?_; rintro e w' ⟨rfl, rfl⟩)
    go_ret
    exact ⟨ret_u32 (by have q := HV.out; first | exact q.symm | (rw [q]; omega) | (rw [q]; simp; done)), HN.out.trans hn3⟩

set_option maxHeartbeats 1000000 in
theorem rnext_26 (rd rs1 rs2 imm a b pc size : Int) (w : World) (hv : -2147483648 ≤ imm) (hv' : imm ≤ 2147483647) (a1 : 0 ≤ a) (a2 : a < 4294967296) (b1 : 0 ≤ b) (b2 : b < 4294967296) (p1 : 0 ≤ pc) (p2 : pc < 4294967296) (h : mayB 26 rd rs1 rs2 imm = true) :
    Calls Tryz.prog 38 #[.agg #[.int .i64 26, .int .i64 rd, .int .i64 rs1, .int .i64 rs2, .int .i32 imm], .int .u32 a, .int .u32 b, .int .u32 pc, .int .i64 size] w fun e w' => e = .returned (.int .u32 (nextV 26 a b pc imm size)) ∧ Nx w w' := by
  have HV : Hid (nextV 26 a b pc imm size = (pc + size % 4294967296) % 4294967296) := rfl
  go_enter Tryz.func38, Tryz.ntmps38
  go_wp2_with fail
  refine (rmay_any _ _ _ _ _ _ hv hv').mono ?_
  rintro e w1 ⟨rfl, hn1⟩
  obtain ⟨c0, c1, c2, c3, c4, hz⟩ := five_in hn1
  have HN := Lib.hid (((Nx.refl w).alloc _).trans hn1)
  clear hn1
  go_wp2
  go_region_with (go_at_call 62; refine (names_at 26 [115, 114, 108, 105] rfl _).mono ?_; rintro e w2 ⟨g, rfl, hg, hn2⟩; have hn3 : Nx w1 w2 := Nx.trans ((Nx.refl _).drew) hn2; have d0 := hn3.cell c0)
  all_goals
    have d4 := hn3.cell c4
    have hz3 : w.heap.size < w2.heap.size := Nat.lt_of_lt_of_le hz hn3.size
    go_wp2_with (go_at_call 73; refine (goes_26 a b _ a1 a2 b1 b2).mono ?_; rintro e w' ⟨rfl, rfl⟩)
    go_ret
    exact ⟨ret_u32 (by have q := HV.out; first | exact q.symm | (rw [q]; omega) | (rw [q]; simp; done)), HN.out.trans hn3⟩

set_option maxHeartbeats 1000000 in
theorem rnext_27 (rd rs1 rs2 imm a b pc size : Int) (w : World) (hv : -2147483648 ≤ imm) (hv' : imm ≤ 2147483647) (a1 : 0 ≤ a) (a2 : a < 4294967296) (b1 : 0 ≤ b) (b2 : b < 4294967296) (p1 : 0 ≤ pc) (p2 : pc < 4294967296) (h : mayB 27 rd rs1 rs2 imm = true) :
    Calls Tryz.prog 38 #[.agg #[.int .i64 27, .int .i64 rd, .int .i64 rs1, .int .i64 rs2, .int .i32 imm], .int .u32 a, .int .u32 b, .int .u32 pc, .int .i64 size] w fun e w' => e = .returned (.int .u32 (nextV 27 a b pc imm size)) ∧ Nx w w' := by
  have HV : Hid (nextV 27 a b pc imm size = (pc + size % 4294967296) % 4294967296) := rfl
  go_enter Tryz.func38, Tryz.ntmps38
  go_wp2_with fail
  refine (rmay_any _ _ _ _ _ _ hv hv').mono ?_
  rintro e w1 ⟨rfl, hn1⟩
  obtain ⟨c0, c1, c2, c3, c4, hz⟩ := five_in hn1
  have HN := Lib.hid (((Nx.refl w).alloc _).trans hn1)
  clear hn1
  go_wp2
  go_region_with (go_at_call 62; refine (names_at 27 [115, 114, 97, 105] rfl _).mono ?_; rintro e w2 ⟨g, rfl, hg, hn2⟩; have hn3 : Nx w1 w2 := Nx.trans ((Nx.refl _).drew) hn2; have d0 := hn3.cell c0)
  all_goals
    have d4 := hn3.cell c4
    have hz3 : w.heap.size < w2.heap.size := Nat.lt_of_lt_of_le hz hn3.size
    go_wp2_with (go_at_call 73; refine (goes_27 a b _ a1 a2 b1 b2).mono ?_; rintro e w' ⟨rfl, rfl⟩)
    go_ret
    exact ⟨ret_u32 (by have q := HV.out; first | exact q.symm | (rw [q]; omega) | (rw [q]; simp; done)), HN.out.trans hn3⟩

set_option maxHeartbeats 1000000 in
theorem rnext_28 (rd rs1 rs2 imm a b pc size : Int) (w : World) (hv : -2147483648 ≤ imm) (hv' : imm ≤ 2147483647) (a1 : 0 ≤ a) (a2 : a < 4294967296) (b1 : 0 ≤ b) (b2 : b < 4294967296) (p1 : 0 ≤ pc) (p2 : pc < 4294967296) (h : mayB 28 rd rs1 rs2 imm = true) :
    Calls Tryz.prog 38 #[.agg #[.int .i64 28, .int .i64 rd, .int .i64 rs1, .int .i64 rs2, .int .i32 imm], .int .u32 a, .int .u32 b, .int .u32 pc, .int .i64 size] w fun e w' => e = .returned (.int .u32 (nextV 28 a b pc imm size)) ∧ Nx w w' := by
  have HV : Hid (nextV 28 a b pc imm size = (pc + size % 4294967296) % 4294967296) := rfl
  go_enter Tryz.func38, Tryz.ntmps38
  go_wp2_with fail
  refine (rmay_any _ _ _ _ _ _ hv hv').mono ?_
  rintro e w1 ⟨rfl, hn1⟩
  obtain ⟨c0, c1, c2, c3, c4, hz⟩ := five_in hn1
  have HN := Lib.hid (((Nx.refl w).alloc _).trans hn1)
  clear hn1
  go_wp2
  go_region_with (go_at_call 62; refine (names_at 28 [97, 100, 100] rfl _).mono ?_; rintro e w2 ⟨g, rfl, hg, hn2⟩; have hn3 : Nx w1 w2 := Nx.trans ((Nx.refl _).drew) hn2; have d0 := hn3.cell c0)
  all_goals
    have d4 := hn3.cell c4
    have hz3 : w.heap.size < w2.heap.size := Nat.lt_of_lt_of_le hz hn3.size
    go_wp2_with (go_at_call 73; refine (goes_28 a b _ a1 a2 b1 b2).mono ?_; rintro e w' ⟨rfl, rfl⟩)
    go_ret
    exact ⟨ret_u32 (by have q := HV.out; first | exact q.symm | (rw [q]; omega) | (rw [q]; simp; done)), HN.out.trans hn3⟩

set_option maxHeartbeats 1000000 in
theorem rnext_29 (rd rs1 rs2 imm a b pc size : Int) (w : World) (hv : -2147483648 ≤ imm) (hv' : imm ≤ 2147483647) (a1 : 0 ≤ a) (a2 : a < 4294967296) (b1 : 0 ≤ b) (b2 : b < 4294967296) (p1 : 0 ≤ pc) (p2 : pc < 4294967296) (h : mayB 29 rd rs1 rs2 imm = true) :
    Calls Tryz.prog 38 #[.agg #[.int .i64 29, .int .i64 rd, .int .i64 rs1, .int .i64 rs2, .int .i32 imm], .int .u32 a, .int .u32 b, .int .u32 pc, .int .i64 size] w fun e w' => e = .returned (.int .u32 (nextV 29 a b pc imm size)) ∧ Nx w w' := by
  have HV : Hid (nextV 29 a b pc imm size = (pc + size % 4294967296) % 4294967296) := rfl
  go_enter Tryz.func38, Tryz.ntmps38
  go_wp2_with fail
  refine (rmay_any _ _ _ _ _ _ hv hv').mono ?_
  rintro e w1 ⟨rfl, hn1⟩
  obtain ⟨c0, c1, c2, c3, c4, hz⟩ := five_in hn1
  have HN := Lib.hid (((Nx.refl w).alloc _).trans hn1)
  clear hn1
  go_wp2
  go_region_with (go_at_call 62; refine (names_at 29 [115, 117, 98] rfl _).mono ?_; rintro e w2 ⟨g, rfl, hg, hn2⟩; have hn3 : Nx w1 w2 := Nx.trans ((Nx.refl _).drew) hn2; have d0 := hn3.cell c0)
  all_goals
    have d4 := hn3.cell c4
    have hz3 : w.heap.size < w2.heap.size := Nat.lt_of_lt_of_le hz hn3.size
    go_wp2_with (go_at_call 73; refine (goes_29 a b _ a1 a2 b1 b2).mono ?_; rintro e w' ⟨rfl, rfl⟩)
    go_ret
    exact ⟨ret_u32 (by have q := HV.out; first | exact q.symm | (rw [q]; omega) | (rw [q]; simp; done)), HN.out.trans hn3⟩

set_option maxHeartbeats 1000000 in
theorem rnext_30 (rd rs1 rs2 imm a b pc size : Int) (w : World) (hv : -2147483648 ≤ imm) (hv' : imm ≤ 2147483647) (a1 : 0 ≤ a) (a2 : a < 4294967296) (b1 : 0 ≤ b) (b2 : b < 4294967296) (p1 : 0 ≤ pc) (p2 : pc < 4294967296) (h : mayB 30 rd rs1 rs2 imm = true) :
    Calls Tryz.prog 38 #[.agg #[.int .i64 30, .int .i64 rd, .int .i64 rs1, .int .i64 rs2, .int .i32 imm], .int .u32 a, .int .u32 b, .int .u32 pc, .int .i64 size] w fun e w' => e = .returned (.int .u32 (nextV 30 a b pc imm size)) ∧ Nx w w' := by
  have HV : Hid (nextV 30 a b pc imm size = (pc + size % 4294967296) % 4294967296) := rfl
  go_enter Tryz.func38, Tryz.ntmps38
  go_wp2_with fail
  refine (rmay_any _ _ _ _ _ _ hv hv').mono ?_
  rintro e w1 ⟨rfl, hn1⟩
  obtain ⟨c0, c1, c2, c3, c4, hz⟩ := five_in hn1
  have HN := Lib.hid (((Nx.refl w).alloc _).trans hn1)
  clear hn1
  go_wp2
  go_region_with (go_at_call 62; refine (names_at 30 [115, 108, 108] rfl _).mono ?_; rintro e w2 ⟨g, rfl, hg, hn2⟩; have hn3 : Nx w1 w2 := Nx.trans ((Nx.refl _).drew) hn2; have d0 := hn3.cell c0)
  all_goals
    have d4 := hn3.cell c4
    have hz3 : w.heap.size < w2.heap.size := Nat.lt_of_lt_of_le hz hn3.size
    go_wp2_with (go_at_call 73; refine (goes_30 a b _ a1 a2 b1 b2).mono ?_; rintro e w' ⟨rfl, rfl⟩)
    go_ret
    exact ⟨ret_u32 (by have q := HV.out; first | exact q.symm | (rw [q]; omega) | (rw [q]; simp; done)), HN.out.trans hn3⟩

end Go.Proofs.YtndpgakjpokllaaGreat

