/- Parts of the proof, one behind the other. -/
import Derived.Test.YtndpgakjpokllaaGreatZsaq
/- Contracts of package typecaseref06: Next, operation by operation. -/
namespace Go.Proofs.YtndpgakjpokllaaGreat
open Go.RowKit
set_option linter.unusedVariables false
set_option linter.unusedSimpArgs false

set_option maxHeartbeats 1000000 in
theorem rnext_1 (rd rs1 rs2 imm a b pc size : Int) (w : World) (hv : -2147483648 ≤ imm) (hv' : imm ≤ 2147483647) (a1 : 0 ≤ a) (a2 : a < 4294967296) (b1 : 0 ≤ b) (b2 : b < 4294967296) (p1 : 0 ≤ pc) (p2 : pc < 4294967296) (h : mayB 1 rd rs1 rs2 imm = true) :
    Calls Tryz.prog 38 #[.agg #[.int .i64 1, .int .i64 rd, .int .i64 rs1, .int .i64 rs2, .int .i32 imm], .int .u32 a, .int .u32 b, .int .u32 pc, .int .i64 size] w fun e w' => e = .returned (.int .u32 (nextV 1 a b pc imm size)) ∧ Nx w w' := by
  have HV : Hid (nextV 1 a b pc imm size = (pc + size % 4294967296) % 4294967296) := rfl
  go_enter Tryz.func38, Tryz.ntmps38
  go_wp2_with fail
  refine (rmay_any _ _ _ _ _ _ hv hv').mono ?_
  rintro e w1 ⟨rfl, hn1⟩
  obtain ⟨c0, c1, c2, c3, c4, hz⟩ := five_in hn1
  have HN := Lib.hid (((Nx.refl w).alloc _).trans hn1)
  clear hn1
  go_wp2
  go_region_with (go_at_call 62; refine (names_at 1 [108, 117, 105] rfl _).mono ?_; rintro e w2 ⟨g, rfl, hg, hn2⟩; have hn3 : Nx w1 w2 := Nx.trans ((Nx.refl _).drew) hn2; have d0 := hn3.cell c0)
  all_goals
    have d4 := hn3.cell c4
    have hz3 : w.heap.size < w2.heap.size := Nat.lt_of_lt_of_le hz hn3.size
    go_wp2_with (go_at_call 73; refine (goes_1 a b _ a1 a2 b1 b2).mono ?_; rintro e w' ⟨rfl, rfl⟩)
    go_ret
    exact ⟨ret_u32 (by have q := HV.out; first | exact q.symm | (rw [q]; omega) | (rw [q]; simp; done)), HN.out.trans hn3⟩

set_option maxHeartbeats 1000000 in
theorem rnext_2 (rd rs1 rs2 imm a b pc size : Int) (w : World) (hv : -2147483648 ≤ imm) (hv' : imm ≤ 2147483647) (a1 : 0 ≤ a) (a2 : a < 4294967296) (b1 : 0 ≤ b) (b2 : b < 4294967296) (p1 : 0 ≤ pc) (p2 : pc < 4294967296) (h : mayB 2 rd rs1 rs2 imm = true) :
    Calls Tryz.prog 38 #[.agg #[.int .i64 2, .int .i64 rd, .int .i64 rs1, .int .i64 rs2, .int .i32 imm], .int .u32 a, .int .u32 b, .int .u32 pc, .int .i64 size] w fun e w' => e = .returned (.int .u32 (nextV 2 a b pc imm size)) ∧ Nx w w' := by
  have HV : Hid (nextV 2 a b pc imm size = (pc + size % 4294967296) % 4294967296) := rfl
  go_enter Tryz.func38, Tryz.ntmps38
  go_wp2_with fail
  refine (rmay_any _ _ _ _ _ _ hv hv').mono ?_
  rintro e w1 ⟨rfl, hn1⟩
  obtain ⟨c0, c1, c2, c3, c4, hz⟩ := five_in hn1
  have HN := Lib.hid (((Nx.refl w).alloc _).trans hn1)
  clear hn1
  go_wp2
  go_region_with (go_at_call 62; refine (names_at 2 [97, 117, 105, 112, 99] rfl _).mono ?_; rintro e w2 ⟨g, rfl, hg, hn2⟩; have hn3 : Nx w1 w2 := Nx.trans ((Nx.refl _).drew) hn2; have d0 := hn3.cell c0)
  all_goals
    have d4 := hn3.cell c4
    have hz3 : w.heap.size < w2.heap.size := Nat.lt_of_lt_of_le hz hn3.size
    go_wp2_with (go_at_call 73; refine (goes_2 a b _ a1 a2 b1 b2).mono ?_; rintro e w' ⟨rfl, rfl⟩)
    go_ret
    exact ⟨ret_u32 (by have q := HV.out; first | exact q.symm | (rw [q]; omega) | (rw [q]; simp; done)), HN.out.trans hn3⟩

set_option maxHeartbeats 1000000 in
theorem rnext_3 (rd rs1 rs2 imm a b pc size : Int) (w : World) (hv : -2147483648 ≤ imm) (hv' : imm ≤ 2147483647) (a1 : 0 ≤ a) (a2 : a < 4294967296) (b1 : 0 ≤ b) (b2 : b < 4294967296) (p1 : 0 ≤ pc) (p2 : pc < 4294967296) (h : mayB 3 rd rs1 rs2 imm = true) :
    Calls Tryz.prog 38 #[.agg #[.int .i64 3, .int .i64 rd, .int .i64 rs1, .int .i64 rs2, .int .i32 imm], .int .u32 a, .int .u32 b, .int .u32 pc, .int .i64 size] w fun e w' => e = .returned (.int .u32 (nextV 3 a b pc imm size)) ∧ Nx w w' := by
  have HV : Hid (nextV 3 a b pc imm size = (pc + imm % 4294967296) % 4294967296) := rfl
  go_enter Tryz.func38, Tryz.ntmps38
  go_wp2_with fail
  refine (rmay_any _ _ _ _ _ _ hv hv').mono ?_
  rintro e w1 ⟨rfl, hn1⟩
  obtain ⟨c0, c1, c2, c3, c4, hz⟩ := five_in hn1
  have HN := Lib.hid (((Nx.refl w).alloc _).trans hn1)
  clear hn1
  go_wp2
  go_region_with (go_at_call 62; refine (names_at 3 [106, 97, 108] rfl _).mono ?_; rintro e w2 ⟨g, rfl, hg, hn2⟩; have hn3 : Nx w1 w2 := Nx.trans ((Nx.refl _).drew) hn2; have d0 := hn3.cell c0)
  all_goals
    have d4 := hn3.cell c4
    have hz3 : w.heap.size < w2.heap.size := Nat.lt_of_lt_of_le hz hn3.size
    go_wp2_with (go_at_call 73; refine (goes_3 a b _ a1 a2 b1 b2).mono ?_; rintro e w' ⟨rfl, rfl⟩)
    go_ret
    exact ⟨ret_u32 (by have q := HV.out; first | exact q.symm | (rw [q]; omega) | (rw [q]; simp; done)), HN.out.trans hn3⟩

set_option maxHeartbeats 1000000 in
theorem rnext_4 (rd rs1 rs2 imm a b pc size : Int) (w : World) (hv : -2147483648 ≤ imm) (hv' : imm ≤ 2147483647) (a1 : 0 ≤ a) (a2 : a < 4294967296) (b1 : 0 ≤ b) (b2 : b < 4294967296) (p1 : 0 ≤ pc) (p2 : pc < 4294967296) (h : mayB 4 rd rs1 rs2 imm = true) :
    Calls Tryz.prog 38 #[.agg #[.int .i64 4, .int .i64 rd, .int .i64 rs1, .int .i64 rs2, .int .i32 imm], .int .u32 a, .int .u32 b, .int .u32 pc, .int .i64 size] w fun e w' => e = .returned (.int .u32 (nextV 4 a b pc imm size)) ∧ Nx w w' := by
  have HV : Hid (nextV 4 a b pc imm size = (a + imm % 4294967296) % 4294967296 - (a + imm % 4294967296) % 4294967296 % 2) := jalr_even a imm
  go_enter Tryz.func38, Tryz.ntmps38
  go_wp2_with fail
  refine (rmay_any _ _ _ _ _ _ hv hv').mono ?_
  rintro e w1 ⟨rfl, hn1⟩
  obtain ⟨c0, c1, c2, c3, c4, hz⟩ := five_in hn1
  have HN := Lib.hid (((Nx.refl w).alloc _).trans hn1)
  clear hn1
  go_wp2
  go_region_with (go_at_call 62; refine (names_at 4 [106, 97, 108, 114] rfl _).mono ?_; rintro e w2 ⟨g, rfl, hg, hn2⟩; have hn3 : Nx w1 w2 := Nx.trans ((Nx.refl _).drew) hn2; have d0 := hn3.cell c0)
  all_goals
    have d4 := hn3.cell c4
    have hz3 : w.heap.size < w2.heap.size := Nat.lt_of_lt_of_le hz hn3.size
    go_wp2_with (go_at_call 73; refine (goes_4 a b _ a1 a2 b1 b2).mono ?_; rintro e w' ⟨rfl, rfl⟩)
    go_ret
    exact ⟨ret_u32 (by have q := HV.out; first | exact q.symm | (rw [q]; omega) | (rw [q]; simp; done)), HN.out.trans hn3⟩

set_option maxHeartbeats 1000000 in
theorem rnext_5 (rd rs1 rs2 imm a b pc size : Int) (w : World) (hv : -2147483648 ≤ imm) (hv' : imm ≤ 2147483647) (a1 : 0 ≤ a) (a2 : a < 4294967296) (b1 : 0 ≤ b) (b2 : b < 4294967296) (p1 : 0 ≤ pc) (p2 : pc < 4294967296) (h : mayB 5 rd rs1 rs2 imm = true) :
    Calls Tryz.prog 38 #[.agg #[.int .i64 5, .int .i64 rd, .int .i64 rs1, .int .i64 rs2, .int .i32 imm], .int .u32 a, .int .u32 b, .int .u32 pc, .int .i64 size] w fun e w' => e = .returned (.int .u32 (nextV 5 a b pc imm size)) ∧ Nx w w' := by
  have HW : Hid (nextV 5 a b pc imm size = if (a == b) = true then (pc + imm % 4294967296) % 4294967296 else (pc + size % 4294967296) % 4294967296) := rfl
  cases hg0 : (a == b)
  all_goals
    have HV := HW.out
    rw [hg0] at HV
    simp only [reduceCtorEq, if_true, if_false] at HV
    replace HV := Lib.hid HV
    clear HW
    go_enter Tryz.func38, Tryz.ntmps38
    go_wp2_with fail
    refine (rmay_any _ _ _ _ _ _ hv hv').mono ?_
    rintro e w1 ⟨rfl, hn1⟩
    obtain ⟨c0, c1, c2, c3, c4, hz⟩ := five_in hn1
    have HN := Lib.hid (((Nx.refl w).alloc _).trans hn1)
    clear hn1
    go_wp2
    go_region_with (go_at_call 62; refine (names_at 5 [98, 101, 113] rfl _).mono ?_; rintro e w2 ⟨g, rfl, hg, hn2⟩; have hn3 : Nx w1 w2 := Nx.trans ((Nx.refl _).drew) hn2; have d0 := hn3.cell c0)
    all_goals
      have d4 := hn3.cell c4
      have hz3 : w.heap.size < w2.heap.size := Nat.lt_of_lt_of_le hz hn3.size
      go_wp2_with (go_at_call 73; refine (goes_5 a b _ a1 a2 b1 b2).mono ?_; rintro e w' ⟨rfl, rfl⟩)
      go_ret
      exact ⟨ret_u32 (by have q := HV.out; first | exact q.symm | (rw [q]; omega) | (rw [q]; simp; done)), HN.out.trans hn3⟩

set_option maxHeartbeats 1000000 in
theorem rnext_6 (rd rs1 rs2 imm a b pc size : Int) (w : World) (hv : -2147483648 ≤ imm) (hv' : imm ≤ 2147483647) (a1 : 0 ≤ a) (a2 : a < 4294967296) (b1 : 0 ≤ b) (b2 : b < 4294967296) (p1 : 0 ≤ pc) (p2 : pc < 4294967296) (h : mayB 6 rd rs1 rs2 imm = true) :
    Calls Tryz.prog 38 #[.agg #[.int .i64 6, .int .i64 rd, .int .i64 rs1, .int .i64 rs2, .int .i32 imm], .int .u32 a, .int .u32 b, .int .u32 pc, .int .i64 size] w fun e w' => e = .returned (.int .u32 (nextV 6 a b pc imm size)) ∧ Nx w w' := by
  have HW : Hid (nextV 6 a b pc imm size = if (a != b) = true then (pc + imm % 4294967296) % 4294967296 else (pc + size % 4294967296) % 4294967296) := rfl
  cases hg0 : (a != b)
  all_goals
    have HV := HW.out
    rw [hg0] at HV
    simp only [reduceCtorEq, if_true, if_false] at HV
    replace HV := Lib.hid HV
    clear HW
    go_enter Tryz.func38, Tryz.ntmps38
    go_wp2_with fail
    refine (rmay_any _ _ _ _ _ _ hv hv').mono ?_
    rintro e w1 ⟨rfl, hn1⟩
    obtain ⟨c0, c1, c2, c3, c4, hz⟩ := five_in hn1
    have HN := Lib.hid (((Nx.refl w).alloc _).trans hn1)
    clear hn1
    go_wp2
    go_region_with (go_at_call 62; refine (names_at 6 [98, 110, 101] rfl _).mono ?_; rintro e w2 ⟨g, rfl, hg, hn2⟩; have hn3 : Nx w1 w2 := Nx.trans ((Nx.refl _).drew) hn2; have d0 := hn3.cell c0)
    all_goals
      have d4 := hn3.cell c4
      have hz3 : w.heap.size < w2.heap.size := Nat.lt_of_lt_of_le hz hn3.size
      go_wp2_with (go_at_call 73; refine (goes_6 a b _ a1 a2 b1 b2).mono ?_; rintro e w' ⟨rfl, rfl⟩)
      go_ret
      exact ⟨ret_u32 (by have q := HV.out; first | exact q.symm | (rw [q]; omega) | (rw [q]; simp; done)), HN.out.trans hn3⟩

set_option maxHeartbeats 1000000 in
theorem rnext_7 (rd rs1 rs2 imm a b pc size : Int) (w : World) (hv : -2147483648 ≤ imm) (hv' : imm ≤ 2147483647) (a1 : 0 ≤ a) (a2 : a < 4294967296) (b1 : 0 ≤ b) (b2 : b < 4294967296) (p1 : 0 ≤ pc) (p2 : pc < 4294967296) (h : mayB 7 rd rs1 rs2 imm = true) :
    Calls Tryz.prog 38 #[.agg #[.int .i64 7, .int .i64 rd, .int .i64 rs1, .int .i64 rs2, .int .i32 imm], .int .u32 a, .int .u32 b, .int .u32 pc, .int .i64 size] w fun e w' => e = .returned (.int .u32 (nextV 7 a b pc imm size)) ∧ Nx w w' := by
  have HW : Hid (nextV 7 a b pc imm size = if (decide (wrap32 a < wrap32 b)) = true then (pc + imm % 4294967296) % 4294967296 else (pc + size % 4294967296) % 4294967296) := rfl
  cases hg0 : (decide (wrap32 a < wrap32 b))
  all_goals
    have HV := HW.out
    rw [hg0] at HV
    simp only [reduceCtorEq, if_true, if_false] at HV
    replace HV := Lib.hid HV
    clear HW
    go_enter Tryz.func38, Tryz.ntmps38
    go_wp2_with fail
    refine (rmay_any _ _ _ _ _ _ hv hv').mono ?_
    rintro e w1 ⟨rfl, hn1⟩
    obtain ⟨c0, c1, c2, c3, c4, hz⟩ := five_in hn1
    have HN := Lib.hid (((Nx.refl w).alloc _).trans hn1)
    clear hn1
    go_wp2
    go_region_with (go_at_call 62; refine (names_at 7 [98, 108, 116] rfl _).mono ?_; rintro e w2 ⟨g, rfl, hg, hn2⟩; have hn3 : Nx w1 w2 := Nx.trans ((Nx.refl _).drew) hn2; have d0 := hn3.cell c0)
    all_goals
      have d4 := hn3.cell c4
      have hz3 : w.heap.size < w2.heap.size := Nat.lt_of_lt_of_le hz hn3.size
      go_wp2_with (go_at_call 73; refine (goes_7 a b _ a1 a2 b1 b2).mono ?_; rintro e w' ⟨rfl, rfl⟩)
      go_ret
      exact ⟨ret_u32 (by have q := HV.out; first | exact q.symm | (rw [q]; omega) | (rw [q]; simp; done)), HN.out.trans hn3⟩

set_option maxHeartbeats 1000000 in
theorem rnext_8 (rd rs1 rs2 imm a b pc size : Int) (w : World) (hv : -2147483648 ≤ imm) (hv' : imm ≤ 2147483647) (a1 : 0 ≤ a) (a2 : a < 4294967296) (b1 : 0 ≤ b) (b2 : b < 4294967296) (p1 : 0 ≤ pc) (p2 : pc < 4294967296) (h : mayB 8 rd rs1 rs2 imm = true) :
    Calls Tryz.prog 38 #[.agg #[.int .i64 8, .int .i64 rd, .int .i64 rs1, .int .i64 rs2, .int .i32 imm], .int .u32 a, .int .u32 b, .int .u32 pc, .int .i64 size] w fun e w' => e = .returned (.int .u32 (nextV 8 a b pc imm size)) ∧ Nx w w' := by
  have HW : Hid (nextV 8 a b pc imm size = if (decide (wrap32 b ≤ wrap32 a)) = true then (pc + imm % 4294967296) % 4294967296 else (pc + size % 4294967296) % 4294967296) := rfl
  cases hg0 : (decide (wrap32 b ≤ wrap32 a))
  all_goals
    have HV := HW.out
    rw [hg0] at HV
    simp only [reduceCtorEq, if_true, if_false] at HV
    replace HV := Lib.hid HV
    clear HW
    go_enter Tryz.func38, Tryz.ntmps38
    go_wp2_with fail
    refine (rmay_any _ _ _ _ _ _ hv hv').mono ?_
    rintro e w1 ⟨rfl, hn1⟩
    obtain ⟨c0, c1, c2, c3, c4, hz⟩ := five_in hn1
    have HN := Lib.hid (((Nx.refl w).alloc _).trans hn1)
    clear hn1
    go_wp2
    go_region_with (go_at_call 62; refine (names_at 8 [98, 103, 101] rfl _).mono ?_; rintro e w2 ⟨g, rfl, hg, hn2⟩; have hn3 : Nx w1 w2 := Nx.trans ((Nx.refl _).drew) hn2; have d0 := hn3.cell c0)
    all_goals
      have d4 := hn3.cell c4
      have hz3 : w.heap.size < w2.heap.size := Nat.lt_of_lt_of_le hz hn3.size
      go_wp2_with (go_at_call 73; refine (goes_8 a b _ a1 a2 b1 b2).mono ?_; rintro e w' ⟨rfl, rfl⟩)
      go_ret
      exact ⟨ret_u32 (by have q := HV.out; first | exact q.symm | (rw [q]; omega) | (rw [q]; simp; done)), HN.out.trans hn3⟩

set_option maxHeartbeats 1000000 in
theorem rnext_9 (rd rs1 rs2 imm a b pc size : Int) (w : World) (hv : -2147483648 ≤ imm) (hv' : imm ≤ 2147483647) (a1 : 0 ≤ a) (a2 : a < 4294967296) (b1 : 0 ≤ b) (b2 : b < 4294967296) (p1 : 0 ≤ pc) (p2 : pc < 4294967296) (h : mayB 9 rd rs1 rs2 imm = true) :
    Calls Tryz.prog 38 #[.agg #[.int .i64 9, .int .i64 rd, .int .i64 rs1, .int .i64 rs2, .int .i32 imm], .int .u32 a, .int .u32 b, .int .u32 pc, .int .i64 size] w fun e w' => e = .returned (.int .u32 (nextV 9 a b pc imm size)) ∧ Nx w w' := by
  have HW : Hid (nextV 9 a b pc imm size = if (decide (a < b)) = true then (pc + imm % 4294967296) % 4294967296 else (pc + size % 4294967296) % 4294967296) := rfl
  cases hg0 : (decide (a < b))
  all_goals
    have HV := HW.out
    rw [hg0] at HV
    simp only [reduceCtorEq, if_true, if_false] at HV
    replace HV := Lib.hid HV
    clear HW
    go_enter Tryz.func38, Tryz.ntmps38
    go_wp2_with fail
    refine (rmay_any _ _ _ _ _ _ hv hv').mono ?_
    rintro e w1 ⟨rfl, hn1⟩
    obtain ⟨c0, c1, c2, c3, c4, hz⟩ := five_in hn1
    have HN := Lib.hid (((Nx.refl w).alloc _).trans hn1)
    clear hn1
    go_wp2
    go_region_with (go_at_call 62; refine (names_at 9 [98, 108, 116, 117] rfl _).mono ?_; rintro e w2 ⟨g, rfl, hg, hn2⟩; have hn3 : Nx w1 w2 := Nx.trans ((Nx.refl _).drew) hn2; have d0 := hn3.cell c0)
    all_goals
      have d4 := hn3.cell c4
      have hz3 : w.heap.size < w2.heap.size := Nat.lt_of_lt_of_le hz hn3.size
      go_wp2_with (go_at_call 73; refine (goes_9 a b _ a1 a2 b1 b2).mono ?_; rintro e w' ⟨rfl, rfl⟩)
      go_ret
      exact ⟨ret_u32 (by have q := HV.out; first | exact q.symm | (rw [q]; omega) | (rw [q]; simp; done)), HN.out.trans hn3⟩

set_option maxHeartbeats 1000000 in
theorem rnext_10 (rd rs1 rs2 imm a b pc size : Int) (w : World) (hv : -2147483648 ≤ imm) (hv' : imm ≤ 2147483647) (a1 : 0 ≤ a) (a2 : a < 4294967296) (b1 : 0 ≤ b) (b2 : b < 4294967296) (p1 : 0 ≤ pc) (p2 : pc < 4294967296) (h : mayB 10 rd rs1 rs2 imm = true) :
    Calls Tryz.prog 38 #[.agg #[.int .i64 10, .int .i64 rd, .int .i64 rs1, .int .i64 rs2, .int .i32 imm], .int .u32 a, .int .u32 b, .int .u32 pc, .int .i64 size] w fun e w' => e = .returned (.int .u32 (nextV 10 a b pc imm size)) ∧ Nx w w' := by
  have HW : Hid (nextV 10 a b pc imm size = if (decide (b ≤ a)) = true then (pc + imm % 4294967296) % 4294967296 else (pc + size % 4294967296) % 4294967296) := rfl
  cases hg0 : (decide (b ≤ a))
  all_goals
    have HV := HW.out
    rw [hg0] at HV
    simp only [reduceCtorEq, if_true, if_false] at HV
    replace HV := Lib.hid HV
    clear HW
    go_enter Tryz.func38, Tryz.ntmps38
    go_wp2_with fail
    refine (rmay_any _ _ _ _ _ _ hv hv').mono ?_
    rintro e w1 ⟨rfl, hn1⟩
    obtain ⟨c0, c1, c2, c3, c4, hz⟩ := five_in hn1
    have HN := Lib.hid (((Nx.refl w).alloc _).trans hn1)
    clear hn1
    go_wp2
    go_region_with (go_at_call 62; refine (names_at 10 [98, 103, 101, 117] rfl _).mono ?_; rintro e w2 ⟨g, rfl, hg, hn2⟩; have hn3 : Nx w1 w2 := Nx.trans ((Nx.refl _).drew) hn2; have d0 := hn3.cell c0)
    all_goals
      have d4 := hn3.cell c4
      have hz3 : w.heap.size < w2.heap.size := Nat.lt_of_lt_of_le hz hn3.size
      go_wp2_with (go_at_call 73; refine (goes_10 a b _ a1 a2 b1 b2).mono ?_; rintro e w' ⟨rfl, rfl⟩)
      go_ret
      exact ⟨ret_u32 (by have q := HV.out; first | exact q.symm | (rw [q]; omega) | (rw [q]; simp; done)), HN.out.trans hn3⟩

set_option maxHeartbeats 1000000 in
theorem rnext_11 (rd rs1 rs2 imm a b pc size : Int) (w : World) (hv : -2147483648 ≤ imm) (hv' : imm ≤ 2147483647) (a1 : 0 ≤ a) (a2 : a < 4294967296) (b1 : 0 ≤ b) (b2 : b < 4294967296) (p1 : 0 ≤ pc) (p2 : pc < 4294967296) (h : mayB 11 rd rs1 rs2 imm = true) :
    Calls Tryz.prog 38 #[.agg #[.int .i64 11, .int .i64 rd, .int .i64 rs1, .int .i64 rs2, .int .i32 imm], .int .u32 a, .int .u32 b, .int .u32 pc, .int .i64 size] w fun e w' => e = .returned (.int .u32 (nextV 11 a b pc imm size)) ∧ Nx w w' := by
  have HV : Hid (nextV 11 a b pc imm size = (pc + size % 4294967296) % 4294967296) := rfl
  go_enter Tryz.func38, Tryz.ntmps38
  go_wp2_with fail
  refine (rmay_any _ _ _ _ _ _ hv hv').mono ?_
  rintro e w1 ⟨rfl, hn1⟩
  obtain ⟨c0, c1, c2, c3, c4, hz⟩ := five_in hn1
  have HN := Lib.hid (((Nx.refl w).alloc _).trans hn1)
  clear hn1
  go_wp2
  go_region_with (go_at_call 62; refine (names_at 11 [108, 98] rfl _).mono ?_; rintro e w2 ⟨g, rfl, hg, hn2⟩; have hn3 : Nx w1 w2 := Nx.trans ((Nx.refl _).drew) hn2; have d0 := hn3.cell c0)
  all_goals
    have d4 := hn3.cell c4
    have hz3 : w.heap.size < w2.heap.size := Nat.lt_of_lt_of_le hz hn3.size
    go_wp2_with (go_at_call 73; refine (goes_11 a b _ a1 a2 b1 b2).mono ?_; rintro e w' ⟨rfl, rfl⟩)
    go_ret
    exact ⟨ret_u32 (by have q := HV.out; first | exact q.symm | (rw [q]; omega) | (rw [q]; simp; done)), HN.out.trans hn3⟩

set_option maxHeartbeats 1000000 in
theorem rnext_12 (rd rs1 rs2 imm a b pc size : Int) (w : World) (hv : -2147483648 ≤ imm) (hv' : imm ≤ 2147483647) (a1 : 0 ≤ a) (a2 : a < 4294967296) (b1 : 0 ≤ b) (b2 : b < 4294967296) (p1 : 0 ≤ pc) (p2 : pc < 4294967296) (h : mayB 12 rd rs1 rs2 imm = true) :
    Calls Tryz.prog 38 #[.agg #[.int .i64 12, .int .i64 rd, .int .i64 rs1, .int .i64 rs2, .int .i32 imm], .int .u32 a, .int .u32 b, .int .u32 pc, .int .i64 size] w fun e w' => e = .returned (.int .u32 (nextV 12 a b pc imm size)) ∧ Nx w w' := by
  have HV : Hid (nextV 12 a b pc imm size = (pc + size % 4294967296) % 4294967296) := rfl
  go_enter Tryz.func38, Tryz.ntmps38
  go_wp2_with fail
  refine (rmay_any _ _ _ _ _ _ hv hv').mono ?_
  rintro e w1 ⟨rfl, hn1⟩
  obtain ⟨c0, c1, c2, c3, c4, hz⟩ := five_in hn1
  have HN := Lib.hid (((Nx.refl w).alloc _).trans hn1)
  clear hn1
  go_wp2
  go_region_with (go_at_call 62; refine (names_at 12 [108, 104] rfl _).mono ?_; rintro e w2 ⟨g, rfl, hg, hn2⟩; have hn3 : Nx w1 w2 := Nx.trans ((Nx.refl _).drew) hn2; have d0 := hn3.cell c0)
  all_goals
    have d4 := hn3.cell c4
    have hz3 : w.heap.size < w2.heap.size := Nat.lt_of_lt_of_le hz hn3.size
    go_wp2_with (go_at_call 73; refine (goes_12 a b _ a1 a2 b1 b2).mono ?_; rintro e w' ⟨rfl, rfl⟩)
    go_ret
    exact ⟨ret_u32 (by have q := HV.out; first | exact q.symm | (rw [q]; omega) | (rw [q]; simp; done)), HN.out.trans hn3⟩

end Go.Proofs.YtndpgakjpokllaaGreat

