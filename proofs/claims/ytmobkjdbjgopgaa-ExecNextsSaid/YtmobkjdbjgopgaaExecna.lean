/- Contracts of package exec: Next. -/
import Derived.Test.YtmobkjdbjgopgaaExecn
namespace Go.Proofs.Ytmobkjdbjgopgaa
open Go.RowKit
set_option linter.unusedVariables false
set_option linter.unusedSimpArgs false

set_option maxHeartbeats 1000000 in
theorem next_1 (rd rs1 rs2 imm a b pc size : Int) (w : World) (hv : -2147483648 ≤ imm) (hv' : imm ≤ 2147483647) (a1 : 0 ≤ a) (a2 : a < 4294967296) (b1 : 0 ≤ b) (b2 : b < 4294967296) (p1 : 0 ≤ pc) (p2 : pc < 4294967296) (h : mayB 1 rd rs1 rs2 imm = true) :
    Calls Try.prog 11 #[.agg #[.int .i64 1, .int .i64 rd, .int .i64 rs1, .int .i64 rs2, .int .i32 imm], .int .u32 a, .int .u32 b, .int .u32 pc, .int .i64 size] w fun e w' => e = .returned (.int .u32 (nextV 1 a b pc imm size)) ∧ Nx w w' := by
  have HV : Hid (nextV 1 a b pc imm size = (pc + size % 4294967296) % 4294967296) := rfl
  go_enter Try.func11, Try.ntmps11
  go_wp2_with fail
  refine (may_any _ _ _ _ _ _ hv hv').mono ?_
  rintro e w1 ⟨rfl, hn1⟩
  obtain ⟨c0, c1, c2, c3, c4, hz⟩ := five_in hn1
  have HN := Lib.hid (((Nx.refl w).alloc _).trans hn1)
  clear hn1
  go_wp2
  go_ret
  exact ⟨ret_u32 (by have q := HV.out; first | exact q.symm | (rw [q]; omega) | (rw [q]; simp; done)), HN.out⟩

set_option maxHeartbeats 1000000 in
theorem next_2 (rd rs1 rs2 imm a b pc size : Int) (w : World) (hv : -2147483648 ≤ imm) (hv' : imm ≤ 2147483647) (a1 : 0 ≤ a) (a2 : a < 4294967296) (b1 : 0 ≤ b) (b2 : b < 4294967296) (p1 : 0 ≤ pc) (p2 : pc < 4294967296) (h : mayB 2 rd rs1 rs2 imm = true) :
    Calls Try.prog 11 #[.agg #[.int .i64 2, .int .i64 rd, .int .i64 rs1, .int .i64 rs2, .int .i32 imm], .int .u32 a, .int .u32 b, .int .u32 pc, .int .i64 size] w fun e w' => e = .returned (.int .u32 (nextV 2 a b pc imm size)) ∧ Nx w w' := by
  have HV : Hid (nextV 2 a b pc imm size = (pc + size % 4294967296) % 4294967296) := rfl
  go_enter Try.func11, Try.ntmps11
  go_wp2_with fail
  refine (may_any _ _ _ _ _ _ hv hv').mono ?_
  rintro e w1 ⟨rfl, hn1⟩
  obtain ⟨c0, c1, c2, c3, c4, hz⟩ := five_in hn1
  have HN := Lib.hid (((Nx.refl w).alloc _).trans hn1)
  clear hn1
  go_wp2
  go_ret
  exact ⟨ret_u32 (by have q := HV.out; first | exact q.symm | (rw [q]; omega) | (rw [q]; simp; done)), HN.out⟩

set_option maxHeartbeats 1000000 in
theorem next_3 (rd rs1 rs2 imm a b pc size : Int) (w : World) (hv : -2147483648 ≤ imm) (hv' : imm ≤ 2147483647) (a1 : 0 ≤ a) (a2 : a < 4294967296) (b1 : 0 ≤ b) (b2 : b < 4294967296) (p1 : 0 ≤ pc) (p2 : pc < 4294967296) (h : mayB 3 rd rs1 rs2 imm = true) :
    Calls Try.prog 11 #[.agg #[.int .i64 3, .int .i64 rd, .int .i64 rs1, .int .i64 rs2, .int .i32 imm], .int .u32 a, .int .u32 b, .int .u32 pc, .int .i64 size] w fun e w' => e = .returned (.int .u32 (nextV 3 a b pc imm size)) ∧ Nx w w' := by
  have HV : Hid (nextV 3 a b pc imm size = (pc + imm % 4294967296) % 4294967296) := rfl
  go_enter Try.func11, Try.ntmps11
  go_wp2_with fail
  refine (may_any _ _ _ _ _ _ hv hv').mono ?_
  rintro e w1 ⟨rfl, hn1⟩
  obtain ⟨c0, c1, c2, c3, c4, hz⟩ := five_in hn1
  have HN := Lib.hid (((Nx.refl w).alloc _).trans hn1)
  clear hn1
  go_wp2
  go_ret
  exact ⟨ret_u32 (by have q := HV.out; first | exact q.symm | (rw [q]; omega) | (rw [q]; simp; done)), HN.out⟩

set_option maxHeartbeats 1000000 in
theorem next_4 (rd rs1 rs2 imm a b pc size : Int) (w : World) (hv : -2147483648 ≤ imm) (hv' : imm ≤ 2147483647) (a1 : 0 ≤ a) (a2 : a < 4294967296) (b1 : 0 ≤ b) (b2 : b < 4294967296) (p1 : 0 ≤ pc) (p2 : pc < 4294967296) (h : mayB 4 rd rs1 rs2 imm = true) :
    Calls Try.prog 11 #[.agg #[.int .i64 4, .int .i64 rd, .int .i64 rs1, .int .i64 rs2, .int .i32 imm], .int .u32 a, .int .u32 b, .int .u32 pc, .int .i64 size] w fun e w' => e = .returned (.int .u32 (nextV 4 a b pc imm size)) ∧ Nx w w' := by
  have HV : Hid (nextV 4 a b pc imm size = bits .andNot .u32 ((a + imm % 4294967296) % 4294967296) 1) := rfl
  go_enter Try.func11, Try.ntmps11
  go_wp2_with fail
  refine (may_any _ _ _ _ _ _ hv hv').mono ?_
  rintro e w1 ⟨rfl, hn1⟩
  obtain ⟨c0, c1, c2, c3, c4, hz⟩ := five_in hn1
  have HN := Lib.hid (((Nx.refl w).alloc _).trans hn1)
  clear hn1
  go_wp2
  go_ret
  exact ⟨ret_u32 (by have q := HV.out; first | exact q.symm | (rw [q]; omega) | (rw [q]; simp; done)), HN.out⟩

set_option maxHeartbeats 1000000 in
theorem next_5 (rd rs1 rs2 imm a b pc size : Int) (w : World) (hv : -2147483648 ≤ imm) (hv' : imm ≤ 2147483647) (a1 : 0 ≤ a) (a2 : a < 4294967296) (b1 : 0 ≤ b) (b2 : b < 4294967296) (p1 : 0 ≤ pc) (p2 : pc < 4294967296) (h : mayB 5 rd rs1 rs2 imm = true) :
    Calls Try.prog 11 #[.agg #[.int .i64 5, .int .i64 rd, .int .i64 rs1, .int .i64 rs2, .int .i32 imm], .int .u32 a, .int .u32 b, .int .u32 pc, .int .i64 size] w fun e w' => e = .returned (.int .u32 (nextV 5 a b pc imm size)) ∧ Nx w w' := by
  have HW : Hid (nextV 5 a b pc imm size = if (a == b) = true then (pc + imm % 4294967296) % 4294967296 else (pc + size % 4294967296) % 4294967296) := rfl
  cases hg : (a == b)
  all_goals
    have HV := HW.out
    rw [hg] at HV
    simp only [reduceCtorEq, if_true, if_false] at HV
    replace HV := Lib.hid HV
    clear HW
    go_enter Try.func11, Try.ntmps11
    go_wp2_with fail
    refine (may_any _ _ _ _ _ _ hv hv').mono ?_
    rintro e w1 ⟨rfl, hn1⟩
    obtain ⟨c0, c1, c2, c3, c4, hz⟩ := five_in hn1
    have HN := Lib.hid (((Nx.refl w).alloc _).trans hn1)
    clear hn1
    go_wp2
    go_ret
    exact ⟨ret_u32 (by have q := HV.out; first | exact q.symm | (rw [q]; omega) | (rw [q]; simp; done)), HN.out⟩

set_option maxHeartbeats 1000000 in
theorem next_6 (rd rs1 rs2 imm a b pc size : Int) (w : World) (hv : -2147483648 ≤ imm) (hv' : imm ≤ 2147483647) (a1 : 0 ≤ a) (a2 : a < 4294967296) (b1 : 0 ≤ b) (b2 : b < 4294967296) (p1 : 0 ≤ pc) (p2 : pc < 4294967296) (h : mayB 6 rd rs1 rs2 imm = true) :
    Calls Try.prog 11 #[.agg #[.int .i64 6, .int .i64 rd, .int .i64 rs1, .int .i64 rs2, .int .i32 imm], .int .u32 a, .int .u32 b, .int .u32 pc, .int .i64 size] w fun e w' => e = .returned (.int .u32 (nextV 6 a b pc imm size)) ∧ Nx w w' := by
  have HW : Hid (nextV 6 a b pc imm size = if (a != b) = true then (pc + imm % 4294967296) % 4294967296 else (pc + size % 4294967296) % 4294967296) := rfl
  cases hg : (a != b)
  all_goals
    have HV := HW.out
    rw [hg] at HV
    simp only [reduceCtorEq, if_true, if_false] at HV
    replace HV := Lib.hid HV
    clear HW
    go_enter Try.func11, Try.ntmps11
    go_wp2_with fail
    refine (may_any _ _ _ _ _ _ hv hv').mono ?_
    rintro e w1 ⟨rfl, hn1⟩
    obtain ⟨c0, c1, c2, c3, c4, hz⟩ := five_in hn1
    have HN := Lib.hid (((Nx.refl w).alloc _).trans hn1)
    clear hn1
    go_wp2
    go_ret
    exact ⟨ret_u32 (by have q := HV.out; first | exact q.symm | (rw [q]; omega) | (rw [q]; simp; done)), HN.out⟩

set_option maxHeartbeats 1000000 in
theorem next_7 (rd rs1 rs2 imm a b pc size : Int) (w : World) (hv : -2147483648 ≤ imm) (hv' : imm ≤ 2147483647) (a1 : 0 ≤ a) (a2 : a < 4294967296) (b1 : 0 ≤ b) (b2 : b < 4294967296) (p1 : 0 ≤ pc) (p2 : pc < 4294967296) (h : mayB 7 rd rs1 rs2 imm = true) :
    Calls Try.prog 11 #[.agg #[.int .i64 7, .int .i64 rd, .int .i64 rs1, .int .i64 rs2, .int .i32 imm], .int .u32 a, .int .u32 b, .int .u32 pc, .int .i64 size] w fun e w' => e = .returned (.int .u32 (nextV 7 a b pc imm size)) ∧ Nx w w' := by
  have HW : Hid (nextV 7 a b pc imm size = if decide (wrap32 a < wrap32 b) = true then (pc + imm % 4294967296) % 4294967296 else (pc + size % 4294967296) % 4294967296) := rfl
  cases hg : decide (wrap32 a < wrap32 b)
  all_goals
    have HV := HW.out
    rw [hg] at HV
    simp only [reduceCtorEq, if_true, if_false] at HV
    replace HV := Lib.hid HV
    clear HW
    go_enter Try.func11, Try.ntmps11
    go_wp2_with fail
    refine (may_any _ _ _ _ _ _ hv hv').mono ?_
    rintro e w1 ⟨rfl, hn1⟩
    obtain ⟨c0, c1, c2, c3, c4, hz⟩ := five_in hn1
    have HN := Lib.hid (((Nx.refl w).alloc _).trans hn1)
    clear hn1
    go_wp2
    go_ret
    exact ⟨ret_u32 (by have q := HV.out; first | exact q.symm | (rw [q]; omega) | (rw [q]; simp; done)), HN.out⟩

set_option maxHeartbeats 1000000 in
theorem next_8 (rd rs1 rs2 imm a b pc size : Int) (w : World) (hv : -2147483648 ≤ imm) (hv' : imm ≤ 2147483647) (a1 : 0 ≤ a) (a2 : a < 4294967296) (b1 : 0 ≤ b) (b2 : b < 4294967296) (p1 : 0 ≤ pc) (p2 : pc < 4294967296) (h : mayB 8 rd rs1 rs2 imm = true) :
    Calls Try.prog 11 #[.agg #[.int .i64 8, .int .i64 rd, .int .i64 rs1, .int .i64 rs2, .int .i32 imm], .int .u32 a, .int .u32 b, .int .u32 pc, .int .i64 size] w fun e w' => e = .returned (.int .u32 (nextV 8 a b pc imm size)) ∧ Nx w w' := by
  have HW : Hid (nextV 8 a b pc imm size = if decide (wrap32 b ≤ wrap32 a) = true then (pc + imm % 4294967296) % 4294967296 else (pc + size % 4294967296) % 4294967296) := rfl
  cases hg : decide (wrap32 b ≤ wrap32 a)
  all_goals
    have HV := HW.out
    rw [hg] at HV
    simp only [reduceCtorEq, if_true, if_false] at HV
    replace HV := Lib.hid HV
    clear HW
    go_enter Try.func11, Try.ntmps11
    go_wp2_with fail
    refine (may_any _ _ _ _ _ _ hv hv').mono ?_
    rintro e w1 ⟨rfl, hn1⟩
    obtain ⟨c0, c1, c2, c3, c4, hz⟩ := five_in hn1
    have HN := Lib.hid (((Nx.refl w).alloc _).trans hn1)
    clear hn1
    go_wp2
    go_ret
    exact ⟨ret_u32 (by have q := HV.out; first | exact q.symm | (rw [q]; omega) | (rw [q]; simp; done)), HN.out⟩

set_option maxHeartbeats 1000000 in
theorem next_9 (rd rs1 rs2 imm a b pc size : Int) (w : World) (hv : -2147483648 ≤ imm) (hv' : imm ≤ 2147483647) (a1 : 0 ≤ a) (a2 : a < 4294967296) (b1 : 0 ≤ b) (b2 : b < 4294967296) (p1 : 0 ≤ pc) (p2 : pc < 4294967296) (h : mayB 9 rd rs1 rs2 imm = true) :
    Calls Try.prog 11 #[.agg #[.int .i64 9, .int .i64 rd, .int .i64 rs1, .int .i64 rs2, .int .i32 imm], .int .u32 a, .int .u32 b, .int .u32 pc, .int .i64 size] w fun e w' => e = .returned (.int .u32 (nextV 9 a b pc imm size)) ∧ Nx w w' := by
  have HW : Hid (nextV 9 a b pc imm size = if decide (a < b) = true then (pc + imm % 4294967296) % 4294967296 else (pc + size % 4294967296) % 4294967296) := rfl
  cases hg : decide (a < b)
  all_goals
    have HV := HW.out
    rw [hg] at HV
    simp only [reduceCtorEq, if_true, if_false] at HV
    replace HV := Lib.hid HV
    clear HW
    go_enter Try.func11, Try.ntmps11
    go_wp2_with fail
    refine (may_any _ _ _ _ _ _ hv hv').mono ?_
    rintro e w1 ⟨rfl, hn1⟩
    obtain ⟨c0, c1, c2, c3, c4, hz⟩ := five_in hn1
    have HN := Lib.hid (((Nx.refl w).alloc _).trans hn1)
    clear hn1
    go_wp2
    go_ret
    exact ⟨ret_u32 (by have q := HV.out; first | exact q.symm | (rw [q]; omega) | (rw [q]; simp; done)), HN.out⟩

set_option maxHeartbeats 1000000 in
theorem next_10 (rd rs1 rs2 imm a b pc size : Int) (w : World) (hv : -2147483648 ≤ imm) (hv' : imm ≤ 2147483647) (a1 : 0 ≤ a) (a2 : a < 4294967296) (b1 : 0 ≤ b) (b2 : b < 4294967296) (p1 : 0 ≤ pc) (p2 : pc < 4294967296) (h : mayB 10 rd rs1 rs2 imm = true) :
    Calls Try.prog 11 #[.agg #[.int .i64 10, .int .i64 rd, .int .i64 rs1, .int .i64 rs2, .int .i32 imm], .int .u32 a, .int .u32 b, .int .u32 pc, .int .i64 size] w fun e w' => e = .returned (.int .u32 (nextV 10 a b pc imm size)) ∧ Nx w w' := by
  have HW : Hid (nextV 10 a b pc imm size = if decide (b ≤ a) = true then (pc + imm % 4294967296) % 4294967296 else (pc + size % 4294967296) % 4294967296) := rfl
  cases hg : decide (b ≤ a)
  all_goals
    have HV := HW.out
    rw [hg] at HV
    simp only [reduceCtorEq, if_true, if_false] at HV
    replace HV := Lib.hid HV
    clear HW
    go_enter Try.func11, Try.ntmps11
    go_wp2_with fail
    refine (may_any _ _ _ _ _ _ hv hv').mono ?_
    rintro e w1 ⟨rfl, hn1⟩
    obtain ⟨c0, c1, c2, c3, c4, hz⟩ := five_in hn1
    have HN := Lib.hid (((Nx.refl w).alloc _).trans hn1)
    clear hn1
    go_wp2
    go_ret
    exact ⟨ret_u32 (by have q := HV.out; first | exact q.symm | (rw [q]; omega) | (rw [q]; simp; done)), HN.out⟩

set_option maxHeartbeats 1000000 in
theorem next_11 (rd rs1 rs2 imm a b pc size : Int) (w : World) (hv : -2147483648 ≤ imm) (hv' : imm ≤ 2147483647) (a1 : 0 ≤ a) (a2 : a < 4294967296) (b1 : 0 ≤ b) (b2 : b < 4294967296) (p1 : 0 ≤ pc) (p2 : pc < 4294967296) (h : mayB 11 rd rs1 rs2 imm = true) :
    Calls Try.prog 11 #[.agg #[.int .i64 11, .int .i64 rd, .int .i64 rs1, .int .i64 rs2, .int .i32 imm], .int .u32 a, .int .u32 b, .int .u32 pc, .int .i64 size] w fun e w' => e = .returned (.int .u32 (nextV 11 a b pc imm size)) ∧ Nx w w' := by
  have HV : Hid (nextV 11 a b pc imm size = (pc + size % 4294967296) % 4294967296) := rfl
  go_enter Try.func11, Try.ntmps11
  go_wp2_with fail
  refine (may_any _ _ _ _ _ _ hv hv').mono ?_
  rintro e w1 ⟨rfl, hn1⟩
  obtain ⟨c0, c1, c2, c3, c4, hz⟩ := five_in hn1
  have HN := Lib.hid (((Nx.refl w).alloc _).trans hn1)
  clear hn1
  go_wp2
  go_ret
  exact ⟨ret_u32 (by have q := HV.out; first | exact q.symm | (rw [q]; omega) | (rw [q]; simp; done)), HN.out⟩

set_option maxHeartbeats 1000000 in
theorem next_12 (rd rs1 rs2 imm a b pc size : Int) (w : World) (hv : -2147483648 ≤ imm) (hv' : imm ≤ 2147483647) (a1 : 0 ≤ a) (a2 : a < 4294967296) (b1 : 0 ≤ b) (b2 : b < 4294967296) (p1 : 0 ≤ pc) (p2 : pc < 4294967296) (h : mayB 12 rd rs1 rs2 imm = true) :
    Calls Try.prog 11 #[.agg #[.int .i64 12, .int .i64 rd, .int .i64 rs1, .int .i64 rs2, .int .i32 imm], .int .u32 a, .int .u32 b, .int .u32 pc, .int .i64 size] w fun e w' => e = .returned (.int .u32 (nextV 12 a b pc imm size)) ∧ Nx w w' := by
  have HV : Hid (nextV 12 a b pc imm size = (pc + size % 4294967296) % 4294967296) := rfl
  go_enter Try.func11, Try.ntmps11
  go_wp2_with fail
  refine (may_any _ _ _ _ _ _ hv hv').mono ?_
  rintro e w1 ⟨rfl, hn1⟩
  obtain ⟨c0, c1, c2, c3, c4, hz⟩ := five_in hn1
  have HN := Lib.hid (((Nx.refl w).alloc _).trans hn1)
  clear hn1
  go_wp2
  go_ret
  exact ⟨ret_u32 (by have q := HV.out; first | exact q.symm | (rw [q]; omega) | (rw [q]; simp; done)), HN.out⟩

set_option maxHeartbeats 1000000 in
theorem next_13 (rd rs1 rs2 imm a b pc size : Int) (w : World) (hv : -2147483648 ≤ imm) (hv' : imm ≤ 2147483647) (a1 : 0 ≤ a) (a2 : a < 4294967296) (b1 : 0 ≤ b) (b2 : b < 4294967296) (p1 : 0 ≤ pc) (p2 : pc < 4294967296) (h : mayB 13 rd rs1 rs2 imm = true) :
    Calls Try.prog 11 #[.agg #[.int .i64 13, .int .i64 rd, .int .i64 rs1, .int .i64 rs2, .int .i32 imm], .int .u32 a, .int .u32 b, .int .u32 pc, .int .i64 size] w fun e w' => e = .returned (.int .u32 (nextV 13 a b pc imm size)) ∧ Nx w w' := by
  have HV : Hid (nextV 13 a b pc imm size = (pc + size % 4294967296) % 4294967296) := rfl
  go_enter Try.func11, Try.ntmps11
  go_wp2_with fail
  refine (may_any _ _ _ _ _ _ hv hv').mono ?_
  rintro e w1 ⟨rfl, hn1⟩
  obtain ⟨c0, c1, c2, c3, c4, hz⟩ := five_in hn1
  have HN := Lib.hid (((Nx.refl w).alloc _).trans hn1)
  clear hn1
  go_wp2
  go_ret
  exact ⟨ret_u32 (by have q := HV.out; first | exact q.symm | (rw [q]; omega) | (rw [q]; simp; done)), HN.out⟩

set_option maxHeartbeats 1000000 in
theorem next_14 (rd rs1 rs2 imm a b pc size : Int) (w : World) (hv : -2147483648 ≤ imm) (hv' : imm ≤ 2147483647) (a1 : 0 ≤ a) (a2 : a < 4294967296) (b1 : 0 ≤ b) (b2 : b < 4294967296) (p1 : 0 ≤ pc) (p2 : pc < 4294967296) (h : mayB 14 rd rs1 rs2 imm = true) :
    Calls Try.prog 11 #[.agg #[.int .i64 14, .int .i64 rd, .int .i64 rs1, .int .i64 rs2, .int .i32 imm], .int .u32 a, .int .u32 b, .int .u32 pc, .int .i64 size] w fun e w' => e = .returned (.int .u32 (nextV 14 a b pc imm size)) ∧ Nx w w' := by
  have HV : Hid (nextV 14 a b pc imm size = (pc + size % 4294967296) % 4294967296) := rfl
  go_enter Try.func11, Try.ntmps11
  go_wp2_with fail
  refine (may_any _ _ _ _ _ _ hv hv').mono ?_
  rintro e w1 ⟨rfl, hn1⟩
  obtain ⟨c0, c1, c2, c3, c4, hz⟩ := five_in hn1
  have HN := Lib.hid (((Nx.refl w).alloc _).trans hn1)
  clear hn1
  go_wp2
  go_ret
  exact ⟨ret_u32 (by have q := HV.out; first | exact q.symm | (rw [q]; omega) | (rw [q]; simp; done)), HN.out⟩

set_option maxHeartbeats 1000000 in
theorem next_15 (rd rs1 rs2 imm a b pc size : Int) (w : World) (hv : -2147483648 ≤ imm) (hv' : imm ≤ 2147483647) (a1 : 0 ≤ a) (a2 : a < 4294967296) (b1 : 0 ≤ b) (b2 : b < 4294967296) (p1 : 0 ≤ pc) (p2 : pc < 4294967296) (h : mayB 15 rd rs1 rs2 imm = true) :
    Calls Try.prog 11 #[.agg #[.int .i64 15, .int .i64 rd, .int .i64 rs1, .int .i64 rs2, .int .i32 imm], .int .u32 a, .int .u32 b, .int .u32 pc, .int .i64 size] w fun e w' => e = .returned (.int .u32 (nextV 15 a b pc imm size)) ∧ Nx w w' := by
  have HV : Hid (nextV 15 a b pc imm size = (pc + size % 4294967296) % 4294967296) := rfl
  go_enter Try.func11, Try.ntmps11
  go_wp2_with fail
  refine (may_any _ _ _ _ _ _ hv hv').mono ?_
  rintro e w1 ⟨rfl, hn1⟩
  obtain ⟨c0, c1, c2, c3, c4, hz⟩ := five_in hn1
  have HN := Lib.hid (((Nx.refl w).alloc _).trans hn1)
  clear hn1
  go_wp2
  go_ret
  exact ⟨ret_u32 (by have q := HV.out; first | exact q.symm | (rw [q]; omega) | (rw [q]; simp; done)), HN.out⟩

set_option maxHeartbeats 1000000 in
theorem next_16 (rd rs1 rs2 imm a b pc size : Int) (w : World) (hv : -2147483648 ≤ imm) (hv' : imm ≤ 2147483647) (a1 : 0 ≤ a) (a2 : a < 4294967296) (b1 : 0 ≤ b) (b2 : b < 4294967296) (p1 : 0 ≤ pc) (p2 : pc < 4294967296) (h : mayB 16 rd rs1 rs2 imm = true) :
    Calls Try.prog 11 #[.agg #[.int .i64 16, .int .i64 rd, .int .i64 rs1, .int .i64 rs2, .int .i32 imm], .int .u32 a, .int .u32 b, .int .u32 pc, .int .i64 size] w fun e w' => e = .returned (.int .u32 (nextV 16 a b pc imm size)) ∧ Nx w w' := by
  have HV : Hid (nextV 16 a b pc imm size = (pc + size % 4294967296) % 4294967296) := rfl
  go_enter Try.func11, Try.ntmps11
  go_wp2_with fail
  refine (may_any _ _ _ _ _ _ hv hv').mono ?_
  rintro e w1 ⟨rfl, hn1⟩
  obtain ⟨c0, c1, c2, c3, c4, hz⟩ := five_in hn1
  have HN := Lib.hid (((Nx.refl w).alloc _).trans hn1)
  clear hn1
  go_wp2
  go_ret
  exact ⟨ret_u32 (by have q := HV.out; first | exact q.symm | (rw [q]; omega) | (rw [q]; simp; done)), HN.out⟩

end Go.Proofs.Ytmobkjdbjgopgaa
