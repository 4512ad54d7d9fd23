/- Parts of the proof, one behind the other. -/
import Derived.Test.YtndpgakjpokllaaGreatZsab
import Derived.Test.YtndpgakjpokllaaGreatZsac
import Derived.Test.YtndpgakjpokllaaGreatZsae
import Derived.Test.YtndpgakjpokllaaGreatZsaf
/- Contracts of package exec: Next. -/
namespace Go.Proofs.YtndpgakjpokllaaGreat
open Go.RowKit
set_option linter.unusedVariables false
set_option linter.unusedSimpArgs false

set_option maxHeartbeats 1000000 in
theorem next_17 (rd rs1 rs2 imm a b pc size : Int) (w : World) (hv : -2147483648 ≤ imm) (hv' : imm ≤ 2147483647) (a1 : 0 ≤ a) (a2 : a < 4294967296) (b1 : 0 ≤ b) (b2 : b < 4294967296) (p1 : 0 ≤ pc) (p2 : pc < 4294967296) (h : mayB 17 rd rs1 rs2 imm = true) :
    Calls Tryz.prog 33 #[.agg #[.int .i64 17, .int .i64 rd, .int .i64 rs1, .int .i64 rs2, .int .i32 imm], .int .u32 a, .int .u32 b, .int .u32 pc, .int .i64 size] w fun e w' => e = .returned (.int .u32 (nextV 17 a b pc imm size)) ∧ Nx w w' := by
  have HV : Hid (nextV 17 a b pc imm size = (pc + size % 4294967296) % 4294967296) := rfl
  go_enter Tryz.func33, Tryz.ntmps33
  go_wp2_with fail
  refine (may_any _ _ _ _ _ _ hv hv').mono ?_
  rintro e w1 ⟨rfl, hn1⟩
  obtain ⟨c0, c1, c2, c3, c4, hz⟩ := five_in hn1
  have HN := Lib.hid (((Nx.refl w).alloc _).trans hn1)
  clear hn1
  go_wp2
  go_ret
  exact ⟨ret_u32 (by have q := HV.out; first | exact q.symm | (rw [q]; omega) | (rw [q]; simp; done)), HN.out⟩

set_option maxHeartbeats 1000000 in
theorem next_18 (rd rs1 rs2 imm a b pc size : Int) (w : World) (hv : -2147483648 ≤ imm) (hv' : imm ≤ 2147483647) (a1 : 0 ≤ a) (a2 : a < 4294967296) (b1 : 0 ≤ b) (b2 : b < 4294967296) (p1 : 0 ≤ pc) (p2 : pc < 4294967296) (h : mayB 18 rd rs1 rs2 imm = true) :
    Calls Tryz.prog 33 #[.agg #[.int .i64 18, .int .i64 rd, .int .i64 rs1, .int .i64 rs2, .int .i32 imm], .int .u32 a, .int .u32 b, .int .u32 pc, .int .i64 size] w fun e w' => e = .returned (.int .u32 (nextV 18 a b pc imm size)) ∧ Nx w w' := by
  have HV : Hid (nextV 18 a b pc imm size = (pc + size % 4294967296) % 4294967296) := rfl
  go_enter Tryz.func33, Tryz.ntmps33
  go_wp2_with fail
  refine (may_any _ _ _ _ _ _ hv hv').mono ?_
  rintro e w1 ⟨rfl, hn1⟩
  obtain ⟨c0, c1, c2, c3, c4, hz⟩ := five_in hn1
  have HN := Lib.hid (((Nx.refl w).alloc _).trans hn1)
  clear hn1
  go_wp2
  go_ret
  exact ⟨ret_u32 (by have q := HV.out; first | exact q.symm | (rw [q]; omega) | (rw [q]; simp; done)), HN.out⟩

set_option maxHeartbeats 1000000 in
theorem next_19 (rd rs1 rs2 imm a b pc size : Int) (w : World) (hv : -2147483648 ≤ imm) (hv' : imm ≤ 2147483647) (a1 : 0 ≤ a) (a2 : a < 4294967296) (b1 : 0 ≤ b) (b2 : b < 4294967296) (p1 : 0 ≤ pc) (p2 : pc < 4294967296) (h : mayB 19 rd rs1 rs2 imm = true) :
    Calls Tryz.prog 33 #[.agg #[.int .i64 19, .int .i64 rd, .int .i64 rs1, .int .i64 rs2, .int .i32 imm], .int .u32 a, .int .u32 b, .int .u32 pc, .int .i64 size] w fun e w' => e = .returned (.int .u32 (nextV 19 a b pc imm size)) ∧ Nx w w' := by
  have HV : Hid (nextV 19 a b pc imm size = (pc + size % 4294967296) % 4294967296) := rfl
  go_enter Tryz.func33, Tryz.ntmps33
  go_wp2_with fail
  refine (may_any _ _ _ _ _ _ hv hv').mono ?_
  rintro e w1 ⟨rfl, hn1⟩
  obtain ⟨c0, c1, c2, c3, c4, hz⟩ := five_in hn1
  have HN := Lib.hid (((Nx.refl w).alloc _).trans hn1)
  clear hn1
  go_wp2
  go_ret
  exact ⟨ret_u32 (by have q := HV.out; first | exact q.symm | (rw [q]; omega) | (rw [q]; simp; done)), HN.out⟩

set_option maxHeartbeats 1000000 in
theorem next_20 (rd rs1 rs2 imm a b pc size : Int) (w : World) (hv : -2147483648 ≤ imm) (hv' : imm ≤ 2147483647) (a1 : 0 ≤ a) (a2 : a < 4294967296) (b1 : 0 ≤ b) (b2 : b < 4294967296) (p1 : 0 ≤ pc) (p2 : pc < 4294967296) (h : mayB 20 rd rs1 rs2 imm = true) :
    Calls Tryz.prog 33 #[.agg #[.int .i64 20, .int .i64 rd, .int .i64 rs1, .int .i64 rs2, .int .i32 imm], .int .u32 a, .int .u32 b, .int .u32 pc, .int .i64 size] w fun e w' => e = .returned (.int .u32 (nextV 20 a b pc imm size)) ∧ Nx w w' := by
  have HV : Hid (nextV 20 a b pc imm size = (pc + size % 4294967296) % 4294967296) := rfl
  go_enter Tryz.func33, Tryz.ntmps33
  go_wp2_with fail
  refine (may_any _ _ _ _ _ _ hv hv').mono ?_
  rintro e w1 ⟨rfl, hn1⟩
  obtain ⟨c0, c1, c2, c3, c4, hz⟩ := five_in hn1
  have HN := Lib.hid (((Nx.refl w).alloc _).trans hn1)
  clear hn1
  go_wp2
  go_ret
  exact ⟨ret_u32 (by have q := HV.out; first | exact q.symm | (rw [q]; omega) | (rw [q]; simp; done)), HN.out⟩

set_option maxHeartbeats 1000000 in
theorem next_21 (rd rs1 rs2 imm a b pc size : Int) (w : World) (hv : -2147483648 ≤ imm) (hv' : imm ≤ 2147483647) (a1 : 0 ≤ a) (a2 : a < 4294967296) (b1 : 0 ≤ b) (b2 : b < 4294967296) (p1 : 0 ≤ pc) (p2 : pc < 4294967296) (h : mayB 21 rd rs1 rs2 imm = true) :
    Calls Tryz.prog 33 #[.agg #[.int .i64 21, .int .i64 rd, .int .i64 rs1, .int .i64 rs2, .int .i32 imm], .int .u32 a, .int .u32 b, .int .u32 pc, .int .i64 size] w fun e w' => e = .returned (.int .u32 (nextV 21 a b pc imm size)) ∧ Nx w w' := by
  have HV : Hid (nextV 21 a b pc imm size = (pc + size % 4294967296) % 4294967296) := rfl
  go_enter Tryz.func33, Tryz.ntmps33
  go_wp2_with fail
  refine (may_any _ _ _ _ _ _ hv hv').mono ?_
  rintro e w1 ⟨rfl, hn1⟩
  obtain ⟨c0, c1, c2, c3, c4, hz⟩ := five_in hn1
  have HN := Lib.hid (((Nx.refl w).alloc _).trans hn1)
  clear hn1
  go_wp2
  go_ret
  exact ⟨ret_u32 (by have q := HV.out; first | exact q.symm | (rw [q]; omega) | (rw [q]; simp; done)), HN.out⟩

set_option maxHeartbeats 1000000 in
theorem next_22 (rd rs1 rs2 imm a b pc size : Int) (w : World) (hv : -2147483648 ≤ imm) (hv' : imm ≤ 2147483647) (a1 : 0 ≤ a) (a2 : a < 4294967296) (b1 : 0 ≤ b) (b2 : b < 4294967296) (p1 : 0 ≤ pc) (p2 : pc < 4294967296) (h : mayB 22 rd rs1 rs2 imm = true) :
    Calls Tryz.prog 33 #[.agg #[.int .i64 22, .int .i64 rd, .int .i64 rs1, .int .i64 rs2, .int .i32 imm], .int .u32 a, .int .u32 b, .int .u32 pc, .int .i64 size] w fun e w' => e = .returned (.int .u32 (nextV 22 a b pc imm size)) ∧ Nx w w' := by
  have HV : Hid (nextV 22 a b pc imm size = (pc + size % 4294967296) % 4294967296) := rfl
  go_enter Tryz.func33, Tryz.ntmps33
  go_wp2_with fail
  refine (may_any _ _ _ _ _ _ hv hv').mono ?_
  rintro e w1 ⟨rfl, hn1⟩
  obtain ⟨c0, c1, c2, c3, c4, hz⟩ := five_in hn1
  have HN := Lib.hid (((Nx.refl w).alloc _).trans hn1)
  clear hn1
  go_wp2
  go_ret
  exact ⟨ret_u32 (by have q := HV.out; first | exact q.symm | (rw [q]; omega) | (rw [q]; simp; done)), HN.out⟩

set_option maxHeartbeats 1000000 in
theorem next_23 (rd rs1 rs2 imm a b pc size : Int) (w : World) (hv : -2147483648 ≤ imm) (hv' : imm ≤ 2147483647) (a1 : 0 ≤ a) (a2 : a < 4294967296) (b1 : 0 ≤ b) (b2 : b < 4294967296) (p1 : 0 ≤ pc) (p2 : pc < 4294967296) (h : mayB 23 rd rs1 rs2 imm = true) :
    Calls Tryz.prog 33 #[.agg #[.int .i64 23, .int .i64 rd, .int .i64 rs1, .int .i64 rs2, .int .i32 imm], .int .u32 a, .int .u32 b, .int .u32 pc, .int .i64 size] w fun e w' => e = .returned (.int .u32 (nextV 23 a b pc imm size)) ∧ Nx w w' := by
  have HV : Hid (nextV 23 a b pc imm size = (pc + size % 4294967296) % 4294967296) := rfl
  go_enter Tryz.func33, Tryz.ntmps33
  go_wp2_with fail
  refine (may_any _ _ _ _ _ _ hv hv').mono ?_
  rintro e w1 ⟨rfl, hn1⟩
  obtain ⟨c0, c1, c2, c3, c4, hz⟩ := five_in hn1
  have HN := Lib.hid (((Nx.refl w).alloc _).trans hn1)
  clear hn1
  go_wp2
  go_ret
  exact ⟨ret_u32 (by have q := HV.out; first | exact q.symm | (rw [q]; omega) | (rw [q]; simp; done)), HN.out⟩

set_option maxHeartbeats 1000000 in
theorem next_24 (rd rs1 rs2 imm a b pc size : Int) (w : World) (hv : -2147483648 ≤ imm) (hv' : imm ≤ 2147483647) (a1 : 0 ≤ a) (a2 : a < 4294967296) (b1 : 0 ≤ b) (b2 : b < 4294967296) (p1 : 0 ≤ pc) (p2 : pc < 4294967296) (h : mayB 24 rd rs1 rs2 imm = true) :
    Calls Tryz.prog 33 #[.agg #[.int .i64 24, .int .i64 rd, .int .i64 rs1, .int .i64 rs2, .int .i32 imm], .int .u32 a, .int .u32 b, .int .u32 pc, .int .i64 size] w fun e w' => e = .returned (.int .u32 (nextV 24 a b pc imm size)) ∧ Nx w w' := by
  have HV : Hid (nextV 24 a b pc imm size = (pc + size % 4294967296) % 4294967296) := rfl
  go_enter Tryz.func33, Tryz.ntmps33
  go_wp2_with fail
  refine (may_any _ _ _ _ _ _ hv hv').mono ?_
  rintro e w1 ⟨rfl, hn1⟩
  obtain ⟨c0, c1, c2, c3, c4, hz⟩ := five_in hn1
  have HN := Lib.hid (((Nx.refl w).alloc _).trans hn1)
  clear hn1
  go_wp2
  go_ret
  exact ⟨ret_u32 (by have q := HV.out; first | exact q.symm | (rw [q]; omega) | (rw [q]; simp; done)), HN.out⟩

set_option maxHeartbeats 1000000 in
theorem next_25 (rd rs1 rs2 imm a b pc size : Int) (w : World) (hv : -2147483648 ≤ imm) (hv' : imm ≤ 2147483647) (a1 : 0 ≤ a) (a2 : a < 4294967296) (b1 : 0 ≤ b) (b2 : b < 4294967296) (p1 : 0 ≤ pc) (p2 : pc < 4294967296) (h : mayB 25 rd rs1 rs2 imm = true) :
    Calls Tryz.prog 33 #[.agg #[.int .i64 25, .int .i64 rd, .int .i64 rs1, .int .i64 rs2, .int .i32 imm], .int .u32 a, .int .u32 b, .int .u32 pc, .int .i64 size] w fun e w' => e = .returned (.int .u32 (nextV 25 a b pc imm size)) ∧ Nx w w' := by
  have HV : Hid (nextV 25 a b pc imm size = (pc + size % 4294967296) % 4294967296) := rfl
  go_enter Tryz.func33, Tryz.ntmps33
  go_wp2_with fail
  refine (may_any _ _ _ _ _ _ hv hv').mono ?_
  rintro e w1 ⟨rfl, hn1⟩
  obtain ⟨c0, c1, c2, c3, c4, hz⟩ := five_in hn1
  have HN := Lib.hid (((Nx.refl w).alloc _).trans hn1)
  clear hn1
  go_wp2
  go_ret
  exact ⟨ret_u32 (by have q := HV.out; first | exact q.symm | (rw [q]; omega) | (rw [q]; simp; done)), HN.out⟩

set_option maxHeartbeats 1000000 in
theorem next_26 (rd rs1 rs2 imm a b pc size : Int) (w : World) (hv : -2147483648 ≤ imm) (hv' : imm ≤ 2147483647) (a1 : 0 ≤ a) (a2 : a < 4294967296) (b1 : 0 ≤ b) (b2 : b < 4294967296) (p1 : 0 ≤ pc) (p2 : pc < 4294967296) (h : mayB 26 rd rs1 rs2 imm = true) :
    Calls Tryz.prog 33 #[.agg #[.int .i64 26, .int .i64 rd, .int .i64 rs1, .int .i64 rs2, .int .i32 imm], .int .u32 a, .int .u32 b, .int .u32 pc, .int .i64 size] w fun e w' => e = .returned (.int .u32 (nextV 26 a b pc imm size)) ∧ Nx w w' := by
  have HV : Hid (nextV 26 a b pc imm size = (pc + size % 4294967296) % 4294967296) := rfl
  go_enter Tryz.func33, Tryz.ntmps33
  go_wp2_with fail
  refine (may_any _ _ _ _ _ _ hv hv').mono ?_
  rintro e w1 ⟨rfl, hn1⟩
  obtain ⟨c0, c1, c2, c3, c4, hz⟩ := five_in hn1
  have HN := Lib.hid (((Nx.refl w).alloc _).trans hn1)
  clear hn1
  go_wp2
  go_ret
  exact ⟨ret_u32 (by have q := HV.out; first | exact q.symm | (rw [q]; omega) | (rw [q]; simp; done)), HN.out⟩

set_option maxHeartbeats 1000000 in
theorem next_27 (rd rs1 rs2 imm a b pc size : Int) (w : World) (hv : -2147483648 ≤ imm) (hv' : imm ≤ 2147483647) (a1 : 0 ≤ a) (a2 : a < 4294967296) (b1 : 0 ≤ b) (b2 : b < 4294967296) (p1 : 0 ≤ pc) (p2 : pc < 4294967296) (h : mayB 27 rd rs1 rs2 imm = true) :
    Calls Tryz.prog 33 #[.agg #[.int .i64 27, .int .i64 rd, .int .i64 rs1, .int .i64 rs2, .int .i32 imm], .int .u32 a, .int .u32 b, .int .u32 pc, .int .i64 size] w fun e w' => e = .returned (.int .u32 (nextV 27 a b pc imm size)) ∧ Nx w w' := by
  have HV : Hid (nextV 27 a b pc imm size = (pc + size % 4294967296) % 4294967296) := rfl
  go_enter Tryz.func33, Tryz.ntmps33
  go_wp2_with fail
  refine (may_any _ _ _ _ _ _ hv hv').mono ?_
  rintro e w1 ⟨rfl, hn1⟩
  obtain ⟨c0, c1, c2, c3, c4, hz⟩ := five_in hn1
  have HN := Lib.hid (((Nx.refl w).alloc _).trans hn1)
  clear hn1
  go_wp2
  go_ret
  exact ⟨ret_u32 (by have q := HV.out; first | exact q.symm | (rw [q]; omega) | (rw [q]; simp; done)), HN.out⟩

set_option maxHeartbeats 1000000 in
theorem next_28 (rd rs1 rs2 imm a b pc size : Int) (w : World) (hv : -2147483648 ≤ imm) (hv' : imm ≤ 2147483647) (a1 : 0 ≤ a) (a2 : a < 4294967296) (b1 : 0 ≤ b) (b2 : b < 4294967296) (p1 : 0 ≤ pc) (p2 : pc < 4294967296) (h : mayB 28 rd rs1 rs2 imm = true) :
    Calls Tryz.prog 33 #[.agg #[.int .i64 28, .int .i64 rd, .int .i64 rs1, .int .i64 rs2, .int .i32 imm], .int .u32 a, .int .u32 b, .int .u32 pc, .int .i64 size] w fun e w' => e = .returned (.int .u32 (nextV 28 a b pc imm size)) ∧ Nx w w' := by
  have HV : Hid (nextV 28 a b pc imm size = (pc + size % 4294967296) % 4294967296) := rfl
  go_enter Tryz.func33, Tryz.ntmps33
  go_wp2_with fail
  refine (may_any _ _ _ _ _ _ hv hv').mono ?_
  rintro e w1 ⟨rfl, hn1⟩
  obtain ⟨c0, c1, c2, c3, c4, hz⟩ := five_in hn1
  have HN := Lib.hid (((Nx.refl w).alloc _).trans hn1)
  clear hn1
  go_wp2
  go_ret
  exact ⟨ret_u32 (by have q := HV.out; first | exact q.symm | (rw [q]; omega) | (rw [q]; simp; done)), HN.out⟩

set_option maxHeartbeats 1000000 in
theorem next_29 (rd rs1 rs2 imm a b pc size : Int) (w : World) (hv : -2147483648 ≤ imm) (hv' : imm ≤ 2147483647) (a1 : 0 ≤ a) (a2 : a < 4294967296) (b1 : 0 ≤ b) (b2 : b < 4294967296) (p1 : 0 ≤ pc) (p2 : pc < 4294967296) (h : mayB 29 rd rs1 rs2 imm = true) :
    Calls Tryz.prog 33 #[.agg #[.int .i64 29, .int .i64 rd, .int .i64 rs1, .int .i64 rs2, .int .i32 imm], .int .u32 a, .int .u32 b, .int .u32 pc, .int .i64 size] w fun e w' => e = .returned (.int .u32 (nextV 29 a b pc imm size)) ∧ Nx w w' := by
  have HV : Hid (nextV 29 a b pc imm size = (pc + size % 4294967296) % 4294967296) := rfl
  go_enter Tryz.func33, Tryz.ntmps33
  go_wp2_with fail
  refine (may_any _ _ _ _ _ _ hv hv').mono ?_
  rintro e w1 ⟨rfl, hn1⟩
  obtain ⟨c0, c1, c2, c3, c4, hz⟩ := five_in hn1
  have HN := Lib.hid (((Nx.refl w).alloc _).trans hn1)
  clear hn1
  go_wp2
  go_ret
  exact ⟨ret_u32 (by have q := HV.out; first | exact q.symm | (rw [q]; omega) | (rw [q]; simp; done)), HN.out⟩

set_option maxHeartbeats 1000000 in
theorem next_30 (rd rs1 rs2 imm a b pc size : Int) (w : World) (hv : -2147483648 ≤ imm) (hv' : imm ≤ 2147483647) (a1 : 0 ≤ a) (a2 : a < 4294967296) (b1 : 0 ≤ b) (b2 : b < 4294967296) (p1 : 0 ≤ pc) (p2 : pc < 4294967296) (h : mayB 30 rd rs1 rs2 imm = true) :
    Calls Tryz.prog 33 #[.agg #[.int .i64 30, .int .i64 rd, .int .i64 rs1, .int .i64 rs2, .int .i32 imm], .int .u32 a, .int .u32 b, .int .u32 pc, .int .i64 size] w fun e w' => e = .returned (.int .u32 (nextV 30 a b pc imm size)) ∧ Nx w w' := by
  have HV : Hid (nextV 30 a b pc imm size = (pc + size % 4294967296) % 4294967296) := rfl
  go_enter Tryz.func33, Tryz.ntmps33
  go_wp2_with fail
  refine (may_any _ _ _ _ _ _ hv hv').mono ?_
  rintro e w1 ⟨rfl, hn1⟩
  obtain ⟨c0, c1, c2, c3, c4, hz⟩ := five_in hn1
  have HN := Lib.hid (((Nx.refl w).alloc _).trans hn1)
  clear hn1
  go_wp2
  go_ret
  exact ⟨ret_u32 (by have q := HV.out; first | exact q.symm | (rw [q]; omega) | (rw [q]; simp; done)), HN.out⟩

set_option maxHeartbeats 1000000 in
theorem next_31 (rd rs1 rs2 imm a b pc size : Int) (w : World) (hv : -2147483648 ≤ imm) (hv' : imm ≤ 2147483647) (a1 : 0 ≤ a) (a2 : a < 4294967296) (b1 : 0 ≤ b) (b2 : b < 4294967296) (p1 : 0 ≤ pc) (p2 : pc < 4294967296) (h : mayB 31 rd rs1 rs2 imm = true) :
    Calls Tryz.prog 33 #[.agg #[.int .i64 31, .int .i64 rd, .int .i64 rs1, .int .i64 rs2, .int .i32 imm], .int .u32 a, .int .u32 b, .int .u32 pc, .int .i64 size] w fun e w' => e = .returned (.int .u32 (nextV 31 a b pc imm size)) ∧ Nx w w' := by
  have HV : Hid (nextV 31 a b pc imm size = (pc + size % 4294967296) % 4294967296) := rfl
  go_enter Tryz.func33, Tryz.ntmps33
  go_wp2_with fail
  refine (may_any _ _ _ _ _ _ hv hv').mono ?_
  rintro e w1 ⟨rfl, hn1⟩
  obtain ⟨c0, c1, c2, c3, c4, hz⟩ := five_in hn1
  have HN := Lib.hid (((Nx.refl w).alloc _).trans hn1)
  clear hn1
  go_wp2
  go_ret
  exact ⟨ret_u32 (by have q := HV.out; first | exact q.symm | (rw [q]; omega) | (rw [q]; simp; done)), HN.out⟩

set_option maxHeartbeats 1000000 in
theorem next_32 (rd rs1 rs2 imm a b pc size : Int) (w : World) (hv : -2147483648 ≤ imm) (hv' : imm ≤ 2147483647) (a1 : 0 ≤ a) (a2 : a < 4294967296) (b1 : 0 ≤ b) (b2 : b < 4294967296) (p1 : 0 ≤ pc) (p2 : pc < 4294967296) (h : mayB 32 rd rs1 rs2 imm = true) :
    Calls Tryz.prog 33 #[.agg #[.int .i64 32, .int .i64 rd, .int .i64 rs1, .int .i64 rs2, .int .i32 imm], .int .u32 a, .int .u32 b, .int .u32 pc, .int .i64 size] w fun e w' => e = .returned (.int .u32 (nextV 32 a b pc imm size)) ∧ Nx w w' := by
  have HV : Hid (nextV 32 a b pc imm size = (pc + size % 4294967296) % 4294967296) := rfl
  go_enter Tryz.func33, Tryz.ntmps33
  go_wp2_with fail
  refine (may_any _ _ _ _ _ _ hv hv').mono ?_
  rintro e w1 ⟨rfl, hn1⟩
  obtain ⟨c0, c1, c2, c3, c4, hz⟩ := five_in hn1
  have HN := Lib.hid (((Nx.refl w).alloc _).trans hn1)
  clear hn1
  go_wp2
  go_ret
  exact ⟨ret_u32 (by have q := HV.out; first | exact q.symm | (rw [q]; omega) | (rw [q]; simp; done)), HN.out⟩

set_option maxHeartbeats 1000000 in
theorem next_33 (rd rs1 rs2 imm a b pc size : Int) (w : World) (hv : -2147483648 ≤ imm) (hv' : imm ≤ 2147483647) (a1 : 0 ≤ a) (a2 : a < 4294967296) (b1 : 0 ≤ b) (b2 : b < 4294967296) (p1 : 0 ≤ pc) (p2 : pc < 4294967296) (h : mayB 33 rd rs1 rs2 imm = true) :
    Calls Tryz.prog 33 #[.agg #[.int .i64 33, .int .i64 rd, .int .i64 rs1, .int .i64 rs2, .int .i32 imm], .int .u32 a, .int .u32 b, .int .u32 pc, .int .i64 size] w fun e w' => e = .returned (.int .u32 (nextV 33 a b pc imm size)) ∧ Nx w w' := by
  have HV : Hid (nextV 33 a b pc imm size = (pc + size % 4294967296) % 4294967296) := rfl
  go_enter Tryz.func33, Tryz.ntmps33
  go_wp2_with fail
  refine (may_any _ _ _ _ _ _ hv hv').mono ?_
  rintro e w1 ⟨rfl, hn1⟩
  obtain ⟨c0, c1, c2, c3, c4, hz⟩ := five_in hn1
  have HN := Lib.hid (((Nx.refl w).alloc _).trans hn1)
  clear hn1
  go_wp2
  go_ret
  exact ⟨ret_u32 (by have q := HV.out; first | exact q.symm | (rw [q]; omega) | (rw [q]; simp; done)), HN.out⟩

set_option maxHeartbeats 1000000 in
theorem next_34 (rd rs1 rs2 imm a b pc size : Int) (w : World) (hv : -2147483648 ≤ imm) (hv' : imm ≤ 2147483647) (a1 : 0 ≤ a) (a2 : a < 4294967296) (b1 : 0 ≤ b) (b2 : b < 4294967296) (p1 : 0 ≤ pc) (p2 : pc < 4294967296) (h : mayB 34 rd rs1 rs2 imm = true) :
    Calls Tryz.prog 33 #[.agg #[.int .i64 34, .int .i64 rd, .int .i64 rs1, .int .i64 rs2, .int .i32 imm], .int .u32 a, .int .u32 b, .int .u32 pc, .int .i64 size] w fun e w' => e = .returned (.int .u32 (nextV 34 a b pc imm size)) ∧ Nx w w' := by
  have HV : Hid (nextV 34 a b pc imm size = (pc + size % 4294967296) % 4294967296) := rfl
  go_enter Tryz.func33, Tryz.ntmps33
  go_wp2_with fail
  refine (may_any _ _ _ _ _ _ hv hv').mono ?_
  rintro e w1 ⟨rfl, hn1⟩
  obtain ⟨c0, c1, c2, c3, c4, hz⟩ := five_in hn1
  have HN := Lib.hid (((Nx.refl w).alloc _).trans hn1)
  clear hn1
  go_wp2
  go_ret
  exact ⟨ret_u32 (by have q := HV.out; first | exact q.symm | (rw [q]; omega) | (rw [q]; simp; done)), HN.out⟩

set_option maxHeartbeats 1000000 in
theorem next_35 (rd rs1 rs2 imm a b pc size : Int) (w : World) (hv : -2147483648 ≤ imm) (hv' : imm ≤ 2147483647) (a1 : 0 ≤ a) (a2 : a < 4294967296) (b1 : 0 ≤ b) (b2 : b < 4294967296) (p1 : 0 ≤ pc) (p2 : pc < 4294967296) (h : mayB 35 rd rs1 rs2 imm = true) :
    Calls Tryz.prog 33 #[.agg #[.int .i64 35, .int .i64 rd, .int .i64 rs1, .int .i64 rs2, .int .i32 imm], .int .u32 a, .int .u32 b, .int .u32 pc, .int .i64 size] w fun e w' => e = .returned (.int .u32 (nextV 35 a b pc imm size)) ∧ Nx w w' := by
  have HV : Hid (nextV 35 a b pc imm size = (pc + size % 4294967296) % 4294967296) := rfl
  go_enter Tryz.func33, Tryz.ntmps33
  go_wp2_with fail
  refine (may_any _ _ _ _ _ _ hv hv').mono ?_
  rintro e w1 ⟨rfl, hn1⟩
  obtain ⟨c0, c1, c2, c3, c4, hz⟩ := five_in hn1
  have HN := Lib.hid (((Nx.refl w).alloc _).trans hn1)
  clear hn1
  go_wp2
  go_ret
  exact ⟨ret_u32 (by have q := HV.out; first | exact q.symm | (rw [q]; omega) | (rw [q]; simp; done)), HN.out⟩

set_option maxHeartbeats 1000000 in
theorem next_36 (rd rs1 rs2 imm a b pc size : Int) (w : World) (hv : -2147483648 ≤ imm) (hv' : imm ≤ 2147483647) (a1 : 0 ≤ a) (a2 : a < 4294967296) (b1 : 0 ≤ b) (b2 : b < 4294967296) (p1 : 0 ≤ pc) (p2 : pc < 4294967296) (h : mayB 36 rd rs1 rs2 imm = true) :
    Calls Tryz.prog 33 #[.agg #[.int .i64 36, .int .i64 rd, .int .i64 rs1, .int .i64 rs2, .int .i32 imm], .int .u32 a, .int .u32 b, .int .u32 pc, .int .i64 size] w fun e w' => e = .returned (.int .u32 (nextV 36 a b pc imm size)) ∧ Nx w w' := by
  have HV : Hid (nextV 36 a b pc imm size = (pc + size % 4294967296) % 4294967296) := rfl
  go_enter Tryz.func33, Tryz.ntmps33
  go_wp2_with fail
  refine (may_any _ _ _ _ _ _ hv hv').mono ?_
  rintro e w1 ⟨rfl, hn1⟩
  obtain ⟨c0, c1, c2, c3, c4, hz⟩ := five_in hn1
  have HN := Lib.hid (((Nx.refl w).alloc _).trans hn1)
  clear hn1
  go_wp2
  go_ret
  exact ⟨ret_u32 (by have q := HV.out; first | exact q.symm | (rw [q]; omega) | (rw [q]; simp; done)), HN.out⟩

set_option maxHeartbeats 1000000 in
theorem next_37 (rd rs1 rs2 imm a b pc size : Int) (w : World) (hv : -2147483648 ≤ imm) (hv' : imm ≤ 2147483647) (a1 : 0 ≤ a) (a2 : a < 4294967296) (b1 : 0 ≤ b) (b2 : b < 4294967296) (p1 : 0 ≤ pc) (p2 : pc < 4294967296) (h : mayB 37 rd rs1 rs2 imm = true) :
    Calls Tryz.prog 33 #[.agg #[.int .i64 37, .int .i64 rd, .int .i64 rs1, .int .i64 rs2, .int .i32 imm], .int .u32 a, .int .u32 b, .int .u32 pc, .int .i64 size] w fun e w' => e = .returned (.int .u32 (nextV 37 a b pc imm size)) ∧ Nx w w' := by
  have HV : Hid (nextV 37 a b pc imm size = (pc + size % 4294967296) % 4294967296) := rfl
  go_enter Tryz.func33, Tryz.ntmps33
  go_wp2_with fail
  refine (may_any _ _ _ _ _ _ hv hv').mono ?_
  rintro e w1 ⟨rfl, hn1⟩
  obtain ⟨c0, c1, c2, c3, c4, hz⟩ := five_in hn1
  have HN := Lib.hid (((Nx.refl w).alloc _).trans hn1)
  clear hn1
  go_wp2
  go_ret
  exact ⟨ret_u32 (by have q := HV.out; first | exact q.symm | (rw [q]; omega) | (rw [q]; simp; done)), HN.out⟩

set_option maxHeartbeats 1000000 in
theorem next_38 (rd rs1 rs2 imm a b pc size : Int) (w : World) (hv : -2147483648 ≤ imm) (hv' : imm ≤ 2147483647) (a1 : 0 ≤ a) (a2 : a < 4294967296) (b1 : 0 ≤ b) (b2 : b < 4294967296) (p1 : 0 ≤ pc) (p2 : pc < 4294967296) (h : mayB 38 rd rs1 rs2 imm = true) :
    Calls Tryz.prog 33 #[.agg #[.int .i64 38, .int .i64 rd, .int .i64 rs1, .int .i64 rs2, .int .i32 imm], .int .u32 a, .int .u32 b, .int .u32 pc, .int .i64 size] w fun e w' => e = .returned (.int .u32 (nextV 38 a b pc imm size)) ∧ Nx w w' := by
  have HV : Hid (nextV 38 a b pc imm size = (pc + size % 4294967296) % 4294967296) := rfl
  go_enter Tryz.func33, Tryz.ntmps33
  go_wp2_with fail
  refine (may_any _ _ _ _ _ _ hv hv').mono ?_
  rintro e w1 ⟨rfl, hn1⟩
  obtain ⟨c0, c1, c2, c3, c4, hz⟩ := five_in hn1
  have HN := Lib.hid (((Nx.refl w).alloc _).trans hn1)
  clear hn1
  go_wp2
  go_ret
  exact ⟨ret_u32 (by have q := HV.out; first | exact q.symm | (rw [q]; omega) | (rw [q]; simp; done)), HN.out⟩

set_option maxHeartbeats 1000000 in
theorem next_39 (rd rs1 rs2 imm a b pc size : Int) (w : World) (hv : -2147483648 ≤ imm) (hv' : imm ≤ 2147483647) (a1 : 0 ≤ a) (a2 : a < 4294967296) (b1 : 0 ≤ b) (b2 : b < 4294967296) (p1 : 0 ≤ pc) (p2 : pc < 4294967296) (h : mayB 39 rd rs1 rs2 imm = true) :
    Calls Tryz.prog 33 #[.agg #[.int .i64 39, .int .i64 rd, .int .i64 rs1, .int .i64 rs2, .int .i32 imm], .int .u32 a, .int .u32 b, .int .u32 pc, .int .i64 size] w fun e w' => e = .returned (.int .u32 (nextV 39 a b pc imm size)) ∧ Nx w w' := by
  have HV : Hid (nextV 39 a b pc imm size = (pc + size % 4294967296) % 4294967296) := rfl
  go_enter Tryz.func33, Tryz.ntmps33
  go_wp2_with fail
  refine (may_any _ _ _ _ _ _ hv hv').mono ?_
  rintro e w1 ⟨rfl, hn1⟩
  obtain ⟨c0, c1, c2, c3, c4, hz⟩ := five_in hn1
  have HN := Lib.hid (((Nx.refl w).alloc _).trans hn1)
  clear hn1
  go_wp2
  go_ret
  exact ⟨ret_u32 (by have q := HV.out; first | exact q.symm | (rw [q]; omega) | (rw [q]; simp; done)), HN.out⟩

set_option maxHeartbeats 1000000 in
theorem next_40 (rd rs1 rs2 imm a b pc size : Int) (w : World) (hv : -2147483648 ≤ imm) (hv' : imm ≤ 2147483647) (a1 : 0 ≤ a) (a2 : a < 4294967296) (b1 : 0 ≤ b) (b2 : b < 4294967296) (p1 : 0 ≤ pc) (p2 : pc < 4294967296) (h : mayB 40 rd rs1 rs2 imm = true) :
    Calls Tryz.prog 33 #[.agg #[.int .i64 40, .int .i64 rd, .int .i64 rs1, .int .i64 rs2, .int .i32 imm], .int .u32 a, .int .u32 b, .int .u32 pc, .int .i64 size] w fun e w' => e = .returned (.int .u32 (nextV 40 a b pc imm size)) ∧ Nx w w' := by
  have HV : Hid (nextV 40 a b pc imm size = (pc + size % 4294967296) % 4294967296) := rfl
  go_enter Tryz.func33, Tryz.ntmps33
  go_wp2_with fail
  refine (may_any _ _ _ _ _ _ hv hv').mono ?_
  rintro e w1 ⟨rfl, hn1⟩
  obtain ⟨c0, c1, c2, c3, c4, hz⟩ := five_in hn1
  have HN := Lib.hid (((Nx.refl w).alloc _).trans hn1)
  clear hn1
  go_wp2
  go_ret
  exact ⟨ret_u32 (by have q := HV.out; first | exact q.symm | (rw [q]; omega) | (rw [q]; simp; done)), HN.out⟩

set_option maxHeartbeats 1000000 in
theorem next_41 (rd rs1 rs2 imm a b pc size : Int) (w : World) (hv : -2147483648 ≤ imm) (hv' : imm ≤ 2147483647) (a1 : 0 ≤ a) (a2 : a < 4294967296) (b1 : 0 ≤ b) (b2 : b < 4294967296) (p1 : 0 ≤ pc) (p2 : pc < 4294967296) (h : mayB 41 rd rs1 rs2 imm = true) :
    Calls Tryz.prog 33 #[.agg #[.int .i64 41, .int .i64 rd, .int .i64 rs1, .int .i64 rs2, .int .i32 imm], .int .u32 a, .int .u32 b, .int .u32 pc, .int .i64 size] w fun e w' => e = .returned (.int .u32 (nextV 41 a b pc imm size)) ∧ Nx w w' := by
  have HV : Hid (nextV 41 a b pc imm size = (pc + size % 4294967296) % 4294967296) := rfl
  go_enter Tryz.func33, Tryz.ntmps33
  go_wp2_with fail
  refine (may_any _ _ _ _ _ _ hv hv').mono ?_
  rintro e w1 ⟨rfl, hn1⟩
  obtain ⟨c0, c1, c2, c3, c4, hz⟩ := five_in hn1
  have HN := Lib.hid (((Nx.refl w).alloc _).trans hn1)
  clear hn1
  go_wp2
  go_ret
  exact ⟨ret_u32 (by have q := HV.out; first | exact q.symm | (rw [q]; omega) | (rw [q]; simp; done)), HN.out⟩

set_option maxHeartbeats 1000000 in
theorem next_42 (rd rs1 rs2 imm a b pc size : Int) (w : World) (hv : -2147483648 ≤ imm) (hv' : imm ≤ 2147483647) (a1 : 0 ≤ a) (a2 : a < 4294967296) (b1 : 0 ≤ b) (b2 : b < 4294967296) (p1 : 0 ≤ pc) (p2 : pc < 4294967296) (h : mayB 42 rd rs1 rs2 imm = true) :
    Calls Tryz.prog 33 #[.agg #[.int .i64 42, .int .i64 rd, .int .i64 rs1, .int .i64 rs2, .int .i32 imm], .int .u32 a, .int .u32 b, .int .u32 pc, .int .i64 size] w fun e w' => e = .returned (.int .u32 (nextV 42 a b pc imm size)) ∧ Nx w w' := by
  have HV : Hid (nextV 42 a b pc imm size = (pc + size % 4294967296) % 4294967296) := rfl
  go_enter Tryz.func33, Tryz.ntmps33
  go_wp2_with fail
  refine (may_any _ _ _ _ _ _ hv hv').mono ?_
  rintro e w1 ⟨rfl, hn1⟩
  obtain ⟨c0, c1, c2, c3, c4, hz⟩ := five_in hn1
  have HN := Lib.hid (((Nx.refl w).alloc _).trans hn1)
  clear hn1
  go_wp2
  go_ret
  exact ⟨ret_u32 (by have q := HV.out; first | exact q.symm | (rw [q]; omega) | (rw [q]; simp; done)), HN.out⟩

set_option maxHeartbeats 1000000 in
theorem next_43 (rd rs1 rs2 imm a b pc size : Int) (w : World) (hv : -2147483648 ≤ imm) (hv' : imm ≤ 2147483647) (a1 : 0 ≤ a) (a2 : a < 4294967296) (b1 : 0 ≤ b) (b2 : b < 4294967296) (p1 : 0 ≤ pc) (p2 : pc < 4294967296) (h : mayB 43 rd rs1 rs2 imm = true) :
    Calls Tryz.prog 33 #[.agg #[.int .i64 43, .int .i64 rd, .int .i64 rs1, .int .i64 rs2, .int .i32 imm], .int .u32 a, .int .u32 b, .int .u32 pc, .int .i64 size] w fun e w' => e = .returned (.int .u32 (nextV 43 a b pc imm size)) ∧ Nx w w' := by
  have HV : Hid (nextV 43 a b pc imm size = (pc + size % 4294967296) % 4294967296) := rfl
  go_enter Tryz.func33, Tryz.ntmps33
  go_wp2_with fail
  refine (may_any _ _ _ _ _ _ hv hv').mono ?_
  rintro e w1 ⟨rfl, hn1⟩
  obtain ⟨c0, c1, c2, c3, c4, hz⟩ := five_in hn1
  have HN := Lib.hid (((Nx.refl w).alloc _).trans hn1)
  clear hn1
  go_wp2
  go_ret
  exact ⟨ret_u32 (by have q := HV.out; first | exact q.symm | (rw [q]; omega) | (rw [q]; simp; done)), HN.out⟩

set_option maxHeartbeats 1000000 in
theorem next_44 (rd rs1 rs2 imm a b pc size : Int) (w : World) (hv : -2147483648 ≤ imm) (hv' : imm ≤ 2147483647) (a1 : 0 ≤ a) (a2 : a < 4294967296) (b1 : 0 ≤ b) (b2 : b < 4294967296) (p1 : 0 ≤ pc) (p2 : pc < 4294967296) (h : mayB 44 rd rs1 rs2 imm = true) :
    Calls Tryz.prog 33 #[.agg #[.int .i64 44, .int .i64 rd, .int .i64 rs1, .int .i64 rs2, .int .i32 imm], .int .u32 a, .int .u32 b, .int .u32 pc, .int .i64 size] w fun e w' => e = .returned (.int .u32 (nextV 44 a b pc imm size)) ∧ Nx w w' := by
  have HV : Hid (nextV 44 a b pc imm size = (pc + size % 4294967296) % 4294967296) := rfl
  go_enter Tryz.func33, Tryz.ntmps33
  go_wp2_with fail
  refine (may_any _ _ _ _ _ _ hv hv').mono ?_
  rintro e w1 ⟨rfl, hn1⟩
  obtain ⟨c0, c1, c2, c3, c4, hz⟩ := five_in hn1
  have HN := Lib.hid (((Nx.refl w).alloc _).trans hn1)
  clear hn1
  go_wp2
  go_ret
  exact ⟨ret_u32 (by have q := HV.out; first | exact q.symm | (rw [q]; omega) | (rw [q]; simp; done)), HN.out⟩

set_option maxHeartbeats 1000000 in
theorem next_45 (rd rs1 rs2 imm a b pc size : Int) (w : World) (hv : -2147483648 ≤ imm) (hv' : imm ≤ 2147483647) (a1 : 0 ≤ a) (a2 : a < 4294967296) (b1 : 0 ≤ b) (b2 : b < 4294967296) (p1 : 0 ≤ pc) (p2 : pc < 4294967296) (h : mayB 45 rd rs1 rs2 imm = true) :
    Calls Tryz.prog 33 #[.agg #[.int .i64 45, .int .i64 rd, .int .i64 rs1, .int .i64 rs2, .int .i32 imm], .int .u32 a, .int .u32 b, .int .u32 pc, .int .i64 size] w fun e w' => e = .returned (.int .u32 (nextV 45 a b pc imm size)) ∧ Nx w w' := by
  have HV : Hid (nextV 45 a b pc imm size = (pc + size % 4294967296) % 4294967296) := rfl
  go_enter Tryz.func33, Tryz.ntmps33
  go_wp2_with fail
  refine (may_any _ _ _ _ _ _ hv hv').mono ?_
  rintro e w1 ⟨rfl, hn1⟩
  obtain ⟨c0, c1, c2, c3, c4, hz⟩ := five_in hn1
  have HN := Lib.hid (((Nx.refl w).alloc _).trans hn1)
  clear hn1
  go_wp2
  go_ret
  exact ⟨ret_u32 (by have q := HV.out; first | exact q.symm | (rw [q]; omega) | (rw [q]; simp; done)), HN.out⟩

set_option maxHeartbeats 1000000 in
theorem next_46 (rd rs1 rs2 imm a b pc size : Int) (w : World) (hv : -2147483648 ≤ imm) (hv' : imm ≤ 2147483647) (a1 : 0 ≤ a) (a2 : a < 4294967296) (b1 : 0 ≤ b) (b2 : b < 4294967296) (p1 : 0 ≤ pc) (p2 : pc < 4294967296) (h : mayB 46 rd rs1 rs2 imm = true) :
    Calls Tryz.prog 33 #[.agg #[.int .i64 46, .int .i64 rd, .int .i64 rs1, .int .i64 rs2, .int .i32 imm], .int .u32 a, .int .u32 b, .int .u32 pc, .int .i64 size] w fun e w' => e = .returned (.int .u32 (nextV 46 a b pc imm size)) ∧ Nx w w' := by
  have HV : Hid (nextV 46 a b pc imm size = (pc + size % 4294967296) % 4294967296) := rfl
  go_enter Tryz.func33, Tryz.ntmps33
  go_wp2_with fail
  refine (may_any _ _ _ _ _ _ hv hv').mono ?_
  rintro e w1 ⟨rfl, hn1⟩
  obtain ⟨c0, c1, c2, c3, c4, hz⟩ := five_in hn1
  have HN := Lib.hid (((Nx.refl w).alloc _).trans hn1)
  clear hn1
  go_wp2
  go_ret
  exact ⟨ret_u32 (by have q := HV.out; first | exact q.symm | (rw [q]; omega) | (rw [q]; simp; done)), HN.out⟩

set_option maxHeartbeats 1000000 in
theorem next_47 (rd rs1 rs2 imm a b pc size : Int) (w : World) (hv : -2147483648 ≤ imm) (hv' : imm ≤ 2147483647) (a1 : 0 ≤ a) (a2 : a < 4294967296) (b1 : 0 ≤ b) (b2 : b < 4294967296) (p1 : 0 ≤ pc) (p2 : pc < 4294967296) (h : mayB 47 rd rs1 rs2 imm = true) :
    Calls Tryz.prog 33 #[.agg #[.int .i64 47, .int .i64 rd, .int .i64 rs1, .int .i64 rs2, .int .i32 imm], .int .u32 a, .int .u32 b, .int .u32 pc, .int .i64 size] w fun e w' => e = .returned (.int .u32 (nextV 47 a b pc imm size)) ∧ Nx w w' := by
  have HV : Hid (nextV 47 a b pc imm size = (pc + size % 4294967296) % 4294967296) := rfl
  go_enter Tryz.func33, Tryz.ntmps33
  go_wp2_with fail
  refine (may_any _ _ _ _ _ _ hv hv').mono ?_
  rintro e w1 ⟨rfl, hn1⟩
  obtain ⟨c0, c1, c2, c3, c4, hz⟩ := five_in hn1
  have HN := Lib.hid (((Nx.refl w).alloc _).trans hn1)
  clear hn1
  go_wp2
  go_ret
  exact ⟨ret_u32 (by have q := HV.out; first | exact q.symm | (rw [q]; omega) | (rw [q]; simp; done)), HN.out⟩

set_option maxHeartbeats 1000000 in
theorem next_48 (rd rs1 rs2 imm a b pc size : Int) (w : World) (hv : -2147483648 ≤ imm) (hv' : imm ≤ 2147483647) (a1 : 0 ≤ a) (a2 : a < 4294967296) (b1 : 0 ≤ b) (b2 : b < 4294967296) (p1 : 0 ≤ pc) (p2 : pc < 4294967296) (h : mayB 48 rd rs1 rs2 imm = true) :
    Calls Tryz.prog 33 #[.agg #[.int .i64 48, .int .i64 rd, .int .i64 rs1, .int .i64 rs2, .int .i32 imm], .int .u32 a, .int .u32 b, .int .u32 pc, .int .i64 size] w fun e w' => e = .returned (.int .u32 (nextV 48 a b pc imm size)) ∧ Nx w w' := by
  have HV : Hid (nextV 48 a b pc imm size = (pc + size % 4294967296) % 4294967296) := rfl
  go_enter Tryz.func33, Tryz.ntmps33
  go_wp2_with fail
  refine (may_any _ _ _ _ _ _ hv hv').mono ?_
  rintro e w1 ⟨rfl, hn1⟩
  obtain ⟨c0, c1, c2, c3, c4, hz⟩ := five_in hn1
  have HN := Lib.hid (((Nx.refl w).alloc _).trans hn1)
  clear hn1
  go_wp2
  go_ret
  exact ⟨ret_u32 (by have q := HV.out; first | exact q.symm | (rw [q]; omega) | (rw [q]; simp; done)), HN.out⟩

end Go.Proofs.YtndpgakjpokllaaGreat

/- Contracts of package exec: Access. -/
namespace Go.Proofs.YtndpgakjpokllaaGreat
open Go.RowKit
set_option linter.unusedVariables false
set_option linter.unusedSimpArgs false

set_option maxHeartbeats 1000000 in
theorem access_1 (rd rs1 rs2 imm a : Int) (w : World) (hv : -2147483648 ≤ imm) (hv' : imm ≤ 2147483647) (a1 : 0 ≤ a) (a2 : a < 4294967296) (h : mayB 1 rd rs1 rs2 imm = true) :
    Calls Tryz.prog 27 #[.agg #[.int .i64 1, .int .i64 rd, .int .i64 rs1, .int .i64 rs2, .int .i32 imm], .int .u32 a] w fun e w' => e = .returned (.tuple #[.int .u32 (accA 1 a imm), .int .i64 (accN 1), .bool (accS 1), .bool (accG 1)]) ∧ Nx w w' := by
  have HV : Hid (accA 1 a imm = 0) := rfl
  have H1 : Hid (accN 1 = 0) := rfl
  have H2 : Hid (accS 1 = false) := rfl
  have H3 : Hid (accG 1 = false) := rfl
  go_enter Tryz.func27, Tryz.ntmps27
  go_wp2_with fail
  refine (may_any _ _ _ _ _ _ hv hv').mono ?_
  rintro e w1 ⟨rfl, hn1⟩
  obtain ⟨c0, c1, c2, c3, c4, hz⟩ := five_in hn1
  have HN := Lib.hid (((Nx.refl w).alloc _).trans hn1)
  clear hn1
  go_wp2
  refine bodyPost_ret (v := .tuple #[.int .u32 (0), .int .i64 0, .bool false, .bool false]) (by simp [results, Tryz.results27, go_sem]) rfl ⟨ret4 HV.out.symm H1.out.symm H2.out.symm H3.out.symm, HN.out⟩

set_option maxHeartbeats 1000000 in
theorem access_2 (rd rs1 rs2 imm a : Int) (w : World) (hv : -2147483648 ≤ imm) (hv' : imm ≤ 2147483647) (a1 : 0 ≤ a) (a2 : a < 4294967296) (h : mayB 2 rd rs1 rs2 imm = true) :
    Calls Tryz.prog 27 #[.agg #[.int .i64 2, .int .i64 rd, .int .i64 rs1, .int .i64 rs2, .int .i32 imm], .int .u32 a] w fun e w' => e = .returned (.tuple #[.int .u32 (accA 2 a imm), .int .i64 (accN 2), .bool (accS 2), .bool (accG 2)]) ∧ Nx w w' := by
  have HV : Hid (accA 2 a imm = 0) := rfl
  have H1 : Hid (accN 2 = 0) := rfl
  have H2 : Hid (accS 2 = false) := rfl
  have H3 : Hid (accG 2 = false) := rfl
  go_enter Tryz.func27, Tryz.ntmps27
  go_wp2_with fail
  refine (may_any _ _ _ _ _ _ hv hv').mono ?_
  rintro e w1 ⟨rfl, hn1⟩
  obtain ⟨c0, c1, c2, c3, c4, hz⟩ := five_in hn1
  have HN := Lib.hid (((Nx.refl w).alloc _).trans hn1)
  clear hn1
  go_wp2
  refine bodyPost_ret (v := .tuple #[.int .u32 (0), .int .i64 0, .bool false, .bool false]) (by simp [results, Tryz.results27, go_sem]) rfl ⟨ret4 HV.out.symm H1.out.symm H2.out.symm H3.out.symm, HN.out⟩

set_option maxHeartbeats 1000000 in
theorem access_3 (rd rs1 rs2 imm a : Int) (w : World) (hv : -2147483648 ≤ imm) (hv' : imm ≤ 2147483647) (a1 : 0 ≤ a) (a2 : a < 4294967296) (h : mayB 3 rd rs1 rs2 imm = true) :
    Calls Tryz.prog 27 #[.agg #[.int .i64 3, .int .i64 rd, .int .i64 rs1, .int .i64 rs2, .int .i32 imm], .int .u32 a] w fun e w' => e = .returned (.tuple #[.int .u32 (accA 3 a imm), .int .i64 (accN 3), .bool (accS 3), .bool (accG 3)]) ∧ Nx w w' := by
  have HV : Hid (accA 3 a imm = 0) := rfl
  have H1 : Hid (accN 3 = 0) := rfl
  have H2 : Hid (accS 3 = false) := rfl
  have H3 : Hid (accG 3 = false) := rfl
  go_enter Tryz.func27, Tryz.ntmps27
  go_wp2_with fail
  refine (may_any _ _ _ _ _ _ hv hv').mono ?_
  rintro e w1 ⟨rfl, hn1⟩
  obtain ⟨c0, c1, c2, c3, c4, hz⟩ := five_in hn1
  have HN := Lib.hid (((Nx.refl w).alloc _).trans hn1)
  clear hn1
  go_wp2
  refine bodyPost_ret (v := .tuple #[.int .u32 (0), .int .i64 0, .bool false, .bool false]) (by simp [results, Tryz.results27, go_sem]) rfl ⟨ret4 HV.out.symm H1.out.symm H2.out.symm H3.out.symm, HN.out⟩

set_option maxHeartbeats 1000000 in
theorem access_4 (rd rs1 rs2 imm a : Int) (w : World) (hv : -2147483648 ≤ imm) (hv' : imm ≤ 2147483647) (a1 : 0 ≤ a) (a2 : a < 4294967296) (h : mayB 4 rd rs1 rs2 imm = true) :
    Calls Tryz.prog 27 #[.agg #[.int .i64 4, .int .i64 rd, .int .i64 rs1, .int .i64 rs2, .int .i32 imm], .int .u32 a] w fun e w' => e = .returned (.tuple #[.int .u32 (accA 4 a imm), .int .i64 (accN 4), .bool (accS 4), .bool (accG 4)]) ∧ Nx w w' := by
  have HV : Hid (accA 4 a imm = 0) := rfl
  have H1 : Hid (accN 4 = 0) := rfl
  have H2 : Hid (accS 4 = false) := rfl
  have H3 : Hid (accG 4 = false) := rfl
  go_enter Tryz.func27, Tryz.ntmps27
  go_wp2_with fail
  refine (may_any _ _ _ _ _ _ hv hv').mono ?_
  rintro e w1 ⟨rfl, hn1⟩
  obtain ⟨c0, c1, c2, c3, c4, hz⟩ := five_in hn1
  have HN := Lib.hid (((Nx.refl w).alloc _).trans hn1)
  clear hn1
  go_wp2
  refine bodyPost_ret (v := .tuple #[.int .u32 (0), .int .i64 0, .bool false, .bool false]) (by simp [results, Tryz.results27, go_sem]) rfl ⟨ret4 HV.out.symm H1.out.symm H2.out.symm H3.out.symm, HN.out⟩

set_option maxHeartbeats 1000000 in
theorem access_5 (rd rs1 rs2 imm a : Int) (w : World) (hv : -2147483648 ≤ imm) (hv' : imm ≤ 2147483647) (a1 : 0 ≤ a) (a2 : a < 4294967296) (h : mayB 5 rd rs1 rs2 imm = true) :
    Calls Tryz.prog 27 #[.agg #[.int .i64 5, .int .i64 rd, .int .i64 rs1, .int .i64 rs2, .int .i32 imm], .int .u32 a] w fun e w' => e = .returned (.tuple #[.int .u32 (accA 5 a imm), .int .i64 (accN 5), .bool (accS 5), .bool (accG 5)]) ∧ Nx w w' := by
  have HV : Hid (accA 5 a imm = 0) := rfl
  have H1 : Hid (accN 5 = 0) := rfl
  have H2 : Hid (accS 5 = false) := rfl
  have H3 : Hid (accG 5 = false) := rfl
  go_enter Tryz.func27, Tryz.ntmps27
  go_wp2_with fail
  refine (may_any _ _ _ _ _ _ hv hv').mono ?_
  rintro e w1 ⟨rfl, hn1⟩
  obtain ⟨c0, c1, c2, c3, c4, hz⟩ := five_in hn1
  have HN := Lib.hid (((Nx.refl w).alloc _).trans hn1)
  clear hn1
  go_wp2
  refine bodyPost_ret (v := .tuple #[.int .u32 (0), .int .i64 0, .bool false, .bool false]) (by simp [results, Tryz.results27, go_sem]) rfl ⟨ret4 HV.out.symm H1.out.symm H2.out.symm H3.out.symm, HN.out⟩

set_option maxHeartbeats 1000000 in
theorem access_6 (rd rs1 rs2 imm a : Int) (w : World) (hv : -2147483648 ≤ imm) (hv' : imm ≤ 2147483647) (a1 : 0 ≤ a) (a2 : a < 4294967296) (h : mayB 6 rd rs1 rs2 imm = true) :
    Calls Tryz.prog 27 #[.agg #[.int .i64 6, .int .i64 rd, .int .i64 rs1, .int .i64 rs2, .int .i32 imm], .int .u32 a] w fun e w' => e = .returned (.tuple #[.int .u32 (accA 6 a imm), .int .i64 (accN 6), .bool (accS 6), .bool (accG 6)]) ∧ Nx w w' := by
  have HV : Hid (accA 6 a imm = 0) := rfl
  have H1 : Hid (accN 6 = 0) := rfl
  have H2 : Hid (accS 6 = false) := rfl
  have H3 : Hid (accG 6 = false) := rfl
  go_enter Tryz.func27, Tryz.ntmps27
  go_wp2_with fail
  refine (may_any _ _ _ _ _ _ hv hv').mono ?_
  rintro e w1 ⟨rfl, hn1⟩
  obtain ⟨c0, c1, c2, c3, c4, hz⟩ := five_in hn1
  have HN := Lib.hid (((Nx.refl w).alloc _).trans hn1)
  clear hn1
  go_wp2
  refine bodyPost_ret (v := .tuple #[.int .u32 (0), .int .i64 0, .bool false, .bool false]) (by simp [results, Tryz.results27, go_sem]) rfl ⟨ret4 HV.out.symm H1.out.symm H2.out.symm H3.out.symm, HN.out⟩

set_option maxHeartbeats 1000000 in
theorem access_7 (rd rs1 rs2 imm a : Int) (w : World) (hv : -2147483648 ≤ imm) (hv' : imm ≤ 2147483647) (a1 : 0 ≤ a) (a2 : a < 4294967296) (h : mayB 7 rd rs1 rs2 imm = true) :
    Calls Tryz.prog 27 #[.agg #[.int .i64 7, .int .i64 rd, .int .i64 rs1, .int .i64 rs2, .int .i32 imm], .int .u32 a] w fun e w' => e = .returned (.tuple #[.int .u32 (accA 7 a imm), .int .i64 (accN 7), .bool (accS 7), .bool (accG 7)]) ∧ Nx w w' := by
  have HV : Hid (accA 7 a imm = 0) := rfl
  have H1 : Hid (accN 7 = 0) := rfl
  have H2 : Hid (accS 7 = false) := rfl
  have H3 : Hid (accG 7 = false) := rfl
  go_enter Tryz.func27, Tryz.ntmps27
  go_wp2_with fail
  refine (may_any _ _ _ _ _ _ hv hv').mono ?_
  rintro e w1 ⟨rfl, hn1⟩
  obtain ⟨c0, c1, c2, c3, c4, hz⟩ := five_in hn1
  have HN := Lib.hid (((Nx.refl w).alloc _).trans hn1)
  clear hn1
  go_wp2
  refine bodyPost_ret (v := .tuple #[.int .u32 (0), .int .i64 0, .bool false, .bool false]) (by simp [results, Tryz.results27, go_sem]) rfl ⟨ret4 HV.out.symm H1.out.symm H2.out.symm H3.out.symm, HN.out⟩

set_option maxHeartbeats 1000000 in
theorem access_8 (rd rs1 rs2 imm a : Int) (w : World) (hv : -2147483648 ≤ imm) (hv' : imm ≤ 2147483647) (a1 : 0 ≤ a) (a2 : a < 4294967296) (h : mayB 8 rd rs1 rs2 imm = true) :
    Calls Tryz.prog 27 #[.agg #[.int .i64 8, .int .i64 rd, .int .i64 rs1, .int .i64 rs2, .int .i32 imm], .int .u32 a] w fun e w' => e = .returned (.tuple #[.int .u32 (accA 8 a imm), .int .i64 (accN 8), .bool (accS 8), .bool (accG 8)]) ∧ Nx w w' := by
  have HV : Hid (accA 8 a imm = 0) := rfl
  have H1 : Hid (accN 8 = 0) := rfl
  have H2 : Hid (accS 8 = false) := rfl
  have H3 : Hid (accG 8 = false) := rfl
  go_enter Tryz.func27, Tryz.ntmps27
  go_wp2_with fail
  refine (may_any _ _ _ _ _ _ hv hv').mono ?_
  rintro e w1 ⟨rfl, hn1⟩
  obtain ⟨c0, c1, c2, c3, c4, hz⟩ := five_in hn1
  have HN := Lib.hid (((Nx.refl w).alloc _).trans hn1)
  clear hn1
  go_wp2
  refine bodyPost_ret (v := .tuple #[.int .u32 (0), .int .i64 0, .bool false, .bool false]) (by simp [results, Tryz.results27, go_sem]) rfl ⟨ret4 HV.out.symm H1.out.symm H2.out.symm H3.out.symm, HN.out⟩

set_option maxHeartbeats 1000000 in
theorem access_9 (rd rs1 rs2 imm a : Int) (w : World) (hv : -2147483648 ≤ imm) (hv' : imm ≤ 2147483647) (a1 : 0 ≤ a) (a2 : a < 4294967296) (h : mayB 9 rd rs1 rs2 imm = true) :
    Calls Tryz.prog 27 #[.agg #[.int .i64 9, .int .i64 rd, .int .i64 rs1, .int .i64 rs2, .int .i32 imm], .int .u32 a] w fun e w' => e = .returned (.tuple #[.int .u32 (accA 9 a imm), .int .i64 (accN 9), .bool (accS 9), .bool (accG 9)]) ∧ Nx w w' := by
  have HV : Hid (accA 9 a imm = 0) := rfl
  have H1 : Hid (accN 9 = 0) := rfl
  have H2 : Hid (accS 9 = false) := rfl
  have H3 : Hid (accG 9 = false) := rfl
  go_enter Tryz.func27, Tryz.ntmps27
  go_wp2_with fail
  refine (may_any _ _ _ _ _ _ hv hv').mono ?_
  rintro e w1 ⟨rfl, hn1⟩
  obtain ⟨c0, c1, c2, c3, c4, hz⟩ := five_in hn1
  have HN := Lib.hid (((Nx.refl w).alloc _).trans hn1)
  clear hn1
  go_wp2
  refine bodyPost_ret (v := .tuple #[.int .u32 (0), .int .i64 0, .bool false, .bool false]) (by simp [results, Tryz.results27, go_sem]) rfl ⟨ret4 HV.out.symm H1.out.symm H2.out.symm H3.out.symm, HN.out⟩

set_option maxHeartbeats 1000000 in
theorem access_10 (rd rs1 rs2 imm a : Int) (w : World) (hv : -2147483648 ≤ imm) (hv' : imm ≤ 2147483647) (a1 : 0 ≤ a) (a2 : a < 4294967296) (h : mayB 10 rd rs1 rs2 imm = true) :
    Calls Tryz.prog 27 #[.agg #[.int .i64 10, .int .i64 rd, .int .i64 rs1, .int .i64 rs2, .int .i32 imm], .int .u32 a] w fun e w' => e = .returned (.tuple #[.int .u32 (accA 10 a imm), .int .i64 (accN 10), .bool (accS 10), .bool (accG 10)]) ∧ Nx w w' := by
  have HV : Hid (accA 10 a imm = 0) := rfl
  have H1 : Hid (accN 10 = 0) := rfl
  have H2 : Hid (accS 10 = false) := rfl
  have H3 : Hid (accG 10 = false) := rfl
  go_enter Tryz.func27, Tryz.ntmps27
  go_wp2_with fail
  refine (may_any _ _ _ _ _ _ hv hv').mono ?_
  rintro e w1 ⟨rfl, hn1⟩
  obtain ⟨c0, c1, c2, c3, c4, hz⟩ := five_in hn1
  have HN := Lib.hid (((Nx.refl w).alloc _).trans hn1)
  clear hn1
  go_wp2
  refine bodyPost_ret (v := .tuple #[.int .u32 (0), .int .i64 0, .bool false, .bool false]) (by simp [results, Tryz.results27, go_sem]) rfl ⟨ret4 HV.out.symm H1.out.symm H2.out.symm H3.out.symm, HN.out⟩

set_option maxHeartbeats 1000000 in
theorem access_11 (rd rs1 rs2 imm a : Int) (w : World) (hv : -2147483648 ≤ imm) (hv' : imm ≤ 2147483647) (a1 : 0 ≤ a) (a2 : a < 4294967296) (h : mayB 11 rd rs1 rs2 imm = true) :
    Calls Tryz.prog 27 #[.agg #[.int .i64 11, .int .i64 rd, .int .i64 rs1, .int .i64 rs2, .int .i32 imm], .int .u32 a] w fun e w' => e = .returned (.tuple #[.int .u32 (accA 11 a imm), .int .i64 (accN 11), .bool (accS 11), .bool (accG 11)]) ∧ Nx w w' := by
  have HV : Hid (accA 11 a imm = (a + imm % 4294967296) % 4294967296) := rfl
  have H1 : Hid (accN 11 = 1) := rfl
  have H2 : Hid (accS 11 = false) := rfl
  have H3 : Hid (accG 11 = true) := rfl
  go_enter Tryz.func27, Tryz.ntmps27
  go_wp2_with fail
  refine (may_any _ _ _ _ _ _ hv hv').mono ?_
  rintro e w1 ⟨rfl, hn1⟩
  obtain ⟨c0, c1, c2, c3, c4, hz⟩ := five_in hn1
  have HN := Lib.hid (((Nx.refl w).alloc _).trans hn1)
  clear hn1
  go_wp2
  refine bodyPost_ret (v := .tuple #[.int .u32 ((a + imm % 4294967296) % 4294967296), .int .i64 1, .bool false, .bool true]) (by simp [results, Tryz.results27, go_sem]) rfl ⟨ret4 HV.out.symm H1.out.symm H2.out.symm H3.out.symm, HN.out⟩

set_option maxHeartbeats 1000000 in
theorem access_12 (rd rs1 rs2 imm a : Int) (w : World) (hv : -2147483648 ≤ imm) (hv' : imm ≤ 2147483647) (a1 : 0 ≤ a) (a2 : a < 4294967296) (h : mayB 12 rd rs1 rs2 imm = true) :
    Calls Tryz.prog 27 #[.agg #[.int .i64 12, .int .i64 rd, .int .i64 rs1, .int .i64 rs2, .int .i32 imm], .int .u32 a] w fun e w' => e = .returned (.tuple #[.int .u32 (accA 12 a imm), .int .i64 (accN 12), .bool (accS 12), .bool (accG 12)]) ∧ Nx w w' := by
  have HV : Hid (accA 12 a imm = (a + imm % 4294967296) % 4294967296) := rfl
  have H1 : Hid (accN 12 = 2) := rfl
  have H2 : Hid (accS 12 = false) := rfl
  have H3 : Hid (accG 12 = true) := rfl
  go_enter Tryz.func27, Tryz.ntmps27
  go_wp2_with fail
  refine (may_any _ _ _ _ _ _ hv hv').mono ?_
  rintro e w1 ⟨rfl, hn1⟩
  obtain ⟨c0, c1, c2, c3, c4, hz⟩ := five_in hn1
  have HN := Lib.hid (((Nx.refl w).alloc _).trans hn1)
  clear hn1
  go_wp2
  refine bodyPost_ret (v := .tuple #[.int .u32 ((a + imm % 4294967296) % 4294967296), .int .i64 2, .bool false, .bool true]) (by simp [results, Tryz.results27, go_sem]) rfl ⟨ret4 HV.out.symm H1.out.symm H2.out.symm H3.out.symm, HN.out⟩

set_option maxHeartbeats 1000000 in
theorem access_13 (rd rs1 rs2 imm a : Int) (w : World) (hv : -2147483648 ≤ imm) (hv' : imm ≤ 2147483647) (a1 : 0 ≤ a) (a2 : a < 4294967296) (h : mayB 13 rd rs1 rs2 imm = true) :
    Calls Tryz.prog 27 #[.agg #[.int .i64 13, .int .i64 rd, .int .i64 rs1, .int .i64 rs2, .int .i32 imm], .int .u32 a] w fun e w' => e = .returned (.tuple #[.int .u32 (accA 13 a imm), .int .i64 (accN 13), .bool (accS 13), .bool (accG 13)]) ∧ Nx w w' := by
  have HV : Hid (accA 13 a imm = (a + imm % 4294967296) % 4294967296) := rfl
  have H1 : Hid (accN 13 = 4) := rfl
  have H2 : Hid (accS 13 = false) := rfl
  have H3 : Hid (accG 13 = true) := rfl
  go_enter Tryz.func27, Tryz.ntmps27
  go_wp2_with fail
  refine (may_any _ _ _ _ _ _ hv hv').mono ?_
  rintro e w1 ⟨rfl, hn1⟩
  obtain ⟨c0, c1, c2, c3, c4, hz⟩ := five_in hn1
  have HN := Lib.hid (((Nx.refl w).alloc _).trans hn1)
  clear hn1
  go_wp2
  refine bodyPost_ret (v := .tuple #[.int .u32 ((a + imm % 4294967296) % 4294967296), .int .i64 4, .bool false, .bool true]) (by simp [results, Tryz.results27, go_sem]) rfl ⟨ret4 HV.out.symm H1.out.symm H2.out.symm H3.out.symm, HN.out⟩

set_option maxHeartbeats 1000000 in
theorem access_14 (rd rs1 rs2 imm a : Int) (w : World) (hv : -2147483648 ≤ imm) (hv' : imm ≤ 2147483647) (a1 : 0 ≤ a) (a2 : a < 4294967296) (h : mayB 14 rd rs1 rs2 imm = true) :
    Calls Tryz.prog 27 #[.agg #[.int .i64 14, .int .i64 rd, .int .i64 rs1, .int .i64 rs2, .int .i32 imm], .int .u32 a] w fun e w' => e = .returned (.tuple #[.int .u32 (accA 14 a imm), .int .i64 (accN 14), .bool (accS 14), .bool (accG 14)]) ∧ Nx w w' := by
  have HV : Hid (accA 14 a imm = (a + imm % 4294967296) % 4294967296) := rfl
  have H1 : Hid (accN 14 = 1) := rfl
  have H2 : Hid (accS 14 = false) := rfl
  have H3 : Hid (accG 14 = false) := rfl
  go_enter Tryz.func27, Tryz.ntmps27
  go_wp2_with fail
  refine (may_any _ _ _ _ _ _ hv hv').mono ?_
  rintro e w1 ⟨rfl, hn1⟩
  obtain ⟨c0, c1, c2, c3, c4, hz⟩ := five_in hn1
  have HN := Lib.hid (((Nx.refl w).alloc _).trans hn1)
  clear hn1
  go_wp2
  refine bodyPost_ret (v := .tuple #[.int .u32 ((a + imm % 4294967296) % 4294967296), .int .i64 1, .bool false, .bool false]) (by simp [results, Tryz.results27, go_sem]) rfl ⟨ret4 HV.out.symm H1.out.symm H2.out.symm H3.out.symm, HN.out⟩

set_option maxHeartbeats 1000000 in
theorem access_15 (rd rs1 rs2 imm a : Int) (w : World) (hv : -2147483648 ≤ imm) (hv' : imm ≤ 2147483647) (a1 : 0 ≤ a) (a2 : a < 4294967296) (h : mayB 15 rd rs1 rs2 imm = true) :
    Calls Tryz.prog 27 #[.agg #[.int .i64 15, .int .i64 rd, .int .i64 rs1, .int .i64 rs2, .int .i32 imm], .int .u32 a] w fun e w' => e = .returned (.tuple #[.int .u32 (accA 15 a imm), .int .i64 (accN 15), .bool (accS 15), .bool (accG 15)]) ∧ Nx w w' := by
  have HV : Hid (accA 15 a imm = (a + imm % 4294967296) % 4294967296) := rfl
  have H1 : Hid (accN 15 = 2) := rfl
  have H2 : Hid (accS 15 = false) := rfl
  have H3 : Hid (accG 15 = false) := rfl
  go_enter Tryz.func27, Tryz.ntmps27
  go_wp2_with fail
  refine (may_any _ _ _ _ _ _ hv hv').mono ?_
  rintro e w1 ⟨rfl, hn1⟩
  obtain ⟨c0, c1, c2, c3, c4, hz⟩ := five_in hn1
  have HN := Lib.hid (((Nx.refl w).alloc _).trans hn1)
  clear hn1
  go_wp2
  refine bodyPost_ret (v := .tuple #[.int .u32 ((a + imm % 4294967296) % 4294967296), .int .i64 2, .bool false, .bool false]) (by simp [results, Tryz.results27, go_sem]) rfl ⟨ret4 HV.out.symm H1.out.symm H2.out.symm H3.out.symm, HN.out⟩

set_option maxHeartbeats 1000000 in
theorem access_16 (rd rs1 rs2 imm a : Int) (w : World) (hv : -2147483648 ≤ imm) (hv' : imm ≤ 2147483647) (a1 : 0 ≤ a) (a2 : a < 4294967296) (h : mayB 16 rd rs1 rs2 imm = true) :
    Calls Tryz.prog 27 #[.agg #[.int .i64 16, .int .i64 rd, .int .i64 rs1, .int .i64 rs2, .int .i32 imm], .int .u32 a] w fun e w' => e = .returned (.tuple #[.int .u32 (accA 16 a imm), .int .i64 (accN 16), .bool (accS 16), .bool (accG 16)]) ∧ Nx w w' := by
  have HV : Hid (accA 16 a imm = (a + imm % 4294967296) % 4294967296) := rfl
  have H1 : Hid (accN 16 = 1) := rfl
  have H2 : Hid (accS 16 = true) := rfl
  have H3 : Hid (accG 16 = false) := rfl
  go_enter Tryz.func27, Tryz.ntmps27
  go_wp2_with fail
  refine (may_any _ _ _ _ _ _ hv hv').mono ?_
  rintro e w1 ⟨rfl, hn1⟩
  obtain ⟨c0, c1, c2, c3, c4, hz⟩ := five_in hn1
  have HN := Lib.hid (((Nx.refl w).alloc _).trans hn1)
  clear hn1
  go_wp2
  refine bodyPost_ret (v := .tuple #[.int .u32 ((a + imm % 4294967296) % 4294967296), .int .i64 1, .bool true, .bool false]) (by simp [results, Tryz.results27, go_sem]) rfl ⟨ret4 HV.out.symm H1.out.symm H2.out.symm H3.out.symm, HN.out⟩

set_option maxHeartbeats 1000000 in
theorem access_17 (rd rs1 rs2 imm a : Int) (w : World) (hv : -2147483648 ≤ imm) (hv' : imm ≤ 2147483647) (a1 : 0 ≤ a) (a2 : a < 4294967296) (h : mayB 17 rd rs1 rs2 imm = true) :
    Calls Tryz.prog 27 #[.agg #[.int .i64 17, .int .i64 rd, .int .i64 rs1, .int .i64 rs2, .int .i32 imm], .int .u32 a] w fun e w' => e = .returned (.tuple #[.int .u32 (accA 17 a imm), .int .i64 (accN 17), .bool (accS 17), .bool (accG 17)]) ∧ Nx w w' := by
  have HV : Hid (accA 17 a imm = (a + imm % 4294967296) % 4294967296) := rfl
  have H1 : Hid (accN 17 = 2) := rfl
  have H2 : Hid (accS 17 = true) := rfl
  have H3 : Hid (accG 17 = false) := rfl
  go_enter Tryz.func27, Tryz.ntmps27
  go_wp2_with fail
  refine (may_any _ _ _ _ _ _ hv hv').mono ?_
  rintro e w1 ⟨rfl, hn1⟩
  obtain ⟨c0, c1, c2, c3, c4, hz⟩ := five_in hn1
  have HN := Lib.hid (((Nx.refl w).alloc _).trans hn1)
  clear hn1
  go_wp2
  refine bodyPost_ret (v := .tuple #[.int .u32 ((a + imm % 4294967296) % 4294967296), .int .i64 2, .bool true, .bool false]) (by simp [results, Tryz.results27, go_sem]) rfl ⟨ret4 HV.out.symm H1.out.symm H2.out.symm H3.out.symm, HN.out⟩

set_option maxHeartbeats 1000000 in
theorem access_18 (rd rs1 rs2 imm a : Int) (w : World) (hv : -2147483648 ≤ imm) (hv' : imm ≤ 2147483647) (a1 : 0 ≤ a) (a2 : a < 4294967296) (h : mayB 18 rd rs1 rs2 imm = true) :
    Calls Tryz.prog 27 #[.agg #[.int .i64 18, .int .i64 rd, .int .i64 rs1, .int .i64 rs2, .int .i32 imm], .int .u32 a] w fun e w' => e = .returned (.tuple #[.int .u32 (accA 18 a imm), .int .i64 (accN 18), .bool (accS 18), .bool (accG 18)]) ∧ Nx w w' := by
  have HV : Hid (accA 18 a imm = (a + imm % 4294967296) % 4294967296) := rfl
  have H1 : Hid (accN 18 = 4) := rfl
  have H2 : Hid (accS 18 = true) := rfl
  have H3 : Hid (accG 18 = false) := rfl
  go_enter Tryz.func27, Tryz.ntmps27
  go_wp2_with fail
  refine (may_any _ _ _ _ _ _ hv hv').mono ?_
  rintro e w1 ⟨rfl, hn1⟩
  obtain ⟨c0, c1, c2, c3, c4, hz⟩ := five_in hn1
  have HN := Lib.hid (((Nx.refl w).alloc _).trans hn1)
  clear hn1
  go_wp2
  refine bodyPost_ret (v := .tuple #[.int .u32 ((a + imm % 4294967296) % 4294967296), .int .i64 4, .bool true, .bool false]) (by simp [results, Tryz.results27, go_sem]) rfl ⟨ret4 HV.out.symm H1.out.symm H2.out.symm H3.out.symm, HN.out⟩

end Go.Proofs.YtndpgakjpokllaaGreat

/- Contracts of package exec: Access. -/
namespace Go.Proofs.YtndpgakjpokllaaGreat
open Go.RowKit
set_option linter.unusedVariables false
set_option linter.unusedSimpArgs false

set_option maxHeartbeats 1000000 in
theorem access_19 (rd rs1 rs2 imm a : Int) (w : World) (hv : -2147483648 ≤ imm) (hv' : imm ≤ 2147483647) (a1 : 0 ≤ a) (a2 : a < 4294967296) (h : mayB 19 rd rs1 rs2 imm = true) :
    Calls Tryz.prog 27 #[.agg #[.int .i64 19, .int .i64 rd, .int .i64 rs1, .int .i64 rs2, .int .i32 imm], .int .u32 a] w fun e w' => e = .returned (.tuple #[.int .u32 (accA 19 a imm), .int .i64 (accN 19), .bool (accS 19), .bool (accG 19)]) ∧ Nx w w' := by
  have HV : Hid (accA 19 a imm = 0) := rfl
  have H1 : Hid (accN 19 = 0) := rfl
  have H2 : Hid (accS 19 = false) := rfl
  have H3 : Hid (accG 19 = false) := rfl
  go_enter Tryz.func27, Tryz.ntmps27
  go_wp2_with fail
  refine (may_any _ _ _ _ _ _ hv hv').mono ?_
  rintro e w1 ⟨rfl, hn1⟩
  obtain ⟨c0, c1, c2, c3, c4, hz⟩ := five_in hn1
  have HN := Lib.hid (((Nx.refl w).alloc _).trans hn1)
  clear hn1
  go_wp2
  refine bodyPost_ret (v := .tuple #[.int .u32 (0), .int .i64 0, .bool false, .bool false]) (by simp [results, Tryz.results27, go_sem]) rfl ⟨ret4 HV.out.symm H1.out.symm H2.out.symm H3.out.symm, HN.out⟩

set_option maxHeartbeats 1000000 in
theorem access_20 (rd rs1 rs2 imm a : Int) (w : World) (hv : -2147483648 ≤ imm) (hv' : imm ≤ 2147483647) (a1 : 0 ≤ a) (a2 : a < 4294967296) (h : mayB 20 rd rs1 rs2 imm = true) :
    Calls Tryz.prog 27 #[.agg #[.int .i64 20, .int .i64 rd, .int .i64 rs1, .int .i64 rs2, .int .i32 imm], .int .u32 a] w fun e w' => e = .returned (.tuple #[.int .u32 (accA 20 a imm), .int .i64 (accN 20), .bool (accS 20), .bool (accG 20)]) ∧ Nx w w' := by
  have HV : Hid (accA 20 a imm = 0) := rfl
  have H1 : Hid (accN 20 = 0) := rfl
  have H2 : Hid (accS 20 = false) := rfl
  have H3 : Hid (accG 20 = false) := rfl
  go_enter Tryz.func27, Tryz.ntmps27
  go_wp2_with fail
  refine (may_any _ _ _ _ _ _ hv hv').mono ?_
  rintro e w1 ⟨rfl, hn1⟩
  obtain ⟨c0, c1, c2, c3, c4, hz⟩ := five_in hn1
  have HN := Lib.hid (((Nx.refl w).alloc _).trans hn1)
  clear hn1
  go_wp2
  refine bodyPost_ret (v := .tuple #[.int .u32 (0), .int .i64 0, .bool false, .bool false]) (by simp [results, Tryz.results27, go_sem]) rfl ⟨ret4 HV.out.symm H1.out.symm H2.out.symm H3.out.symm, HN.out⟩

set_option maxHeartbeats 1000000 in
theorem access_21 (rd rs1 rs2 imm a : Int) (w : World) (hv : -2147483648 ≤ imm) (hv' : imm ≤ 2147483647) (a1 : 0 ≤ a) (a2 : a < 4294967296) (h : mayB 21 rd rs1 rs2 imm = true) :
    Calls Tryz.prog 27 #[.agg #[.int .i64 21, .int .i64 rd, .int .i64 rs1, .int .i64 rs2, .int .i32 imm], .int .u32 a] w fun e w' => e = .returned (.tuple #[.int .u32 (accA 21 a imm), .int .i64 (accN 21), .bool (accS 21), .bool (accG 21)]) ∧ Nx w w' := by
  have HV : Hid (accA 21 a imm = 0) := rfl
  have H1 : Hid (accN 21 = 0) := rfl
  have H2 : Hid (accS 21 = false) := rfl
  have H3 : Hid (accG 21 = false) := rfl
  go_enter Tryz.func27, Tryz.ntmps27
  go_wp2_with fail
  refine (may_any _ _ _ _ _ _ hv hv').mono ?_
  rintro e w1 ⟨rfl, hn1⟩
  obtain ⟨c0, c1, c2, c3, c4, hz⟩ := five_in hn1
  have HN := Lib.hid (((Nx.refl w).alloc _).trans hn1)
  clear hn1
  go_wp2
  refine bodyPost_ret (v := .tuple #[.int .u32 (0), .int .i64 0, .bool false, .bool false]) (by simp [results, Tryz.results27, go_sem]) rfl ⟨ret4 HV.out.symm H1.out.symm H2.out.symm H3.out.symm, HN.out⟩

set_option maxHeartbeats 1000000 in
theorem access_22 (rd rs1 rs2 imm a : Int) (w : World) (hv : -2147483648 ≤ imm) (hv' : imm ≤ 2147483647) (a1 : 0 ≤ a) (a2 : a < 4294967296) (h : mayB 22 rd rs1 rs2 imm = true) :
    Calls Tryz.prog 27 #[.agg #[.int .i64 22, .int .i64 rd, .int .i64 rs1, .int .i64 rs2, .int .i32 imm], .int .u32 a] w fun e w' => e = .returned (.tuple #[.int .u32 (accA 22 a imm), .int .i64 (accN 22), .bool (accS 22), .bool (accG 22)]) ∧ Nx w w' := by
  have HV : Hid (accA 22 a imm = 0) := rfl
  have H1 : Hid (accN 22 = 0) := rfl
  have H2 : Hid (accS 22 = false) := rfl
  have H3 : Hid (accG 22 = false) := rfl
  go_enter Tryz.func27, Tryz.ntmps27
  go_wp2_with fail
  refine (may_any _ _ _ _ _ _ hv hv').mono ?_
  rintro e w1 ⟨rfl, hn1⟩
  obtain ⟨c0, c1, c2, c3, c4, hz⟩ := five_in hn1
  have HN := Lib.hid (((Nx.refl w).alloc _).trans hn1)
  clear hn1
  go_wp2
  refine bodyPost_ret (v := .tuple #[.int .u32 (0), .int .i64 0, .bool false, .bool false]) (by simp [results, Tryz.results27, go_sem]) rfl ⟨ret4 HV.out.symm H1.out.symm H2.out.symm H3.out.symm, HN.out⟩

set_option maxHeartbeats 1000000 in
theorem access_23 (rd rs1 rs2 imm a : Int) (w : World) (hv : -2147483648 ≤ imm) (hv' : imm ≤ 2147483647) (a1 : 0 ≤ a) (a2 : a < 4294967296) (h : mayB 23 rd rs1 rs2 imm = true) :
    Calls Tryz.prog 27 #[.agg #[.int .i64 23, .int .i64 rd, .int .i64 rs1, .int .i64 rs2, .int .i32 imm], .int .u32 a] w fun e w' => e = .returned (.tuple #[.int .u32 (accA 23 a imm), .int .i64 (accN 23), .bool (accS 23), .bool (accG 23)]) ∧ Nx w w' := by
  have HV : Hid (accA 23 a imm = 0) := rfl
  have H1 : Hid (accN 23 = 0) := rfl
  have H2 : Hid (accS 23 = false) := rfl
  have H3 : Hid (accG 23 = false) := rfl
  go_enter Tryz.func27, Tryz.ntmps27
  go_wp2_with fail
  refine (may_any _ _ _ _ _ _ hv hv').mono ?_
  rintro e w1 ⟨rfl, hn1⟩
  obtain ⟨c0, c1, c2, c3, c4, hz⟩ := five_in hn1
  have HN := Lib.hid (((Nx.refl w).alloc _).trans hn1)
  clear hn1
  go_wp2
  refine bodyPost_ret (v := .tuple #[.int .u32 (0), .int .i64 0, .bool false, .bool false]) (by simp [results, Tryz.results27, go_sem]) rfl ⟨ret4 HV.out.symm H1.out.symm H2.out.symm H3.out.symm, HN.out⟩

set_option maxHeartbeats 1000000 in
theorem access_24 (rd rs1 rs2 imm a : Int) (w : World) (hv : -2147483648 ≤ imm) (hv' : imm ≤ 2147483647) (a1 : 0 ≤ a) (a2 : a < 4294967296) (h : mayB 24 rd rs1 rs2 imm = true) :
    Calls Tryz.prog 27 #[.agg #[.int .i64 24, .int .i64 rd, .int .i64 rs1, .int .i64 rs2, .int .i32 imm], .int .u32 a] w fun e w' => e = .returned (.tuple #[.int .u32 (accA 24 a imm), .int .i64 (accN 24), .bool (accS 24), .bool (accG 24)]) ∧ Nx w w' := by
  have HV : Hid (accA 24 a imm = 0) := rfl
  have H1 : Hid (accN 24 = 0) := rfl
  have H2 : Hid (accS 24 = false) := rfl
  have H3 : Hid (accG 24 = false) := rfl
  go_enter Tryz.func27, Tryz.ntmps27
  go_wp2_with fail
  refine (may_any _ _ _ _ _ _ hv hv').mono ?_
  rintro e w1 ⟨rfl, hn1⟩
  obtain ⟨c0, c1, c2, c3, c4, hz⟩ := five_in hn1
  have HN := Lib.hid (((Nx.refl w).alloc _).trans hn1)
  clear hn1
  go_wp2
  refine bodyPost_ret (v := .tuple #[.int .u32 (0), .int .i64 0, .bool false, .bool false]) (by simp [results, Tryz.results27, go_sem]) rfl ⟨ret4 HV.out.symm H1.out.symm H2.out.symm H3.out.symm, HN.out⟩

set_option maxHeartbeats 1000000 in
theorem access_25 (rd rs1 rs2 imm a : Int) (w : World) (hv : -2147483648 ≤ imm) (hv' : imm ≤ 2147483647) (a1 : 0 ≤ a) (a2 : a < 4294967296) (h : mayB 25 rd rs1 rs2 imm = true) :
    Calls Tryz.prog 27 #[.agg #[.int .i64 25, .int .i64 rd, .int .i64 rs1, .int .i64 rs2, .int .i32 imm], .int .u32 a] w fun e w' => e = .returned (.tuple #[.int .u32 (accA 25 a imm), .int .i64 (accN 25), .bool (accS 25), .bool (accG 25)]) ∧ Nx w w' := by
  have HV : Hid (accA 25 a imm = 0) := rfl
  have H1 : Hid (accN 25 = 0) := rfl
  have H2 : Hid (accS 25 = false) := rfl
  have H3 : Hid (accG 25 = false) := rfl
  go_enter Tryz.func27, Tryz.ntmps27
  go_wp2_with fail
  refine (may_any _ _ _ _ _ _ hv hv').mono ?_
  rintro e w1 ⟨rfl, hn1⟩
  obtain ⟨c0, c1, c2, c3, c4, hz⟩ := five_in hn1
  have HN := Lib.hid (((Nx.refl w).alloc _).trans hn1)
  clear hn1
  go_wp2
  refine bodyPost_ret (v := .tuple #[.int .u32 (0), .int .i64 0, .bool false, .bool false]) (by simp [results, Tryz.results27, go_sem]) rfl ⟨ret4 HV.out.symm H1.out.symm H2.out.symm H3.out.symm, HN.out⟩

set_option maxHeartbeats 1000000 in
theorem access_26 (rd rs1 rs2 imm a : Int) (w : World) (hv : -2147483648 ≤ imm) (hv' : imm ≤ 2147483647) (a1 : 0 ≤ a) (a2 : a < 4294967296) (h : mayB 26 rd rs1 rs2 imm = true) :
    Calls Tryz.prog 27 #[.agg #[.int .i64 26, .int .i64 rd, .int .i64 rs1, .int .i64 rs2, .int .i32 imm], .int .u32 a] w fun e w' => e = .returned (.tuple #[.int .u32 (accA 26 a imm), .int .i64 (accN 26), .bool (accS 26), .bool (accG 26)]) ∧ Nx w w' := by
  have HV : Hid (accA 26 a imm = 0) := rfl
  have H1 : Hid (accN 26 = 0) := rfl
  have H2 : Hid (accS 26 = false) := rfl
  have H3 : Hid (accG 26 = false) := rfl
  go_enter Tryz.func27, Tryz.ntmps27
  go_wp2_with fail
  refine (may_any _ _ _ _ _ _ hv hv').mono ?_
  rintro e w1 ⟨rfl, hn1⟩
  obtain ⟨c0, c1, c2, c3, c4, hz⟩ := five_in hn1
  have HN := Lib.hid (((Nx.refl w).alloc _).trans hn1)
  clear hn1
  go_wp2
  refine bodyPost_ret (v := .tuple #[.int .u32 (0), .int .i64 0, .bool false, .bool false]) (by simp [results, Tryz.results27, go_sem]) rfl ⟨ret4 HV.out.symm H1.out.symm H2.out.symm H3.out.symm, HN.out⟩

set_option maxHeartbeats 1000000 in
theorem access_27 (rd rs1 rs2 imm a : Int) (w : World) (hv : -2147483648 ≤ imm) (hv' : imm ≤ 2147483647) (a1 : 0 ≤ a) (a2 : a < 4294967296) (h : mayB 27 rd rs1 rs2 imm = true) :
    Calls Tryz.prog 27 #[.agg #[.int .i64 27, .int .i64 rd, .int .i64 rs1, .int .i64 rs2, .int .i32 imm], .int .u32 a] w fun e w' => e = .returned (.tuple #[.int .u32 (accA 27 a imm), .int .i64 (accN 27), .bool (accS 27), .bool (accG 27)]) ∧ Nx w w' := by
  have HV : Hid (accA 27 a imm = 0) := rfl
  have H1 : Hid (accN 27 = 0) := rfl
  have H2 : Hid (accS 27 = false) := rfl
  have H3 : Hid (accG 27 = false) := rfl
  go_enter Tryz.func27, Tryz.ntmps27
  go_wp2_with fail
  refine (may_any _ _ _ _ _ _ hv hv').mono ?_
  rintro e w1 ⟨rfl, hn1⟩
  obtain ⟨c0, c1, c2, c3, c4, hz⟩ := five_in hn1
  have HN := Lib.hid (((Nx.refl w).alloc _).trans hn1)
  clear hn1
  go_wp2
  refine bodyPost_ret (v := .tuple #[.int .u32 (0), .int .i64 0, .bool false, .bool false]) (by simp [results, Tryz.results27, go_sem]) rfl ⟨ret4 HV.out.symm H1.out.symm H2.out.symm H3.out.symm, HN.out⟩

set_option maxHeartbeats 1000000 in
theorem access_28 (rd rs1 rs2 imm a : Int) (w : World) (hv : -2147483648 ≤ imm) (hv' : imm ≤ 2147483647) (a1 : 0 ≤ a) (a2 : a < 4294967296) (h : mayB 28 rd rs1 rs2 imm = true) :
    Calls Tryz.prog 27 #[.agg #[.int .i64 28, .int .i64 rd, .int .i64 rs1, .int .i64 rs2, .int .i32 imm], .int .u32 a] w fun e w' => e = .returned (.tuple #[.int .u32 (accA 28 a imm), .int .i64 (accN 28), .bool (accS 28), .bool (accG 28)]) ∧ Nx w w' := by
  have HV : Hid (accA 28 a imm = 0) := rfl
  have H1 : Hid (accN 28 = 0) := rfl
  have H2 : Hid (accS 28 = false) := rfl
  have H3 : Hid (accG 28 = false) := rfl
  go_enter Tryz.func27, Tryz.ntmps27
  go_wp2_with fail
  refine (may_any _ _ _ _ _ _ hv hv').mono ?_
  rintro e w1 ⟨rfl, hn1⟩
  obtain ⟨c0, c1, c2, c3, c4, hz⟩ := five_in hn1
  have HN := Lib.hid (((Nx.refl w).alloc _).trans hn1)
  clear hn1
  go_wp2
  refine bodyPost_ret (v := .tuple #[.int .u32 (0), .int .i64 0, .bool false, .bool false]) (by simp [results, Tryz.results27, go_sem]) rfl ⟨ret4 HV.out.symm H1.out.symm H2.out.symm H3.out.symm, HN.out⟩

set_option maxHeartbeats 1000000 in
theorem access_29 (rd rs1 rs2 imm a : Int) (w : World) (hv : -2147483648 ≤ imm) (hv' : imm ≤ 2147483647) (a1 : 0 ≤ a) (a2 : a < 4294967296) (h : mayB 29 rd rs1 rs2 imm = true) :
    Calls Tryz.prog 27 #[.agg #[.int .i64 29, .int .i64 rd, .int .i64 rs1, .int .i64 rs2, .int .i32 imm], .int .u32 a] w fun e w' => e = .returned (.tuple #[.int .u32 (accA 29 a imm), .int .i64 (accN 29), .bool (accS 29), .bool (accG 29)]) ∧ Nx w w' := by
  have HV : Hid (accA 29 a imm = 0) := rfl
  have H1 : Hid (accN 29 = 0) := rfl
  have H2 : Hid (accS 29 = false) := rfl
  have H3 : Hid (accG 29 = false) := rfl
  go_enter Tryz.func27, Tryz.ntmps27
  go_wp2_with fail
  refine (may_any _ _ _ _ _ _ hv hv').mono ?_
  rintro e w1 ⟨rfl, hn1⟩
  obtain ⟨c0, c1, c2, c3, c4, hz⟩ := five_in hn1
  have HN := Lib.hid (((Nx.refl w).alloc _).trans hn1)
  clear hn1
  go_wp2
  refine bodyPost_ret (v := .tuple #[.int .u32 (0), .int .i64 0, .bool false, .bool false]) (by simp [results, Tryz.results27, go_sem]) rfl ⟨ret4 HV.out.symm H1.out.symm H2.out.symm H3.out.symm, HN.out⟩

set_option maxHeartbeats 1000000 in
theorem access_30 (rd rs1 rs2 imm a : Int) (w : World) (hv : -2147483648 ≤ imm) (hv' : imm ≤ 2147483647) (a1 : 0 ≤ a) (a2 : a < 4294967296) (h : mayB 30 rd rs1 rs2 imm = true) :
    Calls Tryz.prog 27 #[.agg #[.int .i64 30, .int .i64 rd, .int .i64 rs1, .int .i64 rs2, .int .i32 imm], .int .u32 a] w fun e w' => e = .returned (.tuple #[.int .u32 (accA 30 a imm), .int .i64 (accN 30), .bool (accS 30), .bool (accG 30)]) ∧ Nx w w' := by
  have HV : Hid (accA 30 a imm = 0) := rfl
  have H1 : Hid (accN 30 = 0) := rfl
  have H2 : Hid (accS 30 = false) := rfl
  have H3 : Hid (accG 30 = false) := rfl
  go_enter Tryz.func27, Tryz.ntmps27
  go_wp2_with fail
  refine (may_any _ _ _ _ _ _ hv hv').mono ?_
  rintro e w1 ⟨rfl, hn1⟩
  obtain ⟨c0, c1, c2, c3, c4, hz⟩ := five_in hn1
  have HN := Lib.hid (((Nx.refl w).alloc _).trans hn1)
  clear hn1
  go_wp2
  refine bodyPost_ret (v := .tuple #[.int .u32 (0), .int .i64 0, .bool false, .bool false]) (by simp [results, Tryz.results27, go_sem]) rfl ⟨ret4 HV.out.symm H1.out.symm H2.out.symm H3.out.symm, HN.out⟩

set_option maxHeartbeats 1000000 in
theorem access_31 (rd rs1 rs2 imm a : Int) (w : World) (hv : -2147483648 ≤ imm) (hv' : imm ≤ 2147483647) (a1 : 0 ≤ a) (a2 : a < 4294967296) (h : mayB 31 rd rs1 rs2 imm = true) :
    Calls Tryz.prog 27 #[.agg #[.int .i64 31, .int .i64 rd, .int .i64 rs1, .int .i64 rs2, .int .i32 imm], .int .u32 a] w fun e w' => e = .returned (.tuple #[.int .u32 (accA 31 a imm), .int .i64 (accN 31), .bool (accS 31), .bool (accG 31)]) ∧ Nx w w' := by
  have HV : Hid (accA 31 a imm = 0) := rfl
  have H1 : Hid (accN 31 = 0) := rfl
  have H2 : Hid (accS 31 = false) := rfl
  have H3 : Hid (accG 31 = false) := rfl
  go_enter Tryz.func27, Tryz.ntmps27
  go_wp2_with fail
  refine (may_any _ _ _ _ _ _ hv hv').mono ?_
  rintro e w1 ⟨rfl, hn1⟩
  obtain ⟨c0, c1, c2, c3, c4, hz⟩ := five_in hn1
  have HN := Lib.hid (((Nx.refl w).alloc _).trans hn1)
  clear hn1
  go_wp2
  refine bodyPost_ret (v := .tuple #[.int .u32 (0), .int .i64 0, .bool false, .bool false]) (by simp [results, Tryz.results27, go_sem]) rfl ⟨ret4 HV.out.symm H1.out.symm H2.out.symm H3.out.symm, HN.out⟩

set_option maxHeartbeats 1000000 in
theorem access_32 (rd rs1 rs2 imm a : Int) (w : World) (hv : -2147483648 ≤ imm) (hv' : imm ≤ 2147483647) (a1 : 0 ≤ a) (a2 : a < 4294967296) (h : mayB 32 rd rs1 rs2 imm = true) :
    Calls Tryz.prog 27 #[.agg #[.int .i64 32, .int .i64 rd, .int .i64 rs1, .int .i64 rs2, .int .i32 imm], .int .u32 a] w fun e w' => e = .returned (.tuple #[.int .u32 (accA 32 a imm), .int .i64 (accN 32), .bool (accS 32), .bool (accG 32)]) ∧ Nx w w' := by
  have HV : Hid (accA 32 a imm = 0) := rfl
  have H1 : Hid (accN 32 = 0) := rfl
  have H2 : Hid (accS 32 = false) := rfl
  have H3 : Hid (accG 32 = false) := rfl
  go_enter Tryz.func27, Tryz.ntmps27
  go_wp2_with fail
  refine (may_any _ _ _ _ _ _ hv hv').mono ?_
  rintro e w1 ⟨rfl, hn1⟩
  obtain ⟨c0, c1, c2, c3, c4, hz⟩ := five_in hn1
  have HN := Lib.hid (((Nx.refl w).alloc _).trans hn1)
  clear hn1
  go_wp2
  refine bodyPost_ret (v := .tuple #[.int .u32 (0), .int .i64 0, .bool false, .bool false]) (by simp [results, Tryz.results27, go_sem]) rfl ⟨ret4 HV.out.symm H1.out.symm H2.out.symm H3.out.symm, HN.out⟩

set_option maxHeartbeats 1000000 in
theorem access_33 (rd rs1 rs2 imm a : Int) (w : World) (hv : -2147483648 ≤ imm) (hv' : imm ≤ 2147483647) (a1 : 0 ≤ a) (a2 : a < 4294967296) (h : mayB 33 rd rs1 rs2 imm = true) :
    Calls Tryz.prog 27 #[.agg #[.int .i64 33, .int .i64 rd, .int .i64 rs1, .int .i64 rs2, .int .i32 imm], .int .u32 a] w fun e w' => e = .returned (.tuple #[.int .u32 (accA 33 a imm), .int .i64 (accN 33), .bool (accS 33), .bool (accG 33)]) ∧ Nx w w' := by
  have HV : Hid (accA 33 a imm = 0) := rfl
  have H1 : Hid (accN 33 = 0) := rfl
  have H2 : Hid (accS 33 = false) := rfl
  have H3 : Hid (accG 33 = false) := rfl
  go_enter Tryz.func27, Tryz.ntmps27
  go_wp2_with fail
  refine (may_any _ _ _ _ _ _ hv hv').mono ?_
  rintro e w1 ⟨rfl, hn1⟩
  obtain ⟨c0, c1, c2, c3, c4, hz⟩ := five_in hn1
  have HN := Lib.hid (((Nx.refl w).alloc _).trans hn1)
  clear hn1
  go_wp2
  refine bodyPost_ret (v := .tuple #[.int .u32 (0), .int .i64 0, .bool false, .bool false]) (by simp [results, Tryz.results27, go_sem]) rfl ⟨ret4 HV.out.symm H1.out.symm H2.out.symm H3.out.symm, HN.out⟩

set_option maxHeartbeats 1000000 in
theorem access_34 (rd rs1 rs2 imm a : Int) (w : World) (hv : -2147483648 ≤ imm) (hv' : imm ≤ 2147483647) (a1 : 0 ≤ a) (a2 : a < 4294967296) (h : mayB 34 rd rs1 rs2 imm = true) :
    Calls Tryz.prog 27 #[.agg #[.int .i64 34, .int .i64 rd, .int .i64 rs1, .int .i64 rs2, .int .i32 imm], .int .u32 a] w fun e w' => e = .returned (.tuple #[.int .u32 (accA 34 a imm), .int .i64 (accN 34), .bool (accS 34), .bool (accG 34)]) ∧ Nx w w' := by
  have HV : Hid (accA 34 a imm = 0) := rfl
  have H1 : Hid (accN 34 = 0) := rfl
  have H2 : Hid (accS 34 = false) := rfl
  have H3 : Hid (accG 34 = false) := rfl
  go_enter Tryz.func27, Tryz.ntmps27
  go_wp2_with fail
  refine (may_any _ _ _ _ _ _ hv hv').mono ?_
  rintro e w1 ⟨rfl, hn1⟩
  obtain ⟨c0, c1, c2, c3, c4, hz⟩ := five_in hn1
  have HN := Lib.hid (((Nx.refl w).alloc _).trans hn1)
  clear hn1
  go_wp2
  refine bodyPost_ret (v := .tuple #[.int .u32 (0), .int .i64 0, .bool false, .bool false]) (by simp [results, Tryz.results27, go_sem]) rfl ⟨ret4 HV.out.symm H1.out.symm H2.out.symm H3.out.symm, HN.out⟩

set_option maxHeartbeats 1000000 in
theorem access_35 (rd rs1 rs2 imm a : Int) (w : World) (hv : -2147483648 ≤ imm) (hv' : imm ≤ 2147483647) (a1 : 0 ≤ a) (a2 : a < 4294967296) (h : mayB 35 rd rs1 rs2 imm = true) :
    Calls Tryz.prog 27 #[.agg #[.int .i64 35, .int .i64 rd, .int .i64 rs1, .int .i64 rs2, .int .i32 imm], .int .u32 a] w fun e w' => e = .returned (.tuple #[.int .u32 (accA 35 a imm), .int .i64 (accN 35), .bool (accS 35), .bool (accG 35)]) ∧ Nx w w' := by
  have HV : Hid (accA 35 a imm = 0) := rfl
  have H1 : Hid (accN 35 = 0) := rfl
  have H2 : Hid (accS 35 = false) := rfl
  have H3 : Hid (accG 35 = false) := rfl
  go_enter Tryz.func27, Tryz.ntmps27
  go_wp2_with fail
  refine (may_any _ _ _ _ _ _ hv hv').mono ?_
  rintro e w1 ⟨rfl, hn1⟩
  obtain ⟨c0, c1, c2, c3, c4, hz⟩ := five_in hn1
  have HN := Lib.hid (((Nx.refl w).alloc _).trans hn1)
  clear hn1
  go_wp2
  refine bodyPost_ret (v := .tuple #[.int .u32 (0), .int .i64 0, .bool false, .bool false]) (by simp [results, Tryz.results27, go_sem]) rfl ⟨ret4 HV.out.symm H1.out.symm H2.out.symm H3.out.symm, HN.out⟩

set_option maxHeartbeats 1000000 in
theorem access_36 (rd rs1 rs2 imm a : Int) (w : World) (hv : -2147483648 ≤ imm) (hv' : imm ≤ 2147483647) (a1 : 0 ≤ a) (a2 : a < 4294967296) (h : mayB 36 rd rs1 rs2 imm = true) :
    Calls Tryz.prog 27 #[.agg #[.int .i64 36, .int .i64 rd, .int .i64 rs1, .int .i64 rs2, .int .i32 imm], .int .u32 a] w fun e w' => e = .returned (.tuple #[.int .u32 (accA 36 a imm), .int .i64 (accN 36), .bool (accS 36), .bool (accG 36)]) ∧ Nx w w' := by
  have HV : Hid (accA 36 a imm = 0) := rfl
  have H1 : Hid (accN 36 = 0) := rfl
  have H2 : Hid (accS 36 = false) := rfl
  have H3 : Hid (accG 36 = false) := rfl
  go_enter Tryz.func27, Tryz.ntmps27
  go_wp2_with fail
  refine (may_any _ _ _ _ _ _ hv hv').mono ?_
  rintro e w1 ⟨rfl, hn1⟩
  obtain ⟨c0, c1, c2, c3, c4, hz⟩ := five_in hn1
  have HN := Lib.hid (((Nx.refl w).alloc _).trans hn1)
  clear hn1
  go_wp2
  refine bodyPost_ret (v := .tuple #[.int .u32 (0), .int .i64 0, .bool false, .bool false]) (by simp [results, Tryz.results27, go_sem]) rfl ⟨ret4 HV.out.symm H1.out.symm H2.out.symm H3.out.symm, HN.out⟩

set_option maxHeartbeats 1000000 in
theorem access_37 (rd rs1 rs2 imm a : Int) (w : World) (hv : -2147483648 ≤ imm) (hv' : imm ≤ 2147483647) (a1 : 0 ≤ a) (a2 : a < 4294967296) (h : mayB 37 rd rs1 rs2 imm = true) :
    Calls Tryz.prog 27 #[.agg #[.int .i64 37, .int .i64 rd, .int .i64 rs1, .int .i64 rs2, .int .i32 imm], .int .u32 a] w fun e w' => e = .returned (.tuple #[.int .u32 (accA 37 a imm), .int .i64 (accN 37), .bool (accS 37), .bool (accG 37)]) ∧ Nx w w' := by
  have HV : Hid (accA 37 a imm = 0) := rfl
  have H1 : Hid (accN 37 = 0) := rfl
  have H2 : Hid (accS 37 = false) := rfl
  have H3 : Hid (accG 37 = false) := rfl
  go_enter Tryz.func27, Tryz.ntmps27
  go_wp2_with fail
  refine (may_any _ _ _ _ _ _ hv hv').mono ?_
  rintro e w1 ⟨rfl, hn1⟩
  obtain ⟨c0, c1, c2, c3, c4, hz⟩ := five_in hn1
  have HN := Lib.hid (((Nx.refl w).alloc _).trans hn1)
  clear hn1
  go_wp2
  refine bodyPost_ret (v := .tuple #[.int .u32 (0), .int .i64 0, .bool false, .bool false]) (by simp [results, Tryz.results27, go_sem]) rfl ⟨ret4 HV.out.symm H1.out.symm H2.out.symm H3.out.symm, HN.out⟩

set_option maxHeartbeats 1000000 in
theorem access_38 (rd rs1 rs2 imm a : Int) (w : World) (hv : -2147483648 ≤ imm) (hv' : imm ≤ 2147483647) (a1 : 0 ≤ a) (a2 : a < 4294967296) (h : mayB 38 rd rs1 rs2 imm = true) :
    Calls Tryz.prog 27 #[.agg #[.int .i64 38, .int .i64 rd, .int .i64 rs1, .int .i64 rs2, .int .i32 imm], .int .u32 a] w fun e w' => e = .returned (.tuple #[.int .u32 (accA 38 a imm), .int .i64 (accN 38), .bool (accS 38), .bool (accG 38)]) ∧ Nx w w' := by
  have HV : Hid (accA 38 a imm = 0) := rfl
  have H1 : Hid (accN 38 = 0) := rfl
  have H2 : Hid (accS 38 = false) := rfl
  have H3 : Hid (accG 38 = false) := rfl
  go_enter Tryz.func27, Tryz.ntmps27
  go_wp2_with fail
  refine (may_any _ _ _ _ _ _ hv hv').mono ?_
  rintro e w1 ⟨rfl, hn1⟩
  obtain ⟨c0, c1, c2, c3, c4, hz⟩ := five_in hn1
  have HN := Lib.hid (((Nx.refl w).alloc _).trans hn1)
  clear hn1
  go_wp2
  refine bodyPost_ret (v := .tuple #[.int .u32 (0), .int .i64 0, .bool false, .bool false]) (by simp [results, Tryz.results27, go_sem]) rfl ⟨ret4 HV.out.symm H1.out.symm H2.out.symm H3.out.symm, HN.out⟩

set_option maxHeartbeats 1000000 in
theorem access_39 (rd rs1 rs2 imm a : Int) (w : World) (hv : -2147483648 ≤ imm) (hv' : imm ≤ 2147483647) (a1 : 0 ≤ a) (a2 : a < 4294967296) (h : mayB 39 rd rs1 rs2 imm = true) :
    Calls Tryz.prog 27 #[.agg #[.int .i64 39, .int .i64 rd, .int .i64 rs1, .int .i64 rs2, .int .i32 imm], .int .u32 a] w fun e w' => e = .returned (.tuple #[.int .u32 (accA 39 a imm), .int .i64 (accN 39), .bool (accS 39), .bool (accG 39)]) ∧ Nx w w' := by
  have HV : Hid (accA 39 a imm = 0) := rfl
  have H1 : Hid (accN 39 = 0) := rfl
  have H2 : Hid (accS 39 = false) := rfl
  have H3 : Hid (accG 39 = false) := rfl
  go_enter Tryz.func27, Tryz.ntmps27
  go_wp2_with fail
  refine (may_any _ _ _ _ _ _ hv hv').mono ?_
  rintro e w1 ⟨rfl, hn1⟩
  obtain ⟨c0, c1, c2, c3, c4, hz⟩ := five_in hn1
  have HN := Lib.hid (((Nx.refl w).alloc _).trans hn1)
  clear hn1
  go_wp2
  refine bodyPost_ret (v := .tuple #[.int .u32 (0), .int .i64 0, .bool false, .bool false]) (by simp [results, Tryz.results27, go_sem]) rfl ⟨ret4 HV.out.symm H1.out.symm H2.out.symm H3.out.symm, HN.out⟩

set_option maxHeartbeats 1000000 in
theorem access_40 (rd rs1 rs2 imm a : Int) (w : World) (hv : -2147483648 ≤ imm) (hv' : imm ≤ 2147483647) (a1 : 0 ≤ a) (a2 : a < 4294967296) (h : mayB 40 rd rs1 rs2 imm = true) :
    Calls Tryz.prog 27 #[.agg #[.int .i64 40, .int .i64 rd, .int .i64 rs1, .int .i64 rs2, .int .i32 imm], .int .u32 a] w fun e w' => e = .returned (.tuple #[.int .u32 (accA 40 a imm), .int .i64 (accN 40), .bool (accS 40), .bool (accG 40)]) ∧ Nx w w' := by
  have HV : Hid (accA 40 a imm = 0) := rfl
  have H1 : Hid (accN 40 = 0) := rfl
  have H2 : Hid (accS 40 = false) := rfl
  have H3 : Hid (accG 40 = false) := rfl
  go_enter Tryz.func27, Tryz.ntmps27
  go_wp2_with fail
  refine (may_any _ _ _ _ _ _ hv hv').mono ?_
  rintro e w1 ⟨rfl, hn1⟩
  obtain ⟨c0, c1, c2, c3, c4, hz⟩ := five_in hn1
  have HN := Lib.hid (((Nx.refl w).alloc _).trans hn1)
  clear hn1
  go_wp2
  refine bodyPost_ret (v := .tuple #[.int .u32 (0), .int .i64 0, .bool false, .bool false]) (by simp [results, Tryz.results27, go_sem]) rfl ⟨ret4 HV.out.symm H1.out.symm H2.out.symm H3.out.symm, HN.out⟩

set_option maxHeartbeats 1000000 in
theorem access_41 (rd rs1 rs2 imm a : Int) (w : World) (hv : -2147483648 ≤ imm) (hv' : imm ≤ 2147483647) (a1 : 0 ≤ a) (a2 : a < 4294967296) (h : mayB 41 rd rs1 rs2 imm = true) :
    Calls Tryz.prog 27 #[.agg #[.int .i64 41, .int .i64 rd, .int .i64 rs1, .int .i64 rs2, .int .i32 imm], .int .u32 a] w fun e w' => e = .returned (.tuple #[.int .u32 (accA 41 a imm), .int .i64 (accN 41), .bool (accS 41), .bool (accG 41)]) ∧ Nx w w' := by
  have HV : Hid (accA 41 a imm = 0) := rfl
  have H1 : Hid (accN 41 = 0) := rfl
  have H2 : Hid (accS 41 = false) := rfl
  have H3 : Hid (accG 41 = false) := rfl
  go_enter Tryz.func27, Tryz.ntmps27
  go_wp2_with fail
  refine (may_any _ _ _ _ _ _ hv hv').mono ?_
  rintro e w1 ⟨rfl, hn1⟩
  obtain ⟨c0, c1, c2, c3, c4, hz⟩ := five_in hn1
  have HN := Lib.hid (((Nx.refl w).alloc _).trans hn1)
  clear hn1
  go_wp2
  refine bodyPost_ret (v := .tuple #[.int .u32 (0), .int .i64 0, .bool false, .bool false]) (by simp [results, Tryz.results27, go_sem]) rfl ⟨ret4 HV.out.symm H1.out.symm H2.out.symm H3.out.symm, HN.out⟩

set_option maxHeartbeats 1000000 in
theorem access_42 (rd rs1 rs2 imm a : Int) (w : World) (hv : -2147483648 ≤ imm) (hv' : imm ≤ 2147483647) (a1 : 0 ≤ a) (a2 : a < 4294967296) (h : mayB 42 rd rs1 rs2 imm = true) :
    Calls Tryz.prog 27 #[.agg #[.int .i64 42, .int .i64 rd, .int .i64 rs1, .int .i64 rs2, .int .i32 imm], .int .u32 a] w fun e w' => e = .returned (.tuple #[.int .u32 (accA 42 a imm), .int .i64 (accN 42), .bool (accS 42), .bool (accG 42)]) ∧ Nx w w' := by
  have HV : Hid (accA 42 a imm = 0) := rfl
  have H1 : Hid (accN 42 = 0) := rfl
  have H2 : Hid (accS 42 = false) := rfl
  have H3 : Hid (accG 42 = false) := rfl
  go_enter Tryz.func27, Tryz.ntmps27
  go_wp2_with fail
  refine (may_any _ _ _ _ _ _ hv hv').mono ?_
  rintro e w1 ⟨rfl, hn1⟩
  obtain ⟨c0, c1, c2, c3, c4, hz⟩ := five_in hn1
  have HN := Lib.hid (((Nx.refl w).alloc _).trans hn1)
  clear hn1
  go_wp2
  refine bodyPost_ret (v := .tuple #[.int .u32 (0), .int .i64 0, .bool false, .bool false]) (by simp [results, Tryz.results27, go_sem]) rfl ⟨ret4 HV.out.symm H1.out.symm H2.out.symm H3.out.symm, HN.out⟩

set_option maxHeartbeats 1000000 in
theorem access_43 (rd rs1 rs2 imm a : Int) (w : World) (hv : -2147483648 ≤ imm) (hv' : imm ≤ 2147483647) (a1 : 0 ≤ a) (a2 : a < 4294967296) (h : mayB 43 rd rs1 rs2 imm = true) :
    Calls Tryz.prog 27 #[.agg #[.int .i64 43, .int .i64 rd, .int .i64 rs1, .int .i64 rs2, .int .i32 imm], .int .u32 a] w fun e w' => e = .returned (.tuple #[.int .u32 (accA 43 a imm), .int .i64 (accN 43), .bool (accS 43), .bool (accG 43)]) ∧ Nx w w' := by
  have HV : Hid (accA 43 a imm = 0) := rfl
  have H1 : Hid (accN 43 = 0) := rfl
  have H2 : Hid (accS 43 = false) := rfl
  have H3 : Hid (accG 43 = false) := rfl
  go_enter Tryz.func27, Tryz.ntmps27
  go_wp2_with fail
  refine (may_any _ _ _ _ _ _ hv hv').mono ?_
  rintro e w1 ⟨rfl, hn1⟩
  obtain ⟨c0, c1, c2, c3, c4, hz⟩ := five_in hn1
  have HN := Lib.hid (((Nx.refl w).alloc _).trans hn1)
  clear hn1
  go_wp2
  refine bodyPost_ret (v := .tuple #[.int .u32 (0), .int .i64 0, .bool false, .bool false]) (by simp [results, Tryz.results27, go_sem]) rfl ⟨ret4 HV.out.symm H1.out.symm H2.out.symm H3.out.symm, HN.out⟩

set_option maxHeartbeats 1000000 in
theorem access_44 (rd rs1 rs2 imm a : Int) (w : World) (hv : -2147483648 ≤ imm) (hv' : imm ≤ 2147483647) (a1 : 0 ≤ a) (a2 : a < 4294967296) (h : mayB 44 rd rs1 rs2 imm = true) :
    Calls Tryz.prog 27 #[.agg #[.int .i64 44, .int .i64 rd, .int .i64 rs1, .int .i64 rs2, .int .i32 imm], .int .u32 a] w fun e w' => e = .returned (.tuple #[.int .u32 (accA 44 a imm), .int .i64 (accN 44), .bool (accS 44), .bool (accG 44)]) ∧ Nx w w' := by
  have HV : Hid (accA 44 a imm = 0) := rfl
  have H1 : Hid (accN 44 = 0) := rfl
  have H2 : Hid (accS 44 = false) := rfl
  have H3 : Hid (accG 44 = false) := rfl
  go_enter Tryz.func27, Tryz.ntmps27
  go_wp2_with fail
  refine (may_any _ _ _ _ _ _ hv hv').mono ?_
  rintro e w1 ⟨rfl, hn1⟩
  obtain ⟨c0, c1, c2, c3, c4, hz⟩ := five_in hn1
  have HN := Lib.hid (((Nx.refl w).alloc _).trans hn1)
  clear hn1
  go_wp2
  refine bodyPost_ret (v := .tuple #[.int .u32 (0), .int .i64 0, .bool false, .bool false]) (by simp [results, Tryz.results27, go_sem]) rfl ⟨ret4 HV.out.symm H1.out.symm H2.out.symm H3.out.symm, HN.out⟩

set_option maxHeartbeats 1000000 in
theorem access_45 (rd rs1 rs2 imm a : Int) (w : World) (hv : -2147483648 ≤ imm) (hv' : imm ≤ 2147483647) (a1 : 0 ≤ a) (a2 : a < 4294967296) (h : mayB 45 rd rs1 rs2 imm = true) :
    Calls Tryz.prog 27 #[.agg #[.int .i64 45, .int .i64 rd, .int .i64 rs1, .int .i64 rs2, .int .i32 imm], .int .u32 a] w fun e w' => e = .returned (.tuple #[.int .u32 (accA 45 a imm), .int .i64 (accN 45), .bool (accS 45), .bool (accG 45)]) ∧ Nx w w' := by
  have HV : Hid (accA 45 a imm = 0) := rfl
  have H1 : Hid (accN 45 = 0) := rfl
  have H2 : Hid (accS 45 = false) := rfl
  have H3 : Hid (accG 45 = false) := rfl
  go_enter Tryz.func27, Tryz.ntmps27
  go_wp2_with fail
  refine (may_any _ _ _ _ _ _ hv hv').mono ?_
  rintro e w1 ⟨rfl, hn1⟩
  obtain ⟨c0, c1, c2, c3, c4, hz⟩ := five_in hn1
  have HN := Lib.hid (((Nx.refl w).alloc _).trans hn1)
  clear hn1
  go_wp2
  refine bodyPost_ret (v := .tuple #[.int .u32 (0), .int .i64 0, .bool false, .bool false]) (by simp [results, Tryz.results27, go_sem]) rfl ⟨ret4 HV.out.symm H1.out.symm H2.out.symm H3.out.symm, HN.out⟩

set_option maxHeartbeats 1000000 in
theorem access_46 (rd rs1 rs2 imm a : Int) (w : World) (hv : -2147483648 ≤ imm) (hv' : imm ≤ 2147483647) (a1 : 0 ≤ a) (a2 : a < 4294967296) (h : mayB 46 rd rs1 rs2 imm = true) :
    Calls Tryz.prog 27 #[.agg #[.int .i64 46, .int .i64 rd, .int .i64 rs1, .int .i64 rs2, .int .i32 imm], .int .u32 a] w fun e w' => e = .returned (.tuple #[.int .u32 (accA 46 a imm), .int .i64 (accN 46), .bool (accS 46), .bool (accG 46)]) ∧ Nx w w' := by
  have HV : Hid (accA 46 a imm = 0) := rfl
  have H1 : Hid (accN 46 = 0) := rfl
  have H2 : Hid (accS 46 = false) := rfl
  have H3 : Hid (accG 46 = false) := rfl
  go_enter Tryz.func27, Tryz.ntmps27
  go_wp2_with fail
  refine (may_any _ _ _ _ _ _ hv hv').mono ?_
  rintro e w1 ⟨rfl, hn1⟩
  obtain ⟨c0, c1, c2, c3, c4, hz⟩ := five_in hn1
  have HN := Lib.hid (((Nx.refl w).alloc _).trans hn1)
  clear hn1
  go_wp2
  refine bodyPost_ret (v := .tuple #[.int .u32 (0), .int .i64 0, .bool false, .bool false]) (by simp [results, Tryz.results27, go_sem]) rfl ⟨ret4 HV.out.symm H1.out.symm H2.out.symm H3.out.symm, HN.out⟩

set_option maxHeartbeats 1000000 in
theorem access_47 (rd rs1 rs2 imm a : Int) (w : World) (hv : -2147483648 ≤ imm) (hv' : imm ≤ 2147483647) (a1 : 0 ≤ a) (a2 : a < 4294967296) (h : mayB 47 rd rs1 rs2 imm = true) :
    Calls Tryz.prog 27 #[.agg #[.int .i64 47, .int .i64 rd, .int .i64 rs1, .int .i64 rs2, .int .i32 imm], .int .u32 a] w fun e w' => e = .returned (.tuple #[.int .u32 (accA 47 a imm), .int .i64 (accN 47), .bool (accS 47), .bool (accG 47)]) ∧ Nx w w' := by
  have HV : Hid (accA 47 a imm = 0) := rfl
  have H1 : Hid (accN 47 = 0) := rfl
  have H2 : Hid (accS 47 = false) := rfl
  have H3 : Hid (accG 47 = false) := rfl
  go_enter Tryz.func27, Tryz.ntmps27
  go_wp2_with fail
  refine (may_any _ _ _ _ _ _ hv hv').mono ?_
  rintro e w1 ⟨rfl, hn1⟩
  obtain ⟨c0, c1, c2, c3, c4, hz⟩ := five_in hn1
  have HN := Lib.hid (((Nx.refl w).alloc _).trans hn1)
  clear hn1
  go_wp2
  refine bodyPost_ret (v := .tuple #[.int .u32 (0), .int .i64 0, .bool false, .bool false]) (by simp [results, Tryz.results27, go_sem]) rfl ⟨ret4 HV.out.symm H1.out.symm H2.out.symm H3.out.symm, HN.out⟩

set_option maxHeartbeats 1000000 in
theorem access_48 (rd rs1 rs2 imm a : Int) (w : World) (hv : -2147483648 ≤ imm) (hv' : imm ≤ 2147483647) (a1 : 0 ≤ a) (a2 : a < 4294967296) (h : mayB 48 rd rs1 rs2 imm = true) :
    Calls Tryz.prog 27 #[.agg #[.int .i64 48, .int .i64 rd, .int .i64 rs1, .int .i64 rs2, .int .i32 imm], .int .u32 a] w fun e w' => e = .returned (.tuple #[.int .u32 (accA 48 a imm), .int .i64 (accN 48), .bool (accS 48), .bool (accG 48)]) ∧ Nx w w' := by
  have HV : Hid (accA 48 a imm = 0) := rfl
  have H1 : Hid (accN 48 = 0) := rfl
  have H2 : Hid (accS 48 = false) := rfl
  have H3 : Hid (accG 48 = false) := rfl
  go_enter Tryz.func27, Tryz.ntmps27
  go_wp2_with fail
  refine (may_any _ _ _ _ _ _ hv hv').mono ?_
  rintro e w1 ⟨rfl, hn1⟩
  obtain ⟨c0, c1, c2, c3, c4, hz⟩ := five_in hn1
  have HN := Lib.hid (((Nx.refl w).alloc _).trans hn1)
  clear hn1
  go_wp2
  refine bodyPost_ret (v := .tuple #[.int .u32 (0), .int .i64 0, .bool false, .bool false]) (by simp [results, Tryz.results27, go_sem]) rfl ⟨ret4 HV.out.symm H1.out.symm H2.out.symm H3.out.symm, HN.out⟩

end Go.Proofs.YtndpgakjpokllaaGreat

/- Contracts of package exec, whatever the instruction. -/
namespace Go.Proofs.YtndpgakjpokllaaGreat
open Go.RowKit
set_option linter.unusedVariables false
set_option linter.unusedSimpArgs false

theorem may_op (op rd rs1 rs2 imm : Int) (h : mayB op rd rs1 rs2 imm = true) : 1 ≤ op ∧ op ≤ 48 := by
  simp only [mayB, Bool.and_eq_true] at h
  have hf : ¬ formN op = 0 := by simpa using h.1
  have hop : ¬ (op < 1 ∨ 48 < op) := fun c => hf (formN_far op c)
  omega

def valX (may : Bool) (op a b pc imm size : Int) : Int := if may = true ∧ valO op = true then valV op a b pc imm size else 0

set_option maxHeartbeats 1000000 in
theorem value_no (rd rs1 rs2 imm a b pc size : Int) (w : World) (hv : -2147483648 ≤ imm) (hv' : imm ≤ 2147483647) (a1 : 0 ≤ a) (a2 : a < 4294967296) (b1 : 0 ≤ b) (b2 : b < 4294967296) (p1 : 0 ≤ pc) (p2 : pc < 4294967296) (op : Int) (h : mayB op rd rs1 rs2 imm = false) :
    Calls Tryz.prog 32 #[.agg #[.int .i64 op, .int .i64 rd, .int .i64 rs1, .int .i64 rs2, .int .i32 imm], .int .u32 a, .int .u32 b, .int .u32 pc, .int .i64 size] w fun e w' => e = .returned (.tuple #[.int .u32 0, .bool false]) ∧ Nx w w' := by
  go_enter Tryz.func32, Tryz.ntmps32
  go_wp2_with fail
  refine (may_any _ _ _ _ _ _ hv hv').mono ?_
  rintro e w1 ⟨rfl, hn1⟩
  obtain ⟨c0, c1, c2, c3, c4, hz⟩ := five_in hn1
  have HN := Lib.hid (((Nx.refl w).alloc _).trans hn1)
  clear hn1
  go_wp2
  go_ret2
  exact ⟨rfl, HN.out⟩

theorem value_any (op : Int) (rd rs1 rs2 imm a b pc size : Int) (w : World) (hv : -2147483648 ≤ imm) (hv' : imm ≤ 2147483647) (a1 : 0 ≤ a) (a2 : a < 4294967296) (b1 : 0 ≤ b) (b2 : b < 4294967296) (p1 : 0 ≤ pc) (p2 : pc < 4294967296) :
    Calls Tryz.prog 32 #[.agg #[.int .i64 op, .int .i64 rd, .int .i64 rs1, .int .i64 rs2, .int .i32 imm], .int .u32 a, .int .u32 b, .int .u32 pc, .int .i64 size] w fun e w' => e = .returned (.tuple #[.int .u32 (valX (mayB op rd rs1 rs2 imm) op a b pc imm size), .bool (mayB op rd rs1 rs2 imm && valO op)]) ∧ Nx w w' := by
  unfold valX
  cases h : mayB op rd rs1 rs2 imm
  · exact value_no rd rs1 rs2 imm a b pc size w hv hv' a1 a2 b1 b2 p1 p2 op h
  · obtain ⟨o1, o2⟩ := may_op op rd rs1 rs2 imm h
    rcases (by omega : op = 1 ∨ op = 2 ∨ op = 3 ∨ op = 4 ∨ op = 5 ∨ op = 6 ∨ op = 7 ∨ op = 8 ∨ op = 9 ∨ op = 10 ∨ op = 11 ∨ op = 12 ∨ op = 13 ∨ op = 14 ∨ op = 15 ∨ op = 16 ∨ op = 17 ∨ op = 18 ∨ op = 19 ∨ op = 20 ∨ op = 21 ∨ op = 22 ∨ op = 23 ∨ op = 24 ∨ op = 25 ∨ op = 26 ∨ op = 27 ∨ op = 28 ∨ op = 29 ∨ op = 30 ∨ op = 31 ∨ op = 32 ∨ op = 33 ∨ op = 34 ∨ op = 35 ∨ op = 36 ∨ op = 37 ∨ op = 38 ∨ op = 39 ∨ op = 40 ∨ op = 41 ∨ op = 42 ∨ op = 43 ∨ op = 44 ∨ op = 45 ∨ op = 46 ∨ op = 47 ∨ op = 48) with rfl | rfl | rfl | rfl | rfl | rfl | rfl | rfl | rfl | rfl | rfl | rfl | rfl | rfl | rfl | rfl | rfl | rfl | rfl | rfl | rfl | rfl | rfl | rfl | rfl | rfl | rfl | rfl | rfl | rfl | rfl | rfl | rfl | rfl | rfl | rfl | rfl | rfl | rfl | rfl | rfl | rfl | rfl | rfl | rfl | rfl | rfl | rfl
    · exact value_1 rd rs1 rs2 imm a b pc size w hv hv' a1 a2 b1 b2 p1 p2 h
    · exact value_2 rd rs1 rs2 imm a b pc size w hv hv' a1 a2 b1 b2 p1 p2 h
    · exact value_3 rd rs1 rs2 imm a b pc size w hv hv' a1 a2 b1 b2 p1 p2 h
    · exact value_4 rd rs1 rs2 imm a b pc size w hv hv' a1 a2 b1 b2 p1 p2 h
    · exact value_5 rd rs1 rs2 imm a b pc size w hv hv' a1 a2 b1 b2 p1 p2 h
    · exact value_6 rd rs1 rs2 imm a b pc size w hv hv' a1 a2 b1 b2 p1 p2 h
    · exact value_7 rd rs1 rs2 imm a b pc size w hv hv' a1 a2 b1 b2 p1 p2 h
    · exact value_8 rd rs1 rs2 imm a b pc size w hv hv' a1 a2 b1 b2 p1 p2 h
    · exact value_9 rd rs1 rs2 imm a b pc size w hv hv' a1 a2 b1 b2 p1 p2 h
    · exact value_10 rd rs1 rs2 imm a b pc size w hv hv' a1 a2 b1 b2 p1 p2 h
    · exact value_11 rd rs1 rs2 imm a b pc size w hv hv' a1 a2 b1 b2 p1 p2 h
    · exact value_12 rd rs1 rs2 imm a b pc size w hv hv' a1 a2 b1 b2 p1 p2 h
    · exact value_13 rd rs1 rs2 imm a b pc size w hv hv' a1 a2 b1 b2 p1 p2 h
    · exact value_14 rd rs1 rs2 imm a b pc size w hv hv' a1 a2 b1 b2 p1 p2 h
    · exact value_15 rd rs1 rs2 imm a b pc size w hv hv' a1 a2 b1 b2 p1 p2 h
    · exact value_16 rd rs1 rs2 imm a b pc size w hv hv' a1 a2 b1 b2 p1 p2 h
    · exact value_17 rd rs1 rs2 imm a b pc size w hv hv' a1 a2 b1 b2 p1 p2 h
    · exact value_18 rd rs1 rs2 imm a b pc size w hv hv' a1 a2 b1 b2 p1 p2 h
    · exact value_19 rd rs1 rs2 imm a b pc size w hv hv' a1 a2 b1 b2 p1 p2 h
    · exact value_20 rd rs1 rs2 imm a b pc size w hv hv' a1 a2 b1 b2 p1 p2 h
    · exact value_21 rd rs1 rs2 imm a b pc size w hv hv' a1 a2 b1 b2 p1 p2 h
    · exact value_22 rd rs1 rs2 imm a b pc size w hv hv' a1 a2 b1 b2 p1 p2 h
    · exact value_23 rd rs1 rs2 imm a b pc size w hv hv' a1 a2 b1 b2 p1 p2 h
    · exact value_24 rd rs1 rs2 imm a b pc size w hv hv' a1 a2 b1 b2 p1 p2 h
    · exact value_25 rd rs1 rs2 imm a b pc size w hv hv' a1 a2 b1 b2 p1 p2 h
    · exact value_26 rd rs1 rs2 imm a b pc size w hv hv' a1 a2 b1 b2 p1 p2 h
    · exact value_27 rd rs1 rs2 imm a b pc size w hv hv' a1 a2 b1 b2 p1 p2 h
    · exact value_28 rd rs1 rs2 imm a b pc size w hv hv' a1 a2 b1 b2 p1 p2 h
    · exact value_29 rd rs1 rs2 imm a b pc size w hv hv' a1 a2 b1 b2 p1 p2 h
    · exact value_30 rd rs1 rs2 imm a b pc size w hv hv' a1 a2 b1 b2 p1 p2 h
    · exact value_31 rd rs1 rs2 imm a b pc size w hv hv' a1 a2 b1 b2 p1 p2 h
    · exact value_32 rd rs1 rs2 imm a b pc size w hv hv' a1 a2 b1 b2 p1 p2 h
    · exact value_33 rd rs1 rs2 imm a b pc size w hv hv' a1 a2 b1 b2 p1 p2 h
    · exact value_34 rd rs1 rs2 imm a b pc size w hv hv' a1 a2 b1 b2 p1 p2 h
    · exact value_35 rd rs1 rs2 imm a b pc size w hv hv' a1 a2 b1 b2 p1 p2 h
    · exact value_36 rd rs1 rs2 imm a b pc size w hv hv' a1 a2 b1 b2 p1 p2 h
    · exact value_37 rd rs1 rs2 imm a b pc size w hv hv' a1 a2 b1 b2 p1 p2 h
    · exact value_38 rd rs1 rs2 imm a b pc size w hv hv' a1 a2 b1 b2 p1 p2 h
    · exact value_39 rd rs1 rs2 imm a b pc size w hv hv' a1 a2 b1 b2 p1 p2 h
    · exact value_40 rd rs1 rs2 imm a b pc size w hv hv' a1 a2 b1 b2 p1 p2 h
    · exact value_41 rd rs1 rs2 imm a b pc size w hv hv' a1 a2 b1 b2 p1 p2 h
    · exact value_42 rd rs1 rs2 imm a b pc size w hv hv' a1 a2 b1 b2 p1 p2 h
    · exact value_43 rd rs1 rs2 imm a b pc size w hv hv' a1 a2 b1 b2 p1 p2 h
    · exact value_44 rd rs1 rs2 imm a b pc size w hv hv' a1 a2 b1 b2 p1 p2 h
    · exact value_45 rd rs1 rs2 imm a b pc size w hv hv' a1 a2 b1 b2 p1 p2 h
    · exact value_46 rd rs1 rs2 imm a b pc size w hv hv' a1 a2 b1 b2 p1 p2 h
    · exact value_47 rd rs1 rs2 imm a b pc size w hv hv' a1 a2 b1 b2 p1 p2 h
    · exact value_48 rd rs1 rs2 imm a b pc size w hv hv' a1 a2 b1 b2 p1 p2 h

def nextX (may : Bool) (op a b pc imm size : Int) : Int := if may = true then nextV op a b pc imm size else (pc + size % 4294967296) % 4294967296

set_option maxHeartbeats 1000000 in
theorem next_no (rd rs1 rs2 imm a b pc size : Int) (w : World) (hv : -2147483648 ≤ imm) (hv' : imm ≤ 2147483647) (a1 : 0 ≤ a) (a2 : a < 4294967296) (b1 : 0 ≤ b) (b2 : b < 4294967296) (p1 : 0 ≤ pc) (p2 : pc < 4294967296) (op : Int) (h : mayB op rd rs1 rs2 imm = false) :
    Calls Tryz.prog 33 #[.agg #[.int .i64 op, .int .i64 rd, .int .i64 rs1, .int .i64 rs2, .int .i32 imm], .int .u32 a, .int .u32 b, .int .u32 pc, .int .i64 size] w fun e w' => e = .returned (.int .u32 ((pc + size % 4294967296) % 4294967296)) ∧ Nx w w' := by
  go_enter Tryz.func33, Tryz.ntmps33
  go_wp2_with fail
  refine (may_any _ _ _ _ _ _ hv hv').mono ?_
  rintro e w1 ⟨rfl, hn1⟩
  obtain ⟨c0, c1, c2, c3, c4, hz⟩ := five_in hn1
  have HN := Lib.hid (((Nx.refl w).alloc _).trans hn1)
  clear hn1
  go_wp2
  go_ret
  exact ⟨ret_u32 (by first | rfl | omega), HN.out⟩

theorem next_any (op : Int) (rd rs1 rs2 imm a b pc size : Int) (w : World) (hv : -2147483648 ≤ imm) (hv' : imm ≤ 2147483647) (a1 : 0 ≤ a) (a2 : a < 4294967296) (b1 : 0 ≤ b) (b2 : b < 4294967296) (p1 : 0 ≤ pc) (p2 : pc < 4294967296) :
    Calls Tryz.prog 33 #[.agg #[.int .i64 op, .int .i64 rd, .int .i64 rs1, .int .i64 rs2, .int .i32 imm], .int .u32 a, .int .u32 b, .int .u32 pc, .int .i64 size] w fun e w' => e = .returned (.int .u32 (nextX (mayB op rd rs1 rs2 imm) op a b pc imm size)) ∧ Nx w w' := by
  unfold nextX
  cases h : mayB op rd rs1 rs2 imm
  · exact next_no rd rs1 rs2 imm a b pc size w hv hv' a1 a2 b1 b2 p1 p2 op h
  · obtain ⟨o1, o2⟩ := may_op op rd rs1 rs2 imm h
    rcases (by omega : op = 1 ∨ op = 2 ∨ op = 3 ∨ op = 4 ∨ op = 5 ∨ op = 6 ∨ op = 7 ∨ op = 8 ∨ op = 9 ∨ op = 10 ∨ op = 11 ∨ op = 12 ∨ op = 13 ∨ op = 14 ∨ op = 15 ∨ op = 16 ∨ op = 17 ∨ op = 18 ∨ op = 19 ∨ op = 20 ∨ op = 21 ∨ op = 22 ∨ op = 23 ∨ op = 24 ∨ op = 25 ∨ op = 26 ∨ op = 27 ∨ op = 28 ∨ op = 29 ∨ op = 30 ∨ op = 31 ∨ op = 32 ∨ op = 33 ∨ op = 34 ∨ op = 35 ∨ op = 36 ∨ op = 37 ∨ op = 38 ∨ op = 39 ∨ op = 40 ∨ op = 41 ∨ op = 42 ∨ op = 43 ∨ op = 44 ∨ op = 45 ∨ op = 46 ∨ op = 47 ∨ op = 48) with rfl | rfl | rfl | rfl | rfl | rfl | rfl | rfl | rfl | rfl | rfl | rfl | rfl | rfl | rfl | rfl | rfl | rfl | rfl | rfl | rfl | rfl | rfl | rfl | rfl | rfl | rfl | rfl | rfl | rfl | rfl | rfl | rfl | rfl | rfl | rfl | rfl | rfl | rfl | rfl | rfl | rfl | rfl | rfl | rfl | rfl | rfl | rfl
    · exact next_1 rd rs1 rs2 imm a b pc size w hv hv' a1 a2 b1 b2 p1 p2 h
    · exact next_2 rd rs1 rs2 imm a b pc size w hv hv' a1 a2 b1 b2 p1 p2 h
    · exact next_3 rd rs1 rs2 imm a b pc size w hv hv' a1 a2 b1 b2 p1 p2 h
    · exact next_4 rd rs1 rs2 imm a b pc size w hv hv' a1 a2 b1 b2 p1 p2 h
    · exact next_5 rd rs1 rs2 imm a b pc size w hv hv' a1 a2 b1 b2 p1 p2 h
    · exact next_6 rd rs1 rs2 imm a b pc size w hv hv' a1 a2 b1 b2 p1 p2 h
    · exact next_7 rd rs1 rs2 imm a b pc size w hv hv' a1 a2 b1 b2 p1 p2 h
    · exact next_8 rd rs1 rs2 imm a b pc size w hv hv' a1 a2 b1 b2 p1 p2 h
    · exact next_9 rd rs1 rs2 imm a b pc size w hv hv' a1 a2 b1 b2 p1 p2 h
    · exact next_10 rd rs1 rs2 imm a b pc size w hv hv' a1 a2 b1 b2 p1 p2 h
    · exact next_11 rd rs1 rs2 imm a b pc size w hv hv' a1 a2 b1 b2 p1 p2 h
    · exact next_12 rd rs1 rs2 imm a b pc size w hv hv' a1 a2 b1 b2 p1 p2 h
    · exact next_13 rd rs1 rs2 imm a b pc size w hv hv' a1 a2 b1 b2 p1 p2 h
    · exact next_14 rd rs1 rs2 imm a b pc size w hv hv' a1 a2 b1 b2 p1 p2 h
    · exact next_15 rd rs1 rs2 imm a b pc size w hv hv' a1 a2 b1 b2 p1 p2 h
    · exact next_16 rd rs1 rs2 imm a b pc size w hv hv' a1 a2 b1 b2 p1 p2 h
    · exact next_17 rd rs1 rs2 imm a b pc size w hv hv' a1 a2 b1 b2 p1 p2 h
    · exact next_18 rd rs1 rs2 imm a b pc size w hv hv' a1 a2 b1 b2 p1 p2 h
    · exact next_19 rd rs1 rs2 imm a b pc size w hv hv' a1 a2 b1 b2 p1 p2 h
    · exact next_20 rd rs1 rs2 imm a b pc size w hv hv' a1 a2 b1 b2 p1 p2 h
    · exact next_21 rd rs1 rs2 imm a b pc size w hv hv' a1 a2 b1 b2 p1 p2 h
    · exact next_22 rd rs1 rs2 imm a b pc size w hv hv' a1 a2 b1 b2 p1 p2 h
    · exact next_23 rd rs1 rs2 imm a b pc size w hv hv' a1 a2 b1 b2 p1 p2 h
    · exact next_24 rd rs1 rs2 imm a b pc size w hv hv' a1 a2 b1 b2 p1 p2 h
    · exact next_25 rd rs1 rs2 imm a b pc size w hv hv' a1 a2 b1 b2 p1 p2 h
    · exact next_26 rd rs1 rs2 imm a b pc size w hv hv' a1 a2 b1 b2 p1 p2 h
    · exact next_27 rd rs1 rs2 imm a b pc size w hv hv' a1 a2 b1 b2 p1 p2 h
    · exact next_28 rd rs1 rs2 imm a b pc size w hv hv' a1 a2 b1 b2 p1 p2 h
    · exact next_29 rd rs1 rs2 imm a b pc size w hv hv' a1 a2 b1 b2 p1 p2 h
    · exact next_30 rd rs1 rs2 imm a b pc size w hv hv' a1 a2 b1 b2 p1 p2 h
    · exact next_31 rd rs1 rs2 imm a b pc size w hv hv' a1 a2 b1 b2 p1 p2 h
    · exact next_32 rd rs1 rs2 imm a b pc size w hv hv' a1 a2 b1 b2 p1 p2 h
    · exact next_33 rd rs1 rs2 imm a b pc size w hv hv' a1 a2 b1 b2 p1 p2 h
    · exact next_34 rd rs1 rs2 imm a b pc size w hv hv' a1 a2 b1 b2 p1 p2 h
    · exact next_35 rd rs1 rs2 imm a b pc size w hv hv' a1 a2 b1 b2 p1 p2 h
    · exact next_36 rd rs1 rs2 imm a b pc size w hv hv' a1 a2 b1 b2 p1 p2 h
    · exact next_37 rd rs1 rs2 imm a b pc size w hv hv' a1 a2 b1 b2 p1 p2 h
    · exact next_38 rd rs1 rs2 imm a b pc size w hv hv' a1 a2 b1 b2 p1 p2 h
    · exact next_39 rd rs1 rs2 imm a b pc size w hv hv' a1 a2 b1 b2 p1 p2 h
    · exact next_40 rd rs1 rs2 imm a b pc size w hv hv' a1 a2 b1 b2 p1 p2 h
    · exact next_41 rd rs1 rs2 imm a b pc size w hv hv' a1 a2 b1 b2 p1 p2 h
    · exact next_42 rd rs1 rs2 imm a b pc size w hv hv' a1 a2 b1 b2 p1 p2 h
    · exact next_43 rd rs1 rs2 imm a b pc size w hv hv' a1 a2 b1 b2 p1 p2 h
    · exact next_44 rd rs1 rs2 imm a b pc size w hv hv' a1 a2 b1 b2 p1 p2 h
    · exact next_45 rd rs1 rs2 imm a b pc size w hv hv' a1 a2 b1 b2 p1 p2 h
    · exact next_46 rd rs1 rs2 imm a b pc size w hv hv' a1 a2 b1 b2 p1 p2 h
    · exact next_47 rd rs1 rs2 imm a b pc size w hv hv' a1 a2 b1 b2 p1 p2 h
    · exact next_48 rd rs1 rs2 imm a b pc size w hv hv' a1 a2 b1 b2 p1 p2 h

def accX (may : Bool) (op a imm : Int) : Int := if may = true then accA op a imm else 0

def accXN (may : Bool) (op : Int) : Int := if may = true then accN op else 0

set_option maxHeartbeats 1000000 in
theorem access_no (rd rs1 rs2 imm a : Int) (w : World) (hv : -2147483648 ≤ imm) (hv' : imm ≤ 2147483647) (a1 : 0 ≤ a) (a2 : a < 4294967296) (op : Int) (h : mayB op rd rs1 rs2 imm = false) :
    Calls Tryz.prog 27 #[.agg #[.int .i64 op, .int .i64 rd, .int .i64 rs1, .int .i64 rs2, .int .i32 imm], .int .u32 a] w fun e w' => e = .returned (.tuple #[.int .u32 0, .int .i64 0, .bool false, .bool false]) ∧ Nx w w' := by
  go_enter Tryz.func27, Tryz.ntmps27
  go_wp2_with fail
  refine (may_any _ _ _ _ _ _ hv hv').mono ?_
  rintro e w1 ⟨rfl, hn1⟩
  obtain ⟨c0, c1, c2, c3, c4, hz⟩ := five_in hn1
  have HN := Lib.hid (((Nx.refl w).alloc _).trans hn1)
  clear hn1
  go_wp2
  refine bodyPost_ret (v := .tuple #[.int .u32 0, .int .i64 0, .bool false, .bool false]) (by simp [results, Tryz.results27, go_sem]) rfl ⟨rfl, HN.out⟩

theorem access_any (op : Int) (rd rs1 rs2 imm a : Int) (w : World) (hv : -2147483648 ≤ imm) (hv' : imm ≤ 2147483647) (a1 : 0 ≤ a) (a2 : a < 4294967296) :
    Calls Tryz.prog 27 #[.agg #[.int .i64 op, .int .i64 rd, .int .i64 rs1, .int .i64 rs2, .int .i32 imm], .int .u32 a] w fun e w' => e = .returned (.tuple #[.int .u32 (accX (mayB op rd rs1 rs2 imm) op a imm), .int .i64 (accXN (mayB op rd rs1 rs2 imm) op), .bool (mayB op rd rs1 rs2 imm && accS op), .bool (mayB op rd rs1 rs2 imm && accG op)]) ∧ Nx w w' := by
  unfold accX accXN
  cases h : mayB op rd rs1 rs2 imm
  · exact access_no rd rs1 rs2 imm a w hv hv' a1 a2 op h
  · obtain ⟨o1, o2⟩ := may_op op rd rs1 rs2 imm h
    rcases (by omega : op = 1 ∨ op = 2 ∨ op = 3 ∨ op = 4 ∨ op = 5 ∨ op = 6 ∨ op = 7 ∨ op = 8 ∨ op = 9 ∨ op = 10 ∨ op = 11 ∨ op = 12 ∨ op = 13 ∨ op = 14 ∨ op = 15 ∨ op = 16 ∨ op = 17 ∨ op = 18 ∨ op = 19 ∨ op = 20 ∨ op = 21 ∨ op = 22 ∨ op = 23 ∨ op = 24 ∨ op = 25 ∨ op = 26 ∨ op = 27 ∨ op = 28 ∨ op = 29 ∨ op = 30 ∨ op = 31 ∨ op = 32 ∨ op = 33 ∨ op = 34 ∨ op = 35 ∨ op = 36 ∨ op = 37 ∨ op = 38 ∨ op = 39 ∨ op = 40 ∨ op = 41 ∨ op = 42 ∨ op = 43 ∨ op = 44 ∨ op = 45 ∨ op = 46 ∨ op = 47 ∨ op = 48) with rfl | rfl | rfl | rfl | rfl | rfl | rfl | rfl | rfl | rfl | rfl | rfl | rfl | rfl | rfl | rfl | rfl | rfl | rfl | rfl | rfl | rfl | rfl | rfl | rfl | rfl | rfl | rfl | rfl | rfl | rfl | rfl | rfl | rfl | rfl | rfl | rfl | rfl | rfl | rfl | rfl | rfl | rfl | rfl | rfl | rfl | rfl | rfl
    · exact access_1 rd rs1 rs2 imm a w hv hv' a1 a2 h
    · exact access_2 rd rs1 rs2 imm a w hv hv' a1 a2 h
    · exact access_3 rd rs1 rs2 imm a w hv hv' a1 a2 h
    · exact access_4 rd rs1 rs2 imm a w hv hv' a1 a2 h
    · exact access_5 rd rs1 rs2 imm a w hv hv' a1 a2 h
    · exact access_6 rd rs1 rs2 imm a w hv hv' a1 a2 h
    · exact access_7 rd rs1 rs2 imm a w hv hv' a1 a2 h
    · exact access_8 rd rs1 rs2 imm a w hv hv' a1 a2 h
    · exact access_9 rd rs1 rs2 imm a w hv hv' a1 a2 h
    · exact access_10 rd rs1 rs2 imm a w hv hv' a1 a2 h
    · exact access_11 rd rs1 rs2 imm a w hv hv' a1 a2 h
    · exact access_12 rd rs1 rs2 imm a w hv hv' a1 a2 h
    · exact access_13 rd rs1 rs2 imm a w hv hv' a1 a2 h
    · exact access_14 rd rs1 rs2 imm a w hv hv' a1 a2 h
    · exact access_15 rd rs1 rs2 imm a w hv hv' a1 a2 h
    · exact access_16 rd rs1 rs2 imm a w hv hv' a1 a2 h
    · exact access_17 rd rs1 rs2 imm a w hv hv' a1 a2 h
    · exact access_18 rd rs1 rs2 imm a w hv hv' a1 a2 h
    · exact access_19 rd rs1 rs2 imm a w hv hv' a1 a2 h
    · exact access_20 rd rs1 rs2 imm a w hv hv' a1 a2 h
    · exact access_21 rd rs1 rs2 imm a w hv hv' a1 a2 h
    · exact access_22 rd rs1 rs2 imm a w hv hv' a1 a2 h
    · exact access_23 rd rs1 rs2 imm a w hv hv' a1 a2 h
    · exact access_24 rd rs1 rs2 imm a w hv hv' a1 a2 h
    · exact access_25 rd rs1 rs2 imm a w hv hv' a1 a2 h
    · exact access_26 rd rs1 rs2 imm a w hv hv' a1 a2 h
    · exact access_27 rd rs1 rs2 imm a w hv hv' a1 a2 h
    · exact access_28 rd rs1 rs2 imm a w hv hv' a1 a2 h
    · exact access_29 rd rs1 rs2 imm a w hv hv' a1 a2 h
    · exact access_30 rd rs1 rs2 imm a w hv hv' a1 a2 h
    · exact access_31 rd rs1 rs2 imm a w hv hv' a1 a2 h
    · exact access_32 rd rs1 rs2 imm a w hv hv' a1 a2 h
    · exact access_33 rd rs1 rs2 imm a w hv hv' a1 a2 h
    · exact access_34 rd rs1 rs2 imm a w hv hv' a1 a2 h
    · exact access_35 rd rs1 rs2 imm a w hv hv' a1 a2 h
    · exact access_36 rd rs1 rs2 imm a w hv hv' a1 a2 h
    · exact access_37 rd rs1 rs2 imm a w hv hv' a1 a2 h
    · exact access_38 rd rs1 rs2 imm a w hv hv' a1 a2 h
    · exact access_39 rd rs1 rs2 imm a w hv hv' a1 a2 h
    · exact access_40 rd rs1 rs2 imm a w hv hv' a1 a2 h
    · exact access_41 rd rs1 rs2 imm a w hv hv' a1 a2 h
    · exact access_42 rd rs1 rs2 imm a w hv hv' a1 a2 h
    · exact access_43 rd rs1 rs2 imm a w hv hv' a1 a2 h
    · exact access_44 rd rs1 rs2 imm a w hv hv' a1 a2 h
    · exact access_45 rd rs1 rs2 imm a w hv hv' a1 a2 h
    · exact access_46 rd rs1 rs2 imm a w hv hv' a1 a2 h
    · exact access_47 rd rs1 rs2 imm a w hv hv' a1 a2 h
    · exact access_48 rd rs1 rs2 imm a w hv hv' a1 a2 h

end Go.Proofs.YtndpgakjpokllaaGreat

/- Contracts of package wide: a word's parts, its operation, its instruction. -/
namespace Go.Proofs.YtndpgakjpokllaaGreat
open Go.RowKit
set_option linter.unusedVariables false

set_option maxHeartbeats 400000 in
theorem split_anyW (x : Int) (w : World) (hx : 0 ≤ x) (hx' : x < 4294967296) :
    Calls Tryz.prog 165 #[.int .u32 x] w fun e w' => e = .returned (.agg #[.int .u32 (fld x 0 7), .int .u32 (fld x 12 3), .int .u32 (fld x 25 7), .int .i64 (fld x 7 5), .int .i64 (fld x 15 5), .int .i64 (fld x 20 5)]) ∧ Nx w w' := by
  have a1 := fld_nonneg x 7 5
  have a2 := fld_u32 x 7 5 (by omega)
  have b1 := fld_nonneg x 15 5
  have b2 := fld_u32 x 15 5 (by omega)
  have c1 := fld_nonneg x 20 5
  have c2 := fld_u32 x 20 5 (by omega)
  go_enter Tryz.func165, Tryz.ntmps165
  go_wp2_with (go_at_call 43; refine (field_in _ _ _ _ hx hx' (by omega) (by omega) (by omega) (by omega)).mono ?_; rintro e w' ⟨rfl, rfl⟩)
  refine bodyPost_ret (v := .agg #[.int .u32 (fld x 0 7), .int .u32 (fld x 12 3), .int .u32 (fld x 25 7), .int .i64 (fld x 7 5), .int .i64 (fld x 15 5), .int .i64 (fld x 20 5)]) (by simp [results, Tryz.results165, go_sem]) rfl ⟨rfl, ?_⟩
  exact (Nx.refl _).alloc _

set_option maxHeartbeats 400000 in
theorem branch_any (f : Int) (w : World) : Calls Tryz.prog 168 #[.int .u32 f] w fun e w' => e = .returned (.int .i64 (brOp f)) ∧ w = w' := by
  go_enter Tryz.func168, Tryz.ntmps168
  go_wp2
  all_goals
    go_ret
    exact ⟨ret_i64 (by unfold brOp; simp_all), rfl⟩

set_option maxHeartbeats 400000 in
theorem store_any (f : Int) (w : World) : Calls Tryz.prog 170 #[.int .u32 f] w fun e w' => e = .returned (.int .i64 (stOp f)) ∧ w = w' := by
  go_enter Tryz.func170, Tryz.ntmps170
  go_wp2
  all_goals
    go_ret
    exact ⟨ret_i64 (by unfold stOp; simp_all), rfl⟩

set_option maxHeartbeats 400000 in
theorem reckoning_anyW (f : Int) (w : World) : Calls Tryz.prog 178 #[.int .u32 f] w fun e w' => e = .returned (.int .i64 (reOp f)) ∧ w = w' := by
  go_enter Tryz.func178, Tryz.ntmps178
  go_wp2
  all_goals
    go_ret
    exact ⟨ret_i64 (by unfold reOp; simp_all), rfl⟩

set_option maxHeartbeats 400000 in
theorem number_any (o f : Int) (w : World) : Calls Tryz.prog 173 #[.int .u32 o, .int .u32 f] w fun e w' => e = .returned (.int .i64 (nuOp o f)) ∧ w = w' := by
  go_enter Tryz.func173, Tryz.ntmps173
  go_wp2_with (go_at_call 178; refine (reckoning_anyW _ _).mono ?_; rintro e w' ⟨rfl, rfl⟩)
  all_goals
    go_ret
    exact ⟨ret_i64 (by unfold nuOp ldOp; simp_all), rfl⟩

set_option maxHeartbeats 400000 in
theorem shift_any (f g : Int) (w : World) : Calls Tryz.prog 172 #[.int .u32 f, .int .u32 g] w fun e w' => e = .returned (.int .i64 (shOp f g)) ∧ w = w' := by
  go_enter Tryz.func172, Tryz.ntmps172
  go_wp2
  all_goals
    go_ret
    exact ⟨ret_i64 (by unfold shOp; simp_all), rfl⟩

set_option maxHeartbeats 400000 in
theorem plain_any (f : Int) (w : World) : Calls Tryz.prog 179 #[.int .u32 f] w fun e w' => e = .returned (.int .i64 (plOp f)) ∧ w = w' := by
  go_enter Tryz.func179, Tryz.ntmps179
  go_wp2
  all_goals
    go_ret
    exact ⟨ret_i64 (by unfold plOp; simp_all), rfl⟩

set_option maxHeartbeats 400000 in
theorem register_any (f g : Int) (w : World) (hf : 0 ≤ f) (hf' : f < 4294967296) : Calls Tryz.prog 175 #[.int .u32 f, .int .u32 g] w fun e w' => e = .returned (.int .i64 (rgOp f g)) ∧ w = w' := by
  go_enter Tryz.func175, Tryz.ntmps175
  go_wp2_with (go_at_call 179; refine (plain_any _ _).mono ?_; rintro e w' ⟨rfl, rfl⟩)
  all_goals
    go_ret
    exact ⟨ret_i64 (by unfold rgOp; simp_all), rfl⟩

set_option maxHeartbeats 400000 in
theorem bare_any (x o f g a b c : Int) (w : World) : Calls Tryz.prog 176 #[.int .u32 x, .agg #[.int .u32 o, .int .u32 f, .int .u32 g, .int .i64 a, .int .i64 b, .int .i64 c]] w fun e w' => e = .returned (.int .i64 (baOp x o f)) ∧ Nx w w' := by
  go_enter Tryz.func176, Tryz.ntmps176
  go_wp2
  all_goals
    go_ret
    exact ⟨ret_i64 (by unfold baOp; simp_all), (Nx.refl _).alloc _⟩

end Go.Proofs.YtndpgakjpokllaaGreat

