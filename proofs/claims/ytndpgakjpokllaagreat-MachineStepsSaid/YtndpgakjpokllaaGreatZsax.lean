/- Parts of the proof, one behind the other. -/
import Derived.Test.YtndpgakjpokllaaGreatZsaw
/- Contracts of package typecaseref06: Value, operation by operation. -/
namespace Go.Proofs.YtndpgakjpokllaaGreat
open Go.RowKit
set_option linter.unusedVariables false
set_option linter.unusedSimpArgs false

set_option maxHeartbeats 2000000 in
set_option maxRecDepth 100000 in
theorem rvalue_1 (rd rs1 rs2 imm a b pc size : Int) (w : World) (hv : -2147483648 ≤ imm) (hv' : imm ≤ 2147483647) (a1 : 0 ≤ a) (a2 : a < 4294967296) (b1 : 0 ≤ b) (b2 : b < 4294967296) (p1 : 0 ≤ pc) (p2 : pc < 4294967296) (h : mayB 1 rd rs1 rs2 imm = true) :
    Calls Tryz.prog 35 #[.agg #[.int .i64 1, .int .i64 rd, .int .i64 rs1, .int .i64 rs2, .int .i32 imm], .int .u32 a, .int .u32 b, .int .u32 pc, .int .i64 size] w fun e w' => e = .returned (.tuple #[.int .u32 (valV 1 a b pc imm size), .bool (valO 1)]) ∧ Nx w w' := by
  have hf : formN 1 = 1 := rfl
  have HO : Hid (valO 1 = true) := rfl
  have HV : Hid (valV 1 a b pc imm size = imm % 4294967296) := rfl
  go_enter Tryz.func35, Tryz.ntmps35
  go_wp2_with fail
  refine (rmay_any _ _ _ _ _ _ hv hv').mono ?_
  rintro e w0 ⟨rfl, hn0⟩
  obtain ⟨c0, c1, c2, c3, c4, hz⟩ := five_in hn0
  go_wp2_with fail
  refine (form_any _ _).mono ?_
  rintro e w1 ⟨rfl, hnF⟩
  obtain ⟨c0, c1, c2, c3, c4, hz⟩ := five_in (hn0.trans hnF)
  have HN := Lib.hid (((Nx.refl w).alloc _).trans (hn0.trans hnF))
  clear hn0 hnF
  go_wp2
  go_region_with (first | (go_at_call 62; refine (names_at 1 [108, 117, 105] rfl _).mono ?_; rintro e w2 ⟨g, rfl, hg, hn2⟩; have hn3 : Nx w1 w2 := Nx.trans ((Nx.refl _).drew) hn2; have d0 := hn3.cell c0) | (go_at_call 63; refine (base_1 _).mono ?_; rintro e w' ⟨rfl, rfl⟩))
  all_goals
    have d4 := hn3.cell c4
    have hz3 : w.heap.size < w2.heap.size := Nat.lt_of_lt_of_le hz hn3.size
    go_wp2_with fail
    go_ret2
    exact ⟨ret2_ub (by have q := HV.out; first | exact q.symm | (rw [q]; omega) | (rw [q]; simp; done)) HO.out.symm, HN.out.trans hn3⟩

set_option maxHeartbeats 2000000 in
set_option maxRecDepth 100000 in
theorem rvalue_2 (rd rs1 rs2 imm a b pc size : Int) (w : World) (hv : -2147483648 ≤ imm) (hv' : imm ≤ 2147483647) (a1 : 0 ≤ a) (a2 : a < 4294967296) (b1 : 0 ≤ b) (b2 : b < 4294967296) (p1 : 0 ≤ pc) (p2 : pc < 4294967296) (h : mayB 2 rd rs1 rs2 imm = true) :
    Calls Tryz.prog 35 #[.agg #[.int .i64 2, .int .i64 rd, .int .i64 rs1, .int .i64 rs2, .int .i32 imm], .int .u32 a, .int .u32 b, .int .u32 pc, .int .i64 size] w fun e w' => e = .returned (.tuple #[.int .u32 (valV 2 a b pc imm size), .bool (valO 2)]) ∧ Nx w w' := by
  have hf : formN 2 = 1 := rfl
  have HO : Hid (valO 2 = true) := rfl
  have HV : Hid (valV 2 a b pc imm size = (pc + imm % 4294967296) % 4294967296) := rfl
  go_enter Tryz.func35, Tryz.ntmps35
  go_wp2_with fail
  refine (rmay_any _ _ _ _ _ _ hv hv').mono ?_
  rintro e w0 ⟨rfl, hn0⟩
  obtain ⟨c0, c1, c2, c3, c4, hz⟩ := five_in hn0
  go_wp2_with fail
  refine (form_any _ _).mono ?_
  rintro e w1 ⟨rfl, hnF⟩
  obtain ⟨c0, c1, c2, c3, c4, hz⟩ := five_in (hn0.trans hnF)
  have HN := Lib.hid (((Nx.refl w).alloc _).trans (hn0.trans hnF))
  clear hn0 hnF
  go_wp2
  go_region_with (first | (go_at_call 62; refine (names_at 2 [97, 117, 105, 112, 99] rfl _).mono ?_; rintro e w2 ⟨g, rfl, hg, hn2⟩; have hn3 : Nx w1 w2 := Nx.trans ((Nx.refl _).drew) hn2; have d0 := hn3.cell c0) | (go_at_call 63; refine (base_2 _).mono ?_; rintro e w' ⟨rfl, rfl⟩))
  all_goals
    have d4 := hn3.cell c4
    have hz3 : w.heap.size < w2.heap.size := Nat.lt_of_lt_of_le hz hn3.size
    go_wp2_with fail
    go_ret2
    exact ⟨ret2_ub (by have q := HV.out; first | exact q.symm | (rw [q]; omega) | (rw [q]; simp; done)) HO.out.symm, HN.out.trans hn3⟩

set_option maxHeartbeats 2000000 in
set_option maxRecDepth 100000 in
theorem rvalue_3 (rd rs1 rs2 imm a b pc size : Int) (w : World) (hv : -2147483648 ≤ imm) (hv' : imm ≤ 2147483647) (a1 : 0 ≤ a) (a2 : a < 4294967296) (b1 : 0 ≤ b) (b2 : b < 4294967296) (p1 : 0 ≤ pc) (p2 : pc < 4294967296) (h : mayB 3 rd rs1 rs2 imm = true) :
    Calls Tryz.prog 35 #[.agg #[.int .i64 3, .int .i64 rd, .int .i64 rs1, .int .i64 rs2, .int .i32 imm], .int .u32 a, .int .u32 b, .int .u32 pc, .int .i64 size] w fun e w' => e = .returned (.tuple #[.int .u32 (valV 3 a b pc imm size), .bool (valO 3)]) ∧ Nx w w' := by
  have hf : formN 3 = 2 := rfl
  have HO : Hid (valO 3 = true) := rfl
  have HV : Hid (valV 3 a b pc imm size = (pc + size % 4294967296) % 4294967296) := rfl
  go_enter Tryz.func35, Tryz.ntmps35
  go_wp2_with fail
  refine (rmay_any _ _ _ _ _ _ hv hv').mono ?_
  rintro e w0 ⟨rfl, hn0⟩
  obtain ⟨c0, c1, c2, c3, c4, hz⟩ := five_in hn0
  go_wp2_with fail
  refine (form_any _ _).mono ?_
  rintro e w1 ⟨rfl, hnF⟩
  obtain ⟨c0, c1, c2, c3, c4, hz⟩ := five_in (hn0.trans hnF)
  have HN := Lib.hid (((Nx.refl w).alloc _).trans (hn0.trans hnF))
  clear hn0 hnF
  go_wp2
  go_region_with (first | (go_at_call 62; refine (names_at 3 [106, 97, 108] rfl _).mono ?_; rintro e w2 ⟨g, rfl, hg, hn2⟩; have hn3 : Nx w1 w2 := Nx.trans ((Nx.refl _).drew) hn2; have d0 := hn3.cell c0) | (go_at_call 63; refine (base_3 _).mono ?_; rintro e w' ⟨rfl, rfl⟩))
  all_goals
    have d4 := hn3.cell c4
    have hz3 : w.heap.size < w2.heap.size := Nat.lt_of_lt_of_le hz hn3.size
    go_wp2_with fail
    go_ret2
    exact ⟨ret2_ub (by have q := HV.out; first | exact q.symm | (rw [q]; omega) | (rw [q]; simp; done)) HO.out.symm, HN.out.trans hn3⟩

set_option maxHeartbeats 2000000 in
set_option maxRecDepth 100000 in
theorem rvalue_4 (rd rs1 rs2 imm a b pc size : Int) (w : World) (hv : -2147483648 ≤ imm) (hv' : imm ≤ 2147483647) (a1 : 0 ≤ a) (a2 : a < 4294967296) (b1 : 0 ≤ b) (b2 : b < 4294967296) (p1 : 0 ≤ pc) (p2 : pc < 4294967296) (h : mayB 4 rd rs1 rs2 imm = true) :
    Calls Tryz.prog 35 #[.agg #[.int .i64 4, .int .i64 rd, .int .i64 rs1, .int .i64 rs2, .int .i32 imm], .int .u32 a, .int .u32 b, .int .u32 pc, .int .i64 size] w fun e w' => e = .returned (.tuple #[.int .u32 (valV 4 a b pc imm size), .bool (valO 4)]) ∧ Nx w w' := by
  have hf : formN 4 = 4 := rfl
  have HO : Hid (valO 4 = true) := rfl
  have HV : Hid (valV 4 a b pc imm size = (pc + size % 4294967296) % 4294967296) := rfl
  go_enter Tryz.func35, Tryz.ntmps35
  go_wp2_with fail
  refine (rmay_any _ _ _ _ _ _ hv hv').mono ?_
  rintro e w0 ⟨rfl, hn0⟩
  obtain ⟨c0, c1, c2, c3, c4, hz⟩ := five_in hn0
  go_wp2_with fail
  refine (form_any _ _).mono ?_
  rintro e w1 ⟨rfl, hnF⟩
  obtain ⟨c0, c1, c2, c3, c4, hz⟩ := five_in (hn0.trans hnF)
  have HN := Lib.hid (((Nx.refl w).alloc _).trans (hn0.trans hnF))
  clear hn0 hnF
  go_wp2
  go_region_with (first | (go_at_call 62; refine (names_at 4 [106, 97, 108, 114] rfl _).mono ?_; rintro e w2 ⟨g, rfl, hg, hn2⟩; have hn3 : Nx w1 w2 := Nx.trans ((Nx.refl _).drew) hn2; have d0 := hn3.cell c0) | (go_at_call 63; refine (base_4 _).mono ?_; rintro e w' ⟨rfl, rfl⟩))
  all_goals
    have d4 := hn3.cell c4
    have hz3 : w.heap.size < w2.heap.size := Nat.lt_of_lt_of_le hz hn3.size
    go_wp2_with fail
    go_ret2
    exact ⟨ret2_ub (by have q := HV.out; first | exact q.symm | (rw [q]; omega) | (rw [q]; simp; done)) HO.out.symm, HN.out.trans hn3⟩

set_option maxHeartbeats 2000000 in
set_option maxRecDepth 100000 in
theorem rvalue_5 (rd rs1 rs2 imm a b pc size : Int) (w : World) (hv : -2147483648 ≤ imm) (hv' : imm ≤ 2147483647) (a1 : 0 ≤ a) (a2 : a < 4294967296) (b1 : 0 ≤ b) (b2 : b < 4294967296) (p1 : 0 ≤ pc) (p2 : pc < 4294967296) (h : mayB 5 rd rs1 rs2 imm = true) :
    Calls Tryz.prog 35 #[.agg #[.int .i64 5, .int .i64 rd, .int .i64 rs1, .int .i64 rs2, .int .i32 imm], .int .u32 a, .int .u32 b, .int .u32 pc, .int .i64 size] w fun e w' => e = .returned (.tuple #[.int .u32 (0), .bool (valO 5)]) ∧ Nx w w' := by
  have hf : formN 5 = 3 := rfl
  have HO : Hid (valO 5 = false) := rfl
  have HV : Hid ((0 : Int) = 0) := rfl
  go_enter Tryz.func35, Tryz.ntmps35
  go_wp2_with fail
  refine (rmay_any _ _ _ _ _ _ hv hv').mono ?_
  rintro e w0 ⟨rfl, hn0⟩
  obtain ⟨c0, c1, c2, c3, c4, hz⟩ := five_in hn0
  go_wp2_with fail
  refine (form_any _ _).mono ?_
  rintro e w1 ⟨rfl, hnF⟩
  obtain ⟨c0, c1, c2, c3, c4, hz⟩ := five_in (hn0.trans hnF)
  have HN := Lib.hid (((Nx.refl w).alloc _).trans (hn0.trans hnF))
  clear hn0 hnF
  go_wp2
  go_region_with (first | (go_at_call 62; refine (names_at 5 [98, 101, 113] rfl _).mono ?_; rintro e w2 ⟨g, rfl, hg, hn2⟩; have hn3 : Nx w1 w2 := Nx.trans ((Nx.refl _).drew) hn2; have d0 := hn3.cell c0) | (go_at_call 63; refine (base_5 _).mono ?_; rintro e w' ⟨rfl, rfl⟩))
  all_goals
    have d4 := hn3.cell c4
    have hz3 : w.heap.size < w2.heap.size := Nat.lt_of_lt_of_le hz hn3.size
    go_wp2_with fail
    go_ret2
    exact ⟨ret2_ub rfl HO.out.symm, HN.out.trans hn3⟩

set_option maxHeartbeats 2000000 in
set_option maxRecDepth 100000 in
theorem rvalue_6 (rd rs1 rs2 imm a b pc size : Int) (w : World) (hv : -2147483648 ≤ imm) (hv' : imm ≤ 2147483647) (a1 : 0 ≤ a) (a2 : a < 4294967296) (b1 : 0 ≤ b) (b2 : b < 4294967296) (p1 : 0 ≤ pc) (p2 : pc < 4294967296) (h : mayB 6 rd rs1 rs2 imm = true) :
    Calls Tryz.prog 35 #[.agg #[.int .i64 6, .int .i64 rd, .int .i64 rs1, .int .i64 rs2, .int .i32 imm], .int .u32 a, .int .u32 b, .int .u32 pc, .int .i64 size] w fun e w' => e = .returned (.tuple #[.int .u32 (0), .bool (valO 6)]) ∧ Nx w w' := by
  have hf : formN 6 = 3 := rfl
  have HO : Hid (valO 6 = false) := rfl
  have HV : Hid ((0 : Int) = 0) := rfl
  go_enter Tryz.func35, Tryz.ntmps35
  go_wp2_with fail
  refine (rmay_any _ _ _ _ _ _ hv hv').mono ?_
  rintro e w0 ⟨rfl, hn0⟩
  obtain ⟨c0, c1, c2, c3, c4, hz⟩ := five_in hn0
  go_wp2_with fail
  refine (form_any _ _).mono ?_
  rintro e w1 ⟨rfl, hnF⟩
  obtain ⟨c0, c1, c2, c3, c4, hz⟩ := five_in (hn0.trans hnF)
  have HN := Lib.hid (((Nx.refl w).alloc _).trans (hn0.trans hnF))
  clear hn0 hnF
  go_wp2
  go_region_with (first | (go_at_call 62; refine (names_at 6 [98, 110, 101] rfl _).mono ?_; rintro e w2 ⟨g, rfl, hg, hn2⟩; have hn3 : Nx w1 w2 := Nx.trans ((Nx.refl _).drew) hn2; have d0 := hn3.cell c0) | (go_at_call 63; refine (base_6 _).mono ?_; rintro e w' ⟨rfl, rfl⟩))
  all_goals
    have d4 := hn3.cell c4
    have hz3 : w.heap.size < w2.heap.size := Nat.lt_of_lt_of_le hz hn3.size
    go_wp2_with fail
    go_ret2
    exact ⟨ret2_ub rfl HO.out.symm, HN.out.trans hn3⟩

set_option maxHeartbeats 2000000 in
set_option maxRecDepth 100000 in
theorem rvalue_7 (rd rs1 rs2 imm a b pc size : Int) (w : World) (hv : -2147483648 ≤ imm) (hv' : imm ≤ 2147483647) (a1 : 0 ≤ a) (a2 : a < 4294967296) (b1 : 0 ≤ b) (b2 : b < 4294967296) (p1 : 0 ≤ pc) (p2 : pc < 4294967296) (h : mayB 7 rd rs1 rs2 imm = true) :
    Calls Tryz.prog 35 #[.agg #[.int .i64 7, .int .i64 rd, .int .i64 rs1, .int .i64 rs2, .int .i32 imm], .int .u32 a, .int .u32 b, .int .u32 pc, .int .i64 size] w fun e w' => e = .returned (.tuple #[.int .u32 (0), .bool (valO 7)]) ∧ Nx w w' := by
  have hf : formN 7 = 3 := rfl
  have HO : Hid (valO 7 = false) := rfl
  have HV : Hid ((0 : Int) = 0) := rfl
  go_enter Tryz.func35, Tryz.ntmps35
  go_wp2_with fail
  refine (rmay_any _ _ _ _ _ _ hv hv').mono ?_
  rintro e w0 ⟨rfl, hn0⟩
  obtain ⟨c0, c1, c2, c3, c4, hz⟩ := five_in hn0
  go_wp2_with fail
  refine (form_any _ _).mono ?_
  rintro e w1 ⟨rfl, hnF⟩
  obtain ⟨c0, c1, c2, c3, c4, hz⟩ := five_in (hn0.trans hnF)
  have HN := Lib.hid (((Nx.refl w).alloc _).trans (hn0.trans hnF))
  clear hn0 hnF
  go_wp2
  go_region_with (first | (go_at_call 62; refine (names_at 7 [98, 108, 116] rfl _).mono ?_; rintro e w2 ⟨g, rfl, hg, hn2⟩; have hn3 : Nx w1 w2 := Nx.trans ((Nx.refl _).drew) hn2; have d0 := hn3.cell c0) | (go_at_call 63; refine (base_7 _).mono ?_; rintro e w' ⟨rfl, rfl⟩))
  all_goals
    have d4 := hn3.cell c4
    have hz3 : w.heap.size < w2.heap.size := Nat.lt_of_lt_of_le hz hn3.size
    go_wp2_with fail
    go_ret2
    exact ⟨ret2_ub rfl HO.out.symm, HN.out.trans hn3⟩

set_option maxHeartbeats 2000000 in
set_option maxRecDepth 100000 in
theorem rvalue_8 (rd rs1 rs2 imm a b pc size : Int) (w : World) (hv : -2147483648 ≤ imm) (hv' : imm ≤ 2147483647) (a1 : 0 ≤ a) (a2 : a < 4294967296) (b1 : 0 ≤ b) (b2 : b < 4294967296) (p1 : 0 ≤ pc) (p2 : pc < 4294967296) (h : mayB 8 rd rs1 rs2 imm = true) :
    Calls Tryz.prog 35 #[.agg #[.int .i64 8, .int .i64 rd, .int .i64 rs1, .int .i64 rs2, .int .i32 imm], .int .u32 a, .int .u32 b, .int .u32 pc, .int .i64 size] w fun e w' => e = .returned (.tuple #[.int .u32 (0), .bool (valO 8)]) ∧ Nx w w' := by
  have hf : formN 8 = 3 := rfl
  have HO : Hid (valO 8 = false) := rfl
  have HV : Hid ((0 : Int) = 0) := rfl
  go_enter Tryz.func35, Tryz.ntmps35
  go_wp2_with fail
  refine (rmay_any _ _ _ _ _ _ hv hv').mono ?_
  rintro e w0 ⟨rfl, hn0⟩
  obtain ⟨c0, c1, c2, c3, c4, hz⟩ := five_in hn0
  go_wp2_with fail
  refine (form_any _ _).mono ?_
  rintro e w1 ⟨rfl, hnF⟩
  obtain ⟨c0, c1, c2, c3, c4, hz⟩ := five_in (hn0.trans hnF)
  have HN := Lib.hid (((Nx.refl w).alloc _).trans (hn0.trans hnF))
  clear hn0 hnF
  go_wp2
  go_region_with (first | (go_at_call 62; refine (names_at 8 [98, 103, 101] rfl _).mono ?_; rintro e w2 ⟨g, rfl, hg, hn2⟩; have hn3 : Nx w1 w2 := Nx.trans ((Nx.refl _).drew) hn2; have d0 := hn3.cell c0) | (go_at_call 63; refine (base_8 _).mono ?_; rintro e w' ⟨rfl, rfl⟩))
  all_goals
    have d4 := hn3.cell c4
    have hz3 : w.heap.size < w2.heap.size := Nat.lt_of_lt_of_le hz hn3.size
    go_wp2_with fail
    go_ret2
    exact ⟨ret2_ub rfl HO.out.symm, HN.out.trans hn3⟩

set_option maxHeartbeats 2000000 in
set_option maxRecDepth 100000 in
theorem rvalue_9 (rd rs1 rs2 imm a b pc size : Int) (w : World) (hv : -2147483648 ≤ imm) (hv' : imm ≤ 2147483647) (a1 : 0 ≤ a) (a2 : a < 4294967296) (b1 : 0 ≤ b) (b2 : b < 4294967296) (p1 : 0 ≤ pc) (p2 : pc < 4294967296) (h : mayB 9 rd rs1 rs2 imm = true) :
    Calls Tryz.prog 35 #[.agg #[.int .i64 9, .int .i64 rd, .int .i64 rs1, .int .i64 rs2, .int .i32 imm], .int .u32 a, .int .u32 b, .int .u32 pc, .int .i64 size] w fun e w' => e = .returned (.tuple #[.int .u32 (0), .bool (valO 9)]) ∧ Nx w w' := by
  have hf : formN 9 = 3 := rfl
  have HO : Hid (valO 9 = false) := rfl
  have HV : Hid ((0 : Int) = 0) := rfl
  go_enter Tryz.func35, Tryz.ntmps35
  go_wp2_with fail
  refine (rmay_any _ _ _ _ _ _ hv hv').mono ?_
  rintro e w0 ⟨rfl, hn0⟩
  obtain ⟨c0, c1, c2, c3, c4, hz⟩ := five_in hn0
  go_wp2_with fail
  refine (form_any _ _).mono ?_
  rintro e w1 ⟨rfl, hnF⟩
  obtain ⟨c0, c1, c2, c3, c4, hz⟩ := five_in (hn0.trans hnF)
  have HN := Lib.hid (((Nx.refl w).alloc _).trans (hn0.trans hnF))
  clear hn0 hnF
  go_wp2
  go_region_with (first | (go_at_call 62; refine (names_at 9 [98, 108, 116, 117] rfl _).mono ?_; rintro e w2 ⟨g, rfl, hg, hn2⟩; have hn3 : Nx w1 w2 := Nx.trans ((Nx.refl _).drew) hn2; have d0 := hn3.cell c0) | (go_at_call 63; refine (base_9 _).mono ?_; rintro e w' ⟨rfl, rfl⟩))
  all_goals
    have d4 := hn3.cell c4
    have hz3 : w.heap.size < w2.heap.size := Nat.lt_of_lt_of_le hz hn3.size
    go_wp2_with fail
    go_ret2
    exact ⟨ret2_ub rfl HO.out.symm, HN.out.trans hn3⟩

set_option maxHeartbeats 2000000 in
set_option maxRecDepth 100000 in
theorem rvalue_10 (rd rs1 rs2 imm a b pc size : Int) (w : World) (hv : -2147483648 ≤ imm) (hv' : imm ≤ 2147483647) (a1 : 0 ≤ a) (a2 : a < 4294967296) (b1 : 0 ≤ b) (b2 : b < 4294967296) (p1 : 0 ≤ pc) (p2 : pc < 4294967296) (h : mayB 10 rd rs1 rs2 imm = true) :
    Calls Tryz.prog 35 #[.agg #[.int .i64 10, .int .i64 rd, .int .i64 rs1, .int .i64 rs2, .int .i32 imm], .int .u32 a, .int .u32 b, .int .u32 pc, .int .i64 size] w fun e w' => e = .returned (.tuple #[.int .u32 (0), .bool (valO 10)]) ∧ Nx w w' := by
  have hf : formN 10 = 3 := rfl
  have HO : Hid (valO 10 = false) := rfl
  have HV : Hid ((0 : Int) = 0) := rfl
  go_enter Tryz.func35, Tryz.ntmps35
  go_wp2_with fail
  refine (rmay_any _ _ _ _ _ _ hv hv').mono ?_
  rintro e w0 ⟨rfl, hn0⟩
  obtain ⟨c0, c1, c2, c3, c4, hz⟩ := five_in hn0
  go_wp2_with fail
  refine (form_any _ _).mono ?_
  rintro e w1 ⟨rfl, hnF⟩
  obtain ⟨c0, c1, c2, c3, c4, hz⟩ := five_in (hn0.trans hnF)
  have HN := Lib.hid (((Nx.refl w).alloc _).trans (hn0.trans hnF))
  clear hn0 hnF
  go_wp2
  go_region_with (first | (go_at_call 62; refine (names_at 10 [98, 103, 101, 117] rfl _).mono ?_; rintro e w2 ⟨g, rfl, hg, hn2⟩; have hn3 : Nx w1 w2 := Nx.trans ((Nx.refl _).drew) hn2; have d0 := hn3.cell c0) | (go_at_call 63; refine (base_10 _).mono ?_; rintro e w' ⟨rfl, rfl⟩))
  all_goals
    have d4 := hn3.cell c4
    have hz3 : w.heap.size < w2.heap.size := Nat.lt_of_lt_of_le hz hn3.size
    go_wp2_with fail
    go_ret2
    exact ⟨ret2_ub rfl HO.out.symm, HN.out.trans hn3⟩

set_option maxHeartbeats 2000000 in
set_option maxRecDepth 100000 in
theorem rvalue_11 (rd rs1 rs2 imm a b pc size : Int) (w : World) (hv : -2147483648 ≤ imm) (hv' : imm ≤ 2147483647) (a1 : 0 ≤ a) (a2 : a < 4294967296) (b1 : 0 ≤ b) (b2 : b < 4294967296) (p1 : 0 ≤ pc) (p2 : pc < 4294967296) (h : mayB 11 rd rs1 rs2 imm = true) :
    Calls Tryz.prog 35 #[.agg #[.int .i64 11, .int .i64 rd, .int .i64 rs1, .int .i64 rs2, .int .i32 imm], .int .u32 a, .int .u32 b, .int .u32 pc, .int .i64 size] w fun e w' => e = .returned (.tuple #[.int .u32 (0), .bool (valO 11)]) ∧ Nx w w' := by
  have hf : formN 11 = 4 := rfl
  have HO : Hid (valO 11 = false) := rfl
  have HV : Hid ((0 : Int) = 0) := rfl
  go_enter Tryz.func35, Tryz.ntmps35
  go_wp2_with fail
  refine (rmay_any _ _ _ _ _ _ hv hv').mono ?_
  rintro e w0 ⟨rfl, hn0⟩
  obtain ⟨c0, c1, c2, c3, c4, hz⟩ := five_in hn0
  go_wp2_with fail
  refine (form_any _ _).mono ?_
  rintro e w1 ⟨rfl, hnF⟩
  obtain ⟨c0, c1, c2, c3, c4, hz⟩ := five_in (hn0.trans hnF)
  have HN := Lib.hid (((Nx.refl w).alloc _).trans (hn0.trans hnF))
  clear hn0 hnF
  go_wp2
  go_region_with (first | (go_at_call 62; refine (names_at 11 [108, 98] rfl _).mono ?_; rintro e w2 ⟨g, rfl, hg, hn2⟩; have hn3 : Nx w1 w2 := Nx.trans ((Nx.refl _).drew) hn2; have d0 := hn3.cell c0) | (go_at_call 63; refine (base_11 _).mono ?_; rintro e w' ⟨rfl, rfl⟩))
  all_goals
    have d4 := hn3.cell c4
    have hz3 : w.heap.size < w2.heap.size := Nat.lt_of_lt_of_le hz hn3.size
    go_wp2_with fail
    go_ret2
    exact ⟨ret2_ub rfl HO.out.symm, HN.out.trans hn3⟩

set_option maxHeartbeats 2000000 in
set_option maxRecDepth 100000 in
theorem rvalue_12 (rd rs1 rs2 imm a b pc size : Int) (w : World) (hv : -2147483648 ≤ imm) (hv' : imm ≤ 2147483647) (a1 : 0 ≤ a) (a2 : a < 4294967296) (b1 : 0 ≤ b) (b2 : b < 4294967296) (p1 : 0 ≤ pc) (p2 : pc < 4294967296) (h : mayB 12 rd rs1 rs2 imm = true) :
    Calls Tryz.prog 35 #[.agg #[.int .i64 12, .int .i64 rd, .int .i64 rs1, .int .i64 rs2, .int .i32 imm], .int .u32 a, .int .u32 b, .int .u32 pc, .int .i64 size] w fun e w' => e = .returned (.tuple #[.int .u32 (0), .bool (valO 12)]) ∧ Nx w w' := by
  have hf : formN 12 = 4 := rfl
  have HO : Hid (valO 12 = false) := rfl
  have HV : Hid ((0 : Int) = 0) := rfl
  go_enter Tryz.func35, Tryz.ntmps35
  go_wp2_with fail
  refine (rmay_any _ _ _ _ _ _ hv hv').mono ?_
  rintro e w0 ⟨rfl, hn0⟩
  obtain ⟨c0, c1, c2, c3, c4, hz⟩ := five_in hn0
  go_wp2_with fail
  refine (form_any _ _).mono ?_
  rintro e w1 ⟨rfl, hnF⟩
  obtain ⟨c0, c1, c2, c3, c4, hz⟩ := five_in (hn0.trans hnF)
  have HN := Lib.hid (((Nx.refl w).alloc _).trans (hn0.trans hnF))
  clear hn0 hnF
  go_wp2
  go_region_with (first | (go_at_call 62; refine (names_at 12 [108, 104] rfl _).mono ?_; rintro e w2 ⟨g, rfl, hg, hn2⟩; have hn3 : Nx w1 w2 := Nx.trans ((Nx.refl _).drew) hn2; have d0 := hn3.cell c0) | (go_at_call 63; refine (base_12 _).mono ?_; rintro e w' ⟨rfl, rfl⟩))
  all_goals
    have d4 := hn3.cell c4
    have hz3 : w.heap.size < w2.heap.size := Nat.lt_of_lt_of_le hz hn3.size
    go_wp2_with fail
    go_ret2
    exact ⟨ret2_ub rfl HO.out.symm, HN.out.trans hn3⟩

end Go.Proofs.YtndpgakjpokllaaGreat

