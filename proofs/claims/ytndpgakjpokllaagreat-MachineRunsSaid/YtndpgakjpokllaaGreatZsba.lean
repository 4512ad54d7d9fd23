/- Parts of the proof, one behind the other. -/
import Derived.Test.YtndpgakjpokllaaGreatZsaw
/- Contracts of package typecaseref06: Value, operation by operation. -/
namespace Go.Proofs.YtndpgakjpokllaaGreat
open Go.RowKit
set_option linter.unusedVariables false
set_option linter.unusedSimpArgs false

set_option maxHeartbeats 2000000 in
set_option maxRecDepth 100000 in
theorem rvalue_37 (rd rs1 rs2 imm a b pc size : Int) (w : World) (hv : -2147483648 ≤ imm) (hv' : imm ≤ 2147483647) (a1 : 0 ≤ a) (a2 : a < 4294967296) (b1 : 0 ≤ b) (b2 : b < 4294967296) (p1 : 0 ≤ pc) (p2 : pc < 4294967296) (h : mayB 37 rd rs1 rs2 imm = true) :
    Calls Tryz.prog 35 #[.agg #[.int .i64 37, .int .i64 rd, .int .i64 rs1, .int .i64 rs2, .int .i32 imm], .int .u32 a, .int .u32 b, .int .u32 pc, .int .i64 size] w fun e w' => e = .returned (.tuple #[.int .u32 (valV 37 a b pc imm size), .bool (valO 37)]) ∧ Nx w w' := by
  have hf : formN 37 = 8 := rfl
  have HO : Hid (valO 37 = true) := rfl
  have HV : Hid (valV 37 a b pc imm size = bits .and .u32 a b) := rfl
  have HP := Lib.hid (tbl_and a b a1 a2 b1 b2)
  go_enter Tryz.func35, Tryz.ntmps35
  go_wp2_with fail
  refine (rmay_any _ _ _ _ _ _ hv hv').mono ?_
  rintro e w0 ⟨rfl, hn0⟩
  obtain ⟨c0, c1, c2, c3, c4, hz⟩ := five_in hn0
  go_wp2_with fail
  refine (form_any _ _).mono ?_
  rintro e w1 ⟨rfl, hnF⟩
  obtain ⟨c0, c1, c2, c3, c4, hz⟩ := five_in (hn0.trans hnF)
  have HN := Lib.hid (((Nx.refl w).alloc _).trans (hn0.trans hnF))
  clear hn0 hnF
  go_wp2
  go_region_with (first | (go_at_call 62; refine (names_at 37 [97, 110, 100] rfl _).mono ?_; rintro e w2 ⟨g, rfl, hg, hn2⟩; have hn3 : Nx w1 w2 := Nx.trans ((Nx.refl _).drew) hn2; have d0 := hn3.cell c0) | (go_at_call 63; refine (base_37 _).mono ?_; rintro e w' ⟨rfl, rfl⟩))
  all_goals
    have d4 := hn3.cell c4
    have hz3 : w.heap.size < w2.heap.size := Nat.lt_of_lt_of_le hz hn3.size
    go_wp2_with (go_at_call 66; refine (rbits_any a b 0 0 0 1 (by decide) (by decide) (by decide) (by decide) _ a1 a2 b1 b2).mono ?_; rintro e w3 ⟨rfl, hn4⟩)
    go_ret2
    exact ⟨ret2_ub (HP.out.trans HV.out.symm) HO.out.symm, HN.out.trans (hn3.trans hn4)⟩

set_option maxHeartbeats 2000000 in
set_option maxRecDepth 100000 in
theorem rvalue_38 (rd rs1 rs2 imm a b pc size : Int) (w : World) (hv : -2147483648 ≤ imm) (hv' : imm ≤ 2147483647) (a1 : 0 ≤ a) (a2 : a < 4294967296) (b1 : 0 ≤ b) (b2 : b < 4294967296) (p1 : 0 ≤ pc) (p2 : pc < 4294967296) (h : mayB 38 rd rs1 rs2 imm = true) :
    Calls Tryz.prog 35 #[.agg #[.int .i64 38, .int .i64 rd, .int .i64 rs1, .int .i64 rs2, .int .i32 imm], .int .u32 a, .int .u32 b, .int .u32 pc, .int .i64 size] w fun e w' => e = .returned (.tuple #[.int .u32 (0), .bool (valO 38)]) ∧ Nx w w' := by
  have hf : formN 38 = 9 := rfl
  have HO : Hid (valO 38 = false) := rfl
  have HV : Hid ((0 : Int) = 0) := rfl
  go_enter Tryz.func35, Tryz.ntmps35
  go_wp2_with fail
  refine (rmay_any _ _ _ _ _ _ hv hv').mono ?_
  rintro e w0 ⟨rfl, hn0⟩
  obtain ⟨c0, c1, c2, c3, c4, hz⟩ := five_in hn0
  go_wp2_with fail
  refine (form_any _ _).mono ?_
  rintro e w1 ⟨rfl, hnF⟩
  obtain ⟨c0, c1, c2, c3, c4, hz⟩ := five_in (hn0.trans hnF)
  have HN := Lib.hid (((Nx.refl w).alloc _).trans (hn0.trans hnF))
  clear hn0 hnF
  go_wp2
  go_region_with (first | (go_at_call 62; refine (names_at 38 [102, 101, 110, 99, 101] rfl _).mono ?_; rintro e w2 ⟨g, rfl, hg, hn2⟩; have hn3 : Nx w1 w2 := Nx.trans ((Nx.refl _).drew) hn2; have d0 := hn3.cell c0) | (go_at_call 63; refine (base_38 _).mono ?_; rintro e w' ⟨rfl, rfl⟩))
  all_goals
    have d4 := hn3.cell c4
    have hz3 : w.heap.size < w2.heap.size := Nat.lt_of_lt_of_le hz hn3.size
    go_wp2_with fail
    go_ret2
    exact ⟨ret2_ub rfl HO.out.symm, HN.out.trans hn3⟩

set_option maxHeartbeats 2000000 in
set_option maxRecDepth 100000 in
theorem rvalue_39 (rd rs1 rs2 imm a b pc size : Int) (w : World) (hv : -2147483648 ≤ imm) (hv' : imm ≤ 2147483647) (a1 : 0 ≤ a) (a2 : a < 4294967296) (b1 : 0 ≤ b) (b2 : b < 4294967296) (p1 : 0 ≤ pc) (p2 : pc < 4294967296) (h : mayB 39 rd rs1 rs2 imm = true) :
    Calls Tryz.prog 35 #[.agg #[.int .i64 39, .int .i64 rd, .int .i64 rs1, .int .i64 rs2, .int .i32 imm], .int .u32 a, .int .u32 b, .int .u32 pc, .int .i64 size] w fun e w' => e = .returned (.tuple #[.int .u32 (0), .bool (valO 39)]) ∧ Nx w w' := by
  have hf : formN 39 = 9 := rfl
  have HO : Hid (valO 39 = false) := rfl
  have HV : Hid ((0 : Int) = 0) := rfl
  go_enter Tryz.func35, Tryz.ntmps35
  go_wp2_with fail
  refine (rmay_any _ _ _ _ _ _ hv hv').mono ?_
  rintro e w0 ⟨rfl, hn0⟩
  obtain ⟨c0, c1, c2, c3, c4, hz⟩ := five_in hn0
  go_wp2_with fail
  refine (form_any _ _).mono ?_
  rintro e w1 ⟨rfl, hnF⟩
  obtain ⟨c0, c1, c2, c3, c4, hz⟩ := five_in (hn0.trans hnF)
  have HN := Lib.hid (((Nx.refl w).alloc _).trans (hn0.trans hnF))
  clear hn0 hnF
  go_wp2
  go_region_with (first | (go_at_call 62; refine (names_at 39 [101, 99, 97, 108, 108] rfl _).mono ?_; rintro e w2 ⟨g, rfl, hg, hn2⟩; have hn3 : Nx w1 w2 := Nx.trans ((Nx.refl _).drew) hn2; have d0 := hn3.cell c0) | (go_at_call 63; refine (base_39 _).mono ?_; rintro e w' ⟨rfl, rfl⟩))
  all_goals
    have d4 := hn3.cell c4
    have hz3 : w.heap.size < w2.heap.size := Nat.lt_of_lt_of_le hz hn3.size
    go_wp2_with fail
    go_ret2
    exact ⟨ret2_ub rfl HO.out.symm, HN.out.trans hn3⟩

set_option maxHeartbeats 2000000 in
set_option maxRecDepth 100000 in
theorem rvalue_40 (rd rs1 rs2 imm a b pc size : Int) (w : World) (hv : -2147483648 ≤ imm) (hv' : imm ≤ 2147483647) (a1 : 0 ≤ a) (a2 : a < 4294967296) (b1 : 0 ≤ b) (b2 : b < 4294967296) (p1 : 0 ≤ pc) (p2 : pc < 4294967296) (h : mayB 40 rd rs1 rs2 imm = true) :
    Calls Tryz.prog 35 #[.agg #[.int .i64 40, .int .i64 rd, .int .i64 rs1, .int .i64 rs2, .int .i32 imm], .int .u32 a, .int .u32 b, .int .u32 pc, .int .i64 size] w fun e w' => e = .returned (.tuple #[.int .u32 (0), .bool (valO 40)]) ∧ Nx w w' := by
  have hf : formN 40 = 9 := rfl
  have HO : Hid (valO 40 = false) := rfl
  have HV : Hid ((0 : Int) = 0) := rfl
  go_enter Tryz.func35, Tryz.ntmps35
  go_wp2_with fail
  refine (rmay_any _ _ _ _ _ _ hv hv').mono ?_
  rintro e w0 ⟨rfl, hn0⟩
  obtain ⟨c0, c1, c2, c3, c4, hz⟩ := five_in hn0
  go_wp2_with fail
  refine (form_any _ _).mono ?_
  rintro e w1 ⟨rfl, hnF⟩
  obtain ⟨c0, c1, c2, c3, c4, hz⟩ := five_in (hn0.trans hnF)
  have HN := Lib.hid (((Nx.refl w).alloc _).trans (hn0.trans hnF))
  clear hn0 hnF
  go_wp2
  go_region_with (first | (go_at_call 62; refine (names_at 40 [101, 98, 114, 101, 97, 107] rfl _).mono ?_; rintro e w2 ⟨g, rfl, hg, hn2⟩; have hn3 : Nx w1 w2 := Nx.trans ((Nx.refl _).drew) hn2; have d0 := hn3.cell c0) | (go_at_call 63; refine (base_40 _).mono ?_; rintro e w' ⟨rfl, rfl⟩))
  all_goals
    have d4 := hn3.cell c4
    have hz3 : w.heap.size < w2.heap.size := Nat.lt_of_lt_of_le hz hn3.size
    go_wp2_with fail
    go_ret2
    exact ⟨ret2_ub rfl HO.out.symm, HN.out.trans hn3⟩

set_option maxHeartbeats 2000000 in
set_option maxRecDepth 100000 in
theorem rvalue_41 (rd rs1 rs2 imm a b pc size : Int) (w : World) (hv : -2147483648 ≤ imm) (hv' : imm ≤ 2147483647) (a1 : 0 ≤ a) (a2 : a < 4294967296) (b1 : 0 ≤ b) (b2 : b < 4294967296) (p1 : 0 ≤ pc) (p2 : pc < 4294967296) (h : mayB 41 rd rs1 rs2 imm = true) :
    Calls Tryz.prog 35 #[.agg #[.int .i64 41, .int .i64 rd, .int .i64 rs1, .int .i64 rs2, .int .i32 imm], .int .u32 a, .int .u32 b, .int .u32 pc, .int .i64 size] w fun e w' => e = .returned (.tuple #[.int .u32 (valV 41 a b pc imm size), .bool (valO 41)]) ∧ Nx w w' := by
  have hf : formN 41 = 8 := rfl
  have HO : Hid (valO 41 = true) := rfl
  have HV : Hid (valV 41 a b pc imm size = a * b % 4294967296) := rfl
  go_enter Tryz.func35, Tryz.ntmps35
  go_wp2_with fail
  refine (rmay_any _ _ _ _ _ _ hv hv').mono ?_
  rintro e w0 ⟨rfl, hn0⟩
  obtain ⟨c0, c1, c2, c3, c4, hz⟩ := five_in hn0
  go_wp2_with fail
  refine (form_any _ _).mono ?_
  rintro e w1 ⟨rfl, hnF⟩
  obtain ⟨c0, c1, c2, c3, c4, hz⟩ := five_in (hn0.trans hnF)
  have HN := Lib.hid (((Nx.refl w).alloc _).trans (hn0.trans hnF))
  clear hn0 hnF
  go_wp2
  go_region_with (first | (go_at_call 62; refine (names_at 41 [109, 117, 108] rfl _).mono ?_; rintro e w2 ⟨g, rfl, hg, hn2⟩; have hn3 : Nx w1 w2 := Nx.trans ((Nx.refl _).drew) hn2; have d0 := hn3.cell c0) | (go_at_call 63; refine (base_41 _).mono ?_; rintro e w' ⟨rfl, rfl⟩))
  all_goals
    have d4 := hn3.cell c4
    have hz3 : w.heap.size < w2.heap.size := Nat.lt_of_lt_of_le hz hn3.size
    go_wp2_with fail
    go_ret2
    exact ⟨ret2_ub (by have q := HV.out; first | exact q.symm | (rw [q]; omega) | (rw [q]; simp; done)) HO.out.symm, HN.out.trans hn3⟩

set_option maxHeartbeats 2000000 in
set_option maxRecDepth 100000 in
theorem rvalue_42 (rd rs1 rs2 imm a b pc size : Int) (w : World) (hv : -2147483648 ≤ imm) (hv' : imm ≤ 2147483647) (a1 : 0 ≤ a) (a2 : a < 4294967296) (b1 : 0 ≤ b) (b2 : b < 4294967296) (p1 : 0 ≤ pc) (p2 : pc < 4294967296) (h : mayB 42 rd rs1 rs2 imm = true) :
    Calls Tryz.prog 35 #[.agg #[.int .i64 42, .int .i64 rd, .int .i64 rs1, .int .i64 rs2, .int .i32 imm], .int .u32 a, .int .u32 b, .int .u32 pc, .int .i64 size] w fun e w' => e = .returned (.tuple #[.int .u32 (valV 42 a b pc imm size), .bool (valO 42)]) ∧ Nx w w' := by
  have hf : formN 42 = 8 := rfl
  have HO : Hid (valO 42 = true) := rfl
  have HV : Hid (valV 42 a b pc imm size = mulh a b true true) := rfl
  go_enter Tryz.func35, Tryz.ntmps35
  go_wp2_with fail
  refine (rmay_any _ _ _ _ _ _ hv hv').mono ?_
  rintro e w0 ⟨rfl, hn0⟩
  obtain ⟨c0, c1, c2, c3, c4, hz⟩ := five_in hn0
  go_wp2_with fail
  refine (form_any _ _).mono ?_
  rintro e w1 ⟨rfl, hnF⟩
  obtain ⟨c0, c1, c2, c3, c4, hz⟩ := five_in (hn0.trans hnF)
  have HN := Lib.hid (((Nx.refl w).alloc _).trans (hn0.trans hnF))
  clear hn0 hnF
  go_wp2
  go_region_with (first | (go_at_call 62; refine (names_at 42 [109, 117, 108, 104] rfl _).mono ?_; rintro e w2 ⟨g, rfl, hg, hn2⟩; have hn3 : Nx w1 w2 := Nx.trans ((Nx.refl _).drew) hn2; have d0 := hn3.cell c0) | (go_at_call 63; refine (base_42 _).mono ?_; rintro e w' ⟨rfl, rfl⟩))
  all_goals
    have d4 := hn3.cell c4
    have hz3 : w.heap.size < w2.heap.size := Nat.lt_of_lt_of_le hz hn3.size
    go_wp2_with (go_at_call 68; refine (rmulh_any _ _ _ _ _ a1 a2 b1 b2).mono ?_; rintro e w' ⟨rfl, rfl⟩)
    go_ret2
    exact ⟨ret2_ub (by have q := HV.out; first | exact q.symm | (rw [q]; omega) | (rw [q]; simp; done)) HO.out.symm, HN.out.trans hn3⟩

set_option maxHeartbeats 2000000 in
set_option maxRecDepth 100000 in
theorem rvalue_43 (rd rs1 rs2 imm a b pc size : Int) (w : World) (hv : -2147483648 ≤ imm) (hv' : imm ≤ 2147483647) (a1 : 0 ≤ a) (a2 : a < 4294967296) (b1 : 0 ≤ b) (b2 : b < 4294967296) (p1 : 0 ≤ pc) (p2 : pc < 4294967296) (h : mayB 43 rd rs1 rs2 imm = true) :
    Calls Tryz.prog 35 #[.agg #[.int .i64 43, .int .i64 rd, .int .i64 rs1, .int .i64 rs2, .int .i32 imm], .int .u32 a, .int .u32 b, .int .u32 pc, .int .i64 size] w fun e w' => e = .returned (.tuple #[.int .u32 (valV 43 a b pc imm size), .bool (valO 43)]) ∧ Nx w w' := by
  have hf : formN 43 = 8 := rfl
  have HO : Hid (valO 43 = true) := rfl
  have HV : Hid (valV 43 a b pc imm size = mulh a b true false) := rfl
  go_enter Tryz.func35, Tryz.ntmps35
  go_wp2_with fail
  refine (rmay_any _ _ _ _ _ _ hv hv').mono ?_
  rintro e w0 ⟨rfl, hn0⟩
  obtain ⟨c0, c1, c2, c3, c4, hz⟩ := five_in hn0
  go_wp2_with fail
  refine (form_any _ _).mono ?_
  rintro e w1 ⟨rfl, hnF⟩
  obtain ⟨c0, c1, c2, c3, c4, hz⟩ := five_in (hn0.trans hnF)
  have HN := Lib.hid (((Nx.refl w).alloc _).trans (hn0.trans hnF))
  clear hn0 hnF
  go_wp2
  go_region_with (first | (go_at_call 62; refine (names_at 43 [109, 117, 108, 104, 115, 117] rfl _).mono ?_; rintro e w2 ⟨g, rfl, hg, hn2⟩; have hn3 : Nx w1 w2 := Nx.trans ((Nx.refl _).drew) hn2; have d0 := hn3.cell c0) | (go_at_call 63; refine (base_43 _).mono ?_; rintro e w' ⟨rfl, rfl⟩))
  all_goals
    have d4 := hn3.cell c4
    have hz3 : w.heap.size < w2.heap.size := Nat.lt_of_lt_of_le hz hn3.size
    go_wp2_with (go_at_call 68; refine (rmulh_any _ _ _ _ _ a1 a2 b1 b2).mono ?_; rintro e w' ⟨rfl, rfl⟩)
    go_ret2
    exact ⟨ret2_ub (by have q := HV.out; first | exact q.symm | (rw [q]; omega) | (rw [q]; simp; done)) HO.out.symm, HN.out.trans hn3⟩

set_option maxHeartbeats 2000000 in
set_option maxRecDepth 100000 in
theorem rvalue_44 (rd rs1 rs2 imm a b pc size : Int) (w : World) (hv : -2147483648 ≤ imm) (hv' : imm ≤ 2147483647) (a1 : 0 ≤ a) (a2 : a < 4294967296) (b1 : 0 ≤ b) (b2 : b < 4294967296) (p1 : 0 ≤ pc) (p2 : pc < 4294967296) (h : mayB 44 rd rs1 rs2 imm = true) :
    Calls Tryz.prog 35 #[.agg #[.int .i64 44, .int .i64 rd, .int .i64 rs1, .int .i64 rs2, .int .i32 imm], .int .u32 a, .int .u32 b, .int .u32 pc, .int .i64 size] w fun e w' => e = .returned (.tuple #[.int .u32 (valV 44 a b pc imm size), .bool (valO 44)]) ∧ Nx w w' := by
  have hf : formN 44 = 8 := rfl
  have HO : Hid (valO 44 = true) := rfl
  have HV : Hid (valV 44 a b pc imm size = mulh a b false false) := rfl
  go_enter Tryz.func35, Tryz.ntmps35
  go_wp2_with fail
  refine (rmay_any _ _ _ _ _ _ hv hv').mono ?_
  rintro e w0 ⟨rfl, hn0⟩
  obtain ⟨c0, c1, c2, c3, c4, hz⟩ := five_in hn0
  go_wp2_with fail
  refine (form_any _ _).mono ?_
  rintro e w1 ⟨rfl, hnF⟩
  obtain ⟨c0, c1, c2, c3, c4, hz⟩ := five_in (hn0.trans hnF)
  have HN := Lib.hid (((Nx.refl w).alloc _).trans (hn0.trans hnF))
  clear hn0 hnF
  go_wp2
  go_region_with (first | (go_at_call 62; refine (names_at 44 [109, 117, 108, 104, 117] rfl _).mono ?_; rintro e w2 ⟨g, rfl, hg, hn2⟩; have hn3 : Nx w1 w2 := Nx.trans ((Nx.refl _).drew) hn2; have d0 := hn3.cell c0) | (go_at_call 63; refine (base_44 _).mono ?_; rintro e w' ⟨rfl, rfl⟩))
  all_goals
    have d4 := hn3.cell c4
    have hz3 : w.heap.size < w2.heap.size := Nat.lt_of_lt_of_le hz hn3.size
    go_wp2_with (go_at_call 68; refine (rmulh_any _ _ _ _ _ a1 a2 b1 b2).mono ?_; rintro e w' ⟨rfl, rfl⟩)
    go_ret2
    exact ⟨ret2_ub (by have q := HV.out; first | exact q.symm | (rw [q]; omega) | (rw [q]; simp; done)) HO.out.symm, HN.out.trans hn3⟩

set_option maxHeartbeats 2000000 in
set_option maxRecDepth 100000 in
theorem rvalue_45 (rd rs1 rs2 imm a b pc size : Int) (w : World) (hv : -2147483648 ≤ imm) (hv' : imm ≤ 2147483647) (a1 : 0 ≤ a) (a2 : a < 4294967296) (b1 : 0 ≤ b) (b2 : b < 4294967296) (p1 : 0 ≤ pc) (p2 : pc < 4294967296) (h : mayB 45 rd rs1 rs2 imm = true) :
    Calls Tryz.prog 35 #[.agg #[.int .i64 45, .int .i64 rd, .int .i64 rs1, .int .i64 rs2, .int .i32 imm], .int .u32 a, .int .u32 b, .int .u32 pc, .int .i64 size] w fun e w' => e = .returned (.tuple #[.int .u32 (valV 45 a b pc imm size), .bool (valO 45)]) ∧ Nx w w' := by
  have hf : formN 45 = 8 := rfl
  have HO : Hid (valO 45 = true) := rfl
  have HV : Hid (valV 45 a b pc imm size = dv a b true) := rfl
  go_enter Tryz.func35, Tryz.ntmps35
  go_wp2_with fail
  refine (rmay_any _ _ _ _ _ _ hv hv').mono ?_
  rintro e w0 ⟨rfl, hn0⟩
  obtain ⟨c0, c1, c2, c3, c4, hz⟩ := five_in hn0
  go_wp2_with fail
  refine (form_any _ _).mono ?_
  rintro e w1 ⟨rfl, hnF⟩
  obtain ⟨c0, c1, c2, c3, c4, hz⟩ := five_in (hn0.trans hnF)
  have HN := Lib.hid (((Nx.refl w).alloc _).trans (hn0.trans hnF))
  clear hn0 hnF
  go_wp2
  go_region_with (first | (go_at_call 62; refine (names_at 45 [100, 105, 118] rfl _).mono ?_; rintro e w2 ⟨g, rfl, hg, hn2⟩; have hn3 : Nx w1 w2 := Nx.trans ((Nx.refl _).drew) hn2; have d0 := hn3.cell c0) | (go_at_call 63; refine (base_45 _).mono ?_; rintro e w' ⟨rfl, rfl⟩))
  all_goals
    have d4 := hn3.cell c4
    have hz3 : w.heap.size < w2.heap.size := Nat.lt_of_lt_of_le hz hn3.size
    go_wp2_with (go_at_call 69; refine (rdiv_any _ _ _ _ a1 a2 b1 b2).mono ?_; rintro e w' ⟨rfl, rfl⟩)
    go_ret2
    exact ⟨ret2_ub (by have q := HV.out; first | exact q.symm | (rw [q]; omega) | (rw [q]; simp; done)) HO.out.symm, HN.out.trans hn3⟩

set_option maxHeartbeats 2000000 in
set_option maxRecDepth 100000 in
theorem rvalue_46 (rd rs1 rs2 imm a b pc size : Int) (w : World) (hv : -2147483648 ≤ imm) (hv' : imm ≤ 2147483647) (a1 : 0 ≤ a) (a2 : a < 4294967296) (b1 : 0 ≤ b) (b2 : b < 4294967296) (p1 : 0 ≤ pc) (p2 : pc < 4294967296) (h : mayB 46 rd rs1 rs2 imm = true) :
    Calls Tryz.prog 35 #[.agg #[.int .i64 46, .int .i64 rd, .int .i64 rs1, .int .i64 rs2, .int .i32 imm], .int .u32 a, .int .u32 b, .int .u32 pc, .int .i64 size] w fun e w' => e = .returned (.tuple #[.int .u32 (valV 46 a b pc imm size), .bool (valO 46)]) ∧ Nx w w' := by
  have hf : formN 46 = 8 := rfl
  have HO : Hid (valO 46 = true) := rfl
  have HV : Hid (valV 46 a b pc imm size = dv a b false) := rfl
  go_enter Tryz.func35, Tryz.ntmps35
  go_wp2_with fail
  refine (rmay_any _ _ _ _ _ _ hv hv').mono ?_
  rintro e w0 ⟨rfl, hn0⟩
  obtain ⟨c0, c1, c2, c3, c4, hz⟩ := five_in hn0
  go_wp2_with fail
  refine (form_any _ _).mono ?_
  rintro e w1 ⟨rfl, hnF⟩
  obtain ⟨c0, c1, c2, c3, c4, hz⟩ := five_in (hn0.trans hnF)
  have HN := Lib.hid (((Nx.refl w).alloc _).trans (hn0.trans hnF))
  clear hn0 hnF
  go_wp2
  go_region_with (first | (go_at_call 62; refine (names_at 46 [100, 105, 118, 117] rfl _).mono ?_; rintro e w2 ⟨g, rfl, hg, hn2⟩; have hn3 : Nx w1 w2 := Nx.trans ((Nx.refl _).drew) hn2; have d0 := hn3.cell c0) | (go_at_call 63; refine (base_46 _).mono ?_; rintro e w' ⟨rfl, rfl⟩))
  all_goals
    have d4 := hn3.cell c4
    have hz3 : w.heap.size < w2.heap.size := Nat.lt_of_lt_of_le hz hn3.size
    go_wp2_with (go_at_call 69; refine (rdiv_any _ _ _ _ a1 a2 b1 b2).mono ?_; rintro e w' ⟨rfl, rfl⟩)
    go_ret2
    exact ⟨ret2_ub (by have q := HV.out; first | exact q.symm | (rw [q]; omega) | (rw [q]; simp; done)) HO.out.symm, HN.out.trans hn3⟩

set_option maxHeartbeats 2000000 in
set_option maxRecDepth 100000 in
theorem rvalue_47 (rd rs1 rs2 imm a b pc size : Int) (w : World) (hv : -2147483648 ≤ imm) (hv' : imm ≤ 2147483647) (a1 : 0 ≤ a) (a2 : a < 4294967296) (b1 : 0 ≤ b) (b2 : b < 4294967296) (p1 : 0 ≤ pc) (p2 : pc < 4294967296) (h : mayB 47 rd rs1 rs2 imm = true) :
    Calls Tryz.prog 35 #[.agg #[.int .i64 47, .int .i64 rd, .int .i64 rs1, .int .i64 rs2, .int .i32 imm], .int .u32 a, .int .u32 b, .int .u32 pc, .int .i64 size] w fun e w' => e = .returned (.tuple #[.int .u32 (valV 47 a b pc imm size), .bool (valO 47)]) ∧ Nx w w' := by
  have hf : formN 47 = 8 := rfl
  have HO : Hid (valO 47 = true) := rfl
  have HV : Hid (valV 47 a b pc imm size = rm a b true) := rfl
  go_enter Tryz.func35, Tryz.ntmps35
  go_wp2_with fail
  refine (rmay_any _ _ _ _ _ _ hv hv').mono ?_
  rintro e w0 ⟨rfl, hn0⟩
  obtain ⟨c0, c1, c2, c3, c4, hz⟩ := five_in hn0
  go_wp2_with fail
  refine (form_any _ _).mono ?_
  rintro e w1 ⟨rfl, hnF⟩
  obtain ⟨c0, c1, c2, c3, c4, hz⟩ := five_in (hn0.trans hnF)
  have HN := Lib.hid (((Nx.refl w).alloc _).trans (hn0.trans hnF))
  clear hn0 hnF
  go_wp2
  go_region_with (first | (go_at_call 62; refine (names_at 47 [114, 101, 109] rfl _).mono ?_; rintro e w2 ⟨g, rfl, hg, hn2⟩; have hn3 : Nx w1 w2 := Nx.trans ((Nx.refl _).drew) hn2; have d0 := hn3.cell c0) | (go_at_call 63; refine (base_47 _).mono ?_; rintro e w' ⟨rfl, rfl⟩))
  all_goals
    have d4 := hn3.cell c4
    have hz3 : w.heap.size < w2.heap.size := Nat.lt_of_lt_of_le hz hn3.size
    go_wp2_with (go_at_call 70; refine (rrem_any _ _ _ _ a1 a2 b1 b2).mono ?_; rintro e w' ⟨rfl, rfl⟩)
    go_ret2
    exact ⟨ret2_ub (by have q := HV.out; first | exact q.symm | (rw [q]; omega) | (rw [q]; simp; done)) HO.out.symm, HN.out.trans hn3⟩

set_option maxHeartbeats 2000000 in
set_option maxRecDepth 100000 in
theorem rvalue_48 (rd rs1 rs2 imm a b pc size : Int) (w : World) (hv : -2147483648 ≤ imm) (hv' : imm ≤ 2147483647) (a1 : 0 ≤ a) (a2 : a < 4294967296) (b1 : 0 ≤ b) (b2 : b < 4294967296) (p1 : 0 ≤ pc) (p2 : pc < 4294967296) (h : mayB 48 rd rs1 rs2 imm = true) :
    Calls Tryz.prog 35 #[.agg #[.int .i64 48, .int .i64 rd, .int .i64 rs1, .int .i64 rs2, .int .i32 imm], .int .u32 a, .int .u32 b, .int .u32 pc, .int .i64 size] w fun e w' => e = .returned (.tuple #[.int .u32 (valV 48 a b pc imm size), .bool (valO 48)]) ∧ Nx w w' := by
  have hf : formN 48 = 8 := rfl
  have HO : Hid (valO 48 = true) := rfl
  have HV : Hid (valV 48 a b pc imm size = rm a b false) := rfl
  go_enter Tryz.func35, Tryz.ntmps35
  go_wp2_with fail
  refine (rmay_any _ _ _ _ _ _ hv hv').mono ?_
  rintro e w0 ⟨rfl, hn0⟩
  obtain ⟨c0, c1, c2, c3, c4, hz⟩ := five_in hn0
  go_wp2_with fail
  refine (form_any _ _).mono ?_
  rintro e w1 ⟨rfl, hnF⟩
  obtain ⟨c0, c1, c2, c3, c4, hz⟩ := five_in (hn0.trans hnF)
  have HN := Lib.hid (((Nx.refl w).alloc _).trans (hn0.trans hnF))
  clear hn0 hnF
  go_wp2
  go_region_with (first | (go_at_call 62; refine (names_at 48 [114, 101, 109, 117] rfl _).mono ?_; rintro e w2 ⟨g, rfl, hg, hn2⟩; have hn3 : Nx w1 w2 := Nx.trans ((Nx.refl _).drew) hn2; have d0 := hn3.cell c0) | (go_at_call 63; refine (base_48 _).mono ?_; rintro e w' ⟨rfl, rfl⟩))
  all_goals
    have d4 := hn3.cell c4
    have hz3 : w.heap.size < w2.heap.size := Nat.lt_of_lt_of_le hz hn3.size
    go_wp2_with (go_at_call 70; refine (rrem_any _ _ _ _ a1 a2 b1 b2).mono ?_; rintro e w' ⟨rfl, rfl⟩)
    go_ret2
    exact ⟨ret2_ub (by have q := HV.out; first | exact q.symm | (rw [q]; omega) | (rw [q]; simp; done)) HO.out.symm, HN.out.trans hn3⟩

end Go.Proofs.YtndpgakjpokllaaGreat

