/- Parts of the proof, one behind the other. -/
import Derived.Test.YtndpgakjpokllaaGreatZsaw
/- Contracts of package typecaseref06: Value, operation by operation. -/
namespace Go.Proofs.YtndpgakjpokllaaGreat
open Go.RowKit
set_option linter.unusedVariables false
set_option linter.unusedSimpArgs false

set_option maxHeartbeats 2000000 in
set_option maxRecDepth 100000 in
theorem rvalue_13 (rd rs1 rs2 imm a b pc size : Int) (w : World) (hv : -2147483648 ≤ imm) (hv' : imm ≤ 2147483647) (a1 : 0 ≤ a) (a2 : a < 4294967296) (b1 : 0 ≤ b) (b2 : b < 4294967296) (p1 : 0 ≤ pc) (p2 : pc < 4294967296) (h : mayB 13 rd rs1 rs2 imm = true) :
    Calls Tryz.prog 35 #[.agg #[.int .i64 13, .int .i64 rd, .int .i64 rs1, .int .i64 rs2, .int .i32 imm], .int .u32 a, .int .u32 b, .int .u32 pc, .int .i64 size] w fun e w' => e = .returned (.tuple #[.int .u32 (0), .bool (valO 13)]) ∧ Nx w w' := by
  have hf : formN 13 = 4 := rfl
  have HO : Hid (valO 13 = false) := rfl
  have HV : Hid ((0 : Int) = 0) := rfl
  go_enter Tryz.func35, Tryz.ntmps35
  go_wp2_with fail
  refine (rmay_any _ _ _ _ _ _ hv hv').mono ?_
  rintro e w0 ⟨rfl, hn0⟩
  obtain ⟨c0, c1, c2, c3, c4, hz⟩ := five_in hn0
  go_wp2_with fail
  refine (form_any _ _).mono ?_
  rintro e w1 ⟨rfl, hnF⟩
  obtain ⟨c0, c1, c2, c3, c4, hz⟩ := five_in (hn0.trans hnF)
  have HN := Lib.hid (((Nx.refl w).alloc _).trans (hn0.trans hnF))
  clear hn0 hnF
  go_wp2
  go_region_with (first | (go_at_call 62; refine (names_at 13 [108, 119] rfl _).mono ?_; rintro e w2 ⟨g, rfl, hg, hn2⟩; have hn3 : Nx w1 w2 := Nx.trans ((Nx.refl _).drew) hn2; have d0 := hn3.cell c0) | (go_at_call 63; refine (base_13 _).mono ?_; rintro e w' ⟨rfl, rfl⟩))
  all_goals
    have d4 := hn3.cell c4
    have hz3 : w.heap.size < w2.heap.size := Nat.lt_of_lt_of_le hz hn3.size
    go_wp2_with fail
    go_ret2
    exact ⟨ret2_ub rfl HO.out.symm, HN.out.trans hn3⟩

set_option maxHeartbeats 2000000 in
set_option maxRecDepth 100000 in
theorem rvalue_14 (rd rs1 rs2 imm a b pc size : Int) (w : World) (hv : -2147483648 ≤ imm) (hv' : imm ≤ 2147483647) (a1 : 0 ≤ a) (a2 : a < 4294967296) (b1 : 0 ≤ b) (b2 : b < 4294967296) (p1 : 0 ≤ pc) (p2 : pc < 4294967296) (h : mayB 14 rd rs1 rs2 imm = true) :
    Calls Tryz.prog 35 #[.agg #[.int .i64 14, .int .i64 rd, .int .i64 rs1, .int .i64 rs2, .int .i32 imm], .int .u32 a, .int .u32 b, .int .u32 pc, .int .i64 size] w fun e w' => e = .returned (.tuple #[.int .u32 (0), .bool (valO 14)]) ∧ Nx w w' := by
  have hf : formN 14 = 4 := rfl
  have HO : Hid (valO 14 = false) := rfl
  have HV : Hid ((0 : Int) = 0) := rfl
  go_enter Tryz.func35, Tryz.ntmps35
  go_wp2_with fail
  refine (rmay_any _ _ _ _ _ _ hv hv').mono ?_
  rintro e w0 ⟨rfl, hn0⟩
  obtain ⟨c0, c1, c2, c3, c4, hz⟩ := five_in hn0
  go_wp2_with fail
  refine (form_any _ _).mono ?_
  rintro e w1 ⟨rfl, hnF⟩
  obtain ⟨c0, c1, c2, c3, c4, hz⟩ := five_in (hn0.trans hnF)
  have HN := Lib.hid (((Nx.refl w).alloc _).trans (hn0.trans hnF))
  clear hn0 hnF
  go_wp2
  go_region_with (first | (go_at_call 62; refine (names_at 14 [108, 98, 117] rfl _).mono ?_; rintro e w2 ⟨g, rfl, hg, hn2⟩; have hn3 : Nx w1 w2 := Nx.trans ((Nx.refl _).drew) hn2; have d0 := hn3.cell c0) | (go_at_call 63; refine (base_14 _).mono ?_; rintro e w' ⟨rfl, rfl⟩))
  all_goals
    have d4 := hn3.cell c4
    have hz3 : w.heap.size < w2.heap.size := Nat.lt_of_lt_of_le hz hn3.size
    go_wp2_with fail
    go_ret2
    exact ⟨ret2_ub rfl HO.out.symm, HN.out.trans hn3⟩

set_option maxHeartbeats 2000000 in
set_option maxRecDepth 100000 in
theorem rvalue_15 (rd rs1 rs2 imm a b pc size : Int) (w : World) (hv : -2147483648 ≤ imm) (hv' : imm ≤ 2147483647) (a1 : 0 ≤ a) (a2 : a < 4294967296) (b1 : 0 ≤ b) (b2 : b < 4294967296) (p1 : 0 ≤ pc) (p2 : pc < 4294967296) (h : mayB 15 rd rs1 rs2 imm = true) :
    Calls Tryz.prog 35 #[.agg #[.int .i64 15, .int .i64 rd, .int .i64 rs1, .int .i64 rs2, .int .i32 imm], .int .u32 a, .int .u32 b, .int .u32 pc, .int .i64 size] w fun e w' => e = .returned (.tuple #[.int .u32 (0), .bool (valO 15)]) ∧ Nx w w' := by
  have hf : formN 15 = 4 := rfl
  have HO : Hid (valO 15 = false) := rfl
  have HV : Hid ((0 : Int) = 0) := rfl
  go_enter Tryz.func35, Tryz.ntmps35
  go_wp2_with fail
  refine (rmay_any _ _ _ _ _ _ hv hv').mono ?_
  rintro e w0 ⟨rfl, hn0⟩
  obtain ⟨c0, c1, c2, c3, c4, hz⟩ := five_in hn0
  go_wp2_with fail
  refine (form_any _ _).mono ?_
  rintro e w1 ⟨rfl, hnF⟩
  obtain ⟨c0, c1, c2, c3, c4, hz⟩ := five_in (hn0.trans hnF)
  have HN := Lib.hid (((Nx.refl w).alloc _).trans (hn0.trans hnF))
  clear hn0 hnF
  go_wp2
  go_region_with (first | (go_at_call 62; refine (names_at 15 [108, 104, 117] rfl _).mono ?_; rintro e w2 ⟨g, rfl, hg, hn2⟩; have hn3 : Nx w1 w2 := Nx.trans ((Nx.refl _).drew) hn2; have d0 := hn3.cell c0) | (go_at_call 63; refine (base_15 _).mono ?_; rintro e w' ⟨rfl, rfl⟩))
  all_goals
    have d4 := hn3.cell c4
    have hz3 : w.heap.size < w2.heap.size := Nat.lt_of_lt_of_le hz hn3.size
    go_wp2_with fail
    go_ret2
    exact ⟨ret2_ub rfl HO.out.symm, HN.out.trans hn3⟩

set_option maxHeartbeats 2000000 in
set_option maxRecDepth 100000 in
theorem rvalue_16 (rd rs1 rs2 imm a b pc size : Int) (w : World) (hv : -2147483648 ≤ imm) (hv' : imm ≤ 2147483647) (a1 : 0 ≤ a) (a2 : a < 4294967296) (b1 : 0 ≤ b) (b2 : b < 4294967296) (p1 : 0 ≤ pc) (p2 : pc < 4294967296) (h : mayB 16 rd rs1 rs2 imm = true) :
    Calls Tryz.prog 35 #[.agg #[.int .i64 16, .int .i64 rd, .int .i64 rs1, .int .i64 rs2, .int .i32 imm], .int .u32 a, .int .u32 b, .int .u32 pc, .int .i64 size] w fun e w' => e = .returned (.tuple #[.int .u32 (0), .bool (valO 16)]) ∧ Nx w w' := by
  have hf : formN 16 = 5 := rfl
  have HO : Hid (valO 16 = false) := rfl
  have HV : Hid ((0 : Int) = 0) := rfl
  go_enter Tryz.func35, Tryz.ntmps35
  go_wp2_with fail
  refine (rmay_any _ _ _ _ _ _ hv hv').mono ?_
  rintro e w0 ⟨rfl, hn0⟩
  obtain ⟨c0, c1, c2, c3, c4, hz⟩ := five_in hn0
  go_wp2_with fail
  refine (form_any _ _).mono ?_
  rintro e w1 ⟨rfl, hnF⟩
  obtain ⟨c0, c1, c2, c3, c4, hz⟩ := five_in (hn0.trans hnF)
  have HN := Lib.hid (((Nx.refl w).alloc _).trans (hn0.trans hnF))
  clear hn0 hnF
  go_wp2
  go_region_with (first | (go_at_call 62; refine (names_at 16 [115, 98] rfl _).mono ?_; rintro e w2 ⟨g, rfl, hg, hn2⟩; have hn3 : Nx w1 w2 := Nx.trans ((Nx.refl _).drew) hn2; have d0 := hn3.cell c0) | (go_at_call 63; refine (base_16 _).mono ?_; rintro e w' ⟨rfl, rfl⟩))
  all_goals
    have d4 := hn3.cell c4
    have hz3 : w.heap.size < w2.heap.size := Nat.lt_of_lt_of_le hz hn3.size
    go_wp2_with fail
    go_ret2
    exact ⟨ret2_ub rfl HO.out.symm, HN.out.trans hn3⟩

set_option maxHeartbeats 2000000 in
set_option maxRecDepth 100000 in
theorem rvalue_17 (rd rs1 rs2 imm a b pc size : Int) (w : World) (hv : -2147483648 ≤ imm) (hv' : imm ≤ 2147483647) (a1 : 0 ≤ a) (a2 : a < 4294967296) (b1 : 0 ≤ b) (b2 : b < 4294967296) (p1 : 0 ≤ pc) (p2 : pc < 4294967296) (h : mayB 17 rd rs1 rs2 imm = true) :
    Calls Tryz.prog 35 #[.agg #[.int .i64 17, .int .i64 rd, .int .i64 rs1, .int .i64 rs2, .int .i32 imm], .int .u32 a, .int .u32 b, .int .u32 pc, .int .i64 size] w fun e w' => e = .returned (.tuple #[.int .u32 (0), .bool (valO 17)]) ∧ Nx w w' := by
  have hf : formN 17 = 5 := rfl
  have HO : Hid (valO 17 = false) := rfl
  have HV : Hid ((0 : Int) = 0) := rfl
  go_enter Tryz.func35, Tryz.ntmps35
  go_wp2_with fail
  refine (rmay_any _ _ _ _ _ _ hv hv').mono ?_
  rintro e w0 ⟨rfl, hn0⟩
  obtain ⟨c0, c1, c2, c3, c4, hz⟩ := five_in hn0
  go_wp2_with fail
  refine (form_any _ _).mono ?_
  rintro e w1 ⟨rfl, hnF⟩
  obtain ⟨c0, c1, c2, c3, c4, hz⟩ := five_in (hn0.trans hnF)
  have HN := Lib.hid (((Nx.refl w).alloc _).trans (hn0.trans hnF))
  clear hn0 hnF
  go_wp2
  go_region_with (first | (go_at_call 62; refine (names_at 17 [115, 104] rfl _).mono ?_; rintro e w2 ⟨g, rfl, hg, hn2⟩; have hn3 : Nx w1 w2 := Nx.trans ((Nx.refl _).drew) hn2; have d0 := hn3.cell c0) | (go_at_call 63; refine (base_17 _).mono ?_; rintro e w' ⟨rfl, rfl⟩))
  all_goals
    have d4 := hn3.cell c4
    have hz3 : w.heap.size < w2.heap.size := Nat.lt_of_lt_of_le hz hn3.size
    go_wp2_with fail
    go_ret2
    exact ⟨ret2_ub rfl HO.out.symm, HN.out.trans hn3⟩

set_option maxHeartbeats 2000000 in
set_option maxRecDepth 100000 in
theorem rvalue_18 (rd rs1 rs2 imm a b pc size : Int) (w : World) (hv : -2147483648 ≤ imm) (hv' : imm ≤ 2147483647) (a1 : 0 ≤ a) (a2 : a < 4294967296) (b1 : 0 ≤ b) (b2 : b < 4294967296) (p1 : 0 ≤ pc) (p2 : pc < 4294967296) (h : mayB 18 rd rs1 rs2 imm = true) :
    Calls Tryz.prog 35 #[.agg #[.int .i64 18, .int .i64 rd, .int .i64 rs1, .int .i64 rs2, .int .i32 imm], .int .u32 a, .int .u32 b, .int .u32 pc, .int .i64 size] w fun e w' => e = .returned (.tuple #[.int .u32 (0), .bool (valO 18)]) ∧ Nx w w' := by
  have hf : formN 18 = 5 := rfl
  have HO : Hid (valO 18 = false) := rfl
  have HV : Hid ((0 : Int) = 0) := rfl
  go_enter Tryz.func35, Tryz.ntmps35
  go_wp2_with fail
  refine (rmay_any _ _ _ _ _ _ hv hv').mono ?_
  rintro e w0 ⟨rfl, hn0⟩
  obtain ⟨c0, c1, c2, c3, c4, hz⟩ := five_in hn0
  go_wp2_with fail
  refine (form_any _ _).mono ?_
  rintro e w1 ⟨rfl, hnF⟩
  obtain ⟨c0, c1, c2, c3, c4, hz⟩ := five_in (hn0.trans hnF)
  have HN := Lib.hid (((Nx.refl w).alloc _).trans (hn0.trans hnF))
  clear hn0 hnF
  go_wp2
  go_region_with (first | (go_at_call 62; refine (names_at 18 [115, 119] rfl _).mono ?_; rintro e w2 ⟨g, rfl, hg, hn2⟩; have hn3 : Nx w1 w2 := Nx.trans ((Nx.refl _).drew) hn2; have d0 := hn3.cell c0) | (go_at_call 63; refine (base_18 _).mono ?_; rintro e w' ⟨rfl, rfl⟩))
  all_goals
    have d4 := hn3.cell c4
    have hz3 : w.heap.size < w2.heap.size := Nat.lt_of_lt_of_le hz hn3.size
    go_wp2_with fail
    go_ret2
    exact ⟨ret2_ub rfl HO.out.symm, HN.out.trans hn3⟩

set_option maxHeartbeats 2000000 in
set_option maxRecDepth 100000 in
theorem rvalue_19 (rd rs1 rs2 imm a b pc size : Int) (w : World) (hv : -2147483648 ≤ imm) (hv' : imm ≤ 2147483647) (a1 : 0 ≤ a) (a2 : a < 4294967296) (b1 : 0 ≤ b) (b2 : b < 4294967296) (p1 : 0 ≤ pc) (p2 : pc < 4294967296) (h : mayB 19 rd rs1 rs2 imm = true) :
    Calls Tryz.prog 35 #[.agg #[.int .i64 19, .int .i64 rd, .int .i64 rs1, .int .i64 rs2, .int .i32 imm], .int .u32 a, .int .u32 b, .int .u32 pc, .int .i64 size] w fun e w' => e = .returned (.tuple #[.int .u32 (valV 19 a b pc imm size), .bool (valO 19)]) ∧ Nx w w' := by
  have hf : formN 19 = 6 := rfl
  have HO : Hid (valO 19 = true) := rfl
  have i1 : 0 ≤ imm % 4294967296 := by omega
  have i2 : imm % 4294967296 < 4294967296 := by omega
  have HX : Hid (valV 19 a b pc imm size = recV 19 a (imm % 4294967296)) := rfl
  generalize hX : imm % 4294967296 = X at *
  have HXX := Lib.hid hX
  clear hX
  have HV : Hid (valV 19 a b pc imm size = (a + X) % 4294967296) := HX.out
  clear HX
  have qX : IntKind.u32.wrap imm = X := by rw [wrap_u32]; exact HXX.out
  go_enter Tryz.func35, Tryz.ntmps35
  go_wp2_with fail
  refine (rmay_any _ _ _ _ _ _ hv hv').mono ?_
  rintro e w0 ⟨rfl, hn0⟩
  obtain ⟨c0, c1, c2, c3, c4, hz⟩ := five_in hn0
  go_wp2_with fail
  refine (form_any _ _).mono ?_
  rintro e w1 ⟨rfl, hnF⟩
  obtain ⟨c0, c1, c2, c3, c4, hz⟩ := five_in (hn0.trans hnF)
  have HN := Lib.hid (((Nx.refl w).alloc _).trans (hn0.trans hnF))
  clear hn0 hnF
  go_wp2
  go_region_with (first | (go_at_call 62; refine (names_at 19 [97, 100, 100, 105] rfl _).mono ?_; rintro e w2 ⟨g, rfl, hg, hn2⟩; have hn3 : Nx w1 w2 := Nx.trans ((Nx.refl _).drew) hn2; have d0 := hn3.cell c0) | (go_at_call 63; refine (base_19 _).mono ?_; rintro e w' ⟨rfl, rfl⟩))
  all_goals
    have d4 := hn3.cell c4
    have hz3 : w.heap.size < w2.heap.size := Nat.lt_of_lt_of_le hz hn3.size
    go_wp2_with fail
    go_ret2
    exact ⟨ret2_ub (by have q := HV.out; first | exact q.symm | (rw [q]; omega) | (rw [q]; simp; done)) HO.out.symm, HN.out.trans hn3⟩

set_option maxHeartbeats 2000000 in
set_option maxRecDepth 100000 in
theorem rvalue_20 (rd rs1 rs2 imm a b pc size : Int) (w : World) (hv : -2147483648 ≤ imm) (hv' : imm ≤ 2147483647) (a1 : 0 ≤ a) (a2 : a < 4294967296) (b1 : 0 ≤ b) (b2 : b < 4294967296) (p1 : 0 ≤ pc) (p2 : pc < 4294967296) (h : mayB 20 rd rs1 rs2 imm = true) :
    Calls Tryz.prog 35 #[.agg #[.int .i64 20, .int .i64 rd, .int .i64 rs1, .int .i64 rs2, .int .i32 imm], .int .u32 a, .int .u32 b, .int .u32 pc, .int .i64 size] w fun e w' => e = .returned (.tuple #[.int .u32 (valV 20 a b pc imm size), .bool (valO 20)]) ∧ Nx w w' := by
  have hf : formN 20 = 6 := rfl
  have HO : Hid (valO 20 = true) := rfl
  have i1 : 0 ≤ imm % 4294967296 := by omega
  have i2 : imm % 4294967296 < 4294967296 := by omega
  have HX : Hid (valV 20 a b pc imm size = recV 20 a (imm % 4294967296)) := rfl
  generalize hX : imm % 4294967296 = X at *
  have HXX := Lib.hid hX
  clear hX
  have HV : Hid (valV 20 a b pc imm size = ltI (wrap32 a) (wrap32 X)) := HX.out
  clear HX
  have qX : IntKind.u32.wrap imm = X := by rw [wrap_u32]; exact HXX.out
  go_enter Tryz.func35, Tryz.ntmps35
  go_wp2_with fail
  refine (rmay_any _ _ _ _ _ _ hv hv').mono ?_
  rintro e w0 ⟨rfl, hn0⟩
  obtain ⟨c0, c1, c2, c3, c4, hz⟩ := five_in hn0
  go_wp2_with fail
  refine (form_any _ _).mono ?_
  rintro e w1 ⟨rfl, hnF⟩
  obtain ⟨c0, c1, c2, c3, c4, hz⟩ := five_in (hn0.trans hnF)
  have HN := Lib.hid (((Nx.refl w).alloc _).trans (hn0.trans hnF))
  clear hn0 hnF
  go_wp2
  go_region_with (first | (go_at_call 62; refine (names_at 20 [115, 108, 116, 105] rfl _).mono ?_; rintro e w2 ⟨g, rfl, hg, hn2⟩; have hn3 : Nx w1 w2 := Nx.trans ((Nx.refl _).drew) hn2; have d0 := hn3.cell c0) | (go_at_call 63; refine (base_20 _).mono ?_; rintro e w' ⟨rfl, rfl⟩))
  all_goals
    have d4 := hn3.cell c4
    have hz3 : w.heap.size < w2.heap.size := Nat.lt_of_lt_of_le hz hn3.size
    go_wp2_with (first | (go_at_call 65; refine (rsigned_any _ _ (by omega) (by omega)).mono ?_; rintro e w' ⟨rfl, rfl⟩) | (go_at_call 64; refine (rone_any _ _).mono ?_; rintro e w' ⟨rfl, rfl⟩))
    all_goals
      go_ret2
      exact ⟨ret2_ub (by rw [HV.out]; unfold ltI; split <;> omega) HO.out.symm, HN.out.trans hn3⟩

set_option maxHeartbeats 2000000 in
set_option maxRecDepth 100000 in
theorem rvalue_21 (rd rs1 rs2 imm a b pc size : Int) (w : World) (hv : -2147483648 ≤ imm) (hv' : imm ≤ 2147483647) (a1 : 0 ≤ a) (a2 : a < 4294967296) (b1 : 0 ≤ b) (b2 : b < 4294967296) (p1 : 0 ≤ pc) (p2 : pc < 4294967296) (h : mayB 21 rd rs1 rs2 imm = true) :
    Calls Tryz.prog 35 #[.agg #[.int .i64 21, .int .i64 rd, .int .i64 rs1, .int .i64 rs2, .int .i32 imm], .int .u32 a, .int .u32 b, .int .u32 pc, .int .i64 size] w fun e w' => e = .returned (.tuple #[.int .u32 (valV 21 a b pc imm size), .bool (valO 21)]) ∧ Nx w w' := by
  have hf : formN 21 = 6 := rfl
  have HO : Hid (valO 21 = true) := rfl
  have i1 : 0 ≤ imm % 4294967296 := by omega
  have i2 : imm % 4294967296 < 4294967296 := by omega
  have HX : Hid (valV 21 a b pc imm size = recV 21 a (imm % 4294967296)) := rfl
  generalize hX : imm % 4294967296 = X at *
  have HXX := Lib.hid hX
  clear hX
  have HV : Hid (valV 21 a b pc imm size = ltI a X) := HX.out
  clear HX
  have qX : IntKind.u32.wrap imm = X := by rw [wrap_u32]; exact HXX.out
  go_enter Tryz.func35, Tryz.ntmps35
  go_wp2_with fail
  refine (rmay_any _ _ _ _ _ _ hv hv').mono ?_
  rintro e w0 ⟨rfl, hn0⟩
  obtain ⟨c0, c1, c2, c3, c4, hz⟩ := five_in hn0
  go_wp2_with fail
  refine (form_any _ _).mono ?_
  rintro e w1 ⟨rfl, hnF⟩
  obtain ⟨c0, c1, c2, c3, c4, hz⟩ := five_in (hn0.trans hnF)
  have HN := Lib.hid (((Nx.refl w).alloc _).trans (hn0.trans hnF))
  clear hn0 hnF
  go_wp2
  go_region_with (first | (go_at_call 62; refine (names_at 21 [115, 108, 116, 105, 117] rfl _).mono ?_; rintro e w2 ⟨g, rfl, hg, hn2⟩; have hn3 : Nx w1 w2 := Nx.trans ((Nx.refl _).drew) hn2; have d0 := hn3.cell c0) | (go_at_call 63; refine (base_21 _).mono ?_; rintro e w' ⟨rfl, rfl⟩))
  all_goals
    have d4 := hn3.cell c4
    have hz3 : w.heap.size < w2.heap.size := Nat.lt_of_lt_of_le hz hn3.size
    go_wp2_with (go_at_call 64; refine (rone_any _ _).mono ?_; rintro e w' ⟨rfl, rfl⟩)
    all_goals
      go_ret2
      exact ⟨ret2_ub (by rw [HV.out]; unfold ltI; split <;> omega) HO.out.symm, HN.out.trans hn3⟩

set_option maxHeartbeats 2000000 in
set_option maxRecDepth 100000 in
theorem rvalue_22 (rd rs1 rs2 imm a b pc size : Int) (w : World) (hv : -2147483648 ≤ imm) (hv' : imm ≤ 2147483647) (a1 : 0 ≤ a) (a2 : a < 4294967296) (b1 : 0 ≤ b) (b2 : b < 4294967296) (p1 : 0 ≤ pc) (p2 : pc < 4294967296) (h : mayB 22 rd rs1 rs2 imm = true) :
    Calls Tryz.prog 35 #[.agg #[.int .i64 22, .int .i64 rd, .int .i64 rs1, .int .i64 rs2, .int .i32 imm], .int .u32 a, .int .u32 b, .int .u32 pc, .int .i64 size] w fun e w' => e = .returned (.tuple #[.int .u32 (valV 22 a b pc imm size), .bool (valO 22)]) ∧ Nx w w' := by
  have hf : formN 22 = 6 := rfl
  have HO : Hid (valO 22 = true) := rfl
  have i1 : 0 ≤ imm % 4294967296 := by omega
  have i2 : imm % 4294967296 < 4294967296 := by omega
  have HX : Hid (valV 22 a b pc imm size = recV 22 a (imm % 4294967296)) := rfl
  generalize hX : imm % 4294967296 = X at *
  have HXX := Lib.hid hX
  clear hX
  have HV : Hid (valV 22 a b pc imm size = bits .xor .u32 a X) := HX.out
  clear HX
  have qX : IntKind.u32.wrap imm = X := by rw [wrap_u32]; exact HXX.out
  have HP := Lib.hid (tbl_xor a X a1 a2 i1 i2)
  go_enter Tryz.func35, Tryz.ntmps35
  go_wp2_with fail
  refine (rmay_any _ _ _ _ _ _ hv hv').mono ?_
  rintro e w0 ⟨rfl, hn0⟩
  obtain ⟨c0, c1, c2, c3, c4, hz⟩ := five_in hn0
  go_wp2_with fail
  refine (form_any _ _).mono ?_
  rintro e w1 ⟨rfl, hnF⟩
  obtain ⟨c0, c1, c2, c3, c4, hz⟩ := five_in (hn0.trans hnF)
  have HN := Lib.hid (((Nx.refl w).alloc _).trans (hn0.trans hnF))
  clear hn0 hnF
  go_wp2
  go_region_with (first | (go_at_call 62; refine (names_at 22 [120, 111, 114, 105] rfl _).mono ?_; rintro e w2 ⟨g, rfl, hg, hn2⟩; have hn3 : Nx w1 w2 := Nx.trans ((Nx.refl _).drew) hn2; have d0 := hn3.cell c0) | (go_at_call 63; refine (base_22 _).mono ?_; rintro e w' ⟨rfl, rfl⟩))
  all_goals
    have d4 := hn3.cell c4
    have hz3 : w.heap.size < w2.heap.size := Nat.lt_of_lt_of_le hz hn3.size
    go_wp2_with (go_at_call 66; refine (rbits_any a X 0 1 1 0 (by decide) (by decide) (by decide) (by decide) _ a1 a2 i1 i2).mono ?_; rintro e w3 ⟨rfl, hn4⟩)
    go_ret2
    exact ⟨ret2_ub (HP.out.trans HV.out.symm) HO.out.symm, HN.out.trans (hn3.trans hn4)⟩

set_option maxHeartbeats 2000000 in
set_option maxRecDepth 100000 in
theorem rvalue_23 (rd rs1 rs2 imm a b pc size : Int) (w : World) (hv : -2147483648 ≤ imm) (hv' : imm ≤ 2147483647) (a1 : 0 ≤ a) (a2 : a < 4294967296) (b1 : 0 ≤ b) (b2 : b < 4294967296) (p1 : 0 ≤ pc) (p2 : pc < 4294967296) (h : mayB 23 rd rs1 rs2 imm = true) :
    Calls Tryz.prog 35 #[.agg #[.int .i64 23, .int .i64 rd, .int .i64 rs1, .int .i64 rs2, .int .i32 imm], .int .u32 a, .int .u32 b, .int .u32 pc, .int .i64 size] w fun e w' => e = .returned (.tuple #[.int .u32 (valV 23 a b pc imm size), .bool (valO 23)]) ∧ Nx w w' := by
  have hf : formN 23 = 6 := rfl
  have HO : Hid (valO 23 = true) := rfl
  have i1 : 0 ≤ imm % 4294967296 := by omega
  have i2 : imm % 4294967296 < 4294967296 := by omega
  have HX : Hid (valV 23 a b pc imm size = recV 23 a (imm % 4294967296)) := rfl
  generalize hX : imm % 4294967296 = X at *
  have HXX := Lib.hid hX
  clear hX
  have HV : Hid (valV 23 a b pc imm size = bits .or .u32 a X) := HX.out
  clear HX
  have qX : IntKind.u32.wrap imm = X := by rw [wrap_u32]; exact HXX.out
  have HP := Lib.hid (tbl_or a X a1 a2 i1 i2)
  go_enter Tryz.func35, Tryz.ntmps35
  go_wp2_with fail
  refine (rmay_any _ _ _ _ _ _ hv hv').mono ?_
  rintro e w0 ⟨rfl, hn0⟩
  obtain ⟨c0, c1, c2, c3, c4, hz⟩ := five_in hn0
  go_wp2_with fail
  refine (form_any _ _).mono ?_
  rintro e w1 ⟨rfl, hnF⟩
  obtain ⟨c0, c1, c2, c3, c4, hz⟩ := five_in (hn0.trans hnF)
  have HN := Lib.hid (((Nx.refl w).alloc _).trans (hn0.trans hnF))
  clear hn0 hnF
  go_wp2
  go_region_with (first | (go_at_call 62; refine (names_at 23 [111, 114, 105] rfl _).mono ?_; rintro e w2 ⟨g, rfl, hg, hn2⟩; have hn3 : Nx w1 w2 := Nx.trans ((Nx.refl _).drew) hn2; have d0 := hn3.cell c0) | (go_at_call 63; refine (base_23 _).mono ?_; rintro e w' ⟨rfl, rfl⟩))
  all_goals
    have d4 := hn3.cell c4
    have hz3 : w.heap.size < w2.heap.size := Nat.lt_of_lt_of_le hz hn3.size
    go_wp2_with (go_at_call 66; refine (rbits_any a X 0 1 1 1 (by decide) (by decide) (by decide) (by decide) _ a1 a2 i1 i2).mono ?_; rintro e w3 ⟨rfl, hn4⟩)
    go_ret2
    exact ⟨ret2_ub (HP.out.trans HV.out.symm) HO.out.symm, HN.out.trans (hn3.trans hn4)⟩

set_option maxHeartbeats 2000000 in
set_option maxRecDepth 100000 in
theorem rvalue_24 (rd rs1 rs2 imm a b pc size : Int) (w : World) (hv : -2147483648 ≤ imm) (hv' : imm ≤ 2147483647) (a1 : 0 ≤ a) (a2 : a < 4294967296) (b1 : 0 ≤ b) (b2 : b < 4294967296) (p1 : 0 ≤ pc) (p2 : pc < 4294967296) (h : mayB 24 rd rs1 rs2 imm = true) :
    Calls Tryz.prog 35 #[.agg #[.int .i64 24, .int .i64 rd, .int .i64 rs1, .int .i64 rs2, .int .i32 imm], .int .u32 a, .int .u32 b, .int .u32 pc, .int .i64 size] w fun e w' => e = .returned (.tuple #[.int .u32 (valV 24 a b pc imm size), .bool (valO 24)]) ∧ Nx w w' := by
  have hf : formN 24 = 6 := rfl
  have HO : Hid (valO 24 = true) := rfl
  have i1 : 0 ≤ imm % 4294967296 := by omega
  have i2 : imm % 4294967296 < 4294967296 := by omega
  have HX : Hid (valV 24 a b pc imm size = recV 24 a (imm % 4294967296)) := rfl
  generalize hX : imm % 4294967296 = X at *
  have HXX := Lib.hid hX
  clear hX
  have HV : Hid (valV 24 a b pc imm size = bits .and .u32 a X) := HX.out
  clear HX
  have qX : IntKind.u32.wrap imm = X := by rw [wrap_u32]; exact HXX.out
  have HP := Lib.hid (tbl_and a X a1 a2 i1 i2)
  go_enter Tryz.func35, Tryz.ntmps35
  go_wp2_with fail
  refine (rmay_any _ _ _ _ _ _ hv hv').mono ?_
  rintro e w0 ⟨rfl, hn0⟩
  obtain ⟨c0, c1, c2, c3, c4, hz⟩ := five_in hn0
  go_wp2_with fail
  refine (form_any _ _).mono ?_
  rintro e w1 ⟨rfl, hnF⟩
  obtain ⟨c0, c1, c2, c3, c4, hz⟩ := five_in (hn0.trans hnF)
  have HN := Lib.hid (((Nx.refl w).alloc _).trans (hn0.trans hnF))
  clear hn0 hnF
  go_wp2
  go_region_with (first | (go_at_call 62; refine (names_at 24 [97, 110, 100, 105] rfl _).mono ?_; rintro e w2 ⟨g, rfl, hg, hn2⟩; have hn3 : Nx w1 w2 := Nx.trans ((Nx.refl _).drew) hn2; have d0 := hn3.cell c0) | (go_at_call 63; refine (base_24 _).mono ?_; rintro e w' ⟨rfl, rfl⟩))
  all_goals
    have d4 := hn3.cell c4
    have hz3 : w.heap.size < w2.heap.size := Nat.lt_of_lt_of_le hz hn3.size
    go_wp2_with (go_at_call 66; refine (rbits_any a X 0 0 0 1 (by decide) (by decide) (by decide) (by decide) _ a1 a2 i1 i2).mono ?_; rintro e w3 ⟨rfl, hn4⟩)
    go_ret2
    exact ⟨ret2_ub (HP.out.trans HV.out.symm) HO.out.symm, HN.out.trans (hn3.trans hn4)⟩

end Go.Proofs.YtndpgakjpokllaaGreat

