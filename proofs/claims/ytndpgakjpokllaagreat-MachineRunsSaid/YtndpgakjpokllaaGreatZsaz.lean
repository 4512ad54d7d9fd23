/- Parts of the proof, one behind the other. -/
import Derived.Test.YtndpgakjpokllaaGreatZsaw
/- Contracts of package typecaseref06: Value, operation by operation. -/
namespace Go.Proofs.YtndpgakjpokllaaGreat
open Go.RowKit
set_option linter.unusedVariables false
set_option linter.unusedSimpArgs false

set_option maxHeartbeats 2000000 in
set_option maxRecDepth 100000 in
theorem rvalue_25 (rd rs1 rs2 imm a b pc size : Int) (w : World) (hv : -2147483648 ≤ imm) (hv' : imm ≤ 2147483647) (a1 : 0 ≤ a) (a2 : a < 4294967296) (b1 : 0 ≤ b) (b2 : b < 4294967296) (p1 : 0 ≤ pc) (p2 : pc < 4294967296) (h : mayB 25 rd rs1 rs2 imm = true) :
    Calls Tryz.prog 35 #[.agg #[.int .i64 25, .int .i64 rd, .int .i64 rs1, .int .i64 rs2, .int .i32 imm], .int .u32 a, .int .u32 b, .int .u32 pc, .int .i64 size] w fun e w' => e = .returned (.tuple #[.int .u32 (valV 25 a b pc imm size), .bool (valO 25)]) ∧ Nx w w' := by
  have hf : formN 25 = 7 := rfl
  have HO : Hid (valO 25 = true) := rfl
  have i1 : 0 ≤ imm % 4294967296 := by omega
  have i2 : imm % 4294967296 < 4294967296 := by omega
  have HX : Hid (valV 25 a b pc imm size = recV 25 a (imm % 4294967296)) := rfl
  generalize hX : imm % 4294967296 = X at *
  have HXX := Lib.hid hX
  clear hX
  have HV : Hid (valV 25 a b pc imm size = a * 2 ^ (X % 32).toNat % 4294967296) := HX.out
  clear HX
  have qX : IntKind.u32.wrap imm = X := by rw [wrap_u32]; exact HXX.out
  have HP := Lib.hid (shf_up a a1 a2 false (X % 32).toNat)
  go_enter Tryz.func35, Tryz.ntmps35
  go_wp2_with fail
  refine (rmay_any _ _ _ _ _ _ hv hv').mono ?_
  rintro e w0 ⟨rfl, hn0⟩
  obtain ⟨c0, c1, c2, c3, c4, hz⟩ := five_in hn0
  go_wp2_with fail
  refine (form_any _ _).mono ?_
  rintro e w1 ⟨rfl, hnF⟩
  obtain ⟨c0, c1, c2, c3, c4, hz⟩ := five_in (hn0.trans hnF)
  have HN := Lib.hid (((Nx.refl w).alloc _).trans (hn0.trans hnF))
  clear hn0 hnF
  go_wp2
  go_region_with (first | (go_at_call 62; refine (names_at 25 [115, 108, 108, 105] rfl _).mono ?_; rintro e w2 ⟨g, rfl, hg, hn2⟩; have hn3 : Nx w1 w2 := Nx.trans ((Nx.refl _).drew) hn2; have d0 := hn3.cell c0) | (go_at_call 63; refine (base_25 _).mono ?_; rintro e w' ⟨rfl, rfl⟩))
  all_goals
    have d4 := hn3.cell c4
    have hz3 : w.heap.size < w2.heap.size := Nat.lt_of_lt_of_le hz hn3.size
    go_wp2_with (go_at_call 67; refine (rshifted_any true false a X _ a1 a2 i1 i2).mono ?_; rintro e w' ⟨rfl, rfl⟩)
    go_ret2
    exact ⟨ret2_ub (HP.out.trans HV.out.symm) HO.out.symm, HN.out.trans hn3⟩

set_option maxHeartbeats 2000000 in
set_option maxRecDepth 100000 in
theorem rvalue_26 (rd rs1 rs2 imm a b pc size : Int) (w : World) (hv : -2147483648 ≤ imm) (hv' : imm ≤ 2147483647) (a1 : 0 ≤ a) (a2 : a < 4294967296) (b1 : 0 ≤ b) (b2 : b < 4294967296) (p1 : 0 ≤ pc) (p2 : pc < 4294967296) (h : mayB 26 rd rs1 rs2 imm = true) :
    Calls Tryz.prog 35 #[.agg #[.int .i64 26, .int .i64 rd, .int .i64 rs1, .int .i64 rs2, .int .i32 imm], .int .u32 a, .int .u32 b, .int .u32 pc, .int .i64 size] w fun e w' => e = .returned (.tuple #[.int .u32 (valV 26 a b pc imm size), .bool (valO 26)]) ∧ Nx w w' := by
  have hf : formN 26 = 7 := rfl
  have HO : Hid (valO 26 = true) := rfl
  have i1 : 0 ≤ imm % 4294967296 := by omega
  have i2 : imm % 4294967296 < 4294967296 := by omega
  have HX : Hid (valV 26 a b pc imm size = recV 26 a (imm % 4294967296)) := rfl
  generalize hX : imm % 4294967296 = X at *
  have HXX := Lib.hid hX
  clear hX
  have HV : Hid (valV 26 a b pc imm size = a / 2 ^ (X % 32).toNat) := HX.out
  clear HX
  have qX : IntKind.u32.wrap imm = X := by rw [wrap_u32]; exact HXX.out
  have HP := Lib.hid (shf_down a (X % 32).toNat)
  go_enter Tryz.func35, Tryz.ntmps35
  go_wp2_with fail
  refine (rmay_any _ _ _ _ _ _ hv hv').mono ?_
  rintro e w0 ⟨rfl, hn0⟩
  obtain ⟨c0, c1, c2, c3, c4, hz⟩ := five_in hn0
  go_wp2_with fail
  refine (form_any _ _).mono ?_
  rintro e w1 ⟨rfl, hnF⟩
  obtain ⟨c0, c1, c2, c3, c4, hz⟩ := five_in (hn0.trans hnF)
  have HN := Lib.hid (((Nx.refl w).alloc _).trans (hn0.trans hnF))
  clear hn0 hnF
  go_wp2
  go_region_with (first | (go_at_call 62; refine (names_at 26 [115, 114, 108, 105] rfl _).mono ?_; rintro e w2 ⟨g, rfl, hg, hn2⟩; have hn3 : Nx w1 w2 := Nx.trans ((Nx.refl _).drew) hn2; have d0 := hn3.cell c0) | (go_at_call 63; refine (base_26 _).mono ?_; rintro e w' ⟨rfl, rfl⟩))
  all_goals
    have d4 := hn3.cell c4
    have hz3 : w.heap.size < w2.heap.size := Nat.lt_of_lt_of_le hz hn3.size
    go_wp2_with (go_at_call 67; refine (rshifted_any false false a X _ a1 a2 i1 i2).mono ?_; rintro e w' ⟨rfl, rfl⟩)
    go_ret2
    exact ⟨ret2_ub (HP.out.trans HV.out.symm) HO.out.symm, HN.out.trans hn3⟩

set_option maxHeartbeats 2000000 in
set_option maxRecDepth 100000 in
theorem rvalue_27 (rd rs1 rs2 imm a b pc size : Int) (w : World) (hv : -2147483648 ≤ imm) (hv' : imm ≤ 2147483647) (a1 : 0 ≤ a) (a2 : a < 4294967296) (b1 : 0 ≤ b) (b2 : b < 4294967296) (p1 : 0 ≤ pc) (p2 : pc < 4294967296) (h : mayB 27 rd rs1 rs2 imm = true) :
    Calls Tryz.prog 35 #[.agg #[.int .i64 27, .int .i64 rd, .int .i64 rs1, .int .i64 rs2, .int .i32 imm], .int .u32 a, .int .u32 b, .int .u32 pc, .int .i64 size] w fun e w' => e = .returned (.tuple #[.int .u32 (valV 27 a b pc imm size), .bool (valO 27)]) ∧ Nx w w' := by
  have hf : formN 27 = 7 := rfl
  have HO : Hid (valO 27 = true) := rfl
  have i1 : 0 ≤ imm % 4294967296 := by omega
  have i2 : imm % 4294967296 < 4294967296 := by omega
  have HX : Hid (valV 27 a b pc imm size = recV 27 a (imm % 4294967296)) := rfl
  generalize hX : imm % 4294967296 = X at *
  have HXX := Lib.hid hX
  clear hX
  have HV : Hid (valV 27 a b pc imm size = (wrap32 a / 2 ^ (X % 32).toNat) % 4294967296) := HX.out
  clear HX
  have qX : IntKind.u32.wrap imm = X := by rw [wrap_u32]; exact HXX.out
  have HP := Lib.hid (shf_keep a a1 a2 (X % 32).toNat)
  go_enter Tryz.func35, Tryz.ntmps35
  go_wp2_with fail
  refine (rmay_any _ _ _ _ _ _ hv hv').mono ?_
  rintro e w0 ⟨rfl, hn0⟩
  obtain ⟨c0, c1, c2, c3, c4, hz⟩ := five_in hn0
  go_wp2_with fail
  refine (form_any _ _).mono ?_
  rintro e w1 ⟨rfl, hnF⟩
  obtain ⟨c0, c1, c2, c3, c4, hz⟩ := five_in (hn0.trans hnF)
  have HN := Lib.hid (((Nx.refl w).alloc _).trans (hn0.trans hnF))
  clear hn0 hnF
  go_wp2
  go_region_with (first | (go_at_call 62; refine (names_at 27 [115, 114, 97, 105] rfl _).mono ?_; rintro e w2 ⟨g, rfl, hg, hn2⟩; have hn3 : Nx w1 w2 := Nx.trans ((Nx.refl _).drew) hn2; have d0 := hn3.cell c0) | (go_at_call 63; refine (base_27 _).mono ?_; rintro e w' ⟨rfl, rfl⟩))
  all_goals
    have d4 := hn3.cell c4
    have hz3 : w.heap.size < w2.heap.size := Nat.lt_of_lt_of_le hz hn3.size
    go_wp2_with (go_at_call 67; refine (rshifted_any false true a X _ a1 a2 i1 i2).mono ?_; rintro e w' ⟨rfl, rfl⟩)
    go_ret2
    exact ⟨ret2_ub (HP.out.trans HV.out.symm) HO.out.symm, HN.out.trans hn3⟩

set_option maxHeartbeats 2000000 in
set_option maxRecDepth 100000 in
theorem rvalue_28 (rd rs1 rs2 imm a b pc size : Int) (w : World) (hv : -2147483648 ≤ imm) (hv' : imm ≤ 2147483647) (a1 : 0 ≤ a) (a2 : a < 4294967296) (b1 : 0 ≤ b) (b2 : b < 4294967296) (p1 : 0 ≤ pc) (p2 : pc < 4294967296) (h : mayB 28 rd rs1 rs2 imm = true) :
    Calls Tryz.prog 35 #[.agg #[.int .i64 28, .int .i64 rd, .int .i64 rs1, .int .i64 rs2, .int .i32 imm], .int .u32 a, .int .u32 b, .int .u32 pc, .int .i64 size] w fun e w' => e = .returned (.tuple #[.int .u32 (valV 28 a b pc imm size), .bool (valO 28)]) ∧ Nx w w' := by
  have hf : formN 28 = 8 := rfl
  have HO : Hid (valO 28 = true) := rfl
  have HV : Hid (valV 28 a b pc imm size = (a + b) % 4294967296) := rfl
  go_enter Tryz.func35, Tryz.ntmps35
  go_wp2_with fail
  refine (rmay_any _ _ _ _ _ _ hv hv').mono ?_
  rintro e w0 ⟨rfl, hn0⟩
  obtain ⟨c0, c1, c2, c3, c4, hz⟩ := five_in hn0
  go_wp2_with fail
  refine (form_any _ _).mono ?_
  rintro e w1 ⟨rfl, hnF⟩
  obtain ⟨c0, c1, c2, c3, c4, hz⟩ := five_in (hn0.trans hnF)
  have HN := Lib.hid (((Nx.refl w).alloc _).trans (hn0.trans hnF))
  clear hn0 hnF
  go_wp2
  go_region_with (first | (go_at_call 62; refine (names_at 28 [97, 100, 100] rfl _).mono ?_; rintro e w2 ⟨g, rfl, hg, hn2⟩; have hn3 : Nx w1 w2 := Nx.trans ((Nx.refl _).drew) hn2; have d0 := hn3.cell c0) | (go_at_call 63; refine (base_28 _).mono ?_; rintro e w' ⟨rfl, rfl⟩))
  all_goals
    have d4 := hn3.cell c4
    have hz3 : w.heap.size < w2.heap.size := Nat.lt_of_lt_of_le hz hn3.size
    go_wp2_with fail
    go_ret2
    exact ⟨ret2_ub (by have q := HV.out; first | exact q.symm | (rw [q]; omega) | (rw [q]; simp; done)) HO.out.symm, HN.out.trans hn3⟩

set_option maxHeartbeats 2000000 in
set_option maxRecDepth 100000 in
theorem rvalue_29 (rd rs1 rs2 imm a b pc size : Int) (w : World) (hv : -2147483648 ≤ imm) (hv' : imm ≤ 2147483647) (a1 : 0 ≤ a) (a2 : a < 4294967296) (b1 : 0 ≤ b) (b2 : b < 4294967296) (p1 : 0 ≤ pc) (p2 : pc < 4294967296) (h : mayB 29 rd rs1 rs2 imm = true) :
    Calls Tryz.prog 35 #[.agg #[.int .i64 29, .int .i64 rd, .int .i64 rs1, .int .i64 rs2, .int .i32 imm], .int .u32 a, .int .u32 b, .int .u32 pc, .int .i64 size] w fun e w' => e = .returned (.tuple #[.int .u32 (valV 29 a b pc imm size), .bool (valO 29)]) ∧ Nx w w' := by
  have hf : formN 29 = 8 := rfl
  have HO : Hid (valO 29 = true) := rfl
  have HV : Hid (valV 29 a b pc imm size = (a - b) % 4294967296) := rfl
  go_enter Tryz.func35, Tryz.ntmps35
  go_wp2_with fail
  refine (rmay_any _ _ _ _ _ _ hv hv').mono ?_
  rintro e w0 ⟨rfl, hn0⟩
  obtain ⟨c0, c1, c2, c3, c4, hz⟩ := five_in hn0
  go_wp2_with fail
  refine (form_any _ _).mono ?_
  rintro e w1 ⟨rfl, hnF⟩
  obtain ⟨c0, c1, c2, c3, c4, hz⟩ := five_in (hn0.trans hnF)
  have HN := Lib.hid (((Nx.refl w).alloc _).trans (hn0.trans hnF))
  clear hn0 hnF
  go_wp2
  go_region_with (first | (go_at_call 62; refine (names_at 29 [115, 117, 98] rfl _).mono ?_; rintro e w2 ⟨g, rfl, hg, hn2⟩; have hn3 : Nx w1 w2 := Nx.trans ((Nx.refl _).drew) hn2; have d0 := hn3.cell c0) | (go_at_call 63; refine (base_29 _).mono ?_; rintro e w' ⟨rfl, rfl⟩))
  all_goals
    have d4 := hn3.cell c4
    have hz3 : w.heap.size < w2.heap.size := Nat.lt_of_lt_of_le hz hn3.size
    go_wp2_with fail
    go_ret2
    exact ⟨ret2_ub (by have q := HV.out; first | exact q.symm | (rw [q]; omega) | (rw [q]; simp; done)) HO.out.symm, HN.out.trans hn3⟩

set_option maxHeartbeats 2000000 in
set_option maxRecDepth 100000 in
theorem rvalue_30 (rd rs1 rs2 imm a b pc size : Int) (w : World) (hv : -2147483648 ≤ imm) (hv' : imm ≤ 2147483647) (a1 : 0 ≤ a) (a2 : a < 4294967296) (b1 : 0 ≤ b) (b2 : b < 4294967296) (p1 : 0 ≤ pc) (p2 : pc < 4294967296) (h : mayB 30 rd rs1 rs2 imm = true) :
    Calls Tryz.prog 35 #[.agg #[.int .i64 30, .int .i64 rd, .int .i64 rs1, .int .i64 rs2, .int .i32 imm], .int .u32 a, .int .u32 b, .int .u32 pc, .int .i64 size] w fun e w' => e = .returned (.tuple #[.int .u32 (valV 30 a b pc imm size), .bool (valO 30)]) ∧ Nx w w' := by
  have hf : formN 30 = 8 := rfl
  have HO : Hid (valO 30 = true) := rfl
  have HV : Hid (valV 30 a b pc imm size = a * 2 ^ (b % 32).toNat % 4294967296) := rfl
  have HP := Lib.hid (shf_up a a1 a2 false (b % 32).toNat)
  go_enter Tryz.func35, Tryz.ntmps35
  go_wp2_with fail
  refine (rmay_any _ _ _ _ _ _ hv hv').mono ?_
  rintro e w0 ⟨rfl, hn0⟩
  obtain ⟨c0, c1, c2, c3, c4, hz⟩ := five_in hn0
  go_wp2_with fail
  refine (form_any _ _).mono ?_
  rintro e w1 ⟨rfl, hnF⟩
  obtain ⟨c0, c1, c2, c3, c4, hz⟩ := five_in (hn0.trans hnF)
  have HN := Lib.hid (((Nx.refl w).alloc _).trans (hn0.trans hnF))
  clear hn0 hnF
  go_wp2
  go_region_with (first | (go_at_call 62; refine (names_at 30 [115, 108, 108] rfl _).mono ?_; rintro e w2 ⟨g, rfl, hg, hn2⟩; have hn3 : Nx w1 w2 := Nx.trans ((Nx.refl _).drew) hn2; have d0 := hn3.cell c0) | (go_at_call 63; refine (base_30 _).mono ?_; rintro e w' ⟨rfl, rfl⟩))
  all_goals
    have d4 := hn3.cell c4
    have hz3 : w.heap.size < w2.heap.size := Nat.lt_of_lt_of_le hz hn3.size
    go_wp2_with (go_at_call 67; refine (rshifted_any true false a b _ a1 a2 b1 b2).mono ?_; rintro e w' ⟨rfl, rfl⟩)
    go_ret2
    exact ⟨ret2_ub (HP.out.trans HV.out.symm) HO.out.symm, HN.out.trans hn3⟩

set_option maxHeartbeats 2000000 in
set_option maxRecDepth 100000 in
theorem rvalue_31 (rd rs1 rs2 imm a b pc size : Int) (w : World) (hv : -2147483648 ≤ imm) (hv' : imm ≤ 2147483647) (a1 : 0 ≤ a) (a2 : a < 4294967296) (b1 : 0 ≤ b) (b2 : b < 4294967296) (p1 : 0 ≤ pc) (p2 : pc < 4294967296) (h : mayB 31 rd rs1 rs2 imm = true) :
    Calls Tryz.prog 35 #[.agg #[.int .i64 31, .int .i64 rd, .int .i64 rs1, .int .i64 rs2, .int .i32 imm], .int .u32 a, .int .u32 b, .int .u32 pc, .int .i64 size] w fun e w' => e = .returned (.tuple #[.int .u32 (valV 31 a b pc imm size), .bool (valO 31)]) ∧ Nx w w' := by
  have hf : formN 31 = 8 := rfl
  have HO : Hid (valO 31 = true) := rfl
  have HV : Hid (valV 31 a b pc imm size = ltI (wrap32 a) (wrap32 b)) := rfl
  go_enter Tryz.func35, Tryz.ntmps35
  go_wp2_with fail
  refine (rmay_any _ _ _ _ _ _ hv hv').mono ?_
  rintro e w0 ⟨rfl, hn0⟩
  obtain ⟨c0, c1, c2, c3, c4, hz⟩ := five_in hn0
  go_wp2_with fail
  refine (form_any _ _).mono ?_
  rintro e w1 ⟨rfl, hnF⟩
  obtain ⟨c0, c1, c2, c3, c4, hz⟩ := five_in (hn0.trans hnF)
  have HN := Lib.hid (((Nx.refl w).alloc _).trans (hn0.trans hnF))
  clear hn0 hnF
  go_wp2
  go_region_with (first | (go_at_call 62; refine (names_at 31 [115, 108, 116] rfl _).mono ?_; rintro e w2 ⟨g, rfl, hg, hn2⟩; have hn3 : Nx w1 w2 := Nx.trans ((Nx.refl _).drew) hn2; have d0 := hn3.cell c0) | (go_at_call 63; refine (base_31 _).mono ?_; rintro e w' ⟨rfl, rfl⟩))
  all_goals
    have d4 := hn3.cell c4
    have hz3 : w.heap.size < w2.heap.size := Nat.lt_of_lt_of_le hz hn3.size
    go_wp2_with (first | (go_at_call 65; refine (rsigned_any _ _ (by omega) (by omega)).mono ?_; rintro e w' ⟨rfl, rfl⟩) | (go_at_call 64; refine (rone_any _ _).mono ?_; rintro e w' ⟨rfl, rfl⟩))
    all_goals
      go_ret2
      exact ⟨ret2_ub (by rw [HV.out]; unfold ltI; split <;> omega) HO.out.symm, HN.out.trans hn3⟩

set_option maxHeartbeats 2000000 in
set_option maxRecDepth 100000 in
theorem rvalue_32 (rd rs1 rs2 imm a b pc size : Int) (w : World) (hv : -2147483648 ≤ imm) (hv' : imm ≤ 2147483647) (a1 : 0 ≤ a) (a2 : a < 4294967296) (b1 : 0 ≤ b) (b2 : b < 4294967296) (p1 : 0 ≤ pc) (p2 : pc < 4294967296) (h : mayB 32 rd rs1 rs2 imm = true) :
    Calls Tryz.prog 35 #[.agg #[.int .i64 32, .int .i64 rd, .int .i64 rs1, .int .i64 rs2, .int .i32 imm], .int .u32 a, .int .u32 b, .int .u32 pc, .int .i64 size] w fun e w' => e = .returned (.tuple #[.int .u32 (valV 32 a b pc imm size), .bool (valO 32)]) ∧ Nx w w' := by
  have hf : formN 32 = 8 := rfl
  have HO : Hid (valO 32 = true) := rfl
  have HV : Hid (valV 32 a b pc imm size = ltI a b) := rfl
  go_enter Tryz.func35, Tryz.ntmps35
  go_wp2_with fail
  refine (rmay_any _ _ _ _ _ _ hv hv').mono ?_
  rintro e w0 ⟨rfl, hn0⟩
  obtain ⟨c0, c1, c2, c3, c4, hz⟩ := five_in hn0
  go_wp2_with fail
  refine (form_any _ _).mono ?_
  rintro e w1 ⟨rfl, hnF⟩
  obtain ⟨c0, c1, c2, c3, c4, hz⟩ := five_in (hn0.trans hnF)
  have HN := Lib.hid (((Nx.refl w).alloc _).trans (hn0.trans hnF))
  clear hn0 hnF
  go_wp2
  go_region_with (first | (go_at_call 62; refine (names_at 32 [115, 108, 116, 117] rfl _).mono ?_; rintro e w2 ⟨g, rfl, hg, hn2⟩; have hn3 : Nx w1 w2 := Nx.trans ((Nx.refl _).drew) hn2; have d0 := hn3.cell c0) | (go_at_call 63; refine (base_32 _).mono ?_; rintro e w' ⟨rfl, rfl⟩))
  all_goals
    have d4 := hn3.cell c4
    have hz3 : w.heap.size < w2.heap.size := Nat.lt_of_lt_of_le hz hn3.size
    go_wp2_with (go_at_call 64; refine (rone_any _ _).mono ?_; rintro e w' ⟨rfl, rfl⟩)
    all_goals
      go_ret2
      exact ⟨ret2_ub (by rw [HV.out]; unfold ltI; split <;> omega) HO.out.symm, HN.out.trans hn3⟩

set_option maxHeartbeats 2000000 in
set_option maxRecDepth 100000 in
theorem rvalue_33 (rd rs1 rs2 imm a b pc size : Int) (w : World) (hv : -2147483648 ≤ imm) (hv' : imm ≤ 2147483647) (a1 : 0 ≤ a) (a2 : a < 4294967296) (b1 : 0 ≤ b) (b2 : b < 4294967296) (p1 : 0 ≤ pc) (p2 : pc < 4294967296) (h : mayB 33 rd rs1 rs2 imm = true) :
    Calls Tryz.prog 35 #[.agg #[.int .i64 33, .int .i64 rd, .int .i64 rs1, .int .i64 rs2, .int .i32 imm], .int .u32 a, .int .u32 b, .int .u32 pc, .int .i64 size] w fun e w' => e = .returned (.tuple #[.int .u32 (valV 33 a b pc imm size), .bool (valO 33)]) ∧ Nx w w' := by
  have hf : formN 33 = 8 := rfl
  have HO : Hid (valO 33 = true) := rfl
  have HV : Hid (valV 33 a b pc imm size = bits .xor .u32 a b) := rfl
  have HP := Lib.hid (tbl_xor a b a1 a2 b1 b2)
  go_enter Tryz.func35, Tryz.ntmps35
  go_wp2_with fail
  refine (rmay_any _ _ _ _ _ _ hv hv').mono ?_
  rintro e w0 ⟨rfl, hn0⟩
  obtain ⟨c0, c1, c2, c3, c4, hz⟩ := five_in hn0
  go_wp2_with fail
  refine (form_any _ _).mono ?_
  rintro e w1 ⟨rfl, hnF⟩
  obtain ⟨c0, c1, c2, c3, c4, hz⟩ := five_in (hn0.trans hnF)
  have HN := Lib.hid (((Nx.refl w).alloc _).trans (hn0.trans hnF))
  clear hn0 hnF
  go_wp2
  go_region_with (first | (go_at_call 62; refine (names_at 33 [120, 111, 114] rfl _).mono ?_; rintro e w2 ⟨g, rfl, hg, hn2⟩; have hn3 : Nx w1 w2 := Nx.trans ((Nx.refl _).drew) hn2; have d0 := hn3.cell c0) | (go_at_call 63; refine (base_33 _).mono ?_; rintro e w' ⟨rfl, rfl⟩))
  all_goals
    have d4 := hn3.cell c4
    have hz3 : w.heap.size < w2.heap.size := Nat.lt_of_lt_of_le hz hn3.size
    go_wp2_with (go_at_call 66; refine (rbits_any a b 0 1 1 0 (by decide) (by decide) (by decide) (by decide) _ a1 a2 b1 b2).mono ?_; rintro e w3 ⟨rfl, hn4⟩)
    go_ret2
    exact ⟨ret2_ub (HP.out.trans HV.out.symm) HO.out.symm, HN.out.trans (hn3.trans hn4)⟩

set_option maxHeartbeats 2000000 in
set_option maxRecDepth 100000 in
theorem rvalue_34 (rd rs1 rs2 imm a b pc size : Int) (w : World) (hv : -2147483648 ≤ imm) (hv' : imm ≤ 2147483647) (a1 : 0 ≤ a) (a2 : a < 4294967296) (b1 : 0 ≤ b) (b2 : b < 4294967296) (p1 : 0 ≤ pc) (p2 : pc < 4294967296) (h : mayB 34 rd rs1 rs2 imm = true) :
    Calls Tryz.prog 35 #[.agg #[.int .i64 34, .int .i64 rd, .int .i64 rs1, .int .i64 rs2, .int .i32 imm], .int .u32 a, .int .u32 b, .int .u32 pc, .int .i64 size] w fun e w' => e = .returned (.tuple #[.int .u32 (valV 34 a b pc imm size), .bool (valO 34)]) ∧ Nx w w' := by
  have hf : formN 34 = 8 := rfl
  have HO : Hid (valO 34 = true) := rfl
  have HV : Hid (valV 34 a b pc imm size = a / 2 ^ (b % 32).toNat) := rfl
  have HP := Lib.hid (shf_down a (b % 32).toNat)
  go_enter Tryz.func35, Tryz.ntmps35
  go_wp2_with fail
  refine (rmay_any _ _ _ _ _ _ hv hv').mono ?_
  rintro e w0 ⟨rfl, hn0⟩
  obtain ⟨c0, c1, c2, c3, c4, hz⟩ := five_in hn0
  go_wp2_with fail
  refine (form_any _ _).mono ?_
  rintro e w1 ⟨rfl, hnF⟩
  obtain ⟨c0, c1, c2, c3, c4, hz⟩ := five_in (hn0.trans hnF)
  have HN := Lib.hid (((Nx.refl w).alloc _).trans (hn0.trans hnF))
  clear hn0 hnF
  go_wp2
  go_region_with (first | (go_at_call 62; refine (names_at 34 [115, 114, 108] rfl _).mono ?_; rintro e w2 ⟨g, rfl, hg, hn2⟩; have hn3 : Nx w1 w2 := Nx.trans ((Nx.refl _).drew) hn2; have d0 := hn3.cell c0) | (go_at_call 63; refine (base_34 _).mono ?_; rintro e w' ⟨rfl, rfl⟩))
  all_goals
    have d4 := hn3.cell c4
    have hz3 : w.heap.size < w2.heap.size := Nat.lt_of_lt_of_le hz hn3.size
    go_wp2_with (go_at_call 67; refine (rshifted_any false false a b _ a1 a2 b1 b2).mono ?_; rintro e w' ⟨rfl, rfl⟩)
    go_ret2
    exact ⟨ret2_ub (HP.out.trans HV.out.symm) HO.out.symm, HN.out.trans hn3⟩

set_option maxHeartbeats 2000000 in
set_option maxRecDepth 100000 in
theorem rvalue_35 (rd rs1 rs2 imm a b pc size : Int) (w : World) (hv : -2147483648 ≤ imm) (hv' : imm ≤ 2147483647) (a1 : 0 ≤ a) (a2 : a < 4294967296) (b1 : 0 ≤ b) (b2 : b < 4294967296) (p1 : 0 ≤ pc) (p2 : pc < 4294967296) (h : mayB 35 rd rs1 rs2 imm = true) :
    Calls Tryz.prog 35 #[.agg #[.int .i64 35, .int .i64 rd, .int .i64 rs1, .int .i64 rs2, .int .i32 imm], .int .u32 a, .int .u32 b, .int .u32 pc, .int .i64 size] w fun e w' => e = .returned (.tuple #[.int .u32 (valV 35 a b pc imm size), .bool (valO 35)]) ∧ Nx w w' := by
  have hf : formN 35 = 8 := rfl
  have HO : Hid (valO 35 = true) := rfl
  have HV : Hid (valV 35 a b pc imm size = (wrap32 a / 2 ^ (b % 32).toNat) % 4294967296) := rfl
  have HP := Lib.hid (shf_keep a a1 a2 (b % 32).toNat)
  go_enter Tryz.func35, Tryz.ntmps35
  go_wp2_with fail
  refine (rmay_any _ _ _ _ _ _ hv hv').mono ?_
  rintro e w0 ⟨rfl, hn0⟩
  obtain ⟨c0, c1, c2, c3, c4, hz⟩ := five_in hn0
  go_wp2_with fail
  refine (form_any _ _).mono ?_
  rintro e w1 ⟨rfl, hnF⟩
  obtain ⟨c0, c1, c2, c3, c4, hz⟩ := five_in (hn0.trans hnF)
  have HN := Lib.hid (((Nx.refl w).alloc _).trans (hn0.trans hnF))
  clear hn0 hnF
  go_wp2
  go_region_with (first | (go_at_call 62; refine (names_at 35 [115, 114, 97] rfl _).mono ?_; rintro e w2 ⟨g, rfl, hg, hn2⟩; have hn3 : Nx w1 w2 := Nx.trans ((Nx.refl _).drew) hn2; have d0 := hn3.cell c0) | (go_at_call 63; refine (base_35 _).mono ?_; rintro e w' ⟨rfl, rfl⟩))
  all_goals
    have d4 := hn3.cell c4
    have hz3 : w.heap.size < w2.heap.size := Nat.lt_of_lt_of_le hz hn3.size
    go_wp2_with (go_at_call 67; refine (rshifted_any false true a b _ a1 a2 b1 b2).mono ?_; rintro e w' ⟨rfl, rfl⟩)
    go_ret2
    exact ⟨ret2_ub (HP.out.trans HV.out.symm) HO.out.symm, HN.out.trans hn3⟩

set_option maxHeartbeats 2000000 in
set_option maxRecDepth 100000 in
theorem rvalue_36 (rd rs1 rs2 imm a b pc size : Int) (w : World) (hv : -2147483648 ≤ imm) (hv' : imm ≤ 2147483647) (a1 : 0 ≤ a) (a2 : a < 4294967296) (b1 : 0 ≤ b) (b2 : b < 4294967296) (p1 : 0 ≤ pc) (p2 : pc < 4294967296) (h : mayB 36 rd rs1 rs2 imm = true) :
    Calls Tryz.prog 35 #[.agg #[.int .i64 36, .int .i64 rd, .int .i64 rs1, .int .i64 rs2, .int .i32 imm], .int .u32 a, .int .u32 b, .int .u32 pc, .int .i64 size] w fun e w' => e = .returned (.tuple #[.int .u32 (valV 36 a b pc imm size), .bool (valO 36)]) ∧ Nx w w' := by
  have hf : formN 36 = 8 := rfl
  have HO : Hid (valO 36 = true) := rfl
  have HV : Hid (valV 36 a b pc imm size = bits .or .u32 a b) := rfl
  have HP := Lib.hid (tbl_or a b a1 a2 b1 b2)
  go_enter Tryz.func35, Tryz.ntmps35
  go_wp2_with fail
  refine (rmay_any _ _ _ _ _ _ hv hv').mono ?_
  rintro e w0 ⟨rfl, hn0⟩
  obtain ⟨c0, c1, c2, c3, c4, hz⟩ := five_in hn0
  go_wp2_with fail
  refine (form_any _ _).mono ?_
  rintro e w1 ⟨rfl, hnF⟩
  obtain ⟨c0, c1, c2, c3, c4, hz⟩ := five_in (hn0.trans hnF)
  have HN := Lib.hid (((Nx.refl w).alloc _).trans (hn0.trans hnF))
  clear hn0 hnF
  go_wp2
  go_region_with (first | (go_at_call 62; refine (names_at 36 [111, 114] rfl _).mono ?_; rintro e w2 ⟨g, rfl, hg, hn2⟩; have hn3 : Nx w1 w2 := Nx.trans ((Nx.refl _).drew) hn2; have d0 := hn3.cell c0) | (go_at_call 63; refine (base_36 _).mono ?_; rintro e w' ⟨rfl, rfl⟩))
  all_goals
    have d4 := hn3.cell c4
    have hz3 : w.heap.size < w2.heap.size := Nat.lt_of_lt_of_le hz hn3.size
    go_wp2_with (go_at_call 66; refine (rbits_any a b 0 1 1 1 (by decide) (by decide) (by decide) (by decide) _ a1 a2 b1 b2).mono ?_; rintro e w3 ⟨rfl, hn4⟩)
    go_ret2
    exact ⟨ret2_ub (HP.out.trans HV.out.symm) HO.out.symm, HN.out.trans (hn3.trans hn4)⟩

end Go.Proofs.YtndpgakjpokllaaGreat

