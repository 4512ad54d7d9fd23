/- Parts of the proof, one behind the other. -/
import Derived.Test.YtndpgakjpokllaaGreatZsaq
/- Contracts of package typecaseref06: Access, operation by operation. -/
namespace Go.Proofs.YtndpgakjpokllaaGreat
open Go.RowKit
set_option linter.unusedVariables false
set_option linter.unusedSimpArgs false

set_option maxHeartbeats 1000000 in
theorem raccess_19 (rd rs1 rs2 imm a : Int) (w : World) (hv : -2147483648 ≤ imm) (hv' : imm ≤ 2147483647) (a1 : 0 ≤ a) (a2 : a < 4294967296) (h : mayB 19 rd rs1 rs2 imm = true) :
    Calls Tryz.prog 34 #[.agg #[.int .i64 19, .int .i64 rd, .int .i64 rs1, .int .i64 rs2, .int .i32 imm], .int .u32 a] w fun e w' => e = .returned (.tuple #[.int .u32 (accA 19 a imm), .int .i64 (accN 19), .bool (accS 19), .bool (accG 19)]) ∧ Nx w w' := by
  have HV : Hid (accA 19 a imm = 0) := rfl
  have H1 : Hid (accN 19 = 0) := rfl
  have H2 : Hid (accS 19 = false) := rfl
  have H3 : Hid (accG 19 = false) := rfl
  go_enter Tryz.func34, Tryz.ntmps34
  go_wp2_with fail
  refine (rmay_any _ _ _ _ _ _ hv hv').mono ?_
  rintro e w1 ⟨rfl, hn1⟩
  obtain ⟨c0, c1, c2, c3, c4, hz⟩ := five_in hn1
  have HN := Lib.hid (((Nx.refl w).alloc _).trans hn1)
  clear hn1
  go_wp2
  go_region_with (go_at_call 62; refine (names_at 19 [97, 100, 100, 105] rfl _).mono ?_; rintro e w2 ⟨g, rfl, hg, hn2⟩; have hn3 : Nx w1 w2 := Nx.trans ((Nx.refl _).drew) hn2; have d0 := hn3.cell c0)
  all_goals
    have d4 := hn3.cell c4
    have hz3 : w.heap.size < w2.heap.size := Nat.lt_of_lt_of_le hz hn3.size
    go_wp2
    refine bodyPost_ret (v := .tuple #[.int .u32 (0), .int .i64 0, .bool false, .bool false]) (by simp [results, Tryz.results34, go_sem] <;> decide) rfl ⟨ret4 HV.out.symm H1.out.symm H2.out.symm H3.out.symm, ?_⟩
    first | exact HN.out.trans hn3 | exact (HN.out.trans hn3).drewN _

set_option maxHeartbeats 1000000 in
theorem raccess_20 (rd rs1 rs2 imm a : Int) (w : World) (hv : -2147483648 ≤ imm) (hv' : imm ≤ 2147483647) (a1 : 0 ≤ a) (a2 : a < 4294967296) (h : mayB 20 rd rs1 rs2 imm = true) :
    Calls Tryz.prog 34 #[.agg #[.int .i64 20, .int .i64 rd, .int .i64 rs1, .int .i64 rs2, .int .i32 imm], .int .u32 a] w fun e w' => e = .returned (.tuple #[.int .u32 (accA 20 a imm), .int .i64 (accN 20), .bool (accS 20), .bool (accG 20)]) ∧ Nx w w' := by
  have HV : Hid (accA 20 a imm = 0) := rfl
  have H1 : Hid (accN 20 = 0) := rfl
  have H2 : Hid (accS 20 = false) := rfl
  have H3 : Hid (accG 20 = false) := rfl
  go_enter Tryz.func34, Tryz.ntmps34
  go_wp2_with fail
  refine (rmay_any _ _ _ _ _ _ hv hv').mono ?_
  rintro e w1 ⟨rfl, hn1⟩
  obtain ⟨c0, c1, c2, c3, c4, hz⟩ := five_in hn1
  have HN := Lib.hid (((Nx.refl w).alloc _).trans hn1)
  clear hn1
  go_wp2
  go_region_with (go_at_call 62; refine (names_at 20 [115, 108, 116, 105] rfl _).mono ?_; rintro e w2 ⟨g, rfl, hg, hn2⟩; have hn3 : Nx w1 w2 := Nx.trans ((Nx.refl _).drew) hn2; have d0 := hn3.cell c0)
  all_goals
    have d4 := hn3.cell c4
    have hz3 : w.heap.size < w2.heap.size := Nat.lt_of_lt_of_le hz hn3.size
    go_wp2
    refine bodyPost_ret (v := .tuple #[.int .u32 (0), .int .i64 0, .bool false, .bool false]) (by simp [results, Tryz.results34, go_sem] <;> decide) rfl ⟨ret4 HV.out.symm H1.out.symm H2.out.symm H3.out.symm, ?_⟩
    first | exact HN.out.trans hn3 | exact (HN.out.trans hn3).drewN _

set_option maxHeartbeats 1000000 in
theorem raccess_21 (rd rs1 rs2 imm a : Int) (w : World) (hv : -2147483648 ≤ imm) (hv' : imm ≤ 2147483647) (a1 : 0 ≤ a) (a2 : a < 4294967296) (h : mayB 21 rd rs1 rs2 imm = true) :
    Calls Tryz.prog 34 #[.agg #[.int .i64 21, .int .i64 rd, .int .i64 rs1, .int .i64 rs2, .int .i32 imm], .int .u32 a] w fun e w' => e = .returned (.tuple #[.int .u32 (accA 21 a imm), .int .i64 (accN 21), .bool (accS 21), .bool (accG 21)]) ∧ Nx w w' := by
  have HV : Hid (accA 21 a imm = 0) := rfl
  have H1 : Hid (accN 21 = 0) := rfl
  have H2 : Hid (accS 21 = false) := rfl
  have H3 : Hid (accG 21 = false) := rfl
  go_enter Tryz.func34, Tryz.ntmps34
  go_wp2_with fail
  refine (rmay_any _ _ _ _ _ _ hv hv').mono ?_
  rintro e w1 ⟨rfl, hn1⟩
  obtain ⟨c0, c1, c2, c3, c4, hz⟩ := five_in hn1
  have HN := Lib.hid (((Nx.refl w).alloc _).trans hn1)
  clear hn1
  go_wp2
  go_region_with (go_at_call 62; refine (names_at 21 [115, 108, 116, 105, 117] rfl _).mono ?_; rintro e w2 ⟨g, rfl, hg, hn2⟩; have hn3 : Nx w1 w2 := Nx.trans ((Nx.refl _).drew) hn2; have d0 := hn3.cell c0)
  all_goals
    have d4 := hn3.cell c4
    have hz3 : w.heap.size < w2.heap.size := Nat.lt_of_lt_of_le hz hn3.size
    go_wp2
    refine bodyPost_ret (v := .tuple #[.int .u32 (0), .int .i64 0, .bool false, .bool false]) (by simp [results, Tryz.results34, go_sem] <;> decide) rfl ⟨ret4 HV.out.symm H1.out.symm H2.out.symm H3.out.symm, ?_⟩
    first | exact HN.out.trans hn3 | exact (HN.out.trans hn3).drewN _

set_option maxHeartbeats 1000000 in
theorem raccess_22 (rd rs1 rs2 imm a : Int) (w : World) (hv : -2147483648 ≤ imm) (hv' : imm ≤ 2147483647) (a1 : 0 ≤ a) (a2 : a < 4294967296) (h : mayB 22 rd rs1 rs2 imm = true) :
    Calls Tryz.prog 34 #[.agg #[.int .i64 22, .int .i64 rd, .int .i64 rs1, .int .i64 rs2, .int .i32 imm], .int .u32 a] w fun e w' => e = .returned (.tuple #[.int .u32 (accA 22 a imm), .int .i64 (accN 22), .bool (accS 22), .bool (accG 22)]) ∧ Nx w w' := by
  have HV : Hid (accA 22 a imm = 0) := rfl
  have H1 : Hid (accN 22 = 0) := rfl
  have H2 : Hid (accS 22 = false) := rfl
  have H3 : Hid (accG 22 = false) := rfl
  go_enter Tryz.func34, Tryz.ntmps34
  go_wp2_with fail
  refine (rmay_any _ _ _ _ _ _ hv hv').mono ?_
  rintro e w1 ⟨rfl, hn1⟩
  obtain ⟨c0, c1, c2, c3, c4, hz⟩ := five_in hn1
  have HN := Lib.hid (((Nx.refl w).alloc _).trans hn1)
  clear hn1
  go_wp2
  go_region_with (go_at_call 62; refine (names_at 22 [120, 111, 114, 105] rfl _).mono ?_; rintro e w2 ⟨g, rfl, hg, hn2⟩; have hn3 : Nx w1 w2 := Nx.trans ((Nx.refl _).drew) hn2; have d0 := hn3.cell c0)
  all_goals
    have d4 := hn3.cell c4
    have hz3 : w.heap.size < w2.heap.size := Nat.lt_of_lt_of_le hz hn3.size
    go_wp2
    refine bodyPost_ret (v := .tuple #[.int .u32 (0), .int .i64 0, .bool false, .bool false]) (by simp [results, Tryz.results34, go_sem] <;> decide) rfl ⟨ret4 HV.out.symm H1.out.symm H2.out.symm H3.out.symm, ?_⟩
    first | exact HN.out.trans hn3 | exact (HN.out.trans hn3).drewN _

set_option maxHeartbeats 1000000 in
theorem raccess_23 (rd rs1 rs2 imm a : Int) (w : World) (hv : -2147483648 ≤ imm) (hv' : imm ≤ 2147483647) (a1 : 0 ≤ a) (a2 : a < 4294967296) (h : mayB 23 rd rs1 rs2 imm = true) :
    Calls Tryz.prog 34 #[.agg #[.int .i64 23, .int .i64 rd, .int .i64 rs1, .int .i64 rs2, .int .i32 imm], .int .u32 a] w fun e w' => e = .returned (.tuple #[.int .u32 (accA 23 a imm), .int .i64 (accN 23), .bool (accS 23), .bool (accG 23)]) ∧ Nx w w' := by
  have HV : Hid (accA 23 a imm = 0) := rfl
  have H1 : Hid (accN 23 = 0) := rfl
  have H2 : Hid (accS 23 = false) := rfl
  have H3 : Hid (accG 23 = false) := rfl
  go_enter Tryz.func34, Tryz.ntmps34
  go_wp2_with fail
  refine (rmay_any _ _ _ _ _ _ hv hv').mono ?_
  rintro e w1 ⟨rfl, hn1⟩
  obtain ⟨c0, c1, c2, c3, c4, hz⟩ := five_in hn1
  have HN := Lib.hid (((Nx.refl w).alloc _).trans hn1)
  clear hn1
  go_wp2
  go_region_with (go_at_call 62; refine (names_at 23 [111, 114, 105] rfl _).mono ?_; rintro e w2 ⟨g, rfl, hg, hn2⟩; have hn3 : Nx w1 w2 := Nx.trans ((Nx.refl _).drew) hn2; have d0 := hn3.cell c0)
  all_goals
    have d4 := hn3.cell c4
    have hz3 : w.heap.size < w2.heap.size := Nat.lt_of_lt_of_le hz hn3.size
    go_wp2
    refine bodyPost_ret (v := .tuple #[.int .u32 (0), .int .i64 0, .bool false, .bool false]) (by simp [results, Tryz.results34, go_sem] <;> decide) rfl ⟨ret4 HV.out.symm H1.out.symm H2.out.symm H3.out.symm, ?_⟩
    first | exact HN.out.trans hn3 | exact (HN.out.trans hn3).drewN _

set_option maxHeartbeats 1000000 in
theorem raccess_24 (rd rs1 rs2 imm a : Int) (w : World) (hv : -2147483648 ≤ imm) (hv' : imm ≤ 2147483647) (a1 : 0 ≤ a) (a2 : a < 4294967296) (h : mayB 24 rd rs1 rs2 imm = true) :
    Calls Tryz.prog 34 #[.agg #[.int .i64 24, .int .i64 rd, .int .i64 rs1, .int .i64 rs2, .int .i32 imm], .int .u32 a] w fun e w' => e = .returned (.tuple #[.int .u32 (accA 24 a imm), .int .i64 (accN 24), .bool (accS 24), .bool (accG 24)]) ∧ Nx w w' := by
  have HV : Hid (accA 24 a imm = 0) := rfl
  have H1 : Hid (accN 24 = 0) := rfl
  have H2 : Hid (accS 24 = false) := rfl
  have H3 : Hid (accG 24 = false) := rfl
  go_enter Tryz.func34, Tryz.ntmps34
  go_wp2_with fail
  refine (rmay_any _ _ _ _ _ _ hv hv').mono ?_
  rintro e w1 ⟨rfl, hn1⟩
  obtain ⟨c0, c1, c2, c3, c4, hz⟩ := five_in hn1
  have HN := Lib.hid (((Nx.refl w).alloc _).trans hn1)
  clear hn1
  go_wp2
  go_region_with (go_at_call 62; refine (names_at 24 [97, 110, 100, 105] rfl _).mono ?_; rintro e w2 ⟨g, rfl, hg, hn2⟩; have hn3 : Nx w1 w2 := Nx.trans ((Nx.refl _).drew) hn2; have d0 := hn3.cell c0)
  all_goals
    have d4 := hn3.cell c4
    have hz3 : w.heap.size < w2.heap.size := Nat.lt_of_lt_of_le hz hn3.size
    go_wp2
    refine bodyPost_ret (v := .tuple #[.int .u32 (0), .int .i64 0, .bool false, .bool false]) (by simp [results, Tryz.results34, go_sem] <;> decide) rfl ⟨ret4 HV.out.symm H1.out.symm H2.out.symm H3.out.symm, ?_⟩
    first | exact HN.out.trans hn3 | exact (HN.out.trans hn3).drewN _

set_option maxHeartbeats 1000000 in
theorem raccess_25 (rd rs1 rs2 imm a : Int) (w : World) (hv : -2147483648 ≤ imm) (hv' : imm ≤ 2147483647) (a1 : 0 ≤ a) (a2 : a < 4294967296) (h : mayB 25 rd rs1 rs2 imm = true) :
    Calls Tryz.prog 34 #[.agg #[.int .i64 25, .int .i64 rd, .int .i64 rs1, .int .i64 rs2, .int .i32 imm], .int .u32 a] w fun e w' => e = .returned (.tuple #[.int .u32 (accA 25 a imm), .int .i64 (accN 25), .bool (accS 25), .bool (accG 25)]) ∧ Nx w w' := by
  have HV : Hid (accA 25 a imm = 0) := rfl
  have H1 : Hid (accN 25 = 0) := rfl
  have H2 : Hid (accS 25 = false) := rfl
  have H3 : Hid (accG 25 = false) := rfl
  go_enter Tryz.func34, Tryz.ntmps34
  go_wp2_with fail
  refine (rmay_any _ _ _ _ _ _ hv hv').mono ?_
  rintro e w1 ⟨rfl, hn1⟩
  obtain ⟨c0, c1, c2, c3, c4, hz⟩ := five_in hn1
  have HN := Lib.hid (((Nx.refl w).alloc _).trans hn1)
  clear hn1
  go_wp2
  go_region_with (go_at_call 62; refine (names_at 25 [115, 108, 108, 105] rfl _).mono ?_; rintro e w2 ⟨g, rfl, hg, hn2⟩; have hn3 : Nx w1 w2 := Nx.trans ((Nx.refl _).drew) hn2; have d0 := hn3.cell c0)
  all_goals
    have d4 := hn3.cell c4
    have hz3 : w.heap.size < w2.heap.size := Nat.lt_of_lt_of_le hz hn3.size
    go_wp2
    refine bodyPost_ret (v := .tuple #[.int .u32 (0), .int .i64 0, .bool false, .bool false]) (by simp [results, Tryz.results34, go_sem] <;> decide) rfl ⟨ret4 HV.out.symm H1.out.symm H2.out.symm H3.out.symm, ?_⟩
    first | exact HN.out.trans hn3 | exact (HN.out.trans hn3).drewN _

set_option maxHeartbeats 1000000 in
theorem raccess_26 (rd rs1 rs2 imm a : Int) (w : World) (hv : -2147483648 ≤ imm) (hv' : imm ≤ 2147483647) (a1 : 0 ≤ a) (a2 : a < 4294967296) (h : mayB 26 rd rs1 rs2 imm = true) :
    Calls Tryz.prog 34 #[.agg #[.int .i64 26, .int .i64 rd, .int .i64 rs1, .int .i64 rs2, .int .i32 imm], .int .u32 a] w fun e w' => e = .returned (.tuple #[.int .u32 (accA 26 a imm), .int .i64 (accN 26), .bool (accS 26), .bool (accG 26)]) ∧ Nx w w' := by
  have HV : Hid (accA 26 a imm = 0) := rfl
  have H1 : Hid (accN 26 = 0) := rfl
  have H2 : Hid (accS 26 = false) := rfl
  have H3 : Hid (accG 26 = false) := rfl
  go_enter Tryz.func34, Tryz.ntmps34
  go_wp2_with fail
  refine (rmay_any _ _ _ _ _ _ hv hv').mono ?_
  rintro e w1 ⟨rfl, hn1⟩
  obtain ⟨c0, c1, c2, c3, c4, hz⟩ := five_in hn1
  have HN := Lib.hid (((Nx.refl w).alloc _).trans hn1)
  clear hn1
  go_wp2
  go_region_with (go_at_call 62; refine (names_at 26 [115, 114, 108, 105] rfl _).mono ?_; rintro e w2 ⟨g, rfl, hg, hn2⟩; have hn3 : Nx w1 w2 := Nx.trans ((Nx.refl _).drew) hn2; have d0 := hn3.cell c0)
  all_goals
    have d4 := hn3.cell c4
    have hz3 : w.heap.size < w2.heap.size := Nat.lt_of_lt_of_le hz hn3.size
    go_wp2
    refine bodyPost_ret (v := .tuple #[.int .u32 (0), .int .i64 0, .bool false, .bool false]) (by simp [results, Tryz.results34, go_sem] <;> decide) rfl ⟨ret4 HV.out.symm H1.out.symm H2.out.symm H3.out.symm, ?_⟩
    first | exact HN.out.trans hn3 | exact (HN.out.trans hn3).drewN _

set_option maxHeartbeats 1000000 in
theorem raccess_27 (rd rs1 rs2 imm a : Int) (w : World) (hv : -2147483648 ≤ imm) (hv' : imm ≤ 2147483647) (a1 : 0 ≤ a) (a2 : a < 4294967296) (h : mayB 27 rd rs1 rs2 imm = true) :
    Calls Tryz.prog 34 #[.agg #[.int .i64 27, .int .i64 rd, .int .i64 rs1, .int .i64 rs2, .int .i32 imm], .int .u32 a] w fun e w' => e = .returned (.tuple #[.int .u32 (accA 27 a imm), .int .i64 (accN 27), .bool (accS 27), .bool (accG 27)]) ∧ Nx w w' := by
  have HV : Hid (accA 27 a imm = 0) := rfl
  have H1 : Hid (accN 27 = 0) := rfl
  have H2 : Hid (accS 27 = false) := rfl
  have H3 : Hid (accG 27 = false) := rfl
  go_enter Tryz.func34, Tryz.ntmps34
  go_wp2_with fail
  refine (rmay_any _ _ _ _ _ _ hv hv').mono ?_
  rintro e w1 ⟨rfl, hn1⟩
  obtain ⟨c0, c1, c2, c3, c4, hz⟩ := five_in hn1
  have HN := Lib.hid (((Nx.refl w).alloc _).trans hn1)
  clear hn1
  go_wp2
  go_region_with (go_at_call 62; refine (names_at 27 [115, 114, 97, 105] rfl _).mono ?_; rintro e w2 ⟨g, rfl, hg, hn2⟩; have hn3 : Nx w1 w2 := Nx.trans ((Nx.refl _).drew) hn2; have d0 := hn3.cell c0)
  all_goals
    have d4 := hn3.cell c4
    have hz3 : w.heap.size < w2.heap.size := Nat.lt_of_lt_of_le hz hn3.size
    go_wp2
    refine bodyPost_ret (v := .tuple #[.int .u32 (0), .int .i64 0, .bool false, .bool false]) (by simp [results, Tryz.results34, go_sem] <;> decide) rfl ⟨ret4 HV.out.symm H1.out.symm H2.out.symm H3.out.symm, ?_⟩
    first | exact HN.out.trans hn3 | exact (HN.out.trans hn3).drewN _

set_option maxHeartbeats 1000000 in
theorem raccess_28 (rd rs1 rs2 imm a : Int) (w : World) (hv : -2147483648 ≤ imm) (hv' : imm ≤ 2147483647) (a1 : 0 ≤ a) (a2 : a < 4294967296) (h : mayB 28 rd rs1 rs2 imm = true) :
    Calls Tryz.prog 34 #[.agg #[.int .i64 28, .int .i64 rd, .int .i64 rs1, .int .i64 rs2, .int .i32 imm], .int .u32 a] w fun e w' => e = .returned (.tuple #[.int .u32 (accA 28 a imm), .int .i64 (accN 28), .bool (accS 28), .bool (accG 28)]) ∧ Nx w w' := by
  have HV : Hid (accA 28 a imm = 0) := rfl
  have H1 : Hid (accN 28 = 0) := rfl
  have H2 : Hid (accS 28 = false) := rfl
  have H3 : Hid (accG 28 = false) := rfl
  go_enter Tryz.func34, Tryz.ntmps34
  go_wp2_with fail
  refine (rmay_any _ _ _ _ _ _ hv hv').mono ?_
  rintro e w1 ⟨rfl, hn1⟩
  obtain ⟨c0, c1, c2, c3, c4, hz⟩ := five_in hn1
  have HN := Lib.hid (((Nx.refl w).alloc _).trans hn1)
  clear hn1
  go_wp2
  go_region_with (go_at_call 62; refine (names_at 28 [97, 100, 100] rfl _).mono ?_; rintro e w2 ⟨g, rfl, hg, hn2⟩; have hn3 : Nx w1 w2 := Nx.trans ((Nx.refl _).drew) hn2; have d0 := hn3.cell c0)
  all_goals
    have d4 := hn3.cell c4
    have hz3 : w.heap.size < w2.heap.size := Nat.lt_of_lt_of_le hz hn3.size
    go_wp2
    refine bodyPost_ret (v := .tuple #[.int .u32 (0), .int .i64 0, .bool false, .bool false]) (by simp [results, Tryz.results34, go_sem] <;> decide) rfl ⟨ret4 HV.out.symm H1.out.symm H2.out.symm H3.out.symm, ?_⟩
    first | exact HN.out.trans hn3 | exact (HN.out.trans hn3).drewN _

set_option maxHeartbeats 1000000 in
theorem raccess_29 (rd rs1 rs2 imm a : Int) (w : World) (hv : -2147483648 ≤ imm) (hv' : imm ≤ 2147483647) (a1 : 0 ≤ a) (a2 : a < 4294967296) (h : mayB 29 rd rs1 rs2 imm = true) :
    Calls Tryz.prog 34 #[.agg #[.int .i64 29, .int .i64 rd, .int .i64 rs1, .int .i64 rs2, .int .i32 imm], .int .u32 a] w fun e w' => e = .returned (.tuple #[.int .u32 (accA 29 a imm), .int .i64 (accN 29), .bool (accS 29), .bool (accG 29)]) ∧ Nx w w' := by
  have HV : Hid (accA 29 a imm = 0) := rfl
  have H1 : Hid (accN 29 = 0) := rfl
  have H2 : Hid (accS 29 = false) := rfl
  have H3 : Hid (accG 29 = false) := rfl
  go_enter Tryz.func34, Tryz.ntmps34
  go_wp2_with fail
  refine (rmay_any _ _ _ _ _ _ hv hv').mono ?_
  rintro e w1 ⟨rfl, hn1⟩
  obtain ⟨c0, c1, c2, c3, c4, hz⟩ := five_in hn1
  have HN := Lib.hid (((Nx.refl w).alloc _).trans hn1)
  clear hn1
  go_wp2
  go_region_with (go_at_call 62; refine (names_at 29 [115, 117, 98] rfl _).mono ?_; rintro e w2 ⟨g, rfl, hg, hn2⟩; have hn3 : Nx w1 w2 := Nx.trans ((Nx.refl _).drew) hn2; have d0 := hn3.cell c0)
  all_goals
    have d4 := hn3.cell c4
    have hz3 : w.heap.size < w2.heap.size := Nat.lt_of_lt_of_le hz hn3.size
    go_wp2
    refine bodyPost_ret (v := .tuple #[.int .u32 (0), .int .i64 0, .bool false, .bool false]) (by simp [results, Tryz.results34, go_sem] <;> decide) rfl ⟨ret4 HV.out.symm H1.out.symm H2.out.symm H3.out.symm, ?_⟩
    first | exact HN.out.trans hn3 | exact (HN.out.trans hn3).drewN _

set_option maxHeartbeats 1000000 in
theorem raccess_30 (rd rs1 rs2 imm a : Int) (w : World) (hv : -2147483648 ≤ imm) (hv' : imm ≤ 2147483647) (a1 : 0 ≤ a) (a2 : a < 4294967296) (h : mayB 30 rd rs1 rs2 imm = true) :
    Calls Tryz.prog 34 #[.agg #[.int .i64 30, .int .i64 rd, .int .i64 rs1, .int .i64 rs2, .int .i32 imm], .int .u32 a] w fun e w' => e = .returned (.tuple #[.int .u32 (accA 30 a imm), .int .i64 (accN 30), .bool (accS 30), .bool (accG 30)]) ∧ Nx w w' := by
  have HV : Hid (accA 30 a imm = 0) := rfl
  have H1 : Hid (accN 30 = 0) := rfl
  have H2 : Hid (accS 30 = false) := rfl
  have H3 : Hid (accG 30 = false) := rfl
  go_enter Tryz.func34, Tryz.ntmps34
  go_wp2_with fail
  refine (rmay_any _ _ _ _ _ _ hv hv').mono ?_
  rintro e w1 ⟨rfl, hn1⟩
  obtain ⟨c0, c1, c2, c3, c4, hz⟩ := five_in hn1
  have HN := Lib.hid (((Nx.refl w).alloc _).trans hn1)
  clear hn1
  go_wp2
  go_region_with (go_at_call 62; refine (names_at 30 [115, 108, 108] rfl _).mono ?_; rintro e w2 ⟨g, rfl, hg, hn2⟩; have hn3 : Nx w1 w2 := Nx.trans ((Nx.refl _).drew) hn2; have d0 := hn3.cell c0)
  all_goals
    have d4 := hn3.cell c4
    have hz3 : w.heap.size < w2.heap.size := Nat.lt_of_lt_of_le hz hn3.size
    go_wp2
    refine bodyPost_ret (v := .tuple #[.int .u32 (0), .int .i64 0, .bool false, .bool false]) (by simp [results, Tryz.results34, go_sem] <;> decide) rfl ⟨ret4 HV.out.symm H1.out.symm H2.out.symm H3.out.symm, ?_⟩
    first | exact HN.out.trans hn3 | exact (HN.out.trans hn3).drewN _

set_option maxHeartbeats 1000000 in
theorem raccess_31 (rd rs1 rs2 imm a : Int) (w : World) (hv : -2147483648 ≤ imm) (hv' : imm ≤ 2147483647) (a1 : 0 ≤ a) (a2 : a < 4294967296) (h : mayB 31 rd rs1 rs2 imm = true) :
    Calls Tryz.prog 34 #[.agg #[.int .i64 31, .int .i64 rd, .int .i64 rs1, .int .i64 rs2, .int .i32 imm], .int .u32 a] w fun e w' => e = .returned (.tuple #[.int .u32 (accA 31 a imm), .int .i64 (accN 31), .bool (accS 31), .bool (accG 31)]) ∧ Nx w w' := by
  have HV : Hid (accA 31 a imm = 0) := rfl
  have H1 : Hid (accN 31 = 0) := rfl
  have H2 : Hid (accS 31 = false) := rfl
  have H3 : Hid (accG 31 = false) := rfl
  go_enter Tryz.func34, Tryz.ntmps34
  go_wp2_with fail
  refine (rmay_any _ _ _ _ _ _ hv hv').mono ?_
  rintro e w1 ⟨rfl, hn1⟩
  obtain ⟨c0, c1, c2, c3, c4, hz⟩ := five_in hn1
  have HN := Lib.hid (((Nx.refl w).alloc _).trans hn1)
  clear hn1
  go_wp2
  go_region_with (go_at_call 62; refine (names_at 31 [115, 108, 116] rfl _).mono ?_; rintro e w2 ⟨g, rfl, hg, hn2⟩; have hn3 : Nx w1 w2 := Nx.trans ((Nx.refl _).drew) hn2; have d0 := hn3.cell c0)
  all_goals
    have d4 := hn3.cell c4
    have hz3 : w.heap.size < w2.heap.size := Nat.lt_of_lt_of_le hz hn3.size
    go_wp2
    refine bodyPost_ret (v := .tuple #[.int .u32 (0), .int .i64 0, .bool false, .bool false]) (by simp [results, Tryz.results34, go_sem] <;> decide) rfl ⟨ret4 HV.out.symm H1.out.symm H2.out.symm H3.out.symm, ?_⟩
    first | exact HN.out.trans hn3 | exact (HN.out.trans hn3).drewN _

set_option maxHeartbeats 1000000 in
theorem raccess_32 (rd rs1 rs2 imm a : Int) (w : World) (hv : -2147483648 ≤ imm) (hv' : imm ≤ 2147483647) (a1 : 0 ≤ a) (a2 : a < 4294967296) (h : mayB 32 rd rs1 rs2 imm = true) :
    Calls Tryz.prog 34 #[.agg #[.int .i64 32, .int .i64 rd, .int .i64 rs1, .int .i64 rs2, .int .i32 imm], .int .u32 a] w fun e w' => e = .returned (.tuple #[.int .u32 (accA 32 a imm), .int .i64 (accN 32), .bool (accS 32), .bool (accG 32)]) ∧ Nx w w' := by
  have HV : Hid (accA 32 a imm = 0) := rfl
  have H1 : Hid (accN 32 = 0) := rfl
  have H2 : Hid (accS 32 = false) := rfl
  have H3 : Hid (accG 32 = false) := rfl
  go_enter Tryz.func34, Tryz.ntmps34
  go_wp2_with fail
  refine (rmay_any _ _ _ _ _ _ hv hv').mono ?_
  rintro e w1 ⟨rfl, hn1⟩
  obtain ⟨c0, c1, c2, c3, c4, hz⟩ := five_in hn1
  have HN := Lib.hid (((Nx.refl w).alloc _).trans hn1)
  clear hn1
  go_wp2
  go_region_with (go_at_call 62; refine (names_at 32 [115, 108, 116, 117] rfl _).mono ?_; rintro e w2 ⟨g, rfl, hg, hn2⟩; have hn3 : Nx w1 w2 := Nx.trans ((Nx.refl _).drew) hn2; have d0 := hn3.cell c0)
  all_goals
    have d4 := hn3.cell c4
    have hz3 : w.heap.size < w2.heap.size := Nat.lt_of_lt_of_le hz hn3.size
    go_wp2
    refine bodyPost_ret (v := .tuple #[.int .u32 (0), .int .i64 0, .bool false, .bool false]) (by simp [results, Tryz.results34, go_sem] <;> decide) rfl ⟨ret4 HV.out.symm H1.out.symm H2.out.symm H3.out.symm, ?_⟩
    first | exact HN.out.trans hn3 | exact (HN.out.trans hn3).drewN _

set_option maxHeartbeats 1000000 in
theorem raccess_33 (rd rs1 rs2 imm a : Int) (w : World) (hv : -2147483648 ≤ imm) (hv' : imm ≤ 2147483647) (a1 : 0 ≤ a) (a2 : a < 4294967296) (h : mayB 33 rd rs1 rs2 imm = true) :
    Calls Tryz.prog 34 #[.agg #[.int .i64 33, .int .i64 rd, .int .i64 rs1, .int .i64 rs2, .int .i32 imm], .int .u32 a] w fun e w' => e = .returned (.tuple #[.int .u32 (accA 33 a imm), .int .i64 (accN 33), .bool (accS 33), .bool (accG 33)]) ∧ Nx w w' := by
  have HV : Hid (accA 33 a imm = 0) := rfl
  have H1 : Hid (accN 33 = 0) := rfl
  have H2 : Hid (accS 33 = false) := rfl
  have H3 : Hid (accG 33 = false) := rfl
  go_enter Tryz.func34, Tryz.ntmps34
  go_wp2_with fail
  refine (rmay_any _ _ _ _ _ _ hv hv').mono ?_
  rintro e w1 ⟨rfl, hn1⟩
  obtain ⟨c0, c1, c2, c3, c4, hz⟩ := five_in hn1
  have HN := Lib.hid (((Nx.refl w).alloc _).trans hn1)
  clear hn1
  go_wp2
  go_region_with (go_at_call 62; refine (names_at 33 [120, 111, 114] rfl _).mono ?_; rintro e w2 ⟨g, rfl, hg, hn2⟩; have hn3 : Nx w1 w2 := Nx.trans ((Nx.refl _).drew) hn2; have d0 := hn3.cell c0)
  all_goals
    have d4 := hn3.cell c4
    have hz3 : w.heap.size < w2.heap.size := Nat.lt_of_lt_of_le hz hn3.size
    go_wp2
    refine bodyPost_ret (v := .tuple #[.int .u32 (0), .int .i64 0, .bool false, .bool false]) (by simp [results, Tryz.results34, go_sem] <;> decide) rfl ⟨ret4 HV.out.symm H1.out.symm H2.out.symm H3.out.symm, ?_⟩
    first | exact HN.out.trans hn3 | exact (HN.out.trans hn3).drewN _

set_option maxHeartbeats 1000000 in
theorem raccess_34 (rd rs1 rs2 imm a : Int) (w : World) (hv : -2147483648 ≤ imm) (hv' : imm ≤ 2147483647) (a1 : 0 ≤ a) (a2 : a < 4294967296) (h : mayB 34 rd rs1 rs2 imm = true) :
    Calls Tryz.prog 34 #[.agg #[.int .i64 34, .int .i64 rd, .int .i64 rs1, .int .i64 rs2, .int .i32 imm], .int .u32 a] w fun e w' => e = .returned (.tuple #[.int .u32 (accA 34 a imm), .int .i64 (accN 34), .bool (accS 34), .bool (accG 34)]) ∧ Nx w w' := by
  have HV : Hid (accA 34 a imm = 0) := rfl
  have H1 : Hid (accN 34 = 0) := rfl
  have H2 : Hid (accS 34 = false) := rfl
  have H3 : Hid (accG 34 = false) := rfl
  go_enter Tryz.func34, Tryz.ntmps34
  go_wp2_with fail
  refine (rmay_any _ _ _ _ _ _ hv hv').mono ?_
  rintro e w1 ⟨rfl, hn1⟩
  obtain ⟨c0, c1, c2, c3, c4, hz⟩ := five_in hn1
  have HN := Lib.hid (((Nx.refl w).alloc _).trans hn1)
  clear hn1
  go_wp2
  go_region_with (go_at_call 62; refine (names_at 34 [115, 114, 108] rfl _).mono ?_; rintro e w2 ⟨g, rfl, hg, hn2⟩; have hn3 : Nx w1 w2 := Nx.trans ((Nx.refl _).drew) hn2; have d0 := hn3.cell c0)
  all_goals
    have d4 := hn3.cell c4
    have hz3 : w.heap.size < w2.heap.size := Nat.lt_of_lt_of_le hz hn3.size
    go_wp2
    refine bodyPost_ret (v := .tuple #[.int .u32 (0), .int .i64 0, .bool false, .bool false]) (by simp [results, Tryz.results34, go_sem] <;> decide) rfl ⟨ret4 HV.out.symm H1.out.symm H2.out.symm H3.out.symm, ?_⟩
    first | exact HN.out.trans hn3 | exact (HN.out.trans hn3).drewN _

set_option maxHeartbeats 1000000 in
theorem raccess_35 (rd rs1 rs2 imm a : Int) (w : World) (hv : -2147483648 ≤ imm) (hv' : imm ≤ 2147483647) (a1 : 0 ≤ a) (a2 : a < 4294967296) (h : mayB 35 rd rs1 rs2 imm = true) :
    Calls Tryz.prog 34 #[.agg #[.int .i64 35, .int .i64 rd, .int .i64 rs1, .int .i64 rs2, .int .i32 imm], .int .u32 a] w fun e w' => e = .returned (.tuple #[.int .u32 (accA 35 a imm), .int .i64 (accN 35), .bool (accS 35), .bool (accG 35)]) ∧ Nx w w' := by
  have HV : Hid (accA 35 a imm = 0) := rfl
  have H1 : Hid (accN 35 = 0) := rfl
  have H2 : Hid (accS 35 = false) := rfl
  have H3 : Hid (accG 35 = false) := rfl
  go_enter Tryz.func34, Tryz.ntmps34
  go_wp2_with fail
  refine (rmay_any _ _ _ _ _ _ hv hv').mono ?_
  rintro e w1 ⟨rfl, hn1⟩
  obtain ⟨c0, c1, c2, c3, c4, hz⟩ := five_in hn1
  have HN := Lib.hid (((Nx.refl w).alloc _).trans hn1)
  clear hn1
  go_wp2
  go_region_with (go_at_call 62; refine (names_at 35 [115, 114, 97] rfl _).mono ?_; rintro e w2 ⟨g, rfl, hg, hn2⟩; have hn3 : Nx w1 w2 := Nx.trans ((Nx.refl _).drew) hn2; have d0 := hn3.cell c0)
  all_goals
    have d4 := hn3.cell c4
    have hz3 : w.heap.size < w2.heap.size := Nat.lt_of_lt_of_le hz hn3.size
    go_wp2
    refine bodyPost_ret (v := .tuple #[.int .u32 (0), .int .i64 0, .bool false, .bool false]) (by simp [results, Tryz.results34, go_sem] <;> decide) rfl ⟨ret4 HV.out.symm H1.out.symm H2.out.symm H3.out.symm, ?_⟩
    first | exact HN.out.trans hn3 | exact (HN.out.trans hn3).drewN _

set_option maxHeartbeats 1000000 in
theorem raccess_36 (rd rs1 rs2 imm a : Int) (w : World) (hv : -2147483648 ≤ imm) (hv' : imm ≤ 2147483647) (a1 : 0 ≤ a) (a2 : a < 4294967296) (h : mayB 36 rd rs1 rs2 imm = true) :
    Calls Tryz.prog 34 #[.agg #[.int .i64 36, .int .i64 rd, .int .i64 rs1, .int .i64 rs2, .int .i32 imm], .int .u32 a] w fun e w' => e = .returned (.tuple #[.int .u32 (accA 36 a imm), .int .i64 (accN 36), .bool (accS 36), .bool (accG 36)]) ∧ Nx w w' := by
  have HV : Hid (accA 36 a imm = 0) := rfl
  have H1 : Hid (accN 36 = 0) := rfl
  have H2 : Hid (accS 36 = false) := rfl
  have H3 : Hid (accG 36 = false) := rfl
  go_enter Tryz.func34, Tryz.ntmps34
  go_wp2_with fail
  refine (rmay_any _ _ _ _ _ _ hv hv').mono ?_
  rintro e w1 ⟨rfl, hn1⟩
  obtain ⟨c0, c1, c2, c3, c4, hz⟩ := five_in hn1
  have HN := Lib.hid (((Nx.refl w).alloc _).trans hn1)
  clear hn1
  go_wp2
  go_region_with (go_at_call 62; refine (names_at 36 [111, 114] rfl _).mono ?_; rintro e w2 ⟨g, rfl, hg, hn2⟩; have hn3 : Nx w1 w2 := Nx.trans ((Nx.refl _).drew) hn2; have d0 := hn3.cell c0)
  all_goals
    have d4 := hn3.cell c4
    have hz3 : w.heap.size < w2.heap.size := Nat.lt_of_lt_of_le hz hn3.size
    go_wp2
    refine bodyPost_ret (v := .tuple #[.int .u32 (0), .int .i64 0, .bool false, .bool false]) (by simp [results, Tryz.results34, go_sem] <;> decide) rfl ⟨ret4 HV.out.symm H1.out.symm H2.out.symm H3.out.symm, ?_⟩
    first | exact HN.out.trans hn3 | exact (HN.out.trans hn3).drewN _

set_option maxHeartbeats 1000000 in
theorem raccess_37 (rd rs1 rs2 imm a : Int) (w : World) (hv : -2147483648 ≤ imm) (hv' : imm ≤ 2147483647) (a1 : 0 ≤ a) (a2 : a < 4294967296) (h : mayB 37 rd rs1 rs2 imm = true) :
    Calls Tryz.prog 34 #[.agg #[.int .i64 37, .int .i64 rd, .int .i64 rs1, .int .i64 rs2, .int .i32 imm], .int .u32 a] w fun e w' => e = .returned (.tuple #[.int .u32 (accA 37 a imm), .int .i64 (accN 37), .bool (accS 37), .bool (accG 37)]) ∧ Nx w w' := by
  have HV : Hid (accA 37 a imm = 0) := rfl
  have H1 : Hid (accN 37 = 0) := rfl
  have H2 : Hid (accS 37 = false) := rfl
  have H3 : Hid (accG 37 = false) := rfl
  go_enter Tryz.func34, Tryz.ntmps34
  go_wp2_with fail
  refine (rmay_any _ _ _ _ _ _ hv hv').mono ?_
  rintro e w1 ⟨rfl, hn1⟩
  obtain ⟨c0, c1, c2, c3, c4, hz⟩ := five_in hn1
  have HN := Lib.hid (((Nx.refl w).alloc _).trans hn1)
  clear hn1
  go_wp2
  go_region_with (go_at_call 62; refine (names_at 37 [97, 110, 100] rfl _).mono ?_; rintro e w2 ⟨g, rfl, hg, hn2⟩; have hn3 : Nx w1 w2 := Nx.trans ((Nx.refl _).drew) hn2; have d0 := hn3.cell c0)
  all_goals
    have d4 := hn3.cell c4
    have hz3 : w.heap.size < w2.heap.size := Nat.lt_of_lt_of_le hz hn3.size
    go_wp2
    refine bodyPost_ret (v := .tuple #[.int .u32 (0), .int .i64 0, .bool false, .bool false]) (by simp [results, Tryz.results34, go_sem] <;> decide) rfl ⟨ret4 HV.out.symm H1.out.symm H2.out.symm H3.out.symm, ?_⟩
    first | exact HN.out.trans hn3 | exact (HN.out.trans hn3).drewN _

set_option maxHeartbeats 1000000 in
theorem raccess_38 (rd rs1 rs2 imm a : Int) (w : World) (hv : -2147483648 ≤ imm) (hv' : imm ≤ 2147483647) (a1 : 0 ≤ a) (a2 : a < 4294967296) (h : mayB 38 rd rs1 rs2 imm = true) :
    Calls Tryz.prog 34 #[.agg #[.int .i64 38, .int .i64 rd, .int .i64 rs1, .int .i64 rs2, .int .i32 imm], .int .u32 a] w fun e w' => e = .returned (.tuple #[.int .u32 (accA 38 a imm), .int .i64 (accN 38), .bool (accS 38), .bool (accG 38)]) ∧ Nx w w' := by
  have HV : Hid (accA 38 a imm = 0) := rfl
  have H1 : Hid (accN 38 = 0) := rfl
  have H2 : Hid (accS 38 = false) := rfl
  have H3 : Hid (accG 38 = false) := rfl
  go_enter Tryz.func34, Tryz.ntmps34
  go_wp2_with fail
  refine (rmay_any _ _ _ _ _ _ hv hv').mono ?_
  rintro e w1 ⟨rfl, hn1⟩
  obtain ⟨c0, c1, c2, c3, c4, hz⟩ := five_in hn1
  have HN := Lib.hid (((Nx.refl w).alloc _).trans hn1)
  clear hn1
  go_wp2
  go_region_with (go_at_call 62; refine (names_at 38 [102, 101, 110, 99, 101] rfl _).mono ?_; rintro e w2 ⟨g, rfl, hg, hn2⟩; have hn3 : Nx w1 w2 := Nx.trans ((Nx.refl _).drew) hn2; have d0 := hn3.cell c0)
  all_goals
    have d4 := hn3.cell c4
    have hz3 : w.heap.size < w2.heap.size := Nat.lt_of_lt_of_le hz hn3.size
    go_wp2
    refine bodyPost_ret (v := .tuple #[.int .u32 (0), .int .i64 0, .bool false, .bool false]) (by simp [results, Tryz.results34, go_sem] <;> decide) rfl ⟨ret4 HV.out.symm H1.out.symm H2.out.symm H3.out.symm, ?_⟩
    first | exact HN.out.trans hn3 | exact (HN.out.trans hn3).drewN _

set_option maxHeartbeats 1000000 in
theorem raccess_39 (rd rs1 rs2 imm a : Int) (w : World) (hv : -2147483648 ≤ imm) (hv' : imm ≤ 2147483647) (a1 : 0 ≤ a) (a2 : a < 4294967296) (h : mayB 39 rd rs1 rs2 imm = true) :
    Calls Tryz.prog 34 #[.agg #[.int .i64 39, .int .i64 rd, .int .i64 rs1, .int .i64 rs2, .int .i32 imm], .int .u32 a] w fun e w' => e = .returned (.tuple #[.int .u32 (accA 39 a imm), .int .i64 (accN 39), .bool (accS 39), .bool (accG 39)]) ∧ Nx w w' := by
  have HV : Hid (accA 39 a imm = 0) := rfl
  have H1 : Hid (accN 39 = 0) := rfl
  have H2 : Hid (accS 39 = false) := rfl
  have H3 : Hid (accG 39 = false) := rfl
  go_enter Tryz.func34, Tryz.ntmps34
  go_wp2_with fail
  refine (rmay_any _ _ _ _ _ _ hv hv').mono ?_
  rintro e w1 ⟨rfl, hn1⟩
  obtain ⟨c0, c1, c2, c3, c4, hz⟩ := five_in hn1
  have HN := Lib.hid (((Nx.refl w).alloc _).trans hn1)
  clear hn1
  go_wp2
  go_region_with (go_at_call 62; refine (names_at 39 [101, 99, 97, 108, 108] rfl _).mono ?_; rintro e w2 ⟨g, rfl, hg, hn2⟩; have hn3 : Nx w1 w2 := Nx.trans ((Nx.refl _).drew) hn2; have d0 := hn3.cell c0)
  all_goals
    have d4 := hn3.cell c4
    have hz3 : w.heap.size < w2.heap.size := Nat.lt_of_lt_of_le hz hn3.size
    go_wp2
    refine bodyPost_ret (v := .tuple #[.int .u32 (0), .int .i64 0, .bool false, .bool false]) (by simp [results, Tryz.results34, go_sem] <;> decide) rfl ⟨ret4 HV.out.symm H1.out.symm H2.out.symm H3.out.symm, ?_⟩
    first | exact HN.out.trans hn3 | exact (HN.out.trans hn3).drewN _

set_option maxHeartbeats 1000000 in
theorem raccess_40 (rd rs1 rs2 imm a : Int) (w : World) (hv : -2147483648 ≤ imm) (hv' : imm ≤ 2147483647) (a1 : 0 ≤ a) (a2 : a < 4294967296) (h : mayB 40 rd rs1 rs2 imm = true) :
    Calls Tryz.prog 34 #[.agg #[.int .i64 40, .int .i64 rd, .int .i64 rs1, .int .i64 rs2, .int .i32 imm], .int .u32 a] w fun e w' => e = .returned (.tuple #[.int .u32 (accA 40 a imm), .int .i64 (accN 40), .bool (accS 40), .bool (accG 40)]) ∧ Nx w w' := by
  have HV : Hid (accA 40 a imm = 0) := rfl
  have H1 : Hid (accN 40 = 0) := rfl
  have H2 : Hid (accS 40 = false) := rfl
  have H3 : Hid (accG 40 = false) := rfl
  go_enter Tryz.func34, Tryz.ntmps34
  go_wp2_with fail
  refine (rmay_any _ _ _ _ _ _ hv hv').mono ?_
  rintro e w1 ⟨rfl, hn1⟩
  obtain ⟨c0, c1, c2, c3, c4, hz⟩ := five_in hn1
  have HN := Lib.hid (((Nx.refl w).alloc _).trans hn1)
  clear hn1
  go_wp2
  go_region_with (go_at_call 62; refine (names_at 40 [101, 98, 114, 101, 97, 107] rfl _).mono ?_; rintro e w2 ⟨g, rfl, hg, hn2⟩; have hn3 : Nx w1 w2 := Nx.trans ((Nx.refl _).drew) hn2; have d0 := hn3.cell c0)
  all_goals
    have d4 := hn3.cell c4
    have hz3 : w.heap.size < w2.heap.size := Nat.lt_of_lt_of_le hz hn3.size
    go_wp2
    refine bodyPost_ret (v := .tuple #[.int .u32 (0), .int .i64 0, .bool false, .bool false]) (by simp [results, Tryz.results34, go_sem] <;> decide) rfl ⟨ret4 HV.out.symm H1.out.symm H2.out.symm H3.out.symm, ?_⟩
    first | exact HN.out.trans hn3 | exact (HN.out.trans hn3).drewN _

set_option maxHeartbeats 1000000 in
theorem raccess_41 (rd rs1 rs2 imm a : Int) (w : World) (hv : -2147483648 ≤ imm) (hv' : imm ≤ 2147483647) (a1 : 0 ≤ a) (a2 : a < 4294967296) (h : mayB 41 rd rs1 rs2 imm = true) :
    Calls Tryz.prog 34 #[.agg #[.int .i64 41, .int .i64 rd, .int .i64 rs1, .int .i64 rs2, .int .i32 imm], .int .u32 a] w fun e w' => e = .returned (.tuple #[.int .u32 (accA 41 a imm), .int .i64 (accN 41), .bool (accS 41), .bool (accG 41)]) ∧ Nx w w' := by
  have HV : Hid (accA 41 a imm = 0) := rfl
  have H1 : Hid (accN 41 = 0) := rfl
  have H2 : Hid (accS 41 = false) := rfl
  have H3 : Hid (accG 41 = false) := rfl
  go_enter Tryz.func34, Tryz.ntmps34
  go_wp2_with fail
  refine (rmay_any _ _ _ _ _ _ hv hv').mono ?_
  rintro e w1 ⟨rfl, hn1⟩
  obtain ⟨c0, c1, c2, c3, c4, hz⟩ := five_in hn1
  have HN := Lib.hid (((Nx.refl w).alloc _).trans hn1)
  clear hn1
  go_wp2
  go_region_with (go_at_call 62; refine (names_at 41 [109, 117, 108] rfl _).mono ?_; rintro e w2 ⟨g, rfl, hg, hn2⟩; have hn3 : Nx w1 w2 := Nx.trans ((Nx.refl _).drew) hn2; have d0 := hn3.cell c0)
  all_goals
    have d4 := hn3.cell c4
    have hz3 : w.heap.size < w2.heap.size := Nat.lt_of_lt_of_le hz hn3.size
    go_wp2
    refine bodyPost_ret (v := .tuple #[.int .u32 (0), .int .i64 0, .bool false, .bool false]) (by simp [results, Tryz.results34, go_sem] <;> decide) rfl ⟨ret4 HV.out.symm H1.out.symm H2.out.symm H3.out.symm, ?_⟩
    first | exact HN.out.trans hn3 | exact (HN.out.trans hn3).drewN _

set_option maxHeartbeats 1000000 in
theorem raccess_42 (rd rs1 rs2 imm a : Int) (w : World) (hv : -2147483648 ≤ imm) (hv' : imm ≤ 2147483647) (a1 : 0 ≤ a) (a2 : a < 4294967296) (h : mayB 42 rd rs1 rs2 imm = true) :
    Calls Tryz.prog 34 #[.agg #[.int .i64 42, .int .i64 rd, .int .i64 rs1, .int .i64 rs2, .int .i32 imm], .int .u32 a] w fun e w' => e = .returned (.tuple #[.int .u32 (accA 42 a imm), .int .i64 (accN 42), .bool (accS 42), .bool (accG 42)]) ∧ Nx w w' := by
  have HV : Hid (accA 42 a imm = 0) := rfl
  have H1 : Hid (accN 42 = 0) := rfl
  have H2 : Hid (accS 42 = false) := rfl
  have H3 : Hid (accG 42 = false) := rfl
  go_enter Tryz.func34, Tryz.ntmps34
  go_wp2_with fail
  refine (rmay_any _ _ _ _ _ _ hv hv').mono ?_
  rintro e w1 ⟨rfl, hn1⟩
  obtain ⟨c0, c1, c2, c3, c4, hz⟩ := five_in hn1
  have HN := Lib.hid (((Nx.refl w).alloc _).trans hn1)
  clear hn1
  go_wp2
  go_region_with (go_at_call 62; refine (names_at 42 [109, 117, 108, 104] rfl _).mono ?_; rintro e w2 ⟨g, rfl, hg, hn2⟩; have hn3 : Nx w1 w2 := Nx.trans ((Nx.refl _).drew) hn2; have d0 := hn3.cell c0)
  all_goals
    have d4 := hn3.cell c4
    have hz3 : w.heap.size < w2.heap.size := Nat.lt_of_lt_of_le hz hn3.size
    go_wp2
    refine bodyPost_ret (v := .tuple #[.int .u32 (0), .int .i64 0, .bool false, .bool false]) (by simp [results, Tryz.results34, go_sem] <;> decide) rfl ⟨ret4 HV.out.symm H1.out.symm H2.out.symm H3.out.symm, ?_⟩
    first | exact HN.out.trans hn3 | exact (HN.out.trans hn3).drewN _

set_option maxHeartbeats 1000000 in
theorem raccess_43 (rd rs1 rs2 imm a : Int) (w : World) (hv : -2147483648 ≤ imm) (hv' : imm ≤ 2147483647) (a1 : 0 ≤ a) (a2 : a < 4294967296) (h : mayB 43 rd rs1 rs2 imm = true) :
    Calls Tryz.prog 34 #[.agg #[.int .i64 43, .int .i64 rd, .int .i64 rs1, .int .i64 rs2, .int .i32 imm], .int .u32 a] w fun e w' => e = .returned (.tuple #[.int .u32 (accA 43 a imm), .int .i64 (accN 43), .bool (accS 43), .bool (accG 43)]) ∧ Nx w w' := by
  have HV : Hid (accA 43 a imm = 0) := rfl
  have H1 : Hid (accN 43 = 0) := rfl
  have H2 : Hid (accS 43 = false) := rfl
  have H3 : Hid (accG 43 = false) := rfl
  go_enter Tryz.func34, Tryz.ntmps34
  go_wp2_with fail
  refine (rmay_any _ _ _ _ _ _ hv hv').mono ?_
  rintro e w1 ⟨rfl, hn1⟩
  obtain ⟨c0, c1, c2, c3, c4, hz⟩ := five_in hn1
  have HN := Lib.hid (((Nx.refl w).alloc _).trans hn1)
  clear hn1
  go_wp2
  go_region_with (go_at_call 62; refine (names_at 43 [109, 117, 108, 104, 115, 117] rfl _).mono ?_; rintro e w2 ⟨g, rfl, hg, hn2⟩; have hn3 : Nx w1 w2 := Nx.trans ((Nx.refl _).drew) hn2; have d0 := hn3.cell c0)
  all_goals
    have d4 := hn3.cell c4
    have hz3 : w.heap.size < w2.heap.size := Nat.lt_of_lt_of_le hz hn3.size
    go_wp2
    refine bodyPost_ret (v := .tuple #[.int .u32 (0), .int .i64 0, .bool false, .bool false]) (by simp [results, Tryz.results34, go_sem] <;> decide) rfl ⟨ret4 HV.out.symm H1.out.symm H2.out.symm H3.out.symm, ?_⟩
    first | exact HN.out.trans hn3 | exact (HN.out.trans hn3).drewN _

set_option maxHeartbeats 1000000 in
theorem raccess_44 (rd rs1 rs2 imm a : Int) (w : World) (hv : -2147483648 ≤ imm) (hv' : imm ≤ 2147483647) (a1 : 0 ≤ a) (a2 : a < 4294967296) (h : mayB 44 rd rs1 rs2 imm = true) :
    Calls Tryz.prog 34 #[.agg #[.int .i64 44, .int .i64 rd, .int .i64 rs1, .int .i64 rs2, .int .i32 imm], .int .u32 a] w fun e w' => e = .returned (.tuple #[.int .u32 (accA 44 a imm), .int .i64 (accN 44), .bool (accS 44), .bool (accG 44)]) ∧ Nx w w' := by
  have HV : Hid (accA 44 a imm = 0) := rfl
  have H1 : Hid (accN 44 = 0) := rfl
  have H2 : Hid (accS 44 = false) := rfl
  have H3 : Hid (accG 44 = false) := rfl
  go_enter Tryz.func34, Tryz.ntmps34
  go_wp2_with fail
  refine (rmay_any _ _ _ _ _ _ hv hv').mono ?_
  rintro e w1 ⟨rfl, hn1⟩
  obtain ⟨c0, c1, c2, c3, c4, hz⟩ := five_in hn1
  have HN := Lib.hid (((Nx.refl w).alloc _).trans hn1)
  clear hn1
  go_wp2
  go_region_with (go_at_call 62; refine (names_at 44 [109, 117, 108, 104, 117] rfl _).mono ?_; rintro e w2 ⟨g, rfl, hg, hn2⟩; have hn3 : Nx w1 w2 := Nx.trans ((Nx.refl _).drew) hn2; have d0 := hn3.cell c0)
  all_goals
    have d4 := hn3.cell c4
    have hz3 : w.heap.size < w2.heap.size := Nat.lt_of_lt_of_le hz hn3.size
    go_wp2
    refine bodyPost_ret (v := .tuple #[.int .u32 (0), .int .i64 0, .bool false, .bool false]) (by simp [results, Tryz.results34, go_sem] <;> decide) rfl ⟨ret4 HV.out.symm H1.out.symm H2.out.symm H3.out.symm, ?_⟩
    first | exact HN.out.trans hn3 | exact (HN.out.trans hn3).drewN _

set_option maxHeartbeats 1000000 in
theorem raccess_45 (rd rs1 rs2 imm a : Int) (w : World) (hv : -2147483648 ≤ imm) (hv' : imm ≤ 2147483647) (a1 : 0 ≤ a) (a2 : a < 4294967296) (h : mayB 45 rd rs1 rs2 imm = true) :
    Calls Tryz.prog 34 #[.agg #[.int .i64 45, .int .i64 rd, .int .i64 rs1, .int .i64 rs2, .int .i32 imm], .int .u32 a] w fun e w' => e = .returned (.tuple #[.int .u32 (accA 45 a imm), .int .i64 (accN 45), .bool (accS 45), .bool (accG 45)]) ∧ Nx w w' := by
  have HV : Hid (accA 45 a imm = 0) := rfl
  have H1 : Hid (accN 45 = 0) := rfl
  have H2 : Hid (accS 45 = false) := rfl
  have H3 : Hid (accG 45 = false) := rfl
  go_enter Tryz.func34, Tryz.ntmps34
  go_wp2_with fail
  refine (rmay_any _ _ _ _ _ _ hv hv').mono ?_
  rintro e w1 ⟨rfl, hn1⟩
  obtain ⟨c0, c1, c2, c3, c4, hz⟩ := five_in hn1
  have HN := Lib.hid (((Nx.refl w).alloc _).trans hn1)
  clear hn1
  go_wp2
  go_region_with (go_at_call 62; refine (names_at 45 [100, 105, 118] rfl _).mono ?_; rintro e w2 ⟨g, rfl, hg, hn2⟩; have hn3 : Nx w1 w2 := Nx.trans ((Nx.refl _).drew) hn2; have d0 := hn3.cell c0)
  all_goals
    have d4 := hn3.cell c4
    have hz3 : w.heap.size < w2.heap.size := Nat.lt_of_lt_of_le hz hn3.size
    go_wp2
    refine bodyPost_ret (v := .tuple #[.int .u32 (0), .int .i64 0, .bool false, .bool false]) (by simp [results, Tryz.results34, go_sem] <;> decide) rfl ⟨ret4 HV.out.symm H1.out.symm H2.out.symm H3.out.symm, ?_⟩
    first | exact HN.out.trans hn3 | exact (HN.out.trans hn3).drewN _

set_option maxHeartbeats 1000000 in
theorem raccess_46 (rd rs1 rs2 imm a : Int) (w : World) (hv : -2147483648 ≤ imm) (hv' : imm ≤ 2147483647) (a1 : 0 ≤ a) (a2 : a < 4294967296) (h : mayB 46 rd rs1 rs2 imm = true) :
    Calls Tryz.prog 34 #[.agg #[.int .i64 46, .int .i64 rd, .int .i64 rs1, .int .i64 rs2, .int .i32 imm], .int .u32 a] w fun e w' => e = .returned (.tuple #[.int .u32 (accA 46 a imm), .int .i64 (accN 46), .bool (accS 46), .bool (accG 46)]) ∧ Nx w w' := by
  have HV : Hid (accA 46 a imm = 0) := rfl
  have H1 : Hid (accN 46 = 0) := rfl
  have H2 : Hid (accS 46 = false) := rfl
  have H3 : Hid (accG 46 = false) := rfl
  go_enter Tryz.func34, Tryz.ntmps34
  go_wp2_with fail
  refine (rmay_any _ _ _ _ _ _ hv hv').mono ?_
  rintro e w1 ⟨rfl, hn1⟩
  obtain ⟨c0, c1, c2, c3, c4, hz⟩ := five_in hn1
  have HN := Lib.hid (((Nx.refl w).alloc _).trans hn1)
  clear hn1
  go_wp2
  go_region_with (go_at_call 62; refine (names_at 46 [100, 105, 118, 117] rfl _).mono ?_; rintro e w2 ⟨g, rfl, hg, hn2⟩; have hn3 : Nx w1 w2 := Nx.trans ((Nx.refl _).drew) hn2; have d0 := hn3.cell c0)
  all_goals
    have d4 := hn3.cell c4
    have hz3 : w.heap.size < w2.heap.size := Nat.lt_of_lt_of_le hz hn3.size
    go_wp2
    refine bodyPost_ret (v := .tuple #[.int .u32 (0), .int .i64 0, .bool false, .bool false]) (by simp [results, Tryz.results34, go_sem] <;> decide) rfl ⟨ret4 HV.out.symm H1.out.symm H2.out.symm H3.out.symm, ?_⟩
    first | exact HN.out.trans hn3 | exact (HN.out.trans hn3).drewN _

set_option maxHeartbeats 1000000 in
theorem raccess_47 (rd rs1 rs2 imm a : Int) (w : World) (hv : -2147483648 ≤ imm) (hv' : imm ≤ 2147483647) (a1 : 0 ≤ a) (a2 : a < 4294967296) (h : mayB 47 rd rs1 rs2 imm = true) :
    Calls Tryz.prog 34 #[.agg #[.int .i64 47, .int .i64 rd, .int .i64 rs1, .int .i64 rs2, .int .i32 imm], .int .u32 a] w fun e w' => e = .returned (.tuple #[.int .u32 (accA 47 a imm), .int .i64 (accN 47), .bool (accS 47), .bool (accG 47)]) ∧ Nx w w' := by
  have HV : Hid (accA 47 a imm = 0) := rfl
  have H1 : Hid (accN 47 = 0) := rfl
  have H2 : Hid (accS 47 = false) := rfl
  have H3 : Hid (accG 47 = false) := rfl
  go_enter Tryz.func34, Tryz.ntmps34
  go_wp2_with fail
  refine (rmay_any _ _ _ _ _ _ hv hv').mono ?_
  rintro e w1 ⟨rfl, hn1⟩
  obtain ⟨c0, c1, c2, c3, c4, hz⟩ := five_in hn1
  have HN := Lib.hid (((Nx.refl w).alloc _).trans hn1)
  clear hn1
  go_wp2
  go_region_with (go_at_call 62; refine (names_at 47 [114, 101, 109] rfl _).mono ?_; rintro e w2 ⟨g, rfl, hg, hn2⟩; have hn3 : Nx w1 w2 := Nx.trans ((Nx.refl _).drew) hn2; have d0 := hn3.cell c0)
  all_goals
    have d4 := hn3.cell c4
    have hz3 : w.heap.size < w2.heap.size := Nat.lt_of_lt_of_le hz hn3.size
    go_wp2
    refine bodyPost_ret (v := .tuple #[.int .u32 (0), .int .i64 0, .bool false, .bool false]) (by simp [results, Tryz.results34, go_sem] <;> decide) rfl ⟨ret4 HV.out.symm H1.out.symm H2.out.symm H3.out.symm, ?_⟩
    first | exact HN.out.trans hn3 | exact (HN.out.trans hn3).drewN _

set_option maxHeartbeats 1000000 in
theorem raccess_48 (rd rs1 rs2 imm a : Int) (w : World) (hv : -2147483648 ≤ imm) (hv' : imm ≤ 2147483647) (a1 : 0 ≤ a) (a2 : a < 4294967296) (h : mayB 48 rd rs1 rs2 imm = true) :
    Calls Tryz.prog 34 #[.agg #[.int .i64 48, .int .i64 rd, .int .i64 rs1, .int .i64 rs2, .int .i32 imm], .int .u32 a] w fun e w' => e = .returned (.tuple #[.int .u32 (accA 48 a imm), .int .i64 (accN 48), .bool (accS 48), .bool (accG 48)]) ∧ Nx w w' := by
  have HV : Hid (accA 48 a imm = 0) := rfl
  have H1 : Hid (accN 48 = 0) := rfl
  have H2 : Hid (accS 48 = false) := rfl
  have H3 : Hid (accG 48 = false) := rfl
  go_enter Tryz.func34, Tryz.ntmps34
  go_wp2_with fail
  refine (rmay_any _ _ _ _ _ _ hv hv').mono ?_
  rintro e w1 ⟨rfl, hn1⟩
  obtain ⟨c0, c1, c2, c3, c4, hz⟩ := five_in hn1
  have HN := Lib.hid (((Nx.refl w).alloc _).trans hn1)
  clear hn1
  go_wp2
  go_region_with (go_at_call 62; refine (names_at 48 [114, 101, 109, 117] rfl _).mono ?_; rintro e w2 ⟨g, rfl, hg, hn2⟩; have hn3 : Nx w1 w2 := Nx.trans ((Nx.refl _).drew) hn2; have d0 := hn3.cell c0)
  all_goals
    have d4 := hn3.cell c4
    have hz3 : w.heap.size < w2.heap.size := Nat.lt_of_lt_of_le hz hn3.size
    go_wp2
    refine bodyPost_ret (v := .tuple #[.int .u32 (0), .int .i64 0, .bool false, .bool false]) (by simp [results, Tryz.results34, go_sem] <;> decide) rfl ⟨ret4 HV.out.symm H1.out.symm H2.out.symm H3.out.symm, ?_⟩
    first | exact HN.out.trans hn3 | exact (HN.out.trans hn3).drewN _

end Go.Proofs.YtndpgakjpokllaaGreat

