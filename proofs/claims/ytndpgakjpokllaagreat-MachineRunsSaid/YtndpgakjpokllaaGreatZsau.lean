/- Parts of the proof, one behind the other. -/
import Derived.Test.YtndpgakjpokllaaGreatZsaq
/- Contracts of package typecaseref06: Access, operation by operation. -/
namespace Go.Proofs.YtndpgakjpokllaaGreat
open Go.RowKit
set_option linter.unusedVariables false
set_option linter.unusedSimpArgs false

set_option maxHeartbeats 1000000 in
theorem raccess_1 (rd rs1 rs2 imm a : Int) (w : World) (hv : -2147483648 ≤ imm) (hv' : imm ≤ 2147483647) (a1 : 0 ≤ a) (a2 : a < 4294967296) (h : mayB 1 rd rs1 rs2 imm = true) :
    Calls Tryz.prog 34 #[.agg #[.int .i64 1, .int .i64 rd, .int .i64 rs1, .int .i64 rs2, .int .i32 imm], .int .u32 a] w fun e w' => e = .returned (.tuple #[.int .u32 (accA 1 a imm), .int .i64 (accN 1), .bool (accS 1), .bool (accG 1)]) ∧ Nx w w' := by
  have HV : Hid (accA 1 a imm = 0) := rfl
  have H1 : Hid (accN 1 = 0) := rfl
  have H2 : Hid (accS 1 = false) := rfl
  have H3 : Hid (accG 1 = false) := rfl
  go_enter Tryz.func34, Tryz.ntmps34
  go_wp2_with fail
  refine (rmay_any _ _ _ _ _ _ hv hv').mono ?_
  rintro e w1 ⟨rfl, hn1⟩
  obtain ⟨c0, c1, c2, c3, c4, hz⟩ := five_in hn1
  have HN := Lib.hid (((Nx.refl w).alloc _).trans hn1)
  clear hn1
  go_wp2
  go_region_with (go_at_call 62; refine (names_at 1 [108, 117, 105] rfl _).mono ?_; rintro e w2 ⟨g, rfl, hg, hn2⟩; have hn3 : Nx w1 w2 := Nx.trans ((Nx.refl _).drew) hn2; have d0 := hn3.cell c0)
  all_goals
    have d4 := hn3.cell c4
    have hz3 : w.heap.size < w2.heap.size := Nat.lt_of_lt_of_le hz hn3.size
    go_wp2
    refine bodyPost_ret (v := .tuple #[.int .u32 (0), .int .i64 0, .bool false, .bool false]) (by simp [results, Tryz.results34, go_sem] <;> decide) rfl ⟨ret4 HV.out.symm H1.out.symm H2.out.symm H3.out.symm, ?_⟩
    first | exact HN.out.trans hn3 | exact (HN.out.trans hn3).drewN _

set_option maxHeartbeats 1000000 in
theorem raccess_2 (rd rs1 rs2 imm a : Int) (w : World) (hv : -2147483648 ≤ imm) (hv' : imm ≤ 2147483647) (a1 : 0 ≤ a) (a2 : a < 4294967296) (h : mayB 2 rd rs1 rs2 imm = true) :
    Calls Tryz.prog 34 #[.agg #[.int .i64 2, .int .i64 rd, .int .i64 rs1, .int .i64 rs2, .int .i32 imm], .int .u32 a] w fun e w' => e = .returned (.tuple #[.int .u32 (accA 2 a imm), .int .i64 (accN 2), .bool (accS 2), .bool (accG 2)]) ∧ Nx w w' := by
  have HV : Hid (accA 2 a imm = 0) := rfl
  have H1 : Hid (accN 2 = 0) := rfl
  have H2 : Hid (accS 2 = false) := rfl
  have H3 : Hid (accG 2 = false) := rfl
  go_enter Tryz.func34, Tryz.ntmps34
  go_wp2_with fail
  refine (rmay_any _ _ _ _ _ _ hv hv').mono ?_
  rintro e w1 ⟨rfl, hn1⟩
  obtain ⟨c0, c1, c2, c3, c4, hz⟩ := five_in hn1
  have HN := Lib.hid (((Nx.refl w).alloc _).trans hn1)
  clear hn1
  go_wp2
  go_region_with (go_at_call 62; refine (names_at 2 [97, 117, 105, 112, 99] rfl _).mono ?_; rintro e w2 ⟨g, rfl, hg, hn2⟩; have hn3 : Nx w1 w2 := Nx.trans ((Nx.refl _).drew) hn2; have d0 := hn3.cell c0)
  all_goals
    have d4 := hn3.cell c4
    have hz3 : w.heap.size < w2.heap.size := Nat.lt_of_lt_of_le hz hn3.size
    go_wp2
    refine bodyPost_ret (v := .tuple #[.int .u32 (0), .int .i64 0, .bool false, .bool false]) (by simp [results, Tryz.results34, go_sem] <;> decide) rfl ⟨ret4 HV.out.symm H1.out.symm H2.out.symm H3.out.symm, ?_⟩
    first | exact HN.out.trans hn3 | exact (HN.out.trans hn3).drewN _

set_option maxHeartbeats 1000000 in
theorem raccess_3 (rd rs1 rs2 imm a : Int) (w : World) (hv : -2147483648 ≤ imm) (hv' : imm ≤ 2147483647) (a1 : 0 ≤ a) (a2 : a < 4294967296) (h : mayB 3 rd rs1 rs2 imm = true) :
    Calls Tryz.prog 34 #[.agg #[.int .i64 3, .int .i64 rd, .int .i64 rs1, .int .i64 rs2, .int .i32 imm], .int .u32 a] w fun e w' => e = .returned (.tuple #[.int .u32 (accA 3 a imm), .int .i64 (accN 3), .bool (accS 3), .bool (accG 3)]) ∧ Nx w w' := by
  have HV : Hid (accA 3 a imm = 0) := rfl
  have H1 : Hid (accN 3 = 0) := rfl
  have H2 : Hid (accS 3 = false) := rfl
  have H3 : Hid (accG 3 = false) := rfl
  go_enter Tryz.func34, Tryz.ntmps34
  go_wp2_with fail
  refine (rmay_any _ _ _ _ _ _ hv hv').mono ?_
  rintro e w1 ⟨rfl, hn1⟩
  obtain ⟨c0, c1, c2, c3, c4, hz⟩ := five_in hn1
  have HN := Lib.hid (((Nx.refl w).alloc _).trans hn1)
  clear hn1
  go_wp2
  go_region_with (go_at_call 62; refine (names_at 3 [106, 97, 108] rfl _).mono ?_; rintro e w2 ⟨g, rfl, hg, hn2⟩; have hn3 : Nx w1 w2 := Nx.trans ((Nx.refl _).drew) hn2; have d0 := hn3.cell c0)
  all_goals
    have d4 := hn3.cell c4
    have hz3 : w.heap.size < w2.heap.size := Nat.lt_of_lt_of_le hz hn3.size
    go_wp2
    refine bodyPost_ret (v := .tuple #[.int .u32 (0), .int .i64 0, .bool false, .bool false]) (by simp [results, Tryz.results34, go_sem] <;> decide) rfl ⟨ret4 HV.out.symm H1.out.symm H2.out.symm H3.out.symm, ?_⟩
    first | exact HN.out.trans hn3 | exact (HN.out.trans hn3).drewN _

set_option maxHeartbeats 1000000 in
theorem raccess_4 (rd rs1 rs2 imm a : Int) (w : World) (hv : -2147483648 ≤ imm) (hv' : imm ≤ 2147483647) (a1 : 0 ≤ a) (a2 : a < 4294967296) (h : mayB 4 rd rs1 rs2 imm = true) :
    Calls Tryz.prog 34 #[.agg #[.int .i64 4, .int .i64 rd, .int .i64 rs1, .int .i64 rs2, .int .i32 imm], .int .u32 a] w fun e w' => e = .returned (.tuple #[.int .u32 (accA 4 a imm), .int .i64 (accN 4), .bool (accS 4), .bool (accG 4)]) ∧ Nx w w' := by
  have HV : Hid (accA 4 a imm = 0) := rfl
  have H1 : Hid (accN 4 = 0) := rfl
  have H2 : Hid (accS 4 = false) := rfl
  have H3 : Hid (accG 4 = false) := rfl
  go_enter Tryz.func34, Tryz.ntmps34
  go_wp2_with fail
  refine (rmay_any _ _ _ _ _ _ hv hv').mono ?_
  rintro e w1 ⟨rfl, hn1⟩
  obtain ⟨c0, c1, c2, c3, c4, hz⟩ := five_in hn1
  have HN := Lib.hid (((Nx.refl w).alloc _).trans hn1)
  clear hn1
  go_wp2
  go_region_with (go_at_call 62; refine (names_at 4 [106, 97, 108, 114] rfl _).mono ?_; rintro e w2 ⟨g, rfl, hg, hn2⟩; have hn3 : Nx w1 w2 := Nx.trans ((Nx.refl _).drew) hn2; have d0 := hn3.cell c0)
  all_goals
    have d4 := hn3.cell c4
    have hz3 : w.heap.size < w2.heap.size := Nat.lt_of_lt_of_le hz hn3.size
    go_wp2
    refine bodyPost_ret (v := .tuple #[.int .u32 (0), .int .i64 0, .bool false, .bool false]) (by simp [results, Tryz.results34, go_sem] <;> decide) rfl ⟨ret4 HV.out.symm H1.out.symm H2.out.symm H3.out.symm, ?_⟩
    first | exact HN.out.trans hn3 | exact (HN.out.trans hn3).drewN _

set_option maxHeartbeats 1000000 in
theorem raccess_5 (rd rs1 rs2 imm a : Int) (w : World) (hv : -2147483648 ≤ imm) (hv' : imm ≤ 2147483647) (a1 : 0 ≤ a) (a2 : a < 4294967296) (h : mayB 5 rd rs1 rs2 imm = true) :
    Calls Tryz.prog 34 #[.agg #[.int .i64 5, .int .i64 rd, .int .i64 rs1, .int .i64 rs2, .int .i32 imm], .int .u32 a] w fun e w' => e = .returned (.tuple #[.int .u32 (accA 5 a imm), .int .i64 (accN 5), .bool (accS 5), .bool (accG 5)]) ∧ Nx w w' := by
  have HV : Hid (accA 5 a imm = 0) := rfl
  have H1 : Hid (accN 5 = 0) := rfl
  have H2 : Hid (accS 5 = false) := rfl
  have H3 : Hid (accG 5 = false) := rfl
  go_enter Tryz.func34, Tryz.ntmps34
  go_wp2_with fail
  refine (rmay_any _ _ _ _ _ _ hv hv').mono ?_
  rintro e w1 ⟨rfl, hn1⟩
  obtain ⟨c0, c1, c2, c3, c4, hz⟩ := five_in hn1
  have HN := Lib.hid (((Nx.refl w).alloc _).trans hn1)
  clear hn1
  go_wp2
  go_region_with (go_at_call 62; refine (names_at 5 [98, 101, 113] rfl _).mono ?_; rintro e w2 ⟨g, rfl, hg, hn2⟩; have hn3 : Nx w1 w2 := Nx.trans ((Nx.refl _).drew) hn2; have d0 := hn3.cell c0)
  all_goals
    have d4 := hn3.cell c4
    have hz3 : w.heap.size < w2.heap.size := Nat.lt_of_lt_of_le hz hn3.size
    go_wp2
    refine bodyPost_ret (v := .tuple #[.int .u32 (0), .int .i64 0, .bool false, .bool false]) (by simp [results, Tryz.results34, go_sem] <;> decide) rfl ⟨ret4 HV.out.symm H1.out.symm H2.out.symm H3.out.symm, ?_⟩
    first | exact HN.out.trans hn3 | exact (HN.out.trans hn3).drewN _

set_option maxHeartbeats 1000000 in
theorem raccess_6 (rd rs1 rs2 imm a : Int) (w : World) (hv : -2147483648 ≤ imm) (hv' : imm ≤ 2147483647) (a1 : 0 ≤ a) (a2 : a < 4294967296) (h : mayB 6 rd rs1 rs2 imm = true) :
    Calls Tryz.prog 34 #[.agg #[.int .i64 6, .int .i64 rd, .int .i64 rs1, .int .i64 rs2, .int .i32 imm], .int .u32 a] w fun e w' => e = .returned (.tuple #[.int .u32 (accA 6 a imm), .int .i64 (accN 6), .bool (accS 6), .bool (accG 6)]) ∧ Nx w w' := by
  have HV : Hid (accA 6 a imm = 0) := rfl
  have H1 : Hid (accN 6 = 0) := rfl
  have H2 : Hid (accS 6 = false) := rfl
  have H3 : Hid (accG 6 = false) := rfl
  go_enter Tryz.func34, Tryz.ntmps34
  go_wp2_with fail
  refine (rmay_any _ _ _ _ _ _ hv hv').mono ?_
  rintro e w1 ⟨rfl, hn1⟩
  obtain ⟨c0, c1, c2, c3, c4, hz⟩ := five_in hn1
  have HN := Lib.hid (((Nx.refl w).alloc _).trans hn1)
  clear hn1
  go_wp2
  go_region_with (go_at_call 62; refine (names_at 6 [98, 110, 101] rfl _).mono ?_; rintro e w2 ⟨g, rfl, hg, hn2⟩; have hn3 : Nx w1 w2 := Nx.trans ((Nx.refl _).drew) hn2; have d0 := hn3.cell c0)
  all_goals
    have d4 := hn3.cell c4
    have hz3 : w.heap.size < w2.heap.size := Nat.lt_of_lt_of_le hz hn3.size
    go_wp2
    refine bodyPost_ret (v := .tuple #[.int .u32 (0), .int .i64 0, .bool false, .bool false]) (by simp [results, Tryz.results34, go_sem] <;> decide) rfl ⟨ret4 HV.out.symm H1.out.symm H2.out.symm H3.out.symm, ?_⟩
    first | exact HN.out.trans hn3 | exact (HN.out.trans hn3).drewN _

set_option maxHeartbeats 1000000 in
theorem raccess_7 (rd rs1 rs2 imm a : Int) (w : World) (hv : -2147483648 ≤ imm) (hv' : imm ≤ 2147483647) (a1 : 0 ≤ a) (a2 : a < 4294967296) (h : mayB 7 rd rs1 rs2 imm = true) :
    Calls Tryz.prog 34 #[.agg #[.int .i64 7, .int .i64 rd, .int .i64 rs1, .int .i64 rs2, .int .i32 imm], .int .u32 a] w fun e w' => e = .returned (.tuple #[.int .u32 (accA 7 a imm), .int .i64 (accN 7), .bool (accS 7), .bool (accG 7)]) ∧ Nx w w' := by
  have HV : Hid (accA 7 a imm = 0) := rfl
  have H1 : Hid (accN 7 = 0) := rfl
  have H2 : Hid (accS 7 = false) := rfl
  have H3 : Hid (accG 7 = false) := rfl
  go_enter Tryz.func34, Tryz.ntmps34
  go_wp2_with fail
  refine (rmay_any _ _ _ _ _ _ hv hv').mono ?_
  rintro e w1 ⟨rfl, hn1⟩
  obtain ⟨c0, c1, c2, c3, c4, hz⟩ := five_in hn1
  have HN := Lib.hid (((Nx.refl w).alloc _).trans hn1)
  clear hn1
  go_wp2
  go_region_with (go_at_call 62; refine (names_at 7 [98, 108, 116] rfl _).mono ?_; rintro e w2 ⟨g, rfl, hg, hn2⟩; have hn3 : Nx w1 w2 := Nx.trans ((Nx.refl _).drew) hn2; have d0 := hn3.cell c0)
  all_goals
    have d4 := hn3.cell c4
    have hz3 : w.heap.size < w2.heap.size := Nat.lt_of_lt_of_le hz hn3.size
    go_wp2
    refine bodyPost_ret (v := .tuple #[.int .u32 (0), .int .i64 0, .bool false, .bool false]) (by simp [results, Tryz.results34, go_sem] <;> decide) rfl ⟨ret4 HV.out.symm H1.out.symm H2.out.symm H3.out.symm, ?_⟩
    first | exact HN.out.trans hn3 | exact (HN.out.trans hn3).drewN _

set_option maxHeartbeats 1000000 in
theorem raccess_8 (rd rs1 rs2 imm a : Int) (w : World) (hv : -2147483648 ≤ imm) (hv' : imm ≤ 2147483647) (a1 : 0 ≤ a) (a2 : a < 4294967296) (h : mayB 8 rd rs1 rs2 imm = true) :
    Calls Tryz.prog 34 #[.agg #[.int .i64 8, .int .i64 rd, .int .i64 rs1, .int .i64 rs2, .int .i32 imm], .int .u32 a] w fun e w' => e = .returned (.tuple #[.int .u32 (accA 8 a imm), .int .i64 (accN 8), .bool (accS 8), .bool (accG 8)]) ∧ Nx w w' := by
  have HV : Hid (accA 8 a imm = 0) := rfl
  have H1 : Hid (accN 8 = 0) := rfl
  have H2 : Hid (accS 8 = false) := rfl
  have H3 : Hid (accG 8 = false) := rfl
  go_enter Tryz.func34, Tryz.ntmps34
  go_wp2_with fail
  refine (rmay_any _ _ _ _ _ _ hv hv').mono ?_
  rintro e w1 ⟨rfl, hn1⟩
  obtain ⟨c0, c1, c2, c3, c4, hz⟩ := five_in hn1
  have HN := Lib.hid (((Nx.refl w).alloc _).trans hn1)
  clear hn1
  go_wp2
  go_region_with (go_at_call 62; refine (names_at 8 [98, 103, 101] rfl _).mono ?_; rintro e w2 ⟨g, rfl, hg, hn2⟩; have hn3 : Nx w1 w2 := Nx.trans ((Nx.refl _).drew) hn2; have d0 := hn3.cell c0)
  all_goals
    have d4 := hn3.cell c4
    have hz3 : w.heap.size < w2.heap.size := Nat.lt_of_lt_of_le hz hn3.size
    go_wp2
    refine bodyPost_ret (v := .tuple #[.int .u32 (0), .int .i64 0, .bool false, .bool false]) (by simp [results, Tryz.results34, go_sem] <;> decide) rfl ⟨ret4 HV.out.symm H1.out.symm H2.out.symm H3.out.symm, ?_⟩
    first | exact HN.out.trans hn3 | exact (HN.out.trans hn3).drewN _

set_option maxHeartbeats 1000000 in
theorem raccess_9 (rd rs1 rs2 imm a : Int) (w : World) (hv : -2147483648 ≤ imm) (hv' : imm ≤ 2147483647) (a1 : 0 ≤ a) (a2 : a < 4294967296) (h : mayB 9 rd rs1 rs2 imm = true) :
    Calls Tryz.prog 34 #[.agg #[.int .i64 9, .int .i64 rd, .int .i64 rs1, .int .i64 rs2, .int .i32 imm], .int .u32 a] w fun e w' => e = .returned (.tuple #[.int .u32 (accA 9 a imm), .int .i64 (accN 9), .bool (accS 9), .bool (accG 9)]) ∧ Nx w w' := by
  have HV : Hid (accA 9 a imm = 0) := rfl
  have H1 : Hid (accN 9 = 0) := rfl
  have H2 : Hid (accS 9 = false) := rfl
  have H3 : Hid (accG 9 = false) := rfl
  go_enter Tryz.func34, Tryz.ntmps34
  go_wp2_with fail
  refine (rmay_any _ _ _ _ _ _ hv hv').mono ?_
  rintro e w1 ⟨rfl, hn1⟩
  obtain ⟨c0, c1, c2, c3, c4, hz⟩ := five_in hn1
  have HN := Lib.hid (((Nx.refl w).alloc _).trans hn1)
  clear hn1
  go_wp2
  go_region_with (go_at_call 62; refine (names_at 9 [98, 108, 116, 117] rfl _).mono ?_; rintro e w2 ⟨g, rfl, hg, hn2⟩; have hn3 : Nx w1 w2 := Nx.trans ((Nx.refl _).drew) hn2; have d0 := hn3.cell c0)
  all_goals
    have d4 := hn3.cell c4
    have hz3 : w.heap.size < w2.heap.size := Nat.lt_of_lt_of_le hz hn3.size
    go_wp2
    refine bodyPost_ret (v := .tuple #[.int .u32 (0), .int .i64 0, .bool false, .bool false]) (by simp [results, Tryz.results34, go_sem] <;> decide) rfl ⟨ret4 HV.out.symm H1.out.symm H2.out.symm H3.out.symm, ?_⟩
    first | exact HN.out.trans hn3 | exact (HN.out.trans hn3).drewN _

set_option maxHeartbeats 1000000 in
theorem raccess_10 (rd rs1 rs2 imm a : Int) (w : World) (hv : -2147483648 ≤ imm) (hv' : imm ≤ 2147483647) (a1 : 0 ≤ a) (a2 : a < 4294967296) (h : mayB 10 rd rs1 rs2 imm = true) :
    Calls Tryz.prog 34 #[.agg #[.int .i64 10, .int .i64 rd, .int .i64 rs1, .int .i64 rs2, .int .i32 imm], .int .u32 a] w fun e w' => e = .returned (.tuple #[.int .u32 (accA 10 a imm), .int .i64 (accN 10), .bool (accS 10), .bool (accG 10)]) ∧ Nx w w' := by
  have HV : Hid (accA 10 a imm = 0) := rfl
  have H1 : Hid (accN 10 = 0) := rfl
  have H2 : Hid (accS 10 = false) := rfl
  have H3 : Hid (accG 10 = false) := rfl
  go_enter Tryz.func34, Tryz.ntmps34
  go_wp2_with fail
  refine (rmay_any _ _ _ _ _ _ hv hv').mono ?_
  rintro e w1 ⟨rfl, hn1⟩
  obtain ⟨c0, c1, c2, c3, c4, hz⟩ := five_in hn1
  have HN := Lib.hid (((Nx.refl w).alloc _).trans hn1)
  clear hn1
  go_wp2
  go_region_with (go_at_call 62; refine (names_at 10 [98, 103, 101, 117] rfl _).mono ?_; rintro e w2 ⟨g, rfl, hg, hn2⟩; have hn3 : Nx w1 w2 := Nx.trans ((Nx.refl _).drew) hn2; have d0 := hn3.cell c0)
  all_goals
    have d4 := hn3.cell c4
    have hz3 : w.heap.size < w2.heap.size := Nat.lt_of_lt_of_le hz hn3.size
    go_wp2
    refine bodyPost_ret (v := .tuple #[.int .u32 (0), .int .i64 0, .bool false, .bool false]) (by simp [results, Tryz.results34, go_sem] <;> decide) rfl ⟨ret4 HV.out.symm H1.out.symm H2.out.symm H3.out.symm, ?_⟩
    first | exact HN.out.trans hn3 | exact (HN.out.trans hn3).drewN _

set_option maxHeartbeats 1000000 in
theorem raccess_11 (rd rs1 rs2 imm a : Int) (w : World) (hv : -2147483648 ≤ imm) (hv' : imm ≤ 2147483647) (a1 : 0 ≤ a) (a2 : a < 4294967296) (h : mayB 11 rd rs1 rs2 imm = true) :
    Calls Tryz.prog 34 #[.agg #[.int .i64 11, .int .i64 rd, .int .i64 rs1, .int .i64 rs2, .int .i32 imm], .int .u32 a] w fun e w' => e = .returned (.tuple #[.int .u32 (accA 11 a imm), .int .i64 (accN 11), .bool (accS 11), .bool (accG 11)]) ∧ Nx w w' := by
  have HV : Hid (accA 11 a imm = (a + imm % 4294967296) % 4294967296) := rfl
  have H1 : Hid (accN 11 = 1) := rfl
  have H2 : Hid (accS 11 = false) := rfl
  have H3 : Hid (accG 11 = true) := rfl
  go_enter Tryz.func34, Tryz.ntmps34
  go_wp2_with fail
  refine (rmay_any _ _ _ _ _ _ hv hv').mono ?_
  rintro e w1 ⟨rfl, hn1⟩
  obtain ⟨c0, c1, c2, c3, c4, hz⟩ := five_in hn1
  have HN := Lib.hid (((Nx.refl w).alloc _).trans hn1)
  clear hn1
  go_wp2
  go_region_with (go_at_call 62; refine (names_at 11 [108, 98] rfl _).mono ?_; rintro e w2 ⟨g, rfl, hg, hn2⟩; have hn3 : Nx w1 w2 := Nx.trans ((Nx.refl _).drew) hn2; have d0 := hn3.cell c0)
  all_goals
    have d4 := hn3.cell c4
    have hz3 : w.heap.size < w2.heap.size := Nat.lt_of_lt_of_le hz hn3.size
    go_wp2
    have qi : IntKind.u32.wrap imm = imm % 4294967296 := wrap_u32 _
    have qa : IntKind.u32.wrap (a + imm % 4294967296) = (a + imm % 4294967296) % 4294967296 := wrap_u32 _
    go_quiet (fail)
    go_wp2
    refine bodyPost_ret (v := .tuple #[.int .u32 ((a + imm % 4294967296) % 4294967296), .int .i64 1, .bool false, .bool true]) (by simp [results, Tryz.results34, go_sem] <;> decide) rfl ⟨ret4 HV.out.symm H1.out.symm H2.out.symm H3.out.symm, ?_⟩
    first | exact HN.out.trans hn3 | exact (HN.out.trans hn3).drewN _

set_option maxHeartbeats 1000000 in
theorem raccess_12 (rd rs1 rs2 imm a : Int) (w : World) (hv : -2147483648 ≤ imm) (hv' : imm ≤ 2147483647) (a1 : 0 ≤ a) (a2 : a < 4294967296) (h : mayB 12 rd rs1 rs2 imm = true) :
    Calls Tryz.prog 34 #[.agg #[.int .i64 12, .int .i64 rd, .int .i64 rs1, .int .i64 rs2, .int .i32 imm], .int .u32 a] w fun e w' => e = .returned (.tuple #[.int .u32 (accA 12 a imm), .int .i64 (accN 12), .bool (accS 12), .bool (accG 12)]) ∧ Nx w w' := by
  have HV : Hid (accA 12 a imm = (a + imm % 4294967296) % 4294967296) := rfl
  have H1 : Hid (accN 12 = 2) := rfl
  have H2 : Hid (accS 12 = false) := rfl
  have H3 : Hid (accG 12 = true) := rfl
  go_enter Tryz.func34, Tryz.ntmps34
  go_wp2_with fail
  refine (rmay_any _ _ _ _ _ _ hv hv').mono ?_
  rintro e w1 ⟨rfl, hn1⟩
  obtain ⟨c0, c1, c2, c3, c4, hz⟩ := five_in hn1
  have HN := Lib.hid (((Nx.refl w).alloc _).trans hn1)
  clear hn1
  go_wp2
  go_region_with (go_at_call 62; refine (names_at 12 [108, 104] rfl _).mono ?_; rintro e w2 ⟨g, rfl, hg, hn2⟩; have hn3 : Nx w1 w2 := Nx.trans ((Nx.refl _).drew) hn2; have d0 := hn3.cell c0)
  all_goals
    have d4 := hn3.cell c4
    have hz3 : w.heap.size < w2.heap.size := Nat.lt_of_lt_of_le hz hn3.size
    go_wp2
    have qi : IntKind.u32.wrap imm = imm % 4294967296 := wrap_u32 _
    have qa : IntKind.u32.wrap (a + imm % 4294967296) = (a + imm % 4294967296) % 4294967296 := wrap_u32 _
    go_quiet (fail)
    go_wp2
    refine bodyPost_ret (v := .tuple #[.int .u32 ((a + imm % 4294967296) % 4294967296), .int .i64 2, .bool false, .bool true]) (by simp [results, Tryz.results34, go_sem] <;> decide) rfl ⟨ret4 HV.out.symm H1.out.symm H2.out.symm H3.out.symm, ?_⟩
    first | exact HN.out.trans hn3 | exact (HN.out.trans hn3).drewN _

set_option maxHeartbeats 1000000 in
theorem raccess_13 (rd rs1 rs2 imm a : Int) (w : World) (hv : -2147483648 ≤ imm) (hv' : imm ≤ 2147483647) (a1 : 0 ≤ a) (a2 : a < 4294967296) (h : mayB 13 rd rs1 rs2 imm = true) :
    Calls Tryz.prog 34 #[.agg #[.int .i64 13, .int .i64 rd, .int .i64 rs1, .int .i64 rs2, .int .i32 imm], .int .u32 a] w fun e w' => e = .returned (.tuple #[.int .u32 (accA 13 a imm), .int .i64 (accN 13), .bool (accS 13), .bool (accG 13)]) ∧ Nx w w' := by
  have HV : Hid (accA 13 a imm = (a + imm % 4294967296) % 4294967296) := rfl
  have H1 : Hid (accN 13 = 4) := rfl
  have H2 : Hid (accS 13 = false) := rfl
  have H3 : Hid (accG 13 = true) := rfl
  go_enter Tryz.func34, Tryz.ntmps34
  go_wp2_with fail
  refine (rmay_any _ _ _ _ _ _ hv hv').mono ?_
  rintro e w1 ⟨rfl, hn1⟩
  obtain ⟨c0, c1, c2, c3, c4, hz⟩ := five_in hn1
  have HN := Lib.hid (((Nx.refl w).alloc _).trans hn1)
  clear hn1
  go_wp2
  go_region_with (go_at_call 62; refine (names_at 13 [108, 119] rfl _).mono ?_; rintro e w2 ⟨g, rfl, hg, hn2⟩; have hn3 : Nx w1 w2 := Nx.trans ((Nx.refl _).drew) hn2; have d0 := hn3.cell c0)
  all_goals
    have d4 := hn3.cell c4
    have hz3 : w.heap.size < w2.heap.size := Nat.lt_of_lt_of_le hz hn3.size
    go_wp2
    have qi : IntKind.u32.wrap imm = imm % 4294967296 := wrap_u32 _
    have qa : IntKind.u32.wrap (a + imm % 4294967296) = (a + imm % 4294967296) % 4294967296 := wrap_u32 _
    go_quiet (fail)
    go_wp2
    refine bodyPost_ret (v := .tuple #[.int .u32 ((a + imm % 4294967296) % 4294967296), .int .i64 4, .bool false, .bool true]) (by simp [results, Tryz.results34, go_sem] <;> decide) rfl ⟨ret4 HV.out.symm H1.out.symm H2.out.symm H3.out.symm, ?_⟩
    first | exact HN.out.trans hn3 | exact (HN.out.trans hn3).drewN _

set_option maxHeartbeats 1000000 in
theorem raccess_14 (rd rs1 rs2 imm a : Int) (w : World) (hv : -2147483648 ≤ imm) (hv' : imm ≤ 2147483647) (a1 : 0 ≤ a) (a2 : a < 4294967296) (h : mayB 14 rd rs1 rs2 imm = true) :
    Calls Tryz.prog 34 #[.agg #[.int .i64 14, .int .i64 rd, .int .i64 rs1, .int .i64 rs2, .int .i32 imm], .int .u32 a] w fun e w' => e = .returned (.tuple #[.int .u32 (accA 14 a imm), .int .i64 (accN 14), .bool (accS 14), .bool (accG 14)]) ∧ Nx w w' := by
  have HV : Hid (accA 14 a imm = (a + imm % 4294967296) % 4294967296) := rfl
  have H1 : Hid (accN 14 = 1) := rfl
  have H2 : Hid (accS 14 = false) := rfl
  have H3 : Hid (accG 14 = false) := rfl
  go_enter Tryz.func34, Tryz.ntmps34
  go_wp2_with fail
  refine (rmay_any _ _ _ _ _ _ hv hv').mono ?_
  rintro e w1 ⟨rfl, hn1⟩
  obtain ⟨c0, c1, c2, c3, c4, hz⟩ := five_in hn1
  have HN := Lib.hid (((Nx.refl w).alloc _).trans hn1)
  clear hn1
  go_wp2
  go_region_with (go_at_call 62; refine (names_at 14 [108, 98, 117] rfl _).mono ?_; rintro e w2 ⟨g, rfl, hg, hn2⟩; have hn3 : Nx w1 w2 := Nx.trans ((Nx.refl _).drew) hn2; have d0 := hn3.cell c0)
  all_goals
    have d4 := hn3.cell c4
    have hz3 : w.heap.size < w2.heap.size := Nat.lt_of_lt_of_le hz hn3.size
    go_wp2
    have qi : IntKind.u32.wrap imm = imm % 4294967296 := wrap_u32 _
    have qa : IntKind.u32.wrap (a + imm % 4294967296) = (a + imm % 4294967296) % 4294967296 := wrap_u32 _
    go_quiet (fail)
    go_wp2
    refine bodyPost_ret (v := .tuple #[.int .u32 ((a + imm % 4294967296) % 4294967296), .int .i64 1, .bool false, .bool false]) (by simp [results, Tryz.results34, go_sem] <;> decide) rfl ⟨ret4 HV.out.symm H1.out.symm H2.out.symm H3.out.symm, ?_⟩
    first | exact HN.out.trans hn3 | exact (HN.out.trans hn3).drewN _

set_option maxHeartbeats 1000000 in
theorem raccess_15 (rd rs1 rs2 imm a : Int) (w : World) (hv : -2147483648 ≤ imm) (hv' : imm ≤ 2147483647) (a1 : 0 ≤ a) (a2 : a < 4294967296) (h : mayB 15 rd rs1 rs2 imm = true) :
    Calls Tryz.prog 34 #[.agg #[.int .i64 15, .int .i64 rd, .int .i64 rs1, .int .i64 rs2, .int .i32 imm], .int .u32 a] w fun e w' => e = .returned (.tuple #[.int .u32 (accA 15 a imm), .int .i64 (accN 15), .bool (accS 15), .bool (accG 15)]) ∧ Nx w w' := by
  have HV : Hid (accA 15 a imm = (a + imm % 4294967296) % 4294967296) := rfl
  have H1 : Hid (accN 15 = 2) := rfl
  have H2 : Hid (accS 15 = false) := rfl
  have H3 : Hid (accG 15 = false) := rfl
  go_enter Tryz.func34, Tryz.ntmps34
  go_wp2_with fail
  refine (rmay_any _ _ _ _ _ _ hv hv').mono ?_
  rintro e w1 ⟨rfl, hn1⟩
  obtain ⟨c0, c1, c2, c3, c4, hz⟩ := five_in hn1
  have HN := Lib.hid (((Nx.refl w).alloc _).trans hn1)
  clear hn1
  go_wp2
  go_region_with (go_at_call 62; refine (names_at 15 [108, 104, 117] rfl _).mono ?_; rintro e w2 ⟨g, rfl, hg, hn2⟩; have hn3 : Nx w1 w2 := Nx.trans ((Nx.refl _).drew) hn2; have d0 := hn3.cell c0)
  all_goals
    have d4 := hn3.cell c4
    have hz3 : w.heap.size < w2.heap.size := Nat.lt_of_lt_of_le hz hn3.size
    go_wp2
    have qi : IntKind.u32.wrap imm = imm % 4294967296 := wrap_u32 _
    have qa : IntKind.u32.wrap (a + imm % 4294967296) = (a + imm % 4294967296) % 4294967296 := wrap_u32 _
    go_quiet (fail)
    go_wp2
    refine bodyPost_ret (v := .tuple #[.int .u32 ((a + imm % 4294967296) % 4294967296), .int .i64 2, .bool false, .bool false]) (by simp [results, Tryz.results34, go_sem] <;> decide) rfl ⟨ret4 HV.out.symm H1.out.symm H2.out.symm H3.out.symm, ?_⟩
    first | exact HN.out.trans hn3 | exact (HN.out.trans hn3).drewN _

set_option maxHeartbeats 1000000 in
theorem raccess_16 (rd rs1 rs2 imm a : Int) (w : World) (hv : -2147483648 ≤ imm) (hv' : imm ≤ 2147483647) (a1 : 0 ≤ a) (a2 : a < 4294967296) (h : mayB 16 rd rs1 rs2 imm = true) :
    Calls Tryz.prog 34 #[.agg #[.int .i64 16, .int .i64 rd, .int .i64 rs1, .int .i64 rs2, .int .i32 imm], .int .u32 a] w fun e w' => e = .returned (.tuple #[.int .u32 (accA 16 a imm), .int .i64 (accN 16), .bool (accS 16), .bool (accG 16)]) ∧ Nx w w' := by
  have HV : Hid (accA 16 a imm = (a + imm % 4294967296) % 4294967296) := rfl
  have H1 : Hid (accN 16 = 1) := rfl
  have H2 : Hid (accS 16 = true) := rfl
  have H3 : Hid (accG 16 = false) := rfl
  go_enter Tryz.func34, Tryz.ntmps34
  go_wp2_with fail
  refine (rmay_any _ _ _ _ _ _ hv hv').mono ?_
  rintro e w1 ⟨rfl, hn1⟩
  obtain ⟨c0, c1, c2, c3, c4, hz⟩ := five_in hn1
  have HN := Lib.hid (((Nx.refl w).alloc _).trans hn1)
  clear hn1
  go_wp2
  go_region_with (go_at_call 62; refine (names_at 16 [115, 98] rfl _).mono ?_; rintro e w2 ⟨g, rfl, hg, hn2⟩; have hn3 : Nx w1 w2 := Nx.trans ((Nx.refl _).drew) hn2; have d0 := hn3.cell c0)
  all_goals
    have d4 := hn3.cell c4
    have hz3 : w.heap.size < w2.heap.size := Nat.lt_of_lt_of_le hz hn3.size
    go_wp2
    have qi : IntKind.u32.wrap imm = imm % 4294967296 := wrap_u32 _
    have qa : IntKind.u32.wrap (a + imm % 4294967296) = (a + imm % 4294967296) % 4294967296 := wrap_u32 _
    go_quiet (fail)
    go_wp2
    refine bodyPost_ret (v := .tuple #[.int .u32 ((a + imm % 4294967296) % 4294967296), .int .i64 1, .bool true, .bool false]) (by simp [results, Tryz.results34, go_sem] <;> decide) rfl ⟨ret4 HV.out.symm H1.out.symm H2.out.symm H3.out.symm, ?_⟩
    first | exact HN.out.trans hn3 | exact (HN.out.trans hn3).drewN _

set_option maxHeartbeats 1000000 in
theorem raccess_17 (rd rs1 rs2 imm a : Int) (w : World) (hv : -2147483648 ≤ imm) (hv' : imm ≤ 2147483647) (a1 : 0 ≤ a) (a2 : a < 4294967296) (h : mayB 17 rd rs1 rs2 imm = true) :
    Calls Tryz.prog 34 #[.agg #[.int .i64 17, .int .i64 rd, .int .i64 rs1, .int .i64 rs2, .int .i32 imm], .int .u32 a] w fun e w' => e = .returned (.tuple #[.int .u32 (accA 17 a imm), .int .i64 (accN 17), .bool (accS 17), .bool (accG 17)]) ∧ Nx w w' := by
  have HV : Hid (accA 17 a imm = (a + imm % 4294967296) % 4294967296) := rfl
  have H1 : Hid (accN 17 = 2) := rfl
  have H2 : Hid (accS 17 = true) := rfl
  have H3 : Hid (accG 17 = false) := rfl
  go_enter Tryz.func34, Tryz.ntmps34
  go_wp2_with fail
  refine (rmay_any _ _ _ _ _ _ hv hv').mono ?_
  rintro e w1 ⟨rfl, hn1⟩
  obtain ⟨c0, c1, c2, c3, c4, hz⟩ := five_in hn1
  have HN := Lib.hid (((Nx.refl w).alloc _).trans hn1)
  clear hn1
  go_wp2
  go_region_with (go_at_call 62; refine (names_at 17 [115, 104] rfl _).mono ?_; rintro e w2 ⟨g, rfl, hg, hn2⟩; have hn3 : Nx w1 w2 := Nx.trans ((Nx.refl _).drew) hn2; have d0 := hn3.cell c0)
  all_goals
    have d4 := hn3.cell c4
    have hz3 : w.heap.size < w2.heap.size := Nat.lt_of_lt_of_le hz hn3.size
    go_wp2
    have qi : IntKind.u32.wrap imm = imm % 4294967296 := wrap_u32 _
    have qa : IntKind.u32.wrap (a + imm % 4294967296) = (a + imm % 4294967296) % 4294967296 := wrap_u32 _
    go_quiet (fail)
    go_wp2
    refine bodyPost_ret (v := .tuple #[.int .u32 ((a + imm % 4294967296) % 4294967296), .int .i64 2, .bool true, .bool false]) (by simp [results, Tryz.results34, go_sem] <;> decide) rfl ⟨ret4 HV.out.symm H1.out.symm H2.out.symm H3.out.symm, ?_⟩
    first | exact HN.out.trans hn3 | exact (HN.out.trans hn3).drewN _

set_option maxHeartbeats 1000000 in
theorem raccess_18 (rd rs1 rs2 imm a : Int) (w : World) (hv : -2147483648 ≤ imm) (hv' : imm ≤ 2147483647) (a1 : 0 ≤ a) (a2 : a < 4294967296) (h : mayB 18 rd rs1 rs2 imm = true) :
    Calls Tryz.prog 34 #[.agg #[.int .i64 18, .int .i64 rd, .int .i64 rs1, .int .i64 rs2, .int .i32 imm], .int .u32 a] w fun e w' => e = .returned (.tuple #[.int .u32 (accA 18 a imm), .int .i64 (accN 18), .bool (accS 18), .bool (accG 18)]) ∧ Nx w w' := by
  have HV : Hid (accA 18 a imm = (a + imm % 4294967296) % 4294967296) := rfl
  have H1 : Hid (accN 18 = 4) := rfl
  have H2 : Hid (accS 18 = true) := rfl
  have H3 : Hid (accG 18 = false) := rfl
  go_enter Tryz.func34, Tryz.ntmps34
  go_wp2_with fail
  refine (rmay_any _ _ _ _ _ _ hv hv').mono ?_
  rintro e w1 ⟨rfl, hn1⟩
  obtain ⟨c0, c1, c2, c3, c4, hz⟩ := five_in hn1
  have HN := Lib.hid (((Nx.refl w).alloc _).trans hn1)
  clear hn1
  go_wp2
  go_region_with (go_at_call 62; refine (names_at 18 [115, 119] rfl _).mono ?_; rintro e w2 ⟨g, rfl, hg, hn2⟩; have hn3 : Nx w1 w2 := Nx.trans ((Nx.refl _).drew) hn2; have d0 := hn3.cell c0)
  all_goals
    have d4 := hn3.cell c4
    have hz3 : w.heap.size < w2.heap.size := Nat.lt_of_lt_of_le hz hn3.size
    go_wp2
    have qi : IntKind.u32.wrap imm = imm % 4294967296 := wrap_u32 _
    have qa : IntKind.u32.wrap (a + imm % 4294967296) = (a + imm % 4294967296) % 4294967296 := wrap_u32 _
    go_quiet (fail)
    go_wp2
    refine bodyPost_ret (v := .tuple #[.int .u32 ((a + imm % 4294967296) % 4294967296), .int .i64 4, .bool true, .bool false]) (by simp [results, Tryz.results34, go_sem] <;> decide) rfl ⟨ret4 HV.out.symm H1.out.symm H2.out.symm H3.out.symm, ?_⟩
    first | exact HN.out.trans hn3 | exact (HN.out.trans hn3).drewN _

end Go.Proofs.YtndpgakjpokllaaGreat

