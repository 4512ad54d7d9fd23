/- Parts of the proof, one behind the other. -/
import Derived.Test.YtndpgakjpokllaaGreatZsae
import Derived.Test.YtndpgakjpokllaaGreatZsag
import Derived.Test.YtndpgakjpokllaaGreatZsaq
import Derived.Test.YtndpgakjpokllaaGreatZsar
import Derived.Test.YtndpgakjpokllaaGreatZsas
import Derived.Test.YtndpgakjpokllaaGreatZsat
import Derived.Test.YtndpgakjpokllaaGreatZsau
import Derived.Test.YtndpgakjpokllaaGreatZsav
/- Contracts of package typecaseref06, whatever the instruction: Next, Access. -/
namespace Go.Proofs.YtndpgakjpokllaaGreat
open Go.RowKit
set_option linter.unusedVariables false
set_option linter.unusedSimpArgs false

set_option maxHeartbeats 1000000 in
theorem rnext_no (rd rs1 rs2 imm a b pc size : Int) (w : World) (hv : -2147483648 ≤ imm) (hv' : imm ≤ 2147483647) (a1 : 0 ≤ a) (a2 : a < 4294967296) (b1 : 0 ≤ b) (b2 : b < 4294967296) (p1 : 0 ≤ pc) (p2 : pc < 4294967296) (op : Int) (h : mayB op rd rs1 rs2 imm = false) :
    Calls Tryz.prog 38 #[.agg #[.int .i64 op, .int .i64 rd, .int .i64 rs1, .int .i64 rs2, .int .i32 imm], .int .u32 a, .int .u32 b, .int .u32 pc, .int .i64 size] w fun e w' => e = .returned (.int .u32 ((pc + size % 4294967296) % 4294967296)) ∧ Nx w w' := by
  go_enter Tryz.func38, Tryz.ntmps38
  go_wp2_with fail
  refine (rmay_any _ _ _ _ _ _ hv hv').mono ?_
  rintro e w1 ⟨rfl, hn1⟩
  obtain ⟨c0, c1, c2, c3, c4, hz⟩ := five_in hn1
  have HN := Lib.hid (((Nx.refl w).alloc _).trans hn1)
  clear hn1
  go_wp2
  go_ret
  exact ⟨ret_u32 (by first | rfl | omega), HN.out⟩

theorem rnext_any (op : Int) (rd rs1 rs2 imm a b pc size : Int) (w : World) (hv : -2147483648 ≤ imm) (hv' : imm ≤ 2147483647) (a1 : 0 ≤ a) (a2 : a < 4294967296) (b1 : 0 ≤ b) (b2 : b < 4294967296) (p1 : 0 ≤ pc) (p2 : pc < 4294967296) :
    Calls Tryz.prog 38 #[.agg #[.int .i64 op, .int .i64 rd, .int .i64 rs1, .int .i64 rs2, .int .i32 imm], .int .u32 a, .int .u32 b, .int .u32 pc, .int .i64 size] w fun e w' => e = .returned (.int .u32 (nextX (mayB op rd rs1 rs2 imm) op a b pc imm size)) ∧ Nx w w' := by
  unfold nextX
  cases h : mayB op rd rs1 rs2 imm
  · exact rnext_no rd rs1 rs2 imm a b pc size w hv hv' a1 a2 b1 b2 p1 p2 op h
  · obtain ⟨o1, o2⟩ := may_op op rd rs1 rs2 imm h
    rcases (by omega : op = 1 ∨ op = 2 ∨ op = 3 ∨ op = 4 ∨ op = 5 ∨ op = 6 ∨ op = 7 ∨ op = 8 ∨ op = 9 ∨ op = 10 ∨ op = 11 ∨ op = 12 ∨ op = 13 ∨ op = 14 ∨ op = 15 ∨ op = 16 ∨ op = 17 ∨ op = 18 ∨ op = 19 ∨ op = 20 ∨ op = 21 ∨ op = 22 ∨ op = 23 ∨ op = 24 ∨ op = 25 ∨ op = 26 ∨ op = 27 ∨ op = 28 ∨ op = 29 ∨ op = 30 ∨ op = 31 ∨ op = 32 ∨ op = 33 ∨ op = 34 ∨ op = 35 ∨ op = 36 ∨ op = 37 ∨ op = 38 ∨ op = 39 ∨ op = 40 ∨ op = 41 ∨ op = 42 ∨ op = 43 ∨ op = 44 ∨ op = 45 ∨ op = 46 ∨ op = 47 ∨ op = 48) with rfl | rfl | rfl | rfl | rfl | rfl | rfl | rfl | rfl | rfl | rfl | rfl | rfl | rfl | rfl | rfl | rfl | rfl | rfl | rfl | rfl | rfl | rfl | rfl | rfl | rfl | rfl | rfl | rfl | rfl | rfl | rfl | rfl | rfl | rfl | rfl | rfl | rfl | rfl | rfl | rfl | rfl | rfl | rfl | rfl | rfl | rfl | rfl
    · exact rnext_1 rd rs1 rs2 imm a b pc size w hv hv' a1 a2 b1 b2 p1 p2 h
    · exact rnext_2 rd rs1 rs2 imm a b pc size w hv hv' a1 a2 b1 b2 p1 p2 h
    · exact rnext_3 rd rs1 rs2 imm a b pc size w hv hv' a1 a2 b1 b2 p1 p2 h
    · exact rnext_4 rd rs1 rs2 imm a b pc size w hv hv' a1 a2 b1 b2 p1 p2 h
    · exact rnext_5 rd rs1 rs2 imm a b pc size w hv hv' a1 a2 b1 b2 p1 p2 h
    · exact rnext_6 rd rs1 rs2 imm a b pc size w hv hv' a1 a2 b1 b2 p1 p2 h
    · exact rnext_7 rd rs1 rs2 imm a b pc size w hv hv' a1 a2 b1 b2 p1 p2 h
    · exact rnext_8 rd rs1 rs2 imm a b pc size w hv hv' a1 a2 b1 b2 p1 p2 h
    · exact rnext_9 rd rs1 rs2 imm a b pc size w hv hv' a1 a2 b1 b2 p1 p2 h
    · exact rnext_10 rd rs1 rs2 imm a b pc size w hv hv' a1 a2 b1 b2 p1 p2 h
    · exact rnext_11 rd rs1 rs2 imm a b pc size w hv hv' a1 a2 b1 b2 p1 p2 h
    · exact rnext_12 rd rs1 rs2 imm a b pc size w hv hv' a1 a2 b1 b2 p1 p2 h
    · exact rnext_13 rd rs1 rs2 imm a b pc size w hv hv' a1 a2 b1 b2 p1 p2 h
    · exact rnext_14 rd rs1 rs2 imm a b pc size w hv hv' a1 a2 b1 b2 p1 p2 h
    · exact rnext_15 rd rs1 rs2 imm a b pc size w hv hv' a1 a2 b1 b2 p1 p2 h
    · exact rnext_16 rd rs1 rs2 imm a b pc size w hv hv' a1 a2 b1 b2 p1 p2 h
    · exact rnext_17 rd rs1 rs2 imm a b pc size w hv hv' a1 a2 b1 b2 p1 p2 h
    · exact rnext_18 rd rs1 rs2 imm a b pc size w hv hv' a1 a2 b1 b2 p1 p2 h
    · exact rnext_19 rd rs1 rs2 imm a b pc size w hv hv' a1 a2 b1 b2 p1 p2 h
    · exact rnext_20 rd rs1 rs2 imm a b pc size w hv hv' a1 a2 b1 b2 p1 p2 h
    · exact rnext_21 rd rs1 rs2 imm a b pc size w hv hv' a1 a2 b1 b2 p1 p2 h
    · exact rnext_22 rd rs1 rs2 imm a b pc size w hv hv' a1 a2 b1 b2 p1 p2 h
    · exact rnext_23 rd rs1 rs2 imm a b pc size w hv hv' a1 a2 b1 b2 p1 p2 h
    · exact rnext_24 rd rs1 rs2 imm a b pc size w hv hv' a1 a2 b1 b2 p1 p2 h
    · exact rnext_25 rd rs1 rs2 imm a b pc size w hv hv' a1 a2 b1 b2 p1 p2 h
    · exact rnext_26 rd rs1 rs2 imm a b pc size w hv hv' a1 a2 b1 b2 p1 p2 h
    · exact rnext_27 rd rs1 rs2 imm a b pc size w hv hv' a1 a2 b1 b2 p1 p2 h
    · exact rnext_28 rd rs1 rs2 imm a b pc size w hv hv' a1 a2 b1 b2 p1 p2 h
    · exact rnext_29 rd rs1 rs2 imm a b pc size w hv hv' a1 a2 b1 b2 p1 p2 h
    · exact rnext_30 rd rs1 rs2 imm a b pc size w hv hv' a1 a2 b1 b2 p1 p2 h
    · exact rnext_31 rd rs1 rs2 imm a b pc size w hv hv' a1 a2 b1 b2 p1 p2 h
    · exact rnext_32 rd rs1 rs2 imm a b pc size w hv hv' a1 a2 b1 b2 p1 p2 h
    · exact rnext_33 rd rs1 rs2 imm a b pc size w hv hv' a1 a2 b1 b2 p1 p2 h
    · exact rnext_34 rd rs1 rs2 imm a b pc size w hv hv' a1 a2 b1 b2 p1 p2 h
    · exact rnext_35 rd rs1 rs2 imm a b pc size w hv hv' a1 a2 b1 b2 p1 p2 h
    · exact rnext_36 rd rs1 rs2 imm a b pc size w hv hv' a1 a2 b1 b2 p1 p2 h
    · exact rnext_37 rd rs1 rs2 imm a b pc size w hv hv' a1 a2 b1 b2 p1 p2 h
    · exact rnext_38 rd rs1 rs2 imm a b pc size w hv hv' a1 a2 b1 b2 p1 p2 h
    · exact rnext_39 rd rs1 rs2 imm a b pc size w hv hv' a1 a2 b1 b2 p1 p2 h
    · exact rnext_40 rd rs1 rs2 imm a b pc size w hv hv' a1 a2 b1 b2 p1 p2 h
    · exact rnext_41 rd rs1 rs2 imm a b pc size w hv hv' a1 a2 b1 b2 p1 p2 h
    · exact rnext_42 rd rs1 rs2 imm a b pc size w hv hv' a1 a2 b1 b2 p1 p2 h
    · exact rnext_43 rd rs1 rs2 imm a b pc size w hv hv' a1 a2 b1 b2 p1 p2 h
    · exact rnext_44 rd rs1 rs2 imm a b pc size w hv hv' a1 a2 b1 b2 p1 p2 h
    · exact rnext_45 rd rs1 rs2 imm a b pc size w hv hv' a1 a2 b1 b2 p1 p2 h
    · exact rnext_46 rd rs1 rs2 imm a b pc size w hv hv' a1 a2 b1 b2 p1 p2 h
    · exact rnext_47 rd rs1 rs2 imm a b pc size w hv hv' a1 a2 b1 b2 p1 p2 h
    · exact rnext_48 rd rs1 rs2 imm a b pc size w hv hv' a1 a2 b1 b2 p1 p2 h

set_option maxHeartbeats 1000000 in
theorem raccess_no (rd rs1 rs2 imm a : Int) (w : World) (hv : -2147483648 ≤ imm) (hv' : imm ≤ 2147483647) (a1 : 0 ≤ a) (a2 : a < 4294967296) (op : Int) (h : mayB op rd rs1 rs2 imm = false) :
    Calls Tryz.prog 34 #[.agg #[.int .i64 op, .int .i64 rd, .int .i64 rs1, .int .i64 rs2, .int .i32 imm], .int .u32 a] w fun e w' => e = .returned (.tuple #[.int .u32 0, .int .i64 0, .bool false, .bool false]) ∧ Nx w w' := by
  go_enter Tryz.func34, Tryz.ntmps34
  go_wp2_with fail
  refine (rmay_any _ _ _ _ _ _ hv hv').mono ?_
  rintro e w1 ⟨rfl, hn1⟩
  obtain ⟨c0, c1, c2, c3, c4, hz⟩ := five_in hn1
  have HN := Lib.hid (((Nx.refl w).alloc _).trans hn1)
  clear hn1
  go_wp2
  refine bodyPost_ret (v := .tuple #[.int .u32 0, .int .i64 0, .bool false, .bool false]) (by simp [results, Tryz.results34, go_sem]) rfl ⟨rfl, HN.out⟩

theorem raccess_any (op : Int) (rd rs1 rs2 imm a : Int) (w : World) (hv : -2147483648 ≤ imm) (hv' : imm ≤ 2147483647) (a1 : 0 ≤ a) (a2 : a < 4294967296) :
    Calls Tryz.prog 34 #[.agg #[.int .i64 op, .int .i64 rd, .int .i64 rs1, .int .i64 rs2, .int .i32 imm], .int .u32 a] w fun e w' => e = .returned (.tuple #[.int .u32 (accX (mayB op rd rs1 rs2 imm) op a imm), .int .i64 (accXN (mayB op rd rs1 rs2 imm) op), .bool (mayB op rd rs1 rs2 imm && accS op), .bool (mayB op rd rs1 rs2 imm && accG op)]) ∧ Nx w w' := by
  unfold accX accXN
  cases h : mayB op rd rs1 rs2 imm
  · exact raccess_no rd rs1 rs2 imm a w hv hv' a1 a2 op h
  · obtain ⟨o1, o2⟩ := may_op op rd rs1 rs2 imm h
    rcases (by omega : op = 1 ∨ op = 2 ∨ op = 3 ∨ op = 4 ∨ op = 5 ∨ op = 6 ∨ op = 7 ∨ op = 8 ∨ op = 9 ∨ op = 10 ∨ op = 11 ∨ op = 12 ∨ op = 13 ∨ op = 14 ∨ op = 15 ∨ op = 16 ∨ op = 17 ∨ op = 18 ∨ op = 19 ∨ op = 20 ∨ op = 21 ∨ op = 22 ∨ op = 23 ∨ op = 24 ∨ op = 25 ∨ op = 26 ∨ op = 27 ∨ op = 28 ∨ op = 29 ∨ op = 30 ∨ op = 31 ∨ op = 32 ∨ op = 33 ∨ op = 34 ∨ op = 35 ∨ op = 36 ∨ op = 37 ∨ op = 38 ∨ op = 39 ∨ op = 40 ∨ op = 41 ∨ op = 42 ∨ op = 43 ∨ op = 44 ∨ op = 45 ∨ op = 46 ∨ op = 47 ∨ op = 48) with rfl | rfl | rfl | rfl | rfl | rfl | rfl | rfl | rfl | rfl | rfl | rfl | rfl | rfl | rfl | rfl | rfl | rfl | rfl | rfl | rfl | rfl | rfl | rfl | rfl | rfl | rfl | rfl | rfl | rfl | rfl | rfl | rfl | rfl | rfl | rfl | rfl | rfl | rfl | rfl | rfl | rfl | rfl | rfl | rfl | rfl | rfl | rfl
    · exact raccess_1 rd rs1 rs2 imm a w hv hv' a1 a2 h
    · exact raccess_2 rd rs1 rs2 imm a w hv hv' a1 a2 h
    · exact raccess_3 rd rs1 rs2 imm a w hv hv' a1 a2 h
    · exact raccess_4 rd rs1 rs2 imm a w hv hv' a1 a2 h
    · exact raccess_5 rd rs1 rs2 imm a w hv hv' a1 a2 h
    · exact raccess_6 rd rs1 rs2 imm a w hv hv' a1 a2 h
    · exact raccess_7 rd rs1 rs2 imm a w hv hv' a1 a2 h
    · exact raccess_8 rd rs1 rs2 imm a w hv hv' a1 a2 h
    · exact raccess_9 rd rs1 rs2 imm a w hv hv' a1 a2 h
    · exact raccess_10 rd rs1 rs2 imm a w hv hv' a1 a2 h
    · exact raccess_11 rd rs1 rs2 imm a w hv hv' a1 a2 h
    · exact raccess_12 rd rs1 rs2 imm a w hv hv' a1 a2 h
    · exact raccess_13 rd rs1 rs2 imm a w hv hv' a1 a2 h
    · exact raccess_14 rd rs1 rs2 imm a w hv hv' a1 a2 h
    · exact raccess_15 rd rs1 rs2 imm a w hv hv' a1 a2 h
    · exact raccess_16 rd rs1 rs2 imm a w hv hv' a1 a2 h
    · exact raccess_17 rd rs1 rs2 imm a w hv hv' a1 a2 h
    · exact raccess_18 rd rs1 rs2 imm a w hv hv' a1 a2 h
    · exact raccess_19 rd rs1 rs2 imm a w hv hv' a1 a2 h
    · exact raccess_20 rd rs1 rs2 imm a w hv hv' a1 a2 h
    · exact raccess_21 rd rs1 rs2 imm a w hv hv' a1 a2 h
    · exact raccess_22 rd rs1 rs2 imm a w hv hv' a1 a2 h
    · exact raccess_23 rd rs1 rs2 imm a w hv hv' a1 a2 h
    · exact raccess_24 rd rs1 rs2 imm a w hv hv' a1 a2 h
    · exact raccess_25 rd rs1 rs2 imm a w hv hv' a1 a2 h
    · exact raccess_26 rd rs1 rs2 imm a w hv hv' a1 a2 h
    · exact raccess_27 rd rs1 rs2 imm a w hv hv' a1 a2 h
    · exact raccess_28 rd rs1 rs2 imm a w hv hv' a1 a2 h
    · exact raccess_29 rd rs1 rs2 imm a w hv hv' a1 a2 h
    · exact raccess_30 rd rs1 rs2 imm a w hv hv' a1 a2 h
    · exact raccess_31 rd rs1 rs2 imm a w hv hv' a1 a2 h
    · exact raccess_32 rd rs1 rs2 imm a w hv hv' a1 a2 h
    · exact raccess_33 rd rs1 rs2 imm a w hv hv' a1 a2 h
    · exact raccess_34 rd rs1 rs2 imm a w hv hv' a1 a2 h
    · exact raccess_35 rd rs1 rs2 imm a w hv hv' a1 a2 h
    · exact raccess_36 rd rs1 rs2 imm a w hv hv' a1 a2 h
    · exact raccess_37 rd rs1 rs2 imm a w hv hv' a1 a2 h
    · exact raccess_38 rd rs1 rs2 imm a w hv hv' a1 a2 h
    · exact raccess_39 rd rs1 rs2 imm a w hv hv' a1 a2 h
    · exact raccess_40 rd rs1 rs2 imm a w hv hv' a1 a2 h
    · exact raccess_41 rd rs1 rs2 imm a w hv hv' a1 a2 h
    · exact raccess_42 rd rs1 rs2 imm a w hv hv' a1 a2 h
    · exact raccess_43 rd rs1 rs2 imm a w hv hv' a1 a2 h
    · exact raccess_44 rd rs1 rs2 imm a w hv hv' a1 a2 h
    · exact raccess_45 rd rs1 rs2 imm a w hv hv' a1 a2 h
    · exact raccess_46 rd rs1 rs2 imm a w hv hv' a1 a2 h
    · exact raccess_47 rd rs1 rs2 imm a w hv hv' a1 a2 h
    · exact raccess_48 rd rs1 rs2 imm a w hv hv' a1 a2 h

end Go.Proofs.YtndpgakjpokllaaGreat

/- Contracts of package typecaseref06: base. -/
namespace Go.Proofs.YtndpgakjpokllaaGreat
open Go.RowKit
set_option linter.unusedVariables false
set_option linter.unusedSimpArgs false

set_option maxHeartbeats 400000 in
theorem base_1 (w : World) : Calls Tryz.prog 63 #[.string (B [108, 117, 105])] w fun e w' => e = .returned (.string (B [108, 117, 105])) ∧ w = w' := by
  go_enter Tryz.func63, Tryz.ntmps63
  go_wp2
  go_ret
  exact ⟨rfl, rfl⟩

set_option maxHeartbeats 400000 in
theorem base_2 (w : World) : Calls Tryz.prog 63 #[.string (B [97, 117, 105, 112, 99])] w fun e w' => e = .returned (.string (B [97, 117, 105, 112, 99])) ∧ w = w' := by
  go_enter Tryz.func63, Tryz.ntmps63
  go_wp2
  go_ret
  exact ⟨rfl, rfl⟩

set_option maxHeartbeats 400000 in
theorem base_3 (w : World) : Calls Tryz.prog 63 #[.string (B [106, 97, 108])] w fun e w' => e = .returned (.string (B [106, 97, 108])) ∧ w = w' := by
  go_enter Tryz.func63, Tryz.ntmps63
  go_wp2
  go_ret
  exact ⟨rfl, rfl⟩

set_option maxHeartbeats 400000 in
theorem base_4 (w : World) : Calls Tryz.prog 63 #[.string (B [106, 97, 108, 114])] w fun e w' => e = .returned (.string (B [106, 97, 108, 114])) ∧ w = w' := by
  go_enter Tryz.func63, Tryz.ntmps63
  go_wp2
  go_ret
  exact ⟨rfl, rfl⟩

set_option maxHeartbeats 400000 in
theorem base_5 (w : World) : Calls Tryz.prog 63 #[.string (B [98, 101, 113])] w fun e w' => e = .returned (.string (B [98, 101, 113])) ∧ w = w' := by
  go_enter Tryz.func63, Tryz.ntmps63
  go_wp2
  go_ret
  exact ⟨rfl, rfl⟩

set_option maxHeartbeats 400000 in
theorem base_6 (w : World) : Calls Tryz.prog 63 #[.string (B [98, 110, 101])] w fun e w' => e = .returned (.string (B [98, 110, 101])) ∧ w = w' := by
  go_enter Tryz.func63, Tryz.ntmps63
  go_wp2
  go_ret
  exact ⟨rfl, rfl⟩

set_option maxHeartbeats 400000 in
theorem base_7 (w : World) : Calls Tryz.prog 63 #[.string (B [98, 108, 116])] w fun e w' => e = .returned (.string (B [98, 108, 116])) ∧ w = w' := by
  go_enter Tryz.func63, Tryz.ntmps63
  go_wp2
  go_ret
  exact ⟨rfl, rfl⟩

set_option maxHeartbeats 400000 in
theorem base_8 (w : World) : Calls Tryz.prog 63 #[.string (B [98, 103, 101])] w fun e w' => e = .returned (.string (B [98, 103, 101])) ∧ w = w' := by
  go_enter Tryz.func63, Tryz.ntmps63
  go_wp2
  go_ret
  exact ⟨rfl, rfl⟩

set_option maxHeartbeats 400000 in
theorem base_9 (w : World) : Calls Tryz.prog 63 #[.string (B [98, 108, 116, 117])] w fun e w' => e = .returned (.string (B [98, 108, 116, 117])) ∧ w = w' := by
  go_enter Tryz.func63, Tryz.ntmps63
  go_wp2
  go_ret
  exact ⟨rfl, rfl⟩

set_option maxHeartbeats 400000 in
theorem base_10 (w : World) : Calls Tryz.prog 63 #[.string (B [98, 103, 101, 117])] w fun e w' => e = .returned (.string (B [98, 103, 101, 117])) ∧ w = w' := by
  go_enter Tryz.func63, Tryz.ntmps63
  go_wp2
  go_ret
  exact ⟨rfl, rfl⟩

set_option maxHeartbeats 400000 in
theorem base_11 (w : World) : Calls Tryz.prog 63 #[.string (B [108, 98])] w fun e w' => e = .returned (.string (B [108, 98])) ∧ w = w' := by
  go_enter Tryz.func63, Tryz.ntmps63
  go_wp2
  go_ret
  exact ⟨rfl, rfl⟩

set_option maxHeartbeats 400000 in
theorem base_12 (w : World) : Calls Tryz.prog 63 #[.string (B [108, 104])] w fun e w' => e = .returned (.string (B [108, 104])) ∧ w = w' := by
  go_enter Tryz.func63, Tryz.ntmps63
  go_wp2
  go_ret
  exact ⟨rfl, rfl⟩

set_option maxHeartbeats 400000 in
theorem base_13 (w : World) : Calls Tryz.prog 63 #[.string (B [108, 119])] w fun e w' => e = .returned (.string (B [108, 119])) ∧ w = w' := by
  go_enter Tryz.func63, Tryz.ntmps63
  go_wp2
  go_ret
  exact ⟨rfl, rfl⟩

set_option maxHeartbeats 400000 in
theorem base_14 (w : World) : Calls Tryz.prog 63 #[.string (B [108, 98, 117])] w fun e w' => e = .returned (.string (B [108, 98, 117])) ∧ w = w' := by
  go_enter Tryz.func63, Tryz.ntmps63
  go_wp2
  go_ret
  exact ⟨rfl, rfl⟩

set_option maxHeartbeats 400000 in
theorem base_15 (w : World) : Calls Tryz.prog 63 #[.string (B [108, 104, 117])] w fun e w' => e = .returned (.string (B [108, 104, 117])) ∧ w = w' := by
  go_enter Tryz.func63, Tryz.ntmps63
  go_wp2
  go_ret
  exact ⟨rfl, rfl⟩

set_option maxHeartbeats 400000 in
theorem base_16 (w : World) : Calls Tryz.prog 63 #[.string (B [115, 98])] w fun e w' => e = .returned (.string (B [115, 98])) ∧ w = w' := by
  go_enter Tryz.func63, Tryz.ntmps63
  go_wp2
  go_ret
  exact ⟨rfl, rfl⟩

set_option maxHeartbeats 400000 in
theorem base_17 (w : World) : Calls Tryz.prog 63 #[.string (B [115, 104])] w fun e w' => e = .returned (.string (B [115, 104])) ∧ w = w' := by
  go_enter Tryz.func63, Tryz.ntmps63
  go_wp2
  go_ret
  exact ⟨rfl, rfl⟩

set_option maxHeartbeats 400000 in
theorem base_18 (w : World) : Calls Tryz.prog 63 #[.string (B [115, 119])] w fun e w' => e = .returned (.string (B [115, 119])) ∧ w = w' := by
  go_enter Tryz.func63, Tryz.ntmps63
  go_wp2
  go_ret
  exact ⟨rfl, rfl⟩

set_option maxHeartbeats 400000 in
theorem base_19 (w : World) : Calls Tryz.prog 63 #[.string (B [97, 100, 100, 105])] w fun e w' => e = .returned (.string (B [97, 100, 100])) ∧ w = w' := by
  go_enter Tryz.func63, Tryz.ntmps63
  go_wp2
  go_ret
  exact ⟨rfl, rfl⟩

set_option maxHeartbeats 400000 in
theorem base_20 (w : World) : Calls Tryz.prog 63 #[.string (B [115, 108, 116, 105])] w fun e w' => e = .returned (.string (B [115, 108, 116])) ∧ w = w' := by
  go_enter Tryz.func63, Tryz.ntmps63
  go_wp2
  go_ret
  exact ⟨rfl, rfl⟩

set_option maxHeartbeats 400000 in
theorem base_21 (w : World) : Calls Tryz.prog 63 #[.string (B [115, 108, 116, 105, 117])] w fun e w' => e = .returned (.string (B [115, 108, 116, 117])) ∧ w = w' := by
  go_enter Tryz.func63, Tryz.ntmps63
  go_wp2
  go_ret
  exact ⟨rfl, rfl⟩

set_option maxHeartbeats 400000 in
theorem base_22 (w : World) : Calls Tryz.prog 63 #[.string (B [120, 111, 114, 105])] w fun e w' => e = .returned (.string (B [120, 111, 114])) ∧ w = w' := by
  go_enter Tryz.func63, Tryz.ntmps63
  go_wp2
  go_ret
  exact ⟨rfl, rfl⟩

set_option maxHeartbeats 400000 in
theorem base_23 (w : World) : Calls Tryz.prog 63 #[.string (B [111, 114, 105])] w fun e w' => e = .returned (.string (B [111, 114])) ∧ w = w' := by
  go_enter Tryz.func63, Tryz.ntmps63
  go_wp2
  go_ret
  exact ⟨rfl, rfl⟩

set_option maxHeartbeats 400000 in
theorem base_24 (w : World) : Calls Tryz.prog 63 #[.string (B [97, 110, 100, 105])] w fun e w' => e = .returned (.string (B [97, 110, 100])) ∧ w = w' := by
  go_enter Tryz.func63, Tryz.ntmps63
  go_wp2
  go_ret
  exact ⟨rfl, rfl⟩

set_option maxHeartbeats 400000 in
theorem base_25 (w : World) : Calls Tryz.prog 63 #[.string (B [115, 108, 108, 105])] w fun e w' => e = .returned (.string (B [115, 108, 108])) ∧ w = w' := by
  go_enter Tryz.func63, Tryz.ntmps63
  go_wp2
  go_ret
  exact ⟨rfl, rfl⟩

set_option maxHeartbeats 400000 in
theorem base_26 (w : World) : Calls Tryz.prog 63 #[.string (B [115, 114, 108, 105])] w fun e w' => e = .returned (.string (B [115, 114, 108])) ∧ w = w' := by
  go_enter Tryz.func63, Tryz.ntmps63
  go_wp2
  go_ret
  exact ⟨rfl, rfl⟩

set_option maxHeartbeats 400000 in
theorem base_27 (w : World) : Calls Tryz.prog 63 #[.string (B [115, 114, 97, 105])] w fun e w' => e = .returned (.string (B [115, 114, 97])) ∧ w = w' := by
  go_enter Tryz.func63, Tryz.ntmps63
  go_wp2
  go_ret
  exact ⟨rfl, rfl⟩

set_option maxHeartbeats 400000 in
theorem base_28 (w : World) : Calls Tryz.prog 63 #[.string (B [97, 100, 100])] w fun e w' => e = .returned (.string (B [97, 100, 100])) ∧ w = w' := by
  go_enter Tryz.func63, Tryz.ntmps63
  go_wp2
  go_ret
  exact ⟨rfl, rfl⟩

set_option maxHeartbeats 400000 in
theorem base_29 (w : World) : Calls Tryz.prog 63 #[.string (B [115, 117, 98])] w fun e w' => e = .returned (.string (B [115, 117, 98])) ∧ w = w' := by
  go_enter Tryz.func63, Tryz.ntmps63
  go_wp2
  go_ret
  exact ⟨rfl, rfl⟩

set_option maxHeartbeats 400000 in
theorem base_30 (w : World) : Calls Tryz.prog 63 #[.string (B [115, 108, 108])] w fun e w' => e = .returned (.string (B [115, 108, 108])) ∧ w = w' := by
  go_enter Tryz.func63, Tryz.ntmps63
  go_wp2
  go_ret
  exact ⟨rfl, rfl⟩

set_option maxHeartbeats 400000 in
theorem base_31 (w : World) : Calls Tryz.prog 63 #[.string (B [115, 108, 116])] w fun e w' => e = .returned (.string (B [115, 108, 116])) ∧ w = w' := by
  go_enter Tryz.func63, Tryz.ntmps63
  go_wp2
  go_ret
  exact ⟨rfl, rfl⟩

set_option maxHeartbeats 400000 in
theorem base_32 (w : World) : Calls Tryz.prog 63 #[.string (B [115, 108, 116, 117])] w fun e w' => e = .returned (.string (B [115, 108, 116, 117])) ∧ w = w' := by
  go_enter Tryz.func63, Tryz.ntmps63
  go_wp2
  go_ret
  exact ⟨rfl, rfl⟩

set_option maxHeartbeats 400000 in
theorem base_33 (w : World) : Calls Tryz.prog 63 #[.string (B [120, 111, 114])] w fun e w' => e = .returned (.string (B [120, 111, 114])) ∧ w = w' := by
  go_enter Tryz.func63, Tryz.ntmps63
  go_wp2
  go_ret
  exact ⟨rfl, rfl⟩

set_option maxHeartbeats 400000 in
theorem base_34 (w : World) : Calls Tryz.prog 63 #[.string (B [115, 114, 108])] w fun e w' => e = .returned (.string (B [115, 114, 108])) ∧ w = w' := by
  go_enter Tryz.func63, Tryz.ntmps63
  go_wp2
  go_ret
  exact ⟨rfl, rfl⟩

set_option maxHeartbeats 400000 in
theorem base_35 (w : World) : Calls Tryz.prog 63 #[.string (B [115, 114, 97])] w fun e w' => e = .returned (.string (B [115, 114, 97])) ∧ w = w' := by
  go_enter Tryz.func63, Tryz.ntmps63
  go_wp2
  go_ret
  exact ⟨rfl, rfl⟩

set_option maxHeartbeats 400000 in
theorem base_36 (w : World) : Calls Tryz.prog 63 #[.string (B [111, 114])] w fun e w' => e = .returned (.string (B [111, 114])) ∧ w = w' := by
  go_enter Tryz.func63, Tryz.ntmps63
  go_wp2
  go_ret
  exact ⟨rfl, rfl⟩

set_option maxHeartbeats 400000 in
theorem base_37 (w : World) : Calls Tryz.prog 63 #[.string (B [97, 110, 100])] w fun e w' => e = .returned (.string (B [97, 110, 100])) ∧ w = w' := by
  go_enter Tryz.func63, Tryz.ntmps63
  go_wp2
  go_ret
  exact ⟨rfl, rfl⟩

set_option maxHeartbeats 400000 in
theorem base_38 (w : World) : Calls Tryz.prog 63 #[.string (B [102, 101, 110, 99, 101])] w fun e w' => e = .returned (.string (B [102, 101, 110, 99, 101])) ∧ w = w' := by
  go_enter Tryz.func63, Tryz.ntmps63
  go_wp2
  go_ret
  exact ⟨rfl, rfl⟩

set_option maxHeartbeats 400000 in
theorem base_39 (w : World) : Calls Tryz.prog 63 #[.string (B [101, 99, 97, 108, 108])] w fun e w' => e = .returned (.string (B [101, 99, 97, 108, 108])) ∧ w = w' := by
  go_enter Tryz.func63, Tryz.ntmps63
  go_wp2
  go_ret
  exact ⟨rfl, rfl⟩

set_option maxHeartbeats 400000 in
theorem base_40 (w : World) : Calls Tryz.prog 63 #[.string (B [101, 98, 114, 101, 97, 107])] w fun e w' => e = .returned (.string (B [101, 98, 114, 101, 97, 107])) ∧ w = w' := by
  go_enter Tryz.func63, Tryz.ntmps63
  go_wp2
  go_ret
  exact ⟨rfl, rfl⟩

set_option maxHeartbeats 400000 in
theorem base_41 (w : World) : Calls Tryz.prog 63 #[.string (B [109, 117, 108])] w fun e w' => e = .returned (.string (B [109, 117, 108])) ∧ w = w' := by
  go_enter Tryz.func63, Tryz.ntmps63
  go_wp2
  go_ret
  exact ⟨rfl, rfl⟩

set_option maxHeartbeats 400000 in
theorem base_42 (w : World) : Calls Tryz.prog 63 #[.string (B [109, 117, 108, 104])] w fun e w' => e = .returned (.string (B [109, 117, 108, 104])) ∧ w = w' := by
  go_enter Tryz.func63, Tryz.ntmps63
  go_wp2
  go_ret
  exact ⟨rfl, rfl⟩

set_option maxHeartbeats 400000 in
theorem base_43 (w : World) : Calls Tryz.prog 63 #[.string (B [109, 117, 108, 104, 115, 117])] w fun e w' => e = .returned (.string (B [109, 117, 108, 104, 115, 117])) ∧ w = w' := by
  go_enter Tryz.func63, Tryz.ntmps63
  go_wp2
  go_ret
  exact ⟨rfl, rfl⟩

set_option maxHeartbeats 400000 in
theorem base_44 (w : World) : Calls Tryz.prog 63 #[.string (B [109, 117, 108, 104, 117])] w fun e w' => e = .returned (.string (B [109, 117, 108, 104, 117])) ∧ w = w' := by
  go_enter Tryz.func63, Tryz.ntmps63
  go_wp2
  go_ret
  exact ⟨rfl, rfl⟩

set_option maxHeartbeats 400000 in
theorem base_45 (w : World) : Calls Tryz.prog 63 #[.string (B [100, 105, 118])] w fun e w' => e = .returned (.string (B [100, 105, 118])) ∧ w = w' := by
  go_enter Tryz.func63, Tryz.ntmps63
  go_wp2
  go_ret
  exact ⟨rfl, rfl⟩

set_option maxHeartbeats 400000 in
theorem base_46 (w : World) : Calls Tryz.prog 63 #[.string (B [100, 105, 118, 117])] w fun e w' => e = .returned (.string (B [100, 105, 118, 117])) ∧ w = w' := by
  go_enter Tryz.func63, Tryz.ntmps63
  go_wp2
  go_ret
  exact ⟨rfl, rfl⟩

set_option maxHeartbeats 400000 in
theorem base_47 (w : World) : Calls Tryz.prog 63 #[.string (B [114, 101, 109])] w fun e w' => e = .returned (.string (B [114, 101, 109])) ∧ w = w' := by
  go_enter Tryz.func63, Tryz.ntmps63
  go_wp2
  go_ret
  exact ⟨rfl, rfl⟩

set_option maxHeartbeats 400000 in
theorem base_48 (w : World) : Calls Tryz.prog 63 #[.string (B [114, 101, 109, 117])] w fun e w' => e = .returned (.string (B [114, 101, 109, 117])) ∧ w = w' := by
  go_enter Tryz.func63, Tryz.ntmps63
  go_wp2
  go_ret
  exact ⟨rfl, rfl⟩

end Go.Proofs.YtndpgakjpokllaaGreat

/- Contracts of package typecaseref06: bits, shifted, base. -/
namespace Go.Proofs.YtndpgakjpokllaaGreat
open Go.RowKit
set_option linter.unusedVariables false
set_option linter.unusedSimpArgs false

/-- A table of what 00, 01, 10, 11 come to. -/
def tabV (t0 t1 t2 t3 : Int) (i : Int) : Int := if i = 0 then t0 else if i = 1 then t1 else if i = 2 then t2 else t3

/-- The lowest k bits, by the table. -/
def tbl (t : Int → Int) (a b : Int) : Nat → Int
  | 0 => 0
  | k + 1 => tbl t a b k + 2 ^ k * t (2 * fld a k 1 + fld b k 1)

theorem fld1 (A i : Nat) : fld (A : Int) i 1 = ((A.testBit i).toNat : Int) := by
  unfold fld
  have e1 : ((A : Int) / 2 ^ i % 2 ^ 1) = ((A / 2 ^ i % 2 : Nat) : Int) := by
    rw [← pow_cast]; simp
  rw [e1, Nat.testBit_eq_decide_div_mod_eq]
  by_cases h : A / 2 ^ i % 2 = 1
  · simp [h]
  · have : A / 2 ^ i % 2 = 0 := by omega
    simp [this]

theorem tbl_mod (t : Int → Int) (A C : Nat) (op : Nat → Nat → Nat) (hop : ∀ i, (op A C).testBit i = true ↔ t (2 * ((A.testBit i).toNat : Int) + ((C.testBit i).toNat : Int)) = 1) (h01 : ∀ i : Int, t i = 0 ∨ t i = 1) (k : Nat) : tbl t A C k = ((op A C % 2 ^ k : Nat) : Int) := by
  induction k with
  | zero => simp [tbl, Nat.mod_one]
  | succ k ih =>
    have e : tbl t A C (k + 1) = tbl t A C k + 2 ^ k * t (2 * fld A k 1 + fld C k 1) := rfl
    rw [e, ih, fld1, fld1, Nat.mod_pow_succ, ← Nat.toNat_testBit]
    have hv : t (2 * ((A.testBit k).toNat : Int) + ((C.testBit k).toNat : Int)) = (((op A C).testBit k).toNat : Int) := by
      cases hb : (op A C).testBit k
      · have : ¬ t (2 * ((A.testBit k).toNat : Int) + ((C.testBit k).toNat : Int)) = 1 := fun c => by
          have := (hop k).2 c
          rw [hb] at this; cases this
        rcases h01 (2 * ((A.testBit k).toNat : Int) + ((C.testBit k).toNat : Int)) with h | h
        · rw [h]; rfl
        · exact absurd h this
      · rw [(hop k).1 hb]; rfl
    rw [hv, ← pow_cast]
    simp

theorem tab01 (t0 t1 t2 t3 : Int) (h0 : t0 = 0 ∨ t0 = 1) (h1 : t1 = 0 ∨ t1 = 1) (h2 : t2 = 0 ∨ t2 = 1) (h3 : t3 = 0 ∨ t3 = 1) (i : Int) : tabV t0 t1 t2 t3 i = 0 ∨ tabV t0 t1 t2 t3 i = 1 := by
  unfold tabV; split
  · exact h0
  · split
    · exact h1
    · split
      · exact h2
      · exact h3

theorem tbl_xor (a b : Int) (a1 : 0 ≤ a) (a2 : a < 4294967296) (b1 : 0 ≤ b) (b2 : b < 4294967296) : tbl (tabV 0 1 1 0) a b 32 = bits .xor .u32 a b := by
  obtain ⟨A, rfl⟩ := Int.eq_ofNat_of_zero_le a1
  obtain ⟨C, rfl⟩ := Int.eq_ofNat_of_zero_le b1
  rw [tbl_mod (tabV 0 1 1 0) A C (fun x y => x ^^^ y) (fun i => by rw [Nat.testBit_xor]; cases A.testBit i <;> cases C.testBit i <;> decide) (tab01 0 1 1 0 (by decide) (by decide) (by decide) (by decide)) 32, u32_xor_nat A C (by omega) (by omega)]
  have := Nat.xor_lt_two_pow (n := 32) (show A < 2 ^ 32 by omega) (show C < 2 ^ 32 by omega)
  rw [Nat.mod_eq_of_lt this]

theorem tbl_or (a b : Int) (a1 : 0 ≤ a) (a2 : a < 4294967296) (b1 : 0 ≤ b) (b2 : b < 4294967296) : tbl (tabV 0 1 1 1) a b 32 = bits .or .u32 a b := by
  obtain ⟨A, rfl⟩ := Int.eq_ofNat_of_zero_le a1
  obtain ⟨C, rfl⟩ := Int.eq_ofNat_of_zero_le b1
  rw [tbl_mod (tabV 0 1 1 1) A C (fun x y => x ||| y) (fun i => by rw [Nat.testBit_or]; cases A.testBit i <;> cases C.testBit i <;> decide) (tab01 0 1 1 1 (by decide) (by decide) (by decide) (by decide)) 32, u32_or_nat A C (by omega) (by omega)]
  have := Nat.or_lt_two_pow (n := 32) (show A < 2 ^ 32 by omega) (show C < 2 ^ 32 by omega)
  rw [Nat.mod_eq_of_lt this]

theorem tbl_and (a b : Int) (a1 : 0 ≤ a) (a2 : a < 4294967296) (b1 : 0 ≤ b) (b2 : b < 4294967296) : tbl (tabV 0 0 0 1) a b 32 = bits .and .u32 a b := by
  obtain ⟨A, rfl⟩ := Int.eq_ofNat_of_zero_le a1
  obtain ⟨C, rfl⟩ := Int.eq_ofNat_of_zero_le b1
  rw [tbl_mod (tabV 0 0 0 1) A C (fun x y => x &&& y) (fun i => by rw [Nat.testBit_and]; cases A.testBit i <;> cases C.testBit i <;> decide) (tab01 0 0 0 1 (by decide) (by decide) (by decide) (by decide)) 32, u32_and_nat A C (by omega) (by omega)]
  have := Nat.and_lt_two_pow (n := 32) A (show C < 2 ^ 32 by omega)
  rw [Nat.mod_eq_of_lt this]

theorem tbl_bd (t : Int → Int) (a b : Int) (h : ∀ i, t i = 0 ∨ t i = 1) (k : Nat) : 0 ≤ tbl t a b k ∧ tbl t a b k < 2 ^ k := by
  induction k with
  | zero => exact ⟨Int.le_refl 0, (by decide : (0 : Int) < 1)⟩
  | succ k ih =>
    have e : tbl t a b (k + 1) = tbl t a b k + 2 ^ k * t (2 * fld a k 1 + fld b k 1) := rfl
    have hp := pow_pos' k
    rw [e, Int.pow_succ]
    rcases h (2 * fld a k 1 + fld b k 1) with q | q <;> rw [q] <;> omega

theorem fld01 (a : Int) (k : Nat) : fld a k 1 = 0 ∨ fld a k 1 = 1 := by
  have h1 := fld_nonneg a k 1
  have h2 : fld a k 1 < 2 := fld_lt a k 1
  omega

theorem pow_le31 (k : Nat) (h : k < 32) : (2 : Int) ^ k ≤ 2147483648 := by
  have := Nat.pow_le_pow_right (n := 2) (by omega) (show k ≤ 31 by omega)
  have e : (2 : Nat) ^ 31 = 2147483648 := by decide
  rw [e] at this
  rw [← pow_cast]
  omega

set_option maxHeartbeats 2000000 in
theorem rbits_any (a b t0 t1 t2 t3 : Int) (h0 : t0 = 0 ∨ t0 = 1) (h1 : t1 = 0 ∨ t1 = 1) (h2 : t2 = 0 ∨ t2 = 1) (h3 : t3 = 0 ∨ t3 = 1) (w : World) (a1 : 0 ≤ a) (a2 : a < 4294967296) (b1 : 0 ≤ b) (b2 : b < 4294967296) :
    Calls Tryz.prog 66 #[.int .u32 a, .int .u32 b, .agg #[.int .u32 t0, .int .u32 t1, .int .u32 t2, .int .u32 t3]] w fun e w' => e = .returned (.int .u32 (tbl (tabV t0 t1 t2 t3) a b 32)) ∧ Nx w w' := by
  have HB := Lib.hid (fun k => tbl_bd (tabV t0 t1 t2 t3) a b (tab01 t0 t1 t2 t3 h0 h1 h2 h3) k)
  go_enter Tryz.func66, Tryz.ntmps66
  go_wp2
  go_loop [7, 8, 9] (fun o u i => ∃ k : Nat, k ≤ 32 ∧ i = .int .i64 k ∧ o = .int .u32 (tbl (tabV t0 t1 t2 t3) a b k) ∧ u = .int .u32 (2 ^ k % 4294967296)) (fun _ _ i => 32 - (Go.RowKit.intOf i).toNat)
  case atStart => exact ⟨0, by omega, rfl, rfl, rfl⟩
  case round =>
    obtain ⟨k, hk, rfl, rfl, rfl⟩ := hrel
    obtain ⟨o1, o2⟩ := HB.out k
    by_cases hlt : k < 32
    · have hp := pow_pos' k
      have hp2 := pow_le31 k hlt
      have HS := Lib.hid (show tbl (tabV t0 t1 t2 t3) a b (k + 1) = tbl (tabV t0 t1 t2 t3) a b k + 2 ^ k * tabV t0 t1 t2 t3 (2 * fld a k 1 + fld b k 1) from rfl)
      have HP := Lib.hid (show (2 : Int) ^ (k + 1) = 2 * 2 ^ k by rw [Int.pow_succ]; omega)
      have HM := Lib.hid (show (2 : Int) ^ k % 4294967296 = 2 ^ k from Int.emod_eq_of_lt (by omega) (by omega))
      rw [HM.out]
      have T0 := Lib.hid (show tabV t0 t1 t2 t3 (2 * 0 + 0) = t0 from rfl)
      have T1 := Lib.hid (show tabV t0 t1 t2 t3 (2 * 0 + 1) = t1 from rfl)
      have T2 := Lib.hid (show tabV t0 t1 t2 t3 (2 * 1 + 0) = t2 from rfl)
      have T3 := Lib.hid (show tabV t0 t1 t2 t3 (2 * 1 + 1) = t3 from rfl)
      have FA := fld01 a k
      have FB := fld01 b k
      have CA := Lib.hid (fun w => rbit_any a k w a1 a2)
      have CB := Lib.hid (fun w => rbit_any b k w b1 b2)
      simp only [Int.toNat_natCast] at CA CB
      generalize fld a k 1 = fa at *
      generalize fld b k 1 = fb at *
      generalize tbl (tabV t0 t1 t2 t3) a b k = o at *
      generalize (2 : Int) ^ k = u at *
      rcases FA with rfl | rfl <;> rcases FB with rfl | rfl
      all_goals
        first
          | rw [T0.out] at HS
          | rw [T1.out] at HS
          | rw [T2.out] at HS
          | rw [T3.out] at HS
        go_wp2_with fail
        refine (CA.out _).mono ?_
        rintro e w' ⟨rfl, rfl⟩
        go_wp2_with fail
        refine (CB.out _).mono ?_
        rintro e w' ⟨rfl, rfl⟩
        go_wp2
        go_round
        case rel =>
          refine ⟨k + 1, by omega, by go_num, congrArg _ ?_, congrArg _ ?_⟩
          · rw [HS.out]
            first
              | (rcases h0 with q | q <;> subst q <;> (try simp) <;> omega)
              | (rcases h1 with q | q <;> subst q <;> (try simp) <;> omega)
              | (rcases h2 with q | q <;> subst q <;> (try simp) <;> omega)
              | (rcases h3 with q | q <;> subst q <;> (try simp) <;> omega)
          · rw [HP.out]
        case measure => simp [Go.RowKit.intOf]; omega
    · have hk32 : k = 32 := by omega
      subst hk32
      generalize ho : tbl (tabV t0 t1 t2 t3) a b 32 = o at o1 o2 ⊢
      have HO := Lib.hid ho
      clear ho
      go_wp2
      go_ret
      exact ⟨ret_u32 HO.out.symm, (Nx.refl _).alloc _⟩

end Go.Proofs.YtndpgakjpokllaaGreat

/- Contracts of package typecaseref06: shifted. -/
namespace Go.Proofs.YtndpgakjpokllaaGreat
open Go.RowKit
set_option linter.unusedVariables false
set_option linter.unusedSimpArgs false

/-- A word, moved by one, k times. -/
def shf (up keep : Bool) (a : Int) : Nat → Int
  | 0 => a
  | k + 1 => if up = true then 2 * shf up keep a k % 4294967296 else if keep = true then shf up keep a k / 2 + shf up keep a k / 2147483648 * 2147483648 else shf up keep a k / 2

theorem shf_bd (up keep : Bool) (a : Int) (a1 : 0 ≤ a) (a2 : a < 4294967296) (k : Nat) : 0 ≤ shf up keep a k ∧ shf up keep a k < 4294967296 := by
  induction k with
  | zero => exact ⟨a1, a2⟩
  | succ k ih =>
    have e : shf up keep a (k + 1) = if up = true then 2 * shf up keep a k % 4294967296 else if keep = true then shf up keep a k / 2 + shf up keep a k / 2147483648 * 2147483648 else shf up keep a k / 2 := rfl
    rw [e]; split
    · omega
    · split <;> omega

theorem shf_up (a : Int) (a1 : 0 ≤ a) (a2 : a < 4294967296) (keep : Bool) (k : Nat) : shf true keep a k = a * 2 ^ k % 4294967296 := by
  induction k with
  | zero => simp [shf]; omega
  | succ k ih =>
    have e : shf true keep a (k + 1) = 2 * shf true keep a k % 4294967296 := rfl
    rw [e, ih, Int.pow_succ, Int.mul_emod, Int.emod_emod, ← Int.mul_emod]
    congr 1
    rw [Int.mul_comm, Int.mul_assoc]

theorem shf_down (a : Int) (k : Nat) : shf false false a k = a / 2 ^ k := by
  induction k with
  | zero => simp [shf]
  | succ k ih =>
    have e : shf false false a (k + 1) = shf false false a k / 2 := rfl
    rw [e, ih, Int.pow_succ, Int.ediv_ediv_of_nonneg (Int.le_of_lt (pow_pos' k))]

theorem shf_keep (a : Int) (a1 : 0 ≤ a) (a2 : a < 4294967296) (k : Nat) : shf false true a k = wrap32 a / 2 ^ k % 4294967296 := by
  have hw : -2147483648 ≤ wrap32 a ∧ wrap32 a ≤ 2147483647 ∧ wrap32 a % 4294967296 = a := by unfold wrap32; omega
  obtain ⟨w1, w2, w3⟩ := hw
  have hr : ∀ k : Nat, -2147483648 ≤ wrap32 a / 2 ^ k ∧ wrap32 a / 2 ^ k ≤ 2147483647 := by
    intro k
    induction k with
    | zero => simp; omega
    | succ k ih =>
      have e : wrap32 a / 2 ^ (k + 1) = wrap32 a / 2 ^ k / 2 := by rw [Int.pow_succ, Int.ediv_ediv_of_nonneg (Int.le_of_lt (pow_pos' k))]
      rw [e]; omega
  induction k with
  | zero => simp [shf]; omega
  | succ k ih =>
    have e : shf false true a (k + 1) = shf false true a k / 2 + shf false true a k / 2147483648 * 2147483648 := rfl
    have e2 : wrap32 a / 2 ^ (k + 1) = wrap32 a / 2 ^ k / 2 := by rw [Int.pow_succ, Int.ediv_ediv_of_nonneg (Int.le_of_lt (pow_pos' k))]
    obtain ⟨r1, r2⟩ := hr k
    rw [e, ih, e2]
    generalize wrap32 a / 2 ^ k = q at *
    omega

set_option maxHeartbeats 2000000 in
theorem rshifted_any (up keep : Bool) (a n : Int) (w : World) (a1 : 0 ≤ a) (a2 : a < 4294967296) (n1 : 0 ≤ n) (n2 : n < 4294967296) :
    Calls Tryz.prog 67 #[.int .u32 a, .int .u32 n, .bool up, .bool keep] w fun e w' => e = .returned (.int .u32 (shf up keep a (n % 32).toNat)) ∧ w = w' := by
  obtain ⟨m, hm⟩ := Int.eq_ofNat_of_zero_le (show 0 ≤ n % 32 by omega)
  have hm32 : m < 32 := by omega
  have HM := Lib.hid hm
  clear hm
  have HB := Lib.hid (fun k => shf_bd up keep a a1 a2 k)
  have hnm := HM.out
  go_enter Tryz.func67, Tryz.ntmps67
  go_wp2
  go_loop [0, 9] (fun x i => ∃ k : Nat, k ≤ m ∧ i = .int .u32 k ∧ x = .int .u32 (shf up keep a k)) (fun _ i => m - (Go.RowKit.intOf i).toNat)
  case atStart => exact ⟨0, by omega, rfl, rfl⟩
  case round =>
    obtain ⟨k, hk, rfl, rfl⟩ := hrel
    obtain ⟨o1, o2⟩ := HB.out k
    by_cases hlt : k < m
    · have HS := Lib.hid (show shf up keep a (k + 1) = if up = true then 2 * shf up keep a k % 4294967296 else if keep = true then shf up keep a k / 2 + shf up keep a k / 2147483648 * 2147483648 else shf up keep a k / 2 from rfl)
      generalize shf up keep a k = s at *
      have d1 : decide ((k : Int) < m) = true := by simp; omega
      have s1 : 0 ≤ s / 2147483648 := by omega
      have s2 : s / 2147483648 ≤ 1 := by omega
      cases up <;> cases keep
      all_goals
        simp only [reduceCtorEq, if_true, if_false] at HS
        go_wp2
        go_round
        case rel => exact ⟨k + 1, by omega, by go_num, congrArg _ (by first | exact HS.out.symm | (rw [HS.out]; omega))⟩
        case measure => simp [Go.RowKit.intOf]; omega
    · have e : k = m := by omega
      have HE : Hid (shf up keep a k = shf up keep a m) := by
        show _ = _
        rw [e]
      have d1 : decide ((k : Int) < m) = false := by simp; omega
      clear e
      generalize shf up keep a k = s at *
      go_wp2
      go_ret
      exact ⟨ret_u32 HE.out, rfl⟩

end Go.Proofs.YtndpgakjpokllaaGreat

/- Contracts of package typecaseref06: Value, operation by operation. -/
namespace Go.Proofs.YtndpgakjpokllaaGreat
open Go.RowKit
set_option linter.unusedVariables false
set_option linter.unusedSimpArgs false

set_option maxHeartbeats 400000 in
theorem rone_any (b : Bool) (w : World) : Calls Tryz.prog 64 #[.bool b] w fun e w' => e = .returned (.int .u32 (if b = true then 1 else 0)) ∧ w = w' := by
  cases b
  all_goals
    go_enter Tryz.func64, Tryz.ntmps64
    go_wp2
    go_ret
    exact ⟨rfl, rfl⟩

end Go.Proofs.YtndpgakjpokllaaGreat

