/- Contracts of package typecaseref06, whatever the instruction: Next, Access. -/
import Derived.Test.YtmobkjdbjgopgaaReffna
import Derived.Test.YtmobkjdbjgopgaaReffnb
import Derived.Test.YtmobkjdbjgopgaaReffnc
import Derived.Test.YtmobkjdbjgopgaaReffaa
import Derived.Test.YtmobkjdbjgopgaaReffab
import Derived.Test.YtmobkjdbjgopgaaExecw
namespace Go.Proofs.Ytmobkjdbjgopgaa
open Go.RowKit
set_option linter.unusedVariables false
set_option linter.unusedSimpArgs false

set_option maxHeartbeats 1000000 in
theorem rnext_no (rd rs1 rs2 imm a b pc size : Int) (w : World) (hv : -2147483648 ≤ imm) (hv' : imm ≤ 2147483647) (a1 : 0 ≤ a) (a2 : a < 4294967296) (b1 : 0 ≤ b) (b2 : b < 4294967296) (p1 : 0 ≤ pc) (p2 : pc < 4294967296) (op : Int) (h : mayB op rd rs1 rs2 imm = false) :
    Calls Try.prog 14 #[.agg #[.int .i64 op, .int .i64 rd, .int .i64 rs1, .int .i64 rs2, .int .i32 imm], .int .u32 a, .int .u32 b, .int .u32 pc, .int .i64 size] w fun e w' => e = .returned (.int .u32 ((pc + size % 4294967296) % 4294967296)) ∧ Nx w w' := by
  go_enter Try.func14, Try.ntmps14
  go_wp2_with fail
  refine (rmay_any _ _ _ _ _ _ hv hv').mono ?_
  rintro e w1 ⟨rfl, hn1⟩
  obtain ⟨c0, c1, c2, c3, c4, hz⟩ := five_in hn1
  have HN := Lib.hid (((Nx.refl w).alloc _).trans hn1)
  clear hn1
  go_wp2
  go_ret
  exact ⟨ret_u32 (by first | rfl | omega), HN.out⟩

theorem rnext_any (op : Int) (rd rs1 rs2 imm a b pc size : Int) (w : World) (hv : -2147483648 ≤ imm) (hv' : imm ≤ 2147483647) (a1 : 0 ≤ a) (a2 : a < 4294967296) (b1 : 0 ≤ b) (b2 : b < 4294967296) (p1 : 0 ≤ pc) (p2 : pc < 4294967296) :
    Calls Try.prog 14 #[.agg #[.int .i64 op, .int .i64 rd, .int .i64 rs1, .int .i64 rs2, .int .i32 imm], .int .u32 a, .int .u32 b, .int .u32 pc, .int .i64 size] w fun e w' => e = .returned (.int .u32 (nextX (mayB op rd rs1 rs2 imm) op a b pc imm size)) ∧ Nx w w' := by
  unfold nextX
  cases h : mayB op rd rs1 rs2 imm
  · exact rnext_no rd rs1 rs2 imm a b pc size w hv hv' a1 a2 b1 b2 p1 p2 op h
  · obtain ⟨o1, o2⟩ := may_op op rd rs1 rs2 imm h
    rcases (by omega : op = 1 ∨ op = 2 ∨ op = 3 ∨ op = 4 ∨ op = 5 ∨ op = 6 ∨ op = 7 ∨ op = 8 ∨ op = 9 ∨ op = 10 ∨ op = 11 ∨ op = 12 ∨ op = 13 ∨ op = 14 ∨ op = 15 ∨ op = 16 ∨ op = 17 ∨ op = 18 ∨ op = 19 ∨ op = 20 ∨ op = 21 ∨ op = 22 ∨ op = 23 ∨ op = 24 ∨ op = 25 ∨ op = 26 ∨ op = 27 ∨ op = 28 ∨ op = 29 ∨ op = 30 ∨ op = 31 ∨ op = 32 ∨ op = 33 ∨ op = 34 ∨ op = 35 ∨ op = 36 ∨ op = 37 ∨ op = 38 ∨ op = 39 ∨ op = 40 ∨ op = 41 ∨ op = 42 ∨ op = 43 ∨ op = 44 ∨ op = 45 ∨ op = 46 ∨ op = 47 ∨ op = 48) with rfl | rfl | rfl | rfl | rfl | rfl | rfl | rfl | rfl | rfl | rfl | rfl | rfl | rfl | rfl | rfl | rfl | rfl | rfl | rfl | rfl | rfl | rfl | rfl | rfl | rfl | rfl | rfl | rfl | rfl | rfl | rfl | rfl | rfl | rfl | rfl | rfl | rfl | rfl | rfl | rfl | rfl | rfl | rfl | rfl | rfl | rfl | rfl
    · exact rnext_1 rd rs1 rs2 imm a b pc size w hv hv' a1 a2 b1 b2 p1 p2 h
    · exact rnext_2 rd rs1 rs2 imm a b pc size w hv hv' a1 a2 b1 b2 p1 p2 h
    · exact rnext_3 rd rs1 rs2 imm a b pc size w hv hv' a1 a2 b1 b2 p1 p2 h
    · exact rnext_4 rd rs1 rs2 imm a b pc size w hv hv' a1 a2 b1 b2 p1 p2 h
    · exact rnext_5 rd rs1 rs2 imm a b pc size w hv hv' a1 a2 b1 b2 p1 p2 h
    · exact rnext_6 rd rs1 rs2 imm a b pc size w hv hv' a1 a2 b1 b2 p1 p2 h
    · exact rnext_7 rd rs1 rs2 imm a b pc size w hv hv' a1 a2 b1 b2 p1 p2 h
    · exact rnext_8 rd rs1 rs2 imm a b pc size w hv hv' a1 a2 b1 b2 p1 p2 h
    · exact rnext_9 rd rs1 rs2 imm a b pc size w hv hv' a1 a2 b1 b2 p1 p2 h
    · exact rnext_10 rd rs1 rs2 imm a b pc size w hv hv' a1 a2 b1 b2 p1 p2 h
    · exact rnext_11 rd rs1 rs2 imm a b pc size w hv hv' a1 a2 b1 b2 p1 p2 h
    · exact rnext_12 rd rs1 rs2 imm a b pc size w hv hv' a1 a2 b1 b2 p1 p2 h
    · exact rnext_13 rd rs1 rs2 imm a b pc size w hv hv' a1 a2 b1 b2 p1 p2 h
    · exact rnext_14 rd rs1 rs2 imm a b pc size w hv hv' a1 a2 b1 b2 p1 p2 h
    · exact rnext_15 rd rs1 rs2 imm a b pc size w hv hv' a1 a2 b1 b2 p1 p2 h
    · exact rnext_16 rd rs1 rs2 imm a b pc size w hv hv' a1 a2 b1 b2 p1 p2 h
    · exact rnext_17 rd rs1 rs2 imm a b pc size w hv hv' a1 a2 b1 b2 p1 p2 h
    · exact rnext_18 rd rs1 rs2 imm a b pc size w hv hv' a1 a2 b1 b2 p1 p2 h
    · exact rnext_19 rd rs1 rs2 imm a b pc size w hv hv' a1 a2 b1 b2 p1 p2 h
    · exact rnext_20 rd rs1 rs2 imm a b pc size w hv hv' a1 a2 b1 b2 p1 p2 h
    · exact rnext_21 rd rs1 rs2 imm a b pc size w hv hv' a1 a2 b1 b2 p1 p2 h
    · exact rnext_22 rd rs1 rs2 imm a b pc size w hv hv' a1 a2 b1 b2 p1 p2 h
    · exact rnext_23 rd rs1 rs2 imm a b pc size w hv hv' a1 a2 b1 b2 p1 p2 h
    · exact rnext_24 rd rs1 rs2 imm a b pc size w hv hv' a1 a2 b1 b2 p1 p2 h
    · exact rnext_25 rd rs1 rs2 imm a b pc size w hv hv' a1 a2 b1 b2 p1 p2 h
    · exact rnext_26 rd rs1 rs2 imm a b pc size w hv hv' a1 a2 b1 b2 p1 p2 h
    · exact rnext_27 rd rs1 rs2 imm a b pc size w hv hv' a1 a2 b1 b2 p1 p2 h
    · exact rnext_28 rd rs1 rs2 imm a b pc size w hv hv' a1 a2 b1 b2 p1 p2 h
    · exact rnext_29 rd rs1 rs2 imm a b pc size w hv hv' a1 a2 b1 b2 p1 p2 h
    · exact rnext_30 rd rs1 rs2 imm a b pc size w hv hv' a1 a2 b1 b2 p1 p2 h
    · exact rnext_31 rd rs1 rs2 imm a b pc size w hv hv' a1 a2 b1 b2 p1 p2 h
    · exact rnext_32 rd rs1 rs2 imm a b pc size w hv hv' a1 a2 b1 b2 p1 p2 h
    · exact rnext_33 rd rs1 rs2 imm a b pc size w hv hv' a1 a2 b1 b2 p1 p2 h
    · exact rnext_34 rd rs1 rs2 imm a b pc size w hv hv' a1 a2 b1 b2 p1 p2 h
    · exact rnext_35 rd rs1 rs2 imm a b pc size w hv hv' a1 a2 b1 b2 p1 p2 h
    · exact rnext_36 rd rs1 rs2 imm a b pc size w hv hv' a1 a2 b1 b2 p1 p2 h
    · exact rnext_37 rd rs1 rs2 imm a b pc size w hv hv' a1 a2 b1 b2 p1 p2 h
    · exact rnext_38 rd rs1 rs2 imm a b pc size w hv hv' a1 a2 b1 b2 p1 p2 h
    · exact rnext_39 rd rs1 rs2 imm a b pc size w hv hv' a1 a2 b1 b2 p1 p2 h
    · exact rnext_40 rd rs1 rs2 imm a b pc size w hv hv' a1 a2 b1 b2 p1 p2 h
    · exact rnext_41 rd rs1 rs2 imm a b pc size w hv hv' a1 a2 b1 b2 p1 p2 h
    · exact rnext_42 rd rs1 rs2 imm a b pc size w hv hv' a1 a2 b1 b2 p1 p2 h
    · exact rnext_43 rd rs1 rs2 imm a b pc size w hv hv' a1 a2 b1 b2 p1 p2 h
    · exact rnext_44 rd rs1 rs2 imm a b pc size w hv hv' a1 a2 b1 b2 p1 p2 h
    · exact rnext_45 rd rs1 rs2 imm a b pc size w hv hv' a1 a2 b1 b2 p1 p2 h
    · exact rnext_46 rd rs1 rs2 imm a b pc size w hv hv' a1 a2 b1 b2 p1 p2 h
    · exact rnext_47 rd rs1 rs2 imm a b pc size w hv hv' a1 a2 b1 b2 p1 p2 h
    · exact rnext_48 rd rs1 rs2 imm a b pc size w hv hv' a1 a2 b1 b2 p1 p2 h

set_option maxHeartbeats 1000000 in
theorem raccess_no (rd rs1 rs2 imm a : Int) (w : World) (hv : -2147483648 ≤ imm) (hv' : imm ≤ 2147483647) (a1 : 0 ≤ a) (a2 : a < 4294967296) (op : Int) (h : mayB op rd rs1 rs2 imm = false) :
    Calls Try.prog 13 #[.agg #[.int .i64 op, .int .i64 rd, .int .i64 rs1, .int .i64 rs2, .int .i32 imm], .int .u32 a] w fun e w' => e = .returned (.tuple #[.int .u32 0, .int .i64 0, .bool false, .bool false]) ∧ Nx w w' := by
  go_enter Try.func13, Try.ntmps13
  go_wp2_with fail
  refine (rmay_any _ _ _ _ _ _ hv hv').mono ?_
  rintro e w1 ⟨rfl, hn1⟩
  obtain ⟨c0, c1, c2, c3, c4, hz⟩ := five_in hn1
  have HN := Lib.hid (((Nx.refl w).alloc _).trans hn1)
  clear hn1
  go_wp2
  refine bodyPost_ret (v := .tuple #[.int .u32 0, .int .i64 0, .bool false, .bool false]) (by simp [results, Try.results13, go_sem]) rfl ⟨rfl, HN.out⟩

theorem raccess_any (op : Int) (rd rs1 rs2 imm a : Int) (w : World) (hv : -2147483648 ≤ imm) (hv' : imm ≤ 2147483647) (a1 : 0 ≤ a) (a2 : a < 4294967296) :
    Calls Try.prog 13 #[.agg #[.int .i64 op, .int .i64 rd, .int .i64 rs1, .int .i64 rs2, .int .i32 imm], .int .u32 a] w fun e w' => e = .returned (.tuple #[.int .u32 (accX (mayB op rd rs1 rs2 imm) op a imm), .int .i64 (accXN (mayB op rd rs1 rs2 imm) op), .bool (mayB op rd rs1 rs2 imm && accS op), .bool (mayB op rd rs1 rs2 imm && accG op)]) ∧ Nx w w' := by
  unfold accX accXN
  cases h : mayB op rd rs1 rs2 imm
  · exact raccess_no rd rs1 rs2 imm a w hv hv' a1 a2 op h
  · obtain ⟨o1, o2⟩ := may_op op rd rs1 rs2 imm h
    rcases (by omega : op = 1 ∨ op = 2 ∨ op = 3 ∨ op = 4 ∨ op = 5 ∨ op = 6 ∨ op = 7 ∨ op = 8 ∨ op = 9 ∨ op = 10 ∨ op = 11 ∨ op = 12 ∨ op = 13 ∨ op = 14 ∨ op = 15 ∨ op = 16 ∨ op = 17 ∨ op = 18 ∨ op = 19 ∨ op = 20 ∨ op = 21 ∨ op = 22 ∨ op = 23 ∨ op = 24 ∨ op = 25 ∨ op = 26 ∨ op = 27 ∨ op = 28 ∨ op = 29 ∨ op = 30 ∨ op = 31 ∨ op = 32 ∨ op = 33 ∨ op = 34 ∨ op = 35 ∨ op = 36 ∨ op = 37 ∨ op = 38 ∨ op = 39 ∨ op = 40 ∨ op = 41 ∨ op = 42 ∨ op = 43 ∨ op = 44 ∨ op = 45 ∨ op = 46 ∨ op = 47 ∨ op = 48) with rfl | rfl | rfl | rfl | rfl | rfl | rfl | rfl | rfl | rfl | rfl | rfl | rfl | rfl | rfl | rfl | rfl | rfl | rfl | rfl | rfl | rfl | rfl | rfl | rfl | rfl | rfl | rfl | rfl | rfl | rfl | rfl | rfl | rfl | rfl | rfl | rfl | rfl | rfl | rfl | rfl | rfl | rfl | rfl | rfl | rfl | rfl | rfl
    · exact raccess_1 rd rs1 rs2 imm a w hv hv' a1 a2 h
    · exact raccess_2 rd rs1 rs2 imm a w hv hv' a1 a2 h
    · exact raccess_3 rd rs1 rs2 imm a w hv hv' a1 a2 h
    · exact raccess_4 rd rs1 rs2 imm a w hv hv' a1 a2 h
    · exact raccess_5 rd rs1 rs2 imm a w hv hv' a1 a2 h
    · exact raccess_6 rd rs1 rs2 imm a w hv hv' a1 a2 h
    · exact raccess_7 rd rs1 rs2 imm a w hv hv' a1 a2 h
    · exact raccess_8 rd rs1 rs2 imm a w hv hv' a1 a2 h
    · exact raccess_9 rd rs1 rs2 imm a w hv hv' a1 a2 h
    · exact raccess_10 rd rs1 rs2 imm a w hv hv' a1 a2 h
    · exact raccess_11 rd rs1 rs2 imm a w hv hv' a1 a2 h
    · exact raccess_12 rd rs1 rs2 imm a w hv hv' a1 a2 h
    · exact raccess_13 rd rs1 rs2 imm a w hv hv' a1 a2 h
    · exact raccess_14 rd rs1 rs2 imm a w hv hv' a1 a2 h
    · exact raccess_15 rd rs1 rs2 imm a w hv hv' a1 a2 h
    · exact raccess_16 rd rs1 rs2 imm a w hv hv' a1 a2 h
    · exact raccess_17 rd rs1 rs2 imm a w hv hv' a1 a2 h
    · exact raccess_18 rd rs1 rs2 imm a w hv hv' a1 a2 h
    · exact raccess_19 rd rs1 rs2 imm a w hv hv' a1 a2 h
    · exact raccess_20 rd rs1 rs2 imm a w hv hv' a1 a2 h
    · exact raccess_21 rd rs1 rs2 imm a w hv hv' a1 a2 h
    · exact raccess_22 rd rs1 rs2 imm a w hv hv' a1 a2 h
    · exact raccess_23 rd rs1 rs2 imm a w hv hv' a1 a2 h
    · exact raccess_24 rd rs1 rs2 imm a w hv hv' a1 a2 h
    · exact raccess_25 rd rs1 rs2 imm a w hv hv' a1 a2 h
    · exact raccess_26 rd rs1 rs2 imm a w hv hv' a1 a2 h
    · exact raccess_27 rd rs1 rs2 imm a w hv hv' a1 a2 h
    · exact raccess_28 rd rs1 rs2 imm a w hv hv' a1 a2 h
    · exact raccess_29 rd rs1 rs2 imm a w hv hv' a1 a2 h
    · exact raccess_30 rd rs1 rs2 imm a w hv hv' a1 a2 h
    · exact raccess_31 rd rs1 rs2 imm a w hv hv' a1 a2 h
    · exact raccess_32 rd rs1 rs2 imm a w hv hv' a1 a2 h
    · exact raccess_33 rd rs1 rs2 imm a w hv hv' a1 a2 h
    · exact raccess_34 rd rs1 rs2 imm a w hv hv' a1 a2 h
    · exact raccess_35 rd rs1 rs2 imm a w hv hv' a1 a2 h
    · exact raccess_36 rd rs1 rs2 imm a w hv hv' a1 a2 h
    · exact raccess_37 rd rs1 rs2 imm a w hv hv' a1 a2 h
    · exact raccess_38 rd rs1 rs2 imm a w hv hv' a1 a2 h
    · exact raccess_39 rd rs1 rs2 imm a w hv hv' a1 a2 h
    · exact raccess_40 rd rs1 rs2 imm a w hv hv' a1 a2 h
    · exact raccess_41 rd rs1 rs2 imm a w hv hv' a1 a2 h
    · exact raccess_42 rd rs1 rs2 imm a w hv hv' a1 a2 h
    · exact raccess_43 rd rs1 rs2 imm a w hv hv' a1 a2 h
    · exact raccess_44 rd rs1 rs2 imm a w hv hv' a1 a2 h
    · exact raccess_45 rd rs1 rs2 imm a w hv hv' a1 a2 h
    · exact raccess_46 rd rs1 rs2 imm a w hv hv' a1 a2 h
    · exact raccess_47 rd rs1 rs2 imm a w hv hv' a1 a2 h
    · exact raccess_48 rd rs1 rs2 imm a w hv hv' a1 a2 h

end Go.Proofs.Ytmobkjdbjgopgaa
