/- Parts of the proof, one behind the other. -/
import Derived.Test.YtndpgakjpokllaaGreatZsag
import Derived.Test.YtndpgakjpokllaaGreatZsax
import Derived.Test.YtndpgakjpokllaaGreatZsay
import Derived.Test.YtndpgakjpokllaaGreatZsaz
import Derived.Test.YtndpgakjpokllaaGreatZsba
/- Contracts of package typecaseref06, whatever the instruction: Value. -/
namespace Go.Proofs.YtndpgakjpokllaaGreat
open Go.RowKit
set_option linter.unusedVariables false
set_option linter.unusedSimpArgs false

set_option maxHeartbeats 1000000 in
theorem rvalue_no (rd rs1 rs2 imm a b pc size : Int) (w : World) (hv : -2147483648 ≤ imm) (hv' : imm ≤ 2147483647) (a1 : 0 ≤ a) (a2 : a < 4294967296) (b1 : 0 ≤ b) (b2 : b < 4294967296) (p1 : 0 ≤ pc) (p2 : pc < 4294967296) (op : Int) (h : mayB op rd rs1 rs2 imm = false) :
    Calls Tryz.prog 35 #[.agg #[.int .i64 op, .int .i64 rd, .int .i64 rs1, .int .i64 rs2, .int .i32 imm], .int .u32 a, .int .u32 b, .int .u32 pc, .int .i64 size] w fun e w' => e = .returned (.tuple #[.int .u32 0, .bool false]) ∧ Nx w w' := by
  go_enter Tryz.func35, Tryz.ntmps35
  go_wp2_with fail
  refine (rmay_any _ _ _ _ _ _ hv hv').mono ?_
  rintro e w1 ⟨rfl, hn1⟩
  obtain ⟨c0, c1, c2, c3, c4, hz⟩ := five_in hn1
  have HN := Lib.hid (((Nx.refl w).alloc _).trans hn1)
  clear hn1
  go_wp2
  go_ret2
  exact ⟨rfl, HN.out⟩

theorem rvalue_any (op : Int) (rd rs1 rs2 imm a b pc size : Int) (w : World) (hv : -2147483648 ≤ imm) (hv' : imm ≤ 2147483647) (a1 : 0 ≤ a) (a2 : a < 4294967296) (b1 : 0 ≤ b) (b2 : b < 4294967296) (p1 : 0 ≤ pc) (p2 : pc < 4294967296) :
    Calls Tryz.prog 35 #[.agg #[.int .i64 op, .int .i64 rd, .int .i64 rs1, .int .i64 rs2, .int .i32 imm], .int .u32 a, .int .u32 b, .int .u32 pc, .int .i64 size] w fun e w' => e = .returned (.tuple #[.int .u32 (valX (mayB op rd rs1 rs2 imm) op a b pc imm size), .bool (mayB op rd rs1 rs2 imm && valO op)]) ∧ Nx w w' := by
  unfold valX
  cases h : mayB op rd rs1 rs2 imm
  · exact rvalue_no rd rs1 rs2 imm a b pc size w hv hv' a1 a2 b1 b2 p1 p2 op h
  · obtain ⟨o1, o2⟩ := may_op op rd rs1 rs2 imm h
    rcases (by omega : op = 1 ∨ op = 2 ∨ op = 3 ∨ op = 4 ∨ op = 5 ∨ op = 6 ∨ op = 7 ∨ op = 8 ∨ op = 9 ∨ op = 10 ∨ op = 11 ∨ op = 12 ∨ op = 13 ∨ op = 14 ∨ op = 15 ∨ op = 16 ∨ op = 17 ∨ op = 18 ∨ op = 19 ∨ op = 20 ∨ op = 21 ∨ op = 22 ∨ op = 23 ∨ op = 24 ∨ op = 25 ∨ op = 26 ∨ op = 27 ∨ op = 28 ∨ op = 29 ∨ op = 30 ∨ op = 31 ∨ op = 32 ∨ op = 33 ∨ op = 34 ∨ op = 35 ∨ op = 36 ∨ op = 37 ∨ op = 38 ∨ op = 39 ∨ op = 40 ∨ op = 41 ∨ op = 42 ∨ op = 43 ∨ op = 44 ∨ op = 45 ∨ op = 46 ∨ op = 47 ∨ op = 48) with rfl | rfl | rfl | rfl | rfl | rfl | rfl | rfl | rfl | rfl | rfl | rfl | rfl | rfl | rfl | rfl | rfl | rfl | rfl | rfl | rfl | rfl | rfl | rfl | rfl | rfl | rfl | rfl | rfl | rfl | rfl | rfl | rfl | rfl | rfl | rfl | rfl | rfl | rfl | rfl | rfl | rfl | rfl | rfl | rfl | rfl | rfl | rfl
    · exact rvalue_1 rd rs1 rs2 imm a b pc size w hv hv' a1 a2 b1 b2 p1 p2 h
    · exact rvalue_2 rd rs1 rs2 imm a b pc size w hv hv' a1 a2 b1 b2 p1 p2 h
    · exact rvalue_3 rd rs1 rs2 imm a b pc size w hv hv' a1 a2 b1 b2 p1 p2 h
    · exact rvalue_4 rd rs1 rs2 imm a b pc size w hv hv' a1 a2 b1 b2 p1 p2 h
    · exact rvalue_5 rd rs1 rs2 imm a b pc size w hv hv' a1 a2 b1 b2 p1 p2 h
    · exact rvalue_6 rd rs1 rs2 imm a b pc size w hv hv' a1 a2 b1 b2 p1 p2 h
    · exact rvalue_7 rd rs1 rs2 imm a b pc size w hv hv' a1 a2 b1 b2 p1 p2 h
    · exact rvalue_8 rd rs1 rs2 imm a b pc size w hv hv' a1 a2 b1 b2 p1 p2 h
    · exact rvalue_9 rd rs1 rs2 imm a b pc size w hv hv' a1 a2 b1 b2 p1 p2 h
    · exact rvalue_10 rd rs1 rs2 imm a b pc size w hv hv' a1 a2 b1 b2 p1 p2 h
    · exact rvalue_11 rd rs1 rs2 imm a b pc size w hv hv' a1 a2 b1 b2 p1 p2 h
    · exact rvalue_12 rd rs1 rs2 imm a b pc size w hv hv' a1 a2 b1 b2 p1 p2 h
    · exact rvalue_13 rd rs1 rs2 imm a b pc size w hv hv' a1 a2 b1 b2 p1 p2 h
    · exact rvalue_14 rd rs1 rs2 imm a b pc size w hv hv' a1 a2 b1 b2 p1 p2 h
    · exact rvalue_15 rd rs1 rs2 imm a b pc size w hv hv' a1 a2 b1 b2 p1 p2 h
    · exact rvalue_16 rd rs1 rs2 imm a b pc size w hv hv' a1 a2 b1 b2 p1 p2 h
    · exact rvalue_17 rd rs1 rs2 imm a b pc size w hv hv' a1 a2 b1 b2 p1 p2 h
    · exact rvalue_18 rd rs1 rs2 imm a b pc size w hv hv' a1 a2 b1 b2 p1 p2 h
    · exact rvalue_19 rd rs1 rs2 imm a b pc size w hv hv' a1 a2 b1 b2 p1 p2 h
    · exact rvalue_20 rd rs1 rs2 imm a b pc size w hv hv' a1 a2 b1 b2 p1 p2 h
    · exact rvalue_21 rd rs1 rs2 imm a b pc size w hv hv' a1 a2 b1 b2 p1 p2 h
    · exact rvalue_22 rd rs1 rs2 imm a b pc size w hv hv' a1 a2 b1 b2 p1 p2 h
    · exact rvalue_23 rd rs1 rs2 imm a b pc size w hv hv' a1 a2 b1 b2 p1 p2 h
    · exact rvalue_24 rd rs1 rs2 imm a b pc size w hv hv' a1 a2 b1 b2 p1 p2 h
    · exact rvalue_25 rd rs1 rs2 imm a b pc size w hv hv' a1 a2 b1 b2 p1 p2 h
    · exact rvalue_26 rd rs1 rs2 imm a b pc size w hv hv' a1 a2 b1 b2 p1 p2 h
    · exact rvalue_27 rd rs1 rs2 imm a b pc size w hv hv' a1 a2 b1 b2 p1 p2 h
    · exact rvalue_28 rd rs1 rs2 imm a b pc size w hv hv' a1 a2 b1 b2 p1 p2 h
    · exact rvalue_29 rd rs1 rs2 imm a b pc size w hv hv' a1 a2 b1 b2 p1 p2 h
    · exact rvalue_30 rd rs1 rs2 imm a b pc size w hv hv' a1 a2 b1 b2 p1 p2 h
    · exact rvalue_31 rd rs1 rs2 imm a b pc size w hv hv' a1 a2 b1 b2 p1 p2 h
    · exact rvalue_32 rd rs1 rs2 imm a b pc size w hv hv' a1 a2 b1 b2 p1 p2 h
    · exact rvalue_33 rd rs1 rs2 imm a b pc size w hv hv' a1 a2 b1 b2 p1 p2 h
    · exact rvalue_34 rd rs1 rs2 imm a b pc size w hv hv' a1 a2 b1 b2 p1 p2 h
    · exact rvalue_35 rd rs1 rs2 imm a b pc size w hv hv' a1 a2 b1 b2 p1 p2 h
    · exact rvalue_36 rd rs1 rs2 imm a b pc size w hv hv' a1 a2 b1 b2 p1 p2 h
    · exact rvalue_37 rd rs1 rs2 imm a b pc size w hv hv' a1 a2 b1 b2 p1 p2 h
    · exact rvalue_38 rd rs1 rs2 imm a b pc size w hv hv' a1 a2 b1 b2 p1 p2 h
    · exact rvalue_39 rd rs1 rs2 imm a b pc size w hv hv' a1 a2 b1 b2 p1 p2 h
    · exact rvalue_40 rd rs1 rs2 imm a b pc size w hv hv' a1 a2 b1 b2 p1 p2 h
    · exact rvalue_41 rd rs1 rs2 imm a b pc size w hv hv' a1 a2 b1 b2 p1 p2 h
    · exact rvalue_42 rd rs1 rs2 imm a b pc size w hv hv' a1 a2 b1 b2 p1 p2 h
    · exact rvalue_43 rd rs1 rs2 imm a b pc size w hv hv' a1 a2 b1 b2 p1 p2 h
    · exact rvalue_44 rd rs1 rs2 imm a b pc size w hv hv' a1 a2 b1 b2 p1 p2 h
    · exact rvalue_45 rd rs1 rs2 imm a b pc size w hv hv' a1 a2 b1 b2 p1 p2 h
    · exact rvalue_46 rd rs1 rs2 imm a b pc size w hv hv' a1 a2 b1 b2 p1 p2 h
    · exact rvalue_47 rd rs1 rs2 imm a b pc size w hv hv' a1 a2 b1 b2 p1 p2 h
    · exact rvalue_48 rd rs1 rs2 imm a b pc size w hv hv' a1 a2 b1 b2 p1 p2 h

end Go.Proofs.YtndpgakjpokllaaGreat

