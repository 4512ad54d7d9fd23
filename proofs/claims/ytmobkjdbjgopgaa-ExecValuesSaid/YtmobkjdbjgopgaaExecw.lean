/- Contracts of package exec, whatever the instruction. -/
import Derived.Test.YtmobkjdbjgopgaaExecva
import Derived.Test.YtmobkjdbjgopgaaExecvb
import Derived.Test.YtmobkjdbjgopgaaExecvc
import Derived.Test.YtmobkjdbjgopgaaExecna
import Derived.Test.YtmobkjdbjgopgaaExecnb
import Derived.Test.YtmobkjdbjgopgaaExecaa
import Derived.Test.YtmobkjdbjgopgaaExecab
namespace Go.Proofs.Ytmobkjdbjgopgaa
open Go.RowKit
set_option linter.unusedVariables false
set_option linter.unusedSimpArgs false

theorem may_op (op rd rs1 rs2 imm : Int) (h : mayB op rd rs1 rs2 imm = true) : 1 ≤ op ∧ op ≤ 48 := by
  simp only [mayB, Bool.and_eq_true] at h
  have hf : ¬ formN op = 0 := by simpa using h.1
  have hop : ¬ (op < 1 ∨ 48 < op) := fun c => hf (formN_far op c)
  omega

def valX (may : Bool) (op a b pc imm size : Int) : Int := if may = true ∧ valO op = true then valV op a b pc imm size else 0

set_option maxHeartbeats 1000000 in
theorem value_no (rd rs1 rs2 imm a b pc size : Int) (w : World) (hv : -2147483648 ≤ imm) (hv' : imm ≤ 2147483647) (a1 : 0 ≤ a) (a2 : a < 4294967296) (b1 : 0 ≤ b) (b2 : b < 4294967296) (p1 : 0 ≤ pc) (p2 : pc < 4294967296) (op : Int) (h : mayB op rd rs1 rs2 imm = false) :
    Calls Try.prog 9 #[.agg #[.int .i64 op, .int .i64 rd, .int .i64 rs1, .int .i64 rs2, .int .i32 imm], .int .u32 a, .int .u32 b, .int .u32 pc, .int .i64 size] w fun e w' => e = .returned (.tuple #[.int .u32 0, .bool false]) ∧ Nx w w' := by
  go_enter Try.func9, Try.ntmps9
  go_wp2_with fail
  refine (may_any _ _ _ _ _ _ hv hv').mono ?_
  rintro e w1 ⟨rfl, hn1⟩
  obtain ⟨c0, c1, c2, c3, c4, hz⟩ := five_in hn1
  have HN := Lib.hid (((Nx.refl w).alloc _).trans hn1)
  clear hn1
  go_wp2
  go_ret2
  exact ⟨rfl, HN.out⟩

theorem value_any (op : Int) (rd rs1 rs2 imm a b pc size : Int) (w : World) (hv : -2147483648 ≤ imm) (hv' : imm ≤ 2147483647) (a1 : 0 ≤ a) (a2 : a < 4294967296) (b1 : 0 ≤ b) (b2 : b < 4294967296) (p1 : 0 ≤ pc) (p2 : pc < 4294967296) :
    Calls Try.prog 9 #[.agg #[.int .i64 op, .int .i64 rd, .int .i64 rs1, .int .i64 rs2, .int .i32 imm], .int .u32 a, .int .u32 b, .int .u32 pc, .int .i64 size] w fun e w' => e = .returned (.tuple #[.int .u32 (valX (mayB op rd rs1 rs2 imm) op a b pc imm size), .bool (mayB op rd rs1 rs2 imm && valO op)]) ∧ Nx w w' := by
  unfold valX
  cases h : mayB op rd rs1 rs2 imm
  · exact value_no rd rs1 rs2 imm a b pc size w hv hv' a1 a2 b1 b2 p1 p2 op h
  · obtain ⟨o1, o2⟩ := may_op op rd rs1 rs2 imm h
    rcases (by omega : op = 1 ∨ op = 2 ∨ op = 3 ∨ op = 4 ∨ op = 5 ∨ op = 6 ∨ op = 7 ∨ op = 8 ∨ op = 9 ∨ op = 10 ∨ op = 11 ∨ op = 12 ∨ op = 13 ∨ op = 14 ∨ op = 15 ∨ op = 16 ∨ op = 17 ∨ op = 18 ∨ op = 19 ∨ op = 20 ∨ op = 21 ∨ op = 22 ∨ op = 23 ∨ op = 24 ∨ op = 25 ∨ op = 26 ∨ op = 27 ∨ op = 28 ∨ op = 29 ∨ op = 30 ∨ op = 31 ∨ op = 32 ∨ op = 33 ∨ op = 34 ∨ op = 35 ∨ op = 36 ∨ op = 37 ∨ op = 38 ∨ op = 39 ∨ op = 40 ∨ op = 41 ∨ op = 42 ∨ op = 43 ∨ op = 44 ∨ op = 45 ∨ op = 46 ∨ op = 47 ∨ op = 48) with rfl | rfl | rfl | rfl | rfl | rfl | rfl | rfl | rfl | rfl | rfl | rfl | rfl | rfl | rfl | rfl | rfl | rfl | rfl | rfl | rfl | rfl | rfl | rfl | rfl | rfl | rfl | rfl | rfl | rfl | rfl | rfl | rfl | rfl | rfl | rfl | rfl | rfl | rfl | rfl | rfl | rfl | rfl | rfl | rfl | rfl | rfl | rfl
    · exact value_1 rd rs1 rs2 imm a b pc size w hv hv' a1 a2 b1 b2 p1 p2 h
    · exact value_2 rd rs1 rs2 imm a b pc size w hv hv' a1 a2 b1 b2 p1 p2 h
    · exact value_3 rd rs1 rs2 imm a b pc size w hv hv' a1 a2 b1 b2 p1 p2 h
    · exact value_4 rd rs1 rs2 imm a b pc size w hv hv' a1 a2 b1 b2 p1 p2 h
    · exact value_5 rd rs1 rs2 imm a b pc size w hv hv' a1 a2 b1 b2 p1 p2 h
    · exact value_6 rd rs1 rs2 imm a b pc size w hv hv' a1 a2 b1 b2 p1 p2 h
    · exact value_7 rd rs1 rs2 imm a b pc size w hv hv' a1 a2 b1 b2 p1 p2 h
    · exact value_8 rd rs1 rs2 imm a b pc size w hv hv' a1 a2 b1 b2 p1 p2 h
    · exact value_9 rd rs1 rs2 imm a b pc size w hv hv' a1 a2 b1 b2 p1 p2 h
    · exact value_10 rd rs1 rs2 imm a b pc size w hv hv' a1 a2 b1 b2 p1 p2 h
    · exact value_11 rd rs1 rs2 imm a b pc size w hv hv' a1 a2 b1 b2 p1 p2 h
    · exact value_12 rd rs1 rs2 imm a b pc size w hv hv' a1 a2 b1 b2 p1 p2 h
    · exact value_13 rd rs1 rs2 imm a b pc size w hv hv' a1 a2 b1 b2 p1 p2 h
    · exact value_14 rd rs1 rs2 imm a b pc size w hv hv' a1 a2 b1 b2 p1 p2 h
    · exact value_15 rd rs1 rs2 imm a b pc size w hv hv' a1 a2 b1 b2 p1 p2 h
    · exact value_16 rd rs1 rs2 imm a b pc size w hv hv' a1 a2 b1 b2 p1 p2 h
    · exact value_17 rd rs1 rs2 imm a b pc size w hv hv' a1 a2 b1 b2 p1 p2 h
    · exact value_18 rd rs1 rs2 imm a b pc size w hv hv' a1 a2 b1 b2 p1 p2 h
    · exact value_19 rd rs1 rs2 imm a b pc size w hv hv' a1 a2 b1 b2 p1 p2 h
    · exact value_20 rd rs1 rs2 imm a b pc size w hv hv' a1 a2 b1 b2 p1 p2 h
    · exact value_21 rd rs1 rs2 imm a b pc size w hv hv' a1 a2 b1 b2 p1 p2 h
    · exact value_22 rd rs1 rs2 imm a b pc size w hv hv' a1 a2 b1 b2 p1 p2 h
    · exact value_23 rd rs1 rs2 imm a b pc size w hv hv' a1 a2 b1 b2 p1 p2 h
    · exact value_24 rd rs1 rs2 imm a b pc size w hv hv' a1 a2 b1 b2 p1 p2 h
    · exact value_25 rd rs1 rs2 imm a b pc size w hv hv' a1 a2 b1 b2 p1 p2 h
    · exact value_26 rd rs1 rs2 imm a b pc size w hv hv' a1 a2 b1 b2 p1 p2 h
    · exact value_27 rd rs1 rs2 imm a b pc size w hv hv' a1 a2 b1 b2 p1 p2 h
    · exact value_28 rd rs1 rs2 imm a b pc size w hv hv' a1 a2 b1 b2 p1 p2 h
    · exact value_29 rd rs1 rs2 imm a b pc size w hv hv' a1 a2 b1 b2 p1 p2 h
    · exact value_30 rd rs1 rs2 imm a b pc size w hv hv' a1 a2 b1 b2 p1 p2 h
    · exact value_31 rd rs1 rs2 imm a b pc size w hv hv' a1 a2 b1 b2 p1 p2 h
    · exact value_32 rd rs1 rs2 imm a b pc size w hv hv' a1 a2 b1 b2 p1 p2 h
    · exact value_33 rd rs1 rs2 imm a b pc size w hv hv' a1 a2 b1 b2 p1 p2 h
    · exact value_34 rd rs1 rs2 imm a b pc size w hv hv' a1 a2 b1 b2 p1 p2 h
    · exact value_35 rd rs1 rs2 imm a b pc size w hv hv' a1 a2 b1 b2 p1 p2 h
    · exact value_36 rd rs1 rs2 imm a b pc size w hv hv' a1 a2 b1 b2 p1 p2 h
    · exact value_37 rd rs1 rs2 imm a b pc size w hv hv' a1 a2 b1 b2 p1 p2 h
    · exact value_38 rd rs1 rs2 imm a b pc size w hv hv' a1 a2 b1 b2 p1 p2 h
    · exact value_39 rd rs1 rs2 imm a b pc size w hv hv' a1 a2 b1 b2 p1 p2 h
    · exact value_40 rd rs1 rs2 imm a b pc size w hv hv' a1 a2 b1 b2 p1 p2 h
    · exact value_41 rd rs1 rs2 imm a b pc size w hv hv' a1 a2 b1 b2 p1 p2 h
    · exact value_42 rd rs1 rs2 imm a b pc size w hv hv' a1 a2 b1 b2 p1 p2 h
    · exact value_43 rd rs1 rs2 imm a b pc size w hv hv' a1 a2 b1 b2 p1 p2 h
    · exact value_44 rd rs1 rs2 imm a b pc size w hv hv' a1 a2 b1 b2 p1 p2 h
    · exact value_45 rd rs1 rs2 imm a b pc size w hv hv' a1 a2 b1 b2 p1 p2 h
    · exact value_46 rd rs1 rs2 imm a b pc size w hv hv' a1 a2 b1 b2 p1 p2 h
    · exact value_47 rd rs1 rs2 imm a b pc size w hv hv' a1 a2 b1 b2 p1 p2 h
    · exact value_48 rd rs1 rs2 imm a b pc size w hv hv' a1 a2 b1 b2 p1 p2 h

def nextX (may : Bool) (op a b pc imm size : Int) : Int := if may = true then nextV op a b pc imm size else (pc + size % 4294967296) % 4294967296

set_option maxHeartbeats 1000000 in
theorem next_no (rd rs1 rs2 imm a b pc size : Int) (w : World) (hv : -2147483648 ≤ imm) (hv' : imm ≤ 2147483647) (a1 : 0 ≤ a) (a2 : a < 4294967296) (b1 : 0 ≤ b) (b2 : b < 4294967296) (p1 : 0 ≤ pc) (p2 : pc < 4294967296) (op : Int) (h : mayB op rd rs1 rs2 imm = false) :
    Calls Try.prog 11 #[.agg #[.int .i64 op, .int .i64 rd, .int .i64 rs1, .int .i64 rs2, .int .i32 imm], .int .u32 a, .int .u32 b, .int .u32 pc, .int .i64 size] w fun e w' => e = .returned (.int .u32 ((pc + size % 4294967296) % 4294967296)) ∧ Nx w w' := by
  go_enter Try.func11, Try.ntmps11
  go_wp2_with fail
  refine (may_any _ _ _ _ _ _ hv hv').mono ?_
  rintro e w1 ⟨rfl, hn1⟩
  obtain ⟨c0, c1, c2, c3, c4, hz⟩ := five_in hn1
  have HN := Lib.hid (((Nx.refl w).alloc _).trans hn1)
  clear hn1
  go_wp2
  go_ret
  exact ⟨ret_u32 (by first | rfl | omega), HN.out⟩

theorem next_any (op : Int) (rd rs1 rs2 imm a b pc size : Int) (w : World) (hv : -2147483648 ≤ imm) (hv' : imm ≤ 2147483647) (a1 : 0 ≤ a) (a2 : a < 4294967296) (b1 : 0 ≤ b) (b2 : b < 4294967296) (p1 : 0 ≤ pc) (p2 : pc < 4294967296) :
    Calls Try.prog 11 #[.agg #[.int .i64 op, .int .i64 rd, .int .i64 rs1, .int .i64 rs2, .int .i32 imm], .int .u32 a, .int .u32 b, .int .u32 pc, .int .i64 size] w fun e w' => e = .returned (.int .u32 (nextX (mayB op rd rs1 rs2 imm) op a b pc imm size)) ∧ Nx w w' := by
  unfold nextX
  cases h : mayB op rd rs1 rs2 imm
  · exact next_no rd rs1 rs2 imm a b pc size w hv hv' a1 a2 b1 b2 p1 p2 op h
  · obtain ⟨o1, o2⟩ := may_op op rd rs1 rs2 imm h
    rcases (by omega : op = 1 ∨ op = 2 ∨ op = 3 ∨ op = 4 ∨ op = 5 ∨ op = 6 ∨ op = 7 ∨ op = 8 ∨ op = 9 ∨ op = 10 ∨ op = 11 ∨ op = 12 ∨ op = 13 ∨ op = 14 ∨ op = 15 ∨ op = 16 ∨ op = 17 ∨ op = 18 ∨ op = 19 ∨ op = 20 ∨ op = 21 ∨ op = 22 ∨ op = 23 ∨ op = 24 ∨ op = 25 ∨ op = 26 ∨ op = 27 ∨ op = 28 ∨ op = 29 ∨ op = 30 ∨ op = 31 ∨ op = 32 ∨ op = 33 ∨ op = 34 ∨ op = 35 ∨ op = 36 ∨ op = 37 ∨ op = 38 ∨ op = 39 ∨ op = 40 ∨ op = 41 ∨ op = 42 ∨ op = 43 ∨ op = 44 ∨ op = 45 ∨ op = 46 ∨ op = 47 ∨ op = 48) with rfl | rfl | rfl | rfl | rfl | rfl | rfl | rfl | rfl | rfl | rfl | rfl | rfl | rfl | rfl | rfl | rfl | rfl | rfl | rfl | rfl | rfl | rfl | rfl | rfl | rfl | rfl | rfl | rfl | rfl | rfl | rfl | rfl | rfl | rfl | rfl | rfl | rfl | rfl | rfl | rfl | rfl | rfl | rfl | rfl | rfl | rfl | rfl
    · exact next_1 rd rs1 rs2 imm a b pc size w hv hv' a1 a2 b1 b2 p1 p2 h
    · exact next_2 rd rs1 rs2 imm a b pc size w hv hv' a1 a2 b1 b2 p1 p2 h
    · exact next_3 rd rs1 rs2 imm a b pc size w hv hv' a1 a2 b1 b2 p1 p2 h
    · exact next_4 rd rs1 rs2 imm a b pc size w hv hv' a1 a2 b1 b2 p1 p2 h
    · exact next_5 rd rs1 rs2 imm a b pc size w hv hv' a1 a2 b1 b2 p1 p2 h
    · exact next_6 rd rs1 rs2 imm a b pc size w hv hv' a1 a2 b1 b2 p1 p2 h
    · exact next_7 rd rs1 rs2 imm a b pc size w hv hv' a1 a2 b1 b2 p1 p2 h
    · exact next_8 rd rs1 rs2 imm a b pc size w hv hv' a1 a2 b1 b2 p1 p2 h
    · exact next_9 rd rs1 rs2 imm a b pc size w hv hv' a1 a2 b1 b2 p1 p2 h
    · exact next_10 rd rs1 rs2 imm a b pc size w hv hv' a1 a2 b1 b2 p1 p2 h
    · exact next_11 rd rs1 rs2 imm a b pc size w hv hv' a1 a2 b1 b2 p1 p2 h
    · exact next_12 rd rs1 rs2 imm a b pc size w hv hv' a1 a2 b1 b2 p1 p2 h
    · exact next_13 rd rs1 rs2 imm a b pc size w hv hv' a1 a2 b1 b2 p1 p2 h
    · exact next_14 rd rs1 rs2 imm a b pc size w hv hv' a1 a2 b1 b2 p1 p2 h
    · exact next_15 rd rs1 rs2 imm a b pc size w hv hv' a1 a2 b1 b2 p1 p2 h
    · exact next_16 rd rs1 rs2 imm a b pc size w hv hv' a1 a2 b1 b2 p1 p2 h
    · exact next_17 rd rs1 rs2 imm a b pc size w hv hv' a1 a2 b1 b2 p1 p2 h
    · exact next_18 rd rs1 rs2 imm a b pc size w hv hv' a1 a2 b1 b2 p1 p2 h
    · exact next_19 rd rs1 rs2 imm a b pc size w hv hv' a1 a2 b1 b2 p1 p2 h
    · exact next_20 rd rs1 rs2 imm a b pc size w hv hv' a1 a2 b1 b2 p1 p2 h
    · exact next_21 rd rs1 rs2 imm a b pc size w hv hv' a1 a2 b1 b2 p1 p2 h
    · exact next_22 rd rs1 rs2 imm a b pc size w hv hv' a1 a2 b1 b2 p1 p2 h
    · exact next_23 rd rs1 rs2 imm a b pc size w hv hv' a1 a2 b1 b2 p1 p2 h
    · exact next_24 rd rs1 rs2 imm a b pc size w hv hv' a1 a2 b1 b2 p1 p2 h
    · exact next_25 rd rs1 rs2 imm a b pc size w hv hv' a1 a2 b1 b2 p1 p2 h
    · exact next_26 rd rs1 rs2 imm a b pc size w hv hv' a1 a2 b1 b2 p1 p2 h
    · exact next_27 rd rs1 rs2 imm a b pc size w hv hv' a1 a2 b1 b2 p1 p2 h
    · exact next_28 rd rs1 rs2 imm a b pc size w hv hv' a1 a2 b1 b2 p1 p2 h
    · exact next_29 rd rs1 rs2 imm a b pc size w hv hv' a1 a2 b1 b2 p1 p2 h
    · exact next_30 rd rs1 rs2 imm a b pc size w hv hv' a1 a2 b1 b2 p1 p2 h
    · exact next_31 rd rs1 rs2 imm a b pc size w hv hv' a1 a2 b1 b2 p1 p2 h
    · exact next_32 rd rs1 rs2 imm a b pc size w hv hv' a1 a2 b1 b2 p1 p2 h
    · exact next_33 rd rs1 rs2 imm a b pc size w hv hv' a1 a2 b1 b2 p1 p2 h
    · exact next_34 rd rs1 rs2 imm a b pc size w hv hv' a1 a2 b1 b2 p1 p2 h
    · exact next_35 rd rs1 rs2 imm a b pc size w hv hv' a1 a2 b1 b2 p1 p2 h
    · exact next_36 rd rs1 rs2 imm a b pc size w hv hv' a1 a2 b1 b2 p1 p2 h
    · exact next_37 rd rs1 rs2 imm a b pc size w hv hv' a1 a2 b1 b2 p1 p2 h
    · exact next_38 rd rs1 rs2 imm a b pc size w hv hv' a1 a2 b1 b2 p1 p2 h
    · exact next_39 rd rs1 rs2 imm a b pc size w hv hv' a1 a2 b1 b2 p1 p2 h
    · exact next_40 rd rs1 rs2 imm a b pc size w hv hv' a1 a2 b1 b2 p1 p2 h
    · exact next_41 rd rs1 rs2 imm a b pc size w hv hv' a1 a2 b1 b2 p1 p2 h
    · exact next_42 rd rs1 rs2 imm a b pc size w hv hv' a1 a2 b1 b2 p1 p2 h
    · exact next_43 rd rs1 rs2 imm a b pc size w hv hv' a1 a2 b1 b2 p1 p2 h
    · exact next_44 rd rs1 rs2 imm a b pc size w hv hv' a1 a2 b1 b2 p1 p2 h
    · exact next_45 rd rs1 rs2 imm a b pc size w hv hv' a1 a2 b1 b2 p1 p2 h
    · exact next_46 rd rs1 rs2 imm a b pc size w hv hv' a1 a2 b1 b2 p1 p2 h
    · exact next_47 rd rs1 rs2 imm a b pc size w hv hv' a1 a2 b1 b2 p1 p2 h
    · exact next_48 rd rs1 rs2 imm a b pc size w hv hv' a1 a2 b1 b2 p1 p2 h

def accX (may : Bool) (op a imm : Int) : Int := if may = true then accA op a imm else 0

def accXN (may : Bool) (op : Int) : Int := if may = true then accN op else 0

set_option maxHeartbeats 1000000 in
theorem access_no (rd rs1 rs2 imm a : Int) (w : World) (hv : -2147483648 ≤ imm) (hv' : imm ≤ 2147483647) (a1 : 0 ≤ a) (a2 : a < 4294967296) (op : Int) (h : mayB op rd rs1 rs2 imm = false) :
    Calls Try.prog 12 #[.agg #[.int .i64 op, .int .i64 rd, .int .i64 rs1, .int .i64 rs2, .int .i32 imm], .int .u32 a] w fun e w' => e = .returned (.tuple #[.int .u32 0, .int .i64 0, .bool false, .bool false]) ∧ Nx w w' := by
  go_enter Try.func12, Try.ntmps12
  go_wp2_with fail
  refine (may_any _ _ _ _ _ _ hv hv').mono ?_
  rintro e w1 ⟨rfl, hn1⟩
  obtain ⟨c0, c1, c2, c3, c4, hz⟩ := five_in hn1
  have HN := Lib.hid (((Nx.refl w).alloc _).trans hn1)
  clear hn1
  go_wp2
  refine bodyPost_ret (v := .tuple #[.int .u32 0, .int .i64 0, .bool false, .bool false]) (by simp [results, Try.results12, go_sem]) rfl ⟨rfl, HN.out⟩

theorem access_any (op : Int) (rd rs1 rs2 imm a : Int) (w : World) (hv : -2147483648 ≤ imm) (hv' : imm ≤ 2147483647) (a1 : 0 ≤ a) (a2 : a < 4294967296) :
    Calls Try.prog 12 #[.agg #[.int .i64 op, .int .i64 rd, .int .i64 rs1, .int .i64 rs2, .int .i32 imm], .int .u32 a] w fun e w' => e = .returned (.tuple #[.int .u32 (accX (mayB op rd rs1 rs2 imm) op a imm), .int .i64 (accXN (mayB op rd rs1 rs2 imm) op), .bool (mayB op rd rs1 rs2 imm && accS op), .bool (mayB op rd rs1 rs2 imm && accG op)]) ∧ Nx w w' := by
  unfold accX accXN
  cases h : mayB op rd rs1 rs2 imm
  · exact access_no rd rs1 rs2 imm a w hv hv' a1 a2 op h
  · obtain ⟨o1, o2⟩ := may_op op rd rs1 rs2 imm h
    rcases (by omega : op = 1 ∨ op = 2 ∨ op = 3 ∨ op = 4 ∨ op = 5 ∨ op = 6 ∨ op = 7 ∨ op = 8 ∨ op = 9 ∨ op = 10 ∨ op = 11 ∨ op = 12 ∨ op = 13 ∨ op = 14 ∨ op = 15 ∨ op = 16 ∨ op = 17 ∨ op = 18 ∨ op = 19 ∨ op = 20 ∨ op = 21 ∨ op = 22 ∨ op = 23 ∨ op = 24 ∨ op = 25 ∨ op = 26 ∨ op = 27 ∨ op = 28 ∨ op = 29 ∨ op = 30 ∨ op = 31 ∨ op = 32 ∨ op = 33 ∨ op = 34 ∨ op = 35 ∨ op = 36 ∨ op = 37 ∨ op = 38 ∨ op = 39 ∨ op = 40 ∨ op = 41 ∨ op = 42 ∨ op = 43 ∨ op = 44 ∨ op = 45 ∨ op = 46 ∨ op = 47 ∨ op = 48) with rfl | rfl | rfl | rfl | rfl | rfl | rfl | rfl | rfl | rfl | rfl | rfl | rfl | rfl | rfl | rfl | rfl | rfl | rfl | rfl | rfl | rfl | rfl | rfl | rfl | rfl | rfl | rfl | rfl | rfl | rfl | rfl | rfl | rfl | rfl | rfl | rfl | rfl | rfl | rfl | rfl | rfl | rfl | rfl | rfl | rfl | rfl | rfl
    · exact access_1 rd rs1 rs2 imm a w hv hv' a1 a2 h
    · exact access_2 rd rs1 rs2 imm a w hv hv' a1 a2 h
    · exact access_3 rd rs1 rs2 imm a w hv hv' a1 a2 h
    · exact access_4 rd rs1 rs2 imm a w hv hv' a1 a2 h
    · exact access_5 rd rs1 rs2 imm a w hv hv' a1 a2 h
    · exact access_6 rd rs1 rs2 imm a w hv hv' a1 a2 h
    · exact access_7 rd rs1 rs2 imm a w hv hv' a1 a2 h
    · exact access_8 rd rs1 rs2 imm a w hv hv' a1 a2 h
    · exact access_9 rd rs1 rs2 imm a w hv hv' a1 a2 h
    · exact access_10 rd rs1 rs2 imm a w hv hv' a1 a2 h
    · exact access_11 rd rs1 rs2 imm a w hv hv' a1 a2 h
    · exact access_12 rd rs1 rs2 imm a w hv hv' a1 a2 h
    · exact access_13 rd rs1 rs2 imm a w hv hv' a1 a2 h
    · exact access_14 rd rs1 rs2 imm a w hv hv' a1 a2 h
    · exact access_15 rd rs1 rs2 imm a w hv hv' a1 a2 h
    · exact access_16 rd rs1 rs2 imm a w hv hv' a1 a2 h
    · exact access_17 rd rs1 rs2 imm a w hv hv' a1 a2 h
    · exact access_18 rd rs1 rs2 imm a w hv hv' a1 a2 h
    · exact access_19 rd rs1 rs2 imm a w hv hv' a1 a2 h
    · exact access_20 rd rs1 rs2 imm a w hv hv' a1 a2 h
    · exact access_21 rd rs1 rs2 imm a w hv hv' a1 a2 h
    · exact access_22 rd rs1 rs2 imm a w hv hv' a1 a2 h
    · exact access_23 rd rs1 rs2 imm a w hv hv' a1 a2 h
    · exact access_24 rd rs1 rs2 imm a w hv hv' a1 a2 h
    · exact access_25 rd rs1 rs2 imm a w hv hv' a1 a2 h
    · exact access_26 rd rs1 rs2 imm a w hv hv' a1 a2 h
    · exact access_27 rd rs1 rs2 imm a w hv hv' a1 a2 h
    · exact access_28 rd rs1 rs2 imm a w hv hv' a1 a2 h
    · exact access_29 rd rs1 rs2 imm a w hv hv' a1 a2 h
    · exact access_30 rd rs1 rs2 imm a w hv hv' a1 a2 h
    · exact access_31 rd rs1 rs2 imm a w hv hv' a1 a2 h
    · exact access_32 rd rs1 rs2 imm a w hv hv' a1 a2 h
    · exact access_33 rd rs1 rs2 imm a w hv hv' a1 a2 h
    · exact access_34 rd rs1 rs2 imm a w hv hv' a1 a2 h
    · exact access_35 rd rs1 rs2 imm a w hv hv' a1 a2 h
    · exact access_36 rd rs1 rs2 imm a w hv hv' a1 a2 h
    · exact access_37 rd rs1 rs2 imm a w hv hv' a1 a2 h
    · exact access_38 rd rs1 rs2 imm a w hv hv' a1 a2 h
    · exact access_39 rd rs1 rs2 imm a w hv hv' a1 a2 h
    · exact access_40 rd rs1 rs2 imm a w hv hv' a1 a2 h
    · exact access_41 rd rs1 rs2 imm a w hv hv' a1 a2 h
    · exact access_42 rd rs1 rs2 imm a w hv hv' a1 a2 h
    · exact access_43 rd rs1 rs2 imm a w hv hv' a1 a2 h
    · exact access_44 rd rs1 rs2 imm a w hv hv' a1 a2 h
    · exact access_45 rd rs1 rs2 imm a w hv hv' a1 a2 h
    · exact access_46 rd rs1 rs2 imm a w hv hv' a1 a2 h
    · exact access_47 rd rs1 rs2 imm a w hv hv' a1 a2 h
    · exact access_48 rd rs1 rs2 imm a w hv hv' a1 a2 h

end Go.Proofs.Ytmobkjdbjgopgaa
