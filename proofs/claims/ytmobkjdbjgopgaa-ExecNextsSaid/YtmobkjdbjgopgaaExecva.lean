/- Contracts of package exec: Value, operation by operation. -/
import Derived.Test.YtmobkjdbjgopgaaExecc
namespace Go.Proofs.Ytmobkjdbjgopgaa
open Go.RowKit
set_option linter.unusedVariables false
set_option linter.unusedSimpArgs false

set_option maxHeartbeats 1000000 in
theorem value_1 (rd rs1 rs2 imm a b pc size : Int) (w : World) (hv : -2147483648 ≤ imm) (hv' : imm ≤ 2147483647) (a1 : 0 ≤ a) (a2 : a < 4294967296) (b1 : 0 ≤ b) (b2 : b < 4294967296) (p1 : 0 ≤ pc) (p2 : pc < 4294967296) (h : mayB 1 rd rs1 rs2 imm = true) :
    Calls Try.prog 9 #[.agg #[.int .i64 1, .int .i64 rd, .int .i64 rs1, .int .i64 rs2, .int .i32 imm], .int .u32 a, .int .u32 b, .int .u32 pc, .int .i64 size] w fun e w' => e = .returned (.tuple #[.int .u32 (valV 1 a b pc imm size), .bool (valO 1)]) ∧ Nx w w' := by
  have hf : formN 1 = 1 := rfl
  have HO : Hid (valO 1 = true) := rfl
  have HV : Hid (valV 1 a b pc imm size = imm % 4294967296) := rfl
  have hne : ∀ (fn : Fn) (first cap : Array Value) (w : World), (binOp .eql 40 (.func fn first cap) .nilFunc).run Try.prog w = .ok (.bool false) w := fun _ _ _ _ => rfl
  have hnn : ∀ (w : World), (binOp .eql 40 .nilFunc .nilFunc).run Try.prog w = .ok (.bool true) w := fun _ => rfl
  go_enter Try.func9, Try.ntmps9
  go_wp2_with fail
  refine (may_any _ _ _ _ _ _ hv hv').mono ?_
  rintro e w1 ⟨rfl, hn1⟩
  obtain ⟨c0, c1, c2, c3, c4, hz⟩ := five_in hn1
  have HN := Lib.hid (((Nx.refl w).alloc _).trans hn1)
  clear hn1
  go_wp2_with (go_at_call 16; refine (formOf_any _ _).mono ?_; rintro e w' ⟨rfl, rfl⟩)
  go_ret2
  exact ⟨ret2_ub HV.out.symm HO.out.symm, HN.out⟩

set_option maxHeartbeats 1000000 in
theorem value_2 (rd rs1 rs2 imm a b pc size : Int) (w : World) (hv : -2147483648 ≤ imm) (hv' : imm ≤ 2147483647) (a1 : 0 ≤ a) (a2 : a < 4294967296) (b1 : 0 ≤ b) (b2 : b < 4294967296) (p1 : 0 ≤ pc) (p2 : pc < 4294967296) (h : mayB 2 rd rs1 rs2 imm = true) :
    Calls Try.prog 9 #[.agg #[.int .i64 2, .int .i64 rd, .int .i64 rs1, .int .i64 rs2, .int .i32 imm], .int .u32 a, .int .u32 b, .int .u32 pc, .int .i64 size] w fun e w' => e = .returned (.tuple #[.int .u32 (valV 2 a b pc imm size), .bool (valO 2)]) ∧ Nx w w' := by
  have hf : formN 2 = 1 := rfl
  have HO : Hid (valO 2 = true) := rfl
  have HV : Hid (valV 2 a b pc imm size = (pc + imm % 4294967296) % 4294967296) := rfl
  have hne : ∀ (fn : Fn) (first cap : Array Value) (w : World), (binOp .eql 40 (.func fn first cap) .nilFunc).run Try.prog w = .ok (.bool false) w := fun _ _ _ _ => rfl
  have hnn : ∀ (w : World), (binOp .eql 40 .nilFunc .nilFunc).run Try.prog w = .ok (.bool true) w := fun _ => rfl
  go_enter Try.func9, Try.ntmps9
  go_wp2_with fail
  refine (may_any _ _ _ _ _ _ hv hv').mono ?_
  rintro e w1 ⟨rfl, hn1⟩
  obtain ⟨c0, c1, c2, c3, c4, hz⟩ := five_in hn1
  have HN := Lib.hid (((Nx.refl w).alloc _).trans hn1)
  clear hn1
  go_wp2_with (go_at_call 16; refine (formOf_any _ _).mono ?_; rintro e w' ⟨rfl, rfl⟩)
  go_ret2
  exact ⟨ret2_ub HV.out.symm HO.out.symm, HN.out⟩

set_option maxHeartbeats 1000000 in
theorem value_3 (rd rs1 rs2 imm a b pc size : Int) (w : World) (hv : -2147483648 ≤ imm) (hv' : imm ≤ 2147483647) (a1 : 0 ≤ a) (a2 : a < 4294967296) (b1 : 0 ≤ b) (b2 : b < 4294967296) (p1 : 0 ≤ pc) (p2 : pc < 4294967296) (h : mayB 3 rd rs1 rs2 imm = true) :
    Calls Try.prog 9 #[.agg #[.int .i64 3, .int .i64 rd, .int .i64 rs1, .int .i64 rs2, .int .i32 imm], .int .u32 a, .int .u32 b, .int .u32 pc, .int .i64 size] w fun e w' => e = .returned (.tuple #[.int .u32 (valV 3 a b pc imm size), .bool (valO 3)]) ∧ Nx w w' := by
  have hf : formN 3 = 2 := rfl
  have HO : Hid (valO 3 = true) := rfl
  have HV : Hid (valV 3 a b pc imm size = (pc + size % 4294967296) % 4294967296) := rfl
  have hne : ∀ (fn : Fn) (first cap : Array Value) (w : World), (binOp .eql 40 (.func fn first cap) .nilFunc).run Try.prog w = .ok (.bool false) w := fun _ _ _ _ => rfl
  have hnn : ∀ (w : World), (binOp .eql 40 .nilFunc .nilFunc).run Try.prog w = .ok (.bool true) w := fun _ => rfl
  go_enter Try.func9, Try.ntmps9
  go_wp2_with fail
  refine (may_any _ _ _ _ _ _ hv hv').mono ?_
  rintro e w1 ⟨rfl, hn1⟩
  obtain ⟨c0, c1, c2, c3, c4, hz⟩ := five_in hn1
  have HN := Lib.hid (((Nx.refl w).alloc _).trans hn1)
  clear hn1
  go_wp2_with (go_at_call 16; refine (formOf_any _ _).mono ?_; rintro e w' ⟨rfl, rfl⟩)
  go_ret2
  exact ⟨ret2_ub HV.out.symm HO.out.symm, HN.out⟩

set_option maxHeartbeats 1000000 in
theorem value_4 (rd rs1 rs2 imm a b pc size : Int) (w : World) (hv : -2147483648 ≤ imm) (hv' : imm ≤ 2147483647) (a1 : 0 ≤ a) (a2 : a < 4294967296) (b1 : 0 ≤ b) (b2 : b < 4294967296) (p1 : 0 ≤ pc) (p2 : pc < 4294967296) (h : mayB 4 rd rs1 rs2 imm = true) :
    Calls Try.prog 9 #[.agg #[.int .i64 4, .int .i64 rd, .int .i64 rs1, .int .i64 rs2, .int .i32 imm], .int .u32 a, .int .u32 b, .int .u32 pc, .int .i64 size] w fun e w' => e = .returned (.tuple #[.int .u32 (valV 4 a b pc imm size), .bool (valO 4)]) ∧ Nx w w' := by
  have hf : formN 4 = 4 := rfl
  have HO : Hid (valO 4 = true) := rfl
  have HV : Hid (valV 4 a b pc imm size = (pc + size % 4294967296) % 4294967296) := rfl
  have hne : ∀ (fn : Fn) (first cap : Array Value) (w : World), (binOp .eql 40 (.func fn first cap) .nilFunc).run Try.prog w = .ok (.bool false) w := fun _ _ _ _ => rfl
  have hnn : ∀ (w : World), (binOp .eql 40 .nilFunc .nilFunc).run Try.prog w = .ok (.bool true) w := fun _ => rfl
  go_enter Try.func9, Try.ntmps9
  go_wp2_with fail
  refine (may_any _ _ _ _ _ _ hv hv').mono ?_
  rintro e w1 ⟨rfl, hn1⟩
  obtain ⟨c0, c1, c2, c3, c4, hz⟩ := five_in hn1
  have HN := Lib.hid (((Nx.refl w).alloc _).trans hn1)
  clear hn1
  go_wp2_with (go_at_call 16; refine (formOf_any _ _).mono ?_; rintro e w' ⟨rfl, rfl⟩)
  go_ret2
  exact ⟨ret2_ub HV.out.symm HO.out.symm, HN.out⟩

set_option maxHeartbeats 1000000 in
theorem value_5 (rd rs1 rs2 imm a b pc size : Int) (w : World) (hv : -2147483648 ≤ imm) (hv' : imm ≤ 2147483647) (a1 : 0 ≤ a) (a2 : a < 4294967296) (b1 : 0 ≤ b) (b2 : b < 4294967296) (p1 : 0 ≤ pc) (p2 : pc < 4294967296) (h : mayB 5 rd rs1 rs2 imm = true) :
    Calls Try.prog 9 #[.agg #[.int .i64 5, .int .i64 rd, .int .i64 rs1, .int .i64 rs2, .int .i32 imm], .int .u32 a, .int .u32 b, .int .u32 pc, .int .i64 size] w fun e w' => e = .returned (.tuple #[.int .u32 (0), .bool (valO 5)]) ∧ Nx w w' := by
  have hf : formN 5 = 3 := rfl
  have HO : Hid (valO 5 = false) := rfl
  have hne : ∀ (fn : Fn) (first cap : Array Value) (w : World), (binOp .eql 40 (.func fn first cap) .nilFunc).run Try.prog w = .ok (.bool false) w := fun _ _ _ _ => rfl
  have hnn : ∀ (w : World), (binOp .eql 40 .nilFunc .nilFunc).run Try.prog w = .ok (.bool true) w := fun _ => rfl
  go_enter Try.func9, Try.ntmps9
  go_wp2_with fail
  refine (may_any _ _ _ _ _ _ hv hv').mono ?_
  rintro e w1 ⟨rfl, hn1⟩
  obtain ⟨c0, c1, c2, c3, c4, hz⟩ := five_in hn1
  have HN := Lib.hid (((Nx.refl w).alloc _).trans hn1)
  clear hn1
  go_wp2_with (go_at_call 16; refine (formOf_any _ _).mono ?_; rintro e w' ⟨rfl, rfl⟩)
  refine (reck_5 _).mono ?_
  rintro e w2 ⟨rfl, hn2⟩
  go_wp2
  go_ret2
  exact ⟨ret2_ub rfl HO.out.symm, HN.out.trans hn2⟩

set_option maxHeartbeats 1000000 in
theorem value_6 (rd rs1 rs2 imm a b pc size : Int) (w : World) (hv : -2147483648 ≤ imm) (hv' : imm ≤ 2147483647) (a1 : 0 ≤ a) (a2 : a < 4294967296) (b1 : 0 ≤ b) (b2 : b < 4294967296) (p1 : 0 ≤ pc) (p2 : pc < 4294967296) (h : mayB 6 rd rs1 rs2 imm = true) :
    Calls Try.prog 9 #[.agg #[.int .i64 6, .int .i64 rd, .int .i64 rs1, .int .i64 rs2, .int .i32 imm], .int .u32 a, .int .u32 b, .int .u32 pc, .int .i64 size] w fun e w' => e = .returned (.tuple #[.int .u32 (0), .bool (valO 6)]) ∧ Nx w w' := by
  have hf : formN 6 = 3 := rfl
  have HO : Hid (valO 6 = false) := rfl
  have hne : ∀ (fn : Fn) (first cap : Array Value) (w : World), (binOp .eql 40 (.func fn first cap) .nilFunc).run Try.prog w = .ok (.bool false) w := fun _ _ _ _ => rfl
  have hnn : ∀ (w : World), (binOp .eql 40 .nilFunc .nilFunc).run Try.prog w = .ok (.bool true) w := fun _ => rfl
  go_enter Try.func9, Try.ntmps9
  go_wp2_with fail
  refine (may_any _ _ _ _ _ _ hv hv').mono ?_
  rintro e w1 ⟨rfl, hn1⟩
  obtain ⟨c0, c1, c2, c3, c4, hz⟩ := five_in hn1
  have HN := Lib.hid (((Nx.refl w).alloc _).trans hn1)
  clear hn1
  go_wp2_with (go_at_call 16; refine (formOf_any _ _).mono ?_; rintro e w' ⟨rfl, rfl⟩)
  refine (reck_6 _).mono ?_
  rintro e w2 ⟨rfl, hn2⟩
  go_wp2
  go_ret2
  exact ⟨ret2_ub rfl HO.out.symm, HN.out.trans hn2⟩

set_option maxHeartbeats 1000000 in
theorem value_7 (rd rs1 rs2 imm a b pc size : Int) (w : World) (hv : -2147483648 ≤ imm) (hv' : imm ≤ 2147483647) (a1 : 0 ≤ a) (a2 : a < 4294967296) (b1 : 0 ≤ b) (b2 : b < 4294967296) (p1 : 0 ≤ pc) (p2 : pc < 4294967296) (h : mayB 7 rd rs1 rs2 imm = true) :
    Calls Try.prog 9 #[.agg #[.int .i64 7, .int .i64 rd, .int .i64 rs1, .int .i64 rs2, .int .i32 imm], .int .u32 a, .int .u32 b, .int .u32 pc, .int .i64 size] w fun e w' => e = .returned (.tuple #[.int .u32 (0), .bool (valO 7)]) ∧ Nx w w' := by
  have hf : formN 7 = 3 := rfl
  have HO : Hid (valO 7 = false) := rfl
  have hne : ∀ (fn : Fn) (first cap : Array Value) (w : World), (binOp .eql 40 (.func fn first cap) .nilFunc).run Try.prog w = .ok (.bool false) w := fun _ _ _ _ => rfl
  have hnn : ∀ (w : World), (binOp .eql 40 .nilFunc .nilFunc).run Try.prog w = .ok (.bool true) w := fun _ => rfl
  go_enter Try.func9, Try.ntmps9
  go_wp2_with fail
  refine (may_any _ _ _ _ _ _ hv hv').mono ?_
  rintro e w1 ⟨rfl, hn1⟩
  obtain ⟨c0, c1, c2, c3, c4, hz⟩ := five_in hn1
  have HN := Lib.hid (((Nx.refl w).alloc _).trans hn1)
  clear hn1
  go_wp2_with (go_at_call 16; refine (formOf_any _ _).mono ?_; rintro e w' ⟨rfl, rfl⟩)
  refine (reck_7 _).mono ?_
  rintro e w2 ⟨rfl, hn2⟩
  go_wp2
  go_ret2
  exact ⟨ret2_ub rfl HO.out.symm, HN.out.trans hn2⟩

set_option maxHeartbeats 1000000 in
theorem value_8 (rd rs1 rs2 imm a b pc size : Int) (w : World) (hv : -2147483648 ≤ imm) (hv' : imm ≤ 2147483647) (a1 : 0 ≤ a) (a2 : a < 4294967296) (b1 : 0 ≤ b) (b2 : b < 4294967296) (p1 : 0 ≤ pc) (p2 : pc < 4294967296) (h : mayB 8 rd rs1 rs2 imm = true) :
    Calls Try.prog 9 #[.agg #[.int .i64 8, .int .i64 rd, .int .i64 rs1, .int .i64 rs2, .int .i32 imm], .int .u32 a, .int .u32 b, .int .u32 pc, .int .i64 size] w fun e w' => e = .returned (.tuple #[.int .u32 (0), .bool (valO 8)]) ∧ Nx w w' := by
  have hf : formN 8 = 3 := rfl
  have HO : Hid (valO 8 = false) := rfl
  have hne : ∀ (fn : Fn) (first cap : Array Value) (w : World), (binOp .eql 40 (.func fn first cap) .nilFunc).run Try.prog w = .ok (.bool false) w := fun _ _ _ _ => rfl
  have hnn : ∀ (w : World), (binOp .eql 40 .nilFunc .nilFunc).run Try.prog w = .ok (.bool true) w := fun _ => rfl
  go_enter Try.func9, Try.ntmps9
  go_wp2_with fail
  refine (may_any _ _ _ _ _ _ hv hv').mono ?_
  rintro e w1 ⟨rfl, hn1⟩
  obtain ⟨c0, c1, c2, c3, c4, hz⟩ := five_in hn1
  have HN := Lib.hid (((Nx.refl w).alloc _).trans hn1)
  clear hn1
  go_wp2_with (go_at_call 16; refine (formOf_any _ _).mono ?_; rintro e w' ⟨rfl, rfl⟩)
  refine (reck_8 _).mono ?_
  rintro e w2 ⟨rfl, hn2⟩
  go_wp2
  go_ret2
  exact ⟨ret2_ub rfl HO.out.symm, HN.out.trans hn2⟩

set_option maxHeartbeats 1000000 in
theorem value_9 (rd rs1 rs2 imm a b pc size : Int) (w : World) (hv : -2147483648 ≤ imm) (hv' : imm ≤ 2147483647) (a1 : 0 ≤ a) (a2 : a < 4294967296) (b1 : 0 ≤ b) (b2 : b < 4294967296) (p1 : 0 ≤ pc) (p2 : pc < 4294967296) (h : mayB 9 rd rs1 rs2 imm = true) :
    Calls Try.prog 9 #[.agg #[.int .i64 9, .int .i64 rd, .int .i64 rs1, .int .i64 rs2, .int .i32 imm], .int .u32 a, .int .u32 b, .int .u32 pc, .int .i64 size] w fun e w' => e = .returned (.tuple #[.int .u32 (0), .bool (valO 9)]) ∧ Nx w w' := by
  have hf : formN 9 = 3 := rfl
  have HO : Hid (valO 9 = false) := rfl
  have hne : ∀ (fn : Fn) (first cap : Array Value) (w : World), (binOp .eql 40 (.func fn first cap) .nilFunc).run Try.prog w = .ok (.bool false) w := fun _ _ _ _ => rfl
  have hnn : ∀ (w : World), (binOp .eql 40 .nilFunc .nilFunc).run Try.prog w = .ok (.bool true) w := fun _ => rfl
  go_enter Try.func9, Try.ntmps9
  go_wp2_with fail
  refine (may_any _ _ _ _ _ _ hv hv').mono ?_
  rintro e w1 ⟨rfl, hn1⟩
  obtain ⟨c0, c1, c2, c3, c4, hz⟩ := five_in hn1
  have HN := Lib.hid (((Nx.refl w).alloc _).trans hn1)
  clear hn1
  go_wp2_with (go_at_call 16; refine (formOf_any _ _).mono ?_; rintro e w' ⟨rfl, rfl⟩)
  refine (reck_9 _).mono ?_
  rintro e w2 ⟨rfl, hn2⟩
  go_wp2
  go_ret2
  exact ⟨ret2_ub rfl HO.out.symm, HN.out.trans hn2⟩

set_option maxHeartbeats 1000000 in
theorem value_10 (rd rs1 rs2 imm a b pc size : Int) (w : World) (hv : -2147483648 ≤ imm) (hv' : imm ≤ 2147483647) (a1 : 0 ≤ a) (a2 : a < 4294967296) (b1 : 0 ≤ b) (b2 : b < 4294967296) (p1 : 0 ≤ pc) (p2 : pc < 4294967296) (h : mayB 10 rd rs1 rs2 imm = true) :
    Calls Try.prog 9 #[.agg #[.int .i64 10, .int .i64 rd, .int .i64 rs1, .int .i64 rs2, .int .i32 imm], .int .u32 a, .int .u32 b, .int .u32 pc, .int .i64 size] w fun e w' => e = .returned (.tuple #[.int .u32 (0), .bool (valO 10)]) ∧ Nx w w' := by
  have hf : formN 10 = 3 := rfl
  have HO : Hid (valO 10 = false) := rfl
  have hne : ∀ (fn : Fn) (first cap : Array Value) (w : World), (binOp .eql 40 (.func fn first cap) .nilFunc).run Try.prog w = .ok (.bool false) w := fun _ _ _ _ => rfl
  have hnn : ∀ (w : World), (binOp .eql 40 .nilFunc .nilFunc).run Try.prog w = .ok (.bool true) w := fun _ => rfl
  go_enter Try.func9, Try.ntmps9
  go_wp2_with fail
  refine (may_any _ _ _ _ _ _ hv hv').mono ?_
  rintro e w1 ⟨rfl, hn1⟩
  obtain ⟨c0, c1, c2, c3, c4, hz⟩ := five_in hn1
  have HN := Lib.hid (((Nx.refl w).alloc _).trans hn1)
  clear hn1
  go_wp2_with (go_at_call 16; refine (formOf_any _ _).mono ?_; rintro e w' ⟨rfl, rfl⟩)
  refine (reck_10 _).mono ?_
  rintro e w2 ⟨rfl, hn2⟩
  go_wp2
  go_ret2
  exact ⟨ret2_ub rfl HO.out.symm, HN.out.trans hn2⟩

set_option maxHeartbeats 1000000 in
theorem value_11 (rd rs1 rs2 imm a b pc size : Int) (w : World) (hv : -2147483648 ≤ imm) (hv' : imm ≤ 2147483647) (a1 : 0 ≤ a) (a2 : a < 4294967296) (b1 : 0 ≤ b) (b2 : b < 4294967296) (p1 : 0 ≤ pc) (p2 : pc < 4294967296) (h : mayB 11 rd rs1 rs2 imm = true) :
    Calls Try.prog 9 #[.agg #[.int .i64 11, .int .i64 rd, .int .i64 rs1, .int .i64 rs2, .int .i32 imm], .int .u32 a, .int .u32 b, .int .u32 pc, .int .i64 size] w fun e w' => e = .returned (.tuple #[.int .u32 (0), .bool (valO 11)]) ∧ Nx w w' := by
  have hf : formN 11 = 4 := rfl
  have HO : Hid (valO 11 = false) := rfl
  have hne : ∀ (fn : Fn) (first cap : Array Value) (w : World), (binOp .eql 40 (.func fn first cap) .nilFunc).run Try.prog w = .ok (.bool false) w := fun _ _ _ _ => rfl
  have hnn : ∀ (w : World), (binOp .eql 40 .nilFunc .nilFunc).run Try.prog w = .ok (.bool true) w := fun _ => rfl
  go_enter Try.func9, Try.ntmps9
  go_wp2_with fail
  refine (may_any _ _ _ _ _ _ hv hv').mono ?_
  rintro e w1 ⟨rfl, hn1⟩
  obtain ⟨c0, c1, c2, c3, c4, hz⟩ := five_in hn1
  have HN := Lib.hid (((Nx.refl w).alloc _).trans hn1)
  clear hn1
  go_wp2_with (go_at_call 16; refine (formOf_any _ _).mono ?_; rintro e w' ⟨rfl, rfl⟩)
  refine (reck_11 _).mono ?_
  rintro e w2 ⟨rfl, hn2⟩
  go_wp2
  go_ret2
  exact ⟨ret2_ub rfl HO.out.symm, HN.out.trans hn2⟩

set_option maxHeartbeats 1000000 in
theorem value_12 (rd rs1 rs2 imm a b pc size : Int) (w : World) (hv : -2147483648 ≤ imm) (hv' : imm ≤ 2147483647) (a1 : 0 ≤ a) (a2 : a < 4294967296) (b1 : 0 ≤ b) (b2 : b < 4294967296) (p1 : 0 ≤ pc) (p2 : pc < 4294967296) (h : mayB 12 rd rs1 rs2 imm = true) :
    Calls Try.prog 9 #[.agg #[.int .i64 12, .int .i64 rd, .int .i64 rs1, .int .i64 rs2, .int .i32 imm], .int .u32 a, .int .u32 b, .int .u32 pc, .int .i64 size] w fun e w' => e = .returned (.tuple #[.int .u32 (0), .bool (valO 12)]) ∧ Nx w w' := by
  have hf : formN 12 = 4 := rfl
  have HO : Hid (valO 12 = false) := rfl
  have hne : ∀ (fn : Fn) (first cap : Array Value) (w : World), (binOp .eql 40 (.func fn first cap) .nilFunc).run Try.prog w = .ok (.bool false) w := fun _ _ _ _ => rfl
  have hnn : ∀ (w : World), (binOp .eql 40 .nilFunc .nilFunc).run Try.prog w = .ok (.bool true) w := fun _ => rfl
  go_enter Try.func9, Try.ntmps9
  go_wp2_with fail
  refine (may_any _ _ _ _ _ _ hv hv').mono ?_
  rintro e w1 ⟨rfl, hn1⟩
  obtain ⟨c0, c1, c2, c3, c4, hz⟩ := five_in hn1
  have HN := Lib.hid (((Nx.refl w).alloc _).trans hn1)
  clear hn1
  go_wp2_with (go_at_call 16; refine (formOf_any _ _).mono ?_; rintro e w' ⟨rfl, rfl⟩)
  refine (reck_12 _).mono ?_
  rintro e w2 ⟨rfl, hn2⟩
  go_wp2
  go_ret2
  exact ⟨ret2_ub rfl HO.out.symm, HN.out.trans hn2⟩

set_option maxHeartbeats 1000000 in
theorem value_13 (rd rs1 rs2 imm a b pc size : Int) (w : World) (hv : -2147483648 ≤ imm) (hv' : imm ≤ 2147483647) (a1 : 0 ≤ a) (a2 : a < 4294967296) (b1 : 0 ≤ b) (b2 : b < 4294967296) (p1 : 0 ≤ pc) (p2 : pc < 4294967296) (h : mayB 13 rd rs1 rs2 imm = true) :
    Calls Try.prog 9 #[.agg #[.int .i64 13, .int .i64 rd, .int .i64 rs1, .int .i64 rs2, .int .i32 imm], .int .u32 a, .int .u32 b, .int .u32 pc, .int .i64 size] w fun e w' => e = .returned (.tuple #[.int .u32 (0), .bool (valO 13)]) ∧ Nx w w' := by
  have hf : formN 13 = 4 := rfl
  have HO : Hid (valO 13 = false) := rfl
  have hne : ∀ (fn : Fn) (first cap : Array Value) (w : World), (binOp .eql 40 (.func fn first cap) .nilFunc).run Try.prog w = .ok (.bool false) w := fun _ _ _ _ => rfl
  have hnn : ∀ (w : World), (binOp .eql 40 .nilFunc .nilFunc).run Try.prog w = .ok (.bool true) w := fun _ => rfl
  go_enter Try.func9, Try.ntmps9
  go_wp2_with fail
  refine (may_any _ _ _ _ _ _ hv hv').mono ?_
  rintro e w1 ⟨rfl, hn1⟩
  obtain ⟨c0, c1, c2, c3, c4, hz⟩ := five_in hn1
  have HN := Lib.hid (((Nx.refl w).alloc _).trans hn1)
  clear hn1
  go_wp2_with (go_at_call 16; refine (formOf_any _ _).mono ?_; rintro e w' ⟨rfl, rfl⟩)
  refine (reck_13 _).mono ?_
  rintro e w2 ⟨rfl, hn2⟩
  go_wp2
  go_ret2
  exact ⟨ret2_ub rfl HO.out.symm, HN.out.trans hn2⟩

set_option maxHeartbeats 1000000 in
theorem value_14 (rd rs1 rs2 imm a b pc size : Int) (w : World) (hv : -2147483648 ≤ imm) (hv' : imm ≤ 2147483647) (a1 : 0 ≤ a) (a2 : a < 4294967296) (b1 : 0 ≤ b) (b2 : b < 4294967296) (p1 : 0 ≤ pc) (p2 : pc < 4294967296) (h : mayB 14 rd rs1 rs2 imm = true) :
    Calls Try.prog 9 #[.agg #[.int .i64 14, .int .i64 rd, .int .i64 rs1, .int .i64 rs2, .int .i32 imm], .int .u32 a, .int .u32 b, .int .u32 pc, .int .i64 size] w fun e w' => e = .returned (.tuple #[.int .u32 (0), .bool (valO 14)]) ∧ Nx w w' := by
  have hf : formN 14 = 4 := rfl
  have HO : Hid (valO 14 = false) := rfl
  have hne : ∀ (fn : Fn) (first cap : Array Value) (w : World), (binOp .eql 40 (.func fn first cap) .nilFunc).run Try.prog w = .ok (.bool false) w := fun _ _ _ _ => rfl
  have hnn : ∀ (w : World), (binOp .eql 40 .nilFunc .nilFunc).run Try.prog w = .ok (.bool true) w := fun _ => rfl
  go_enter Try.func9, Try.ntmps9
  go_wp2_with fail
  refine (may_any _ _ _ _ _ _ hv hv').mono ?_
  rintro e w1 ⟨rfl, hn1⟩
  obtain ⟨c0, c1, c2, c3, c4, hz⟩ := five_in hn1
  have HN := Lib.hid (((Nx.refl w).alloc _).trans hn1)
  clear hn1
  go_wp2_with (go_at_call 16; refine (formOf_any _ _).mono ?_; rintro e w' ⟨rfl, rfl⟩)
  refine (reck_14 _).mono ?_
  rintro e w2 ⟨rfl, hn2⟩
  go_wp2
  go_ret2
  exact ⟨ret2_ub rfl HO.out.symm, HN.out.trans hn2⟩

set_option maxHeartbeats 1000000 in
theorem value_15 (rd rs1 rs2 imm a b pc size : Int) (w : World) (hv : -2147483648 ≤ imm) (hv' : imm ≤ 2147483647) (a1 : 0 ≤ a) (a2 : a < 4294967296) (b1 : 0 ≤ b) (b2 : b < 4294967296) (p1 : 0 ≤ pc) (p2 : pc < 4294967296) (h : mayB 15 rd rs1 rs2 imm = true) :
    Calls Try.prog 9 #[.agg #[.int .i64 15, .int .i64 rd, .int .i64 rs1, .int .i64 rs2, .int .i32 imm], .int .u32 a, .int .u32 b, .int .u32 pc, .int .i64 size] w fun e w' => e = .returned (.tuple #[.int .u32 (0), .bool (valO 15)]) ∧ Nx w w' := by
  have hf : formN 15 = 4 := rfl
  have HO : Hid (valO 15 = false) := rfl
  have hne : ∀ (fn : Fn) (first cap : Array Value) (w : World), (binOp .eql 40 (.func fn first cap) .nilFunc).run Try.prog w = .ok (.bool false) w := fun _ _ _ _ => rfl
  have hnn : ∀ (w : World), (binOp .eql 40 .nilFunc .nilFunc).run Try.prog w = .ok (.bool true) w := fun _ => rfl
  go_enter Try.func9, Try.ntmps9
  go_wp2_with fail
  refine (may_any _ _ _ _ _ _ hv hv').mono ?_
  rintro e w1 ⟨rfl, hn1⟩
  obtain ⟨c0, c1, c2, c3, c4, hz⟩ := five_in hn1
  have HN := Lib.hid (((Nx.refl w).alloc _).trans hn1)
  clear hn1
  go_wp2_with (go_at_call 16; refine (formOf_any _ _).mono ?_; rintro e w' ⟨rfl, rfl⟩)
  refine (reck_15 _).mono ?_
  rintro e w2 ⟨rfl, hn2⟩
  go_wp2
  go_ret2
  exact ⟨ret2_ub rfl HO.out.symm, HN.out.trans hn2⟩

set_option maxHeartbeats 1000000 in
theorem value_16 (rd rs1 rs2 imm a b pc size : Int) (w : World) (hv : -2147483648 ≤ imm) (hv' : imm ≤ 2147483647) (a1 : 0 ≤ a) (a2 : a < 4294967296) (b1 : 0 ≤ b) (b2 : b < 4294967296) (p1 : 0 ≤ pc) (p2 : pc < 4294967296) (h : mayB 16 rd rs1 rs2 imm = true) :
    Calls Try.prog 9 #[.agg #[.int .i64 16, .int .i64 rd, .int .i64 rs1, .int .i64 rs2, .int .i32 imm], .int .u32 a, .int .u32 b, .int .u32 pc, .int .i64 size] w fun e w' => e = .returned (.tuple #[.int .u32 (0), .bool (valO 16)]) ∧ Nx w w' := by
  have hf : formN 16 = 5 := rfl
  have HO : Hid (valO 16 = false) := rfl
  have hne : ∀ (fn : Fn) (first cap : Array Value) (w : World), (binOp .eql 40 (.func fn first cap) .nilFunc).run Try.prog w = .ok (.bool false) w := fun _ _ _ _ => rfl
  have hnn : ∀ (w : World), (binOp .eql 40 .nilFunc .nilFunc).run Try.prog w = .ok (.bool true) w := fun _ => rfl
  go_enter Try.func9, Try.ntmps9
  go_wp2_with fail
  refine (may_any _ _ _ _ _ _ hv hv').mono ?_
  rintro e w1 ⟨rfl, hn1⟩
  obtain ⟨c0, c1, c2, c3, c4, hz⟩ := five_in hn1
  have HN := Lib.hid (((Nx.refl w).alloc _).trans hn1)
  clear hn1
  go_wp2_with (go_at_call 16; refine (formOf_any _ _).mono ?_; rintro e w' ⟨rfl, rfl⟩)
  refine (reck_16 _).mono ?_
  rintro e w2 ⟨rfl, hn2⟩
  go_wp2
  go_ret2
  exact ⟨ret2_ub rfl HO.out.symm, HN.out.trans hn2⟩

end Go.Proofs.Ytmobkjdbjgopgaa
