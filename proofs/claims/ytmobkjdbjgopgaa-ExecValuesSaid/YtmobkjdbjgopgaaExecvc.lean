/- Contracts of package exec: Value, operation by operation. -/
import Derived.Test.YtmobkjdbjgopgaaExecc
namespace Go.Proofs.Ytmobkjdbjgopgaa
open Go.RowKit
set_option linter.unusedVariables false
set_option linter.unusedSimpArgs false

set_option maxHeartbeats 1000000 in
theorem value_33 (rd rs1 rs2 imm a b pc size : Int) (w : World) (hv : -2147483648 ≤ imm) (hv' : imm ≤ 2147483647) (a1 : 0 ≤ a) (a2 : a < 4294967296) (b1 : 0 ≤ b) (b2 : b < 4294967296) (p1 : 0 ≤ pc) (p2 : pc < 4294967296) (h : mayB 33 rd rs1 rs2 imm = true) :
    Calls Try.prog 9 #[.agg #[.int .i64 33, .int .i64 rd, .int .i64 rs1, .int .i64 rs2, .int .i32 imm], .int .u32 a, .int .u32 b, .int .u32 pc, .int .i64 size] w fun e w' => e = .returned (.tuple #[.int .u32 (valV 33 a b pc imm size), .bool (valO 33)]) ∧ Nx w w' := by
  have hf : formN 33 = 8 := rfl
  have HO : Hid (valO 33 = true) := rfl
  have HV : Hid (valV 33 a b pc imm size = bits .xor .u32 a b) := rfl
  have hne : ∀ (fn : Fn) (first cap : Array Value) (w : World), (binOp .eql 40 (.func fn first cap) .nilFunc).run Try.prog w = .ok (.bool false) w := fun _ _ _ _ => rfl
  have hnn : ∀ (w : World), (binOp .eql 40 .nilFunc .nilFunc).run Try.prog w = .ok (.bool true) w := fun _ => rfl
  go_enter Try.func9, Try.ntmps9
  go_wp2_with fail
  refine (may_any _ _ _ _ _ _ hv hv').mono ?_
  rintro e w1 ⟨rfl, hn1⟩
  obtain ⟨c0, c1, c2, c3, c4, hz⟩ := five_in hn1
  have HN := Lib.hid (((Nx.refl w).alloc _).trans hn1)
  clear hn1
  go_wp2_with (go_at_call 16; refine (formOf_any _ _).mono ?_; rintro e w' ⟨rfl, rfl⟩)
  refine (reck_33 _).mono ?_
  rintro e w' ⟨rfl, rfl⟩
  go_wp2_with fail
  refine (clo_xor a b _ a1 a2 b1 b2).mono ?_
  rintro e w' ⟨rfl, rfl⟩
  go_wp2
  go_ret2
  exact ⟨ret2_ub HV.out.symm HO.out.symm, HN.out⟩

set_option maxHeartbeats 1000000 in
theorem value_34 (rd rs1 rs2 imm a b pc size : Int) (w : World) (hv : -2147483648 ≤ imm) (hv' : imm ≤ 2147483647) (a1 : 0 ≤ a) (a2 : a < 4294967296) (b1 : 0 ≤ b) (b2 : b < 4294967296) (p1 : 0 ≤ pc) (p2 : pc < 4294967296) (h : mayB 34 rd rs1 rs2 imm = true) :
    Calls Try.prog 9 #[.agg #[.int .i64 34, .int .i64 rd, .int .i64 rs1, .int .i64 rs2, .int .i32 imm], .int .u32 a, .int .u32 b, .int .u32 pc, .int .i64 size] w fun e w' => e = .returned (.tuple #[.int .u32 (valV 34 a b pc imm size), .bool (valO 34)]) ∧ Nx w w' := by
  have hf : formN 34 = 8 := rfl
  have HO : Hid (valO 34 = true) := rfl
  have HV : Hid (valV 34 a b pc imm size = a / 2 ^ (b % 32).toNat) := rfl
  have hne : ∀ (fn : Fn) (first cap : Array Value) (w : World), (binOp .eql 40 (.func fn first cap) .nilFunc).run Try.prog w = .ok (.bool false) w := fun _ _ _ _ => rfl
  have hnn : ∀ (w : World), (binOp .eql 40 .nilFunc .nilFunc).run Try.prog w = .ok (.bool true) w := fun _ => rfl
  go_enter Try.func9, Try.ntmps9
  go_wp2_with fail
  refine (may_any _ _ _ _ _ _ hv hv').mono ?_
  rintro e w1 ⟨rfl, hn1⟩
  obtain ⟨c0, c1, c2, c3, c4, hz⟩ := five_in hn1
  have HN := Lib.hid (((Nx.refl w).alloc _).trans hn1)
  clear hn1
  go_wp2_with (go_at_call 16; refine (formOf_any _ _).mono ?_; rintro e w' ⟨rfl, rfl⟩)
  refine (reck_34 _).mono ?_
  rintro e w' ⟨rfl, rfl⟩
  go_wp2_with fail
  refine (clo_srl a b _ a1 a2 b1 b2).mono ?_
  rintro e w' ⟨rfl, rfl⟩
  go_wp2
  go_ret2
  exact ⟨ret2_ub HV.out.symm HO.out.symm, HN.out⟩

set_option maxHeartbeats 1000000 in
theorem value_35 (rd rs1 rs2 imm a b pc size : Int) (w : World) (hv : -2147483648 ≤ imm) (hv' : imm ≤ 2147483647) (a1 : 0 ≤ a) (a2 : a < 4294967296) (b1 : 0 ≤ b) (b2 : b < 4294967296) (p1 : 0 ≤ pc) (p2 : pc < 4294967296) (h : mayB 35 rd rs1 rs2 imm = true) :
    Calls Try.prog 9 #[.agg #[.int .i64 35, .int .i64 rd, .int .i64 rs1, .int .i64 rs2, .int .i32 imm], .int .u32 a, .int .u32 b, .int .u32 pc, .int .i64 size] w fun e w' => e = .returned (.tuple #[.int .u32 (valV 35 a b pc imm size), .bool (valO 35)]) ∧ Nx w w' := by
  have hf : formN 35 = 8 := rfl
  have HO : Hid (valO 35 = true) := rfl
  have HV : Hid (valV 35 a b pc imm size = (wrap32 a / 2 ^ (b % 32).toNat) % 4294967296) := rfl
  have hne : ∀ (fn : Fn) (first cap : Array Value) (w : World), (binOp .eql 40 (.func fn first cap) .nilFunc).run Try.prog w = .ok (.bool false) w := fun _ _ _ _ => rfl
  have hnn : ∀ (w : World), (binOp .eql 40 .nilFunc .nilFunc).run Try.prog w = .ok (.bool true) w := fun _ => rfl
  go_enter Try.func9, Try.ntmps9
  go_wp2_with fail
  refine (may_any _ _ _ _ _ _ hv hv').mono ?_
  rintro e w1 ⟨rfl, hn1⟩
  obtain ⟨c0, c1, c2, c3, c4, hz⟩ := five_in hn1
  have HN := Lib.hid (((Nx.refl w).alloc _).trans hn1)
  clear hn1
  go_wp2_with (go_at_call 16; refine (formOf_any _ _).mono ?_; rintro e w' ⟨rfl, rfl⟩)
  refine (reck_35 _).mono ?_
  rintro e w' ⟨rfl, rfl⟩
  go_wp2_with fail
  refine (clo_sra a b _ a1 a2 b1 b2).mono ?_
  rintro e w' ⟨rfl, rfl⟩
  go_wp2
  go_ret2
  exact ⟨ret2_ub HV.out.symm HO.out.symm, HN.out⟩

set_option maxHeartbeats 1000000 in
theorem value_36 (rd rs1 rs2 imm a b pc size : Int) (w : World) (hv : -2147483648 ≤ imm) (hv' : imm ≤ 2147483647) (a1 : 0 ≤ a) (a2 : a < 4294967296) (b1 : 0 ≤ b) (b2 : b < 4294967296) (p1 : 0 ≤ pc) (p2 : pc < 4294967296) (h : mayB 36 rd rs1 rs2 imm = true) :
    Calls Try.prog 9 #[.agg #[.int .i64 36, .int .i64 rd, .int .i64 rs1, .int .i64 rs2, .int .i32 imm], .int .u32 a, .int .u32 b, .int .u32 pc, .int .i64 size] w fun e w' => e = .returned (.tuple #[.int .u32 (valV 36 a b pc imm size), .bool (valO 36)]) ∧ Nx w w' := by
  have hf : formN 36 = 8 := rfl
  have HO : Hid (valO 36 = true) := rfl
  have HV : Hid (valV 36 a b pc imm size = bits .or .u32 a b) := rfl
  have hne : ∀ (fn : Fn) (first cap : Array Value) (w : World), (binOp .eql 40 (.func fn first cap) .nilFunc).run Try.prog w = .ok (.bool false) w := fun _ _ _ _ => rfl
  have hnn : ∀ (w : World), (binOp .eql 40 .nilFunc .nilFunc).run Try.prog w = .ok (.bool true) w := fun _ => rfl
  go_enter Try.func9, Try.ntmps9
  go_wp2_with fail
  refine (may_any _ _ _ _ _ _ hv hv').mono ?_
  rintro e w1 ⟨rfl, hn1⟩
  obtain ⟨c0, c1, c2, c3, c4, hz⟩ := five_in hn1
  have HN := Lib.hid (((Nx.refl w).alloc _).trans hn1)
  clear hn1
  go_wp2_with (go_at_call 16; refine (formOf_any _ _).mono ?_; rintro e w' ⟨rfl, rfl⟩)
  refine (reck_36 _).mono ?_
  rintro e w' ⟨rfl, rfl⟩
  go_wp2_with fail
  refine (clo_or a b _ a1 a2 b1 b2).mono ?_
  rintro e w' ⟨rfl, rfl⟩
  go_wp2
  go_ret2
  exact ⟨ret2_ub HV.out.symm HO.out.symm, HN.out⟩

set_option maxHeartbeats 1000000 in
theorem value_37 (rd rs1 rs2 imm a b pc size : Int) (w : World) (hv : -2147483648 ≤ imm) (hv' : imm ≤ 2147483647) (a1 : 0 ≤ a) (a2 : a < 4294967296) (b1 : 0 ≤ b) (b2 : b < 4294967296) (p1 : 0 ≤ pc) (p2 : pc < 4294967296) (h : mayB 37 rd rs1 rs2 imm = true) :
    Calls Try.prog 9 #[.agg #[.int .i64 37, .int .i64 rd, .int .i64 rs1, .int .i64 rs2, .int .i32 imm], .int .u32 a, .int .u32 b, .int .u32 pc, .int .i64 size] w fun e w' => e = .returned (.tuple #[.int .u32 (valV 37 a b pc imm size), .bool (valO 37)]) ∧ Nx w w' := by
  have hf : formN 37 = 8 := rfl
  have HO : Hid (valO 37 = true) := rfl
  have HV : Hid (valV 37 a b pc imm size = bits .and .u32 a b) := rfl
  have hne : ∀ (fn : Fn) (first cap : Array Value) (w : World), (binOp .eql 40 (.func fn first cap) .nilFunc).run Try.prog w = .ok (.bool false) w := fun _ _ _ _ => rfl
  have hnn : ∀ (w : World), (binOp .eql 40 .nilFunc .nilFunc).run Try.prog w = .ok (.bool true) w := fun _ => rfl
  go_enter Try.func9, Try.ntmps9
  go_wp2_with fail
  refine (may_any _ _ _ _ _ _ hv hv').mono ?_
  rintro e w1 ⟨rfl, hn1⟩
  obtain ⟨c0, c1, c2, c3, c4, hz⟩ := five_in hn1
  have HN := Lib.hid (((Nx.refl w).alloc _).trans hn1)
  clear hn1
  go_wp2_with (go_at_call 16; refine (formOf_any _ _).mono ?_; rintro e w' ⟨rfl, rfl⟩)
  refine (reck_37 _).mono ?_
  rintro e w' ⟨rfl, rfl⟩
  go_wp2_with fail
  refine (clo_and a b _ a1 a2 b1 b2).mono ?_
  rintro e w' ⟨rfl, rfl⟩
  go_wp2
  go_ret2
  exact ⟨ret2_ub HV.out.symm HO.out.symm, HN.out⟩

set_option maxHeartbeats 1000000 in
theorem value_38 (rd rs1 rs2 imm a b pc size : Int) (w : World) (hv : -2147483648 ≤ imm) (hv' : imm ≤ 2147483647) (a1 : 0 ≤ a) (a2 : a < 4294967296) (b1 : 0 ≤ b) (b2 : b < 4294967296) (p1 : 0 ≤ pc) (p2 : pc < 4294967296) (h : mayB 38 rd rs1 rs2 imm = true) :
    Calls Try.prog 9 #[.agg #[.int .i64 38, .int .i64 rd, .int .i64 rs1, .int .i64 rs2, .int .i32 imm], .int .u32 a, .int .u32 b, .int .u32 pc, .int .i64 size] w fun e w' => e = .returned (.tuple #[.int .u32 (0), .bool (valO 38)]) ∧ Nx w w' := by
  have hf : formN 38 = 9 := rfl
  have HO : Hid (valO 38 = false) := rfl
  have hne : ∀ (fn : Fn) (first cap : Array Value) (w : World), (binOp .eql 40 (.func fn first cap) .nilFunc).run Try.prog w = .ok (.bool false) w := fun _ _ _ _ => rfl
  have hnn : ∀ (w : World), (binOp .eql 40 .nilFunc .nilFunc).run Try.prog w = .ok (.bool true) w := fun _ => rfl
  go_enter Try.func9, Try.ntmps9
  go_wp2_with fail
  refine (may_any _ _ _ _ _ _ hv hv').mono ?_
  rintro e w1 ⟨rfl, hn1⟩
  obtain ⟨c0, c1, c2, c3, c4, hz⟩ := five_in hn1
  have HN := Lib.hid (((Nx.refl w).alloc _).trans hn1)
  clear hn1
  go_wp2_with (go_at_call 16; refine (formOf_any _ _).mono ?_; rintro e w' ⟨rfl, rfl⟩)
  refine (reck_38 _).mono ?_
  rintro e w2 ⟨rfl, hn2⟩
  go_wp2
  go_ret2
  exact ⟨ret2_ub rfl HO.out.symm, HN.out.trans hn2⟩

set_option maxHeartbeats 1000000 in
theorem value_39 (rd rs1 rs2 imm a b pc size : Int) (w : World) (hv : -2147483648 ≤ imm) (hv' : imm ≤ 2147483647) (a1 : 0 ≤ a) (a2 : a < 4294967296) (b1 : 0 ≤ b) (b2 : b < 4294967296) (p1 : 0 ≤ pc) (p2 : pc < 4294967296) (h : mayB 39 rd rs1 rs2 imm = true) :
    Calls Try.prog 9 #[.agg #[.int .i64 39, .int .i64 rd, .int .i64 rs1, .int .i64 rs2, .int .i32 imm], .int .u32 a, .int .u32 b, .int .u32 pc, .int .i64 size] w fun e w' => e = .returned (.tuple #[.int .u32 (0), .bool (valO 39)]) ∧ Nx w w' := by
  have hf : formN 39 = 9 := rfl
  have HO : Hid (valO 39 = false) := rfl
  have hne : ∀ (fn : Fn) (first cap : Array Value) (w : World), (binOp .eql 40 (.func fn first cap) .nilFunc).run Try.prog w = .ok (.bool false) w := fun _ _ _ _ => rfl
  have hnn : ∀ (w : World), (binOp .eql 40 .nilFunc .nilFunc).run Try.prog w = .ok (.bool true) w := fun _ => rfl
  go_enter Try.func9, Try.ntmps9
  go_wp2_with fail
  refine (may_any _ _ _ _ _ _ hv hv').mono ?_
  rintro e w1 ⟨rfl, hn1⟩
  obtain ⟨c0, c1, c2, c3, c4, hz⟩ := five_in hn1
  have HN := Lib.hid (((Nx.refl w).alloc _).trans hn1)
  clear hn1
  go_wp2_with (go_at_call 16; refine (formOf_any _ _).mono ?_; rintro e w' ⟨rfl, rfl⟩)
  refine (reck_39 _).mono ?_
  rintro e w2 ⟨rfl, hn2⟩
  go_wp2
  go_ret2
  exact ⟨ret2_ub rfl HO.out.symm, HN.out.trans hn2⟩

set_option maxHeartbeats 1000000 in
theorem value_40 (rd rs1 rs2 imm a b pc size : Int) (w : World) (hv : -2147483648 ≤ imm) (hv' : imm ≤ 2147483647) (a1 : 0 ≤ a) (a2 : a < 4294967296) (b1 : 0 ≤ b) (b2 : b < 4294967296) (p1 : 0 ≤ pc) (p2 : pc < 4294967296) (h : mayB 40 rd rs1 rs2 imm = true) :
    Calls Try.prog 9 #[.agg #[.int .i64 40, .int .i64 rd, .int .i64 rs1, .int .i64 rs2, .int .i32 imm], .int .u32 a, .int .u32 b, .int .u32 pc, .int .i64 size] w fun e w' => e = .returned (.tuple #[.int .u32 (0), .bool (valO 40)]) ∧ Nx w w' := by
  have hf : formN 40 = 9 := rfl
  have HO : Hid (valO 40 = false) := rfl
  have hne : ∀ (fn : Fn) (first cap : Array Value) (w : World), (binOp .eql 40 (.func fn first cap) .nilFunc).run Try.prog w = .ok (.bool false) w := fun _ _ _ _ => rfl
  have hnn : ∀ (w : World), (binOp .eql 40 .nilFunc .nilFunc).run Try.prog w = .ok (.bool true) w := fun _ => rfl
  go_enter Try.func9, Try.ntmps9
  go_wp2_with fail
  refine (may_any _ _ _ _ _ _ hv hv').mono ?_
  rintro e w1 ⟨rfl, hn1⟩
  obtain ⟨c0, c1, c2, c3, c4, hz⟩ := five_in hn1
  have HN := Lib.hid (((Nx.refl w).alloc _).trans hn1)
  clear hn1
  go_wp2_with (go_at_call 16; refine (formOf_any _ _).mono ?_; rintro e w' ⟨rfl, rfl⟩)
  refine (reck_40 _).mono ?_
  rintro e w2 ⟨rfl, hn2⟩
  go_wp2
  go_ret2
  exact ⟨ret2_ub rfl HO.out.symm, HN.out.trans hn2⟩

set_option maxHeartbeats 1000000 in
theorem value_41 (rd rs1 rs2 imm a b pc size : Int) (w : World) (hv : -2147483648 ≤ imm) (hv' : imm ≤ 2147483647) (a1 : 0 ≤ a) (a2 : a < 4294967296) (b1 : 0 ≤ b) (b2 : b < 4294967296) (p1 : 0 ≤ pc) (p2 : pc < 4294967296) (h : mayB 41 rd rs1 rs2 imm = true) :
    Calls Try.prog 9 #[.agg #[.int .i64 41, .int .i64 rd, .int .i64 rs1, .int .i64 rs2, .int .i32 imm], .int .u32 a, .int .u32 b, .int .u32 pc, .int .i64 size] w fun e w' => e = .returned (.tuple #[.int .u32 (valV 41 a b pc imm size), .bool (valO 41)]) ∧ Nx w w' := by
  have hf : formN 41 = 8 := rfl
  have HO : Hid (valO 41 = true) := rfl
  have HV : Hid (valV 41 a b pc imm size = a * b % 4294967296) := rfl
  have hne : ∀ (fn : Fn) (first cap : Array Value) (w : World), (binOp .eql 40 (.func fn first cap) .nilFunc).run Try.prog w = .ok (.bool false) w := fun _ _ _ _ => rfl
  have hnn : ∀ (w : World), (binOp .eql 40 .nilFunc .nilFunc).run Try.prog w = .ok (.bool true) w := fun _ => rfl
  go_enter Try.func9, Try.ntmps9
  go_wp2_with fail
  refine (may_any _ _ _ _ _ _ hv hv').mono ?_
  rintro e w1 ⟨rfl, hn1⟩
  obtain ⟨c0, c1, c2, c3, c4, hz⟩ := five_in hn1
  have HN := Lib.hid (((Nx.refl w).alloc _).trans hn1)
  clear hn1
  go_wp2_with (go_at_call 16; refine (formOf_any _ _).mono ?_; rintro e w' ⟨rfl, rfl⟩)
  refine (reck_41 _).mono ?_
  rintro e w2 ⟨rfl, hn2⟩
  go_wp2_with fail
  refine (clo_mul a b _ a1 a2 b1 b2).mono ?_
  rintro e w' ⟨rfl, rfl⟩
  go_wp2
  go_ret2
  exact ⟨ret2_ub HV.out.symm HO.out.symm, HN.out.trans hn2⟩

set_option maxHeartbeats 1000000 in
theorem value_42 (rd rs1 rs2 imm a b pc size : Int) (w : World) (hv : -2147483648 ≤ imm) (hv' : imm ≤ 2147483647) (a1 : 0 ≤ a) (a2 : a < 4294967296) (b1 : 0 ≤ b) (b2 : b < 4294967296) (p1 : 0 ≤ pc) (p2 : pc < 4294967296) (h : mayB 42 rd rs1 rs2 imm = true) :
    Calls Try.prog 9 #[.agg #[.int .i64 42, .int .i64 rd, .int .i64 rs1, .int .i64 rs2, .int .i32 imm], .int .u32 a, .int .u32 b, .int .u32 pc, .int .i64 size] w fun e w' => e = .returned (.tuple #[.int .u32 (valV 42 a b pc imm size), .bool (valO 42)]) ∧ Nx w w' := by
  have hf : formN 42 = 8 := rfl
  have HO : Hid (valO 42 = true) := rfl
  have HV : Hid (valV 42 a b pc imm size = mulh a b true true) := rfl
  have hne : ∀ (fn : Fn) (first cap : Array Value) (w : World), (binOp .eql 40 (.func fn first cap) .nilFunc).run Try.prog w = .ok (.bool false) w := fun _ _ _ _ => rfl
  have hnn : ∀ (w : World), (binOp .eql 40 .nilFunc .nilFunc).run Try.prog w = .ok (.bool true) w := fun _ => rfl
  go_enter Try.func9, Try.ntmps9
  go_wp2_with fail
  refine (may_any _ _ _ _ _ _ hv hv').mono ?_
  rintro e w1 ⟨rfl, hn1⟩
  obtain ⟨c0, c1, c2, c3, c4, hz⟩ := five_in hn1
  have HN := Lib.hid (((Nx.refl w).alloc _).trans hn1)
  clear hn1
  go_wp2_with (go_at_call 16; refine (formOf_any _ _).mono ?_; rintro e w' ⟨rfl, rfl⟩)
  refine (reck_42 _).mono ?_
  rintro e w2 ⟨x, y, rfl, hx, hy, hn2⟩
  go_wp2_with fail
  refine (clo_mulh a b _ _ x y _ a1 a2 b1 b2 hx hy).mono ?_
  rintro e w3 ⟨rfl, hn3⟩
  go_wp2
  go_ret2
  exact ⟨ret2_ub HV.out.symm HO.out.symm, HN.out.trans (hn2.trans hn3)⟩

set_option maxHeartbeats 1000000 in
theorem value_43 (rd rs1 rs2 imm a b pc size : Int) (w : World) (hv : -2147483648 ≤ imm) (hv' : imm ≤ 2147483647) (a1 : 0 ≤ a) (a2 : a < 4294967296) (b1 : 0 ≤ b) (b2 : b < 4294967296) (p1 : 0 ≤ pc) (p2 : pc < 4294967296) (h : mayB 43 rd rs1 rs2 imm = true) :
    Calls Try.prog 9 #[.agg #[.int .i64 43, .int .i64 rd, .int .i64 rs1, .int .i64 rs2, .int .i32 imm], .int .u32 a, .int .u32 b, .int .u32 pc, .int .i64 size] w fun e w' => e = .returned (.tuple #[.int .u32 (valV 43 a b pc imm size), .bool (valO 43)]) ∧ Nx w w' := by
  have hf : formN 43 = 8 := rfl
  have HO : Hid (valO 43 = true) := rfl
  have HV : Hid (valV 43 a b pc imm size = mulh a b true false) := rfl
  have hne : ∀ (fn : Fn) (first cap : Array Value) (w : World), (binOp .eql 40 (.func fn first cap) .nilFunc).run Try.prog w = .ok (.bool false) w := fun _ _ _ _ => rfl
  have hnn : ∀ (w : World), (binOp .eql 40 .nilFunc .nilFunc).run Try.prog w = .ok (.bool true) w := fun _ => rfl
  go_enter Try.func9, Try.ntmps9
  go_wp2_with fail
  refine (may_any _ _ _ _ _ _ hv hv').mono ?_
  rintro e w1 ⟨rfl, hn1⟩
  obtain ⟨c0, c1, c2, c3, c4, hz⟩ := five_in hn1
  have HN := Lib.hid (((Nx.refl w).alloc _).trans hn1)
  clear hn1
  go_wp2_with (go_at_call 16; refine (formOf_any _ _).mono ?_; rintro e w' ⟨rfl, rfl⟩)
  refine (reck_43 _).mono ?_
  rintro e w2 ⟨x, y, rfl, hx, hy, hn2⟩
  go_wp2_with fail
  refine (clo_mulh a b _ _ x y _ a1 a2 b1 b2 hx hy).mono ?_
  rintro e w3 ⟨rfl, hn3⟩
  go_wp2
  go_ret2
  exact ⟨ret2_ub HV.out.symm HO.out.symm, HN.out.trans (hn2.trans hn3)⟩

set_option maxHeartbeats 1000000 in
theorem value_44 (rd rs1 rs2 imm a b pc size : Int) (w : World) (hv : -2147483648 ≤ imm) (hv' : imm ≤ 2147483647) (a1 : 0 ≤ a) (a2 : a < 4294967296) (b1 : 0 ≤ b) (b2 : b < 4294967296) (p1 : 0 ≤ pc) (p2 : pc < 4294967296) (h : mayB 44 rd rs1 rs2 imm = true) :
    Calls Try.prog 9 #[.agg #[.int .i64 44, .int .i64 rd, .int .i64 rs1, .int .i64 rs2, .int .i32 imm], .int .u32 a, .int .u32 b, .int .u32 pc, .int .i64 size] w fun e w' => e = .returned (.tuple #[.int .u32 (valV 44 a b pc imm size), .bool (valO 44)]) ∧ Nx w w' := by
  have hf : formN 44 = 8 := rfl
  have HO : Hid (valO 44 = true) := rfl
  have HV : Hid (valV 44 a b pc imm size = mulh a b false false) := rfl
  have hne : ∀ (fn : Fn) (first cap : Array Value) (w : World), (binOp .eql 40 (.func fn first cap) .nilFunc).run Try.prog w = .ok (.bool false) w := fun _ _ _ _ => rfl
  have hnn : ∀ (w : World), (binOp .eql 40 .nilFunc .nilFunc).run Try.prog w = .ok (.bool true) w := fun _ => rfl
  go_enter Try.func9, Try.ntmps9
  go_wp2_with fail
  refine (may_any _ _ _ _ _ _ hv hv').mono ?_
  rintro e w1 ⟨rfl, hn1⟩
  obtain ⟨c0, c1, c2, c3, c4, hz⟩ := five_in hn1
  have HN := Lib.hid (((Nx.refl w).alloc _).trans hn1)
  clear hn1
  go_wp2_with (go_at_call 16; refine (formOf_any _ _).mono ?_; rintro e w' ⟨rfl, rfl⟩)
  refine (reck_44 _).mono ?_
  rintro e w2 ⟨x, y, rfl, hx, hy, hn2⟩
  go_wp2_with fail
  refine (clo_mulh a b _ _ x y _ a1 a2 b1 b2 hx hy).mono ?_
  rintro e w3 ⟨rfl, hn3⟩
  go_wp2
  go_ret2
  exact ⟨ret2_ub HV.out.symm HO.out.symm, HN.out.trans (hn2.trans hn3)⟩

set_option maxHeartbeats 1000000 in
theorem value_45 (rd rs1 rs2 imm a b pc size : Int) (w : World) (hv : -2147483648 ≤ imm) (hv' : imm ≤ 2147483647) (a1 : 0 ≤ a) (a2 : a < 4294967296) (b1 : 0 ≤ b) (b2 : b < 4294967296) (p1 : 0 ≤ pc) (p2 : pc < 4294967296) (h : mayB 45 rd rs1 rs2 imm = true) :
    Calls Try.prog 9 #[.agg #[.int .i64 45, .int .i64 rd, .int .i64 rs1, .int .i64 rs2, .int .i32 imm], .int .u32 a, .int .u32 b, .int .u32 pc, .int .i64 size] w fun e w' => e = .returned (.tuple #[.int .u32 (valV 45 a b pc imm size), .bool (valO 45)]) ∧ Nx w w' := by
  have hf : formN 45 = 8 := rfl
  have HO : Hid (valO 45 = true) := rfl
  have HV : Hid (valV 45 a b pc imm size = dv a b true) := rfl
  have hne : ∀ (fn : Fn) (first cap : Array Value) (w : World), (binOp .eql 40 (.func fn first cap) .nilFunc).run Try.prog w = .ok (.bool false) w := fun _ _ _ _ => rfl
  have hnn : ∀ (w : World), (binOp .eql 40 .nilFunc .nilFunc).run Try.prog w = .ok (.bool true) w := fun _ => rfl
  go_enter Try.func9, Try.ntmps9
  go_wp2_with fail
  refine (may_any _ _ _ _ _ _ hv hv').mono ?_
  rintro e w1 ⟨rfl, hn1⟩
  obtain ⟨c0, c1, c2, c3, c4, hz⟩ := five_in hn1
  have HN := Lib.hid (((Nx.refl w).alloc _).trans hn1)
  clear hn1
  go_wp2_with (go_at_call 16; refine (formOf_any _ _).mono ?_; rintro e w' ⟨rfl, rfl⟩)
  refine (reck_45 _).mono ?_
  rintro e w2 ⟨x, rfl, hx, hn2⟩
  go_wp2_with fail
  refine (clo_div a b _ x _ a1 a2 b1 b2 hx).mono ?_
  rintro e w3 ⟨rfl, hn3⟩
  go_wp2
  go_ret2
  exact ⟨ret2_ub HV.out.symm HO.out.symm, HN.out.trans (hn2.trans hn3)⟩

set_option maxHeartbeats 1000000 in
theorem value_46 (rd rs1 rs2 imm a b pc size : Int) (w : World) (hv : -2147483648 ≤ imm) (hv' : imm ≤ 2147483647) (a1 : 0 ≤ a) (a2 : a < 4294967296) (b1 : 0 ≤ b) (b2 : b < 4294967296) (p1 : 0 ≤ pc) (p2 : pc < 4294967296) (h : mayB 46 rd rs1 rs2 imm = true) :
    Calls Try.prog 9 #[.agg #[.int .i64 46, .int .i64 rd, .int .i64 rs1, .int .i64 rs2, .int .i32 imm], .int .u32 a, .int .u32 b, .int .u32 pc, .int .i64 size] w fun e w' => e = .returned (.tuple #[.int .u32 (valV 46 a b pc imm size), .bool (valO 46)]) ∧ Nx w w' := by
  have hf : formN 46 = 8 := rfl
  have HO : Hid (valO 46 = true) := rfl
  have HV : Hid (valV 46 a b pc imm size = dv a b false) := rfl
  have hne : ∀ (fn : Fn) (first cap : Array Value) (w : World), (binOp .eql 40 (.func fn first cap) .nilFunc).run Try.prog w = .ok (.bool false) w := fun _ _ _ _ => rfl
  have hnn : ∀ (w : World), (binOp .eql 40 .nilFunc .nilFunc).run Try.prog w = .ok (.bool true) w := fun _ => rfl
  go_enter Try.func9, Try.ntmps9
  go_wp2_with fail
  refine (may_any _ _ _ _ _ _ hv hv').mono ?_
  rintro e w1 ⟨rfl, hn1⟩
  obtain ⟨c0, c1, c2, c3, c4, hz⟩ := five_in hn1
  have HN := Lib.hid (((Nx.refl w).alloc _).trans hn1)
  clear hn1
  go_wp2_with (go_at_call 16; refine (formOf_any _ _).mono ?_; rintro e w' ⟨rfl, rfl⟩)
  refine (reck_46 _).mono ?_
  rintro e w2 ⟨x, rfl, hx, hn2⟩
  go_wp2_with fail
  refine (clo_div a b _ x _ a1 a2 b1 b2 hx).mono ?_
  rintro e w3 ⟨rfl, hn3⟩
  go_wp2
  go_ret2
  exact ⟨ret2_ub HV.out.symm HO.out.symm, HN.out.trans (hn2.trans hn3)⟩

set_option maxHeartbeats 1000000 in
theorem value_47 (rd rs1 rs2 imm a b pc size : Int) (w : World) (hv : -2147483648 ≤ imm) (hv' : imm ≤ 2147483647) (a1 : 0 ≤ a) (a2 : a < 4294967296) (b1 : 0 ≤ b) (b2 : b < 4294967296) (p1 : 0 ≤ pc) (p2 : pc < 4294967296) (h : mayB 47 rd rs1 rs2 imm = true) :
    Calls Try.prog 9 #[.agg #[.int .i64 47, .int .i64 rd, .int .i64 rs1, .int .i64 rs2, .int .i32 imm], .int .u32 a, .int .u32 b, .int .u32 pc, .int .i64 size] w fun e w' => e = .returned (.tuple #[.int .u32 (valV 47 a b pc imm size), .bool (valO 47)]) ∧ Nx w w' := by
  have hf : formN 47 = 8 := rfl
  have HO : Hid (valO 47 = true) := rfl
  have HV : Hid (valV 47 a b pc imm size = rm a b true) := rfl
  have hne : ∀ (fn : Fn) (first cap : Array Value) (w : World), (binOp .eql 40 (.func fn first cap) .nilFunc).run Try.prog w = .ok (.bool false) w := fun _ _ _ _ => rfl
  have hnn : ∀ (w : World), (binOp .eql 40 .nilFunc .nilFunc).run Try.prog w = .ok (.bool true) w := fun _ => rfl
  go_enter Try.func9, Try.ntmps9
  go_wp2_with fail
  refine (may_any _ _ _ _ _ _ hv hv').mono ?_
  rintro e w1 ⟨rfl, hn1⟩
  obtain ⟨c0, c1, c2, c3, c4, hz⟩ := five_in hn1
  have HN := Lib.hid (((Nx.refl w).alloc _).trans hn1)
  clear hn1
  go_wp2_with (go_at_call 16; refine (formOf_any _ _).mono ?_; rintro e w' ⟨rfl, rfl⟩)
  refine (reck_47 _).mono ?_
  rintro e w2 ⟨x, rfl, hx, hn2⟩
  go_wp2_with fail
  refine (clo_rem a b _ x _ a1 a2 b1 b2 hx).mono ?_
  rintro e w3 ⟨rfl, hn3⟩
  go_wp2
  go_ret2
  exact ⟨ret2_ub HV.out.symm HO.out.symm, HN.out.trans (hn2.trans hn3)⟩

set_option maxHeartbeats 1000000 in
theorem value_48 (rd rs1 rs2 imm a b pc size : Int) (w : World) (hv : -2147483648 ≤ imm) (hv' : imm ≤ 2147483647) (a1 : 0 ≤ a) (a2 : a < 4294967296) (b1 : 0 ≤ b) (b2 : b < 4294967296) (p1 : 0 ≤ pc) (p2 : pc < 4294967296) (h : mayB 48 rd rs1 rs2 imm = true) :
    Calls Try.prog 9 #[.agg #[.int .i64 48, .int .i64 rd, .int .i64 rs1, .int .i64 rs2, .int .i32 imm], .int .u32 a, .int .u32 b, .int .u32 pc, .int .i64 size] w fun e w' => e = .returned (.tuple #[.int .u32 (valV 48 a b pc imm size), .bool (valO 48)]) ∧ Nx w w' := by
  have hf : formN 48 = 8 := rfl
  have HO : Hid (valO 48 = true) := rfl
  have HV : Hid (valV 48 a b pc imm size = rm a b false) := rfl
  have hne : ∀ (fn : Fn) (first cap : Array Value) (w : World), (binOp .eql 40 (.func fn first cap) .nilFunc).run Try.prog w = .ok (.bool false) w := fun _ _ _ _ => rfl
  have hnn : ∀ (w : World), (binOp .eql 40 .nilFunc .nilFunc).run Try.prog w = .ok (.bool true) w := fun _ => rfl
  go_enter Try.func9, Try.ntmps9
  go_wp2_with fail
  refine (may_any _ _ _ _ _ _ hv hv').mono ?_
  rintro e w1 ⟨rfl, hn1⟩
  obtain ⟨c0, c1, c2, c3, c4, hz⟩ := five_in hn1
  have HN := Lib.hid (((Nx.refl w).alloc _).trans hn1)
  clear hn1
  go_wp2_with (go_at_call 16; refine (formOf_any _ _).mono ?_; rintro e w' ⟨rfl, rfl⟩)
  refine (reck_48 _).mono ?_
  rintro e w2 ⟨x, rfl, hx, hn2⟩
  go_wp2_with fail
  refine (clo_rem a b _ x _ a1 a2 b1 b2 hx).mono ?_
  rintro e w3 ⟨rfl, hn3⟩
  go_wp2
  go_ret2
  exact ⟨ret2_ub HV.out.symm HO.out.symm, HN.out.trans (hn2.trans hn3)⟩

end Go.Proofs.Ytmobkjdbjgopgaa
