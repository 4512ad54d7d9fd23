/- Contracts of package exec: Value, operation by operation. -/
import Derived.Test.YtmobkjdbjgopgaaExecc
namespace Go.Proofs.Ytmobkjdbjgopgaa
open Go.RowKit
set_option linter.unusedVariables false
set_option linter.unusedSimpArgs false

set_option maxHeartbeats 1000000 in
theorem value_17 (rd rs1 rs2 imm a b pc size : Int) (w : World) (hv : -2147483648 ≤ imm) (hv' : imm ≤ 2147483647) (a1 : 0 ≤ a) (a2 : a < 4294967296) (b1 : 0 ≤ b) (b2 : b < 4294967296) (p1 : 0 ≤ pc) (p2 : pc < 4294967296) (h : mayB 17 rd rs1 rs2 imm = true) :
    Calls Try.prog 9 #[.agg #[.int .i64 17, .int .i64 rd, .int .i64 rs1, .int .i64 rs2, .int .i32 imm], .int .u32 a, .int .u32 b, .int .u32 pc, .int .i64 size] w fun e w' => e = .returned (.tuple #[.int .u32 (0), .bool (valO 17)]) ∧ Nx w w' := by
  have hf : formN 17 = 5 := rfl
  have HO : Hid (valO 17 = false) := rfl
  have hne : ∀ (fn : Fn) (first cap : Array Value) (w : World), (binOp .eql 40 (.func fn first cap) .nilFunc).run Try.prog w = .ok (.bool false) w := fun _ _ _ _ => rfl
  have hnn : ∀ (w : World), (binOp .eql 40 .nilFunc .nilFunc).run Try.prog w = .ok (.bool true) w := fun _ => rfl
  go_enter Try.func9, Try.ntmps9
  go_wp2_with fail
  refine (may_any _ _ _ _ _ _ hv hv').mono ?_
  rintro e w1 ⟨rfl, hn1⟩
  obtain ⟨c0, c1, c2, c3, c4, hz⟩ := five_in hn1
  have HN := Lib.hid (((Nx.refl w).alloc _).trans hn1)
  clear hn1
  go_wp2_with (go_at_call 16; refine (formOf_any _ _).mono ?_; rintro e w' ⟨rfl, rfl⟩)
  refine (reck_17 _).mono ?_
  rintro e w2 ⟨rfl, hn2⟩
  go_wp2
  go_ret2
  exact ⟨ret2_ub rfl HO.out.symm, HN.out.trans hn2⟩

set_option maxHeartbeats 1000000 in
theorem value_18 (rd rs1 rs2 imm a b pc size : Int) (w : World) (hv : -2147483648 ≤ imm) (hv' : imm ≤ 2147483647) (a1 : 0 ≤ a) (a2 : a < 4294967296) (b1 : 0 ≤ b) (b2 : b < 4294967296) (p1 : 0 ≤ pc) (p2 : pc < 4294967296) (h : mayB 18 rd rs1 rs2 imm = true) :
    Calls Try.prog 9 #[.agg #[.int .i64 18, .int .i64 rd, .int .i64 rs1, .int .i64 rs2, .int .i32 imm], .int .u32 a, .int .u32 b, .int .u32 pc, .int .i64 size] w fun e w' => e = .returned (.tuple #[.int .u32 (0), .bool (valO 18)]) ∧ Nx w w' := by
  have hf : formN 18 = 5 := rfl
  have HO : Hid (valO 18 = false) := rfl
  have hne : ∀ (fn : Fn) (first cap : Array Value) (w : World), (binOp .eql 40 (.func fn first cap) .nilFunc).run Try.prog w = .ok (.bool false) w := fun _ _ _ _ => rfl
  have hnn : ∀ (w : World), (binOp .eql 40 .nilFunc .nilFunc).run Try.prog w = .ok (.bool true) w := fun _ => rfl
  go_enter Try.func9, Try.ntmps9
  go_wp2_with fail
  refine (may_any _ _ _ _ _ _ hv hv').mono ?_
  rintro e w1 ⟨rfl, hn1⟩
  obtain ⟨c0, c1, c2, c3, c4, hz⟩ := five_in hn1
  have HN := Lib.hid (((Nx.refl w).alloc _).trans hn1)
  clear hn1
  go_wp2_with (go_at_call 16; refine (formOf_any _ _).mono ?_; rintro e w' ⟨rfl, rfl⟩)
  refine (reck_18 _).mono ?_
  rintro e w2 ⟨rfl, hn2⟩
  go_wp2
  go_ret2
  exact ⟨ret2_ub rfl HO.out.symm, HN.out.trans hn2⟩

set_option maxHeartbeats 1000000 in
theorem value_19 (rd rs1 rs2 imm a b pc size : Int) (w : World) (hv : -2147483648 ≤ imm) (hv' : imm ≤ 2147483647) (a1 : 0 ≤ a) (a2 : a < 4294967296) (b1 : 0 ≤ b) (b2 : b < 4294967296) (p1 : 0 ≤ pc) (p2 : pc < 4294967296) (h : mayB 19 rd rs1 rs2 imm = true) :
    Calls Try.prog 9 #[.agg #[.int .i64 19, .int .i64 rd, .int .i64 rs1, .int .i64 rs2, .int .i32 imm], .int .u32 a, .int .u32 b, .int .u32 pc, .int .i64 size] w fun e w' => e = .returned (.tuple #[.int .u32 (valV 19 a b pc imm size), .bool (valO 19)]) ∧ Nx w w' := by
  have hf : formN 19 = 6 := rfl
  have HO : Hid (valO 19 = true) := rfl
  have i1 : 0 ≤ imm % 4294967296 := by omega
  have i2 : imm % 4294967296 < 4294967296 := by omega
  have HX : Hid (valV 19 a b pc imm size = recV 19 a (imm % 4294967296)) := rfl
  generalize hX : imm % 4294967296 = X at *
  have HXX := Lib.hid hX
  clear hX
  have HV : Hid (valV 19 a b pc imm size = (a + X) % 4294967296) := HX.out
  clear HX
  have qX : IntKind.u32.wrap imm = X := by rw [wrap_u32]; exact HXX.out
  have hne : ∀ (fn : Fn) (first cap : Array Value) (w : World), (binOp .eql 40 (.func fn first cap) .nilFunc).run Try.prog w = .ok (.bool false) w := fun _ _ _ _ => rfl
  have hnn : ∀ (w : World), (binOp .eql 40 .nilFunc .nilFunc).run Try.prog w = .ok (.bool true) w := fun _ => rfl
  go_enter Try.func9, Try.ntmps9
  go_wp2_with fail
  refine (may_any _ _ _ _ _ _ hv hv').mono ?_
  rintro e w1 ⟨rfl, hn1⟩
  obtain ⟨c0, c1, c2, c3, c4, hz⟩ := five_in hn1
  have HN := Lib.hid (((Nx.refl w).alloc _).trans hn1)
  clear hn1
  go_wp2_with (go_at_call 16; refine (formOf_any _ _).mono ?_; rintro e w' ⟨rfl, rfl⟩)
  refine (reck_19 _).mono ?_
  rintro e w' ⟨rfl, rfl⟩
  go_wp2_with fail
  refine (clo_add a X _ a1 a2 i1 i2).mono ?_
  rintro e w' ⟨rfl, rfl⟩
  go_wp2
  go_ret2
  exact ⟨ret2_ub HV.out.symm HO.out.symm, HN.out⟩

set_option maxHeartbeats 1000000 in
theorem value_20 (rd rs1 rs2 imm a b pc size : Int) (w : World) (hv : -2147483648 ≤ imm) (hv' : imm ≤ 2147483647) (a1 : 0 ≤ a) (a2 : a < 4294967296) (b1 : 0 ≤ b) (b2 : b < 4294967296) (p1 : 0 ≤ pc) (p2 : pc < 4294967296) (h : mayB 20 rd rs1 rs2 imm = true) :
    Calls Try.prog 9 #[.agg #[.int .i64 20, .int .i64 rd, .int .i64 rs1, .int .i64 rs2, .int .i32 imm], .int .u32 a, .int .u32 b, .int .u32 pc, .int .i64 size] w fun e w' => e = .returned (.tuple #[.int .u32 (valV 20 a b pc imm size), .bool (valO 20)]) ∧ Nx w w' := by
  have hf : formN 20 = 6 := rfl
  have HO : Hid (valO 20 = true) := rfl
  have i1 : 0 ≤ imm % 4294967296 := by omega
  have i2 : imm % 4294967296 < 4294967296 := by omega
  have HX : Hid (valV 20 a b pc imm size = recV 20 a (imm % 4294967296)) := rfl
  generalize hX : imm % 4294967296 = X at *
  have HXX := Lib.hid hX
  clear hX
  have HV : Hid (valV 20 a b pc imm size = ltI (wrap32 a) (wrap32 X)) := HX.out
  clear HX
  have qX : IntKind.u32.wrap imm = X := by rw [wrap_u32]; exact HXX.out
  have hne : ∀ (fn : Fn) (first cap : Array Value) (w : World), (binOp .eql 40 (.func fn first cap) .nilFunc).run Try.prog w = .ok (.bool false) w := fun _ _ _ _ => rfl
  have hnn : ∀ (w : World), (binOp .eql 40 .nilFunc .nilFunc).run Try.prog w = .ok (.bool true) w := fun _ => rfl
  go_enter Try.func9, Try.ntmps9
  go_wp2_with fail
  refine (may_any _ _ _ _ _ _ hv hv').mono ?_
  rintro e w1 ⟨rfl, hn1⟩
  obtain ⟨c0, c1, c2, c3, c4, hz⟩ := five_in hn1
  have HN := Lib.hid (((Nx.refl w).alloc _).trans hn1)
  clear hn1
  go_wp2_with (go_at_call 16; refine (formOf_any _ _).mono ?_; rintro e w' ⟨rfl, rfl⟩)
  refine (reck_20 _).mono ?_
  rintro e w' ⟨rfl, rfl⟩
  go_wp2_with fail
  refine (clo_slt a X _ a1 a2 i1 i2).mono ?_
  rintro e w' ⟨rfl, rfl⟩
  go_wp2
  go_ret2
  exact ⟨ret2_ub HV.out.symm HO.out.symm, HN.out⟩

set_option maxHeartbeats 1000000 in
theorem value_21 (rd rs1 rs2 imm a b pc size : Int) (w : World) (hv : -2147483648 ≤ imm) (hv' : imm ≤ 2147483647) (a1 : 0 ≤ a) (a2 : a < 4294967296) (b1 : 0 ≤ b) (b2 : b < 4294967296) (p1 : 0 ≤ pc) (p2 : pc < 4294967296) (h : mayB 21 rd rs1 rs2 imm = true) :
    Calls Try.prog 9 #[.agg #[.int .i64 21, .int .i64 rd, .int .i64 rs1, .int .i64 rs2, .int .i32 imm], .int .u32 a, .int .u32 b, .int .u32 pc, .int .i64 size] w fun e w' => e = .returned (.tuple #[.int .u32 (valV 21 a b pc imm size), .bool (valO 21)]) ∧ Nx w w' := by
  have hf : formN 21 = 6 := rfl
  have HO : Hid (valO 21 = true) := rfl
  have i1 : 0 ≤ imm % 4294967296 := by omega
  have i2 : imm % 4294967296 < 4294967296 := by omega
  have HX : Hid (valV 21 a b pc imm size = recV 21 a (imm % 4294967296)) := rfl
  generalize hX : imm % 4294967296 = X at *
  have HXX := Lib.hid hX
  clear hX
  have HV : Hid (valV 21 a b pc imm size = ltI a X) := HX.out
  clear HX
  have qX : IntKind.u32.wrap imm = X := by rw [wrap_u32]; exact HXX.out
  have hne : ∀ (fn : Fn) (first cap : Array Value) (w : World), (binOp .eql 40 (.func fn first cap) .nilFunc).run Try.prog w = .ok (.bool false) w := fun _ _ _ _ => rfl
  have hnn : ∀ (w : World), (binOp .eql 40 .nilFunc .nilFunc).run Try.prog w = .ok (.bool true) w := fun _ => rfl
  go_enter Try.func9, Try.ntmps9
  go_wp2_with fail
  refine (may_any _ _ _ _ _ _ hv hv').mono ?_
  rintro e w1 ⟨rfl, hn1⟩
  obtain ⟨c0, c1, c2, c3, c4, hz⟩ := five_in hn1
  have HN := Lib.hid (((Nx.refl w).alloc _).trans hn1)
  clear hn1
  go_wp2_with (go_at_call 16; refine (formOf_any _ _).mono ?_; rintro e w' ⟨rfl, rfl⟩)
  refine (reck_21 _).mono ?_
  rintro e w' ⟨rfl, rfl⟩
  go_wp2_with fail
  refine (clo_sltu a X _ a1 a2 i1 i2).mono ?_
  rintro e w' ⟨rfl, rfl⟩
  go_wp2
  go_ret2
  exact ⟨ret2_ub HV.out.symm HO.out.symm, HN.out⟩

set_option maxHeartbeats 1000000 in
theorem value_22 (rd rs1 rs2 imm a b pc size : Int) (w : World) (hv : -2147483648 ≤ imm) (hv' : imm ≤ 2147483647) (a1 : 0 ≤ a) (a2 : a < 4294967296) (b1 : 0 ≤ b) (b2 : b < 4294967296) (p1 : 0 ≤ pc) (p2 : pc < 4294967296) (h : mayB 22 rd rs1 rs2 imm = true) :
    Calls Try.prog 9 #[.agg #[.int .i64 22, .int .i64 rd, .int .i64 rs1, .int .i64 rs2, .int .i32 imm], .int .u32 a, .int .u32 b, .int .u32 pc, .int .i64 size] w fun e w' => e = .returned (.tuple #[.int .u32 (valV 22 a b pc imm size), .bool (valO 22)]) ∧ Nx w w' := by
  have hf : formN 22 = 6 := rfl
  have HO : Hid (valO 22 = true) := rfl
  have i1 : 0 ≤ imm % 4294967296 := by omega
  have i2 : imm % 4294967296 < 4294967296 := by omega
  have HX : Hid (valV 22 a b pc imm size = recV 22 a (imm % 4294967296)) := rfl
  generalize hX : imm % 4294967296 = X at *
  have HXX := Lib.hid hX
  clear hX
  have HV : Hid (valV 22 a b pc imm size = bits .xor .u32 a X) := HX.out
  clear HX
  have qX : IntKind.u32.wrap imm = X := by rw [wrap_u32]; exact HXX.out
  have hne : ∀ (fn : Fn) (first cap : Array Value) (w : World), (binOp .eql 40 (.func fn first cap) .nilFunc).run Try.prog w = .ok (.bool false) w := fun _ _ _ _ => rfl
  have hnn : ∀ (w : World), (binOp .eql 40 .nilFunc .nilFunc).run Try.prog w = .ok (.bool true) w := fun _ => rfl
  go_enter Try.func9, Try.ntmps9
  go_wp2_with fail
  refine (may_any _ _ _ _ _ _ hv hv').mono ?_
  rintro e w1 ⟨rfl, hn1⟩
  obtain ⟨c0, c1, c2, c3, c4, hz⟩ := five_in hn1
  have HN := Lib.hid (((Nx.refl w).alloc _).trans hn1)
  clear hn1
  go_wp2_with (go_at_call 16; refine (formOf_any _ _).mono ?_; rintro e w' ⟨rfl, rfl⟩)
  refine (reck_22 _).mono ?_
  rintro e w' ⟨rfl, rfl⟩
  go_wp2_with fail
  refine (clo_xor a X _ a1 a2 i1 i2).mono ?_
  rintro e w' ⟨rfl, rfl⟩
  go_wp2
  go_ret2
  exact ⟨ret2_ub HV.out.symm HO.out.symm, HN.out⟩

set_option maxHeartbeats 1000000 in
theorem value_23 (rd rs1 rs2 imm a b pc size : Int) (w : World) (hv : -2147483648 ≤ imm) (hv' : imm ≤ 2147483647) (a1 : 0 ≤ a) (a2 : a < 4294967296) (b1 : 0 ≤ b) (b2 : b < 4294967296) (p1 : 0 ≤ pc) (p2 : pc < 4294967296) (h : mayB 23 rd rs1 rs2 imm = true) :
    Calls Try.prog 9 #[.agg #[.int .i64 23, .int .i64 rd, .int .i64 rs1, .int .i64 rs2, .int .i32 imm], .int .u32 a, .int .u32 b, .int .u32 pc, .int .i64 size] w fun e w' => e = .returned (.tuple #[.int .u32 (valV 23 a b pc imm size), .bool (valO 23)]) ∧ Nx w w' := by
  have hf : formN 23 = 6 := rfl
  have HO : Hid (valO 23 = true) := rfl
  have i1 : 0 ≤ imm % 4294967296 := by omega
  have i2 : imm % 4294967296 < 4294967296 := by omega
  have HX : Hid (valV 23 a b pc imm size = recV 23 a (imm % 4294967296)) := rfl
  generalize hX : imm % 4294967296 = X at *
  have HXX := Lib.hid hX
  clear hX
  have HV : Hid (valV 23 a b pc imm size = bits .or .u32 a X) := HX.out
  clear HX
  have qX : IntKind.u32.wrap imm = X := by rw [wrap_u32]; exact HXX.out
  have hne : ∀ (fn : Fn) (first cap : Array Value) (w : World), (binOp .eql 40 (.func fn first cap) .nilFunc).run Try.prog w = .ok (.bool false) w := fun _ _ _ _ => rfl
  have hnn : ∀ (w : World), (binOp .eql 40 .nilFunc .nilFunc).run Try.prog w = .ok (.bool true) w := fun _ => rfl
  go_enter Try.func9, Try.ntmps9
  go_wp2_with fail
  refine (may_any _ _ _ _ _ _ hv hv').mono ?_
  rintro e w1 ⟨rfl, hn1⟩
  obtain ⟨c0, c1, c2, c3, c4, hz⟩ := five_in hn1
  have HN := Lib.hid (((Nx.refl w).alloc _).trans hn1)
  clear hn1
  go_wp2_with (go_at_call 16; refine (formOf_any _ _).mono ?_; rintro e w' ⟨rfl, rfl⟩)
  refine (reck_23 _).mono ?_
  rintro e w' ⟨rfl, rfl⟩
  go_wp2_with fail
  refine (clo_or a X _ a1 a2 i1 i2).mono ?_
  rintro e w' ⟨rfl, rfl⟩
  go_wp2
  go_ret2
  exact ⟨ret2_ub HV.out.symm HO.out.symm, HN.out⟩

set_option maxHeartbeats 1000000 in
theorem value_24 (rd rs1 rs2 imm a b pc size : Int) (w : World) (hv : -2147483648 ≤ imm) (hv' : imm ≤ 2147483647) (a1 : 0 ≤ a) (a2 : a < 4294967296) (b1 : 0 ≤ b) (b2 : b < 4294967296) (p1 : 0 ≤ pc) (p2 : pc < 4294967296) (h : mayB 24 rd rs1 rs2 imm = true) :
    Calls Try.prog 9 #[.agg #[.int .i64 24, .int .i64 rd, .int .i64 rs1, .int .i64 rs2, .int .i32 imm], .int .u32 a, .int .u32 b, .int .u32 pc, .int .i64 size] w fun e w' => e = .returned (.tuple #[.int .u32 (valV 24 a b pc imm size), .bool (valO 24)]) ∧ Nx w w' := by
  have hf : formN 24 = 6 := rfl
  have HO : Hid (valO 24 = true) := rfl
  have i1 : 0 ≤ imm % 4294967296 := by omega
  have i2 : imm % 4294967296 < 4294967296 := by omega
  have HX : Hid (valV 24 a b pc imm size = recV 24 a (imm % 4294967296)) := rfl
  generalize hX : imm % 4294967296 = X at *
  have HXX := Lib.hid hX
  clear hX
  have HV : Hid (valV 24 a b pc imm size = bits .and .u32 a X) := HX.out
  clear HX
  have qX : IntKind.u32.wrap imm = X := by rw [wrap_u32]; exact HXX.out
  have hne : ∀ (fn : Fn) (first cap : Array Value) (w : World), (binOp .eql 40 (.func fn first cap) .nilFunc).run Try.prog w = .ok (.bool false) w := fun _ _ _ _ => rfl
  have hnn : ∀ (w : World), (binOp .eql 40 .nilFunc .nilFunc).run Try.prog w = .ok (.bool true) w := fun _ => rfl
  go_enter Try.func9, Try.ntmps9
  go_wp2_with fail
  refine (may_any _ _ _ _ _ _ hv hv').mono ?_
  rintro e w1 ⟨rfl, hn1⟩
  obtain ⟨c0, c1, c2, c3, c4, hz⟩ := five_in hn1
  have HN := Lib.hid (((Nx.refl w).alloc _).trans hn1)
  clear hn1
  go_wp2_with (go_at_call 16; refine (formOf_any _ _).mono ?_; rintro e w' ⟨rfl, rfl⟩)
  refine (reck_24 _).mono ?_
  rintro e w' ⟨rfl, rfl⟩
  go_wp2_with fail
  refine (clo_and a X _ a1 a2 i1 i2).mono ?_
  rintro e w' ⟨rfl, rfl⟩
  go_wp2
  go_ret2
  exact ⟨ret2_ub HV.out.symm HO.out.symm, HN.out⟩

set_option maxHeartbeats 1000000 in
theorem value_25 (rd rs1 rs2 imm a b pc size : Int) (w : World) (hv : -2147483648 ≤ imm) (hv' : imm ≤ 2147483647) (a1 : 0 ≤ a) (a2 : a < 4294967296) (b1 : 0 ≤ b) (b2 : b < 4294967296) (p1 : 0 ≤ pc) (p2 : pc < 4294967296) (h : mayB 25 rd rs1 rs2 imm = true) :
    Calls Try.prog 9 #[.agg #[.int .i64 25, .int .i64 rd, .int .i64 rs1, .int .i64 rs2, .int .i32 imm], .int .u32 a, .int .u32 b, .int .u32 pc, .int .i64 size] w fun e w' => e = .returned (.tuple #[.int .u32 (valV 25 a b pc imm size), .bool (valO 25)]) ∧ Nx w w' := by
  have hf : formN 25 = 7 := rfl
  have HO : Hid (valO 25 = true) := rfl
  have i1 : 0 ≤ imm % 4294967296 := by omega
  have i2 : imm % 4294967296 < 4294967296 := by omega
  have HX : Hid (valV 25 a b pc imm size = recV 25 a (imm % 4294967296)) := rfl
  generalize hX : imm % 4294967296 = X at *
  have HXX := Lib.hid hX
  clear hX
  have HV : Hid (valV 25 a b pc imm size = a * 2 ^ (X % 32).toNat % 4294967296) := HX.out
  clear HX
  have qX : IntKind.u32.wrap imm = X := by rw [wrap_u32]; exact HXX.out
  have hne : ∀ (fn : Fn) (first cap : Array Value) (w : World), (binOp .eql 40 (.func fn first cap) .nilFunc).run Try.prog w = .ok (.bool false) w := fun _ _ _ _ => rfl
  have hnn : ∀ (w : World), (binOp .eql 40 .nilFunc .nilFunc).run Try.prog w = .ok (.bool true) w := fun _ => rfl
  go_enter Try.func9, Try.ntmps9
  go_wp2_with fail
  refine (may_any _ _ _ _ _ _ hv hv').mono ?_
  rintro e w1 ⟨rfl, hn1⟩
  obtain ⟨c0, c1, c2, c3, c4, hz⟩ := five_in hn1
  have HN := Lib.hid (((Nx.refl w).alloc _).trans hn1)
  clear hn1
  go_wp2_with (go_at_call 16; refine (formOf_any _ _).mono ?_; rintro e w' ⟨rfl, rfl⟩)
  refine (reck_25 _).mono ?_
  rintro e w' ⟨rfl, rfl⟩
  go_wp2_with fail
  refine (clo_sll a X _ a1 a2 i1 i2).mono ?_
  rintro e w' ⟨rfl, rfl⟩
  go_wp2
  go_ret2
  exact ⟨ret2_ub HV.out.symm HO.out.symm, HN.out⟩

set_option maxHeartbeats 1000000 in
theorem value_26 (rd rs1 rs2 imm a b pc size : Int) (w : World) (hv : -2147483648 ≤ imm) (hv' : imm ≤ 2147483647) (a1 : 0 ≤ a) (a2 : a < 4294967296) (b1 : 0 ≤ b) (b2 : b < 4294967296) (p1 : 0 ≤ pc) (p2 : pc < 4294967296) (h : mayB 26 rd rs1 rs2 imm = true) :
    Calls Try.prog 9 #[.agg #[.int .i64 26, .int .i64 rd, .int .i64 rs1, .int .i64 rs2, .int .i32 imm], .int .u32 a, .int .u32 b, .int .u32 pc, .int .i64 size] w fun e w' => e = .returned (.tuple #[.int .u32 (valV 26 a b pc imm size), .bool (valO 26)]) ∧ Nx w w' := by
  have hf : formN 26 = 7 := rfl
  have HO : Hid (valO 26 = true) := rfl
  have i1 : 0 ≤ imm % 4294967296 := by omega
  have i2 : imm % 4294967296 < 4294967296 := by omega
  have HX : Hid (valV 26 a b pc imm size = recV 26 a (imm % 4294967296)) := rfl
  generalize hX : imm % 4294967296 = X at *
  have HXX := Lib.hid hX
  clear hX
  have HV : Hid (valV 26 a b pc imm size = a / 2 ^ (X % 32).toNat) := HX.out
  clear HX
  have qX : IntKind.u32.wrap imm = X := by rw [wrap_u32]; exact HXX.out
  have hne : ∀ (fn : Fn) (first cap : Array Value) (w : World), (binOp .eql 40 (.func fn first cap) .nilFunc).run Try.prog w = .ok (.bool false) w := fun _ _ _ _ => rfl
  have hnn : ∀ (w : World), (binOp .eql 40 .nilFunc .nilFunc).run Try.prog w = .ok (.bool true) w := fun _ => rfl
  go_enter Try.func9, Try.ntmps9
  go_wp2_with fail
  refine (may_any _ _ _ _ _ _ hv hv').mono ?_
  rintro e w1 ⟨rfl, hn1⟩
  obtain ⟨c0, c1, c2, c3, c4, hz⟩ := five_in hn1
  have HN := Lib.hid (((Nx.refl w).alloc _).trans hn1)
  clear hn1
  go_wp2_with (go_at_call 16; refine (formOf_any _ _).mono ?_; rintro e w' ⟨rfl, rfl⟩)
  refine (reck_26 _).mono ?_
  rintro e w' ⟨rfl, rfl⟩
  go_wp2_with fail
  refine (clo_srl a X _ a1 a2 i1 i2).mono ?_
  rintro e w' ⟨rfl, rfl⟩
  go_wp2
  go_ret2
  exact ⟨ret2_ub HV.out.symm HO.out.symm, HN.out⟩

set_option maxHeartbeats 1000000 in
theorem value_27 (rd rs1 rs2 imm a b pc size : Int) (w : World) (hv : -2147483648 ≤ imm) (hv' : imm ≤ 2147483647) (a1 : 0 ≤ a) (a2 : a < 4294967296) (b1 : 0 ≤ b) (b2 : b < 4294967296) (p1 : 0 ≤ pc) (p2 : pc < 4294967296) (h : mayB 27 rd rs1 rs2 imm = true) :
    Calls Try.prog 9 #[.agg #[.int .i64 27, .int .i64 rd, .int .i64 rs1, .int .i64 rs2, .int .i32 imm], .int .u32 a, .int .u32 b, .int .u32 pc, .int .i64 size] w fun e w' => e = .returned (.tuple #[.int .u32 (valV 27 a b pc imm size), .bool (valO 27)]) ∧ Nx w w' := by
  have hf : formN 27 = 7 := rfl
  have HO : Hid (valO 27 = true) := rfl
  have i1 : 0 ≤ imm % 4294967296 := by omega
  have i2 : imm % 4294967296 < 4294967296 := by omega
  have HX : Hid (valV 27 a b pc imm size = recV 27 a (imm % 4294967296)) := rfl
  generalize hX : imm % 4294967296 = X at *
  have HXX := Lib.hid hX
  clear hX
  have HV : Hid (valV 27 a b pc imm size = (wrap32 a / 2 ^ (X % 32).toNat) % 4294967296) := HX.out
  clear HX
  have qX : IntKind.u32.wrap imm = X := by rw [wrap_u32]; exact HXX.out
  have hne : ∀ (fn : Fn) (first cap : Array Value) (w : World), (binOp .eql 40 (.func fn first cap) .nilFunc).run Try.prog w = .ok (.bool false) w := fun _ _ _ _ => rfl
  have hnn : ∀ (w : World), (binOp .eql 40 .nilFunc .nilFunc).run Try.prog w = .ok (.bool true) w := fun _ => rfl
  go_enter Try.func9, Try.ntmps9
  go_wp2_with fail
  refine (may_any _ _ _ _ _ _ hv hv').mono ?_
  rintro e w1 ⟨rfl, hn1⟩
  obtain ⟨c0, c1, c2, c3, c4, hz⟩ := five_in hn1
  have HN := Lib.hid (((Nx.refl w).alloc _).trans hn1)
  clear hn1
  go_wp2_with (go_at_call 16; refine (formOf_any _ _).mono ?_; rintro e w' ⟨rfl, rfl⟩)
  refine (reck_27 _).mono ?_
  rintro e w' ⟨rfl, rfl⟩
  go_wp2_with fail
  refine (clo_sra a X _ a1 a2 i1 i2).mono ?_
  rintro e w' ⟨rfl, rfl⟩
  go_wp2
  go_ret2
  exact ⟨ret2_ub HV.out.symm HO.out.symm, HN.out⟩

set_option maxHeartbeats 1000000 in
theorem value_28 (rd rs1 rs2 imm a b pc size : Int) (w : World) (hv : -2147483648 ≤ imm) (hv' : imm ≤ 2147483647) (a1 : 0 ≤ a) (a2 : a < 4294967296) (b1 : 0 ≤ b) (b2 : b < 4294967296) (p1 : 0 ≤ pc) (p2 : pc < 4294967296) (h : mayB 28 rd rs1 rs2 imm = true) :
    Calls Try.prog 9 #[.agg #[.int .i64 28, .int .i64 rd, .int .i64 rs1, .int .i64 rs2, .int .i32 imm], .int .u32 a, .int .u32 b, .int .u32 pc, .int .i64 size] w fun e w' => e = .returned (.tuple #[.int .u32 (valV 28 a b pc imm size), .bool (valO 28)]) ∧ Nx w w' := by
  have hf : formN 28 = 8 := rfl
  have HO : Hid (valO 28 = true) := rfl
  have HV : Hid (valV 28 a b pc imm size = (a + b) % 4294967296) := rfl
  have hne : ∀ (fn : Fn) (first cap : Array Value) (w : World), (binOp .eql 40 (.func fn first cap) .nilFunc).run Try.prog w = .ok (.bool false) w := fun _ _ _ _ => rfl
  have hnn : ∀ (w : World), (binOp .eql 40 .nilFunc .nilFunc).run Try.prog w = .ok (.bool true) w := fun _ => rfl
  go_enter Try.func9, Try.ntmps9
  go_wp2_with fail
  refine (may_any _ _ _ _ _ _ hv hv').mono ?_
  rintro e w1 ⟨rfl, hn1⟩
  obtain ⟨c0, c1, c2, c3, c4, hz⟩ := five_in hn1
  have HN := Lib.hid (((Nx.refl w).alloc _).trans hn1)
  clear hn1
  go_wp2_with (go_at_call 16; refine (formOf_any _ _).mono ?_; rintro e w' ⟨rfl, rfl⟩)
  refine (reck_28 _).mono ?_
  rintro e w' ⟨rfl, rfl⟩
  go_wp2_with fail
  refine (clo_add a b _ a1 a2 b1 b2).mono ?_
  rintro e w' ⟨rfl, rfl⟩
  go_wp2
  go_ret2
  exact ⟨ret2_ub HV.out.symm HO.out.symm, HN.out⟩

set_option maxHeartbeats 1000000 in
theorem value_29 (rd rs1 rs2 imm a b pc size : Int) (w : World) (hv : -2147483648 ≤ imm) (hv' : imm ≤ 2147483647) (a1 : 0 ≤ a) (a2 : a < 4294967296) (b1 : 0 ≤ b) (b2 : b < 4294967296) (p1 : 0 ≤ pc) (p2 : pc < 4294967296) (h : mayB 29 rd rs1 rs2 imm = true) :
    Calls Try.prog 9 #[.agg #[.int .i64 29, .int .i64 rd, .int .i64 rs1, .int .i64 rs2, .int .i32 imm], .int .u32 a, .int .u32 b, .int .u32 pc, .int .i64 size] w fun e w' => e = .returned (.tuple #[.int .u32 (valV 29 a b pc imm size), .bool (valO 29)]) ∧ Nx w w' := by
  have hf : formN 29 = 8 := rfl
  have HO : Hid (valO 29 = true) := rfl
  have HV : Hid (valV 29 a b pc imm size = (a - b) % 4294967296) := rfl
  have hne : ∀ (fn : Fn) (first cap : Array Value) (w : World), (binOp .eql 40 (.func fn first cap) .nilFunc).run Try.prog w = .ok (.bool false) w := fun _ _ _ _ => rfl
  have hnn : ∀ (w : World), (binOp .eql 40 .nilFunc .nilFunc).run Try.prog w = .ok (.bool true) w := fun _ => rfl
  go_enter Try.func9, Try.ntmps9
  go_wp2_with fail
  refine (may_any _ _ _ _ _ _ hv hv').mono ?_
  rintro e w1 ⟨rfl, hn1⟩
  obtain ⟨c0, c1, c2, c3, c4, hz⟩ := five_in hn1
  have HN := Lib.hid (((Nx.refl w).alloc _).trans hn1)
  clear hn1
  go_wp2_with (go_at_call 16; refine (formOf_any _ _).mono ?_; rintro e w' ⟨rfl, rfl⟩)
  refine (reck_29 _).mono ?_
  rintro e w' ⟨rfl, rfl⟩
  go_wp2_with fail
  refine (clo_sub a b _ a1 a2 b1 b2).mono ?_
  rintro e w' ⟨rfl, rfl⟩
  go_wp2
  go_ret2
  exact ⟨ret2_ub HV.out.symm HO.out.symm, HN.out⟩

set_option maxHeartbeats 1000000 in
theorem value_30 (rd rs1 rs2 imm a b pc size : Int) (w : World) (hv : -2147483648 ≤ imm) (hv' : imm ≤ 2147483647) (a1 : 0 ≤ a) (a2 : a < 4294967296) (b1 : 0 ≤ b) (b2 : b < 4294967296) (p1 : 0 ≤ pc) (p2 : pc < 4294967296) (h : mayB 30 rd rs1 rs2 imm = true) :
    Calls Try.prog 9 #[.agg #[.int .i64 30, .int .i64 rd, .int .i64 rs1, .int .i64 rs2, .int .i32 imm], .int .u32 a, .int .u32 b, .int .u32 pc, .int .i64 size] w fun e w' => e = .returned (.tuple #[.int .u32 (valV 30 a b pc imm size), .bool (valO 30)]) ∧ Nx w w' := by
  have hf : formN 30 = 8 := rfl
  have HO : Hid (valO 30 = true) := rfl
  have HV : Hid (valV 30 a b pc imm size = a * 2 ^ (b % 32).toNat % 4294967296) := rfl
  have hne : ∀ (fn : Fn) (first cap : Array Value) (w : World), (binOp .eql 40 (.func fn first cap) .nilFunc).run Try.prog w = .ok (.bool false) w := fun _ _ _ _ => rfl
  have hnn : ∀ (w : World), (binOp .eql 40 .nilFunc .nilFunc).run Try.prog w = .ok (.bool true) w := fun _ => rfl
  go_enter Try.func9, Try.ntmps9
  go_wp2_with fail
  refine (may_any _ _ _ _ _ _ hv hv').mono ?_
  rintro e w1 ⟨rfl, hn1⟩
  obtain ⟨c0, c1, c2, c3, c4, hz⟩ := five_in hn1
  have HN := Lib.hid (((Nx.refl w).alloc _).trans hn1)
  clear hn1
  go_wp2_with (go_at_call 16; refine (formOf_any _ _).mono ?_; rintro e w' ⟨rfl, rfl⟩)
  refine (reck_30 _).mono ?_
  rintro e w' ⟨rfl, rfl⟩
  go_wp2_with fail
  refine (clo_sll a b _ a1 a2 b1 b2).mono ?_
  rintro e w' ⟨rfl, rfl⟩
  go_wp2
  go_ret2
  exact ⟨ret2_ub HV.out.symm HO.out.symm, HN.out⟩

set_option maxHeartbeats 1000000 in
theorem value_31 (rd rs1 rs2 imm a b pc size : Int) (w : World) (hv : -2147483648 ≤ imm) (hv' : imm ≤ 2147483647) (a1 : 0 ≤ a) (a2 : a < 4294967296) (b1 : 0 ≤ b) (b2 : b < 4294967296) (p1 : 0 ≤ pc) (p2 : pc < 4294967296) (h : mayB 31 rd rs1 rs2 imm = true) :
    Calls Try.prog 9 #[.agg #[.int .i64 31, .int .i64 rd, .int .i64 rs1, .int .i64 rs2, .int .i32 imm], .int .u32 a, .int .u32 b, .int .u32 pc, .int .i64 size] w fun e w' => e = .returned (.tuple #[.int .u32 (valV 31 a b pc imm size), .bool (valO 31)]) ∧ Nx w w' := by
  have hf : formN 31 = 8 := rfl
  have HO : Hid (valO 31 = true) := rfl
  have HV : Hid (valV 31 a b pc imm size = ltI (wrap32 a) (wrap32 b)) := rfl
  have hne : ∀ (fn : Fn) (first cap : Array Value) (w : World), (binOp .eql 40 (.func fn first cap) .nilFunc).run Try.prog w = .ok (.bool false) w := fun _ _ _ _ => rfl
  have hnn : ∀ (w : World), (binOp .eql 40 .nilFunc .nilFunc).run Try.prog w = .ok (.bool true) w := fun _ => rfl
  go_enter Try.func9, Try.ntmps9
  go_wp2_with fail
  refine (may_any _ _ _ _ _ _ hv hv').mono ?_
  rintro e w1 ⟨rfl, hn1⟩
  obtain ⟨c0, c1, c2, c3, c4, hz⟩ := five_in hn1
  have HN := Lib.hid (((Nx.refl w).alloc _).trans hn1)
  clear hn1
  go_wp2_with (go_at_call 16; refine (formOf_any _ _).mono ?_; rintro e w' ⟨rfl, rfl⟩)
  refine (reck_31 _).mono ?_
  rintro e w' ⟨rfl, rfl⟩
  go_wp2_with fail
  refine (clo_slt a b _ a1 a2 b1 b2).mono ?_
  rintro e w' ⟨rfl, rfl⟩
  go_wp2
  go_ret2
  exact ⟨ret2_ub HV.out.symm HO.out.symm, HN.out⟩

set_option maxHeartbeats 1000000 in
theorem value_32 (rd rs1 rs2 imm a b pc size : Int) (w : World) (hv : -2147483648 ≤ imm) (hv' : imm ≤ 2147483647) (a1 : 0 ≤ a) (a2 : a < 4294967296) (b1 : 0 ≤ b) (b2 : b < 4294967296) (p1 : 0 ≤ pc) (p2 : pc < 4294967296) (h : mayB 32 rd rs1 rs2 imm = true) :
    Calls Try.prog 9 #[.agg #[.int .i64 32, .int .i64 rd, .int .i64 rs1, .int .i64 rs2, .int .i32 imm], .int .u32 a, .int .u32 b, .int .u32 pc, .int .i64 size] w fun e w' => e = .returned (.tuple #[.int .u32 (valV 32 a b pc imm size), .bool (valO 32)]) ∧ Nx w w' := by
  have hf : formN 32 = 8 := rfl
  have HO : Hid (valO 32 = true) := rfl
  have HV : Hid (valV 32 a b pc imm size = ltI a b) := rfl
  have hne : ∀ (fn : Fn) (first cap : Array Value) (w : World), (binOp .eql 40 (.func fn first cap) .nilFunc).run Try.prog w = .ok (.bool false) w := fun _ _ _ _ => rfl
  have hnn : ∀ (w : World), (binOp .eql 40 .nilFunc .nilFunc).run Try.prog w = .ok (.bool true) w := fun _ => rfl
  go_enter Try.func9, Try.ntmps9
  go_wp2_with fail
  refine (may_any _ _ _ _ _ _ hv hv').mono ?_
  rintro e w1 ⟨rfl, hn1⟩
  obtain ⟨c0, c1, c2, c3, c4, hz⟩ := five_in hn1
  have HN := Lib.hid (((Nx.refl w).alloc _).trans hn1)
  clear hn1
  go_wp2_with (go_at_call 16; refine (formOf_any _ _).mono ?_; rintro e w' ⟨rfl, rfl⟩)
  refine (reck_32 _).mono ?_
  rintro e w' ⟨rfl, rfl⟩
  go_wp2_with fail
  refine (clo_sltu a b _ a1 a2 b1 b2).mono ?_
  rintro e w' ⟨rfl, rfl⟩
  go_wp2
  go_ret2
  exact ⟨ret2_ub HV.out.symm HO.out.symm, HN.out⟩

end Go.Proofs.Ytmobkjdbjgopgaa
