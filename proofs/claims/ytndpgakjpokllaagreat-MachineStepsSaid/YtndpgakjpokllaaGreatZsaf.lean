/- Parts of the proof, one behind the other. -/
import Derived.Test.YtndpgakjpokllaaGreatZsae
/- Contracts of package exec: Value, operation by operation. -/
namespace Go.Proofs.YtndpgakjpokllaaGreat
open Go.RowKit
set_option linter.unusedVariables false
set_option maxRecDepth 100000
set_option linter.unusedSimpArgs false

set_option maxHeartbeats 1000000 in
theorem value_17 (rd rs1 rs2 imm a b pc size : Int) (w : World) (hv : -2147483648 ≤ imm) (hv' : imm ≤ 2147483647) (a1 : 0 ≤ a) (a2 : a < 4294967296) (b1 : 0 ≤ b) (b2 : b < 4294967296) (p1 : 0 ≤ pc) (p2 : pc < 4294967296) (h : mayB 17 rd rs1 rs2 imm = true) :
    Calls Tryz.prog 32 #[.agg #[.int .i64 17, .int .i64 rd, .int .i64 rs1, .int .i64 rs2, .int .i32 imm], .int .u32 a, .int .u32 b, .int .u32 pc, .int .i64 size] w fun e w' => e = .returned (.tuple #[.int .u32 (0), .bool (valO 17)]) ∧ Nx w w' := by
  have hf : formN 17 = 5 := rfl
  have HO : Hid (valO 17 = false) := rfl
  have hne : ∀ (fn : Fn) (first cap : Array Value) (w : World), (binOp .eql 102 (.func fn first cap) .nilFunc).run Tryz.prog w = .ok (.bool false) w := fun _ _ _ _ => rfl
  have hnn : ∀ (w : World), (binOp .eql 102 .nilFunc .nilFunc).run Tryz.prog w = .ok (.bool true) w := fun _ => rfl
  go_enter Tryz.func32, Tryz.ntmps32
  go_wp2_with fail
  refine (may_any _ _ _ _ _ _ hv hv').mono ?_
  rintro e w1 ⟨rfl, hn1⟩
  obtain ⟨c0, c1, c2, c3, c4, hz⟩ := five_in hn1
  have HN := Lib.hid (((Nx.refl w).alloc _).trans hn1)
  clear hn1
  go_wp2_with (go_at_call 59; refine (formOf_any _ _).mono ?_; rintro e w' ⟨rfl, rfl⟩)
  refine (reck_17 _).mono ?_
  rintro e w2 ⟨rfl, hn2⟩
  go_wp2
  go_ret2
  exact ⟨ret2_ub rfl HO.out.symm, HN.out.trans hn2⟩

set_option maxHeartbeats 1000000 in
theorem value_18 (rd rs1 rs2 imm a b pc size : Int) (w : World) (hv : -2147483648 ≤ imm) (hv' : imm ≤ 2147483647) (a1 : 0 ≤ a) (a2 : a < 4294967296) (b1 : 0 ≤ b) (b2 : b < 4294967296) (p1 : 0 ≤ pc) (p2 : pc < 4294967296) (h : mayB 18 rd rs1 rs2 imm = true) :
    Calls Tryz.prog 32 #[.agg #[.int .i64 18, .int .i64 rd, .int .i64 rs1, .int .i64 rs2, .int .i32 imm], .int .u32 a, .int .u32 b, .int .u32 pc, .int .i64 size] w fun e w' => e = .returned (.tuple #[.int .u32 (0), .bool (valO 18)]) ∧ Nx w w' := by
  have hf : formN 18 = 5 := rfl
  have HO : Hid (valO 18 = false) := rfl
  have hne : ∀ (fn : Fn) (first cap : Array Value) (w : World), (binOp .eql 102 (.func fn first cap) .nilFunc).run Tryz.prog w = .ok (.bool false) w := fun _ _ _ _ => rfl
  have hnn : ∀ (w : World), (binOp .eql 102 .nilFunc .nilFunc).run Tryz.prog w = .ok (.bool true) w := fun _ => rfl
  go_enter Tryz.func32, Tryz.ntmps32
  go_wp2_with fail
  refine (may_any _ _ _ _ _ _ hv hv').mono ?_
  rintro e w1 ⟨rfl, hn1⟩
  obtain ⟨c0, c1, c2, c3, c4, hz⟩ := five_in hn1
  have HN := Lib.hid (((Nx.refl w).alloc _).trans hn1)
  clear hn1
  go_wp2_with (go_at_call 59; refine (formOf_any _ _).mono ?_; rintro e w' ⟨rfl, rfl⟩)
  refine (reck_18 _).mono ?_
  rintro e w2 ⟨rfl, hn2⟩
  go_wp2
  go_ret2
  exact ⟨ret2_ub rfl HO.out.symm, HN.out.trans hn2⟩

set_option maxHeartbeats 1000000 in
theorem value_19 (rd rs1 rs2 imm a b pc size : Int) (w : World) (hv : -2147483648 ≤ imm) (hv' : imm ≤ 2147483647) (a1 : 0 ≤ a) (a2 : a < 4294967296) (b1 : 0 ≤ b) (b2 : b < 4294967296) (p1 : 0 ≤ pc) (p2 : pc < 4294967296) (h : mayB 19 rd rs1 rs2 imm = true) :
    Calls Tryz.prog 32 #[.agg #[.int .i64 19, .int .i64 rd, .int .i64 rs1, .int .i64 rs2, .int .i32 imm], .int .u32 a, .int .u32 b, .int .u32 pc, .int .i64 size] w fun e w' => e = .returned (.tuple #[.int .u32 (valV 19 a b pc imm size), .bool (valO 19)]) ∧ Nx w w' := by
  have hf : formN 19 = 6 := rfl
  have HO : Hid (valO 19 = true) := rfl
  have i1 : 0 ≤ imm % 4294967296 := by omega
  have i2 : imm % 4294967296 < 4294967296 := by omega
  have HX : Hid (valV 19 a b pc imm size = recV 19 a (imm % 4294967296)) := rfl
  generalize hX : imm % 4294967296 = X at *
  have HXX := Lib.hid hX
  clear hX
  have HV : Hid (valV 19 a b pc imm size = (a + X) % 4294967296) := HX.out
  clear HX
  have qX : IntKind.u32.wrap imm = X := by rw [wrap_u32]; exact HXX.out
  have hne : ∀ (fn : Fn) (first cap : Array Value) (w : World), (binOp .eql 102 (.func fn first cap) .nilFunc).run Tryz.prog w = .ok (.bool false) w := fun _ _ _ _ => rfl
  have hnn : ∀ (w : World), (binOp .eql 102 .nilFunc .nilFunc).run Tryz.prog w = .ok (.bool true) w := fun _ => rfl
  go_enter Tryz.func32, Tryz.ntmps32
  go_wp2_with fail
  refine (may_any _ _ _ _ _ _ hv hv').mono ?_
  rintro e w1 ⟨rfl, hn1⟩
  obtain ⟨c0, c1, c2, c3, c4, hz⟩ := five_in hn1
  have HN := Lib.hid (((Nx.refl w).alloc _).trans hn1)
  clear hn1
  go_wp2_with (go_at_call 59; refine (formOf_any _ _).mono ?_; rintro e w' ⟨rfl, rfl⟩)
  refine (reck_19 _).mono ?_
  rintro e w' ⟨rfl, rfl⟩
  go_wp2_with fail
  refine (clo_add a X _ a1 a2 i1 i2).mono ?_
  rintro e w' ⟨rfl, rfl⟩
  go_wp2
  go_ret2
  exact ⟨ret2_ub HV.out.symm HO.out.symm, HN.out⟩

set_option maxHeartbeats 1000000 in
theorem value_20 (rd rs1 rs2 imm a b pc size : Int) (w : World) (hv : -2147483648 ≤ imm) (hv' : imm ≤ 2147483647) (a1 : 0 ≤ a) (a2 : a < 4294967296) (b1 : 0 ≤ b) (b2 : b < 4294967296) (p1 : 0 ≤ pc) (p2 : pc < 4294967296) (h : mayB 20 rd rs1 rs2 imm = true) :
    Calls Tryz.prog 32 #[.agg #[.int .i64 20, .int .i64 rd, .int .i64 rs1, .int .i64 rs2, .int .i32 imm], .int .u32 a, .int .u32 b, .int .u32 pc, .int .i64 size] w fun e w' => e = .returned (.tuple #[.int .u32 (valV 20 a b pc imm size), .bool (valO 20)]) ∧ Nx w w' := by
  have hf : formN 20 = 6 := rfl
  have HO : Hid (valO 20 = true) := rfl
  have i1 : 0 ≤ imm % 4294967296 := by omega
  have i2 : imm % 4294967296 < 4294967296 := by omega
  have HX : Hid (valV 20 a b pc imm size = recV 20 a (imm % 4294967296)) := rfl
  generalize hX : imm % 4294967296 = X at *
  have HXX := Lib.hid hX
  clear hX
  have HV : Hid (valV 20 a b pc imm size = ltI (wrap32 a) (wrap32 X)) := HX.out
  clear HX
  have qX : IntKind.u32.wrap imm = X := by rw [wrap_u32]; exact HXX.out
  have hne : ∀ (fn : Fn) (first cap : Array Value) (w : World), (binOp .eql 102 (.func fn first cap) .nilFunc).run Tryz.prog w = .ok (.bool false) w := fun _ _ _ _ => rfl
  have hnn : ∀ (w : World), (binOp .eql 102 .nilFunc .nilFunc).run Tryz.prog w = .ok (.bool true) w := fun _ => rfl
  go_enter Tryz.func32, Tryz.ntmps32
  go_wp2_with fail
  refine (may_any _ _ _ _ _ _ hv hv').mono ?_
  rintro e w1 ⟨rfl, hn1⟩
  obtain ⟨c0, c1, c2, c3, c4, hz⟩ := five_in hn1
  have HN := Lib.hid (((Nx.refl w).alloc _).trans hn1)
  clear hn1
  go_wp2_with (go_at_call 59; refine (formOf_any _ _).mono ?_; rintro e w' ⟨rfl, rfl⟩)
  refine (reck_20 _).mono ?_
  rintro e w' ⟨rfl, rfl⟩
  go_wp2_with fail
  refine (clo_slt a X _ a1 a2 i1 i2).mono ?_
  rintro e w' ⟨rfl, rfl⟩
  go_wp2
  go_ret2
  exact ⟨ret2_ub HV.out.symm HO.out.symm, HN.out⟩

set_option maxHeartbeats 1000000 in
theorem value_21 (rd rs1 rs2 imm a b pc size : Int) (w : World) (hv : -2147483648 ≤ imm) (hv' : imm ≤ 2147483647) (a1 : 0 ≤ a) (a2 : a < 4294967296) (b1 : 0 ≤ b) (b2 : b < 4294967296) (p1 : 0 ≤ pc) (p2 : pc < 4294967296) (h : mayB 21 rd rs1 rs2 imm = true) :
    Calls Tryz.prog 32 #[.agg #[.int .i64 21, .int .i64 rd, .int .i64 rs1, .int .i64 rs2, .int .i32 imm], .int .u32 a, .int .u32 b, .int .u32 pc, .int .i64 size] w fun e w' => e = .returned (.tuple #[.int .u32 (valV 21 a b pc imm size), .bool (valO 21)]) ∧ Nx w w' := by
  have hf : formN 21 = 6 := rfl
  have HO : Hid (valO 21 = true) := rfl
  have i1 : 0 ≤ imm % 4294967296 := by omega
  have i2 : imm % 4294967296 < 4294967296 := by omega
  have HX : Hid (valV 21 a b pc imm size = recV 21 a (imm % 4294967296)) := rfl
  generalize hX : imm % 4294967296 = X at *
  have HXX := Lib.hid hX
  clear hX
  have HV : Hid (valV 21 a b pc imm size = ltI a X) := HX.out
  clear HX
  have qX : IntKind.u32.wrap imm = X := by rw [wrap_u32]; exact HXX.out
  have hne : ∀ (fn : Fn) (first cap : Array Value) (w : World), (binOp .eql 102 (.func fn first cap) .nilFunc).run Tryz.prog w = .ok (.bool false) w := fun _ _ _ _ => rfl
  have hnn : ∀ (w : World), (binOp .eql 102 .nilFunc .nilFunc).run Tryz.prog w = .ok (.bool true) w := fun _ => rfl
  go_enter Tryz.func32, Tryz.ntmps32
  go_wp2_with fail
  refine (may_any _ _ _ _ _ _ hv hv').mono ?_
  rintro e w1 ⟨rfl, hn1⟩
  obtain ⟨c0, c1, c2, c3, c4, hz⟩ := five_in hn1
  have HN := Lib.hid (((Nx.refl w).alloc _).trans hn1)
  clear hn1
  go_wp2_with (go_at_call 59; refine (formOf_any _ _).mono ?_; rintro e w' ⟨rfl, rfl⟩)
  refine (reck_21 _).mono ?_
  rintro e w' ⟨rfl, rfl⟩
  go_wp2_with fail
  refine (clo_sltu a X _ a1 a2 i1 i2).mono ?_
  rintro e w' ⟨rfl, rfl⟩
  go_wp2
  go_ret2
  exact ⟨ret2_ub HV.out.symm HO.out.symm, HN.out⟩

set_option maxHeartbeats 1000000 in
theorem value_22 (rd rs1 rs2 imm a b pc size : Int) (w : World) (hv : -2147483648 ≤ imm) (hv' : imm ≤ 2147483647) (a1 : 0 ≤ a) (a2 : a < 4294967296) (b1 : 0 ≤ b) (b2 : b < 4294967296) (p1 : 0 ≤ pc) (p2 : pc < 4294967296) (h : mayB 22 rd rs1 rs2 imm = true) :
    Calls Tryz.prog 32 #[.agg #[.int .i64 22, .int .i64 rd, .int .i64 rs1, .int .i64 rs2, .int .i32 imm], .int .u32 a, .int .u32 b, .int .u32 pc, .int .i64 size] w fun e w' => e = .returned (.tuple #[.int .u32 (valV 22 a b pc imm size), .bool (valO 22)]) ∧ Nx w w' := by
  have hf : formN 22 = 6 := rfl
  have HO : Hid (valO 22 = true) := rfl
  have i1 : 0 ≤ imm % 4294967296 := by omega
  have i2 : imm % 4294967296 < 4294967296 := by omega
  have HX : Hid (valV 22 a b pc imm size = recV 22 a (imm % 4294967296)) := rfl
  generalize hX : imm % 4294967296 = X at *
  have HXX := Lib.hid hX
  clear hX
  have HV : Hid (valV 22 a b pc imm size = bits .xor .u32 a X) := HX.out
  clear HX
  have qX : IntKind.u32.wrap imm = X := by rw [wrap_u32]; exact HXX.out
  have hne : ∀ (fn : Fn) (first cap : Array Value) (w : World), (binOp .eql 102 (.func fn first cap) .nilFunc).run Tryz.prog w = .ok (.bool false) w := fun _ _ _ _ => rfl
  have hnn : ∀ (w : World), (binOp .eql 102 .nilFunc .nilFunc).run Tryz.prog w = .ok (.bool true) w := fun _ => rfl
  go_enter Tryz.func32, Tryz.ntmps32
  go_wp2_with fail
  refine (may_any _ _ _ _ _ _ hv hv').mono ?_
  rintro e w1 ⟨rfl, hn1⟩
  obtain ⟨c0, c1, c2, c3, c4, hz⟩ := five_in hn1
  have HN := Lib.hid (((Nx.refl w).alloc _).trans hn1)
  clear hn1
  go_wp2_with (go_at_call 59; refine (formOf_any _ _).mono ?_; rintro e w' ⟨rfl, rfl⟩)
  refine (reck_22 _).mono ?_
  rintro e w' ⟨rfl, rfl⟩
  go_wp2_with fail
  refine (clo_xor a X _ a1 a2 i1 i2).mono ?_
  rintro e w' ⟨rfl, rfl⟩
  go_wp2
  go_ret2
  exact ⟨ret2_ub HV.out.symm HO.out.symm, HN.out⟩

set_option maxHeartbeats 1000000 in
theorem value_23 (rd rs1 rs2 imm a b pc size : Int) (w : World) (hv : -2147483648 ≤ imm) (hv' : imm ≤ 2147483647) (a1 : 0 ≤ a) (a2 : a < 4294967296) (b1 : 0 ≤ b) (b2 : b < 4294967296) (p1 : 0 ≤ pc) (p2 : pc < 4294967296) (h : mayB 23 rd rs1 rs2 imm = true) :
    Calls Tryz.prog 32 #[.agg #[.int .i64 23, .int .i64 rd, .int .i64 rs1, .int .i64 rs2, .int .i32 imm], .int .u32 a, .int .u32 b, .int .u32 pc, .int .i64 size] w fun e w' => e = .returned (.tuple #[.int .u32 (valV 23 a b pc imm size), .bool (valO 23)]) ∧ Nx w w' := by
  have hf : formN 23 = 6 := rfl
  have HO : Hid (valO 23 = true) := rfl
  have i1 : 0 ≤ imm % 4294967296 := by omega
  have i2 : imm % 4294967296 < 4294967296 := by omega
  have HX : Hid (valV 23 a b pc imm size = recV 23 a (imm % 4294967296)) := rfl
  generalize hX : imm % 4294967296 = X at *
  have HXX := Lib.hid hX
  clear hX
  have HV : Hid (valV 23 a b pc imm size = bits .or .u32 a X) := HX.out
  clear HX
  have qX : IntKind.u32.wrap imm = X := by rw [wrap_u32]; exact HXX.out
  have hne : ∀ (fn : Fn) (first cap : Array Value) (w : World), (binOp .eql 102 (.func fn first cap) .nilFunc).run Tryz.prog w = .ok (.bool false) w := fun _ _ _ _ => rfl
  have hnn : ∀ (w : World), (binOp .eql 102 .nilFunc .nilFunc).run Tryz.prog w = .ok (.bool true) w := fun _ => rfl
  go_enter Tryz.func32, Tryz.ntmps32
  go_wp2_with fail
  refine (may_any _ _ _ _ _ _ hv hv').mono ?_
  rintro e w1 ⟨rfl, hn1⟩
  obtain ⟨c0, c1, c2, c3, c4, hz⟩ := five_in hn1
  have HN := Lib.hid (((Nx.refl w).alloc _).trans hn1)
  clear hn1
  go_wp2_with (go_at_call 59; refine (formOf_any _ _).mono ?_; rintro e w' ⟨rfl, rfl⟩)
  refine (reck_23 _).mono ?_
  rintro e w' ⟨rfl, rfl⟩
  go_wp2_with fail
  refine (clo_or a X _ a1 a2 i1 i2).mono ?_
  rintro e w' ⟨rfl, rfl⟩
  go_wp2
  go_ret2
  exact ⟨ret2_ub HV.out.symm HO.out.symm, HN.out⟩

set_option maxHeartbeats 1000000 in
theorem value_24 (rd rs1 rs2 imm a b pc size : Int) (w : World) (hv : -2147483648 ≤ imm) (hv' : imm ≤ 2147483647) (a1 : 0 ≤ a) (a2 : a < 4294967296) (b1 : 0 ≤ b) (b2 : b < 4294967296) (p1 : 0 ≤ pc) (p2 : pc < 4294967296) (h : mayB 24 rd rs1 rs2 imm = true) :
    Calls Tryz.prog 32 #[.agg #[.int .i64 24, .int .i64 rd, .int .i64 rs1, .int .i64 rs2, .int .i32 imm], .int .u32 a, .int .u32 b, .int .u32 pc, .int .i64 size] w fun e w' => e = .returned (.tuple #[.int .u32 (valV 24 a b pc imm size), .bool (valO 24)]) ∧ Nx w w' := by
  have hf : formN 24 = 6 := rfl
  have HO : Hid (valO 24 = true) := rfl
  have i1 : 0 ≤ imm % 4294967296 := by omega
  have i2 : imm % 4294967296 < 4294967296 := by omega
  have HX : Hid (valV 24 a b pc imm size = recV 24 a (imm % 4294967296)) := rfl
  generalize hX : imm % 4294967296 = X at *
  have HXX := Lib.hid hX
  clear hX
  have HV : Hid (valV 24 a b pc imm size = bits .and .u32 a X) := HX.out
  clear HX
  have qX : IntKind.u32.wrap imm = X := by rw [wrap_u32]; exact HXX.out
  have hne : ∀ (fn : Fn) (first cap : Array Value) (w : World), (binOp .eql 102 (.func fn first cap) .nilFunc).run Tryz.prog w = .ok (.bool false) w := fun _ _ _ _ => rfl
  have hnn : ∀ (w : World), (binOp .eql 102 .nilFunc .nilFunc).run Tryz.prog w = .ok (.bool true) w := fun _ => rfl
  go_enter Tryz.func32, Tryz.ntmps32
  go_wp2_with fail
  refine (may_any _ _ _ _ _ _ hv hv').mono ?_
  rintro e w1 ⟨rfl, hn1⟩
  obtain ⟨c0, c1, c2, c3, c4, hz⟩ := five_in hn1
  have HN := Lib.hid (((Nx.refl w).alloc _).trans hn1)
  clear hn1
  go_wp2_with (go_at_call 59; refine (formOf_any _ _).mono ?_; rintro e w' ⟨rfl, rfl⟩)
  refine (reck_24 _).mono ?_
  rintro e w' ⟨rfl, rfl⟩
  go_wp2_with fail
  refine (clo_and a X _ a1 a2 i1 i2).mono ?_
  rintro e w' ⟨rfl, rfl⟩
  go_wp2
  go_ret2
  exact ⟨ret2_ub HV.out.symm HO.out.symm, HN.out⟩

set_option maxHeartbeats 1000000 in
theorem value_25 (rd rs1 rs2 imm a b pc size : Int) (w : World) (hv : -2147483648 ≤ imm) (hv' : imm ≤ 2147483647) (a1 : 0 ≤ a) (a2 : a < 4294967296) (b1 : 0 ≤ b) (b2 : b < 4294967296) (p1 : 0 ≤ pc) (p2 : pc < 4294967296) (h : mayB 25 rd rs1 rs2 imm = true) :
    Calls Tryz.prog 32 #[.agg #[.int .i64 25, .int .i64 rd, .int .i64 rs1, .int .i64 rs2, .int .i32 imm], .int .u32 a, .int .u32 b, .int .u32 pc, .int .i64 size] w fun e w' => e = .returned (.tuple #[.int .u32 (valV 25 a b pc imm size), .bool (valO 25)]) ∧ Nx w w' := by
  have hf : formN 25 = 7 := rfl
  have HO : Hid (valO 25 = true) := rfl
  have i1 : 0 ≤ imm % 4294967296 := by omega
  have i2 : imm % 4294967296 < 4294967296 := by omega
  have HX : Hid (valV 25 a b pc imm size = recV 25 a (imm % 4294967296)) := rfl
  generalize hX : imm % 4294967296 = X at *
  have HXX := Lib.hid hX
  clear hX
  have HV : Hid (valV 25 a b pc imm size = a * 2 ^ (X % 32).toNat % 4294967296) := HX.out
  clear HX
  have qX : IntKind.u32.wrap imm = X := by rw [wrap_u32]; exact HXX.out
  have hne : ∀ (fn : Fn) (first cap : Array Value) (w : World), (binOp .eql 102 (.func fn first cap) .nilFunc).run Tryz.prog w = .ok (.bool false) w := fun _ _ _ _ => rfl
  have hnn : ∀ (w : World), (binOp .eql 102 .nilFunc .nilFunc).run Tryz.prog w = .ok (.bool true) w := fun _ => rfl
  go_enter Tryz.func32, Tryz.ntmps32
  go_wp2_with fail
  refine (may_any _ _ _ _ _ _ hv hv').mono ?_
  rintro e w1 ⟨rfl, hn1⟩
  obtain ⟨c0, c1, c2, c3, c4, hz⟩ := five_in hn1
  have HN := Lib.hid (((Nx.refl w).alloc _).trans hn1)
  clear hn1
  go_wp2_with (go_at_call 59; refine (formOf_any _ _).mono ?_; rintro e w' ⟨rfl, rfl⟩)
  refine (reck_25 _).mono ?_
  rintro e w' ⟨rfl, rfl⟩
  go_wp2_with fail
  refine (clo_sll a X _ a1 a2 i1 i2).mono ?_
  rintro e w' ⟨rfl, rfl⟩
  go_wp2
  go_ret2
  exact ⟨ret2_ub HV.out.symm HO.out.symm, HN.out⟩

set_option maxHeartbeats 1000000 in
theorem value_26 (rd rs1 rs2 imm a b pc size : Int) (w : World) (hv : -2147483648 ≤ imm) (hv' : imm ≤ 2147483647) (a1 : 0 ≤ a) (a2 : a < 4294967296) (b1 : 0 ≤ b) (b2 : b < 4294967296) (p1 : 0 ≤ pc) (p2 : pc < 4294967296) (h : mayB 26 rd rs1 rs2 imm = true) :
    Calls Tryz.prog 32 #[.agg #[.int .i64 26, .int .i64 rd, .int .i64 rs1, .int .i64 rs2, .int .i32 imm], .int .u32 a, .int .u32 b, .int .u32 pc, .int .i64 size] w fun e w' => e = .returned (.tuple #[.int .u32 (valV 26 a b pc imm size), .bool (valO 26)]) ∧ Nx w w' := by
  have hf : formN 26 = 7 := rfl
  have HO : Hid (valO 26 = true) := rfl
  have i1 : 0 ≤ imm % 4294967296 := by omega
  have i2 : imm % 4294967296 < 4294967296 := by omega
  have HX : Hid (valV 26 a b pc imm size = recV 26 a (imm % 4294967296)) := rfl
  generalize hX : imm % 4294967296 = X at *
  have HXX := Lib.hid hX
  clear hX
  have HV : Hid (valV 26 a b pc imm size = a / 2 ^ (X % 32).toNat) := HX.out
  clear HX
  have qX : IntKind.u32.wrap imm = X := by rw [wrap_u32]; exact HXX.out
  have hne : ∀ (fn : Fn) (first cap : Array Value) (w : World), (binOp .eql 102 (.func fn first cap) .nilFunc).run Tryz.prog w = .ok (.bool false) w := fun _ _ _ _ => rfl
  have hnn : ∀ (w : World), (binOp .eql 102 .nilFunc .nilFunc).run Tryz.prog w = .ok (.bool true) w := fun _ => rfl
  go_enter Tryz.func32, Tryz.ntmps32
  go_wp2_with fail
  refine (may_any _ _ _ _ _ _ hv hv').mono ?_
  rintro e w1 ⟨rfl, hn1⟩
  obtain ⟨c0, c1, c2, c3, c4, hz⟩ := five_in hn1
  have HN := Lib.hid (((Nx.refl w).alloc _).trans hn1)
  clear hn1
  go_wp2_with (go_at_call 59; refine (formOf_any _ _).mono ?_; rintro e w' ⟨rfl, rfl⟩)
  refine (reck_26 _).mono ?_
  rintro e w' ⟨rfl, rfl⟩
  go_wp2_with fail
  refine (clo_srl a X _ a1 a2 i1 i2).mono ?_
  rintro e w' ⟨rfl, rfl⟩
  go_wp2
  go_ret2
  exact ⟨ret2_ub HV.out.symm HO.out.symm, HN.out⟩

set_option maxHeartbeats 1000000 in
theorem value_27 (rd rs1 rs2 imm a b pc size : Int) (w : World) (hv : -2147483648 ≤ imm) (hv' : imm ≤ 2147483647) (a1 : 0 ≤ a) (a2 : a < 4294967296) (b1 : 0 ≤ b) (b2 : b < 4294967296) (p1 : 0 ≤ pc) (p2 : pc < 4294967296) (h : mayB 27 rd rs1 rs2 imm = true) :
    Calls Tryz.prog 32 #[.agg #[.int .i64 27, .int .i64 rd, .int .i64 rs1, .int .i64 rs2, .int .i32 imm], .int .u32 a, .int .u32 b, .int .u32 pc, .int .i64 size] w fun e w' => e = .returned (.tuple #[.int .u32 (valV 27 a b pc imm size), .bool (valO 27)]) ∧ Nx w w' := by
  have hf : formN 27 = 7 := rfl
  have HO : Hid (valO 27 = true) := rfl
  have i1 : 0 ≤ imm % 4294967296 := by omega
  have i2 : imm % 4294967296 < 4294967296 := by omega
  have HX : Hid (valV 27 a b pc imm size = recV 27 a (imm % 4294967296)) := rfl
  generalize hX : imm % 4294967296 = X at *
  have HXX := Lib.hid hX
  clear hX
  have HV : Hid (valV 27 a b pc imm size = (wrap32 a / 2 ^ (X % 32).toNat) % 4294967296) := HX.out
  clear HX
  have qX : IntKind.u32.wrap imm = X := by rw [wrap_u32]; exact HXX.out
  have hne : ∀ (fn : Fn) (first cap : Array Value) (w : World), (binOp .eql 102 (.func fn first cap) .nilFunc).run Tryz.prog w = .ok (.bool false) w := fun _ _ _ _ => rfl
  have hnn : ∀ (w : World), (binOp .eql 102 .nilFunc .nilFunc).run Tryz.prog w = .ok (.bool true) w := fun _ => rfl
  go_enter Tryz.func32, Tryz.ntmps32
  go_wp2_with fail
  refine (may_any _ _ _ _ _ _ hv hv').mono ?_
  rintro e w1 ⟨rfl, hn1⟩
  obtain ⟨c0, c1, c2, c3, c4, hz⟩ := five_in hn1
  have HN := Lib.hid (((Nx.refl w).alloc _).trans hn1)
  clear hn1
  go_wp2_with (go_at_call 59; refine (formOf_any _ _).mono ?_; rintro e w' ⟨rfl, rfl⟩)
  refine (reck_27 _).mono ?_
  rintro e w' ⟨rfl, rfl⟩
  go_wp2_with fail
  refine (clo_sra a X _ a1 a2 i1 i2).mono ?_
  rintro e w' ⟨rfl, rfl⟩
  go_wp2
  go_ret2
  exact ⟨ret2_ub HV.out.symm HO.out.symm, HN.out⟩

set_option maxHeartbeats 1000000 in
theorem value_28 (rd rs1 rs2 imm a b pc size : Int) (w : World) (hv : -2147483648 ≤ imm) (hv' : imm ≤ 2147483647) (a1 : 0 ≤ a) (a2 : a < 4294967296) (b1 : 0 ≤ b) (b2 : b < 4294967296) (p1 : 0 ≤ pc) (p2 : pc < 4294967296) (h : mayB 28 rd rs1 rs2 imm = true) :
    Calls Tryz.prog 32 #[.agg #[.int .i64 28, .int .i64 rd, .int .i64 rs1, .int .i64 rs2, .int .i32 imm], .int .u32 a, .int .u32 b, .int .u32 pc, .int .i64 size] w fun e w' => e = .returned (.tuple #[.int .u32 (valV 28 a b pc imm size), .bool (valO 28)]) ∧ Nx w w' := by
  have hf : formN 28 = 8 := rfl
  have HO : Hid (valO 28 = true) := rfl
  have HV : Hid (valV 28 a b pc imm size = (a + b) % 4294967296) := rfl
  have hne : ∀ (fn : Fn) (first cap : Array Value) (w : World), (binOp .eql 102 (.func fn first cap) .nilFunc).run Tryz.prog w = .ok (.bool false) w := fun _ _ _ _ => rfl
  have hnn : ∀ (w : World), (binOp .eql 102 .nilFunc .nilFunc).run Tryz.prog w = .ok (.bool true) w := fun _ => rfl
  go_enter Tryz.func32, Tryz.ntmps32
  go_wp2_with fail
  refine (may_any _ _ _ _ _ _ hv hv').mono ?_
  rintro e w1 ⟨rfl, hn1⟩
  obtain ⟨c0, c1, c2, c3, c4, hz⟩ := five_in hn1
  have HN := Lib.hid (((Nx.refl w).alloc _).trans hn1)
  clear hn1
  go_wp2_with (go_at_call 59; refine (formOf_any _ _).mono ?_; rintro e w' ⟨rfl, rfl⟩)
  refine (reck_28 _).mono ?_
  rintro e w' ⟨rfl, rfl⟩
  go_wp2_with fail
  refine (clo_add a b _ a1 a2 b1 b2).mono ?_
  rintro e w' ⟨rfl, rfl⟩
  go_wp2
  go_ret2
  exact ⟨ret2_ub HV.out.symm HO.out.symm, HN.out⟩

set_option maxHeartbeats 1000000 in
theorem value_29 (rd rs1 rs2 imm a b pc size : Int) (w : World) (hv : -2147483648 ≤ imm) (hv' : imm ≤ 2147483647) (a1 : 0 ≤ a) (a2 : a < 4294967296) (b1 : 0 ≤ b) (b2 : b < 4294967296) (p1 : 0 ≤ pc) (p2 : pc < 4294967296) (h : mayB 29 rd rs1 rs2 imm = true) :
    Calls Tryz.prog 32 #[.agg #[.int .i64 29, .int .i64 rd, .int .i64 rs1, .int .i64 rs2, .int .i32 imm], .int .u32 a, .int .u32 b, .int .u32 pc, .int .i64 size] w fun e w' => e = .returned (.tuple #[.int .u32 (valV 29 a b pc imm size), .bool (valO 29)]) ∧ Nx w w' := by
  have hf : formN 29 = 8 := rfl
  have HO : Hid (valO 29 = true) := rfl
  have HV : Hid (valV 29 a b pc imm size = (a - b) % 4294967296) := rfl
  have hne : ∀ (fn : Fn) (first cap : Array Value) (w : World), (binOp .eql 102 (.func fn first cap) .nilFunc).run Tryz.prog w = .ok (.bool false) w := fun _ _ _ _ => rfl
  have hnn : ∀ (w : World), (binOp .eql 102 .nilFunc .nilFunc).run Tryz.prog w = .ok (.bool true) w := fun _ => rfl
  go_enter Tryz.func32, Tryz.ntmps32
  go_wp2_with fail
  refine (may_any _ _ _ _ _ _ hv hv').mono ?_
  rintro e w1 ⟨rfl, hn1⟩
  obtain ⟨c0, c1, c2, c3, c4, hz⟩ := five_in hn1
  have HN := Lib.hid (((Nx.refl w).alloc _).trans hn1)
  clear hn1
  go_wp2_with (go_at_call 59; refine (formOf_any _ _).mono ?_; rintro e w' ⟨rfl, rfl⟩)
  refine (reck_29 _).mono ?_
  rintro e w' ⟨rfl, rfl⟩
  go_wp2_with fail
  refine (clo_sub a b _ a1 a2 b1 b2).mono ?_
  rintro e w' ⟨rfl, rfl⟩
  go_wp2
  go_ret2
  exact ⟨ret2_ub HV.out.symm HO.out.symm, HN.out⟩

set_option maxHeartbeats 1000000 in
theorem value_30 (rd rs1 rs2 imm a b pc size : Int) (w : World) (hv : -2147483648 ≤ imm) (hv' : imm ≤ 2147483647) (a1 : 0 ≤ a) (a2 : a < 4294967296) (b1 : 0 ≤ b) (b2 : b < 4294967296) (p1 : 0 ≤ pc) (p2 : pc < 4294967296) (h : mayB 30 rd rs1 rs2 imm = true) :
    Calls Tryz.prog 32 #[.agg #[.int .i64 30, .int .i64 rd, .int .i64 rs1, .int .i64 rs2, .int .i32 imm], .int .u32 a, .int .u32 b, .int .u32 pc, .int .i64 size] w fun e w' => e = .returned (.tuple #[.int .u32 (valV 30 a b pc imm size), .bool (valO 30)]) ∧ Nx w w' := by
  have hf : formN 30 = 8 := rfl
  have HO : Hid (valO 30 = true) := rfl
  have HV : Hid (valV 30 a b pc imm size = a * 2 ^ (b % 32).toNat % 4294967296) := rfl
  have hne : ∀ (fn : Fn) (first cap : Array Value) (w : World), (binOp .eql 102 (.func fn first cap) .nilFunc).run Tryz.prog w = .ok (.bool false) w := fun _ _ _ _ => rfl
  have hnn : ∀ (w : World), (binOp .eql 102 .nilFunc .nilFunc).run Tryz.prog w = .ok (.bool true) w := fun _ => rfl
  go_enter Tryz.func32, Tryz.ntmps32
  go_wp2_with fail
  refine (may_any _ _ _ _ _ _ hv hv').mono ?_
  rintro e w1 ⟨rfl, hn1⟩
  obtain ⟨c0, c1, c2, c3, c4, hz⟩ := five_in hn1
  have HN := Lib.hid (((Nx.refl w).alloc _).trans hn1)
  clear hn1
  go_wp2_with (go_at_call 59; refine (formOf_any _ _).mono ?_; rintro e w' ⟨rfl, rfl⟩)
  refine (reck_30 _).mono ?_
  rintro e w' ⟨rfl, rfl⟩
  go_wp2_with fail
  refine (clo_sll a b _ a1 a2 b1 b2).mono ?_
  rintro e w' ⟨rfl, rfl⟩
  go_wp2
  go_ret2
  exact ⟨ret2_ub HV.out.symm HO.out.symm, HN.out⟩

set_option maxHeartbeats 1000000 in
theorem value_31 (rd rs1 rs2 imm a b pc size : Int) (w : World) (hv : -2147483648 ≤ imm) (hv' : imm ≤ 2147483647) (a1 : 0 ≤ a) (a2 : a < 4294967296) (b1 : 0 ≤ b) (b2 : b < 4294967296) (p1 : 0 ≤ pc) (p2 : pc < 4294967296) (h : mayB 31 rd rs1 rs2 imm = true) :
    Calls Tryz.prog 32 #[.agg #[.int .i64 31, .int .i64 rd, .int .i64 rs1, .int .i64 rs2, .int .i32 imm], .int .u32 a, .int .u32 b, .int .u32 pc, .int .i64 size] w fun e w' => e = .returned (.tuple #[.int .u32 (valV 31 a b pc imm size), .bool (valO 31)]) ∧ Nx w w' := by
  have hf : formN 31 = 8 := rfl
  have HO : Hid (valO 31 = true) := rfl
  have HV : Hid (valV 31 a b pc imm size = ltI (wrap32 a) (wrap32 b)) := rfl
  have hne : ∀ (fn : Fn) (first cap : Array Value) (w : World), (binOp .eql 102 (.func fn first cap) .nilFunc).run Tryz.prog w = .ok (.bool false) w := fun _ _ _ _ => rfl
  have hnn : ∀ (w : World), (binOp .eql 102 .nilFunc .nilFunc).run Tryz.prog w = .ok (.bool true) w := fun _ => rfl
  go_enter Tryz.func32, Tryz.ntmps32
  go_wp2_with fail
  refine (may_any _ _ _ _ _ _ hv hv').mono ?_
  rintro e w1 ⟨rfl, hn1⟩
  obtain ⟨c0, c1, c2, c3, c4, hz⟩ := five_in hn1
  have HN := Lib.hid (((Nx.refl w).alloc _).trans hn1)
  clear hn1
  go_wp2_with (go_at_call 59; refine (formOf_any _ _).mono ?_; rintro e w' ⟨rfl, rfl⟩)
  refine (reck_31 _).mono ?_
  rintro e w' ⟨rfl, rfl⟩
  go_wp2_with fail
  refine (clo_slt a b _ a1 a2 b1 b2).mono ?_
  rintro e w' ⟨rfl, rfl⟩
  go_wp2
  go_ret2
  exact ⟨ret2_ub HV.out.symm HO.out.symm, HN.out⟩

set_option maxHeartbeats 1000000 in
theorem value_32 (rd rs1 rs2 imm a b pc size : Int) (w : World) (hv : -2147483648 ≤ imm) (hv' : imm ≤ 2147483647) (a1 : 0 ≤ a) (a2 : a < 4294967296) (b1 : 0 ≤ b) (b2 : b < 4294967296) (p1 : 0 ≤ pc) (p2 : pc < 4294967296) (h : mayB 32 rd rs1 rs2 imm = true) :
    Calls Tryz.prog 32 #[.agg #[.int .i64 32, .int .i64 rd, .int .i64 rs1, .int .i64 rs2, .int .i32 imm], .int .u32 a, .int .u32 b, .int .u32 pc, .int .i64 size] w fun e w' => e = .returned (.tuple #[.int .u32 (valV 32 a b pc imm size), .bool (valO 32)]) ∧ Nx w w' := by
  have hf : formN 32 = 8 := rfl
  have HO : Hid (valO 32 = true) := rfl
  have HV : Hid (valV 32 a b pc imm size = ltI a b) := rfl
  have hne : ∀ (fn : Fn) (first cap : Array Value) (w : World), (binOp .eql 102 (.func fn first cap) .nilFunc).run Tryz.prog w = .ok (.bool false) w := fun _ _ _ _ => rfl
  have hnn : ∀ (w : World), (binOp .eql 102 .nilFunc .nilFunc).run Tryz.prog w = .ok (.bool true) w := fun _ => rfl
  go_enter Tryz.func32, Tryz.ntmps32
  go_wp2_with fail
  refine (may_any _ _ _ _ _ _ hv hv').mono ?_
  rintro e w1 ⟨rfl, hn1⟩
  obtain ⟨c0, c1, c2, c3, c4, hz⟩ := five_in hn1
  have HN := Lib.hid (((Nx.refl w).alloc _).trans hn1)
  clear hn1
  go_wp2_with (go_at_call 59; refine (formOf_any _ _).mono ?_; rintro e w' ⟨rfl, rfl⟩)
  refine (reck_32 _).mono ?_
  rintro e w' ⟨rfl, rfl⟩
  go_wp2_with fail
  refine (clo_sltu a b _ a1 a2 b1 b2).mono ?_
  rintro e w' ⟨rfl, rfl⟩
  go_wp2
  go_ret2
  exact ⟨ret2_ub HV.out.symm HO.out.symm, HN.out⟩

end Go.Proofs.YtndpgakjpokllaaGreat

/- Contracts of package exec: Value, operation by operation. -/
namespace Go.Proofs.YtndpgakjpokllaaGreat
open Go.RowKit
set_option linter.unusedVariables false
set_option maxRecDepth 100000
set_option linter.unusedSimpArgs false

set_option maxHeartbeats 1000000 in
theorem value_33 (rd rs1 rs2 imm a b pc size : Int) (w : World) (hv : -2147483648 ≤ imm) (hv' : imm ≤ 2147483647) (a1 : 0 ≤ a) (a2 : a < 4294967296) (b1 : 0 ≤ b) (b2 : b < 4294967296) (p1 : 0 ≤ pc) (p2 : pc < 4294967296) (h : mayB 33 rd rs1 rs2 imm = true) :
    Calls Tryz.prog 32 #[.agg #[.int .i64 33, .int .i64 rd, .int .i64 rs1, .int .i64 rs2, .int .i32 imm], .int .u32 a, .int .u32 b, .int .u32 pc, .int .i64 size] w fun e w' => e = .returned (.tuple #[.int .u32 (valV 33 a b pc imm size), .bool (valO 33)]) ∧ Nx w w' := by
  have hf : formN 33 = 8 := rfl
  have HO : Hid (valO 33 = true) := rfl
  have HV : Hid (valV 33 a b pc imm size = bits .xor .u32 a b) := rfl
  have hne : ∀ (fn : Fn) (first cap : Array Value) (w : World), (binOp .eql 102 (.func fn first cap) .nilFunc).run Tryz.prog w = .ok (.bool false) w := fun _ _ _ _ => rfl
  have hnn : ∀ (w : World), (binOp .eql 102 .nilFunc .nilFunc).run Tryz.prog w = .ok (.bool true) w := fun _ => rfl
  go_enter Tryz.func32, Tryz.ntmps32
  go_wp2_with fail
  refine (may_any _ _ _ _ _ _ hv hv').mono ?_
  rintro e w1 ⟨rfl, hn1⟩
  obtain ⟨c0, c1, c2, c3, c4, hz⟩ := five_in hn1
  have HN := Lib.hid (((Nx.refl w).alloc _).trans hn1)
  clear hn1
  go_wp2_with (go_at_call 59; refine (formOf_any _ _).mono ?_; rintro e w' ⟨rfl, rfl⟩)
  refine (reck_33 _).mono ?_
  rintro e w' ⟨rfl, rfl⟩
  go_wp2_with fail
  refine (clo_xor a b _ a1 a2 b1 b2).mono ?_
  rintro e w' ⟨rfl, rfl⟩
  go_wp2
  go_ret2
  exact ⟨ret2_ub HV.out.symm HO.out.symm, HN.out⟩

set_option maxHeartbeats 1000000 in
theorem value_34 (rd rs1 rs2 imm a b pc size : Int) (w : World) (hv : -2147483648 ≤ imm) (hv' : imm ≤ 2147483647) (a1 : 0 ≤ a) (a2 : a < 4294967296) (b1 : 0 ≤ b) (b2 : b < 4294967296) (p1 : 0 ≤ pc) (p2 : pc < 4294967296) (h : mayB 34 rd rs1 rs2 imm = true) :
    Calls Tryz.prog 32 #[.agg #[.int .i64 34, .int .i64 rd, .int .i64 rs1, .int .i64 rs2, .int .i32 imm], .int .u32 a, .int .u32 b, .int .u32 pc, .int .i64 size] w fun e w' => e = .returned (.tuple #[.int .u32 (valV 34 a b pc imm size), .bool (valO 34)]) ∧ Nx w w' := by
  have hf : formN 34 = 8 := rfl
  have HO : Hid (valO 34 = true) := rfl
  have HV : Hid (valV 34 a b pc imm size = a / 2 ^ (b % 32).toNat) := rfl
  have hne : ∀ (fn : Fn) (first cap : Array Value) (w : World), (binOp .eql 102 (.func fn first cap) .nilFunc).run Tryz.prog w = .ok (.bool false) w := fun _ _ _ _ => rfl
  have hnn : ∀ (w : World), (binOp .eql 102 .nilFunc .nilFunc).run Tryz.prog w = .ok (.bool true) w := fun _ => rfl
  go_enter Tryz.func32, Tryz.ntmps32
  go_wp2_with fail
  refine (may_any _ _ _ _ _ _ hv hv').mono ?_
  rintro e w1 ⟨rfl, hn1⟩
  obtain ⟨c0, c1, c2, c3, c4, hz⟩ := five_in hn1
  have HN := Lib.hid (((Nx.refl w).alloc _).trans hn1)
  clear hn1
  go_wp2_with (go_at_call 59; refine (formOf_any _ _).mono ?_; rintro e w' ⟨rfl, rfl⟩)
  refine (reck_34 _).mono ?_
  rintro e w' ⟨rfl, rfl⟩
  go_wp2_with fail
  refine (clo_srl a b _ a1 a2 b1 b2).mono ?_
  rintro e w' ⟨rfl, rfl⟩
  go_wp2
  go_ret2
  exact ⟨ret2_ub HV.out.symm HO.out.symm, HN.out⟩

set_option maxHeartbeats 1000000 in
theorem value_35 (rd rs1 rs2 imm a b pc size : Int) (w : World) (hv : -2147483648 ≤ imm) (hv' : imm ≤ 2147483647) (a1 : 0 ≤ a) (a2 : a < 4294967296) (b1 : 0 ≤ b) (b2 : b < 4294967296) (p1 : 0 ≤ pc) (p2 : pc < 4294967296) (h : mayB 35 rd rs1 rs2 imm = true) :
    Calls Tryz.prog 32 #[.agg #[.int .i64 35, .int .i64 rd, .int .i64 rs1, .int .i64 rs2, .int .i32 imm], .int .u32 a, .int .u32 b, .int .u32 pc, .int .i64 size] w fun e w' => e = .returned (.tuple #[.int .u32 (valV 35 a b pc imm size), .bool (valO 35)]) ∧ Nx w w' := by
  have hf : formN 35 = 8 := rfl
  have HO : Hid (valO 35 = true) := rfl
  have HV : Hid (valV 35 a b pc imm size = (wrap32 a / 2 ^ (b % 32).toNat) % 4294967296) := rfl
  have hne : ∀ (fn : Fn) (first cap : Array Value) (w : World), (binOp .eql 102 (.func fn first cap) .nilFunc).run Tryz.prog w = .ok (.bool false) w := fun _ _ _ _ => rfl
  have hnn : ∀ (w : World), (binOp .eql 102 .nilFunc .nilFunc).run Tryz.prog w = .ok (.bool true) w := fun _ => rfl
  go_enter Tryz.func32, Tryz.ntmps32
  go_wp2_with fail
  refine (may_any _ _ _ _ _ _ hv hv').mono ?_
  rintro e w1 ⟨rfl, hn1⟩
  obtain ⟨c0, c1, c2, c3, c4, hz⟩ := five_in hn1
  have HN := Lib.hid (((Nx.refl w).alloc _).trans hn1)
  clear hn1
  go_wp2_with (go_at_call 59; refine (formOf_any _ _).mono ?_; rintro e w' ⟨rfl, rfl⟩)
  refine (reck_35 _).mono ?_
  rintro e w' ⟨rfl, rfl⟩
  go_wp2_with fail
  refine (clo_sra a b _ a1 a2 b1 b2).mono ?_
  rintro e w' ⟨rfl, rfl⟩
  go_wp2
  go_ret2
  exact ⟨ret2_ub HV.out.symm HO.out.symm, HN.out⟩

set_option maxHeartbeats 1000000 in
theorem value_36 (rd rs1 rs2 imm a b pc size : Int) (w : World) (hv : -2147483648 ≤ imm) (hv' : imm ≤ 2147483647) (a1 : 0 ≤ a) (a2 : a < 4294967296) (b1 : 0 ≤ b) (b2 : b < 4294967296) (p1 : 0 ≤ pc) (p2 : pc < 4294967296) (h : mayB 36 rd rs1 rs2 imm = true) :
    Calls Tryz.prog 32 #[.agg #[.int .i64 36, .int .i64 rd, .int .i64 rs1, .int .i64 rs2, .int .i32 imm], .int .u32 a, .int .u32 b, .int .u32 pc, .int .i64 size] w fun e w' => e = .returned (.tuple #[.int .u32 (valV 36 a b pc imm size), .bool (valO 36)]) ∧ Nx w w' := by
  have hf : formN 36 = 8 := rfl
  have HO : Hid (valO 36 = true) := rfl
  have HV : Hid (valV 36 a b pc imm size = bits .or .u32 a b) := rfl
  have hne : ∀ (fn : Fn) (first cap : Array Value) (w : World), (binOp .eql 102 (.func fn first cap) .nilFunc).run Tryz.prog w = .ok (.bool false) w := fun _ _ _ _ => rfl
  have hnn : ∀ (w : World), (binOp .eql 102 .nilFunc .nilFunc).run Tryz.prog w = .ok (.bool true) w := fun _ => rfl
  go_enter Tryz.func32, Tryz.ntmps32
  go_wp2_with fail
  refine (may_any _ _ _ _ _ _ hv hv').mono ?_
  rintro e w1 ⟨rfl, hn1⟩
  obtain ⟨c0, c1, c2, c3, c4, hz⟩ := five_in hn1
  have HN := Lib.hid (((Nx.refl w).alloc _).trans hn1)
  clear hn1
  go_wp2_with (go_at_call 59; refine (formOf_any _ _).mono ?_; rintro e w' ⟨rfl, rfl⟩)
  refine (reck_36 _).mono ?_
  rintro e w' ⟨rfl, rfl⟩
  go_wp2_with fail
  refine (clo_or a b _ a1 a2 b1 b2).mono ?_
  rintro e w' ⟨rfl, rfl⟩
  go_wp2
  go_ret2
  exact ⟨ret2_ub HV.out.symm HO.out.symm, HN.out⟩

set_option maxHeartbeats 1000000 in
theorem value_37 (rd rs1 rs2 imm a b pc size : Int) (w : World) (hv : -2147483648 ≤ imm) (hv' : imm ≤ 2147483647) (a1 : 0 ≤ a) (a2 : a < 4294967296) (b1 : 0 ≤ b) (b2 : b < 4294967296) (p1 : 0 ≤ pc) (p2 : pc < 4294967296) (h : mayB 37 rd rs1 rs2 imm = true) :
    Calls Tryz.prog 32 #[.agg #[.int .i64 37, .int .i64 rd, .int .i64 rs1, .int .i64 rs2, .int .i32 imm], .int .u32 a, .int .u32 b, .int .u32 pc, .int .i64 size] w fun e w' => e = .returned (.tuple #[.int .u32 (valV 37 a b pc imm size), .bool (valO 37)]) ∧ Nx w w' := by
  have hf : formN 37 = 8 := rfl
  have HO : Hid (valO 37 = true) := rfl
  have HV : Hid (valV 37 a b pc imm size = bits .and .u32 a b) := rfl
  have hne : ∀ (fn : Fn) (first cap : Array Value) (w : World), (binOp .eql 102 (.func fn first cap) .nilFunc).run Tryz.prog w = .ok (.bool false) w := fun _ _ _ _ => rfl
  have hnn : ∀ (w : World), (binOp .eql 102 .nilFunc .nilFunc).run Tryz.prog w = .ok (.bool true) w := fun _ => rfl
  go_enter Tryz.func32, Tryz.ntmps32
  go_wp2_with fail
  refine (may_any _ _ _ _ _ _ hv hv').mono ?_
  rintro e w1 ⟨rfl, hn1⟩
  obtain ⟨c0, c1, c2, c3, c4, hz⟩ := five_in hn1
  have HN := Lib.hid (((Nx.refl w).alloc _).trans hn1)
  clear hn1
  go_wp2_with (go_at_call 59; refine (formOf_any _ _).mono ?_; rintro e w' ⟨rfl, rfl⟩)
  refine (reck_37 _).mono ?_
  rintro e w' ⟨rfl, rfl⟩
  go_wp2_with fail
  refine (clo_and a b _ a1 a2 b1 b2).mono ?_
  rintro e w' ⟨rfl, rfl⟩
  go_wp2
  go_ret2
  exact ⟨ret2_ub HV.out.symm HO.out.symm, HN.out⟩

set_option maxHeartbeats 1000000 in
theorem value_38 (rd rs1 rs2 imm a b pc size : Int) (w : World) (hv : -2147483648 ≤ imm) (hv' : imm ≤ 2147483647) (a1 : 0 ≤ a) (a2 : a < 4294967296) (b1 : 0 ≤ b) (b2 : b < 4294967296) (p1 : 0 ≤ pc) (p2 : pc < 4294967296) (h : mayB 38 rd rs1 rs2 imm = true) :
    Calls Tryz.prog 32 #[.agg #[.int .i64 38, .int .i64 rd, .int .i64 rs1, .int .i64 rs2, .int .i32 imm], .int .u32 a, .int .u32 b, .int .u32 pc, .int .i64 size] w fun e w' => e = .returned (.tuple #[.int .u32 (0), .bool (valO 38)]) ∧ Nx w w' := by
  have hf : formN 38 = 9 := rfl
  have HO : Hid (valO 38 = false) := rfl
  have hne : ∀ (fn : Fn) (first cap : Array Value) (w : World), (binOp .eql 102 (.func fn first cap) .nilFunc).run Tryz.prog w = .ok (.bool false) w := fun _ _ _ _ => rfl
  have hnn : ∀ (w : World), (binOp .eql 102 .nilFunc .nilFunc).run Tryz.prog w = .ok (.bool true) w := fun _ => rfl
  go_enter Tryz.func32, Tryz.ntmps32
  go_wp2_with fail
  refine (may_any _ _ _ _ _ _ hv hv').mono ?_
  rintro e w1 ⟨rfl, hn1⟩
  obtain ⟨c0, c1, c2, c3, c4, hz⟩ := five_in hn1
  have HN := Lib.hid (((Nx.refl w).alloc _).trans hn1)
  clear hn1
  go_wp2_with (go_at_call 59; refine (formOf_any _ _).mono ?_; rintro e w' ⟨rfl, rfl⟩)
  refine (reck_38 _).mono ?_
  rintro e w2 ⟨rfl, hn2⟩
  go_wp2
  go_ret2
  exact ⟨ret2_ub rfl HO.out.symm, HN.out.trans hn2⟩

set_option maxHeartbeats 1000000 in
theorem value_39 (rd rs1 rs2 imm a b pc size : Int) (w : World) (hv : -2147483648 ≤ imm) (hv' : imm ≤ 2147483647) (a1 : 0 ≤ a) (a2 : a < 4294967296) (b1 : 0 ≤ b) (b2 : b < 4294967296) (p1 : 0 ≤ pc) (p2 : pc < 4294967296) (h : mayB 39 rd rs1 rs2 imm = true) :
    Calls Tryz.prog 32 #[.agg #[.int .i64 39, .int .i64 rd, .int .i64 rs1, .int .i64 rs2, .int .i32 imm], .int .u32 a, .int .u32 b, .int .u32 pc, .int .i64 size] w fun e w' => e = .returned (.tuple #[.int .u32 (0), .bool (valO 39)]) ∧ Nx w w' := by
  have hf : formN 39 = 9 := rfl
  have HO : Hid (valO 39 = false) := rfl
  have hne : ∀ (fn : Fn) (first cap : Array Value) (w : World), (binOp .eql 102 (.func fn first cap) .nilFunc).run Tryz.prog w = .ok (.bool false) w := fun _ _ _ _ => rfl
  have hnn : ∀ (w : World), (binOp .eql 102 .nilFunc .nilFunc).run Tryz.prog w = .ok (.bool true) w := fun _ => rfl
  go_enter Tryz.func32, Tryz.ntmps32
  go_wp2_with fail
  refine (may_any _ _ _ _ _ _ hv hv').mono ?_
  rintro e w1 ⟨rfl, hn1⟩
  obtain ⟨c0, c1, c2, c3, c4, hz⟩ := five_in hn1
  have HN := Lib.hid (((Nx.refl w).alloc _).trans hn1)
  clear hn1
  go_wp2_with (go_at_call 59; refine (formOf_any _ _).mono ?_; rintro e w' ⟨rfl, rfl⟩)
  refine (reck_39 _).mono ?_
  rintro e w2 ⟨rfl, hn2⟩
  go_wp2
  go_ret2
  exact ⟨ret2_ub rfl HO.out.symm, HN.out.trans hn2⟩

set_option maxHeartbeats 1000000 in
theorem value_40 (rd rs1 rs2 imm a b pc size : Int) (w : World) (hv : -2147483648 ≤ imm) (hv' : imm ≤ 2147483647) (a1 : 0 ≤ a) (a2 : a < 4294967296) (b1 : 0 ≤ b) (b2 : b < 4294967296) (p1 : 0 ≤ pc) (p2 : pc < 4294967296) (h : mayB 40 rd rs1 rs2 imm = true) :
    Calls Tryz.prog 32 #[.agg #[.int .i64 40, .int .i64 rd, .int .i64 rs1, .int .i64 rs2, .int .i32 imm], .int .u32 a, .int .u32 b, .int .u32 pc, .int .i64 size] w fun e w' => e = .returned (.tuple #[.int .u32 (0), .bool (valO 40)]) ∧ Nx w w' := by
  have hf : formN 40 = 9 := rfl
  have HO : Hid (valO 40 = false) := rfl
  have hne : ∀ (fn : Fn) (first cap : Array Value) (w : World), (binOp .eql 102 (.func fn first cap) .nilFunc).run Tryz.prog w = .ok (.bool false) w := fun _ _ _ _ => rfl
  have hnn : ∀ (w : World), (binOp .eql 102 .nilFunc .nilFunc).run Tryz.prog w = .ok (.bool true) w := fun _ => rfl
  go_enter Tryz.func32, Tryz.ntmps32
  go_wp2_with fail
  refine (may_any _ _ _ _ _ _ hv hv').mono ?_
  rintro e w1 ⟨rfl, hn1⟩
  obtain ⟨c0, c1, c2, c3, c4, hz⟩ := five_in hn1
  have HN := Lib.hid (((Nx.refl w).alloc _).trans hn1)
  clear hn1
  go_wp2_with (go_at_call 59; refine (formOf_any _ _).mono ?_; rintro e w' ⟨rfl, rfl⟩)
  refine (reck_40 _).mono ?_
  rintro e w2 ⟨rfl, hn2⟩
  go_wp2
  go_ret2
  exact ⟨ret2_ub rfl HO.out.symm, HN.out.trans hn2⟩

set_option maxHeartbeats 1000000 in
theorem value_41 (rd rs1 rs2 imm a b pc size : Int) (w : World) (hv : -2147483648 ≤ imm) (hv' : imm ≤ 2147483647) (a1 : 0 ≤ a) (a2 : a < 4294967296) (b1 : 0 ≤ b) (b2 : b < 4294967296) (p1 : 0 ≤ pc) (p2 : pc < 4294967296) (h : mayB 41 rd rs1 rs2 imm = true) :
    Calls Tryz.prog 32 #[.agg #[.int .i64 41, .int .i64 rd, .int .i64 rs1, .int .i64 rs2, .int .i32 imm], .int .u32 a, .int .u32 b, .int .u32 pc, .int .i64 size] w fun e w' => e = .returned (.tuple #[.int .u32 (valV 41 a b pc imm size), .bool (valO 41)]) ∧ Nx w w' := by
  have hf : formN 41 = 8 := rfl
  have HO : Hid (valO 41 = true) := rfl
  have HV : Hid (valV 41 a b pc imm size = a * b % 4294967296) := rfl
  have hne : ∀ (fn : Fn) (first cap : Array Value) (w : World), (binOp .eql 102 (.func fn first cap) .nilFunc).run Tryz.prog w = .ok (.bool false) w := fun _ _ _ _ => rfl
  have hnn : ∀ (w : World), (binOp .eql 102 .nilFunc .nilFunc).run Tryz.prog w = .ok (.bool true) w := fun _ => rfl
  go_enter Tryz.func32, Tryz.ntmps32
  go_wp2_with fail
  refine (may_any _ _ _ _ _ _ hv hv').mono ?_
  rintro e w1 ⟨rfl, hn1⟩
  obtain ⟨c0, c1, c2, c3, c4, hz⟩ := five_in hn1
  have HN := Lib.hid (((Nx.refl w).alloc _).trans hn1)
  clear hn1
  go_wp2_with (go_at_call 59; refine (formOf_any _ _).mono ?_; rintro e w' ⟨rfl, rfl⟩)
  refine (reck_41 _).mono ?_
  rintro e w2 ⟨rfl, hn2⟩
  go_wp2_with fail
  refine (clo_mul a b _ a1 a2 b1 b2).mono ?_
  rintro e w' ⟨rfl, rfl⟩
  go_wp2
  go_ret2
  exact ⟨ret2_ub HV.out.symm HO.out.symm, HN.out.trans hn2⟩

set_option maxHeartbeats 1000000 in
theorem value_42 (rd rs1 rs2 imm a b pc size : Int) (w : World) (hv : -2147483648 ≤ imm) (hv' : imm ≤ 2147483647) (a1 : 0 ≤ a) (a2 : a < 4294967296) (b1 : 0 ≤ b) (b2 : b < 4294967296) (p1 : 0 ≤ pc) (p2 : pc < 4294967296) (h : mayB 42 rd rs1 rs2 imm = true) :
    Calls Tryz.prog 32 #[.agg #[.int .i64 42, .int .i64 rd, .int .i64 rs1, .int .i64 rs2, .int .i32 imm], .int .u32 a, .int .u32 b, .int .u32 pc, .int .i64 size] w fun e w' => e = .returned (.tuple #[.int .u32 (valV 42 a b pc imm size), .bool (valO 42)]) ∧ Nx w w' := by
  have hf : formN 42 = 8 := rfl
  have HO : Hid (valO 42 = true) := rfl
  have HV : Hid (valV 42 a b pc imm size = mulh a b true true) := rfl
  have hne : ∀ (fn : Fn) (first cap : Array Value) (w : World), (binOp .eql 102 (.func fn first cap) .nilFunc).run Tryz.prog w = .ok (.bool false) w := fun _ _ _ _ => rfl
  have hnn : ∀ (w : World), (binOp .eql 102 .nilFunc .nilFunc).run Tryz.prog w = .ok (.bool true) w := fun _ => rfl
  go_enter Tryz.func32, Tryz.ntmps32
  go_wp2_with fail
  refine (may_any _ _ _ _ _ _ hv hv').mono ?_
  rintro e w1 ⟨rfl, hn1⟩
  obtain ⟨c0, c1, c2, c3, c4, hz⟩ := five_in hn1
  have HN := Lib.hid (((Nx.refl w).alloc _).trans hn1)
  clear hn1
  go_wp2_with (go_at_call 59; refine (formOf_any _ _).mono ?_; rintro e w' ⟨rfl, rfl⟩)
  refine (reck_42 _).mono ?_
  rintro e w2 ⟨x, y, rfl, hx, hy, hn2⟩
  go_wp2_with fail
  refine (clo_mulh a b _ _ x y _ a1 a2 b1 b2 hx hy).mono ?_
  rintro e w3 ⟨rfl, hn3⟩
  go_wp2
  go_ret2
  exact ⟨ret2_ub HV.out.symm HO.out.symm, HN.out.trans (hn2.trans hn3)⟩

set_option maxHeartbeats 1000000 in
theorem value_43 (rd rs1 rs2 imm a b pc size : Int) (w : World) (hv : -2147483648 ≤ imm) (hv' : imm ≤ 2147483647) (a1 : 0 ≤ a) (a2 : a < 4294967296) (b1 : 0 ≤ b) (b2 : b < 4294967296) (p1 : 0 ≤ pc) (p2 : pc < 4294967296) (h : mayB 43 rd rs1 rs2 imm = true) :
    Calls Tryz.prog 32 #[.agg #[.int .i64 43, .int .i64 rd, .int .i64 rs1, .int .i64 rs2, .int .i32 imm], .int .u32 a, .int .u32 b, .int .u32 pc, .int .i64 size] w fun e w' => e = .returned (.tuple #[.int .u32 (valV 43 a b pc imm size), .bool (valO 43)]) ∧ Nx w w' := by
  have hf : formN 43 = 8 := rfl
  have HO : Hid (valO 43 = true) := rfl
  have HV : Hid (valV 43 a b pc imm size = mulh a b true false) := rfl
  have hne : ∀ (fn : Fn) (first cap : Array Value) (w : World), (binOp .eql 102 (.func fn first cap) .nilFunc).run Tryz.prog w = .ok (.bool false) w := fun _ _ _ _ => rfl
  have hnn : ∀ (w : World), (binOp .eql 102 .nilFunc .nilFunc).run Tryz.prog w = .ok (.bool true) w := fun _ => rfl
  go_enter Tryz.func32, Tryz.ntmps32
  go_wp2_with fail
  refine (may_any _ _ _ _ _ _ hv hv').mono ?_
  rintro e w1 ⟨rfl, hn1⟩
  obtain ⟨c0, c1, c2, c3, c4, hz⟩ := five_in hn1
  have HN := Lib.hid (((Nx.refl w).alloc _).trans hn1)
  clear hn1
  go_wp2_with (go_at_call 59; refine (formOf_any _ _).mono ?_; rintro e w' ⟨rfl, rfl⟩)
  refine (reck_43 _).mono ?_
  rintro e w2 ⟨x, y, rfl, hx, hy, hn2⟩
  go_wp2_with fail
  refine (clo_mulh a b _ _ x y _ a1 a2 b1 b2 hx hy).mono ?_
  rintro e w3 ⟨rfl, hn3⟩
  go_wp2
  go_ret2
  exact ⟨ret2_ub HV.out.symm HO.out.symm, HN.out.trans (hn2.trans hn3)⟩

set_option maxHeartbeats 1000000 in
theorem value_44 (rd rs1 rs2 imm a b pc size : Int) (w : World) (hv : -2147483648 ≤ imm) (hv' : imm ≤ 2147483647) (a1 : 0 ≤ a) (a2 : a < 4294967296) (b1 : 0 ≤ b) (b2 : b < 4294967296) (p1 : 0 ≤ pc) (p2 : pc < 4294967296) (h : mayB 44 rd rs1 rs2 imm = true) :
    Calls Tryz.prog 32 #[.agg #[.int .i64 44, .int .i64 rd, .int .i64 rs1, .int .i64 rs2, .int .i32 imm], .int .u32 a, .int .u32 b, .int .u32 pc, .int .i64 size] w fun e w' => e = .returned (.tuple #[.int .u32 (valV 44 a b pc imm size), .bool (valO 44)]) ∧ Nx w w' := by
  have hf : formN 44 = 8 := rfl
  have HO : Hid (valO 44 = true) := rfl
  have HV : Hid (valV 44 a b pc imm size = mulh a b false false) := rfl
  have hne : ∀ (fn : Fn) (first cap : Array Value) (w : World), (binOp .eql 102 (.func fn first cap) .nilFunc).run Tryz.prog w = .ok (.bool false) w := fun _ _ _ _ => rfl
  have hnn : ∀ (w : World), (binOp .eql 102 .nilFunc .nilFunc).run Tryz.prog w = .ok (.bool true) w := fun _ => rfl
  go_enter Tryz.func32, Tryz.ntmps32
  go_wp2_with fail
  refine (may_any _ _ _ _ _ _ hv hv').mono ?_
  rintro e w1 ⟨rfl, hn1⟩
  obtain ⟨c0, c1, c2, c3, c4, hz⟩ := five_in hn1
  have HN := Lib.hid (((Nx.refl w).alloc _).trans hn1)
  clear hn1
  go_wp2_with (go_at_call 59; refine (formOf_any _ _).mono ?_; rintro e w' ⟨rfl, rfl⟩)
  refine (reck_44 _).mono ?_
  rintro e w2 ⟨x, y, rfl, hx, hy, hn2⟩
  go_wp2_with fail
  refine (clo_mulh a b _ _ x y _ a1 a2 b1 b2 hx hy).mono ?_
  rintro e w3 ⟨rfl, hn3⟩
  go_wp2
  go_ret2
  exact ⟨ret2_ub HV.out.symm HO.out.symm, HN.out.trans (hn2.trans hn3)⟩

set_option maxHeartbeats 1000000 in
theorem value_45 (rd rs1 rs2 imm a b pc size : Int) (w : World) (hv : -2147483648 ≤ imm) (hv' : imm ≤ 2147483647) (a1 : 0 ≤ a) (a2 : a < 4294967296) (b1 : 0 ≤ b) (b2 : b < 4294967296) (p1 : 0 ≤ pc) (p2 : pc < 4294967296) (h : mayB 45 rd rs1 rs2 imm = true) :
    Calls Tryz.prog 32 #[.agg #[.int .i64 45, .int .i64 rd, .int .i64 rs1, .int .i64 rs2, .int .i32 imm], .int .u32 a, .int .u32 b, .int .u32 pc, .int .i64 size] w fun e w' => e = .returned (.tuple #[.int .u32 (valV 45 a b pc imm size), .bool (valO 45)]) ∧ Nx w w' := by
  have hf : formN 45 = 8 := rfl
  have HO : Hid (valO 45 = true) := rfl
  have HV : Hid (valV 45 a b pc imm size = dv a b true) := rfl
  have hne : ∀ (fn : Fn) (first cap : Array Value) (w : World), (binOp .eql 102 (.func fn first cap) .nilFunc).run Tryz.prog w = .ok (.bool false) w := fun _ _ _ _ => rfl
  have hnn : ∀ (w : World), (binOp .eql 102 .nilFunc .nilFunc).run Tryz.prog w = .ok (.bool true) w := fun _ => rfl
  go_enter Tryz.func32, Tryz.ntmps32
  go_wp2_with fail
  refine (may_any _ _ _ _ _ _ hv hv').mono ?_
  rintro e w1 ⟨rfl, hn1⟩
  obtain ⟨c0, c1, c2, c3, c4, hz⟩ := five_in hn1
  have HN := Lib.hid (((Nx.refl w).alloc _).trans hn1)
  clear hn1
  go_wp2_with (go_at_call 59; refine (formOf_any _ _).mono ?_; rintro e w' ⟨rfl, rfl⟩)
  refine (reck_45 _).mono ?_
  rintro e w2 ⟨x, rfl, hx, hn2⟩
  go_wp2_with fail
  refine (clo_div a b _ x _ a1 a2 b1 b2 hx).mono ?_
  rintro e w3 ⟨rfl, hn3⟩
  go_wp2
  go_ret2
  exact ⟨ret2_ub HV.out.symm HO.out.symm, HN.out.trans (hn2.trans hn3)⟩

set_option maxHeartbeats 1000000 in
theorem value_46 (rd rs1 rs2 imm a b pc size : Int) (w : World) (hv : -2147483648 ≤ imm) (hv' : imm ≤ 2147483647) (a1 : 0 ≤ a) (a2 : a < 4294967296) (b1 : 0 ≤ b) (b2 : b < 4294967296) (p1 : 0 ≤ pc) (p2 : pc < 4294967296) (h : mayB 46 rd rs1 rs2 imm = true) :
    Calls Tryz.prog 32 #[.agg #[.int .i64 46, .int .i64 rd, .int .i64 rs1, .int .i64 rs2, .int .i32 imm], .int .u32 a, .int .u32 b, .int .u32 pc, .int .i64 size] w fun e w' => e = .returned (.tuple #[.int .u32 (valV 46 a b pc imm size), .bool (valO 46)]) ∧ Nx w w' := by
  have hf : formN 46 = 8 := rfl
  have HO : Hid (valO 46 = true) := rfl
  have HV : Hid (valV 46 a b pc imm size = dv a b false) := rfl
  have hne : ∀ (fn : Fn) (first cap : Array Value) (w : World), (binOp .eql 102 (.func fn first cap) .nilFunc).run Tryz.prog w = .ok (.bool false) w := fun _ _ _ _ => rfl
  have hnn : ∀ (w : World), (binOp .eql 102 .nilFunc .nilFunc).run Tryz.prog w = .ok (.bool true) w := fun _ => rfl
  go_enter Tryz.func32, Tryz.ntmps32
  go_wp2_with fail
  refine (may_any _ _ _ _ _ _ hv hv').mono ?_
  rintro e w1 ⟨rfl, hn1⟩
  obtain ⟨c0, c1, c2, c3, c4, hz⟩ := five_in hn1
  have HN := Lib.hid (((Nx.refl w).alloc _).trans hn1)
  clear hn1
  go_wp2_with (go_at_call 59; refine (formOf_any _ _).mono ?_; rintro e w' ⟨rfl, rfl⟩)
  refine (reck_46 _).mono ?_
  rintro e w2 ⟨x, rfl, hx, hn2⟩
  go_wp2_with fail
  refine (clo_div a b _ x _ a1 a2 b1 b2 hx).mono ?_
  rintro e w3 ⟨rfl, hn3⟩
  go_wp2
  go_ret2
  exact ⟨ret2_ub HV.out.symm HO.out.symm, HN.out.trans (hn2.trans hn3)⟩

set_option maxHeartbeats 1000000 in
theorem value_47 (rd rs1 rs2 imm a b pc size : Int) (w : World) (hv : -2147483648 ≤ imm) (hv' : imm ≤ 2147483647) (a1 : 0 ≤ a) (a2 : a < 4294967296) (b1 : 0 ≤ b) (b2 : b < 4294967296) (p1 : 0 ≤ pc) (p2 : pc < 4294967296) (h : mayB 47 rd rs1 rs2 imm = true) :
    Calls Tryz.prog 32 #[.agg #[.int .i64 47, .int .i64 rd, .int .i64 rs1, .int .i64 rs2, .int .i32 imm], .int .u32 a, .int .u32 b, .int .u32 pc, .int .i64 size] w fun e w' => e = .returned (.tuple #[.int .u32 (valV 47 a b pc imm size), .bool (valO 47)]) ∧ Nx w w' := by
  have hf : formN 47 = 8 := rfl
  have HO : Hid (valO 47 = true) := rfl
  have HV : Hid (valV 47 a b pc imm size = rm a b true) := rfl
  have hne : ∀ (fn : Fn) (first cap : Array Value) (w : World), (binOp .eql 102 (.func fn first cap) .nilFunc).run Tryz.prog w = .ok (.bool false) w := fun _ _ _ _ => rfl
  have hnn : ∀ (w : World), (binOp .eql 102 .nilFunc .nilFunc).run Tryz.prog w = .ok (.bool true) w := fun _ => rfl
  go_enter Tryz.func32, Tryz.ntmps32
  go_wp2_with fail
  refine (may_any _ _ _ _ _ _ hv hv').mono ?_
  rintro e w1 ⟨rfl, hn1⟩
  obtain ⟨c0, c1, c2, c3, c4, hz⟩ := five_in hn1
  have HN := Lib.hid (((Nx.refl w).alloc _).trans hn1)
  clear hn1
  go_wp2_with (go_at_call 59; refine (formOf_any _ _).mono ?_; rintro e w' ⟨rfl, rfl⟩)
  refine (reck_47 _).mono ?_
  rintro e w2 ⟨x, rfl, hx, hn2⟩
  go_wp2_with fail
  refine (clo_rem a b _ x _ a1 a2 b1 b2 hx).mono ?_
  rintro e w3 ⟨rfl, hn3⟩
  go_wp2
  go_ret2
  exact ⟨ret2_ub HV.out.symm HO.out.symm, HN.out.trans (hn2.trans hn3)⟩

set_option maxHeartbeats 1000000 in
theorem value_48 (rd rs1 rs2 imm a b pc size : Int) (w : World) (hv : -2147483648 ≤ imm) (hv' : imm ≤ 2147483647) (a1 : 0 ≤ a) (a2 : a < 4294967296) (b1 : 0 ≤ b) (b2 : b < 4294967296) (p1 : 0 ≤ pc) (p2 : pc < 4294967296) (h : mayB 48 rd rs1 rs2 imm = true) :
    Calls Tryz.prog 32 #[.agg #[.int .i64 48, .int .i64 rd, .int .i64 rs1, .int .i64 rs2, .int .i32 imm], .int .u32 a, .int .u32 b, .int .u32 pc, .int .i64 size] w fun e w' => e = .returned (.tuple #[.int .u32 (valV 48 a b pc imm size), .bool (valO 48)]) ∧ Nx w w' := by
  have hf : formN 48 = 8 := rfl
  have HO : Hid (valO 48 = true) := rfl
  have HV : Hid (valV 48 a b pc imm size = rm a b false) := rfl
  have hne : ∀ (fn : Fn) (first cap : Array Value) (w : World), (binOp .eql 102 (.func fn first cap) .nilFunc).run Tryz.prog w = .ok (.bool false) w := fun _ _ _ _ => rfl
  have hnn : ∀ (w : World), (binOp .eql 102 .nilFunc .nilFunc).run Tryz.prog w = .ok (.bool true) w := fun _ => rfl
  go_enter Tryz.func32, Tryz.ntmps32
  go_wp2_with fail
  refine (may_any _ _ _ _ _ _ hv hv').mono ?_
  rintro e w1 ⟨rfl, hn1⟩
  obtain ⟨c0, c1, c2, c3, c4, hz⟩ := five_in hn1
  have HN := Lib.hid (((Nx.refl w).alloc _).trans hn1)
  clear hn1
  go_wp2_with (go_at_call 59; refine (formOf_any _ _).mono ?_; rintro e w' ⟨rfl, rfl⟩)
  refine (reck_48 _).mono ?_
  rintro e w2 ⟨x, rfl, hx, hn2⟩
  go_wp2_with fail
  refine (clo_rem a b _ x _ a1 a2 b1 b2 hx).mono ?_
  rintro e w3 ⟨rfl, hn3⟩
  go_wp2
  go_ret2
  exact ⟨ret2_ub HV.out.symm HO.out.symm, HN.out.trans (hn2.trans hn3)⟩

end Go.Proofs.YtndpgakjpokllaaGreat

/- Contracts of package exec: Next, Access. -/
namespace Go.Proofs.YtndpgakjpokllaaGreat
open Go.RowKit
set_option linter.unusedVariables false
set_option linter.unusedSimpArgs false

/-- Does it go where it says? -/
def goB (op a b : Int) : Bool :=
  if op = 3 then true else if op = 5 then a == b else if op = 6 then !(a == b) else if op = 7 then decide (wrap32 a < wrap32 b) else if op = 8 then decide (wrap32 b ≤ wrap32 a)
  else if op = 9 then decide (a < b) else if op = 10 then decide (b ≤ a) else false

def nextV (op a b pc imm size : Int) : Int :=
  if op = 4 then bits .andNot .u32 ((a + imm % 4294967296) % 4294967296) 1
  else if goB op a b = true then (pc + imm % 4294967296) % 4294967296 else (pc + size % 4294967296) % 4294967296

def accN (op : Int) : Int := if op = 11 ∨ op = 14 ∨ op = 16 then 1 else if op = 12 ∨ op = 15 ∨ op = 17 then 2 else if op = 13 ∨ op = 18 then 4 else 0

def accS (op : Int) : Bool := decide (16 ≤ op) && decide (op ≤ 18)

def accG (op : Int) : Bool := decide (11 ≤ op) && decide (op ≤ 13)

def accA (op a imm : Int) : Int := if accN op = 0 then 0 else (a + imm % 4294967296) % 4294967296

theorem ret4 {a b c d : Int} {e f g h : Bool} (h1 : a = b) (h2 : c = d) (h3 : e = f) (h4 : g = h) : Ending.returned (.tuple #[.int .u32 a, .int .i64 c, .bool e, .bool g]) = Ending.returned (.tuple #[.int .u32 b, .int .i64 d, .bool f, .bool h]) := by rw [h1, h2, h3, h4]

end Go.Proofs.YtndpgakjpokllaaGreat

/- Contracts of package exec: Next. -/
namespace Go.Proofs.YtndpgakjpokllaaGreat
open Go.RowKit
set_option linter.unusedVariables false
set_option linter.unusedSimpArgs false

set_option maxHeartbeats 1000000 in
theorem next_1 (rd rs1 rs2 imm a b pc size : Int) (w : World) (hv : -2147483648 ≤ imm) (hv' : imm ≤ 2147483647) (a1 : 0 ≤ a) (a2 : a < 4294967296) (b1 : 0 ≤ b) (b2 : b < 4294967296) (p1 : 0 ≤ pc) (p2 : pc < 4294967296) (h : mayB 1 rd rs1 rs2 imm = true) :
    Calls Tryz.prog 33 #[.agg #[.int .i64 1, .int .i64 rd, .int .i64 rs1, .int .i64 rs2, .int .i32 imm], .int .u32 a, .int .u32 b, .int .u32 pc, .int .i64 size] w fun e w' => e = .returned (.int .u32 (nextV 1 a b pc imm size)) ∧ Nx w w' := by
  have HV : Hid (nextV 1 a b pc imm size = (pc + size % 4294967296) % 4294967296) := rfl
  go_enter Tryz.func33, Tryz.ntmps33
  go_wp2_with fail
  refine (may_any _ _ _ _ _ _ hv hv').mono ?_
  rintro e w1 ⟨rfl, hn1⟩
  obtain ⟨c0, c1, c2, c3, c4, hz⟩ := five_in hn1
  have HN := Lib.hid (((Nx.refl w).alloc _).trans hn1)
  clear hn1
  go_wp2
  go_ret
  exact ⟨ret_u32 (by have q := HV.out; first | exact q.symm | (rw [q]; omega) | (rw [q]; simp; done)), HN.out⟩

set_option maxHeartbeats 1000000 in
theorem next_2 (rd rs1 rs2 imm a b pc size : Int) (w : World) (hv : -2147483648 ≤ imm) (hv' : imm ≤ 2147483647) (a1 : 0 ≤ a) (a2 : a < 4294967296) (b1 : 0 ≤ b) (b2 : b < 4294967296) (p1 : 0 ≤ pc) (p2 : pc < 4294967296) (h : mayB 2 rd rs1 rs2 imm = true) :
    Calls Tryz.prog 33 #[.agg #[.int .i64 2, .int .i64 rd, .int .i64 rs1, .int .i64 rs2, .int .i32 imm], .int .u32 a, .int .u32 b, .int .u32 pc, .int .i64 size] w fun e w' => e = .returned (.int .u32 (nextV 2 a b pc imm size)) ∧ Nx w w' := by
  have HV : Hid (nextV 2 a b pc imm size = (pc + size % 4294967296) % 4294967296) := rfl
  go_enter Tryz.func33, Tryz.ntmps33
  go_wp2_with fail
  refine (may_any _ _ _ _ _ _ hv hv').mono ?_
  rintro e w1 ⟨rfl, hn1⟩
  obtain ⟨c0, c1, c2, c3, c4, hz⟩ := five_in hn1
  have HN := Lib.hid (((Nx.refl w).alloc _).trans hn1)
  clear hn1
  go_wp2
  go_ret
  exact ⟨ret_u32 (by have q := HV.out; first | exact q.symm | (rw [q]; omega) | (rw [q]; simp; done)), HN.out⟩

set_option maxHeartbeats 1000000 in
theorem next_3 (rd rs1 rs2 imm a b pc size : Int) (w : World) (hv : -2147483648 ≤ imm) (hv' : imm ≤ 2147483647) (a1 : 0 ≤ a) (a2 : a < 4294967296) (b1 : 0 ≤ b) (b2 : b < 4294967296) (p1 : 0 ≤ pc) (p2 : pc < 4294967296) (h : mayB 3 rd rs1 rs2 imm = true) :
    Calls Tryz.prog 33 #[.agg #[.int .i64 3, .int .i64 rd, .int .i64 rs1, .int .i64 rs2, .int .i32 imm], .int .u32 a, .int .u32 b, .int .u32 pc, .int .i64 size] w fun e w' => e = .returned (.int .u32 (nextV 3 a b pc imm size)) ∧ Nx w w' := by
  have HV : Hid (nextV 3 a b pc imm size = (pc + imm % 4294967296) % 4294967296) := rfl
  go_enter Tryz.func33, Tryz.ntmps33
  go_wp2_with fail
  refine (may_any _ _ _ _ _ _ hv hv').mono ?_
  rintro e w1 ⟨rfl, hn1⟩
  obtain ⟨c0, c1, c2, c3, c4, hz⟩ := five_in hn1
  have HN := Lib.hid (((Nx.refl w).alloc _).trans hn1)
  clear hn1
  go_wp2
  go_ret
  exact ⟨ret_u32 (by have q := HV.out; first | exact q.symm | (rw [q]; omega) | (rw [q]; simp; done)), HN.out⟩

set_option maxHeartbeats 1000000 in
theorem next_4 (rd rs1 rs2 imm a b pc size : Int) (w : World) (hv : -2147483648 ≤ imm) (hv' : imm ≤ 2147483647) (a1 : 0 ≤ a) (a2 : a < 4294967296) (b1 : 0 ≤ b) (b2 : b < 4294967296) (p1 : 0 ≤ pc) (p2 : pc < 4294967296) (h : mayB 4 rd rs1 rs2 imm = true) :
    Calls Tryz.prog 33 #[.agg #[.int .i64 4, .int .i64 rd, .int .i64 rs1, .int .i64 rs2, .int .i32 imm], .int .u32 a, .int .u32 b, .int .u32 pc, .int .i64 size] w fun e w' => e = .returned (.int .u32 (nextV 4 a b pc imm size)) ∧ Nx w w' := by
  have HV : Hid (nextV 4 a b pc imm size = bits .andNot .u32 ((a + imm % 4294967296) % 4294967296) 1) := rfl
  go_enter Tryz.func33, Tryz.ntmps33
  go_wp2_with fail
  refine (may_any _ _ _ _ _ _ hv hv').mono ?_
  rintro e w1 ⟨rfl, hn1⟩
  obtain ⟨c0, c1, c2, c3, c4, hz⟩ := five_in hn1
  have HN := Lib.hid (((Nx.refl w).alloc _).trans hn1)
  clear hn1
  go_wp2
  go_ret
  exact ⟨ret_u32 (by have q := HV.out; first | exact q.symm | (rw [q]; omega) | (rw [q]; simp; done)), HN.out⟩

set_option maxHeartbeats 1000000 in
theorem next_5 (rd rs1 rs2 imm a b pc size : Int) (w : World) (hv : -2147483648 ≤ imm) (hv' : imm ≤ 2147483647) (a1 : 0 ≤ a) (a2 : a < 4294967296) (b1 : 0 ≤ b) (b2 : b < 4294967296) (p1 : 0 ≤ pc) (p2 : pc < 4294967296) (h : mayB 5 rd rs1 rs2 imm = true) :
    Calls Tryz.prog 33 #[.agg #[.int .i64 5, .int .i64 rd, .int .i64 rs1, .int .i64 rs2, .int .i32 imm], .int .u32 a, .int .u32 b, .int .u32 pc, .int .i64 size] w fun e w' => e = .returned (.int .u32 (nextV 5 a b pc imm size)) ∧ Nx w w' := by
  have HW : Hid (nextV 5 a b pc imm size = if (a == b) = true then (pc + imm % 4294967296) % 4294967296 else (pc + size % 4294967296) % 4294967296) := rfl
  cases hg : (a == b)
  all_goals
    have HV := HW.out
    rw [hg] at HV
    simp only [reduceCtorEq, if_true, if_false] at HV
    replace HV := Lib.hid HV
    clear HW
    go_enter Tryz.func33, Tryz.ntmps33
    go_wp2_with fail
    refine (may_any _ _ _ _ _ _ hv hv').mono ?_
    rintro e w1 ⟨rfl, hn1⟩
    obtain ⟨c0, c1, c2, c3, c4, hz⟩ := five_in hn1
    have HN := Lib.hid (((Nx.refl w).alloc _).trans hn1)
    clear hn1
    go_wp2
    go_ret
    exact ⟨ret_u32 (by have q := HV.out; first | exact q.symm | (rw [q]; omega) | (rw [q]; simp; done)), HN.out⟩

set_option maxHeartbeats 1000000 in
theorem next_6 (rd rs1 rs2 imm a b pc size : Int) (w : World) (hv : -2147483648 ≤ imm) (hv' : imm ≤ 2147483647) (a1 : 0 ≤ a) (a2 : a < 4294967296) (b1 : 0 ≤ b) (b2 : b < 4294967296) (p1 : 0 ≤ pc) (p2 : pc < 4294967296) (h : mayB 6 rd rs1 rs2 imm = true) :
    Calls Tryz.prog 33 #[.agg #[.int .i64 6, .int .i64 rd, .int .i64 rs1, .int .i64 rs2, .int .i32 imm], .int .u32 a, .int .u32 b, .int .u32 pc, .int .i64 size] w fun e w' => e = .returned (.int .u32 (nextV 6 a b pc imm size)) ∧ Nx w w' := by
  have HW : Hid (nextV 6 a b pc imm size = if (a != b) = true then (pc + imm % 4294967296) % 4294967296 else (pc + size % 4294967296) % 4294967296) := rfl
  cases hg : (a != b)
  all_goals
    have HV := HW.out
    rw [hg] at HV
    simp only [reduceCtorEq, if_true, if_false] at HV
    replace HV := Lib.hid HV
    clear HW
    go_enter Tryz.func33, Tryz.ntmps33
    go_wp2_with fail
    refine (may_any _ _ _ _ _ _ hv hv').mono ?_
    rintro e w1 ⟨rfl, hn1⟩
    obtain ⟨c0, c1, c2, c3, c4, hz⟩ := five_in hn1
    have HN := Lib.hid (((Nx.refl w).alloc _).trans hn1)
    clear hn1
    go_wp2
    go_ret
    exact ⟨ret_u32 (by have q := HV.out; first | exact q.symm | (rw [q]; omega) | (rw [q]; simp; done)), HN.out⟩

set_option maxHeartbeats 1000000 in
theorem next_7 (rd rs1 rs2 imm a b pc size : Int) (w : World) (hv : -2147483648 ≤ imm) (hv' : imm ≤ 2147483647) (a1 : 0 ≤ a) (a2 : a < 4294967296) (b1 : 0 ≤ b) (b2 : b < 4294967296) (p1 : 0 ≤ pc) (p2 : pc < 4294967296) (h : mayB 7 rd rs1 rs2 imm = true) :
    Calls Tryz.prog 33 #[.agg #[.int .i64 7, .int .i64 rd, .int .i64 rs1, .int .i64 rs2, .int .i32 imm], .int .u32 a, .int .u32 b, .int .u32 pc, .int .i64 size] w fun e w' => e = .returned (.int .u32 (nextV 7 a b pc imm size)) ∧ Nx w w' := by
  have HW : Hid (nextV 7 a b pc imm size = if decide (wrap32 a < wrap32 b) = true then (pc + imm % 4294967296) % 4294967296 else (pc + size % 4294967296) % 4294967296) := rfl
  cases hg : decide (wrap32 a < wrap32 b)
  all_goals
    have HV := HW.out
    rw [hg] at HV
    simp only [reduceCtorEq, if_true, if_false] at HV
    replace HV := Lib.hid HV
    clear HW
    go_enter Tryz.func33, Tryz.ntmps33
    go_wp2_with fail
    refine (may_any _ _ _ _ _ _ hv hv').mono ?_
    rintro e w1 ⟨rfl, hn1⟩
    obtain ⟨c0, c1, c2, c3, c4, hz⟩ := five_in hn1
    have HN := Lib.hid (((Nx.refl w).alloc _).trans hn1)
    clear hn1
    go_wp2
    go_ret
    exact ⟨ret_u32 (by have q := HV.out; first | exact q.symm | (rw [q]; omega) | (rw [q]; simp; done)), HN.out⟩

set_option maxHeartbeats 1000000 in
theorem next_8 (rd rs1 rs2 imm a b pc size : Int) (w : World) (hv : -2147483648 ≤ imm) (hv' : imm ≤ 2147483647) (a1 : 0 ≤ a) (a2 : a < 4294967296) (b1 : 0 ≤ b) (b2 : b < 4294967296) (p1 : 0 ≤ pc) (p2 : pc < 4294967296) (h : mayB 8 rd rs1 rs2 imm = true) :
    Calls Tryz.prog 33 #[.agg #[.int .i64 8, .int .i64 rd, .int .i64 rs1, .int .i64 rs2, .int .i32 imm], .int .u32 a, .int .u32 b, .int .u32 pc, .int .i64 size] w fun e w' => e = .returned (.int .u32 (nextV 8 a b pc imm size)) ∧ Nx w w' := by
  have HW : Hid (nextV 8 a b pc imm size = if decide (wrap32 b ≤ wrap32 a) = true then (pc + imm % 4294967296) % 4294967296 else (pc + size % 4294967296) % 4294967296) := rfl
  cases hg : decide (wrap32 b ≤ wrap32 a)
  all_goals
    have HV := HW.out
    rw [hg] at HV
    simp only [reduceCtorEq, if_true, if_false] at HV
    replace HV := Lib.hid HV
    clear HW
    go_enter Tryz.func33, Tryz.ntmps33
    go_wp2_with fail
    refine (may_any _ _ _ _ _ _ hv hv').mono ?_
    rintro e w1 ⟨rfl, hn1⟩
    obtain ⟨c0, c1, c2, c3, c4, hz⟩ := five_in hn1
    have HN := Lib.hid (((Nx.refl w).alloc _).trans hn1)
    clear hn1
    go_wp2
    go_ret
    exact ⟨ret_u32 (by have q := HV.out; first | exact q.symm | (rw [q]; omega) | (rw [q]; simp; done)), HN.out⟩

set_option maxHeartbeats 1000000 in
theorem next_9 (rd rs1 rs2 imm a b pc size : Int) (w : World) (hv : -2147483648 ≤ imm) (hv' : imm ≤ 2147483647) (a1 : 0 ≤ a) (a2 : a < 4294967296) (b1 : 0 ≤ b) (b2 : b < 4294967296) (p1 : 0 ≤ pc) (p2 : pc < 4294967296) (h : mayB 9 rd rs1 rs2 imm = true) :
    Calls Tryz.prog 33 #[.agg #[.int .i64 9, .int .i64 rd, .int .i64 rs1, .int .i64 rs2, .int .i32 imm], .int .u32 a, .int .u32 b, .int .u32 pc, .int .i64 size] w fun e w' => e = .returned (.int .u32 (nextV 9 a b pc imm size)) ∧ Nx w w' := by
  have HW : Hid (nextV 9 a b pc imm size = if decide (a < b) = true then (pc + imm % 4294967296) % 4294967296 else (pc + size % 4294967296) % 4294967296) := rfl
  cases hg : decide (a < b)
  all_goals
    have HV := HW.out
    rw [hg] at HV
    simp only [reduceCtorEq, if_true, if_false] at HV
    replace HV := Lib.hid HV
    clear HW
    go_enter Tryz.func33, Tryz.ntmps33
    go_wp2_with fail
    refine (may_any _ _ _ _ _ _ hv hv').mono ?_
    rintro e w1 ⟨rfl, hn1⟩
    obtain ⟨c0, c1, c2, c3, c4, hz⟩ := five_in hn1
    have HN := Lib.hid (((Nx.refl w).alloc _).trans hn1)
    clear hn1
    go_wp2
    go_ret
    exact ⟨ret_u32 (by have q := HV.out; first | exact q.symm | (rw [q]; omega) | (rw [q]; simp; done)), HN.out⟩

set_option maxHeartbeats 1000000 in
theorem next_10 (rd rs1 rs2 imm a b pc size : Int) (w : World) (hv : -2147483648 ≤ imm) (hv' : imm ≤ 2147483647) (a1 : 0 ≤ a) (a2 : a < 4294967296) (b1 : 0 ≤ b) (b2 : b < 4294967296) (p1 : 0 ≤ pc) (p2 : pc < 4294967296) (h : mayB 10 rd rs1 rs2 imm = true) :
    Calls Tryz.prog 33 #[.agg #[.int .i64 10, .int .i64 rd, .int .i64 rs1, .int .i64 rs2, .int .i32 imm], .int .u32 a, .int .u32 b, .int .u32 pc, .int .i64 size] w fun e w' => e = .returned (.int .u32 (nextV 10 a b pc imm size)) ∧ Nx w w' := by
  have HW : Hid (nextV 10 a b pc imm size = if decide (b ≤ a) = true then (pc + imm % 4294967296) % 4294967296 else (pc + size % 4294967296) % 4294967296) := rfl
  cases hg : decide (b ≤ a)
  all_goals
    have HV := HW.out
    rw [hg] at HV
    simp only [reduceCtorEq, if_true, if_false] at HV
    replace HV := Lib.hid HV
    clear HW
    go_enter Tryz.func33, Tryz.ntmps33
    go_wp2_with fail
    refine (may_any _ _ _ _ _ _ hv hv').mono ?_
    rintro e w1 ⟨rfl, hn1⟩
    obtain ⟨c0, c1, c2, c3, c4, hz⟩ := five_in hn1
    have HN := Lib.hid (((Nx.refl w).alloc _).trans hn1)
    clear hn1
    go_wp2
    go_ret
    exact ⟨ret_u32 (by have q := HV.out; first | exact q.symm | (rw [q]; omega) | (rw [q]; simp; done)), HN.out⟩

set_option maxHeartbeats 1000000 in
theorem next_11 (rd rs1 rs2 imm a b pc size : Int) (w : World) (hv : -2147483648 ≤ imm) (hv' : imm ≤ 2147483647) (a1 : 0 ≤ a) (a2 : a < 4294967296) (b1 : 0 ≤ b) (b2 : b < 4294967296) (p1 : 0 ≤ pc) (p2 : pc < 4294967296) (h : mayB 11 rd rs1 rs2 imm = true) :
    Calls Tryz.prog 33 #[.agg #[.int .i64 11, .int .i64 rd, .int .i64 rs1, .int .i64 rs2, .int .i32 imm], .int .u32 a, .int .u32 b, .int .u32 pc, .int .i64 size] w fun e w' => e = .returned (.int .u32 (nextV 11 a b pc imm size)) ∧ Nx w w' := by
  have HV : Hid (nextV 11 a b pc imm size = (pc + size % 4294967296) % 4294967296) := rfl
  go_enter Tryz.func33, Tryz.ntmps33
  go_wp2_with fail
  refine (may_any _ _ _ _ _ _ hv hv').mono ?_
  rintro e w1 ⟨rfl, hn1⟩
  obtain ⟨c0, c1, c2, c3, c4, hz⟩ := five_in hn1
  have HN := Lib.hid (((Nx.refl w).alloc _).trans hn1)
  clear hn1
  go_wp2
  go_ret
  exact ⟨ret_u32 (by have q := HV.out; first | exact q.symm | (rw [q]; omega) | (rw [q]; simp; done)), HN.out⟩

set_option maxHeartbeats 1000000 in
theorem next_12 (rd rs1 rs2 imm a b pc size : Int) (w : World) (hv : -2147483648 ≤ imm) (hv' : imm ≤ 2147483647) (a1 : 0 ≤ a) (a2 : a < 4294967296) (b1 : 0 ≤ b) (b2 : b < 4294967296) (p1 : 0 ≤ pc) (p2 : pc < 4294967296) (h : mayB 12 rd rs1 rs2 imm = true) :
    Calls Tryz.prog 33 #[.agg #[.int .i64 12, .int .i64 rd, .int .i64 rs1, .int .i64 rs2, .int .i32 imm], .int .u32 a, .int .u32 b, .int .u32 pc, .int .i64 size] w fun e w' => e = .returned (.int .u32 (nextV 12 a b pc imm size)) ∧ Nx w w' := by
  have HV : Hid (nextV 12 a b pc imm size = (pc + size % 4294967296) % 4294967296) := rfl
  go_enter Tryz.func33, Tryz.ntmps33
  go_wp2_with fail
  refine (may_any _ _ _ _ _ _ hv hv').mono ?_
  rintro e w1 ⟨rfl, hn1⟩
  obtain ⟨c0, c1, c2, c3, c4, hz⟩ := five_in hn1
  have HN := Lib.hid (((Nx.refl w).alloc _).trans hn1)
  clear hn1
  go_wp2
  go_ret
  exact ⟨ret_u32 (by have q := HV.out; first | exact q.symm | (rw [q]; omega) | (rw [q]; simp; done)), HN.out⟩

set_option maxHeartbeats 1000000 in
theorem next_13 (rd rs1 rs2 imm a b pc size : Int) (w : World) (hv : -2147483648 ≤ imm) (hv' : imm ≤ 2147483647) (a1 : 0 ≤ a) (a2 : a < 4294967296) (b1 : 0 ≤ b) (b2 : b < 4294967296) (p1 : 0 ≤ pc) (p2 : pc < 4294967296) (h : mayB 13 rd rs1 rs2 imm = true) :
    Calls Tryz.prog 33 #[.agg #[.int .i64 13, .int .i64 rd, .int .i64 rs1, .int .i64 rs2, .int .i32 imm], .int .u32 a, .int .u32 b, .int .u32 pc, .int .i64 size] w fun e w' => e = .returned (.int .u32 (nextV 13 a b pc imm size)) ∧ Nx w w' := by
  have HV : Hid (nextV 13 a b pc imm size = (pc + size % 4294967296) % 4294967296) := rfl
  go_enter Tryz.func33, Tryz.ntmps33
  go_wp2_with fail
  refine (may_any _ _ _ _ _ _ hv hv').mono ?_
  rintro e w1 ⟨rfl, hn1⟩
  obtain ⟨c0, c1, c2, c3, c4, hz⟩ := five_in hn1
  have HN := Lib.hid (((Nx.refl w).alloc _).trans hn1)
  clear hn1
  go_wp2
  go_ret
  exact ⟨ret_u32 (by have q := HV.out; first | exact q.symm | (rw [q]; omega) | (rw [q]; simp; done)), HN.out⟩

set_option maxHeartbeats 1000000 in
theorem next_14 (rd rs1 rs2 imm a b pc size : Int) (w : World) (hv : -2147483648 ≤ imm) (hv' : imm ≤ 2147483647) (a1 : 0 ≤ a) (a2 : a < 4294967296) (b1 : 0 ≤ b) (b2 : b < 4294967296) (p1 : 0 ≤ pc) (p2 : pc < 4294967296) (h : mayB 14 rd rs1 rs2 imm = true) :
    Calls Tryz.prog 33 #[.agg #[.int .i64 14, .int .i64 rd, .int .i64 rs1, .int .i64 rs2, .int .i32 imm], .int .u32 a, .int .u32 b, .int .u32 pc, .int .i64 size] w fun e w' => e = .returned (.int .u32 (nextV 14 a b pc imm size)) ∧ Nx w w' := by
  have HV : Hid (nextV 14 a b pc imm size = (pc + size % 4294967296) % 4294967296) := rfl
  go_enter Tryz.func33, Tryz.ntmps33
  go_wp2_with fail
  refine (may_any _ _ _ _ _ _ hv hv').mono ?_
  rintro e w1 ⟨rfl, hn1⟩
  obtain ⟨c0, c1, c2, c3, c4, hz⟩ := five_in hn1
  have HN := Lib.hid (((Nx.refl w).alloc _).trans hn1)
  clear hn1
  go_wp2
  go_ret
  exact ⟨ret_u32 (by have q := HV.out; first | exact q.symm | (rw [q]; omega) | (rw [q]; simp; done)), HN.out⟩

set_option maxHeartbeats 1000000 in
theorem next_15 (rd rs1 rs2 imm a b pc size : Int) (w : World) (hv : -2147483648 ≤ imm) (hv' : imm ≤ 2147483647) (a1 : 0 ≤ a) (a2 : a < 4294967296) (b1 : 0 ≤ b) (b2 : b < 4294967296) (p1 : 0 ≤ pc) (p2 : pc < 4294967296) (h : mayB 15 rd rs1 rs2 imm = true) :
    Calls Tryz.prog 33 #[.agg #[.int .i64 15, .int .i64 rd, .int .i64 rs1, .int .i64 rs2, .int .i32 imm], .int .u32 a, .int .u32 b, .int .u32 pc, .int .i64 size] w fun e w' => e = .returned (.int .u32 (nextV 15 a b pc imm size)) ∧ Nx w w' := by
  have HV : Hid (nextV 15 a b pc imm size = (pc + size % 4294967296) % 4294967296) := rfl
  go_enter Tryz.func33, Tryz.ntmps33
  go_wp2_with fail
  refine (may_any _ _ _ _ _ _ hv hv').mono ?_
  rintro e w1 ⟨rfl, hn1⟩
  obtain ⟨c0, c1, c2, c3, c4, hz⟩ := five_in hn1
  have HN := Lib.hid (((Nx.refl w).alloc _).trans hn1)
  clear hn1
  go_wp2
  go_ret
  exact ⟨ret_u32 (by have q := HV.out; first | exact q.symm | (rw [q]; omega) | (rw [q]; simp; done)), HN.out⟩

set_option maxHeartbeats 1000000 in
theorem next_16 (rd rs1 rs2 imm a b pc size : Int) (w : World) (hv : -2147483648 ≤ imm) (hv' : imm ≤ 2147483647) (a1 : 0 ≤ a) (a2 : a < 4294967296) (b1 : 0 ≤ b) (b2 : b < 4294967296) (p1 : 0 ≤ pc) (p2 : pc < 4294967296) (h : mayB 16 rd rs1 rs2 imm = true) :
    Calls Tryz.prog 33 #[.agg #[.int .i64 16, .int .i64 rd, .int .i64 rs1, .int .i64 rs2, .int .i32 imm], .int .u32 a, .int .u32 b, .int .u32 pc, .int .i64 size] w fun e w' => e = .returned (.int .u32 (nextV 16 a b pc imm size)) ∧ Nx w w' := by
  have HV : Hid (nextV 16 a b pc imm size = (pc + size % 4294967296) % 4294967296) := rfl
  go_enter Tryz.func33, Tryz.ntmps33
  go_wp2_with fail
  refine (may_any _ _ _ _ _ _ hv hv').mono ?_
  rintro e w1 ⟨rfl, hn1⟩
  obtain ⟨c0, c1, c2, c3, c4, hz⟩ := five_in hn1
  have HN := Lib.hid (((Nx.refl w).alloc _).trans hn1)
  clear hn1
  go_wp2
  go_ret
  exact ⟨ret_u32 (by have q := HV.out; first | exact q.symm | (rw [q]; omega) | (rw [q]; simp; done)), HN.out⟩

end Go.Proofs.YtndpgakjpokllaaGreat

