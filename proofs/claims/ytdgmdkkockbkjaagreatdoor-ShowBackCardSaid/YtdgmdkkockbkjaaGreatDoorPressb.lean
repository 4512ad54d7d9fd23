/- Contracts of package press: does an instruction fit a row? -/
import Derived.Test.YtdgmdkkockbkjaaGreatDoorPress
namespace Go.Proofs.YtdgmdkkockbkjaaGreatDoor
open Go.RowKit
set_option linter.unusedVariables false
set_option linter.unusedSimpArgs false

/-- Is an instruction as a row asks? -/
def fitsB (r : PR) (op rd rs1 rs2 imm : Int) : Bool :=
  (op == r.op) && (mayB op rd rs1 rs2 imm && (kindB r.rd rd rd && (kindB r.rs1 rs1 rd && (kindB r.rs2 rs2 rd && (!((imm == 0) && (r.nt == 1)) && (decide (r.least ≤ imm) && (decide (imm ≤ r.most) && (imm % r.step == 0))))))))

/-- What the table has. -/
def PR.ok (r : PR) : Prop := 0 ≤ r.rd ∧ r.rd ≤ 7 ∧ 0 ≤ r.rs1 ∧ r.rs1 ≤ 7 ∧ 0 ≤ r.rs2 ∧ r.rs2 ≤ 7 ∧ 0 < r.step ∧ r.step ≤ 4096

theorem rows_ok : ∀ r ∈ rowsL, r.ok := by
  intro r hr
  simp only [rowsL, List.mem_cons, List.not_mem_nil, or_false] at hr
  unfold PR.ok
  rcases hr with rfl | rfl | rfl | rfl | rfl | rfl | rfl | rfl | rfl | rfl | rfl | rfl | rfl | rfl | rfl | rfl | rfl | rfl | rfl | rfl | rfl | rfl | rfl | rfl | rfl | rfl | rfl <;> decide

theorem fifteen {w w2 : World} {T U : TypeId} {a0 a1 a2 a3 a4 a5 a6 a7 a8 a9 b0 b1 b2 b3 b4 : Value} (h : Nx ((w.alloc (.cells #[a0, a1, a2, a3, a4, a5, a6, a7, a8, a9] T)).alloc (.cells #[b0, b1, b2, b3, b4] U)) w2) :
    w2.cell? ⟨w.heap.size, 0, none⟩ = some a0 ∧ w2.cell? ⟨w.heap.size, 1, none⟩ = some a1 ∧ w2.cell? ⟨w.heap.size, 2, none⟩ = some a2 ∧ w2.cell? ⟨w.heap.size, 3, none⟩ = some a3 ∧ w2.cell? ⟨w.heap.size, 4, none⟩ = some a4 ∧
    w2.cell? ⟨w.heap.size, 5, none⟩ = some a5 ∧ w2.cell? ⟨w.heap.size, 6, none⟩ = some a6 ∧ w2.cell? ⟨w.heap.size, 7, none⟩ = some a7 ∧ w2.cell? ⟨w.heap.size, 8, none⟩ = some a8 ∧ w2.cell? ⟨w.heap.size, 9, none⟩ = some a9 ∧
    w2.cell? ⟨w.heap.size + 1, 0, none⟩ = some b0 ∧ w2.cell? ⟨w.heap.size + 1, 1, none⟩ = some b1 ∧ w2.cell? ⟨w.heap.size + 1, 2, none⟩ = some b2 ∧ w2.cell? ⟨w.heap.size + 1, 3, none⟩ = some b3 ∧ w2.cell? ⟨w.heap.size + 1, 4, none⟩ = some b4 ∧
    w.heap.size + 1 < w2.heap.size := by
  have hs := h.size
  simp at hs
  refine ⟨?_, ?_, ?_, ?_, ?_, ?_, ?_, ?_, ?_, ?_, ?_, ?_, ?_, ?_, ?_, by omega⟩ <;> exact h.cell (by simp [go_sem])

set_option maxHeartbeats 1000000 in
theorem pf1 (r : PR) (op rd rs1 rs2 imm : Int) (w : World) (hk : r.ok) (hv : -2147483648 ≤ imm) (hv' : imm ≤ 2147483647) (h1 : (op == r.op) = false) :
    Calls Tryz.prog 33 #[.agg #[.string (B r.name), .int .i64 r.op, .int .i64 r.rd, .int .i64 r.rs1, .int .i64 r.rs2, .int .i32 r.least, .int .i32 r.most, .int .i32 r.step, .int .i32 r.nt, .string (B r.bits)], .agg #[.int .i64 op, .int .i64 rd, .int .i64 rs1, .int .i64 rs2, .int .i32 imm]] w fun e w' => e = .returned (.bool (false)) ∧ Nx w w' := by
  obtain ⟨k0, k1, k2, k3, k4, k5, k6, k7⟩ := hk
  have k8 : ¬ r.step = 0 := by omega
  have k9 : ¬ r.step = -1 := by omega
  go_enter Tryz.func33, Tryz.ntmps33
  go_wp2
  go_ret
  exact ⟨rfl, ((Nx.refl w).alloc _).alloc _⟩

set_option maxHeartbeats 1000000 in
theorem pf2 (r : PR) (rd rs1 rs2 imm : Int) (w : World) (hk : r.ok) (hv : -2147483648 ≤ imm) (hv' : imm ≤ 2147483647) (h2 : mayB r.op rd rs1 rs2 imm = false) :
    Calls Tryz.prog 33 #[.agg #[.string (B r.name), .int .i64 r.op, .int .i64 r.rd, .int .i64 r.rs1, .int .i64 r.rs2, .int .i32 r.least, .int .i32 r.most, .int .i32 r.step, .int .i32 r.nt, .string (B r.bits)], .agg #[.int .i64 r.op, .int .i64 rd, .int .i64 rs1, .int .i64 rs2, .int .i32 imm]] w fun e w' => e = .returned (.bool (false)) ∧ Nx w w' := by
  obtain ⟨k0, k1, k2, k3, k4, k5, k6, k7⟩ := hk
  have k8 : ¬ r.step = 0 := by omega
  have k9 : ¬ r.step = -1 := by omega
  go_enter Tryz.func33, Tryz.ntmps33
  go_wp2_with fail
  refine (may_any _ _ _ _ _ _ (by omega) (by omega)).mono ?_
  rintro e w2 ⟨rfl, hn2⟩
  obtain ⟨c0, c1, c2, c3, c4, c5, c6, c7, c8, c9, d0, d1, d2, d3, d4, hz⟩ := fifteen hn2
  have HN := Lib.hid ((((Nx.refl w).alloc _).alloc _).trans hn2)
  clear hn2
  go_wp2_with (go_at_call 55; refine (is_any _ _ _ _ (by omega) (by omega)).mono ?_; rintro e w' ⟨rfl, rfl⟩)
  go_ret
  exact ⟨rfl, HN.out⟩

set_option maxHeartbeats 1000000 in
theorem pf3 (r : PR) (rd rs1 rs2 imm : Int) (w : World) (hk : r.ok) (hv : -2147483648 ≤ imm) (hv' : imm ≤ 2147483647) (h2 : mayB r.op rd rs1 rs2 imm = true) (h3 : kindB r.rd rd rd = false) :
    Calls Tryz.prog 33 #[.agg #[.string (B r.name), .int .i64 r.op, .int .i64 r.rd, .int .i64 r.rs1, .int .i64 r.rs2, .int .i32 r.least, .int .i32 r.most, .int .i32 r.step, .int .i32 r.nt, .string (B r.bits)], .agg #[.int .i64 r.op, .int .i64 rd, .int .i64 rs1, .int .i64 rs2, .int .i32 imm]] w fun e w' => e = .returned (.bool (false)) ∧ Nx w w' := by
  obtain ⟨k0, k1, k2, k3, k4, k5, k6, k7⟩ := hk
  have k8 : ¬ r.step = 0 := by omega
  have k9 : ¬ r.step = -1 := by omega
  go_enter Tryz.func33, Tryz.ntmps33
  go_wp2_with fail
  refine (may_any _ _ _ _ _ _ (by omega) (by omega)).mono ?_
  rintro e w2 ⟨rfl, hn2⟩
  obtain ⟨c0, c1, c2, c3, c4, c5, c6, c7, c8, c9, d0, d1, d2, d3, d4, hz⟩ := fifteen hn2
  have HN := Lib.hid ((((Nx.refl w).alloc _).alloc _).trans hn2)
  clear hn2
  go_wp2_with (go_at_call 55; refine (is_any _ _ _ _ (by omega) (by omega)).mono ?_; rintro e w' ⟨rfl, rfl⟩)
  go_ret
  exact ⟨rfl, HN.out⟩

set_option maxHeartbeats 1000000 in
theorem pf4 (r : PR) (rd rs1 rs2 imm : Int) (w : World) (hk : r.ok) (hv : -2147483648 ≤ imm) (hv' : imm ≤ 2147483647) (h2 : mayB r.op rd rs1 rs2 imm = true) (h3 : kindB r.rd rd rd = true) (h4 : kindB r.rs1 rs1 rd = false) :
    Calls Tryz.prog 33 #[.agg #[.string (B r.name), .int .i64 r.op, .int .i64 r.rd, .int .i64 r.rs1, .int .i64 r.rs2, .int .i32 r.least, .int .i32 r.most, .int .i32 r.step, .int .i32 r.nt, .string (B r.bits)], .agg #[.int .i64 r.op, .int .i64 rd, .int .i64 rs1, .int .i64 rs2, .int .i32 imm]] w fun e w' => e = .returned (.bool (false)) ∧ Nx w w' := by
  obtain ⟨k0, k1, k2, k3, k4, k5, k6, k7⟩ := hk
  have k8 : ¬ r.step = 0 := by omega
  have k9 : ¬ r.step = -1 := by omega
  go_enter Tryz.func33, Tryz.ntmps33
  go_wp2_with fail
  refine (may_any _ _ _ _ _ _ (by omega) (by omega)).mono ?_
  rintro e w2 ⟨rfl, hn2⟩
  obtain ⟨c0, c1, c2, c3, c4, c5, c6, c7, c8, c9, d0, d1, d2, d3, d4, hz⟩ := fifteen hn2
  have HN := Lib.hid ((((Nx.refl w).alloc _).alloc _).trans hn2)
  clear hn2
  go_wp2_with (go_at_call 55; refine (is_any _ _ _ _ (by omega) (by omega)).mono ?_; rintro e w' ⟨rfl, rfl⟩)
  go_ret
  exact ⟨rfl, HN.out⟩

set_option maxHeartbeats 1000000 in
theorem pf5 (r : PR) (rd rs1 rs2 imm : Int) (w : World) (hk : r.ok) (hv : -2147483648 ≤ imm) (hv' : imm ≤ 2147483647) (h2 : mayB r.op rd rs1 rs2 imm = true) (h3 : kindB r.rd rd rd = true) (h4 : kindB r.rs1 rs1 rd = true) (h5 : kindB r.rs2 rs2 rd = false) :
    Calls Tryz.prog 33 #[.agg #[.string (B r.name), .int .i64 r.op, .int .i64 r.rd, .int .i64 r.rs1, .int .i64 r.rs2, .int .i32 r.least, .int .i32 r.most, .int .i32 r.step, .int .i32 r.nt, .string (B r.bits)], .agg #[.int .i64 r.op, .int .i64 rd, .int .i64 rs1, .int .i64 rs2, .int .i32 imm]] w fun e w' => e = .returned (.bool (false)) ∧ Nx w w' := by
  obtain ⟨k0, k1, k2, k3, k4, k5, k6, k7⟩ := hk
  have k8 : ¬ r.step = 0 := by omega
  have k9 : ¬ r.step = -1 := by omega
  go_enter Tryz.func33, Tryz.ntmps33
  go_wp2_with fail
  refine (may_any _ _ _ _ _ _ (by omega) (by omega)).mono ?_
  rintro e w2 ⟨rfl, hn2⟩
  obtain ⟨c0, c1, c2, c3, c4, c5, c6, c7, c8, c9, d0, d1, d2, d3, d4, hz⟩ := fifteen hn2
  have HN := Lib.hid ((((Nx.refl w).alloc _).alloc _).trans hn2)
  clear hn2
  go_wp2_with (go_at_call 55; refine (is_any _ _ _ _ (by omega) (by omega)).mono ?_; rintro e w' ⟨rfl, rfl⟩)
  go_ret
  exact ⟨rfl, HN.out⟩

set_option maxHeartbeats 1000000 in
theorem pf6 (r : PR) (rd rs1 rs2 : Int) (w : World) (hk : r.ok) (h2 : mayB r.op rd rs1 rs2 0 = true) (h3 : kindB r.rd rd rd = true) (h4 : kindB r.rs1 rs1 rd = true) (h5 : kindB r.rs2 rs2 rd = true) (h7 : (r.nt == 1) = true) :
    Calls Tryz.prog 33 #[.agg #[.string (B r.name), .int .i64 r.op, .int .i64 r.rd, .int .i64 r.rs1, .int .i64 r.rs2, .int .i32 r.least, .int .i32 r.most, .int .i32 r.step, .int .i32 r.nt, .string (B r.bits)], .agg #[.int .i64 r.op, .int .i64 rd, .int .i64 rs1, .int .i64 rs2, .int .i32 0]] w fun e w' => e = .returned (.bool (false)) ∧ Nx w w' := by
  obtain ⟨k0, k1, k2, k3, k4, k5, k6, k7⟩ := hk
  have k8 : ¬ r.step = 0 := by omega
  have k9 : ¬ r.step = -1 := by omega
  go_enter Tryz.func33, Tryz.ntmps33
  go_wp2_with fail
  refine (may_any _ _ _ _ _ _ (by omega) (by omega)).mono ?_
  rintro e w2 ⟨rfl, hn2⟩
  obtain ⟨c0, c1, c2, c3, c4, c5, c6, c7, c8, c9, d0, d1, d2, d3, d4, hz⟩ := fifteen hn2
  have HN := Lib.hid ((((Nx.refl w).alloc _).alloc _).trans hn2)
  clear hn2
  go_wp2_with (go_at_call 55; refine (is_any _ _ _ _ (by omega) (by omega)).mono ?_; rintro e w' ⟨rfl, rfl⟩)
  go_ret
  exact ⟨rfl, HN.out⟩

set_option maxHeartbeats 1000000 in
theorem pf7a (r : PR) (rd rs1 rs2 imm : Int) (w : World) (hk : r.ok) (hv : -2147483648 ≤ imm) (hv' : imm ≤ 2147483647) (h2 : mayB r.op rd rs1 rs2 imm = true) (h3 : kindB r.rd rd rd = true) (h4 : kindB r.rs1 rs1 rd = true) (h5 : kindB r.rs2 rs2 rd = true) (h6 : (imm == 0) = false) (h8 : decide (r.least ≤ imm) = false) :
    Calls Tryz.prog 33 #[.agg #[.string (B r.name), .int .i64 r.op, .int .i64 r.rd, .int .i64 r.rs1, .int .i64 r.rs2, .int .i32 r.least, .int .i32 r.most, .int .i32 r.step, .int .i32 r.nt, .string (B r.bits)], .agg #[.int .i64 r.op, .int .i64 rd, .int .i64 rs1, .int .i64 rs2, .int .i32 imm]] w fun e w' => e = .returned (.bool (false)) ∧ Nx w w' := by
  obtain ⟨k0, k1, k2, k3, k4, k5, k6, k7⟩ := hk
  have k8 : ¬ r.step = 0 := by omega
  have k9 : ¬ r.step = -1 := by omega
  go_enter Tryz.func33, Tryz.ntmps33
  go_wp2_with fail
  refine (may_any _ _ _ _ _ _ (by omega) (by omega)).mono ?_
  rintro e w2 ⟨rfl, hn2⟩
  obtain ⟨c0, c1, c2, c3, c4, c5, c6, c7, c8, c9, d0, d1, d2, d3, d4, hz⟩ := fifteen hn2
  have HN := Lib.hid ((((Nx.refl w).alloc _).alloc _).trans hn2)
  clear hn2
  go_wp2_with (go_at_call 55; refine (is_any _ _ _ _ (by omega) (by omega)).mono ?_; rintro e w' ⟨rfl, rfl⟩)
  go_ret
  exact ⟨rfl, HN.out⟩

set_option maxHeartbeats 1000000 in
theorem pf8a (r : PR) (rd rs1 rs2 imm : Int) (w : World) (hk : r.ok) (hv : -2147483648 ≤ imm) (hv' : imm ≤ 2147483647) (h2 : mayB r.op rd rs1 rs2 imm = true) (h3 : kindB r.rd rd rd = true) (h4 : kindB r.rs1 rs1 rd = true) (h5 : kindB r.rs2 rs2 rd = true) (h6 : (imm == 0) = false) (h8 : decide (r.least ≤ imm) = true) (h9 : decide (imm ≤ r.most) = false) :
    Calls Tryz.prog 33 #[.agg #[.string (B r.name), .int .i64 r.op, .int .i64 r.rd, .int .i64 r.rs1, .int .i64 r.rs2, .int .i32 r.least, .int .i32 r.most, .int .i32 r.step, .int .i32 r.nt, .string (B r.bits)], .agg #[.int .i64 r.op, .int .i64 rd, .int .i64 rs1, .int .i64 rs2, .int .i32 imm]] w fun e w' => e = .returned (.bool (false)) ∧ Nx w w' := by
  obtain ⟨k0, k1, k2, k3, k4, k5, k6, k7⟩ := hk
  have k8 : ¬ r.step = 0 := by omega
  have k9 : ¬ r.step = -1 := by omega
  go_enter Tryz.func33, Tryz.ntmps33
  go_wp2_with fail
  refine (may_any _ _ _ _ _ _ (by omega) (by omega)).mono ?_
  rintro e w2 ⟨rfl, hn2⟩
  obtain ⟨c0, c1, c2, c3, c4, c5, c6, c7, c8, c9, d0, d1, d2, d3, d4, hz⟩ := fifteen hn2
  have HN := Lib.hid ((((Nx.refl w).alloc _).alloc _).trans hn2)
  clear hn2
  go_wp2_with (go_at_call 55; refine (is_any _ _ _ _ (by omega) (by omega)).mono ?_; rintro e w' ⟨rfl, rfl⟩)
  go_ret
  exact ⟨rfl, HN.out⟩

set_option maxHeartbeats 1000000 in
theorem pf9a (r : PR) (rd rs1 rs2 imm : Int) (w : World) (hk : r.ok) (hv : -2147483648 ≤ imm) (hv' : imm ≤ 2147483647) (h2 : mayB r.op rd rs1 rs2 imm = true) (h3 : kindB r.rd rd rd = true) (h4 : kindB r.rs1 rs1 rd = true) (h5 : kindB r.rs2 rs2 rd = true) (h6 : (imm == 0) = false) (h8 : decide (r.least ≤ imm) = true) (h9 : decide (imm ≤ r.most) = true) :
    Calls Tryz.prog 33 #[.agg #[.string (B r.name), .int .i64 r.op, .int .i64 r.rd, .int .i64 r.rs1, .int .i64 r.rs2, .int .i32 r.least, .int .i32 r.most, .int .i32 r.step, .int .i32 r.nt, .string (B r.bits)], .agg #[.int .i64 r.op, .int .i64 rd, .int .i64 rs1, .int .i64 rs2, .int .i32 imm]] w fun e w' => e = .returned (.bool (imm % r.step == 0)) ∧ Nx w w' := by
  obtain ⟨k0, k1, k2, k3, k4, k5, k6, k7⟩ := hk
  have k8 : ¬ r.step = 0 := by omega
  have k9 : ¬ r.step = -1 := by omega
  go_enter Tryz.func33, Tryz.ntmps33
  go_wp2_with fail
  refine (may_any _ _ _ _ _ _ (by omega) (by omega)).mono ?_
  rintro e w2 ⟨rfl, hn2⟩
  obtain ⟨c0, c1, c2, c3, c4, c5, c6, c7, c8, c9, d0, d1, d2, d3, d4, hz⟩ := fifteen hn2
  have HN := Lib.hid ((((Nx.refl w).alloc _).alloc _).trans hn2)
  clear hn2
  go_wp2_with (go_at_call 55; refine (is_any _ _ _ _ (by omega) (by omega)).mono ?_; rintro e w' ⟨rfl, rfl⟩)
  go_ret
  exact ⟨ret_bool (by first | rfl | exact tmod_zero _ _ | simp [tmod_zero]), HN.out⟩

set_option maxHeartbeats 1000000 in
theorem pf7b (r : PR) (rd rs1 rs2 : Int) (w : World) (hk : r.ok) (h2 : mayB r.op rd rs1 rs2 0 = true) (h3 : kindB r.rd rd rd = true) (h4 : kindB r.rs1 rs1 rd = true) (h5 : kindB r.rs2 rs2 rd = true) (h7 : (r.nt == 1) = false) (h8 : decide (r.least ≤ 0) = false) :
    Calls Tryz.prog 33 #[.agg #[.string (B r.name), .int .i64 r.op, .int .i64 r.rd, .int .i64 r.rs1, .int .i64 r.rs2, .int .i32 r.least, .int .i32 r.most, .int .i32 r.step, .int .i32 r.nt, .string (B r.bits)], .agg #[.int .i64 r.op, .int .i64 rd, .int .i64 rs1, .int .i64 rs2, .int .i32 0]] w fun e w' => e = .returned (.bool (false)) ∧ Nx w w' := by
  obtain ⟨k0, k1, k2, k3, k4, k5, k6, k7⟩ := hk
  have k8 : ¬ r.step = 0 := by omega
  have k9 : ¬ r.step = -1 := by omega
  go_enter Tryz.func33, Tryz.ntmps33
  go_wp2_with fail
  refine (may_any _ _ _ _ _ _ (by omega) (by omega)).mono ?_
  rintro e w2 ⟨rfl, hn2⟩
  obtain ⟨c0, c1, c2, c3, c4, c5, c6, c7, c8, c9, d0, d1, d2, d3, d4, hz⟩ := fifteen hn2
  have HN := Lib.hid ((((Nx.refl w).alloc _).alloc _).trans hn2)
  clear hn2
  go_wp2_with (go_at_call 55; refine (is_any _ _ _ _ (by omega) (by omega)).mono ?_; rintro e w' ⟨rfl, rfl⟩)
  go_ret
  exact ⟨rfl, HN.out⟩

set_option maxHeartbeats 1000000 in
theorem pf8b (r : PR) (rd rs1 rs2 : Int) (w : World) (hk : r.ok) (h2 : mayB r.op rd rs1 rs2 0 = true) (h3 : kindB r.rd rd rd = true) (h4 : kindB r.rs1 rs1 rd = true) (h5 : kindB r.rs2 rs2 rd = true) (h7 : (r.nt == 1) = false) (h8 : decide (r.least ≤ 0) = true) (h9 : decide (0 ≤ r.most) = false) :
    Calls Tryz.prog 33 #[.agg #[.string (B r.name), .int .i64 r.op, .int .i64 r.rd, .int .i64 r.rs1, .int .i64 r.rs2, .int .i32 r.least, .int .i32 r.most, .int .i32 r.step, .int .i32 r.nt, .string (B r.bits)], .agg #[.int .i64 r.op, .int .i64 rd, .int .i64 rs1, .int .i64 rs2, .int .i32 0]] w fun e w' => e = .returned (.bool (false)) ∧ Nx w w' := by
  obtain ⟨k0, k1, k2, k3, k4, k5, k6, k7⟩ := hk
  have k8 : ¬ r.step = 0 := by omega
  have k9 : ¬ r.step = -1 := by omega
  go_enter Tryz.func33, Tryz.ntmps33
  go_wp2_with fail
  refine (may_any _ _ _ _ _ _ (by omega) (by omega)).mono ?_
  rintro e w2 ⟨rfl, hn2⟩
  obtain ⟨c0, c1, c2, c3, c4, c5, c6, c7, c8, c9, d0, d1, d2, d3, d4, hz⟩ := fifteen hn2
  have HN := Lib.hid ((((Nx.refl w).alloc _).alloc _).trans hn2)
  clear hn2
  go_wp2_with (go_at_call 55; refine (is_any _ _ _ _ (by omega) (by omega)).mono ?_; rintro e w' ⟨rfl, rfl⟩)
  go_ret
  exact ⟨rfl, HN.out⟩

set_option maxHeartbeats 1000000 in
theorem pf9b (r : PR) (rd rs1 rs2 : Int) (w : World) (hk : r.ok) (h2 : mayB r.op rd rs1 rs2 0 = true) (h3 : kindB r.rd rd rd = true) (h4 : kindB r.rs1 rs1 rd = true) (h5 : kindB r.rs2 rs2 rd = true) (h7 : (r.nt == 1) = false) (h8 : decide (r.least ≤ 0) = true) (h9 : decide (0 ≤ r.most) = true) :
    Calls Tryz.prog 33 #[.agg #[.string (B r.name), .int .i64 r.op, .int .i64 r.rd, .int .i64 r.rs1, .int .i64 r.rs2, .int .i32 r.least, .int .i32 r.most, .int .i32 r.step, .int .i32 r.nt, .string (B r.bits)], .agg #[.int .i64 r.op, .int .i64 rd, .int .i64 rs1, .int .i64 rs2, .int .i32 0]] w fun e w' => e = .returned (.bool (0 % r.step == 0)) ∧ Nx w w' := by
  obtain ⟨k0, k1, k2, k3, k4, k5, k6, k7⟩ := hk
  have k8 : ¬ r.step = 0 := by omega
  have k9 : ¬ r.step = -1 := by omega
  go_enter Tryz.func33, Tryz.ntmps33
  go_wp2_with fail
  refine (may_any _ _ _ _ _ _ (by omega) (by omega)).mono ?_
  rintro e w2 ⟨rfl, hn2⟩
  obtain ⟨c0, c1, c2, c3, c4, c5, c6, c7, c8, c9, d0, d1, d2, d3, d4, hz⟩ := fifteen hn2
  have HN := Lib.hid ((((Nx.refl w).alloc _).alloc _).trans hn2)
  clear hn2
  go_wp2_with (go_at_call 55; refine (is_any _ _ _ _ (by omega) (by omega)).mono ?_; rintro e w' ⟨rfl, rfl⟩)
  go_ret
  exact ⟨ret_bool (by first | rfl | exact tmod_zero _ _ | simp [tmod_zero]), HN.out⟩

theorem pfits_any (r : PR) (op rd rs1 rs2 imm : Int) (w : World) (hk : r.ok) (hv : -2147483648 ≤ imm) (hv' : imm ≤ 2147483647) :
    Calls Tryz.prog 33 #[.agg #[.string (B r.name), .int .i64 r.op, .int .i64 r.rd, .int .i64 r.rs1, .int .i64 r.rs2, .int .i32 r.least, .int .i32 r.most, .int .i32 r.step, .int .i32 r.nt, .string (B r.bits)], .agg #[.int .i64 op, .int .i64 rd, .int .i64 rs1, .int .i64 rs2, .int .i32 imm]] w fun e w' => e = .returned (.bool (fitsB r op rd rs1 rs2 imm)) ∧ Nx w w' := by
  cases h1 : (op == r.op)
  · have e : fitsB r op rd rs1 rs2 imm = false := by simp only [fitsB, h1, Bool.false_and]
    rw [e]; exact pf1 r op rd rs1 rs2 imm w hk hv hv' h1
  have e1 : op = r.op := by simpa using h1
  subst e1
  cases h2 : mayB r.op rd rs1 rs2 imm
  · have e : fitsB r r.op rd rs1 rs2 imm = false := by simp only [fitsB, h1, h2, Bool.false_and, Bool.and_false]
    rw [e]; exact pf2 r rd rs1 rs2 imm w hk hv hv' h2
  cases h3 : kindB r.rd rd rd
  · have e : fitsB r r.op rd rs1 rs2 imm = false := by simp only [fitsB, h1, h2, h3, Bool.false_and, Bool.and_false]
    rw [e]; exact pf3 r rd rs1 rs2 imm w hk hv hv' h2 h3
  cases h4 : kindB r.rs1 rs1 rd
  · have e : fitsB r r.op rd rs1 rs2 imm = false := by simp only [fitsB, h1, h2, h3, h4, Bool.false_and, Bool.and_false]
    rw [e]; exact pf4 r rd rs1 rs2 imm w hk hv hv' h2 h3 h4
  cases h5 : kindB r.rs2 rs2 rd
  · have e : fitsB r r.op rd rs1 rs2 imm = false := by simp only [fitsB, h1, h2, h3, h4, h5, Bool.false_and, Bool.and_false]
    rw [e]; exact pf5 r rd rs1 rs2 imm w hk hv hv' h2 h3 h4 h5
  cases h6 : (imm == 0)
  · cases h8 : decide (r.least ≤ imm)
    · have e : fitsB r r.op rd rs1 rs2 imm = false := by simp only [fitsB, h1, h2, h3, h4, h5, h6, h8, Bool.false_and, Bool.and_false]
      rw [e]; exact pf7a r rd rs1 rs2 imm w hk hv hv' h2 h3 h4 h5 h6 h8
    cases h9 : decide (imm ≤ r.most)
    · have e : fitsB r r.op rd rs1 rs2 imm = false := by simp only [fitsB, h1, h2, h3, h4, h5, h6, h8, h9, Bool.false_and, Bool.and_false]
      rw [e]; exact pf8a r rd rs1 rs2 imm w hk hv hv' h2 h3 h4 h5 h6 h8 h9
    have e : fitsB r r.op rd rs1 rs2 imm = (imm % r.step == 0) := by simp only [fitsB, h1, h2, h3, h4, h5, h6, h8, h9, Bool.false_and, Bool.and_false, Bool.true_and, Bool.not_false]
    rw [e]; exact pf9a r rd rs1 rs2 imm w hk hv hv' h2 h3 h4 h5 h6 h8 h9
  · have e2 : imm = 0 := by simpa using h6
    subst e2
    cases h7 : (r.nt == 1)
    · cases h8 : decide (r.least ≤ 0)
      · have e : fitsB r r.op rd rs1 rs2 0 = false := by simp only [fitsB, h1, h2, h3, h4, h5, h6, h8, Bool.false_and, Bool.and_false]
        rw [e]; exact pf7b r rd rs1 rs2 w hk h2 h3 h4 h5 h7 h8
      cases h9 : decide (0 ≤ r.most)
      · have e : fitsB r r.op rd rs1 rs2 0 = false := by simp only [fitsB, h1, h2, h3, h4, h5, h6, h8, h9, Bool.false_and, Bool.and_false]
        rw [e]; exact pf8b r rd rs1 rs2 w hk h2 h3 h4 h5 h7 h8 h9
      have e : fitsB r r.op rd rs1 rs2 0 = (0 % r.step == 0) := by simp only [fitsB, h1, h2, h3, h4, h5, h6, h7, h8, h9, Bool.false_and, Bool.and_false, Bool.true_and, Bool.not_false]
      rw [e]; exact pf9b r rd rs1 rs2 w hk h2 h3 h4 h5 h7 h8 h9
    · have e : fitsB r r.op rd rs1 rs2 0 = false := by simp only [fitsB, h1, h2, h3, h4, h5, h6, h7, Bool.true_and, Bool.not_true, Bool.false_and, Bool.and_false]
      rw [e]; exact pf6 r rd rs1 rs2 w hk h2 h3 h4 h5 h7

end Go.Proofs.YtdgmdkkockbkjaaGreatDoor
