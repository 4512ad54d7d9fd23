/- Parts of the proof, one behind the other. -/
import Derived.Lib.OthersKept
import Derived.Laws.Rows
import Derived.Test.YtppnmaklggkogaaZaa
import Derived.Test.YtppnmaklggkogaaZaj
/- Contracts of package press: does an instruction fit a row? -/
namespace Go.Proofs.Ytppnmaklggkogaa
open Go.RowKit
set_option linter.unusedVariables false
set_option linter.unusedSimpArgs false

/-- Is an instruction as a row asks? -/
def fitsB (r : PR) (op rd rs1 rs2 imm : Int) : Bool :=
  (op == r.op) && (mayB op rd rs1 rs2 imm && (kindB r.rd rd rd && (kindB r.rs1 rs1 rd && (kindB r.rs2 rs2 rd && (!((imm == 0) && (r.nt == 1)) && (decide (r.least ≤ imm) && (decide (imm ≤ r.most) && (imm % r.step == 0))))))))

/-- What the table has. -/
def PR.ok (r : PR) : Prop := 0 ≤ r.rd ∧ r.rd ≤ 7 ∧ 0 ≤ r.rs1 ∧ r.rs1 ≤ 7 ∧ 0 ≤ r.rs2 ∧ r.rs2 ≤ 7 ∧ 0 < r.step ∧ r.step ≤ 4096

theorem rows_ok : ∀ r ∈ rowsL, r.ok := by
  intro r hr
  simp only [rowsL, List.mem_cons, List.not_mem_nil, or_false] at hr
  unfold PR.ok
  rcases hr with rfl | rfl | rfl | rfl | rfl | rfl | rfl | rfl | rfl | rfl | rfl | rfl | rfl | rfl | rfl | rfl | rfl | rfl | rfl | rfl | rfl | rfl | rfl | rfl | rfl | rfl | rfl <;> decide

theorem fifteen {w w2 : World} {T U : TypeId} {a0 a1 a2 a3 a4 a5 a6 a7 a8 a9 b0 b1 b2 b3 b4 : Value} (h : Nx ((w.alloc (.cells #[a0, a1, a2, a3, a4, a5, a6, a7, a8, a9] T)).alloc (.cells #[b0, b1, b2, b3, b4] U)) w2) :
    w2.cell? ⟨w.heap.size, 0, none⟩ = some a0 ∧ w2.cell? ⟨w.heap.size, 1, none⟩ = some a1 ∧ w2.cell? ⟨w.heap.size, 2, none⟩ = some a2 ∧ w2.cell? ⟨w.heap.size, 3, none⟩ = some a3 ∧ w2.cell? ⟨w.heap.size, 4, none⟩ = some a4 ∧
    w2.cell? ⟨w.heap.size, 5, none⟩ = some a5 ∧ w2.cell? ⟨w.heap.size, 6, none⟩ = some a6 ∧ w2.cell? ⟨w.heap.size, 7, none⟩ = some a7 ∧ w2.cell? ⟨w.heap.size, 8, none⟩ = some a8 ∧ w2.cell? ⟨w.heap.size, 9, none⟩ = some a9 ∧
    w2.cell? ⟨w.heap.size + 1, 0, none⟩ = some b0 ∧ w2.cell? ⟨w.heap.size + 1, 1, none⟩ = some b1 ∧ w2.cell? ⟨w.heap.size + 1, 2, none⟩ = some b2 ∧ w2.cell? ⟨w.heap.size + 1, 3, none⟩ = some b3 ∧ w2.cell? ⟨w.heap.size + 1, 4, none⟩ = some b4 ∧
    w.heap.size + 1 < w2.heap.size := by
  have hs := h.size
  simp at hs
  refine ⟨?_, ?_, ?_, ?_, ?_, ?_, ?_, ?_, ?_, ?_, ?_, ?_, ?_, ?_, ?_, by omega⟩ <;> exact h.cell (by simp [go_sem])

set_option maxHeartbeats 1000000 in
theorem pf1 (r : PR) (op rd rs1 rs2 imm : Int) (w : World) (hk : r.ok) (hv : -2147483648 ≤ imm) (hv' : imm ≤ 2147483647) (h1 : (op == r.op) = false) :
    Calls Try.prog 21 #[.agg #[.string (B r.name), .int .i64 r.op, .int .i64 r.rd, .int .i64 r.rs1, .int .i64 r.rs2, .int .i32 r.least, .int .i32 r.most, .int .i32 r.step, .int .i32 r.nt, .string (B r.bits)], .agg #[.int .i64 op, .int .i64 rd, .int .i64 rs1, .int .i64 rs2, .int .i32 imm]] w fun e w' => e = .returned (.bool (false)) ∧ Nx w w' := by
  obtain ⟨k0, k1, k2, k3, k4, k5, k6, k7⟩ := hk
  have k8 : ¬ r.step = 0 := by omega
  have k9 : ¬ r.step = -1 := by omega
  go_enter Try.func21, Try.ntmps21
  go_wp2
  go_ret
  exact ⟨rfl, ((Nx.refl w).alloc _).alloc _⟩

set_option maxHeartbeats 1000000 in
theorem pf2 (r : PR) (rd rs1 rs2 imm : Int) (w : World) (hk : r.ok) (hv : -2147483648 ≤ imm) (hv' : imm ≤ 2147483647) (h2 : mayB r.op rd rs1 rs2 imm = false) :
    Calls Try.prog 21 #[.agg #[.string (B r.name), .int .i64 r.op, .int .i64 r.rd, .int .i64 r.rs1, .int .i64 r.rs2, .int .i32 r.least, .int .i32 r.most, .int .i32 r.step, .int .i32 r.nt, .string (B r.bits)], .agg #[.int .i64 r.op, .int .i64 rd, .int .i64 rs1, .int .i64 rs2, .int .i32 imm]] w fun e w' => e = .returned (.bool (false)) ∧ Nx w w' := by
  obtain ⟨k0, k1, k2, k3, k4, k5, k6, k7⟩ := hk
  have k8 : ¬ r.step = 0 := by omega
  have k9 : ¬ r.step = -1 := by omega
  go_enter Try.func21, Try.ntmps21
  go_wp2_with fail
  refine (may_any _ _ _ _ _ _ (by omega) (by omega)).mono ?_
  rintro e w2 ⟨rfl, hn2⟩
  obtain ⟨c0, c1, c2, c3, c4, c5, c6, c7, c8, c9, d0, d1, d2, d3, d4, hz⟩ := fifteen hn2
  have HN := Lib.hid ((((Nx.refl w).alloc _).alloc _).trans hn2)
  clear hn2
  go_wp2_with (go_at_call 39; refine (is_any _ _ _ _ (by omega) (by omega)).mono ?_; rintro e w' ⟨rfl, rfl⟩)
  go_ret
  exact ⟨rfl, HN.out⟩

set_option maxHeartbeats 1000000 in
theorem pf3 (r : PR) (rd rs1 rs2 imm : Int) (w : World) (hk : r.ok) (hv : -2147483648 ≤ imm) (hv' : imm ≤ 2147483647) (h2 : mayB r.op rd rs1 rs2 imm = true) (h3 : kindB r.rd rd rd = false) :
    Calls Try.prog 21 #[.agg #[.string (B r.name), .int .i64 r.op, .int .i64 r.rd, .int .i64 r.rs1, .int .i64 r.rs2, .int .i32 r.least, .int .i32 r.most, .int .i32 r.step, .int .i32 r.nt, .string (B r.bits)], .agg #[.int .i64 r.op, .int .i64 rd, .int .i64 rs1, .int .i64 rs2, .int .i32 imm]] w fun e w' => e = .returned (.bool (false)) ∧ Nx w w' := by
  obtain ⟨k0, k1, k2, k3, k4, k5, k6, k7⟩ := hk
  have k8 : ¬ r.step = 0 := by omega
  have k9 : ¬ r.step = -1 := by omega
  go_enter Try.func21, Try.ntmps21
  go_wp2_with fail
  refine (may_any _ _ _ _ _ _ (by omega) (by omega)).mono ?_
  rintro e w2 ⟨rfl, hn2⟩
  obtain ⟨c0, c1, c2, c3, c4, c5, c6, c7, c8, c9, d0, d1, d2, d3, d4, hz⟩ := fifteen hn2
  have HN := Lib.hid ((((Nx.refl w).alloc _).alloc _).trans hn2)
  clear hn2
  go_wp2_with (go_at_call 39; refine (is_any _ _ _ _ (by omega) (by omega)).mono ?_; rintro e w' ⟨rfl, rfl⟩)
  go_ret
  exact ⟨rfl, HN.out⟩

set_option maxHeartbeats 1000000 in
theorem pf4 (r : PR) (rd rs1 rs2 imm : Int) (w : World) (hk : r.ok) (hv : -2147483648 ≤ imm) (hv' : imm ≤ 2147483647) (h2 : mayB r.op rd rs1 rs2 imm = true) (h3 : kindB r.rd rd rd = true) (h4 : kindB r.rs1 rs1 rd = false) :
    Calls Try.prog 21 #[.agg #[.string (B r.name), .int .i64 r.op, .int .i64 r.rd, .int .i64 r.rs1, .int .i64 r.rs2, .int .i32 r.least, .int .i32 r.most, .int .i32 r.step, .int .i32 r.nt, .string (B r.bits)], .agg #[.int .i64 r.op, .int .i64 rd, .int .i64 rs1, .int .i64 rs2, .int .i32 imm]] w fun e w' => e = .returned (.bool (false)) ∧ Nx w w' := by
  obtain ⟨k0, k1, k2, k3, k4, k5, k6, k7⟩ := hk
  have k8 : ¬ r.step = 0 := by omega
  have k9 : ¬ r.step = -1 := by omega
  go_enter Try.func21, Try.ntmps21
  go_wp2_with fail
  refine (may_any _ _ _ _ _ _ (by omega) (by omega)).mono ?_
  rintro e w2 ⟨rfl, hn2⟩
  obtain ⟨c0, c1, c2, c3, c4, c5, c6, c7, c8, c9, d0, d1, d2, d3, d4, hz⟩ := fifteen hn2
  have HN := Lib.hid ((((Nx.refl w).alloc _).alloc _).trans hn2)
  clear hn2
  go_wp2_with (go_at_call 39; refine (is_any _ _ _ _ (by omega) (by omega)).mono ?_; rintro e w' ⟨rfl, rfl⟩)
  go_ret
  exact ⟨rfl, HN.out⟩

set_option maxHeartbeats 1000000 in
theorem pf5 (r : PR) (rd rs1 rs2 imm : Int) (w : World) (hk : r.ok) (hv : -2147483648 ≤ imm) (hv' : imm ≤ 2147483647) (h2 : mayB r.op rd rs1 rs2 imm = true) (h3 : kindB r.rd rd rd = true) (h4 : kindB r.rs1 rs1 rd = true) (h5 : kindB r.rs2 rs2 rd = false) :
    Calls Try.prog 21 #[.agg #[.string (B r.name), .int .i64 r.op, .int .i64 r.rd, .int .i64 r.rs1, .int .i64 r.rs2, .int .i32 r.least, .int .i32 r.most, .int .i32 r.step, .int .i32 r.nt, .string (B r.bits)], .agg #[.int .i64 r.op, .int .i64 rd, .int .i64 rs1, .int .i64 rs2, .int .i32 imm]] w fun e w' => e = .returned (.bool (false)) ∧ Nx w w' := by
  obtain ⟨k0, k1, k2, k3, k4, k5, k6, k7⟩ := hk
  have k8 : ¬ r.step = 0 := by omega
  have k9 : ¬ r.step = -1 := by omega
  go_enter Try.func21, Try.ntmps21
  go_wp2_with fail
  refine (may_any _ _ _ _ _ _ (by omega) (by omega)).mono ?_
  rintro e w2 ⟨rfl, hn2⟩
  obtain ⟨c0, c1, c2, c3, c4, c5, c6, c7, c8, c9, d0, d1, d2, d3, d4, hz⟩ := fifteen hn2
  have HN := Lib.hid ((((Nx.refl w).alloc _).alloc _).trans hn2)
  clear hn2
  go_wp2_with (go_at_call 39; refine (is_any _ _ _ _ (by omega) (by omega)).mono ?_; rintro e w' ⟨rfl, rfl⟩)
  go_ret
  exact ⟨rfl, HN.out⟩

set_option maxHeartbeats 1000000 in
theorem pf6 (r : PR) (rd rs1 rs2 : Int) (w : World) (hk : r.ok) (h2 : mayB r.op rd rs1 rs2 0 = true) (h3 : kindB r.rd rd rd = true) (h4 : kindB r.rs1 rs1 rd = true) (h5 : kindB r.rs2 rs2 rd = true) (h7 : (r.nt == 1) = true) :
    Calls Try.prog 21 #[.agg #[.string (B r.name), .int .i64 r.op, .int .i64 r.rd, .int .i64 r.rs1, .int .i64 r.rs2, .int .i32 r.least, .int .i32 r.most, .int .i32 r.step, .int .i32 r.nt, .string (B r.bits)], .agg #[.int .i64 r.op, .int .i64 rd, .int .i64 rs1, .int .i64 rs2, .int .i32 0]] w fun e w' => e = .returned (.bool (false)) ∧ Nx w w' := by
  obtain ⟨k0, k1, k2, k3, k4, k5, k6, k7⟩ := hk
  have k8 : ¬ r.step = 0 := by omega
  have k9 : ¬ r.step = -1 := by omega
  go_enter Try.func21, Try.ntmps21
  go_wp2_with fail
  refine (may_any _ _ _ _ _ _ (by omega) (by omega)).mono ?_
  rintro e w2 ⟨rfl, hn2⟩
  obtain ⟨c0, c1, c2, c3, c4, c5, c6, c7, c8, c9, d0, d1, d2, d3, d4, hz⟩ := fifteen hn2
  have HN := Lib.hid ((((Nx.refl w).alloc _).alloc _).trans hn2)
  clear hn2
  go_wp2_with (go_at_call 39; refine (is_any _ _ _ _ (by omega) (by omega)).mono ?_; rintro e w' ⟨rfl, rfl⟩)
  go_ret
  exact ⟨rfl, HN.out⟩

set_option maxHeartbeats 1000000 in
theorem pf7a (r : PR) (rd rs1 rs2 imm : Int) (w : World) (hk : r.ok) (hv : -2147483648 ≤ imm) (hv' : imm ≤ 2147483647) (h2 : mayB r.op rd rs1 rs2 imm = true) (h3 : kindB r.rd rd rd = true) (h4 : kindB r.rs1 rs1 rd = true) (h5 : kindB r.rs2 rs2 rd = true) (h6 : (imm == 0) = false) (h8 : decide (r.least ≤ imm) = false) :
    Calls Try.prog 21 #[.agg #[.string (B r.name), .int .i64 r.op, .int .i64 r.rd, .int .i64 r.rs1, .int .i64 r.rs2, .int .i32 r.least, .int .i32 r.most, .int .i32 r.step, .int .i32 r.nt, .string (B r.bits)], .agg #[.int .i64 r.op, .int .i64 rd, .int .i64 rs1, .int .i64 rs2, .int .i32 imm]] w fun e w' => e = .returned (.bool (false)) ∧ Nx w w' := by
  obtain ⟨k0, k1, k2, k3, k4, k5, k6, k7⟩ := hk
  have k8 : ¬ r.step = 0 := by omega
  have k9 : ¬ r.step = -1 := by omega
  go_enter Try.func21, Try.ntmps21
  go_wp2_with fail
  refine (may_any _ _ _ _ _ _ (by omega) (by omega)).mono ?_
  rintro e w2 ⟨rfl, hn2⟩
  obtain ⟨c0, c1, c2, c3, c4, c5, c6, c7, c8, c9, d0, d1, d2, d3, d4, hz⟩ := fifteen hn2
  have HN := Lib.hid ((((Nx.refl w).alloc _).alloc _).trans hn2)
  clear hn2
  go_wp2_with (go_at_call 39; refine (is_any _ _ _ _ (by omega) (by omega)).mono ?_; rintro e w' ⟨rfl, rfl⟩)
  go_ret
  exact ⟨rfl, HN.out⟩

set_option maxHeartbeats 1000000 in
theorem pf8a (r : PR) (rd rs1 rs2 imm : Int) (w : World) (hk : r.ok) (hv : -2147483648 ≤ imm) (hv' : imm ≤ 2147483647) (h2 : mayB r.op rd rs1 rs2 imm = true) (h3 : kindB r.rd rd rd = true) (h4 : kindB r.rs1 rs1 rd = true) (h5 : kindB r.rs2 rs2 rd = true) (h6 : (imm == 0) = false) (h8 : decide (r.least ≤ imm) = true) (h9 : decide (imm ≤ r.most) = false) :
    Calls Try.prog 21 #[.agg #[.string (B r.name), .int .i64 r.op, .int .i64 r.rd, .int .i64 r.rs1, .int .i64 r.rs2, .int .i32 r.least, .int .i32 r.most, .int .i32 r.step, .int .i32 r.nt, .string (B r.bits)], .agg #[.int .i64 r.op, .int .i64 rd, .int .i64 rs1, .int .i64 rs2, .int .i32 imm]] w fun e w' => e = .returned (.bool (false)) ∧ Nx w w' := by
  obtain ⟨k0, k1, k2, k3, k4, k5, k6, k7⟩ := hk
  have k8 : ¬ r.step = 0 := by omega
  have k9 : ¬ r.step = -1 := by omega
  go_enter Try.func21, Try.ntmps21
  go_wp2_with fail
  refine (may_any _ _ _ _ _ _ (by omega) (by omega)).mono ?_
  rintro e w2 ⟨rfl, hn2⟩
  obtain ⟨c0, c1, c2, c3, c4, c5, c6, c7, c8, c9, d0, d1, d2, d3, d4, hz⟩ := fifteen hn2
  have HN := Lib.hid ((((Nx.refl w).alloc _).alloc _).trans hn2)
  clear hn2
  go_wp2_with (go_at_call 39; refine (is_any _ _ _ _ (by omega) (by omega)).mono ?_; rintro e w' ⟨rfl, rfl⟩)
  go_ret
  exact ⟨rfl, HN.out⟩

set_option maxHeartbeats 1000000 in
theorem pf9a (r : PR) (rd rs1 rs2 imm : Int) (w : World) (hk : r.ok) (hv : -2147483648 ≤ imm) (hv' : imm ≤ 2147483647) (h2 : mayB r.op rd rs1 rs2 imm = true) (h3 : kindB r.rd rd rd = true) (h4 : kindB r.rs1 rs1 rd = true) (h5 : kindB r.rs2 rs2 rd = true) (h6 : (imm == 0) = false) (h8 : decide (r.least ≤ imm) = true) (h9 : decide (imm ≤ r.most) = true) :
    Calls Try.prog 21 #[.agg #[.string (B r.name), .int .i64 r.op, .int .i64 r.rd, .int .i64 r.rs1, .int .i64 r.rs2, .int .i32 r.least, .int .i32 r.most, .int .i32 r.step, .int .i32 r.nt, .string (B r.bits)], .agg #[.int .i64 r.op, .int .i64 rd, .int .i64 rs1, .int .i64 rs2, .int .i32 imm]] w fun e w' => e = .returned (.bool (imm % r.step == 0)) ∧ Nx w w' := by
  obtain ⟨k0, k1, k2, k3, k4, k5, k6, k7⟩ := hk
  have k8 : ¬ r.step = 0 := by omega
  have k9 : ¬ r.step = -1 := by omega
  go_enter Try.func21, Try.ntmps21
  go_wp2_with fail
  refine (may_any _ _ _ _ _ _ (by omega) (by omega)).mono ?_
  rintro e w2 ⟨rfl, hn2⟩
  obtain ⟨c0, c1, c2, c3, c4, c5, c6, c7, c8, c9, d0, d1, d2, d3, d4, hz⟩ := fifteen hn2
  have HN := Lib.hid ((((Nx.refl w).alloc _).alloc _).trans hn2)
  clear hn2
  go_wp2_with (go_at_call 39; refine (is_any _ _ _ _ (by omega) (by omega)).mono ?_; rintro e w' ⟨rfl, rfl⟩)
  go_ret
  exact ⟨ret_bool (by first | rfl | exact tmod_zero _ _ | simp [tmod_zero]), HN.out⟩

set_option maxHeartbeats 1000000 in
theorem pf7b (r : PR) (rd rs1 rs2 : Int) (w : World) (hk : r.ok) (h2 : mayB r.op rd rs1 rs2 0 = true) (h3 : kindB r.rd rd rd = true) (h4 : kindB r.rs1 rs1 rd = true) (h5 : kindB r.rs2 rs2 rd = true) (h7 : (r.nt == 1) = false) (h8 : decide (r.least ≤ 0) = false) :
    Calls Try.prog 21 #[.agg #[.string (B r.name), .int .i64 r.op, .int .i64 r.rd, .int .i64 r.rs1, .int .i64 r.rs2, .int .i32 r.least, .int .i32 r.most, .int .i32 r.step, .int .i32 r.nt, .string (B r.bits)], .agg #[.int .i64 r.op, .int .i64 rd, .int .i64 rs1, .int .i64 rs2, .int .i32 0]] w fun e w' => e = .returned (.bool (false)) ∧ Nx w w' := by
  obtain ⟨k0, k1, k2, k3, k4, k5, k6, k7⟩ := hk
  have k8 : ¬ r.step = 0 := by omega
  have k9 : ¬ r.step = -1 := by omega
  go_enter Try.func21, Try.ntmps21
  go_wp2_with fail
  refine (may_any _ _ _ _ _ _ (by omega) (by omega)).mono ?_
  rintro e w2 ⟨rfl, hn2⟩
  obtain ⟨c0, c1, c2, c3, c4, c5, c6, c7, c8, c9, d0, d1, d2, d3, d4, hz⟩ := fifteen hn2
  have HN := Lib.hid ((((Nx.refl w).alloc _).alloc _).trans hn2)
  clear hn2
  go_wp2_with (go_at_call 39; refine (is_any _ _ _ _ (by omega) (by omega)).mono ?_; rintro e w' ⟨rfl, rfl⟩)
  go_ret
  exact ⟨rfl, HN.out⟩

set_option maxHeartbeats 1000000 in
theorem pf8b (r : PR) (rd rs1 rs2 : Int) (w : World) (hk : r.ok) (h2 : mayB r.op rd rs1 rs2 0 = true) (h3 : kindB r.rd rd rd = true) (h4 : kindB r.rs1 rs1 rd = true) (h5 : kindB r.rs2 rs2 rd = true) (h7 : (r.nt == 1) = false) (h8 : decide (r.least ≤ 0) = true) (h9 : decide (0 ≤ r.most) = false) :
    Calls Try.prog 21 #[.agg #[.string (B r.name), .int .i64 r.op, .int .i64 r.rd, .int .i64 r.rs1, .int .i64 r.rs2, .int .i32 r.least, .int .i32 r.most, .int .i32 r.step, .int .i32 r.nt, .string (B r.bits)], .agg #[.int .i64 r.op, .int .i64 rd, .int .i64 rs1, .int .i64 rs2, .int .i32 0]] w fun e w' => e = .returned (.bool (false)) ∧ Nx w w' := by
  obtain ⟨k0, k1, k2, k3, k4, k5, k6, k7⟩ := hk
  have k8 : ¬ r.step = 0 := by omega
  have k9 : ¬ r.step = -1 := by omega
  go_enter Try.func21, Try.ntmps21
  go_wp2_with fail
  refine (may_any _ _ _ _ _ _ (by omega) (by omega)).mono ?_
  rintro e w2 ⟨rfl, hn2⟩
  obtain ⟨c0, c1, c2, c3, c4, c5, c6, c7, c8, c9, d0, d1, d2, d3, d4, hz⟩ := fifteen hn2
  have HN := Lib.hid ((((Nx.refl w).alloc _).alloc _).trans hn2)
  clear hn2
  go_wp2_with (go_at_call 39; refine (is_any _ _ _ _ (by omega) (by omega)).mono ?_; rintro e w' ⟨rfl, rfl⟩)
  go_ret
  exact ⟨rfl, HN.out⟩

set_option maxHeartbeats 1000000 in
theorem pf9b (r : PR) (rd rs1 rs2 : Int) (w : World) (hk : r.ok) (h2 : mayB r.op rd rs1 rs2 0 = true) (h3 : kindB r.rd rd rd = true) (h4 : kindB r.rs1 rs1 rd = true) (h5 : kindB r.rs2 rs2 rd = true) (h7 : (r.nt == 1) = false) (h8 : decide (r.least ≤ 0) = true) (h9 : decide (0 ≤ r.most) = true) :
    Calls Try.prog 21 #[.agg #[.string (B r.name), .int .i64 r.op, .int .i64 r.rd, .int .i64 r.rs1, .int .i64 r.rs2, .int .i32 r.least, .int .i32 r.most, .int .i32 r.step, .int .i32 r.nt, .string (B r.bits)], .agg #[.int .i64 r.op, .int .i64 rd, .int .i64 rs1, .int .i64 rs2, .int .i32 0]] w fun e w' => e = .returned (.bool (0 % r.step == 0)) ∧ Nx w w' := by
  obtain ⟨k0, k1, k2, k3, k4, k5, k6, k7⟩ := hk
  have k8 : ¬ r.step = 0 := by omega
  have k9 : ¬ r.step = -1 := by omega
  go_enter Try.func21, Try.ntmps21
  go_wp2_with fail
  refine (may_any _ _ _ _ _ _ (by omega) (by omega)).mono ?_
  rintro e w2 ⟨rfl, hn2⟩
  obtain ⟨c0, c1, c2, c3, c4, c5, c6, c7, c8, c9, d0, d1, d2, d3, d4, hz⟩ := fifteen hn2
  have HN := Lib.hid ((((Nx.refl w).alloc _).alloc _).trans hn2)
  clear hn2
  go_wp2_with (go_at_call 39; refine (is_any _ _ _ _ (by omega) (by omega)).mono ?_; rintro e w' ⟨rfl, rfl⟩)
  go_ret
  exact ⟨ret_bool (by first | rfl | exact tmod_zero _ _ | simp [tmod_zero]), HN.out⟩

theorem pfits_any (r : PR) (op rd rs1 rs2 imm : Int) (w : World) (hk : r.ok) (hv : -2147483648 ≤ imm) (hv' : imm ≤ 2147483647) :
    Calls Try.prog 21 #[.agg #[.string (B r.name), .int .i64 r.op, .int .i64 r.rd, .int .i64 r.rs1, .int .i64 r.rs2, .int .i32 r.least, .int .i32 r.most, .int .i32 r.step, .int .i32 r.nt, .string (B r.bits)], .agg #[.int .i64 op, .int .i64 rd, .int .i64 rs1, .int .i64 rs2, .int .i32 imm]] w fun e w' => e = .returned (.bool (fitsB r op rd rs1 rs2 imm)) ∧ Nx w w' := by
  cases h1 : (op == r.op)
  · have e : fitsB r op rd rs1 rs2 imm = false := by simp only [fitsB, h1, Bool.false_and]
    rw [e]; exact pf1 r op rd rs1 rs2 imm w hk hv hv' h1
  have e1 : op = r.op := by simpa using h1
  subst e1
  cases h2 : mayB r.op rd rs1 rs2 imm
  · have e : fitsB r r.op rd rs1 rs2 imm = false := by simp only [fitsB, h1, h2, Bool.false_and, Bool.and_false]
    rw [e]; exact pf2 r rd rs1 rs2 imm w hk hv hv' h2
  cases h3 : kindB r.rd rd rd
  · have e : fitsB r r.op rd rs1 rs2 imm = false := by simp only [fitsB, h1, h2, h3, Bool.false_and, Bool.and_false]
    rw [e]; exact pf3 r rd rs1 rs2 imm w hk hv hv' h2 h3
  cases h4 : kindB r.rs1 rs1 rd
  · have e : fitsB r r.op rd rs1 rs2 imm = false := by simp only [fitsB, h1, h2, h3, h4, Bool.false_and, Bool.and_false]
    rw [e]; exact pf4 r rd rs1 rs2 imm w hk hv hv' h2 h3 h4
  cases h5 : kindB r.rs2 rs2 rd
  · have e : fitsB r r.op rd rs1 rs2 imm = false := by simp only [fitsB, h1, h2, h3, h4, h5, Bool.false_and, Bool.and_false]
    rw [e]; exact pf5 r rd rs1 rs2 imm w hk hv hv' h2 h3 h4 h5
  cases h6 : (imm == 0)
  · cases h8 : decide (r.least ≤ imm)
    · have e : fitsB r r.op rd rs1 rs2 imm = false := by simp only [fitsB, h1, h2, h3, h4, h5, h6, h8, Bool.false_and, Bool.and_false]
      rw [e]; exact pf7a r rd rs1 rs2 imm w hk hv hv' h2 h3 h4 h5 h6 h8
    cases h9 : decide (imm ≤ r.most)
    · have e : fitsB r r.op rd rs1 rs2 imm = false := by simp only [fitsB, h1, h2, h3, h4, h5, h6, h8, h9, Bool.false_and, Bool.and_false]
      rw [e]; exact pf8a r rd rs1 rs2 imm w hk hv hv' h2 h3 h4 h5 h6 h8 h9
    have e : fitsB r r.op rd rs1 rs2 imm = (imm % r.step == 0) := by simp only [fitsB, h1, h2, h3, h4, h5, h6, h8, h9, Bool.false_and, Bool.and_false, Bool.true_and, Bool.not_false]
    rw [e]; exact pf9a r rd rs1 rs2 imm w hk hv hv' h2 h3 h4 h5 h6 h8 h9
  · have e2 : imm = 0 := by simpa using h6
    subst e2
    cases h7 : (r.nt == 1)
    · cases h8 : decide (r.least ≤ 0)
      · have e : fitsB r r.op rd rs1 rs2 0 = false := by simp only [fitsB, h1, h2, h3, h4, h5, h6, h8, Bool.false_and, Bool.and_false]
        rw [e]; exact pf7b r rd rs1 rs2 w hk h2 h3 h4 h5 h7 h8
      cases h9 : decide (0 ≤ r.most)
      · have e : fitsB r r.op rd rs1 rs2 0 = false := by simp only [fitsB, h1, h2, h3, h4, h5, h6, h8, h9, Bool.false_and, Bool.and_false]
        rw [e]; exact pf8b r rd rs1 rs2 w hk h2 h3 h4 h5 h7 h8 h9
      have e : fitsB r r.op rd rs1 rs2 0 = (0 % r.step == 0) := by simp only [fitsB, h1, h2, h3, h4, h5, h6, h7, h8, h9, Bool.false_and, Bool.and_false, Bool.true_and, Bool.not_false]
      rw [e]; exact pf9b r rd rs1 rs2 w hk h2 h3 h4 h5 h7 h8 h9
    · have e : fitsB r r.op rd rs1 rs2 0 = false := by simp only [fitsB, h1, h2, h3, h4, h5, h6, h7, Bool.true_and, Bool.not_true, Bool.false_and, Bool.and_false]
      rw [e]; exact pf6 r rd rs1 rs2 w hk h2 h3 h4 h5 h7

end Go.Proofs.Ytppnmaklggkogaa

/- Contracts of package press: laws for its rows. -/
namespace Go.Proofs.Ytppnmaklggkogaa
open Go.RowKit
set_option linter.unusedVariables false
set_option linter.unusedSimpArgs false

def PR0 : PR := ⟨[], 0, 0, 0, 0, 0, 0, 0, 0, []⟩

def findP (s : ByteArray) : Option PR := rowsL.find? (fun r => r.name == s.toList)

def findR (s : ByteArray) : PR := (findP s).getD PR0

theorem find_at (s : ByteArray) (k : Nat) (r : PR) (hr : rowsL[k]? = some r) (hp : (r.name == s.toList) = true) (hno : ∀ j r', j < k → rowsL[j]? = some r' → (r'.name == s.toList) = false) : findP s = some r := by
  obtain ⟨hk, e⟩ := List.getElem?_eq_some_iff.1 hr
  unfold findP
  rw [List.find?_eq_some_iff_getElem]
  refine ⟨hp, k, hk, e, fun j hj => ?_⟩
  rw [hno j _ hj (List.getElem?_eq_getElem (by omega))]
  rfl

theorem find_no (s : ByteArray) (hno : ∀ j r', j < 27 → rowsL[j]? = some r' → (r'.name == s.toList) = false) : findP s = none := by
  unfold findP
  rw [List.find?_eq_none]
  intro r hr
  obtain ⟨j, hj, e⟩ := List.getElem_of_mem hr
  rw [hno j r hj (by rw [List.getElem?_eq_getElem hj, e])]
  simp

theorem prow_size : (Try.prog.info? 41).map (·.size) = some 10 := by kernel_rfl

theorem prow_one (r : PR) : (rowC r).toArray.all (·.oneCell') = true := by simp [rowC, Value.oneCell']

theorem prow_set (r : PR) (w : World) : (w.alloc (.cells #[.string (B []), .int .i64 0, .int .i64 0, .int .i64 0, .int .i64 0, .int .i32 0, .int .i32 0, .int .i32 0, .int .i32 0, .string (B [])] 41)).setCells w.heap.size 0 (rowC r).toArray.toList = w.alloc (.cells (rowC r).toArray 41) := by
  simp [World.setCells, rowC, go_sem]

theorem prow_there (w : World) : (w.alloc (.cells #[.string (B []), .int .i64 0, .int .i64 0, .int .i64 0, .int .i64 0, .int .i32 0, .int .i32 0, .int .i32 0, .int .i32 0, .string (B [])] 41)).there w.heap.size 0 10 := there_new (Nx.refl _) 10 rfl

theorem row_at (k : Nat) (h : k < 27) : ∃ r, rowsL[k]? = some r := ⟨_, List.getElem?_eq_getElem h⟩

theorem row_ok (k : Nat) (r : PR) (h : rowsL[k]? = some r) : r.ok := rows_ok r (List.mem_of_getElem? h)

theorem results_ct {P : Program} {fn : Func} {tmps : Array Value} {w : World} {a b : Tmp} {t : TypeId} {p : Addr} {v x : Value} (hr : fn.results = #[.cell a t, .tmp b]) (ha : tmps.getD a undef = .pointer (some p)) (hb : tmps.getD b undef = x) (hl : (loadVar t p).run P w = .ok v w) : (results fn tmps).run P w = .ok (.tuple #[v, x]) w := by
  unfold results
  rw [hr]
  generalize hm : loadVar t p = m at hl
  have ha' : tmps[a]?.getD undef = .pointer (some p) := by simpa using ha
  have hb' : tmps[b]?.getD undef = x := by simpa using hb
  simp [ha', hb', hm, hl, Sem.run_bind, Sem.run_pure, asAddr]

theorem prows_some (w : World) : Calls Try.prog 34 #[] w fun e w' => ∃ g, e = .returned (.slice (some ⟨g, 0, none⟩) 27 27) ∧ RowsP w' g ∧ Nx w w' :=
  (prows_any w).mono fun e w' ⟨h1, h2, h3⟩ => ⟨w.heap.size, h1, h2, h3⟩

theorem range_new (w : World) (r : PR) : (w.alloc (.cells (rowC r).toArray 41)).rangeAt w.heap.size 0 (rowC r) := by
  intro j v hv
  have : (w.alloc (.cells (rowC r).toArray 41)).cell? ⟨w.heap.size, 0 + j, none⟩ = (rowC r).toArray[0 + j]? := by simp
  rw [this, List.getElem?_toArray, Nat.zero_add]
  exact hv

end Go.Proofs.Ytppnmaklggkogaa

/- Contracts of package press: a row by its name; does an instruction fit a short? -/
namespace Go.Proofs.Ytppnmaklggkogaa
open Go.RowKit
set_option linter.unusedVariables false
set_option linter.unusedSimpArgs false

set_option maxHeartbeats 2000000 in
theorem find_any (s : ByteArray) (w : World) :
    Calls Try.prog 20 #[.string s] w fun e w' => e = .returned (.tuple #[.agg (rowC (findR s)).toArray, .bool (findP s).isSome]) ∧ Nx w w' := by
  have HE0 := Lib.hid (fun k r hr hp hno => find_at s k r hr hp hno)
  have HE1 := Lib.hid (find_no s)
  go_enter Try.func20, Try.ntmps20
  go_wp2_with fail
  refine (prows_some _).mono ?_
  rintro e w1 ⟨g, rfl, hR, hn1⟩
  have HN1 := Lib.hid hn1
  have HR := Lib.hid hR
  clear hR hn1
  go_wp2
  go_loopw [5, 8] (fun _ i wr => ∃ k : Nat, k ≤ 27 ∧ i = .int .i64 k ∧ Nx w1 wr ∧ Hid (∀ j r', j < k → rowsL[j]? = some r' → (r'.name == s.toList) = false)) (fun _ i _ => 27 - (intOf i).toNat)
  case atStart => exact ⟨0, by omega, rfl, Nx.refl _, Lib.hid (fun j r' hj => absurd hj (by omega))⟩
  case round =>
    obtain ⟨k, hk, rfl, hnx, hno⟩ := hrel
    have HNX := Lib.hid hnx
    clear hnx
    by_cases hlt : k < 27
    · obtain ⟨r, hr⟩ := row_at k hlt
      have HL := Lib.hid ((HR.out.keep HNX.out) k r hr)
      have HRr := Lib.hid hr
      clear hr
      cases hp : (r.name == s.toList)
      · go_wp2_with (first | (refine wpList_load_mid (by rfl) 41 _ (by rfl) g (k * 10) (by rfl) (rowC r) _ HL.out Try.underlying41 rfl prow_size ?_) | (refine wpList_store_mid (by rfl) 41 _ _ (by rfl) wr.heap.size 0 (rowC r).toArray (by rfl) (by rfl) (prow_there wr) prow_size (prow_one r) ?_; rw [prow_set]))
        go_roundw
        case rel =>
          refine ⟨k + 1, by omega, by go_num, HNX.out.alloc _, Lib.hid (fun j r' hj hr' => ?_)⟩
          by_cases ej : j = k
          · subst ej
            rw [HRr.out] at hr'
            cases hr'
            exact hp
          · exact hno.out j r' (by omega) hr'
        case measure => simp [intOf]; omega
      · have hf := HE0.out k r HRr.out hp hno.out
        have HTW := Lib.hid (there_new (HN1.out.trans (HNX.out.alloc (.cells (rowC r).toArray 41))) 10 rfl)
        have e1 : findR s = r := by unfold findR; rw [hf]; rfl
        have e2 : (findP s).isSome = true := by rw [hf]; rfl
        have E1 := Lib.hid e1
        have E2 := Lib.hid e2
        clear hf e1 e2
        go_wp2_with (first | (refine wpList_load_mid (by rfl) 41 _ (by rfl) g (k * 10) (by rfl) (rowC r) _ HL.out Try.underlying41 rfl prow_size ?_) | (refine wpList_load_mid (by rfl) 41 _ (by rfl) wr.heap.size 0 (by rfl) (rowC r) _ (range_new wr r) Try.underlying41 rfl prow_size ?_) | (refine wpList_store_mid (by rfl) 41 _ _ (by rfl) wr.heap.size 0 (rowC r).toArray (by rfl) (by rfl) (prow_there wr) prow_size (prow_one r) ?_; rw [prow_set]) | (refine wpList_store_mid (by rfl) 41 _ _ (by rfl) w.heap.size 0 (rowC r).toArray (by rfl) (by rfl) HTW.out prow_size (prow_one r) ?_))
        refine bodyPost_ret (v := .tuple #[.agg (rowC r).toArray, .bool true]) (results_ct Try.results20 rfl rfl (run_loadVar_mid _ w.heap.size 0 41 (rowC r).toArray.toList _ (World.rangeAt_setCells_same _ w.heap.size 0 (rowC r).toArray.toList HTW.out) Try.underlying41 rfl prow_size)) rfl ⟨by rw [E1.out, E2.out], ?_⟩
        exact Nx.setCells (((Nx.refl w).alloc _).trans (HN1.out.trans (HNX.out.alloc _))) (Nat.le_refl _) _
    · have hf := HE1.out (fun j r' hj hr' => hno.out j r' (by omega) hr')
      have HTW := Lib.hid (there_new (HN1.out.trans HNX.out) 10 rfl)
      have e1 : findR s = PR0 := by unfold findR; rw [hf]; rfl
      have e2 : (findP s).isSome = false := by rw [hf]; rfl
      have E1 := Lib.hid e1
      have E2 := Lib.hid e2
      clear hf e1 e2
      go_wp2_with ((refine wpList_store_mid (by rfl) 41 _ _ (by rfl) w.heap.size 0 (rowC PR0).toArray (by rfl) (by rfl) HTW.out prow_size (prow_one PR0) ?_))
      refine bodyPost_ret (v := .tuple #[.agg (rowC PR0).toArray, .bool false]) (results_ct Try.results20 rfl rfl (run_loadVar_mid _ w.heap.size 0 41 (rowC PR0).toArray.toList _ (World.rangeAt_setCells_same _ w.heap.size 0 (rowC PR0).toArray.toList HTW.out) Try.underlying41 rfl prow_size)) rfl ⟨by rw [E1.out, E2.out], ?_⟩
      exact Nx.setCells (((Nx.refl w).alloc _).trans (HN1.out.trans HNX.out)) (Nat.le_refl _) _

/-- Does an instruction fit the short of a name? -/
def fitS (s : ByteArray) (op rd rs1 rs2 imm : Int) : Bool := (findP s).isSome && fitsB (findR s) op rd rs1 rs2 imm

theorem findR_ok (s : ByteArray) (h : (findP s).isSome = true) : (findR s).ok := by
  obtain ⟨r, hr⟩ := Option.isSome_iff_exists.1 h
  have e : findR s = r := by unfold findR; rw [hr]; rfl
  rw [e]
  exact rows_ok r (List.mem_of_find?_eq_some hr)

set_option maxHeartbeats 2000000 in
theorem pFits_any (s : ByteArray) (op rd rs1 rs2 imm : Int) (w : World) (hv : -2147483648 ≤ imm) (hv' : imm ≤ 2147483647) :
    Calls Try.prog 17 #[.string s, .agg #[.int .i64 op, .int .i64 rd, .int .i64 rs1, .int .i64 rs2, .int .i32 imm]] w fun e w' => e = .returned (.bool (fitS s op rd rs1 rs2 imm)) ∧ Nx w w' := by
  have HF := Lib.hid (show fitS s op rd rs1 rs2 imm = ((findP s).isSome && fitsB (findR s) op rd rs1 rs2 imm) from rfl)
  have HO := Lib.hid (findR_ok s)
  cases hs : (findP s).isSome
  · have HV := Lib.hid (HF.out.trans (by rw [hs, Bool.false_and]))
    go_enter Try.func17, Try.ntmps17
    go_wp2_with fail
    refine (find_any _ _).mono ?_
    rintro e w2 ⟨rfl, hn2⟩
    rw [hs]
    generalize findR s = R
    have HN := Lib.hid (((Nx.refl w).alloc _).trans hn2)
    clear hn2
    go_wp2_with (refine wpList_store_mid (by rfl) 41 _ _ (by rfl) w2.heap.size 0 (rowC R).toArray (by rfl) (by rfl) (prow_there w2) prow_size (prow_one R) ?_; rw [prow_set])
    go_ret
    exact ⟨ret_bool HV.out.symm, HN.out.alloc _⟩
  · have hok := HO.out hs
    have HV := Lib.hid (HF.out.trans (by rw [hs, Bool.true_and]))
    go_enter Try.func17, Try.ntmps17
    go_wp2_with fail
    refine (find_any _ _).mono ?_
    rintro e w2 ⟨rfl, hn2⟩
    rw [hs]
    obtain ⟨c0, c1, c2, c3, c4, hz⟩ := five_in hn2
    have HN := Lib.hid (((Nx.refl w).alloc _).trans hn2)
    clear hn2
    generalize findR s = R at *
    go_wp2_with (first | (refine wpList_store_mid (by rfl) 41 _ _ (by rfl) w2.heap.size 0 (rowC R).toArray (by rfl) (by rfl) (prow_there w2) prow_size (prow_one R) ?_; rw [prow_set]; dsimp only [rowC]) | (go_at_call 21; refine (pfits_any R op rd rs1 rs2 imm _ hok hv hv').mono ?_; rintro e w3 ⟨rfl, hn3⟩; have HN3 := Lib.hid hn3; clear hn3))
    go_ret
    exact ⟨ret_bool HV.out.symm, (HN.out.alloc _).trans HN3.out⟩

end Go.Proofs.Ytppnmaklggkogaa

/- A block that is known whole; a string's iterator. -/
namespace Go.Proofs.Ytppnmaklggkogaa
open Go.RowKit
set_option linter.unusedVariables false
set_option linter.unusedSimpArgs false

/-- What block g holds. -/
def Has (w : World) (g : Nat) (o : Obj) : Prop := w.heap[g]? = some o

theorem Has.lt {w : World} {g : Nat} {o : Obj} (h : Has w g o) : g < w.heap.size := (Array.getElem?_eq_some_iff.1 h).1

theorem Has.new (w : World) (o : Obj) : Has (w.alloc o) w.heap.size o := heap_alloc_new w o

theorem Has.at_ (w : World) (o : Obj) {g : Nat} (h : g = w.heap.size) : Has (w.alloc o) g o := h ▸ Has.new w o

theorem Has.nx {w w' : World} {g : Nat} {o : Obj} (h : Has w g o) (hn : Nx w w') : Has w' g o := (Below.block hn g h.lt).trans h

theorem Has.alloc {w : World} {g : Nat} {o : Obj} (h : Has w g o) (o' : Obj) : Has (w.alloc o') g o := h.nx ((Nx.refl w).alloc _)

theorem Has.far {w : World} {g : Nat} {o : Obj} (h : Has w g o) {p : Addr} (hp : g ≠ p.block) (u : Value) : Has (w.setCell p u) g o := (Below.heap_setCell w p u g hp).trans h

theorem Has.put {w : World} {g : Nat} {T : TypeId} {cs : Array Value} {fz : Nat × Nat} (h : Has w g (.cells cs T fz)) (i : Nat) (u : Value) : Has (w.setCell ⟨g, i, none⟩ u) g (.cells (cs.setIfInBounds i u) T fz) := by
  unfold Has at h ⊢
  simp [World.setCell, Array.getElem?_modify, h]

theorem Has.cell {w : World} {g : Nat} {T : TypeId} {cs : Array Value} {fz : Nat × Nat} (h : Has w g (.cells cs T fz)) (i : Nat) (v : Value) (hv : cs[i]? = some v) : w.cell? ⟨g, i, none⟩ = some v := (cell_of_row w g i cs T fz h).trans hv

theorem Has.free {w : World} {g : Nat} {T : TypeId} {cs : Array Value} (h : Has w g (.cells cs T (0, 0))) (i : Nat) : w.frozen? ⟨g, i, none⟩ = false := by
  unfold Has at h
  simp [World.frozen?, h]

theorem Has.moved {w : World} {g k : Nat} {o : Obj} (h : Has w g o) (s : ByteArray) (p : Nat) (hk : g ≠ k) : Has (w.iterAt k s p) g o := (Lib.iterAt_other w k g s p hk).trans h

theorem nx_iterAt {a w : World} (h : Nx a w) {k : Nat} (hk : a.heap.size ≤ k) (s : ByteArray) (p : Nat) : Nx a (w.iterAt k s p) := Lib.below_iterAt h hk s p

/-- The iterator's next byte, in a world that has a name. -/
theorem iter_next (P : Program) (w : World) (g : Nat) (l : List UInt8) (k : Nat) (c : UInt8) (h : Has w g (.stringIter (⟨l.toArray⟩ : ByteArray) k)) (hc : l[k]? = some c) (ha : c.toNat < 128) :
    ∃ w2, (∀ ty, (Instr.next (.pointer (some ⟨g, 0, none⟩)) true ty).run P w = .ok (.tuple #[.bool true, .int .i64 k, .int .i32 c.toNat]) w2) ∧ Has w2 g (.stringIter (⟨l.toArray⟩ : ByteArray) (k + 1)) ∧
      (∀ g' o, g' ≠ g → Has w g' o → Has w2 g' o) ∧ (∀ a, Nx a w → a.heap.size ≤ g → Nx a w2) ∧ w2.heap.size = w.heap.size := by
  obtain ⟨hk, e⟩ := List.getElem?_eq_some_iff.1 hc
  have hk' : k < (⟨l.toArray⟩ : ByteArray).size := hk
  have e2 : (⟨l.toArray⟩ : ByteArray)[k] = c := e
  refine ⟨w.iterAt g ⟨l.toArray⟩ (k + 1), fun ty => ?_, Lib.iterAt_heap w g _ k _ h, fun g' o hg ho => ho.moved _ _ hg, fun a hn ha => nx_iterAt hn ha _ _, Lib.iterAt_size _ _ _ _⟩
  rw [Lib.run_next_ascii_at w g _ k ty h hk' (by rw [e2]; exact ha), e2]

theorem iter_end (P : Program) (w : World) (g : Nat) (l : List UInt8) (k : Nat) (h : Has w g (.stringIter (⟨l.toArray⟩ : ByteArray) k)) (hk : l.length ≤ k) :
    ∀ ty, (Instr.next (.pointer (some ⟨g, 0, none⟩)) true ty).run P w = .ok (.tuple #[.bool false]) w := fun ty =>
  Lib.run_next_end_at w g _ k ty h (by show ¬ k < l.toArray.size; simp; omega)

theorem Has.pos {w : World} {g : Nat} {s : ByteArray} {k : Nat} (h : Has w g (.stringIter s k)) : w.iterPos g = k := by
  unfold Has at h
  unfold World.iterPos
  rw [h]

end Go.Proofs.Ytppnmaklggkogaa

