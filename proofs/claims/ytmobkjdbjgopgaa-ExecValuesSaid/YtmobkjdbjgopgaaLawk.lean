/- The walks of the laws of package typecaselaw06: awake, ExecTurns, ExecPairs. -/
import Derived.Test.YtmobkjdbjgopgaaExecw
import Derived.OpenShut
namespace Go.Proofs.Ytmobkjdbjgopgaa
open Go.RowKit
set_option linter.unusedVariables false
set_option linter.unusedSimpArgs false

set_option maxHeartbeats 1000000 in
theorem awakek_any (w : World) : Calls Try.prog 8 #[] w fun e w' => e = .returned (.bool true) ∧ Nx w w' := by
  have HA : Hid (∀ w, Calls Try.prog 9 #[.agg #[.int .i64 35, .int .i64 1, .int .i64 2, .int .i64 3, .int .i32 0], .int .u32 2147483648, .int .u32 33, .int .u32 0, .int .i64 4] w fun e w' => e = .returned (.tuple #[.int .u32 3221225472, .bool true]) ∧ Nx w w') := by
    intro w
    have h := value_any 35 1 2 3 0 2147483648 33 0 4 w (by decide) (by decide) (by decide) (by decide) (by decide) (by decide) (by decide) (by decide)
    rw [show valX (mayB 35 1 2 3 0) 35 2147483648 33 0 0 4 = 3221225472 from by decide +kernel, show (mayB 35 1 2 3 0 && valO 35) = true from by decide +kernel] at h
    exact h
  have HB : Hid (∀ w, Calls Try.prog 11 #[.agg #[.int .i64 3, .int .i64 0, .int .i64 0, .int .i64 0, .int .i32 (-8)], .int .u32 0, .int .u32 0, .int .u32 100, .int .i64 4] w fun e w' => e = .returned (.int .u32 92) ∧ Nx w w') := by
    intro w
    have h := next_any 3 0 0 0 (-8) 0 0 100 4 w (by decide) (by decide) (by decide) (by decide) (by decide) (by decide) (by decide) (by decide)
    rw [show nextX (mayB 3 0 0 0 (-8)) 3 0 0 100 (-8) 4 = 92 from by decide +kernel] at h
    exact h
  have HC : Hid (∀ w, Calls Try.prog 11 #[.agg #[.int .i64 39, .int .i64 0, .int .i64 0, .int .i64 0, .int .i32 0], .int .u32 0, .int .u32 0, .int .u32 100, .int .i64 4] w fun e w' => e = .returned (.int .u32 104) ∧ Nx w w') := by
    intro w
    have h := next_any 39 0 0 0 0 0 0 100 4 w (by decide) (by decide) (by decide) (by decide) (by decide) (by decide) (by decide) (by decide)
    rw [show nextX (mayB 39 0 0 0 0) 39 0 0 100 0 4 = 104 from by decide +kernel] at h
    exact h
  go_enter Try.func8, Try.ntmps8
  go_wp2_with fail
  refine (HA.out _).mono ?_
  rintro e w1 ⟨rfl, hn1⟩
  go_wp2_with fail
  refine (HB.out _).mono ?_
  rintro e w2 ⟨rfl, hn2⟩
  go_wp2_with fail
  refine (HC.out _).mono ?_
  rintro e w3 ⟨rfl, hn3⟩
  go_wp2
  go_ret
  exact ⟨rfl, hn1.trans (hn2.trans hn3)⟩

theorem pair_cells {w w2 : World} {T : TypeId} {o : Obj} {a b : Value} (h : Nx ((w.alloc o).alloc (.cells #[a, b] T)) w2) : w2.cell? ⟨w.heap.size + 1, 0, none⟩ = some a ∧ w2.cell? ⟨w.heap.size + 1, 1, none⟩ = some b ∧ w.heap.size + 1 < w2.heap.size := by
  have hs := h.size
  have e1 : (w.alloc o).heap.size = w.heap.size + 1 := by simp
  have e2 : ((w.alloc o).alloc (.cells #[a, b] T)).heap.size = w.heap.size + 1 + 1 := by simp
  refine ⟨?_, ?_, by omega⟩
  · refine h.cell ?_
    rw [← e1]; simp
  · refine h.cell ?_
    rw [← e1]; simp

theorem may_br (op s t : Int) (ho : op = 5 ∨ op = 6 ∨ op = 7 ∨ op = 8 ∨ op = 9 ∨ op = 10) (s1 : 0 ≤ s) (s2 : s < 32) (t1 : 0 ≤ t) (t2 : t < 32) : mayB op 0 s t 64 = true := by
  have hs : regB s true = true := by simp [regB]; omega
  have ht : regB t true = true := by simp [regB]; omega
  have e : ∀ x y : Bool, x = true → y = true → (true && (true && (x && (y && true)))) = true := by intro x y hx hy; rw [hx, hy]; rfl
  rcases ho with rfl | rfl | rfl | rfl | rfl | rfl <;> exact e _ _ hs ht

theorem turn_next (op s t a b pc : Int) (w : World) (ho : op = 5 ∨ op = 6 ∨ op = 7 ∨ op = 8 ∨ op = 9 ∨ op = 10) (s1 : 0 ≤ s) (s2 : s < 32) (t1 : 0 ≤ t) (t2 : t < 32) (a1 : 0 ≤ a) (a2 : a < 4294967296) (b1 : 0 ≤ b) (b2 : b < 4294967296) (p1 : 0 ≤ pc) (p2 : pc < 4294967296) :
    Calls Try.prog 11 #[.agg #[.int .i64 op, .int .i64 0, .int .i64 s, .int .i64 t, .int .i32 64], .int .u32 a, .int .u32 b, .int .u32 pc, .int .i64 4] w fun e w' => e = .returned (.int .u32 (if goB op a b = true then (pc + 64) % 4294967296 else (pc + 4) % 4294967296)) ∧ Nx w w' := by
  have h := next_any op 0 s t 64 a b pc 4 w (by decide) (by decide) a1 a2 b1 b2 p1 p2
  rw [may_br op s t ho s1 s2 t1 t2] at h
  have e : nextX true op a b pc 64 4 = if goB op a b = true then (pc + 64) % 4294967296 else (pc + 4) % 4294967296 := by
    unfold nextX nextV
    rw [if_pos rfl, if_neg (by omega)]
    rfl
  rw [e] at h
  exact h

theorem goB_turn (a b : Int) : goB 6 a b = !(goB 5 a b) ∧ goB 8 a b = !(goB 7 a b) ∧ goB 10 a b = !(goB 9 a b) := by
  refine ⟨rfl, ?_, ?_⟩
  · show decide (wrap32 b ≤ wrap32 a) = !(decide (wrap32 a < wrap32 b))
    rw [Bool.eq_iff_iff]; simp
  · show decide (b ≤ a) = !(decide (a < b))
    rw [Bool.eq_iff_iff]; simp

set_option maxHeartbeats 2000000 in
theorem ExecTurns_walk (which s t a b pc : Int) (w0 : (Lit.int .u8 which).wf = true) (w1 : (Lit.int .u8 s).wf = true) (w2 : (Lit.int .u8 t).wf = true) (w3 : (Lit.int .u32 a).wf = true) (w4 : (Lit.int .u32 b).wf = true) (w5 : (Lit.int .u32 pc).wf = true) (w : World) :
    Calls Try.prog 4 #[.int .u8 which, .int .u8 s, .int .u8 t, .int .u32 a, .int .u32 b, .int .u32 pc] w fun e w' => e = .returned (.bool true) ∧ Nx w w' := by
  obtain ⟨x1, x2⟩ := bounds_u8 w0
  obtain ⟨s1, s2⟩ := bounds_u8 w1
  obtain ⟨t1, t2⟩ := bounds_u8 w2
  obtain ⟨a1, a2⟩ := bounds_u32 w3
  obtain ⟨b1, b2⟩ := bounds_u32 w4
  obtain ⟨p1, p2⟩ := bounds_u32 w5
  clear w0 w1 w2 w3 w4 w5
  have hT := Lib.hid (fun (op : Int) w ho => turn_next op (s % 32) (t % 32) a b pc w ho (by omega) (by omega) (by omega) (by omega) a1 (by omega) b1 (by omega) p1 (by omega))
  obtain ⟨g1, g2, g3⟩ := goB_turn a b
  have hAB : ((pc + 4) % 4294967296 == (pc + 64) % 4294967296) = false := beq_eq_false_iff_ne.2 (by omega)
  have hAA : ((pc + 64) % 4294967296 == (pc + 64) % 4294967296) = true := by simp
  have hBB : ((pc + 4) % 4294967296 == (pc + 4) % 4294967296) = true := by simp
  have G1 := Lib.hid g1
  have G2 := Lib.hid g2
  have G3 := Lib.hid g3
  clear g1 g2 g3
  rcases (by omega : which % 3 = 0 ∨ which % 3 = 1 ∨ which % 3 = 2) with hw | hw | hw
  · have HX := Lib.hid (fun w => hT.out 5 w (by omega))
    have HY := Lib.hid (fun w => hT.out 6 w (by omega))
    rw [G1.out] at HY
    clear hT G1 G2 G3
    cases hg : goB 5 a b
    all_goals
      rw [hg] at HX HY
      simp only [reduceCtorEq, if_true, if_false, Bool.not_true, Bool.not_false] at HX HY
      clear hg
      go_enter Try.func4, Try.ntmps4
      go_wp2_with fail
      refine (awakek_any _).mono ?_
      rintro e wA ⟨rfl, hnA⟩
      go_wp2_with fail
      refine (HX.out _).mono ?_
      rintro e wB ⟨rfl, hnB⟩
      obtain ⟨c0, c1, hz⟩ := pair_cells hnB
      go_wp2_with fail
      refine (HY.out _).mono ?_
      rintro e wC ⟨rfl, hnC⟩
      go_wp2
      go_ret
      refine ⟨rfl, ?_⟩
      exact (((hnA.alloc _).alloc _).trans hnB).trans hnC
  · have HX := Lib.hid (fun w => hT.out 7 w (by omega))
    have HY := Lib.hid (fun w => hT.out 8 w (by omega))
    rw [G2.out] at HY
    clear hT G1 G2 G3
    cases hg : goB 7 a b
    all_goals
      rw [hg] at HX HY
      simp only [reduceCtorEq, if_true, if_false, Bool.not_true, Bool.not_false] at HX HY
      clear hg
      go_enter Try.func4, Try.ntmps4
      go_wp2_with fail
      refine (awakek_any _).mono ?_
      rintro e wA ⟨rfl, hnA⟩
      go_wp2_with fail
      refine (HX.out _).mono ?_
      rintro e wB ⟨rfl, hnB⟩
      obtain ⟨c0, c1, hz⟩ := pair_cells hnB
      go_wp2_with fail
      refine (HY.out _).mono ?_
      rintro e wC ⟨rfl, hnC⟩
      go_wp2
      go_ret
      refine ⟨rfl, ?_⟩
      exact (((hnA.alloc _).alloc _).trans hnB).trans hnC
  · have HX := Lib.hid (fun w => hT.out 9 w (by omega))
    have HY := Lib.hid (fun w => hT.out 10 w (by omega))
    rw [G3.out] at HY
    clear hT G1 G2 G3
    cases hg : goB 9 a b
    all_goals
      rw [hg] at HX HY
      simp only [reduceCtorEq, if_true, if_false, Bool.not_true, Bool.not_false] at HX HY
      clear hg
      go_enter Try.func4, Try.ntmps4
      go_wp2_with fail
      refine (awakek_any _).mono ?_
      rintro e wA ⟨rfl, hnA⟩
      go_wp2_with fail
      refine (HX.out _).mono ?_
      rintro e wB ⟨rfl, hnB⟩
      obtain ⟨c0, c1, hz⟩ := pair_cells hnB
      go_wp2_with fail
      refine (HY.out _).mono ?_
      rintro e wC ⟨rfl, hnC⟩
      go_wp2
      go_ret
      refine ⟨rfl, ?_⟩
      exact (((hnA.alloc _).alloc _).trans hnB).trans hnC

end Go.Proofs.Ytmobkjdbjgopgaa
