/- Contracts of package typecaseref05: Expand. -/
import Derived.Test.YtcdjabfhmhibjaaRefed
import Derived.Test.YtcdjabfhmhibjaaRefee
import Derived.Test.YtcdjabfhmhibjaaMaye
import Derived.Deep.RegionHeld3
namespace Go.Proofs.Ytcdjabfhmhibjaa
open Go.RowKit
set_option linter.unusedVariables false
set_option linter.unusedSimpArgs false

set_option maxHeartbeats 1000000 in
theorem rexp_q0 (x : Int) (w : World) (hx : 0 ≤ x) (hx' : x < 65536) (hq : fld x 0 2 = 0) :
    Calls Try.prog 7 #[.int .u16 x] w fun e w' => e = .returned (.tuple #[insV (expI x), .bool (decide (0 < (expI x).op))]) ∧ Nx w w' := by
  have hm : x % 65536 = x := by omega
  have h4 : x % 4 = 0 := by rw [← fld_q]; exact hq
  have hm2 : x % 4294967296 = x := by omega
  have eI : expI x = fstI x (fld x 13 3) (8 + fld x 7 3) (8 + fld x 2 3) := by unfold expI; simp [hq]
  have hc := fun w => quarter0_any x w hx hx'
  rw [← eI] at hc
  clear eI hq
  generalize expI x = I at hc
  go_enter Try.func7, Try.ntmps7
  go_wp2_with fail
  refine (hc _).mono ?_
  rintro e w2 ⟨rfl, hn2⟩
  obtain ⟨c0, c1, c2, c3, c4, z0, z1, z2, z3, z4, hz⟩ := five_res hn2
  obtain ⟨d0, d1, d2, d3, d4, y0, y1, y2, y3, y4, hy⟩ := five_cells (((Nx.refl _).alloc _).trans hn2)
  have HN := Lib.hid ((((Nx.refl w).alloc _).alloc _).trans hn2)
  clear hn2
  unfold insV
  go_wp2
  go_region
  all_goals go_wp2
  all_goals
    refine bodyPost_ret (v := .tuple #[.agg #[.int .i64 I.op, .int .i64 I.rd, .int .i64 I.rs1, .int .i64 I.rs2, .int .i32 I.imm], .bool (decide (0 < I.op))]) (by simp [results, Try.results7, go_sem, c0, c1, c2, c3, c4, d0, d1, d2, d3, d4, hz, hy]) rfl ⟨rfl, ?_⟩
    repeat (with_reducible first | exact HN.out | refine Nx.drew ?_ | refine Nx.alloc ?_ _ | refine Nx.setCell ?_ (Nat.le_refl _) _ | refine Nx.setCell ?_ (Nat.le_succ _) _)

set_option maxHeartbeats 1000000 in
theorem rexp_q1 (x : Int) (w : World) (hx : 0 ≤ x) (hx' : x < 65536) (hq : fld x 0 2 = 1) :
    Calls Try.prog 7 #[.int .u16 x] w fun e w' => e = .returned (.tuple #[insV (expI x), .bool (decide (0 < (expI x).op))]) ∧ Nx w w' := by
  have hm : x % 65536 = x := by omega
  have h4 : x % 4 = 1 := by rw [← fld_q]; exact hq
  have hm2 : x % 4294967296 = x := by omega
  have eI : expI x = sndI x (fld x 13 3) (fld x 7 5) (8 + fld x 7 3) (8 + fld x 2 3) (fld x 12 1) (n6P x) (jP x) (fld x 2 5) (fld x 10 2) (fld x 5 2) := by unfold expI; simp [hq]
  have hc := fun w => quarter1_any x w hx hx'
  rw [← eI] at hc
  clear eI hq
  generalize expI x = I at hc
  go_enter Try.func7, Try.ntmps7
  go_wp2_with fail
  refine (hc _).mono ?_
  rintro e w2 ⟨rfl, hn2⟩
  obtain ⟨c0, c1, c2, c3, c4, z0, z1, z2, z3, z4, hz⟩ := five_res hn2
  obtain ⟨d0, d1, d2, d3, d4, y0, y1, y2, y3, y4, hy⟩ := five_cells (((Nx.refl _).alloc _).trans hn2)
  have HN := Lib.hid ((((Nx.refl w).alloc _).alloc _).trans hn2)
  clear hn2
  unfold insV
  go_wp2
  go_region
  all_goals go_wp2
  all_goals
    refine bodyPost_ret (v := .tuple #[.agg #[.int .i64 I.op, .int .i64 I.rd, .int .i64 I.rs1, .int .i64 I.rs2, .int .i32 I.imm], .bool (decide (0 < I.op))]) (by simp [results, Try.results7, go_sem, c0, c1, c2, c3, c4, d0, d1, d2, d3, d4, hz, hy]) rfl ⟨rfl, ?_⟩
    repeat (with_reducible first | exact HN.out | refine Nx.drew ?_ | refine Nx.alloc ?_ _ | refine Nx.setCell ?_ (Nat.le_refl _) _ | refine Nx.setCell ?_ (Nat.le_succ _) _)

set_option maxHeartbeats 1000000 in
theorem rexp_q2 (x : Int) (w : World) (hx : 0 ≤ x) (hx' : x < 65536) (hq : fld x 0 2 = 2) :
    Calls Try.prog 7 #[.int .u16 x] w fun e w' => e = .returned (.tuple #[insV (expI x), .bool (decide (0 < (expI x).op))]) ∧ Nx w w' := by
  have hm : x % 65536 = x := by omega
  have h4 : x % 4 = 2 := by rw [← fld_q]; exact hq
  have hm2 : x % 4294967296 = x := by omega
  have eI : expI x = thdI x (fld x 13 3) (fld x 7 5) (fld x 2 5) (fld x 12 1) (fld x 2 5) := by unfold expI; simp [hq]
  have hc := fun w => quarter2_any x w hx hx'
  rw [← eI] at hc
  clear eI hq
  generalize expI x = I at hc
  go_enter Try.func7, Try.ntmps7
  go_wp2_with fail
  refine (hc _).mono ?_
  rintro e w2 ⟨rfl, hn2⟩
  obtain ⟨c0, c1, c2, c3, c4, z0, z1, z2, z3, z4, hz⟩ := five_res hn2
  obtain ⟨d0, d1, d2, d3, d4, y0, y1, y2, y3, y4, hy⟩ := five_cells (((Nx.refl _).alloc _).trans hn2)
  have HN := Lib.hid ((((Nx.refl w).alloc _).alloc _).trans hn2)
  clear hn2
  unfold insV
  go_wp2
  go_region
  all_goals go_wp2
  all_goals
    refine bodyPost_ret (v := .tuple #[.agg #[.int .i64 I.op, .int .i64 I.rd, .int .i64 I.rs1, .int .i64 I.rs2, .int .i32 I.imm], .bool (decide (0 < I.op))]) (by simp [results, Try.results7, go_sem, c0, c1, c2, c3, c4, d0, d1, d2, d3, d4, hz, hy]) rfl ⟨rfl, ?_⟩
    repeat (with_reducible first | exact HN.out | refine Nx.drew ?_ | refine Nx.alloc ?_ _ | refine Nx.setCell ?_ (Nat.le_refl _) _ | refine Nx.setCell ?_ (Nat.le_succ _) _)

set_option maxHeartbeats 1000000 in
theorem rexp_q3 (x : Int) (w : World) (hx : 0 ≤ x) (hx' : x < 65536) (hq : fld x 0 2 = 3) :
    Calls Try.prog 7 #[.int .u16 x] w fun e w' => e = .returned (.tuple #[insV (expI x), .bool (decide (0 < (expI x).op))]) ∧ Nx w w' := by
  have hm : x % 65536 = x := by omega
  have h4 : x % 4 = 3 := by rw [← fld_q]; exact hq
  have eI : expI x = none5 := by unfold expI; simp [hq]
  rw [eI]
  go_enter Try.func7, Try.ntmps7
  go_wp2
  go_region
  all_goals go_wp2
  all_goals
    refine bodyPost_ret (v := .tuple #[.agg #[.int .i64 0, .int .i64 0, .int .i64 0, .int .i64 0, .int .i32 0], .bool false]) (by simp [results, Try.results7, go_sem]) rfl ⟨rfl, ?_⟩
    repeat (with_reducible first | exact Nx.refl _ | refine Nx.drew ?_ | refine Nx.alloc ?_ _ | refine Nx.setCell ?_ (Nat.le_refl _) _ | refine Nx.setCell ?_ (Nat.le_succ _) _)

theorem rexp_any (x : Int) (w : World) (hx : 0 ≤ x) (hx' : x < 65536) :
    Calls Try.prog 7 #[.int .u16 x] w fun e w' => e = .returned (.tuple #[insV (expI x), .bool (decide (0 < (expI x).op))]) ∧ Nx w w' := by
  have g0 := fld_nonneg x 0 2
  have g1 : fld x 0 2 < 4 := fld_lt x 0 2
  have hq : fld x 0 2 = 0 ∨ fld x 0 2 = 1 ∨ fld x 0 2 = 2 ∨ fld x 0 2 = 3 := by omega
  rcases hq with hq | hq | hq | hq
  · exact rexp_q0 x w hx hx' hq
  · exact rexp_q1 x w hx hx' hq
  · exact rexp_q2 x w hx hx' hq
  · exact rexp_q3 x w hx hx' hq

end Go.Proofs.Ytcdjabfhmhibjaa
