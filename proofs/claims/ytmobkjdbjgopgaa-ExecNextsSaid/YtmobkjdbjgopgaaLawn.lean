/- The walk of the law ExecNexts. -/
import Derived.Test.YtmobkjdbjgopgaaReffw
import Derived.Test.YtmobkjdbjgopgaaLawk
import Derived.Test.YtmobkjdbjgopgaaOpen
namespace Go.Proofs.Ytmobkjdbjgopgaa
open Go.RowKit
set_option linter.unusedVariables false
set_option linter.unusedSimpArgs false

set_option maxHeartbeats 2000000 in
set_option maxRecDepth 100000 in
theorem ExecNexts_walk (i : In5) (a b pc size : Int) (hi : -2147483648 ≤ i.imm ∧ i.imm ≤ 2147483647) (w1 : (Lit.int .u32 a).wf = true) (w2 : (Lit.int .u32 b).wf = true) (w3 : (Lit.int .u32 pc).wf = true) (w4 : (Lit.int .i64 size).wf = true) (w : World) :
    Calls Try.prog 6 #[.agg #[.int .i64 i.op, .int .i64 i.rd, .int .i64 i.rs1, .int .i64 i.rs2, .int .i32 i.imm], .int .u32 a, .int .u32 b, .int .u32 pc, .int .i64 size] w fun e w' => e = .returned (.bool true) ∧ Nx w w' := by
  obtain ⟨op, rd, rs1, rs2, imm⟩ := i
  obtain ⟨hv, hv'⟩ := hi
  obtain ⟨a1, a2⟩ := bounds_u32 w1
  obtain ⟨b1, b2⟩ := bounds_u32 w2
  obtain ⟨p1, p2⟩ := bounds_u32 w3
  simp only at hv hv'
  clear w1 w2 w3 w4
  have N1 := Lib.hid (fun w => next_any op rd rs1 rs2 imm a b pc size w hv hv' a1 (by omega) b1 (by omega) p1 (by omega))
  have N2 := Lib.hid (fun w => rnext_any op rd rs1 rs2 imm a b pc size w hv hv' a1 (by omega) b1 (by omega) p1 (by omega))
  have A1 := Lib.hid (fun w => access_any op rd rs1 rs2 imm a w hv hv' a1 (by omega))
  have A2 := Lib.hid (fun w => raccess_any op rd rs1 rs2 imm a w hv hv' a1 (by omega))
  generalize (mayB op rd rs1 rs2 imm && accS op) = q2 at *
  generalize (mayB op rd rs1 rs2 imm && accG op) = q3 at *
  generalize nextX (mayB op rd rs1 rs2 imm) op a b pc imm size = Y at *
  generalize accX (mayB op rd rs1 rs2 imm) op a imm = Z at *
  generalize accXN (mayB op rd rs1 rs2 imm) op = U at *
  have h2 : (Y == Y) = true := by simp
  have h3 : (Z == Z) = true := by simp
  have h4 : (U == U) = true := by simp
  have h6 : (q2 == q2) = true := by simp
  have h7 : (q3 == q3) = true := by simp
  go_enter Try.func6, Try.ntmps6
  go_wp2_with fail
  refine (awakek_any _).mono ?_
  rintro e wA ⟨rfl, hnA⟩
  obtain ⟨c0, c1, c2, c3, c4, hz⟩ := five_in hnA
  go_wp2_with fail
  refine (A1.out _).mono ?_
  rintro e wB ⟨rfl, hnB⟩
  obtain ⟨c0, c1, c2, c3, c4, hz⟩ := five_in (hnA.trans hnB)
  go_wp2_with fail
  refine (A2.out _).mono ?_
  rintro e wC ⟨rfl, hnC⟩
  obtain ⟨c0, c1, c2, c3, c4, hz⟩ := five_in (hnA.trans (hnB.trans hnC))
  have HC := Lib.hid (((Nx.refl w).alloc _).trans (hnA.trans (hnB.trans hnC)))
  clear hnA hnB hnC
  go_wp2
  (refine wp_region_nx 33 (by kernel_rfl) (by kernel_rfl) ?_; simp only [List.take_succ_cons, List.take_zero, List.drop_succ_cons, List.drop_zero]; (repeat (refine wpQuiet_step (fun K hK => ?_); go_simp; first | (refine hK _ ?_; clear hK K) | (apply Exists.intro; refine ⟨fun w' hw' => ?_, hK _ ?_⟩; (first | (with_reducible rfl) | (go_at_call 11; with_reducible exact (N1.out _).mono fun _ _ h => ⟨h.1, hw'.trans h.2⟩) | (go_at_call 14; with_reducible exact (N2.out _).mono fun _ _ h => ⟨h.1, hw'.trans h.2⟩) | (obtain ⟨hc, hf⟩ := nx_cells hw'; go_simp; with_reducible rfl) | (obtain ⟨hc, hf⟩ := nx_cells hw'; go_simp; rfl)); clear hK K))); refine wpQuiet_nil ?_; intro wF hnF)
  go_wp2
  go_ret
  exact ⟨rfl, HC.out.trans hnF⟩

end Go.Proofs.Ytmobkjdbjgopgaa
