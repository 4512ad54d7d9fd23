/- Contract of typecaseref23.operand. -/
import Derived.Test.YtdgmdkkockbkjaaDoorShwf
namespace Go.Proofs.YtdgmdkkockbkjaaDoor
open Go.RowKit
set_option linter.unusedVariables false
set_option linter.unusedSimpArgs false

set_option maxHeartbeats 2000000 in
theorem roperand_any (c : UInt8) (hc : letC c) (op rd rs1 rs2 imm : Int) (w : World) (h0 : -2147483648 ≤ imm) (h1 : imm ≤ 2147483647) :
    Calls Tryd.prog 21 #[.int .u8 c.toNat, .agg #[.int .i64 op, .int .i64 rd, .int .i64 rs1, .int .i64 rs2, .int .i32 imm]] w fun e w' => e = .returned (.string (B (opnd c ⟨op, rd, rs1, rs2, imm⟩))) ∧ Nx w w' := by
  have HI := Lib.hid (And.intro h0 h1)
  have g1 := itoa_len imm (by omega) (by omega)
  have g2 := (regNP_opC rs1).2
  have g3 := itoa_len (imm % 4294967296 / 4096) (by omega) (by omega)
  have HA := Lib.hid ((Nx.refl w).alloc (.cells #[.int .i64 op, .int .i64 rd, .int .i64 rs1, .int .i64 rs2, .int .i32 imm] 23))
  rcases hc with rfl | rfl | rfl | rfl | rfl | rfl | rfl | rfl
  all_goals
    go_enter Tryd.func21, Tryd.ntmps21
  · go_wp2_with fail
    refine (rregName_any rd _).mono ?_
    rintro e w3 ⟨rfl, hn3⟩
    have H3 := Lib.hid (HA.out.trans hn3)
    clear hn3
    go_wp2
    go_ret
    refine ⟨?_, H3.out⟩
    rw [opnd_d]
    rfl
  · go_wp2_with fail
    refine (rregName_any rd _).mono ?_
    rintro e w3 ⟨rfl, hn3⟩
    have H3 := Lib.hid (HA.out.trans hn3)
    clear hn3
    go_wp2
    go_ret
    refine ⟨?_, H3.out⟩
    rw [opnd_x]
    rfl
  · go_wp2_with fail
    refine (rregName_any rs1 _).mono ?_
    rintro e w3 ⟨rfl, hn3⟩
    have H3 := Lib.hid (HA.out.trans hn3)
    clear hn3
    go_wp2
    go_ret
    refine ⟨?_, H3.out⟩
    rw [opnd_s]
    rfl
  · go_wp2_with fail
    refine (rregName_any rs2 _).mono ?_
    rintro e w3 ⟨rfl, hn3⟩
    have H3 := Lib.hid (HA.out.trans hn3)
    clear hn3
    go_wp2
    go_ret
    refine ⟨?_, H3.out⟩
    rw [opnd_t]
    rfl
  · go_wp2_with fail
    refine (digits23_any (imm % 4294967296 / 4096) (by omega) (by omega) _).mono ?_
    rintro e w3 ⟨rfl, rfl⟩
    go_wp2
    go_ret
    refine ⟨?_, HA.out⟩
    rw [opnd_u]
    rfl
  · have a1 := app_B (Lib.itoa imm) [40]
    have a2 := app_B (Lib.itoa imm ++ [40]) (regNP rs1)
    have a3 := app_B (Lib.itoa imm ++ [40] ++ regNP rs1) [41]
    have s1 : ¬ 9223372036854775807 < (Lib.itoa imm).length + 1 := by omega
    have s2 : ¬ 9223372036854775807 < (Lib.itoa imm ++ [40]).length + (regNP rs1).length := by simp; omega
    have s3 : ¬ 9223372036854775807 < (Lib.itoa imm ++ [40] ++ regNP rs1).length + 1 := by simp; omega
    have HV := Lib.hid (show Lib.itoa imm ++ [40] ++ regNP rs1 ++ [41] = opnd 109 ⟨op, rd, rs1, rs2, imm⟩ by rw [opnd_m]; simp)
    have CR := Lib.hid (fun w => rregName_any rs1 w)
    have CD := Lib.hid (fun w => digits23_any imm (by have := HI.out.1; omega) (by have := HI.out.2; omega) w)
    generalize Lib.itoa imm ++ [40] ++ regNP rs1 = x2 at *
    generalize Lib.itoa imm ++ [40] = x1 at *
    generalize regNP rs1 = x0 at *
    clear g1 g2 g3
    go_wp2_with fail
    (refine wp_region_nx 8 (by kernel_rfl) (by kernel_rfl) ?_; simp only [List.take_succ_cons, List.take_zero, List.drop_succ_cons, List.drop_zero]; (repeat (refine wpQuiet_step (fun K hK => ?_); go_simp; first | (refine hK _ ?_; clear hK K) | (apply Exists.intro; refine ⟨fun w' hw' => ?_, hK _ ?_⟩; (first | rfl | (obtain ⟨hc, hf⟩ := nx_cells hw'; go_simp; rfl) | (go_at_call 38; exact (CD.out _).mono fun _ _ h => ⟨h.1, hw'.trans (Nx.of_eq h.2)⟩) | (go_at_call 37; exact (CR.out _).mono fun _ _ h => ⟨h.1, hw'.trans h.2⟩)); clear hK K))); refine wpQuiet_nil ?_; intro w3 hn3)
    have H3 := Lib.hid (HA.out.trans hn3)
    clear hn3
    go_wp2
    go_ret
    refine ⟨?_, H3.out⟩
    rw [← HV.out]
    rfl
  · by_cases hs : 0 ≤ imm
    · have d0 : decide (imm < 0) = false := decide_eq_false (by omega)
      have a1 := app_B [46, 43] (Lib.itoa imm)
      have s1 : ¬ 9223372036854775807 < 2 + (Lib.itoa imm).length := by omega
      have HV := Lib.hid (show [46, 43] ++ Lib.itoa imm = opnd 106 ⟨op, rd, rs1, rs2, imm⟩ by rw [opnd_j, if_pos hs]; rfl)
      clear g1 g2 g3 hs
      go_wp2_with fail
      refine (digits23_any imm (by have := HI.out.1; omega) (by have := HI.out.2; omega) _).mono ?_
      rintro e w3 ⟨rfl, rfl⟩
      go_wp2
      go_ret
      refine ⟨?_, HA.out⟩
      rw [← HV.out]
      rfl
    · have d0 : decide (imm < 0) = true := decide_eq_true (by omega)
      have a2 := app_B [46] (Lib.itoa imm)
      have s2 : ¬ 9223372036854775807 < 1 + (Lib.itoa imm).length := by omega
      have HV := Lib.hid (show [46] ++ Lib.itoa imm = opnd 106 ⟨op, rd, rs1, rs2, imm⟩ by rw [opnd_j, if_neg hs])
      clear g1 g2 g3 hs
      go_wp2_with fail
      refine (digits23_any imm (by have := HI.out.1; omega) (by have := HI.out.2; omega) _).mono ?_
      rintro e w3 ⟨rfl, rfl⟩
      go_wp2
      go_ret
      refine ⟨?_, HA.out⟩
      rw [← HV.out]
      rfl
  · clear g1 g2 g3
    go_wp2_with fail
    refine (digits23_any imm (by have := HI.out.1; omega) (by have := HI.out.2; omega) _).mono ?_
    rintro e w3 ⟨rfl, rfl⟩
    go_wp2
    go_ret
    refine ⟨?_, HA.out⟩
    rw [opnd_i]
    rfl

end Go.Proofs.YtdgmdkkockbkjaaDoor
