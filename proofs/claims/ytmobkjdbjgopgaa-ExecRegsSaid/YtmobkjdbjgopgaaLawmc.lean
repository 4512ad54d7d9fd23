/- ExecRegs: the walks, case by case. -/
import Derived.Test.YtmobkjdbjgopgaaLawm
namespace Go.Proofs.Ytmobkjdbjgopgaa
open Go.RowKit
set_option linter.unusedVariables false
set_option linter.unusedSimpArgs false

set_option maxHeartbeats 2000000 in
set_option maxRecDepth 100000 in
theorem regs_high_in (op rd rs1 rs2 imm a b pc r X Y Z U : Int) (q1 q2 q3 : Bool) (r1 : 0 ≤ r) (r2 : r ≤ 255) (c1 : 0 < rd) (c2 : 32 ≤ rd) (d1 : 0 < rs1) (d2 : rs1 < 32) (C1 : RegC op rd rs1 rs2 imm a b pc X Y Z U q1 q2 q3) (C2 : RegC op (rd) (1 + r / 2 % 31) rs2 imm a b pc X Y Z U q1 q2 q3) (w : World) :
    Calls Try.prog 7 #[.agg #[.int .i64 op, .int .i64 rd, .int .i64 rs1, .int .i64 rs2, .int .i32 imm], .int .u32 a, .int .u32 b, .int .u32 pc, .int .u8 r] w fun e w' => e = .returned (.bool true) ∧ Nx w w' := by
  have h1 : (X == X) = true := by simp
  have h2 : (Y == Y) = true := by simp
  have h3 : (Z == Z) = true := by simp
  have h4 : (U == U) = true := by simp
  have h5 : (q1 == q1) = true := by simp
  have h6 : (q2 == q2) = true := by simp
  have h7 : (q3 == q3) = true := by simp
  have krd1 : decide (0 < rd) = true := by simp; omega
  have krd2 : decide (rd < 32) = false := by simp; omega
  have krs11 : decide (0 < rs1) = true := by simp; omega
  have krs12 : decide (rs1 < 32) = true := by simp; omega
  go_enter Try.func7, Try.ntmps7
  go_wp2_with fail
  refine (awakek_any _).mono ?_
  rintro e wA ⟨rfl, hnA⟩
  obtain ⟨c0, c1', c2', c3, c4, hz⟩ := five_in hnA
  go_wp2_with fail
  refine (C1.val _).mono ?_
  rintro e wB ⟨rfl, hnB⟩
  obtain ⟨c0, c1', c2', c3, c4, hz⟩ := five_in (hnA.trans hnB)
  have HB := Lib.hid (((Nx.refl w).alloc _).trans (hnA.trans hnB))
  clear hnA hnB
  go_wp2_with fail
  refine (C2.val _).mono ?_
  rintro e wC ⟨rfl, hnC⟩
  obtain ⟨e0, e1, e2, e3, e4, hzC⟩ := five_in hnC
  have hnC' := ((Nx.refl wB).alloc _).trans hnC
  have c0C := hnC'.cell c0
  have c1C := hnC'.cell c1'
  have c2C := hnC'.cell c2'
  have c3C := hnC'.cell c3
  have c4C := hnC'.cell c4
  have hwC : w.heap.size < wC.heap.size := Nat.lt_of_lt_of_le hz hnC'.size
  have HC := Lib.hid (HB.out.trans hnC')
  clear hnC hnC' HB c0 c1' c2' c3 c4
  go_wp2_with fail
  refine (C1.acc _).mono ?_
  rintro e wD ⟨rfl, hnD⟩
  have e0D := hnD.cell e0
  have e1D := hnD.cell e1
  have e2D := hnD.cell e2
  have e3D := hnD.cell e3
  have e4D := hnD.cell e4
  have c0D := hnD.cell c0C
  have c1D := hnD.cell c1C
  have c2D := hnD.cell c2C
  have c3D := hnD.cell c3C
  have c4D := hnD.cell c4C
  have hwD : w.heap.size < wD.heap.size := Nat.lt_of_lt_of_le hwC hnD.size
  have hkD : wB.heap.size < wD.heap.size := Nat.lt_of_lt_of_le hzC hnD.size
  have HD := Lib.hid (HC.out.trans hnD)
  clear hnD HC e0 e1 e2 e3 e4 c0C c1C c2C c3C c4C hwC hzC
  go_wp2_with fail
  refine (C2.acc _).mono ?_
  rintro e wE ⟨rfl, hnE⟩
  have e0 := hnE.cell e0D
  have e1 := hnE.cell e1D
  have e2 := hnE.cell e2D
  have e3 := hnE.cell e3D
  have e4 := hnE.cell e4D
  have c0 := hnE.cell c0D
  have c1' := hnE.cell c1D
  have c2' := hnE.cell c2D
  have c3 := hnE.cell c3D
  have c4 := hnE.cell c4D
  have hwE : w.heap.size < wE.heap.size := Nat.lt_of_lt_of_le hwD hnE.size
  have hkE : wB.heap.size < wE.heap.size := Nat.lt_of_lt_of_le hkD hnE.size
  have HE := Lib.hid (HD.out.trans hnE)
  clear hnE HD e0D e1D e2D e3D e4D c0D c1D c2D c3D c4D hwD hkD
  go_wp2
  (refine wp_region_nx 41 (by kernel_rfl) (by kernel_rfl) ?_; simp only [List.take_succ_cons, List.take_zero, List.drop_succ_cons, List.drop_zero]; (repeat (refine wpQuiet_step (fun K hK => ?_); go_simp; first | (refine hK _ ?_; clear hK K) | (apply Exists.intro; refine ⟨fun w' hw' => ?_, hK _ ?_⟩; (first | (with_reducible rfl) | (go_at_call 11; with_reducible exact (C1.nxt _).mono fun _ _ h => ⟨h.1, hw'.trans h.2⟩) | (go_at_call 11; with_reducible exact (C2.nxt _).mono fun _ _ h => ⟨h.1, hw'.trans h.2⟩) | (obtain ⟨hc, hf⟩ := nx_cells hw'; go_simp; with_reducible rfl) | (obtain ⟨hc, hf⟩ := nx_cells hw'; go_simp; rfl)); clear hK K))); refine wpQuiet_nil ?_; intro wF hnF)
  go_wp2
  go_ret
  exact ⟨rfl, HE.out.trans hnF⟩

set_option maxHeartbeats 2000000 in
set_option maxRecDepth 100000 in
theorem regs_high_low (op rd rs1 rs2 imm a b pc r X Y Z U : Int) (q1 q2 q3 : Bool) (r1 : 0 ≤ r) (r2 : r ≤ 255) (c1 : 0 < rd) (c2 : 32 ≤ rd) (d1 : rs1 ≤ 0) (C1 : RegC op rd rs1 rs2 imm a b pc X Y Z U q1 q2 q3) (C2 : RegC op (rd) (rs1) rs2 imm a b pc X Y Z U q1 q2 q3) (w : World) :
    Calls Try.prog 7 #[.agg #[.int .i64 op, .int .i64 rd, .int .i64 rs1, .int .i64 rs2, .int .i32 imm], .int .u32 a, .int .u32 b, .int .u32 pc, .int .u8 r] w fun e w' => e = .returned (.bool true) ∧ Nx w w' := by
  have h1 : (X == X) = true := by simp
  have h2 : (Y == Y) = true := by simp
  have h3 : (Z == Z) = true := by simp
  have h4 : (U == U) = true := by simp
  have h5 : (q1 == q1) = true := by simp
  have h6 : (q2 == q2) = true := by simp
  have h7 : (q3 == q3) = true := by simp
  have krd1 : decide (0 < rd) = true := by simp; omega
  have krd2 : decide (rd < 32) = false := by simp; omega
  have krs11 : decide (0 < rs1) = false := by simp; omega
  go_enter Try.func7, Try.ntmps7
  go_wp2_with fail
  refine (awakek_any _).mono ?_
  rintro e wA ⟨rfl, hnA⟩
  obtain ⟨c0, c1', c2', c3, c4, hz⟩ := five_in hnA
  go_wp2_with fail
  refine (C1.val _).mono ?_
  rintro e wB ⟨rfl, hnB⟩
  obtain ⟨c0, c1', c2', c3, c4, hz⟩ := five_in (hnA.trans hnB)
  have HB := Lib.hid (((Nx.refl w).alloc _).trans (hnA.trans hnB))
  clear hnA hnB
  go_wp2_with fail
  refine (C2.val _).mono ?_
  rintro e wC ⟨rfl, hnC⟩
  obtain ⟨e0, e1, e2, e3, e4, hzC⟩ := five_in hnC
  have hnC' := ((Nx.refl wB).alloc _).trans hnC
  have c0C := hnC'.cell c0
  have c1C := hnC'.cell c1'
  have c2C := hnC'.cell c2'
  have c3C := hnC'.cell c3
  have c4C := hnC'.cell c4
  have hwC : w.heap.size < wC.heap.size := Nat.lt_of_lt_of_le hz hnC'.size
  have HC := Lib.hid (HB.out.trans hnC')
  clear hnC hnC' HB c0 c1' c2' c3 c4
  go_wp2_with fail
  refine (C1.acc _).mono ?_
  rintro e wD ⟨rfl, hnD⟩
  have e0D := hnD.cell e0
  have e1D := hnD.cell e1
  have e2D := hnD.cell e2
  have e3D := hnD.cell e3
  have e4D := hnD.cell e4
  have c0D := hnD.cell c0C
  have c1D := hnD.cell c1C
  have c2D := hnD.cell c2C
  have c3D := hnD.cell c3C
  have c4D := hnD.cell c4C
  have hwD : w.heap.size < wD.heap.size := Nat.lt_of_lt_of_le hwC hnD.size
  have hkD : wB.heap.size < wD.heap.size := Nat.lt_of_lt_of_le hzC hnD.size
  have HD := Lib.hid (HC.out.trans hnD)
  clear hnD HC e0 e1 e2 e3 e4 c0C c1C c2C c3C c4C hwC hzC
  go_wp2_with fail
  refine (C2.acc _).mono ?_
  rintro e wE ⟨rfl, hnE⟩
  have e0 := hnE.cell e0D
  have e1 := hnE.cell e1D
  have e2 := hnE.cell e2D
  have e3 := hnE.cell e3D
  have e4 := hnE.cell e4D
  have c0 := hnE.cell c0D
  have c1' := hnE.cell c1D
  have c2' := hnE.cell c2D
  have c3 := hnE.cell c3D
  have c4 := hnE.cell c4D
  have hwE : w.heap.size < wE.heap.size := Nat.lt_of_lt_of_le hwD hnE.size
  have hkE : wB.heap.size < wE.heap.size := Nat.lt_of_lt_of_le hkD hnE.size
  have HE := Lib.hid (HD.out.trans hnE)
  clear hnE HD e0D e1D e2D e3D e4D c0D c1D c2D c3D c4D hwD hkD
  go_wp2
  (refine wp_region_nx 41 (by kernel_rfl) (by kernel_rfl) ?_; simp only [List.take_succ_cons, List.take_zero, List.drop_succ_cons, List.drop_zero]; (repeat (refine wpQuiet_step (fun K hK => ?_); go_simp; first | (refine hK _ ?_; clear hK K) | (apply Exists.intro; refine ⟨fun w' hw' => ?_, hK _ ?_⟩; (first | (with_reducible rfl) | (go_at_call 11; with_reducible exact (C1.nxt _).mono fun _ _ h => ⟨h.1, hw'.trans h.2⟩) | (go_at_call 11; with_reducible exact (C2.nxt _).mono fun _ _ h => ⟨h.1, hw'.trans h.2⟩) | (obtain ⟨hc, hf⟩ := nx_cells hw'; go_simp; with_reducible rfl) | (obtain ⟨hc, hf⟩ := nx_cells hw'; go_simp; rfl)); clear hK K))); refine wpQuiet_nil ?_; intro wF hnF)
  go_wp2
  go_ret
  exact ⟨rfl, HE.out.trans hnF⟩

set_option maxHeartbeats 2000000 in
set_option maxRecDepth 100000 in
theorem regs_high_high (op rd rs1 rs2 imm a b pc r X Y Z U : Int) (q1 q2 q3 : Bool) (r1 : 0 ≤ r) (r2 : r ≤ 255) (c1 : 0 < rd) (c2 : 32 ≤ rd) (d1 : 0 < rs1) (d2 : 32 ≤ rs1) (C1 : RegC op rd rs1 rs2 imm a b pc X Y Z U q1 q2 q3) (C2 : RegC op (rd) (rs1) rs2 imm a b pc X Y Z U q1 q2 q3) (w : World) :
    Calls Try.prog 7 #[.agg #[.int .i64 op, .int .i64 rd, .int .i64 rs1, .int .i64 rs2, .int .i32 imm], .int .u32 a, .int .u32 b, .int .u32 pc, .int .u8 r] w fun e w' => e = .returned (.bool true) ∧ Nx w w' := by
  have h1 : (X == X) = true := by simp
  have h2 : (Y == Y) = true := by simp
  have h3 : (Z == Z) = true := by simp
  have h4 : (U == U) = true := by simp
  have h5 : (q1 == q1) = true := by simp
  have h6 : (q2 == q2) = true := by simp
  have h7 : (q3 == q3) = true := by simp
  have krd1 : decide (0 < rd) = true := by simp; omega
  have krd2 : decide (rd < 32) = false := by simp; omega
  have krs11 : decide (0 < rs1) = true := by simp; omega
  have krs12 : decide (rs1 < 32) = false := by simp; omega
  go_enter Try.func7, Try.ntmps7
  go_wp2_with fail
  refine (awakek_any _).mono ?_
  rintro e wA ⟨rfl, hnA⟩
  obtain ⟨c0, c1', c2', c3, c4, hz⟩ := five_in hnA
  go_wp2_with fail
  refine (C1.val _).mono ?_
  rintro e wB ⟨rfl, hnB⟩
  obtain ⟨c0, c1', c2', c3, c4, hz⟩ := five_in (hnA.trans hnB)
  have HB := Lib.hid (((Nx.refl w).alloc _).trans (hnA.trans hnB))
  clear hnA hnB
  go_wp2_with fail
  refine (C2.val _).mono ?_
  rintro e wC ⟨rfl, hnC⟩
  obtain ⟨e0, e1, e2, e3, e4, hzC⟩ := five_in hnC
  have hnC' := ((Nx.refl wB).alloc _).trans hnC
  have c0C := hnC'.cell c0
  have c1C := hnC'.cell c1'
  have c2C := hnC'.cell c2'
  have c3C := hnC'.cell c3
  have c4C := hnC'.cell c4
  have hwC : w.heap.size < wC.heap.size := Nat.lt_of_lt_of_le hz hnC'.size
  have HC := Lib.hid (HB.out.trans hnC')
  clear hnC hnC' HB c0 c1' c2' c3 c4
  go_wp2_with fail
  refine (C1.acc _).mono ?_
  rintro e wD ⟨rfl, hnD⟩
  have e0D := hnD.cell e0
  have e1D := hnD.cell e1
  have e2D := hnD.cell e2
  have e3D := hnD.cell e3
  have e4D := hnD.cell e4
  have c0D := hnD.cell c0C
  have c1D := hnD.cell c1C
  have c2D := hnD.cell c2C
  have c3D := hnD.cell c3C
  have c4D := hnD.cell c4C
  have hwD : w.heap.size < wD.heap.size := Nat.lt_of_lt_of_le hwC hnD.size
  have hkD : wB.heap.size < wD.heap.size := Nat.lt_of_lt_of_le hzC hnD.size
  have HD := Lib.hid (HC.out.trans hnD)
  clear hnD HC e0 e1 e2 e3 e4 c0C c1C c2C c3C c4C hwC hzC
  go_wp2_with fail
  refine (C2.acc _).mono ?_
  rintro e wE ⟨rfl, hnE⟩
  have e0 := hnE.cell e0D
  have e1 := hnE.cell e1D
  have e2 := hnE.cell e2D
  have e3 := hnE.cell e3D
  have e4 := hnE.cell e4D
  have c0 := hnE.cell c0D
  have c1' := hnE.cell c1D
  have c2' := hnE.cell c2D
  have c3 := hnE.cell c3D
  have c4 := hnE.cell c4D
  have hwE : w.heap.size < wE.heap.size := Nat.lt_of_lt_of_le hwD hnE.size
  have hkE : wB.heap.size < wE.heap.size := Nat.lt_of_lt_of_le hkD hnE.size
  have HE := Lib.hid (HD.out.trans hnE)
  clear hnE HD e0D e1D e2D e3D e4D c0D c1D c2D c3D c4D hwD hkD
  go_wp2
  (refine wp_region_nx 41 (by kernel_rfl) (by kernel_rfl) ?_; simp only [List.take_succ_cons, List.take_zero, List.drop_succ_cons, List.drop_zero]; (repeat (refine wpQuiet_step (fun K hK => ?_); go_simp; first | (refine hK _ ?_; clear hK K) | (apply Exists.intro; refine ⟨fun w' hw' => ?_, hK _ ?_⟩; (first | (with_reducible rfl) | (go_at_call 11; with_reducible exact (C1.nxt _).mono fun _ _ h => ⟨h.1, hw'.trans h.2⟩) | (go_at_call 11; with_reducible exact (C2.nxt _).mono fun _ _ h => ⟨h.1, hw'.trans h.2⟩) | (obtain ⟨hc, hf⟩ := nx_cells hw'; go_simp; with_reducible rfl) | (obtain ⟨hc, hf⟩ := nx_cells hw'; go_simp; rfl)); clear hK K))); refine wpQuiet_nil ?_; intro wF hnF)
  go_wp2
  go_ret
  exact ⟨rfl, HE.out.trans hnF⟩

end Go.Proofs.Ytmobkjdbjgopgaa
