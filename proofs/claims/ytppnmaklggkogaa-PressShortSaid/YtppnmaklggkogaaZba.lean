/- Parts of the proof, one behind the other. -/
import Derived.Test.YtppnmaklggkogaaZaz
/- Contracts of package typecaseref05: quarter1. -/
namespace Go.Proofs.Ytppnmaklggkogaa
open Go.RowKit
set_option linter.unusedVariables false
set_option linter.unusedSimpArgs false

set_option maxHeartbeats 4000000 in
theorem q1_0 (x : Int) (w : World) (hx : 0 ≤ x) (hx' : x < 65536) (hf : fld x 13 3 = 0) :
    Calls Try.prog 32 #[.int .u32 x] w fun e w' => e = .returned (insV (sndI x 0 (fld x 7 5) (8 + fld x 7 3) (8 + fld x 2 3) (fld x 12 1) (n6P x) (jP x) (fld x 2 5) (fld x 10 2) (fld x 5 2))) ∧ Nx w w' := by
  have r0 := fld_nonneg x 7 5
  have r1 : fld x 7 5 < 32 := fld_lt x 7 5
  have p0 := fld_nonneg x 2 5
  have p1 : fld x 2 5 < 32 := fld_lt x 2 5
  have g0 := fld_nonneg x 7 3
  have g1 : fld x 7 3 < 8 := fld_lt x 7 3
  have k0 := fld_nonneg x 2 3
  have k1 : fld x 2 3 < 8 := fld_lt x 2 3
  obtain ⟨m0, m1⟩ := n6_bd x
  go_enter Try.func32, Try.ntmps32
  go_wp2_with fail
  refine (efield_v x 11 7 5 (fld x 7 5) _ hx hx' (by decide) (by decide) (by decide) (by decide) rfl rfl).mono ?_
  rintro e w' ⟨rfl, rfl⟩
  go_wp2_with fail
  refine (elist_lst 0 [12, 6, 5, 4, 3, 2] 6 6 [12, 6, 5, 4, 3, 2] _ rfl _ _ (by simp) (by decide) (by decide) rfl (by decide) (by decide) rfl rfl).mono ?_
  rintro e wA1 ⟨gA, cA, rfl, iA, nA⟩
  go_wp2_with fail
  refine (ebits_lst x _ gA 6 cA 0 (n6P x) _ hx hx' rfl (by decide) iA (congrArg (fun v => sgn v 6) (e_n6 x))).mono ?_
  rintro e w' ⟨rfl, rfl⟩
  go_wp2_with fail
  refine (elist_lst 1 [12, 8, 10, 9, 6, 7, 2, 11, 5, 4, 3] 11 12 [12, 8, 10, 9, 6, 7, 2, 11, 5, 4, 3, -1] _ rfl _ _ rfl (by decide) (by decide) rfl (by decide) (by decide) rfl rfl).mono ?_
  rintro e wB1 ⟨gB, cB, rfl, iB, nB⟩
  go_wp2_with fail
  refine (ebits_lst x _ gB 12 cB 0 (jP x) _ hx hx' rfl (by decide) iB (congrArg (fun v => sgn v 12) (e_j x))).mono ?_
  rintro e w' ⟨rfl, rfl⟩
  go_wp2_with fail
  refine (elist_lst 1 [12, 6, 5, 2, 11, 10, 4, 3] 8 9 [12, 6, 5, 2, 11, 10, 4, 3, -1] _ rfl _ _ rfl (by decide) (by decide) rfl (by decide) (by decide) rfl rfl).mono ?_
  rintro e wC1 ⟨gC, cC, rfl, iC, nC⟩
  go_wp2_with fail
  refine (ebits_lst x _ gC 9 cC 0 (brP x) _ hx hx' rfl (by decide) iC (congrArg (fun v => sgn v 9) (e_b x))).mono ?_
  rintro e w' ⟨rfl, rfl⟩
  have n4 := nA.trans (nB.trans nC)
  clear nA nB nC iA iB iC
  go_wp2_with fail
  refine (efield_v x 15 13 3 _ _ hx hx' (by decide) (by decide) (by decide) (by decide) rfl hf).mono ?_
  rintro e w' ⟨rfl, rfl⟩
  obtain ⟨c0, c1, c2, c3, c4, z0, z1, z2, z3, z4, hz⟩ := five_cells n4
  have HN := Lib.hid (((Nx.refl w).alloc _).trans n4)
  clear n4
  go_wp2
  refine bodyPost_ret (v := insV (sndI x 0 (fld x 7 5) (8 + fld x 7 3) (8 + fld x 2 3) (fld x 12 1) (n6P x) (jP x) (fld x 2 5) (fld x 10 2) (fld x 5 2))) (by simp [results, Try.results32, go_sem, insV, c0, c1, c2, c3, c4, sndI]) rfl ⟨rfl, ?_⟩
  repeat (with_reducible first | exact HN.out | refine Nx.alloc ?_ _ | refine Nx.setCell ?_ (Nat.le_refl _) _)

set_option maxHeartbeats 4000000 in
theorem q1_1 (x : Int) (w : World) (hx : 0 ≤ x) (hx' : x < 65536) (hf : fld x 13 3 = 1) :
    Calls Try.prog 32 #[.int .u32 x] w fun e w' => e = .returned (insV (sndI x 1 (fld x 7 5) (8 + fld x 7 3) (8 + fld x 2 3) (fld x 12 1) (n6P x) (jP x) (fld x 2 5) (fld x 10 2) (fld x 5 2))) ∧ Nx w w' := by
  have r0 := fld_nonneg x 7 5
  have r1 : fld x 7 5 < 32 := fld_lt x 7 5
  have p0 := fld_nonneg x 2 5
  have p1 : fld x 2 5 < 32 := fld_lt x 2 5
  have g0 := fld_nonneg x 7 3
  have g1 : fld x 7 3 < 8 := fld_lt x 7 3
  have k0 := fld_nonneg x 2 3
  have k1 : fld x 2 3 < 8 := fld_lt x 2 3
  obtain ⟨m0, m1⟩ := n6_bd x
  go_enter Try.func32, Try.ntmps32
  go_wp2_with fail
  refine (efield_v x 11 7 5 (fld x 7 5) _ hx hx' (by decide) (by decide) (by decide) (by decide) rfl rfl).mono ?_
  rintro e w' ⟨rfl, rfl⟩
  go_wp2_with fail
  refine (elist_lst 0 [12, 6, 5, 4, 3, 2] 6 6 [12, 6, 5, 4, 3, 2] _ rfl _ _ (by simp) (by decide) (by decide) rfl (by decide) (by decide) rfl rfl).mono ?_
  rintro e wA1 ⟨gA, cA, rfl, iA, nA⟩
  go_wp2_with fail
  refine (ebits_lst x _ gA 6 cA 0 (n6P x) _ hx hx' rfl (by decide) iA (congrArg (fun v => sgn v 6) (e_n6 x))).mono ?_
  rintro e w' ⟨rfl, rfl⟩
  go_wp2_with fail
  refine (elist_lst 1 [12, 8, 10, 9, 6, 7, 2, 11, 5, 4, 3] 11 12 [12, 8, 10, 9, 6, 7, 2, 11, 5, 4, 3, -1] _ rfl _ _ rfl (by decide) (by decide) rfl (by decide) (by decide) rfl rfl).mono ?_
  rintro e wB1 ⟨gB, cB, rfl, iB, nB⟩
  go_wp2_with fail
  refine (ebits_lst x _ gB 12 cB 0 (jP x) _ hx hx' rfl (by decide) iB (congrArg (fun v => sgn v 12) (e_j x))).mono ?_
  rintro e w' ⟨rfl, rfl⟩
  go_wp2_with fail
  refine (elist_lst 1 [12, 6, 5, 2, 11, 10, 4, 3] 8 9 [12, 6, 5, 2, 11, 10, 4, 3, -1] _ rfl _ _ rfl (by decide) (by decide) rfl (by decide) (by decide) rfl rfl).mono ?_
  rintro e wC1 ⟨gC, cC, rfl, iC, nC⟩
  go_wp2_with fail
  refine (ebits_lst x _ gC 9 cC 0 (brP x) _ hx hx' rfl (by decide) iC (congrArg (fun v => sgn v 9) (e_b x))).mono ?_
  rintro e w' ⟨rfl, rfl⟩
  have n4 := nA.trans (nB.trans nC)
  clear nA nB nC iA iB iC
  go_wp2_with fail
  refine (efield_v x 15 13 3 _ _ hx hx' (by decide) (by decide) (by decide) (by decide) rfl hf).mono ?_
  rintro e w' ⟨rfl, rfl⟩
  obtain ⟨c0, c1, c2, c3, c4, z0, z1, z2, z3, z4, hz⟩ := five_cells n4
  have HN := Lib.hid (((Nx.refl w).alloc _).trans n4)
  clear n4
  go_wp2
  refine bodyPost_ret (v := insV (sndI x 1 (fld x 7 5) (8 + fld x 7 3) (8 + fld x 2 3) (fld x 12 1) (n6P x) (jP x) (fld x 2 5) (fld x 10 2) (fld x 5 2))) (by simp [results, Try.results32, go_sem, insV, c0, c1, c2, c3, c4, sndI]) rfl ⟨rfl, ?_⟩
  repeat (with_reducible first | exact HN.out | refine Nx.alloc ?_ _ | refine Nx.setCell ?_ (Nat.le_refl _) _)

set_option maxHeartbeats 4000000 in
theorem q1_2 (x : Int) (w : World) (hx : 0 ≤ x) (hx' : x < 65536) (hf : fld x 13 3 = 2) :
    Calls Try.prog 32 #[.int .u32 x] w fun e w' => e = .returned (insV (sndI x 2 (fld x 7 5) (8 + fld x 7 3) (8 + fld x 2 3) (fld x 12 1) (n6P x) (jP x) (fld x 2 5) (fld x 10 2) (fld x 5 2))) ∧ Nx w w' := by
  have r0 := fld_nonneg x 7 5
  have r1 : fld x 7 5 < 32 := fld_lt x 7 5
  have p0 := fld_nonneg x 2 5
  have p1 : fld x 2 5 < 32 := fld_lt x 2 5
  have g0 := fld_nonneg x 7 3
  have g1 : fld x 7 3 < 8 := fld_lt x 7 3
  have k0 := fld_nonneg x 2 3
  have k1 : fld x 2 3 < 8 := fld_lt x 2 3
  obtain ⟨m0, m1⟩ := n6_bd x
  go_enter Try.func32, Try.ntmps32
  go_wp2_with fail
  refine (efield_v x 11 7 5 (fld x 7 5) _ hx hx' (by decide) (by decide) (by decide) (by decide) rfl rfl).mono ?_
  rintro e w' ⟨rfl, rfl⟩
  go_wp2_with fail
  refine (elist_lst 0 [12, 6, 5, 4, 3, 2] 6 6 [12, 6, 5, 4, 3, 2] _ rfl _ _ (by simp) (by decide) (by decide) rfl (by decide) (by decide) rfl rfl).mono ?_
  rintro e wA1 ⟨gA, cA, rfl, iA, nA⟩
  go_wp2_with fail
  refine (ebits_lst x _ gA 6 cA 0 (n6P x) _ hx hx' rfl (by decide) iA (congrArg (fun v => sgn v 6) (e_n6 x))).mono ?_
  rintro e w' ⟨rfl, rfl⟩
  go_wp2_with fail
  refine (elist_lst 1 [12, 8, 10, 9, 6, 7, 2, 11, 5, 4, 3] 11 12 [12, 8, 10, 9, 6, 7, 2, 11, 5, 4, 3, -1] _ rfl _ _ rfl (by decide) (by decide) rfl (by decide) (by decide) rfl rfl).mono ?_
  rintro e wB1 ⟨gB, cB, rfl, iB, nB⟩
  go_wp2_with fail
  refine (ebits_lst x _ gB 12 cB 0 (jP x) _ hx hx' rfl (by decide) iB (congrArg (fun v => sgn v 12) (e_j x))).mono ?_
  rintro e w' ⟨rfl, rfl⟩
  go_wp2_with fail
  refine (elist_lst 1 [12, 6, 5, 2, 11, 10, 4, 3] 8 9 [12, 6, 5, 2, 11, 10, 4, 3, -1] _ rfl _ _ rfl (by decide) (by decide) rfl (by decide) (by decide) rfl rfl).mono ?_
  rintro e wC1 ⟨gC, cC, rfl, iC, nC⟩
  go_wp2_with fail
  refine (ebits_lst x _ gC 9 cC 0 (brP x) _ hx hx' rfl (by decide) iC (congrArg (fun v => sgn v 9) (e_b x))).mono ?_
  rintro e w' ⟨rfl, rfl⟩
  have n4 := nA.trans (nB.trans nC)
  clear nA nB nC iA iB iC
  go_wp2_with fail
  refine (efield_v x 15 13 3 _ _ hx hx' (by decide) (by decide) (by decide) (by decide) rfl hf).mono ?_
  rintro e w' ⟨rfl, rfl⟩
  obtain ⟨c0, c1, c2, c3, c4, z0, z1, z2, z3, z4, hz⟩ := five_cells n4
  have HN := Lib.hid (((Nx.refl w).alloc _).trans n4)
  clear n4
  go_wp2
  refine bodyPost_ret (v := insV (sndI x 2 (fld x 7 5) (8 + fld x 7 3) (8 + fld x 2 3) (fld x 12 1) (n6P x) (jP x) (fld x 2 5) (fld x 10 2) (fld x 5 2))) (by simp [results, Try.results32, go_sem, insV, c0, c1, c2, c3, c4, sndI]) rfl ⟨rfl, ?_⟩
  repeat (with_reducible first | exact HN.out | refine Nx.alloc ?_ _ | refine Nx.setCell ?_ (Nat.le_refl _) _)

set_option maxHeartbeats 4000000 in
theorem q1_5 (x : Int) (w : World) (hx : 0 ≤ x) (hx' : x < 65536) (hf : fld x 13 3 = 5) :
    Calls Try.prog 32 #[.int .u32 x] w fun e w' => e = .returned (insV (sndI x 5 (fld x 7 5) (8 + fld x 7 3) (8 + fld x 2 3) (fld x 12 1) (n6P x) (jP x) (fld x 2 5) (fld x 10 2) (fld x 5 2))) ∧ Nx w w' := by
  have r0 := fld_nonneg x 7 5
  have r1 : fld x 7 5 < 32 := fld_lt x 7 5
  have p0 := fld_nonneg x 2 5
  have p1 : fld x 2 5 < 32 := fld_lt x 2 5
  have g0 := fld_nonneg x 7 3
  have g1 : fld x 7 3 < 8 := fld_lt x 7 3
  have k0 := fld_nonneg x 2 3
  have k1 : fld x 2 3 < 8 := fld_lt x 2 3
  obtain ⟨m0, m1⟩ := n6_bd x
  go_enter Try.func32, Try.ntmps32
  go_wp2_with fail
  refine (efield_v x 11 7 5 (fld x 7 5) _ hx hx' (by decide) (by decide) (by decide) (by decide) rfl rfl).mono ?_
  rintro e w' ⟨rfl, rfl⟩
  go_wp2_with fail
  refine (elist_lst 0 [12, 6, 5, 4, 3, 2] 6 6 [12, 6, 5, 4, 3, 2] _ rfl _ _ (by simp) (by decide) (by decide) rfl (by decide) (by decide) rfl rfl).mono ?_
  rintro e wA1 ⟨gA, cA, rfl, iA, nA⟩
  go_wp2_with fail
  refine (ebits_lst x _ gA 6 cA 0 (n6P x) _ hx hx' rfl (by decide) iA (congrArg (fun v => sgn v 6) (e_n6 x))).mono ?_
  rintro e w' ⟨rfl, rfl⟩
  go_wp2_with fail
  refine (elist_lst 1 [12, 8, 10, 9, 6, 7, 2, 11, 5, 4, 3] 11 12 [12, 8, 10, 9, 6, 7, 2, 11, 5, 4, 3, -1] _ rfl _ _ rfl (by decide) (by decide) rfl (by decide) (by decide) rfl rfl).mono ?_
  rintro e wB1 ⟨gB, cB, rfl, iB, nB⟩
  go_wp2_with fail
  refine (ebits_lst x _ gB 12 cB 0 (jP x) _ hx hx' rfl (by decide) iB (congrArg (fun v => sgn v 12) (e_j x))).mono ?_
  rintro e w' ⟨rfl, rfl⟩
  go_wp2_with fail
  refine (elist_lst 1 [12, 6, 5, 2, 11, 10, 4, 3] 8 9 [12, 6, 5, 2, 11, 10, 4, 3, -1] _ rfl _ _ rfl (by decide) (by decide) rfl (by decide) (by decide) rfl rfl).mono ?_
  rintro e wC1 ⟨gC, cC, rfl, iC, nC⟩
  go_wp2_with fail
  refine (ebits_lst x _ gC 9 cC 0 (brP x) _ hx hx' rfl (by decide) iC (congrArg (fun v => sgn v 9) (e_b x))).mono ?_
  rintro e w' ⟨rfl, rfl⟩
  have n4 := nA.trans (nB.trans nC)
  clear nA nB nC iA iB iC
  go_wp2_with fail
  refine (efield_v x 15 13 3 _ _ hx hx' (by decide) (by decide) (by decide) (by decide) rfl hf).mono ?_
  rintro e w' ⟨rfl, rfl⟩
  obtain ⟨c0, c1, c2, c3, c4, z0, z1, z2, z3, z4, hz⟩ := five_cells n4
  have HN := Lib.hid (((Nx.refl w).alloc _).trans n4)
  clear n4
  go_wp2
  refine bodyPost_ret (v := insV (sndI x 5 (fld x 7 5) (8 + fld x 7 3) (8 + fld x 2 3) (fld x 12 1) (n6P x) (jP x) (fld x 2 5) (fld x 10 2) (fld x 5 2))) (by simp [results, Try.results32, go_sem, insV, c0, c1, c2, c3, c4, sndI]) rfl ⟨rfl, ?_⟩
  repeat (with_reducible first | exact HN.out | refine Nx.alloc ?_ _ | refine Nx.setCell ?_ (Nat.le_refl _) _)

set_option maxHeartbeats 4000000 in
theorem q1_6 (x : Int) (w : World) (hx : 0 ≤ x) (hx' : x < 65536) (hf : fld x 13 3 = 6) :
    Calls Try.prog 32 #[.int .u32 x] w fun e w' => e = .returned (insV (sndI x 6 (fld x 7 5) (8 + fld x 7 3) (8 + fld x 2 3) (fld x 12 1) (n6P x) (jP x) (fld x 2 5) (fld x 10 2) (fld x 5 2))) ∧ Nx w w' := by
  have r0 := fld_nonneg x 7 5
  have r1 : fld x 7 5 < 32 := fld_lt x 7 5
  have p0 := fld_nonneg x 2 5
  have p1 : fld x 2 5 < 32 := fld_lt x 2 5
  have g0 := fld_nonneg x 7 3
  have g1 : fld x 7 3 < 8 := fld_lt x 7 3
  have k0 := fld_nonneg x 2 3
  have k1 : fld x 2 3 < 8 := fld_lt x 2 3
  obtain ⟨m0, m1⟩ := n6_bd x
  go_enter Try.func32, Try.ntmps32
  go_wp2_with fail
  refine (efield_v x 11 7 5 (fld x 7 5) _ hx hx' (by decide) (by decide) (by decide) (by decide) rfl rfl).mono ?_
  rintro e w' ⟨rfl, rfl⟩
  go_wp2_with fail
  refine (elist_lst 0 [12, 6, 5, 4, 3, 2] 6 6 [12, 6, 5, 4, 3, 2] _ rfl _ _ (by simp) (by decide) (by decide) rfl (by decide) (by decide) rfl rfl).mono ?_
  rintro e wA1 ⟨gA, cA, rfl, iA, nA⟩
  go_wp2_with fail
  refine (ebits_lst x _ gA 6 cA 0 (n6P x) _ hx hx' rfl (by decide) iA (congrArg (fun v => sgn v 6) (e_n6 x))).mono ?_
  rintro e w' ⟨rfl, rfl⟩
  go_wp2_with fail
  refine (elist_lst 1 [12, 8, 10, 9, 6, 7, 2, 11, 5, 4, 3] 11 12 [12, 8, 10, 9, 6, 7, 2, 11, 5, 4, 3, -1] _ rfl _ _ rfl (by decide) (by decide) rfl (by decide) (by decide) rfl rfl).mono ?_
  rintro e wB1 ⟨gB, cB, rfl, iB, nB⟩
  go_wp2_with fail
  refine (ebits_lst x _ gB 12 cB 0 (jP x) _ hx hx' rfl (by decide) iB (congrArg (fun v => sgn v 12) (e_j x))).mono ?_
  rintro e w' ⟨rfl, rfl⟩
  go_wp2_with fail
  refine (elist_lst 1 [12, 6, 5, 2, 11, 10, 4, 3] 8 9 [12, 6, 5, 2, 11, 10, 4, 3, -1] _ rfl _ _ rfl (by decide) (by decide) rfl (by decide) (by decide) rfl rfl).mono ?_
  rintro e wC1 ⟨gC, cC, rfl, iC, nC⟩
  go_wp2_with fail
  refine (ebits_lst x _ gC 9 cC 0 (brP x) _ hx hx' rfl (by decide) iC (congrArg (fun v => sgn v 9) (e_b x))).mono ?_
  rintro e w' ⟨rfl, rfl⟩
  have n4 := nA.trans (nB.trans nC)
  clear nA nB nC iA iB iC
  go_wp2_with fail
  refine (efield_v x 15 13 3 _ _ hx hx' (by decide) (by decide) (by decide) (by decide) rfl hf).mono ?_
  rintro e w' ⟨rfl, rfl⟩
  obtain ⟨c0, c1, c2, c3, c4, z0, z1, z2, z3, z4, hz⟩ := five_cells n4
  have HN := Lib.hid (((Nx.refl w).alloc _).trans n4)
  clear n4
  go_wp2_with (go_at_call 47; refine (efew_any _ _ _ hx hx' (by decide) (by decide)).mono ?_; rintro e w' ⟨rfl, rfl⟩)
  refine bodyPost_ret (v := insV (sndI x 6 (fld x 7 5) (8 + fld x 7 3) (8 + fld x 2 3) (fld x 12 1) (n6P x) (jP x) (fld x 2 5) (fld x 10 2) (fld x 5 2))) (by simp [results, Try.results32, go_sem, insV, c0, c1, c2, c3, c4, sndI]) rfl ⟨rfl, ?_⟩
  repeat (with_reducible first | exact HN.out | refine Nx.alloc ?_ _ | refine Nx.setCell ?_ (Nat.le_refl _) _)

set_option maxHeartbeats 4000000 in
theorem q1_7 (x : Int) (w : World) (hx : 0 ≤ x) (hx' : x < 65536) (hf : fld x 13 3 = 7) :
    Calls Try.prog 32 #[.int .u32 x] w fun e w' => e = .returned (insV (sndI x 7 (fld x 7 5) (8 + fld x 7 3) (8 + fld x 2 3) (fld x 12 1) (n6P x) (jP x) (fld x 2 5) (fld x 10 2) (fld x 5 2))) ∧ Nx w w' := by
  have r0 := fld_nonneg x 7 5
  have r1 : fld x 7 5 < 32 := fld_lt x 7 5
  have p0 := fld_nonneg x 2 5
  have p1 : fld x 2 5 < 32 := fld_lt x 2 5
  have g0 := fld_nonneg x 7 3
  have g1 : fld x 7 3 < 8 := fld_lt x 7 3
  have k0 := fld_nonneg x 2 3
  have k1 : fld x 2 3 < 8 := fld_lt x 2 3
  obtain ⟨m0, m1⟩ := n6_bd x
  go_enter Try.func32, Try.ntmps32
  go_wp2_with fail
  refine (efield_v x 11 7 5 (fld x 7 5) _ hx hx' (by decide) (by decide) (by decide) (by decide) rfl rfl).mono ?_
  rintro e w' ⟨rfl, rfl⟩
  go_wp2_with fail
  refine (elist_lst 0 [12, 6, 5, 4, 3, 2] 6 6 [12, 6, 5, 4, 3, 2] _ rfl _ _ (by simp) (by decide) (by decide) rfl (by decide) (by decide) rfl rfl).mono ?_
  rintro e wA1 ⟨gA, cA, rfl, iA, nA⟩
  go_wp2_with fail
  refine (ebits_lst x _ gA 6 cA 0 (n6P x) _ hx hx' rfl (by decide) iA (congrArg (fun v => sgn v 6) (e_n6 x))).mono ?_
  rintro e w' ⟨rfl, rfl⟩
  go_wp2_with fail
  refine (elist_lst 1 [12, 8, 10, 9, 6, 7, 2, 11, 5, 4, 3] 11 12 [12, 8, 10, 9, 6, 7, 2, 11, 5, 4, 3, -1] _ rfl _ _ rfl (by decide) (by decide) rfl (by decide) (by decide) rfl rfl).mono ?_
  rintro e wB1 ⟨gB, cB, rfl, iB, nB⟩
  go_wp2_with fail
  refine (ebits_lst x _ gB 12 cB 0 (jP x) _ hx hx' rfl (by decide) iB (congrArg (fun v => sgn v 12) (e_j x))).mono ?_
  rintro e w' ⟨rfl, rfl⟩
  go_wp2_with fail
  refine (elist_lst 1 [12, 6, 5, 2, 11, 10, 4, 3] 8 9 [12, 6, 5, 2, 11, 10, 4, 3, -1] _ rfl _ _ rfl (by decide) (by decide) rfl (by decide) (by decide) rfl rfl).mono ?_
  rintro e wC1 ⟨gC, cC, rfl, iC, nC⟩
  go_wp2_with fail
  refine (ebits_lst x _ gC 9 cC 0 (brP x) _ hx hx' rfl (by decide) iC (congrArg (fun v => sgn v 9) (e_b x))).mono ?_
  rintro e w' ⟨rfl, rfl⟩
  have n4 := nA.trans (nB.trans nC)
  clear nA nB nC iA iB iC
  go_wp2_with fail
  refine (efield_v x 15 13 3 _ _ hx hx' (by decide) (by decide) (by decide) (by decide) rfl hf).mono ?_
  rintro e w' ⟨rfl, rfl⟩
  obtain ⟨c0, c1, c2, c3, c4, z0, z1, z2, z3, z4, hz⟩ := five_cells n4
  have HN := Lib.hid (((Nx.refl w).alloc _).trans n4)
  clear n4
  go_wp2_with (go_at_call 47; refine (efew_any _ _ _ hx hx' (by decide) (by decide)).mono ?_; rintro e w' ⟨rfl, rfl⟩)
  refine bodyPost_ret (v := insV (sndI x 7 (fld x 7 5) (8 + fld x 7 3) (8 + fld x 2 3) (fld x 12 1) (n6P x) (jP x) (fld x 2 5) (fld x 10 2) (fld x 5 2))) (by simp [results, Try.results32, go_sem, insV, c0, c1, c2, c3, c4, sndI]) rfl ⟨rfl, ?_⟩
  repeat (with_reducible first | exact HN.out | refine Nx.alloc ?_ _ | refine Nx.setCell ?_ (Nat.le_refl _) _)

set_option maxHeartbeats 4000000 in
theorem q1_3a (x : Int) (w : World) (hx : 0 ≤ x) (hx' : x < 65536) (hf : fld x 13 3 = 3) (h : n6P x = 0) :
    Calls Try.prog 32 #[.int .u32 x] w fun e w' => e = .returned (insV (sndI x 3 (fld x 7 5) (8 + fld x 7 3) (8 + fld x 2 3) (fld x 12 1) (n6P x) (jP x) (fld x 2 5) (fld x 10 2) (fld x 5 2))) ∧ Nx w w' := by
  have r0 := fld_nonneg x 7 5
  have r1 : fld x 7 5 < 32 := fld_lt x 7 5
  have p0 := fld_nonneg x 2 5
  have p1 : fld x 2 5 < 32 := fld_lt x 2 5
  have g0 := fld_nonneg x 7 3
  have g1 : fld x 7 3 < 8 := fld_lt x 7 3
  have k0 := fld_nonneg x 2 3
  have k1 : fld x 2 3 < 8 := fld_lt x 2 3
  obtain ⟨m0, m1⟩ := n6_bd x
  go_enter Try.func32, Try.ntmps32
  go_wp2_with fail
  refine (efield_v x 11 7 5 (fld x 7 5) _ hx hx' (by decide) (by decide) (by decide) (by decide) rfl rfl).mono ?_
  rintro e w' ⟨rfl, rfl⟩
  go_wp2_with fail
  refine (elist_lst 0 [12, 6, 5, 4, 3, 2] 6 6 [12, 6, 5, 4, 3, 2] _ rfl _ _ (by simp) (by decide) (by decide) rfl (by decide) (by decide) rfl rfl).mono ?_
  rintro e wA1 ⟨gA, cA, rfl, iA, nA⟩
  go_wp2_with fail
  refine (ebits_lst x _ gA 6 cA 0 (n6P x) _ hx hx' rfl (by decide) iA (congrArg (fun v => sgn v 6) (e_n6 x))).mono ?_
  rintro e w' ⟨rfl, rfl⟩
  go_wp2_with fail
  refine (elist_lst 1 [12, 8, 10, 9, 6, 7, 2, 11, 5, 4, 3] 11 12 [12, 8, 10, 9, 6, 7, 2, 11, 5, 4, 3, -1] _ rfl _ _ rfl (by decide) (by decide) rfl (by decide) (by decide) rfl rfl).mono ?_
  rintro e wB1 ⟨gB, cB, rfl, iB, nB⟩
  go_wp2_with fail
  refine (ebits_lst x _ gB 12 cB 0 (jP x) _ hx hx' rfl (by decide) iB (congrArg (fun v => sgn v 12) (e_j x))).mono ?_
  rintro e w' ⟨rfl, rfl⟩
  go_wp2_with fail
  refine (elist_lst 1 [12, 6, 5, 2, 11, 10, 4, 3] 8 9 [12, 6, 5, 2, 11, 10, 4, 3, -1] _ rfl _ _ rfl (by decide) (by decide) rfl (by decide) (by decide) rfl rfl).mono ?_
  rintro e wC1 ⟨gC, cC, rfl, iC, nC⟩
  go_wp2_with fail
  refine (ebits_lst x _ gC 9 cC 0 (brP x) _ hx hx' rfl (by decide) iC (congrArg (fun v => sgn v 9) (e_b x))).mono ?_
  rintro e w' ⟨rfl, rfl⟩
  have n4 := nA.trans (nB.trans nC)
  clear nA nB nC iA iB iC
  go_wp2_with fail
  refine (efield_v x 15 13 3 _ _ hx hx' (by decide) (by decide) (by decide) (by decide) rfl hf).mono ?_
  rintro e w' ⟨rfl, rfl⟩
  have h' : (n6P x == 0) = true := by rw [beq_iff_eq]; exact h
  obtain ⟨c0, c1, c2, c3, c4, z0, z1, z2, z3, z4, hz⟩ := five_cells n4
  have HN := Lib.hid (((Nx.refl w).alloc _).trans n4)
  clear n4
  go_wp2
  refine bodyPost_ret (v := insV (sndI x 3 (fld x 7 5) (8 + fld x 7 3) (8 + fld x 2 3) (fld x 12 1) (n6P x) (jP x) (fld x 2 5) (fld x 10 2) (fld x 5 2))) (by simp [results, Try.results32, go_sem, insV, c0, c1, c2, c3, c4, sndI, uppI, none5, h]) rfl ⟨rfl, ?_⟩
  repeat (with_reducible first | exact HN.out | refine Nx.alloc ?_ _ | refine Nx.setCell ?_ (Nat.le_refl _) _)

set_option maxHeartbeats 4000000 in
theorem q1_3b (x : Int) (w : World) (hx : 0 ≤ x) (hx' : x < 65536) (hf : fld x 13 3 = 3) (h : ¬ n6P x = 0) (h2 : ¬ fld x 7 5 = 2) :
    Calls Try.prog 32 #[.int .u32 x] w fun e w' => e = .returned (insV (sndI x 3 (fld x 7 5) (8 + fld x 7 3) (8 + fld x 2 3) (fld x 12 1) (n6P x) (jP x) (fld x 2 5) (fld x 10 2) (fld x 5 2))) ∧ Nx w w' := by
  have r0 := fld_nonneg x 7 5
  have r1 : fld x 7 5 < 32 := fld_lt x 7 5
  have p0 := fld_nonneg x 2 5
  have p1 : fld x 2 5 < 32 := fld_lt x 2 5
  have g0 := fld_nonneg x 7 3
  have g1 : fld x 7 3 < 8 := fld_lt x 7 3
  have k0 := fld_nonneg x 2 3
  have k1 : fld x 2 3 < 8 := fld_lt x 2 3
  obtain ⟨m0, m1⟩ := n6_bd x
  go_enter Try.func32, Try.ntmps32
  go_wp2_with fail
  refine (efield_v x 11 7 5 (fld x 7 5) _ hx hx' (by decide) (by decide) (by decide) (by decide) rfl rfl).mono ?_
  rintro e w' ⟨rfl, rfl⟩
  go_wp2_with fail
  refine (elist_lst 0 [12, 6, 5, 4, 3, 2] 6 6 [12, 6, 5, 4, 3, 2] _ rfl _ _ (by simp) (by decide) (by decide) rfl (by decide) (by decide) rfl rfl).mono ?_
  rintro e wA1 ⟨gA, cA, rfl, iA, nA⟩
  go_wp2_with fail
  refine (ebits_lst x _ gA 6 cA 0 (n6P x) _ hx hx' rfl (by decide) iA (congrArg (fun v => sgn v 6) (e_n6 x))).mono ?_
  rintro e w' ⟨rfl, rfl⟩
  go_wp2_with fail
  refine (elist_lst 1 [12, 8, 10, 9, 6, 7, 2, 11, 5, 4, 3] 11 12 [12, 8, 10, 9, 6, 7, 2, 11, 5, 4, 3, -1] _ rfl _ _ rfl (by decide) (by decide) rfl (by decide) (by decide) rfl rfl).mono ?_
  rintro e wB1 ⟨gB, cB, rfl, iB, nB⟩
  go_wp2_with fail
  refine (ebits_lst x _ gB 12 cB 0 (jP x) _ hx hx' rfl (by decide) iB (congrArg (fun v => sgn v 12) (e_j x))).mono ?_
  rintro e w' ⟨rfl, rfl⟩
  go_wp2_with fail
  refine (elist_lst 1 [12, 6, 5, 2, 11, 10, 4, 3] 8 9 [12, 6, 5, 2, 11, 10, 4, 3, -1] _ rfl _ _ rfl (by decide) (by decide) rfl (by decide) (by decide) rfl rfl).mono ?_
  rintro e wC1 ⟨gC, cC, rfl, iC, nC⟩
  go_wp2_with fail
  refine (ebits_lst x _ gC 9 cC 0 (brP x) _ hx hx' rfl (by decide) iC (congrArg (fun v => sgn v 9) (e_b x))).mono ?_
  rintro e w' ⟨rfl, rfl⟩
  have n4 := nA.trans (nB.trans nC)
  clear nA nB nC iA iB iC
  go_wp2_with fail
  refine (efield_v x 15 13 3 _ _ hx hx' (by decide) (by decide) (by decide) (by decide) rfl hf).mono ?_
  rintro e w' ⟨rfl, rfl⟩
  have h' : (n6P x == 0) = false := beq_eq_false_iff_ne.2 h
  have h2' : (fld x 7 5 == 2) = false := beq_eq_false_iff_ne.2 h2
  obtain ⟨c0, c1, c2, c3, c4, z0, z1, z2, z3, z4, hz⟩ := five_cells n4
  have HN := Lib.hid (((Nx.refl w).alloc _).trans n4)
  clear n4
  go_wp2
  refine bodyPost_ret (v := insV (sndI x 3 (fld x 7 5) (8 + fld x 7 3) (8 + fld x 2 3) (fld x 12 1) (n6P x) (jP x) (fld x 2 5) (fld x 10 2) (fld x 5 2))) (by simp [results, Try.results32, go_sem, insV, c0, c1, c2, c3, c4, sndI, uppI, none5, h, h2, wrap32] <;> try omega) rfl ⟨rfl, ?_⟩
  repeat (with_reducible first | exact HN.out | refine Nx.alloc ?_ _ | refine Nx.setCell ?_ (Nat.le_refl _) _)

set_option maxHeartbeats 4000000 in
theorem q1_3c (x : Int) (w : World) (hx : 0 ≤ x) (hx' : x < 65536) (hf : fld x 13 3 = 3) (h : ¬ n6P x = 0) (h2 : fld x 7 5 = 2) :
    Calls Try.prog 32 #[.int .u32 x] w fun e w' => e = .returned (insV (sndI x 3 (fld x 7 5) (8 + fld x 7 3) (8 + fld x 2 3) (fld x 12 1) (n6P x) (jP x) (fld x 2 5) (fld x 10 2) (fld x 5 2))) ∧ Nx w w' := by
  have r0 := fld_nonneg x 7 5
  have r1 : fld x 7 5 < 32 := fld_lt x 7 5
  have p0 := fld_nonneg x 2 5
  have p1 : fld x 2 5 < 32 := fld_lt x 2 5
  have g0 := fld_nonneg x 7 3
  have g1 : fld x 7 3 < 8 := fld_lt x 7 3
  have k0 := fld_nonneg x 2 3
  have k1 : fld x 2 3 < 8 := fld_lt x 2 3
  obtain ⟨m0, m1⟩ := n6_bd x
  go_enter Try.func32, Try.ntmps32
  go_wp2_with fail
  refine (efield_v x 11 7 5 (fld x 7 5) _ hx hx' (by decide) (by decide) (by decide) (by decide) rfl rfl).mono ?_
  rintro e w' ⟨rfl, rfl⟩
  go_wp2_with fail
  refine (elist_lst 0 [12, 6, 5, 4, 3, 2] 6 6 [12, 6, 5, 4, 3, 2] _ rfl _ _ (by simp) (by decide) (by decide) rfl (by decide) (by decide) rfl rfl).mono ?_
  rintro e wA1 ⟨gA, cA, rfl, iA, nA⟩
  go_wp2_with fail
  refine (ebits_lst x _ gA 6 cA 0 (n6P x) _ hx hx' rfl (by decide) iA (congrArg (fun v => sgn v 6) (e_n6 x))).mono ?_
  rintro e w' ⟨rfl, rfl⟩
  go_wp2_with fail
  refine (elist_lst 1 [12, 8, 10, 9, 6, 7, 2, 11, 5, 4, 3] 11 12 [12, 8, 10, 9, 6, 7, 2, 11, 5, 4, 3, -1] _ rfl _ _ rfl (by decide) (by decide) rfl (by decide) (by decide) rfl rfl).mono ?_
  rintro e wB1 ⟨gB, cB, rfl, iB, nB⟩
  go_wp2_with fail
  refine (ebits_lst x _ gB 12 cB 0 (jP x) _ hx hx' rfl (by decide) iB (congrArg (fun v => sgn v 12) (e_j x))).mono ?_
  rintro e w' ⟨rfl, rfl⟩
  go_wp2_with fail
  refine (elist_lst 1 [12, 6, 5, 2, 11, 10, 4, 3] 8 9 [12, 6, 5, 2, 11, 10, 4, 3, -1] _ rfl _ _ rfl (by decide) (by decide) rfl (by decide) (by decide) rfl rfl).mono ?_
  rintro e wC1 ⟨gC, cC, rfl, iC, nC⟩
  go_wp2_with fail
  refine (ebits_lst x _ gC 9 cC 0 (brP x) _ hx hx' rfl (by decide) iC (congrArg (fun v => sgn v 9) (e_b x))).mono ?_
  rintro e w' ⟨rfl, rfl⟩
  have n4 := nA.trans (nB.trans nC)
  clear nA nB nC iA iB iC
  go_wp2_with fail
  refine (efield_v x 15 13 3 _ _ hx hx' (by decide) (by decide) (by decide) (by decide) rfl hf).mono ?_
  rintro e w' ⟨rfl, rfl⟩
  have h' : (n6P x == 0) = false := beq_eq_false_iff_ne.2 h
  have h2' : (fld x 7 5 == 2) = true := by rw [beq_iff_eq]; exact h2
  go_wp2_with fail
  refine (elist_lst 4 [12, 4, 3, 5, 2, 6] 6 10 [12, 4, 3, 5, 2, 6, -1, -1, -1, -1] _ rfl _ _ rfl (by decide) (by decide) rfl (by decide) (by decide) rfl rfl).mono ?_
  rintro e wD1 ⟨gD, cD, rfl, iD, nD⟩
  go_wp2_with fail
  refine (ebits_lst x _ gD 10 cD 0 (farP x) _ hx hx' rfl (by decide) iD (congrArg (fun v => sgn v 10) (e_far x))).mono ?_
  rintro e w' ⟨rfl, rfl⟩
  replace n4 := n4.trans nD
  clear nD iD
  obtain ⟨c0, c1, c2, c3, c4, z0, z1, z2, z3, z4, hz⟩ := five_cells n4
  have HN := Lib.hid (((Nx.refl w).alloc _).trans n4)
  clear n4
  go_wp2
  refine bodyPost_ret (v := insV (sndI x 3 (fld x 7 5) (8 + fld x 7 3) (8 + fld x 2 3) (fld x 12 1) (n6P x) (jP x) (fld x 2 5) (fld x 10 2) (fld x 5 2))) (by simp [results, Try.results32, go_sem, insV, c0, c1, c2, c3, c4, sndI, uppI, none5, h, h2]) rfl ⟨rfl, ?_⟩
  repeat (with_reducible first | exact HN.out | refine Nx.alloc ?_ _ | refine Nx.setCell ?_ (Nat.le_refl _) _)

set_option maxHeartbeats 4000000 in
theorem q1_4 (x : Int) (w : World) (hx : 0 ≤ x) (hx' : x < 65536) (hf : fld x 13 3 = 4) :
    Calls Try.prog 32 #[.int .u32 x] w fun e w' => e = .returned (insV (sndI x 4 (fld x 7 5) (8 + fld x 7 3) (8 + fld x 2 3) (fld x 12 1) (n6P x) (jP x) (fld x 2 5) (fld x 10 2) (fld x 5 2))) ∧ Nx w w' := by
  have r0 := fld_nonneg x 7 5
  have r1 : fld x 7 5 < 32 := fld_lt x 7 5
  have p0 := fld_nonneg x 2 5
  have p1 : fld x 2 5 < 32 := fld_lt x 2 5
  have g0 := fld_nonneg x 7 3
  have g1 : fld x 7 3 < 8 := fld_lt x 7 3
  have k0 := fld_nonneg x 2 3
  have k1 : fld x 2 3 < 8 := fld_lt x 2 3
  obtain ⟨m0, m1⟩ := n6_bd x
  go_enter Try.func32, Try.ntmps32
  go_wp2_with fail
  refine (efield_v x 11 7 5 (fld x 7 5) _ hx hx' (by decide) (by decide) (by decide) (by decide) rfl rfl).mono ?_
  rintro e w' ⟨rfl, rfl⟩
  go_wp2_with fail
  refine (elist_lst 0 [12, 6, 5, 4, 3, 2] 6 6 [12, 6, 5, 4, 3, 2] _ rfl _ _ (by simp) (by decide) (by decide) rfl (by decide) (by decide) rfl rfl).mono ?_
  rintro e wA1 ⟨gA, cA, rfl, iA, nA⟩
  go_wp2_with fail
  refine (ebits_lst x _ gA 6 cA 0 (n6P x) _ hx hx' rfl (by decide) iA (congrArg (fun v => sgn v 6) (e_n6 x))).mono ?_
  rintro e w' ⟨rfl, rfl⟩
  go_wp2_with fail
  refine (elist_lst 1 [12, 8, 10, 9, 6, 7, 2, 11, 5, 4, 3] 11 12 [12, 8, 10, 9, 6, 7, 2, 11, 5, 4, 3, -1] _ rfl _ _ rfl (by decide) (by decide) rfl (by decide) (by decide) rfl rfl).mono ?_
  rintro e wB1 ⟨gB, cB, rfl, iB, nB⟩
  go_wp2_with fail
  refine (ebits_lst x _ gB 12 cB 0 (jP x) _ hx hx' rfl (by decide) iB (congrArg (fun v => sgn v 12) (e_j x))).mono ?_
  rintro e w' ⟨rfl, rfl⟩
  go_wp2_with fail
  refine (elist_lst 1 [12, 6, 5, 2, 11, 10, 4, 3] 8 9 [12, 6, 5, 2, 11, 10, 4, 3, -1] _ rfl _ _ rfl (by decide) (by decide) rfl (by decide) (by decide) rfl rfl).mono ?_
  rintro e wC1 ⟨gC, cC, rfl, iC, nC⟩
  go_wp2_with fail
  refine (ebits_lst x _ gC 9 cC 0 (brP x) _ hx hx' rfl (by decide) iC (congrArg (fun v => sgn v 9) (e_b x))).mono ?_
  rintro e w' ⟨rfl, rfl⟩
  have n4 := nA.trans (nB.trans nC)
  clear nA nB nC iA iB iC
  go_wp2_with fail
  refine (efield_v x 15 13 3 _ _ hx hx' (by decide) (by decide) (by decide) (by decide) rfl hf).mono ?_
  rintro e w' ⟨rfl, rfl⟩
  go_wp2_with fail
  refine (sums_any x _ _ hx hx').mono ?_
  rintro e w5 ⟨rfl, n5⟩
  replace n4 := n4.trans n5
  clear n5
  unfold insV
  obtain ⟨c0, c1, c2, c3, c4, z0, z1, z2, z3, z4, hz⟩ := five_cells n4
  have HN := Lib.hid (((Nx.refl w).alloc _).trans n4)
  clear n4
  go_wp2
  refine bodyPost_ret (v := insV (sndI x 4 (fld x 7 5) (8 + fld x 7 3) (8 + fld x 2 3) (fld x 12 1) (n6P x) (jP x) (fld x 2 5) (fld x 10 2) (fld x 5 2))) (by simp [results, Try.results32, go_sem, insV, c0, c1, c2, c3, c4, sndI]) rfl ⟨rfl, ?_⟩
  repeat (with_reducible first | exact HN.out | refine Nx.alloc ?_ _ | refine Nx.setCell ?_ (Nat.le_refl _) _)

theorem quarter1_any (x : Int) (w : World) (hx : 0 ≤ x) (hx' : x < 65536) :
    Calls Try.prog 32 #[.int .u32 x] w fun e w' => e = .returned (insV (sndI x (fld x 13 3) (fld x 7 5) (8 + fld x 7 3) (8 + fld x 2 3) (fld x 12 1) (n6P x) (jP x) (fld x 2 5) (fld x 10 2) (fld x 5 2))) ∧ Nx w w' := by
  have f0 := fld_nonneg x 13 3
  have ff : fld x 13 3 < 8 := fld_lt x 13 3
  have hf : fld x 13 3 = 0 ∨ fld x 13 3 = 1 ∨ fld x 13 3 = 2 ∨ fld x 13 3 = 3 ∨ fld x 13 3 = 4 ∨ fld x 13 3 = 5 ∨ fld x 13 3 = 6 ∨ fld x 13 3 = 7 := by omega
  rcases hf with h | h | h | h | h | h | h | h <;> rw [h]
  · exact q1_0 x w hx hx' h
  · exact q1_1 x w hx hx' h
  · exact q1_2 x w hx hx' h
  · by_cases h1 : n6P x = 0
    · exact q1_3a x w hx hx' h h1
    · by_cases h2 : fld x 7 5 = 2
      · exact q1_3c x w hx hx' h h1 h2
      · exact q1_3b x w hx hx' h h1 h2
  · exact q1_4 x w hx hx' h
  · exact q1_5 x w hx hx' h
  · exact q1_6 x w hx hx' h
  · exact q1_7 x w hx hx' h

end Go.Proofs.Ytppnmaklggkogaa

