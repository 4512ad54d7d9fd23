/- Parts of the proof, one behind the other. -/
import Derived.Deep.RegionHeld3
import Derived.Test.YtndpgakjpokllaaGreatZsaf
import Derived.Test.YtndpgakjpokllaaGreatZsah
import Derived.Test.YtndpgakjpokllaaGreatZsao
import Derived.Test.YtndpgakjpokllaaGreatZsap
/- Contracts of package typecaseref05: quarter1. -/
namespace Go.Proofs.YtndpgakjpokllaaGreat
open Go.RowKit
set_option linter.unusedVariables false
set_option linter.unusedSimpArgs false

set_option maxHeartbeats 4000000 in
theorem q1_0 (x : Int) (w : World) (hx : 0 ≤ x) (hx' : x < 65536) (hf : fld x 13 3 = 0) :
    Calls Tryz.prog 47 #[.int .u32 x] w fun e w' => e = .returned (insV (sndI x 0 (fld x 7 5) (8 + fld x 7 3) (8 + fld x 2 3) (fld x 12 1) (n6P x) (jP x) (fld x 2 5) (fld x 10 2) (fld x 5 2))) ∧ Nx w w' := by
  have r0 := fld_nonneg x 7 5
  have r1 : fld x 7 5 < 32 := fld_lt x 7 5
  have p0 := fld_nonneg x 2 5
  have p1 : fld x 2 5 < 32 := fld_lt x 2 5
  have g0 := fld_nonneg x 7 3
  have g1 : fld x 7 3 < 8 := fld_lt x 7 3
  have k0 := fld_nonneg x 2 3
  have k1 : fld x 2 3 < 8 := fld_lt x 2 3
  obtain ⟨m0, m1⟩ := n6_bd x
  go_enter Tryz.func47, Tryz.ntmps47
  go_wp2_with fail
  refine (efield_v x 11 7 5 (fld x 7 5) _ hx hx' (by decide) (by decide) (by decide) (by decide) rfl rfl).mono ?_
  rintro e w' ⟨rfl, rfl⟩
  go_wp2_with fail
  refine (elist_lst 0 [12, 6, 5, 4, 3, 2] 6 6 [12, 6, 5, 4, 3, 2] _ rfl _ _ (by simp) (by decide) (by decide) rfl (by decide) (by decide) rfl rfl).mono ?_
  rintro e wA1 ⟨gA, cA, rfl, iA, nA⟩
  go_wp2_with fail
  refine (ebits_lst x _ gA 6 cA 0 (n6P x) _ hx hx' rfl (by decide) iA (congrArg (fun v => sgn v 6) (e_n6 x))).mono ?_
  rintro e w' ⟨rfl, rfl⟩
  go_wp2_with fail
  refine (elist_lst 1 [12, 8, 10, 9, 6, 7, 2, 11, 5, 4, 3] 11 12 [12, 8, 10, 9, 6, 7, 2, 11, 5, 4, 3, -1] _ rfl _ _ rfl (by decide) (by decide) rfl (by decide) (by decide) rfl rfl).mono ?_
  rintro e wB1 ⟨gB, cB, rfl, iB, nB⟩
  go_wp2_with fail
  refine (ebits_lst x _ gB 12 cB 0 (jP x) _ hx hx' rfl (by decide) iB (congrArg (fun v => sgn v 12) (e_j x))).mono ?_
  rintro e w' ⟨rfl, rfl⟩
  go_wp2_with fail
  refine (elist_lst 1 [12, 6, 5, 2, 11, 10, 4, 3] 8 9 [12, 6, 5, 2, 11, 10, 4, 3, -1] _ rfl _ _ rfl (by decide) (by decide) rfl (by decide) (by decide) rfl rfl).mono ?_
  rintro e wC1 ⟨gC, cC, rfl, iC, nC⟩
  go_wp2_with fail
  refine (ebits_lst x _ gC 9 cC 0 (brP x) _ hx hx' rfl (by decide) iC (congrArg (fun v => sgn v 9) (e_b x))).mono ?_
  rintro e w' ⟨rfl, rfl⟩
  have n4 := nA.trans (nB.trans nC)
  clear nA nB nC iA iB iC
  go_wp2_with fail
  refine (efield_v x 15 13 3 _ _ hx hx' (by decide) (by decide) (by decide) (by decide) rfl hf).mono ?_
  rintro e w' ⟨rfl, rfl⟩
  obtain ⟨c0, c1, c2, c3, c4, z0, z1, z2, z3, z4, hz⟩ := five_cells n4
  have HN := Lib.hid (((Nx.refl w).alloc _).trans n4)
  clear n4
  go_wp2
  refine bodyPost_ret (v := insV (sndI x 0 (fld x 7 5) (8 + fld x 7 3) (8 + fld x 2 3) (fld x 12 1) (n6P x) (jP x) (fld x 2 5) (fld x 10 2) (fld x 5 2))) (by simp [results, Tryz.results47, go_sem, insV, c0, c1, c2, c3, c4, sndI]) rfl ⟨rfl, ?_⟩
  repeat (with_reducible first | exact HN.out | refine Nx.alloc ?_ _ | refine Nx.setCell ?_ (Nat.le_refl _) _)

set_option maxHeartbeats 4000000 in
theorem q1_1 (x : Int) (w : World) (hx : 0 ≤ x) (hx' : x < 65536) (hf : fld x 13 3 = 1) :
    Calls Tryz.prog 47 #[.int .u32 x] w fun e w' => e = .returned (insV (sndI x 1 (fld x 7 5) (8 + fld x 7 3) (8 + fld x 2 3) (fld x 12 1) (n6P x) (jP x) (fld x 2 5) (fld x 10 2) (fld x 5 2))) ∧ Nx w w' := by
  have r0 := fld_nonneg x 7 5
  have r1 : fld x 7 5 < 32 := fld_lt x 7 5
  have p0 := fld_nonneg x 2 5
  have p1 : fld x 2 5 < 32 := fld_lt x 2 5
  have g0 := fld_nonneg x 7 3
  have g1 : fld x 7 3 < 8 := fld_lt x 7 3
  have k0 := fld_nonneg x 2 3
  have k1 : fld x 2 3 < 8 := fld_lt x 2 3
  obtain ⟨m0, m1⟩ := n6_bd x
  go_enter Tryz.func47, Tryz.ntmps47
  go_wp2_with fail
  refine (efield_v x 11 7 5 (fld x 7 5) _ hx hx' (by decide) (by decide) (by decide) (by decide) rfl rfl).mono ?_
  rintro e w' ⟨rfl, rfl⟩
  go_wp2_with fail
  refine (elist_lst 0 [12, 6, 5, 4, 3, 2] 6 6 [12, 6, 5, 4, 3, 2] _ rfl _ _ (by simp) (by decide) (by decide) rfl (by decide) (by decide) rfl rfl).mono ?_
  rintro e wA1 ⟨gA, cA, rfl, iA, nA⟩
  go_wp2_with fail
  refine (ebits_lst x _ gA 6 cA 0 (n6P x) _ hx hx' rfl (by decide) iA (congrArg (fun v => sgn v 6) (e_n6 x))).mono ?_
  rintro e w' ⟨rfl, rfl⟩
  go_wp2_with fail
  refine (elist_lst 1 [12, 8, 10, 9, 6, 7, 2, 11, 5, 4, 3] 11 12 [12, 8, 10, 9, 6, 7, 2, 11, 5, 4, 3, -1] _ rfl _ _ rfl (by decide) (by decide) rfl (by decide) (by decide) rfl rfl).mono ?_
  rintro e wB1 ⟨gB, cB, rfl, iB, nB⟩
  go_wp2_with fail
  refine (ebits_lst x _ gB 12 cB 0 (jP x) _ hx hx' rfl (by decide) iB (congrArg (fun v => sgn v 12) (e_j x))).mono ?_
  rintro e w' ⟨rfl, rfl⟩
  go_wp2_with fail
  refine (elist_lst 1 [12, 6, 5, 2, 11, 10, 4, 3] 8 9 [12, 6, 5, 2, 11, 10, 4, 3, -1] _ rfl _ _ rfl (by decide) (by decide) rfl (by decide) (by decide) rfl rfl).mono ?_
  rintro e wC1 ⟨gC, cC, rfl, iC, nC⟩
  go_wp2_with fail
  refine (ebits_lst x _ gC 9 cC 0 (brP x) _ hx hx' rfl (by decide) iC (congrArg (fun v => sgn v 9) (e_b x))).mono ?_
  rintro e w' ⟨rfl, rfl⟩
  have n4 := nA.trans (nB.trans nC)
  clear nA nB nC iA iB iC
  go_wp2_with fail
  refine (efield_v x 15 13 3 _ _ hx hx' (by decide) (by decide) (by decide) (by decide) rfl hf).mono ?_
  rintro e w' ⟨rfl, rfl⟩
  obtain ⟨c0, c1, c2, c3, c4, z0, z1, z2, z3, z4, hz⟩ := five_cells n4
  have HN := Lib.hid (((Nx.refl w).alloc _).trans n4)
  clear n4
  go_wp2
  refine bodyPost_ret (v := insV (sndI x 1 (fld x 7 5) (8 + fld x 7 3) (8 + fld x 2 3) (fld x 12 1) (n6P x) (jP x) (fld x 2 5) (fld x 10 2) (fld x 5 2))) (by simp [results, Tryz.results47, go_sem, insV, c0, c1, c2, c3, c4, sndI]) rfl ⟨rfl, ?_⟩
  repeat (with_reducible first | exact HN.out | refine Nx.alloc ?_ _ | refine Nx.setCell ?_ (Nat.le_refl _) _)

set_option maxHeartbeats 4000000 in
theorem q1_2 (x : Int) (w : World) (hx : 0 ≤ x) (hx' : x < 65536) (hf : fld x 13 3 = 2) :
    Calls Tryz.prog 47 #[.int .u32 x] w fun e w' => e = .returned (insV (sndI x 2 (fld x 7 5) (8 + fld x 7 3) (8 + fld x 2 3) (fld x 12 1) (n6P x) (jP x) (fld x 2 5) (fld x 10 2) (fld x 5 2))) ∧ Nx w w' := by
  have r0 := fld_nonneg x 7 5
  have r1 : fld x 7 5 < 32 := fld_lt x 7 5
  have p0 := fld_nonneg x 2 5
  have p1 : fld x 2 5 < 32 := fld_lt x 2 5
  have g0 := fld_nonneg x 7 3
  have g1 : fld x 7 3 < 8 := fld_lt x 7 3
  have k0 := fld_nonneg x 2 3
  have k1 : fld x 2 3 < 8 := fld_lt x 2 3
  obtain ⟨m0, m1⟩ := n6_bd x
  go_enter Tryz.func47, Tryz.ntmps47
  go_wp2_with fail
  refine (efield_v x 11 7 5 (fld x 7 5) _ hx hx' (by decide) (by decide) (by decide) (by decide) rfl rfl).mono ?_
  rintro e w' ⟨rfl, rfl⟩
  go_wp2_with fail
  refine (elist_lst 0 [12, 6, 5, 4, 3, 2] 6 6 [12, 6, 5, 4, 3, 2] _ rfl _ _ (by simp) (by decide) (by decide) rfl (by decide) (by decide) rfl rfl).mono ?_
  rintro e wA1 ⟨gA, cA, rfl, iA, nA⟩
  go_wp2_with fail
  refine (ebits_lst x _ gA 6 cA 0 (n6P x) _ hx hx' rfl (by decide) iA (congrArg (fun v => sgn v 6) (e_n6 x))).mono ?_
  rintro e w' ⟨rfl, rfl⟩
  go_wp2_with fail
  refine (elist_lst 1 [12, 8, 10, 9, 6, 7, 2, 11, 5, 4, 3] 11 12 [12, 8, 10, 9, 6, 7, 2, 11, 5, 4, 3, -1] _ rfl _ _ rfl (by decide) (by decide) rfl (by decide) (by decide) rfl rfl).mono ?_
  rintro e wB1 ⟨gB, cB, rfl, iB, nB⟩
  go_wp2_with fail
  refine (ebits_lst x _ gB 12 cB 0 (jP x) _ hx hx' rfl (by decide) iB (congrArg (fun v => sgn v 12) (e_j x))).mono ?_
  rintro e w' ⟨rfl, rfl⟩
  go_wp2_with fail
  refine (elist_lst 1 [12, 6, 5, 2, 11, 10, 4, 3] 8 9 [12, 6, 5, 2, 11, 10, 4, 3, -1] _ rfl _ _ rfl (by decide) (by decide) rfl (by decide) (by decide) rfl rfl).mono ?_
  rintro e wC1 ⟨gC, cC, rfl, iC, nC⟩
  go_wp2_with fail
  refine (ebits_lst x _ gC 9 cC 0 (brP x) _ hx hx' rfl (by decide) iC (congrArg (fun v => sgn v 9) (e_b x))).mono ?_
  rintro e w' ⟨rfl, rfl⟩
  have n4 := nA.trans (nB.trans nC)
  clear nA nB nC iA iB iC
  go_wp2_with fail
  refine (efield_v x 15 13 3 _ _ hx hx' (by decide) (by decide) (by decide) (by decide) rfl hf).mono ?_
  rintro e w' ⟨rfl, rfl⟩
  obtain ⟨c0, c1, c2, c3, c4, z0, z1, z2, z3, z4, hz⟩ := five_cells n4
  have HN := Lib.hid (((Nx.refl w).alloc _).trans n4)
  clear n4
  go_wp2
  refine bodyPost_ret (v := insV (sndI x 2 (fld x 7 5) (8 + fld x 7 3) (8 + fld x 2 3) (fld x 12 1) (n6P x) (jP x) (fld x 2 5) (fld x 10 2) (fld x 5 2))) (by simp [results, Tryz.results47, go_sem, insV, c0, c1, c2, c3, c4, sndI]) rfl ⟨rfl, ?_⟩
  repeat (with_reducible first | exact HN.out | refine Nx.alloc ?_ _ | refine Nx.setCell ?_ (Nat.le_refl _) _)

set_option maxHeartbeats 4000000 in
theorem q1_5 (x : Int) (w : World) (hx : 0 ≤ x) (hx' : x < 65536) (hf : fld x 13 3 = 5) :
    Calls Tryz.prog 47 #[.int .u32 x] w fun e w' => e = .returned (insV (sndI x 5 (fld x 7 5) (8 + fld x 7 3) (8 + fld x 2 3) (fld x 12 1) (n6P x) (jP x) (fld x 2 5) (fld x 10 2) (fld x 5 2))) ∧ Nx w w' := by
  have r0 := fld_nonneg x 7 5
  have r1 : fld x 7 5 < 32 := fld_lt x 7 5
  have p0 := fld_nonneg x 2 5
  have p1 : fld x 2 5 < 32 := fld_lt x 2 5
  have g0 := fld_nonneg x 7 3
  have g1 : fld x 7 3 < 8 := fld_lt x 7 3
  have k0 := fld_nonneg x 2 3
  have k1 : fld x 2 3 < 8 := fld_lt x 2 3
  obtain ⟨m0, m1⟩ := n6_bd x
  go_enter Tryz.func47, Tryz.ntmps47
  go_wp2_with fail
  refine (efield_v x 11 7 5 (fld x 7 5) _ hx hx' (by decide) (by decide) (by decide) (by decide) rfl rfl).mono ?_
  rintro e w' ⟨rfl, rfl⟩
  go_wp2_with fail
  refine (elist_lst 0 [12, 6, 5, 4, 3, 2] 6 6 [12, 6, 5, 4, 3, 2] _ rfl _ _ (by simp) (by decide) (by decide) rfl (by decide) (by decide) rfl rfl).mono ?_
  rintro e wA1 ⟨gA, cA, rfl, iA, nA⟩
  go_wp2_with fail
  refine (ebits_lst x _ gA 6 cA 0 (n6P x) _ hx hx' rfl (by decide) iA (congrArg (fun v => sgn v 6) (e_n6 x))).mono ?_
  rintro e w' ⟨rfl, rfl⟩
  go_wp2_with fail
  refine (elist_lst 1 [12, 8, 10, 9, 6, 7, 2, 11, 5, 4, 3] 11 12 [12, 8, 10, 9, 6, 7, 2, 11, 5, 4, 3, -1] _ rfl _ _ rfl (by decide) (by decide) rfl (by decide) (by decide) rfl rfl).mono ?_
  rintro e wB1 ⟨gB, cB, rfl, iB, nB⟩
  go_wp2_with fail
  refine (ebits_lst x _ gB 12 cB 0 (jP x) _ hx hx' rfl (by decide) iB (congrArg (fun v => sgn v 12) (e_j x))).mono ?_
  rintro e w' ⟨rfl, rfl⟩
  go_wp2_with fail
  refine (elist_lst 1 [12, 6, 5, 2, 11, 10, 4, 3] 8 9 [12, 6, 5, 2, 11, 10, 4, 3, -1] _ rfl _ _ rfl (by decide) (by decide) rfl (by decide) (by decide) rfl rfl).mono ?_
  rintro e wC1 ⟨gC, cC, rfl, iC, nC⟩
  go_wp2_with fail
  refine (ebits_lst x _ gC 9 cC 0 (brP x) _ hx hx' rfl (by decide) iC (congrArg (fun v => sgn v 9) (e_b x))).mono ?_
  rintro e w' ⟨rfl, rfl⟩
  have n4 := nA.trans (nB.trans nC)
  clear nA nB nC iA iB iC
  go_wp2_with fail
  refine (efield_v x 15 13 3 _ _ hx hx' (by decide) (by decide) (by decide) (by decide) rfl hf).mono ?_
  rintro e w' ⟨rfl, rfl⟩
  obtain ⟨c0, c1, c2, c3, c4, z0, z1, z2, z3, z4, hz⟩ := five_cells n4
  have HN := Lib.hid (((Nx.refl w).alloc _).trans n4)
  clear n4
  go_wp2
  refine bodyPost_ret (v := insV (sndI x 5 (fld x 7 5) (8 + fld x 7 3) (8 + fld x 2 3) (fld x 12 1) (n6P x) (jP x) (fld x 2 5) (fld x 10 2) (fld x 5 2))) (by simp [results, Tryz.results47, go_sem, insV, c0, c1, c2, c3, c4, sndI]) rfl ⟨rfl, ?_⟩
  repeat (with_reducible first | exact HN.out | refine Nx.alloc ?_ _ | refine Nx.setCell ?_ (Nat.le_refl _) _)

set_option maxHeartbeats 4000000 in
theorem q1_6 (x : Int) (w : World) (hx : 0 ≤ x) (hx' : x < 65536) (hf : fld x 13 3 = 6) :
    Calls Tryz.prog 47 #[.int .u32 x] w fun e w' => e = .returned (insV (sndI x 6 (fld x 7 5) (8 + fld x 7 3) (8 + fld x 2 3) (fld x 12 1) (n6P x) (jP x) (fld x 2 5) (fld x 10 2) (fld x 5 2))) ∧ Nx w w' := by
  have r0 := fld_nonneg x 7 5
  have r1 : fld x 7 5 < 32 := fld_lt x 7 5
  have p0 := fld_nonneg x 2 5
  have p1 : fld x 2 5 < 32 := fld_lt x 2 5
  have g0 := fld_nonneg x 7 3
  have g1 : fld x 7 3 < 8 := fld_lt x 7 3
  have k0 := fld_nonneg x 2 3
  have k1 : fld x 2 3 < 8 := fld_lt x 2 3
  obtain ⟨m0, m1⟩ := n6_bd x
  go_enter Tryz.func47, Tryz.ntmps47
  go_wp2_with fail
  refine (efield_v x 11 7 5 (fld x 7 5) _ hx hx' (by decide) (by decide) (by decide) (by decide) rfl rfl).mono ?_
  rintro e w' ⟨rfl, rfl⟩
  go_wp2_with fail
  refine (elist_lst 0 [12, 6, 5, 4, 3, 2] 6 6 [12, 6, 5, 4, 3, 2] _ rfl _ _ (by simp) (by decide) (by decide) rfl (by decide) (by decide) rfl rfl).mono ?_
  rintro e wA1 ⟨gA, cA, rfl, iA, nA⟩
  go_wp2_with fail
  refine (ebits_lst x _ gA 6 cA 0 (n6P x) _ hx hx' rfl (by decide) iA (congrArg (fun v => sgn v 6) (e_n6 x))).mono ?_
  rintro e w' ⟨rfl, rfl⟩
  go_wp2_with fail
  refine (elist_lst 1 [12, 8, 10, 9, 6, 7, 2, 11, 5, 4, 3] 11 12 [12, 8, 10, 9, 6, 7, 2, 11, 5, 4, 3, -1] _ rfl _ _ rfl (by decide) (by decide) rfl (by decide) (by decide) rfl rfl).mono ?_
  rintro e wB1 ⟨gB, cB, rfl, iB, nB⟩
  go_wp2_with fail
  refine (ebits_lst x _ gB 12 cB 0 (jP x) _ hx hx' rfl (by decide) iB (congrArg (fun v => sgn v 12) (e_j x))).mono ?_
  rintro e w' ⟨rfl, rfl⟩
  go_wp2_with fail
  refine (elist_lst 1 [12, 6, 5, 2, 11, 10, 4, 3] 8 9 [12, 6, 5, 2, 11, 10, 4, 3, -1] _ rfl _ _ rfl (by decide) (by decide) rfl (by decide) (by decide) rfl rfl).mono ?_
  rintro e wC1 ⟨gC, cC, rfl, iC, nC⟩
  go_wp2_with fail
  refine (ebits_lst x _ gC 9 cC 0 (brP x) _ hx hx' rfl (by decide) iC (congrArg (fun v => sgn v 9) (e_b x))).mono ?_
  rintro e w' ⟨rfl, rfl⟩
  have n4 := nA.trans (nB.trans nC)
  clear nA nB nC iA iB iC
  go_wp2_with fail
  refine (efield_v x 15 13 3 _ _ hx hx' (by decide) (by decide) (by decide) (by decide) rfl hf).mono ?_
  rintro e w' ⟨rfl, rfl⟩
  obtain ⟨c0, c1, c2, c3, c4, z0, z1, z2, z3, z4, hz⟩ := five_cells n4
  have HN := Lib.hid (((Nx.refl w).alloc _).trans n4)
  clear n4
  go_wp2_with (go_at_call 80; refine (efew_any _ _ _ hx hx' (by decide) (by decide)).mono ?_; rintro e w' ⟨rfl, rfl⟩)
  refine bodyPost_ret (v := insV (sndI x 6 (fld x 7 5) (8 + fld x 7 3) (8 + fld x 2 3) (fld x 12 1) (n6P x) (jP x) (fld x 2 5) (fld x 10 2) (fld x 5 2))) (by simp [results, Tryz.results47, go_sem, insV, c0, c1, c2, c3, c4, sndI]) rfl ⟨rfl, ?_⟩
  repeat (with_reducible first | exact HN.out | refine Nx.alloc ?_ _ | refine Nx.setCell ?_ (Nat.le_refl _) _)

set_option maxHeartbeats 4000000 in
theorem q1_7 (x : Int) (w : World) (hx : 0 ≤ x) (hx' : x < 65536) (hf : fld x 13 3 = 7) :
    Calls Tryz.prog 47 #[.int .u32 x] w fun e w' => e = .returned (insV (sndI x 7 (fld x 7 5) (8 + fld x 7 3) (8 + fld x 2 3) (fld x 12 1) (n6P x) (jP x) (fld x 2 5) (fld x 10 2) (fld x 5 2))) ∧ Nx w w' := by
  have r0 := fld_nonneg x 7 5
  have r1 : fld x 7 5 < 32 := fld_lt x 7 5
  have p0 := fld_nonneg x 2 5
  have p1 : fld x 2 5 < 32 := fld_lt x 2 5
  have g0 := fld_nonneg x 7 3
  have g1 : fld x 7 3 < 8 := fld_lt x 7 3
  have k0 := fld_nonneg x 2 3
  have k1 : fld x 2 3 < 8 := fld_lt x 2 3
  obtain ⟨m0, m1⟩ := n6_bd x
  go_enter Tryz.func47, Tryz.ntmps47
  go_wp2_with fail
  refine (efield_v x 11 7 5 (fld x 7 5) _ hx hx' (by decide) (by decide) (by decide) (by decide) rfl rfl).mono ?_
  rintro e w' ⟨rfl, rfl⟩
  go_wp2_with fail
  refine (elist_lst 0 [12, 6, 5, 4, 3, 2] 6 6 [12, 6, 5, 4, 3, 2] _ rfl _ _ (by simp) (by decide) (by decide) rfl (by decide) (by decide) rfl rfl).mono ?_
  rintro e wA1 ⟨gA, cA, rfl, iA, nA⟩
  go_wp2_with fail
  refine (ebits_lst x _ gA 6 cA 0 (n6P x) _ hx hx' rfl (by decide) iA (congrArg (fun v => sgn v 6) (e_n6 x))).mono ?_
  rintro e w' ⟨rfl, rfl⟩
  go_wp2_with fail
  refine (elist_lst 1 [12, 8, 10, 9, 6, 7, 2, 11, 5, 4, 3] 11 12 [12, 8, 10, 9, 6, 7, 2, 11, 5, 4, 3, -1] _ rfl _ _ rfl (by decide) (by decide) rfl (by decide) (by decide) rfl rfl).mono ?_
  rintro e wB1 ⟨gB, cB, rfl, iB, nB⟩
  go_wp2_with fail
  refine (ebits_lst x _ gB 12 cB 0 (jP x) _ hx hx' rfl (by decide) iB (congrArg (fun v => sgn v 12) (e_j x))).mono ?_
  rintro e w' ⟨rfl, rfl⟩
  go_wp2_with fail
  refine (elist_lst 1 [12, 6, 5, 2, 11, 10, 4, 3] 8 9 [12, 6, 5, 2, 11, 10, 4, 3, -1] _ rfl _ _ rfl (by decide) (by decide) rfl (by decide) (by decide) rfl rfl).mono ?_
  rintro e wC1 ⟨gC, cC, rfl, iC, nC⟩
  go_wp2_with fail
  refine (ebits_lst x _ gC 9 cC 0 (brP x) _ hx hx' rfl (by decide) iC (congrArg (fun v => sgn v 9) (e_b x))).mono ?_
  rintro e w' ⟨rfl, rfl⟩
  have n4 := nA.trans (nB.trans nC)
  clear nA nB nC iA iB iC
  go_wp2_with fail
  refine (efield_v x 15 13 3 _ _ hx hx' (by decide) (by decide) (by decide) (by decide) rfl hf).mono ?_
  rintro e w' ⟨rfl, rfl⟩
  obtain ⟨c0, c1, c2, c3, c4, z0, z1, z2, z3, z4, hz⟩ := five_cells n4
  have HN := Lib.hid (((Nx.refl w).alloc _).trans n4)
  clear n4
  go_wp2_with (go_at_call 80; refine (efew_any _ _ _ hx hx' (by decide) (by decide)).mono ?_; rintro e w' ⟨rfl, rfl⟩)
  refine bodyPost_ret (v := insV (sndI x 7 (fld x 7 5) (8 + fld x 7 3) (8 + fld x 2 3) (fld x 12 1) (n6P x) (jP x) (fld x 2 5) (fld x 10 2) (fld x 5 2))) (by simp [results, Tryz.results47, go_sem, insV, c0, c1, c2, c3, c4, sndI]) rfl ⟨rfl, ?_⟩
  repeat (with_reducible first | exact HN.out | refine Nx.alloc ?_ _ | refine Nx.setCell ?_ (Nat.le_refl _) _)

set_option maxHeartbeats 4000000 in
theorem q1_3a (x : Int) (w : World) (hx : 0 ≤ x) (hx' : x < 65536) (hf : fld x 13 3 = 3) (h : n6P x = 0) :
    Calls Tryz.prog 47 #[.int .u32 x] w fun e w' => e = .returned (insV (sndI x 3 (fld x 7 5) (8 + fld x 7 3) (8 + fld x 2 3) (fld x 12 1) (n6P x) (jP x) (fld x 2 5) (fld x 10 2) (fld x 5 2))) ∧ Nx w w' := by
  have r0 := fld_nonneg x 7 5
  have r1 : fld x 7 5 < 32 := fld_lt x 7 5
  have p0 := fld_nonneg x 2 5
  have p1 : fld x 2 5 < 32 := fld_lt x 2 5
  have g0 := fld_nonneg x 7 3
  have g1 : fld x 7 3 < 8 := fld_lt x 7 3
  have k0 := fld_nonneg x 2 3
  have k1 : fld x 2 3 < 8 := fld_lt x 2 3
  obtain ⟨m0, m1⟩ := n6_bd x
  go_enter Tryz.func47, Tryz.ntmps47
  go_wp2_with fail
  refine (efield_v x 11 7 5 (fld x 7 5) _ hx hx' (by decide) (by decide) (by decide) (by decide) rfl rfl).mono ?_
  rintro e w' ⟨rfl, rfl⟩
  go_wp2_with fail
  refine (elist_lst 0 [12, 6, 5, 4, 3, 2] 6 6 [12, 6, 5, 4, 3, 2] _ rfl _ _ (by simp) (by decide) (by decide) rfl (by decide) (by decide) rfl rfl).mono ?_
  rintro e wA1 ⟨gA, cA, rfl, iA, nA⟩
  go_wp2_with fail
  refine (ebits_lst x _ gA 6 cA 0 (n6P x) _ hx hx' rfl (by decide) iA (congrArg (fun v => sgn v 6) (e_n6 x))).mono ?_
  rintro e w' ⟨rfl, rfl⟩
  go_wp2_with fail
  refine (elist_lst 1 [12, 8, 10, 9, 6, 7, 2, 11, 5, 4, 3] 11 12 [12, 8, 10, 9, 6, 7, 2, 11, 5, 4, 3, -1] _ rfl _ _ rfl (by decide) (by decide) rfl (by decide) (by decide) rfl rfl).mono ?_
  rintro e wB1 ⟨gB, cB, rfl, iB, nB⟩
  go_wp2_with fail
  refine (ebits_lst x _ gB 12 cB 0 (jP x) _ hx hx' rfl (by decide) iB (congrArg (fun v => sgn v 12) (e_j x))).mono ?_
  rintro e w' ⟨rfl, rfl⟩
  go_wp2_with fail
  refine (elist_lst 1 [12, 6, 5, 2, 11, 10, 4, 3] 8 9 [12, 6, 5, 2, 11, 10, 4, 3, -1] _ rfl _ _ rfl (by decide) (by decide) rfl (by decide) (by decide) rfl rfl).mono ?_
  rintro e wC1 ⟨gC, cC, rfl, iC, nC⟩
  go_wp2_with fail
  refine (ebits_lst x _ gC 9 cC 0 (brP x) _ hx hx' rfl (by decide) iC (congrArg (fun v => sgn v 9) (e_b x))).mono ?_
  rintro e w' ⟨rfl, rfl⟩
  have n4 := nA.trans (nB.trans nC)
  clear nA nB nC iA iB iC
  go_wp2_with fail
  refine (efield_v x 15 13 3 _ _ hx hx' (by decide) (by decide) (by decide) (by decide) rfl hf).mono ?_
  rintro e w' ⟨rfl, rfl⟩
  have h' : (n6P x == 0) = true := by rw [beq_iff_eq]; exact h
  obtain ⟨c0, c1, c2, c3, c4, z0, z1, z2, z3, z4, hz⟩ := five_cells n4
  have HN := Lib.hid (((Nx.refl w).alloc _).trans n4)
  clear n4
  go_wp2
  refine bodyPost_ret (v := insV (sndI x 3 (fld x 7 5) (8 + fld x 7 3) (8 + fld x 2 3) (fld x 12 1) (n6P x) (jP x) (fld x 2 5) (fld x 10 2) (fld x 5 2))) (by simp [results, Tryz.results47, go_sem, insV, c0, c1, c2, c3, c4, sndI, uppI, none5, h]) rfl ⟨rfl, ?_⟩
  repeat (with_reducible first | exact HN.out | refine Nx.alloc ?_ _ | refine Nx.setCell ?_ (Nat.le_refl _) _)

set_option maxHeartbeats 4000000 in
theorem q1_3b (x : Int) (w : World) (hx : 0 ≤ x) (hx' : x < 65536) (hf : fld x 13 3 = 3) (h : ¬ n6P x = 0) (h2 : ¬ fld x 7 5 = 2) :
    Calls Tryz.prog 47 #[.int .u32 x] w fun e w' => e = .returned (insV (sndI x 3 (fld x 7 5) (8 + fld x 7 3) (8 + fld x 2 3) (fld x 12 1) (n6P x) (jP x) (fld x 2 5) (fld x 10 2) (fld x 5 2))) ∧ Nx w w' := by
  have r0 := fld_nonneg x 7 5
  have r1 : fld x 7 5 < 32 := fld_lt x 7 5
  have p0 := fld_nonneg x 2 5
  have p1 : fld x 2 5 < 32 := fld_lt x 2 5
  have g0 := fld_nonneg x 7 3
  have g1 : fld x 7 3 < 8 := fld_lt x 7 3
  have k0 := fld_nonneg x 2 3
  have k1 : fld x 2 3 < 8 := fld_lt x 2 3
  obtain ⟨m0, m1⟩ := n6_bd x
  go_enter Tryz.func47, Tryz.ntmps47
  go_wp2_with fail
  refine (efield_v x 11 7 5 (fld x 7 5) _ hx hx' (by decide) (by decide) (by decide) (by decide) rfl rfl).mono ?_
  rintro e w' ⟨rfl, rfl⟩
  go_wp2_with fail
  refine (elist_lst 0 [12, 6, 5, 4, 3, 2] 6 6 [12, 6, 5, 4, 3, 2] _ rfl _ _ (by simp) (by decide) (by decide) rfl (by decide) (by decide) rfl rfl).mono ?_
  rintro e wA1 ⟨gA, cA, rfl, iA, nA⟩
  go_wp2_with fail
  refine (ebits_lst x _ gA 6 cA 0 (n6P x) _ hx hx' rfl (by decide) iA (congrArg (fun v => sgn v 6) (e_n6 x))).mono ?_
  rintro e w' ⟨rfl, rfl⟩
  go_wp2_with fail
  refine (elist_lst 1 [12, 8, 10, 9, 6, 7, 2, 11, 5, 4, 3] 11 12 [12, 8, 10, 9, 6, 7, 2, 11, 5, 4, 3, -1] _ rfl _ _ rfl (by decide) (by decide) rfl (by decide) (by decide) rfl rfl).mono ?_
  rintro e wB1 ⟨gB, cB, rfl, iB, nB⟩
  go_wp2_with fail
  refine (ebits_lst x _ gB 12 cB 0 (jP x) _ hx hx' rfl (by decide) iB (congrArg (fun v => sgn v 12) (e_j x))).mono ?_
  rintro e w' ⟨rfl, rfl⟩
  go_wp2_with fail
  refine (elist_lst 1 [12, 6, 5, 2, 11, 10, 4, 3] 8 9 [12, 6, 5, 2, 11, 10, 4, 3, -1] _ rfl _ _ rfl (by decide) (by decide) rfl (by decide) (by decide) rfl rfl).mono ?_
  rintro e wC1 ⟨gC, cC, rfl, iC, nC⟩
  go_wp2_with fail
  refine (ebits_lst x _ gC 9 cC 0 (brP x) _ hx hx' rfl (by decide) iC (congrArg (fun v => sgn v 9) (e_b x))).mono ?_
  rintro e w' ⟨rfl, rfl⟩
  have n4 := nA.trans (nB.trans nC)
  clear nA nB nC iA iB iC
  go_wp2_with fail
  refine (efield_v x 15 13 3 _ _ hx hx' (by decide) (by decide) (by decide) (by decide) rfl hf).mono ?_
  rintro e w' ⟨rfl, rfl⟩
  have h' : (n6P x == 0) = false := beq_eq_false_iff_ne.2 h
  have h2' : (fld x 7 5 == 2) = false := beq_eq_false_iff_ne.2 h2
  obtain ⟨c0, c1, c2, c3, c4, z0, z1, z2, z3, z4, hz⟩ := five_cells n4
  have HN := Lib.hid (((Nx.refl w).alloc _).trans n4)
  clear n4
  go_wp2
  refine bodyPost_ret (v := insV (sndI x 3 (fld x 7 5) (8 + fld x 7 3) (8 + fld x 2 3) (fld x 12 1) (n6P x) (jP x) (fld x 2 5) (fld x 10 2) (fld x 5 2))) (by simp [results, Tryz.results47, go_sem, insV, c0, c1, c2, c3, c4, sndI, uppI, none5, h, h2, wrap32] <;> try omega) rfl ⟨rfl, ?_⟩
  repeat (with_reducible first | exact HN.out | refine Nx.alloc ?_ _ | refine Nx.setCell ?_ (Nat.le_refl _) _)

set_option maxHeartbeats 4000000 in
theorem q1_3c (x : Int) (w : World) (hx : 0 ≤ x) (hx' : x < 65536) (hf : fld x 13 3 = 3) (h : ¬ n6P x = 0) (h2 : fld x 7 5 = 2) :
    Calls Tryz.prog 47 #[.int .u32 x] w fun e w' => e = .returned (insV (sndI x 3 (fld x 7 5) (8 + fld x 7 3) (8 + fld x 2 3) (fld x 12 1) (n6P x) (jP x) (fld x 2 5) (fld x 10 2) (fld x 5 2))) ∧ Nx w w' := by
  have r0 := fld_nonneg x 7 5
  have r1 : fld x 7 5 < 32 := fld_lt x 7 5
  have p0 := fld_nonneg x 2 5
  have p1 : fld x 2 5 < 32 := fld_lt x 2 5
  have g0 := fld_nonneg x 7 3
  have g1 : fld x 7 3 < 8 := fld_lt x 7 3
  have k0 := fld_nonneg x 2 3
  have k1 : fld x 2 3 < 8 := fld_lt x 2 3
  obtain ⟨m0, m1⟩ := n6_bd x
  go_enter Tryz.func47, Tryz.ntmps47
  go_wp2_with fail
  refine (efield_v x 11 7 5 (fld x 7 5) _ hx hx' (by decide) (by decide) (by decide) (by decide) rfl rfl).mono ?_
  rintro e w' ⟨rfl, rfl⟩
  go_wp2_with fail
  refine (elist_lst 0 [12, 6, 5, 4, 3, 2] 6 6 [12, 6, 5, 4, 3, 2] _ rfl _ _ (by simp) (by decide) (by decide) rfl (by decide) (by decide) rfl rfl).mono ?_
  rintro e wA1 ⟨gA, cA, rfl, iA, nA⟩
  go_wp2_with fail
  refine (ebits_lst x _ gA 6 cA 0 (n6P x) _ hx hx' rfl (by decide) iA (congrArg (fun v => sgn v 6) (e_n6 x))).mono ?_
  rintro e w' ⟨rfl, rfl⟩
  go_wp2_with fail
  refine (elist_lst 1 [12, 8, 10, 9, 6, 7, 2, 11, 5, 4, 3] 11 12 [12, 8, 10, 9, 6, 7, 2, 11, 5, 4, 3, -1] _ rfl _ _ rfl (by decide) (by decide) rfl (by decide) (by decide) rfl rfl).mono ?_
  rintro e wB1 ⟨gB, cB, rfl, iB, nB⟩
  go_wp2_with fail
  refine (ebits_lst x _ gB 12 cB 0 (jP x) _ hx hx' rfl (by decide) iB (congrArg (fun v => sgn v 12) (e_j x))).mono ?_
  rintro e w' ⟨rfl, rfl⟩
  go_wp2_with fail
  refine (elist_lst 1 [12, 6, 5, 2, 11, 10, 4, 3] 8 9 [12, 6, 5, 2, 11, 10, 4, 3, -1] _ rfl _ _ rfl (by decide) (by decide) rfl (by decide) (by decide) rfl rfl).mono ?_
  rintro e wC1 ⟨gC, cC, rfl, iC, nC⟩
  go_wp2_with fail
  refine (ebits_lst x _ gC 9 cC 0 (brP x) _ hx hx' rfl (by decide) iC (congrArg (fun v => sgn v 9) (e_b x))).mono ?_
  rintro e w' ⟨rfl, rfl⟩
  have n4 := nA.trans (nB.trans nC)
  clear nA nB nC iA iB iC
  go_wp2_with fail
  refine (efield_v x 15 13 3 _ _ hx hx' (by decide) (by decide) (by decide) (by decide) rfl hf).mono ?_
  rintro e w' ⟨rfl, rfl⟩
  have h' : (n6P x == 0) = false := beq_eq_false_iff_ne.2 h
  have h2' : (fld x 7 5 == 2) = true := by rw [beq_iff_eq]; exact h2
  go_wp2_with fail
  refine (elist_lst 4 [12, 4, 3, 5, 2, 6] 6 10 [12, 4, 3, 5, 2, 6, -1, -1, -1, -1] _ rfl _ _ rfl (by decide) (by decide) rfl (by decide) (by decide) rfl rfl).mono ?_
  rintro e wD1 ⟨gD, cD, rfl, iD, nD⟩
  go_wp2_with fail
  refine (ebits_lst x _ gD 10 cD 0 (farP x) _ hx hx' rfl (by decide) iD (congrArg (fun v => sgn v 10) (e_far x))).mono ?_
  rintro e w' ⟨rfl, rfl⟩
  replace n4 := n4.trans nD
  clear nD iD
  obtain ⟨c0, c1, c2, c3, c4, z0, z1, z2, z3, z4, hz⟩ := five_cells n4
  have HN := Lib.hid (((Nx.refl w).alloc _).trans n4)
  clear n4
  go_wp2
  refine bodyPost_ret (v := insV (sndI x 3 (fld x 7 5) (8 + fld x 7 3) (8 + fld x 2 3) (fld x 12 1) (n6P x) (jP x) (fld x 2 5) (fld x 10 2) (fld x 5 2))) (by simp [results, Tryz.results47, go_sem, insV, c0, c1, c2, c3, c4, sndI, uppI, none5, h, h2]) rfl ⟨rfl, ?_⟩
  repeat (with_reducible first | exact HN.out | refine Nx.alloc ?_ _ | refine Nx.setCell ?_ (Nat.le_refl _) _)

set_option maxHeartbeats 4000000 in
theorem q1_4 (x : Int) (w : World) (hx : 0 ≤ x) (hx' : x < 65536) (hf : fld x 13 3 = 4) :
    Calls Tryz.prog 47 #[.int .u32 x] w fun e w' => e = .returned (insV (sndI x 4 (fld x 7 5) (8 + fld x 7 3) (8 + fld x 2 3) (fld x 12 1) (n6P x) (jP x) (fld x 2 5) (fld x 10 2) (fld x 5 2))) ∧ Nx w w' := by
  have r0 := fld_nonneg x 7 5
  have r1 : fld x 7 5 < 32 := fld_lt x 7 5
  have p0 := fld_nonneg x 2 5
  have p1 : fld x 2 5 < 32 := fld_lt x 2 5
  have g0 := fld_nonneg x 7 3
  have g1 : fld x 7 3 < 8 := fld_lt x 7 3
  have k0 := fld_nonneg x 2 3
  have k1 : fld x 2 3 < 8 := fld_lt x 2 3
  obtain ⟨m0, m1⟩ := n6_bd x
  go_enter Tryz.func47, Tryz.ntmps47
  go_wp2_with fail
  refine (efield_v x 11 7 5 (fld x 7 5) _ hx hx' (by decide) (by decide) (by decide) (by decide) rfl rfl).mono ?_
  rintro e w' ⟨rfl, rfl⟩
  go_wp2_with fail
  refine (elist_lst 0 [12, 6, 5, 4, 3, 2] 6 6 [12, 6, 5, 4, 3, 2] _ rfl _ _ (by simp) (by decide) (by decide) rfl (by decide) (by decide) rfl rfl).mono ?_
  rintro e wA1 ⟨gA, cA, rfl, iA, nA⟩
  go_wp2_with fail
  refine (ebits_lst x _ gA 6 cA 0 (n6P x) _ hx hx' rfl (by decide) iA (congrArg (fun v => sgn v 6) (e_n6 x))).mono ?_
  rintro e w' ⟨rfl, rfl⟩
  go_wp2_with fail
  refine (elist_lst 1 [12, 8, 10, 9, 6, 7, 2, 11, 5, 4, 3] 11 12 [12, 8, 10, 9, 6, 7, 2, 11, 5, 4, 3, -1] _ rfl _ _ rfl (by decide) (by decide) rfl (by decide) (by decide) rfl rfl).mono ?_
  rintro e wB1 ⟨gB, cB, rfl, iB, nB⟩
  go_wp2_with fail
  refine (ebits_lst x _ gB 12 cB 0 (jP x) _ hx hx' rfl (by decide) iB (congrArg (fun v => sgn v 12) (e_j x))).mono ?_
  rintro e w' ⟨rfl, rfl⟩
  go_wp2_with fail
  refine (elist_lst 1 [12, 6, 5, 2, 11, 10, 4, 3] 8 9 [12, 6, 5, 2, 11, 10, 4, 3, -1] _ rfl _ _ rfl (by decide) (by decide) rfl (by decide) (by decide) rfl rfl).mono ?_
  rintro e wC1 ⟨gC, cC, rfl, iC, nC⟩
  go_wp2_with fail
  refine (ebits_lst x _ gC 9 cC 0 (brP x) _ hx hx' rfl (by decide) iC (congrArg (fun v => sgn v 9) (e_b x))).mono ?_
  rintro e w' ⟨rfl, rfl⟩
  have n4 := nA.trans (nB.trans nC)
  clear nA nB nC iA iB iC
  go_wp2_with fail
  refine (efield_v x 15 13 3 _ _ hx hx' (by decide) (by decide) (by decide) (by decide) rfl hf).mono ?_
  rintro e w' ⟨rfl, rfl⟩
  go_wp2_with fail
  refine (sums_any x _ _ hx hx').mono ?_
  rintro e w5 ⟨rfl, n5⟩
  replace n4 := n4.trans n5
  clear n5
  unfold insV
  obtain ⟨c0, c1, c2, c3, c4, z0, z1, z2, z3, z4, hz⟩ := five_cells n4
  have HN := Lib.hid (((Nx.refl w).alloc _).trans n4)
  clear n4
  go_wp2
  refine bodyPost_ret (v := insV (sndI x 4 (fld x 7 5) (8 + fld x 7 3) (8 + fld x 2 3) (fld x 12 1) (n6P x) (jP x) (fld x 2 5) (fld x 10 2) (fld x 5 2))) (by simp [results, Tryz.results47, go_sem, insV, c0, c1, c2, c3, c4, sndI]) rfl ⟨rfl, ?_⟩
  repeat (with_reducible first | exact HN.out | refine Nx.alloc ?_ _ | refine Nx.setCell ?_ (Nat.le_refl _) _)

theorem quarter1_any (x : Int) (w : World) (hx : 0 ≤ x) (hx' : x < 65536) :
    Calls Tryz.prog 47 #[.int .u32 x] w fun e w' => e = .returned (insV (sndI x (fld x 13 3) (fld x 7 5) (8 + fld x 7 3) (8 + fld x 2 3) (fld x 12 1) (n6P x) (jP x) (fld x 2 5) (fld x 10 2) (fld x 5 2))) ∧ Nx w w' := by
  have f0 := fld_nonneg x 13 3
  have ff : fld x 13 3 < 8 := fld_lt x 13 3
  have hf : fld x 13 3 = 0 ∨ fld x 13 3 = 1 ∨ fld x 13 3 = 2 ∨ fld x 13 3 = 3 ∨ fld x 13 3 = 4 ∨ fld x 13 3 = 5 ∨ fld x 13 3 = 6 ∨ fld x 13 3 = 7 := by omega
  rcases hf with h | h | h | h | h | h | h | h <;> rw [h]
  · exact q1_0 x w hx hx' h
  · exact q1_1 x w hx hx' h
  · exact q1_2 x w hx hx' h
  · by_cases h1 : n6P x = 0
    · exact q1_3a x w hx hx' h h1
    · by_cases h2 : fld x 7 5 = 2
      · exact q1_3c x w hx hx' h h1 h2
      · exact q1_3b x w hx hx' h h1 h2
  · exact q1_4 x w hx hx' h
  · exact q1_5 x w hx hx' h
  · exact q1_6 x w hx hx' h
  · exact q1_7 x w hx hx' h

end Go.Proofs.YtndpgakjpokllaaGreat

/- Contracts of package typecaseref05: Expand. -/
namespace Go.Proofs.YtndpgakjpokllaaGreat
open Go.RowKit
set_option linter.unusedVariables false
set_option linter.unusedSimpArgs false

set_option maxHeartbeats 1000000 in
theorem rexp_q0 (x : Int) (w : World) (hx : 0 ≤ x) (hx' : x < 65536) (hq : fld x 0 2 = 0) :
    Calls Tryz.prog 25 #[.int .u16 x] w fun e w' => e = .returned (.tuple #[insV (expI x), .bool (decide (0 < (expI x).op))]) ∧ Nx w w' := by
  have hm : x % 65536 = x := by omega
  have h4 : x % 4 = 0 := by rw [← fld_q]; exact hq
  have hm2 : x % 4294967296 = x := by omega
  have eI : expI x = fstI x (fld x 13 3) (8 + fld x 7 3) (8 + fld x 2 3) := by unfold expI; simp [hq]
  have hc := fun w => quarter0_any x w hx hx'
  rw [← eI] at hc
  clear eI hq
  generalize expI x = I at hc
  go_enter Tryz.func25, Tryz.ntmps25
  go_wp2_with fail
  refine (hc _).mono ?_
  rintro e w2 ⟨rfl, hn2⟩
  obtain ⟨c0, c1, c2, c3, c4, z0, z1, z2, z3, z4, hz⟩ := five_res hn2
  obtain ⟨d0, d1, d2, d3, d4, y0, y1, y2, y3, y4, hy⟩ := five_cells (((Nx.refl _).alloc _).trans hn2)
  have HN := Lib.hid ((((Nx.refl w).alloc _).alloc _).trans hn2)
  clear hn2
  unfold insV
  go_wp2
  go_region
  all_goals go_wp2
  all_goals
    refine bodyPost_ret (v := .tuple #[.agg #[.int .i64 I.op, .int .i64 I.rd, .int .i64 I.rs1, .int .i64 I.rs2, .int .i32 I.imm], .bool (decide (0 < I.op))]) (by simp [results, Tryz.results25, go_sem, c0, c1, c2, c3, c4, d0, d1, d2, d3, d4, hz, hy]) rfl ⟨rfl, ?_⟩
    repeat (with_reducible first | exact HN.out | refine Nx.drew ?_ | refine Nx.alloc ?_ _ | refine Nx.setCell ?_ (Nat.le_refl _) _ | refine Nx.setCell ?_ (Nat.le_succ _) _)

set_option maxHeartbeats 1000000 in
theorem rexp_q1 (x : Int) (w : World) (hx : 0 ≤ x) (hx' : x < 65536) (hq : fld x 0 2 = 1) :
    Calls Tryz.prog 25 #[.int .u16 x] w fun e w' => e = .returned (.tuple #[insV (expI x), .bool (decide (0 < (expI x).op))]) ∧ Nx w w' := by
  have hm : x % 65536 = x := by omega
  have h4 : x % 4 = 1 := by rw [← fld_q]; exact hq
  have hm2 : x % 4294967296 = x := by omega
  have eI : expI x = sndI x (fld x 13 3) (fld x 7 5) (8 + fld x 7 3) (8 + fld x 2 3) (fld x 12 1) (n6P x) (jP x) (fld x 2 5) (fld x 10 2) (fld x 5 2) := by unfold expI; simp [hq]
  have hc := fun w => quarter1_any x w hx hx'
  rw [← eI] at hc
  clear eI hq
  generalize expI x = I at hc
  go_enter Tryz.func25, Tryz.ntmps25
  go_wp2_with fail
  refine (hc _).mono ?_
  rintro e w2 ⟨rfl, hn2⟩
  obtain ⟨c0, c1, c2, c3, c4, z0, z1, z2, z3, z4, hz⟩ := five_res hn2
  obtain ⟨d0, d1, d2, d3, d4, y0, y1, y2, y3, y4, hy⟩ := five_cells (((Nx.refl _).alloc _).trans hn2)
  have HN := Lib.hid ((((Nx.refl w).alloc _).alloc _).trans hn2)
  clear hn2
  unfold insV
  go_wp2
  go_region
  all_goals go_wp2
  all_goals
    refine bodyPost_ret (v := .tuple #[.agg #[.int .i64 I.op, .int .i64 I.rd, .int .i64 I.rs1, .int .i64 I.rs2, .int .i32 I.imm], .bool (decide (0 < I.op))]) (by simp [results, Tryz.results25, go_sem, c0, c1, c2, c3, c4, d0, d1, d2, d3, d4, hz, hy]) rfl ⟨rfl, ?_⟩
    repeat (with_reducible first | exact HN.out | refine Nx.drew ?_ | refine Nx.alloc ?_ _ | refine Nx.setCell ?_ (Nat.le_refl _) _ | refine Nx.setCell ?_ (Nat.le_succ _) _)

set_option maxHeartbeats 1000000 in
theorem rexp_q2 (x : Int) (w : World) (hx : 0 ≤ x) (hx' : x < 65536) (hq : fld x 0 2 = 2) :
    Calls Tryz.prog 25 #[.int .u16 x] w fun e w' => e = .returned (.tuple #[insV (expI x), .bool (decide (0 < (expI x).op))]) ∧ Nx w w' := by
  have hm : x % 65536 = x := by omega
  have h4 : x % 4 = 2 := by rw [← fld_q]; exact hq
  have hm2 : x % 4294967296 = x := by omega
  have eI : expI x = thdI x (fld x 13 3) (fld x 7 5) (fld x 2 5) (fld x 12 1) (fld x 2 5) := by unfold expI; simp [hq]
  have hc := fun w => quarter2_any x w hx hx'
  rw [← eI] at hc
  clear eI hq
  generalize expI x = I at hc
  go_enter Tryz.func25, Tryz.ntmps25
  go_wp2_with fail
  refine (hc _).mono ?_
  rintro e w2 ⟨rfl, hn2⟩
  obtain ⟨c0, c1, c2, c3, c4, z0, z1, z2, z3, z4, hz⟩ := five_res hn2
  obtain ⟨d0, d1, d2, d3, d4, y0, y1, y2, y3, y4, hy⟩ := five_cells (((Nx.refl _).alloc _).trans hn2)
  have HN := Lib.hid ((((Nx.refl w).alloc _).alloc _).trans hn2)
  clear hn2
  unfold insV
  go_wp2
  go_region
  all_goals go_wp2
  all_goals
    refine bodyPost_ret (v := .tuple #[.agg #[.int .i64 I.op, .int .i64 I.rd, .int .i64 I.rs1, .int .i64 I.rs2, .int .i32 I.imm], .bool (decide (0 < I.op))]) (by simp [results, Tryz.results25, go_sem, c0, c1, c2, c3, c4, d0, d1, d2, d3, d4, hz, hy]) rfl ⟨rfl, ?_⟩
    repeat (with_reducible first | exact HN.out | refine Nx.drew ?_ | refine Nx.alloc ?_ _ | refine Nx.setCell ?_ (Nat.le_refl _) _ | refine Nx.setCell ?_ (Nat.le_succ _) _)

set_option maxHeartbeats 1000000 in
theorem rexp_q3 (x : Int) (w : World) (hx : 0 ≤ x) (hx' : x < 65536) (hq : fld x 0 2 = 3) :
    Calls Tryz.prog 25 #[.int .u16 x] w fun e w' => e = .returned (.tuple #[insV (expI x), .bool (decide (0 < (expI x).op))]) ∧ Nx w w' := by
  have hm : x % 65536 = x := by omega
  have h4 : x % 4 = 3 := by rw [← fld_q]; exact hq
  have eI : expI x = none5 := by unfold expI; simp [hq]
  rw [eI]
  go_enter Tryz.func25, Tryz.ntmps25
  go_wp2
  go_region
  all_goals go_wp2
  all_goals
    refine bodyPost_ret (v := .tuple #[.agg #[.int .i64 0, .int .i64 0, .int .i64 0, .int .i64 0, .int .i32 0], .bool false]) (by simp [results, Tryz.results25, go_sem]) rfl ⟨rfl, ?_⟩
    repeat (with_reducible first | exact Nx.refl _ | refine Nx.drew ?_ | refine Nx.alloc ?_ _ | refine Nx.setCell ?_ (Nat.le_refl _) _ | refine Nx.setCell ?_ (Nat.le_succ _) _)

theorem rexp_any (x : Int) (w : World) (hx : 0 ≤ x) (hx' : x < 65536) :
    Calls Tryz.prog 25 #[.int .u16 x] w fun e w' => e = .returned (.tuple #[insV (expI x), .bool (decide (0 < (expI x).op))]) ∧ Nx w w' := by
  have g0 := fld_nonneg x 0 2
  have g1 : fld x 0 2 < 4 := fld_lt x 0 2
  have hq : fld x 0 2 = 0 ∨ fld x 0 2 = 1 ∨ fld x 0 2 = 2 ∨ fld x 0 2 = 3 := by omega
  rcases hq with hq | hq | hq | hq
  · exact rexp_q0 x w hx hx' hq
  · exact rexp_q1 x w hx hx' hq
  · exact rexp_q2 x w hx hx' hq
  · exact rexp_q3 x w hx hx' hq

end Go.Proofs.YtndpgakjpokllaaGreat

/- Contracts of package typecaseref06: Next. -/
namespace Go.Proofs.YtndpgakjpokllaaGreat
open Go.RowKit
set_option linter.unusedVariables false
set_option linter.unusedSimpArgs false

/-- A slice comes back, of which this place has this text. -/
def RetAt (k : Nat) (s : List UInt8) (w : World) (e : Ending) (w' : World) : Prop := ∃ g, e = .returned (.slice (some ⟨g, 0, none⟩) 49 49) ∧ w'.cell? ⟨g, k, none⟩ = some (.string (B s)) ∧ Nx w w'

theorem names_at (k : Nat) (s : List UInt8) (h : nmB[k]? = some s) (w : World) : Calls Tryz.prog 62 #[] w (RetAt k s w) :=
  (names_any w).mono fun e w' ⟨he, hs, hn⟩ => ⟨_, he, hs k s h, hn⟩

theorem wrap_signed (a : Int) (h : 0 ≤ a) (h' : a < 4294967296) : wrap32 a = if 2147483648 ≤ a then a - 4294967296 else a := by unfold wrap32; split <;> omega

theorem and_shift (x k n : Nat) : x &&& ((2 ^ n - 1) * 2 ^ k) = (x / 2 ^ k % 2 ^ n) * 2 ^ k := by
  rw [← Nat.shiftLeft_eq, ← Nat.shiftLeft_eq, ← Nat.shiftRight_eq_div_pow]
  apply Nat.eq_of_testBit_eq
  intro i
  simp only [Nat.testBit_and, Nat.testBit_shiftLeft, Nat.testBit_mod_two_pow, Nat.testBit_shiftRight, Nat.testBit_two_pow_sub_one]
  by_cases h : k ≤ i
  · rw [show k + (i - k) = i from by omega]; simp [h, Bool.and_comm]
  · simp [h]

theorem jalr_even (a imm : Int) : nextV 4 a 0 0 imm 0 = (a + imm % 4294967296) % 4294967296 - (a + imm % 4294967296) % 4294967296 % 2 := by
  show bits .andNot .u32 ((a + imm % 4294967296) % 4294967296) 1 = _
  have h1 : 0 ≤ (a + imm % 4294967296) % 4294967296 := by omega
  have h2 : (a + imm % 4294967296) % 4294967296 < 4294967296 := by omega
  generalize (a + imm % 4294967296) % 4294967296 = x at *
  obtain ⟨n, rfl⟩ := Int.eq_ofNat_of_zero_le h1
  have h := u32_andNot_nat n 1 (by omega) (by decide)
  have e : n &&& 4294967294 = n - n % 2 := by
    have e1 : 4294967294 = (2 ^ 31 - 1) * 2 ^ 1 := by decide
    have e2 := and_shift n 1 31
    rw [e1, e2]
    omega
  rw [show (4294967295 - 1 : Nat) = 4294967294 from by decide, e] at h
  exact h.trans (by omega)

set_option maxHeartbeats 400000 in
theorem rsigned_any (a : Int) (w : World) (h : 0 ≤ a) (h' : a < 4294967296) : Calls Tryz.prog 65 #[.int .u32 a] w fun e w' => e = .returned (.int .i64 (wrap32 a)) ∧ w = w' := by
  have HW := Lib.hid (wrap_signed a h h')
  go_enter Tryz.func65, Tryz.ntmps65
  go_wp2
  all_goals
    go_ret
    exact ⟨ret_i64 (by rw [HW.out]; split <;> omega), rfl⟩

set_option maxHeartbeats 400000 in
theorem goes_1 (a b : Int) (w : World) (a1 : 0 ≤ a) (a2 : a < 4294967296) (b1 : 0 ≤ b) (b2 : b < 4294967296) : Calls Tryz.prog 73 #[.string (B [108, 117, 105]), .int .u32 a, .int .u32 b] w fun e w' => e = .returned (.bool false) ∧ w = w' := by
  go_enter Tryz.func73, Tryz.ntmps73
  go_wp2_with (go_at_call 65; refine (rsigned_any _ _ (by omega) (by omega)).mono ?_; rintro e w' ⟨rfl, rfl⟩)
  all_goals
    go_ret
    exact ⟨rfl, rfl⟩

set_option maxHeartbeats 400000 in
theorem goes_2 (a b : Int) (w : World) (a1 : 0 ≤ a) (a2 : a < 4294967296) (b1 : 0 ≤ b) (b2 : b < 4294967296) : Calls Tryz.prog 73 #[.string (B [97, 117, 105, 112, 99]), .int .u32 a, .int .u32 b] w fun e w' => e = .returned (.bool false) ∧ w = w' := by
  go_enter Tryz.func73, Tryz.ntmps73
  go_wp2_with (go_at_call 65; refine (rsigned_any _ _ (by omega) (by omega)).mono ?_; rintro e w' ⟨rfl, rfl⟩)
  all_goals
    go_ret
    exact ⟨rfl, rfl⟩

set_option maxHeartbeats 400000 in
theorem goes_3 (a b : Int) (w : World) (a1 : 0 ≤ a) (a2 : a < 4294967296) (b1 : 0 ≤ b) (b2 : b < 4294967296) : Calls Tryz.prog 73 #[.string (B [106, 97, 108]), .int .u32 a, .int .u32 b] w fun e w' => e = .returned (.bool false) ∧ w = w' := by
  go_enter Tryz.func73, Tryz.ntmps73
  go_wp2_with (go_at_call 65; refine (rsigned_any _ _ (by omega) (by omega)).mono ?_; rintro e w' ⟨rfl, rfl⟩)
  all_goals
    go_ret
    exact ⟨rfl, rfl⟩

set_option maxHeartbeats 400000 in
theorem goes_4 (a b : Int) (w : World) (a1 : 0 ≤ a) (a2 : a < 4294967296) (b1 : 0 ≤ b) (b2 : b < 4294967296) : Calls Tryz.prog 73 #[.string (B [106, 97, 108, 114]), .int .u32 a, .int .u32 b] w fun e w' => e = .returned (.bool false) ∧ w = w' := by
  go_enter Tryz.func73, Tryz.ntmps73
  go_wp2_with (go_at_call 65; refine (rsigned_any _ _ (by omega) (by omega)).mono ?_; rintro e w' ⟨rfl, rfl⟩)
  all_goals
    go_ret
    exact ⟨rfl, rfl⟩

set_option maxHeartbeats 400000 in
theorem goes_5 (a b : Int) (w : World) (a1 : 0 ≤ a) (a2 : a < 4294967296) (b1 : 0 ≤ b) (b2 : b < 4294967296) : Calls Tryz.prog 73 #[.string (B [98, 101, 113]), .int .u32 a, .int .u32 b] w fun e w' => e = .returned (.bool (a == b)) ∧ w = w' := by
  go_enter Tryz.func73, Tryz.ntmps73
  go_wp2_with (go_at_call 65; refine (rsigned_any _ _ (by omega) (by omega)).mono ?_; rintro e w' ⟨rfl, rfl⟩)
  all_goals
    go_ret
    exact ⟨rfl, rfl⟩

set_option maxHeartbeats 400000 in
theorem goes_6 (a b : Int) (w : World) (a1 : 0 ≤ a) (a2 : a < 4294967296) (b1 : 0 ≤ b) (b2 : b < 4294967296) : Calls Tryz.prog 73 #[.string (B [98, 110, 101]), .int .u32 a, .int .u32 b] w fun e w' => e = .returned (.bool (a != b)) ∧ w = w' := by
  go_enter Tryz.func73, Tryz.ntmps73
  go_wp2_with (go_at_call 65; refine (rsigned_any _ _ (by omega) (by omega)).mono ?_; rintro e w' ⟨rfl, rfl⟩)
  all_goals
    go_ret
    exact ⟨rfl, rfl⟩

set_option maxHeartbeats 400000 in
theorem goes_7 (a b : Int) (w : World) (a1 : 0 ≤ a) (a2 : a < 4294967296) (b1 : 0 ≤ b) (b2 : b < 4294967296) : Calls Tryz.prog 73 #[.string (B [98, 108, 116]), .int .u32 a, .int .u32 b] w fun e w' => e = .returned (.bool (decide (wrap32 a < wrap32 b))) ∧ w = w' := by
  go_enter Tryz.func73, Tryz.ntmps73
  go_wp2_with (go_at_call 65; refine (rsigned_any _ _ (by omega) (by omega)).mono ?_; rintro e w' ⟨rfl, rfl⟩)
  all_goals
    go_ret
    exact ⟨rfl, rfl⟩

set_option maxHeartbeats 400000 in
theorem goes_8 (a b : Int) (w : World) (a1 : 0 ≤ a) (a2 : a < 4294967296) (b1 : 0 ≤ b) (b2 : b < 4294967296) : Calls Tryz.prog 73 #[.string (B [98, 103, 101]), .int .u32 a, .int .u32 b] w fun e w' => e = .returned (.bool (decide (wrap32 b ≤ wrap32 a))) ∧ w = w' := by
  go_enter Tryz.func73, Tryz.ntmps73
  go_wp2_with (go_at_call 65; refine (rsigned_any _ _ (by omega) (by omega)).mono ?_; rintro e w' ⟨rfl, rfl⟩)
  all_goals
    go_ret
    exact ⟨rfl, rfl⟩

set_option maxHeartbeats 400000 in
theorem goes_9 (a b : Int) (w : World) (a1 : 0 ≤ a) (a2 : a < 4294967296) (b1 : 0 ≤ b) (b2 : b < 4294967296) : Calls Tryz.prog 73 #[.string (B [98, 108, 116, 117]), .int .u32 a, .int .u32 b] w fun e w' => e = .returned (.bool (decide (a < b))) ∧ w = w' := by
  go_enter Tryz.func73, Tryz.ntmps73
  go_wp2_with (go_at_call 65; refine (rsigned_any _ _ (by omega) (by omega)).mono ?_; rintro e w' ⟨rfl, rfl⟩)
  all_goals
    go_ret
    exact ⟨rfl, rfl⟩

set_option maxHeartbeats 400000 in
theorem goes_10 (a b : Int) (w : World) (a1 : 0 ≤ a) (a2 : a < 4294967296) (b1 : 0 ≤ b) (b2 : b < 4294967296) : Calls Tryz.prog 73 #[.string (B [98, 103, 101, 117]), .int .u32 a, .int .u32 b] w fun e w' => e = .returned (.bool (decide (b ≤ a))) ∧ w = w' := by
  go_enter Tryz.func73, Tryz.ntmps73
  go_wp2_with (go_at_call 65; refine (rsigned_any _ _ (by omega) (by omega)).mono ?_; rintro e w' ⟨rfl, rfl⟩)
  all_goals
    go_ret
    exact ⟨rfl, rfl⟩

set_option maxHeartbeats 400000 in
theorem goes_11 (a b : Int) (w : World) (a1 : 0 ≤ a) (a2 : a < 4294967296) (b1 : 0 ≤ b) (b2 : b < 4294967296) : Calls Tryz.prog 73 #[.string (B [108, 98]), .int .u32 a, .int .u32 b] w fun e w' => e = .returned (.bool false) ∧ w = w' := by
  go_enter Tryz.func73, Tryz.ntmps73
  go_wp2_with (go_at_call 65; refine (rsigned_any _ _ (by omega) (by omega)).mono ?_; rintro e w' ⟨rfl, rfl⟩)
  all_goals
    go_ret
    exact ⟨rfl, rfl⟩

set_option maxHeartbeats 400000 in
theorem goes_12 (a b : Int) (w : World) (a1 : 0 ≤ a) (a2 : a < 4294967296) (b1 : 0 ≤ b) (b2 : b < 4294967296) : Calls Tryz.prog 73 #[.string (B [108, 104]), .int .u32 a, .int .u32 b] w fun e w' => e = .returned (.bool false) ∧ w = w' := by
  go_enter Tryz.func73, Tryz.ntmps73
  go_wp2_with (go_at_call 65; refine (rsigned_any _ _ (by omega) (by omega)).mono ?_; rintro e w' ⟨rfl, rfl⟩)
  all_goals
    go_ret
    exact ⟨rfl, rfl⟩

set_option maxHeartbeats 400000 in
theorem goes_13 (a b : Int) (w : World) (a1 : 0 ≤ a) (a2 : a < 4294967296) (b1 : 0 ≤ b) (b2 : b < 4294967296) : Calls Tryz.prog 73 #[.string (B [108, 119]), .int .u32 a, .int .u32 b] w fun e w' => e = .returned (.bool false) ∧ w = w' := by
  go_enter Tryz.func73, Tryz.ntmps73
  go_wp2_with (go_at_call 65; refine (rsigned_any _ _ (by omega) (by omega)).mono ?_; rintro e w' ⟨rfl, rfl⟩)
  all_goals
    go_ret
    exact ⟨rfl, rfl⟩

set_option maxHeartbeats 400000 in
theorem goes_14 (a b : Int) (w : World) (a1 : 0 ≤ a) (a2 : a < 4294967296) (b1 : 0 ≤ b) (b2 : b < 4294967296) : Calls Tryz.prog 73 #[.string (B [108, 98, 117]), .int .u32 a, .int .u32 b] w fun e w' => e = .returned (.bool false) ∧ w = w' := by
  go_enter Tryz.func73, Tryz.ntmps73
  go_wp2_with (go_at_call 65; refine (rsigned_any _ _ (by omega) (by omega)).mono ?_; rintro e w' ⟨rfl, rfl⟩)
  all_goals
    go_ret
    exact ⟨rfl, rfl⟩

set_option maxHeartbeats 400000 in
theorem goes_15 (a b : Int) (w : World) (a1 : 0 ≤ a) (a2 : a < 4294967296) (b1 : 0 ≤ b) (b2 : b < 4294967296) : Calls Tryz.prog 73 #[.string (B [108, 104, 117]), .int .u32 a, .int .u32 b] w fun e w' => e = .returned (.bool false) ∧ w = w' := by
  go_enter Tryz.func73, Tryz.ntmps73
  go_wp2_with (go_at_call 65; refine (rsigned_any _ _ (by omega) (by omega)).mono ?_; rintro e w' ⟨rfl, rfl⟩)
  all_goals
    go_ret
    exact ⟨rfl, rfl⟩

set_option maxHeartbeats 400000 in
theorem goes_16 (a b : Int) (w : World) (a1 : 0 ≤ a) (a2 : a < 4294967296) (b1 : 0 ≤ b) (b2 : b < 4294967296) : Calls Tryz.prog 73 #[.string (B [115, 98]), .int .u32 a, .int .u32 b] w fun e w' => e = .returned (.bool false) ∧ w = w' := by
  go_enter Tryz.func73, Tryz.ntmps73
  go_wp2_with (go_at_call 65; refine (rsigned_any _ _ (by omega) (by omega)).mono ?_; rintro e w' ⟨rfl, rfl⟩)
  all_goals
    go_ret
    exact ⟨rfl, rfl⟩

set_option maxHeartbeats 400000 in
theorem goes_17 (a b : Int) (w : World) (a1 : 0 ≤ a) (a2 : a < 4294967296) (b1 : 0 ≤ b) (b2 : b < 4294967296) : Calls Tryz.prog 73 #[.string (B [115, 104]), .int .u32 a, .int .u32 b] w fun e w' => e = .returned (.bool false) ∧ w = w' := by
  go_enter Tryz.func73, Tryz.ntmps73
  go_wp2_with (go_at_call 65; refine (rsigned_any _ _ (by omega) (by omega)).mono ?_; rintro e w' ⟨rfl, rfl⟩)
  all_goals
    go_ret
    exact ⟨rfl, rfl⟩

set_option maxHeartbeats 400000 in
theorem goes_18 (a b : Int) (w : World) (a1 : 0 ≤ a) (a2 : a < 4294967296) (b1 : 0 ≤ b) (b2 : b < 4294967296) : Calls Tryz.prog 73 #[.string (B [115, 119]), .int .u32 a, .int .u32 b] w fun e w' => e = .returned (.bool false) ∧ w = w' := by
  go_enter Tryz.func73, Tryz.ntmps73
  go_wp2_with (go_at_call 65; refine (rsigned_any _ _ (by omega) (by omega)).mono ?_; rintro e w' ⟨rfl, rfl⟩)
  all_goals
    go_ret
    exact ⟨rfl, rfl⟩

set_option maxHeartbeats 400000 in
theorem goes_19 (a b : Int) (w : World) (a1 : 0 ≤ a) (a2 : a < 4294967296) (b1 : 0 ≤ b) (b2 : b < 4294967296) : Calls Tryz.prog 73 #[.string (B [97, 100, 100, 105]), .int .u32 a, .int .u32 b] w fun e w' => e = .returned (.bool false) ∧ w = w' := by
  go_enter Tryz.func73, Tryz.ntmps73
  go_wp2_with (go_at_call 65; refine (rsigned_any _ _ (by omega) (by omega)).mono ?_; rintro e w' ⟨rfl, rfl⟩)
  all_goals
    go_ret
    exact ⟨rfl, rfl⟩

set_option maxHeartbeats 400000 in
theorem goes_20 (a b : Int) (w : World) (a1 : 0 ≤ a) (a2 : a < 4294967296) (b1 : 0 ≤ b) (b2 : b < 4294967296) : Calls Tryz.prog 73 #[.string (B [115, 108, 116, 105]), .int .u32 a, .int .u32 b] w fun e w' => e = .returned (.bool false) ∧ w = w' := by
  go_enter Tryz.func73, Tryz.ntmps73
  go_wp2_with (go_at_call 65; refine (rsigned_any _ _ (by omega) (by omega)).mono ?_; rintro e w' ⟨rfl, rfl⟩)
  all_goals
    go_ret
    exact ⟨rfl, rfl⟩

set_option maxHeartbeats 400000 in
theorem goes_21 (a b : Int) (w : World) (a1 : 0 ≤ a) (a2 : a < 4294967296) (b1 : 0 ≤ b) (b2 : b < 4294967296) : Calls Tryz.prog 73 #[.string (B [115, 108, 116, 105, 117]), .int .u32 a, .int .u32 b] w fun e w' => e = .returned (.bool false) ∧ w = w' := by
  go_enter Tryz.func73, Tryz.ntmps73
  go_wp2_with (go_at_call 65; refine (rsigned_any _ _ (by omega) (by omega)).mono ?_; rintro e w' ⟨rfl, rfl⟩)
  all_goals
    go_ret
    exact ⟨rfl, rfl⟩

set_option maxHeartbeats 400000 in
theorem goes_22 (a b : Int) (w : World) (a1 : 0 ≤ a) (a2 : a < 4294967296) (b1 : 0 ≤ b) (b2 : b < 4294967296) : Calls Tryz.prog 73 #[.string (B [120, 111, 114, 105]), .int .u32 a, .int .u32 b] w fun e w' => e = .returned (.bool false) ∧ w = w' := by
  go_enter Tryz.func73, Tryz.ntmps73
  go_wp2_with (go_at_call 65; refine (rsigned_any _ _ (by omega) (by omega)).mono ?_; rintro e w' ⟨rfl, rfl⟩)
  all_goals
    go_ret
    exact ⟨rfl, rfl⟩

set_option maxHeartbeats 400000 in
theorem goes_23 (a b : Int) (w : World) (a1 : 0 ≤ a) (a2 : a < 4294967296) (b1 : 0 ≤ b) (b2 : b < 4294967296) : Calls Tryz.prog 73 #[.string (B [111, 114, 105]), .int .u32 a, .int .u32 b] w fun e w' => e = .returned (.bool false) ∧ w = w' := by
  go_enter Tryz.func73, Tryz.ntmps73
  go_wp2_with (go_at_call 65; refine (rsigned_any _ _ (by omega) (by omega)).mono ?_; rintro e w' ⟨rfl, rfl⟩)
  all_goals
    go_ret
    exact ⟨rfl, rfl⟩

set_option maxHeartbeats 400000 in
theorem goes_24 (a b : Int) (w : World) (a1 : 0 ≤ a) (a2 : a < 4294967296) (b1 : 0 ≤ b) (b2 : b < 4294967296) : Calls Tryz.prog 73 #[.string (B [97, 110, 100, 105]), .int .u32 a, .int .u32 b] w fun e w' => e = .returned (.bool false) ∧ w = w' := by
  go_enter Tryz.func73, Tryz.ntmps73
  go_wp2_with (go_at_call 65; refine (rsigned_any _ _ (by omega) (by omega)).mono ?_; rintro e w' ⟨rfl, rfl⟩)
  all_goals
    go_ret
    exact ⟨rfl, rfl⟩

set_option maxHeartbeats 400000 in
theorem goes_25 (a b : Int) (w : World) (a1 : 0 ≤ a) (a2 : a < 4294967296) (b1 : 0 ≤ b) (b2 : b < 4294967296) : Calls Tryz.prog 73 #[.string (B [115, 108, 108, 105]), .int .u32 a, .int .u32 b] w fun e w' => e = .returned (.bool false) ∧ w = w' := by
  go_enter Tryz.func73, Tryz.ntmps73
  go_wp2_with (go_at_call 65; refine (rsigned_any _ _ (by omega) (by omega)).mono ?_; rintro e w' ⟨rfl, rfl⟩)
  all_goals
    go_ret
    exact ⟨rfl, rfl⟩

set_option maxHeartbeats 400000 in
theorem goes_26 (a b : Int) (w : World) (a1 : 0 ≤ a) (a2 : a < 4294967296) (b1 : 0 ≤ b) (b2 : b < 4294967296) : Calls Tryz.prog 73 #[.string (B [115, 114, 108, 105]), .int .u32 a, .int .u32 b] w fun e w' => e = .returned (.bool false) ∧ w = w' := by
  go_enter Tryz.func73, Tryz.ntmps73
  go_wp2_with (go_at_call 65; refine (rsigned_any _ _ (by omega) (by omega)).mono ?_; rintro e w' ⟨rfl, rfl⟩)
  all_goals
    go_ret
    exact ⟨rfl, rfl⟩

set_option maxHeartbeats 400000 in
theorem goes_27 (a b : Int) (w : World) (a1 : 0 ≤ a) (a2 : a < 4294967296) (b1 : 0 ≤ b) (b2 : b < 4294967296) : Calls Tryz.prog 73 #[.string (B [115, 114, 97, 105]), .int .u32 a, .int .u32 b] w fun e w' => e = .returned (.bool false) ∧ w = w' := by
  go_enter Tryz.func73, Tryz.ntmps73
  go_wp2_with (go_at_call 65; refine (rsigned_any _ _ (by omega) (by omega)).mono ?_; rintro e w' ⟨rfl, rfl⟩)
  all_goals
    go_ret
    exact ⟨rfl, rfl⟩

set_option maxHeartbeats 400000 in
theorem goes_28 (a b : Int) (w : World) (a1 : 0 ≤ a) (a2 : a < 4294967296) (b1 : 0 ≤ b) (b2 : b < 4294967296) : Calls Tryz.prog 73 #[.string (B [97, 100, 100]), .int .u32 a, .int .u32 b] w fun e w' => e = .returned (.bool false) ∧ w = w' := by
  go_enter Tryz.func73, Tryz.ntmps73
  go_wp2_with (go_at_call 65; refine (rsigned_any _ _ (by omega) (by omega)).mono ?_; rintro e w' ⟨rfl, rfl⟩)
  all_goals
    go_ret
    exact ⟨rfl, rfl⟩

set_option maxHeartbeats 400000 in
theorem goes_29 (a b : Int) (w : World) (a1 : 0 ≤ a) (a2 : a < 4294967296) (b1 : 0 ≤ b) (b2 : b < 4294967296) : Calls Tryz.prog 73 #[.string (B [115, 117, 98]), .int .u32 a, .int .u32 b] w fun e w' => e = .returned (.bool false) ∧ w = w' := by
  go_enter Tryz.func73, Tryz.ntmps73
  go_wp2_with (go_at_call 65; refine (rsigned_any _ _ (by omega) (by omega)).mono ?_; rintro e w' ⟨rfl, rfl⟩)
  all_goals
    go_ret
    exact ⟨rfl, rfl⟩

set_option maxHeartbeats 400000 in
theorem goes_30 (a b : Int) (w : World) (a1 : 0 ≤ a) (a2 : a < 4294967296) (b1 : 0 ≤ b) (b2 : b < 4294967296) : Calls Tryz.prog 73 #[.string (B [115, 108, 108]), .int .u32 a, .int .u32 b] w fun e w' => e = .returned (.bool false) ∧ w = w' := by
  go_enter Tryz.func73, Tryz.ntmps73
  go_wp2_with (go_at_call 65; refine (rsigned_any _ _ (by omega) (by omega)).mono ?_; rintro e w' ⟨rfl, rfl⟩)
  all_goals
    go_ret
    exact ⟨rfl, rfl⟩

set_option maxHeartbeats 400000 in
theorem goes_31 (a b : Int) (w : World) (a1 : 0 ≤ a) (a2 : a < 4294967296) (b1 : 0 ≤ b) (b2 : b < 4294967296) : Calls Tryz.prog 73 #[.string (B [115, 108, 116]), .int .u32 a, .int .u32 b] w fun e w' => e = .returned (.bool false) ∧ w = w' := by
  go_enter Tryz.func73, Tryz.ntmps73
  go_wp2_with (go_at_call 65; refine (rsigned_any _ _ (by omega) (by omega)).mono ?_; rintro e w' ⟨rfl, rfl⟩)
  all_goals
    go_ret
    exact ⟨rfl, rfl⟩

set_option maxHeartbeats 400000 in
theorem goes_32 (a b : Int) (w : World) (a1 : 0 ≤ a) (a2 : a < 4294967296) (b1 : 0 ≤ b) (b2 : b < 4294967296) : Calls Tryz.prog 73 #[.string (B [115, 108, 116, 117]), .int .u32 a, .int .u32 b] w fun e w' => e = .returned (.bool false) ∧ w = w' := by
  go_enter Tryz.func73, Tryz.ntmps73
  go_wp2_with (go_at_call 65; refine (rsigned_any _ _ (by omega) (by omega)).mono ?_; rintro e w' ⟨rfl, rfl⟩)
  all_goals
    go_ret
    exact ⟨rfl, rfl⟩

set_option maxHeartbeats 400000 in
theorem goes_33 (a b : Int) (w : World) (a1 : 0 ≤ a) (a2 : a < 4294967296) (b1 : 0 ≤ b) (b2 : b < 4294967296) : Calls Tryz.prog 73 #[.string (B [120, 111, 114]), .int .u32 a, .int .u32 b] w fun e w' => e = .returned (.bool false) ∧ w = w' := by
  go_enter Tryz.func73, Tryz.ntmps73
  go_wp2_with (go_at_call 65; refine (rsigned_any _ _ (by omega) (by omega)).mono ?_; rintro e w' ⟨rfl, rfl⟩)
  all_goals
    go_ret
    exact ⟨rfl, rfl⟩

set_option maxHeartbeats 400000 in
theorem goes_34 (a b : Int) (w : World) (a1 : 0 ≤ a) (a2 : a < 4294967296) (b1 : 0 ≤ b) (b2 : b < 4294967296) : Calls Tryz.prog 73 #[.string (B [115, 114, 108]), .int .u32 a, .int .u32 b] w fun e w' => e = .returned (.bool false) ∧ w = w' := by
  go_enter Tryz.func73, Tryz.ntmps73
  go_wp2_with (go_at_call 65; refine (rsigned_any _ _ (by omega) (by omega)).mono ?_; rintro e w' ⟨rfl, rfl⟩)
  all_goals
    go_ret
    exact ⟨rfl, rfl⟩

set_option maxHeartbeats 400000 in
theorem goes_35 (a b : Int) (w : World) (a1 : 0 ≤ a) (a2 : a < 4294967296) (b1 : 0 ≤ b) (b2 : b < 4294967296) : Calls Tryz.prog 73 #[.string (B [115, 114, 97]), .int .u32 a, .int .u32 b] w fun e w' => e = .returned (.bool false) ∧ w = w' := by
  go_enter Tryz.func73, Tryz.ntmps73
  go_wp2_with (go_at_call 65; refine (rsigned_any _ _ (by omega) (by omega)).mono ?_; rintro e w' ⟨rfl, rfl⟩)
  all_goals
    go_ret
    exact ⟨rfl, rfl⟩

set_option maxHeartbeats 400000 in
theorem goes_36 (a b : Int) (w : World) (a1 : 0 ≤ a) (a2 : a < 4294967296) (b1 : 0 ≤ b) (b2 : b < 4294967296) : Calls Tryz.prog 73 #[.string (B [111, 114]), .int .u32 a, .int .u32 b] w fun e w' => e = .returned (.bool false) ∧ w = w' := by
  go_enter Tryz.func73, Tryz.ntmps73
  go_wp2_with (go_at_call 65; refine (rsigned_any _ _ (by omega) (by omega)).mono ?_; rintro e w' ⟨rfl, rfl⟩)
  all_goals
    go_ret
    exact ⟨rfl, rfl⟩

set_option maxHeartbeats 400000 in
theorem goes_37 (a b : Int) (w : World) (a1 : 0 ≤ a) (a2 : a < 4294967296) (b1 : 0 ≤ b) (b2 : b < 4294967296) : Calls Tryz.prog 73 #[.string (B [97, 110, 100]), .int .u32 a, .int .u32 b] w fun e w' => e = .returned (.bool false) ∧ w = w' := by
  go_enter Tryz.func73, Tryz.ntmps73
  go_wp2_with (go_at_call 65; refine (rsigned_any _ _ (by omega) (by omega)).mono ?_; rintro e w' ⟨rfl, rfl⟩)
  all_goals
    go_ret
    exact ⟨rfl, rfl⟩

set_option maxHeartbeats 400000 in
theorem goes_38 (a b : Int) (w : World) (a1 : 0 ≤ a) (a2 : a < 4294967296) (b1 : 0 ≤ b) (b2 : b < 4294967296) : Calls Tryz.prog 73 #[.string (B [102, 101, 110, 99, 101]), .int .u32 a, .int .u32 b] w fun e w' => e = .returned (.bool false) ∧ w = w' := by
  go_enter Tryz.func73, Tryz.ntmps73
  go_wp2_with (go_at_call 65; refine (rsigned_any _ _ (by omega) (by omega)).mono ?_; rintro e w' ⟨rfl, rfl⟩)
  all_goals
    go_ret
    exact ⟨rfl, rfl⟩

set_option maxHeartbeats 400000 in
theorem goes_39 (a b : Int) (w : World) (a1 : 0 ≤ a) (a2 : a < 4294967296) (b1 : 0 ≤ b) (b2 : b < 4294967296) : Calls Tryz.prog 73 #[.string (B [101, 99, 97, 108, 108]), .int .u32 a, .int .u32 b] w fun e w' => e = .returned (.bool false) ∧ w = w' := by
  go_enter Tryz.func73, Tryz.ntmps73
  go_wp2_with (go_at_call 65; refine (rsigned_any _ _ (by omega) (by omega)).mono ?_; rintro e w' ⟨rfl, rfl⟩)
  all_goals
    go_ret
    exact ⟨rfl, rfl⟩

set_option maxHeartbeats 400000 in
theorem goes_40 (a b : Int) (w : World) (a1 : 0 ≤ a) (a2 : a < 4294967296) (b1 : 0 ≤ b) (b2 : b < 4294967296) : Calls Tryz.prog 73 #[.string (B [101, 98, 114, 101, 97, 107]), .int .u32 a, .int .u32 b] w fun e w' => e = .returned (.bool false) ∧ w = w' := by
  go_enter Tryz.func73, Tryz.ntmps73
  go_wp2_with (go_at_call 65; refine (rsigned_any _ _ (by omega) (by omega)).mono ?_; rintro e w' ⟨rfl, rfl⟩)
  all_goals
    go_ret
    exact ⟨rfl, rfl⟩

set_option maxHeartbeats 400000 in
theorem goes_41 (a b : Int) (w : World) (a1 : 0 ≤ a) (a2 : a < 4294967296) (b1 : 0 ≤ b) (b2 : b < 4294967296) : Calls Tryz.prog 73 #[.string (B [109, 117, 108]), .int .u32 a, .int .u32 b] w fun e w' => e = .returned (.bool false) ∧ w = w' := by
  go_enter Tryz.func73, Tryz.ntmps73
  go_wp2_with (go_at_call 65; refine (rsigned_any _ _ (by omega) (by omega)).mono ?_; rintro e w' ⟨rfl, rfl⟩)
  all_goals
    go_ret
    exact ⟨rfl, rfl⟩

set_option maxHeartbeats 400000 in
theorem goes_42 (a b : Int) (w : World) (a1 : 0 ≤ a) (a2 : a < 4294967296) (b1 : 0 ≤ b) (b2 : b < 4294967296) : Calls Tryz.prog 73 #[.string (B [109, 117, 108, 104]), .int .u32 a, .int .u32 b] w fun e w' => e = .returned (.bool false) ∧ w = w' := by
  go_enter Tryz.func73, Tryz.ntmps73
  go_wp2_with (go_at_call 65; refine (rsigned_any _ _ (by omega) (by omega)).mono ?_; rintro e w' ⟨rfl, rfl⟩)
  all_goals
    go_ret
    exact ⟨rfl, rfl⟩

set_option maxHeartbeats 400000 in
theorem goes_43 (a b : Int) (w : World) (a1 : 0 ≤ a) (a2 : a < 4294967296) (b1 : 0 ≤ b) (b2 : b < 4294967296) : Calls Tryz.prog 73 #[.string (B [109, 117, 108, 104, 115, 117]), .int .u32 a, .int .u32 b] w fun e w' => e = .returned (.bool false) ∧ w = w' := by
  go_enter Tryz.func73, Tryz.ntmps73
  go_wp2_with (go_at_call 65; refine (rsigned_any _ _ (by omega) (by omega)).mono ?_; rintro e w' ⟨rfl, rfl⟩)
  all_goals
    go_ret
    exact ⟨rfl, rfl⟩

set_option maxHeartbeats 400000 in
theorem goes_44 (a b : Int) (w : World) (a1 : 0 ≤ a) (a2 : a < 4294967296) (b1 : 0 ≤ b) (b2 : b < 4294967296) : Calls Tryz.prog 73 #[.string (B [109, 117, 108, 104, 117]), .int .u32 a, .int .u32 b] w fun e w' => e = .returned (.bool false) ∧ w = w' := by
  go_enter Tryz.func73, Tryz.ntmps73
  go_wp2_with (go_at_call 65; refine (rsigned_any _ _ (by omega) (by omega)).mono ?_; rintro e w' ⟨rfl, rfl⟩)
  all_goals
    go_ret
    exact ⟨rfl, rfl⟩

set_option maxHeartbeats 400000 in
theorem goes_45 (a b : Int) (w : World) (a1 : 0 ≤ a) (a2 : a < 4294967296) (b1 : 0 ≤ b) (b2 : b < 4294967296) : Calls Tryz.prog 73 #[.string (B [100, 105, 118]), .int .u32 a, .int .u32 b] w fun e w' => e = .returned (.bool false) ∧ w = w' := by
  go_enter Tryz.func73, Tryz.ntmps73
  go_wp2_with (go_at_call 65; refine (rsigned_any _ _ (by omega) (by omega)).mono ?_; rintro e w' ⟨rfl, rfl⟩)
  all_goals
    go_ret
    exact ⟨rfl, rfl⟩

set_option maxHeartbeats 400000 in
theorem goes_46 (a b : Int) (w : World) (a1 : 0 ≤ a) (a2 : a < 4294967296) (b1 : 0 ≤ b) (b2 : b < 4294967296) : Calls Tryz.prog 73 #[.string (B [100, 105, 118, 117]), .int .u32 a, .int .u32 b] w fun e w' => e = .returned (.bool false) ∧ w = w' := by
  go_enter Tryz.func73, Tryz.ntmps73
  go_wp2_with (go_at_call 65; refine (rsigned_any _ _ (by omega) (by omega)).mono ?_; rintro e w' ⟨rfl, rfl⟩)
  all_goals
    go_ret
    exact ⟨rfl, rfl⟩

set_option maxHeartbeats 400000 in
theorem goes_47 (a b : Int) (w : World) (a1 : 0 ≤ a) (a2 : a < 4294967296) (b1 : 0 ≤ b) (b2 : b < 4294967296) : Calls Tryz.prog 73 #[.string (B [114, 101, 109]), .int .u32 a, .int .u32 b] w fun e w' => e = .returned (.bool false) ∧ w = w' := by
  go_enter Tryz.func73, Tryz.ntmps73
  go_wp2_with (go_at_call 65; refine (rsigned_any _ _ (by omega) (by omega)).mono ?_; rintro e w' ⟨rfl, rfl⟩)
  all_goals
    go_ret
    exact ⟨rfl, rfl⟩

set_option maxHeartbeats 400000 in
theorem goes_48 (a b : Int) (w : World) (a1 : 0 ≤ a) (a2 : a < 4294967296) (b1 : 0 ≤ b) (b2 : b < 4294967296) : Calls Tryz.prog 73 #[.string (B [114, 101, 109, 117]), .int .u32 a, .int .u32 b] w fun e w' => e = .returned (.bool false) ∧ w = w' := by
  go_enter Tryz.func73, Tryz.ntmps73
  go_wp2_with (go_at_call 65; refine (rsigned_any _ _ (by omega) (by omega)).mono ?_; rintro e w' ⟨rfl, rfl⟩)
  all_goals
    go_ret
    exact ⟨rfl, rfl⟩

end Go.Proofs.YtndpgakjpokllaaGreat

