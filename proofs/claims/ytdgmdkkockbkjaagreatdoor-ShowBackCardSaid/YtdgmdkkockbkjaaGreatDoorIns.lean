/- Contracts of package ins: forms, and what may be. -/
import Derived.Test.YtdgmdkkockbkjaaGreatDoorWord
import Derived.Test.YtdgmdkkockbkjaaGreatDoorForms
import Derived.Test.YtdgmdkkockbkjaaGreatDoorQuiet
namespace Go.Proofs.YtdgmdkkockbkjaaGreatDoor
open Go.RowKit
set_option linter.unusedVariables false

theorem formN_far (op : Int) (h : op < 1 ∨ 48 < op) : formN op = 0 := by
  unfold formN
  rcases h with h | h
  · have : op.toNat = 0 := by omega
    rw [this]; rfl
  · have : formsL.length ≤ op.toNat := by have : formsL.length = 49 := rfl
                                          omega
    rw [List.getD_eq_getElem?_getD, List.getElem?_eq_none this]; rfl

set_option maxHeartbeats 4000000 in
theorem formOf_any (op : Int) (w : World) : Calls Tryz.prog 28 #[.int .i64 op] w fun e w' => e = .returned (.int .i64 (formN op)) ∧ w = w' := by
  by_cases h : op < 1 ∨ 48 < op
  · have HR := Lib.hid (formN_far op h)
    have k1 : (op == 1) = false := beq_eq_false_iff_ne.2 (by omega)
    have k2 : (op == 2) = false := beq_eq_false_iff_ne.2 (by omega)
    have k3 : (op == 3) = false := beq_eq_false_iff_ne.2 (by omega)
    have k4 : (op == 4) = false := beq_eq_false_iff_ne.2 (by omega)
    have k5 : (op == 5) = false := beq_eq_false_iff_ne.2 (by omega)
    have k6 : (op == 6) = false := beq_eq_false_iff_ne.2 (by omega)
    have k7 : (op == 7) = false := beq_eq_false_iff_ne.2 (by omega)
    have k8 : (op == 8) = false := beq_eq_false_iff_ne.2 (by omega)
    have k9 : (op == 9) = false := beq_eq_false_iff_ne.2 (by omega)
    have k10 : (op == 10) = false := beq_eq_false_iff_ne.2 (by omega)
    have k11 : (op == 11) = false := beq_eq_false_iff_ne.2 (by omega)
    have k12 : (op == 12) = false := beq_eq_false_iff_ne.2 (by omega)
    have k13 : (op == 13) = false := beq_eq_false_iff_ne.2 (by omega)
    have k14 : (op == 14) = false := beq_eq_false_iff_ne.2 (by omega)
    have k15 : (op == 15) = false := beq_eq_false_iff_ne.2 (by omega)
    have k16 : (op == 16) = false := beq_eq_false_iff_ne.2 (by omega)
    have k17 : (op == 17) = false := beq_eq_false_iff_ne.2 (by omega)
    have k18 : (op == 18) = false := beq_eq_false_iff_ne.2 (by omega)
    have k19 : (op == 19) = false := beq_eq_false_iff_ne.2 (by omega)
    have k20 : (op == 20) = false := beq_eq_false_iff_ne.2 (by omega)
    have k21 : (op == 21) = false := beq_eq_false_iff_ne.2 (by omega)
    have k22 : (op == 22) = false := beq_eq_false_iff_ne.2 (by omega)
    have k23 : (op == 23) = false := beq_eq_false_iff_ne.2 (by omega)
    have k24 : (op == 24) = false := beq_eq_false_iff_ne.2 (by omega)
    have k25 : (op == 25) = false := beq_eq_false_iff_ne.2 (by omega)
    have k26 : (op == 26) = false := beq_eq_false_iff_ne.2 (by omega)
    have k27 : (op == 27) = false := beq_eq_false_iff_ne.2 (by omega)
    have k28 : (op == 28) = false := beq_eq_false_iff_ne.2 (by omega)
    have k29 : (op == 29) = false := beq_eq_false_iff_ne.2 (by omega)
    have k30 : (op == 30) = false := beq_eq_false_iff_ne.2 (by omega)
    have k31 : (op == 31) = false := beq_eq_false_iff_ne.2 (by omega)
    have k32 : (op == 32) = false := beq_eq_false_iff_ne.2 (by omega)
    have k33 : (op == 33) = false := beq_eq_false_iff_ne.2 (by omega)
    have k34 : (op == 34) = false := beq_eq_false_iff_ne.2 (by omega)
    have k35 : (op == 35) = false := beq_eq_false_iff_ne.2 (by omega)
    have k36 : (op == 36) = false := beq_eq_false_iff_ne.2 (by omega)
    have k37 : (op == 37) = false := beq_eq_false_iff_ne.2 (by omega)
    have k38 : (op == 38) = false := beq_eq_false_iff_ne.2 (by omega)
    have k39 : (op == 39) = false := beq_eq_false_iff_ne.2 (by omega)
    have k40 : (op == 40) = false := beq_eq_false_iff_ne.2 (by omega)
    have k41 : (op == 41) = false := beq_eq_false_iff_ne.2 (by omega)
    have k42 : (op == 42) = false := beq_eq_false_iff_ne.2 (by omega)
    have k43 : (op == 43) = false := beq_eq_false_iff_ne.2 (by omega)
    have k44 : (op == 44) = false := beq_eq_false_iff_ne.2 (by omega)
    have k45 : (op == 45) = false := beq_eq_false_iff_ne.2 (by omega)
    have k46 : (op == 46) = false := beq_eq_false_iff_ne.2 (by omega)
    have k47 : (op == 47) = false := beq_eq_false_iff_ne.2 (by omega)
    have k48 : (op == 48) = false := beq_eq_false_iff_ne.2 (by omega)
    clear h
    go_enter Tryz.func28, Tryz.ntmps28
    go_wp2
    go_ret
    exact ⟨ret_i64 HR.out.symm, rfl⟩
  · rcases (by omega : op = 1 ∨ op = 2 ∨ op = 3 ∨ op = 4 ∨ op = 5 ∨ op = 6 ∨ op = 7 ∨ op = 8 ∨ op = 9 ∨ op = 10 ∨ op = 11 ∨ op = 12 ∨ op = 13 ∨ op = 14 ∨ op = 15 ∨ op = 16 ∨ op = 17 ∨ op = 18 ∨ op = 19 ∨ op = 20 ∨ op = 21 ∨ op = 22 ∨ op = 23 ∨ op = 24 ∨ op = 25 ∨ op = 26 ∨ op = 27 ∨ op = 28 ∨ op = 29 ∨ op = 30 ∨ op = 31 ∨ op = 32 ∨ op = 33 ∨ op = 34 ∨ op = 35 ∨ op = 36 ∨ op = 37 ∨ op = 38 ∨ op = 39 ∨ op = 40 ∨ op = 41 ∨ op = 42 ∨ op = 43 ∨ op = 44 ∨ op = 45 ∨ op = 46 ∨ op = 47 ∨ op = 48) with rfl | rfl | rfl | rfl | rfl | rfl | rfl | rfl | rfl | rfl | rfl | rfl | rfl | rfl | rfl | rfl | rfl | rfl | rfl | rfl | rfl | rfl | rfl | rfl | rfl | rfl | rfl | rfl | rfl | rfl | rfl | rfl | rfl | rfl | rfl | rfl | rfl | rfl | rfl | rfl | rfl | rfl | rfl | rfl | rfl | rfl | rfl | rfl
    all_goals
      go_enter Tryz.func28, Tryz.ntmps28
      go_wp2
      go_ret
      exact ⟨rfl, rfl⟩

set_option maxHeartbeats 1000000 in
theorem needs_any (f : Int) (hf : 0 ≤ f) (hf' : f ≤ 9) (w : World) : Calls Tryz.prog 29 #[.int .i64 f] w fun e w' => e = .returned (.tuple #[.bool (needD f), .bool (needS f), .bool (needT f)]) ∧ w = w' := by
  rcases (by omega : f = 0 ∨ f = 1 ∨ f = 2 ∨ f = 3 ∨ f = 4 ∨ f = 5 ∨ f = 6 ∨ f = 7 ∨ f = 8 ∨ f = 9) with rfl | rfl | rfl | rfl | rfl | rfl | rfl | rfl | rfl | rfl
  all_goals
    go_enter Tryz.func29, Tryz.ntmps29
    go_wp2
    go_ret3
    exact ⟨rfl, rfl⟩

set_option maxHeartbeats 400000 in
theorem isReg_any (n : Int) (b : Bool) (w : World) : Calls Tryz.prog 30 #[.int .i64 n, .bool b] w fun e w' => e = .returned (.bool (regB n b)) ∧ w = w' := by
  cases b
  · go_enter Tryz.func30, Tryz.ntmps30
    go_wp2
    go_ret
    exact ⟨rfl, rfl⟩
  · go_enter Tryz.func30, Tryz.ntmps30
    go_wp2
    all_goals
      go_ret
      exact ⟨ret_bool (by simp only [regB, if_true]; rw [Bool.eq_iff_iff]; simp; omega), rfl⟩

theorem tmod_zero (v k : Int) : (v.tmod k == 0) = (v % k == 0) := by
  rw [Bool.eq_iff_iff, beq_iff_eq, beq_iff_eq]
  exact ⟨fun h => Int.emod_eq_zero_of_dvd (Int.dvd_of_tmod_eq_zero h), fun h => Int.tmod_eq_zero_of_dvd (Int.dvd_of_emod_eq_zero h)⟩

theorem fits_in (x n : Int) (w : World) (hx : -2147483648 ≤ x) (hx' : x ≤ 2147483647) (hn : 0 ≤ n) (hn' : n ≤ 32) :
    Calls Tryz.prog 53 #[.int .i32 x, .int .i64 n] w fun e w' => e = .returned (.bool (fitB x n.toNat)) ∧ w = w' := by
  have h := fits_any x n w hx hx'
  have e : cl n = n.toNat := by unfold cl; omega
  rw [e] at h
  exact h

set_option maxHeartbeats 1000000 in
theorem ifits_any (f v : Int) (w : World) (hv : -2147483648 ≤ v) (hv' : v ≤ 2147483647) (hf : 0 ≤ f) (hf' : f ≤ 9) : Calls Tryz.prog 31 #[.int .i64 f, .int .i32 v] w fun e w' => e = .returned (.bool (numB f v)) ∧ w = w' := by
  have HA := Lib.hid (tmod_zero v 4096)
  have HB := Lib.hid (tmod_zero v 2)
  cases h2 : (v % 2 == 0)
  all_goals
    have h3 := HB.out.trans h2
    have H2 := Lib.hid h2
    clear h2
    rcases (by omega : f = 0 ∨ f = 1 ∨ f = 2 ∨ f = 3 ∨ f = 4 ∨ f = 5 ∨ f = 6 ∨ f = 7 ∨ f = 8 ∨ f = 9) with rfl | rfl | rfl | rfl | rfl | rfl | rfl | rfl | rfl | rfl
    all_goals
      go_enter Tryz.func31, Tryz.ntmps31
      go_wp2_with (go_at_call 53; refine (fits_in _ _ _ (by omega) (by omega) (by omega) (by omega)).mono ?_; rintro e w' ⟨rfl, rfl⟩)
    all_goals
      go_ret
      first
        | exact ⟨rfl, rfl⟩
        | exact ⟨ret_bool (by simp only [numB]; rw [HA.out]; rfl), rfl⟩
        | (refine ⟨ret_bool ?_, rfl⟩; (simp [numB, H2.out]; done))
        | (refine ⟨ret_bool ?_, rfl⟩; simp only [numB]; rw [Bool.eq_iff_iff]; simp; omega)

set_option maxHeartbeats 2000000 in
theorem may_any (op rd rs1 rs2 imm : Int) (w : World) (hv : -2147483648 ≤ imm) (hv' : imm ≤ 2147483647) :
    Calls Tryz.prog 10 #[.agg #[.int .i64 op, .int .i64 rd, .int .i64 rs1, .int .i64 rs2, .int .i32 imm]] w fun e w' => e = .returned (.bool (mayB op rd rs1 rs2 imm)) ∧ Nx w w' := by
  have hM := Lib.hid (show mayB op rd rs1 rs2 imm = (!(formN op == 0) && (regB rd (needD (formN op)) && (regB rs1 (needS (formN op)) && (regB rs2 (needT (formN op)) && numB (formN op) imm)))) from rfl)
  rcases formN_range op with hf | hf | hf | hf | hf | hf | hf | hf | hf | hf
  all_goals
    have h1 := hM.out
    rw [hf] at h1
    have HM := Lib.hid h1
    clear h1 hM
    go_enter Tryz.func10, Tryz.ntmps10
    go_wp2_with (first | (go_at_call 28; refine (formOf_any _ _).mono ?_; rintro e w' ⟨rfl, rfl⟩) | (go_at_call 29; refine (needs_any _ (by omega) (by omega) _).mono ?_; rintro e w' ⟨rfl, rfl⟩) | (go_at_call 30; refine (isReg_any _ _ _).mono ?_; rintro e w' ⟨rfl, rfl⟩) | (go_at_call 31; refine (ifits_any _ _ _ hv hv' (by omega) (by omega)).mono ?_; rintro e w' ⟨rfl, rfl⟩))
  all_goals
    go_ret
    refine ⟨ret_bool ?_, (Nx.refl _).alloc _⟩
    rw [HM.out]
    first | rfl | (simp_all [needD, needS, needT]; done)

end Go.Proofs.YtdgmdkkockbkjaaGreatDoor
