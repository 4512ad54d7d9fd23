/- Parts of the proof, one behind the other. -/
import Derived.Test.YtndpgakjpokllaaGreatZsbn
import Derived.Test.YtndpgakjpokllaaGreatZsbo
/- typecaseref07: Run. -/
namespace Go.Proofs.YtndpgakjpokllaaGreat
open Go.RowKit
set_option linter.unusedVariables false
set_option linter.unusedSimpArgs false
set_option maxRecDepth 100000

/-- What comes of Run. -/
def RetRun7 (base q qm n K : Nat) (s : MSt) (w : World) (e : Ending) (w' : World) : Prop :=
  e = .returned (.tuple #[.int .i64 ((runP K s).1 : Nat), .int .i64 (runP K s).2.1]) ∧ Ref7At w' base q qm (n + 4 * K) (runP K s).2.2 ∧ Below base w w'

set_option maxHeartbeats 2000000 in
theorem run_sev (base q qm n K : Nat) (most : Int) (s : MSt) (hK : K = (max most 0).toNat) (hm : most ≤ 200) (hn : n + 4 * K ≤ 100000) (w : World) (h : Ref7At w base q qm n s) :
    Calls Tryz.prog 17 #[.pointer (some ⟨q, 0, none⟩), .int .i64 most] w (RetRun7 base q qm n K s w) := by
  have H := Lib.hid h
  have HK := Lib.hid hK
  have hK2 : K ≤ 200 := by omega
  clear h hK
  obtain ⟨r, hr⟩ : ∃ x, runP K s = x := ⟨_, rfl⟩
  have HR := Lib.hid hr
  unfold RetRun7
  rw [hr]
  clear hr
  go_enter Tryz.func17, Tryz.ntmps17
  go_wp2_with fail
  go_loopw [6, 7] (fun iv _ wr => ∃ (i : Nat) (si : MSt), i ≤ K ∧ iv = .int .i64 i ∧ Ref7At wr base q qm (n + 4 * i) si ∧ Below base w wr ∧ Hid (r = (i + (runP (K - i) si).1, (runP (K - i) si).2))) (fun iv _ _ => K - (RowKit.intOf iv).toNat)
  case atStart => exact ⟨0, s, Nat.zero_le _, rfl, H.out, Below.refl _ _, Lib.hid (by rw [← HR.out, Nat.zero_add]; rfl)⟩
  case round =>
    obtain ⟨i, si, hi, rfl, hmi, hci, hri⟩ := hrel
    have HM := Lib.hid hmi
    have HC := Lib.hid hci
    clear hmi hci
    by_cases hik : i < K
    · have hikI : (i : Int) < most := by have := HK.out; omega
      have hb1 : decide ((i : Int) < 65536) = true := decide_eq_true (by omega)
      have C := Lib.hid (rstep_any base q qm (n + 4 * i) si (by omega) wr HM.out)
      obtain ⟨j, hj⟩ : ∃ j, K - i = j + 1 := ⟨K - i - 1, by omega⟩
      by_cases ho : stepO si.M si.pc = 0
      · have HRI := Lib.hid (show r = (i + 1 + (runP (K - (i + 1)) (stepP si)).1, (runP (K - (i + 1)) (stepP si)).2) by
          rw [hri.out, hj, runP_step ho, show K - (i + 1) = j by omega]
          simp only [Prod.mk.injEq, and_true]
          omega)
        rw [ho] at C
        clear ho hri hj
        go_wp2_with (go_at_call 15; refine C.out.mono ?_; rintro e w2 ⟨rfl, hm2, hc2⟩; have HM2 := Lib.hid hm2; have HC2 := Lib.hid hc2; clear hm2 hc2)
        clear hb1
        go_roundw
        case rel => exact ⟨i + 1, stepP si, hik, by first | rfl | go_num, HM2.out, HC.out.trans HC2.out, HRI⟩
        case measure => simp [RowKit.intOf]; omega
      · obtain ⟨o, hoo⟩ : ∃ o, stepO si.M si.pc = o := ⟨_, rfl⟩
        have HE := Lib.hid (show r = (i, o, si) by
          rw [hri.out, hj, runP_stop ho, hoo]
          rfl)
        have hS : stepP si = si := by unfold stepP; rw [if_neg ho]
        rw [hoo] at C ho
        rw [hS] at C
        have hob : (o != 0) = true := by rw [bne_iff_ne]; exact ho
        clear ho hri hj hoo hS
        go_wp2_with (go_at_call 15; refine C.out.mono ?_; rintro e w2 ⟨rfl, hm2, hc2⟩; have HM2 := Lib.hid hm2; have HC2 := Lib.hid hc2; clear hm2 hc2)
        refine bodyPost_ret (results_tmp2 rfl _ _ _) rfl ?_
        rw [HE.out]
        exact ⟨rfl, HM2.out.mono (by omega), HC.out.trans HC2.out⟩
    · obtain rfl : i = K := by omega
      have HE := Lib.hid (show r = (i, 0, si) by
        rw [hri.out, Nat.sub_self]
        rfl)
      clear hri
      by_cases hneg : most < 0
      · have hi0 : i = 0 := by have := HK.out; omega
        subst hi0
        clear HK hi hK2 hik hm hn
        go_wp2_with fail
        refine bodyPost_ret (results_tmp2 rfl _ _ _) rfl ?_
        rw [HE.out]
        exact ⟨rfl, HM.out, HC.out⟩
      · have hmi : most = (i : Int) := by have := HK.out; omega
        subst hmi
        clear HK hik hn hneg
        have hb1 : decide ((i : Int) < 0) = false := decide_eq_false (by omega)
        have hb2 : decide ((65536 : Int) < (i : Int)) = false := decide_eq_false (by omega)
        have hb3 : decide ((i : Int) < (i : Int)) = false := decide_eq_false (by omega)
        clear hm hi hK2
        go_wp2_with fail
        refine bodyPost_ret (results_tmp2 rfl _ _ _) rfl ?_
        rw [HE.out]
        exact ⟨rfl, HM.out, HC.out⟩

end Go.Proofs.YtndpgakjpokllaaGreat

