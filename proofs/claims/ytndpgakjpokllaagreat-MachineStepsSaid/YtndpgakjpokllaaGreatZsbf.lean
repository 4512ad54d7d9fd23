/- Parts of the proof, one behind the other. -/
import Derived.Deep.CutRange
import Derived.Test.YtndpgakjpokllaaGreatZsbd
import Derived.Test.YtndpgakjpokllaaGreatZsbe
/- slices.Sort at uint32: partialInsertionSortOrdered. -/
namespace Go.Proofs.YtndpgakjpokllaaGreat
open Go.RowKit
set_option linter.unusedVariables false
set_option linter.unusedSimpArgs false

theorem ss_stop {d : Array Int} {b i : Nat} (h : (decide (i < b) && !Sort.ltInt d[i]! d[i - 1]!) = false) : Sort.scanSorted Sort.ltInt d b i = i := by
  rw [Sort.scanSorted, h]
  rfl

theorem ss_step {d : Array Int} {b i : Nat} (h : (decide (i < b) && !Sort.ltInt d[i]! d[i - 1]!) = true) : Sort.scanSorted Sort.ltInt d b i = Sort.scanSorted Sort.ltInt d b (i + 1) := by
  rw [Sort.scanSorted, h]
  rfl

theorem shd_stop {d : Array Int} {k : Nat} (h : Sort.ltInt d[k + 1]! d[k]! = false) : Sort.shiftDown Sort.ltInt (k + 1) d = d := by
  rw [Sort.shiftDown, h]
  rfl

theorem shd_step {d : Array Int} {k : Nat} (h : Sort.ltInt d[k + 1]! d[k]! = true) : Sort.shiftDown Sort.ltInt (k + 1) d = Sort.shiftDown Sort.ltInt k (Sort.swp d (k + 1) k) := by
  rw [Sort.shiftDown, h]
  rfl

theorem shu_end {d : Array Int} {b j : Nat} (h : ¬ j < b) : Sort.shiftUp Sort.ltInt b j d = d := by
  rw [Sort.shiftUp, if_neg h]

theorem shu_stop {d : Array Int} {b j : Nat} (hj : j < b) (h : Sort.ltInt d[j]! d[j - 1]! = false) : Sort.shiftUp Sort.ltInt b j d = d := by
  rw [Sort.shiftUp, if_pos hj, h]
  rfl

theorem shu_step {d : Array Int} {b j : Nat} (hj : j < b) (h : Sort.ltInt d[j]! d[j - 1]! = true) : Sort.shiftUp Sort.ltInt b j d = Sort.shiftUp Sort.ltInt b (j + 1) (Sort.swp d j (j - 1)) := by
  rw [Sort.shiftUp, if_pos hj, h]
  rfl

theorem shd_size : ∀ (j : Nat) (d : Array Int), (Sort.shiftDown Sort.ltInt j d).size = d.size
  | 0, d => rfl
  | k + 1, d => by
    cases h : Sort.ltInt d[k + 1]! d[k]!
    · rw [shd_stop h]
    · rw [shd_step h, shd_size k, swp_size]

theorem pins_true {a b s i : Nat} {d : Array Int} {I : Nat} (h : Sort.scanSorted Sort.ltInt d b i = I) (hI : I = b) : Sort.partialIns Sort.ltInt a b (s + 1) i d = (d, true) := by
  rw [Sort.partialIns]
  simp only [h]
  rw [if_pos hI]

theorem pins_small {a b s i : Nat} {d : Array Int} {I : Nat} (h : Sort.scanSorted Sort.ltInt d b i = I) (hI : ¬ I = b) (hs : b - a < 50) : Sort.partialIns Sort.ltInt a b (s + 1) i d = (d, false) := by
  rw [Sort.partialIns]
  simp only [h]
  rw [if_neg hI, if_pos hs]

theorem pins_step {a b s i : Nat} {d : Array Int} {I : Nat} (h : Sort.scanSorted Sort.ltInt d b i = I) (hI : ¬ I = b) (hs : ¬ b - a < 50) : Sort.partialIns Sort.ltInt a b (s + 1) i d =
    Sort.partialIns Sort.ltInt a b s I (if b - I ≥ 2 then Sort.shiftUp Sort.ltInt b (I + 1) (if I - a ≥ 2 then Sort.shiftDown Sort.ltInt (I - 1) (Sort.swp d I (I - 1)) else Sort.swp d I (I - 1)) else (if I - a ≥ 2 then Sort.shiftDown Sort.ltInt (I - 1) (Sort.swp d I (I - 1)) else Sort.swp d I (I - 1))) := by
  rw [Sort.partialIns]
  simp only [h]
  rw [if_neg hI, if_neg hs]

/-- What comes of partialInsertionSortOrdered. -/
def RetPins (g : Nat) (r : Array Int × Bool) (w : World) (e : Ending) (w' : World) : Prop := e = .returned (.bool r.2) ∧ w.grownBy w' (some g) ∧ Row w' g r.1

set_option maxHeartbeats 16000000 in
set_option maxRecDepth 100000 in
theorem partial_any (g n cap : Nat) (d : Array Int) (a b : Nat) (hd : d.size = n) (hn : n ≤ 100000) (hbn : b ≤ n) (hab : a < b) (w : World) (hR : Row w g d) :
    Calls Tryz.prog 120 #[.slice (some ⟨g, 0, none⟩) n cap, .int .i64 a, .int .i64 b] w (RetPins g (Sort.partialInsertionSort Sort.ltInt d a b) w) := by
  have HR := Lib.hid hR
  have HD := Lib.hid hd
  clear hR hd
  obtain ⟨PR, hPR⟩ : ∃ x, Sort.partialInsertionSort Sort.ltInt d a b = x := ⟨_, rfl⟩
  rw [hPR]
  have HPR := Lib.hid (show Sort.partialIns Sort.ltInt a b 5 (a + 1) d = PR from hPR)
  clear hPR
  go_enter Tryz.func120, Tryz.ntmps120
  go_wp2
  go_loopw [7, 8, 9, 10] (fun iv kv _ _ wr => ∃ (i k : Nat) (dk : Array Int), iv = .int .i64 i ∧ kv = .int .i64 k ∧ k ≤ 5 ∧ a + 1 ≤ i ∧ i ≤ b ∧ dk.size = n ∧ Row wr g dk ∧ w.grownBy wr (some g) ∧ Hid (Sort.partialIns Sort.ltInt a b (5 - k) i dk = PR)) (fun _ kv _ _ _ => 5 - (Go.RowKit.intOf kv).toNat)
  case atStart => exact ⟨a + 1, 0, d, by first | rfl | go_num, rfl, by omega, Nat.le_refl _, by omega, HD.out, HR.out, World.grownBy.refl _ _, HPR⟩
  case round =>
    obtain ⟨i, k, dk, rfl, rfl, hk, hi1, hi2, hdk, hrow, hgb, hspl⟩ := hrel
    have HDK := Lib.hid hdk
    have HRK := Lib.hid hrow
    have HGK := Lib.hid hgb
    clear hdk hrow hgb
    obtain ⟨wr0, hwr0⟩ : ∃ x, x = wr := ⟨_, rfl⟩
    subst hwr0
    by_cases hk5 : k < 5
    · have hk5I : (k : Int) < 5 := by omega
      obtain ⟨s, hs⟩ : ∃ s, 5 - k = s + 1 := ⟨4 - k, by omega⟩
      rw [hs] at hspl
      obtain ⟨I, hI⟩ : ∃ x, Sort.scanSorted Sort.ltInt dk b i = x := ⟨_, rfl⟩
      have HI := Lib.hid hI
      clear hI
      go_wp2
      go_loopw [7] (fun iv wr => ∃ i3 : Nat, iv = .int .i64 i3 ∧ i ≤ i3 ∧ i3 ≤ b ∧ Row wr g dk ∧ w.grownBy wr (some g) ∧ Hid (Sort.scanSorted Sort.ltInt dk b i3 = I)) (fun iv _ => b - (Go.RowKit.intOf iv).toNat)
      case atStart => exact ⟨i, rfl, Nat.le_refl _, hi2, HRK.out, HGK.out, HI⟩
      case round =>
        obtain ⟨i3, rfl, h31, h32, hrow, hgb, hsp⟩ := hrel
        have HRS := Lib.hid hrow
        have HGS := Lib.hid hgb
        clear hrow hgb
        obtain ⟨bb, hbb⟩ : ∃ x, (decide (i3 < b) && !Sort.ltInt dk[i3]! dk[i3 - 1]!) = x := ⟨_, rfl⟩
        have HBB := Lib.hid hbb
        clear hbb
        go_upto_region 5 with fail
        go_cut [32] from 17 to 32 (fun bv wx => bv = .bool bb ∧ Nx wr wx)
        case first =>
          by_cases h1 : i3 < b
          · have hvI : (i3 : Int) < n := by omega
            have h1I : (i3 : Int) < b := by omega
            have o1 : (1 : Int) ≤ i3 := by omega
            obtain ⟨q, hq⟩ : ∃ x : Nat, x = i3 - 1 := ⟨_, rfl⟩
            have zq : (0 : Int) ≤ (i3 : Int) - 1 := by omega
            have bq : (i3 : Int) - 1 < (n : Int) := by omega
            have tq : ((i3 : Int) - 1 : Int).toNat = q := by omega
            have wq : IntKind.i64.wrap ((i3 : Int) - 1) = (i3 : Int) - 1 := wrapI (by omega) (by omega)
            have nq : q < n := by omega
            have Hq := Lib.hid hq
            clear hq
            have c0 := (HRS.out (i3) (by rw [HDK.out]; omega)).1
            have f0 := (HRS.out (i3) (by rw [HDK.out]; omega)).2
            obtain ⟨x0, hx0⟩ : ∃ x, dk[i3]! = x := ⟨_, rfl⟩
            rw [hx0] at c0
            have HX0 := Lib.hid hx0
            clear hx0
            have c1 := (HRS.out (q) (by rw [HDK.out]; omega)).1
            have f1 := (HRS.out (q) (by rw [HDK.out]; omega)).2
            obtain ⟨x1, hx1⟩ : ∃ x, dk[q]! = x := ⟨_, rfl⟩
            rw [hx1] at c1
            have HX1 := Lib.hid hx1
            clear hx1
            have gl : g < wr.heap.size := block_lt c0
            have HCL := Lib.hid (show bb = (!Sort.ltInt x0 x1) by rw [← HBB.out, decide_eq_true h1, Bool.true_and, ← Hq.out, HX0.out, HX1.out])
            have HVV := Lib.hid (show Value.bool (!Sort.ltInt x0 x1) = Value.bool bb by rw [HCL.out])
            go_wp2
            (refine wp_region_nx 15 (by kernel_rfl) (by kernel_rfl) ?_; simp only [List.take_succ_cons, List.take_zero, List.drop_succ_cons, List.drop_zero]; (repeat (with_reducible refine wpQuiet_step (fun K hK => ?_); go_simp; first | (with_reducible refine hK _ ?_; clear hK K) | (with_reducible apply Exists.intro; with_reducible refine ⟨fun w' hw' => ?_, hK _ ?_⟩; (first | (with_reducible rfl) | (go_at_call 121; with_reducible exact (less_nx _ _ _).mono fun _ _ h => ⟨h.1, hw'.trans h.2⟩) | (obtain ⟨hc, hf⟩ := nx_cells hw'; go_simp; with_reducible rfl) | (obtain ⟨hc, hf⟩ := nx_cells hw'; go_simp; rfl)); clear hK K))); with_reducible refine wpQuiet_nil ?_; intro w1 hn1)
            go_wp2
            go_meet
            case rel => exact ⟨HVV.out, hn1⟩
          · have HCL := Lib.hid (show bb = false by rw [← HBB.out, decide_eq_false h1, Bool.false_and])
            have h1I : (((i3 : Int) < (b : Int)) = False) := eq_false (by omega)
            have h1N : ((i3 < b) = False) := eq_false h1
            go_wp2
            (refine wp_region_nx 15 (by kernel_rfl) (by kernel_rfl) ?_; simp only [List.take_succ_cons, List.take_zero, List.drop_succ_cons, List.drop_zero]; (repeat (with_reducible refine wpQuiet_step (fun K hK => ?_); go_simp; first | (with_reducible refine hK _ ?_; clear hK K) | (with_reducible apply Exists.intro; with_reducible refine ⟨fun w' hw' => ?_, hK _ ?_⟩; (first | (with_reducible rfl) | (go_at_call 121; with_reducible exact (less_nx _ _ _).mono fun _ _ h => ⟨h.1, hw'.trans h.2⟩) | (obtain ⟨hc, hf⟩ := nx_cells hw'; go_simp; with_reducible rfl) | (obtain ⟨hc, hf⟩ := nx_cells hw'; go_simp; rfl)); clear hK K))); with_reducible refine wpQuiet_nil ?_; intro w1 hn1)
            go_wp2
            go_meet
            case rel => exact ⟨by rw [HCL.out], hn1⟩
        case rest =>
          obtain ⟨rfl, hn1⟩ := hcut
          have HRT := Lib.hid (HRS.out.nx hn1)
          have HGT := Lib.hid (gb_nx HGS.out hn1)
          clear hn1
          cases bb
          · have hII : I = i3 := by rw [← hsp.out]; exact ss_stop HBB.out
            subst hII
            clear hsp
            obtain ⟨wo, hwo⟩ : ∃ x, x = wc := ⟨_, rfl⟩
            subst hwo
            by_cases hIb : I = b
            · have HPP := Lib.hid (show PR = (dk, true) by rw [← hspl.out]; exact pins_true HI.out hIb)
              have hIbI : ((I : Int) == (b : Int)) = true := by rw [hIb]; exact beq_self_eq_true _
              have HIB := Lib.hid hIb
              clear hIb
              go_wp2
              go_ret
              rw [HPP.out]
              exact ⟨rfl, HGT.out, HRT.out⟩
            · have hIbI : ((I : Int) == (b : Int)) = false := by rw [beq_eq_false_iff_ne]; omega
              by_cases hsm : b - a < 50
              · have hsmI : (b : Int) - a < 50 := by omega
                have HPP := Lib.hid (show PR = (dk, false) by rw [← hspl.out]; exact pins_small HI.out hIb hsm)
                go_wp2
                go_ret
                rw [HPP.out]
                exact ⟨rfl, HGT.out, HRT.out⟩
              · have hsmI : (50 : Int) ≤ (b : Int) - a := by omega
                have HPP := Lib.hid (pins_step (s := s) HI.out hIb hsm)
                have hIn : (I : Int) < n := by omega
                have o1 : (1 : Int) ≤ I := by omega
                obtain ⟨D3, hD3⟩ : ∃ x, Sort.swp dk I (I - 1) = x := ⟨_, rfl⟩
                rw [hD3] at HPP
                have HDD3 := Lib.hid (show D3.size = n by rw [← hD3, swp_size]; exact HDK.out)
                have HDe3 := Lib.hid hD3
                clear hD3
                obtain ⟨q, hq⟩ : ∃ x : Nat, x = I - 1 := ⟨_, rfl⟩
                have zq : (0 : Int) ≤ (I : Int) - 1 := by omega
                have bq : (I : Int) - 1 < (n : Int) := by omega
                have tq : ((I : Int) - 1 : Int).toNat = q := by omega
                have wq : IntKind.i64.wrap ((I : Int) - 1) = (I : Int) - 1 := wrapI (by omega) (by omega)
                have nq : q < n := by omega
                have Hq := Lib.hid hq
                clear hq
                go_upto_region 11 with fail
                go_cut [57] from 42 to 57 (fun _ wx => Row wx g (D3) ∧ w.grownBy wx (some g))
                case first =>
                  have c0 := (HRT.out (I) (by rw [HDK.out]; omega)).1
                  have f0 := (HRT.out (I) (by rw [HDK.out]; omega)).2
                  obtain ⟨x0, hx0⟩ : ∃ x, dk[I]! = x := ⟨_, rfl⟩
                  rw [hx0] at c0
                  have HX0 := Lib.hid hx0
                  clear hx0
                  have c1 := (HRT.out (q) (by rw [HDK.out]; omega)).1
                  have f1 := (HRT.out (q) (by rw [HDK.out]; omega)).2
                  obtain ⟨x1, hx1⟩ : ∃ x, dk[q]! = x := ⟨_, rfl⟩
                  rw [hx1] at c1
                  have HX1 := Lib.hid hx1
                  clear hx1
                  have gl : g < wo.heap.size := block_lt c0
                  obtain ⟨v9, hv9⟩ := cell?_setCell_some (p := ⟨g, I, none⟩) (x := .int .u32 x1) c1
                  go_wp2
                  go_region
                  all_goals
                    go_wp2
                    go_meet
                    case rel => exact ⟨by (rw [← HX0.out, ← HX1.out]; rw [← HDe3.out, ← Hq.out]; exact (HRT.out.drew.swp (by rw [HDK.out]; omega) (by rw [HDK.out]; omega))), gb_set (gb_set (gb_drew HGT.out) _ _) _ _⟩
                have HR3 := Lib.hid hcut.1
                have HG3 := Lib.hid hcut.2
                clear hcut
                obtain ⟨w3, hw3⟩ : ∃ x, x = wc := ⟨_, rfl⟩
                subst hw3
                obtain ⟨D4, hD4⟩ : ∃ x, (if I - a ≥ 2 then Sort.shiftDown Sort.ltInt (I - 1) D3 else D3) = x := ⟨_, rfl⟩
                rw [hD4] at HPP
                have HDD4 := Lib.hid (show D4.size = n by rw [← hD4]; split; rw [shd_size]; exact HDD3.out; exact HDD3.out)
                have HD4 := Lib.hid hD4
                clear hD4
                go_upto_if 61 with fail
                go_cut [9] from 58 to 94 (fun _ wx => Row wx g D4 ∧ w.grownBy wx (some g))
                case first =>
                  by_cases h2 : I - a ≥ 2
                  · have h2I : (2 : Int) ≤ (I : Int) - a := by omega
                    have hsd := HD4.out
                    rw [if_pos h2] at hsd
                    have HSD := Lib.hid hsd
                    clear hsd
                    go_wp2
                    rename_i hh
                    clear h2I hh
                    go_loopw [9] (fun jv wr => ∃ (j : Nat) (dj : Array Int), jv = .int .i64 j ∧ j ≤ I - 1 ∧ dj.size = n ∧ Row wr g dj ∧ w.grownBy wr (some g) ∧ Hid (Sort.shiftDown Sort.ltInt j dj = D4)) (fun jv _ => (Go.RowKit.intOf jv).toNat)
                    case atStart => exact ⟨I - 1, D3, by congr 1; omega, Nat.le_refl _, HDD3.out, HR3.out, HG3.out, HSD⟩
                    case round =>
                      obtain ⟨j, dj, rfl, hj, hdj, hrow, hgb, hsj⟩ := hrel
                      have HDJ := Lib.hid hdj
                      have HRJ := Lib.hid hrow
                      have HGJ := Lib.hid hgb
                      clear hdj hrow hgb
                      cases j with
                      | zero =>
                        go_wp2
                        go_meet
                        case rel => exact ⟨by rw [← hsj.out]; exact HRJ.out, HGJ.out⟩
                      | succ kk =>
                        have hk1 : (1 : Int) ≤ (kk : Int) + 1 := by omega
                        have hk0 : (0 : Int) ≤ (kk : Int) + 1 := by omega
                        have hkn : (kk : Int) + 1 < n := by omega
                        have hkn2 : (kk : Int) < n := by omega
                        have hwk : IntKind.i64.wrap (kk : Int) = kk := wrapI (by omega) (by omega)
                        have c0 := (HRJ.out (kk + 1) (by rw [HDJ.out]; omega)).1
                        have f0 := (HRJ.out (kk + 1) (by rw [HDJ.out]; omega)).2
                        obtain ⟨x0, hx0⟩ : ∃ x, dj[kk + 1]! = x := ⟨_, rfl⟩
                        rw [hx0] at c0
                        have HX0 := Lib.hid hx0
                        clear hx0
                        have c1 := (HRJ.out (kk) (by rw [HDJ.out]; omega)).1
                        have f1 := (HRJ.out (kk) (by rw [HDJ.out]; omega)).2
                        obtain ⟨x1, hx1⟩ : ∃ x, dj[kk]! = x := ⟨_, rfl⟩
                        rw [hx1] at c1
                        have HX1 := Lib.hid hx1
                        clear hx1
                        have gl : g < wr.heap.size := block_lt c0
                        cases hlx : Sort.ltInt x0 x1
                        · have HL := Lib.hid hlx
                          go_wp2
                          (refine wp_region_nx 10 (by kernel_rfl) (by kernel_rfl) ?_; simp only [List.take_succ_cons, List.take_zero, List.drop_succ_cons, List.drop_zero]; (repeat (with_reducible refine wpQuiet_step (fun K hK => ?_); go_simp; first | (with_reducible refine hK _ ?_; clear hK K) | (with_reducible apply Exists.intro; with_reducible refine ⟨fun w' hw' => ?_, hK _ ?_⟩; (first | (with_reducible rfl) | (go_at_call 121; with_reducible exact (less_nx _ _ _).mono fun _ _ h => ⟨h.1, hw'.trans h.2⟩) | (obtain ⟨hc, hf⟩ := nx_cells hw'; go_simp; with_reducible rfl) | (obtain ⟨hc, hf⟩ := nx_cells hw'; go_simp; rfl)); clear hK K))); with_reducible refine wpQuiet_nil ?_; intro w5 hn5)
                          go_wp2
                          go_meet
                          case rel => exact ⟨by rw [← hsj.out, shd_stop (by rw [HX0.out, HX1.out]; exact HL.out)]; exact HRJ.out.nx hn5, gb_nx HGJ.out hn5⟩
                        · have HL := Lib.hid hlx
                          go_wp2
                          (refine wp_region_nx 10 (by kernel_rfl) (by kernel_rfl) ?_; simp only [List.take_succ_cons, List.take_zero, List.drop_succ_cons, List.drop_zero]; (repeat (with_reducible refine wpQuiet_step (fun K hK => ?_); go_simp; first | (with_reducible refine hK _ ?_; clear hK K) | (with_reducible apply Exists.intro; with_reducible refine ⟨fun w' hw' => ?_, hK _ ?_⟩; (first | (with_reducible rfl) | (go_at_call 121; with_reducible exact (less_nx _ _ _).mono fun _ _ h => ⟨h.1, hw'.trans h.2⟩) | (obtain ⟨hc, hf⟩ := nx_cells hw'; go_simp; with_reducible rfl) | (obtain ⟨hc, hf⟩ := nx_cells hw'; go_simp; rfl)); clear hK K))); with_reducible refine wpQuiet_nil ?_; intro w5 hn5)
                          have gl5 : g < w5.heap.size := Nat.lt_of_lt_of_le gl hn5.size
                          replace c0 := hn5.cell c0
                          replace c1 := hn5.cell c1
                          replace f0 := (HRJ.out.nx hn5 (kk + 1) (by rw [HDJ.out]; omega)).2
                          replace f1 := (HRJ.out.nx hn5 kk (by rw [HDJ.out]; omega)).2
                          have HR5 := Lib.hid (HRJ.out.nx hn5)
                          have HG5 := Lib.hid (gb_nx HGJ.out hn5)
                          clear hn5
                          go_wp2
                          go_region
                          all_goals
                            go_wp2
                            go_roundw
                            case rel => exact ⟨kk, Sort.swp dj (kk + 1) kk, by first | rfl | go_num, by omega, by rw [swp_size]; exact HDJ.out, by (rw [← HX0.out, ← HX1.out]; exact (HR5.out.drew.swp (by rw [HDJ.out]; omega) (by rw [HDJ.out]; omega))), gb_set (gb_set (gb_drew HG5.out) _ _) _ _, Lib.hid (by rw [← hsj.out, shd_step (by rw [HX0.out, HX1.out]; exact HL.out)])⟩
                            case measure => simp [Go.RowKit.intOf]
                  · have h2I : (I : Int) - a < 2 := by omega
                    have h2E : ((2 : Int) ≤ (I : Int) - a) = False := eq_false (by omega)
                    have hsd := HD4.out
                    rw [if_neg h2] at hsd
                    have HSD := Lib.hid hsd
                    clear hsd
                    go_wp2
                    go_meet
                    case rel => exact ⟨by rw [← HSD.out]; exact HR3.out, HG3.out⟩
                have HR4 := Lib.hid hcut.1
                have HG4 := Lib.hid hcut.2
                clear hcut
                obtain ⟨w4, hw4⟩ : ∃ x, x = wc := ⟨_, rfl⟩
                subst hw4
                obtain ⟨D5, hD5⟩ : ∃ x, (if b - I ≥ 2 then Sort.shiftUp Sort.ltInt b (I + 1) D4 else D4) = x := ⟨_, rfl⟩
                rw [hD5] at HPP
                have HD5 := Lib.hid hD5
                clear hD5
                have HSF := Lib.hid (show Sort.partialIns Sort.ltInt a b (5 - (k + 1)) I D5 = PR by
                  rw [show 5 - (k + 1) = s by omega, ← HPP.out]
                  exact hspl.out)
                by_cases h3 : b - I ≥ 2
                · have h3I : (2 : Int) ≤ (b : Int) - I := by omega
                  have hsu := HD5.out
                  rw [if_pos h3] at hsu
                  have HSU := Lib.hid hsu
                  clear hsu
                  go_wp2
                  rename_i hh
                  clear h3I hh
                  go_loopw [10] (fun jv wr => ∃ (j : Nat) (dj : Array Int), jv = .int .i64 j ∧ I + 1 ≤ j ∧ j ≤ b ∧ dj.size = n ∧ Row wr g dj ∧ w.grownBy wr (some g) ∧ Hid (Sort.shiftUp Sort.ltInt b j dj = D5)) (fun jv _ => b - (Go.RowKit.intOf jv).toNat)
                  case atStart => exact ⟨I + 1, D4, by first | rfl | go_num, Nat.le_refl _, by omega, HDD4.out, HR4.out, HG4.out, HSU⟩
                  case round =>
                    obtain ⟨j, dj, rfl, hj1, hj2, hdj, hrow, hgb, hsj⟩ := hrel
                    have HDJ := Lib.hid hdj
                    have HRJ := Lib.hid hrow
                    have HGJ := Lib.hid hgb
                    clear hdj hrow hgb
                    by_cases hjb : j < b
                    · have hjbI : (j : Int) < b := by omega
                      have hjn : (j : Int) < n := by omega
                      have o1j : (1 : Int) ≤ j := by omega
                      obtain ⟨p, hp⟩ : ∃ x : Nat, x = j - 1 := ⟨_, rfl⟩
                      have zp : (0 : Int) ≤ (j : Int) - 1 := by omega
                      have bp : (j : Int) - 1 < (n : Int) := by omega
                      have tp : ((j : Int) - 1 : Int).toNat = p := by omega
                      have wp : IntKind.i64.wrap ((j : Int) - 1) = (j : Int) - 1 := wrapI (by omega) (by omega)
                      have np : p < n := by omega
                      have Hp := Lib.hid hp
                      clear hp
                      have c0 := (HRJ.out (j) (by rw [HDJ.out]; omega)).1
                      have f0 := (HRJ.out (j) (by rw [HDJ.out]; omega)).2
                      obtain ⟨x0, hx0⟩ : ∃ x, dj[j]! = x := ⟨_, rfl⟩
                      rw [hx0] at c0
                      have HX0 := Lib.hid hx0
                      clear hx0
                      have c1 := (HRJ.out (p) (by rw [HDJ.out]; omega)).1
                      have f1 := (HRJ.out (p) (by rw [HDJ.out]; omega)).2
                      obtain ⟨x1, hx1⟩ : ∃ x, dj[p]! = x := ⟨_, rfl⟩
                      rw [hx1] at c1
                      have HX1 := Lib.hid hx1
                      clear hx1
                      have gl : g < wr.heap.size := block_lt c0
                      cases hlx : Sort.ltInt x0 x1
                      · have HL := Lib.hid hlx
                        go_wp2
                        (refine wp_region_nx 10 (by kernel_rfl) (by kernel_rfl) ?_; simp only [List.take_succ_cons, List.take_zero, List.drop_succ_cons, List.drop_zero]; (repeat (with_reducible refine wpQuiet_step (fun K hK => ?_); go_simp; first | (with_reducible refine hK _ ?_; clear hK K) | (with_reducible apply Exists.intro; with_reducible refine ⟨fun w' hw' => ?_, hK _ ?_⟩; (first | (with_reducible rfl) | (go_at_call 121; with_reducible exact (less_nx _ _ _).mono fun _ _ h => ⟨h.1, hw'.trans h.2⟩) | (obtain ⟨hc, hf⟩ := nx_cells hw'; go_simp; with_reducible rfl) | (obtain ⟨hc, hf⟩ := nx_cells hw'; go_simp; rfl)); clear hK K))); with_reducible refine wpQuiet_nil ?_; intro w5 hn5)
                        go_wp2
                        go_roundw
                        case rel => exact ⟨I, k + 1, dj, rfl, by first | rfl | go_num, by omega, by omega, by omega, HDJ.out, HRJ.out.nx hn5, gb_nx HGJ.out hn5, Lib.hid (by rw [show dj = D5 by rw [← hsj.out, shu_stop hjb (by rw [← Hp.out, HX0.out, HX1.out]; exact HL.out)]]; exact HSF.out)⟩
                        case measure => simp [Go.RowKit.intOf]; omega
                      · have HL := Lib.hid hlx
                        go_wp2
                        (refine wp_region_nx 10 (by kernel_rfl) (by kernel_rfl) ?_; simp only [List.take_succ_cons, List.take_zero, List.drop_succ_cons, List.drop_zero]; (repeat (with_reducible refine wpQuiet_step (fun K hK => ?_); go_simp; first | (with_reducible refine hK _ ?_; clear hK K) | (with_reducible apply Exists.intro; with_reducible refine ⟨fun w' hw' => ?_, hK _ ?_⟩; (first | (with_reducible rfl) | (go_at_call 121; with_reducible exact (less_nx _ _ _).mono fun _ _ h => ⟨h.1, hw'.trans h.2⟩) | (obtain ⟨hc, hf⟩ := nx_cells hw'; go_simp; with_reducible rfl) | (obtain ⟨hc, hf⟩ := nx_cells hw'; go_simp; rfl)); clear hK K))); with_reducible refine wpQuiet_nil ?_; intro w5 hn5)
                        have gl5 : g < w5.heap.size := Nat.lt_of_lt_of_le gl hn5.size
                        replace c0 := hn5.cell c0
                        replace c1 := hn5.cell c1
                        replace f0 := (HRJ.out.nx hn5 j (by rw [HDJ.out]; omega)).2
                        replace f1 := (HRJ.out.nx hn5 p (by rw [HDJ.out]; omega)).2
                        have HR5 := Lib.hid (HRJ.out.nx hn5)
                        have HG5 := Lib.hid (gb_nx HGJ.out hn5)
                        have hpj : j ≠ p := by have := Hp.out; omega
                        clear hn5
                        go_wp2
                        go_region
                        all_goals
                          go_wp2
                          go_roundw
                          case rel => exact ⟨j + 1, Sort.swp dj j p, by first | rfl | go_num, by omega, by omega, by rw [swp_size]; exact HDJ.out, by (rw [← HX0.out, ← HX1.out]; exact (HR5.out.drew.swp (by rw [HDJ.out]; omega) (by rw [HDJ.out]; omega))), gb_set (gb_set (gb_drew HG5.out) _ _) _ _, Lib.hid (by rw [← hsj.out, shu_step hjb (by rw [← Hp.out, HX0.out, HX1.out]; exact HL.out), ← Hp.out])⟩
                          case measure => simp [Go.RowKit.intOf]; omega
                    · have hjbI : (b : Int) ≤ j := by omega
                      go_wp2
                      go_roundw
                      case rel => exact ⟨I, k + 1, dj, rfl, by first | rfl | go_num, by omega, by omega, by omega, HDJ.out, HRJ.out, HGJ.out, Lib.hid (by rw [show dj = D5 by rw [← hsj.out, shu_end hjb]]; exact HSF.out)⟩
                      case measure => simp [Go.RowKit.intOf]; omega
                · have h3I : (b : Int) - I < 2 := by omega
                  have h3E : ((2 : Int) ≤ (b : Int) - I) = False := eq_false (by omega)
                  have hsu := HD5.out
                  rw [if_neg h3] at hsu
                  have HSU := Lib.hid hsu
                  clear hsu
                  go_wp2
                  go_roundw
                  case rel => exact ⟨I, k + 1, D4, rfl, by first | rfl | go_num, by omega, by omega, by omega, HDD4.out, HR4.out, HG4.out, Lib.hid (by rw [HSU.out]; exact HSF.out)⟩
                  case measure => simp [Go.RowKit.intOf]; omega
          · have hle : i3 < b := by have := HBB.out; simp only [Bool.and_eq_true, decide_eq_true_eq] at this; exact this.1
            go_wp2
            go_roundw
            case rel => exact ⟨i3 + 1, by first | rfl | go_num, by omega, by omega, HRT.out, HGT.out, Lib.hid (by rw [← hsp.out]; exact (ss_step HBB.out).symm)⟩
            case measure => simp [Go.RowKit.intOf]; omega
    · have hk5I : (5 : Int) ≤ k := by omega
      have hk6 : 5 - k = 0 := by omega
      rw [hk6] at hspl
      have HPP := Lib.hid (show PR = (dk, false) from hspl.out.symm)
      go_wp2
      go_ret
      rw [HPP.out]
      exact ⟨rfl, HGK.out, HRK.out⟩

end Go.Proofs.YtndpgakjpokllaaGreat

/- slices.Sort at uint32: choosePivotOrdered. -/
namespace Go.Proofs.YtndpgakjpokllaaGreat
open Go.RowKit
set_option linter.unusedVariables false
set_option linter.unusedSimpArgs false

theorem nx_gb {wc W w1 : World} {r : Option Nat} (h : Nx wc W) (hg : W.grownBy w1 r) (hr : ∀ g, r = some g → wc.heap.size ≤ g) : Nx wc w1 := Below.grown h hg h.size hr

/-- What comes of choosePivotOrdered: a place within, and a hint. -/
def RetPiv (a b : Nat) (w : World) (e : Ending) (w' : World) : Prop :=
  ∃ p h : Nat, e = .returned (.tuple #[.int .i64 p, .int .i64 h]) ∧ a ≤ p ∧ p < b ∧ h ≤ 2 ∧ Nx w w'

set_option maxHeartbeats 8000000 in
set_option maxRecDepth 100000 in
theorem pivot_any (g n cap : Nat) (d : Array Int) (a b : Nat) (hd : d.size = n) (hn : n ≤ 100000) (hbn : b ≤ n) (hab : a + 12 < b) (w : World) (hR : Row w g d) :
    Calls Tryz.prog 118 #[.slice (some ⟨g, 0, none⟩) n cap, .int .i64 a, .int .i64 b] w (RetPiv a b w) := by
  have hgl : g < w.heap.size := hR.lt (by omega)
  have HR := Lib.hid hR
  have HD := Lib.hid hd
  clear hR hd
  obtain ⟨L, hL⟩ : ∃ x, x = b - a := ⟨_, rfl⟩
  obtain ⟨I, hI⟩ : ∃ x, x = a + L / 4 := ⟨_, rfl⟩
  obtain ⟨J, hJ⟩ : ∃ x, x = a + L / 4 * 2 := ⟨_, rfl⟩
  obtain ⟨K, hK⟩ : ∃ x, x = a + L / 4 * 3 := ⟨_, rfl⟩
  have HL := Lib.hid hL
  have HI := Lib.hid hI
  have HJ := Lib.hid hJ
  have HK := Lib.hid hK
  have b1 : a + 3 ≤ I := by omega
  have b2 : I + 3 ≤ J := by omega
  have b3 : J + 3 ≤ K := by omega
  have b4 : K + 1 < b := by omega
  have b5 : 8 ≤ L := by omega
  have b6 : L ≤ 100000 := by omega
  have b7 : a ≤ 100000 := by omega
  clear hL hI hJ hK
  go_enter Tryz.func118, Tryz.ntmps118
  go_upto_region 1 with fail
  go_cut [8] from 13 to 15 (fun v wx => v = .int .i64 (L : Nat) ∧ wx = w)
  case first =>
    go_wp2
    go_meet
    case rel => exact ⟨by have := HL.out; congr 1; omega, rfl⟩
  obtain ⟨rfl, hwc⟩ := hcut
  rw [hwc]
  clear hwc
  go_upto_region 3 with fail
  go_cut [10] from 16 to 20 (fun v wx => v = .int .i64 (I : Nat) ∧ wx = w.alloc (.cells #[.int .i64 0] 3))
  case first =>
    go_wp2
    go_meet
    case rel => exact ⟨by have := HI.out; congr 1; omega, rfl⟩
  obtain ⟨rfl, hwc⟩ := hcut
  rw [hwc]
  clear hwc
  go_upto_region 4 with fail
  go_cut [11] from 21 to 25 (fun v wx => v = .int .i64 (J : Nat) ∧ wx = w.alloc (.cells #[.int .i64 0] 3))
  case first =>
    go_wp2
    go_meet
    case rel => exact ⟨by have := HJ.out; congr 1; omega, rfl⟩
  obtain ⟨rfl, hwc⟩ := hcut
  rw [hwc]
  clear hwc
  go_upto_region 5 with fail
  go_cut [12] from 26 to 30 (fun v wx => v = .int .i64 (K : Nat) ∧ wx = w.alloc (.cells #[.int .i64 0] 3))
  case first =>
    go_wp2
    go_meet
    case rel => exact ⟨by have := HK.out; congr 1; omega, rfl⟩
  obtain ⟨rfl, hwc⟩ := hcut
  rw [hwc]
  clear hwc
  obtain ⟨w1, hw1⟩ : ∃ x, x = w.alloc (.cells #[.int .i64 0] 3) := ⟨_, rfl⟩
  have HN := Lib.hid (show Nx w w1 by rw [hw1]; exact (Nx.refl w).alloc _)
  have HBX := Lib.hid (show Box w1 w.heap.size by rw [hw1]; exact ⟨0, Has.new _ _⟩)
  have HR1 := Lib.hid (HR.out.nx HN.out)
  have hgs : g ≠ w.heap.size := by omega
  have hgl1 : g < w1.heap.size := Nat.lt_of_lt_of_le hgl HN.out.size
  rw [← hw1]
  clear hw1
  have b5I : (8 : Int) ≤ L := by omega
  go_upto_if 32 with fail
  go_cut [10, 11, 12] from 31 to 48 (fun _ v _ wx => ∃ p : Nat, v = .int .i64 p ∧ a ≤ p ∧ p < b ∧ Nx w wx ∧ Box wx w.heap.size)
  case first =>
    by_cases h50 : 50 ≤ L
    · have h50I : (50 : Int) ≤ L := by omega
      have C1 := Lib.hid (medAdj_any g n cap w.heap.size d I HD.out hn (by omega) (by omega) w1 HR1.out hgs HBX.out)
      go_wp2_with fail
      refine C1.out.mono ?_
      rintro e w2 ⟨x, rfl, hx, hg2, hB2⟩
      have hgl2 : g < w2.heap.size := Nat.lt_of_lt_of_le hgl1 hg2.size
      have R2 := Lib.hid (HR1.out.kept hg2 (fun e => hgs (by injection e with e; exact e.symm)) hgl1)
      have C2 := Lib.hid (medAdj_any g n cap w.heap.size d J HD.out hn (by omega) (by omega) w2 R2.out hgs hB2)
      have HX := Lib.hid hx
      have HG2 := Lib.hid hg2
      clear hx hg2 hB2
      go_wp2_with fail
      refine C2.out.mono ?_
      rintro e w3 ⟨y, rfl, hy, hg3, hB3⟩
      have hgl3 : g < w3.heap.size := Nat.lt_of_lt_of_le hgl2 hg3.size
      have R3 := Lib.hid (R2.out.kept hg3 (fun e => hgs (by injection e with e; exact e.symm)) hgl2)
      have C3 := Lib.hid (medAdj_any g n cap w.heap.size d K HD.out hn (by omega) (by omega) w3 R3.out hgs hB3)
      have HY := Lib.hid hy
      have HG3 := Lib.hid (HG2.out.trans hg3)
      clear hy hg3 hB3
      go_wp2_with fail
      refine C3.out.mono ?_
      rintro e w4 ⟨z, rfl, hz, hg4, hB4⟩
      have R4 := Lib.hid (R3.out.kept hg4 (fun e => hgs (by injection e with e; exact e.symm)) hgl3)
      have C4 := Lib.hid (median_any g n cap w.heap.size d x y z HD.out hn (by have := HX.out; omega) (by have := HY.out; omega) (by omega) w4 R4.out hgs hB4)
      have HZ := Lib.hid hz
      have HG4 := Lib.hid (HG3.out.trans hg4)
      clear hz hg4 hB4
      go_wp2_with fail
      refine C4.out.mono ?_
      rintro e w5 ⟨v, rfl, hv, hg5, hB5⟩
      have HV := Lib.hid hv
      have HG5 := Lib.hid (HG4.out.trans hg5)
      have HB5 := Lib.hid hB5
      clear hv hg5 hB5
      go_wp2
      go_meet
      case rel => exact ⟨v, rfl, by have := HX.out; have := HY.out; have := HZ.out; have := HV.out; omega, by have := HX.out; have := HY.out; have := HZ.out; have := HV.out; omega, nx_gb HN.out HG5.out (fun k hk => by injection hk with hk; omega), HB5.out⟩
    · have h50I : (L : Int) < 50 := by omega
      have C1 := Lib.hid (median_any g n cap w.heap.size d I J K HD.out hn (by omega) (by omega) (by omega) w1 HR1.out hgs HBX.out)
      go_wp2_with fail
      refine C1.out.mono ?_
      rintro e w2 ⟨x, rfl, hx, hg2, hB2⟩
      have HX := Lib.hid hx
      have HG2 := Lib.hid hg2
      have HB2 := Lib.hid hB2
      clear hx hg2 hB2
      go_wp2
      go_meet
      case rel => exact ⟨x, rfl, by have := HX.out; omega, by have := HX.out; omega, nx_gb HN.out HG2.out (fun k hk => by injection hk with hk; omega), HB2.out⟩
  obtain ⟨p, rfl, hp1, hp2, hn3, hB3⟩ := hcut
  obtain ⟨m, hm⟩ := hB3
  have HN3 := Lib.hid hn3
  have s0 : wc.cell? ⟨w.heap.size, 0, none⟩ = some (.int .i64 m) := hm.cell 0 _ rfl
  have s2 := hm.lt
  clear hn3 hm
  by_cases m0 : m = 0
  · subst m0
    go_wp2
    refine bodyPost_ret (results_tmp2 rfl _ _ _) rfl ?_
    exact ⟨p, 1, rfl, hp1, hp2, by decide, HN3.out⟩
  · have m0b : (m == 0) = false := beq_eq_false_iff_ne.2 m0
    by_cases m12 : m = 12
    · subst m12
      go_wp2
      refine bodyPost_ret (results_tmp2 rfl _ _ _) rfl ?_
      exact ⟨p, 2, rfl, hp1, hp2, by decide, HN3.out⟩
    · have m12b : (m == 12) = false := beq_eq_false_iff_ne.2 m12
      go_wp2
      refine bodyPost_ret (results_tmp2 rfl _ _ _) rfl ?_
      exact ⟨p, 0, rfl, hp1, hp2, by decide, HN3.out⟩

end Go.Proofs.YtndpgakjpokllaaGreat

/- slices.Sort at uint32: xorshift.Next. -/
namespace Go.Proofs.YtndpgakjpokllaaGreat
open Go.RowKit
set_option linter.unusedVariables false
set_option linter.unusedSimpArgs false

/-- A state's box. -/
def BoxU (w : World) (s : Nat) : Prop := ∃ v : Int, Has w s (.cells #[.int .u64 v] 148)

/-- What comes of xorshift.Next: some number. -/
def RetNext (s : Nat) (w : World) (e : Ending) (w' : World) : Prop := ∃ r : Int, e = .returned (.int .u64 r) ∧ w.grownBy w' (some s) ∧ BoxU w' s

set_option maxHeartbeats 4000000 in
set_option maxRecDepth 100000 in
theorem xor_any (s : Nat) (w : World) (hB : BoxU w s) : Calls Tryz.prog 129 #[.pointer (some ⟨s, 0, none⟩)] w (RetNext s w) := by
  have HB := Lib.hid hB
  clear hB
  go_enter Tryz.func129, Tryz.ntmps129
  go_upto_region 1 with fail
  go_cut [10] from 3 to 11 (fun _ wx => BoxU wx s ∧ w.grownBy wx (some s))
  case first =>
    obtain ⟨v, hv⟩ := HB.out
    have s0 : w.cell? ⟨s, 0, none⟩ = some (.int .u64 v) := hv.cell 0 _ rfl
    have s1 := hv.free 0
    have s2 := hv.lt
    have HV := Lib.hid hv
    clear hv
    go_wp2
    go_region
    all_goals
      go_wp2
      go_meet
      case rel => exact ⟨⟨_, (HV.out.nx ((Nx.refl _).drew)).put 0 _⟩, gb_set (gb_drew (World.grownBy.refl _ _)) _ _⟩
  have HB1 := Lib.hid hcut
  clear hcut
  obtain ⟨w1, hw1⟩ : ∃ x, x = wc := ⟨_, rfl⟩
  subst hw1
  go_upto_region 2 with fail
  go_cut [19] from 12 to 20 (fun _ wx => BoxU wx s ∧ w.grownBy wx (some s))
  case first =>
    obtain ⟨v, hv⟩ := HB1.out.1
    have s0 : w1.cell? ⟨s, 0, none⟩ = some (.int .u64 v) := hv.cell 0 _ rfl
    have s1 := hv.free 0
    have s2 := hv.lt
    have HV := Lib.hid hv
    clear hv
    go_wp2
    go_region
    all_goals
      go_wp2
      go_meet
      case rel => exact ⟨⟨_, (HV.out.nx ((Nx.refl _).drew)).put 0 _⟩, gb_set (gb_drew HB1.out.2) _ _⟩
  have HB2 := Lib.hid hcut
  clear hcut
  obtain ⟨w2, hw2⟩ : ∃ x, x = wc := ⟨_, rfl⟩
  subst hw2
  go_upto_region 3 with fail
  go_cut [28] from 21 to 29 (fun _ wx => BoxU wx s ∧ w.grownBy wx (some s))
  case first =>
    obtain ⟨v, hv⟩ := HB2.out.1
    have s0 : w2.cell? ⟨s, 0, none⟩ = some (.int .u64 v) := hv.cell 0 _ rfl
    have s1 := hv.free 0
    have s2 := hv.lt
    have HV := Lib.hid hv
    clear hv
    go_wp2
    go_region
    all_goals
      go_wp2
      go_meet
      case rel => exact ⟨⟨_, (HV.out.nx ((Nx.refl _).drew)).put 0 _⟩, gb_set (gb_drew HB2.out.2) _ _⟩
  have HB3 := Lib.hid hcut
  clear hcut
  obtain ⟨w3, hw3⟩ : ∃ x, x = wc := ⟨_, rfl⟩
  subst hw3
  obtain ⟨⟨v, hv⟩, hg⟩ := HB3.out
  have s0 : w3.cell? ⟨s, 0, none⟩ = some (.int .u64 v) := hv.cell 0 _ rfl
  have s2 := hv.lt
  have HV := Lib.hid hv
  have HG := Lib.hid hg
  clear hv hg
  go_wp2
  go_ret
  exact ⟨v, rfl, HG.out, v, HV.out⟩

end Go.Proofs.YtndpgakjpokllaaGreat

