/- Parts of the proof, one behind the other. -/
import Derived.Deep.RegionWith
import Derived.Test.YtndpgakjpokllaaGreatZsae
import Derived.Test.YtndpgakjpokllaaGreatZsbc
/- slices.Sort at uint32: insertionSortOrdered. -/
namespace Go.Proofs.YtndpgakjpokllaaGreat
open Go.RowKit
set_option linter.unusedVariables false
set_option linter.unusedSimpArgs false

theorem insOuter_end {a b i : Nat} {d : Array Int} (h : ¬ i < b) : Sort.insOuter Sort.ltInt a b i d = d := by
  unfold Sort.insOuter
  rw [if_neg h]

theorem insOuter_step {a b i : Nat} {d : Array Int} (h : i < b) : Sort.insOuter Sort.ltInt a b i d = Sort.insOuter Sort.ltInt a b (i + 1) (Sort.insInner Sort.ltInt a i d) := by
  rw [Sort.insOuter, if_pos h]

theorem insInner_end {a j : Nat} {d : Array Int} (h : j ≤ a) : Sort.insInner Sort.ltInt a j d = d := by
  cases j with
  | zero => rfl
  | succ j => unfold Sort.insInner; rw [if_neg]; simp; omega

theorem insInner_stop {a j : Nat} {d : Array Int} (h : Sort.ltInt d[j + 1]! d[j]! = false) : Sort.insInner Sort.ltInt a (j + 1) d = d := by
  unfold Sort.insInner
  rw [h]
  simp

theorem insInner_step {a j : Nat} {d : Array Int} (hj : a ≤ j) (h : Sort.ltInt d[j + 1]! d[j]! = true) : Sort.insInner Sort.ltInt a (j + 1) d = Sort.insInner Sort.ltInt a j (Sort.swp d (j + 1) j) := by
  rw [Sort.insInner, h, if_pos]
  simp; omega

set_option maxHeartbeats 4000000 in
set_option maxRecDepth 100000 in
theorem insertion_any (g n cap : Nat) (d : Array Int) (a b : Nat) (hd : d.size = n) (hn : n ≤ 100000) (hb : b ≤ n) (hab : a ≤ b) (w : World) (hR : Row w g d) :
    Calls Tryz.prog 115 #[.slice (some ⟨g, 0, none⟩) n cap, .int .i64 a, .int .i64 b] w (RetSw g (Sort.insertionSort Sort.ltInt d a b) w) := by
  have HR := Lib.hid hR
  have HD := Lib.hid hd
  clear hR hd
  go_enter Tryz.func115, Tryz.ntmps115
  go_wp2
  go_loopw [6, 7] (fun iv _ wr => ∃ (i : Nat) (dk : Array Int), iv = .int .i64 i ∧ a + 1 ≤ i ∧ i ≤ b + 1 ∧ dk.size = n ∧ Row wr g dk ∧ w.grownBy wr (some g) ∧ Hid (Sort.insOuter Sort.ltInt a b i dk = Sort.insertionSort Sort.ltInt d a b)) (fun iv _ _ => b + 1 - (Go.RowKit.intOf iv).toNat)
  case atStart => exact ⟨a + 1, d, by go_num, Nat.le_refl _, by omega, HD.out, HR.out, World.grownBy.refl _ _, Lib.hid rfl⟩
  case round =>
    obtain ⟨i, dk, rfl, hi1, hi2, hdk, hrow, hgb, hout⟩ := hrel
    have HDK := Lib.hid hdk
    have HRK := Lib.hid hrow
    have HGK := Lib.hid hgb
    clear hdk hrow hgb
    by_cases hlt : i < b
    · obtain ⟨wo, hwo⟩ : ∃ x, x = wr := ⟨_, rfl⟩
      go_wp2
      go_loopw [7] (fun jv wi => ∃ (j : Nat) (dj : Array Int), jv = .int .i64 j ∧ j ≤ i ∧ dj.size = n ∧ Row wi g dj ∧ w.grownBy wi (some g) ∧ Hid (Sort.insInner Sort.ltInt a j dj = Sort.insInner Sort.ltInt a i dk)) (fun jv _ => (Go.RowKit.intOf jv).toNat)
      case atStart => exact ⟨i, dk, rfl, Nat.le_refl _, HDK.out, HRK.out, HGK.out, Lib.hid rfl⟩
      case round =>
        obtain ⟨j, dj, rfl, hj, hdj, hrow, hgb, hin⟩ := hrel
        have HDJ := Lib.hid hdj
        have HRJ := Lib.hid hrow
        have HGJ := Lib.hid hgb
        clear hdj hrow hgb
        by_cases hja : j ≤ a
        · have hjN : decide (a < j) = false := decide_eq_false (by omega)
          go_wp2
          (refine wp_region_nx 14 (by kernel_rfl) (by kernel_rfl) ?_; simp only [List.take_succ_cons, List.take_zero, List.drop_succ_cons, List.drop_zero]; (repeat (with_reducible refine wpQuiet_step (fun K hK => ?_); go_simp; first | (with_reducible refine hK _ ?_; clear hK K) | (with_reducible apply Exists.intro; with_reducible refine ⟨fun w' hw' => ?_, hK _ ?_⟩; (first | (with_reducible rfl) | (go_at_call 121; with_reducible exact (less_nx _ _ _).mono fun _ _ h => ⟨h.1, hw'.trans h.2⟩) | (obtain ⟨hc, hf⟩ := nx_cells hw'; go_simp; with_reducible rfl) | (obtain ⟨hc, hf⟩ := nx_cells hw'; go_simp; rfl)); clear hK K))); with_reducible refine wpQuiet_nil ?_; intro w1 hn1)
          go_wp2
          go_roundw
          case rel => exact ⟨i + 1, dj, by go_num, by omega, by omega, HDJ.out, HRJ.out.nx hn1, (gb_nx HGJ.out hn1), Lib.hid (by rw [← hout.out, insOuter_step hlt, ← hin.out, insInner_end hja])⟩
          case measure => simp [Go.RowKit.intOf]; omega
        · obtain ⟨k, rfl⟩ : ∃ k, j = k + 1 := ⟨j - 1, by omega⟩
          have hkN : (a : Int) < (k : Int) + 1 := by omega
          have hk0 : (0 : Int) ≤ (k : Int) + 1 := by omega
          have hkn : k + 1 < n := by omega
          have hkI : (k : Int) + 1 < n := by omega
          have hkI2 : (k : Int) < n := by omega
          have c0 := (HRJ.out k (by rw [HDJ.out]; omega)).1
          have c1 := (HRJ.out (k + 1) (by rw [HDJ.out]; omega)).1
          have f0 := (HRJ.out k (by rw [HDJ.out]; omega)).2
          have f1 := (HRJ.out (k + 1) (by rw [HDJ.out]; omega)).2
          have hwk : IntKind.i64.wrap (k : Int) = k := wrapI (by omega) (by omega)
          have gl : g < wr.heap.size := block_lt c0
          obtain ⟨x, hx⟩ : ∃ x, dj[k]! = x := ⟨_, rfl⟩
          obtain ⟨y, hy⟩ : ∃ x, dj[k + 1]! = x := ⟨_, rfl⟩
          rw [hx] at c0
          rw [hy] at c1
          have HXX := Lib.hid hx
          have HYY := Lib.hid hy
          clear hx hy
          cases hlx : Sort.ltInt y x
          · have HL := Lib.hid hlx
            go_wp2
            (refine wp_region_nx 14 (by kernel_rfl) (by kernel_rfl) ?_; simp only [List.take_succ_cons, List.take_zero, List.drop_succ_cons, List.drop_zero]; (repeat (with_reducible refine wpQuiet_step (fun K hK => ?_); go_simp; first | (with_reducible refine hK _ ?_; clear hK K) | (with_reducible apply Exists.intro; with_reducible refine ⟨fun w' hw' => ?_, hK _ ?_⟩; (first | (with_reducible rfl) | (go_at_call 121; with_reducible exact (less_nx _ _ _).mono fun _ _ h => ⟨h.1, hw'.trans h.2⟩) | (obtain ⟨hc, hf⟩ := nx_cells hw'; go_simp; with_reducible rfl) | (obtain ⟨hc, hf⟩ := nx_cells hw'; go_simp; rfl)); clear hK K))); with_reducible refine wpQuiet_nil ?_; intro w1 hn1)
            go_wp2
            go_roundw
            case rel => exact ⟨i + 1, dj, by go_num, by omega, by omega, HDJ.out, HRJ.out.nx hn1, (gb_nx HGJ.out hn1), Lib.hid (by rw [← hout.out, insOuter_step hlt, ← hin.out, insInner_stop (by rw [HXX.out, HYY.out]; exact HL.out)])⟩
            case measure => simp [Go.RowKit.intOf]; omega
          · have HL := Lib.hid hlx
            go_wp2
            (refine wp_region_nx 14 (by kernel_rfl) (by kernel_rfl) ?_; simp only [List.take_succ_cons, List.take_zero, List.drop_succ_cons, List.drop_zero]; (repeat (with_reducible refine wpQuiet_step (fun K hK => ?_); go_simp; first | (with_reducible refine hK _ ?_; clear hK K) | (with_reducible apply Exists.intro; with_reducible refine ⟨fun w' hw' => ?_, hK _ ?_⟩; (first | (with_reducible rfl) | (go_at_call 121; with_reducible exact (less_nx _ _ _).mono fun _ _ h => ⟨h.1, hw'.trans h.2⟩) | (obtain ⟨hc, hf⟩ := nx_cells hw'; go_simp; with_reducible rfl) | (obtain ⟨hc, hf⟩ := nx_cells hw'; go_simp; rfl)); clear hK K))); with_reducible refine wpQuiet_nil ?_; intro w1 hn1)
            have gl1 : g < w1.heap.size := Nat.lt_of_lt_of_le gl hn1.size
            replace c0 := hn1.cell c0
            replace c1 := hn1.cell c1
            replace f0 := (HRJ.out.nx hn1 k (by rw [HDJ.out]; omega)).2
            replace f1 := (HRJ.out.nx hn1 (k + 1) (by rw [HDJ.out]; omega)).2
            have HR1 := Lib.hid (HRJ.out.nx hn1)
            have HG1 := Lib.hid (gb_nx HGJ.out hn1)
            clear hn1
            go_wp2
            go_region
            all_goals
              go_wp2
              go_roundw
              case rel => exact ⟨k, Sort.swp dj (k + 1) k, by go_num, by omega, by rw [swp_size]; exact HDJ.out, by (rw [← HXX.out, ← HYY.out]; exact (HR1.out.drew.swp (by rw [HDJ.out]; omega) (by rw [HDJ.out]; omega))), gb_set (gb_set (gb_drew HG1.out) _ _) _ _, Lib.hid (by rw [← hin.out, insInner_step (by omega) (by rw [HXX.out, HYY.out]; exact HL.out)])⟩
              case measure => simp [Go.RowKit.intOf]
    · have hge : (b : Int) ≤ i := by omega
      go_wp2
      go_end0
      exact ⟨rfl, HGK.out, by rw [← hout.out, insOuter_end hlt]; exact HRK.out⟩

end Go.Proofs.YtndpgakjpokllaaGreat

/- slices.Sort at uint32: order2Ordered, medianOrdered, medianAdjacentOrdered. -/
namespace Go.Proofs.YtndpgakjpokllaaGreat
open Go.RowKit
set_option linter.unusedVariables false
set_option linter.unusedSimpArgs false

/-- A number's box. -/
def Box (w : World) (s : Nat) : Prop := ∃ m : Int, Has w s (.cells #[.int .i64 m] 3)

/-- What comes of order2Ordered: the two places, in one order or the other. -/
def RetOrd (a b s : Nat) (w : World) (e : Ending) (w' : World) : Prop :=
  ∃ x y : Nat, e = .returned (.tuple #[.int .i64 x, .int .i64 y]) ∧ ((x = a ∧ y = b) ∨ (x = b ∧ y = a)) ∧ w.grownBy w' (some s) ∧ Box w' s

set_option maxHeartbeats 4000000 in
set_option maxRecDepth 100000 in
theorem order2_any (g n cap s : Nat) (d : Array Int) (a b : Nat) (hd : d.size = n) (hn : n ≤ 100000) (ha : a < n) (hb : b < n) (w : World) (hR : Row w g d) (hgs : g ≠ s) (hB : Box w s) :
    Calls Tryz.prog 133 #[.slice (some ⟨g, 0, none⟩) n cap, .int .i64 a, .int .i64 b, .pointer (some ⟨s, 0, none⟩)] w (RetOrd a b s w) := by
  obtain ⟨m, hm⟩ := hB
  have haI : (a : Int) < n := by omega
  have hbI : (b : Int) < n := by omega
  have c0 := (hR b (by omega)).1
  have c1 := (hR a (by omega)).1
  have gl : g < w.heap.size := block_lt c0
  obtain ⟨x0, hx0⟩ : ∃ x, d[b]! = x := ⟨_, rfl⟩
  obtain ⟨x1, hx1⟩ : ∃ x, d[a]! = x := ⟨_, rfl⟩
  rw [hx0] at c0
  rw [hx1] at c1
  have HM := Lib.hid hm
  clear hx0 hx1 hd hR hm
  cases hlx : Sort.ltInt x0 x1
  · have hl2 : x1 ≤ x0 := by have := of_decide_eq_false hlx; omega
    go_enter Tryz.func133, Tryz.ntmps133
    go_wp2
    (refine wp_region_nx 8 (by kernel_rfl) (by kernel_rfl) ?_; simp only [List.take_succ_cons, List.take_zero, List.drop_succ_cons, List.drop_zero]; (repeat (with_reducible refine wpQuiet_step (fun K hK => ?_); go_simp; first | (with_reducible refine hK _ ?_; clear hK K) | (with_reducible apply Exists.intro; with_reducible refine ⟨fun w' hw' => ?_, hK _ ?_⟩; (first | (with_reducible rfl) | (go_at_call 121; with_reducible exact (less_nx _ _ _).mono fun _ _ h => ⟨h.1, hw'.trans h.2⟩) | (obtain ⟨hc, hf⟩ := nx_cells hw'; go_simp; with_reducible rfl) | (obtain ⟨hc, hf⟩ := nx_cells hw'; go_simp; rfl)); clear hK K))); with_reducible refine wpQuiet_nil ?_; intro w1 hn1)
    go_wp2
    refine bodyPost_ret (results_tmp2 rfl _ _ _) rfl ?_
    exact ⟨a, b, rfl, Or.inl ⟨rfl, rfl⟩, gb_nx (World.grownBy.refl _ _) hn1, m, HM.out.nx hn1⟩
  · have hl2 : x0 < x1 := of_decide_eq_true hlx
    go_enter Tryz.func133, Tryz.ntmps133
    go_wp2
    (refine wp_region_nx 8 (by kernel_rfl) (by kernel_rfl) ?_; simp only [List.take_succ_cons, List.take_zero, List.drop_succ_cons, List.drop_zero]; (repeat (with_reducible refine wpQuiet_step (fun K hK => ?_); go_simp; first | (with_reducible refine hK _ ?_; clear hK K) | (with_reducible apply Exists.intro; with_reducible refine ⟨fun w' hw' => ?_, hK _ ?_⟩; (first | (with_reducible rfl) | (go_at_call 121; with_reducible exact (less_nx _ _ _).mono fun _ _ h => ⟨h.1, hw'.trans h.2⟩) | (obtain ⟨hc, hf⟩ := nx_cells hw'; go_simp; with_reducible rfl) | (obtain ⟨hc, hf⟩ := nx_cells hw'; go_simp; rfl)); clear hK K))); with_reducible refine wpQuiet_nil ?_; intro w1 hn1)
    have HM1 := Lib.hid (HM.out.nx hn1)
    have HN1 := Lib.hid hn1
    have s0 := HM1.out.cell 0 _ rfl
    have s1 := HM1.out.free 0
    have s2 := HM1.out.lt
    clear hn1
    go_wp2
    refine bodyPost_ret (results_tmp2 rfl _ _ _) rfl ?_
    exact ⟨b, a, rfl, Or.inr ⟨rfl, rfl⟩, gb_set (gb_nx (World.grownBy.refl _ _) HN1.out) _ _, _, HM1.out.put 0 _⟩

/-- What comes of medianOrdered: one of the three places. -/
def RetMed (a b c s : Nat) (w : World) (e : Ending) (w' : World) : Prop :=
  ∃ x : Nat, e = .returned (.int .i64 x) ∧ (x = a ∨ x = b ∨ x = c) ∧ w.grownBy w' (some s) ∧ Box w' s

set_option maxHeartbeats 4000000 in
set_option maxRecDepth 100000 in
theorem median_any (g n cap s : Nat) (d : Array Int) (a b c : Nat) (hd : d.size = n) (hn : n ≤ 100000) (ha : a < n) (hb : b < n) (hc : c < n) (w : World) (hR : Row w g d) (hgs : g ≠ s) (hB : Box w s) :
    Calls Tryz.prog 131 #[.slice (some ⟨g, 0, none⟩) n cap, .int .i64 a, .int .i64 b, .int .i64 c, .pointer (some ⟨s, 0, none⟩)] w (RetMed a b c s w) := by
  have hgl : g < w.heap.size := hR.lt (by omega)
  have HR := Lib.hid hR
  have HB := Lib.hid hB
  have HD := Lib.hid hd
  have C1 := Lib.hid (order2_any g n cap s d a b hd hn ha hb w hR hgs hB)
  clear hR hB hd
  go_enter Tryz.func131, Tryz.ntmps131
  go_wp2_with fail
  refine C1.out.mono ?_
  rintro e w1 ⟨x, y, rfl, hxy, hg1, hB1⟩
  have hx : x < n := by omega
  have hy : y < n := by omega
  have R1 := Lib.hid (HR.out.kept hg1 (fun e => hgs (by injection e with e; exact e.symm)) hgl)
  have hgl1 : g < w1.heap.size := Nat.lt_of_lt_of_le hgl hg1.size
  have C2 := Lib.hid (order2_any g n cap s d y c HD.out hn hy hc w1 R1.out hgs hB1)
  have HG1 := Lib.hid hg1
  clear hg1 hB1
  go_wp2_with fail
  refine C2.out.mono ?_
  rintro e w2 ⟨x2, y2, rfl, hxy2, hg2, hB2⟩
  have hx2 : x2 < n := by omega
  have R2 := Lib.hid (R1.out.kept hg2 (fun e => hgs (by injection e with e; exact e.symm)) hgl1)
  have C3 := Lib.hid (order2_any g n cap s d x x2 HD.out hn hx hx2 w2 R2.out hgs hB2)
  have HG2 := Lib.hid (HG1.out.trans hg2)
  clear hg2 hB2
  go_wp2_with fail
  refine C3.out.mono ?_
  rintro e w3 ⟨x3, y3, rfl, hxy3, hg3, hB3⟩
  have HG3 := Lib.hid (HG2.out.trans hg3)
  have HB3 := Lib.hid hB3
  clear hg3 hB3
  go_wp2
  go_ret
  exact ⟨y3, rfl, by omega, HG3.out, HB3.out⟩

set_option maxHeartbeats 4000000 in
set_option maxRecDepth 100000 in
theorem medAdj_any (g n cap s : Nat) (d : Array Int) (a : Nat) (hd : d.size = n) (hn : n ≤ 100000) (ha : a + 1 < n) (h1 : 1 ≤ a) (w : World) (hR : Row w g d) (hgs : g ≠ s) (hB : Box w s) :
    Calls Tryz.prog 130 #[.slice (some ⟨g, 0, none⟩) n cap, .int .i64 a, .pointer (some ⟨s, 0, none⟩)] w (RetMed (a - 1) a (a + 1) s w) := by
  have C1 := Lib.hid (median_any g n cap s d (a - 1) a (a + 1) hd hn (by omega) (by omega) ha w hR hgs hB)
  have e1 : ((a - 1 : Nat) : Int) = (a : Int) - 1 := by omega
  have e2 : ((a + 1 : Nat) : Int) = (a : Int) + 1 := by omega
  rw [e1, e2] at C1
  clear e1 e2 hR hB hd
  go_enter Tryz.func130, Tryz.ntmps130
  go_wp2_with fail
  refine C1.out.mono ?_
  rintro e w1 ⟨x, rfl, hx, hg1, hB1⟩
  have HX := Lib.hid hx
  have HG1 := Lib.hid hg1
  have HB1 := Lib.hid hB1
  clear hx hg1 hB1
  go_wp2
  go_ret
  exact ⟨x, rfl, HX.out, HG1.out, HB1.out⟩

end Go.Proofs.YtndpgakjpokllaaGreat

