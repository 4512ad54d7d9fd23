/- Parts of the proof, one behind the other. -/
import Derived.Deep.RegionWith
import Derived.Deep.CutRange
import Derived.Test.YtndpgakjpokllaaGreatZsae
import Derived.Test.YtndpgakjpokllaaGreatZsbc
/- slices.Sort at uint32: siftDownOrdered, heapSortOrdered. -/
namespace Go.Proofs.YtndpgakjpokllaaGreat
open Go.RowKit
set_option linter.unusedVariables false
set_option linter.unusedSimpArgs false

def sdC (hi first root : Nat) (d : Array Int) : Nat := if (decide (2 * root + 1 + 1 < hi) && Sort.ltInt d[first + (2 * root + 1)]! d[first + (2 * root + 1) + 1]!) = true then 2 * root + 2 else 2 * root + 1

theorem sd_end {hi first root : Nat} {d : Array Int} (h : hi ≤ 2 * root + 1) : Sort.siftDown Sort.ltInt hi first root d = d := by
  rw [Sort.siftDown, dif_pos h]

theorem sd_stop {hi first root : Nat} {d : Array Int} (h : ¬ hi ≤ 2 * root + 1) (hl : Sort.ltInt d[first + root]! d[first + sdC hi first root d]! = false) : Sort.siftDown Sort.ltInt hi first root d = d := by
  rw [Sort.siftDown, dif_neg h]
  unfold sdC at hl
  split
  · rename_i h1
    rw [if_pos h1] at hl
    rw [hl]; rfl
  · rename_i h1
    rw [if_neg h1] at hl
    rw [hl]; rfl

theorem sd_step {hi first root : Nat} {d : Array Int} (h : ¬ hi ≤ 2 * root + 1) (hl : Sort.ltInt d[first + root]! d[first + sdC hi first root d]! = true) : Sort.siftDown Sort.ltInt hi first root d = Sort.siftDown Sort.ltInt hi first (sdC hi first root d) (Sort.swp d (first + root) (first + sdC hi first root d)) := by
  rw [Sort.siftDown, dif_neg h]
  unfold sdC at hl ⊢
  split
  · rename_i h1
    rw [if_pos h1] at hl
    rw [hl]
    simp only [Bool.and_eq_true, decide_eq_true_eq] at h1
    simp [h1.1]
  · rename_i h1
    rw [if_neg h1] at hl
    rw [hl]; rfl

theorem sdC_lt {hi first root : Nat} {d : Array Int} (h : ¬ hi ≤ 2 * root + 1) : root < sdC hi first root d ∧ sdC hi first root d < hi := by
  unfold sdC
  split
  · rename_i h1
    simp only [Bool.and_eq_true, decide_eq_true_eq] at h1
    omega
  · omega

set_option maxHeartbeats 4000000 in
set_option maxRecDepth 100000 in
theorem sift_any (g n cap : Nat) (d : Array Int) (lo hi first : Nat) (hd : d.size = n) (hn : n ≤ 100000) (hb : first + hi ≤ n) (hlo : lo ≤ hi) (w : World) (hR : Row w g d) :
    Calls Tryz.prog 127 #[.slice (some ⟨g, 0, none⟩) n cap, .int .i64 lo, .int .i64 hi, .int .i64 first] w (RetSw g (Sort.siftDown Sort.ltInt hi first lo d) w) := by
  have HR := Lib.hid hR
  have HD := Lib.hid hd
  clear hR hd
  go_enter Tryz.func127, Tryz.ntmps127
  go_wp2
  go_loopw [8, 9] (fun rv _ wr => ∃ (root : Nat) (dk : Array Int), rv = .int .i64 root ∧ root ≤ hi ∧ dk.size = n ∧ Row wr g dk ∧ w.grownBy wr (some g) ∧ Hid (Sort.siftDown Sort.ltInt hi first root dk = Sort.siftDown Sort.ltInt hi first lo d)) (fun rv _ _ => hi + 1 - (Go.RowKit.intOf rv).toNat)
  case atStart => exact ⟨lo, d, rfl, hlo, HD.out, HR.out, World.grownBy.refl _ _, Lib.hid rfl⟩
  case round =>
    obtain ⟨root, dk, rfl, hr, hdk, hrow, hgb, hspec⟩ := hrel
    have HDK := Lib.hid hdk
    have HRK := Lib.hid hrow
    have HGK := Lib.hid hgb
    clear hdk hrow hgb
    by_cases h0 : hi ≤ 2 * root + 1
    · have h0I : (hi : Int) ≤ 2 * (root : Int) + 1 := by omega
      go_wp2
      refine bodyPost_ret (results_none rfl _ _ _) rfl ?_
      exact ⟨rfl, HGK.out, by rw [← hspec.out, sd_end h0]; exact HRK.out⟩
    · have HC := Lib.hid (sdC_lt (first := first) (d := dk) h0)
      obtain ⟨c, hc⟩ : ∃ c, sdC hi first root dk = c := ⟨_, rfl⟩
      rw [hc] at HC
      have HCC := Lib.hid hc
      clear hc
      have H0 := Lib.hid h0
      obtain ⟨ch, hch⟩ : ∃ x : Nat, x = 2 * root + 1 := ⟨_, rfl⟩
      have hchI : (ch : Int) < hi := by omega
      go_upto_region 1 with fail
      go_cut [9] from 11 to 13 (fun cv wx => cv = .int .i64 (ch : Nat) ∧ wx = wr)
      case first =>
        go_wp2
        go_meet
        case rel => exact ⟨by rw [hch]; go_num, rfl⟩
      case rest =>
        obtain ⟨rfl, hwc⟩ := hcut
        rw [hwc]
        clear hwc
        have HCH := Lib.hid hch
        obtain ⟨bb, hbb⟩ : ∃ x, decide (c = ch + 1) = x := ⟨_, rfl⟩
        have HBB := Lib.hid hbb
        clear hch h0 hbb
        go_upto_region 3 with fail
        go_cut [36] from 16 to 36 (fun bv wx => bv = .bool bb ∧ Nx wr wx)
        case first =>
          have hwch : IntKind.i64.wrap ((ch : Int) + 1) = (ch : Int) + 1 := wrapI (by omega) (by omega)
          by_cases h1 : ch + 1 < hi
          · have h1I : (ch : Int) + 1 < hi := by omega
            obtain ⟨p, hp⟩ : ∃ x : Nat, x = first + ch := ⟨_, rfl⟩
            have zp : (0 : Int) ≤ (first : Int) + (ch : Int) := by omega
            have bp : (first : Int) + (ch : Int) < (n : Int) := by omega
            have tp : ((first : Int) + (ch : Int) : Int).toNat = p := by omega
            have wp : IntKind.i64.wrap ((first : Int) + (ch : Int)) = (first : Int) + (ch : Int) := wrapI (by omega) (by omega)
            have np : p < n := by omega
            have Hp := Lib.hid hp
            clear hp
            obtain ⟨q, hq⟩ : ∃ x : Nat, x = first + ch + 1 := ⟨_, rfl⟩
            have zq : (0 : Int) ≤ (first : Int) + (ch : Int) + 1 := by omega
            have bq : (first : Int) + (ch : Int) + 1 < (n : Int) := by omega
            have tq : ((first : Int) + (ch : Int) + 1 : Int).toNat = q := by omega
            have wq : IntKind.i64.wrap ((first : Int) + (ch : Int) + 1) = (first : Int) + (ch : Int) + 1 := wrapI (by omega) (by omega)
            have nq : q < n := by omega
            have Hq := Lib.hid hq
            clear hq
            have c0 := (HRK.out (p) (by rw [HDK.out]; omega)).1
            have f0 := (HRK.out (p) (by rw [HDK.out]; omega)).2
            obtain ⟨x0, hx0⟩ : ∃ x, dk[p]! = x := ⟨_, rfl⟩
            rw [hx0] at c0
            have HX0 := Lib.hid hx0
            clear hx0
            have c1 := (HRK.out (q) (by rw [HDK.out]; omega)).1
            have f1 := (HRK.out (q) (by rw [HDK.out]; omega)).2
            obtain ⟨x1, hx1⟩ : ∃ x, dk[q]! = x := ⟨_, rfl⟩
            rw [hx1] at c1
            have HX1 := Lib.hid hx1
            clear hx1
            have gl : g < wr.heap.size := block_lt c0
            have hcl : decide (c = ch + 1) = Sort.ltInt x0 x1 := by
              rw [← HX0.out, ← HX1.out, ← HCC.out, HCH.out]
              unfold sdC
              rw [show decide (2 * root + 1 + 1 < hi) = true from decide_eq_true (by have := HCH.out; omega), Bool.true_and, Hq.out, Hp.out, HCH.out]
              cases Sort.ltInt dk[first + (2 * root + 1)]! dk[first + (2 * root + 1) + 1]! <;> simp
            have HCL := Lib.hid hcl
            clear hcl
            go_wp2
            (refine wp_region_nx 19 (by kernel_rfl) (by kernel_rfl) ?_; simp only [List.take_succ_cons, List.take_zero, List.drop_succ_cons, List.drop_zero]; (repeat (with_reducible refine wpQuiet_step (fun K hK => ?_); go_simp; first | (with_reducible refine hK _ ?_; clear hK K) | (with_reducible apply Exists.intro; with_reducible refine ⟨fun w' hw' => ?_, hK _ ?_⟩; (first | (with_reducible rfl) | (go_at_call 121; with_reducible exact (less_nx _ _ _).mono fun _ _ h => ⟨h.1, hw'.trans h.2⟩) | (obtain ⟨hc, hf⟩ := nx_cells hw'; go_simp; with_reducible rfl) | (obtain ⟨hc, hf⟩ := nx_cells hw'; go_simp; rfl)); clear hK K))); with_reducible refine wpQuiet_nil ?_; intro w1 hn1)
            go_wp2
            go_meet
            case rel => exact ⟨by rw [← HBB.out, HCL.out], hn1⟩
          · have h1I : ((ch : Int) + 1 < hi) = False := eq_false (by omega)
            have hcl : decide (c = ch + 1) = false := by
              rw [← HCC.out]
              unfold sdC
              rw [show decide (2 * root + 1 + 1 < hi) = false from decide_eq_false (by have := HCH.out; omega), Bool.false_and, HCH.out]
              simp
            have HCL := Lib.hid hcl
            clear hcl
            go_wp2
            (refine wp_region_nx 19 (by kernel_rfl) (by kernel_rfl) ?_; simp only [List.take_succ_cons, List.take_zero, List.drop_succ_cons, List.drop_zero]; (repeat (with_reducible refine wpQuiet_step (fun K hK => ?_); go_simp; first | (with_reducible refine hK _ ?_; clear hK K) | (with_reducible apply Exists.intro; with_reducible refine ⟨fun w' hw' => ?_, hK _ ?_⟩; (first | (with_reducible rfl) | (go_at_call 121; with_reducible exact (less_nx _ _ _).mono fun _ _ h => ⟨h.1, hw'.trans h.2⟩) | (obtain ⟨hc, hf⟩ := nx_cells hw'; go_simp; with_reducible rfl) | (obtain ⟨hc, hf⟩ := nx_cells hw'; go_simp; rfl)); clear hK K))); with_reducible refine wpQuiet_nil ?_; intro w1 hn1)
            go_wp2
            go_meet
            case rel => exact ⟨by rw [← HBB.out, HCL.out], hn1⟩
        case rest =>
          obtain ⟨rfl, hn1⟩ := hcut
          have HRC := Lib.hid (HRK.out.nx hn1)
          have HGC := Lib.hid (gb_nx HGK.out hn1)
          clear hn1
          obtain ⟨wo, hwo⟩ : ∃ x, x = wc := ⟨_, rfl⟩
          subst hwo
          go_upto_if 36 with fail
          go_cut [9] from 37 to 38 (fun cv wx => cv = .int .i64 (c : Nat) ∧ wx = wo)
          case first =>
            have hor : c = ch + 1 ∨ c = ch := by
              rw [← HCC.out, HCH.out]
              unfold sdC
              split
              · exact Or.inl rfl
              · exact Or.inr rfl
            cases bb
            rotate_left
            · have hor : c = ch + 1 := of_decide_eq_true HBB.out
              have hw : IntKind.i64.wrap ((ch : Int) + 1) = (ch : Int) + 1 := wrapI (by omega) (by omega)
              have HO := Lib.hid hor
              clear hor
              go_wp2
              go_meet
              case rel => exact ⟨by rw [HO.out]; go_num, rfl⟩
            · have hor : c = ch := by have := of_decide_eq_false HBB.out; omega
              have HO := Lib.hid hor
              clear hor
              go_wp2
              go_meet
              case rel => exact ⟨by rw [HO.out], rfl⟩
          case rest =>
            obtain ⟨rfl, hwd⟩ := hcut
            subst hwd
            have hcr := HC.out
            obtain ⟨p, hp⟩ : ∃ x : Nat, x = first + root := ⟨_, rfl⟩
            have zp : (0 : Int) ≤ (first : Int) + (root : Int) := by omega
            have bp : (first : Int) + (root : Int) < (n : Int) := by omega
            have tp : ((first : Int) + (root : Int) : Int).toNat = p := by omega
            have wp : IntKind.i64.wrap ((first : Int) + (root : Int)) = (first : Int) + (root : Int) := wrapI (by omega) (by omega)
            have np : p < n := by omega
            have Hp := Lib.hid hp
            clear hp
            obtain ⟨q, hq⟩ : ∃ x : Nat, x = first + c := ⟨_, rfl⟩
            have zq : (0 : Int) ≤ (first : Int) + (c : Int) := by omega
            have bq : (first : Int) + (c : Int) < (n : Int) := by omega
            have tq : ((first : Int) + (c : Int) : Int).toNat = q := by omega
            have wq : IntKind.i64.wrap ((first : Int) + (c : Int)) = (first : Int) + (c : Int) := wrapI (by omega) (by omega)
            have nq : q < n := by omega
            have Hq := Lib.hid hq
            clear hq
            have c0 := (HRC.out (p) (by rw [HDK.out]; omega)).1
            have f0 := (HRC.out (p) (by rw [HDK.out]; omega)).2
            obtain ⟨x0, hx0⟩ : ∃ x, dk[p]! = x := ⟨_, rfl⟩
            rw [hx0] at c0
            have HX0 := Lib.hid hx0
            clear hx0
            have c1 := (HRC.out (q) (by rw [HDK.out]; omega)).1
            have f1 := (HRC.out (q) (by rw [HDK.out]; omega)).2
            obtain ⟨x1, hx1⟩ : ∃ x, dk[q]! = x := ⟨_, rfl⟩
            rw [hx1] at c1
            have HX1 := Lib.hid hx1
            clear hx1
            have gl : g < wc.heap.size := block_lt c0
            cases hlx : Sort.ltInt x0 x1
            · have HL := Lib.hid hlx
              go_wp2
              (refine wp_region_nx 13 (by kernel_rfl) (by kernel_rfl) ?_; simp only [List.take_succ_cons, List.take_zero, List.drop_succ_cons, List.drop_zero]; (repeat (with_reducible refine wpQuiet_step (fun K hK => ?_); go_simp; first | (with_reducible refine hK _ ?_; clear hK K) | (with_reducible apply Exists.intro; with_reducible refine ⟨fun w' hw' => ?_, hK _ ?_⟩; (first | (with_reducible rfl) | (go_at_call 121; with_reducible exact (less_nx _ _ _).mono fun _ _ h => ⟨h.1, hw'.trans h.2⟩) | (obtain ⟨hc, hf⟩ := nx_cells hw'; go_simp; with_reducible rfl) | (obtain ⟨hc, hf⟩ := nx_cells hw'; go_simp; rfl)); clear hK K))); with_reducible refine wpQuiet_nil ?_; intro w1 hn1)
              go_wp2
              refine bodyPost_ret (results_none rfl _ _ _) rfl ?_
              exact ⟨rfl, gb_nx HGC.out hn1, by rw [← hspec.out, sd_stop H0.out (by rw [HCC.out, ← Hp.out, ← Hq.out, HX0.out, HX1.out]; exact HL.out)]; exact HRC.out.nx hn1⟩
            · have HL := Lib.hid hlx
              go_wp2
              (refine wp_region_nx 13 (by kernel_rfl) (by kernel_rfl) ?_; simp only [List.take_succ_cons, List.take_zero, List.drop_succ_cons, List.drop_zero]; (repeat (with_reducible refine wpQuiet_step (fun K hK => ?_); go_simp; first | (with_reducible refine hK _ ?_; clear hK K) | (with_reducible apply Exists.intro; with_reducible refine ⟨fun w' hw' => ?_, hK _ ?_⟩; (first | (with_reducible rfl) | (go_at_call 121; with_reducible exact (less_nx _ _ _).mono fun _ _ h => ⟨h.1, hw'.trans h.2⟩) | (obtain ⟨hc, hf⟩ := nx_cells hw'; go_simp; with_reducible rfl) | (obtain ⟨hc, hf⟩ := nx_cells hw'; go_simp; rfl)); clear hK K))); with_reducible refine wpQuiet_nil ?_; intro w1 hn1)
              have gl1 : g < w1.heap.size := Nat.lt_of_lt_of_le gl hn1.size
              replace c0 := hn1.cell c0
              replace c1 := hn1.cell c1
              replace f0 := (HRC.out.nx hn1 p (by rw [HDK.out]; omega)).2
              replace f1 := (HRC.out.nx hn1 q (by rw [HDK.out]; omega)).2
              have HR1 := Lib.hid (HRC.out.nx hn1)
              have HG1 := Lib.hid (gb_nx HGC.out hn1)
              have hpq : p ≠ q := by have := Hp.out; have := Hq.out; omega
              clear hn1
              go_wp2
              go_region
              all_goals
                go_wp2
                go_roundw
                case rel => exact ⟨c, Sort.swp dk p q, rfl, by omega, by rw [swp_size]; exact HDK.out, by (rw [← HX0.out, ← HX1.out]; exact (HR1.out.drew.swp (by rw [HDK.out]; omega) (by rw [HDK.out]; omega))), gb_set (gb_set (gb_drew HG1.out) _ _) _ _, Lib.hid (by rw [← hspec.out, sd_step H0.out (by rw [HCC.out, ← Hp.out, ← Hq.out, HX0.out, HX1.out]; exact HL.out), HCC.out, ← Hp.out, ← Hq.out])⟩
                case measure => simp [Go.RowKit.intOf]; omega

end Go.Proofs.YtndpgakjpokllaaGreat

/- slices.Sort at uint32: heapSortOrdered, reverseRangeOrdered. -/
namespace Go.Proofs.YtndpgakjpokllaaGreat
open Go.RowKit
set_option linter.unusedVariables false
set_option linter.unusedSimpArgs false

theorem sd_size (hi first : Nat) : ∀ (k root : Nat) (d : Array Int), hi - root ≤ k → (Sort.siftDown Sort.ltInt hi first root d).size = d.size := by
  intro k
  induction k with
  | zero => intro root d h; rw [sd_end (by omega)]
  | succ k ih =>
    intro root d h
    by_cases h0 : hi ≤ 2 * root + 1
    · rw [sd_end h0]
    · have hc := sdC_lt (first := first) (d := d) h0
      cases hl : Sort.ltInt d[first + root]! d[first + sdC hi first root d]!
      · rw [sd_stop h0 hl]
      · rw [sd_step h0 hl, ih _ _ (by omega), swp_size]

set_option maxHeartbeats 4000000 in
set_option maxRecDepth 100000 in
theorem heap_any (g n cap : Nat) (d : Array Int) (a b : Nat) (hd : d.size = n) (hn : n ≤ 100000) (hbn : b ≤ n) (hab : a ≤ b) (w : World) (hR : Row w g d) :
    Calls Tryz.prog 116 #[.slice (some ⟨g, 0, none⟩) n cap, .int .i64 a, .int .i64 b] w (RetSw g (Sort.heapSort Sort.ltInt d a b) w) := by
  have HR := Lib.hid hR
  have HD := Lib.hid hd
  clear hR hd
  obtain ⟨m, hm⟩ : ∃ x, x = b - a := ⟨_, rfl⟩
  have hb : a + m ≤ n := by omega
  have HM := Lib.hid hm
  clear hm
  obtain ⟨d1, hd1⟩ : ∃ x, Sort.heapBuild Sort.ltInt m a ((m - 1) / 2 + 1) d = x := ⟨_, rfl⟩
  have HSP := Lib.hid (show Sort.heapSort Sort.ltInt d a b = Sort.heapPop Sort.ltInt a m d1 by
    unfold Sort.heapSort
    rw [← HM.out, hd1])
  have HD1 := Lib.hid hd1
  clear hd1
  obtain ⟨q, hq⟩ : ∃ x, x = (m - 1) / 2 := ⟨_, rfl⟩
  have hqI : ((m : Int) - 1).tdiv 2 = (q : Int) := by
    subst hq
    cases m with
    | zero => rfl
    | succ m => 
      have : (((m + 1 : Nat) : Int) - 1) = (m : Int) := by omega
      rw [this, Int.tdiv_eq_ediv_of_nonneg (by omega)]
      omega
  have hqm : q ≤ m := by omega
  have HQ := Lib.hid hq
  have HQI := Lib.hid hqI
  clear hq hqI
  go_enter Tryz.func116, Tryz.ntmps116
  go_upto_region 2 with fail
  go_cut [8] from 12 to 14 (fun cv wx => cv = .int .i64 (m : Nat) ∧ wx = w)
  case first =>
    go_wp2
    go_meet
    case rel => exact ⟨by have := HM.out; congr 1; omega, rfl⟩
  obtain ⟨rfl, hwc⟩ := hcut
  rw [hwc]
  clear hwc
  go_upto_region 3 with fail
  go_cut [9] from 15 to 17 (fun cv wx => cv = .int .i64 (q : Nat) ∧ wx = w)
  case first =>
    go_wp2
    go_meet
    case rel => exact ⟨by rw [← HQI.out], rfl⟩
  obtain ⟨rfl, hwc⟩ := hcut
  rw [hwc]
  clear hwc
  go_wp2
  go_loopw [9] (fun iv wr => ∃ (k : Nat) (dk : Array Int), iv = .int .i64 ((k : Int) - 1) ∧ k ≤ q + 1 ∧ dk.size = n ∧ Row wr g dk ∧ w.grownBy wr (some g) ∧ Hid (Sort.heapBuild Sort.ltInt m a k dk = d1)) (fun iv _ => (Go.RowKit.intOf iv + 1).toNat)
  case atStart => exact ⟨q + 1, d, by congr 1; omega, Nat.le_refl _, HD.out, HR.out, World.grownBy.refl _ _, Lib.hid (by rw [HQ.out]; exact HD1.out)⟩
  case round =>
    obtain ⟨k, dk, rfl, hk, hdk, hrow, hgb, hspec⟩ := hrel
    have HDK := Lib.hid hdk
    have HRK := Lib.hid hrow
    have HGK := Lib.hid hgb
    clear hdk hrow hgb
    cases k with
    | zero =>
      have hz : Sort.heapBuild Sort.ltInt m a 0 dk = dk := rfl
      rw [hz] at hspec
      obtain rfl := hspec.out
      have hmI : (m : Int) ≤ 100000 := by omega
      have hm0 : (0 : Int) ≤ m := by omega
      go_wp2
      go_loopw [10] (fun iv wr => ∃ (k : Nat) (dj : Array Int), iv = .int .i64 ((k : Int) - 1) ∧ k ≤ m ∧ dj.size = n ∧ Row wr g dj ∧ w.grownBy wr (some g) ∧ Hid (Sort.heapPop Sort.ltInt a k dj = Sort.heapPop Sort.ltInt a m dk)) (fun iv _ => (Go.RowKit.intOf iv + 1).toNat)
      case atStart => exact ⟨m, dk, rfl, Nat.le_refl _, HDK.out, HRK.out, HGK.out, Lib.hid rfl⟩
      case round =>
        obtain ⟨k, dj, rfl, hk2, hdj, hrow, hgb, hspec2⟩ := hrel
        have HDJ := Lib.hid hdj
        have HRJ := Lib.hid hrow
        have HGJ := Lib.hid hgb
        clear hdj hrow hgb
        cases k with
        | zero =>
          have hz : Sort.heapPop Sort.ltInt a 0 dj = dj := rfl
          rw [hz] at hspec2
          go_wp2
          go_end0
          exact ⟨rfl, HGJ.out, by rw [HSP.out, ← hspec2.out]; exact HRJ.out⟩
        | succ k =>
          obtain ⟨p, hp⟩ : ∃ x : Nat, x = a + k := ⟨_, rfl⟩
          have zp : (0 : Int) ≤ (a : Int) + (k : Int) := by omega
          have bp : (a : Int) + (k : Int) < (n : Int) := by omega
          have tp : ((a : Int) + (k : Int) : Int).toNat = p := by omega
          have wp : IntKind.i64.wrap ((a : Int) + (k : Int)) = (a : Int) + (k : Int) := wrapI (by omega) (by omega)
          have np : p < n := by omega
          have Hp := Lib.hid hp
          clear hp
          have c0 := (HRJ.out (a) (by rw [HDJ.out]; omega)).1
          have f0 := (HRJ.out (a) (by rw [HDJ.out]; omega)).2
          obtain ⟨x0, hx0⟩ : ∃ x, dj[a]! = x := ⟨_, rfl⟩
          rw [hx0] at c0
          have HX0 := Lib.hid hx0
          clear hx0
          have c1 := (HRJ.out (p) (by rw [HDJ.out]; omega)).1
          have f1 := (HRJ.out (p) (by rw [HDJ.out]; omega)).2
          obtain ⟨x1, hx1⟩ : ∃ x, dj[p]! = x := ⟨_, rfl⟩
          rw [hx1] at c1
          have HX1 := Lib.hid hx1
          clear hx1
          have gl : g < wr.heap.size := block_lt c0
          have CS := Lib.hid (fun w' (hr : Row w' g (Sort.swp dj a p)) => sift_any g n cap (Sort.swp dj a p) 0 k a (by rw [swp_size]; exact HDJ.out) hn (by omega) (by omega) w' hr)
          have hna : a < n := by omega
          obtain ⟨v9, hv9⟩ := cell?_setCell_some (p := ⟨g, a, none⟩) (x := .int .u32 x1) c1
          have hnaI : (a : Int) < n := by omega
          go_wp2
          go_region
          all_goals
            go_wp2_with fail
            refine (CS.out _ (by (rw [← HX0.out, ← HX1.out]; exact (HRJ.out.drew.swp (by rw [HDJ.out]; omega) (by rw [HDJ.out]; omega))))).mono ?_
            rintro e w5 ⟨rfl, hg5, hr5⟩
            go_wp2
            go_roundw
            case rel => exact ⟨k, _, by go_num, by omega, by rw [sd_size _ _ _ _ _ (Nat.le_refl _), swp_size]; exact HDJ.out, hr5, (gb_set (gb_set (gb_drew HGJ.out) _ _) _ _).trans hg5, Lib.hid (by rw [← hspec2.out, Hp.out]; rfl)⟩
            case measure => simp [Go.RowKit.intOf]
    | succ j =>
      have CS := Lib.hid (sift_any g n cap dk j m a HDK.out hn hb (by omega) wr HRK.out)
      go_wp2_with fail
      refine CS.out.mono ?_
      rintro e w5 ⟨rfl, hg5, hr5⟩
      go_wp2
      go_roundw
      case rel => exact ⟨j, _, by go_num, by omega, by rw [sd_size _ _ _ _ _ (Nat.le_refl _)]; exact HDK.out, hr5, HGK.out.trans hg5, Lib.hid hspec.out⟩
      case measure => simp [Go.RowKit.intOf]

theorem rev_end {i j : Nat} {d : Array Int} (h : ¬ i < j) : Sort.reverseLoop i j d = d := by
  rw [Sort.reverseLoop, if_neg h]

theorem rev_step {i j : Nat} {d : Array Int} (h : i < j) : Sort.reverseLoop i j d = Sort.reverseLoop (i + 1) (j - 1) (Sort.swp d i j) := by
  rw [Sort.reverseLoop, if_pos h]

set_option maxHeartbeats 4000000 in
set_option maxRecDepth 100000 in
theorem reverse_any (g n cap : Nat) (d : Array Int) (a b : Nat) (hd : d.size = n) (hn : n ≤ 100000) (hbn : b ≤ n) (hab : a < b) (w : World) (hR : Row w g d) :
    Calls Tryz.prog 119 #[.slice (some ⟨g, 0, none⟩) n cap, .int .i64 a, .int .i64 b] w (RetSw g (Sort.reverseRange d a b) w) := by
  have HR := Lib.hid hR
  have HD := Lib.hid hd
  clear hR hd
  go_enter Tryz.func119, Tryz.ntmps119
  go_wp2
  go_loopw [6, 7] (fun iv jv wr => ∃ (i j : Nat) (dk : Array Int), iv = .int .i64 i ∧ jv = .int .i64 j ∧ j < b ∧ i ≤ b ∧ dk.size = n ∧ Row wr g dk ∧ w.grownBy wr (some g) ∧ Hid (Sort.reverseLoop i j dk = Sort.reverseRange d a b)) (fun iv jv _ => (Go.RowKit.intOf jv + 1 - Go.RowKit.intOf iv).toNat)
  case atStart => exact ⟨a, b - 1, d, rfl, by congr 1; omega, by omega, by omega, HD.out, HR.out, World.grownBy.refl _ _, Lib.hid rfl⟩
  case round =>
    obtain ⟨i, j, dk, rfl, rfl, hj, hi, hdk, hrow, hgb, hspec⟩ := hrel
    have HDK := Lib.hid hdk
    have HRK := Lib.hid hrow
    have HGK := Lib.hid hgb
    clear hdk hrow hgb
    by_cases hlt : i < j
    · have hin : (i : Int) < n := by omega
      have hjn : (j : Int) < n := by omega
      have c0 := (HRK.out (i) (by rw [HDK.out]; omega)).1
      have f0 := (HRK.out (i) (by rw [HDK.out]; omega)).2
      obtain ⟨x0, hx0⟩ : ∃ x, dk[i]! = x := ⟨_, rfl⟩
      rw [hx0] at c0
      have HX0 := Lib.hid hx0
      clear hx0
      have c1 := (HRK.out (j) (by rw [HDK.out]; omega)).1
      have f1 := (HRK.out (j) (by rw [HDK.out]; omega)).2
      obtain ⟨x1, hx1⟩ : ∃ x, dk[j]! = x := ⟨_, rfl⟩
      rw [hx1] at c1
      have HX1 := Lib.hid hx1
      clear hx1
      have gl : g < wr.heap.size := block_lt c0
      go_wp2
      go_region
      all_goals
        go_wp2
        go_roundw
        case rel => exact ⟨i + 1, j - 1, Sort.swp dk i j, by go_num, by congr 1; omega, by omega, by omega, by rw [swp_size]; exact HDK.out, by (rw [← HX0.out, ← HX1.out]; exact (HRK.out.drew.swp (by rw [HDK.out]; omega) (by rw [HDK.out]; omega))), gb_set (gb_set (gb_drew HGK.out) _ _) _ _, Lib.hid (by rw [← hspec.out, rev_step hlt])⟩
        case measure => simp [Go.RowKit.intOf]; omega
    · have hge : (j : Int) ≤ i := by omega
      go_wp2
      go_end0
      exact ⟨rfl, HGK.out, by rw [← hspec.out, rev_end hlt]; exact HRK.out⟩

end Go.Proofs.YtndpgakjpokllaaGreat

/- slices.Sort at uint32: partitionOrdered. -/
namespace Go.Proofs.YtndpgakjpokllaaGreat
open Go.RowKit
set_option linter.unusedVariables false
set_option linter.unusedSimpArgs false

theorem sup_stop {p : Int → Bool} {d : Array Int} {j i : Nat} (h : (decide (i ≤ j) && p d[i]!) = false) : Sort.scanUp p d j i = i := by
  rw [Sort.scanUp, h]
  rfl

theorem sup_step {p : Int → Bool} {d : Array Int} {j i : Nat} (h : (decide (i ≤ j) && p d[i]!) = true) : Sort.scanUp p d j i = Sort.scanUp p d j (i + 1) := by
  rw [Sort.scanUp, h]
  rfl

theorem sdn_stop {p : Int → Bool} {d : Array Int} {i j : Nat} (hi : 1 ≤ i) (h : (decide (i ≤ j) && p d[j]!) = false) : Sort.scanDown p d i j = j := by
  cases j with
  | zero => rfl
  | succ j => rw [Sort.scanDown, h]; rfl

theorem sdn_step {p : Int → Bool} {d : Array Int} {i j : Nat} (hi : 1 ≤ i) (h : (decide (i ≤ j) && p d[j]!) = true) : Sort.scanDown p d i j = Sort.scanDown p d i (j - 1) := by
  cases j with
  | zero => simp only [Bool.and_eq_true, decide_eq_true_eq] at h; omega
  | succ j => rw [Sort.scanDown, h]; rfl

theorem pl_stop {a i j i2 j2 : Nat} {d : Array Int} (h1 : Sort.scanUp (fun x => Sort.ltInt x d[a]!) d j i = i2) (h2 : Sort.scanDown (fun x => !Sort.ltInt x d[a]!) d i2 j = j2) (h : j2 < i2) : Sort.partLoop Sort.ltInt a i j d = (j2, d) := by
  rw [Sort.partLoop]
  simp only [h1, h2]
  rw [if_pos h]

theorem pl_step {a i j i2 j2 : Nat} {d : Array Int} (h1 : Sort.scanUp (fun x => Sort.ltInt x d[a]!) d j i = i2) (h2 : Sort.scanDown (fun x => !Sort.ltInt x d[a]!) d i2 j = j2) (h : ¬ j2 < i2) (hi : i ≤ i2) (hj : j2 ≤ j) (h0 : 1 ≤ i2) :
    Sort.partLoop Sort.ltInt a i j d = Sort.partLoop Sort.ltInt a (i2 + 1) (j2 - 1) (Sort.swp d i2 j2) := by
  rw [Sort.partLoop]
  simp only [h1, h2]
  rw [if_neg h, dif_pos (by omega)]

/-- What comes of partitionOrdered. -/
def RetPart (g : Nat) (r : Nat × Bool × Array Int) (w : World) (e : Ending) (w' : World) : Prop := e = .returned (.tuple #[.int .i64 (r.1 : Nat), .bool r.2.1]) ∧ w.grownBy w' (some g) ∧ Row w' g r.2.2

set_option maxHeartbeats 16000000 in
set_option maxRecDepth 100000 in
theorem partition_any (g n cap : Nat) (d : Array Int) (a b pivot : Nat) (hd : d.size = n) (hn : n ≤ 100000) (hbn : b ≤ n) (hap : a ≤ pivot) (hpb : pivot < b) (w : World) (hR : Row w g d) :
    Calls Tryz.prog 123 #[.slice (some ⟨g, 0, none⟩) n cap, .int .i64 a, .int .i64 b, .int .i64 pivot] w (RetPart g (Sort.partition Sort.ltInt d a b pivot) w) := by
  have HR := Lib.hid hR
  have HD := Lib.hid hd
  have HG := Lib.hid (World.grownBy.refl w (some g))
  clear hR hd
  have haI : (a : Int) < n := by omega
  have hpI : (pivot : Int) < n := by omega
  obtain ⟨D, hD⟩ : ∃ x, Sort.swp d a pivot = x := ⟨_, rfl⟩
  have HDD := Lib.hid (show D.size = n by rw [← hD, swp_size]; exact HD.out)
  obtain ⟨e, he⟩ : ∃ x, b - 1 = x := ⟨_, rfl⟩
  have heI : (b : Int) - 1 = e := by omega
  have HEI := Lib.hid heI
  clear heI
  obtain ⟨I1, hI1⟩ : ∃ x, Sort.scanUp (fun x => Sort.ltInt x D[a]!) D e (a + 1) = x := ⟨_, rfl⟩
  obtain ⟨J1, hJ1⟩ : ∃ x, Sort.scanDown (fun x => !Sort.ltInt x D[a]!) D I1 e = x := ⟨_, rfl⟩
  have HSP := Lib.hid (show Sort.partition Sort.ltInt d a b pivot = if I1 > J1 then (J1, true, Sort.swp D J1 a) else ((Sort.partLoop Sort.ltInt a (I1 + 1) (J1 - 1) (Sort.swp D I1 J1)).1, false, Sort.swp (Sort.partLoop Sort.ltInt a (I1 + 1) (J1 - 1) (Sort.swp D I1 J1)).2 (Sort.partLoop Sort.ltInt a (I1 + 1) (J1 - 1) (Sort.swp D I1 J1)).1 a) by
    unfold Sort.partition
    simp only [hD, he, hI1, hJ1])
  have HI1 := Lib.hid hI1
  have HJ1 := Lib.hid hJ1
  have HDe := Lib.hid hD
  clear hI1 hJ1 hD
  go_enter Tryz.func123, Tryz.ntmps123
  go_upto_region 1 with fail
  go_cut [25] from 12 to 25 (fun _ wx => Row wx g (D) ∧ w.grownBy wx (some g))
  case first =>
    have c0 := (HR.out (a) (by rw [HD.out]; omega)).1
    have f0 := (HR.out (a) (by rw [HD.out]; omega)).2
    obtain ⟨x0, hx0⟩ : ∃ x, d[a]! = x := ⟨_, rfl⟩
    rw [hx0] at c0
    have HX0 := Lib.hid hx0
    clear hx0
    have c1 := (HR.out (pivot) (by rw [HD.out]; omega)).1
    have f1 := (HR.out (pivot) (by rw [HD.out]; omega)).2
    obtain ⟨x1, hx1⟩ : ∃ x, d[pivot]! = x := ⟨_, rfl⟩
    rw [hx1] at c1
    have HX1 := Lib.hid hx1
    clear hx1
    have gl : g < w.heap.size := block_lt c0
    obtain ⟨v9, hv9⟩ := cell?_setCell_some (p := ⟨g, a, none⟩) (x := .int .u32 x1) c1
    go_wp2
    go_region
    all_goals
      go_wp2
      go_meet
      case rel => exact ⟨by (rw [← HX0.out, ← HX1.out]; rw [← HDe.out]; exact (HR.out.drew.swp (by rw [HD.out]; omega) (by rw [HD.out]; omega))), gb_set (gb_set (gb_drew HG.out) _ _) _ _⟩
  have HR1 := Lib.hid hcut.1
  have HG1 := Lib.hid hcut.2
  clear hcut
  obtain ⟨w1, hw1⟩ : ∃ x, x = wc := ⟨_, rfl⟩
  subst hw1
  go_upto_region 2 with fail
  go_cut [10, 11] from 26 to 29 (fun iv jv wx => iv = .int .i64 ((a + 1 : Nat) : Int) ∧ jv = .int .i64 (e : Nat) ∧ wx = w1)
  case first =>
    go_wp2
    go_meet
    case rel => exact ⟨by go_num, by rw [← HEI.out], rfl⟩
  obtain ⟨rfl, rfl, hwc⟩ := hcut
  rw [hwc]
  clear hwc
  go_wp2
  go_loopw [10] (fun jv wr => ∃ i : Nat, jv = .int .i64 i ∧ (a + 1) ≤ i ∧ i ≤ 100002 ∧ Row wr g D ∧ w.grownBy wr (some g) ∧ Hid (Sort.scanUp (fun x => Sort.ltInt x D[a]!) D (e) i = I1)) (fun jv _ => (e) + 1 - (Go.RowKit.intOf jv).toNat)
  case atStart => exact ⟨(a + 1), by first | rfl | (congr 1; omega), Nat.le_refl _, by omega, HR1.out, HG1.out, Lib.hid HI1.out⟩
  case round =>
    obtain ⟨i, rfl, hi1, hi2, hrow, hgb, hsp⟩ := hrel
    have HRS := Lib.hid hrow
    have HGS := Lib.hid hgb
    clear hrow hgb
    obtain ⟨bb, hbb⟩ : ∃ x, (decide (i ≤ e) && Sort.ltInt D[i]! D[a]!) = x := ⟨_, rfl⟩
    have HBB := Lib.hid hbb
    clear hbb
    go_upto_region 3 with fail
    go_cut [43] from 30 to 43 (fun bv wx => bv = .bool bb ∧ Nx wr wx)
    case first =>
      by_cases h1 : i ≤ e
      · have hvI : (i : Int) < n := by omega
        have haI : (a : Int) < n := by omega
        have c0 := (HRS.out (i) (by rw [HDD.out]; omega)).1
        have f0 := (HRS.out (i) (by rw [HDD.out]; omega)).2
        obtain ⟨x0, hx0⟩ : ∃ x, D[i]! = x := ⟨_, rfl⟩
        rw [hx0] at c0
        have HX0 := Lib.hid hx0
        clear hx0
        have c1 := (HRS.out (a) (by rw [HDD.out]; omega)).1
        have f1 := (HRS.out (a) (by rw [HDD.out]; omega)).2
        obtain ⟨x1, hx1⟩ : ∃ x, D[a]! = x := ⟨_, rfl⟩
        rw [hx1] at c1
        have HX1 := Lib.hid hx1
        clear hx1
        have gl : g < wr.heap.size := block_lt c0
        have HCL := Lib.hid (show bb = (Sort.ltInt x0 x1) by rw [← HBB.out, decide_eq_true h1, Bool.true_and, HX0.out, HX1.out])
        have HVV := Lib.hid (show Value.bool (Sort.ltInt x0 x1) = Value.bool bb by rw [HCL.out])
        go_wp2
        (refine wp_region_nx 13 (by kernel_rfl) (by kernel_rfl) ?_; simp only [List.take_succ_cons, List.take_zero, List.drop_succ_cons, List.drop_zero]; (repeat (with_reducible refine wpQuiet_step (fun K hK => ?_); go_simp; first | (with_reducible refine hK _ ?_; clear hK K) | (with_reducible apply Exists.intro; with_reducible refine ⟨fun w' hw' => ?_, hK _ ?_⟩; (first | (with_reducible rfl) | (go_at_call 121; with_reducible exact (less_nx _ _ _).mono fun _ _ h => ⟨h.1, hw'.trans h.2⟩) | (obtain ⟨hc, hf⟩ := nx_cells hw'; go_simp; with_reducible rfl) | (obtain ⟨hc, hf⟩ := nx_cells hw'; go_simp; rfl)); clear hK K))); with_reducible refine wpQuiet_nil ?_; intro w1 hn1)
        go_wp2
        go_meet
        case rel => exact ⟨HVV.out, hn1⟩
      · have HCL := Lib.hid (show bb = false by rw [← HBB.out, decide_eq_false h1, Bool.false_and])
        have h1I : (((i : Int) ≤ (e : Int)) = False) := eq_false (by omega)
        have h1N : ((i ≤ e) = False) := eq_false h1
        go_wp2
        (refine wp_region_nx 13 (by kernel_rfl) (by kernel_rfl) ?_; simp only [List.take_succ_cons, List.take_zero, List.drop_succ_cons, List.drop_zero]; (repeat (with_reducible refine wpQuiet_step (fun K hK => ?_); go_simp; first | (with_reducible refine hK _ ?_; clear hK K) | (with_reducible apply Exists.intro; with_reducible refine ⟨fun w' hw' => ?_, hK _ ?_⟩; (first | (with_reducible rfl) | (go_at_call 121; with_reducible exact (less_nx _ _ _).mono fun _ _ h => ⟨h.1, hw'.trans h.2⟩) | (obtain ⟨hc, hf⟩ := nx_cells hw'; go_simp; with_reducible rfl) | (obtain ⟨hc, hf⟩ := nx_cells hw'; go_simp; rfl)); clear hK K))); with_reducible refine wpQuiet_nil ?_; intro w1 hn1)
        go_wp2
        go_meet
        case rel => exact ⟨by rw [HCL.out], hn1⟩
    case rest =>
      obtain ⟨rfl, hn1⟩ := hcut
      have HRT := Lib.hid (HRS.out.nx hn1)
      have HGT := Lib.hid (gb_nx HGS.out hn1)
      clear hn1
      cases bb
      · have hI : I1 = i := by rw [← hsp.out]; exact sup_stop HBB.out
        subst hI
        clear hsp
        obtain ⟨wo, hwo⟩ : ∃ x, x = wc := ⟨_, rfl⟩
        subst hwo
        go_wp2
        go_loopw [11] (fun jv wr => ∃ j : Nat, jv = .int .i64 j ∧ j ≤ e ∧ j ≤ 100002 ∧ Row wr g D ∧ w.grownBy wr (some g) ∧ Hid (Sort.scanDown (fun x => !Sort.ltInt x D[a]!) D (I1) j = J1)) (fun jv _ => (Go.RowKit.intOf jv).toNat + 1)
        case atStart => exact ⟨e, by first | rfl | (congr 1; omega), Nat.le_refl _, by omega, HRT.out, HGT.out, Lib.hid HJ1.out⟩
        case round =>
          obtain ⟨j, rfl, hj1, hj2, hrow, hgb, hsp⟩ := hrel
          have HRS := Lib.hid hrow
          have HGS := Lib.hid hgb
          clear hrow hgb
          obtain ⟨bb, hbb⟩ : ∃ x, (decide (I1 ≤ j) && !Sort.ltInt D[j]! D[a]!) = x := ⟨_, rfl⟩
          have HBB := Lib.hid hbb
          clear hbb
          go_upto_region 5 with fail
          go_cut [60] from 46 to 60 (fun bv wx => bv = .bool bb ∧ Nx wr wx)
          case first =>
            by_cases h1 : I1 ≤ j
            · have hvI : (j : Int) < n := by omega
              have haI : (a : Int) < n := by omega
              have c0 := (HRS.out (j) (by rw [HDD.out]; omega)).1
              have f0 := (HRS.out (j) (by rw [HDD.out]; omega)).2
              obtain ⟨x0, hx0⟩ : ∃ x, D[j]! = x := ⟨_, rfl⟩
              rw [hx0] at c0
              have HX0 := Lib.hid hx0
              clear hx0
              have c1 := (HRS.out (a) (by rw [HDD.out]; omega)).1
              have f1 := (HRS.out (a) (by rw [HDD.out]; omega)).2
              obtain ⟨x1, hx1⟩ : ∃ x, D[a]! = x := ⟨_, rfl⟩
              rw [hx1] at c1
              have HX1 := Lib.hid hx1
              clear hx1
              have gl : g < wr.heap.size := block_lt c0
              have HCL := Lib.hid (show bb = (!Sort.ltInt x0 x1) by rw [← HBB.out, decide_eq_true h1, Bool.true_and, HX0.out, HX1.out])
              have HVV := Lib.hid (show Value.bool (!Sort.ltInt x0 x1) = Value.bool bb by rw [HCL.out])
              go_wp2
              (refine wp_region_nx 14 (by kernel_rfl) (by kernel_rfl) ?_; simp only [List.take_succ_cons, List.take_zero, List.drop_succ_cons, List.drop_zero]; (repeat (with_reducible refine wpQuiet_step (fun K hK => ?_); go_simp; first | (with_reducible refine hK _ ?_; clear hK K) | (with_reducible apply Exists.intro; with_reducible refine ⟨fun w' hw' => ?_, hK _ ?_⟩; (first | (with_reducible rfl) | (go_at_call 121; with_reducible exact (less_nx _ _ _).mono fun _ _ h => ⟨h.1, hw'.trans h.2⟩) | (obtain ⟨hc, hf⟩ := nx_cells hw'; go_simp; with_reducible rfl) | (obtain ⟨hc, hf⟩ := nx_cells hw'; go_simp; rfl)); clear hK K))); with_reducible refine wpQuiet_nil ?_; intro w1 hn1)
              go_wp2
              go_meet
              case rel => exact ⟨HVV.out, hn1⟩
            · have HCL := Lib.hid (show bb = false by rw [← HBB.out, decide_eq_false h1, Bool.false_and])
              have h1I : (((I1 : Int) ≤ (j : Int)) = False) := eq_false (by omega)
              have h1N : ((I1 ≤ j) = False) := eq_false h1
              go_wp2
              (refine wp_region_nx 14 (by kernel_rfl) (by kernel_rfl) ?_; simp only [List.take_succ_cons, List.take_zero, List.drop_succ_cons, List.drop_zero]; (repeat (with_reducible refine wpQuiet_step (fun K hK => ?_); go_simp; first | (with_reducible refine hK _ ?_; clear hK K) | (with_reducible apply Exists.intro; with_reducible refine ⟨fun w' hw' => ?_, hK _ ?_⟩; (first | (with_reducible rfl) | (go_at_call 121; with_reducible exact (less_nx _ _ _).mono fun _ _ h => ⟨h.1, hw'.trans h.2⟩) | (obtain ⟨hc, hf⟩ := nx_cells hw'; go_simp; with_reducible rfl) | (obtain ⟨hc, hf⟩ := nx_cells hw'; go_simp; rfl)); clear hK K))); with_reducible refine wpQuiet_nil ?_; intro w1 hn1)
              go_wp2
              go_meet
              case rel => exact ⟨by rw [HCL.out], hn1⟩
          case rest =>
            obtain ⟨rfl, hn1⟩ := hcut
            have HRT := Lib.hid (HRS.out.nx hn1)
            have HGT := Lib.hid (gb_nx HGS.out hn1)
            clear hn1
            cases bb
            · have hI : J1 = j := by rw [← hsp.out]; exact sdn_stop (by omega) HBB.out
              subst hI
              clear hsp
              obtain ⟨wo, hwo⟩ : ∃ x, x = wc := ⟨_, rfl⟩
              subst hwo
              by_cases hij : J1 < I1
              · have hijI : (J1 : Int) < I1 := by omega
                have hJn : (J1 : Int) < n := by omega
                rw [if_pos hij] at HSP
                have c0 := (HRT.out (J1) (by rw [HDD.out]; omega)).1
                have f0 := (HRT.out (J1) (by rw [HDD.out]; omega)).2
                obtain ⟨x0, hx0⟩ : ∃ x, D[J1]! = x := ⟨_, rfl⟩
                rw [hx0] at c0
                have HX0 := Lib.hid hx0
                clear hx0
                have c1 := (HRT.out (a) (by rw [HDD.out]; omega)).1
                have f1 := (HRT.out (a) (by rw [HDD.out]; omega)).2
                obtain ⟨x1, hx1⟩ : ∃ x, D[a]! = x := ⟨_, rfl⟩
                rw [hx1] at c1
                have HX1 := Lib.hid hx1
                clear hx1
                have gl : g < wo.heap.size := block_lt c0
                obtain ⟨v9, hv9⟩ := cell?_setCell_some (p := ⟨g, J1, none⟩) (x := .int .u32 x1) c1
                go_wp2
                go_region
                all_goals
                  go_wp2
                  refine bodyPost_ret (v := .tuple #[.int .i64 (J1 : Nat), .bool true]) (by simp [results, Tryz.results123, go_sem]) rfl ?_
                  rw [HSP.out]
                  exact ⟨rfl, gb_set (gb_set (gb_drew HGT.out) _ _) _ _, by (rw [← HX0.out, ← HX1.out]; exact (HRT.out.drew.swp (by rw [HDD.out]; omega) (by rw [HDD.out]; omega)))⟩
              · have hijI : (I1 : Int) ≤ J1 := by omega
                rw [if_neg hij] at HSP
                have hI1n : (I1 : Int) < n := by omega
                have hJ1n : (J1 : Int) < n := by omega
                obtain ⟨D2, hD2⟩ : ∃ x, Sort.swp D I1 J1 = x := ⟨_, rfl⟩
                rw [hD2] at HSP
                have HDD2 := Lib.hid (show D2.size = n by rw [← hD2, swp_size]; exact HDD.out)
                have HDe2 := Lib.hid hD2
                clear hD2
                go_upto_region 10 with fail
                go_cut [94] from 81 to 94 (fun _ wx => Row wx g (D2) ∧ w.grownBy wx (some g))
                case first =>
                  have c0 := (HRT.out (I1) (by rw [HDD.out]; omega)).1
                  have f0 := (HRT.out (I1) (by rw [HDD.out]; omega)).2
                  obtain ⟨x0, hx0⟩ : ∃ x, D[I1]! = x := ⟨_, rfl⟩
                  rw [hx0] at c0
                  have HX0 := Lib.hid hx0
                  clear hx0
                  have c1 := (HRT.out (J1) (by rw [HDD.out]; omega)).1
                  have f1 := (HRT.out (J1) (by rw [HDD.out]; omega)).2
                  obtain ⟨x1, hx1⟩ : ∃ x, D[J1]! = x := ⟨_, rfl⟩
                  rw [hx1] at c1
                  have HX1 := Lib.hid hx1
                  clear hx1
                  have gl : g < wo.heap.size := block_lt c0
                  obtain ⟨v9, hv9⟩ := cell?_setCell_some (p := ⟨g, I1, none⟩) (x := .int .u32 x1) c1
                  go_wp2
                  go_region
                  all_goals
                    go_wp2
                    go_meet
                    case rel => exact ⟨by (rw [← HX0.out, ← HX1.out]; rw [← HDe2.out]; exact (HRT.out.drew.swp (by rw [HDD.out]; omega) (by rw [HDD.out]; omega))), gb_set (gb_set (gb_drew HGT.out) _ _) _ _⟩
                have HR2 := Lib.hid hcut.1
                have HG2 := Lib.hid hcut.2
                clear hcut
                obtain ⟨w2, hw2⟩ : ∃ x, x = wc := ⟨_, rfl⟩
                subst hw2
                obtain ⟨PL, hPL⟩ : ∃ x, Sort.partLoop Sort.ltInt a (I1 + 1) (J1 - 1) D2 = x := ⟨_, rfl⟩
                rw [hPL] at HSP
                have HPL := Lib.hid hPL
                clear hPL
                have hJ11 : (0 : Int) ≤ (J1 : Int) - 1 := by omega
                go_wp2
                go_loopw [10, 11] (fun iv jv wr => ∃ (i j : Nat) (dk : Array Int), iv = .int .i64 i ∧ jv = .int .i64 j ∧ a + 1 ≤ i ∧ i ≤ 100001 ∧ j < b ∧ dk.size = n ∧ Row wr g dk ∧ w.grownBy wr (some g) ∧ Hid (Sort.partLoop Sort.ltInt a i j dk = PL)) (fun iv jv _ => (Go.RowKit.intOf jv + 1 - Go.RowKit.intOf iv).toNat)
                case atStart => exact ⟨I1 + 1, J1 - 1, D2, by first | rfl | go_num, by congr 1; omega, by omega, by omega, by omega, HDD2.out, HR2.out, HG2.out, HPL⟩
                case round =>
                  obtain ⟨i, j, dk, rfl, rfl, hi1, hi2, hj1, hdk, hrow, hgb, hspl⟩ := hrel
                  have HDK := Lib.hid hdk
                  have HRK := Lib.hid hrow
                  have HGK := Lib.hid hgb
                  clear hdk hrow hgb
                  obtain ⟨wr0, hwr0⟩ : ∃ x, x = wr := ⟨_, rfl⟩
                  subst hwr0
                  obtain ⟨I2, hI2⟩ : ∃ x, Sort.scanUp (fun x => Sort.ltInt x dk[a]!) dk j i = x := ⟨_, rfl⟩
                  obtain ⟨J2, hJ2⟩ : ∃ x, Sort.scanDown (fun x => !Sort.ltInt x dk[a]!) dk I2 j = x := ⟨_, rfl⟩
                  have HI2 := Lib.hid hI2
                  have HJ2 := Lib.hid hJ2
                  clear hI2 hJ2
                  go_wp2
                  go_loopw [10] (fun jv wr => ∃ i3 : Nat, jv = .int .i64 i3 ∧ i ≤ i3 ∧ i3 ≤ 100002 ∧ Row wr g dk ∧ w.grownBy wr (some g) ∧ Hid (Sort.scanUp (fun x => Sort.ltInt x dk[a]!) dk (j) i3 = I2)) (fun jv _ => (j) + 1 - (Go.RowKit.intOf jv).toNat)
                  case atStart => exact ⟨i, by first | rfl | (congr 1; omega), Nat.le_refl _, by omega, HRK.out, HGK.out, Lib.hid HI2.out⟩
                  case round =>
                    obtain ⟨i3, rfl, hi31, hi32, hrow, hgb, hsp⟩ := hrel
                    have HRS := Lib.hid hrow
                    have HGS := Lib.hid hgb
                    clear hrow hgb
                    obtain ⟨bb, hbb⟩ : ∃ x, (decide (i3 ≤ j) && Sort.ltInt dk[i3]! dk[a]!) = x := ⟨_, rfl⟩
                    have HBB := Lib.hid hbb
                    clear hbb
                    go_upto_region 13 with fail
                    go_cut [112] from 99 to 112 (fun bv wx => bv = .bool bb ∧ Nx wr wx)
                    case first =>
                      by_cases h1 : i3 ≤ j
                      · have hvI : (i3 : Int) < n := by omega
                        have haI : (a : Int) < n := by omega
                        have c0 := (HRS.out (i3) (by rw [HDK.out]; omega)).1
                        have f0 := (HRS.out (i3) (by rw [HDK.out]; omega)).2
                        obtain ⟨x0, hx0⟩ : ∃ x, dk[i3]! = x := ⟨_, rfl⟩
                        rw [hx0] at c0
                        have HX0 := Lib.hid hx0
                        clear hx0
                        have c1 := (HRS.out (a) (by rw [HDK.out]; omega)).1
                        have f1 := (HRS.out (a) (by rw [HDK.out]; omega)).2
                        obtain ⟨x1, hx1⟩ : ∃ x, dk[a]! = x := ⟨_, rfl⟩
                        rw [hx1] at c1
                        have HX1 := Lib.hid hx1
                        clear hx1
                        have gl : g < wr.heap.size := block_lt c0
                        have HCL := Lib.hid (show bb = (Sort.ltInt x0 x1) by rw [← HBB.out, decide_eq_true h1, Bool.true_and, HX0.out, HX1.out])
                        have HVV := Lib.hid (show Value.bool (Sort.ltInt x0 x1) = Value.bool bb by rw [HCL.out])
                        go_wp2
                        (refine wp_region_nx 13 (by kernel_rfl) (by kernel_rfl) ?_; simp only [List.take_succ_cons, List.take_zero, List.drop_succ_cons, List.drop_zero]; (repeat (with_reducible refine wpQuiet_step (fun K hK => ?_); go_simp; first | (with_reducible refine hK _ ?_; clear hK K) | (with_reducible apply Exists.intro; with_reducible refine ⟨fun w' hw' => ?_, hK _ ?_⟩; (first | (with_reducible rfl) | (go_at_call 121; with_reducible exact (less_nx _ _ _).mono fun _ _ h => ⟨h.1, hw'.trans h.2⟩) | (obtain ⟨hc, hf⟩ := nx_cells hw'; go_simp; with_reducible rfl) | (obtain ⟨hc, hf⟩ := nx_cells hw'; go_simp; rfl)); clear hK K))); with_reducible refine wpQuiet_nil ?_; intro w1 hn1)
                        go_wp2
                        go_meet
                        case rel => exact ⟨HVV.out, hn1⟩
                      · have HCL := Lib.hid (show bb = false by rw [← HBB.out, decide_eq_false h1, Bool.false_and])
                        have h1I : (((i3 : Int) ≤ (j : Int)) = False) := eq_false (by omega)
                        have h1N : ((i3 ≤ j) = False) := eq_false h1
                        go_wp2
                        (refine wp_region_nx 13 (by kernel_rfl) (by kernel_rfl) ?_; simp only [List.take_succ_cons, List.take_zero, List.drop_succ_cons, List.drop_zero]; (repeat (with_reducible refine wpQuiet_step (fun K hK => ?_); go_simp; first | (with_reducible refine hK _ ?_; clear hK K) | (with_reducible apply Exists.intro; with_reducible refine ⟨fun w' hw' => ?_, hK _ ?_⟩; (first | (with_reducible rfl) | (go_at_call 121; with_reducible exact (less_nx _ _ _).mono fun _ _ h => ⟨h.1, hw'.trans h.2⟩) | (obtain ⟨hc, hf⟩ := nx_cells hw'; go_simp; with_reducible rfl) | (obtain ⟨hc, hf⟩ := nx_cells hw'; go_simp; rfl)); clear hK K))); with_reducible refine wpQuiet_nil ?_; intro w1 hn1)
                        go_wp2
                        go_meet
                        case rel => exact ⟨by rw [HCL.out], hn1⟩
                    case rest =>
                      obtain ⟨rfl, hn1⟩ := hcut
                      have HRT := Lib.hid (HRS.out.nx hn1)
                      have HGT := Lib.hid (gb_nx HGS.out hn1)
                      clear hn1
                      cases bb
                      · have hI : I2 = i3 := by rw [← hsp.out]; exact sup_stop HBB.out
                        subst hI
                        clear hsp
                        obtain ⟨wo, hwo⟩ : ∃ x, x = wc := ⟨_, rfl⟩
                        subst hwo
                        go_wp2
                        go_loopw [11] (fun jv wr => ∃ j3 : Nat, jv = .int .i64 j3 ∧ j3 ≤ j ∧ j3 ≤ 100002 ∧ Row wr g dk ∧ w.grownBy wr (some g) ∧ Hid (Sort.scanDown (fun x => !Sort.ltInt x dk[a]!) dk (I2) j3 = J2)) (fun jv _ => (Go.RowKit.intOf jv).toNat + 1)
                        case atStart => exact ⟨j, by first | rfl | (congr 1; omega), Nat.le_refl _, by omega, HRT.out, HGT.out, Lib.hid HJ2.out⟩
                        case round =>
                          obtain ⟨j3, rfl, hj31, hj32, hrow, hgb, hsp⟩ := hrel
                          have HRS := Lib.hid hrow
                          have HGS := Lib.hid hgb
                          clear hrow hgb
                          obtain ⟨bb, hbb⟩ : ∃ x, (decide (I2 ≤ j3) && !Sort.ltInt dk[j3]! dk[a]!) = x := ⟨_, rfl⟩
                          have HBB := Lib.hid hbb
                          clear hbb
                          go_upto_region 15 with fail
                          go_cut [129] from 115 to 129 (fun bv wx => bv = .bool bb ∧ Nx wr wx)
                          case first =>
                            by_cases h1 : I2 ≤ j3
                            · have hvI : (j3 : Int) < n := by omega
                              have haI : (a : Int) < n := by omega
                              have c0 := (HRS.out (j3) (by rw [HDK.out]; omega)).1
                              have f0 := (HRS.out (j3) (by rw [HDK.out]; omega)).2
                              obtain ⟨x0, hx0⟩ : ∃ x, dk[j3]! = x := ⟨_, rfl⟩
                              rw [hx0] at c0
                              have HX0 := Lib.hid hx0
                              clear hx0
                              have c1 := (HRS.out (a) (by rw [HDK.out]; omega)).1
                              have f1 := (HRS.out (a) (by rw [HDK.out]; omega)).2
                              obtain ⟨x1, hx1⟩ : ∃ x, dk[a]! = x := ⟨_, rfl⟩
                              rw [hx1] at c1
                              have HX1 := Lib.hid hx1
                              clear hx1
                              have gl : g < wr.heap.size := block_lt c0
                              have HCL := Lib.hid (show bb = (!Sort.ltInt x0 x1) by rw [← HBB.out, decide_eq_true h1, Bool.true_and, HX0.out, HX1.out])
                              have HVV := Lib.hid (show Value.bool (!Sort.ltInt x0 x1) = Value.bool bb by rw [HCL.out])
                              go_wp2
                              (refine wp_region_nx 14 (by kernel_rfl) (by kernel_rfl) ?_; simp only [List.take_succ_cons, List.take_zero, List.drop_succ_cons, List.drop_zero]; (repeat (with_reducible refine wpQuiet_step (fun K hK => ?_); go_simp; first | (with_reducible refine hK _ ?_; clear hK K) | (with_reducible apply Exists.intro; with_reducible refine ⟨fun w' hw' => ?_, hK _ ?_⟩; (first | (with_reducible rfl) | (go_at_call 121; with_reducible exact (less_nx _ _ _).mono fun _ _ h => ⟨h.1, hw'.trans h.2⟩) | (obtain ⟨hc, hf⟩ := nx_cells hw'; go_simp; with_reducible rfl) | (obtain ⟨hc, hf⟩ := nx_cells hw'; go_simp; rfl)); clear hK K))); with_reducible refine wpQuiet_nil ?_; intro w1 hn1)
                              go_wp2
                              go_meet
                              case rel => exact ⟨HVV.out, hn1⟩
                            · have HCL := Lib.hid (show bb = false by rw [← HBB.out, decide_eq_false h1, Bool.false_and])
                              have h1I : (((I2 : Int) ≤ (j3 : Int)) = False) := eq_false (by omega)
                              have h1N : ((I2 ≤ j3) = False) := eq_false h1
                              go_wp2
                              (refine wp_region_nx 14 (by kernel_rfl) (by kernel_rfl) ?_; simp only [List.take_succ_cons, List.take_zero, List.drop_succ_cons, List.drop_zero]; (repeat (with_reducible refine wpQuiet_step (fun K hK => ?_); go_simp; first | (with_reducible refine hK _ ?_; clear hK K) | (with_reducible apply Exists.intro; with_reducible refine ⟨fun w' hw' => ?_, hK _ ?_⟩; (first | (with_reducible rfl) | (go_at_call 121; with_reducible exact (less_nx _ _ _).mono fun _ _ h => ⟨h.1, hw'.trans h.2⟩) | (obtain ⟨hc, hf⟩ := nx_cells hw'; go_simp; with_reducible rfl) | (obtain ⟨hc, hf⟩ := nx_cells hw'; go_simp; rfl)); clear hK K))); with_reducible refine wpQuiet_nil ?_; intro w1 hn1)
                              go_wp2
                              go_meet
                              case rel => exact ⟨by rw [HCL.out], hn1⟩
                          case rest =>
                            obtain ⟨rfl, hn1⟩ := hcut
                            have HRT := Lib.hid (HRS.out.nx hn1)
                            have HGT := Lib.hid (gb_nx HGS.out hn1)
                            clear hn1
                            cases bb
                            · have hI : J2 = j3 := by rw [← hsp.out]; exact sdn_stop (by omega) HBB.out
                              subst hI
                              clear hsp
                              obtain ⟨wo, hwo⟩ : ∃ x, x = wc := ⟨_, rfl⟩
                              subst hwo
                              by_cases hij2 : J2 < I2
                              · have hijI2 : (J2 : Int) < I2 := by omega
                                have hJn2 : (J2 : Int) < n := by omega
                                have HPE := Lib.hid (pl_stop HI2.out HJ2.out hij2)
                                have HPP := Lib.hid (show PL = (J2, dk) by rw [← hspl.out, HPE.out])
                                have c0 := (HRT.out (J2) (by rw [HDK.out]; omega)).1
                                have f0 := (HRT.out (J2) (by rw [HDK.out]; omega)).2
                                obtain ⟨x0, hx0⟩ : ∃ x, dk[J2]! = x := ⟨_, rfl⟩
                                rw [hx0] at c0
                                have HX0 := Lib.hid hx0
                                clear hx0
                                have c1 := (HRT.out (a) (by rw [HDK.out]; omega)).1
                                have f1 := (HRT.out (a) (by rw [HDK.out]; omega)).2
                                obtain ⟨x1, hx1⟩ : ∃ x, dk[a]! = x := ⟨_, rfl⟩
                                rw [hx1] at c1
                                have HX1 := Lib.hid hx1
                                clear hx1
                                have gl : g < wo.heap.size := block_lt c0
                                obtain ⟨v9, hv9⟩ := cell?_setCell_some (p := ⟨g, J2, none⟩) (x := .int .u32 x1) c1
                                go_wp2
                                go_region
                                all_goals
                                  go_wp2
                                  refine bodyPost_ret (v := .tuple #[.int .i64 (J2 : Nat), .bool false]) (by simp [results, Tryz.results123, go_sem]) rfl ?_
                                  rw [HSP.out, HPP.out]
                                  exact ⟨rfl, gb_set (gb_set (gb_drew HGT.out) _ _) _ _, by (rw [← HX0.out, ← HX1.out]; exact (HRT.out.drew.swp (by rw [HDK.out]; omega) (by rw [HDK.out]; omega)))⟩
                              · have hijI2 : (I2 : Int) ≤ J2 := by omega
                                have hI2n : (I2 : Int) < n := by omega
                                have hJ2n : (J2 : Int) < n := by omega
                                obtain ⟨D3, hD3⟩ : ∃ x, Sort.swp dk I2 J2 = x := ⟨_, rfl⟩
                                have HDD3 := Lib.hid (show D3.size = n by rw [← hD3, swp_size]; exact HDK.out)
                                have HDe3 := Lib.hid hD3
                                clear hD3
                                go_upto_region 18 with fail
                                go_cut [148] from 135 to 148 (fun _ wx => Row wx g (D3) ∧ w.grownBy wx (some g))
                                case first =>
                                  have c0 := (HRT.out (I2) (by rw [HDK.out]; omega)).1
                                  have f0 := (HRT.out (I2) (by rw [HDK.out]; omega)).2
                                  obtain ⟨x0, hx0⟩ : ∃ x, dk[I2]! = x := ⟨_, rfl⟩
                                  rw [hx0] at c0
                                  have HX0 := Lib.hid hx0
                                  clear hx0
                                  have c1 := (HRT.out (J2) (by rw [HDK.out]; omega)).1
                                  have f1 := (HRT.out (J2) (by rw [HDK.out]; omega)).2
                                  obtain ⟨x1, hx1⟩ : ∃ x, dk[J2]! = x := ⟨_, rfl⟩
                                  rw [hx1] at c1
                                  have HX1 := Lib.hid hx1
                                  clear hx1
                                  have gl : g < wo.heap.size := block_lt c0
                                  obtain ⟨v9, hv9⟩ := cell?_setCell_some (p := ⟨g, I2, none⟩) (x := .int .u32 x1) c1
                                  go_wp2
                                  go_region
                                  all_goals
                                    go_wp2
                                    go_meet
                                    case rel => exact ⟨by (rw [← HX0.out, ← HX1.out]; rw [← HDe3.out]; exact (HRT.out.drew.swp (by rw [HDK.out]; omega) (by rw [HDK.out]; omega))), gb_set (gb_set (gb_drew HGT.out) _ _) _ _⟩
                                have HR3 := Lib.hid hcut.1
                                have HG3 := Lib.hid hcut.2
                                clear hcut
                                obtain ⟨w3, hw3⟩ : ∃ x, x = wc := ⟨_, rfl⟩
                                subst hw3
                                have hJ21 : (0 : Int) ≤ (J2 : Int) - 1 := by omega
                                go_wp2
                                go_roundw
                                case rel => exact ⟨I2 + 1, J2 - 1, D3, by first | rfl | go_num, by congr 1; omega, by omega, by omega, by omega, HDD3.out, HR3.out, HG3.out, Lib.hid (by rw [← hspl.out, pl_step HI2.out HJ2.out hij2 (by omega) (by omega) (by omega), HDe3.out])⟩
                                case measure => simp [Go.RowKit.intOf]; omega
                            · have hle : I2 ≤ j3 := by have := HBB.out; simp only [Bool.and_eq_true, decide_eq_true_eq] at this; exact this.1
                              have hle2 : (j3 : Int) ≤ 100000 := by omega
                              go_wp2
                              go_roundw
                              case rel => exact ⟨j3 - 1, by first | go_num | (congr 1; omega), by omega, by omega, HRT.out, HGT.out, Lib.hid (by rw [← hsp.out]; exact (sdn_step (by omega) HBB.out).symm)⟩
                              case measure => simp [Go.RowKit.intOf]; omega
                      · have hle : i3 ≤ j := by have := HBB.out; simp only [Bool.and_eq_true, decide_eq_true_eq] at this; exact this.1
                        have hle2 : (i3 : Int) ≤ 100000 := by omega
                        go_wp2
                        go_roundw
                        case rel => exact ⟨i3 + 1, by first | go_num | (congr 1; omega), by omega, by omega, HRT.out, HGT.out, Lib.hid (by rw [← hsp.out]; exact (sup_step HBB.out).symm)⟩
                        case measure => simp [Go.RowKit.intOf]; omega
            · have hle : I1 ≤ j := by have := HBB.out; simp only [Bool.and_eq_true, decide_eq_true_eq] at this; exact this.1
              have hle2 : (j : Int) ≤ 100000 := by omega
              go_wp2
              go_roundw
              case rel => exact ⟨j - 1, by first | go_num | (congr 1; omega), by omega, by omega, HRT.out, HGT.out, Lib.hid (by rw [← hsp.out]; exact (sdn_step (by omega) HBB.out).symm)⟩
              case measure => simp [Go.RowKit.intOf]; omega
      · have hle : i ≤ e := by have := HBB.out; simp only [Bool.and_eq_true, decide_eq_true_eq] at this; exact this.1
        have hle2 : (i : Int) ≤ 100000 := by omega
        go_wp2
        go_roundw
        case rel => exact ⟨i + 1, by first | go_num | (congr 1; omega), by omega, by omega, HRT.out, HGT.out, Lib.hid (by rw [← hsp.out]; exact (sup_step HBB.out).symm)⟩
        case measure => simp [Go.RowKit.intOf]; omega

end Go.Proofs.YtndpgakjpokllaaGreat

/- slices.Sort at uint32: partitionEqualOrdered. -/
namespace Go.Proofs.YtndpgakjpokllaaGreat
open Go.RowKit
set_option linter.unusedVariables false
set_option linter.unusedSimpArgs false

theorem pe_stop {a i j i2 j2 : Nat} {d : Array Int} (h1 : Sort.scanUp (fun x => !Sort.ltInt d[a]! x) d j i = i2) (h2 : Sort.scanDown (fun x => Sort.ltInt d[a]! x) d i2 j = j2) (h : j2 < i2) : Sort.partEqLoop Sort.ltInt a i j d = (i2, d) := by
  rw [Sort.partEqLoop]
  simp only [h1, h2]
  rw [if_pos h]

theorem pe_step {a i j i2 j2 : Nat} {d : Array Int} (h1 : Sort.scanUp (fun x => !Sort.ltInt d[a]! x) d j i = i2) (h2 : Sort.scanDown (fun x => Sort.ltInt d[a]! x) d i2 j = j2) (h : ¬ j2 < i2) (hi : i ≤ i2) (hj : j2 ≤ j) (h0 : 1 ≤ i2) :
    Sort.partEqLoop Sort.ltInt a i j d = Sort.partEqLoop Sort.ltInt a (i2 + 1) (j2 - 1) (Sort.swp d i2 j2) := by
  rw [Sort.partEqLoop]
  simp only [h1, h2]
  rw [if_neg h, dif_pos (by omega)]

/-- What comes of partitionEqualOrdered. -/
def RetPeq (g : Nat) (r : Nat × Array Int) (w : World) (e : Ending) (w' : World) : Prop := e = .returned (.int .i64 (r.1 : Nat)) ∧ w.grownBy w' (some g) ∧ Row w' g r.2

set_option maxHeartbeats 16000000 in
set_option maxRecDepth 100000 in
theorem partEq_any (g n cap : Nat) (d : Array Int) (a b pivot : Nat) (hd : d.size = n) (hn : n ≤ 100000) (hbn : b ≤ n) (hap : a ≤ pivot) (hpb : pivot < b) (w : World) (hR : Row w g d) :
    Calls Tryz.prog 122 #[.slice (some ⟨g, 0, none⟩) n cap, .int .i64 a, .int .i64 b, .int .i64 pivot] w (RetPeq g (Sort.partitionEqual Sort.ltInt d a b pivot) w) := by
  have HR := Lib.hid hR
  have HD := Lib.hid hd
  have HG := Lib.hid (World.grownBy.refl w (some g))
  clear hR hd
  have haI : (a : Int) < n := by omega
  have hpI : (pivot : Int) < n := by omega
  obtain ⟨D, hD⟩ : ∃ x, Sort.swp d a pivot = x := ⟨_, rfl⟩
  have HDD := Lib.hid (show D.size = n by rw [← hD, swp_size]; exact HD.out)
  obtain ⟨e, he⟩ : ∃ x, b - 1 = x := ⟨_, rfl⟩
  have heI : (b : Int) - 1 = e := by omega
  have HEI := Lib.hid heI
  clear heI
  obtain ⟨PL, hPL⟩ : ∃ x, Sort.partitionEqual Sort.ltInt d a b pivot = x := ⟨_, rfl⟩
  rw [hPL]
  have HPL := Lib.hid (show Sort.partEqLoop Sort.ltInt a (a + 1) e D = PL by
    rw [← hPL]
    unfold Sort.partitionEqual
    rw [hD, he])
  have HDe := Lib.hid hD
  clear hD hPL
  go_enter Tryz.func122, Tryz.ntmps122
  go_upto_region 1 with fail
  go_cut [24] from 11 to 24 (fun _ wx => Row wx g (D) ∧ w.grownBy wx (some g))
  case first =>
    have c0 := (HR.out (a) (by rw [HD.out]; omega)).1
    have f0 := (HR.out (a) (by rw [HD.out]; omega)).2
    obtain ⟨x0, hx0⟩ : ∃ x, d[a]! = x := ⟨_, rfl⟩
    rw [hx0] at c0
    have HX0 := Lib.hid hx0
    clear hx0
    have c1 := (HR.out (pivot) (by rw [HD.out]; omega)).1
    have f1 := (HR.out (pivot) (by rw [HD.out]; omega)).2
    obtain ⟨x1, hx1⟩ : ∃ x, d[pivot]! = x := ⟨_, rfl⟩
    rw [hx1] at c1
    have HX1 := Lib.hid hx1
    clear hx1
    have gl : g < w.heap.size := block_lt c0
    obtain ⟨v9, hv9⟩ := cell?_setCell_some (p := ⟨g, a, none⟩) (x := .int .u32 x1) c1
    go_wp2
    go_region
    all_goals
      go_wp2
      go_meet
      case rel => exact ⟨by (rw [← HX0.out, ← HX1.out]; rw [← HDe.out]; exact (HR.out.drew.swp (by rw [HD.out]; omega) (by rw [HD.out]; omega))), gb_set (gb_set (gb_drew HG.out) _ _) _ _⟩
  have HR1 := Lib.hid hcut.1
  have HG1 := Lib.hid hcut.2
  clear hcut
  obtain ⟨w1, hw1⟩ : ∃ x, x = wc := ⟨_, rfl⟩
  subst hw1
  go_upto_region 2 with fail
  go_cut [9, 10] from 25 to 28 (fun iv jv wx => iv = .int .i64 ((a + 1 : Nat) : Int) ∧ jv = .int .i64 (e : Nat) ∧ wx = w1)
  case first =>
    go_wp2
    go_meet
    case rel => exact ⟨by go_num, by rw [← HEI.out], rfl⟩
  obtain ⟨rfl, rfl, hwc⟩ := hcut
  rw [hwc]
  clear hwc
  go_wp2
  go_loopw [9, 10] (fun iv jv wr => ∃ (i j : Nat) (dk : Array Int), iv = .int .i64 i ∧ jv = .int .i64 j ∧ a + 1 ≤ i ∧ i ≤ 100001 ∧ j < b ∧ dk.size = n ∧ Row wr g dk ∧ w.grownBy wr (some g) ∧ Hid (Sort.partEqLoop Sort.ltInt a i j dk = PL)) (fun iv jv _ => (Go.RowKit.intOf jv + 1 - Go.RowKit.intOf iv).toNat)
  case atStart => exact ⟨a + 1, e, D, by first | rfl | go_num, rfl, by omega, by omega, by omega, HDD.out, HR1.out, HG1.out, HPL⟩
  case round =>
    obtain ⟨i, j, dk, rfl, rfl, hi1, hi2, hj1, hdk, hrow, hgb, hspl⟩ := hrel
    have HDK := Lib.hid hdk
    have HRK := Lib.hid hrow
    have HGK := Lib.hid hgb
    clear hdk hrow hgb
    obtain ⟨wr0, hwr0⟩ : ∃ x, x = wr := ⟨_, rfl⟩
    subst hwr0
    obtain ⟨I2, hI2⟩ : ∃ x, Sort.scanUp (fun x => !Sort.ltInt dk[a]! x) dk j i = x := ⟨_, rfl⟩
    obtain ⟨J2, hJ2⟩ : ∃ x, Sort.scanDown (fun x => Sort.ltInt dk[a]! x) dk I2 j = x := ⟨_, rfl⟩
    have HI2 := Lib.hid hI2
    have HJ2 := Lib.hid hJ2
    clear hI2 hJ2
    go_wp2
    go_loopw [9] (fun jv wr => ∃ i3 : Nat, jv = .int .i64 i3 ∧ i ≤ i3 ∧ i3 ≤ 100002 ∧ Row wr g dk ∧ w.grownBy wr (some g) ∧ Hid (Sort.scanUp (fun x => !Sort.ltInt dk[a]! x) dk (j) i3 = I2)) (fun jv _ => (j) + 1 - (Go.RowKit.intOf jv).toNat)
    case atStart => exact ⟨i, by first | rfl | (congr 1; omega), Nat.le_refl _, by omega, HRK.out, HGK.out, Lib.hid HI2.out⟩
    case round =>
      obtain ⟨i3, rfl, hi31, hi32, hrow, hgb, hsp⟩ := hrel
      have HRS := Lib.hid hrow
      have HGS := Lib.hid hgb
      clear hrow hgb
      obtain ⟨bb, hbb⟩ : ∃ x, (decide (i3 ≤ j) && !Sort.ltInt dk[a]! dk[i3]!) = x := ⟨_, rfl⟩
      have HBB := Lib.hid hbb
      clear hbb
      go_upto_region 3 with fail
      go_cut [43] from 29 to 43 (fun bv wx => bv = .bool bb ∧ Nx wr wx)
      case first =>
        by_cases h1 : i3 ≤ j
        · have hvI : (i3 : Int) < n := by omega
          have haI : (a : Int) < n := by omega
          have c0 := (HRS.out (i3) (by rw [HDK.out]; omega)).1
          have f0 := (HRS.out (i3) (by rw [HDK.out]; omega)).2
          obtain ⟨x0, hx0⟩ : ∃ x, dk[i3]! = x := ⟨_, rfl⟩
          rw [hx0] at c0
          have HX0 := Lib.hid hx0
          clear hx0
          have c1 := (HRS.out (a) (by rw [HDK.out]; omega)).1
          have f1 := (HRS.out (a) (by rw [HDK.out]; omega)).2
          obtain ⟨x1, hx1⟩ : ∃ x, dk[a]! = x := ⟨_, rfl⟩
          rw [hx1] at c1
          have HX1 := Lib.hid hx1
          clear hx1
          have gl : g < wr.heap.size := block_lt c0
          have HCL := Lib.hid (show bb = (!Sort.ltInt x1 x0) by rw [← HBB.out, decide_eq_true h1, Bool.true_and, HX0.out, HX1.out])
          have HVV := Lib.hid (show Value.bool (!Sort.ltInt x1 x0) = Value.bool bb by rw [HCL.out])
          go_wp2
          (refine wp_region_nx 14 (by kernel_rfl) (by kernel_rfl) ?_; simp only [List.take_succ_cons, List.take_zero, List.drop_succ_cons, List.drop_zero]; (repeat (with_reducible refine wpQuiet_step (fun K hK => ?_); go_simp; first | (with_reducible refine hK _ ?_; clear hK K) | (with_reducible apply Exists.intro; with_reducible refine ⟨fun w' hw' => ?_, hK _ ?_⟩; (first | (with_reducible rfl) | (go_at_call 121; with_reducible exact (less_nx _ _ _).mono fun _ _ h => ⟨h.1, hw'.trans h.2⟩) | (obtain ⟨hc, hf⟩ := nx_cells hw'; go_simp; with_reducible rfl) | (obtain ⟨hc, hf⟩ := nx_cells hw'; go_simp; rfl)); clear hK K))); with_reducible refine wpQuiet_nil ?_; intro w1 hn1)
          go_wp2
          go_meet
          case rel => exact ⟨HVV.out, hn1⟩
        · have HCL := Lib.hid (show bb = false by rw [← HBB.out, decide_eq_false h1, Bool.false_and])
          have h1I : (((i3 : Int) ≤ (j : Int)) = False) := eq_false (by omega)
          have h1N : ((i3 ≤ j) = False) := eq_false h1
          go_wp2
          (refine wp_region_nx 14 (by kernel_rfl) (by kernel_rfl) ?_; simp only [List.take_succ_cons, List.take_zero, List.drop_succ_cons, List.drop_zero]; (repeat (with_reducible refine wpQuiet_step (fun K hK => ?_); go_simp; first | (with_reducible refine hK _ ?_; clear hK K) | (with_reducible apply Exists.intro; with_reducible refine ⟨fun w' hw' => ?_, hK _ ?_⟩; (first | (with_reducible rfl) | (go_at_call 121; with_reducible exact (less_nx _ _ _).mono fun _ _ h => ⟨h.1, hw'.trans h.2⟩) | (obtain ⟨hc, hf⟩ := nx_cells hw'; go_simp; with_reducible rfl) | (obtain ⟨hc, hf⟩ := nx_cells hw'; go_simp; rfl)); clear hK K))); with_reducible refine wpQuiet_nil ?_; intro w1 hn1)
          go_wp2
          go_meet
          case rel => exact ⟨by rw [HCL.out], hn1⟩
      case rest =>
        obtain ⟨rfl, hn1⟩ := hcut
        have HRT := Lib.hid (HRS.out.nx hn1)
        have HGT := Lib.hid (gb_nx HGS.out hn1)
        clear hn1
        cases bb
        · have hI : I2 = i3 := by rw [← hsp.out]; exact sup_stop HBB.out
          subst hI
          clear hsp
          obtain ⟨wo, hwo⟩ : ∃ x, x = wc := ⟨_, rfl⟩
          subst hwo
          go_wp2
          go_loopw [10] (fun jv wr => ∃ j3 : Nat, jv = .int .i64 j3 ∧ j3 ≤ j ∧ j3 ≤ 100002 ∧ Row wr g dk ∧ w.grownBy wr (some g) ∧ Hid (Sort.scanDown (fun x => Sort.ltInt dk[a]! x) dk (I2) j3 = J2)) (fun jv _ => (Go.RowKit.intOf jv).toNat + 1)
          case atStart => exact ⟨j, by first | rfl | (congr 1; omega), Nat.le_refl _, by omega, HRT.out, HGT.out, Lib.hid HJ2.out⟩
          case round =>
            obtain ⟨j3, rfl, hj31, hj32, hrow, hgb, hsp⟩ := hrel
            have HRS := Lib.hid hrow
            have HGS := Lib.hid hgb
            clear hrow hgb
            obtain ⟨bb, hbb⟩ : ∃ x, (decide (I2 ≤ j3) && Sort.ltInt dk[a]! dk[j3]!) = x := ⟨_, rfl⟩
            have HBB := Lib.hid hbb
            clear hbb
            go_upto_region 5 with fail
            go_cut [59] from 46 to 59 (fun bv wx => bv = .bool bb ∧ Nx wr wx)
            case first =>
              by_cases h1 : I2 ≤ j3
              · have hvI : (j3 : Int) < n := by omega
                have haI : (a : Int) < n := by omega
                have c0 := (HRS.out (j3) (by rw [HDK.out]; omega)).1
                have f0 := (HRS.out (j3) (by rw [HDK.out]; omega)).2
                obtain ⟨x0, hx0⟩ : ∃ x, dk[j3]! = x := ⟨_, rfl⟩
                rw [hx0] at c0
                have HX0 := Lib.hid hx0
                clear hx0
                have c1 := (HRS.out (a) (by rw [HDK.out]; omega)).1
                have f1 := (HRS.out (a) (by rw [HDK.out]; omega)).2
                obtain ⟨x1, hx1⟩ : ∃ x, dk[a]! = x := ⟨_, rfl⟩
                rw [hx1] at c1
                have HX1 := Lib.hid hx1
                clear hx1
                have gl : g < wr.heap.size := block_lt c0
                have HCL := Lib.hid (show bb = (Sort.ltInt x1 x0) by rw [← HBB.out, decide_eq_true h1, Bool.true_and, HX0.out, HX1.out])
                have HVV := Lib.hid (show Value.bool (Sort.ltInt x1 x0) = Value.bool bb by rw [HCL.out])
                go_wp2
                (refine wp_region_nx 13 (by kernel_rfl) (by kernel_rfl) ?_; simp only [List.take_succ_cons, List.take_zero, List.drop_succ_cons, List.drop_zero]; (repeat (with_reducible refine wpQuiet_step (fun K hK => ?_); go_simp; first | (with_reducible refine hK _ ?_; clear hK K) | (with_reducible apply Exists.intro; with_reducible refine ⟨fun w' hw' => ?_, hK _ ?_⟩; (first | (with_reducible rfl) | (go_at_call 121; with_reducible exact (less_nx _ _ _).mono fun _ _ h => ⟨h.1, hw'.trans h.2⟩) | (obtain ⟨hc, hf⟩ := nx_cells hw'; go_simp; with_reducible rfl) | (obtain ⟨hc, hf⟩ := nx_cells hw'; go_simp; rfl)); clear hK K))); with_reducible refine wpQuiet_nil ?_; intro w1 hn1)
                go_wp2
                go_meet
                case rel => exact ⟨HVV.out, hn1⟩
              · have HCL := Lib.hid (show bb = false by rw [← HBB.out, decide_eq_false h1, Bool.false_and])
                have h1I : (((I2 : Int) ≤ (j3 : Int)) = False) := eq_false (by omega)
                have h1N : ((I2 ≤ j3) = False) := eq_false h1
                go_wp2
                (refine wp_region_nx 13 (by kernel_rfl) (by kernel_rfl) ?_; simp only [List.take_succ_cons, List.take_zero, List.drop_succ_cons, List.drop_zero]; (repeat (with_reducible refine wpQuiet_step (fun K hK => ?_); go_simp; first | (with_reducible refine hK _ ?_; clear hK K) | (with_reducible apply Exists.intro; with_reducible refine ⟨fun w' hw' => ?_, hK _ ?_⟩; (first | (with_reducible rfl) | (go_at_call 121; with_reducible exact (less_nx _ _ _).mono fun _ _ h => ⟨h.1, hw'.trans h.2⟩) | (obtain ⟨hc, hf⟩ := nx_cells hw'; go_simp; with_reducible rfl) | (obtain ⟨hc, hf⟩ := nx_cells hw'; go_simp; rfl)); clear hK K))); with_reducible refine wpQuiet_nil ?_; intro w1 hn1)
                go_wp2
                go_meet
                case rel => exact ⟨by rw [HCL.out], hn1⟩
            case rest =>
              obtain ⟨rfl, hn1⟩ := hcut
              have HRT := Lib.hid (HRS.out.nx hn1)
              have HGT := Lib.hid (gb_nx HGS.out hn1)
              clear hn1
              cases bb
              · have hI : J2 = j3 := by rw [← hsp.out]; exact sdn_stop (by omega) HBB.out
                subst hI
                clear hsp
                obtain ⟨wo, hwo⟩ : ∃ x, x = wc := ⟨_, rfl⟩
                subst hwo
                by_cases hij2 : J2 < I2
                · have hijI2 : (J2 : Int) < I2 := by omega
                  have HPE := Lib.hid (pe_stop HI2.out HJ2.out hij2)
                  have HPP := Lib.hid (show PL = (I2, dk) by rw [← hspl.out, HPE.out])
                  go_wp2
                  go_ret
                  rw [HPP.out]
                  exact ⟨rfl, HGT.out, HRT.out⟩
                · have hijI2 : (I2 : Int) ≤ J2 := by omega
                  have hI2n : (I2 : Int) < n := by omega
                  have hJ2n : (J2 : Int) < n := by omega
                  obtain ⟨D3, hD3⟩ : ∃ x, Sort.swp dk I2 J2 = x := ⟨_, rfl⟩
                  have HDD3 := Lib.hid (show D3.size = n by rw [← hD3, swp_size]; exact HDK.out)
                  have HDe3 := Lib.hid hD3
                  clear hD3
                  go_upto_region 8 with fail
                  go_cut [78] from 65 to 78 (fun _ wx => Row wx g (D3) ∧ w.grownBy wx (some g))
                  case first =>
                    have c0 := (HRT.out (I2) (by rw [HDK.out]; omega)).1
                    have f0 := (HRT.out (I2) (by rw [HDK.out]; omega)).2
                    obtain ⟨x0, hx0⟩ : ∃ x, dk[I2]! = x := ⟨_, rfl⟩
                    rw [hx0] at c0
                    have HX0 := Lib.hid hx0
                    clear hx0
                    have c1 := (HRT.out (J2) (by rw [HDK.out]; omega)).1
                    have f1 := (HRT.out (J2) (by rw [HDK.out]; omega)).2
                    obtain ⟨x1, hx1⟩ : ∃ x, dk[J2]! = x := ⟨_, rfl⟩
                    rw [hx1] at c1
                    have HX1 := Lib.hid hx1
                    clear hx1
                    have gl : g < wo.heap.size := block_lt c0
                    obtain ⟨v9, hv9⟩ := cell?_setCell_some (p := ⟨g, I2, none⟩) (x := .int .u32 x1) c1
                    go_wp2
                    go_region
                    all_goals
                      go_wp2
                      go_meet
                      case rel => exact ⟨by (rw [← HX0.out, ← HX1.out]; rw [← HDe3.out]; exact (HRT.out.drew.swp (by rw [HDK.out]; omega) (by rw [HDK.out]; omega))), gb_set (gb_set (gb_drew HGT.out) _ _) _ _⟩
                  have HR3 := Lib.hid hcut.1
                  have HG3 := Lib.hid hcut.2
                  clear hcut
                  obtain ⟨w3, hw3⟩ : ∃ x, x = wc := ⟨_, rfl⟩
                  subst hw3
                  have hJ21 : (0 : Int) ≤ (J2 : Int) - 1 := by omega
                  go_wp2
                  go_roundw
                  case rel => exact ⟨I2 + 1, J2 - 1, D3, by first | rfl | go_num, by congr 1; omega, by omega, by omega, by omega, HDD3.out, HR3.out, HG3.out, Lib.hid (by rw [← hspl.out, pe_step HI2.out HJ2.out hij2 (by omega) (by omega) (by omega), HDe3.out])⟩
                  case measure => simp [Go.RowKit.intOf]; omega
              · have hle : I2 ≤ j3 := by have := HBB.out; simp only [Bool.and_eq_true, decide_eq_true_eq] at this; exact this.1
                have hle2 : (j3 : Int) ≤ 100000 := by omega
                go_wp2
                go_roundw
                case rel => exact ⟨j3 - 1, by first | go_num | (congr 1; omega), by omega, by omega, HRT.out, HGT.out, Lib.hid (by rw [← hsp.out]; exact (sdn_step (by omega) HBB.out).symm)⟩
                case measure => simp [Go.RowKit.intOf]; omega
        · have hle : i3 ≤ j := by have := HBB.out; simp only [Bool.and_eq_true, decide_eq_true_eq] at this; exact this.1
          have hle2 : (i3 : Int) ≤ 100000 := by omega
          go_wp2
          go_roundw
          case rel => exact ⟨i3 + 1, by first | go_num | (congr 1; omega), by omega, by omega, HRT.out, HGT.out, Lib.hid (by rw [← hsp.out]; exact (sup_step HBB.out).symm)⟩
          case measure => simp [Go.RowKit.intOf]; omega

end Go.Proofs.YtndpgakjpokllaaGreat

