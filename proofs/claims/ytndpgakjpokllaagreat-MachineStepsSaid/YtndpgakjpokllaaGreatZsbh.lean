/- Parts of the proof, one behind the other. -/
import Derived.Lib.SlKeysI
import Derived.Test.YtndpgakjpokllaaGreatZsbg
/- slices.Sort at uint32. -/
namespace Go.Proofs.YtndpgakjpokllaaGreat
open Go.RowKit
set_option linter.unusedVariables false
set_option linter.unusedSimpArgs false

theorem sorted_list {d d' : Array Int} (hp : Sort.PermIn 0 d.size d d') (hs : Sort.SortedIn Sort.ltInt 0 d.size d') : d'.toList = d.toList.mergeSort leI := by
  rw [Sort.sorted_unique_holds Sort.swo_ltInt (fun x y h1 h2 => by simp only [Sort.ltInt, decide_eq_false_iff_not] at h1 h2; omega) d d' hp hs]
  congr 1
  funext x y
  simp only [Sort.ltInt, leI]
  by_cases h : y < x
  · rw [decide_eq_true h, decide_eq_false (by omega)]; rfl
  · rw [decide_eq_false h, decide_eq_true (by omega)]; rfl

/-- What comes of slices.Sort. -/
def RetSort (g : Nat) (d : Array Int) (w : World) (e : Ending) (w' : World) : Prop := e = .returned (.tuple #[]) ∧ w.grownBy w' (some g) ∧ ∃ d', d'.toList = d.toList.mergeSort leI ∧ Row w' g d'

theorem bitLen_64 (n : Nat) (hn : n ≤ 100000) : Lib.bitLen n ≤ 64 := by
  by_cases h0 : n = 0
  · subst h0; decide
  · have := bitLen_le n h0
    rcases Nat.lt_or_ge 64 (Lib.bitLen n) with h | h
    · have := Nat.pow_le_pow_right (n := 2) (by decide) (Nat.le_of_lt h)
      omega
    · exact h

set_option maxHeartbeats 4000000 in
set_option maxRecDepth 100000 in
theorem sort_any (g n cap : Nat) (d : Array Int) (hd : d.size = n) (hn : n ≤ 100000) (w : World) (hR : Row w g d) :
    Calls Tryz.prog 75 #[.slice (some ⟨g, 0, none⟩) n cap] w (RetSort g d w) := by
  have hw : IntKind.u64.wrap (n : Int) = n := by rw [IntKind.wrap_u64]; omega
  have C := Lib.hid (bitsLen_any n w (by omega) (by omega))
  have hl := bitLen_64 n hn
  obtain ⟨k, hk⟩ : ∃ k, Lib.bitLen n = k := ⟨_, rfl⟩
  have ht : ((n : Nat) : Int).toNat = n := by omega
  rw [ht, hk] at C
  rw [hk] at hl
  have C2 : Hid (Calls Tryz.prog 104 #[.slice (some ⟨g, 0, none⟩) n cap, .int .i64 0, .int .i64 n, .int .i64 k] w (RetPdq g 0 n d w)) :=
    Lib.hid (pdq_any g n cap hn (n + 1) d 0 n k w (by omega) hd (Nat.le_refl _) (Nat.zero_le _) hl (Or.inl rfl) hR)
  have HD := Lib.hid hd
  clear hk ht hd hR
  go_enter Tryz.func75, Tryz.ntmps75
  go_wp2_with fail
  refine C.out.mono ?_
  rintro e w1 ⟨rfl, hw1⟩
  rw [hw1]
  clear hw1
  go_wp2_with fail
  refine C2.out.mono ?_
  rintro e w2 ⟨rfl, hg, d', hp, hs, hr⟩
  have HG := Lib.hid hg
  have HRR := Lib.hid hr
  have HPP := Lib.hid hp
  have HSS := Lib.hid hs
  clear hg hr hp hs C C2
  go_wp2_with fail
  go_end0
  have hdd := HD.out
  subst hdd
  exact ⟨rfl, HG.out, d', sorted_list HPP.out HSS.out, HRR.out⟩

theorem insertion_nil (w : World) : Calls Tryz.prog 115 #[.slice none 0 0, .int .i64 0, .int .i64 0] w fun e w' => e = .returned (.tuple #[]) ∧ w' = w := by
  go_enter Tryz.func115, Tryz.ntmps115
  go_wp2_with fail
  go_loopw [6, 7] (fun iv _ wr => iv = .int .i64 1 ∧ wr = w) (fun _ _ _ => 0)
  case atStart => exact ⟨rfl, rfl⟩
  case round =>
    obtain ⟨rfl, rfl⟩ := hrel
    go_wp2_with fail
    go_end0
    exact ⟨rfl, rfl⟩

theorem pdq_nil (k : Int) (w : World) : Calls Tryz.prog 104 #[.slice none 0 0, .int .i64 0, .int .i64 0, .int .i64 k] w fun e w' => e = .returned (.tuple #[]) ∧ w' = w := by
  go_enter Tryz.func104, Tryz.ntmps104
  go_wp2_with fail
  go_loopw [1, 2, 3, 8, 9, 10, 11, 12, 13, 14, 15, 16, 17, 18] (fun av bv lv wbv wpv _ _ _ _ _ _ _ _ _ wr => av = .int .i64 0 ∧ bv = .int .i64 0 ∧ wr = w) (fun _ _ _ _ _ _ _ _ _ _ _ _ _ _ _ => 0)
  case atStart => exact ⟨rfl, rfl, rfl⟩
  case round =>
    obtain ⟨rfl, rfl, rfl⟩ := hrel
    have C := Lib.hid (insertion_nil wr)
    go_wp2_with fail
    refine C.out.mono ?_
    rintro e w1 ⟨rfl, hw1⟩
    rw [hw1]
    clear hw1
    go_wp2_with fail
    refine bodyPost_ret (results_none rfl _ _ _) rfl ?_
    exact ⟨rfl, rfl⟩

theorem sort_nil (w : World) : Calls Tryz.prog 75 #[.slice none 0 0] w fun e w' => e = .returned (.tuple #[]) ∧ w' = w := by
  have C := Lib.hid (bitsLen_any 0 w (by omega) (by omega))
  have C2 := Lib.hid (pdq_nil 0 w)
  go_enter Tryz.func75, Tryz.ntmps75
  go_wp2_with fail
  refine C.out.mono ?_
  rintro e w1 ⟨rfl, hw1⟩
  rw [hw1]
  clear hw1
  go_wp2_with fail
  refine C2.out.mono ?_
  rintro e w1 ⟨rfl, hw1⟩
  rw [hw1]
  clear hw1
  go_wp2_with fail
  go_end0
  exact ⟨rfl, rfl⟩

end Go.Proofs.YtndpgakjpokllaaGreat

