/- Contracts of typecaseref14: Comma. -/
import Derived.Test.YtbkgdepblaibkaaDoorMacw
namespace Go.Proofs.YtbkgdepblaibkaaDoor
open Go.RowKit
set_option linter.unusedVariables false
set_option linter.unusedSimpArgs false

set_option maxHeartbeats 4000000 in
set_option maxRecDepth 100000 in
theorem comma_any (v : Value) (l : List Tok) (n : Nat) (w : World) (hT : Toks w v l) (hn : n ≤ l.length) : Calls Tryd.prog 51 #[v, .int .i64 n] w fun e w' => e = .returned (.int .i64 ((n + comN 0 (l.drop n) : Nat) : Int)) ∧ Nx w w' := by
  obtain ⟨A, c, rfl, hc1, hc2, hA⟩ := hT.form
  have HA := Lib.hid hA
  have hlm : l.length ≤ 9223372036854775807 := by unfold maxLen at hc2; omega
  clear hT hA hc1 hc2
  go_enter Tryd.func51, Tryd.ntmps51
  go_wp2
  go_loopw [5, 6] (fun dv iv wr => ComRel l w wr n dv iv) (fun _ iv _ => l.length - (intOf iv).toNat)
  case atStart => exact ⟨n, 0, Nat.le_refl _, hn, rfl, rfl, Nat.zero_le _, Nx.refl w, rfl⟩
  case round =>
    obtain ⟨k, d, hnk, hk, rfl, rfl, hdk, hnx, hcom⟩ := hrel
    have HNX := Lib.hid hnx
    clear hnx
    by_cases hlt : k < l.length
    · obtain ⟨t, ht⟩ : ∃ t, l[k]? = some t := ⟨_, List.getElem?_eq_getElem hlt⟩
      have hdr : l.drop k = t :: l.drop (k + 1) := by rw [List.drop_eq_getElem_cons hlt]; rw [List.getElem?_eq_getElem hlt] at ht; cases ht; rfl
      obtain ⟨g, o, rfl, hTA⟩ : ∃ g o, A = some ⟨g, o, none⟩ ∧ TokAt w g o l := by
        rcases HA.out with ⟨_, h, _⟩ | h
        · subst h; cases ht
        · exact h
      have HT := Lib.hid (fun w2 (h : Nx w w2) => (hTA.nx h).at_ k t ht)
      rw [hdr, comN] at hcom
      have HC0 := Lib.hid hcom
      clear hTA ht hdr hcom
      have six : (mkN [40] t = true ∧ mkN [44] t = false ∧ mkN [41] t = false) ∨ (mkN [40] t = false ∧ mkN [41] t = true ∧ 0 < d ∧ mkN [44] t = false) ∨ (mkN [40] t = false ∧ mkN [41] t = true ∧ d = 0 ∧ mkN [44] t = false) ∨ (mkN [40] t = false ∧ mkN [41] t = false ∧ mkN [44] t = true ∧ d = 0) ∨ (mkN [40] t = false ∧ mkN [41] t = false ∧ mkN [44] t = true ∧ 0 < d) ∨ (mkN [40] t = false ∧ mkN [41] t = false ∧ mkN [44] t = false) := by
        cases h1 : mkN [40] t with
        | true => exact Or.inl ⟨rfl, mk_apart _ _ t h1 rfl, mk_apart _ _ t h1 rfl⟩
        | false =>
          cases h2 : mkN [41] t with
          | true =>
            rcases Nat.eq_zero_or_pos d with h0 | h0
            · exact Or.inr (Or.inr (Or.inl ⟨rfl, rfl, h0, mk_apart _ _ t h2 rfl⟩))
            · exact Or.inr (Or.inl ⟨rfl, rfl, h0, mk_apart _ _ t h2 rfl⟩)
          | false =>
            cases h3 : mkN [44] t with
            | true =>
              rcases Nat.eq_zero_or_pos d with h0 | h0
              · exact Or.inr (Or.inr (Or.inr (Or.inl ⟨rfl, rfl, rfl, h0⟩)))
              · exact Or.inr (Or.inr (Or.inr (Or.inr (Or.inl ⟨rfl, rfl, rfl, h0⟩))))
            | false => exact Or.inr (Or.inr (Or.inr (Or.inr (Or.inr ⟨rfl, rfl, rfl⟩))))
      rcases six with ⟨h1, h3, h2⟩ | ⟨h1, h2, h0, h3⟩ | ⟨h1, h2, h0, h3⟩ | ⟨h1, h2, h3, h0⟩ | ⟨h1, h2, h3, h0⟩ | ⟨h1, h2, h3⟩
      · have hd : depN d t = d + 1 := by unfold depN; rw [if_pos h1]
        have HC2 := Lib.hid (show k + 1 + comN (d + 1) (l.drop (k + 1)) = n + comN 0 (l.drop n) from by have h := HC0.out; rw [if_neg (by rw [h3]; simp), hd] at h; omega)
        clear HC0
        clear hd
        replace h1 := Lib.hid h1
        replace h2 := Lib.hid h2
        replace h3 := Lib.hid h3
        obtain ⟨a0, a1, a2, a3, a4, a5⟩ := HT.out _ HNX.out
        go_wp2_with fail
        refine (markr_is t [44] false _ (by first | exact h1.out | exact h2.out | exact h3.out)).mono ?_
        rintro e w1 ⟨rfl, hn1⟩
        have K1 := Lib.hid (HNX.out.trans hn1)
        clear hn1
        clear a0 a1 a2 a3 a4 a5
        obtain ⟨a0, a1, a2, a3, a4, a5⟩ := HT.out _ K1.out
        go_wp2_with fail
        refine (markr_is t [40] true _ (by first | exact h1.out | exact h2.out | exact h3.out)).mono ?_
        rintro e w2 ⟨rfl, hn2⟩
        have K2 := Lib.hid (K1.out.trans hn2)
        clear hn2
        clear a0 a1 a2 a3 a4 a5
        obtain ⟨a0, a1, a2, a3, a4, a5⟩ := HT.out _ K2.out
        go_wp2_with fail
        refine (markr_is t [41] false _ (by first | exact h1.out | exact h2.out | exact h3.out)).mono ?_
        rintro e w3 ⟨rfl, hn3⟩
        have K3 := Lib.hid (K2.out.trans hn3)
        clear hn3
        clear a0 a1 a2 a3 a4 a5
        obtain ⟨a0, a1, a2, a3, a4, a5⟩ := HT.out _ K3.out
        go_wp2
        go_roundw
        case rel => exact ⟨k + 1, d + 1, by omega, by omega, by go_num, by go_num, by omega, K3.out, HC2.out⟩
        case measure => simp [intOf]; omega
      · have hd : depN d t = d - 1 := by unfold depN; rw [if_neg (by rw [h1]; simp), if_pos h2]
        have HC2 := Lib.hid (show k + 1 + comN (d - 1) (l.drop (k + 1)) = n + comN 0 (l.drop n) from by have h := HC0.out; rw [if_neg (by rw [h3]; simp), hd] at h; omega)
        clear HC0
        clear hd
        obtain ⟨d, rfl⟩ : ∃ x, d = x + 1 := ⟨d - 1, by omega⟩
        have HC2 := Lib.hid (show k + 1 + comN d (l.drop (k + 1)) = n + comN 0 (l.drop n) from HC2.out)
        have g0 : decide (0 < (d : Int) + 1) = true := decide_eq_true (by omega)
        replace h1 := Lib.hid h1
        replace h2 := Lib.hid h2
        replace h3 := Lib.hid h3
        obtain ⟨a0, a1, a2, a3, a4, a5⟩ := HT.out _ HNX.out
        go_wp2_with fail
        refine (markr_is t [44] false _ (by first | exact h1.out | exact h2.out | exact h3.out)).mono ?_
        rintro e w1 ⟨rfl, hn1⟩
        have K1 := Lib.hid (HNX.out.trans hn1)
        clear hn1
        clear a0 a1 a2 a3 a4 a5
        obtain ⟨a0, a1, a2, a3, a4, a5⟩ := HT.out _ K1.out
        go_wp2_with fail
        refine (markr_is t [40] false _ (by first | exact h1.out | exact h2.out | exact h3.out)).mono ?_
        rintro e w2 ⟨rfl, hn2⟩
        have K2 := Lib.hid (K1.out.trans hn2)
        clear hn2
        clear a0 a1 a2 a3 a4 a5
        obtain ⟨a0, a1, a2, a3, a4, a5⟩ := HT.out _ K2.out
        go_wp2_with fail
        refine (markr_is t [41] true _ (by first | exact h1.out | exact h2.out | exact h3.out)).mono ?_
        rintro e w3 ⟨rfl, hn3⟩
        have K3 := Lib.hid (K2.out.trans hn3)
        clear hn3
        clear a0 a1 a2 a3 a4 a5
        obtain ⟨a0, a1, a2, a3, a4, a5⟩ := HT.out _ K3.out
        go_wp2
        go_roundw
        case rel => exact ⟨k + 1, d, by omega, by omega, by go_num, by go_num, by omega, K3.out, HC2.out⟩
        case measure => simp [intOf]; omega
      · subst h0
        have hd : depN 0 t = 0 := by unfold depN; rw [if_neg (by rw [h1]; simp), if_pos h2]
        have HC2 := Lib.hid (show k + 1 + comN 0 (l.drop (k + 1)) = n + comN 0 (l.drop n) from by have h := HC0.out; rw [if_neg (by rw [h3]; simp), hd] at h; omega)
        clear HC0
        clear hd
        replace h1 := Lib.hid h1
        replace h2 := Lib.hid h2
        replace h3 := Lib.hid h3
        obtain ⟨a0, a1, a2, a3, a4, a5⟩ := HT.out _ HNX.out
        go_wp2_with fail
        refine (markr_is t [44] false _ (by first | exact h1.out | exact h2.out | exact h3.out)).mono ?_
        rintro e w1 ⟨rfl, hn1⟩
        have K1 := Lib.hid (HNX.out.trans hn1)
        clear hn1
        clear a0 a1 a2 a3 a4 a5
        obtain ⟨a0, a1, a2, a3, a4, a5⟩ := HT.out _ K1.out
        go_wp2_with fail
        refine (markr_is t [40] false _ (by first | exact h1.out | exact h2.out | exact h3.out)).mono ?_
        rintro e w2 ⟨rfl, hn2⟩
        have K2 := Lib.hid (K1.out.trans hn2)
        clear hn2
        clear a0 a1 a2 a3 a4 a5
        obtain ⟨a0, a1, a2, a3, a4, a5⟩ := HT.out _ K2.out
        go_wp2_with fail
        refine (markr_is t [41] true _ (by first | exact h1.out | exact h2.out | exact h3.out)).mono ?_
        rintro e w3 ⟨rfl, hn3⟩
        have K3 := Lib.hid (K2.out.trans hn3)
        clear hn3
        clear a0 a1 a2 a3 a4 a5
        obtain ⟨a0, a1, a2, a3, a4, a5⟩ := HT.out _ K3.out
        go_wp2
        go_roundw
        case rel => exact ⟨k + 1, 0, by omega, by omega, by go_num, by go_num, by omega, K3.out, HC2.out⟩
        case measure => simp [intOf]; omega
      · subst h0
        have HC2 := Lib.hid (show k = n + comN 0 (l.drop n) from by have h := HC0.out; rw [if_pos ⟨h3, rfl⟩] at h; omega)
        clear HC0
        replace h1 := Lib.hid h1
        replace h2 := Lib.hid h2
        replace h3 := Lib.hid h3
        obtain ⟨a0, a1, a2, a3, a4, a5⟩ := HT.out _ HNX.out
        go_wp2_with fail
        refine (markr_is t [44] true _ (by first | exact h1.out | exact h2.out | exact h3.out)).mono ?_
        rintro e w1 ⟨rfl, hn1⟩
        have K1 := Lib.hid (HNX.out.trans hn1)
        clear hn1
        clear a0 a1 a2 a3 a4 a5
        obtain ⟨a0, a1, a2, a3, a4, a5⟩ := HT.out _ K1.out
        go_wp2
        go_ret
        exact ⟨ret_i64 (by have := HC2.out; omega), K1.out⟩
      · have hd : depN d t = d := by unfold depN; rw [if_neg (by rw [h1]; simp), if_neg (by rw [h2]; simp)]
        have HC2 := Lib.hid (show k + 1 + comN d (l.drop (k + 1)) = n + comN 0 (l.drop n) from by have h := HC0.out; rw [if_neg (by omega), hd] at h; omega)
        clear HC0
        clear hd
        have g0 : ((d : Int) == 0) = false := by simp; omega
        replace h1 := Lib.hid h1
        replace h2 := Lib.hid h2
        replace h3 := Lib.hid h3
        obtain ⟨a0, a1, a2, a3, a4, a5⟩ := HT.out _ HNX.out
        go_wp2_with fail
        refine (markr_is t [44] true _ (by first | exact h1.out | exact h2.out | exact h3.out)).mono ?_
        rintro e w1 ⟨rfl, hn1⟩
        have K1 := Lib.hid (HNX.out.trans hn1)
        clear hn1
        clear a0 a1 a2 a3 a4 a5
        obtain ⟨a0, a1, a2, a3, a4, a5⟩ := HT.out _ K1.out
        go_wp2_with fail
        refine (markr_is t [40] false _ (by first | exact h1.out | exact h2.out | exact h3.out)).mono ?_
        rintro e w2 ⟨rfl, hn2⟩
        have K2 := Lib.hid (K1.out.trans hn2)
        clear hn2
        clear a0 a1 a2 a3 a4 a5
        obtain ⟨a0, a1, a2, a3, a4, a5⟩ := HT.out _ K2.out
        go_wp2_with fail
        refine (markr_is t [41] false _ (by first | exact h1.out | exact h2.out | exact h3.out)).mono ?_
        rintro e w3 ⟨rfl, hn3⟩
        have K3 := Lib.hid (K2.out.trans hn3)
        clear hn3
        clear a0 a1 a2 a3 a4 a5
        obtain ⟨a0, a1, a2, a3, a4, a5⟩ := HT.out _ K3.out
        go_wp2
        go_roundw
        case rel => exact ⟨k + 1, d, by omega, by omega, by go_num, by go_num, by omega, K3.out, HC2.out⟩
        case measure => simp [intOf]; omega
      · have hd : depN d t = d := by unfold depN; rw [if_neg (by rw [h1]; simp), if_neg (by rw [h2]; simp)]
        have HC2 := Lib.hid (show k + 1 + comN d (l.drop (k + 1)) = n + comN 0 (l.drop n) from by have h := HC0.out; rw [if_neg (by rw [h3]; simp), hd] at h; omega)
        clear HC0
        clear hd
        replace h1 := Lib.hid h1
        replace h2 := Lib.hid h2
        replace h3 := Lib.hid h3
        obtain ⟨a0, a1, a2, a3, a4, a5⟩ := HT.out _ HNX.out
        go_wp2_with fail
        refine (markr_is t [44] false _ (by first | exact h1.out | exact h2.out | exact h3.out)).mono ?_
        rintro e w1 ⟨rfl, hn1⟩
        have K1 := Lib.hid (HNX.out.trans hn1)
        clear hn1
        clear a0 a1 a2 a3 a4 a5
        obtain ⟨a0, a1, a2, a3, a4, a5⟩ := HT.out _ K1.out
        go_wp2_with fail
        refine (markr_is t [40] false _ (by first | exact h1.out | exact h2.out | exact h3.out)).mono ?_
        rintro e w2 ⟨rfl, hn2⟩
        have K2 := Lib.hid (K1.out.trans hn2)
        clear hn2
        clear a0 a1 a2 a3 a4 a5
        obtain ⟨a0, a1, a2, a3, a4, a5⟩ := HT.out _ K2.out
        go_wp2_with fail
        refine (markr_is t [41] false _ (by first | exact h1.out | exact h2.out | exact h3.out)).mono ?_
        rintro e w3 ⟨rfl, hn3⟩
        have K3 := Lib.hid (K2.out.trans hn3)
        clear hn3
        clear a0 a1 a2 a3 a4 a5
        obtain ⟨a0, a1, a2, a3, a4, a5⟩ := HT.out _ K3.out
        go_wp2
        go_roundw
        case rel => exact ⟨k + 1, d, by omega, by omega, by go_num, by go_num, by omega, K3.out, HC2.out⟩
        case measure => simp [intOf]; omega
    · obtain rfl : k = l.length := by omega
      rw [List.drop_eq_nil_of_le (Nat.le_refl _), comN_nil] at hcom
      have HC := Lib.hid hcom
      clear hcom
      go_wp2
      go_ret
      exact ⟨ret_i64 (by have := HC.out; omega), HNX.out⟩

end Go.Proofs.YtbkgdepblaibkaaDoor
