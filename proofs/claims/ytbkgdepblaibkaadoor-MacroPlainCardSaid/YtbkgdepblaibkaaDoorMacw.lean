/- Contracts of package macro, and of typecaseref14: mark, part, Comma. -/
import Derived.Test.YtbkgdepblaibkaaDoorMac
import Derived.Test.YtbkgdepblaibkaaDoorBlkw
namespace Go.Proofs.YtbkgdepblaibkaaDoor
open Go.RowKit
set_option linter.unusedVariables false
set_option linter.unusedSimpArgs false

set_option maxHeartbeats 1000000 in
theorem markp_is (t : Tok) (s : List UInt8) (b : Bool) (w : World) (hb : mkN s t = b) : Calls Tryd.prog 70 #[tokV t, .string (B s)] w fun e w' => e = .returned (.bool b) ∧ Nx w w' := by
  have HV := Lib.hid (show ((t.kind == 7) && (t.text == s)) = b from hb)
  clear hb
  obtain ⟨kd, ln, cl, tx, nm, sc⟩ := t
  cases h1 : (kd == 7) <;> cases h2 : (tx == s)
  all_goals
    have HV2 := Lib.hid (show ((kd == 7) && (tx == s)) = b from HV.out)
    clear HV
    go_enter Tryd.func70, Tryd.ntmps70
    go_wp2
    go_ret
    refine ⟨ret_bool ?_, ?_⟩
    · rw [← HV2.out, h1, h2]; try rfl
    · repeat (with_reducible first | exact Nx.refl _ | refine Nx.setCell ?_ (Nat.le_refl _) _ | refine Nx.alloc ?_ _)

set_option maxHeartbeats 1000000 in
theorem markr_is (t : Tok) (s : List UInt8) (b : Bool) (w : World) (hb : mkN s t = b) : Calls Tryd.prog 50 #[tokV t, .string (B s)] w fun e w' => e = .returned (.bool b) ∧ Nx w w' := by
  have HV := Lib.hid (show ((t.kind == 7) && (t.text == s)) = b from hb)
  clear hb
  obtain ⟨kd, ln, cl, tx, nm, sc⟩ := t
  cases h1 : (kd == 7) <;> cases h2 : (tx == s)
  all_goals
    have HV2 := Lib.hid (show ((kd == 7) && (tx == s)) = b from HV.out)
    clear HV
    go_enter Tryd.func50, Tryd.ntmps50
    go_wp2
    go_ret
    refine ⟨ret_bool ?_, ?_⟩
    · rw [← HV2.out, h1, h2]; try rfl
    · repeat (with_reducible first | exact Nx.refl _ | refine Nx.setCell ?_ (Nat.le_refl _) _ | refine Nx.alloc ?_ _)

theorem comN_nil (d : Nat) : comN d [] = 0 := rfl

/-- A token by value, in a block of its own. -/
abbrev tokO (t : Tok) : Obj := .cells #[.int .i64 t.kind, .int .i64 t.line, .int .i64 t.col, .string (B t.text), .int .u32 t.num, .int .i64 t.scope] 58

theorem tok_cells {w w2 : World} {t : Tok} (h : Nx (w.alloc (tokO t)) w2) :
    w2.cell? ⟨w.heap.size, 0, none⟩ = some (.int .i64 t.kind) ∧ w2.cell? ⟨w.heap.size, 1, none⟩ = some (.int .i64 t.line) ∧ w2.cell? ⟨w.heap.size, 2, none⟩ = some (.int .i64 t.col) ∧ w2.cell? ⟨w.heap.size, 3, none⟩ = some (.string (B t.text)) ∧ w2.cell? ⟨w.heap.size, 4, none⟩ = some (.int .u32 t.num) ∧ w2.cell? ⟨w.heap.size, 5, none⟩ = some (.int .i64 t.scope) ∧ w.heap.size < w2.heap.size := by
  have hs := h.size
  have e1 : (w.alloc (tokO t)).heap.size = w.heap.size + 1 := by simp
  exact ⟨h.cell (by simp), h.cell (by simp), h.cell (by simp), h.cell (by simp), h.cell (by simp), h.cell (by simp), by omega⟩

/-- What holds at a round's head. -/
def ComRel (l : List Tok) (w wr : World) (from_ : Nat) (dv iv : Value) : Prop :=
  ∃ (k d : Nat), from_ ≤ k ∧ k ≤ l.length ∧ dv = .int .i64 d ∧ iv = .int .i64 k ∧ d ≤ k ∧ Nx w wr ∧ k + comN d (l.drop k) = from_ + comN 0 (l.drop from_)

set_option maxHeartbeats 4000000 in
set_option maxRecDepth 100000 in
theorem part_any (v : Value) (l : List Tok) (w : World) (hT : Toks w v l) : Calls Tryd.prog 52 #[v] w fun e w' => e = .returned (.int .i64 (comN 0 l : Nat)) ∧ Nx w w' := by
  obtain ⟨A, c, rfl, hc1, hc2, hA⟩ := hT.form
  have HA := Lib.hid hA
  have hlm : l.length ≤ 9223372036854775807 := by unfold maxLen at hc2; omega
  clear hT hA hc1 hc2
  go_enter Tryd.func52, Tryd.ntmps52
  go_wp2
  go_loopw [3, 8] (fun dv iv wr => ComRel l w wr 0 dv iv) (fun _ iv _ => l.length - (intOf iv).toNat)
  case atStart => exact ⟨0, 0, Nat.le_refl _, Nat.zero_le _, rfl, rfl, Nat.le_refl _, Nx.refl w, by rw [List.drop_zero]⟩
  case round =>
    obtain ⟨k, d, _, hk, rfl, rfl, hdk, hnx, hcom⟩ := hrel
    have HNX := Lib.hid hnx
    clear hnx
    by_cases hlt : k < l.length
    · obtain ⟨t, ht⟩ : ∃ t, l[k]? = some t := ⟨_, List.getElem?_eq_getElem hlt⟩
      have hdr : l.drop k = t :: l.drop (k + 1) := by rw [List.drop_eq_getElem_cons hlt]; rw [List.getElem?_eq_getElem hlt] at ht; cases ht; rfl
      obtain ⟨g, o, rfl, hTA⟩ : ∃ g o, A = some ⟨g, o, none⟩ ∧ TokAt w g o l := by
        rcases HA.out with ⟨_, h, _⟩ | h
        · subst h; cases ht
        · exact h
      obtain ⟨a0, a1, a2, a3, a4, a5⟩ := (hTA.nx HNX.out).at_ k t ht
      rw [hdr, comN] at hcom
      have HC := Lib.hid hcom
      clear hTA ht hdr hcom
      have six : (mkN [40] t = true ∧ mkN [44] t = false) ∨ (mkN [40] t = false ∧ mkN [41] t = true ∧ 0 < d ∧ mkN [44] t = false) ∨ (mkN [40] t = false ∧ mkN [41] t = true ∧ d = 0 ∧ mkN [44] t = false) ∨ (mkN [40] t = false ∧ mkN [41] t = false ∧ mkN [44] t = true ∧ d = 0) ∨ (mkN [40] t = false ∧ mkN [41] t = false ∧ mkN [44] t = true ∧ 0 < d) ∨ (mkN [40] t = false ∧ mkN [41] t = false ∧ mkN [44] t = false) := by
        cases h1 : mkN [40] t with
        | true => exact Or.inl ⟨rfl, mk_apart _ _ t h1 rfl⟩
        | false =>
          cases h2 : mkN [41] t with
          | true =>
            rcases Nat.eq_zero_or_pos d with h0 | h0
            · exact Or.inr (Or.inr (Or.inl ⟨rfl, rfl, h0, mk_apart _ _ t h2 rfl⟩))
            · exact Or.inr (Or.inl ⟨rfl, rfl, h0, mk_apart _ _ t h2 rfl⟩)
          | false =>
            cases h3 : mkN [44] t with
            | true =>
              rcases Nat.eq_zero_or_pos d with h0 | h0
              · exact Or.inr (Or.inr (Or.inr (Or.inl ⟨rfl, rfl, rfl, h0⟩)))
              · exact Or.inr (Or.inr (Or.inr (Or.inr (Or.inl ⟨rfl, rfl, rfl, h0⟩))))
            | false => exact Or.inr (Or.inr (Or.inr (Or.inr (Or.inr ⟨rfl, rfl, rfl⟩))))
      rcases six with ⟨h1, h3⟩ | ⟨h1, h2, h0, h3⟩ | ⟨h1, h2, h0, h3⟩ | ⟨h1, h2, h3, h0⟩ | ⟨h1, h2, h3, h0⟩ | ⟨h1, h2, h3⟩
      · have hd : depN d t = d + 1 := by unfold depN; rw [if_pos h1]
        have HC := Lib.hid (show k + 1 + comN (d + 1) (l.drop (k + 1)) = 0 + comN 0 (l.drop 0) from by have h := HC.out; rw [if_neg (by rw [h3]; simp), hd] at h; omega)
        clear hd
        replace h1 := Lib.hid h1
        replace h3 := Lib.hid h3
        go_wp2_with fail
        refine (markp_is t [40] true _ (by first | exact h1.out | exact h2.out | exact h3.out)).mono ?_
        rintro e w1 ⟨rfl, hn1⟩
        have K1 := Lib.hid hn1
        clear hn1
        have HF := Lib.hid (HNX.out.trans (((Nx.refl wr).alloc _).trans K1.out))
        go_wp2
        go_roundw
        case rel => exact ⟨k + 1, d + 1, by omega, by omega, by go_num, by go_num, by omega, HF.out, HC.out⟩
        case measure => simp [intOf]; omega
      · have hd : depN d t = d - 1 := by unfold depN; rw [if_neg (by rw [h1]; simp), if_pos h2]
        have HC := Lib.hid (show k + 1 + comN (d - 1) (l.drop (k + 1)) = 0 + comN 0 (l.drop 0) from by have h := HC.out; rw [if_neg (by rw [h3]; simp), hd] at h; omega)
        clear hd
        obtain ⟨d, rfl⟩ : ∃ x, d = x + 1 := ⟨d - 1, by omega⟩
        have HC := Lib.hid (show k + 1 + comN d (l.drop (k + 1)) = 0 + comN 0 (l.drop 0) from HC.out)
        have g0 : decide (0 < (d : Int) + 1) = true := decide_eq_true (by omega)
        replace h1 := Lib.hid h1
        replace h2 := Lib.hid h2
        replace h3 := Lib.hid h3
        go_wp2_with fail
        refine (markp_is t [40] false _ (by first | exact h1.out | exact h2.out | exact h3.out)).mono ?_
        rintro e w1 ⟨rfl, hn1⟩
        have K1 := Lib.hid hn1
        clear hn1
        obtain ⟨b0, b1, b2, b3, b4, b5, bz⟩ := tok_cells K1.out
        go_wp2_with fail
        refine (markp_is t [41] true _ (by first | exact h1.out | exact h2.out | exact h3.out)).mono ?_
        rintro e w2 ⟨rfl, hn2⟩
        have K2 := Lib.hid (K1.out.trans hn2)
        clear hn2
        have HF := Lib.hid (HNX.out.trans (((Nx.refl wr).alloc _).trans K2.out))
        go_wp2
        go_roundw
        case rel => exact ⟨k + 1, d, by omega, by omega, by go_num, by go_num, by omega, HF.out, HC.out⟩
        case measure => simp [intOf]; omega
      · subst h0
        have hd : depN 0 t = 0 := by unfold depN; rw [if_neg (by rw [h1]; simp), if_pos h2]
        have HC2 := Lib.hid (show k + 1 + comN 0 (l.drop (k + 1)) = 0 + comN 0 (l.drop 0) from by have h := HC.out; rw [if_neg (by rw [h3]; simp), hd] at h; omega)
        clear HC
        clear hd
        replace h1 := Lib.hid h1
        replace h2 := Lib.hid h2
        replace h3 := Lib.hid h3
        go_wp2_with fail
        refine (markp_is t [40] false _ (by first | exact h1.out | exact h2.out | exact h3.out)).mono ?_
        rintro e w1 ⟨rfl, hn1⟩
        have K1 := Lib.hid hn1
        clear hn1
        obtain ⟨b0, b1, b2, b3, b4, b5, bz⟩ := tok_cells K1.out
        go_wp2_with fail
        refine (markp_is t [41] true _ (by first | exact h1.out | exact h2.out | exact h3.out)).mono ?_
        rintro e w2 ⟨rfl, hn2⟩
        have K2 := Lib.hid (K1.out.trans hn2)
        clear hn2
        obtain ⟨b0, b1, b2, b3, b4, b5, bz⟩ := tok_cells K2.out
        go_wp2_with fail
        refine (markp_is t [44] false _ (by first | exact h1.out | exact h2.out | exact h3.out)).mono ?_
        rintro e w3 ⟨rfl, hn3⟩
        have K3 := Lib.hid (K2.out.trans hn3)
        clear hn3
        have HF := Lib.hid (HNX.out.trans (((Nx.refl wr).alloc _).trans K3.out))
        go_wp2
        go_roundw
        case rel => exact ⟨k + 1, 0, by omega, by omega, by go_num, by go_num, by omega, HF.out, HC2.out⟩
        case measure => simp [intOf]; omega
      · subst h0
        have HC2 := Lib.hid (show k = 0 + comN 0 (l.drop 0) from by have h := HC.out; rw [if_pos ⟨h3, rfl⟩] at h; omega)
        clear HC
        replace h1 := Lib.hid h1
        replace h2 := Lib.hid h2
        replace h3 := Lib.hid h3
        go_wp2_with fail
        refine (markp_is t [40] false _ (by first | exact h1.out | exact h2.out | exact h3.out)).mono ?_
        rintro e w1 ⟨rfl, hn1⟩
        have K1 := Lib.hid hn1
        clear hn1
        obtain ⟨b0, b1, b2, b3, b4, b5, bz⟩ := tok_cells K1.out
        go_wp2_with fail
        refine (markp_is t [41] false _ (by first | exact h1.out | exact h2.out | exact h3.out)).mono ?_
        rintro e w2 ⟨rfl, hn2⟩
        have K2 := Lib.hid (K1.out.trans hn2)
        clear hn2
        obtain ⟨b0, b1, b2, b3, b4, b5, bz⟩ := tok_cells K2.out
        go_wp2_with fail
        refine (markp_is t [44] true _ (by first | exact h1.out | exact h2.out | exact h3.out)).mono ?_
        rintro e w3 ⟨rfl, hn3⟩
        have K3 := Lib.hid (K2.out.trans hn3)
        clear hn3
        have HF := Lib.hid (HNX.out.trans (((Nx.refl wr).alloc _).trans K3.out))
        go_wp2
        go_ret
        exact ⟨ret_i64 (by have := HC2.out; rw [List.drop_zero] at this; omega), HF.out⟩
      · have hd : depN d t = d := by unfold depN; rw [if_neg (by rw [h1]; simp), if_neg (by rw [h2]; simp)]
        have HC := Lib.hid (show k + 1 + comN d (l.drop (k + 1)) = 0 + comN 0 (l.drop 0) from by have h := HC.out; rw [if_neg (by omega), hd] at h; omega)
        clear hd
        have g0 : ((d : Int) == 0) = false := by simp; omega
        replace h1 := Lib.hid h1
        replace h2 := Lib.hid h2
        replace h3 := Lib.hid h3
        go_wp2_with fail
        refine (markp_is t [40] false _ (by first | exact h1.out | exact h2.out | exact h3.out)).mono ?_
        rintro e w1 ⟨rfl, hn1⟩
        have K1 := Lib.hid hn1
        clear hn1
        obtain ⟨b0, b1, b2, b3, b4, b5, bz⟩ := tok_cells K1.out
        go_wp2_with fail
        refine (markp_is t [41] false _ (by first | exact h1.out | exact h2.out | exact h3.out)).mono ?_
        rintro e w2 ⟨rfl, hn2⟩
        have K2 := Lib.hid (K1.out.trans hn2)
        clear hn2
        obtain ⟨b0, b1, b2, b3, b4, b5, bz⟩ := tok_cells K2.out
        go_wp2_with fail
        refine (markp_is t [44] true _ (by first | exact h1.out | exact h2.out | exact h3.out)).mono ?_
        rintro e w3 ⟨rfl, hn3⟩
        have K3 := Lib.hid (K2.out.trans hn3)
        clear hn3
        have HF := Lib.hid (HNX.out.trans (((Nx.refl wr).alloc _).trans K3.out))
        go_wp2
        go_roundw
        case rel => exact ⟨k + 1, d, by omega, by omega, by go_num, by go_num, by omega, HF.out, HC.out⟩
        case measure => simp [intOf]; omega
      · have hd : depN d t = d := by unfold depN; rw [if_neg (by rw [h1]; simp), if_neg (by rw [h2]; simp)]
        have HC := Lib.hid (show k + 1 + comN d (l.drop (k + 1)) = 0 + comN 0 (l.drop 0) from by have h := HC.out; rw [if_neg (by rw [h3]; simp), hd] at h; omega)
        clear hd
        replace h1 := Lib.hid h1
        replace h2 := Lib.hid h2
        replace h3 := Lib.hid h3
        go_wp2_with fail
        refine (markp_is t [40] false _ (by first | exact h1.out | exact h2.out | exact h3.out)).mono ?_
        rintro e w1 ⟨rfl, hn1⟩
        have K1 := Lib.hid hn1
        clear hn1
        obtain ⟨b0, b1, b2, b3, b4, b5, bz⟩ := tok_cells K1.out
        go_wp2_with fail
        refine (markp_is t [41] false _ (by first | exact h1.out | exact h2.out | exact h3.out)).mono ?_
        rintro e w2 ⟨rfl, hn2⟩
        have K2 := Lib.hid (K1.out.trans hn2)
        clear hn2
        obtain ⟨b0, b1, b2, b3, b4, b5, bz⟩ := tok_cells K2.out
        go_wp2_with fail
        refine (markp_is t [44] false _ (by first | exact h1.out | exact h2.out | exact h3.out)).mono ?_
        rintro e w3 ⟨rfl, hn3⟩
        have K3 := Lib.hid (K2.out.trans hn3)
        clear hn3
        have HF := Lib.hid (HNX.out.trans (((Nx.refl wr).alloc _).trans K3.out))
        go_wp2
        go_roundw
        case rel => exact ⟨k + 1, d, by omega, by omega, by go_num, by go_num, by omega, HF.out, HC.out⟩
        case measure => simp [intOf]; omega
    · obtain rfl : k = l.length := by omega
      rw [List.drop_eq_nil_of_le (Nat.le_refl _), comN_nil, List.drop_zero] at hcom
      have HC := Lib.hid hcom
      clear hcom
      go_wp2
      go_ret
      exact ⟨ret_i64 (by have := HC.out; omega), HNX.out⟩

end Go.Proofs.YtbkgdepblaibkaaDoor
