/- Plain: a remark behind a line, blanks ahead of it. -/
import Derived.Test.YtbkgdepblaibkaaDoorLxo
namespace Go.Proofs.YtbkgdepblaibkaaDoor
open Go.RowKit
set_option linter.unusedVariables false
set_option linter.unusedSimpArgs false

theorem text_tail (s r : List UInt8) (hs : 1 ≤ s.length) (h : 0 < (textR s).2) : textR (s ++ r) = textR s := by
  have h1 := textR_T s
  by_cases hc : 1 + (txtT (s.drop 1)).2 < s.length ∧ s.getD (1 + (txtT (s.drop 1)).2) 0 = 34
  · have ed : (s ++ r).drop 1 = s.drop 1 ++ r := List.drop_append_of_le_length hs
    have hl : (s.drop 1).length = s.length - 1 := List.length_drop
    have et : txtT (s.drop 1 ++ r) = txtT (s.drop 1) := txt_tail r (s.drop 1).length (s.drop 1) (Nat.le_refl _) (by omega) (by
      rw [List.getD_eq_getElem?_getD, List.getElem?_drop, ← List.getD_eq_getElem?_getD]; exact hc.2)
    have e2 : txtT ((s ++ r).drop 1) = txtT (s.drop 1) := by rw [ed, et]
    have hc2 : 1 + (txtT ((s ++ r).drop 1)).2 < (s ++ r).length ∧ (s ++ r).getD (1 + (txtT ((s ++ r).drop 1)).2) 0 = 34 := by
      rw [e2, getD_tail _ _ _ hc.1, List.length_append]
      exact ⟨by omega, hc.2⟩
    rw [textR_T, if_pos hc2, textR_T, if_pos hc, e2]
  · rw [h1, if_neg hc] at h
    exact absurd h (by decide)

theorem tok_tail (s r : List UInt8) (hs : 1 ≤ s.length) (h : ¬ (tokR s).2.1 = 0) : tokR (s ++ 32 :: r) = tokR s := by
  have e0 : (s ++ 32 :: r).getD 0 0 = s.getD 0 0 := getD_tail _ _ _ hs
  have ed : (s ++ 32 :: r).drop 1 = s.drop 1 ++ 32 :: r := List.drop_append_of_le_length hs
  have w1 : whileN goN (s ++ 32 :: r) = whileN goN s := while_tail goN (by decide) s r
  have w2 : whileN (letN ++ digN) (s.drop 1 ++ 32 :: r) = whileN (letN ++ digN) (s.drop 1) := while_tail (letN ++ digN) (by decide) _ r
  have t1 : (s ++ 32 :: r).take (whileN goN s) = s.take (whileN goN s) := List.take_append_of_le_length (whileN_le _ _)
  have t2 : (s.drop 1 ++ 32 :: r).take (whileN (letN ++ digN) (s.drop 1)) = (s.drop 1).take (whileN (letN ++ digN) (s.drop 1)) := List.take_append_of_le_length (whileN_le _ _)
  have t3 := take2_tail s r 60 60 hs (by decide)
  have t4 := take2_tail s r 62 62 hs (by decide)
  have t5 : (s ++ 32 :: r).take 1 = s.take 1 := List.take_append_of_le_length hs
  have e1 := num_tail s r hs
  unfold tokR at h ⊢
  rw [e0, ed, w1, w2, t1, t2, e1, t5]
  by_cases c1 : (letN ++ [46]).contains (s.getD 0 0) = true
  · rw [if_pos c1, if_pos c1]
  · rw [if_neg c1] at h ⊢
    rw [if_neg c1]
    by_cases c2 : digN.contains (s.getD 0 0) = true
    · rw [if_pos c2, if_pos c2]
    · rw [if_neg c2] at h ⊢
      rw [if_neg c2]
      by_cases c3 : s.getD 0 0 = 39
      · rw [if_pos c3] at h ⊢
        rw [if_pos c3]
        by_cases c4 : 0 < (quoR 39 (s.drop 1)).2 ∧ (quoR 39 (s.drop 1)).2 < (s.drop 1).length ∧ (s.drop 1).getD (quoR 39 (s.drop 1)).2 0 = 39
        · have eq := quo_tail 39 (s.drop 1) (32 :: r) c4.1
          rw [eq, if_pos c4, if_pos ⟨c4.1, by rw [List.length_append]; omega, by rw [getD_tail _ _ _ c4.2.1]; exact c4.2.2⟩]
        · rw [if_neg c4] at h
          exact absurd rfl h
      · rw [if_neg c3] at h ⊢
        rw [if_neg c3]
        by_cases c4 : s.getD 0 0 = 34
        · rw [if_pos c4] at h ⊢
          rw [if_pos c4, text_tail s (32 :: r) hs (by dsimp only at h; omega)]
        · rw [if_neg c4] at h ⊢
          rw [if_neg c4]
          by_cases c5 : s.getD 0 0 = 37 ∧ ((s.drop 1).take (whileN (letN ++ digN) (s.drop 1)) = [104, 105] ∨ (s.drop 1).take (whileN (letN ++ digN) (s.drop 1)) = [108, 111] ∨ (s.drop 1).take (whileN (letN ++ digN) (s.drop 1)) = [112, 99, 114, 101, 108])
          · rw [if_pos c5, if_pos c5]
          · rw [if_neg c5] at h ⊢
            rw [if_neg c5]
            by_cases c6 : (s.getD 0 0 = 64 ∨ s.getD 0 0 = 92) ∧ 0 < whileN (letN ++ digN) (s.drop 1) ∧ letN.contains ((s.drop 1).getD 0 0) = true
            · have hw := whileN_le (letN ++ digN) (s.drop 1)
              have eg : (s.drop 1 ++ 32 :: r).getD 0 0 = (s.drop 1).getD 0 0 := getD_tail _ _ _ (by have := c6.2.1; omega)
              rw [eg, if_pos c6, if_pos c6]
            · have c6' : ¬ ((s.getD 0 0 = 64 ∨ s.getD 0 0 = 92) ∧ 0 < whileN (letN ++ digN) (s.drop 1) ∧ letN.contains ((s.drop 1 ++ 32 :: r).getD 0 0) = true) := by
                rintro ⟨k1, k2, k3⟩
                have hw := whileN_le (letN ++ digN) (s.drop 1)
                rw [getD_tail _ _ _ (by omega)] at k3
                exact c6 ⟨k1, k2, k3⟩
              rw [if_neg c6] at h ⊢
              rw [if_neg c6']
              by_cases c7 : s.take 2 = [60, 60] ∨ s.take 2 = [62, 62]
              · have c7' : (s ++ 32 :: r).take 2 = [60, 60] ∨ (s ++ 32 :: r).take 2 = [62, 62] := by rw [t3, t4]; exact c7
                have e2 : (s ++ 32 :: r).take 2 = s.take 2 := by
                  rcases c7 with k | k
                  · rw [k]; exact t3.2 k
                  · rw [k]; exact t4.2 k
                rw [if_pos c7, if_pos c7', e2]
              · have c7' : ¬ ((s ++ 32 :: r).take 2 = [60, 60] ∨ (s ++ 32 :: r).take 2 = [62, 62]) := by rw [t3, t4]; exact c7
                rw [if_neg c7] at h ⊢
                rw [if_neg c7']

/-- A token further to the right. -/
def shC (m : Nat) (t : Tok) : Tok := { t with col := t.col + m }

theorem line_tail (n : Int) (m : Nat) (r : List UInt8) : ∀ (N : Nat) (s : List UInt8) (i : Nat) (ts : List Tok), s.length ≤ N → lineT n i s = .ok ts → lineT n (i + m) (s ++ 32 :: 35 :: r) = .ok (ts.map (shC m)) := by
  have hnil : ∀ i, lineT n i (32 :: 35 :: r) = .ok [] := by
    intro i
    rw [lineT_cons _ _ _ (by simp), if_pos (by rfl), show (32 :: 35 :: r : List UInt8).drop 1 = 35 :: r from rfl, lineT_cons _ _ _ (by simp), if_neg (by show ¬ blankN.contains (35 : UInt8) = true; decide), if_pos (by rfl)]
  intro N
  induction N with
  | zero =>
    intro s i ts hN h
    obtain rfl : s = [] := List.eq_nil_of_length_eq_zero (by omega)
    rw [lineT_nil] at h
    cases h
    exact hnil _
  | succ N ih =>
    intro s i ts hN h
    by_cases hs : 1 ≤ s.length
    · have e0 : (s ++ 32 :: 35 :: r).getD 0 0 = s.getD 0 0 := getD_tail _ _ _ hs
      have ed : (s ++ 32 :: 35 :: r).drop 1 = s.drop 1 ++ 32 :: 35 :: r := List.drop_append_of_le_length hs
      rw [lineT_cons _ _ _ hs] at h
      rw [lineT_cons _ _ _ (by rw [List.length_append]; omega), e0]
      by_cases h1 : blankN.contains (s.getD 0 0) = true
      · rw [if_pos h1] at h ⊢
        rw [ed, show i + m + 1 = (i + 1) + m by omega]
        exact ih _ _ _ (by rw [List.length_drop]; omega) h
      · rw [if_neg h1] at h ⊢
        by_cases h2 : s.getD 0 0 = 35
        · rw [if_pos h2] at h ⊢
          cases h
          rfl
        · rw [if_neg h2] at h ⊢
          by_cases h3 : (tokR s).2.1 = 0
          · rw [if_pos h3] at h; cases h
          · have et := tok_tail s (35 :: r) hs h3
            have hle := tokR_le s hs
            rw [if_neg h3] at h
            rw [et, if_neg h3, List.drop_append_of_le_length hle, show i + m + (tokR s).2.1 = (i + (tokR s).2.1) + m by omega]
            cases hr : lineT n (i + (tokR s).2.1) (s.drop (tokR s).2.1) with
            | bad a b c => rw [hr] at h; cases h
            | ok tr =>
              rw [hr] at h
              rw [ih _ _ _ (by rw [List.length_drop]; omega) hr]
              cases h
              show LRes.ok ([placeT (tokR s).1 n ((i + m + 1 : Nat) : Int)] ++ tr.map (shC m)) = LRes.ok (([placeT (tokR s).1 n ((i + 1 : Nat) : Int)] ++ tr).map (shC m))
              rw [List.map_append]
              congr 2
              simp [shC, placeT]
              omega
    · obtain rfl : s = [] := List.eq_nil_of_length_eq_zero (by omega)
      rw [lineT_nil] at h
      cases h
      exact hnil _

theorem line_blanks (n : Int) (s : List UInt8) : ∀ (m i : Nat), lineT n i (List.replicate m 32 ++ s) = lineT n (i + m) s := by
  intro m
  induction m with
  | zero => intro i; rfl
  | succ m ih =>
    intro i
    rw [List.replicate_succ, List.cons_append, lineT_cons _ _ _ (by simp), if_pos (by rfl), show (32 :: (List.replicate m 32 ++ s) : List UInt8).drop 1 = List.replicate m 32 ++ s from rfl, ih, show i + 1 + m = i + (m + 1) by omega]

theorem src_remark (m : Nat) (s r : List UInt8) (ts : List Tok) (hs : ∀ c ∈ s, c ≠ 10) (hr : ∀ c ∈ r, c ≠ 10) (hl : m + s.length + r.length + 2 ≤ 65536) (h : srcR s = .ok [ts]) : srcR (List.replicate m 32 ++ s ++ [32, 35] ++ r) = .ok [ts.map (shC m)] := by
  have hnf : ∀ c ∈ List.replicate m 32 ++ s ++ [32, 35] ++ r, c ≠ 10 := by
    intro c hc
    simp only [List.mem_append] at hc
    rcases hc with ((hc | hc) | hc) | hc
    · rw [List.eq_of_mem_replicate hc]; decide
    · exact hs c hc
    · have : ∀ c ∈ ([32, 35] : List UInt8), c ≠ 10 := by decide
      exact this c hc
    · exact hr c hc
  have e1 : lineT 1 0 s = .ok ts := by
    unfold srcR at h
    rw [if_neg (by omega), splitL_end _ hs, linesR_cons] at h
    have h : (match lineT 1 0 s with | .bad a b c => LRes.bad a b c | .ok ts => LRes.pre [ts] (.ok [])) = LRes.ok [ts] := h
    cases h1 : lineT 1 0 s with
    | bad a b c => rw [h1] at h; cases h
    | ok tr => rw [h1] at h; cases h; rfl
  have e2 : List.replicate m 32 ++ s ++ [32, 35] ++ r = List.replicate m 32 ++ (s ++ 32 :: 35 :: r) := by simp
  have e3 : lineT 1 0 (List.replicate m 32 ++ s ++ [32, 35] ++ r) = .ok (ts.map (shC m)) := by
    rw [e2, line_blanks]
    exact line_tail 1 m r s.length s 0 ts (Nat.le_refl _) e1
  unfold srcR
  rw [if_neg (by simp only [List.length_append, List.length_replicate, List.length_cons, List.length_nil]; omega), splitL_end _ hnf, linesR_cons]
  show (match lineT 1 0 _ with | .bad a b c => LRes.bad a b c | .ok ts => LRes.pre [ts] (.ok [])) = _
  rw [e3]
  rfl

/-- A source without a line feed has one line. -/
theorem src_one (s : List UInt8) (ls : List (List Tok)) (hs : ∀ c ∈ s, c ≠ 10) (hl : s.length ≤ 65536) (h : srcR s = .ok ls) : ∃ ts, ls = [ts] := by
  unfold srcR at h
  rw [if_neg (by omega), splitL_end _ hs, linesR_cons] at h
  have h : (match lineT 1 0 s with | .bad a b c => LRes.bad a b c | .ok ts => LRes.pre [ts] (.ok [])) = LRes.ok ls := h
  cases h1 : lineT 1 0 s with
  | bad a b c => rw [h1] at h; cases h
  | ok tr => rw [h1] at h; cases h; exact ⟨tr, rfl⟩

end Go.Proofs.YtbkgdepblaibkaaDoor
