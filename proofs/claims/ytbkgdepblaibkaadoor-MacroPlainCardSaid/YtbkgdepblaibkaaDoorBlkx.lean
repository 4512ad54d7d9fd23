/- Contracts of package block, and of typecaseref13: labels. -/
import Derived.Test.YtbkgdepblaibkaaDoorBlkw
namespace Go.Proofs.YtbkgdepblaibkaaDoor
open Go.RowKit
set_option linter.unusedVariables false
set_option linter.unusedSimpArgs false

theorem labels_two (a b : Tok) (l : List Tok) : labelsP (a :: b :: l) = if (a.kind = 1 ∨ a.kind = 2) ∧ b.kind = 7 ∧ b.text = [58] then 2 + labelsP l else 0 := rfl

theorem labels_le : ∀ (n : Nat) (l : List Tok), l.length ≤ n → labelsP l ≤ l.length
  | 0, [], _ => Nat.le_refl _
  | n + 1, [], _ => Nat.le_refl _
  | n + 1, [a], _ => Nat.zero_le _
  | n + 1, a :: b :: l, h => by
    rw [labels_two]
    split
    · have := labels_le n l (by simp at h; omega)
      simp only [List.length_cons]; omega
    · exact Nat.zero_le _

theorem drop_two (l : List Tok) (k : Nat) (a b : Tok) (ha : l[k]? = some a) (hb : l[k + 1]? = some b) : l.drop k = a :: b :: l.drop (k + 2) := by
  obtain ⟨h1, e1⟩ := List.getElem?_eq_some_iff.1 ha
  obtain ⟨h2, e2⟩ := List.getElem?_eq_some_iff.1 hb
  rw [List.drop_eq_getElem_cons h1, List.drop_eq_getElem_cons h2, e1, e2]

theorem labels_short (l : List Tok) (k : Nat) (h : l.length ≤ k + 1) : labelsP (l.drop k) = 0 := by
  have : (l.drop k).length ≤ 1 := by rw [List.length_drop]; omega
  match hd : l.drop k, this with
  | [], _ => rfl
  | [a], _ => rfl

set_option maxHeartbeats 4000000 in
theorem labels_any (v : Value) (l : List Tok) (w : World) (hT : Toks w v l) (hb : l.length ≤ 1000000) : Calls Tryd.prog 24 #[v] w fun e w' => e = .returned (.int .i64 (labelsP l : Nat)) ∧ w = w' := by
  obtain ⟨A, c, rfl, hc1, hc2, hA⟩ := hT.form
  clear hT hc2
  obtain ⟨V, hV⟩ : ∃ V, V = labelsP l := ⟨_, rfl⟩
  rw [← hV]
  have HV := Lib.hid hV
  have HA := Lib.hid hA
  clear hV hA
  go_enter Tryd.func24, Tryd.ntmps24
  go_wp2
  go_loop [3] (fun i => ∃ k : Nat, k ≤ l.length ∧ i = .int .i64 k ∧ Hid (V = k + labelsP (l.drop k))) (fun i => l.length + 2 - (intOf i).toNat)
  case atStart => exact ⟨0, Nat.zero_le _, rfl, Lib.hid (by rw [HV.out]; simp)⟩
  case round =>
    obtain ⟨k, hk, rfl, HL⟩ := hrel
    by_cases hlt : k + 1 < l.length
    · obtain ⟨a, ha⟩ : ∃ a, l[k]? = some a := ⟨_, List.getElem?_eq_getElem (by omega)⟩
      obtain ⟨b, hb⟩ : ∃ b, l[k + 1]? = some b := ⟨_, List.getElem?_eq_getElem hlt⟩
      obtain ⟨g, o, rfl, hT⟩ : ∃ g o, A = some ⟨g, o, none⟩ ∧ TokAt w g o l := by
        rcases HA.out with ⟨_, h, _⟩ | h
        · subst h; cases ha
        · exact h
      obtain ⟨a0, _, _, a3, _, _⟩ := hT.at_ k a ha
      obtain ⟨b0, _, _, b3, _, _⟩ := hT.at_ (k + 1) b hb
      have hd := HL.out
      rw [drop_two l k a b ha hb, labels_two] at hd
      have HD := Lib.hid hd
      clear hd hT ha hb a3 HL
      obtain ⟨ka, la, ca, ta, na, sa⟩ := a
      obtain ⟨kb, lb, cb, tb, nb, sb⟩ := b
      dsimp only at a0 b0 b3 HD
      have hi : (k : Int) + 1 < l.length := by omega
      have hi2 : ((k : Int) + 1).toNat = k + 1 := by omega
      by_cases e2 : kb = 7
      · subst e2
        by_cases e3 : tb = [58]
        · subst e3
          by_cases e1 : ka = 1
          · subst e1
            have HE := Lib.hid (show V = k + (2 + labelsP (l.drop (k + 2))) by have hd := HD.out; simpa using hd)
            clear HD
            go_wp2
            go_round
            case rel => exact ⟨k + 2, by omega, by go_num, Lib.hid (by rw [HE.out]; omega)⟩
            case measure => simp [intOf]; omega
          · have q1 : (ka != 1) = true := by simpa using e1
            by_cases e4 : ka = 2
            · subst e4
              have HE := Lib.hid (show V = k + (2 + labelsP (l.drop (k + 2))) by have hd := HD.out; simpa using hd)
              clear HD
              go_wp2
              go_round
              case rel => exact ⟨k + 2, by omega, by go_num, Lib.hid (by rw [HE.out]; omega)⟩
              case measure => simp [intOf]; omega
            · have q2 : (ka != 2) = true := by simpa using e4
              have HE := Lib.hid (show V = k by have hd := HD.out; simpa [e1, e4] using hd)
              clear HD
              clear e1 e4
              go_wp2
              go_ret
              exact ⟨ret_i64' (by rw [HE.out]), rfl⟩
        · have q3 : (tb != [58]) = true := by simpa using e3
          have q4 : (tb == [58]) = false := by simpa using e3
          have HE := Lib.hid (show V = k by have hd := HD.out; simpa [e3] using hd)
          clear HD
          clear e3
          by_cases e1 : ka = 1
          · subst e1
            go_wp2
            go_ret
            exact ⟨ret_i64' (by rw [HE.out]), rfl⟩
          · have q1 : (ka != 1) = true := by simpa using e1
            by_cases e4 : ka = 2
            · subst e4
              go_wp2
              go_ret
              exact ⟨ret_i64' (by rw [HE.out]), rfl⟩
            · have q2 : (ka != 2) = true := by simpa using e4
              clear e1 e4
              go_wp2
              go_ret
              exact ⟨ret_i64' (by rw [HE.out]), rfl⟩
      · have q5 : (kb != 7) = true := by simpa using e2
        have HE := Lib.hid (show V = k by have hd := HD.out; simpa [e2] using hd)
        clear HD
        clear e2
        by_cases e1 : ka = 1
        · subst e1
          go_wp2
          go_ret
          exact ⟨ret_i64' (by rw [HE.out]), rfl⟩
        · have q1 : (ka != 1) = true := by simpa using e1
          by_cases e4 : ka = 2
          · subst e4
            go_wp2
            go_ret
            exact ⟨ret_i64' (by rw [HE.out]), rfl⟩
          · have q2 : (ka != 2) = true := by simpa using e4
            clear e1 e4
            go_wp2
            go_ret
            exact ⟨ret_i64' (by rw [HE.out]), rfl⟩
    · have HE := Lib.hid (show V = k by rw [HL.out, labels_short l k (by omega)]; rfl)
      have hi : (l.length : Int) ≤ (k : Int) + 1 := by omega
      clear HL hlt
      go_wp2
      go_ret
      exact ⟨ret_i64' (by rw [HE.out]), rfl⟩

set_option maxHeartbeats 4000000 in
theorem rlabels_any (v : Value) (l : List Tok) (w : World) (hT : Toks w v l) (hb : l.length ≤ 1000000) : Calls Tryd.prog 25 #[v] w fun e w' => e = .returned (.int .i64 (labelsP l : Nat)) ∧ w = w' := by
  obtain ⟨A, c, rfl, hc1, hc2, hA⟩ := hT.form
  clear hT hc2
  obtain ⟨V, hV⟩ : ∃ V, V = labelsP l := ⟨_, rfl⟩
  rw [← hV]
  have HV := Lib.hid hV
  have HA := Lib.hid hA
  clear hV hA
  go_enter Tryd.func25, Tryd.ntmps25
  go_wp2
  go_loop [3] (fun i => ∃ k : Nat, k ≤ l.length ∧ i = .int .i64 k ∧ Hid (V = k + labelsP (l.drop k))) (fun i => l.length + 2 - (intOf i).toNat)
  case atStart => exact ⟨0, Nat.zero_le _, rfl, Lib.hid (by rw [HV.out]; simp)⟩
  case round =>
    obtain ⟨k, hk, rfl, HL⟩ := hrel
    by_cases hlt : k + 1 < l.length
    · obtain ⟨a, ha⟩ : ∃ a, l[k]? = some a := ⟨_, List.getElem?_eq_getElem (by omega)⟩
      obtain ⟨b, hb⟩ : ∃ b, l[k + 1]? = some b := ⟨_, List.getElem?_eq_getElem hlt⟩
      obtain ⟨g, o, rfl, hT⟩ : ∃ g o, A = some ⟨g, o, none⟩ ∧ TokAt w g o l := by
        rcases HA.out with ⟨_, h, _⟩ | h
        · subst h; cases ha
        · exact h
      obtain ⟨a0, _, _, a3, _, _⟩ := hT.at_ k a ha
      obtain ⟨b0, _, _, b3, _, _⟩ := hT.at_ (k + 1) b hb
      have hd := HL.out
      rw [drop_two l k a b ha hb, labels_two] at hd
      have HD := Lib.hid hd
      clear hd hT ha hb a3 HL
      obtain ⟨ka, la, ca, ta, na, sa⟩ := a
      obtain ⟨kb, lb, cb, tb, nb, sb⟩ := b
      dsimp only at a0 b0 b3 HD
      have hi : (k : Int) + 2 ≤ l.length := by omega
      have hi2 : ((k : Int) + 1).toNat = k + 1 := by omega
      by_cases e2 : kb = 7
      · subst e2
        by_cases e3 : tb = [58]
        · subst e3
          by_cases e1 : ka = 1
          · subst e1
            have HE := Lib.hid (show V = k + (2 + labelsP (l.drop (k + 2))) by have hd := HD.out; simpa using hd)
            clear HD
            go_wp2
            go_round
            case rel => exact ⟨k + 2, by omega, by go_num, Lib.hid (by rw [HE.out]; omega)⟩
            case measure => simp [intOf]; omega
          · have q1 : (ka != 1) = true := by simpa using e1
            by_cases e4 : ka = 2
            · subst e4
              have HE := Lib.hid (show V = k + (2 + labelsP (l.drop (k + 2))) by have hd := HD.out; simpa using hd)
              clear HD
              go_wp2
              go_round
              case rel => exact ⟨k + 2, by omega, by go_num, Lib.hid (by rw [HE.out]; omega)⟩
              case measure => simp [intOf]; omega
            · have q2 : (ka != 2) = true := by simpa using e4
              have HE := Lib.hid (show V = k by have hd := HD.out; simpa [e1, e4] using hd)
              clear HD
              clear e1 e4
              go_wp2
              go_ret
              exact ⟨ret_i64' (by rw [HE.out]), rfl⟩
        · have q3 : (tb != [58]) = true := by simpa using e3
          have q4 : (tb == [58]) = false := by simpa using e3
          have HE := Lib.hid (show V = k by have hd := HD.out; simpa [e3] using hd)
          clear HD
          clear e3
          by_cases e1 : ka = 1
          · subst e1
            go_wp2
            go_ret
            exact ⟨ret_i64' (by rw [HE.out]), rfl⟩
          · have q1 : (ka != 1) = true := by simpa using e1
            by_cases e4 : ka = 2
            · subst e4
              go_wp2
              go_ret
              exact ⟨ret_i64' (by rw [HE.out]), rfl⟩
            · have q2 : (ka != 2) = true := by simpa using e4
              clear e1 e4
              go_wp2
              go_ret
              exact ⟨ret_i64' (by rw [HE.out]), rfl⟩
      · have q5 : (kb != 7) = true := by simpa using e2
        have HE := Lib.hid (show V = k by have hd := HD.out; simpa [e2] using hd)
        clear HD
        clear e2
        by_cases e1 : ka = 1
        · subst e1
          go_wp2
          go_ret
          exact ⟨ret_i64' (by rw [HE.out]), rfl⟩
        · have q1 : (ka != 1) = true := by simpa using e1
          by_cases e4 : ka = 2
          · subst e4
            go_wp2
            go_ret
            exact ⟨ret_i64' (by rw [HE.out]), rfl⟩
          · have q2 : (ka != 2) = true := by simpa using e4
            clear e1 e4
            go_wp2
            go_ret
            exact ⟨ret_i64' (by rw [HE.out]), rfl⟩
    · have HE := Lib.hid (show V = k by rw [HL.out, labels_short l k (by omega)]; rfl)
      have hi : (l.length : Int) < (k : Int) + 2 := by omega
      clear HL hlt
      go_wp2
      go_ret
      exact ⟨ret_i64' (by rw [HE.out]), rfl⟩

end Go.Proofs.YtbkgdepblaibkaaDoor
