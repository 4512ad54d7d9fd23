/- Parts of the proof, one behind the other. -/
import Derived.Test.YtndpgakjpokllaaGreatZtaz
/- law07: a step changes little, plain. -/
namespace Go.Proofs.YtndpgakjpokllaaGreat
open Go.RowKit
set_option linter.unusedVariables false
set_option linter.unusedSimpArgs false

/-- How many of the first i registers differ. -/
def cntR (A B : List Int) : Nat → Nat
  | 0 => 0
  | i + 1 => cntR A B i + if A.getD i 0 = B.getD i 0 then 0 else 1

theorem cntR_self (A : List Int) : ∀ i, cntR A A i = 0
  | 0 => rfl
  | i + 1 => by rw [cntR, cntR_self A i, if_pos rfl]

theorem cntR_le (A B : List Int) : ∀ i, cntR A B i ≤ i
  | 0 => Nat.le_refl _
  | i + 1 => by
    have := cntR_le A B i
    rw [cntR]
    split <;> omega

theorem dk_le : ∀ (n : Nat) (A B : List (Int × Int)), A.length + B.length ≤ n → (dk A B).length ≤ A.length + B.length
  | n, [], [], _ => by rw [dk]; exact Nat.zero_le _
  | 0, x :: A, B, h => by simp at h
  | 0, [], y :: B, h => by simp at h
  | n + 1, x :: A, [], h => by
    have := dk_le n A [] (by simp at h; simp; omega)
    rw [dk]
    simp at this ⊢
    omega
  | n + 1, [], y :: B, h => by
    have := dk_le n [] B (by simp at h; simp; omega)
    rw [dk]
    simp at this ⊢
    omega
  | n + 1, x :: A, y :: B, h => by
    simp at h
    have h1 := dk_le n A B (by omega)
    have h2 := dk_le n A (y :: B) (by simp; omega)
    have h3 := dk_le n (x :: A) B (by simp; omega)
    simp at h2 h3
    rw [dk]
    split
    · split
      · simp; omega
      · simp; omega
    · split
      · simp; omega
      · simp; omega

theorem cntR_set (A : List Int) (r : Nat) (v : Int) : ∀ i, cntR A (A.set r v) i ≤ if r < i then 1 else 0
  | 0 => by rw [if_neg (by omega)]; exact Nat.le_refl _
  | i + 1 => by
    have ih := cntR_set A r v i
    rw [cntR]
    by_cases h : r = i
    · subst h
      rw [if_neg (Nat.lt_irrefl r)] at ih
      rw [if_pos (Nat.lt_succ_self r)]
      split <;> omega
    · have e : (A.set r v).getD i 0 = A.getD i 0 := by
        rw [List.getD_eq_getElem?_getD, List.getElem?_set_ne h, ← List.getD_eq_getElem?_getD]
      rw [e, if_pos rfl]
      by_cases h2 : r < i
      · rw [if_pos h2] at ih; rw [if_pos (show r < i + 1 by omega)]; omega
      · rw [if_neg h2] at ih; rw [if_neg (show ¬ r < i + 1 by omega)]; omega

theorem cntR_setR (A : List Int) (r v : Int) (i : Nat) : cntR A (setR A r v) i ≤ 1 := by
  unfold setR
  split
  · rw [cntR_self]; omega
  · have := cntR_set A r.toNat v i
    split at this <;> omega

/-- The addresses that a store writes. -/
theorem store_at (M : Int → Int) (a v : Int) : ∀ (n : Nat) (x : Int), M x ≠ storeM M a v n x → x ∈ (List.range n).map fun (k : Nat) => (a + (k : Int)) % 4294967296
  | 0, x, h => absurd rfl h
  | n + 1, x, h => by
    rw [List.range_succ, List.map_append, List.mem_append]
    by_cases hx : x = (a + (n : Int)) % 4294967296
    · exact .inr (by simp [hx])
    · refine .inl (store_at M a v n x fun e => h ?_)
      rw [e]
      show _ = updM (storeM M a v n) ((a + (n : Int)) % 4294967296) _ x
      unfold updM
      rw [if_neg hx]

/-- What a step that goes changes: memory alone, four bytes at most, or one register. -/
theorem stepP_little {s : MSt} (h : stepO s.M s.pc = 0) (A B : List (Int × Int)) (hA : CellsOf s.M A) (hB : CellsOf (stepP s).M B) :
    cntR s.rg (stepP s).rg 32 ≤ 1 ∧ (dk A B).length ≤ 4 ∧ (cntR s.rg (stepP s).rg 32 = 0 ∨ (dk A B).length = 0) := by
  have hs : stepP s = goP s (fetI s.M s.pc) (fetN s.M s.pc) := by unfold stepP; rw [if_pos h]
  rw [hs] at hB ⊢
  obtain ⟨i, hi⟩ : ∃ x, fetI s.M s.pc = x := ⟨_, rfl⟩
  obtain ⟨n, hn⟩ : ∃ x, fetN s.M s.pc = x := ⟨_, rfl⟩
  rw [hi, hn] at hB ⊢
  unfold goP at hB ⊢
  dsimp only at hB ⊢
  by_cases hst : accS i.op = true
  · rw [if_pos hst] at hB ⊢
    have hacc := acc_store hst
    refine ⟨by rw [cntR_self]; omega, ?_, .inl (cntR_self _ _)⟩
    have := dk_few hA hB _ (fun a ha => store_at _ _ _ _ a ha)
    rw [List.length_map, List.length_range] at this
    omega
  · rw [if_neg hst] at hB ⊢
    have h0 : (dk A B).length = 0 := Nat.le_zero.1 (dk_few hA hB [] fun a ha => absurd rfl ha)
    refine ⟨?_, by omega, .inr h0⟩
    split
    · exact cntR_setR _ _ _ _
    · split
      · exact cntR_setR _ _ _ _
      · rw [cntR_self]; omega

theorem stepP_trap {s : MSt} (h : stepO s.M s.pc ≠ 0) : stepP s = s := by unfold stepP; rw [if_neg h]

theorem dk_same {M : Int → Int} {A B : List (Int × Int)} (hA : CellsOf M A) (hB : CellsOf M B) : (dk A B).length = 0 := Nat.le_zero.1 (dk_few hA hB [] fun a ha => absurd rfl ha)

/-- The rounds of the law. -/
theorem dk_eq {A B : List (Int × Int)} {i k : Nat} {x y : Int × Int} (hx : A[i]? = some x) (hy : B[k]? = some y) (he : x.1 = y.1) :
    (dk (A.drop i) (B.drop k)).length = (if x.2 = y.2 then 0 else 1) + (dk (A.drop (i + 1)) (B.drop (k + 1))).length := by
  obtain ⟨h1, e1⟩ := List.getElem?_eq_some_iff.1 hx
  obtain ⟨h2, e2⟩ := List.getElem?_eq_some_iff.1 hy
  rw [List.drop_eq_getElem_cons h1, List.drop_eq_getElem_cons h2, e1, e2, dk, if_pos he]
  split
  · rw [Nat.zero_add]
  · rw [List.length_cons]; omega

theorem dk_lt {A B : List (Int × Int)} {i k : Nat} {x y : Int × Int} (hx : A[i]? = some x) (hy : B[k]? = some y) (he : x.1 < y.1) :
    (dk (A.drop i) (B.drop k)).length = 1 + (dk (A.drop (i + 1)) (B.drop k)).length := by
  obtain ⟨h1, e1⟩ := List.getElem?_eq_some_iff.1 hx
  obtain ⟨h2, e2⟩ := List.getElem?_eq_some_iff.1 hy
  rw [List.drop_eq_getElem_cons h1, List.drop_eq_getElem_cons h2, e1, e2, dk, if_neg (by omega), if_pos he, List.length_cons]
  omega

theorem dk_gt {A B : List (Int × Int)} {i k : Nat} {x y : Int × Int} (hx : A[i]? = some x) (hy : B[k]? = some y) (he : y.1 < x.1) :
    (dk (A.drop i) (B.drop k)).length = 1 + (dk (A.drop i) (B.drop (k + 1))).length := by
  obtain ⟨h1, e1⟩ := List.getElem?_eq_some_iff.1 hx
  obtain ⟨h2, e2⟩ := List.getElem?_eq_some_iff.1 hy
  rw [List.drop_eq_getElem_cons h1, List.drop_eq_getElem_cons h2, e1, e2, dk, if_neg (by omega), if_neg (by omega), List.length_cons]
  omega

theorem dk_left {A B : List (Int × Int)} {i k : Nat} {x : Int × Int} (hx : A[i]? = some x) (hk : B.length ≤ k) :
    (dk (A.drop i) (B.drop k)).length = 1 + (dk (A.drop (i + 1)) (B.drop k)).length := by
  obtain ⟨h1, e1⟩ := List.getElem?_eq_some_iff.1 hx
  rw [List.drop_eq_getElem_cons h1, List.drop_eq_nil_of_le hk, e1, dk, List.length_cons]
  omega

theorem dk_right {A B : List (Int × Int)} {i k : Nat} {y : Int × Int} (hy : B[k]? = some y) (hi : A.length ≤ i) :
    (dk (A.drop i) (B.drop k)).length = 1 + (dk (A.drop i) (B.drop (k + 1))).length := by
  obtain ⟨h1, e1⟩ := List.getElem?_eq_some_iff.1 hy
  rw [List.drop_eq_nil_of_le hi, List.drop_eq_getElem_cons h1, e1, dk, List.length_cons]
  omega

theorem dk_end {A B : List (Int × Int)} {i k : Nat} (hi : A.length ≤ i) (hk : B.length ≤ k) : (dk (A.drop i) (B.drop k)).length = 0 := by
  rw [List.drop_eq_nil_of_le hi, List.drop_eq_nil_of_le hk, dk]
  rfl

end Go.Proofs.YtndpgakjpokllaaGreat

