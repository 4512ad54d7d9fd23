/- LexParts: lines' values; places of tokens. -/
import Derived.Test.YtbkgdepblaibkaaDoorLawla
import Derived.Test.YtbkgdepblaibkaaDoorLxn
namespace Go.Proofs.YtbkgdepblaibkaaDoor
open Go.RowKit
set_option linter.unusedVariables false
set_option linter.unusedSimpArgs false

/-- The lines' values. -/
theorem linsv_cells {w : World} {v : Value} {ls : List (List Tok)} (h : Lins w v ls) : ∃ (A : Option Addr) (c : Nat) (us : List Value), v = .slice A ls.length c ∧ ls.length ≤ c ∧ c ≤ maxLen ∧ us.length = ls.length ∧ (∀ (k : Nat) (u : Value) (l : List Tok), us[k]? = some u → ls[k]? = some l → Toks w u l) ∧
    ((A = none ∧ ls.length = 0 ∧ c = 0) ∨ ∃ ad, A = some ad ∧ (0 < ls.length → ad.spot = none) ∧ ∀ (j : Nat) (u : Value), us[j]? = some u → w.cell? (ad.add j) = some u) := by
  rcases h with ⟨⟨A, rfl⟩, rfl⟩ | ⟨g, o, c, rfl, h2, h3, h4⟩
  · refine ⟨A, 0, [], rfl, Nat.le_refl _, Nat.zero_le _, rfl, fun k u l hu => (by cases hu), ?_⟩
    cases A with
    | none => exact Or.inl ⟨rfl, rfl, rfl⟩
    | some a => exact Or.inr ⟨a, rfl, fun h => absurd h (by simp), fun j u hu => by cases hu⟩
  · have each : ∀ k, k < ls.length → ∃ u, w.cell? ⟨g, o + k, none⟩ = some u ∧ ∀ l, ls[k]? = some l → Toks w u l := by
      intro k hk
      obtain ⟨u, hu, ht⟩ := h4 k _ (List.getElem?_eq_getElem hk)
      refine ⟨u, hu, fun l hl => ?_⟩
      rw [List.getElem?_eq_getElem hk] at hl
      injection hl with hl
      subst hl
      exact ht
    obtain ⟨us, hlen, hp⟩ := list_of each
    refine ⟨_, c, us, rfl, h2, h3, hlen, fun k u l hu hl => (hp k u hu).2 l hl, Or.inr ⟨_, rfl, fun _ => rfl, fun j u hu => ?_⟩⟩
    rw [add_flat]
    exact (hp j u hu).1

theorem toksv_one {w : World} {u : Value} {l : List Tok} (h : Toks w u l) : u.oneCell' = true := by
  obtain ⟨A, c, rfl, _⟩ := h.form
  rfl

theorem ownv_lins {w : World} {base : Nat} {v : Value} {ls : List (List Tok)} {us : List Value} (h : OwnC w base 37 1 v ls.length us) (ht : ∀ (k : Nat) (u : Value) (l : List Tok), us[k]? = some u → ls[k]? = some l → Toks w u l) : Lins w v ls := by
  have hlen : us.length = ls.length := by have := h.1; omega
  rcases h.2 with ⟨hv, h0⟩ | ⟨g, cap, cur, hv, hb, hg, h3, h4, h5, h6⟩
  · exact Or.inl ⟨⟨none, by rw [hv]⟩, List.eq_nil_of_length_eq_zero h0⟩
  · refine Or.inr ⟨g, 0, cap, hv, h3, h4, fun k l hk => ?_⟩
    have hlt := (List.getElem?_eq_some_iff.1 hk).1
    have hu : us[k]? = some (us[k]'(by omega)) := List.getElem?_eq_getElem (by omega)
    refine ⟨_, ?_, ht k _ l hu hk⟩
    rw [Nat.zero_add]
    exact h.cells (g := g) (by rw [hv]; rfl) k _ hu

theorem jointv_toks {w : World} {ls ms : List (List Tok)} {us xs : List Value} (hu : us.length = ls.length) (h1 : ∀ (k : Nat) (u : Value) (l : List Tok), us[k]? = some u → ls[k]? = some l → Toks w u l) (h2 : ∀ (k : Nat) (u : Value) (l : List Tok), xs[k]? = some u → ms[k]? = some l → Toks w u l) :
    ∀ (k : Nat) (u : Value) (l : List Tok), (us ++ xs)[k]? = some u → (ls ++ ms)[k]? = some l → Toks w u l := by
  intro k u l hk hl
  rw [List.getElem?_append] at hk hl
  by_cases h : k < ls.length
  · rw [if_pos (by omega)] at hk
    rw [if_pos h] at hl
    exact h1 k u l hk hl
  · rw [if_neg (by omega)] at hk
    rw [if_neg h] at hl
    rw [hu] at hk
    exact h2 _ u l hk hl

/-- Lines in memory of the call's own, whose elements lie elsewhere. -/
def OwnM (w : World) (base : Nat) (v : Value) (ls : List (List Tok)) : Prop :=
  ∃ us, OwnC w base 37 1 v ls.length us ∧ ∀ (k : Nat) (u : Value) (l : List Tok), us[k]? = some u → ls[k]? = some l → Toks w u l ∧ (0 < l.length → ∀ g, u.ownBlock = some g → g < w.heap.size ∧ v.ownBlock ≠ some g)

theorem OwnM.parts {w : World} {base : Nat} {v : Value} {ls : List (List Tok)} (h : OwnM w base v ls) :
    ∃ us, OwnC w base 37 1 v ls.length us ∧ us.length = ls.length ∧ ∀ (k : Nat) (u : Value) (l : List Tok), us[k]? = some u → ls[k]? = some l → Toks w u l ∧ (0 < l.length → ∀ g, u.ownBlock = some g → g < w.heap.size ∧ v.ownBlock ≠ some g) := by
  obtain ⟨us, h1, h2⟩ := h
  exact ⟨us, h1, by have := h1.1; omega, h2⟩

theorem OwnM.form {w : World} {base : Nat} {v : Value} {ls : List (List Tok)} (h : OwnM w base v ls) : ∃ A c, v = .slice A ls.length c := by
  obtain ⟨us, h1, _⟩ := h
  rcases h1.2 with ⟨hv, h0⟩ | ⟨g, cap, cur, hv, _⟩
  · exact ⟨none, 0, by rw [hv, h0]⟩
  · exact ⟨_, _, hv⟩

theorem OwnM.lt {w : World} {base : Nat} {v : Value} {ls : List (List Tok)} (h : OwnM w base v ls) : ∀ k, v.ownBlock = some k → base ≤ k ∧ k < w.heap.size := by
  obtain ⟨us, h1, _⟩ := h
  exact h1.lt

theorem OwnM.nx {w w' : World} {base : Nat} {v : Value} {ls : List (List Tok)} (h : OwnM w base v ls) (hn : Nx w w') : OwnM w' base v ls := by
  obtain ⟨us, h1, h2⟩ := h
  refine ⟨us, h1.nx hn, fun k u l hu hl => ?_⟩
  obtain ⟨h3, h4⟩ := h2 k u l hu hl
  exact ⟨h3.nx hn, fun h0 g hg => ⟨Nat.lt_of_lt_of_le (h4 h0 g hg).1 hn.size, (h4 h0 g hg).2⟩⟩

theorem OwnM.lins {w : World} {base : Nat} {v : Value} {ls : List (List Tok)} (h : OwnM w base v ls) : Lins w v ls := by
  obtain ⟨us, h1, h2⟩ := h
  exact ownv_lins h1 fun k u l hu hl => (h2 k u l hu hl).1

/-- No tokens: in whatever world. -/
theorem toks_zero {w w' : World} {u : Value} {l : List Tok} (h : Toks w u l) (h0 : l.length = 0) : Toks w' u l := by
  rcases h with h | ⟨g, o, c, h1, h2, h3, h4⟩
  · exact Or.inl h
  · exact Or.inr ⟨g, o, c, h1, h2, h3, fun k t hk => by have := (List.getElem?_eq_some_iff.1 hk).1; omega⟩

theorem OwnM.push {w w' : World} {base : Nat} {v v' u : Value} {ls : List (List Tok)} {l : List Tok} {us : List Value} (hlen : us.length = ls.length)
    (h2 : ∀ (k : Nat) (u : Value) (l : List Tok), us[k]? = some u → ls[k]? = some l → Toks w u l ∧ (0 < l.length → ∀ g, u.ownBlock = some g → g < w.heap.size ∧ v.ownBlock ≠ some g))
    (ht : Toks w u l) (hu : 0 < l.length → ∀ g, u.ownBlock = some g → g < w.heap.size ∧ v.ownBlock ≠ some g)
    (hg : w.grownBy w' v.ownBlock) (hv : v'.ownBlock = v.ownBlock ∨ v'.ownBlock = some w.heap.size) (hown : OwnC w' base 37 1 v' (ls.length + 1) (us ++ [u])) : OwnM w' base v' (ls ++ [l]) := by
  have one : ∀ (x : Value) (y : List Tok), Toks w x y → (0 < y.length → ∀ g, x.ownBlock = some g → g < w.heap.size ∧ v.ownBlock ≠ some g) → Toks w' x y ∧ (0 < y.length → ∀ g, x.ownBlock = some g → g < w'.heap.size ∧ v'.ownBlock ≠ some g) := by
    intro x y hx hb0
    rcases Nat.eq_zero_or_pos y.length with h0 | h0
    · exact ⟨toks_zero hx h0, fun h => by omega⟩
    · have hb := hb0 h0
      refine ⟨toks_block hx fun g hgx => hg.block g (hb g hgx).1 (fun e => (hb g hgx).2 e.symm), fun _ g hgx => ⟨Nat.lt_of_lt_of_le (hb g hgx).1 hg.size, ?_⟩⟩
      rcases hv with e | e
      · rw [e]; exact (hb g hgx).2
      · rw [e]; intro e2
        have := (hb g hgx).1
        injection e2 with e2
        omega
  refine ⟨us ++ [u], by simp only [List.length_append, List.length_singleton]; exact hown, fun k x y hx hy => ?_⟩
  rw [List.getElem?_append] at hx hy
  by_cases hk : k < ls.length
  · rw [if_pos (by omega)] at hx
    rw [if_pos hk] at hy
    obtain ⟨h3, h4⟩ := h2 k x y hx hy
    exact one x y h3 h4
  · rw [if_neg (by omega)] at hx
    rw [if_neg hk] at hy
    have hk0 : k - ls.length = 0 := by
      have := (List.getElem?_eq_some_iff.1 hy).1
      simpa using this
    rw [hlen, hk0] at hx
    rw [hk0] at hy
    simp at hx hy
    subst hx hy
    exact one _ _ ht hu

/-- A token's block is within the heap. -/
theorem toks_lt {w : World} {u : Value} {l : List Tok} (h : Toks w u l) (hl : 0 < l.length) : ∀ g, u.ownBlock = some g → g < w.heap.size := by
  intro g hg
  rcases h with ⟨_, rfl⟩ | ⟨b, o, c, rfl, h1, h2, h3⟩
  · simp at hl
  · simp [Value.ownBlock] at hg
    subst hg
    obtain ⟨t, ht⟩ : ∃ t, l[0]? = some t := ⟨_, List.getElem?_eq_getElem hl⟩
    exact block_lt (h3 0 t ht 0 _ rfl)

theorem linesR_line (p : List (List UInt8)) : ∀ (n : Nat) (ls : List (List Tok)), linesR n p = .ok ls → ∀ (k : Nat) (ts : List Tok), ls[k]? = some ts → ∃ s, lineT ((n + k : Nat) : Int) 0 s = .ok ts := by
  induction p with
  | nil => intro n ls h k ts hk; rw [linesR] at h; cases h; cases hk
  | cons s r ih =>
    intro n ls h k ts hk
    rw [linesR_cons] at h
    cases h1 : lineT (n : Int) 0 s with
    | bad x y z => rw [h1] at h; cases h
    | ok t1 =>
      rw [h1] at h
      cases h2 : linesR (n + 1) r with
      | bad x y z => rw [h2] at h; cases h
      | ok lr =>
        rw [h2] at h
        have h3 : [t1] ++ lr = ls := LRes.ok.inj (show LRes.ok ([t1] ++ lr) = LRes.ok ls from h)
        subst h3
        cases k with
        | zero => cases hk; exact ⟨s, h1⟩
        | succ k =>
          obtain ⟨s2, h4⟩ := ih (n + 1) lr h2 k ts hk
          exact ⟨s2, by rw [show n + (k + 1) = n + 1 + k by omega]; exact h4⟩

theorem okL_line (n : Int) (s : List UInt8) (ts : List Tok) : ∀ (last k : Nat) (t : Tok), okL n s last ts → ts[k]? = some t → t.line = n := by
  induction ts with
  | nil => intro last k t _ h; cases h
  | cons a ts ih =>
    intro last k t h hk
    obtain ⟨c, h1, _, _, _, _, h6⟩ := h
    cases k with
    | zero => cases hk; exact h1
    | succ k => exact ih c k t h6 hk

theorem splitL_len (s : List UInt8) : (splitL s).length ≤ s.length + 1 := by
  induction s with
  | nil => exact Nat.le_refl _
  | cons c s ih =>
    rw [splitL]
    split
    · simp only [List.length_cons]; omega
    · cases h : splitL s with
      | nil => simp
      | cons a r => rw [h] at ih; simp only [List.length_cons] at ih ⊢; omega

/-- Each token's line is its line's number. -/
theorem src_tok_line (b : List UInt8) (hb : b.length ≤ 65536) (ls : List (List Tok)) (h : srcR b = .ok ls) (k : Nat) (ts : List Tok) (hk : ls[k]? = some ts) (j : Nat) (t : Tok) (hj : ts[j]? = some t) : t.line = ((1 + k : Nat) : Int) := by
  have h1 : linesR 1 (splitL b) = .ok ls := by rw [← h]; unfold srcR; rw [if_neg (by omega)]
  obtain ⟨s, h2⟩ := linesR_line _ 1 ls h1 k ts hk
  exact okL_line _ _ _ _ _ _ (lineT_okL _ _ _ h2) hj

theorem src_len (b : List UInt8) (hb : b.length ≤ 65536) (ls : List (List Tok)) (h : srcR b = .ok ls) : ls.length ≤ b.length + 1 := by
  have h1 : linesR 1 (splitL b) = .ok ls := by rw [← h]; unfold srcR; rw [if_neg (by omega)]
  rw [linesR_len _ _ _ h1]
  exact splitL_len b

theorem lineR_bad (n : Int) : ∀ (f i : Nat) (s : List UInt8) (x y z : Int), lineR n f i s = .bad x y z → x = n := by
  intro f
  induction f with
  | zero => intro i s x y z h; rw [lineR] at h; cases h
  | succ f ih =>
    intro i s x y z h
    unfold lineR at h
    split at h
    · cases h
    · split at h
      · exact ih _ _ _ _ _ h
      · split at h
        · cases h
        · split at h
          · cases h; rfl
          · split at h
            · rename_i h1
              cases h
              exact ih _ _ _ _ _ h1
            · cases h

theorem linesR_bad (p : List (List UInt8)) : ∀ (n : Nat) (x y z : Int), linesR n p = .bad x y z → (n : Int) ≤ x ∧ x ≤ ((n + p.length : Nat) : Int) := by
  induction p with
  | nil => intro n x y z h; rw [linesR] at h; cases h
  | cons s r ih =>
    intro n x y z h
    unfold linesR at h
    split at h
    · rename_i h1
      cases h
      have := lineR_bad _ _ _ _ _ _ _ h1
      simp only [List.length_cons]; omega
    · split at h
      · rename_i h2
        cases h
        have := ih (n + 1) _ _ _ h2
        simp only [List.length_cons]; omega
      · cases h

theorem src_bad (b : List UInt8) (hb : b.length ≤ 65536) (x y z : Int) (h : srcR b = .bad x y z) : 1 ≤ x ∧ x ≤ ((b.length + 2 : Nat) : Int) := by
  have h1 : linesR 1 (splitL b) = .bad x y z := by rw [← h]; unfold srcR; rw [if_neg (by omega)]
  have h2 := linesR_bad _ _ _ _ _ h1
  have h3 := splitL_len b
  omega

end Go.Proofs.YtbkgdepblaibkaaDoor
