/- Slices of tokens, and of lines of tokens, in memory; faults. -/
import Derived.Test.YtbkgdepblaibkaaDoorBlk
import Derived.Test.YtbkgdepblaibkaaDoorOwnc
import Derived.Deep.MidRow
import Derived.Deep.RegionHeld
namespace Go.Proofs.YtbkgdepblaibkaaDoor
open Go.RowKit
set_option linter.unusedVariables false
set_option linter.unusedSimpArgs false

/-- A text, by its bytes. -/
abbrev B (l : List UInt8) : ByteArray := ⟨l.toArray⟩

/-- A token's cells. -/
abbrev tokC (t : Tok) : List Value := [.int .i64 t.kind, .int .i64 t.line, .int .i64 t.col, .string (B t.text), .int .u32 t.num, .int .i64 t.scope]

abbrev tokV (t : Tok) : Value := .agg #[.int .i64 t.kind, .int .i64 t.line, .int .i64 t.col, .string (B t.text), .int .u32 t.num, .int .i64 t.scope]

/-- Tokens from a place on. -/
def TokAt (w : World) (g o : Nat) (l : List Tok) : Prop := ∀ (k : Nat) (t : Tok), l[k]? = some t → w.rangeAt g (o + k * 6) (tokC t)

theorem TokAt.nx {w w' : World} {g o : Nat} {l : List Tok} (h : TokAt w g o l) (hn : Nx w w') : TokAt w' g o l := fun k t hk j v hv => hn.cell (h k t hk j v hv)

/-- The slice v holds these tokens. -/
def Toks (w : World) (v : Value) (l : List Tok) : Prop :=
  ((∃ A, v = .slice A 0 0) ∧ l = []) ∨ ∃ g o c, v = .slice (some ⟨g, o, none⟩) l.length c ∧ l.length ≤ c ∧ c ≤ maxLen ∧ TokAt w g o l

theorem Toks.nx {w w' : World} {v : Value} {l : List Tok} (h : Toks w v l) (hn : Nx w w') : Toks w' v l := by
  rcases h with h | ⟨g, o, c, h1, h2, h3, h4⟩
  · exact Or.inl h
  · exact Or.inr ⟨g, o, c, h1, h2, h3, h4.nx hn⟩

theorem Toks.nil (w : World) : Toks w (.slice none 0 0) [] := Or.inl ⟨⟨none, rfl⟩, rfl⟩

/-- In whatever form: its head, its length, its cells. -/
theorem Toks.form {w : World} {v : Value} {l : List Tok} (h : Toks w v l) : ∃ A c, v = .slice A l.length c ∧ l.length ≤ c ∧ c ≤ maxLen ∧ ((True ∧ l = [] ∧ c = 0) ∨ ∃ g o, A = some ⟨g, o, none⟩ ∧ TokAt w g o l) := by
  rcases h with ⟨⟨A, rfl⟩, rfl⟩ | ⟨g, o, c, h1, h2, h3, h4⟩
  · exact ⟨A, 0, rfl, Nat.le_refl _, Nat.zero_le _, Or.inl ⟨trivial, rfl, rfl⟩⟩
  · exact ⟨_, c, h1, h2, h3, Or.inr ⟨g, o, rfl, h4⟩⟩

/-- Lines from a place on: each cell a slice of tokens. -/
def LinAt (w : World) (g o : Nat) (ls : List (List Tok)) : Prop := ∀ (k : Nat) (l : List Tok), ls[k]? = some l → ∃ u, w.cell? ⟨g, o + k, none⟩ = some u ∧ Toks w u l

theorem LinAt.nx {w w' : World} {g o : Nat} {ls : List (List Tok)} (h : LinAt w g o ls) (hn : Nx w w') : LinAt w' g o ls := fun k l hk => by
  obtain ⟨u, h1, h2⟩ := h k l hk
  exact ⟨u, hn.cell h1, h2.nx hn⟩

/-- The slice v holds these lines. -/
def Lins (w : World) (v : Value) (ls : List (List Tok)) : Prop :=
  ((∃ A, v = .slice A 0 0) ∧ ls = []) ∨ ∃ g o c, v = .slice (some ⟨g, o, none⟩) ls.length c ∧ ls.length ≤ c ∧ c ≤ maxLen ∧ LinAt w g o ls

theorem Lins.nx {w w' : World} {v : Value} {ls : List (List Tok)} (h : Lins w v ls) (hn : Nx w w') : Lins w' v ls := by
  rcases h with h | ⟨g, o, c, h1, h2, h3, h4⟩
  · exact Or.inl h
  · exact Or.inr ⟨g, o, c, h1, h2, h3, h4.nx hn⟩

theorem Lins.form {w : World} {v : Value} {ls : List (List Tok)} (h : Lins w v ls) : ∃ A c, v = .slice A ls.length c ∧ ls.length ≤ c ∧ c ≤ maxLen ∧ ((True ∧ ls = [] ∧ c = 0) ∨ ∃ g o, A = some ⟨g, o, none⟩ ∧ LinAt w g o ls) := by
  rcases h with ⟨⟨A, rfl⟩, rfl⟩ | ⟨g, o, c, h1, h2, h3, h4⟩
  · exact ⟨A, 0, rfl, Nat.le_refl _, Nat.zero_le _, Or.inl ⟨trivial, rfl, rfl⟩⟩
  · exact ⟨_, c, h1, h2, h3, Or.inr ⟨g, o, rfl, h4⟩⟩

/-- A fault behind an error: its place, and its code. -/
def FaultIs (w : World) (v : Value) (line col code : Int) : Prop :=
  ∃ g o, v = .iface 77 (.pointer (some ⟨g, o, none⟩)) ∧ w.cell? ⟨g, o, none⟩ = some (.int .i64 line) ∧ w.cell? ⟨g, o + 1, none⟩ = some (.int .i64 col) ∧ w.cell? ⟨g, o + 2, none⟩ = some (.iface 83 (.int .i64 code))

theorem FaultIs.nx {w w' : World} {v : Value} {a b c : Int} (h : FaultIs w v a b c) (hn : Nx w w') : FaultIs w' v a b c := by
  obtain ⟨g, o, h1, h2, h3, h4⟩ := h
  exact ⟨g, o, h1, hn.cell h2, hn.cell h3, hn.cell h4⟩

theorem FaultIs.new (w : World) (a b c : Int) (T : TypeId) : FaultIs (w.alloc (.cells #[.int .i64 a, .int .i64 b, .iface 83 (.int .i64 c)] T)) (.iface 77 (.pointer (some ⟨w.heap.size, 0, none⟩))) a b c :=
  ⟨w.heap.size, 0, rfl, by simp, by simp, by simp⟩

theorem set_cell {a W2 : World} {t p : Addr} (hn : Nx a W2) (hp : p.block < a.heap.size) (hne : t.block ≠ p.block) (u : Value) : (W2.setCell t u).cell? p = a.cell? p :=
  (World.cell?_setCell_far W2 t p u hne).trans (Below.cell hn hp)

theorem set_free {a W2 : World} {t p : Addr} (hn : Nx a W2) (hp : p.block < a.heap.size) (u : Value) : (W2.setCell t u).frozen? p = a.frozen? p := by
  rw [World.frozen?_setCell]
  exact Below.frozen hn hp

theorem set_same {a W2 : World} {t : Addr} {v : Value} (hn : Nx a W2) (h : a.cell? t = some v) (u : Value) : (W2.setCell t u).cell? t = some u :=
  World.cell?_setCell_same _ _ _ (hn.cell h)

theorem set_nx {a W2 : World} {t : Addr} (hn : Nx a W2) {b : World} (hb : Nx b a) (ht : b.heap.size ≤ t.block) (u : Value) : Nx b (W2.setCell t u) := (hb.trans hn).setCell ht u

end Go.Proofs.YtbkgdepblaibkaaDoor
