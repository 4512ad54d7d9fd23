/- Contracts of package block, and of typecaseref13: a line's kind, its labels. -/
import Derived.Test.YtbkgdepblaibkaaDoorFau
namespace Go.Proofs.YtbkgdepblaibkaaDoor
open Go.RowKit
set_option linter.unusedVariables false
set_option linter.unusedSimpArgs false

theorem TokAt.at_ {w : World} {g o : Nat} {l : List Tok} (h : TokAt w g o l) (k : Nat) (t : Tok) (hk : l[k]? = some t) :
    w.cell? ⟨g, o + k * 6, none⟩ = some (.int .i64 t.kind) ∧ w.cell? ⟨g, o + k * 6 + 1, none⟩ = some (.int .i64 t.line) ∧ w.cell? ⟨g, o + k * 6 + 2, none⟩ = some (.int .i64 t.col) ∧ w.cell? ⟨g, o + k * 6 + 3, none⟩ = some (.string (B t.text)) ∧ w.cell? ⟨g, o + k * 6 + 4, none⟩ = some (.int .u32 t.num) ∧ w.cell? ⟨g, o + k * 6 + 5, none⟩ = some (.int .i64 t.scope) :=
  ⟨h k t hk 0 _ rfl, h k t hk 1 _ rfl, h k t hk 2 _ rfl, h k t hk 3 _ rfl, h k t hk 4 _ rfl, h k t hk 5 _ rfl⟩

theorem TokAt.head {w : World} {g o : Nat} {t : Tok} {l : List Tok} (h : TokAt w g o (t :: l)) :
    w.cell? ⟨g, o, none⟩ = some (.int .i64 t.kind) ∧ w.cell? ⟨g, o + 1, none⟩ = some (.int .i64 t.line) ∧ w.cell? ⟨g, o + 2, none⟩ = some (.int .i64 t.col) ∧ w.cell? ⟨g, o + 3, none⟩ = some (.string (B t.text)) ∧ w.cell? ⟨g, o + 4, none⟩ = some (.int .u32 t.num) ∧ w.cell? ⟨g, o + 5, none⟩ = some (.int .i64 t.scope) := by
  have := h.at_ 0 t rfl
  simpa using this

theorem ret_i64' {a b : Int} (h : a = b) : Ending.returned (.int .i64 a) = .returned (.int .i64 b) := by rw [h]

set_option maxHeartbeats 2000000 in
theorem kindOf_any (v : Value) (l : List Tok) (w : World) (hT : Toks w v l) : Calls Tryd.prog 22 #[v] w fun e w' => e = .returned (.int .i64 (kindP l : Nat)) ∧ w = w' := by
  obtain ⟨A, c, rfl, hc1, hc2, hA⟩ := hT.form
  clear hT
  cases l with
  | nil =>
    clear hA
    simp only [List.length_nil]
    go_enter Tryd.func22, Tryd.ntmps22
    go_wp2
    go_ret
    exact ⟨rfl, rfl⟩
  | cons t l =>
    obtain ⟨g, o, rfl, hT⟩ : ∃ g o, A = some ⟨g, o, none⟩ ∧ TokAt w g o (t :: l) := by
      rcases hA with ⟨_, h, _⟩ | h
      · cases h
      · exact h
    clear hA
    obtain ⟨c0, c1, c2, c3, c4, c5⟩ := hT.head
    clear hT c1 c2 c4 c5
    obtain ⟨kd, ln, cl, tx, nm, sc⟩ := t
    dsimp only at c0 c3
    unfold maxLen at hc2
    obtain ⟨n, hn⟩ : ∃ n, n = (⟨kd, ln, cl, tx, nm, sc⟩ :: l : List Tok).length := ⟨_, rfl⟩
    have hn0 : 0 < n := by rw [hn]; simp
    rw [← hn] at hc1 ⊢
    clear hn
    have hz : ((n : Int) == 0) = false := by simp; omega
    by_cases hk : kd = 1
    · subst hk
      by_cases h1 : tx = [46, 109, 97, 99, 114, 111]
      · subst h1
        go_enter Tryd.func22, Tryd.ntmps22
        go_wp2
        go_ret
        exact ⟨rfl, rfl⟩
      have t1 : (tx == [46, 109, 97, 99, 114, 111]) = false := by simpa using h1
      by_cases h2 : tx = [46, 101, 110, 100, 109]
      · subst h2
        go_enter Tryd.func22, Tryd.ntmps22
        go_wp2
        go_ret
        exact ⟨rfl, rfl⟩
      have t2 : (tx == [46, 101, 110, 100, 109]) = false := by simpa using h2
      by_cases h3 : tx = [46, 114, 101, 112, 116]
      · subst h3
        go_enter Tryd.func22, Tryd.ntmps22
        go_wp2
        go_ret
        exact ⟨rfl, rfl⟩
      have t3 : (tx == [46, 114, 101, 112, 116]) = false := by simpa using h3
      by_cases h4 : tx = [46, 101, 110, 100, 114]
      · subst h4
        go_enter Tryd.func22, Tryd.ntmps22
        go_wp2
        go_ret
        exact ⟨rfl, rfl⟩
      have t4 : (tx == [46, 101, 110, 100, 114]) = false := by simpa using h4
      by_cases h5 : tx = [46, 105, 102]
      · subst h5
        go_enter Tryd.func22, Tryd.ntmps22
        go_wp2
        go_ret
        exact ⟨rfl, rfl⟩
      have t5 : (tx == [46, 105, 102]) = false := by simpa using h5
      by_cases h6 : tx = [46, 101, 108, 115, 101]
      · subst h6
        go_enter Tryd.func22, Tryd.ntmps22
        go_wp2
        go_ret
        exact ⟨rfl, rfl⟩
      have t6 : (tx == [46, 101, 108, 115, 101]) = false := by simpa using h6
      by_cases h7 : tx = [46, 101, 110, 100, 105, 102]
      · subst h7
        go_enter Tryd.func22, Tryd.ntmps22
        go_wp2
        go_ret
        exact ⟨rfl, rfl⟩
      have t7 : (tx == [46, 101, 110, 100, 105, 102]) = false := by simpa using h7
      have HK := Lib.hid (show kindP (⟨1, ln, cl, tx, nm, sc⟩ :: l) = 0 by show (if (1 : Int) = 1 then kwN tx else 0) = 0; rw [if_pos rfl]; unfold kwN; rw [if_neg h1, if_neg h2, if_neg h3, if_neg h4, if_neg h5, if_neg h6, if_neg h7])
      clear h1 h2 h3 h4 h5 h6 h7
      go_enter Tryd.func22, Tryd.ntmps22
      go_wp2
      go_ret
      exact ⟨ret_i64' (by rw [HK.out]; rfl), rfl⟩
    · have hq : (kd == 1) = false := by simpa using hk
      have hq2 : (kd != 1) = true := by simpa using hk
      have HK := Lib.hid (show kindP (⟨kd, ln, cl, tx, nm, sc⟩ :: l) = 0 by show (if kd = 1 then kwN tx else 0) = 0; rw [if_neg hk])
      clear hk
      go_enter Tryd.func22, Tryd.ntmps22
      go_wp2
      go_ret
      exact ⟨ret_i64' (by rw [HK.out]; rfl), rfl⟩

theorem closes_any (k : Nat) (w : World) (hk : k ≤ 7) : Calls Tryd.prog 60 #[.int .i64 k] w fun e w' => e = .returned (.int .i64 (ofN k : Nat)) ∧ w = w' := by
  rcases (by omega : k = 0 ∨ k = 1 ∨ k = 2 ∨ k = 3 ∨ k = 4 ∨ k = 5 ∨ k = 6 ∨ k = 7) with rfl | rfl | rfl | rfl | rfl | rfl | rfl | rfl
  all_goals
    go_enter Tryd.func60, Tryd.ntmps60
    go_wp2
    go_ret
    exact ⟨rfl, rfl⟩

theorem begins_any (k : Nat) (w : World) (hk : k ≤ 7) : Calls Tryd.prog 59 #[.int .i64 k] w fun e w' => e = .returned (.bool (begB k)) ∧ w = w' := by
  rcases (by omega : k = 0 ∨ k = 1 ∨ k = 2 ∨ k = 3 ∨ k = 4 ∨ k = 5 ∨ k = 6 ∨ k = 7) with rfl | rfl | rfl | rfl | rfl | rfl | rfl | rfl
  all_goals
    go_enter Tryd.func59, Tryd.ntmps59
    go_wp2
    go_ret
    exact ⟨rfl, rfl⟩

/-- An error at a line's first token. -/
def RetErr (r : BRes) (w : World) (e : Ending) (w' : World) : Prop := ∃ v l c, e = .returned v ∧ r = .bad l c ∧ FaultIs w' v l c 15 ∧ Nx w w'

set_option maxHeartbeats 1000000 in
theorem open_nil (w : World) : Calls Tryd.prog 58 #[.slice none 0 0] w (RetErr (.bad 0 0) w) := by
  go_enter Tryd.func58, Tryd.ntmps58
  go_wp2
  go_ret
  exact ⟨_, 0, 0, rfl, rfl, FaultIs.new _ _ _ _ _, (Nx.refl w).alloc _⟩

set_option maxHeartbeats 1000000 in
theorem open_any (v : Value) (l : List Tok) (w : World) (hT : Toks w v l) : Calls Tryd.prog 58 #[v] w (RetErr (badAt l) w) := by
  obtain ⟨A, c, rfl, hc1, hc2, hA⟩ := hT.form
  clear hT
  cases l with
  | nil =>
    clear hA
    simp only [List.length_nil]
    go_enter Tryd.func58, Tryd.ntmps58
    go_wp2
    go_ret
    exact ⟨_, 0, 0, rfl, rfl, FaultIs.new _ _ _ _ _, (Nx.refl w).alloc _⟩
  | cons t l =>
    obtain ⟨g, o, rfl, hT⟩ : ∃ g o, A = some ⟨g, o, none⟩ ∧ TokAt w g o (t :: l) := by
      rcases hA with ⟨_, h, _⟩ | h
      · cases h
      · exact h
    clear hA
    obtain ⟨c0, c1, c2, c3, c4, c5⟩ := hT.head
    clear hT c0 c3 c4 c5
    unfold maxLen at hc2
    obtain ⟨n, hn⟩ : ∃ n, n = (t :: l).length := ⟨_, rfl⟩
    have hn0 : 0 < n := by rw [hn]; simp
    rw [← hn] at hc1 ⊢
    clear hn
    have hz : ((n : Int) == 0) = false := by simp; omega
    go_enter Tryd.func58, Tryd.ntmps58
    go_wp2
    go_region
    all_goals go_wp2
    all_goals go_ret
    all_goals exact ⟨_, _, _, rfl, rfl, FaultIs.new _ _ _ _ _, ((Nx.refl w).drew).alloc _⟩

end Go.Proofs.YtbkgdepblaibkaaDoor
