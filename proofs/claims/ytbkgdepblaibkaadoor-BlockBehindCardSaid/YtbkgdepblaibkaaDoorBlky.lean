/- Contracts of typecaseref13: Kind, At. -/
import Derived.Test.YtbkgdepblaibkaaDoorBlkw
namespace Go.Proofs.YtbkgdepblaibkaaDoor
open Go.RowKit
set_option linter.unusedVariables false
set_option linter.unusedSimpArgs false

/-- The block g holds these texts, one a cell. -/
def Strs (w : World) (g : Nat) (l : List (List UInt8)) : Prop := ∀ j s, l[j]? = some s → w.cell? ⟨g, j, none⟩ = some (.string (B s))

theorem Strs.keep {w w' : World} {g : Nat} {l : List (List UInt8)} (h : Strs w g l) (hn : Nx w w') : Strs w' g l := fun j s hs => hn.cell (h j s hs)

theorem Strs.new (w : World) (l : List (List UInt8)) (T : TypeId) : Strs (w.alloc (.cells (l.map fun s => Value.string (B s)).toArray T)) w.heap.size l := by
  intro j s hs
  have : ((l.map fun s => Value.string (B s)).toArray)[j]? = some (.string (B s)) := by simp [hs]
  simpa using this

def kwL : List (List UInt8) := [[], [46, 109, 97, 99, 114, 111], [46, 101, 110, 100, 109], [46, 114, 101, 112, 116], [46, 101, 110, 100, 114], [46, 105, 102], [46, 101, 108, 115, 101], [46, 101, 110, 100, 105, 102]]

theorem kw_at : ∀ j, j < 8 → 1 ≤ j → kwN (kwL.getD j []) = j := by decide

theorem kw_no (s : List UInt8) (h : ∀ j, 1 ≤ j → j < 8 → ¬ s = kwL.getD j []) : kwN s = 0 := by
  have h1 := h 1 (by omega) (by omega)
  have h2 := h 2 (by omega) (by omega)
  have h3 := h 3 (by omega) (by omega)
  have h4 := h 4 (by omega) (by omega)
  have h5 := h 5 (by omega) (by omega)
  have h6 := h 6 (by omega) (by omega)
  have h7 := h 7 (by omega) (by omega)
  simp [kwL] at h1 h2 h3 h4 h5 h6 h7
  unfold kwN
  simp [h1, h2, h3, h4, h5, h6, h7]

theorem kw_some (j : Nat) (h : j < 8) : kwL[j]? = some (kwL.getD j []) := by
  have h' : j < kwL.length := h
  rw [List.getElem?_eq_getElem h', List.getD_eq_getElem?_getD, List.getElem?_eq_getElem h']; rfl

set_option maxHeartbeats 2000000 in
theorem kindR_not (v : Value) (l : List Tok) (w : World) (hT : Toks w v l) (h : l = [] ∨ ∃ t r, l = t :: r ∧ ¬ t.kind = 1) : Calls Tryd.prog 23 #[v] w fun e w' => e = .returned (.int .i64 0) ∧ Nx w w' := by
  obtain ⟨A, c, rfl, hc1, hc2, hA⟩ := hT.form
  clear hT
  unfold maxLen at hc2
  rcases h with rfl | ⟨t, r, rfl, hk⟩
  · clear hA
    simp only [List.length_nil]
    go_enter Tryd.func23, Tryd.ntmps23
    go_wp2
    go_loopw [4] (fun i wr => ∃ j : Nat, 1 ≤ j ∧ j ≤ 8 ∧ i = .int .i64 j ∧ Nx w wr) (fun i _ => 8 - (intOf i).toNat)
    case atStart => exact ⟨1, by omega, by omega, rfl, (Nx.refl w).alloc _⟩
    case round =>
      obtain ⟨j, h1, h2, rfl, hn⟩ := hrel
      have HN := Lib.hid hn
      clear hn
      by_cases hlt : j < 8
      · go_wp2
        go_quiet (fail)
        go_wp2
        go_roundw
        case rel => exact ⟨j + 1, by omega, by omega, by go_num, HN.out.drewN _⟩
        case measure => simp [intOf]; omega
      · go_wp2
        go_ret
        exact ⟨rfl, HN.out⟩
  · obtain ⟨g, o, rfl, hT⟩ : ∃ g o, A = some ⟨g, o, none⟩ ∧ TokAt w g o (t :: r) := by
      rcases hA with ⟨_, h, _⟩ | h
      · cases h
      · exact h
    clear hA
    obtain ⟨c0, c1, c2, c3, c4, c5⟩ := hT.head
    clear hT c1 c2 c3 c4 c5
    have hg := block_lt c0
    have HC := Lib.hid c0
    clear c0
    obtain ⟨n, hn⟩ : ∃ n, n = (t :: r).length := ⟨_, rfl⟩
    have hn0 : 0 < n := by rw [hn]; simp
    rw [← hn] at hc1 ⊢
    clear hn
    have hz : (0 : Int) < n := by omega
    have hq : (t.kind == 1) = false := by simpa using hk
    generalize t.kind = kd at *
    clear hk
    go_enter Tryd.func23, Tryd.ntmps23
    go_wp2
    go_loopw [4] (fun i wr => ∃ j : Nat, 1 ≤ j ∧ j ≤ 8 ∧ i = .int .i64 j ∧ Nx w wr) (fun i _ => 8 - (intOf i).toNat)
    case atStart => exact ⟨1, by omega, by omega, rfl, (Nx.refl w).alloc _⟩
    case round =>
      obtain ⟨j, h1, h2, rfl, hn⟩ := hrel
      have c0 := hn.cell HC.out
      have zg : g < wr.heap.size := block_lt c0
      have HN := Lib.hid hn
      clear hn
      by_cases hlt : j < 8
      · go_wp2
        go_quiet (fail)
        go_wp2
        go_roundw
        case rel => exact ⟨j + 1, by omega, by omega, by go_num, HN.out.drewN _⟩
        case measure => simp [intOf]; omega
      · go_wp2
        go_ret
        exact ⟨rfl, HN.out⟩

set_option maxHeartbeats 2000000 in
theorem kindR_name (g o n c : Nat) (s : List UInt8) (w : World) (hn0 : 0 < n) (hc1 : n ≤ c) (h0 : w.cell? ⟨g, o, none⟩ = some (.int .i64 1)) (h3 : w.cell? ⟨g, o + 3, none⟩ = some (.string (B s))) :
    Calls Tryd.prog 23 #[.slice (some ⟨g, o, none⟩) n c] w fun e w' => e = .returned (.int .i64 (kwN s : Nat)) ∧ Nx w w' := by
  obtain ⟨V, hV⟩ : ∃ V, V = kwN s := ⟨_, rfl⟩
  rw [← hV]
  have HV := Lib.hid hV
  have HA := Lib.hid (fun j h1 h2 (he : s = kwL.getD j []) => (show V = j by rw [HV.out, he]; exact kw_at j h2 h1))
  have HB := Lib.hid (fun h => (show V = 0 by rw [HV.out]; exact kw_no s h))
  have HC := Lib.hid (And.intro h0 h3)
  have HS := Lib.hid (Strs.new w kwL 9)
  clear hV HV h0 h3
  have hz : (0 : Int) < n := by omega
  go_enter Tryd.func23, Tryd.ntmps23
  go_wp2
  go_loopw [4] (fun i wr => ∃ j : Nat, 1 ≤ j ∧ j ≤ 8 ∧ i = .int .i64 j ∧ Nx (w.alloc (.cells (kwL.map fun s => Value.string (B s)).toArray 9)) wr ∧ Hid (∀ m, 1 ≤ m → m < j → ¬ s = kwL.getD m [])) (fun i _ => 8 - (intOf i).toNat)
  case atStart => exact ⟨1, by omega, by omega, rfl, Nx.refl _, Lib.hid (fun m h1 h2 => by omega)⟩
  case round =>
    obtain ⟨j, h1, h2, rfl, hn, hno⟩ := hrel
    have c0 := hn.cell (((Nx.refl w).alloc _).cell HC.out.1)
    have c3 := hn.cell (((Nx.refl w).alloc _).cell HC.out.2)
    have zg : g < wr.heap.size := block_lt c0
    have HN := Lib.hid hn
    clear hn
    by_cases hlt : j < 8
    · have cj := HN.out.cell (HS.out j _ (kw_some j hlt))
      have zw : w.heap.size < wr.heap.size := block_lt cj
      have hj0 : 0 ≤ (j : Int) := by omega
      have hj8 : (j : Int) < 8 := by omega
      have HE := Lib.hid (HA.out j h1 hlt)
      by_cases e : s = kwL.getD j []
      · have e2 : (s == kwL.getD j []) = true := by simpa using e
        have HF := Lib.hid (HE.out e)
        clear HE e
        generalize kwL.getD j [] = z at *
        go_wp2
        go_quiet (fail)
        go_wp2
        go_ret
        exact ⟨ret_i64' (by rw [HF.out]), (((Nx.refl w).alloc _).trans HN.out).drewN _⟩
      · have e2 : (s == kwL.getD j []) = false := by simpa using e
        have EN := Lib.hid e
        clear HE e
        generalize hz2 : kwL.getD j [] = z at cj e2
        clear hz2
        go_wp2
        go_quiet (fail)
        go_wp2
        go_roundw
        case rel =>
          refine ⟨j + 1, by omega, by omega, by go_num, HN.out.drewN _, Lib.hid (fun m k1 k2 => ?_)⟩
          by_cases ej : m = j
          · subst ej; exact EN.out
          · exact hno.out m k1 (by omega)
        case measure => simp [intOf]; omega
    · have HF := Lib.hid (HB.out (fun m k1 k2 => hno.out m k1 (by omega)))
      go_wp2
      go_ret
      exact ⟨ret_i64' (by rw [HF.out]; rfl), ((Nx.refl w).alloc _).trans HN.out⟩

theorem kindR_any (v : Value) (l : List Tok) (w : World) (hT : Toks w v l) : Calls Tryd.prog 23 #[v] w fun e w' => e = .returned (.int .i64 (kindP l : Nat)) ∧ Nx w w' := by
  cases l with
  | nil => exact kindR_not v [] w hT (Or.inl rfl)
  | cons t r =>
    by_cases hk : t.kind = 1
    · obtain ⟨A, c, rfl, hc1, hc2, hA⟩ := hT.form
      obtain ⟨g, o, rfl, hT2⟩ : ∃ g o, A = some ⟨g, o, none⟩ ∧ TokAt w g o (t :: r) := by
        rcases hA with ⟨_, h, _⟩ | h
        · cases h
        · exact h
      obtain ⟨c0, c1, c2, c3, c4, c5⟩ := hT2.head
      rw [hk] at c0
      rw [show kindP (t :: r) = kwN t.text by show (if t.kind = 1 then kwN t.text else 0) = _; rw [if_pos hk]]
      exact kindR_name g o _ c t.text w (by simp) hc1 c0 c3
    · rw [show kindP (t :: r) = 0 by show (if t.kind = 1 then kwN t.text else 0) = _; rw [if_neg hk]]
      exact kindR_not v (t :: r) w hT (Or.inr ⟨t, r, rfl, hk⟩)

/-- A place, and a code, of the document. -/
def badV : BRes → Int → Value
  | .bad l c, k => .agg #[.int .i64 l, .int .i64 c, .int .i64 k]
  | .ok _ _, _ => .agg #[.int .i64 0, .int .i64 0, .int .i64 0]

set_option maxHeartbeats 1000000 in
theorem at_any (v : Value) (l : List Tok) (k : Int) (w : World) (hT : Toks w v l) : Calls Tryd.prog 46 #[v, .int .i64 k] w fun e w' => e = .returned (badV (badAt l) k) ∧ Nx w w' := by
  obtain ⟨A, c, rfl, hc1, hc2, hA⟩ := hT.form
  clear hT
  cases l with
  | nil =>
    clear hA
    simp only [List.length_nil]
    go_enter Tryd.func46, Tryd.ntmps46
    go_wp2
    refine bodyPost_ret (v := .agg #[.int .i64 0, .int .i64 0, .int .i64 k]) (by simp [results, Tryd.results46, go_sem]) rfl ⟨rfl, ?_⟩
    repeat (with_reducible first | exact Nx.refl _ | refine Nx.setCell ?_ (Nat.le_refl _) _ | refine Nx.alloc ?_ _)
  | cons t l =>
    obtain ⟨g, o, rfl, hT⟩ : ∃ g o, A = some ⟨g, o, none⟩ ∧ TokAt w g o (t :: l) := by
      rcases hA with ⟨_, h, _⟩ | h
      · cases h
      · exact h
    clear hA
    obtain ⟨c0, c1, c2, c3, c4, c5⟩ := hT.head
    clear hT c0 c3 c4 c5
    have hg := block_lt c1
    unfold maxLen at hc2
    obtain ⟨n, hn⟩ : ∃ n, n = (t :: l).length := ⟨_, rfl⟩
    have hn0 : 0 < n := by rw [hn]; simp
    rw [← hn] at hc1 ⊢
    clear hn
    have hz : ((n : Int) == 0) = false := by simp; omega
    go_enter Tryd.func46, Tryd.ntmps46
    go_wp2
    go_region
    all_goals go_wp2
    all_goals
      refine bodyPost_ret (v := .agg #[.int .i64 t.line, .int .i64 t.col, .int .i64 k]) (by simp [results, Tryd.results46, go_sem]) rfl ⟨rfl, ?_⟩
      repeat (with_reducible first | exact Nx.refl _ | refine Nx.drew ?_ | refine Nx.setCell ?_ (Nat.le_refl _) _ | refine Nx.alloc ?_ _)

end Go.Proofs.YtbkgdepblaibkaaDoor
