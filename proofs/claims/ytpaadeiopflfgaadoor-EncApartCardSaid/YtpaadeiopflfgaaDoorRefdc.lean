/- Contracts of package typecaseref04: a word's operation. -/
import Derived.Test.YtpaadeiopflfgaaDoorRefdb
namespace Go.Proofs.YtpaadeiopflfgaaDoor
open Go.RowKit
set_option linter.unusedVariables false

/-- The operation of a name; 0: there is none. -/
def idxN (s : List UInt8) : Int :=
  match (List.range 49).find? (fun i => decide (1 ≤ i) && (nmB.getD i [] == s)) with
  | some i => i
  | none => 0

theorem idx_found (s : List UInt8) (i : Nat) (h1 : 1 ≤ i) (h2 : i ≤ 48) (h : nmB.getD i [] = s) : idxN s = i := by
  subst h
  have h3 : ∀ i : Fin 49, 1 ≤ i.val → idxN (nmB.getD i.val []) = (i.val : Int) := by decide +kernel
  exact h3 ⟨i, by omega⟩ h1

theorem idx_none (s : List UInt8) (h : ∀ i, 1 ≤ i → i ≤ 48 → ¬ nmB.getD i [] = s) : idxN s = 0 := by
  unfold idxN
  have : (List.range 49).find? (fun i => decide (1 ≤ i) && (nmB.getD i [] == s)) = none := by
    rw [List.find?_eq_none]
    intro i hi
    rw [List.mem_range] at hi
    by_cases h1 : 1 ≤ i
    · have := h i h1 (by omega)
      simp only [h1, decide_true, Bool.true_and, beq_iff_eq]
      exact this
    · simp [h1]
  rw [this]

/-- The operation whose name stands at a place of a list. -/
def atN (l : List (List UInt8)) (k : Nat) : Int := if l.length ≤ k ∨ l.getD k [] = [] then 0 else idxN (l.getD k [])

theorem nm_len : nmB.length = 49 := rfl

set_option maxHeartbeats 2000000 in
theorem at_any (l : List (List UInt8)) (g n : Nat) (hn : l.length = n) (k : Int) (w : World) (hk : 0 ≤ k) (hk' : k < 4294967296) (hn' : n ≤ 100) (hs : Strs w g l) :
    Calls Tryd.prog 44 #[.slice (some ⟨g, 0, none⟩) n n, .int .u32 k] w fun e w' => e = .returned (.int .i64 (atN l k.toNat)) ∧ Nx w w' := by
  obtain ⟨k, rfl⟩ := Int.eq_ofNat_of_zero_le hk
  rw [Int.toNat_natCast]
  by_cases h1 : n ≤ k
  · have HE := Lib.hid (show atN l k = 0 by unfold atN; rw [if_pos (by omega)])
    clear hs
    go_enter Tryd.func44, Tryd.ntmps44
    go_wp2
    go_ret
    exact ⟨ret_i64 HE.out.symm, Nx.refl _⟩
  have hg := getq l k [] (by omega)
  have hc := hs k _ hg
  have d1 : decide (n ≤ k) = false := by simpa using h1
  have d2 : decide ((n : Int) ≤ (k : Int)) = false := by simp; omega
  have HA : Hid (atN l k = if l.getD k [] = [] then 0 else idxN (l.getD k [])) := by
    unfold atN
    by_cases e : l.getD k [] = []
    · rw [if_pos (Or.inr e), if_pos e]; exact rfl
    · rw [if_neg (by intro c; rcases c with c | c; omega; exact e c), if_neg e]; exact rfl
  clear hs hg
  generalize l.getD k [] = s at *
  by_cases h2 : s = []
  · subst h2
    have HE := Lib.hid (HA.out.trans (if_pos rfl))
    clear HA
    go_enter Tryd.func44, Tryd.ntmps44
    go_wp2
    go_ret
    exact ⟨ret_i64 HE.out.symm, Nx.refl _⟩
  have h3 : (s == []) = false := by simpa using h2
  have h4 : s.isEmpty = false := by simpa using h2
  have HE := Lib.hid (HA.out.trans (if_neg h2))
  clear HA
  have HNE := Lib.hid h2
  clear h2
  go_enter Tryd.func44, Tryd.ntmps44
  go_wp2_with fail
  refine (names_any _).mono ?_
  rintro e w1 ⟨rfl, hs1, hn1⟩
  have HS := Lib.hid hs1
  have hc1 := hn1.cell hc
  clear hs1 hc
  go_wp2
  clear h3 h4 d1 d2 hk'
  go_loopw [6] (fun i wr => ∃ m : Nat, 1 ≤ m ∧ m ≤ 49 ∧ i = .int .i64 m ∧ Nx w1 wr ∧ Hid (∀ j, 1 ≤ j → j < m → ¬ nmB.getD j [] = s)) (fun i _ => 49 - (intOf i).toNat)
  case atStart => exact ⟨1, by omega, by omega, rfl, Nx.refl _, Lib.hid (fun j h1 h2 => by omega)⟩
  case round =>
    obtain ⟨m, hm1, hm2, rfl, hnx, hno⟩ := hrel
    by_cases hlt : m < 49
    · have hgm := getq nmB m [] (by rw [nm_len]; exact hlt)
      have hcm := hnx.cell (HS.out m _ hgm)
      have hck := hnx.cell hc1
      clear hgm
      have FO := Lib.hid (fun h => idx_found s m hm1 (by omega) h)
      by_cases e : nmB.getD m [] = s
      · have FO2 := Lib.hid (FO.out e)
        have e2 : (nmB.getD m [] == s) = true := by simpa using e
        clear FO e
        generalize nmB.getD m [] = z at *
        go_wp2
        go_quiet (fail)
        go_wp2
        go_ret
        exact ⟨ret_i64 (by rw [HE.out, FO2.out]), (hn1.trans hnx).drewN _⟩
      · have e2 : (nmB.getD m [] == s) = false := by simpa using e
        have EN := Lib.hid e
        clear FO e
        generalize nmB.getD m [] = z at hcm e2
        go_wp2
        go_quiet (fail)
        go_wp2
        go_roundw
        case rel =>
          refine ⟨m + 1, by omega, by omega, by go_num, hnx.drewN _, Lib.hid (fun j h1 h2 => ?_)⟩
          by_cases ej : j = m
          · subst ej; exact EN.out
          · exact hno.out j h1 (by omega)
        case measure => simp [intOf]; omega
    · have HR := Lib.hid (idx_none s (fun i a b => hno.out i a (by omega)))
      go_wp2
      go_ret
      exact ⟨ret_i64 (by rw [HE.out, HR.out]), hn1.trans hnx⟩

end Go.Proofs.YtpaadeiopflfgaaDoor
