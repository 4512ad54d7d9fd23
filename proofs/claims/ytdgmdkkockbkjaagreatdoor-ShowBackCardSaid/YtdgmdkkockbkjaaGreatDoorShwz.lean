/- What a row of press asks is what the document asks: fitS is rFitB. -/
import Derived.Test.YtdgmdkkockbkjaaGreatDoorPlj
import Derived.Test.YtdgmdkkockbkjaaGreatDoorPressi
import Derived.Test.YtdgmdkkockbkjaaGreatDoorDec
namespace Go.Proofs.YtdgmdkkockbkjaaGreatDoor
open Go.RowKit
set_option linter.unusedVariables false
set_option linter.unusedSimpArgs false

theorem fit_at (n : Nat) (r : PR) (hr : rowsL[n]? = some r) (op rd rs1 rs2 imm : Int) : fitsB r op rd rs1 rs2 imm = (mayB op rd rs1 rs2 imm && (refL (nmB.getD op.toNat []) rd rs1 rs2 imm).getD n false) := by
  have hn : n < 27 := (List.getElem?_eq_some_iff.1 hr).1
  rcases (by omega : n = 0 ∨ n = 1 ∨ n = 2 ∨ n = 3 ∨ n = 4 ∨ n = 5 ∨ n = 6 ∨ n = 7 ∨ n = 8 ∨ n = 9 ∨ n = 10 ∨ n = 11 ∨ n = 12 ∨ n = 13 ∨ n = 14 ∨ n = 15 ∨ n = 16 ∨ n = 17 ∨ n = 18 ∨ n = 19 ∨ n = 20 ∨ n = 21 ∨ n = 22 ∨ n = 23 ∨ n = 24 ∨ n = 25 ∨ n = 26) with rfl | rfl | rfl | rfl | rfl | rfl | rfl | rfl | rfl | rfl | rfl | rfl | rfl | rfl | rfl | rfl | rfl | rfl | rfl | rfl | rfl | rfl | rfl | rfl | rfl | rfl | rfl
  · cases hr; exact fit_0 op rd rs1 rs2 imm
  · cases hr; exact fit_1 op rd rs1 rs2 imm
  · cases hr; exact fit_2 op rd rs1 rs2 imm
  · cases hr; exact fit_3 op rd rs1 rs2 imm
  · cases hr; exact fit_4 op rd rs1 rs2 imm
  · cases hr; exact fit_5 op rd rs1 rs2 imm
  · cases hr; exact fit_6 op rd rs1 rs2 imm
  · cases hr; exact fit_7 op rd rs1 rs2 imm
  · cases hr; exact fit_8 op rd rs1 rs2 imm
  · cases hr; exact fit_9 op rd rs1 rs2 imm
  · cases hr; exact fit_10 op rd rs1 rs2 imm
  · cases hr; exact fit_11 op rd rs1 rs2 imm
  · cases hr; exact fit_12 op rd rs1 rs2 imm
  · cases hr; exact fit_13 op rd rs1 rs2 imm
  · cases hr; exact fit_14 op rd rs1 rs2 imm
  · cases hr; exact fit_15 op rd rs1 rs2 imm
  · cases hr; exact fit_16 op rd rs1 rs2 imm
  · cases hr; exact fit_17 op rd rs1 rs2 imm
  · cases hr; exact fit_18 op rd rs1 rs2 imm
  · cases hr; exact fit_19 op rd rs1 rs2 imm
  · cases hr; exact fit_20 op rd rs1 rs2 imm
  · cases hr; exact fit_21 op rd rs1 rs2 imm
  · cases hr; exact fit_22 op rd rs1 rs2 imm
  · cases hr; exact fit_23 op rd rs1 rs2 imm
  · cases hr; exact fit_24 op rd rs1 rs2 imm
  · cases hr; exact fit_25 op rd rs1 rs2 imm
  · cases hr; exact fit_26 op rd rs1 rs2 imm

theorem idx_at : ∀ n, n < 27 → shB.idxOf (shB.getD n []) = n := by decide

theorem name_at (n : Nat) (r : PR) (hr : rowsL[n]? = some r) : r.name = shB.getD n [] ∧ shB.idxOf r.name = n := by
  have hn : n < 27 := (List.getElem?_eq_some_iff.1 hr).1
  have e : shB[n]? = some r.name := by rw [← names_rows, List.getElem?_map, hr]; rfl
  have e2 : r.name = shB.getD n [] := by rw [List.getD_eq_getElem?_getD, e]; rfl
  exact ⟨e2, by rw [e2]; exact idx_at n hn⟩

theorem fit_ref (n : Nat) (r : PR) (hr : rowsL[n]? = some r) (op rd rs1 rs2 imm : Int) : fitsB r op rd rs1 rs2 imm = rFitB r.name op rd rs1 rs2 imm := by
  rw [fit_at n r hr]
  unfold rFitB refB
  rw [(name_at n r hr).2]

theorem findP_at (nm : ByteArray) (r : PR) (h : findP nm = some r) : r.name = nm.toList ∧ ∃ n : Nat, rowsL[n]? = some r := by
  unfold findP at h
  have h1 := List.find?_some h
  have h2 := List.mem_of_find?_eq_some h
  obtain ⟨n, hn, e⟩ := List.getElem_of_mem h2
  exact ⟨by simpa using h1, n, by rw [List.getElem?_eq_getElem hn, e]⟩

theorem fitS_ref (nm : ByteArray) (op rd rs1 rs2 imm : Int) : fitS nm op rd rs1 rs2 imm = rFitB nm.toList op rd rs1 rs2 imm := by
  unfold fitS findR
  cases h : findP nm with
  | none =>
    have e : shB.idxOf nm.toList = 27 := List.idxOf_eq_length (by
      intro hm
      rw [← names_rows] at hm
      obtain ⟨r, hr, e⟩ := List.mem_map.1 hm
      have := List.find?_eq_none.1 h r hr
      simp [e] at this)
    unfold rFitB refB
    rw [e]
    show false = _
    simp [refL]
  | some r =>
    obtain ⟨e, n, hn⟩ := findP_at nm r h
    show fitsB r op rd rs1 rs2 imm = _
    rw [fit_ref n r hn, e]

end Go.Proofs.YtdgmdkkockbkjaaGreatDoor
