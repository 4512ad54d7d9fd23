/- Parts of the proof, one behind the other. -/
import Derived.Test.YtndpgakjpokllaaGreatZsbk
import Derived.Test.YtndpgakjpokllaaGreatZsbo
/- law07: what the laws say, plain. -/
namespace Go.Proofs.YtndpgakjpokllaaGreat
open Go.RowKit
set_option linter.unusedVariables false
set_option linter.unusedSimpArgs false

/-- What is put of a rising list of cells. -/
theorem memOf_atL (L : List (Int × Int)) (h : Rise L) : ∀ a, memOf L a = atL L a := by
  have gen : ∀ (L : List (Int × Int)), Rise L → ∀ (M : Int → Int) a, (L.foldl (fun M c => updM M c.1 c.2) M) a = if (∃ x ∈ L, x.1 = a) then atL L a else M a := by
    intro L
    induction L with
    | nil => intro _ M a; simp
    | cons c L ih =>
      intro hr M a
      obtain ⟨hc, hr'⟩ := rise_cons hr
      rw [List.foldl_cons, ih hr']
      by_cases he : c.1 = a
      · have hn : ¬ ∃ x ∈ L, x.1 = a := fun ⟨x, hx, e⟩ => by have := hc x hx; omega
        rw [if_neg hn, if_pos ⟨c, List.mem_cons_self, he⟩]
        unfold updM atL
        rw [if_pos he.symm, if_pos he]
      · have e : (∃ x ∈ c :: L, x.1 = a) ↔ ∃ x ∈ L, x.1 = a :=
          ⟨fun ⟨x, hx, hxa⟩ => by
            rcases List.mem_cons.1 hx with rfl | hx
            · exact absurd hxa he
            · exact ⟨x, hx, hxa⟩, fun ⟨x, hx, hxa⟩ => ⟨x, List.mem_cons_of_mem _ hx, hxa⟩⟩
        have e2 : updM M c.1 c.2 a = M a := by
          unfold updM
          rw [if_neg (fun h => he h.symm)]
        have e3 : atL (c :: L) a = atL L a := by
          rw [atL, if_neg he]
        rw [e2, e3]
        by_cases hh : ∃ x ∈ L, x.1 = a
        · rw [if_pos hh, if_pos (e.2 hh)]
        · rw [if_neg hh, if_neg (fun k => hh (e.1 k))]
  intro a
  unfold memOf
  rw [gen L h]
  split
  · rfl
  · rename_i hn
    rw [atL_none L a fun y hy e => hn ⟨y, hy, e⟩]

theorem CellsOf.memOf {M : Int → Int} {L : List (Int × Int)} (h : CellsOf M L) : memOf L = M := by
  obtain ⟨h1, _, h3⟩ := h.rise
  funext a
  rw [memOf_atL L h1, h3]

theorem CellsOf.cells {M : Int → Int} {L : List (Int × Int)} (h : CellsOf M L) (hB : Bytes M) : IsCells L := by
  obtain ⟨K, ⟨_, h2, h3⟩, rfl⟩ := h
  intro x hx
  obtain ⟨a, ha, rfl⟩ := List.mem_map.1 hx
  have h4 := h3 a ha
  have := hB a h4.1 h4.2
  exact ⟨h4.1, h4.2, this.1, this.2⟩

end Go.Proofs.YtndpgakjpokllaaGreat

