/- Parts of the proof, one behind the other. -/
import Derived.Deep.MidRow
import Derived.Test.YtndpgakjpokllaaGreatZsac
/- A result that is a struct of many cells. -/
namespace Go.Proofs.YtndpgakjpokllaaGreat
open Go.RowKit
set_option linter.unusedVariables false
set_option linter.unusedSimpArgs false

theorem results_cell {P : Program} {fn : Func} {tmps : Array Value} {w : World} {a : Tmp} {t : TypeId} {p : Addr} {v : Value} (hr : fn.results = #[.cell a t]) (ha : tmps.getD a undef = .pointer (some p)) (hl : (loadVar t p).run P w = .ok v w) : (results fn tmps).run P w = .ok v w := by
  unfold results
  rw [hr]
  generalize hm : loadVar t p = m at hl
  have ha' : tmps[a]?.getD undef = .pointer (some p) := by simpa using ha
  simp [ha', hm, hl, Sem.run_bind, Sem.run_pure, asAddr]

/-- The cells of a block that the call has made are there, and may be written, behind whatever makes new memory alone. -/
theorem there_new {w w2 : World} {T : TypeId} {C : Array Value} (h : Nx (w.alloc (.cells C T)) w2) (n : Nat) (hn : C.size = n) : w2.there w.heap.size 0 n := by
  intro j hj
  have e1 : (w.alloc (.cells C T)).heap.size = w.heap.size + 1 := by simp
  have hc : (w.alloc (.cells C T)).cell? ⟨w.heap.size, 0 + j, none⟩ = some (C[j]'(by omega)) := by simp
  refine ⟨by rw [h.cell hc]; rfl, ?_⟩
  rw [h.frozen (by rw [e1]; exact Nat.lt_succ_self _)]
  simp

theorem Nx.setCells {a b : World} (h : Nx a b) {g o : Nat} (hg : a.heap.size ≤ g) (vs : List Value) : Nx a (b.setCells g o vs) := by
  induction vs generalizing b o with
  | nil => exact h
  | cons v r ih => exact ih (h.setCell (p := ⟨g, o, none⟩) hg v)

end Go.Proofs.YtndpgakjpokllaaGreat

