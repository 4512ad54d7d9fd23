/- Contracts of package press: Names. -/
import Derived.Test.YtdgmdkkockbkjaaGreatDoorPressc
import Derived.Test.YtdgmdkkockbkjaaGreatDoorRefia
import Derived.Test.YtdgmdkkockbkjaaGreatDoorRefd
import Derived.Test.YtdgmdkkockbkjaaGreatDoorHas
import Derived.OwnWalk
namespace Go.Proofs.YtdgmdkkockbkjaaGreatDoor
open Go.RowKit
set_option linter.unusedVariables false
set_option linter.unusedSimpArgs false

theorem str_info : (Tryz.prog.info? 9).map (fun i => (i.zero, i.size, i.bytes)) = some (some (.string (B [])), 1, 16) := by kernel_rfl

theorem Strs.of_own {w : World} {base g cap : Nat} {e : TypeId} {l : List (List UInt8)} (h : w.ownsRow base e 1 (.slice (some ⟨g, 0, none⟩) l.length cap) l.length (l.map fun s => Value.string (B s))) : Strs w g l := by
  intro j s hs
  have := h.cells (g := g) rfl j (.string (B s)) (by simp [hs])
  rwa [add0] at this

theorem one_new2 (w : World) (o : Obj) (x : Value) (T : TypeId) : ∀ (j : Nat) (u : Value), [x][j]? = some u → ((w.alloc o).alloc (.cells #[x] T)).cell? ((⟨w.heap.size + 1, 0, none⟩ : Addr).add j) = some u := by
  intro j u h
  rw [add0]
  have hj : j = 0 := by have := (List.getElem?_eq_some_iff.1 h).1; simp at this; exact this
  subst hj
  have : x = u := by simpa using h
  subst this
  exact (Has.at_ (w.alloc o) (.cells #[x] T) (by simp)).cell 0 _ rfl

def RetStrs (l : List (List UInt8)) (w : World) (e : Ending) (w' : World) : Prop := ∃ g cap, e = .returned (.slice (some ⟨g, 0, none⟩) l.length cap) ∧ Strs w' g l ∧ Nx w w'

theorem names_rows : rowsL.map (·.name) = shB := by decide

theorem shB_at (k : Nat) (r : PR) (h : rowsL[k]? = some r) : shB[k]? = some r.name := by rw [← names_rows, List.getElem?_map, h]; rfl

end Go.Proofs.YtdgmdkkockbkjaaGreatDoor
