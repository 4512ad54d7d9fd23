/- A block that is known whole; a string's iterator. -/
import Derived.Test.YtdgmdkkockbkjaaGreatDoorFrame
import Derived.Lib.OthersKept
import Derived.Laws.Rows
namespace Go.Proofs.YtdgmdkkockbkjaaGreatDoor
open Go.RowKit
set_option linter.unusedVariables false
set_option linter.unusedSimpArgs false

/-- What block g holds. -/
def Has (w : World) (g : Nat) (o : Obj) : Prop := w.heap[g]? = some o

theorem Has.lt {w : World} {g : Nat} {o : Obj} (h : Has w g o) : g < w.heap.size := (Array.getElem?_eq_some_iff.1 h).1

theorem Has.new (w : World) (o : Obj) : Has (w.alloc o) w.heap.size o := heap_alloc_new w o

theorem Has.at_ (w : World) (o : Obj) {g : Nat} (h : g = w.heap.size) : Has (w.alloc o) g o := h ▸ Has.new w o

theorem Has.nx {w w' : World} {g : Nat} {o : Obj} (h : Has w g o) (hn : Nx w w') : Has w' g o := (Below.block hn g h.lt).trans h

theorem Has.alloc {w : World} {g : Nat} {o : Obj} (h : Has w g o) (o' : Obj) : Has (w.alloc o') g o := h.nx ((Nx.refl w).alloc _)

theorem Has.far {w : World} {g : Nat} {o : Obj} (h : Has w g o) {p : Addr} (hp : g ≠ p.block) (u : Value) : Has (w.setCell p u) g o := (Below.heap_setCell w p u g hp).trans h

theorem Has.put {w : World} {g : Nat} {T : TypeId} {cs : Array Value} {fz : Nat × Nat} (h : Has w g (.cells cs T fz)) (i : Nat) (u : Value) : Has (w.setCell ⟨g, i, none⟩ u) g (.cells (cs.setIfInBounds i u) T fz) := by
  unfold Has at h ⊢
  simp [World.setCell, Array.getElem?_modify, h]

theorem Has.cell {w : World} {g : Nat} {T : TypeId} {cs : Array Value} {fz : Nat × Nat} (h : Has w g (.cells cs T fz)) (i : Nat) (v : Value) (hv : cs[i]? = some v) : w.cell? ⟨g, i, none⟩ = some v := (cell_of_row w g i cs T fz h).trans hv

theorem Has.free {w : World} {g : Nat} {T : TypeId} {cs : Array Value} (h : Has w g (.cells cs T (0, 0))) (i : Nat) : w.frozen? ⟨g, i, none⟩ = false := by
  unfold Has at h
  simp [World.frozen?, h]

theorem Has.moved {w : World} {g k : Nat} {o : Obj} (h : Has w g o) (s : ByteArray) (p : Nat) (hk : g ≠ k) : Has (w.iterAt k s p) g o := (Lib.iterAt_other w k g s p hk).trans h

theorem nx_iterAt {a w : World} (h : Nx a w) {k : Nat} (hk : a.heap.size ≤ k) (s : ByteArray) (p : Nat) : Nx a (w.iterAt k s p) := Lib.below_iterAt h hk s p

/-- The iterator's next byte, in a world that has a name. -/
theorem iter_next (P : Program) (w : World) (g : Nat) (l : List UInt8) (k : Nat) (c : UInt8) (h : Has w g (.stringIter (⟨l.toArray⟩ : ByteArray) k)) (hc : l[k]? = some c) (ha : c.toNat < 128) :
    ∃ w2, (∀ ty, (Instr.next (.pointer (some ⟨g, 0, none⟩)) true ty).run P w = .ok (.tuple #[.bool true, .int .i64 k, .int .i32 c.toNat]) w2) ∧ Has w2 g (.stringIter (⟨l.toArray⟩ : ByteArray) (k + 1)) ∧
      (∀ g' o, g' ≠ g → Has w g' o → Has w2 g' o) ∧ (∀ a, Nx a w → a.heap.size ≤ g → Nx a w2) ∧ w2.heap.size = w.heap.size := by
  obtain ⟨hk, e⟩ := List.getElem?_eq_some_iff.1 hc
  have hk' : k < (⟨l.toArray⟩ : ByteArray).size := hk
  have e2 : (⟨l.toArray⟩ : ByteArray)[k] = c := e
  refine ⟨w.iterAt g ⟨l.toArray⟩ (k + 1), fun ty => ?_, Lib.iterAt_heap w g _ k _ h, fun g' o hg ho => ho.moved _ _ hg, fun a hn ha => nx_iterAt hn ha _ _, Lib.iterAt_size _ _ _ _⟩
  rw [Lib.run_next_ascii_at w g _ k ty h hk' (by rw [e2]; exact ha), e2]

theorem iter_end (P : Program) (w : World) (g : Nat) (l : List UInt8) (k : Nat) (h : Has w g (.stringIter (⟨l.toArray⟩ : ByteArray) k)) (hk : l.length ≤ k) :
    ∀ ty, (Instr.next (.pointer (some ⟨g, 0, none⟩)) true ty).run P w = .ok (.tuple #[.bool false]) w := fun ty =>
  Lib.run_next_end_at w g _ k ty h (by show ¬ k < l.toArray.size; simp; omega)

theorem Has.pos {w : World} {g : Nat} {s : ByteArray} {k : Nat} (h : Has w g (.stringIter s k)) : w.iterPos g = k := by
  unfold Has at h
  unfold World.iterPos
  rw [h]

end Go.Proofs.YtdgmdkkockbkjaaGreatDoor
