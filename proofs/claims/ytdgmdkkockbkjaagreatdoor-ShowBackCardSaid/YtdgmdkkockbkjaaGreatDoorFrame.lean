/- What a call may leave behind: new blocks, no old one turned. -/
import Derived.Test.YtdgmdkkockbkjaaGreatDoorRows
import Derived.WalkKit
import Derived.WalkSpells
import Derived.WalkLawsBesides
import Derived.Outline
import Derived.Lib.Hide
import Derived.Deep.QuietTactic
import Derived.BigQuiet
import Derived.Deep.LoopGhost
namespace Go.Proofs.YtdgmdkkockbkjaaGreatDoor
open Go.RowKit
set_option linter.unusedVariables false

/-- All blocks that were there are as they were; there may be new ones. -/
def Nx (w w' : World) : Prop := Below w.heap.size w w'

theorem Nx.refl (w : World) : Nx w w := Below.refl _ _

theorem Nx.size {w w' : World} (h : Nx w w') : w.heap.size ≤ w'.heap.size := Below.size h

theorem Nx.trans {a b c : World} (h : Nx a b) (k : Nx b c) : Nx a c := Below.trans h (Below.mono k h.size)

theorem Nx.drewN {a b : World} (h : Nx a b) (n : Nat) : Nx a (b.drewN n) := below_drewN h n

theorem Nx.drew {a b : World} (h : Nx a b) : Nx a b.drew := Below.drew h

theorem Nx.alloc {a b : World} (h : Nx a b) (o : Obj) : Nx a (b.alloc o) := Below.alloc h h.size o

theorem Nx.setCell {a b : World} (h : Nx a b) {p : Addr} (hp : a.heap.size ≤ p.block) (u : Value) : Nx a (b.setCell p u) := Below.setCell h hp u

theorem block_lt {w : World} {p : Addr} {v : Value} (h : w.cell? p = some v) : p.block < w.heap.size := by
  unfold World.cell? at h
  rcases Nat.lt_or_ge p.block w.heap.size with h1 | h1
  · exact h1
  · rw [Array.getElem?_eq_none h1] at h; cases h

theorem Nx.cell {w w' : World} (h : Nx w w') {p : Addr} {v : Value} (hc : w.cell? p = some v) : w'.cell? p = some v := by
  have h1 := block_lt hc
  rw [Below.cell h h1]; exact hc

theorem Nx.frozen {w w' : World} (h : Nx w w') {p : Addr} (hp : p.block < w.heap.size) : w'.frozen? p = w.frozen? p := Below.frozen h hp

theorem Nx.of_eq {w w' : World} (h : w = w') : Nx w w' := h ▸ Nx.refl w

theorem Nx.of_drewN {w w' : World} (h : ∃ n, w' = w.drewN n) : Nx w w' := by
  obtain ⟨n, rfl⟩ := h; exact (Nx.refl w).drewN n

theorem ret_u32 {a b : Int} (h : a = b) : Ending.returned (.int .u32 a) = .returned (.int .u32 b) := by rw [h]

theorem ret_u16 {a b : Int} (h : a = b) : Ending.returned (.int .u16 a) = .returned (.int .u16 b) := by rw [h]

theorem ret_i32 {a b : Int} (h : a = b) : Ending.returned (.int .i32 a) = .returned (.int .i32 b) := by rw [h]

theorem ret_i64 {a b : Int} (h : a = b) : Ending.returned (.int .i64 a) = .returned (.int .i64 b) := by rw [h]

theorem ret_bool {a b : Bool} (h : a = b) : Ending.returned (.bool a) = .returned (.bool b) := by rw [h]

theorem ret2_u32 {a b c d : Int} (h : a = b) (h' : c = d) : Ending.returned (.tuple #[.int .u32 a, .int .u32 c]) = .returned (.tuple #[.int .u32 b, .int .u32 d]) := by rw [h, h']

/-- For a region that draws its order: a callee that leaves the very world. -/
theorem quiet_of_eq {P : Program} {f : FuncId} {args : Array Value} {w : World} {n : Nat} {v : Value}
    (h : Calls P f args (w.drewN n) fun e w' => e = .returned v ∧ w.drewN n = w') : Calls P f args (w.drewN n) fun e w'' => e = .returned v ∧ ∃ m, w'' = w.drewN m :=
  h.mono fun _ _ ⟨he, hm⟩ => ⟨he, n, hm.symm⟩

theorem wrap_u32 (x : Int) : IntKind.u32.wrap x = x % 4294967296 := IntKind.wrap_u32 x

theorem take_snoc' {α : Type} (l : List α) (k : Nat) (r : α) (h : l[k]? = some r) : l.take (k + 1) = l.take k ++ [r] := by
  rw [List.take_add_one, h]; rfl

end Go.Proofs.YtdgmdkkockbkjaaGreatDoor
