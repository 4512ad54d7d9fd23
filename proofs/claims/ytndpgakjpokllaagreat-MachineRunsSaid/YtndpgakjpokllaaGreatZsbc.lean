/- Parts of the proof, one behind the other. -/
import Derived.Sort.AssemblyPlain
import Derived.Sort.Row
import Derived.Deep.AppendLies
import Derived.Test.YtndpgakjpokllaaGreatZsac
/- slices.Sort at uint32: the row, and what the functions say of it. -/
namespace Go.Proofs.YtndpgakjpokllaaGreat
open Go.RowKit
set_option linter.unusedVariables false
set_option linter.unusedSimpArgs false

/-- Block g holds these words, from its head on, and none is frozen. -/
def Row (w : World) (g : Nat) (d : Array Int) : Prop := ∀ j, j < d.size → w.cell? ⟨g, j, none⟩ = some (.int .u32 d[j]!) ∧ w.frozen? ⟨g, j, none⟩ = false

theorem Row.lt {w : World} {g : Nat} {d : Array Int} (h : Row w g d) (hd : 0 < d.size) : g < w.heap.size := block_lt (h 0 hd).1

theorem Row.drew {w : World} {g : Nat} {d : Array Int} (h : Row w g d) : Row w.drew g d := h

theorem Row.kept {w w' : World} {g : Nat} {d : Array Int} {r : Option Nat} (h : Row w g d) (hg : w.grownBy w' r) (hr : r ≠ some g) (hl : g < w.heap.size) : Row w' g d := fun j hj =>
  ⟨hg.cell (h j hj).1 (fun e => hr e.symm), (hg.frozen_far ⟨g, j, none⟩ hl (fun e => hr e.symm)).trans (h j hj).2⟩

theorem wrapI {x : Int} (h0 : -1000000000 ≤ x) (h1 : x ≤ 1000000000) : IntKind.i64.wrap x = x := by
  rw [IntKind.wrap_i64]
  omega

theorem swp_size (d : Array Int) (i j : Nat) : (Sort.swp d i j).size = d.size := by simp [Sort.swp]

/-- Two words change places. -/
theorem Row.swp {w : World} {g : Nat} {d : Array Int} (h : Row w g d) {i j : Nat} (hi : i < d.size) (hj : j < d.size) :
    Row ((w.setCell ⟨g, i, none⟩ (.int .u32 d[j]!)).setCell ⟨g, j, none⟩ (.int .u32 d[i]!)) g (Sort.swp d i j) := by
  have hH : Sort.Holds (Value.int .u32) w g 0 d := fun k hk => by rw [Nat.zero_add]; exact h k hk
  have e := Sort.putRow_swp (Value.int .u32) w g 0 d i j hi hj
  rw [Sort.putRow_self _ w g 0 d hH, Nat.zero_add, Nat.zero_add] at e
  intro k hk
  have := Sort.holds_putRow (Value.int .u32) w g 0 d (Sort.swp d i j) hH (swp_size d i j) k hk
  rw [Nat.zero_add] at this
  rw [e]
  exact this

theorem gb_set {a w : World} {g : Nat} (h : a.grownBy w (some g)) (k : Nat) (u : Value) : a.grownBy (w.setCell ⟨g, k, none⟩ u) (some g) :=
  ⟨h.os, h.tape, h.output, by simpa using h.size, fun x hx hne => (Below.heap_setCell w ⟨g, k, none⟩ u x (fun e => hne (by rw [e]))).trans (h.block x hx hne)⟩

theorem Row.nx {w w' : World} {g : Nat} {d : Array Int} (h : Row w g d) (hn : Nx w w') : Row w' g d := fun j hj =>
  ⟨hn.cell (h j hj).1, (World.frozen?_of_block (Below.block hn g (block_lt (h j hj).1))).trans (h j hj).2⟩

theorem gb_nx {a w w' : World} {r : Option Nat} (h : a.grownBy w r) (hn : Nx w w') : a.grownBy w' r :=
  ⟨hn.os.trans h.os, hn.tape.trans h.tape, hn.output.trans h.output, Nat.le_trans h.size hn.size, fun k hk hne => (Below.block hn k (Nat.lt_of_lt_of_le hk h.size)).trans (h.block k hk hne)⟩

theorem gb_drew {a w : World} {r : Option Nat} (h : a.grownBy w r) : a.grownBy w.drew r := ⟨h.os, h.tape, h.output, h.size, h.block⟩

/-- What comes of a function that turns the row. -/
def RetSw (g : Nat) (d' : Array Int) (w : World) (e : Ending) (w' : World) : Prop := e = .returned (.tuple #[]) ∧ w.grownBy w' (some g) ∧ Row w' g d'

theorem isNaN_any (x : Int) (w : World) : Calls Tryz.prog 132 #[.int .u32 x] w fun e w' => e = .returned (.bool false) ∧ w' = w := by
  go_enter Tryz.func132, Tryz.ntmps132
  go_wp2
  go_ret
  exact ⟨rfl, rfl⟩

theorem less_any (x y : Int) (w : World) : Calls Tryz.prog 121 #[.int .u32 x, .int .u32 y] w fun e w' => e = .returned (.bool (Sort.ltInt x y)) ∧ w' = w := by
  go_enter Tryz.func121, Tryz.ntmps121
  go_wp2_with (go_at_call 132; refine (isNaN_any _ _).mono ?_; rintro e w' ⟨rfl, rfl⟩)
  go_ret
  exact ⟨rfl, rfl⟩

theorem less_nx (x y : Int) (w : World) : Calls Tryz.prog 121 #[.int .u32 x, .int .u32 y] w fun e w' => e = .returned (.bool (Sort.ltInt x y)) ∧ Nx w w' :=
  (less_any x y w).mono fun _ _ h => ⟨h.1, by rw [h.2]; exact Nx.refl _⟩

end Go.Proofs.YtndpgakjpokllaaGreat

