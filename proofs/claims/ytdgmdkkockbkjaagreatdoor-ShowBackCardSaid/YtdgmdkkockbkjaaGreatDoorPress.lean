/- Contracts of package press: the table; what is asked of a register. -/
import Derived.Test.YtdgmdkkockbkjaaGreatDoorIns
import Derived.Test.YtdgmdkkockbkjaaGreatDoorRefc
import Derived.Test.YtdgmdkkockbkjaaGreatDoorRow
import Derived.Great.BuildSlice
import Derived.Great.Walk
namespace Go.Proofs.YtdgmdkkockbkjaaGreatDoor
open Go.RowKit
set_option linter.unusedVariables false
set_option linter.unusedSimpArgs false

/-- A row of the table of shorts. -/
structure PR where
  name : List UInt8
  op : Int
  rd : Int
  rs1 : Int
  rs2 : Int
  least : Int
  most : Int
  step : Int
  nt : Int
  bits : List UInt8

/-- Its cells. -/
abbrev rowC (r : PR) : List Value := [.string (B r.name), .int .i64 r.op, .int .i64 r.rd, .int .i64 r.rs1, .int .i64 r.rs2, .int .i32 r.least, .int .i32 r.most, .int .i32 r.step, .int .i32 r.nt, .string (B r.bits)]

def rowsL : List PR := [
  ⟨[99, 46, 97, 100, 100, 105, 52, 115, 112, 110], 19, 4, 2, 0, 4, 1020, 4, 0, [48, 48, 48, 102, 101, 106, 105, 104, 103, 99, 100, 68, 68, 68, 48, 48]⟩,
  ⟨[99, 46, 108, 119], 13, 4, 4, 0, 0, 124, 4, 0, [48, 49, 48, 102, 101, 100, 83, 83, 83, 99, 103, 68, 68, 68, 48, 48]⟩,
  ⟨[99, 46, 115, 119], 18, 0, 4, 4, 0, 124, 4, 0, [49, 49, 48, 102, 101, 100, 83, 83, 83, 99, 103, 84, 84, 84, 48, 48]⟩,
  ⟨[99, 46, 110, 111, 112], 19, 0, 0, 0, 0, 0, 1, 0, [48, 48, 48, 48, 48, 48, 48, 48, 48, 48, 48, 48, 48, 48, 48, 49]⟩,
  ⟨[99, 46, 97, 100, 100, 105], 19, 5, 7, 0, (-32), 31, 1, 1, [48, 48, 48, 102, 68, 68, 68, 68, 68, 101, 100, 99, 98, 97, 48, 49]⟩,
  ⟨[99, 46, 106, 97, 108], 3, 1, 0, 0, (-2048), 2046, 2, 0, [48, 48, 49, 108, 101, 106, 105, 107, 103, 104, 100, 99, 98, 102, 48, 49]⟩,
  ⟨[99, 46, 108, 105], 19, 5, 0, 0, (-32), 31, 1, 0, [48, 49, 48, 102, 68, 68, 68, 68, 68, 101, 100, 99, 98, 97, 48, 49]⟩,
  ⟨[99, 46, 97, 100, 100, 105, 49, 54, 115, 112], 19, 2, 7, 0, (-512), 496, 16, 1, [48, 49, 49, 106, 48, 48, 48, 49, 48, 101, 103, 105, 104, 102, 48, 49]⟩,
  ⟨[99, 46, 108, 117, 105], 1, 6, 0, 0, (-131072), 126976, 4096, 1, [48, 49, 49, 114, 68, 68, 68, 68, 68, 113, 112, 111, 110, 109, 48, 49]⟩,
  ⟨[99, 46, 115, 114, 108, 105], 26, 4, 7, 0, 1, 31, 1, 0, [49, 48, 48, 48, 48, 48, 68, 68, 68, 101, 100, 99, 98, 97, 48, 49]⟩,
  ⟨[99, 46, 115, 114, 97, 105], 27, 4, 7, 0, 1, 31, 1, 0, [49, 48, 48, 48, 48, 49, 68, 68, 68, 101, 100, 99, 98, 97, 48, 49]⟩,
  ⟨[99, 46, 97, 110, 100, 105], 24, 4, 7, 0, (-32), 31, 1, 0, [49, 48, 48, 102, 49, 48, 68, 68, 68, 101, 100, 99, 98, 97, 48, 49]⟩,
  ⟨[99, 46, 115, 117, 98], 29, 4, 7, 4, 0, 0, 1, 0, [49, 48, 48, 48, 49, 49, 68, 68, 68, 48, 48, 84, 84, 84, 48, 49]⟩,
  ⟨[99, 46, 120, 111, 114], 33, 4, 7, 4, 0, 0, 1, 0, [49, 48, 48, 48, 49, 49, 68, 68, 68, 48, 49, 84, 84, 84, 48, 49]⟩,
  ⟨[99, 46, 111, 114], 36, 4, 7, 4, 0, 0, 1, 0, [49, 48, 48, 48, 49, 49, 68, 68, 68, 49, 48, 84, 84, 84, 48, 49]⟩,
  ⟨[99, 46, 97, 110, 100], 37, 4, 7, 4, 0, 0, 1, 0, [49, 48, 48, 48, 49, 49, 68, 68, 68, 49, 49, 84, 84, 84, 48, 49]⟩,
  ⟨[99, 46, 106], 3, 0, 0, 0, (-2048), 2046, 2, 0, [49, 48, 49, 108, 101, 106, 105, 107, 103, 104, 100, 99, 98, 102, 48, 49]⟩,
  ⟨[99, 46, 98, 101, 113, 122], 5, 0, 4, 0, (-256), 254, 2, 0, [49, 49, 48, 105, 101, 100, 83, 83, 83, 104, 103, 99, 98, 102, 48, 49]⟩,
  ⟨[99, 46, 98, 110, 101, 122], 6, 0, 4, 0, (-256), 254, 2, 0, [49, 49, 49, 105, 101, 100, 83, 83, 83, 104, 103, 99, 98, 102, 48, 49]⟩,
  ⟨[99, 46, 115, 108, 108, 105], 25, 5, 7, 0, 1, 31, 1, 0, [48, 48, 48, 48, 68, 68, 68, 68, 68, 101, 100, 99, 98, 97, 49, 48]⟩,
  ⟨[99, 46, 108, 119, 115, 112], 13, 5, 2, 0, 0, 252, 4, 0, [48, 49, 48, 102, 68, 68, 68, 68, 68, 101, 100, 99, 104, 103, 49, 48]⟩,
  ⟨[99, 46, 106, 114], 4, 0, 5, 0, 0, 0, 1, 0, [49, 48, 48, 48, 83, 83, 83, 83, 83, 48, 48, 48, 48, 48, 49, 48]⟩,
  ⟨[99, 46, 109, 118], 28, 5, 0, 5, 0, 0, 1, 0, [49, 48, 48, 48, 68, 68, 68, 68, 68, 84, 84, 84, 84, 84, 49, 48]⟩,
  ⟨[99, 46, 101, 98, 114, 101, 97, 107], 40, 0, 0, 0, 0, 0, 1, 0, [49, 48, 48, 49, 48, 48, 48, 48, 48, 48, 48, 48, 48, 48, 49, 48]⟩,
  ⟨[99, 46, 106, 97, 108, 114], 4, 1, 5, 0, 0, 0, 1, 0, [49, 48, 48, 49, 83, 83, 83, 83, 83, 48, 48, 48, 48, 48, 49, 48]⟩,
  ⟨[99, 46, 97, 100, 100], 28, 5, 7, 5, 0, 0, 1, 0, [49, 48, 48, 49, 68, 68, 68, 68, 68, 84, 84, 84, 84, 84, 49, 48]⟩,
  ⟨[99, 46, 115, 119, 115, 112], 18, 0, 2, 3, 0, 252, 4, 0, [49, 49, 48, 102, 101, 100, 99, 104, 103, 84, 84, 84, 84, 84, 49, 48]⟩]

def pressC : List Value := rowsL.flatMap rowC

theorem flat10 (f : PR → List Value) (hf : ∀ r, (f r).length = 10) (l : List PR) (j k : Nat) (r : PR) (hk : k < 10) (h : l[j]? = some r) : (l.flatMap f)[j * 10 + k]? = (f r)[k]? := by
  induction l generalizing j with
  | nil => simp at h
  | cons a t ih =>
    cases j with
    | zero =>
      simp at h; subst h
      rw [List.flatMap_cons, List.getElem?_append_left (by rw [hf]; omega)]
      simp
    | succ j =>
      rw [List.flatMap_cons, List.getElem?_append_right (by rw [hf]; omega), hf]
      have := ih j (by simpa using h)
      rw [← this]
      congr 1
      omega

/-- The table lies in block g. -/
def RowsP (w : World) (g : Nat) : Prop := ∀ j r, rowsL[j]? = some r → w.rangeAt g (j * 10) (rowC r)

theorem RowsP.keep {w w' : World} {g : Nat} (h : RowsP w g) (hn : Nx w w') : RowsP w' g := fun j r hr k v hv => hn.cell (h j r hr k v hv)

theorem rowsP_new (w : World) : RowsP (w.alloc (.cells pressC.toArray 94)) w.heap.size := by
  intro j r hr k v hv
  have hk : k < 10 := by
    have := (List.getElem?_eq_some_iff.1 hv).1
    simpa using this
  have e := flat10 rowC (fun _ => rfl) rowsL j k r hk hr
  have : (w.alloc (.cells pressC.toArray 94)).cell? ⟨w.heap.size, j * 10 + k, none⟩ = pressC.toArray[j * 10 + k]? := by simp
  rw [this, List.getElem?_toArray]
  unfold pressC
  rw [e, hv]

def rowCl (k : Nat) : Array Value := (rowC (rowsL.getD k ⟨[], 0, 0, 0, 0, 0, 0, 0, 0, []⟩)).toArray

set_option maxRecDepth 100000 in
set_option maxHeartbeats 2000000 in
theorem prows_any (w : World) : Calls Tryz.prog 54 #[] w fun e w' => e = .returned (.slice (some ⟨w.heap.size, 0, none⟩) 27 27) ∧ RowsP w' w.heap.size ∧ Nx w w' := by
  have h := Lib.hid (rowsP_new w)
  go_enter Tryz.func54, Tryz.ntmps54
  go_wp2_with (first | (with_reducible refine wpList_buildTo rfl 94 _ rfl (some 1) rfl (rowCl 0) (by kernel_rfl) ?_) | (with_reducible refine wpList_buildTo rfl 94 _ rfl (some 2) rfl (rowCl 1) (by kernel_rfl) ?_) | (with_reducible refine wpList_buildTo rfl 94 _ rfl (some 3) rfl (rowCl 2) (by kernel_rfl) ?_) | (with_reducible refine wpList_buildTo rfl 94 _ rfl (some 4) rfl (rowCl 3) (by kernel_rfl) ?_) | (with_reducible refine wpList_buildTo rfl 94 _ rfl (some 5) rfl (rowCl 4) (by kernel_rfl) ?_) | (with_reducible refine wpList_buildTo rfl 94 _ rfl (some 6) rfl (rowCl 5) (by kernel_rfl) ?_) | (with_reducible refine wpList_buildTo rfl 94 _ rfl (some 7) rfl (rowCl 6) (by kernel_rfl) ?_) | (with_reducible refine wpList_buildTo rfl 94 _ rfl (some 8) rfl (rowCl 7) (by kernel_rfl) ?_) | (with_reducible refine wpList_buildTo rfl 94 _ rfl (some 9) rfl (rowCl 8) (by kernel_rfl) ?_) | (with_reducible refine wpList_buildTo rfl 94 _ rfl (some 10) rfl (rowCl 9) (by kernel_rfl) ?_) | (with_reducible refine wpList_buildTo rfl 94 _ rfl (some 11) rfl (rowCl 10) (by kernel_rfl) ?_) | (with_reducible refine wpList_buildTo rfl 94 _ rfl (some 12) rfl (rowCl 11) (by kernel_rfl) ?_) | (with_reducible refine wpList_buildTo rfl 94 _ rfl (some 13) rfl (rowCl 12) (by kernel_rfl) ?_) | (with_reducible refine wpList_buildTo rfl 94 _ rfl (some 14) rfl (rowCl 13) (by kernel_rfl) ?_) | (with_reducible refine wpList_buildTo rfl 94 _ rfl (some 15) rfl (rowCl 14) (by kernel_rfl) ?_) | (with_reducible refine wpList_buildTo rfl 94 _ rfl (some 16) rfl (rowCl 15) (by kernel_rfl) ?_) | (with_reducible refine wpList_buildTo rfl 94 _ rfl (some 17) rfl (rowCl 16) (by kernel_rfl) ?_) | (with_reducible refine wpList_buildTo rfl 94 _ rfl (some 18) rfl (rowCl 17) (by kernel_rfl) ?_) | (with_reducible refine wpList_buildTo rfl 94 _ rfl (some 19) rfl (rowCl 18) (by kernel_rfl) ?_) | (with_reducible refine wpList_buildTo rfl 94 _ rfl (some 20) rfl (rowCl 19) (by kernel_rfl) ?_) | (with_reducible refine wpList_buildTo rfl 94 _ rfl (some 21) rfl (rowCl 20) (by kernel_rfl) ?_) | (with_reducible refine wpList_buildTo rfl 94 _ rfl (some 22) rfl (rowCl 21) (by kernel_rfl) ?_) | (with_reducible refine wpList_buildTo rfl 94 _ rfl (some 23) rfl (rowCl 22) (by kernel_rfl) ?_) | (with_reducible refine wpList_buildTo rfl 94 _ rfl (some 24) rfl (rowCl 23) (by kernel_rfl) ?_) | (with_reducible refine wpList_buildTo rfl 94 _ rfl (some 25) rfl (rowCl 24) (by kernel_rfl) ?_) | (with_reducible refine wpList_buildTo rfl 94 _ rfl (some 26) rfl (rowCl 25) (by kernel_rfl) ?_) | (with_reducible refine wpList_buildTo rfl 94 _ rfl (some 27) rfl (rowCl 26) (by kernel_rfl) ?_) | (with_reducible refine Great.wpList_buildSliceTo rfl 125 94 27 _ rfl w.heap.size rfl (some 28) rfl Tryz.underlying125 pressC.toArray (by kernel_rfl) ?_))
  go_ret
  exact ⟨rfl, h.out, (Nx.refl _).alloc _⟩

/-- Is a register as is asked? -/
def kindB (k n rd : Int) : Bool :=
  if k = 0 ∨ k = 1 ∨ k = 2 then n == k
  else if k = 4 then decide (8 ≤ n) && decide (n < 16)
  else if k = 6 then !(n == 2) && !(n == 0)
  else if k = 5 then !(n == 0)
  else if k = 7 then n == rd
  else true

set_option maxHeartbeats 1000000 in
theorem is_any (k n rd : Int) (w : World) (h0 : 0 ≤ k) (h1 : k ≤ 7) : Calls Tryz.prog 55 #[.int .i64 k, .int .i64 n, .int .i64 rd] w fun e w' => e = .returned (.bool (kindB k n rd)) ∧ w = w' := by
  rcases (by omega : k = 0 ∨ k = 1 ∨ k = 2 ∨ k = 3 ∨ k = 4 ∨ k = 5 ∨ k = 6 ∨ k = 7) with rfl | rfl | rfl | rfl | rfl | rfl | rfl | rfl
  · go_enter Tryz.func55, Tryz.ntmps55
    go_wp2
    go_ret
    exact ⟨rfl, rfl⟩
  · go_enter Tryz.func55, Tryz.ntmps55
    go_wp2
    go_ret
    exact ⟨rfl, rfl⟩
  · go_enter Tryz.func55, Tryz.ntmps55
    go_wp2
    go_ret
    exact ⟨rfl, rfl⟩
  · go_enter Tryz.func55, Tryz.ntmps55
    go_wp2
    go_ret
    exact ⟨rfl, rfl⟩
  · cases h : decide (8 ≤ n)
    · have h2 : ¬ 8 ≤ n := by simpa using h
      have e : kindB 4 n rd = false := by simp [kindB, h]
      rw [e]
      go_enter Tryz.func55, Tryz.ntmps55
      go_wp2
      go_ret
      exact ⟨rfl, rfl⟩
    · have h2 : 8 ≤ n := by simpa using h
      have e : kindB 4 n rd = decide (n < 16) := by simp [kindB, h]
      rw [e]
      go_enter Tryz.func55, Tryz.ntmps55
      go_wp2
      go_ret
      exact ⟨rfl, rfl⟩
  · go_enter Tryz.func55, Tryz.ntmps55
    go_wp2
    go_ret
    exact ⟨ret_bool (by simp [kindB, bne]), rfl⟩
  · cases h : (n == 2)
    · have e : kindB 6 n rd = !(n == 0) := by simp [kindB, h]
      rw [e]
      go_enter Tryz.func55, Tryz.ntmps55
      go_wp2
      go_ret
      exact ⟨ret_bool (by simp [bne]), rfl⟩
    · have e : kindB 6 n rd = false := by simp [kindB, h]
      rw [e]
      go_enter Tryz.func55, Tryz.ntmps55
      go_wp2
      go_ret
      exact ⟨rfl, rfl⟩
  · go_enter Tryz.func55, Tryz.ntmps55
    go_wp2
    go_ret
    exact ⟨rfl, rfl⟩

end Go.Proofs.YtdgmdkkockbkjaaGreatDoor
