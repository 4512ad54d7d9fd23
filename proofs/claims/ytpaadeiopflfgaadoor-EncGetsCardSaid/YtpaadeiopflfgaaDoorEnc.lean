/- Contracts of package enc: the table, and the row that is looked for. -/
import Derived.Test.YtpaadeiopflfgaaDoorIns
import Derived.Test.YtpaadeiopflfgaaDoorDec
namespace Go.Proofs.YtpaadeiopflfgaaDoor
open Go.RowKit
set_option linter.unusedVariables false

/-- The bits that are asked, by the operation's number. -/
def masksL : List Int := [0, 127, 127, 127, 28799, 28799, 28799, 28799, 28799, 28799, 28799, 28799, 28799, 28799, 28799, 28799, 28799, 28799, 28799, 28799, 28799, 28799, 28799, 28799, 28799, 4261441663, 4261441663, 4261441663, 4261441663, 4261441663, 4261441663, 4261441663, 4261441663, 4261441663, 4261441663, 4261441663, 4261441663, 4261441663, 4294967295, 4294967295, 4294967295, 4261441663, 4261441663, 4261441663, 4261441663, 4261441663, 4261441663, 4261441663, 4261441663]

def rowK (op : Int) : Int := masksL.getD op.toNat 0

/-- Where the number of a form lies: from, at, bits; four pieces a form. -/
def placesL : List Int := [0, 0, 0, 0, 0, 0, 0, 0, 0, 0, 0, 0, 12, 12, 20, 0, 0, 0, 0, 0, 0, 0, 0, 0, 20, 31, 1, 12, 12, 8, 11, 20, 1, 1, 21, 10, 12, 31, 1, 11, 7, 1, 5, 25, 6, 1, 8, 4, 0, 20, 12, 0, 0, 0, 0, 0, 0, 0, 0, 0, 5, 25, 7, 0, 7, 5, 0, 0, 0, 0, 0, 0, 0, 20, 12, 0, 0, 0, 0, 0, 0, 0, 0, 0, 0, 20, 5, 0, 0, 0, 0, 0, 0, 0, 0, 0, 0, 0, 0, 0, 0, 0, 0, 0, 0, 0, 0, 0, 0, 0, 0, 0, 0, 0, 0, 0, 0, 0, 0, 0]

/-- The table of places lies where the program has it. -/
def Places (w : World) : Prop := ∀ j v, placesL[j]? = some v → w.cell? ⟨0, j, none⟩ = some (.int .i16 v)

theorem Places.keep {w w' : World} (h : Places w) (hn : Nx w w') : Places w' := fun j v hv => hn.cell (h j v hv)

def row3 (j : Nat) : List Value := [.int .i64 ((j + 1 : Nat) : Int), .int .u32 (rowsM.getD (j + 1) 0), .int .u32 (masksL.getD (j + 1) 0)]

def rowsC : List Value := (List.range 48).flatMap row3

theorem flat3 (f : Nat → List Value) (hf : ∀ j, (f j).length = 3) (n j r : Nat) (hj : j < n) (hr : r < 3) : ((List.range n).flatMap f)[j * 3 + r]? = (f j)[r]? := by
  have hl : ∀ n, ((List.range n).flatMap f).length = n * 3 := by
    intro n
    induction n with
    | zero => rfl
    | succ n ih => rw [List.range_succ, List.flatMap_append, List.length_append, ih]; simp [hf]; omega
  induction n with
  | zero => omega
  | succ n ih =>
    rw [List.range_succ, List.flatMap_append]
    by_cases h : j < n
    · rw [List.getElem?_append_left (by rw [hl]; omega)]; exact ih h
    · have e : j = n := by omega
      subst e
      rw [List.getElem?_append_right (by rw [hl]; omega), hl]
      simp

/-- The table lies in block g. -/
def RowsAt (w : World) (g : Nat) : Prop := ∀ j, j < 48 → w.cell? ⟨g, j * 3, none⟩ = some (.int .i64 ((j : Int) + 1)) ∧ w.cell? ⟨g, j * 3 + 1, none⟩ = some (.int .u32 (rowM ((j : Int) + 1))) ∧ w.cell? ⟨g, j * 3 + 2, none⟩ = some (.int .u32 (rowK ((j : Int) + 1)))

theorem RowsAt.keep {w w' : World} {g : Nat} (h : RowsAt w g) (hn : Nx w w') : RowsAt w' g := fun j hj => ⟨hn.cell (h j hj).1, hn.cell (h j hj).2.1, hn.cell (h j hj).2.2⟩

theorem rowsAt_new (w : World) : RowsAt (w.alloc (.cells rowsC.toArray 37)) w.heap.size := by
  intro j hj
  have k0 := flat3 row3 (fun _ => rfl) 48 j 0 hj (by omega)
  have k1 := flat3 row3 (fun _ => rfl) 48 j 1 hj (by omega)
  have k2 := flat3 row3 (fun _ => rfl) 48 j 2 hj (by omega)
  have e : ((j : Int) + 1).toNat = j + 1 := by omega
  refine ⟨?_, ?_, ?_⟩
  · have : (w.alloc (.cells rowsC.toArray 37)).cell? ⟨w.heap.size, j * 3, none⟩ = rowsC.toArray[j * 3]? := by simp
    rw [this, List.getElem?_toArray]; exact k0
  · have : (w.alloc (.cells rowsC.toArray 37)).cell? ⟨w.heap.size, j * 3 + 1, none⟩ = rowsC.toArray[j * 3 + 1]? := by simp
    rw [this, List.getElem?_toArray]; unfold rowM; rw [e]; exact k1
  · have : (w.alloc (.cells rowsC.toArray 37)).cell? ⟨w.heap.size, j * 3 + 2, none⟩ = rowsC.toArray[j * 3 + 2]? := by simp
    rw [this, List.getElem?_toArray]; unfold rowK; rw [e]; exact k2

theorem three_cells {w w2 : World} {T : TypeId} {a b c : Value} (h : Nx (w.alloc (.cells #[a, b, c] T)) w2) :
    w2.cell? ⟨w.heap.size, 0, none⟩ = some a ∧ w2.cell? ⟨w.heap.size, 1, none⟩ = some b ∧ w2.cell? ⟨w.heap.size, 2, none⟩ = some c ∧
    w2.frozen? ⟨w.heap.size, 0, none⟩ = false ∧ w2.frozen? ⟨w.heap.size, 1, none⟩ = false ∧ w2.frozen? ⟨w.heap.size, 2, none⟩ = false ∧ w.heap.size < w2.heap.size := by
  have hs := h.size
  have e1 : (w.alloc (.cells #[a, b, c] T)).heap.size = w.heap.size + 1 := by simp
  refine ⟨h.cell (by simp), h.cell (by simp), h.cell (by simp), ?_, ?_, ?_, by omega⟩
  all_goals (rw [h.frozen (by rw [e1]; exact Nat.lt_succ_self _)]; simp)

/-- The first row that is as is asked comes back; or none. -/
def Found (w : World) (p : Nat → Bool) (e : Ending) (w' : World) : Prop :=
  (∃ k, k < 48 ∧ p k = true ∧ (∀ j, j < k → p j = false) ∧ e = .returned (.tuple #[.agg #[.int .i64 ((k : Int) + 1), .int .u32 (rowM ((k : Int) + 1)), .int .u32 (rowK ((k : Int) + 1))], .bool true]) ∧ Nx w w') ∨
  ((∀ j, j < 48 → p j = false) ∧ e = .returned (.tuple #[.agg #[.int .i64 0, .int .u32 0, .int .u32 0], .bool false]) ∧ Nx w w')

set_option maxHeartbeats 400000 in
theorem put1_any (a m k op : Int) (b : Nat) (w : World) (hc : w.cell? ⟨b, 0, none⟩ = some (.int .i64 op)) :
    Calls Tryd.prog 18 #[.agg #[.int .i64 a, .int .u32 m, .int .u32 k], .pointer (some ⟨b, 0, none⟩)] w fun e w' => e = .returned (.bool (a == op)) ∧ Nx w w' := by
  have hb := block_lt hc
  go_enter Tryd.func18, Tryd.ntmps18
  go_wp2
  go_ret
  exact ⟨rfl, (Nx.refl _).alloc _⟩

set_option maxHeartbeats 2000000 in
theorem find_put (op : Int) (b : Nat) (g : Nat) (w : World) (hc : w.cell? ⟨b, 0, none⟩ = some (.int .i64 op)) (hr : RowsAt w g) :
    Calls Tryd.prog 17 #[.slice (some ⟨g, 0, none⟩) 48 48, .func (Fn.func 18) #[] #[.pointer (some ⟨b, 0, none⟩)]] w (Found w fun j => (((j : Nat) : Int) + 1 == op)) := by
  have HR := Lib.hid hr
  clear hr
  have HC := Lib.hid hc
  go_enter Tryd.func17, Tryd.ntmps17
  go_wp2
  go_loopw [7, 11] (fun _ i wr => ∃ k : Nat, k ≤ 48 ∧ i = .int .i64 k ∧ Nx (w.alloc (.cells #[.int .i64 0, .int .u32 0, .int .u32 0] 37)) wr ∧ Hid (∀ j, j < k → ((((j : Nat) : Int) + 1 == op)) = false)) (fun _ i _ => 48 - (intOf i).toNat)
  case atStart => exact ⟨0, by omega, rfl, Nx.refl _, Lib.hid (fun j hj => by omega)⟩
  case round =>
    obtain ⟨k, hk, rfl, hnx, hno⟩ := hrel
    have hnw : Nx w wr := ((Nx.refl w).alloc _).trans hnx
    have hcw := hnw.cell HC.out
    obtain ⟨r0, r1, r2, z0, z1, z2, hz⟩ := three_cells hnx
    by_cases hlt : k < 48
    · obtain ⟨a0, a1, a2⟩ := (HR.out.keep hnw) k hlt
      cases hp : (((k : Nat) : Int) + 1 == op)
      · have HP := Lib.hid hp
        clear hp
        go_wp2_with fail
        refine (put1_any _ _ _ op b _ (by first | exact ((Nx.refl wr).alloc _).cell hcw | exact hcw)).mono ?_
        rintro e w2 ⟨rfl, hn2⟩
        have HN2 := Lib.hid (hnx.trans (((Nx.refl wr).alloc _).trans hn2))
        rw [HP.out]
        go_wp2
        go_roundw
        case rel =>
          refine ⟨k + 1, by omega, by go_num, HN2.out, Lib.hid (fun j hj => ?_)⟩
          by_cases ej : j = k
          · rw [ej]; exact HP.out
          · exact hno.out j (by omega)
        case measure => simp [intOf]; omega
      · have HP := Lib.hid hp
        clear hp
        go_wp2_with fail
        refine (put1_any _ _ _ op b _ (by first | exact ((Nx.refl wr).alloc _).cell hcw | exact hcw)).mono ?_
        rintro e w2 ⟨rfl, hn2⟩
        have hn3 := hnx.trans (((Nx.refl wr).alloc _).trans hn2)
        have HB := Lib.hid (((Nx.refl w).alloc _).trans hn3)
        obtain ⟨s0, s1, s2, y0, y1, y2, hy⟩ := three_cells hn3
        obtain ⟨t0, t1, t2, _, _, _, ht⟩ := three_cells hn2
        rw [HP.out]
        go_wp2
        refine bodyPost_ret (v := .tuple #[.agg #[.int .i64 ((k : Int) + 1), .int .u32 (rowM ((k : Int) + 1)), .int .u32 (rowK ((k : Int) + 1))], .bool true]) (by simp [results, Tryd.results17, go_sem, s0, s1, s2]) rfl ?_
        refine Or.inl ⟨k, hlt, HP.out, fun j hj => hno.out j hj, rfl, ?_⟩
        repeat (with_reducible first | refine Nx.setCell ?_ (Nat.le_refl _) _ | refine Nx.alloc ?_ _)
        exact HB.out
    · have HN := Lib.hid (fun j (hj : j < 48) => hno.out j (by omega))
      have HB := Lib.hid hnw
      go_wp2
      refine bodyPost_ret (v := .tuple #[.agg #[.int .i64 0, .int .u32 0, .int .u32 0], .bool false]) (by simp [results, Tryd.results17, go_sem, r0, r1, r2, hz]) rfl ?_
      refine Or.inr ⟨HN.out, rfl, ?_⟩
      repeat (with_reducible first | refine Nx.setCell ?_ (Nat.le_refl _) _ | refine Nx.alloc ?_ _)
      exact HB.out

set_option maxHeartbeats 400000 in
theorem get1_any (a m k x : Int) (b : Nat) (w : World) (hc : w.cell? ⟨b, 0, none⟩ = some (.int .u32 x)) :
    Calls Tryd.prog 34 #[.agg #[.int .i64 a, .int .u32 m, .int .u32 k], .pointer (some ⟨b, 0, none⟩)] w fun e w' => e = .returned (.bool (bits BinOp.and IntKind.u32 x k == m)) ∧ Nx w w' := by
  have hb := block_lt hc
  go_enter Tryd.func34, Tryd.ntmps34
  go_wp2
  go_ret
  exact ⟨rfl, (Nx.refl _).alloc _⟩

set_option maxHeartbeats 2000000 in
theorem find_get (x : Int) (b : Nat) (g : Nat) (w : World) (hc : w.cell? ⟨b, 0, none⟩ = some (.int .u32 x)) (hr : RowsAt w g) :
    Calls Tryd.prog 17 #[.slice (some ⟨g, 0, none⟩) 48 48, .func (Fn.func 34) #[] #[.pointer (some ⟨b, 0, none⟩)]] w (Found w fun j => (bits BinOp.and IntKind.u32 x (rowK (((j : Nat) : Int) + 1)) == rowM (((j : Nat) : Int) + 1))) := by
  have HR := Lib.hid hr
  clear hr
  have HC := Lib.hid hc
  go_enter Tryd.func17, Tryd.ntmps17
  go_wp2
  go_loopw [7, 11] (fun _ i wr => ∃ k : Nat, k ≤ 48 ∧ i = .int .i64 k ∧ Nx (w.alloc (.cells #[.int .i64 0, .int .u32 0, .int .u32 0] 37)) wr ∧ Hid (∀ j, j < k → ((bits BinOp.and IntKind.u32 x (rowK (((j : Nat) : Int) + 1)) == rowM (((j : Nat) : Int) + 1))) = false)) (fun _ i _ => 48 - (intOf i).toNat)
  case atStart => exact ⟨0, by omega, rfl, Nx.refl _, Lib.hid (fun j hj => by omega)⟩
  case round =>
    obtain ⟨k, hk, rfl, hnx, hno⟩ := hrel
    have hnw : Nx w wr := ((Nx.refl w).alloc _).trans hnx
    have hcw := hnw.cell HC.out
    obtain ⟨r0, r1, r2, z0, z1, z2, hz⟩ := three_cells hnx
    by_cases hlt : k < 48
    · obtain ⟨a0, a1, a2⟩ := (HR.out.keep hnw) k hlt
      cases hp : (bits BinOp.and IntKind.u32 x (rowK (((k : Nat) : Int) + 1)) == rowM (((k : Nat) : Int) + 1))
      · have HP := Lib.hid hp
        clear hp
        go_wp2_with fail
        refine (get1_any _ _ _ x b _ (by first | exact ((Nx.refl wr).alloc _).cell hcw | exact hcw)).mono ?_
        rintro e w2 ⟨rfl, hn2⟩
        have HN2 := Lib.hid (hnx.trans (((Nx.refl wr).alloc _).trans hn2))
        rw [HP.out]
        go_wp2
        go_roundw
        case rel =>
          refine ⟨k + 1, by omega, by go_num, HN2.out, Lib.hid (fun j hj => ?_)⟩
          by_cases ej : j = k
          · rw [ej]; exact HP.out
          · exact hno.out j (by omega)
        case measure => simp [intOf]; omega
      · have HP := Lib.hid hp
        clear hp
        go_wp2_with fail
        refine (get1_any _ _ _ x b _ (by first | exact ((Nx.refl wr).alloc _).cell hcw | exact hcw)).mono ?_
        rintro e w2 ⟨rfl, hn2⟩
        have hn3 := hnx.trans (((Nx.refl wr).alloc _).trans hn2)
        have HB := Lib.hid (((Nx.refl w).alloc _).trans hn3)
        obtain ⟨s0, s1, s2, y0, y1, y2, hy⟩ := three_cells hn3
        obtain ⟨t0, t1, t2, _, _, _, ht⟩ := three_cells hn2
        rw [HP.out]
        go_wp2
        refine bodyPost_ret (v := .tuple #[.agg #[.int .i64 ((k : Int) + 1), .int .u32 (rowM ((k : Int) + 1)), .int .u32 (rowK ((k : Int) + 1))], .bool true]) (by simp [results, Tryd.results17, go_sem, s0, s1, s2]) rfl ?_
        refine Or.inl ⟨k, hlt, HP.out, fun j hj => hno.out j hj, rfl, ?_⟩
        repeat (with_reducible first | refine Nx.setCell ?_ (Nat.le_refl _) _ | refine Nx.alloc ?_ _)
        exact HB.out
    · have HN := Lib.hid (fun j (hj : j < 48) => hno.out j (by omega))
      have HB := Lib.hid hnw
      go_wp2
      refine bodyPost_ret (v := .tuple #[.agg #[.int .i64 0, .int .u32 0, .int .u32 0], .bool false]) (by simp [results, Tryd.results17, go_sem, r0, r1, r2, hz]) rfl ?_
      refine Or.inr ⟨HN.out, rfl, ?_⟩
      repeat (with_reducible first | refine Nx.setCell ?_ (Nat.le_refl _) _ | refine Nx.alloc ?_ _)
      exact HB.out

end Go.Proofs.YtpaadeiopflfgaaDoor
