/- Contracts of package typecaseref03: the names, the forms. -/
import Derived.Test.YtdgmdkkockbkjaaGreatDoorRefa
import Derived.Test.YtdgmdkkockbkjaaGreatDoorQuiet
import Derived.Test.YtdgmdkkockbkjaaGreatDoorForms
namespace Go.Proofs.YtdgmdkkockbkjaaGreatDoor
open Go.RowKit
set_option linter.unusedVariables false

/-- A text, by its bytes. -/
abbrev B (l : List UInt8) : ByteArray := ⟨l.toArray⟩

/-- The block g holds these texts, one a cell. -/
def Strs (w : World) (g : Nat) (l : List (List UInt8)) : Prop := ∀ j s, l[j]? = some s → w.cell? ⟨g, j, none⟩ = some (.string (B s))

theorem Strs.keep {w w' : World} {g : Nat} {l : List (List UInt8)} (h : Strs w g l) (hn : Nx w w') : Strs w' g l := fun j s hs => hn.cell (h j s hs)

theorem Strs.new (w : World) (l : List (List UInt8)) (T : TypeId) : Strs (w.alloc (.cells (l.map fun s => Value.string (B s)).toArray T)) w.heap.size l := by
  intro j s hs
  have : ((l.map fun s => Value.string (B s)).toArray)[j]? = some (.string (B s)) := by simp [hs]
  simpa using this

/-- The operations' names, by their numbers. -/
def nmB : List (List UInt8) := [[], [108, 117, 105], [97, 117, 105, 112, 99], [106, 97, 108], [106, 97, 108, 114], [98, 101, 113], [98, 110, 101], [98, 108, 116], [98, 103, 101], [98, 108, 116, 117], [98, 103, 101, 117], [108, 98], [108, 104], [108, 119], [108, 98, 117], [108, 104, 117], [115, 98], [115, 104], [115, 119], [97, 100, 100, 105], [115, 108, 116, 105], [115, 108, 116, 105, 117], [120, 111, 114, 105], [111, 114, 105], [97, 110, 100, 105], [115, 108, 108, 105], [115, 114, 108, 105], [115, 114, 97, 105], [97, 100, 100], [115, 117, 98], [115, 108, 108], [115, 108, 116], [115, 108, 116, 117], [120, 111, 114], [115, 114, 108], [115, 114, 97], [111, 114], [97, 110, 100], [102, 101, 110, 99, 101], [101, 99, 97, 108, 108], [101, 98, 114, 101, 97, 107], [109, 117, 108], [109, 117, 108, 104], [109, 117, 108, 104, 115, 117], [109, 117, 108, 104, 117], [100, 105, 118], [100, 105, 118, 117], [114, 101, 109], [114, 101, 109, 117]]

theorem nmB_cells : (nmB.map fun s => Value.string (B s)).toArray = #[.string (B []), .string (B [108, 117, 105]), .string (B [97, 117, 105, 112, 99]), .string (B [106, 97, 108]), .string (B [106, 97, 108, 114]), .string (B [98, 101, 113]), .string (B [98, 110, 101]), .string (B [98, 108, 116]), .string (B [98, 103, 101]), .string (B [98, 108, 116, 117]), .string (B [98, 103, 101, 117]), .string (B [108, 98]), .string (B [108, 104]), .string (B [108, 119]), .string (B [108, 98, 117]), .string (B [108, 104, 117]), .string (B [115, 98]), .string (B [115, 104]), .string (B [115, 119]), .string (B [97, 100, 100, 105]), .string (B [115, 108, 116, 105]), .string (B [115, 108, 116, 105, 117]), .string (B [120, 111, 114, 105]), .string (B [111, 114, 105]), .string (B [97, 110, 100, 105]), .string (B [115, 108, 108, 105]), .string (B [115, 114, 108, 105]), .string (B [115, 114, 97, 105]), .string (B [97, 100, 100]), .string (B [115, 117, 98]), .string (B [115, 108, 108]), .string (B [115, 108, 116]), .string (B [115, 108, 116, 117]), .string (B [120, 111, 114]), .string (B [115, 114, 108]), .string (B [115, 114, 97]), .string (B [111, 114]), .string (B [97, 110, 100]), .string (B [102, 101, 110, 99, 101]), .string (B [101, 99, 97, 108, 108]), .string (B [101, 98, 114, 101, 97, 107]), .string (B [109, 117, 108]), .string (B [109, 117, 108, 104]), .string (B [109, 117, 108, 104, 115, 117]), .string (B [109, 117, 108, 104, 117]), .string (B [100, 105, 118]), .string (B [100, 105, 118, 117]), .string (B [114, 101, 109]), .string (B [114, 101, 109, 117])] := rfl

set_option maxHeartbeats 1000000 in
theorem names_any (w : World) : Calls Tryz.prog 85 #[] w fun e w' => e = .returned (.slice (some ⟨w.heap.size, 0, none⟩) 49 49) ∧ Strs w' w.heap.size nmB ∧ Nx w w' := by
  have h := Lib.hid (Strs.new w nmB 9)
  go_enter Tryz.func85, Tryz.ntmps85
  go_wp2
  go_ret
  exact ⟨rfl, h.out, (Nx.refl _).alloc _⟩

/-- The document's lists of names, by form. -/
def llB : List (List (List UInt8)) := [[[108, 117, 105], [97, 117, 105, 112, 99]], [[106, 97, 108]], [[98, 101, 113], [98, 110, 101], [98, 108, 116], [98, 103, 101], [98, 108, 116, 117], [98, 103, 101, 117]], [[108, 98], [108, 104], [108, 119], [108, 98, 117], [108, 104, 117], [106, 97, 108, 114]], [[115, 98], [115, 104], [115, 119]], [[97, 100, 100, 105], [115, 108, 116, 105], [115, 108, 116, 105, 117], [120, 111, 114, 105], [111, 114, 105], [97, 110, 100, 105]], [[115, 108, 108, 105], [115, 114, 108, 105], [115, 114, 97, 105]], [], [[102, 101, 110, 99, 101], [101, 99, 97, 108, 108], [101, 98, 114, 101, 97, 107]]]

def llN (k : Nat) : Nat := (llB.getD k []).length

theorem find_form (n k i : Nat) (hn : n ≤ 48) (h1 : 1 ≤ n) (hk : k < 9) (hi : (llB.getD k [])[i]? = some (nmB.getD n [])) : ((k : Int) + 1) = formN n := by
  have h2 : ∀ n : Fin 49, ∀ k : Fin 9, ∀ i : Fin 6, 1 ≤ n.val → (llB.getD k.val [])[i.val]? = some (nmB.getD n.val []) → ((k.val : Int) + 1) = formN n.val := by decide +kernel
  have hi6 : i < 6 := by
    have hl : i < (llB.getD k []).length := (List.getElem?_eq_some_iff.1 hi).1
    have : ∀ k : Fin 9, (llB.getD k.val []).length ≤ 6 := by decide
    have h3 : (llB.getD k []).length ≤ 6 := this ⟨k, hk⟩
    omega
  exact h2 ⟨n, by omega⟩ ⟨k, hk⟩ ⟨i, hi6⟩ h1 hi

theorem find_none (n : Nat) (hn : n ≤ 48) (h1 : 1 ≤ n) (h : ∀ k i, k < 9 → i < llN k → ¬ (llB.getD k [])[i]? = some (nmB.getD n [])) : (8 : Int) = formN n := by
  have h2 : ∀ n : Fin 49, 1 ≤ n.val → (∀ k : Fin 9, ∀ i : Fin (llN k.val), ¬ (llB.getD k.val [])[i.val]? = some (nmB.getD n.val [])) → (8 : Int) = formN n.val := by decide +kernel
  exact h2 ⟨n, by omega⟩ h1 (fun k i => h k.val i.val k.isLt i.isLt)

def lw0 (w : World) : World := w

def lw1 (w : World) : World := (lw0 w).alloc (.cells #[.string (B [108, 117, 105]), .string (B [97, 117, 105, 112, 99])] 9)

def lw2 (w : World) : World := (lw1 w).alloc (.cells #[.string (B [106, 97, 108])] 9)

def lw3 (w : World) : World := (lw2 w).alloc (.cells #[.string (B [98, 101, 113]), .string (B [98, 110, 101]), .string (B [98, 108, 116]), .string (B [98, 103, 101]), .string (B [98, 108, 116, 117]), .string (B [98, 103, 101, 117])] 9)

def lw4 (w : World) : World := (lw3 w).alloc (.cells #[.string (B [108, 98]), .string (B [108, 104]), .string (B [108, 119]), .string (B [108, 98, 117]), .string (B [108, 104, 117]), .string (B [106, 97, 108, 114])] 9)

def lw5 (w : World) : World := (lw4 w).alloc (.cells #[.string (B [115, 98]), .string (B [115, 104]), .string (B [115, 119])] 9)

def lw6 (w : World) : World := (lw5 w).alloc (.cells #[.string (B [97, 100, 100, 105]), .string (B [115, 108, 116, 105]), .string (B [115, 108, 116, 105, 117]), .string (B [120, 111, 114, 105]), .string (B [111, 114, 105]), .string (B [97, 110, 100, 105])] 9)

def lw7 (w : World) : World := (lw6 w).alloc (.cells #[.string (B [115, 108, 108, 105]), .string (B [115, 114, 108, 105]), .string (B [115, 114, 97, 105])] 9)

def lw8 (w : World) : World := (lw7 w).alloc (.cells #[.string (B [102, 101, 110, 99, 101]), .string (B [101, 99, 97, 108, 108]), .string (B [101, 98, 114, 101, 97, 107])] 9)

/-- The world in which the lists lie. -/
def llW (w : World) : World := (lw8 w).alloc (.cells #[.slice (some ⟨w.heap.size, 0, none⟩) 2 2, .slice (some ⟨w.heap.size + 1, 0, none⟩) 1 1, .slice (some ⟨w.heap.size + 2, 0, none⟩) 6 6, .slice (some ⟨w.heap.size + 3, 0, none⟩) 6 6, .slice (some ⟨w.heap.size + 4, 0, none⟩) 3 3, .slice (some ⟨w.heap.size + 5, 0, none⟩) 6 6, .slice (some ⟨w.heap.size + 6, 0, none⟩) 3 3, .slice none 0 0, .slice (some ⟨w.heap.size + 7, 0, none⟩) 3 3] 57)

theorem lw_size (w : World) : (lw0 w).heap.size = w.heap.size ∧ (lw1 w).heap.size = w.heap.size + 1 ∧ (lw2 w).heap.size = w.heap.size + 2 ∧ (lw3 w).heap.size = w.heap.size + 3 ∧ (lw4 w).heap.size = w.heap.size + 4 ∧ (lw5 w).heap.size = w.heap.size + 5 ∧ (lw6 w).heap.size = w.heap.size + 6 ∧ (lw7 w).heap.size = w.heap.size + 7 ∧ (lw8 w).heap.size = w.heap.size + 8 := by
  simp [lw0, lw1, lw2, lw3, lw4, lw5, lw6, lw7, lw8]

theorem lwn8 (w : World) : Nx (lw8 w) (llW w) := (Nx.refl _).alloc _

theorem lwn7 (w : World) : Nx (lw7 w) (llW w) := ((Nx.refl _).alloc _).trans (lwn8 w)

theorem lwn6 (w : World) : Nx (lw6 w) (llW w) := ((Nx.refl _).alloc _).trans (lwn7 w)

theorem lwn5 (w : World) : Nx (lw5 w) (llW w) := ((Nx.refl _).alloc _).trans (lwn6 w)

theorem lwn4 (w : World) : Nx (lw4 w) (llW w) := ((Nx.refl _).alloc _).trans (lwn5 w)

theorem lwn3 (w : World) : Nx (lw3 w) (llW w) := ((Nx.refl _).alloc _).trans (lwn4 w)

theorem lwn2 (w : World) : Nx (lw2 w) (llW w) := ((Nx.refl _).alloc _).trans (lwn3 w)

theorem lwn1 (w : World) : Nx (lw1 w) (llW w) := ((Nx.refl _).alloc _).trans (lwn2 w)

theorem llW_nx (w : World) : Nx w (llW w) := ((Nx.refl (lw0 w)).alloc _).trans (lwn1 w)

theorem llW_outer (w : World) (k : Nat) (v : Value) (h : (#[.slice (some ⟨w.heap.size, 0, none⟩) 2 2, .slice (some ⟨w.heap.size + 1, 0, none⟩) 1 1, .slice (some ⟨w.heap.size + 2, 0, none⟩) 6 6, .slice (some ⟨w.heap.size + 3, 0, none⟩) 6 6, .slice (some ⟨w.heap.size + 4, 0, none⟩) 3 3, .slice (some ⟨w.heap.size + 5, 0, none⟩) 6 6, .slice (some ⟨w.heap.size + 6, 0, none⟩) 3 3, .slice none 0 0, .slice (some ⟨w.heap.size + 7, 0, none⟩) 3 3] : Array Value)[k]? = some v) : (llW w).cell? ⟨w.heap.size + 8, k, none⟩ = some v := by
  have e : w.heap.size + 8 = (lw8 w).heap.size := (lw_size w).2.2.2.2.2.2.2.2.symm
  rw [e]
  unfold llW
  simpa using h

theorem llW_rows (w : World) (k : Nat) (hk : k < 9) : ∃ A, (llW w).cell? ⟨w.heap.size + 8, k, none⟩ = some (.slice A (llN k) (llN k)) ∧ (0 < llN k → ∃ g, A = some ⟨g, 0, none⟩ ∧ Strs (llW w) g (llB.getD k [])) := by
  obtain ⟨e0, e1, e2, e3, e4, e5, e6, e7, e8⟩ := lw_size w
  match k, hk with
  | 0, _ => exact ⟨some ⟨w.heap.size, 0, none⟩, llW_outer w 0 _ rfl, fun _ => ⟨_, rfl, by have h := (Strs.new (lw0 w) (llB.getD 0 []) 9).keep (lwn1 w); rw [e0] at h; exact h⟩⟩
  | 1, _ => exact ⟨some ⟨w.heap.size + 1, 0, none⟩, llW_outer w 1 _ rfl, fun _ => ⟨_, rfl, by have h := (Strs.new (lw1 w) (llB.getD 1 []) 9).keep (lwn2 w); rw [e1] at h; exact h⟩⟩
  | 2, _ => exact ⟨some ⟨w.heap.size + 2, 0, none⟩, llW_outer w 2 _ rfl, fun _ => ⟨_, rfl, by have h := (Strs.new (lw2 w) (llB.getD 2 []) 9).keep (lwn3 w); rw [e2] at h; exact h⟩⟩
  | 3, _ => exact ⟨some ⟨w.heap.size + 3, 0, none⟩, llW_outer w 3 _ rfl, fun _ => ⟨_, rfl, by have h := (Strs.new (lw3 w) (llB.getD 3 []) 9).keep (lwn4 w); rw [e3] at h; exact h⟩⟩
  | 4, _ => exact ⟨some ⟨w.heap.size + 4, 0, none⟩, llW_outer w 4 _ rfl, fun _ => ⟨_, rfl, by have h := (Strs.new (lw4 w) (llB.getD 4 []) 9).keep (lwn5 w); rw [e4] at h; exact h⟩⟩
  | 5, _ => exact ⟨some ⟨w.heap.size + 5, 0, none⟩, llW_outer w 5 _ rfl, fun _ => ⟨_, rfl, by have h := (Strs.new (lw5 w) (llB.getD 5 []) 9).keep (lwn6 w); rw [e5] at h; exact h⟩⟩
  | 6, _ => exact ⟨some ⟨w.heap.size + 6, 0, none⟩, llW_outer w 6 _ rfl, fun _ => ⟨_, rfl, by have h := (Strs.new (lw6 w) (llB.getD 6 []) 9).keep (lwn7 w); rw [e6] at h; exact h⟩⟩
  | 7, _ => exact ⟨none, llW_outer w 7 _ rfl, fun h => absurd h (by decide)⟩
  | 8, _ => exact ⟨some ⟨w.heap.size + 7, 0, none⟩, llW_outer w 8 _ rfl, fun _ => ⟨_, rfl, by have h := (Strs.new (lw7 w) (llB.getD 8 []) 9).keep (lwn8 w); rw [e7] at h; exact h⟩⟩

end Go.Proofs.YtdgmdkkockbkjaaGreatDoor
