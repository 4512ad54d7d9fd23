/- Parts of the proof, one behind the other. -/
import Derived.Test.YtppnmaklggkogaaZao
/- Contracts of package typecaseref09: places. -/
namespace Go.Proofs.Ytppnmaklggkogaa
open Go.RowKit
set_option linter.unusedVariables false
set_option linter.unusedSimpArgs false

/-- Where the bits of the numbers lie, from the highest on. -/
def plL : List (List Int) := [[10, 9, 8, 7, 12, 11, 5, 6], [5, 12, 11, 10, 6], [5, 12, 11, 10, 6], [], [12, 6, 5, 4, 3, 2], [12, 8, 10, 9, 6, 7, 2, 11, 5, 4, 3], [12, 6, 5, 4, 3, 2], [12, 4, 3, 5, 2, 6], [12, 6, 5, 4, 3, 2], [6, 5, 4, 3, 2], [6, 5, 4, 3, 2], [12, 6, 5, 4, 3, 2], [], [], [], [], [12, 8, 10, 9, 6, 7, 2, 11, 5, 4, 3], [12, 6, 5, 2, 11, 10, 4, 3], [12, 6, 5, 2, 11, 10, 4, 3], [6, 5, 4, 3, 2], [3, 2, 12, 6, 5, 4], [], [], [], [], [], [8, 7, 12, 11, 10, 9]]

/-- Of what the numbers are multiples. -/
def unL : List Int := [4, 4, 4, 1, 1, 2, 1, 16, 4096, 1, 1, 1, 1, 1, 1, 1, 2, 2, 2, 1, 4, 1, 1, 1, 1, 1, 4]

def RetPl (l : List Int) (u : Int) (w : World) (e : Ending) (w' : World) : Prop := ∃ A c, e = .returned (.tuple #[.slice A l.length c, .int .i64 u]) ∧ (∀ j x, l[j]? = some x → ∃ g, A = some ⟨g, 0, none⟩ ∧ w'.cell? ⟨g, j, none⟩ = some (.int .i64 x)) ∧ Nx w w'

theorem retPl_new (l : List Int) (u : Int) (w : World) (T : TypeId) : RetPl l u w (.returned (.tuple #[.slice (some ⟨w.heap.size, 0, none⟩) l.length l.length, .int .i64 u])) (w.alloc (.cells (l.map (Value.int .i64)).toArray T)) :=
  ⟨_, _, rfl, fun j x hx => ⟨_, rfl, ints_new w l T j x hx⟩, (Nx.refl w).alloc _⟩

theorem retPl_nil (u : Int) (w : World) : RetPl [] u w (.returned (.tuple #[.slice none 0 0, .int .i64 u])) w :=
  ⟨_, _, rfl, fun j x hx => by simp at hx, Nx.refl w⟩

theorem places_0 (w : World) : Calls Try.prog 26 #[.string (B [99, 46, 97, 100, 100, 105, 52, 115, 112, 110])] w (RetPl [10, 9, 8, 7, 12, 11, 5, 6] 4 w) := by
  have H := Lib.hid (retPl_new [10, 9, 8, 7, 12, 11, 5, 6] 4 w 3)
  go_enter Try.func26, Try.ntmps26
  go_wp2
  go_ret2
  exact H.out

theorem places_1 (w : World) : Calls Try.prog 26 #[.string (B [99, 46, 108, 119])] w (RetPl [5, 12, 11, 10, 6] 4 w) := by
  have H := Lib.hid (retPl_new [5, 12, 11, 10, 6] 4 w 3)
  go_enter Try.func26, Try.ntmps26
  go_wp2
  go_ret2
  exact H.out

theorem places_2 (w : World) : Calls Try.prog 26 #[.string (B [99, 46, 115, 119])] w (RetPl [5, 12, 11, 10, 6] 4 w) := by
  have H := Lib.hid (retPl_new [5, 12, 11, 10, 6] 4 w 3)
  go_enter Try.func26, Try.ntmps26
  go_wp2
  go_ret2
  exact H.out

theorem places_3 (w : World) : Calls Try.prog 26 #[.string (B [99, 46, 110, 111, 112])] w (RetPl [] 1 w) := by
  have H := Lib.hid (retPl_nil 1 w)
  go_enter Try.func26, Try.ntmps26
  go_wp2
  go_ret2
  exact H.out

theorem places_4 (w : World) : Calls Try.prog 26 #[.string (B [99, 46, 97, 100, 100, 105])] w (RetPl [12, 6, 5, 4, 3, 2] 1 w) := by
  have H := Lib.hid (retPl_new [12, 6, 5, 4, 3, 2] 1 w 3)
  go_enter Try.func26, Try.ntmps26
  go_wp2
  go_ret2
  exact H.out

theorem places_5 (w : World) : Calls Try.prog 26 #[.string (B [99, 46, 106, 97, 108])] w (RetPl [12, 8, 10, 9, 6, 7, 2, 11, 5, 4, 3] 2 w) := by
  have H := Lib.hid (retPl_new [12, 8, 10, 9, 6, 7, 2, 11, 5, 4, 3] 2 w 3)
  go_enter Try.func26, Try.ntmps26
  go_wp2
  go_ret2
  exact H.out

theorem places_6 (w : World) : Calls Try.prog 26 #[.string (B [99, 46, 108, 105])] w (RetPl [12, 6, 5, 4, 3, 2] 1 w) := by
  have H := Lib.hid (retPl_new [12, 6, 5, 4, 3, 2] 1 w 3)
  go_enter Try.func26, Try.ntmps26
  go_wp2
  go_ret2
  exact H.out

theorem places_7 (w : World) : Calls Try.prog 26 #[.string (B [99, 46, 97, 100, 100, 105, 49, 54, 115, 112])] w (RetPl [12, 4, 3, 5, 2, 6] 16 w) := by
  have H := Lib.hid (retPl_new [12, 4, 3, 5, 2, 6] 16 w 3)
  go_enter Try.func26, Try.ntmps26
  go_wp2
  go_ret2
  exact H.out

theorem places_8 (w : World) : Calls Try.prog 26 #[.string (B [99, 46, 108, 117, 105])] w (RetPl [12, 6, 5, 4, 3, 2] 4096 w) := by
  have H := Lib.hid (retPl_new [12, 6, 5, 4, 3, 2] 4096 w 3)
  go_enter Try.func26, Try.ntmps26
  go_wp2
  go_ret2
  exact H.out

theorem places_9 (w : World) : Calls Try.prog 26 #[.string (B [99, 46, 115, 114, 108, 105])] w (RetPl [6, 5, 4, 3, 2] 1 w) := by
  have H := Lib.hid (retPl_new [6, 5, 4, 3, 2] 1 w 3)
  go_enter Try.func26, Try.ntmps26
  go_wp2
  go_ret2
  exact H.out

theorem places_10 (w : World) : Calls Try.prog 26 #[.string (B [99, 46, 115, 114, 97, 105])] w (RetPl [6, 5, 4, 3, 2] 1 w) := by
  have H := Lib.hid (retPl_new [6, 5, 4, 3, 2] 1 w 3)
  go_enter Try.func26, Try.ntmps26
  go_wp2
  go_ret2
  exact H.out

theorem places_11 (w : World) : Calls Try.prog 26 #[.string (B [99, 46, 97, 110, 100, 105])] w (RetPl [12, 6, 5, 4, 3, 2] 1 w) := by
  have H := Lib.hid (retPl_new [12, 6, 5, 4, 3, 2] 1 w 3)
  go_enter Try.func26, Try.ntmps26
  go_wp2
  go_ret2
  exact H.out

theorem places_12 (w : World) : Calls Try.prog 26 #[.string (B [99, 46, 115, 117, 98])] w (RetPl [] 1 w) := by
  have H := Lib.hid (retPl_nil 1 w)
  go_enter Try.func26, Try.ntmps26
  go_wp2
  go_ret2
  exact H.out

theorem places_13 (w : World) : Calls Try.prog 26 #[.string (B [99, 46, 120, 111, 114])] w (RetPl [] 1 w) := by
  have H := Lib.hid (retPl_nil 1 w)
  go_enter Try.func26, Try.ntmps26
  go_wp2
  go_ret2
  exact H.out

theorem places_14 (w : World) : Calls Try.prog 26 #[.string (B [99, 46, 111, 114])] w (RetPl [] 1 w) := by
  have H := Lib.hid (retPl_nil 1 w)
  go_enter Try.func26, Try.ntmps26
  go_wp2
  go_ret2
  exact H.out

theorem places_15 (w : World) : Calls Try.prog 26 #[.string (B [99, 46, 97, 110, 100])] w (RetPl [] 1 w) := by
  have H := Lib.hid (retPl_nil 1 w)
  go_enter Try.func26, Try.ntmps26
  go_wp2
  go_ret2
  exact H.out

theorem places_16 (w : World) : Calls Try.prog 26 #[.string (B [99, 46, 106])] w (RetPl [12, 8, 10, 9, 6, 7, 2, 11, 5, 4, 3] 2 w) := by
  have H := Lib.hid (retPl_new [12, 8, 10, 9, 6, 7, 2, 11, 5, 4, 3] 2 w 3)
  go_enter Try.func26, Try.ntmps26
  go_wp2
  go_ret2
  exact H.out

theorem places_17 (w : World) : Calls Try.prog 26 #[.string (B [99, 46, 98, 101, 113, 122])] w (RetPl [12, 6, 5, 2, 11, 10, 4, 3] 2 w) := by
  have H := Lib.hid (retPl_new [12, 6, 5, 2, 11, 10, 4, 3] 2 w 3)
  go_enter Try.func26, Try.ntmps26
  go_wp2
  go_ret2
  exact H.out

theorem places_18 (w : World) : Calls Try.prog 26 #[.string (B [99, 46, 98, 110, 101, 122])] w (RetPl [12, 6, 5, 2, 11, 10, 4, 3] 2 w) := by
  have H := Lib.hid (retPl_new [12, 6, 5, 2, 11, 10, 4, 3] 2 w 3)
  go_enter Try.func26, Try.ntmps26
  go_wp2
  go_ret2
  exact H.out

theorem places_19 (w : World) : Calls Try.prog 26 #[.string (B [99, 46, 115, 108, 108, 105])] w (RetPl [6, 5, 4, 3, 2] 1 w) := by
  have H := Lib.hid (retPl_new [6, 5, 4, 3, 2] 1 w 3)
  go_enter Try.func26, Try.ntmps26
  go_wp2
  go_ret2
  exact H.out

theorem places_20 (w : World) : Calls Try.prog 26 #[.string (B [99, 46, 108, 119, 115, 112])] w (RetPl [3, 2, 12, 6, 5, 4] 4 w) := by
  have H := Lib.hid (retPl_new [3, 2, 12, 6, 5, 4] 4 w 3)
  go_enter Try.func26, Try.ntmps26
  go_wp2
  go_ret2
  exact H.out

theorem places_21 (w : World) : Calls Try.prog 26 #[.string (B [99, 46, 106, 114])] w (RetPl [] 1 w) := by
  have H := Lib.hid (retPl_nil 1 w)
  go_enter Try.func26, Try.ntmps26
  go_wp2
  go_ret2
  exact H.out

theorem places_22 (w : World) : Calls Try.prog 26 #[.string (B [99, 46, 109, 118])] w (RetPl [] 1 w) := by
  have H := Lib.hid (retPl_nil 1 w)
  go_enter Try.func26, Try.ntmps26
  go_wp2
  go_ret2
  exact H.out

theorem places_23 (w : World) : Calls Try.prog 26 #[.string (B [99, 46, 101, 98, 114, 101, 97, 107])] w (RetPl [] 1 w) := by
  have H := Lib.hid (retPl_nil 1 w)
  go_enter Try.func26, Try.ntmps26
  go_wp2
  go_ret2
  exact H.out

theorem places_24 (w : World) : Calls Try.prog 26 #[.string (B [99, 46, 106, 97, 108, 114])] w (RetPl [] 1 w) := by
  have H := Lib.hid (retPl_nil 1 w)
  go_enter Try.func26, Try.ntmps26
  go_wp2
  go_ret2
  exact H.out

theorem places_25 (w : World) : Calls Try.prog 26 #[.string (B [99, 46, 97, 100, 100])] w (RetPl [] 1 w) := by
  have H := Lib.hid (retPl_nil 1 w)
  go_enter Try.func26, Try.ntmps26
  go_wp2
  go_ret2
  exact H.out

theorem places_26 (w : World) : Calls Try.prog 26 #[.string (B [99, 46, 115, 119, 115, 112])] w (RetPl [8, 7, 12, 11, 10, 9] 4 w) := by
  have H := Lib.hid (retPl_new [8, 7, 12, 11, 10, 9] 4 w 3)
  go_enter Try.func26, Try.ntmps26
  go_wp2
  go_ret2
  exact H.out

theorem places_at (n : Nat) (nm : List UInt8) (l : List Int) (u : Int) (w : World) (hn : shB[n]? = some nm) (hl : plL[n]? = some l) (hu : unL[n]? = some u) : Calls Try.prog 26 #[.string (B nm)] w (RetPl l u w) := by
  have hn27 : n < 27 := (List.getElem?_eq_some_iff.1 hn).1
  rcases (by omega : n = 0 ∨ n = 1 ∨ n = 2 ∨ n = 3 ∨ n = 4 ∨ n = 5 ∨ n = 6 ∨ n = 7 ∨ n = 8 ∨ n = 9 ∨ n = 10 ∨ n = 11 ∨ n = 12 ∨ n = 13 ∨ n = 14 ∨ n = 15 ∨ n = 16 ∨ n = 17 ∨ n = 18 ∨ n = 19 ∨ n = 20 ∨ n = 21 ∨ n = 22 ∨ n = 23 ∨ n = 24 ∨ n = 25 ∨ n = 26) with rfl | rfl | rfl | rfl | rfl | rfl | rfl | rfl | rfl | rfl | rfl | rfl | rfl | rfl | rfl | rfl | rfl | rfl | rfl | rfl | rfl | rfl | rfl | rfl | rfl | rfl | rfl
  · cases hn; cases hl; cases hu; exact places_0 w
  · cases hn; cases hl; cases hu; exact places_1 w
  · cases hn; cases hl; cases hu; exact places_2 w
  · cases hn; cases hl; cases hu; exact places_3 w
  · cases hn; cases hl; cases hu; exact places_4 w
  · cases hn; cases hl; cases hu; exact places_5 w
  · cases hn; cases hl; cases hu; exact places_6 w
  · cases hn; cases hl; cases hu; exact places_7 w
  · cases hn; cases hl; cases hu; exact places_8 w
  · cases hn; cases hl; cases hu; exact places_9 w
  · cases hn; cases hl; cases hu; exact places_10 w
  · cases hn; cases hl; cases hu; exact places_11 w
  · cases hn; cases hl; cases hu; exact places_12 w
  · cases hn; cases hl; cases hu; exact places_13 w
  · cases hn; cases hl; cases hu; exact places_14 w
  · cases hn; cases hl; cases hu; exact places_15 w
  · cases hn; cases hl; cases hu; exact places_16 w
  · cases hn; cases hl; cases hu; exact places_17 w
  · cases hn; cases hl; cases hu; exact places_18 w
  · cases hn; cases hl; cases hu; exact places_19 w
  · cases hn; cases hl; cases hu; exact places_20 w
  · cases hn; cases hl; cases hu; exact places_21 w
  · cases hn; cases hl; cases hu; exact places_22 w
  · cases hn; cases hl; cases hu; exact places_23 w
  · cases hn; cases hl; cases hu; exact places_24 w
  · cases hn; cases hl; cases hu; exact places_25 w
  · cases hn; cases hl; cases hu; exact places_26 w

end Go.Proofs.Ytppnmaklggkogaa

