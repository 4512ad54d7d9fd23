/- Contracts of package typecaseref09: few, from, Names. -/
import Derived.Test.YtdgmdkkockbkjaaGreatDoorRefcb
namespace Go.Proofs.YtdgmdkkockbkjaaGreatDoor
open Go.RowKit
set_option linter.unusedVariables false
set_option linter.unusedSimpArgs false

def fewB (r : Int) : Bool := decide (8 ≤ r) && decide (r ≤ 15)

def fromB (v u lo hi : Int) : Bool := decide (lo ≤ v) && (decide (v ≤ hi) && (v % u == 0))

theorem rfew_any (r : Int) (w : World) : Calls Tryz.prog 88 #[.int .i64 r] w fun e w' => e = .returned (.bool (fewB r)) ∧ w = w' := by
  have HF := Lib.hid (show fewB r = (decide (8 ≤ r) && decide (r ≤ 15)) from rfl)
  cases h : decide (8 ≤ r)
  · have h2 : ¬ 8 ≤ r := by simpa using h
    rw [h, Bool.false_and] at HF
    rw [HF.out]
    go_enter Tryz.func88, Tryz.ntmps88
    go_wp2
    go_ret
    exact ⟨rfl, rfl⟩
  · have h2 : 8 ≤ r := by simpa using h
    rw [h, Bool.true_and] at HF
    rw [HF.out]
    go_enter Tryz.func88, Tryz.ntmps88
    go_wp2
    go_ret
    exact ⟨rfl, rfl⟩

theorem tmod0 (a b : Int) : (Int.tmod a b == 0) = (a % b == 0) := by
  rw [Bool.eq_iff_iff]
  simp only [beq_iff_eq]
  exact ⟨fun h => Int.emod_eq_zero_of_dvd (Int.dvd_of_tmod_eq_zero h), fun h => Int.tmod_eq_zero_of_dvd (Int.dvd_of_emod_eq_zero h)⟩

theorem rfrom_any (v u lo hi : Int) (w : World) (hu : 0 < u) : Calls Tryz.prog 89 #[.int .i32 v, .int .i32 u, .int .i32 lo, .int .i32 hi] w fun e w' => e = .returned (.bool (fromB v u lo hi)) ∧ w = w' := by
  have HF := Lib.hid (show fromB v u lo hi = (decide (lo ≤ v) && (decide (v ≤ hi) && (v % u == 0))) from rfl)
  have k8 : ¬ u = 0 := by omega
  have k9 : ¬ u = -1 := by omega
  cases h : decide (lo ≤ v)
  · have h2 : ¬ lo ≤ v := by simpa using h
    rw [h, Bool.false_and] at HF
    rw [HF.out]
    go_enter Tryz.func89, Tryz.ntmps89
    go_wp2
    go_ret
    exact ⟨rfl, rfl⟩
  · have h2 : lo ≤ v := by simpa using h
    cases h' : decide (v ≤ hi)
    · have h3 : ¬ v ≤ hi := by simpa using h'
      rw [h, h', Bool.false_and, Bool.and_false] at HF
      rw [HF.out]
      go_enter Tryz.func89, Tryz.ntmps89
      go_wp2
      go_ret
      exact ⟨rfl, rfl⟩
    · have h3 : v ≤ hi := by simpa using h'
      rw [h, h', Bool.true_and, Bool.true_and] at HF
      rw [HF.out]
      go_enter Tryz.func89, Tryz.ntmps89
      go_wp2
      go_ret
      exact ⟨ret_bool (by first | rfl | exact tmod0 _ _ | simp [tmod0]), rfl⟩

/-- Of what Names leaves, the text at k. -/
def RetNm (k : Nat) (s : List UInt8) (w : World) (e : Ending) (w' : World) : Prop := ∃ g, e = .returned (.slice (some ⟨g, 0, none⟩) 49 49) ∧ w'.cell? ⟨g, k, none⟩ = some (.string (B s)) ∧ Nx w w'

theorem names_nm (k : Nat) (s : List UInt8) (h : nmB[k]? = some s) (w : World) : Calls Tryz.prog 85 #[] w (RetNm k s w) :=
  (names_any w).mono fun e w' ⟨h1, h2, h3⟩ => ⟨w.heap.size, h1, h2 k s h, h3⟩

theorem nm_len (k : Nat) (s : List UInt8) (hk : k < 49) (h : nmB[k]? = some s) : ¬ 9223372036854775807 < 2 + s.length := by
  have : ∀ k, k < 49 → ∀ s, nmB[k]? = some s → s.length ≤ 6 := by decide
  have := this k hk s h
  omega

theorem cat_c (s : List UInt8) : (({ data := #[99, 46] } : ByteArray) ++ B s).toList = 99 :: 46 :: s := by
  rw [ByteArray.toList_eq]
  rw [ByteArray.data_append]
  simp

/-- The shorts' names, in the document's order. -/
def shB : List (List UInt8) := [[99, 46, 97, 100, 100, 105, 52, 115, 112, 110], [99, 46, 108, 119], [99, 46, 115, 119], [99, 46, 110, 111, 112], [99, 46, 97, 100, 100, 105], [99, 46, 106, 97, 108], [99, 46, 108, 105], [99, 46, 97, 100, 100, 105, 49, 54, 115, 112], [99, 46, 108, 117, 105], [99, 46, 115, 114, 108, 105], [99, 46, 115, 114, 97, 105], [99, 46, 97, 110, 100, 105], [99, 46, 115, 117, 98], [99, 46, 120, 111, 114], [99, 46, 111, 114], [99, 46, 97, 110, 100], [99, 46, 106], [99, 46, 98, 101, 113, 122], [99, 46, 98, 110, 101, 122], [99, 46, 115, 108, 108, 105], [99, 46, 108, 119, 115, 112], [99, 46, 106, 114], [99, 46, 109, 118], [99, 46, 101, 98, 114, 101, 97, 107], [99, 46, 106, 97, 108, 114], [99, 46, 97, 100, 100], [99, 46, 115, 119, 115, 112]]

set_option maxHeartbeats 1000000 in
theorem rNames_any (w : World) : Calls Tryz.prog 90 #[] w fun e w' => e = .returned (.slice (some ⟨w.heap.size, 0, none⟩) 27 27) ∧ Strs w' w.heap.size shB ∧ Nx w w' := by
  have h := Lib.hid (Strs.new w shB 9)
  go_enter Tryz.func90, Tryz.ntmps90
  go_wp2
  go_ret
  exact ⟨rfl, h.out, (Nx.refl _).alloc _⟩

end Go.Proofs.YtdgmdkkockbkjaaGreatDoor
