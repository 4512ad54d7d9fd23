/- The laid table enc.places, cell by cell. -/
import Derived.Test.YtpaadeiopflfgaaDoorEnc
import Derived.ProofKit
import Derived.LaidMore
import Derived.OpenShut
import Derived.Stop.Joined
import Derived.Deep.Strs
namespace Go.Proofs.YtpaadeiopflfgaaDoor
open Go.ChangeShapes Go.WideShapes Go.ChangeAt Go.RowKit Go.Deep
set_option linter.unusedVariables false
set_option linter.unusedSimpArgs false

theorem own : ownKnob Tryd.prog.godebug = none := by kernel_rfl

def laidL : List (String × DataW Unit) := [("typecase/enc.places", Rows.laid_typecase_enc_places)]

theorem gPlaces : Tryd.prog.globalNamed "typecase/enc.places" = some 0 := by kernel_rfl

theorem door_met (os : Os) (args : Array Value) : laidMetH Tryd.prog laidL ((World.doorLaid Tryd.prog 400 os).forCall (fun _ _ => 0) ⟨#[], args, []⟩).memory :=
  laidMetH_of_parts3 (fuel := 8) (laidMet_of_run' 8 (by kernel_rfl) (by kernel_rfl)) (by kernel_rfl) (by kernel_rfl)

theorem tPlaces : (Tryd.prog.globals[0]?).map (·.type) = some 50 := by kernel_rfl

theorem c_piece : Tryd.prog.cellsOf 48 = 3 := by kernel_rfl

theorem c_four : Tryd.prog.cellsOf 49 = 12 := by kernel_rfl

theorem c_i16 : Tryd.prog.cellsOf 46 = 1 := by kernel_rfl

section
variable {H : Type} {enc : TypeId × Value → H} {w : World} {base : Nat} {spare : Nat → Bool} {held : Bool}

theorem piece_cells {fuel : Nat} {cs : List Value} {x : DataW H × List MemPlace} (h : DataW.trod enc Tryd.prog w base spare held fuel 48 cs = some x) (a b c : Int)
    (hx : x.1 = .agg [.lit (.int .i16 a), .lit (.int .i16 b), .lit (.int .i16 c)]) : cs = [.int .i16 a, .int .i16 b, .int .i16 c] := by
  obtain ⟨y0, y1, y2, n, rfl, hl, h0, h1, h2⟩ := trod_struct3 Tryd.underlying48 h
  rw [c_piece] at hl
  match cs, hl with
  | [c0, c1, c2], _ =>
    simp [c_i16] at h0 h1 h2
    obtain ⟨k0, e0, f0, _⟩ := DataW.trod_int Tryd.underlying46 h0
    obtain ⟨k1, e1, f1, _⟩ := DataW.trod_int Tryd.underlying46 h1
    obtain ⟨k2, e2, f2, _⟩ := DataW.trod_int Tryd.underlying46 h2
    subst f0 f1 f2
    simp at hx e0 e1 e2
    obtain ⟨rfl, rfl, rfl⟩ := hx
    subst e0 e1 e2
    rfl

def datP {H : Type} (i k : Nat) : DataW H := .agg [.lit (.int .i16 (placesL.getD (i * 12 + k * 3) 0)), .lit (.int .i16 (placesL.getD (i * 12 + k * 3 + 1) 0)), .lit (.int .i16 (placesL.getD (i * 12 + k * 3 + 2) 0))]

def datF {H : Type} (i : Nat) : DataW H := .agg ((List.range 4).map (datP i))

theorem laid_form : (Rows.laid_typecase_enc_places : DataW H) = .agg ((List.range 10).map datF) := rfl

theorem four_cells {fuel : Nat} {cs : List Value} {x : DataW H × List MemPlace} (h : DataW.trod enc Tryd.prog w base spare held fuel 49 cs = some x) (i k : Nat) (hk : k < 4) (hx : x.1 = datF i) :
    (cs.drop (k * 3)).take 3 = [.int .i16 (placesL.getD (i * 12 + k * 3) 0), .int .i16 (placesL.getD (i * 12 + k * 3 + 1) 0), .int .i16 (placesL.getD (i * 12 + k * 3 + 2) 0)] := by
  obtain ⟨xs, m, rfl, hx1, _, hn, hel⟩ := DataW.trod_array Tryd.underlying49 h
  subst hx1
  have hk1 := hel k hk
  rw [c_piece] at hk1
  have hg : xs[k]? = some (xs[k]'(by omega)) := List.getElem?_eq_getElem (by omega)
  rw [hg] at hk1
  have hd : (xs[k]'(by omega)).1 = datP i k := by
    have h1 : xs.map (·.1) = (List.range 4).map (datP i) := by
      have := hx
      unfold datF at this
      exact DataW.agg.inj this
    have h2 := congrArg (fun l => l[k]?) h1
    simp only [List.getElem?_map, hg] at h2
    rw [List.getElem?_range hk] at h2
    simpa using h2
  exact piece_cells hk1 _ _ _ hd

end

theorem of_laid {W : World} (h : laidMetH Tryd.prog laidL W) : Places W := by
  rw [MakeChecks.laidMetH_plain _ _ _ (by kernel_rfl)] at h
  obtain ⟨ps, ⟨g0, t0, cs0, f0, p0, q0, hg0, ht0, hv0, hd0, _, _⟩, _, _⟩ := h
  obtain rfl := Option.some.inj (gPlaces.symm.trans hg0)
  obtain rfl := Option.some.inj (tPlaces.symm.trans ht0)
  obtain ⟨xs, m, rfl, hx, _, hn, hel⟩ := DataW.trod_array Tryd.underlying50 hd0
  intro j v hj
  have hl : placesL.length = 120 := rfl
  have hj120 : j < 120 := by
    rcases Nat.lt_or_ge j 120 with h | h
    · exact h
    · rw [List.getElem?_eq_none (by omega)] at hj; cases hj
  have hc := World.var?_cell hg0 hv0 j
  rw [hc]
  obtain ⟨i, k, r, hi, hk, hr, rfl⟩ : ∃ i k r, i < 10 ∧ k < 4 ∧ r < 3 ∧ j = i * 12 + k * 3 + r := ⟨j / 12, j / 3 % 4, j % 3, by omega, by omega, by omega, by omega⟩
  have hi1 := hel i hi
  rw [c_four] at hi1
  have hg : xs[i]? = some (xs[i]'(by omega)) := List.getElem?_eq_getElem (by omega)
  rw [hg] at hi1
  have hd : (xs[i]'(by omega)).1 = datF i := by
    have h1 : xs.map (·.1) = (List.range 10).map datF := by
      have := congrArg Prod.fst hx
      rw [laid_form] at this
      exact (DataW.agg.inj this).symm
    have h2 := congrArg (fun l => l[i]?) h1
    simp only [List.getElem?_map, hg] at h2
    rw [List.getElem?_range hi] at h2
    simpa using h2
  have h3 := four_cells hi1 i k hk hd
  have h4 := congrArg (fun l => l[r]?) h3
  simp only [List.getElem?_take, List.getElem?_drop] at h4
  rw [if_pos (by omega), if_pos (by omega)] at h4
  have e : cs0[i * 12 + k * 3 + r]? = cs0.toList[i * 12 + (k * 3 + r)]? := by rw [Array.getElem?_toList, Nat.add_assoc]
  rw [e, h4]
  have hv : v = placesL.getD (i * 12 + k * 3 + r) 0 := by rw [List.getD_eq_getElem?_getD, hj]; rfl
  rcases (by omega : r = 0 ∨ r = 1 ∨ r = 2) with rfl | rfl | rfl <;> rw [hv] <;> rfl

end Go.Proofs.YtpaadeiopflfgaaDoor
