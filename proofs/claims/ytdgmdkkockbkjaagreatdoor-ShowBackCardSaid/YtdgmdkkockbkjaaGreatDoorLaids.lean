/- The laid tables of package ins, name by name; the library's table of powers of ten. -/
import Derived.Test.YtdgmdkkockbkjaaGreatDoorNam
import Derived.Test.YtdgmdkkockbkjaaGreatDoorShwc
import Derived.Lib.LaidTab
import Derived.ProofKit
import Derived.LaidMore
import Derived.OpenShut
import Derived.Stop.Joined
import Derived.Deep.Strs
namespace Go.Proofs.YtdgmdkkockbkjaaGreatDoor
open Go.ChangeShapes Go.WideShapes Go.ChangeAt Go.RowKit Go.Deep
set_option linter.unusedVariables false
set_option linter.unusedSimpArgs false
set_option maxRecDepth 100000

theorem own : ownKnob Tryz.prog.godebug = none := by kernel_rfl

def laidL : List (String × DataW Unit) := [("math/bits.deBruijn32tab", Rows.laid_math_bits_deBruijn32tab), ("math/bits.deBruijn64tab", Rows.laid_math_bits_deBruijn64tab), ("internal/strconv.uint64pow10", Rows.laid_internal_strconv_uint64pow10), ("typecase/ins.names", Rows.laid_typecase_ins_names), ("typecase/ins.regNames", Rows.laid_typecase_ins_regNames)]

theorem gNames : Tryz.prog.globalNamed "typecase/ins.names" = some 0 := by kernel_rfl

theorem gRegs : Tryz.prog.globalNamed "typecase/ins.regNames" = some 1 := by kernel_rfl

theorem door_met (os : Os) (args : Array Value) : laidMetH Tryz.prog laidL ((World.doorLaid Tryz.prog 400 os).forCall (fun _ _ => 0) ⟨#[], args, []⟩).memory :=
  laidMetH_of_parts3 (fuel := 8) (laidMet_of_run' 8 (by kernel_rfl) (by kernel_rfl)) (by kernel_rfl) (by kernel_rfl)

theorem tNames : (Tryz.prog.globals[0]?).map (·.type) = some 91 := by kernel_rfl

theorem tRegs : (Tryz.prog.globals[1]?).map (·.type) = some 128 := by kernel_rfl

theorem c_str : Tryz.prog.cellsOf 9 = 1 := by kernel_rfl

def datS {H : Type} (l : List (List UInt8)) : DataW H := .agg (l.map fun s => .lit (.string s))

theorem laid_names {H : Type} : (Rows.laid_typecase_ins_names : DataW H) = datS nmB := rfl

theorem laid_regs {H : Type} : (Rows.laid_typecase_ins_regNames : DataW H) = datS regT := rfl

section
variable {H : Type} {enc : TypeId × Value → H} {w : World} {base : Nat} {spare : Nat → Bool} {held : Bool}

theorem strs_of {t : TypeId} {n : Nat} {fuel : Nat} {cs : List Value} {x : DataW H × List MemPlace} (l : List (List UInt8)) (ht : Tryz.prog.underlying t = some (.array n 9)) (h : DataW.trod enc Tryz.prog w base spare held fuel t cs = some x) (hn : n = l.length) (hx : x.1 = datS l) :
    ∀ (j : Nat) (s : List UInt8), l[j]? = some s → cs[j]? = some (Value.string (B s)) := by
  obtain ⟨xs, m, rfl, hx1, _, hlen, hel⟩ := DataW.trod_array ht h
  subst hx1
  intro j s hj
  have hjn : j < n := by rw [hn]; exact (List.getElem?_eq_some_iff.1 hj).1
  have h1 := hel j hjn
  rw [c_str] at h1
  have hg : xs[j]? = some (xs[j]'(by omega)) := List.getElem?_eq_getElem (by omega)
  rw [hg] at h1
  obtain ⟨b, e, f, _⟩ := DataW.trod_string Tryz.underlying9 h1
  have hd : (xs[j]'(by omega)).1 = .lit (.string s) := by
    have h2 := congrArg (fun q => q[j]?) (DataW.agg.inj hx)
    simp only [List.getElem?_map, hg, hj] at h2
    simpa using h2
  rw [f] at hd
  simp at hd
  have h4 := congrArg (fun q => q[0]?) e
  simp only [List.getElem?_take, List.getElem?_drop] at h4
  rw [if_pos (by omega), Nat.mul_one, Nat.add_zero] at h4
  rw [h4]
  show some (Value.string b) = _
  congr 2
  exact bytes_ext hd

end

theorem tTab : (Tryz.prog.globals[2]?).map (·.type) = some 175 := by kernel_rfl

theorem laid_pow {H : Type} : (Rows.laid_internal_strconv_uint64pow10 : DataW H) = Lib.tabData .u64 Lib.pow10Tab := rfl

theorem c_u64 : Tryz.prog.cellsOf 159 = 1 := by kernel_rfl

theorem c_tab : Tryz.prog.cellsOf 175 = 20 := by kernel_rfl

theorem of_laid {W : World} (h : laidMetH Tryz.prog laidL W) : NamesAt W ∧ Tab W := by
  rw [MakeChecks.laidMetH_plain _ _ _ (by kernel_rfl)] at h
  obtain ⟨ps, ⟨_, _, _, _, _, _, _, _, _, _, ⟨_, _, _, _, _, _, _, _, _, _, ⟨g2, t2, cs2, f2, p2, q2, hg2, ht2, hv2, hd2, ⟨g3, t3, cs3, f3, p3, q3, hg3, ht3, hv3, hd3, ⟨g4, t4, cs4, f4, p4, q4, hg4, ht4, hv4, hd4, _, _⟩, _⟩, _⟩, _⟩, _⟩, _, _⟩ := h
  obtain rfl := Option.some.inj (gNames.symm.trans hg3)
  obtain rfl := Option.some.inj (tNames.symm.trans ht3)
  obtain rfl := Option.some.inj (gRegs.symm.trans hg4)
  obtain rfl := Option.some.inj (tRegs.symm.trans ht4)
  obtain rfl := Option.some.inj (gTab.symm.trans hg2)
  obtain rfl := Option.some.inj (tTab.symm.trans ht2)
  refine ⟨⟨fun j s hj => ?_, fun j s hj => ?_⟩, ?_⟩
  · rw [World.var?_cell hg3 hv3 j, ← Array.getElem?_toList]
    exact strs_of nmB Tryz.underlying91 hd3 rfl laid_names j s hj
  · rw [World.var?_cell hg4 hv4 j, ← Array.getElem?_toList]
    exact strs_of regT Tryz.underlying128 hd4 rfl laid_regs j s hj
  · unfold Tab Lib.TabIs
    rw [laid_pow] at hd2
    rw [hv2, ← Lib.cells_of_tab Tryz.underlying175 Tryz.underlying159 c_u64 c_tab hd2]

end Go.Proofs.YtdgmdkkockbkjaaGreatDoor
