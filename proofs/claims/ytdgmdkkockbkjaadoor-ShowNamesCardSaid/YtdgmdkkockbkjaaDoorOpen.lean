/- An instruction that is handed over by value: its parts. -/
import Derived.Test.YtdgmdkkockbkjaaDoorRows
import Derived.Test.YtdgmdkkockbkjaaDoorDec
import Derived.ProofKit
import Derived.OpenShut
import Derived.Lib.SmallJoins
namespace Go.Proofs.YtdgmdkkockbkjaaDoor
open Go.ChangeShapes Go.WideShapes Go.ChangeAt Go.RowKit Go.Joins
set_option linter.unusedVariables false
set_option linter.unusedSimpArgs false

theorem one_int : Tryd.prog.cellsOf 3 = 1 := by kernel_rfl

theorem one_i32 : Tryd.prog.cellsOf 21 = 1 := by kernel_rfl

theorem five_ins : Tryd.prog.cellsOf 23 = 5 := by kernel_rfl

theorem open_ins {H : Type} {enc : TypeId × Value → H} {W : World} {base b0 : Nat} {r : Reach} {spare : Nat → Bool} {held : Bool} {v : Value} {d : DataW H} {p : List MemPlace}
    (hv : Value.okWide Tryd.prog W r b0 23 v) (h : DataW.Trod enc Tryd.prog W base spare held 23 v d p) :
    ∃ i : In5, v = .agg #[.int .i64 i.op, .int .i64 i.rd, .int .i64 i.rs1, .int .i64 i.rs2, .int .i32 i.imm] ∧ -2147483648 ≤ i.imm ∧ i.imm ≤ 2147483647 := by
  obtain ⟨cs, rfl, hsz⟩ := okWide_struct Tryd.underlying23 hv
  obtain ⟨l⟩ := cs
  match l, hsz.trans five_ins with
  | [c0, c1, c2, c3, c4], _ =>
    obtain ⟨fuel, hf⟩ := h
    obtain ⟨xs, n, _, hx, _, hlen, hg⟩ := DataW.trod_struct Tryd.underlying23 hf
    match xs, hlen with
    | [y0, y1, y2, y3, y4], _ =>
      have g0 := hg 0 _ rfl
      have g1 := hg 1 _ rfl
      have g2 := hg 2 _ rfl
      have g3 := hg 3 _ rfl
      have g4 := hg 4 _ rfl
      simp [Value.cells, one_int, one_i32] at g0 g1 g2 g3 g4
      obtain ⟨a0, e0, _, _⟩ := DataW.trod_int Tryd.underlying3 g0
      obtain ⟨a1, e1, _, _⟩ := DataW.trod_int Tryd.underlying3 g1
      obtain ⟨a2, e2, _, _⟩ := DataW.trod_int Tryd.underlying3 g2
      obtain ⟨a3, e3, _, _⟩ := DataW.trod_int Tryd.underlying3 g3
      obtain ⟨a4, e4, _, w4⟩ := DataW.trod_int Tryd.underlying21 g4
      simp only [List.cons.injEq, and_true] at e0 e1 e2 e3 e4
      subst e0 e1 e2 e3 e4
      obtain ⟨b1, b2⟩ := bounds_i32 w4
      exact ⟨⟨a0, a1, a2, a3, a4⟩, rfl, b1, b2⟩

end Go.Proofs.YtdgmdkkockbkjaaDoor
