/- The answers of package slim that the document fixes. -/
import Derived.Test.YtcdjabfhmhibjaaMaye
import Derived.OpenShut
namespace Go.Proofs.Ytcdjabfhmhibjaa
open Go.RowKit
set_option linter.unusedVariables false

/-- Two instructions are one, if all their parts are. -/
theorem eql_ins (a b c d e a' b' c' d' e' : Int) (w : World) :
    (binOp .eql 25 (.agg #[.int .i64 a, .int .i64 b, .int .i64 c, .int .i64 d, .int .i32 e]) (.agg #[.int .i64 a', .int .i64 b', .int .i64 c', .int .i64 d', .int .i32 e'])).run Try.prog w = .ok (.bool (a == a' && b == b' && c == c' && d == d' && e == e')) w := by
  simp [go_sem]
  by_cases h1 : a = a' <;> by_cases h2 : b = b' <;> by_cases h3 : c = c' <;> by_cases h4 : d = d' <;> by_cases h5 : e = e' <;> simp [h1, h2, h3, h4, h5]

/-- slim.Expand, in one spelling. -/
theorem expand_e (x : Int) (w : World) (hx : 0 ≤ x) (hx' : x < 65536) :
    Calls Try.prog 6 #[.int .u16 x] w fun e w' => e = .returned (.tuple #[.agg #[.int .i64 (expI x).op, .int .i64 (expI x).rd, .int .i64 (expI x).rs1, .int .i64 (expI x).rs2, .int .i32 (expI x).imm], .bool (!((expI x).op == 0))]) ∧ Nx w w' := by
  have h := expand_any x w hx hx'
  rw [exp_eq] at h
  exact h

theorem awe1 : expI 17685 = ⟨19, 10, 0, 0, 5⟩ := by rfl

theorem awe2 : expI 32898 = ⟨4, 0, 1, 0, 0⟩ := by rfl

theorem awe3 : expI 0 = none5 := by rfl

theorem expand_v (x : Int) (I : In5) (w : World) (hx : 0 ≤ x) (hx' : x < 65536) (h : expI x = I) :
    Calls Try.prog 6 #[.int .u16 x] w fun e w' => e = .returned (.tuple #[.agg #[.int .i64 I.op, .int .i64 I.rd, .int .i64 I.rs1, .int .i64 I.rs2, .int .i32 I.imm], .bool (!(I.op == 0))]) ∧ Nx w w' := by
  subst h
  exact expand_e x w hx hx'

set_option maxHeartbeats 1000000 in
theorem awakee_any (w : World) : Calls Try.prog 5 #[] w fun e w' => e = .returned (.bool true) ∧ Nx w w' := by
  go_enter Try.func5, Try.ntmps5
  go_wp2_with fail
  refine (expand_v _ _ _ (by omega) (by omega) awe1).mono ?_
  rintro e w1 ⟨rfl, hn1⟩
  go_wp2_with fail
  refine (expand_v _ _ _ (by omega) (by omega) awe2).mono ?_
  rintro e w2 ⟨rfl, hn2⟩
  go_wp2_with fail
  refine (expand_v _ _ _ (by omega) (by omega) awe3).mono ?_
  rintro e w3 ⟨rfl, hn3⟩
  obtain ⟨c0, c1, c2, c3, c4, hz1⟩ := five_in (hn2.trans (((Nx.refl w2).alloc _).trans hn3))
  obtain ⟨d0, d1, d2, d3, d4, hz2⟩ := five_in hn3
  have hb := Lib.hid (hn1.trans (((Nx.refl w1).alloc _).trans (hn2.trans (((Nx.refl w2).alloc _).trans hn3))))
  clear hn1 hn2 hn3
  have q1 := fun w => eql_ins 19 10 0 0 5 19 10 0 0 5 w
  have q2 := fun w => eql_ins 4 0 1 0 0 4 0 1 0 0 w
  dsimp only [none5]
  go_wp2
  go_ret
  exact ⟨rfl, hb.out.alloc _⟩

end Go.Proofs.Ytcdjabfhmhibjaa
