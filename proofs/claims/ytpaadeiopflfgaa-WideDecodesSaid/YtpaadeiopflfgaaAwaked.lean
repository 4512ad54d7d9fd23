/- The answers of package wide that the document fixes; the laws that ask for words apart, and for even numbers. -/
import Derived.Test.YtpaadeiopflfgaaWided
import Derived.OpenShut
namespace Go.Proofs.Ytpaadeiopflfgaa
open Go.RowKit
set_option linter.unusedVariables false

theorem awd1 : decI 5243027 = ⟨19, 1, 0, 0, 5⟩ := by rfl

theorem awd2 : decI 4261416675 = ⟨5, 0, 0, 0, -4⟩ := by rfl

theorem awd3 : ((dec 5243027).op == 0) = false := by decide

theorem awd4 : ((dec 4261416675).op == 0) = false := by decide

theorem awd5 : ((dec 0).op == 0) = true := by decide

/-- Two instructions are one, if all their parts are. -/
theorem eql_ins (a b c d e a' b' c' d' e' : Int) (w : World) :
    (binOp .eql 25 (.agg #[.int .i64 a, .int .i64 b, .int .i64 c, .int .i64 d, .int .i32 e]) (.agg #[.int .i64 a', .int .i64 b', .int .i64 c', .int .i64 d', .int .i32 e'])).run Try.prog w = .ok (.bool (a == a' && b == b' && c == c' && d == d' && e == e')) w := by
  simp [go_sem]
  by_cases h1 : a = a' <;> by_cases h2 : b = b' <;> by_cases h3 : c = c' <;> by_cases h4 : d = d' <;> by_cases h5 : e = e' <;> simp [h1, h2, h3, h4, h5]

set_option maxHeartbeats 1000000 in
theorem awaked_any (w : World) : Calls Try.prog 7 #[] w fun e w' => e = .returned (.bool true) ∧ Nx w w' := by
  have h3 := awd3
  have h4 := awd4
  have h5 := awd5
  have e1 := congrArg In5.op awd1
  have e2 := congrArg In5.rd awd1
  have e3 := congrArg In5.rs1 awd1
  have e4 := congrArg In5.rs2 awd1
  have e5 := congrArg In5.imm awd1
  have f1 := congrArg In5.op awd2
  have f2 := congrArg In5.rd awd2
  have f3 := congrArg In5.rs1 awd2
  have f4 := congrArg In5.rs2 awd2
  have f5 := congrArg In5.imm awd2
  simp only at e1 e2 e3 e4 e5 f1 f2 f3 f4 f5
  go_enter Try.func7, Try.ntmps7
  go_wp2_with fail
  refine (decode_any _ _ (by omega) (by omega)).mono ?_
  rintro e w1 ⟨rfl, hn1⟩
  go_wp2_with fail
  refine (decode_any _ _ (by omega) (by omega)).mono ?_
  rintro e w2 ⟨rfl, hn2⟩
  go_wp2_with fail
  refine (decode_any _ _ (by omega) (by omega)).mono ?_
  rintro e w3 ⟨rfl, hn3⟩
  obtain ⟨c0, c1, c2, c3, c4, hz1⟩ := five_in (hn2.trans (((Nx.refl w2).alloc _).trans hn3))
  obtain ⟨d0, d1, d2, d3, d4, hz2⟩ := five_in hn3
  have hb := Lib.hid (hn1.trans (((Nx.refl w1).alloc _).trans (hn2.trans (((Nx.refl w2).alloc _).trans hn3))))
  have q1 := fun w => eql_ins 19 1 0 0 5 19 1 0 0 5 w
  have q2 := fun w => eql_ins 5 0 0 0 (-4) 5 0 0 0 (-4) w
  go_wp2
  go_ret
  exact ⟨rfl, hb.out.alloc _⟩

end Go.Proofs.Ytpaadeiopflfgaa
