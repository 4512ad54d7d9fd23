/- Contracts of package slim: the methods of a parcel. -/
import Derived.Test.YtcdjabfhmhibjaaSlim
import Derived.Test.YtcdjabfhmhibjaaDec
namespace Go.Proofs.Ytcdjabfhmhibjaa
open Go.RowKit
set_option linter.unusedVariables false
set_option linter.unusedSimpArgs false

def insV (i : In5) : Value := .agg #[.int .i64 i.op, .int .i64 i.rd, .int .i64 i.rs1, .int .i64 i.rs2, .int .i32 i.imm]

def parG (q f rd rs2 r1 r2 b12 n6 j sh : Int) (b : Nat) (kd ls : Int) : Value := .agg #[.int .u32 q, .int .u32 f, .int .i64 rd, .int .i64 rs2, .int .i64 r1, .int .i64 r2, .int .u32 b12, .int .i32 n6, .int .i32 j, .int .i32 sh, .func (Fn.func 33) #[] #[.pointer (some ⟨b, 0, none⟩)], .int .u32 kd, .int .u32 ls]

def movI (rd rs2 b12 : Int) : In5 :=
  if rs2 = 0 then (if rd = 0 then (if b12 = 1 then ⟨40, 0, 0, 0, 0⟩ else none5) else ⟨4, b12, rd, 0, 0⟩)
  else if b12 = 0 then ⟨28, rd, 0, rs2, 0⟩ else ⟨28, rd, rd, rs2, 0⟩

set_option maxHeartbeats 2000000 in
theorem moving_any (q f rd rs2 r1 r2 b12 n6 j sh : Int) (b : Nat) (kd ls : Int) (w : World) (h1 : 0 ≤ b12) (h2 : b12 ≤ 1) :
    Calls Try.prog 24 #[parG q f rd rs2 r1 r2 b12 n6 j sh b kd ls] w fun e w' => e = .returned (insV (movI rd rs2 b12)) ∧ Nx w w' := by
  unfold parG
  cases e1 : (rs2 == 0) <;> cases e2 : (rd == 0) <;> cases e3 : (b12 == 1) <;> cases e4 : (b12 == 0)
  all_goals
    go_enter Try.func24, Try.ntmps24
    go_wp2
  all_goals
    simp only [beq_iff_eq, beq_eq_false_iff_ne, ne_eq] at e1 e2 e3 e4
    refine bodyPost_ret (v := insV (movI rd rs2 b12)) (by simp [results, Try.results24, go_sem, insV, movI, none5, e1, e2, e3, e4] <;> omega) rfl ⟨rfl, ?_⟩
    repeat (with_reducible first | exact Nx.refl _ | refine Nx.alloc ?_ _ | refine Nx.setCell ?_ (Nat.le_succ _) _)

end Go.Proofs.Ytcdjabfhmhibjaa
