/- Contracts of package slim: reckoning. -/
import Derived.Test.YtcdjabfhmhibjaaSlimm
import Derived.RegionTactic
namespace Go.Proofs.Ytcdjabfhmhibjaa
open Go.RowKit
set_option linter.unusedVariables false
set_option linter.unusedSimpArgs false

def recI (r1 r2 b12 n6 sh kd ls : Int) : In5 :=
  if kd = 2 then ⟨24, r1, r1, 0, n6⟩ else if b12 = 1 then none5 else if kd = 0 then ⟨26, r1, r1, 0, sh⟩ else if kd = 1 then ⟨27, r1, r1, 0, sh⟩
  else ⟨if ls = 0 then 29 else if ls = 1 then 33 else if ls = 2 then 36 else 37, r1, r1, r2, 0⟩

set_option maxHeartbeats 4000000 in
theorem reckoning_any (q f rd rs2 r1 r2 b12 n6 j sh : Int) (b : Nat) (kd ls : Int) (w : World) (hb : b12 = 0 ∨ b12 = 1) (hk : kd = 0 ∨ kd = 1 ∨ kd = 2 ∨ kd = 3) (hl : ls = 0 ∨ ls = 1 ∨ ls = 2 ∨ ls = 3) :
    Calls Try.prog 23 #[parG q f rd rs2 r1 r2 b12 n6 j sh b kd ls] w fun e w' => e = .returned (insV (recI r1 r2 b12 n6 sh kd ls)) ∧ Nx w w' := by
  unfold parG
  rcases hb with rfl | rfl <;> rcases hk with rfl | rfl | rfl | rfl <;> rcases hl with rfl | rfl | rfl | rfl
  all_goals
    go_enter Try.func23, Try.ntmps23
    go_wp2
    try (go_region; go_wp2)
  all_goals
    refine bodyPost_ret (v := insV (recI r1 r2 _ n6 sh _ _)) ?_ rfl ⟨rfl, ?_⟩
    · simp [results, Try.results23, go_sem, insV, recI, none5]
    · repeat (with_reducible first | exact Nx.refl _ | refine Nx.drew ?_ | refine Nx.alloc ?_ _ | refine Nx.setCell ?_ (Nat.le_succ _) _)

end Go.Proofs.Ytcdjabfhmhibjaa
