/- Parts of the proof, one behind the other. -/
import Derived.RegionTactic
import Derived.Test.YtndpgakjpokllaaGreatZsal
/- Contracts of package slim: reckoning. -/
namespace Go.Proofs.YtndpgakjpokllaaGreat
open Go.RowKit
set_option linter.unusedVariables false
set_option linter.unusedSimpArgs false

def recI (r1 r2 b12 n6 sh kd ls : Int) : In5 :=
  if kd = 2 then ⟨24, r1, r1, 0, n6⟩ else if b12 = 1 then none5 else if kd = 0 then ⟨26, r1, r1, 0, sh⟩ else if kd = 1 then ⟨27, r1, r1, 0, sh⟩
  else ⟨if ls = 0 then 29 else if ls = 1 then 33 else if ls = 2 then 36 else 37, r1, r1, r2, 0⟩

set_option maxHeartbeats 4000000 in
theorem reckoning_any (q f rd rs2 r1 r2 b12 n6 j sh : Int) (b : Nat) (kd ls : Int) (w : World) (hb : b12 = 0 ∨ b12 = 1) (hk : kd = 0 ∨ kd = 1 ∨ kd = 2 ∨ kd = 3) (hl : ls = 0 ∨ ls = 1 ∨ ls = 2 ∨ ls = 3) :
    Calls Tryz.prog 158 #[parG q f rd rs2 r1 r2 b12 n6 j sh b kd ls] w fun e w' => e = .returned (insV (recI r1 r2 b12 n6 sh kd ls)) ∧ Nx w w' := by
  unfold parG
  rcases hb with rfl | rfl <;> rcases hk with rfl | rfl | rfl | rfl <;> rcases hl with rfl | rfl | rfl | rfl
  all_goals
    go_enter Tryz.func158, Tryz.ntmps158
    go_wp2
    try (go_region; go_wp2)
  all_goals
    refine bodyPost_ret (v := insV (recI r1 r2 _ n6 sh _ _)) ?_ rfl ⟨rfl, ?_⟩
    · simp [results, Tryz.results158, go_sem, insV, recI, none5]
    · repeat (with_reducible first | exact Nx.refl _ | refine Nx.drew ?_ | refine Nx.alloc ?_ _ | refine Nx.setCell ?_ (Nat.le_succ _) _)

end Go.Proofs.YtndpgakjpokllaaGreat

/- Contracts of package slim: upper. -/
namespace Go.Proofs.YtndpgakjpokllaaGreat
open Go.RowKit
set_option linter.unusedVariables false
set_option linter.unusedSimpArgs false

def rsF : List (Int × Int) := [(12, 1), (3, 2), (5, 1), (2, 1), (6, 1)]

theorem okF : ∀ r ∈ rsF, runOk r := by
  intro r hr
  simp [rsF] at hr
  rcases hr with rfl | rfl | rfl | rfl | rfl <;> exact ⟨by decide, by decide, by decide, by decide⟩

/-- The reader, at runs that are laid for it; the block's number as it is spelled. -/
theorem reader_at (x nn : Int) (rs : List (Int × Int)) (n : Nat) (C : Array Value) (hC : (runCells rs).toArray = C) (hl : rs.length = n) (b g : Nat) (W : World) (hg : W.heap.size = g) (hx : 0 ≤ x) (hx' : x < 65536) (hn : 0 ≤ nn) (hn' : nn ≤ 32) (hok : ∀ r ∈ rs, runOk r) (hlen : rs.length ≤ 100) (hb : W.cell? ⟨b, 0, none⟩ = some (.int .u16 x)) :
    Calls Tryz.prog 160 #[.int .i64 nn, .slice (some ⟨g, 0, none⟩) n n, .pointer (some ⟨b, 0, none⟩)] (W.alloc (.cells C 178)) fun e w' => e = .returned (.int .u32 (runsV x 0 rs * 2 ^ nn.toNat % 4294967296)) ∧ Nx W w' := by
  subst hg
  exact reader_lst x nn rs n C hC hl b W hx hx' hn hn' hok hlen hb

theorem five_res {w w2 : World} {T : TypeId} {o : Obj} {a b c d e : Value} (h : Nx ((w.alloc o).alloc (.cells #[a, b, c, d, e] T)) w2) :
    w2.cell? ⟨w.heap.size + 1, 0, none⟩ = some a ∧ w2.cell? ⟨w.heap.size + 1, 1, none⟩ = some b ∧ w2.cell? ⟨w.heap.size + 1, 2, none⟩ = some c ∧ w2.cell? ⟨w.heap.size + 1, 3, none⟩ = some d ∧ w2.cell? ⟨w.heap.size + 1, 4, none⟩ = some e ∧
    w2.frozen? ⟨w.heap.size + 1, 0, none⟩ = false ∧ w2.frozen? ⟨w.heap.size + 1, 1, none⟩ = false ∧ w2.frozen? ⟨w.heap.size + 1, 2, none⟩ = false ∧ w2.frozen? ⟨w.heap.size + 1, 3, none⟩ = false ∧ w2.frozen? ⟨w.heap.size + 1, 4, none⟩ = false ∧ w.heap.size + 1 < w2.heap.size := by
  have := five_cells h
  have e1 : (w.alloc o).heap.size = w.heap.size + 1 := by simp
  rw [e1] at this
  exact this

def farP (x : Int) : Int := sgn (runsV x 0 rsF * 16 % 4294967296) 10

def uppI (x rd n6 : Int) : In5 := if n6 = 0 then none5 else if rd = 2 then ⟨19, 2, 2, 0, farP x⟩ else ⟨1, rd, 0, 0, wrap32 (n6 * 4096)⟩

set_option maxHeartbeats 2000000 in
theorem upper_any (x q f rd rs2 r1 r2 b12 n6 j sh : Int) (b : Nat) (kd ls : Int) (w : World) (hx : 0 ≤ x) (hx' : x < 65536) (h1 : -32 ≤ n6) (h2 : n6 ≤ 31) (hb : w.cell? ⟨b, 0, none⟩ = some (.int .u16 x)) :
    Calls Tryz.prog 157 #[parG q f rd rs2 r1 r2 b12 n6 j sh b kd ls] w fun e w' => e = .returned (insV (uppI x rd n6)) ∧ Nx w w' := by
  obtain ⟨s1, s2⟩ := runsV_bd x rsF okF 0 (by omega)
  have hbz := block_lt hb
  unfold parG
  cases e1 : (n6 == 0)
  · cases e2 : (rd == 2)
    · go_enter Tryz.func157, Tryz.ntmps157
      go_wp2
      simp only [beq_eq_false_iff_ne, ne_eq] at e1 e2
      refine bodyPost_ret (v := insV (uppI x rd n6)) (by simp [results, Tryz.results157, go_sem, insV, uppI, none5, e1, e2, wrap32] <;> omega) rfl ⟨rfl, ?_⟩
      repeat (with_reducible first | exact Nx.refl _ | refine Nx.alloc ?_ _ | refine Nx.setCell ?_ (Nat.le_succ _) _)
    · have e2' : rd = 2 := by simpa using e2
      subst e2'
      go_enter Tryz.func157, Tryz.ntmps157
      go_wp2_with fail
      refine (reader_at x 4 rsF 5 _ rfl rfl b _ _ (by simp) hx hx' (by decide) (by decide) okF (by decide) ((((Nx.refl w).alloc _).alloc _).cell hb)).mono ?_
      rintro e w1 ⟨rfl, hn1⟩
      obtain ⟨c0, c1, c2, c3, c4, z0, z1, z2, z3, z4, hz⟩ := five_res hn1
      have HN := Lib.hid ((((Nx.refl w).alloc _).alloc _).trans hn1)
      clear hn1
      go_wp2_with (go_at_call 30; refine (sign_in _ _ _ (by omega) (by omega) (by omega) (by omega)).mono ?_; rintro e w' ⟨rfl, rfl⟩)
      simp only [beq_eq_false_iff_ne, ne_eq] at e1
      refine bodyPost_ret (v := insV (uppI x 2 n6)) (by simp [results, Tryz.results157, go_sem, insV, uppI, farP, none5, e1, c0, c1, c2, c3, c4]) rfl ⟨rfl, ?_⟩
      repeat (with_reducible first | exact HN.out | refine Nx.alloc ?_ _ | refine Nx.setCell ?_ (Nat.le_succ _) _)
  · go_enter Tryz.func157, Tryz.ntmps157
    go_wp2
    simp only [beq_iff_eq] at e1
    refine bodyPost_ret (v := insV (uppI x rd n6)) (by simp [results, Tryz.results157, go_sem, insV, uppI, none5, e1]) rfl ⟨rfl, ?_⟩
    repeat (with_reducible first | exact Nx.refl _ | refine Nx.alloc ?_ _ | refine Nx.setCell ?_ (Nat.le_succ _) _)

end Go.Proofs.YtndpgakjpokllaaGreat

