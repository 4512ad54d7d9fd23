/- Contracts of package slim: third. -/
import Derived.Test.YtcdjabfhmhibjaaSlimp
namespace Go.Proofs.Ytcdjabfhmhibjaa
open Go.RowKit
set_option linter.unusedVariables false
set_option linter.unusedSimpArgs false

def rsL : List (Int × Int) := [(2, 2), (12, 1), (4, 3)]

theorem okL : ∀ r ∈ rsL, runOk r := by
  intro r hr
  simp [rsL] at hr
  rcases hr with rfl | rfl | rfl <;> exact ⟨by decide, by decide, by decide, by decide⟩

def rsS : List (Int × Int) := [(7, 2), (9, 4)]

theorem okS : ∀ r ∈ rsS, runOk r := by
  intro r hr
  simp [rsS] at hr
  rcases hr with rfl | rfl <;> exact ⟨by decide, by decide, by decide, by decide⟩

def lsP (x : Int) : Int := runsV x 0 rsL * 4 % 4294967296

def ssP (x : Int) : Int := runsV x 0 rsS * 4 % 4294967296

theorem ls_bd (x : Int) : 0 ≤ lsP x ∧ lsP x < 2048 := by
  have a1 := fld_nonneg x 2 2
  have b1 : fld x 2 2 < 4 := fld_lt x 2 2
  have a2 := fld_nonneg x 12 1
  have b2 : fld x 12 1 < 2 := fld_lt x 12 1
  have a3 := fld_nonneg x 4 3
  have b3 : fld x 4 3 < 8 := fld_lt x 4 3
  show 0 ≤ (((0 * 2 ^ 2 % 4294967296 + fld x 2 2) * 2 ^ 1 % 4294967296 + fld x 12 1) * 2 ^ 3 % 4294967296 + fld x 4 3) * 4 % 4294967296 ∧ (((0 * 2 ^ 2 % 4294967296 + fld x 2 2) * 2 ^ 1 % 4294967296 + fld x 12 1) * 2 ^ 3 % 4294967296 + fld x 4 3) * 4 % 4294967296 < 2048
  omega

theorem ss_bd (x : Int) : 0 ≤ ssP x ∧ ssP x < 2048 := by
  have a1 := fld_nonneg x 7 2
  have b1 : fld x 7 2 < 4 := fld_lt x 7 2
  have a2 := fld_nonneg x 9 4
  have b2 : fld x 9 4 < 16 := fld_lt x 9 4
  show 0 ≤ ((0 * 2 ^ 2 % 4294967296 + fld x 7 2) * 2 ^ 4 % 4294967296 + fld x 9 4) * 4 % 4294967296 ∧ ((0 * 2 ^ 2 % 4294967296 + fld x 7 2) * 2 ^ 4 % 4294967296 + fld x 9 4) * 4 % 4294967296 < 2048
  omega

def thdI (x f rd rs2 b12 sh : Int) : In5 :=
  if f = 0 then (if b12 = 0 then ⟨25, rd, rd, 0, sh⟩ else none5) else if f = 2 then (if rd = 0 then none5 else ⟨13, rd, 2, 0, lsP x⟩) else if f = 4 then movI rd rs2 b12
  else if f = 6 then ⟨18, 0, 2, rs2, ssP x⟩ else none5

set_option maxHeartbeats 4000000 in
theorem third_any (x q f rd rs2 r1 r2 b12 n6 j sh : Int) (b : Nat) (kd ls : Int) (w : World) (hx : 0 ≤ x) (hx' : x < 65536) (hf : f = 0 ∨ f = 1 ∨ f = 2 ∨ f = 3 ∨ f = 4 ∨ f = 5 ∨ f = 6 ∨ f = 7)
    (g1 : 0 ≤ b12) (g2 : b12 ≤ 1) (hb : w.cell? ⟨b, 0, none⟩ = some (.int .u16 x)) :
    Calls Try.prog 13 #[parG q f rd rs2 r1 r2 b12 n6 j sh b kd ls] w fun e w' => e = .returned (insV (thdI x f rd rs2 b12 sh)) ∧ Nx w w' := by
  obtain ⟨s1, s2⟩ := ls_bd x
  obtain ⟨t1, t2⟩ := ss_bd x
  have hbz := block_lt hb
  rcases hf with rfl | rfl | rfl | rfl | rfl | rfl | rfl | rfl
  case inr.inr.inl =>
    cases e2 : (rd == 0)
    · unfold parG
      go_enter Try.func13, Try.ntmps13
      go_wp2_with fail
      refine (reader_at x 2 rsL 3 _ rfl rfl b _ _ (by simp) hx hx' (by decide) (by decide) okL (by decide) ((((Nx.refl w).alloc _).alloc _).cell hb)).mono ?_
      rintro e w1 ⟨rfl, hn1⟩
      obtain ⟨c0, c1, c2, c3, c4, z0, z1, z2, z3, z4, hz⟩ := five_res hn1
      obtain ⟨d1, d2, d3, d4, d5, d6, d7, d8, d9, d10⟩ := par_res hn1
      have HN := Lib.hid ((((Nx.refl w).alloc _).alloc _).trans hn1)
      clear hn1
      have hsp : runsV x 0 rsL * 2 ^ (2 : Int).toNat % 4294967296 = lsP x := rfl
      rw [hsp]
      go_wp2
      simp only [beq_iff_eq, beq_eq_false_iff_ne, ne_eq] at e2
      refine bodyPost_ret (v := insV (thdI x _ rd rs2 b12 sh)) (by simp [results, Try.results13, go_sem, insV, thdI, e2, c0, c1, c2, c3, c4]) rfl ⟨rfl, ?_⟩
      repeat (with_reducible first | exact HN.out | refine Nx.alloc ?_ _ | refine Nx.setCell ?_ (Nat.le_succ _) _)
    · unfold parG
      go_enter Try.func13, Try.ntmps13
      go_wp2
      simp only [beq_iff_eq, beq_eq_false_iff_ne, ne_eq] at e2
      refine bodyPost_ret (v := insV (thdI x _ rd rs2 b12 sh)) (by simp [results, Try.results13, go_sem, insV, thdI, none5, e2]) rfl ⟨rfl, ?_⟩
      repeat (with_reducible first | exact Nx.refl _ | refine Nx.alloc ?_ _ | refine Nx.setCell ?_ (Nat.le_succ _) _)
  case inr.inr.inr.inr.inl =>
    unfold parG
    go_enter Try.func13, Try.ntmps13
    go_wp2_with fail
    refine (moving_any q 4 rd rs2 r1 r2 b12 n6 j sh b kd ls _ g1 g2).mono ?_
    rintro e w1 ⟨rfl, hn1⟩
    obtain ⟨c0, c1, c2, c3, c4, z0, z1, z2, z3, z4, hz⟩ := five_res hn1
    have HN := Lib.hid ((((Nx.refl w).alloc _).alloc _).trans hn1)
    clear hn1
    unfold insV
    go_wp2
    refine bodyPost_ret (v := insV (thdI x _ rd rs2 b12 sh)) (by simp [results, Try.results13, go_sem, insV, thdI, c0, c1, c2, c3, c4]) rfl ⟨rfl, ?_⟩
    repeat (with_reducible first | exact HN.out | refine Nx.alloc ?_ _ | refine Nx.setCell ?_ (Nat.le_succ _) _)
  case inr.inr.inr.inr.inr.inr.inl =>
    unfold parG
    go_enter Try.func13, Try.ntmps13
    go_wp2_with fail
    refine (reader_at x 2 rsS 2 _ rfl rfl b _ _ (by simp) hx hx' (by decide) (by decide) okS (by decide) ((((Nx.refl w).alloc _).alloc _).cell hb)).mono ?_
    rintro e w1 ⟨rfl, hn1⟩
    obtain ⟨c0, c1, c2, c3, c4, z0, z1, z2, z3, z4, hz⟩ := five_res hn1
    obtain ⟨d1, d2, d3, d4, d5, d6, d7, d8, d9, d10⟩ := par_res hn1
    have HN := Lib.hid ((((Nx.refl w).alloc _).alloc _).trans hn1)
    clear hn1
    have hsp : runsV x 0 rsS * 2 ^ (2 : Int).toNat % 4294967296 = ssP x := rfl
    rw [hsp]
    go_wp2
    refine bodyPost_ret (v := insV (thdI x _ rd rs2 b12 sh)) (by simp [results, Try.results13, go_sem, insV, thdI, c0, c1, c2, c3, c4]) rfl ⟨rfl, ?_⟩
    repeat (with_reducible first | exact HN.out | refine Nx.alloc ?_ _ | refine Nx.setCell ?_ (Nat.le_succ _) _)
  all_goals
    unfold parG
    cases e2 : (b12 == 0)
  all_goals
    go_enter Try.func13, Try.ntmps13
    go_wp2
    simp only [beq_iff_eq, beq_eq_false_iff_ne, ne_eq] at e2
    refine bodyPost_ret (v := insV (thdI x _ rd rs2 b12 sh)) (by simp [results, Try.results13, go_sem, insV, thdI, none5, e2]) rfl ⟨rfl, ?_⟩
    repeat (with_reducible first | exact Nx.refl _ | refine Nx.alloc ?_ _ | refine Nx.setCell ?_ (Nat.le_succ _) _)

end Go.Proofs.Ytcdjabfhmhibjaa
