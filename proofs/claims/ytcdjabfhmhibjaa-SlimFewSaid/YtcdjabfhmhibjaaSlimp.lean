/- Contracts of package slim: first. -/
import Derived.Test.YtcdjabfhmhibjaaSlimo
namespace Go.Proofs.Ytcdjabfhmhibjaa
open Go.RowKit
set_option linter.unusedVariables false
set_option linter.unusedSimpArgs false

def rsN : List (Int × Int) := [(5, 1), (10, 3), (6, 1)]

theorem okN : ∀ r ∈ rsN, runOk r := by
  intro r hr
  simp [rsN] at hr
  rcases hr with rfl | rfl | rfl <;> exact ⟨by decide, by decide, by decide, by decide⟩

def rsU : List (Int × Int) := [(7, 4), (11, 2), (5, 1), (6, 1)]

theorem okU : ∀ r ∈ rsU, runOk r := by
  intro r hr
  simp [rsU] at hr
  rcases hr with rfl | rfl | rfl | rfl <;> exact ⟨by decide, by decide, by decide, by decide⟩

def nearP (x : Int) : Int := runsV x 0 rsN * 4 % 4294967296

def uP (x : Int) : Int := runsV x 0 rsU * 4 % 4294967296

theorem near_bd (x : Int) : 0 ≤ nearP x ∧ nearP x < 2048 := by
  have a1 := fld_nonneg x 5 1
  have b1 : fld x 5 1 < 2 := fld_lt x 5 1
  have a2 := fld_nonneg x 10 3
  have b2 : fld x 10 3 < 8 := fld_lt x 10 3
  have a3 := fld_nonneg x 6 1
  have b3 : fld x 6 1 < 2 := fld_lt x 6 1
  show 0 ≤ (((0 * 2 ^ 1 % 4294967296 + fld x 5 1) * 2 ^ 3 % 4294967296 + fld x 10 3) * 2 ^ 1 % 4294967296 + fld x 6 1) * 4 % 4294967296 ∧ (((0 * 2 ^ 1 % 4294967296 + fld x 5 1) * 2 ^ 3 % 4294967296 + fld x 10 3) * 2 ^ 1 % 4294967296 + fld x 6 1) * 4 % 4294967296 < 2048
  omega

theorem u_bd (x : Int) : 0 ≤ uP x ∧ uP x < 2048 := by
  have a1 := fld_nonneg x 7 4
  have b1 : fld x 7 4 < 16 := fld_lt x 7 4
  have a2 := fld_nonneg x 11 2
  have b2 : fld x 11 2 < 4 := fld_lt x 11 2
  have a3 := fld_nonneg x 5 1
  have b3 : fld x 5 1 < 2 := fld_lt x 5 1
  have a4 := fld_nonneg x 6 1
  have b4 : fld x 6 1 < 2 := fld_lt x 6 1
  show 0 ≤ ((((0 * 2 ^ 4 % 4294967296 + fld x 7 4) * 2 ^ 2 % 4294967296 + fld x 11 2) * 2 ^ 1 % 4294967296 + fld x 5 1) * 2 ^ 1 % 4294967296 + fld x 6 1) * 4 % 4294967296 ∧ ((((0 * 2 ^ 4 % 4294967296 + fld x 7 4) * 2 ^ 2 % 4294967296 + fld x 11 2) * 2 ^ 1 % 4294967296 + fld x 5 1) * 2 ^ 1 % 4294967296 + fld x 6 1) * 4 % 4294967296 < 2048
  omega

def fstI (x f r1 r2 : Int) : In5 := if f = 0 then (if uP x = 0 then none5 else ⟨19, r2, 2, 0, uP x⟩) else if f = 2 then ⟨13, r2, r1, 0, nearP x⟩ else if f = 6 then ⟨18, 0, r1, r2, nearP x⟩ else none5

theorem par_res {w w2 : World} {T T' : TypeId} {p0 p1 p2 p3 p4 p5 p6 p7 p8 p9 p10 p11 p12 a b c d e : Value} (h : Nx ((w.alloc (.cells #[p0, p1, p2, p3, p4, p5, p6, p7, p8, p9, p10, p11, p12] T')).alloc (.cells #[a, b, c, d, e] T)) w2) :
    w2.cell? ⟨w.heap.size, 1, none⟩ = some p1 ∧ w2.cell? ⟨w.heap.size, 2, none⟩ = some p2 ∧ w2.cell? ⟨w.heap.size, 3, none⟩ = some p3 ∧ w2.cell? ⟨w.heap.size, 4, none⟩ = some p4 ∧ w2.cell? ⟨w.heap.size, 5, none⟩ = some p5 ∧ w2.cell? ⟨w.heap.size, 6, none⟩ = some p6 ∧
    w2.cell? ⟨w.heap.size, 7, none⟩ = some p7 ∧ w2.cell? ⟨w.heap.size, 8, none⟩ = some p8 ∧ w2.cell? ⟨w.heap.size, 9, none⟩ = some p9 ∧ w2.cell? ⟨w.heap.size, 10, none⟩ = some p10 := by
  refine ⟨?_, ?_, ?_, ?_, ?_, ?_, ?_, ?_, ?_, ?_⟩ <;> exact h.cell (by simp [go_sem])

set_option maxHeartbeats 2000000 in
theorem first_any (x q f rd rs2 r1 r2 b12 n6 j sh : Int) (b : Nat) (kd ls : Int) (w : World) (hx : 0 ≤ x) (hx' : x < 65536) (hb : w.cell? ⟨b, 0, none⟩ = some (.int .u16 x)) :
    Calls Try.prog 11 #[parG q f rd rs2 r1 r2 b12 n6 j sh b kd ls] w fun e w' => e = .returned (insV (fstI x f r1 r2)) ∧ Nx w w' := by
  obtain ⟨s1, s2⟩ := near_bd x
  obtain ⟨t1, t2⟩ := u_bd x
  have hbz := block_lt hb
  unfold parG
  cases e1 : (f == 0)
  · cases e2 : (f == 2) <;> cases e3 : (f == 6)
    all_goals
      go_enter Try.func11, Try.ntmps11
      go_wp2_with fail
      refine (reader_at x 2 rsN 3 _ rfl rfl b _ _ (by simp) hx hx' (by decide) (by decide) okN (by decide) ((((Nx.refl w).alloc _).alloc _).cell hb)).mono ?_
      rintro e w1 ⟨rfl, hn1⟩
      obtain ⟨c0, c1, c2, c3, c4, z0, z1, z2, z3, z4, hz⟩ := five_res hn1
      obtain ⟨d1, d2, d3, d4, d5, d6, d7, d8, d9, d10⟩ := par_res hn1
      have HN := Lib.hid ((((Nx.refl w).alloc _).alloc _).trans hn1)
      clear hn1
      have hsp : runsV x 0 rsN * 2 ^ (2 : Int).toNat % 4294967296 = nearP x := rfl
      rw [hsp]
      go_wp2
      simp only [beq_iff_eq, beq_eq_false_iff_ne, ne_eq] at e1 e2 e3
      refine bodyPost_ret (v := insV (fstI x f r1 r2)) (by simp [results, Try.results11, go_sem, insV, fstI, none5, e1, e2, e3, c0, c1, c2, c3, c4]) rfl ⟨rfl, ?_⟩
      repeat (with_reducible first | exact HN.out | refine Nx.alloc ?_ _ | refine Nx.setCell ?_ (Nat.le_succ _) _)
  · have e1' : f = 0 := by simpa using e1
    subst e1'
    cases e2 : (uP x == 0)
    all_goals
      go_enter Try.func11, Try.ntmps11
      go_wp2_with fail
      refine (reader_at x 2 rsN 3 _ rfl rfl b _ _ (by simp) hx hx' (by decide) (by decide) okN (by decide) ((((Nx.refl w).alloc _).alloc _).cell hb)).mono ?_
      rintro e w1 ⟨rfl, hn1⟩
      obtain ⟨d1, d2, d3, d4, d5, d6, d7, d8, d9, d10⟩ := par_res hn1
      have hsp : runsV x 0 rsN * 2 ^ (2 : Int).toNat % 4294967296 = nearP x := rfl
      rw [hsp]
      go_wp2_with fail
      refine (reader_at x 2 rsU 4 _ rfl rfl b _ _ rfl hx hx' (by decide) (by decide) okU (by decide) (((((Nx.refl w).alloc _).alloc _).trans hn1).cell hb)).mono ?_
      rintro e w2 ⟨rfl, hn2⟩
      replace hn2 := hn1.trans hn2
      obtain ⟨c0, c1, c2, c3, c4, z0, z1, z2, z3, z4, hz⟩ := five_res hn2
      obtain ⟨d1, d2, d3, d4, d5, d6, d7, d8, d9, d10⟩ := par_res hn2
      have HN := Lib.hid ((((Nx.refl w).alloc _).alloc _).trans hn2)
      clear hn1 hn2
      have hsp : runsV x 0 rsU * 2 ^ (2 : Int).toNat % 4294967296 = uP x := rfl
      rw [hsp]
      go_wp2
      simp only [beq_iff_eq, beq_eq_false_iff_ne, ne_eq] at e2
      refine bodyPost_ret (v := insV (fstI x 0 r1 r2)) (by simp [results, Try.results11, go_sem, insV, fstI, none5, e2, c0, c1, c2, c3, c4]) rfl ⟨rfl, ?_⟩
      repeat (with_reducible first | exact HN.out | refine Nx.alloc ?_ _ | refine Nx.setCell ?_ (Nat.le_succ _) _)

end Go.Proofs.Ytcdjabfhmhibjaa
