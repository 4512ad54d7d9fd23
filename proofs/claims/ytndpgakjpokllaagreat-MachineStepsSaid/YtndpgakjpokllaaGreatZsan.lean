/- Parts of the proof, one behind the other. -/
import Derived.Test.YtndpgakjpokllaaGreatZsam
/- Contracts of package slim: first. -/
namespace Go.Proofs.YtndpgakjpokllaaGreat
open Go.RowKit
set_option linter.unusedVariables false
set_option linter.unusedSimpArgs false

def rsN : List (Int × Int) := [(5, 1), (10, 3), (6, 1)]

theorem okN : ∀ r ∈ rsN, runOk r := by
  intro r hr
  simp [rsN] at hr
  rcases hr with rfl | rfl | rfl <;> exact ⟨by decide, by decide, by decide, by decide⟩

def rsU : List (Int × Int) := [(7, 4), (11, 2), (5, 1), (6, 1)]

theorem okU : ∀ r ∈ rsU, runOk r := by
  intro r hr
  simp [rsU] at hr
  rcases hr with rfl | rfl | rfl | rfl <;> exact ⟨by decide, by decide, by decide, by decide⟩

def nearP (x : Int) : Int := runsV x 0 rsN * 4 % 4294967296

def uP (x : Int) : Int := runsV x 0 rsU * 4 % 4294967296

theorem near_bd (x : Int) : 0 ≤ nearP x ∧ nearP x < 2048 := by
  have a1 := fld_nonneg x 5 1
  have b1 : fld x 5 1 < 2 := fld_lt x 5 1
  have a2 := fld_nonneg x 10 3
  have b2 : fld x 10 3 < 8 := fld_lt x 10 3
  have a3 := fld_nonneg x 6 1
  have b3 : fld x 6 1 < 2 := fld_lt x 6 1
  show 0 ≤ (((0 * 2 ^ 1 % 4294967296 + fld x 5 1) * 2 ^ 3 % 4294967296 + fld x 10 3) * 2 ^ 1 % 4294967296 + fld x 6 1) * 4 % 4294967296 ∧ (((0 * 2 ^ 1 % 4294967296 + fld x 5 1) * 2 ^ 3 % 4294967296 + fld x 10 3) * 2 ^ 1 % 4294967296 + fld x 6 1) * 4 % 4294967296 < 2048
  omega

theorem u_bd (x : Int) : 0 ≤ uP x ∧ uP x < 2048 := by
  have a1 := fld_nonneg x 7 4
  have b1 : fld x 7 4 < 16 := fld_lt x 7 4
  have a2 := fld_nonneg x 11 2
  have b2 : fld x 11 2 < 4 := fld_lt x 11 2
  have a3 := fld_nonneg x 5 1
  have b3 : fld x 5 1 < 2 := fld_lt x 5 1
  have a4 := fld_nonneg x 6 1
  have b4 : fld x 6 1 < 2 := fld_lt x 6 1
  show 0 ≤ ((((0 * 2 ^ 4 % 4294967296 + fld x 7 4) * 2 ^ 2 % 4294967296 + fld x 11 2) * 2 ^ 1 % 4294967296 + fld x 5 1) * 2 ^ 1 % 4294967296 + fld x 6 1) * 4 % 4294967296 ∧ ((((0 * 2 ^ 4 % 4294967296 + fld x 7 4) * 2 ^ 2 % 4294967296 + fld x 11 2) * 2 ^ 1 % 4294967296 + fld x 5 1) * 2 ^ 1 % 4294967296 + fld x 6 1) * 4 % 4294967296 < 2048
  omega

def fstI (x f r1 r2 : Int) : In5 := if f = 0 then (if uP x = 0 then none5 else ⟨19, r2, 2, 0, uP x⟩) else if f = 2 then ⟨13, r2, r1, 0, nearP x⟩ else if f = 6 then ⟨18, 0, r1, r2, nearP x⟩ else none5

theorem par_res {w w2 : World} {T T' : TypeId} {p0 p1 p2 p3 p4 p5 p6 p7 p8 p9 p10 p11 p12 a b c d e : Value} (h : Nx ((w.alloc (.cells #[p0, p1, p2, p3, p4, p5, p6, p7, p8, p9, p10, p11, p12] T')).alloc (.cells #[a, b, c, d, e] T)) w2) :
    w2.cell? ⟨w.heap.size, 1, none⟩ = some p1 ∧ w2.cell? ⟨w.heap.size, 2, none⟩ = some p2 ∧ w2.cell? ⟨w.heap.size, 3, none⟩ = some p3 ∧ w2.cell? ⟨w.heap.size, 4, none⟩ = some p4 ∧ w2.cell? ⟨w.heap.size, 5, none⟩ = some p5 ∧ w2.cell? ⟨w.heap.size, 6, none⟩ = some p6 ∧
    w2.cell? ⟨w.heap.size, 7, none⟩ = some p7 ∧ w2.cell? ⟨w.heap.size, 8, none⟩ = some p8 ∧ w2.cell? ⟨w.heap.size, 9, none⟩ = some p9 ∧ w2.cell? ⟨w.heap.size, 10, none⟩ = some p10 := by
  refine ⟨?_, ?_, ?_, ?_, ?_, ?_, ?_, ?_, ?_, ?_⟩ <;> exact h.cell (by simp [go_sem])

set_option maxHeartbeats 2000000 in
theorem first_any (x q f rd rs2 r1 r2 b12 n6 j sh : Int) (b : Nat) (kd ls : Int) (w : World) (hx : 0 ≤ x) (hx' : x < 65536) (hb : w.cell? ⟨b, 0, none⟩ = some (.int .u16 x)) :
    Calls Tryz.prog 153 #[parG q f rd rs2 r1 r2 b12 n6 j sh b kd ls] w fun e w' => e = .returned (insV (fstI x f r1 r2)) ∧ Nx w w' := by
  obtain ⟨s1, s2⟩ := near_bd x
  obtain ⟨t1, t2⟩ := u_bd x
  have hbz := block_lt hb
  unfold parG
  cases e1 : (f == 0)
  · cases e2 : (f == 2) <;> cases e3 : (f == 6)
    all_goals
      go_enter Tryz.func153, Tryz.ntmps153
      go_wp2_with fail
      refine (reader_at x 2 rsN 3 _ rfl rfl b _ _ (by simp) hx hx' (by decide) (by decide) okN (by decide) ((((Nx.refl w).alloc _).alloc _).cell hb)).mono ?_
      rintro e w1 ⟨rfl, hn1⟩
      obtain ⟨c0, c1, c2, c3, c4, z0, z1, z2, z3, z4, hz⟩ := five_res hn1
      obtain ⟨d1, d2, d3, d4, d5, d6, d7, d8, d9, d10⟩ := par_res hn1
      have HN := Lib.hid ((((Nx.refl w).alloc _).alloc _).trans hn1)
      clear hn1
      have hsp : runsV x 0 rsN * 2 ^ (2 : Int).toNat % 4294967296 = nearP x := rfl
      rw [hsp]
      go_wp2
      simp only [beq_iff_eq, beq_eq_false_iff_ne, ne_eq] at e1 e2 e3
      refine bodyPost_ret (v := insV (fstI x f r1 r2)) (by simp [results, Tryz.results153, go_sem, insV, fstI, none5, e1, e2, e3, c0, c1, c2, c3, c4]) rfl ⟨rfl, ?_⟩
      repeat (with_reducible first | exact HN.out | refine Nx.alloc ?_ _ | refine Nx.setCell ?_ (Nat.le_succ _) _)
  · have e1' : f = 0 := by simpa using e1
    subst e1'
    cases e2 : (uP x == 0)
    all_goals
      go_enter Tryz.func153, Tryz.ntmps153
      go_wp2_with fail
      refine (reader_at x 2 rsN 3 _ rfl rfl b _ _ (by simp) hx hx' (by decide) (by decide) okN (by decide) ((((Nx.refl w).alloc _).alloc _).cell hb)).mono ?_
      rintro e w1 ⟨rfl, hn1⟩
      obtain ⟨d1, d2, d3, d4, d5, d6, d7, d8, d9, d10⟩ := par_res hn1
      have hsp : runsV x 0 rsN * 2 ^ (2 : Int).toNat % 4294967296 = nearP x := rfl
      rw [hsp]
      go_wp2_with fail
      refine (reader_at x 2 rsU 4 _ rfl rfl b _ _ rfl hx hx' (by decide) (by decide) okU (by decide) (((((Nx.refl w).alloc _).alloc _).trans hn1).cell hb)).mono ?_
      rintro e w2 ⟨rfl, hn2⟩
      replace hn2 := hn1.trans hn2
      obtain ⟨c0, c1, c2, c3, c4, z0, z1, z2, z3, z4, hz⟩ := five_res hn2
      obtain ⟨d1, d2, d3, d4, d5, d6, d7, d8, d9, d10⟩ := par_res hn2
      have HN := Lib.hid ((((Nx.refl w).alloc _).alloc _).trans hn2)
      clear hn1 hn2
      have hsp : runsV x 0 rsU * 2 ^ (2 : Int).toNat % 4294967296 = uP x := rfl
      rw [hsp]
      go_wp2
      simp only [beq_iff_eq, beq_eq_false_iff_ne, ne_eq] at e2
      refine bodyPost_ret (v := insV (fstI x 0 r1 r2)) (by simp [results, Tryz.results153, go_sem, insV, fstI, none5, e2, c0, c1, c2, c3, c4]) rfl ⟨rfl, ?_⟩
      repeat (with_reducible first | exact HN.out | refine Nx.alloc ?_ _ | refine Nx.setCell ?_ (Nat.le_succ _) _)

end Go.Proofs.YtndpgakjpokllaaGreat

/- Contracts of package slim: second. -/
namespace Go.Proofs.YtndpgakjpokllaaGreat
open Go.RowKit
set_option linter.unusedVariables false
set_option linter.unusedSimpArgs false

def rsB : List (Int × Int) := [(12, 1), (5, 2), (2, 1), (10, 2), (3, 2)]

theorem okB : ∀ r ∈ rsB, runOk r := by
  intro r hr
  simp [rsB] at hr
  rcases hr with rfl | rfl | rfl | rfl | rfl <;> exact ⟨by decide, by decide, by decide, by decide⟩

def brP (x : Int) : Int := sgn (runsV x 0 rsB * 2 % 4294967296) 9

def sndI (x f rd r1 r2 b12 n6 j sh kd ls : Int) : In5 :=
  if f = 0 then ⟨19, rd, rd, 0, n6⟩ else if f = 1 then ⟨3, 1, 0, 0, j⟩ else if f = 2 then ⟨19, rd, 0, 0, n6⟩ else if f = 3 then uppI x rd n6
  else if f = 4 then recI r1 r2 b12 n6 sh kd ls else if f = 5 then ⟨3, 0, 0, 0, j⟩ else if f = 6 then ⟨5, 0, r1, 0, brP x⟩ else ⟨6, 0, r1, 0, brP x⟩

set_option maxHeartbeats 4000000 in
theorem second_any (x q f rd rs2 r1 r2 b12 n6 j sh : Int) (b : Nat) (kd ls : Int) (w : World) (hx : 0 ≤ x) (hx' : x < 65536) (hf : f = 0 ∨ f = 1 ∨ f = 2 ∨ f = 3 ∨ f = 4 ∨ f = 5 ∨ f = 6 ∨ f = 7) (h1 : -32 ≤ n6) (h2 : n6 ≤ 31)
    (hb12 : b12 = 0 ∨ b12 = 1) (hk : kd = 0 ∨ kd = 1 ∨ kd = 2 ∨ kd = 3) (hl : ls = 0 ∨ ls = 1 ∨ ls = 2 ∨ ls = 3) (hb : w.cell? ⟨b, 0, none⟩ = some (.int .u16 x)) :
    Calls Tryz.prog 154 #[parG q f rd rs2 r1 r2 b12 n6 j sh b kd ls] w fun e w' => e = .returned (insV (sndI x f rd r1 r2 b12 n6 j sh kd ls)) ∧ Nx w w' := by
  obtain ⟨s1, s2⟩ := runsV_bd x rsB okB 0 (by omega)
  have hbz := block_lt hb
  have HB := Lib.hid hb12
  have HK := Lib.hid hk
  have HL := Lib.hid hl
  clear hb12 hk hl
  rcases hf with rfl | rfl | rfl | rfl | rfl | rfl | rfl | rfl
  case inr.inr.inr.inl =>
    unfold parG
    go_enter Tryz.func154, Tryz.ntmps154
    go_wp2_with fail
    refine (upper_any x q 3 rd rs2 r1 r2 b12 n6 j sh b kd ls _ hx hx' h1 h2 ((((Nx.refl w).alloc _).alloc _).cell hb)).mono ?_
    rintro e w1 ⟨rfl, hn1⟩
    obtain ⟨c0, c1, c2, c3, c4, z0, z1, z2, z3, z4, hz⟩ := five_res hn1
    have HN := Lib.hid ((((Nx.refl w).alloc _).alloc _).trans hn1)
    clear hn1
    unfold insV
    go_wp2
    refine bodyPost_ret (v := insV (sndI x _ rd r1 r2 b12 n6 j sh kd ls)) (by simp [results, Tryz.results154, go_sem, insV, sndI, c0, c1, c2, c3, c4]) rfl ⟨rfl, ?_⟩
    repeat (with_reducible first | exact HN.out | refine Nx.drewN ?_ _ | refine Nx.alloc ?_ _ | refine Nx.setCell ?_ (Nat.le_succ _) _)
  case inr.inr.inr.inr.inl =>
    unfold parG
    go_enter Tryz.func154, Tryz.ntmps154
    go_wp2_with fail
    refine (reckoning_any q 4 rd rs2 r1 r2 b12 n6 j sh b kd ls _ HB.out HK.out HL.out).mono ?_
    rintro e w1 ⟨rfl, hn1⟩
    obtain ⟨c0, c1, c2, c3, c4, z0, z1, z2, z3, z4, hz⟩ := five_res hn1
    have HN := Lib.hid ((((Nx.refl w).alloc _).alloc _).trans hn1)
    clear hn1
    unfold insV
    go_wp2
    refine bodyPost_ret (v := insV (sndI x _ rd r1 r2 b12 n6 j sh kd ls)) (by simp [results, Tryz.results154, go_sem, insV, sndI, c0, c1, c2, c3, c4]) rfl ⟨rfl, ?_⟩
    repeat (with_reducible first | exact HN.out | refine Nx.drewN ?_ _ | refine Nx.alloc ?_ _ | refine Nx.setCell ?_ (Nat.le_succ _) _)
  case inr.inr.inr.inr.inr.inr.inl =>
    unfold parG
    go_enter Tryz.func154, Tryz.ntmps154
    go_wp2_with fail
    refine (reader_at x 1 rsB 5 _ rfl rfl b _ _ (by simp) hx hx' (by decide) (by decide) okB (by decide) ((((Nx.refl w).alloc _).alloc _).cell hb)).mono ?_
    rintro e w1 ⟨rfl, hn1⟩
    obtain ⟨d1, d2, d3, d4, d5, d6, d7, d8, d9, d10⟩ := par_res hn1
    have hz1 : w.heap.size + 1 < w1.heap.size := (five_res hn1).2.2.2.2.2.2.2.2.2.2
    have hz0 : w.heap.size < w1.heap.size := by omega
    have HN1 := Lib.hid hn1
    clear hn1
    go_wp2
    (refine wp_region_nx 5 (by kernel_rfl) (by kernel_rfl) ?_; simp only [List.take_succ_cons, List.take_zero, List.drop_succ_cons, List.drop_zero]; (repeat (refine wpQuiet_step (fun K hK => ?_); go_simp; first | (refine hK _ ?_; clear hK K) | (apply Exists.intro; refine ⟨fun w' hw' => ?_, hK _ ?_⟩; (first | rfl | (obtain ⟨hc, hf⟩ := nx_cells hw'; go_simp; rfl) | (go_at_call 30; exact (sign_in _ _ _ (by omega) (by omega) (by omega) (by omega)).mono fun _ _ h => ⟨h.1, hw'.trans (Nx.of_eq h.2)⟩)); clear hK K))); refine wpQuiet_nil ?_; intro w2 hn2)
    replace hn2 := HN1.out.trans hn2
    obtain ⟨c0, c1, c2, c3, c4, z0, z1, z2, z3, z4, hz⟩ := five_res hn2
    have HN := Lib.hid ((((Nx.refl w).alloc _).alloc _).trans hn2)
    clear hn2
    go_wp2
    refine bodyPost_ret (v := insV (sndI x _ rd r1 r2 b12 n6 j sh kd ls)) (by simp [results, Tryz.results154, go_sem, insV, sndI, brP, c0, c1, c2, c3, c4]) rfl ⟨rfl, ?_⟩
    repeat (with_reducible first | exact HN.out | refine Nx.drewN ?_ _ | refine Nx.alloc ?_ _ | refine Nx.setCell ?_ (Nat.le_succ _) _)
  case inr.inr.inr.inr.inr.inr.inr =>
    unfold parG
    go_enter Tryz.func154, Tryz.ntmps154
    go_wp2_with fail
    refine (reader_at x 1 rsB 5 _ rfl rfl b _ _ (by simp) hx hx' (by decide) (by decide) okB (by decide) ((((Nx.refl w).alloc _).alloc _).cell hb)).mono ?_
    rintro e w1 ⟨rfl, hn1⟩
    obtain ⟨d1, d2, d3, d4, d5, d6, d7, d8, d9, d10⟩ := par_res hn1
    have hz1 : w.heap.size + 1 < w1.heap.size := (five_res hn1).2.2.2.2.2.2.2.2.2.2
    have hz0 : w.heap.size < w1.heap.size := by omega
    have HN1 := Lib.hid hn1
    clear hn1
    go_wp2
    (refine wp_region_nx 5 (by kernel_rfl) (by kernel_rfl) ?_; simp only [List.take_succ_cons, List.take_zero, List.drop_succ_cons, List.drop_zero]; (repeat (refine wpQuiet_step (fun K hK => ?_); go_simp; first | (refine hK _ ?_; clear hK K) | (apply Exists.intro; refine ⟨fun w' hw' => ?_, hK _ ?_⟩; (first | rfl | (obtain ⟨hc, hf⟩ := nx_cells hw'; go_simp; rfl) | (go_at_call 30; exact (sign_in _ _ _ (by omega) (by omega) (by omega) (by omega)).mono fun _ _ h => ⟨h.1, hw'.trans (Nx.of_eq h.2)⟩)); clear hK K))); refine wpQuiet_nil ?_; intro w2 hn2)
    replace hn2 := HN1.out.trans hn2
    obtain ⟨c0, c1, c2, c3, c4, z0, z1, z2, z3, z4, hz⟩ := five_res hn2
    have HN := Lib.hid ((((Nx.refl w).alloc _).alloc _).trans hn2)
    clear hn2
    go_wp2
    refine bodyPost_ret (v := insV (sndI x _ rd r1 r2 b12 n6 j sh kd ls)) (by simp [results, Tryz.results154, go_sem, insV, sndI, brP, c0, c1, c2, c3, c4]) rfl ⟨rfl, ?_⟩
    repeat (with_reducible first | exact HN.out | refine Nx.drewN ?_ _ | refine Nx.alloc ?_ _ | refine Nx.setCell ?_ (Nat.le_succ _) _)
  all_goals
    unfold parG
    go_enter Tryz.func154, Tryz.ntmps154
    go_wp2
    refine bodyPost_ret (v := insV (sndI x _ rd r1 r2 b12 n6 j sh kd ls)) (by simp [results, Tryz.results154, go_sem, insV, sndI]) rfl ⟨rfl, ?_⟩
    repeat (with_reducible first | exact Nx.refl _ | refine Nx.alloc ?_ _ | refine Nx.setCell ?_ (Nat.le_succ _) _)

end Go.Proofs.YtndpgakjpokllaaGreat

/- Contracts of package slim: third. -/
namespace Go.Proofs.YtndpgakjpokllaaGreat
open Go.RowKit
set_option linter.unusedVariables false
set_option linter.unusedSimpArgs false

def rsL : List (Int × Int) := [(2, 2), (12, 1), (4, 3)]

theorem okL : ∀ r ∈ rsL, runOk r := by
  intro r hr
  simp [rsL] at hr
  rcases hr with rfl | rfl | rfl <;> exact ⟨by decide, by decide, by decide, by decide⟩

def rsS : List (Int × Int) := [(7, 2), (9, 4)]

theorem okS : ∀ r ∈ rsS, runOk r := by
  intro r hr
  simp [rsS] at hr
  rcases hr with rfl | rfl <;> exact ⟨by decide, by decide, by decide, by decide⟩

def lsP (x : Int) : Int := runsV x 0 rsL * 4 % 4294967296

def ssP (x : Int) : Int := runsV x 0 rsS * 4 % 4294967296

theorem ls_bd (x : Int) : 0 ≤ lsP x ∧ lsP x < 2048 := by
  have a1 := fld_nonneg x 2 2
  have b1 : fld x 2 2 < 4 := fld_lt x 2 2
  have a2 := fld_nonneg x 12 1
  have b2 : fld x 12 1 < 2 := fld_lt x 12 1
  have a3 := fld_nonneg x 4 3
  have b3 : fld x 4 3 < 8 := fld_lt x 4 3
  show 0 ≤ (((0 * 2 ^ 2 % 4294967296 + fld x 2 2) * 2 ^ 1 % 4294967296 + fld x 12 1) * 2 ^ 3 % 4294967296 + fld x 4 3) * 4 % 4294967296 ∧ (((0 * 2 ^ 2 % 4294967296 + fld x 2 2) * 2 ^ 1 % 4294967296 + fld x 12 1) * 2 ^ 3 % 4294967296 + fld x 4 3) * 4 % 4294967296 < 2048
  omega

theorem ss_bd (x : Int) : 0 ≤ ssP x ∧ ssP x < 2048 := by
  have a1 := fld_nonneg x 7 2
  have b1 : fld x 7 2 < 4 := fld_lt x 7 2
  have a2 := fld_nonneg x 9 4
  have b2 : fld x 9 4 < 16 := fld_lt x 9 4
  show 0 ≤ ((0 * 2 ^ 2 % 4294967296 + fld x 7 2) * 2 ^ 4 % 4294967296 + fld x 9 4) * 4 % 4294967296 ∧ ((0 * 2 ^ 2 % 4294967296 + fld x 7 2) * 2 ^ 4 % 4294967296 + fld x 9 4) * 4 % 4294967296 < 2048
  omega

def thdI (x f rd rs2 b12 sh : Int) : In5 :=
  if f = 0 then (if b12 = 0 then ⟨25, rd, rd, 0, sh⟩ else none5) else if f = 2 then (if rd = 0 then none5 else ⟨13, rd, 2, 0, lsP x⟩) else if f = 4 then movI rd rs2 b12
  else if f = 6 then ⟨18, 0, 2, rs2, ssP x⟩ else none5

set_option maxHeartbeats 4000000 in
theorem third_any (x q f rd rs2 r1 r2 b12 n6 j sh : Int) (b : Nat) (kd ls : Int) (w : World) (hx : 0 ≤ x) (hx' : x < 65536) (hf : f = 0 ∨ f = 1 ∨ f = 2 ∨ f = 3 ∨ f = 4 ∨ f = 5 ∨ f = 6 ∨ f = 7)
    (g1 : 0 ≤ b12) (g2 : b12 ≤ 1) (hb : w.cell? ⟨b, 0, none⟩ = some (.int .u16 x)) :
    Calls Tryz.prog 155 #[parG q f rd rs2 r1 r2 b12 n6 j sh b kd ls] w fun e w' => e = .returned (insV (thdI x f rd rs2 b12 sh)) ∧ Nx w w' := by
  obtain ⟨s1, s2⟩ := ls_bd x
  obtain ⟨t1, t2⟩ := ss_bd x
  have hbz := block_lt hb
  rcases hf with rfl | rfl | rfl | rfl | rfl | rfl | rfl | rfl
  case inr.inr.inl =>
    cases e2 : (rd == 0)
    · unfold parG
      go_enter Tryz.func155, Tryz.ntmps155
      go_wp2_with fail
      refine (reader_at x 2 rsL 3 _ rfl rfl b _ _ (by simp) hx hx' (by decide) (by decide) okL (by decide) ((((Nx.refl w).alloc _).alloc _).cell hb)).mono ?_
      rintro e w1 ⟨rfl, hn1⟩
      obtain ⟨c0, c1, c2, c3, c4, z0, z1, z2, z3, z4, hz⟩ := five_res hn1
      obtain ⟨d1, d2, d3, d4, d5, d6, d7, d8, d9, d10⟩ := par_res hn1
      have HN := Lib.hid ((((Nx.refl w).alloc _).alloc _).trans hn1)
      clear hn1
      have hsp : runsV x 0 rsL * 2 ^ (2 : Int).toNat % 4294967296 = lsP x := rfl
      rw [hsp]
      go_wp2
      simp only [beq_iff_eq, beq_eq_false_iff_ne, ne_eq] at e2
      refine bodyPost_ret (v := insV (thdI x _ rd rs2 b12 sh)) (by simp [results, Tryz.results155, go_sem, insV, thdI, e2, c0, c1, c2, c3, c4]) rfl ⟨rfl, ?_⟩
      repeat (with_reducible first | exact HN.out | refine Nx.alloc ?_ _ | refine Nx.setCell ?_ (Nat.le_succ _) _)
    · unfold parG
      go_enter Tryz.func155, Tryz.ntmps155
      go_wp2
      simp only [beq_iff_eq, beq_eq_false_iff_ne, ne_eq] at e2
      refine bodyPost_ret (v := insV (thdI x _ rd rs2 b12 sh)) (by simp [results, Tryz.results155, go_sem, insV, thdI, none5, e2]) rfl ⟨rfl, ?_⟩
      repeat (with_reducible first | exact Nx.refl _ | refine Nx.alloc ?_ _ | refine Nx.setCell ?_ (Nat.le_succ _) _)
  case inr.inr.inr.inr.inl =>
    unfold parG
    go_enter Tryz.func155, Tryz.ntmps155
    go_wp2_with fail
    refine (moving_any q 4 rd rs2 r1 r2 b12 n6 j sh b kd ls _ g1 g2).mono ?_
    rintro e w1 ⟨rfl, hn1⟩
    obtain ⟨c0, c1, c2, c3, c4, z0, z1, z2, z3, z4, hz⟩ := five_res hn1
    have HN := Lib.hid ((((Nx.refl w).alloc _).alloc _).trans hn1)
    clear hn1
    unfold insV
    go_wp2
    refine bodyPost_ret (v := insV (thdI x _ rd rs2 b12 sh)) (by simp [results, Tryz.results155, go_sem, insV, thdI, c0, c1, c2, c3, c4]) rfl ⟨rfl, ?_⟩
    repeat (with_reducible first | exact HN.out | refine Nx.alloc ?_ _ | refine Nx.setCell ?_ (Nat.le_succ _) _)
  case inr.inr.inr.inr.inr.inr.inl =>
    unfold parG
    go_enter Tryz.func155, Tryz.ntmps155
    go_wp2_with fail
    refine (reader_at x 2 rsS 2 _ rfl rfl b _ _ (by simp) hx hx' (by decide) (by decide) okS (by decide) ((((Nx.refl w).alloc _).alloc _).cell hb)).mono ?_
    rintro e w1 ⟨rfl, hn1⟩
    obtain ⟨c0, c1, c2, c3, c4, z0, z1, z2, z3, z4, hz⟩ := five_res hn1
    obtain ⟨d1, d2, d3, d4, d5, d6, d7, d8, d9, d10⟩ := par_res hn1
    have HN := Lib.hid ((((Nx.refl w).alloc _).alloc _).trans hn1)
    clear hn1
    have hsp : runsV x 0 rsS * 2 ^ (2 : Int).toNat % 4294967296 = ssP x := rfl
    rw [hsp]
    go_wp2
    refine bodyPost_ret (v := insV (thdI x _ rd rs2 b12 sh)) (by simp [results, Tryz.results155, go_sem, insV, thdI, c0, c1, c2, c3, c4]) rfl ⟨rfl, ?_⟩
    repeat (with_reducible first | exact HN.out | refine Nx.alloc ?_ _ | refine Nx.setCell ?_ (Nat.le_succ _) _)
  all_goals
    unfold parG
    cases e2 : (b12 == 0)
  all_goals
    go_enter Tryz.func155, Tryz.ntmps155
    go_wp2
    simp only [beq_iff_eq, beq_eq_false_iff_ne, ne_eq] at e2
    refine bodyPost_ret (v := insV (thdI x _ rd rs2 b12 sh)) (by simp [results, Tryz.results155, go_sem, insV, thdI, none5, e2]) rfl ⟨rfl, ?_⟩
    repeat (with_reducible first | exact Nx.refl _ | refine Nx.alloc ?_ _ | refine Nx.setCell ?_ (Nat.le_succ _) _)

end Go.Proofs.YtndpgakjpokllaaGreat

