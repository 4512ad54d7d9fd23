/- Contracts of package slim: second. -/
import Derived.Test.YtcdjabfhmhibjaaSlimn
import Derived.Test.YtcdjabfhmhibjaaSlimp
namespace Go.Proofs.Ytcdjabfhmhibjaa
open Go.RowKit
set_option linter.unusedVariables false
set_option linter.unusedSimpArgs false

def rsB : List (Int × Int) := [(12, 1), (5, 2), (2, 1), (10, 2), (3, 2)]

theorem okB : ∀ r ∈ rsB, runOk r := by
  intro r hr
  simp [rsB] at hr
  rcases hr with rfl | rfl | rfl | rfl | rfl <;> exact ⟨by decide, by decide, by decide, by decide⟩

def brP (x : Int) : Int := sgn (runsV x 0 rsB * 2 % 4294967296) 9

def sndI (x f rd r1 r2 b12 n6 j sh kd ls : Int) : In5 :=
  if f = 0 then ⟨19, rd, rd, 0, n6⟩ else if f = 1 then ⟨3, 1, 0, 0, j⟩ else if f = 2 then ⟨19, rd, 0, 0, n6⟩ else if f = 3 then uppI x rd n6
  else if f = 4 then recI r1 r2 b12 n6 sh kd ls else if f = 5 then ⟨3, 0, 0, 0, j⟩ else if f = 6 then ⟨5, 0, r1, 0, brP x⟩ else ⟨6, 0, r1, 0, brP x⟩

set_option maxHeartbeats 4000000 in
theorem second_any (x q f rd rs2 r1 r2 b12 n6 j sh : Int) (b : Nat) (kd ls : Int) (w : World) (hx : 0 ≤ x) (hx' : x < 65536) (hf : f = 0 ∨ f = 1 ∨ f = 2 ∨ f = 3 ∨ f = 4 ∨ f = 5 ∨ f = 6 ∨ f = 7) (h1 : -32 ≤ n6) (h2 : n6 ≤ 31)
    (hb12 : b12 = 0 ∨ b12 = 1) (hk : kd = 0 ∨ kd = 1 ∨ kd = 2 ∨ kd = 3) (hl : ls = 0 ∨ ls = 1 ∨ ls = 2 ∨ ls = 3) (hb : w.cell? ⟨b, 0, none⟩ = some (.int .u16 x)) :
    Calls Try.prog 12 #[parG q f rd rs2 r1 r2 b12 n6 j sh b kd ls] w fun e w' => e = .returned (insV (sndI x f rd r1 r2 b12 n6 j sh kd ls)) ∧ Nx w w' := by
  obtain ⟨s1, s2⟩ := runsV_bd x rsB okB 0 (by omega)
  have hbz := block_lt hb
  have HB := Lib.hid hb12
  have HK := Lib.hid hk
  have HL := Lib.hid hl
  clear hb12 hk hl
  rcases hf with rfl | rfl | rfl | rfl | rfl | rfl | rfl | rfl
  case inr.inr.inr.inl =>
    unfold parG
    go_enter Try.func12, Try.ntmps12
    go_wp2_with fail
    refine (upper_any x q 3 rd rs2 r1 r2 b12 n6 j sh b kd ls _ hx hx' h1 h2 ((((Nx.refl w).alloc _).alloc _).cell hb)).mono ?_
    rintro e w1 ⟨rfl, hn1⟩
    obtain ⟨c0, c1, c2, c3, c4, z0, z1, z2, z3, z4, hz⟩ := five_res hn1
    have HN := Lib.hid ((((Nx.refl w).alloc _).alloc _).trans hn1)
    clear hn1
    unfold insV
    go_wp2
    refine bodyPost_ret (v := insV (sndI x _ rd r1 r2 b12 n6 j sh kd ls)) (by simp [results, Try.results12, go_sem, insV, sndI, c0, c1, c2, c3, c4]) rfl ⟨rfl, ?_⟩
    repeat (with_reducible first | exact HN.out | refine Nx.drewN ?_ _ | refine Nx.alloc ?_ _ | refine Nx.setCell ?_ (Nat.le_succ _) _)
  case inr.inr.inr.inr.inl =>
    unfold parG
    go_enter Try.func12, Try.ntmps12
    go_wp2_with fail
    refine (reckoning_any q 4 rd rs2 r1 r2 b12 n6 j sh b kd ls _ HB.out HK.out HL.out).mono ?_
    rintro e w1 ⟨rfl, hn1⟩
    obtain ⟨c0, c1, c2, c3, c4, z0, z1, z2, z3, z4, hz⟩ := five_res hn1
    have HN := Lib.hid ((((Nx.refl w).alloc _).alloc _).trans hn1)
    clear hn1
    unfold insV
    go_wp2
    refine bodyPost_ret (v := insV (sndI x _ rd r1 r2 b12 n6 j sh kd ls)) (by simp [results, Try.results12, go_sem, insV, sndI, c0, c1, c2, c3, c4]) rfl ⟨rfl, ?_⟩
    repeat (with_reducible first | exact HN.out | refine Nx.drewN ?_ _ | refine Nx.alloc ?_ _ | refine Nx.setCell ?_ (Nat.le_succ _) _)
  case inr.inr.inr.inr.inr.inr.inl =>
    unfold parG
    go_enter Try.func12, Try.ntmps12
    go_wp2_with fail
    refine (reader_at x 1 rsB 5 _ rfl rfl b _ _ (by simp) hx hx' (by decide) (by decide) okB (by decide) ((((Nx.refl w).alloc _).alloc _).cell hb)).mono ?_
    rintro e w1 ⟨rfl, hn1⟩
    obtain ⟨d1, d2, d3, d4, d5, d6, d7, d8, d9, d10⟩ := par_res hn1
    have hz1 : w.heap.size + 1 < w1.heap.size := (five_res hn1).2.2.2.2.2.2.2.2.2.2
    have hz0 : w.heap.size < w1.heap.size := by omega
    have HN1 := Lib.hid hn1
    clear hn1
    go_wp2
    (refine wp_region_nx 5 (by kernel_rfl) (by kernel_rfl) ?_; simp only [List.take_succ_cons, List.take_zero, List.drop_succ_cons, List.drop_zero]; (repeat (refine wpQuiet_step (fun K hK => ?_); go_simp; first | (refine hK _ ?_; clear hK K) | (apply Exists.intro; refine ⟨fun w' hw' => ?_, hK _ ?_⟩; (first | rfl | (obtain ⟨hc, hf⟩ := nx_cells hw'; go_simp; rfl) | (go_at_call 21; exact (sign_in _ _ _ (by omega) (by omega) (by omega) (by omega)).mono fun _ _ h => ⟨h.1, hw'.trans (Nx.of_eq h.2)⟩)); clear hK K))); refine wpQuiet_nil ?_; intro w2 hn2)
    replace hn2 := HN1.out.trans hn2
    obtain ⟨c0, c1, c2, c3, c4, z0, z1, z2, z3, z4, hz⟩ := five_res hn2
    have HN := Lib.hid ((((Nx.refl w).alloc _).alloc _).trans hn2)
    clear hn2
    go_wp2
    refine bodyPost_ret (v := insV (sndI x _ rd r1 r2 b12 n6 j sh kd ls)) (by simp [results, Try.results12, go_sem, insV, sndI, brP, c0, c1, c2, c3, c4]) rfl ⟨rfl, ?_⟩
    repeat (with_reducible first | exact HN.out | refine Nx.drewN ?_ _ | refine Nx.alloc ?_ _ | refine Nx.setCell ?_ (Nat.le_succ _) _)
  case inr.inr.inr.inr.inr.inr.inr =>
    unfold parG
    go_enter Try.func12, Try.ntmps12
    go_wp2_with fail
    refine (reader_at x 1 rsB 5 _ rfl rfl b _ _ (by simp) hx hx' (by decide) (by decide) okB (by decide) ((((Nx.refl w).alloc _).alloc _).cell hb)).mono ?_
    rintro e w1 ⟨rfl, hn1⟩
    obtain ⟨d1, d2, d3, d4, d5, d6, d7, d8, d9, d10⟩ := par_res hn1
    have hz1 : w.heap.size + 1 < w1.heap.size := (five_res hn1).2.2.2.2.2.2.2.2.2.2
    have hz0 : w.heap.size < w1.heap.size := by omega
    have HN1 := Lib.hid hn1
    clear hn1
    go_wp2
    (refine wp_region_nx 5 (by kernel_rfl) (by kernel_rfl) ?_; simp only [List.take_succ_cons, List.take_zero, List.drop_succ_cons, List.drop_zero]; (repeat (refine wpQuiet_step (fun K hK => ?_); go_simp; first | (refine hK _ ?_; clear hK K) | (apply Exists.intro; refine ⟨fun w' hw' => ?_, hK _ ?_⟩; (first | rfl | (obtain ⟨hc, hf⟩ := nx_cells hw'; go_simp; rfl) | (go_at_call 21; exact (sign_in _ _ _ (by omega) (by omega) (by omega) (by omega)).mono fun _ _ h => ⟨h.1, hw'.trans (Nx.of_eq h.2)⟩)); clear hK K))); refine wpQuiet_nil ?_; intro w2 hn2)
    replace hn2 := HN1.out.trans hn2
    obtain ⟨c0, c1, c2, c3, c4, z0, z1, z2, z3, z4, hz⟩ := five_res hn2
    have HN := Lib.hid ((((Nx.refl w).alloc _).alloc _).trans hn2)
    clear hn2
    go_wp2
    refine bodyPost_ret (v := insV (sndI x _ rd r1 r2 b12 n6 j sh kd ls)) (by simp [results, Try.results12, go_sem, insV, sndI, brP, c0, c1, c2, c3, c4]) rfl ⟨rfl, ?_⟩
    repeat (with_reducible first | exact HN.out | refine Nx.drewN ?_ _ | refine Nx.alloc ?_ _ | refine Nx.setCell ?_ (Nat.le_succ _) _)
  all_goals
    unfold parG
    go_enter Try.func12, Try.ntmps12
    go_wp2
    refine bodyPost_ret (v := insV (sndI x _ rd r1 r2 b12 n6 j sh kd ls)) (by simp [results, Try.results12, go_sem, insV, sndI]) rfl ⟨rfl, ?_⟩
    repeat (with_reducible first | exact Nx.refl _ | refine Nx.alloc ?_ _ | refine Nx.setCell ?_ (Nat.le_succ _) _)

end Go.Proofs.Ytcdjabfhmhibjaa
