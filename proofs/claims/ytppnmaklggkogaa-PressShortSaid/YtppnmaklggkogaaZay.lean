/- Parts of the proof, one behind the other. -/
import Derived.Test.YtppnmaklggkogaaZag
/- Contracts of package typecaseref05: the quarters. -/
namespace Go.Proofs.Ytppnmaklggkogaa
open Go.RowKit
set_option linter.unusedVariables false
set_option linter.unusedSimpArgs false

/-- A list of bits, laid, with noughts behind. -/
theorem elist_lst (nn : Int) (l : List Int) (n m : Nat) (L : List Int) (C : Array Value) (hC : (l.map (Value.int .i64)).toArray = C) (g : Nat) (W : World) (hg : W.heap.size = g) (h0 : 0 ≤ nn) (h1 : nn ≤ 100) (hn : l.length = n) (hl : n ≤ 100) (hp : 0 < n) (hm : n + nn.toNat = m) (hL : l ++ List.replicate nn.toNat (-1) = L) :
    Calls Try.prog 45 #[.int .i64 nn, .slice (some ⟨g, 0, none⟩) n n] (W.alloc (.cells C 3)) fun e w' => ∃ g c, e = .returned (.slice (some ⟨g, 0, none⟩) m c) ∧ Hid (Ints w' g L) ∧ Nx W w' := by
  subst hC hg hL
  have hi : Ints (W.alloc (.cells (l.map (Value.int .i64)).toArray 3)) W.heap.size l := own_row (own_new W W.heap.size n l hn (Nat.le_refl _) (by omega)) hn
  refine (elist_any nn l W.heap.size n n m _ h0 h1 hn hl hp hm hi).mono ?_
  rintro e w' ⟨g, c, rfl, ho, hx⟩
  exact ⟨g, c, rfl, Lib.hid (own_row ho (by simp; omega)), ((Nx.refl W).alloc _).trans hx⟩

/-- The signed number of a list of bits. -/
theorem ebits_lst (x : Int) (L : List Int) (g n c k : Nat) (v : Int) (w : World) (hx : 0 ≤ x) (hx' : x < 65536) (hn : L.length = n) (hk : n ≤ 32) (hi : Hid (Ints w g L)) (hv : sgn (hor x 0 L) n = v) :
    Calls Try.prog 48 #[.int .u32 x, .slice (some ⟨g, 0, none⟩) n c] w fun e w' => e = .returned (.int .i32 v) ∧ w = w' := by
  have h := bits_any x g n c L hn w hx (by omega) (by omega) hi.out
  rw [cl_nat n hk, hv] at h
  exact h

/-- The plain number of a list of bits. -/
theorem eplain_lst (x : Int) (L : List Int) (g n c : Nat) (v : Int) (w : World) (hx : 0 ≤ x) (hx' : x < 65536) (hn : L.length = n) (hk : n ≤ 31) (hi : Hid (Ints w g L)) (hv : hor x 0 (-1 :: L) = v) :
    Calls Try.prog 44 #[.int .u32 x, .slice (some ⟨g, 0, none⟩) n c] w fun e w' => e = .returned (.int .i32 v) ∧ Nx w w' := by
  have h := eplain_any x L g n c w hx hx' hn (by omega) hi.out
  rw [cl_nat (1 + n) (by omega), sgn_plain x L (1 + n) (by omega) (by omega), hv] at h
  exact h

theorem efield_v (x a b : Int) (n : Nat) (v : Int) (w : World) (hx : 0 ≤ x) (hx' : x < 65536) (hb : 0 ≤ b) (hb' : b ≤ 31) (ha : b ≤ a) (ha' : a ≤ 31) (hn : (a - b + 1).toNat = n) (hv : fld x b.toNat n = v) :
    Calls Try.prog 46 #[.int .u32 x, .int .i64 a, .int .i64 b] w fun e w' => e = .returned (.int .i64 v) ∧ w = w' := by
  subst hv
  exact efield_any x a b n w hx hx' hb hb' ha ha' hn

set_option maxHeartbeats 4000000 in
theorem q0_a (x : Int) (w : World) (hx : 0 ≤ x) (hx' : x < 65536) (hf : fld x 13 3 = 0) (hu : uP x = 0) :
    Calls Try.prog 31 #[.int .u32 x] w fun e w' => e = .returned (insV (fstI x (fld x 13 3) (8 + fld x 7 3) (8 + fld x 2 3))) ∧ Nx w w' := by
  obtain ⟨s1, s2⟩ := near_bd x
  obtain ⟨t1, t2⟩ := u_bd x
  have g0 := fld_nonneg x 7 3
  have g1 : fld x 7 3 < 8 := fld_lt x 7 3
  have k0 := fld_nonneg x 2 3
  have k1 : fld x 2 3 < 8 := fld_lt x 2 3
  rw [show fstI x (fld x 13 3) (8 + fld x 7 3) (8 + fld x 2 3) = fstI x 0 (8 + fld x 7 3) (8 + fld x 2 3) by rw [hf]]
  go_enter Try.func31, Try.ntmps31
  go_wp2_with fail
  refine (elist_lst 2 [10, 9, 8, 7, 12, 11, 5, 6] 8 10 [10, 9, 8, 7, 12, 11, 5, 6, -1, -1] _ rfl _ _ (by simp) (by decide) (by decide) rfl (by decide) (by decide) rfl rfl).mono ?_
  rintro e w1 ⟨gA, cA, rfl, iA, n1⟩
  go_wp2_with fail
  refine (eplain_lst x _ gA 10 cA (uP x) _ hx hx' rfl (by decide) iA (e_u x)).mono ?_
  rintro e w2 ⟨rfl, n2⟩
  replace n2 := n1.trans n2
  clear n1 iA
  go_wp2_with fail
  refine (elist_lst 2 [5, 12, 11, 10, 6] 5 7 [5, 12, 11, 10, 6, -1, -1] _ rfl _ _ rfl (by decide) (by decide) rfl (by decide) (by decide) rfl rfl).mono ?_
  rintro e w3 ⟨gB, cB, rfl, iB, n3⟩
  go_wp2_with fail
  refine (eplain_lst x _ gB 7 cB (nearP x) _ hx hx' rfl (by decide) iB (e_near x)).mono ?_
  rintro e w4 ⟨rfl, n4⟩
  replace n4 := n2.trans (n3.trans n4)
  clear n2 n3 iB
  go_wp2_with fail
  refine (efield_v x 15 13 3 0 _ hx hx' (by decide) (by decide) (by decide) (by decide) rfl hf).mono ?_
  rintro e w' ⟨rfl, rfl⟩
  have hu' : (uP x == 0) = true := by rw [beq_iff_eq]; exact hu
  obtain ⟨c0, c1, c2, c3, c4, z0, z1, z2, z3, z4, hz⟩ := five_cells n4
  have HN := Lib.hid (((Nx.refl w).alloc _).trans n4)
  clear n4
  go_wp2_with (go_at_call 47; refine (efew_any _ _ _ hx hx' (by decide) (by decide)).mono ?_; rintro e w' ⟨rfl, rfl⟩)
  refine bodyPost_ret (v := insV (fstI x 0 (8 + fld x 7 3) (8 + fld x 2 3))) (by simp [results, Try.results31, go_sem, insV, fstI, none5, c0, c1, c2, c3, c4, hu]) rfl ⟨rfl, ?_⟩
  repeat (with_reducible first | exact HN.out | refine Nx.alloc ?_ _ | refine Nx.setCell ?_ (Nat.le_refl _) _)

set_option maxHeartbeats 4000000 in
theorem q0_b (x : Int) (w : World) (hx : 0 ≤ x) (hx' : x < 65536) (hf : fld x 13 3 = 0) (hu : ¬ uP x = 0) :
    Calls Try.prog 31 #[.int .u32 x] w fun e w' => e = .returned (insV (fstI x (fld x 13 3) (8 + fld x 7 3) (8 + fld x 2 3))) ∧ Nx w w' := by
  obtain ⟨s1, s2⟩ := near_bd x
  obtain ⟨t1, t2⟩ := u_bd x
  have g0 := fld_nonneg x 7 3
  have g1 : fld x 7 3 < 8 := fld_lt x 7 3
  have k0 := fld_nonneg x 2 3
  have k1 : fld x 2 3 < 8 := fld_lt x 2 3
  rw [show fstI x (fld x 13 3) (8 + fld x 7 3) (8 + fld x 2 3) = fstI x 0 (8 + fld x 7 3) (8 + fld x 2 3) by rw [hf]]
  go_enter Try.func31, Try.ntmps31
  go_wp2_with fail
  refine (elist_lst 2 [10, 9, 8, 7, 12, 11, 5, 6] 8 10 [10, 9, 8, 7, 12, 11, 5, 6, -1, -1] _ rfl _ _ (by simp) (by decide) (by decide) rfl (by decide) (by decide) rfl rfl).mono ?_
  rintro e w1 ⟨gA, cA, rfl, iA, n1⟩
  go_wp2_with fail
  refine (eplain_lst x _ gA 10 cA (uP x) _ hx hx' rfl (by decide) iA (e_u x)).mono ?_
  rintro e w2 ⟨rfl, n2⟩
  replace n2 := n1.trans n2
  clear n1 iA
  go_wp2_with fail
  refine (elist_lst 2 [5, 12, 11, 10, 6] 5 7 [5, 12, 11, 10, 6, -1, -1] _ rfl _ _ rfl (by decide) (by decide) rfl (by decide) (by decide) rfl rfl).mono ?_
  rintro e w3 ⟨gB, cB, rfl, iB, n3⟩
  go_wp2_with fail
  refine (eplain_lst x _ gB 7 cB (nearP x) _ hx hx' rfl (by decide) iB (e_near x)).mono ?_
  rintro e w4 ⟨rfl, n4⟩
  replace n4 := n2.trans (n3.trans n4)
  clear n2 n3 iB
  go_wp2_with fail
  refine (efield_v x 15 13 3 0 _ hx hx' (by decide) (by decide) (by decide) (by decide) rfl hf).mono ?_
  rintro e w' ⟨rfl, rfl⟩
  have hu' : (uP x == 0) = false := beq_eq_false_iff_ne.2 hu
  obtain ⟨c0, c1, c2, c3, c4, z0, z1, z2, z3, z4, hz⟩ := five_cells n4
  have HN := Lib.hid (((Nx.refl w).alloc _).trans n4)
  clear n4
  go_wp2_with (go_at_call 47; refine (efew_any _ _ _ hx hx' (by decide) (by decide)).mono ?_; rintro e w' ⟨rfl, rfl⟩)
  refine bodyPost_ret (v := insV (fstI x 0 (8 + fld x 7 3) (8 + fld x 2 3))) (by simp [results, Try.results31, go_sem, insV, fstI, none5, c0, c1, c2, c3, c4, hu]) rfl ⟨rfl, ?_⟩
  repeat (with_reducible first | exact HN.out | refine Nx.alloc ?_ _ | refine Nx.setCell ?_ (Nat.le_refl _) _)

set_option maxHeartbeats 4000000 in
theorem q0_c (x : Int) (w : World) (hx : 0 ≤ x) (hx' : x < 65536) (hf : fld x 13 3 = 2) :
    Calls Try.prog 31 #[.int .u32 x] w fun e w' => e = .returned (insV (fstI x (fld x 13 3) (8 + fld x 7 3) (8 + fld x 2 3))) ∧ Nx w w' := by
  obtain ⟨s1, s2⟩ := near_bd x
  obtain ⟨t1, t2⟩ := u_bd x
  have g0 := fld_nonneg x 7 3
  have g1 : fld x 7 3 < 8 := fld_lt x 7 3
  have k0 := fld_nonneg x 2 3
  have k1 : fld x 2 3 < 8 := fld_lt x 2 3
  rw [show fstI x (fld x 13 3) (8 + fld x 7 3) (8 + fld x 2 3) = fstI x 2 (8 + fld x 7 3) (8 + fld x 2 3) by rw [hf]]
  go_enter Try.func31, Try.ntmps31
  go_wp2_with fail
  refine (elist_lst 2 [10, 9, 8, 7, 12, 11, 5, 6] 8 10 [10, 9, 8, 7, 12, 11, 5, 6, -1, -1] _ rfl _ _ (by simp) (by decide) (by decide) rfl (by decide) (by decide) rfl rfl).mono ?_
  rintro e w1 ⟨gA, cA, rfl, iA, n1⟩
  go_wp2_with fail
  refine (eplain_lst x _ gA 10 cA (uP x) _ hx hx' rfl (by decide) iA (e_u x)).mono ?_
  rintro e w2 ⟨rfl, n2⟩
  replace n2 := n1.trans n2
  clear n1 iA
  go_wp2_with fail
  refine (elist_lst 2 [5, 12, 11, 10, 6] 5 7 [5, 12, 11, 10, 6, -1, -1] _ rfl _ _ rfl (by decide) (by decide) rfl (by decide) (by decide) rfl rfl).mono ?_
  rintro e w3 ⟨gB, cB, rfl, iB, n3⟩
  go_wp2_with fail
  refine (eplain_lst x _ gB 7 cB (nearP x) _ hx hx' rfl (by decide) iB (e_near x)).mono ?_
  rintro e w4 ⟨rfl, n4⟩
  replace n4 := n2.trans (n3.trans n4)
  clear n2 n3 iB
  go_wp2_with fail
  refine (efield_v x 15 13 3 2 _ hx hx' (by decide) (by decide) (by decide) (by decide) rfl hf).mono ?_
  rintro e w' ⟨rfl, rfl⟩
  obtain ⟨c0, c1, c2, c3, c4, z0, z1, z2, z3, z4, hz⟩ := five_cells n4
  have HN := Lib.hid (((Nx.refl w).alloc _).trans n4)
  clear n4
  go_wp2_with (go_at_call 47; refine (efew_any _ _ _ hx hx' (by decide) (by decide)).mono ?_; rintro e w' ⟨rfl, rfl⟩)
  refine bodyPost_ret (v := insV (fstI x 2 (8 + fld x 7 3) (8 + fld x 2 3))) (by simp [results, Try.results31, go_sem, insV, fstI, none5, c0, c1, c2, c3, c4]) rfl ⟨rfl, ?_⟩
  repeat (with_reducible first | exact HN.out | refine Nx.alloc ?_ _ | refine Nx.setCell ?_ (Nat.le_refl _) _)

set_option maxHeartbeats 4000000 in
theorem q0_d (x : Int) (w : World) (hx : 0 ≤ x) (hx' : x < 65536) (hf : fld x 13 3 = 6) :
    Calls Try.prog 31 #[.int .u32 x] w fun e w' => e = .returned (insV (fstI x (fld x 13 3) (8 + fld x 7 3) (8 + fld x 2 3))) ∧ Nx w w' := by
  obtain ⟨s1, s2⟩ := near_bd x
  obtain ⟨t1, t2⟩ := u_bd x
  have g0 := fld_nonneg x 7 3
  have g1 : fld x 7 3 < 8 := fld_lt x 7 3
  have k0 := fld_nonneg x 2 3
  have k1 : fld x 2 3 < 8 := fld_lt x 2 3
  rw [show fstI x (fld x 13 3) (8 + fld x 7 3) (8 + fld x 2 3) = fstI x 6 (8 + fld x 7 3) (8 + fld x 2 3) by rw [hf]]
  go_enter Try.func31, Try.ntmps31
  go_wp2_with fail
  refine (elist_lst 2 [10, 9, 8, 7, 12, 11, 5, 6] 8 10 [10, 9, 8, 7, 12, 11, 5, 6, -1, -1] _ rfl _ _ (by simp) (by decide) (by decide) rfl (by decide) (by decide) rfl rfl).mono ?_
  rintro e w1 ⟨gA, cA, rfl, iA, n1⟩
  go_wp2_with fail
  refine (eplain_lst x _ gA 10 cA (uP x) _ hx hx' rfl (by decide) iA (e_u x)).mono ?_
  rintro e w2 ⟨rfl, n2⟩
  replace n2 := n1.trans n2
  clear n1 iA
  go_wp2_with fail
  refine (elist_lst 2 [5, 12, 11, 10, 6] 5 7 [5, 12, 11, 10, 6, -1, -1] _ rfl _ _ rfl (by decide) (by decide) rfl (by decide) (by decide) rfl rfl).mono ?_
  rintro e w3 ⟨gB, cB, rfl, iB, n3⟩
  go_wp2_with fail
  refine (eplain_lst x _ gB 7 cB (nearP x) _ hx hx' rfl (by decide) iB (e_near x)).mono ?_
  rintro e w4 ⟨rfl, n4⟩
  replace n4 := n2.trans (n3.trans n4)
  clear n2 n3 iB
  go_wp2_with fail
  refine (efield_v x 15 13 3 6 _ hx hx' (by decide) (by decide) (by decide) (by decide) rfl hf).mono ?_
  rintro e w' ⟨rfl, rfl⟩
  obtain ⟨c0, c1, c2, c3, c4, z0, z1, z2, z3, z4, hz⟩ := five_cells n4
  have HN := Lib.hid (((Nx.refl w).alloc _).trans n4)
  clear n4
  go_wp2_with (go_at_call 47; refine (efew_any _ _ _ hx hx' (by decide) (by decide)).mono ?_; rintro e w' ⟨rfl, rfl⟩)
  refine bodyPost_ret (v := insV (fstI x 6 (8 + fld x 7 3) (8 + fld x 2 3))) (by simp [results, Try.results31, go_sem, insV, fstI, none5, c0, c1, c2, c3, c4]) rfl ⟨rfl, ?_⟩
  repeat (with_reducible first | exact HN.out | refine Nx.alloc ?_ _ | refine Nx.setCell ?_ (Nat.le_refl _) _)

set_option maxHeartbeats 4000000 in
theorem q0_e1 (x : Int) (w : World) (hx : 0 ≤ x) (hx' : x < 65536) (hf : fld x 13 3 = 1) :
    Calls Try.prog 31 #[.int .u32 x] w fun e w' => e = .returned (insV (fstI x (fld x 13 3) (8 + fld x 7 3) (8 + fld x 2 3))) ∧ Nx w w' := by
  obtain ⟨s1, s2⟩ := near_bd x
  obtain ⟨t1, t2⟩ := u_bd x
  have g0 := fld_nonneg x 7 3
  have g1 : fld x 7 3 < 8 := fld_lt x 7 3
  have k0 := fld_nonneg x 2 3
  have k1 : fld x 2 3 < 8 := fld_lt x 2 3
  rw [show fstI x (fld x 13 3) (8 + fld x 7 3) (8 + fld x 2 3) = fstI x 1 (8 + fld x 7 3) (8 + fld x 2 3) by rw [hf]]
  go_enter Try.func31, Try.ntmps31
  go_wp2_with fail
  refine (elist_lst 2 [10, 9, 8, 7, 12, 11, 5, 6] 8 10 [10, 9, 8, 7, 12, 11, 5, 6, -1, -1] _ rfl _ _ (by simp) (by decide) (by decide) rfl (by decide) (by decide) rfl rfl).mono ?_
  rintro e w1 ⟨gA, cA, rfl, iA, n1⟩
  go_wp2_with fail
  refine (eplain_lst x _ gA 10 cA (uP x) _ hx hx' rfl (by decide) iA (e_u x)).mono ?_
  rintro e w2 ⟨rfl, n2⟩
  replace n2 := n1.trans n2
  clear n1 iA
  go_wp2_with fail
  refine (elist_lst 2 [5, 12, 11, 10, 6] 5 7 [5, 12, 11, 10, 6, -1, -1] _ rfl _ _ rfl (by decide) (by decide) rfl (by decide) (by decide) rfl rfl).mono ?_
  rintro e w3 ⟨gB, cB, rfl, iB, n3⟩
  go_wp2_with fail
  refine (eplain_lst x _ gB 7 cB (nearP x) _ hx hx' rfl (by decide) iB (e_near x)).mono ?_
  rintro e w4 ⟨rfl, n4⟩
  replace n4 := n2.trans (n3.trans n4)
  clear n2 n3 iB
  go_wp2_with fail
  refine (efield_v x 15 13 3 1 _ hx hx' (by decide) (by decide) (by decide) (by decide) rfl hf).mono ?_
  rintro e w' ⟨rfl, rfl⟩
  obtain ⟨c0, c1, c2, c3, c4, z0, z1, z2, z3, z4, hz⟩ := five_cells n4
  have HN := Lib.hid (((Nx.refl w).alloc _).trans n4)
  clear n4
  go_wp2_with (go_at_call 47; refine (efew_any _ _ _ hx hx' (by decide) (by decide)).mono ?_; rintro e w' ⟨rfl, rfl⟩)
  refine bodyPost_ret (v := insV (fstI x 1 (8 + fld x 7 3) (8 + fld x 2 3))) (by simp [results, Try.results31, go_sem, insV, fstI, none5, c0, c1, c2, c3, c4]) rfl ⟨rfl, ?_⟩
  repeat (with_reducible first | exact HN.out | refine Nx.alloc ?_ _ | refine Nx.setCell ?_ (Nat.le_refl _) _)

set_option maxHeartbeats 4000000 in
theorem q0_e3 (x : Int) (w : World) (hx : 0 ≤ x) (hx' : x < 65536) (hf : fld x 13 3 = 3) :
    Calls Try.prog 31 #[.int .u32 x] w fun e w' => e = .returned (insV (fstI x (fld x 13 3) (8 + fld x 7 3) (8 + fld x 2 3))) ∧ Nx w w' := by
  obtain ⟨s1, s2⟩ := near_bd x
  obtain ⟨t1, t2⟩ := u_bd x
  have g0 := fld_nonneg x 7 3
  have g1 : fld x 7 3 < 8 := fld_lt x 7 3
  have k0 := fld_nonneg x 2 3
  have k1 : fld x 2 3 < 8 := fld_lt x 2 3
  rw [show fstI x (fld x 13 3) (8 + fld x 7 3) (8 + fld x 2 3) = fstI x 3 (8 + fld x 7 3) (8 + fld x 2 3) by rw [hf]]
  go_enter Try.func31, Try.ntmps31
  go_wp2_with fail
  refine (elist_lst 2 [10, 9, 8, 7, 12, 11, 5, 6] 8 10 [10, 9, 8, 7, 12, 11, 5, 6, -1, -1] _ rfl _ _ (by simp) (by decide) (by decide) rfl (by decide) (by decide) rfl rfl).mono ?_
  rintro e w1 ⟨gA, cA, rfl, iA, n1⟩
  go_wp2_with fail
  refine (eplain_lst x _ gA 10 cA (uP x) _ hx hx' rfl (by decide) iA (e_u x)).mono ?_
  rintro e w2 ⟨rfl, n2⟩
  replace n2 := n1.trans n2
  clear n1 iA
  go_wp2_with fail
  refine (elist_lst 2 [5, 12, 11, 10, 6] 5 7 [5, 12, 11, 10, 6, -1, -1] _ rfl _ _ rfl (by decide) (by decide) rfl (by decide) (by decide) rfl rfl).mono ?_
  rintro e w3 ⟨gB, cB, rfl, iB, n3⟩
  go_wp2_with fail
  refine (eplain_lst x _ gB 7 cB (nearP x) _ hx hx' rfl (by decide) iB (e_near x)).mono ?_
  rintro e w4 ⟨rfl, n4⟩
  replace n4 := n2.trans (n3.trans n4)
  clear n2 n3 iB
  go_wp2_with fail
  refine (efield_v x 15 13 3 3 _ hx hx' (by decide) (by decide) (by decide) (by decide) rfl hf).mono ?_
  rintro e w' ⟨rfl, rfl⟩
  obtain ⟨c0, c1, c2, c3, c4, z0, z1, z2, z3, z4, hz⟩ := five_cells n4
  have HN := Lib.hid (((Nx.refl w).alloc _).trans n4)
  clear n4
  go_wp2_with (go_at_call 47; refine (efew_any _ _ _ hx hx' (by decide) (by decide)).mono ?_; rintro e w' ⟨rfl, rfl⟩)
  refine bodyPost_ret (v := insV (fstI x 3 (8 + fld x 7 3) (8 + fld x 2 3))) (by simp [results, Try.results31, go_sem, insV, fstI, none5, c0, c1, c2, c3, c4]) rfl ⟨rfl, ?_⟩
  repeat (with_reducible first | exact HN.out | refine Nx.alloc ?_ _ | refine Nx.setCell ?_ (Nat.le_refl _) _)

set_option maxHeartbeats 4000000 in
theorem q0_e4 (x : Int) (w : World) (hx : 0 ≤ x) (hx' : x < 65536) (hf : fld x 13 3 = 4) :
    Calls Try.prog 31 #[.int .u32 x] w fun e w' => e = .returned (insV (fstI x (fld x 13 3) (8 + fld x 7 3) (8 + fld x 2 3))) ∧ Nx w w' := by
  obtain ⟨s1, s2⟩ := near_bd x
  obtain ⟨t1, t2⟩ := u_bd x
  have g0 := fld_nonneg x 7 3
  have g1 : fld x 7 3 < 8 := fld_lt x 7 3
  have k0 := fld_nonneg x 2 3
  have k1 : fld x 2 3 < 8 := fld_lt x 2 3
  rw [show fstI x (fld x 13 3) (8 + fld x 7 3) (8 + fld x 2 3) = fstI x 4 (8 + fld x 7 3) (8 + fld x 2 3) by rw [hf]]
  go_enter Try.func31, Try.ntmps31
  go_wp2_with fail
  refine (elist_lst 2 [10, 9, 8, 7, 12, 11, 5, 6] 8 10 [10, 9, 8, 7, 12, 11, 5, 6, -1, -1] _ rfl _ _ (by simp) (by decide) (by decide) rfl (by decide) (by decide) rfl rfl).mono ?_
  rintro e w1 ⟨gA, cA, rfl, iA, n1⟩
  go_wp2_with fail
  refine (eplain_lst x _ gA 10 cA (uP x) _ hx hx' rfl (by decide) iA (e_u x)).mono ?_
  rintro e w2 ⟨rfl, n2⟩
  replace n2 := n1.trans n2
  clear n1 iA
  go_wp2_with fail
  refine (elist_lst 2 [5, 12, 11, 10, 6] 5 7 [5, 12, 11, 10, 6, -1, -1] _ rfl _ _ rfl (by decide) (by decide) rfl (by decide) (by decide) rfl rfl).mono ?_
  rintro e w3 ⟨gB, cB, rfl, iB, n3⟩
  go_wp2_with fail
  refine (eplain_lst x _ gB 7 cB (nearP x) _ hx hx' rfl (by decide) iB (e_near x)).mono ?_
  rintro e w4 ⟨rfl, n4⟩
  replace n4 := n2.trans (n3.trans n4)
  clear n2 n3 iB
  go_wp2_with fail
  refine (efield_v x 15 13 3 4 _ hx hx' (by decide) (by decide) (by decide) (by decide) rfl hf).mono ?_
  rintro e w' ⟨rfl, rfl⟩
  obtain ⟨c0, c1, c2, c3, c4, z0, z1, z2, z3, z4, hz⟩ := five_cells n4
  have HN := Lib.hid (((Nx.refl w).alloc _).trans n4)
  clear n4
  go_wp2_with (go_at_call 47; refine (efew_any _ _ _ hx hx' (by decide) (by decide)).mono ?_; rintro e w' ⟨rfl, rfl⟩)
  refine bodyPost_ret (v := insV (fstI x 4 (8 + fld x 7 3) (8 + fld x 2 3))) (by simp [results, Try.results31, go_sem, insV, fstI, none5, c0, c1, c2, c3, c4]) rfl ⟨rfl, ?_⟩
  repeat (with_reducible first | exact HN.out | refine Nx.alloc ?_ _ | refine Nx.setCell ?_ (Nat.le_refl _) _)

set_option maxHeartbeats 4000000 in
theorem q0_e5 (x : Int) (w : World) (hx : 0 ≤ x) (hx' : x < 65536) (hf : fld x 13 3 = 5) :
    Calls Try.prog 31 #[.int .u32 x] w fun e w' => e = .returned (insV (fstI x (fld x 13 3) (8 + fld x 7 3) (8 + fld x 2 3))) ∧ Nx w w' := by
  obtain ⟨s1, s2⟩ := near_bd x
  obtain ⟨t1, t2⟩ := u_bd x
  have g0 := fld_nonneg x 7 3
  have g1 : fld x 7 3 < 8 := fld_lt x 7 3
  have k0 := fld_nonneg x 2 3
  have k1 : fld x 2 3 < 8 := fld_lt x 2 3
  rw [show fstI x (fld x 13 3) (8 + fld x 7 3) (8 + fld x 2 3) = fstI x 5 (8 + fld x 7 3) (8 + fld x 2 3) by rw [hf]]
  go_enter Try.func31, Try.ntmps31
  go_wp2_with fail
  refine (elist_lst 2 [10, 9, 8, 7, 12, 11, 5, 6] 8 10 [10, 9, 8, 7, 12, 11, 5, 6, -1, -1] _ rfl _ _ (by simp) (by decide) (by decide) rfl (by decide) (by decide) rfl rfl).mono ?_
  rintro e w1 ⟨gA, cA, rfl, iA, n1⟩
  go_wp2_with fail
  refine (eplain_lst x _ gA 10 cA (uP x) _ hx hx' rfl (by decide) iA (e_u x)).mono ?_
  rintro e w2 ⟨rfl, n2⟩
  replace n2 := n1.trans n2
  clear n1 iA
  go_wp2_with fail
  refine (elist_lst 2 [5, 12, 11, 10, 6] 5 7 [5, 12, 11, 10, 6, -1, -1] _ rfl _ _ rfl (by decide) (by decide) rfl (by decide) (by decide) rfl rfl).mono ?_
  rintro e w3 ⟨gB, cB, rfl, iB, n3⟩
  go_wp2_with fail
  refine (eplain_lst x _ gB 7 cB (nearP x) _ hx hx' rfl (by decide) iB (e_near x)).mono ?_
  rintro e w4 ⟨rfl, n4⟩
  replace n4 := n2.trans (n3.trans n4)
  clear n2 n3 iB
  go_wp2_with fail
  refine (efield_v x 15 13 3 5 _ hx hx' (by decide) (by decide) (by decide) (by decide) rfl hf).mono ?_
  rintro e w' ⟨rfl, rfl⟩
  obtain ⟨c0, c1, c2, c3, c4, z0, z1, z2, z3, z4, hz⟩ := five_cells n4
  have HN := Lib.hid (((Nx.refl w).alloc _).trans n4)
  clear n4
  go_wp2_with (go_at_call 47; refine (efew_any _ _ _ hx hx' (by decide) (by decide)).mono ?_; rintro e w' ⟨rfl, rfl⟩)
  refine bodyPost_ret (v := insV (fstI x 5 (8 + fld x 7 3) (8 + fld x 2 3))) (by simp [results, Try.results31, go_sem, insV, fstI, none5, c0, c1, c2, c3, c4]) rfl ⟨rfl, ?_⟩
  repeat (with_reducible first | exact HN.out | refine Nx.alloc ?_ _ | refine Nx.setCell ?_ (Nat.le_refl _) _)

set_option maxHeartbeats 4000000 in
theorem q0_e7 (x : Int) (w : World) (hx : 0 ≤ x) (hx' : x < 65536) (hf : fld x 13 3 = 7) :
    Calls Try.prog 31 #[.int .u32 x] w fun e w' => e = .returned (insV (fstI x (fld x 13 3) (8 + fld x 7 3) (8 + fld x 2 3))) ∧ Nx w w' := by
  obtain ⟨s1, s2⟩ := near_bd x
  obtain ⟨t1, t2⟩ := u_bd x
  have g0 := fld_nonneg x 7 3
  have g1 : fld x 7 3 < 8 := fld_lt x 7 3
  have k0 := fld_nonneg x 2 3
  have k1 : fld x 2 3 < 8 := fld_lt x 2 3
  rw [show fstI x (fld x 13 3) (8 + fld x 7 3) (8 + fld x 2 3) = fstI x 7 (8 + fld x 7 3) (8 + fld x 2 3) by rw [hf]]
  go_enter Try.func31, Try.ntmps31
  go_wp2_with fail
  refine (elist_lst 2 [10, 9, 8, 7, 12, 11, 5, 6] 8 10 [10, 9, 8, 7, 12, 11, 5, 6, -1, -1] _ rfl _ _ (by simp) (by decide) (by decide) rfl (by decide) (by decide) rfl rfl).mono ?_
  rintro e w1 ⟨gA, cA, rfl, iA, n1⟩
  go_wp2_with fail
  refine (eplain_lst x _ gA 10 cA (uP x) _ hx hx' rfl (by decide) iA (e_u x)).mono ?_
  rintro e w2 ⟨rfl, n2⟩
  replace n2 := n1.trans n2
  clear n1 iA
  go_wp2_with fail
  refine (elist_lst 2 [5, 12, 11, 10, 6] 5 7 [5, 12, 11, 10, 6, -1, -1] _ rfl _ _ rfl (by decide) (by decide) rfl (by decide) (by decide) rfl rfl).mono ?_
  rintro e w3 ⟨gB, cB, rfl, iB, n3⟩
  go_wp2_with fail
  refine (eplain_lst x _ gB 7 cB (nearP x) _ hx hx' rfl (by decide) iB (e_near x)).mono ?_
  rintro e w4 ⟨rfl, n4⟩
  replace n4 := n2.trans (n3.trans n4)
  clear n2 n3 iB
  go_wp2_with fail
  refine (efield_v x 15 13 3 7 _ hx hx' (by decide) (by decide) (by decide) (by decide) rfl hf).mono ?_
  rintro e w' ⟨rfl, rfl⟩
  obtain ⟨c0, c1, c2, c3, c4, z0, z1, z2, z3, z4, hz⟩ := five_cells n4
  have HN := Lib.hid (((Nx.refl w).alloc _).trans n4)
  clear n4
  go_wp2_with (go_at_call 47; refine (efew_any _ _ _ hx hx' (by decide) (by decide)).mono ?_; rintro e w' ⟨rfl, rfl⟩)
  refine bodyPost_ret (v := insV (fstI x 7 (8 + fld x 7 3) (8 + fld x 2 3))) (by simp [results, Try.results31, go_sem, insV, fstI, none5, c0, c1, c2, c3, c4]) rfl ⟨rfl, ?_⟩
  repeat (with_reducible first | exact HN.out | refine Nx.alloc ?_ _ | refine Nx.setCell ?_ (Nat.le_refl _) _)

theorem quarter0_any (x : Int) (w : World) (hx : 0 ≤ x) (hx' : x < 65536) :
    Calls Try.prog 31 #[.int .u32 x] w fun e w' => e = .returned (insV (fstI x (fld x 13 3) (8 + fld x 7 3) (8 + fld x 2 3))) ∧ Nx w w' := by
  have f0 := fld_nonneg x 13 3
  have ff : fld x 13 3 < 8 := fld_lt x 13 3
  have hf : fld x 13 3 = 0 ∨ fld x 13 3 = 1 ∨ fld x 13 3 = 2 ∨ fld x 13 3 = 3 ∨ fld x 13 3 = 4 ∨ fld x 13 3 = 5 ∨ fld x 13 3 = 6 ∨ fld x 13 3 = 7 := by omega
  rcases hf with h | h | h | h | h | h | h | h
  · by_cases hu : uP x = 0
    · exact q0_a x w hx hx' h hu
    · exact q0_b x w hx hx' h hu
  · exact q0_e1 x w hx hx' h
  · exact q0_c x w hx hx' h
  · exact q0_e3 x w hx hx' h
  · exact q0_e4 x w hx hx' h
  · exact q0_e5 x w hx hx' h
  · exact q0_d x w hx hx' h
  · exact q0_e7 x w hx hx' h

end Go.Proofs.Ytppnmaklggkogaa

/- Contracts of package typecaseref05: the fields that are asked for. -/
namespace Go.Proofs.Ytppnmaklggkogaa
open Go.RowKit
set_option linter.unusedVariables false
set_option linter.unusedSimpArgs false

theorem ef_11_7 (x v : Int) (w : World) (hx : 0 ≤ x) (hx' : x < 65536) (hv : fld x 7 5 = v) :
    Calls Try.prog 46 #[.int .u32 x, .int .i64 11, .int .i64 7] w fun e w' => e = .returned (.int .i64 v) ∧ w = w' :=
  efield_v x 11 7 5 v w hx hx' (by decide) (by decide) (by decide) (by decide) rfl hv

theorem ef_6_2 (x v : Int) (w : World) (hx : 0 ≤ x) (hx' : x < 65536) (hv : fld x 2 5 = v) :
    Calls Try.prog 46 #[.int .u32 x, .int .i64 6, .int .i64 2] w fun e w' => e = .returned (.int .i64 v) ∧ w = w' :=
  efield_v x 6 2 5 v w hx hx' (by decide) (by decide) (by decide) (by decide) rfl hv

theorem ef_12_12 (x v : Int) (w : World) (hx : 0 ≤ x) (hx' : x < 65536) (hv : fld x 12 1 = v) :
    Calls Try.prog 46 #[.int .u32 x, .int .i64 12, .int .i64 12] w fun e w' => e = .returned (.int .i64 v) ∧ w = w' :=
  efield_v x 12 12 1 v w hx hx' (by decide) (by decide) (by decide) (by decide) rfl hv

theorem ef_15_13 (x v : Int) (w : World) (hx : 0 ≤ x) (hx' : x < 65536) (hv : fld x 13 3 = v) :
    Calls Try.prog 46 #[.int .u32 x, .int .i64 15, .int .i64 13] w fun e w' => e = .returned (.int .i64 v) ∧ w = w' :=
  efield_v x 15 13 3 v w hx hx' (by decide) (by decide) (by decide) (by decide) rfl hv

theorem ef_11_10 (x v : Int) (w : World) (hx : 0 ≤ x) (hx' : x < 65536) (hv : fld x 10 2 = v) :
    Calls Try.prog 46 #[.int .u32 x, .int .i64 11, .int .i64 10] w fun e w' => e = .returned (.int .i64 v) ∧ w = w' :=
  efield_v x 11 10 2 v w hx hx' (by decide) (by decide) (by decide) (by decide) rfl hv

theorem ef_6_5 (x v : Int) (w : World) (hx : 0 ≤ x) (hx' : x < 65536) (hv : fld x 5 2 = v) :
    Calls Try.prog 46 #[.int .u32 x, .int .i64 6, .int .i64 5] w fun e w' => e = .returned (.int .i64 v) ∧ w = w' :=
  efield_v x 6 5 2 v w hx hx' (by decide) (by decide) (by decide) (by decide) rfl hv

end Go.Proofs.Ytppnmaklggkogaa

