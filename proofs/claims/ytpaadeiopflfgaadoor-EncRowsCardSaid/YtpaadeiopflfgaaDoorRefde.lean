/- Contracts of package typecaseref04: a word's instruction. -/
import Derived.Test.YtpaadeiopflfgaaDoorRefdd
namespace Go.Proofs.YtpaadeiopflfgaaDoor
open Go.RowKit
set_option linter.unusedVariables false

/-- The number of a form. -/
def immF (f x : Int) : Int := if f = 1 then jU x else if f = 2 then jJ x else if f = 3 then jB x else if f = 4 ∨ f = 6 then jI x else if f = 5 then jS x else if f = 7 then x / 1048576 % 32 else 0

/-- What a form has of a word. -/
def partsF (f op x : Int) : In5 := ⟨op, if needD f = true then x / 128 % 32 else 0, if needS f = true then x / 32768 % 32 else 0, if needT f = true then x / 1048576 % 32 else 0, immF f x⟩

theorem parts_mk (f op x : Int) (i : In5) (hf : formN op = f) (h : i = partsF f op x) : i = partsF (formN op) op x := by rw [hf]; exact h

theorem dec_parts (x : Int) (h0 : (decP x).op ≠ 0) : decP x = partsF (formN (decP x).op) (decP x).op x := by
  unfold decP at *
  have hf := f8 (x / 4096 % 8) (by omega) (by omega)
  by_cases h1 : x % 128 = 55
  · rw [if_pos h1]; rfl
  rw [if_neg h1] at h0 ⊢
  by_cases h2 : x % 128 = 23
  · rw [if_pos h2]; rfl
  rw [if_neg h2] at h0 ⊢
  by_cases h3 : x % 128 = 111
  · rw [if_pos h3]; rfl
  rw [if_neg h3] at h0 ⊢
  by_cases h4 : x % 128 = 99
  · rw [if_pos h4] at h0 ⊢
    rcases hf with f | f | f | f | f | f | f | f <;> rw [f] at h0 ⊢ <;> first | exact absurd rfl h0 | rfl
  rw [if_neg h4] at h0 ⊢
  by_cases h5 : x % 128 = 35
  · rw [if_pos h5] at h0 ⊢
    rcases hf with f | f | f | f | f | f | f | f <;> rw [f] at h0 ⊢ <;> first | exact absurd rfl h0 | rfl
  rw [if_neg h5] at h0 ⊢
  by_cases h6 : x % 128 = 19
  · rw [if_pos h6] at h0 ⊢
    by_cases h7 : x / 4096 % 8 = 1 ∨ x / 4096 % 8 = 5
    · rw [if_pos h7] at h0 ⊢
      rcases h7 with f | f
      all_goals
        rw [f] at h0 ⊢
        by_cases g0 : x / 33554432 % 128 = 0
        · rw [g0] at h0 ⊢; rfl
        · by_cases g1 : x / 33554432 % 128 = 32
          · rw [g1] at h0 ⊢
            first | exact absurd rfl h0 | rfl
          · exact absurd (by simp [shOp, g0, g1]) h0
    · rw [if_neg h7] at h0 ⊢
      rcases hf with f | f | f | f | f | f | f | f
      all_goals
        rw [f] at h0 h7 ⊢
        first | exact absurd rfl h0 | exact absurd (Or.inl rfl) h7 | exact absurd (Or.inr rfl) h7 | rfl
  rw [if_neg h6] at h0 ⊢
  by_cases h7 : x % 128 = 103
  · rw [if_pos h7] at h0 ⊢
    rcases hf with f | f | f | f | f | f | f | f <;> rw [f] at h0 ⊢ <;> first | exact absurd rfl h0 | rfl
  rw [if_neg h7] at h0 ⊢
  by_cases h8 : x % 128 = 3
  · rw [if_pos h8] at h0 ⊢
    rcases hf with f | f | f | f | f | f | f | f <;> rw [f] at h0 ⊢ <;> first | exact absurd rfl h0 | rfl
  rw [if_neg h8] at h0 ⊢
  by_cases h9 : x % 128 = 51
  · rw [if_pos h9] at h0 ⊢
    by_cases g0 : x / 33554432 % 128 = 0
    · rw [g0] at h0 ⊢
      rcases hf with f | f | f | f | f | f | f | f <;> rw [f] at h0 ⊢ <;> first | exact absurd rfl h0 | rfl
    · by_cases g1 : x / 33554432 % 128 = 1
      · rw [g1] at h0 ⊢
        rcases hf with f | f | f | f | f | f | f | f <;> rw [f] at h0 ⊢ <;> first | exact absurd rfl h0 | rfl
      · by_cases g2 : x / 33554432 % 128 = 32
        · rw [g2] at h0 ⊢
          rcases hf with f | f | f | f | f | f | f | f <;> rw [f] at h0 ⊢ <;> first | exact absurd rfl h0 | rfl
        · exact absurd (by simp [rgOp, g0, g1, g2]) h0
  rw [if_neg h9] at h0 ⊢
  by_cases h10 : x % 128 = 15 ∨ x % 128 = 115
  · rw [if_pos h10] at h0 ⊢
    by_cases b1 : x % 128 = 15 ∧ x / 4096 % 8 = 0
    · have e : baOp x (x % 128) (x / 4096 % 8) = 38 := by simp [baOp, b1]
      rw [e]; rfl
    · by_cases b2 : x = 115
      · subst b2; rfl
      · by_cases b3 : x = 1048691
        · subst b3; rfl
        · exact absurd (by simp only [baOp]; rw [if_neg b1, if_neg b2, if_neg b3]) h0
  rw [if_neg h10] at h0
  exact absurd rfl h0

/-- What Decode hands back: the instruction, or nothing. -/
def decJ (x : Int) : In5 := if (decP x).op = 0 then none5 else decP x

set_option maxHeartbeats 1000000 in
theorem rdecode_0 (x : Int) (w : World) (hx : 0 ≤ x) (hx' : x < 4294967296) (h0 : (decP x).op = 0) :
    Calls Tryd.prog 11 #[.int .u32 x] w fun e w' => e = .returned (.tuple #[.agg #[.int .i64 0, .int .i64 0, .int .i64 0, .int .i64 0, .int .i32 0], .bool false]) ∧ Nx w w' := by
  have hz0 : formN 0 = 0 := rfl
  go_enter Tryd.func11, Tryd.ntmps11
  go_wp2_with fail
  refine (rop_any _ _ hx hx').mono ?_
  rintro e w1 ⟨rfl, hn1⟩
  go_wp2_with fail
  refine (form_any _ _).mono ?_
  rintro e w2 ⟨rfl, hn2⟩
  have hn3 := hn1.trans (((Nx.refl w1).alloc _).trans hn2)
  obtain ⟨c0, c1, c2, c3, c4, z0, z1, z2, z3, z4, hz⟩ := five_cells hn3
  have hb := Lib.hid (((Nx.refl w).alloc _).trans hn3)
  go_wp2
  refine bodyPost_ret (v := .tuple #[.agg #[.int .i64 0, .int .i64 0, .int .i64 0, .int .i64 0, .int .i32 0], .bool false]) (by simp [results, Tryd.results11, go_sem, c0, c1, c2, c3, c4]) rfl ⟨rfl, ?_⟩
  repeat (with_reducible first | refine Nx.alloc ?_ _ | refine Nx.setCell ?_ (Nat.le_refl _) _)
  exact hb.out

set_option maxHeartbeats 4000000 in
theorem rdecode_1 (x : Int) (w : World) (hx : 0 ≤ x) (hx' : x < 4294967296) (hf : formN (decP x).op = 1) :
    Calls Tryd.prog 11 #[.int .u32 x] w fun e w' => e = .returned (.tuple #[.agg #[.int .i64 (decP x).op, .int .i64 (fld x 7 5), .int .i64 0, .int .i64 0, .int .i32 (rimmU x)], .bool true]) ∧ Nx w w' := by
  have a7 := fld_nonneg x 7 5
  have b7 : fld x 7 5 < 32 := fld_lt x 7 5
  go_enter Tryd.func11, Tryd.ntmps11
  go_wp2_with fail
  refine (rop_any _ _ hx hx').mono ?_
  rintro e w1 ⟨rfl, hn1⟩
  go_wp2_with fail
  refine (form_any _ _).mono ?_
  rintro e w2 ⟨rfl, hn2⟩
  have hn3 := hn1.trans (((Nx.refl w1).alloc _).trans hn2)
  obtain ⟨c0, c1, c2, c3, c4, z0, z1, z2, z3, z4, hz⟩ := five_cells hn3
  obtain ⟨d0, d1, d2, d3, d4, y0, y1, y2, y3, y4, hy⟩ := five_cells hn2
  have hw1 : w.heap.size < w1.heap.size := (five_in hn1).2.2.2.2.2
  have hb := Lib.hid (((Nx.refl w).alloc _).trans hn3)
  go_wp2_with (first | (go_at_call 28; refine (rfield_in _ _ _ _ hx hx' (by omega) (by omega) (by omega) (by omega)).mono ?_; rintro e w' ⟨rfl, rfl⟩) | (go_at_call 29; refine (rimmU_any _ _ hx hx').mono ?_; rintro e w3 ⟨rfl, hn4⟩; obtain ⟨r1, r2⟩ := nx_cells hn4; have hs4 := hn4.size))
  refine bodyPost_ret (v := .tuple #[.agg #[.int .i64 (decP x).op, .int .i64 (fld x 7 5), .int .i64 0, .int .i64 0, .int .i32 (rimmU x)], .bool true]) (by simp [results, Tryd.results11, go_sem, c0, c1, c2, c3, c4, r1, hz]) rfl ⟨rfl, ?_⟩
  repeat (with_reducible first | refine Nx.setCell ?_ (Nat.le_refl _) _ | refine Nx.setCell ?_ (Nat.le_of_lt hw1) _)
  refine Nx.trans ?_ hn4
  repeat (with_reducible first | refine Nx.setCell ?_ (Nat.le_refl _) _ | refine Nx.setCell ?_ (Nat.le_of_lt hw1) _)
  exact hb.out

set_option maxHeartbeats 4000000 in
theorem rdecode_2 (x : Int) (w : World) (hx : 0 ≤ x) (hx' : x < 4294967296) (hf : formN (decP x).op = 2) :
    Calls Tryd.prog 11 #[.int .u32 x] w fun e w' => e = .returned (.tuple #[.agg #[.int .i64 (decP x).op, .int .i64 (fld x 7 5), .int .i64 0, .int .i64 0, .int .i32 (rimmJ x)], .bool true]) ∧ Nx w w' := by
  have a7 := fld_nonneg x 7 5
  have b7 : fld x 7 5 < 32 := fld_lt x 7 5
  go_enter Tryd.func11, Tryd.ntmps11
  go_wp2_with fail
  refine (rop_any _ _ hx hx').mono ?_
  rintro e w1 ⟨rfl, hn1⟩
  go_wp2_with fail
  refine (form_any _ _).mono ?_
  rintro e w2 ⟨rfl, hn2⟩
  have hn3 := hn1.trans (((Nx.refl w1).alloc _).trans hn2)
  obtain ⟨c0, c1, c2, c3, c4, z0, z1, z2, z3, z4, hz⟩ := five_cells hn3
  obtain ⟨d0, d1, d2, d3, d4, y0, y1, y2, y3, y4, hy⟩ := five_cells hn2
  have hw1 : w.heap.size < w1.heap.size := (five_in hn1).2.2.2.2.2
  have hb := Lib.hid (((Nx.refl w).alloc _).trans hn3)
  go_wp2_with (first | (go_at_call 28; refine (rfield_in _ _ _ _ hx hx' (by omega) (by omega) (by omega) (by omega)).mono ?_; rintro e w' ⟨rfl, rfl⟩) | (go_at_call 30; refine (rimmJ_any _ _ hx hx').mono ?_; rintro e w3 ⟨rfl, hn4⟩; obtain ⟨r1, r2⟩ := nx_cells hn4; have hs4 := hn4.size))
  refine bodyPost_ret (v := .tuple #[.agg #[.int .i64 (decP x).op, .int .i64 (fld x 7 5), .int .i64 0, .int .i64 0, .int .i32 (rimmJ x)], .bool true]) (by simp [results, Tryd.results11, go_sem, c0, c1, c2, c3, c4, r1, hz]) rfl ⟨rfl, ?_⟩
  repeat (with_reducible first | refine Nx.setCell ?_ (Nat.le_refl _) _ | refine Nx.setCell ?_ (Nat.le_of_lt hw1) _)
  refine Nx.trans ?_ hn4
  repeat (with_reducible first | refine Nx.setCell ?_ (Nat.le_refl _) _ | refine Nx.setCell ?_ (Nat.le_of_lt hw1) _)
  exact hb.out

set_option maxHeartbeats 4000000 in
theorem rdecode_3 (x : Int) (w : World) (hx : 0 ≤ x) (hx' : x < 4294967296) (hf : formN (decP x).op = 3) :
    Calls Tryd.prog 11 #[.int .u32 x] w fun e w' => e = .returned (.tuple #[.agg #[.int .i64 (decP x).op, .int .i64 0, .int .i64 (fld x 15 5), .int .i64 (fld x 20 5), .int .i32 (rimmB x)], .bool true]) ∧ Nx w w' := by
  have a15 := fld_nonneg x 15 5
  have b15 : fld x 15 5 < 32 := fld_lt x 15 5
  have a20 := fld_nonneg x 20 5
  have b20 : fld x 20 5 < 32 := fld_lt x 20 5
  go_enter Tryd.func11, Tryd.ntmps11
  go_wp2_with fail
  refine (rop_any _ _ hx hx').mono ?_
  rintro e w1 ⟨rfl, hn1⟩
  go_wp2_with fail
  refine (form_any _ _).mono ?_
  rintro e w2 ⟨rfl, hn2⟩
  have hn3 := hn1.trans (((Nx.refl w1).alloc _).trans hn2)
  obtain ⟨c0, c1, c2, c3, c4, z0, z1, z2, z3, z4, hz⟩ := five_cells hn3
  obtain ⟨d0, d1, d2, d3, d4, y0, y1, y2, y3, y4, hy⟩ := five_cells hn2
  have hw1 : w.heap.size < w1.heap.size := (five_in hn1).2.2.2.2.2
  have hb := Lib.hid (((Nx.refl w).alloc _).trans hn3)
  go_wp2_with (first | (go_at_call 28; refine (rfield_in _ _ _ _ hx hx' (by omega) (by omega) (by omega) (by omega)).mono ?_; rintro e w' ⟨rfl, rfl⟩) | (go_at_call 31; refine (rimmB_any _ _ hx hx').mono ?_; rintro e w3 ⟨rfl, hn4⟩; obtain ⟨r1, r2⟩ := nx_cells hn4; have hs4 := hn4.size))
  refine bodyPost_ret (v := .tuple #[.agg #[.int .i64 (decP x).op, .int .i64 0, .int .i64 (fld x 15 5), .int .i64 (fld x 20 5), .int .i32 (rimmB x)], .bool true]) (by simp [results, Tryd.results11, go_sem, c0, c1, c2, c3, c4, r1, hz]) rfl ⟨rfl, ?_⟩
  repeat (with_reducible first | refine Nx.setCell ?_ (Nat.le_refl _) _ | refine Nx.setCell ?_ (Nat.le_of_lt hw1) _)
  refine Nx.trans ?_ hn4
  repeat (with_reducible first | refine Nx.setCell ?_ (Nat.le_refl _) _ | refine Nx.setCell ?_ (Nat.le_of_lt hw1) _)
  exact hb.out

set_option maxHeartbeats 4000000 in
theorem rdecode_4 (x : Int) (w : World) (hx : 0 ≤ x) (hx' : x < 4294967296) (hf : formN (decP x).op = 4) :
    Calls Tryd.prog 11 #[.int .u32 x] w fun e w' => e = .returned (.tuple #[.agg #[.int .i64 (decP x).op, .int .i64 (fld x 7 5), .int .i64 (fld x 15 5), .int .i64 0, .int .i32 (rimmI x)], .bool true]) ∧ Nx w w' := by
  have a7 := fld_nonneg x 7 5
  have b7 : fld x 7 5 < 32 := fld_lt x 7 5
  have a15 := fld_nonneg x 15 5
  have b15 : fld x 15 5 < 32 := fld_lt x 15 5
  go_enter Tryd.func11, Tryd.ntmps11
  go_wp2_with fail
  refine (rop_any _ _ hx hx').mono ?_
  rintro e w1 ⟨rfl, hn1⟩
  go_wp2_with fail
  refine (form_any _ _).mono ?_
  rintro e w2 ⟨rfl, hn2⟩
  have hn3 := hn1.trans (((Nx.refl w1).alloc _).trans hn2)
  obtain ⟨c0, c1, c2, c3, c4, z0, z1, z2, z3, z4, hz⟩ := five_cells hn3
  obtain ⟨d0, d1, d2, d3, d4, y0, y1, y2, y3, y4, hy⟩ := five_cells hn2
  have hw1 : w.heap.size < w1.heap.size := (five_in hn1).2.2.2.2.2
  have hb := Lib.hid (((Nx.refl w).alloc _).trans hn3)
  go_wp2_with (first | (go_at_call 28; refine (rfield_in _ _ _ _ hx hx' (by omega) (by omega) (by omega) (by omega)).mono ?_; rintro e w' ⟨rfl, rfl⟩) | (go_at_call 32; refine (rimmI_any _ _ hx hx').mono ?_; rintro e w3 ⟨rfl, hn4⟩; obtain ⟨r1, r2⟩ := nx_cells hn4; have hs4 := hn4.size))
  refine bodyPost_ret (v := .tuple #[.agg #[.int .i64 (decP x).op, .int .i64 (fld x 7 5), .int .i64 (fld x 15 5), .int .i64 0, .int .i32 (rimmI x)], .bool true]) (by simp [results, Tryd.results11, go_sem, c0, c1, c2, c3, c4, r1, hz]) rfl ⟨rfl, ?_⟩
  repeat (with_reducible first | refine Nx.setCell ?_ (Nat.le_refl _) _ | refine Nx.setCell ?_ (Nat.le_of_lt hw1) _)
  refine Nx.trans ?_ hn4
  repeat (with_reducible first | refine Nx.setCell ?_ (Nat.le_refl _) _ | refine Nx.setCell ?_ (Nat.le_of_lt hw1) _)
  exact hb.out

set_option maxHeartbeats 4000000 in
theorem rdecode_5 (x : Int) (w : World) (hx : 0 ≤ x) (hx' : x < 4294967296) (hf : formN (decP x).op = 5) :
    Calls Tryd.prog 11 #[.int .u32 x] w fun e w' => e = .returned (.tuple #[.agg #[.int .i64 (decP x).op, .int .i64 0, .int .i64 (fld x 15 5), .int .i64 (fld x 20 5), .int .i32 (rimmS x)], .bool true]) ∧ Nx w w' := by
  have a15 := fld_nonneg x 15 5
  have b15 : fld x 15 5 < 32 := fld_lt x 15 5
  have a20 := fld_nonneg x 20 5
  have b20 : fld x 20 5 < 32 := fld_lt x 20 5
  go_enter Tryd.func11, Tryd.ntmps11
  go_wp2_with fail
  refine (rop_any _ _ hx hx').mono ?_
  rintro e w1 ⟨rfl, hn1⟩
  go_wp2_with fail
  refine (form_any _ _).mono ?_
  rintro e w2 ⟨rfl, hn2⟩
  have hn3 := hn1.trans (((Nx.refl w1).alloc _).trans hn2)
  obtain ⟨c0, c1, c2, c3, c4, z0, z1, z2, z3, z4, hz⟩ := five_cells hn3
  obtain ⟨d0, d1, d2, d3, d4, y0, y1, y2, y3, y4, hy⟩ := five_cells hn2
  have hw1 : w.heap.size < w1.heap.size := (five_in hn1).2.2.2.2.2
  have hb := Lib.hid (((Nx.refl w).alloc _).trans hn3)
  go_wp2_with (first | (go_at_call 28; refine (rfield_in _ _ _ _ hx hx' (by omega) (by omega) (by omega) (by omega)).mono ?_; rintro e w' ⟨rfl, rfl⟩) | (go_at_call 33; refine (rimmS_any _ _ hx hx').mono ?_; rintro e w3 ⟨rfl, hn4⟩; obtain ⟨r1, r2⟩ := nx_cells hn4; have hs4 := hn4.size))
  refine bodyPost_ret (v := .tuple #[.agg #[.int .i64 (decP x).op, .int .i64 0, .int .i64 (fld x 15 5), .int .i64 (fld x 20 5), .int .i32 (rimmS x)], .bool true]) (by simp [results, Tryd.results11, go_sem, c0, c1, c2, c3, c4, r1, hz]) rfl ⟨rfl, ?_⟩
  repeat (with_reducible first | refine Nx.setCell ?_ (Nat.le_refl _) _ | refine Nx.setCell ?_ (Nat.le_of_lt hw1) _)
  refine Nx.trans ?_ hn4
  repeat (with_reducible first | refine Nx.setCell ?_ (Nat.le_refl _) _ | refine Nx.setCell ?_ (Nat.le_of_lt hw1) _)
  exact hb.out

set_option maxHeartbeats 4000000 in
theorem rdecode_6 (x : Int) (w : World) (hx : 0 ≤ x) (hx' : x < 4294967296) (hf : formN (decP x).op = 6) :
    Calls Tryd.prog 11 #[.int .u32 x] w fun e w' => e = .returned (.tuple #[.agg #[.int .i64 (decP x).op, .int .i64 (fld x 7 5), .int .i64 (fld x 15 5), .int .i64 0, .int .i32 (rimmI x)], .bool true]) ∧ Nx w w' := by
  have a7 := fld_nonneg x 7 5
  have b7 : fld x 7 5 < 32 := fld_lt x 7 5
  have a15 := fld_nonneg x 15 5
  have b15 : fld x 15 5 < 32 := fld_lt x 15 5
  go_enter Tryd.func11, Tryd.ntmps11
  go_wp2_with fail
  refine (rop_any _ _ hx hx').mono ?_
  rintro e w1 ⟨rfl, hn1⟩
  go_wp2_with fail
  refine (form_any _ _).mono ?_
  rintro e w2 ⟨rfl, hn2⟩
  have hn3 := hn1.trans (((Nx.refl w1).alloc _).trans hn2)
  obtain ⟨c0, c1, c2, c3, c4, z0, z1, z2, z3, z4, hz⟩ := five_cells hn3
  obtain ⟨d0, d1, d2, d3, d4, y0, y1, y2, y3, y4, hy⟩ := five_cells hn2
  have hw1 : w.heap.size < w1.heap.size := (five_in hn1).2.2.2.2.2
  have hb := Lib.hid (((Nx.refl w).alloc _).trans hn3)
  go_wp2_with (first | (go_at_call 28; refine (rfield_in _ _ _ _ hx hx' (by omega) (by omega) (by omega) (by omega)).mono ?_; rintro e w' ⟨rfl, rfl⟩) | (go_at_call 32; refine (rimmI_any _ _ hx hx').mono ?_; rintro e w3 ⟨rfl, hn4⟩; obtain ⟨r1, r2⟩ := nx_cells hn4; have hs4 := hn4.size))
  refine bodyPost_ret (v := .tuple #[.agg #[.int .i64 (decP x).op, .int .i64 (fld x 7 5), .int .i64 (fld x 15 5), .int .i64 0, .int .i32 (rimmI x)], .bool true]) (by simp [results, Tryd.results11, go_sem, c0, c1, c2, c3, c4, r1, hz]) rfl ⟨rfl, ?_⟩
  repeat (with_reducible first | refine Nx.setCell ?_ (Nat.le_refl _) _ | refine Nx.setCell ?_ (Nat.le_of_lt hw1) _)
  refine Nx.trans ?_ hn4
  repeat (with_reducible first | refine Nx.setCell ?_ (Nat.le_refl _) _ | refine Nx.setCell ?_ (Nat.le_of_lt hw1) _)
  exact hb.out

set_option maxHeartbeats 4000000 in
theorem rdecode_7 (x : Int) (w : World) (hx : 0 ≤ x) (hx' : x < 4294967296) (hf : formN (decP x).op = 7) :
    Calls Tryd.prog 11 #[.int .u32 x] w fun e w' => e = .returned (.tuple #[.agg #[.int .i64 (decP x).op, .int .i64 (fld x 7 5), .int .i64 (fld x 15 5), .int .i64 0, .int .i32 (fld x 20 5)], .bool true]) ∧ Nx w w' := by
  have a7 := fld_nonneg x 7 5
  have b7 : fld x 7 5 < 32 := fld_lt x 7 5
  have a15 := fld_nonneg x 15 5
  have b15 : fld x 15 5 < 32 := fld_lt x 15 5
  have a20 := fld_nonneg x 20 5
  have b20 : fld x 20 5 < 32 := fld_lt x 20 5
  go_enter Tryd.func11, Tryd.ntmps11
  go_wp2_with fail
  refine (rop_any _ _ hx hx').mono ?_
  rintro e w1 ⟨rfl, hn1⟩
  go_wp2_with fail
  refine (form_any _ _).mono ?_
  rintro e w2 ⟨rfl, hn2⟩
  have hn3 := hn1.trans (((Nx.refl w1).alloc _).trans hn2)
  obtain ⟨c0, c1, c2, c3, c4, z0, z1, z2, z3, z4, hz⟩ := five_cells hn3
  obtain ⟨d0, d1, d2, d3, d4, y0, y1, y2, y3, y4, hy⟩ := five_cells hn2
  have hw1 : w.heap.size < w1.heap.size := (five_in hn1).2.2.2.2.2
  have hb := Lib.hid (((Nx.refl w).alloc _).trans hn3)
  go_wp2_with (first | (go_at_call 28; refine (rfield_in _ _ _ _ hx hx' (by omega) (by omega) (by omega) (by omega)).mono ?_; rintro e w' ⟨rfl, rfl⟩))
  refine bodyPost_ret (v := .tuple #[.agg #[.int .i64 (decP x).op, .int .i64 (fld x 7 5), .int .i64 (fld x 15 5), .int .i64 0, .int .i32 (fld x 20 5)], .bool true]) (by simp [results, Tryd.results11, go_sem, c0, c1, c2, c3, c4]) rfl ⟨rfl, ?_⟩
  repeat (with_reducible first | refine Nx.setCell ?_ (Nat.le_refl _) _ | refine Nx.setCell ?_ (Nat.le_of_lt hw1) _)
  exact hb.out

set_option maxHeartbeats 4000000 in
theorem rdecode_8 (x : Int) (w : World) (hx : 0 ≤ x) (hx' : x < 4294967296) (hf : formN (decP x).op = 8) :
    Calls Tryd.prog 11 #[.int .u32 x] w fun e w' => e = .returned (.tuple #[.agg #[.int .i64 (decP x).op, .int .i64 (fld x 7 5), .int .i64 (fld x 15 5), .int .i64 (fld x 20 5), .int .i32 0], .bool true]) ∧ Nx w w' := by
  have a7 := fld_nonneg x 7 5
  have b7 : fld x 7 5 < 32 := fld_lt x 7 5
  have a15 := fld_nonneg x 15 5
  have b15 : fld x 15 5 < 32 := fld_lt x 15 5
  have a20 := fld_nonneg x 20 5
  have b20 : fld x 20 5 < 32 := fld_lt x 20 5
  go_enter Tryd.func11, Tryd.ntmps11
  go_wp2_with fail
  refine (rop_any _ _ hx hx').mono ?_
  rintro e w1 ⟨rfl, hn1⟩
  go_wp2_with fail
  refine (form_any _ _).mono ?_
  rintro e w2 ⟨rfl, hn2⟩
  have hn3 := hn1.trans (((Nx.refl w1).alloc _).trans hn2)
  obtain ⟨c0, c1, c2, c3, c4, z0, z1, z2, z3, z4, hz⟩ := five_cells hn3
  obtain ⟨d0, d1, d2, d3, d4, y0, y1, y2, y3, y4, hy⟩ := five_cells hn2
  have hw1 : w.heap.size < w1.heap.size := (five_in hn1).2.2.2.2.2
  have hb := Lib.hid (((Nx.refl w).alloc _).trans hn3)
  go_wp2_with (first | (go_at_call 28; refine (rfield_in _ _ _ _ hx hx' (by omega) (by omega) (by omega) (by omega)).mono ?_; rintro e w' ⟨rfl, rfl⟩))
  refine bodyPost_ret (v := .tuple #[.agg #[.int .i64 (decP x).op, .int .i64 (fld x 7 5), .int .i64 (fld x 15 5), .int .i64 (fld x 20 5), .int .i32 0], .bool true]) (by simp [results, Tryd.results11, go_sem, c0, c1, c2, c3, c4]) rfl ⟨rfl, ?_⟩
  repeat (with_reducible first | refine Nx.setCell ?_ (Nat.le_refl _) _ | refine Nx.setCell ?_ (Nat.le_of_lt hw1) _)
  exact hb.out

set_option maxHeartbeats 4000000 in
theorem rdecode_9 (x : Int) (w : World) (hx : 0 ≤ x) (hx' : x < 4294967296) (hf : formN (decP x).op = 9) :
    Calls Tryd.prog 11 #[.int .u32 x] w fun e w' => e = .returned (.tuple #[.agg #[.int .i64 (decP x).op, .int .i64 0, .int .i64 0, .int .i64 0, .int .i32 0], .bool true]) ∧ Nx w w' := by
  go_enter Tryd.func11, Tryd.ntmps11
  go_wp2_with fail
  refine (rop_any _ _ hx hx').mono ?_
  rintro e w1 ⟨rfl, hn1⟩
  go_wp2_with fail
  refine (form_any _ _).mono ?_
  rintro e w2 ⟨rfl, hn2⟩
  have hn3 := hn1.trans (((Nx.refl w1).alloc _).trans hn2)
  obtain ⟨c0, c1, c2, c3, c4, z0, z1, z2, z3, z4, hz⟩ := five_cells hn3
  obtain ⟨d0, d1, d2, d3, d4, y0, y1, y2, y3, y4, hy⟩ := five_cells hn2
  have hw1 : w.heap.size < w1.heap.size := (five_in hn1).2.2.2.2.2
  have hb := Lib.hid (((Nx.refl w).alloc _).trans hn3)
  go_wp2_with (first | (go_at_call 28; refine (rfield_in _ _ _ _ hx hx' (by omega) (by omega) (by omega) (by omega)).mono ?_; rintro e w' ⟨rfl, rfl⟩))
  refine bodyPost_ret (v := .tuple #[.agg #[.int .i64 (decP x).op, .int .i64 0, .int .i64 0, .int .i64 0, .int .i32 0], .bool true]) (by simp [results, Tryd.results11, go_sem, c0, c1, c2, c3, c4]) rfl ⟨rfl, ?_⟩
  repeat (with_reducible first | refine Nx.setCell ?_ (Nat.le_refl _) _ | refine Nx.setCell ?_ (Nat.le_of_lt hw1) _)
  exact hb.out

theorem op_br (f : Int) : 0 ≤ brOp f ∧ brOp f ≤ 48 := by
  unfold brOp
  repeat' split
  all_goals omega

theorem op_st (f : Int) : 0 ≤ stOp f ∧ stOp f ≤ 48 := by
  unfold stOp
  repeat' split
  all_goals omega

theorem op_sh (f g : Int) : 0 ≤ shOp f g ∧ shOp f g ≤ 48 := by
  unfold shOp
  repeat' split
  all_goals omega

theorem op_nu (o f : Int) : 0 ≤ nuOp o f ∧ nuOp o f ≤ 48 := by
  unfold nuOp reOp ldOp
  repeat' split
  all_goals omega

theorem op_rg (f g : Int) (h : 0 ≤ f) (h' : f < 8) : 0 ≤ rgOp f g ∧ rgOp f g ≤ 48 := by
  unfold rgOp plOp
  repeat' split
  all_goals omega

theorem op_ba (x o f : Int) : 0 ≤ baOp x o f ∧ baOp x o f ≤ 48 := by
  unfold baOp
  repeat' split
  all_goals omega

theorem dec_range (x : Int) : 0 ≤ (decP x).op ∧ (decP x).op ≤ 48 := by
  unfold decP
  by_cases h1 : x % 128 = 55
  · rw [if_pos h1]; dsimp only; omega
  rw [if_neg h1]
  by_cases h2 : x % 128 = 23
  · rw [if_pos h2]; dsimp only; omega
  rw [if_neg h2]
  by_cases h3 : x % 128 = 111
  · rw [if_pos h3]; dsimp only; omega
  rw [if_neg h3]
  by_cases h4 : x % 128 = 99
  · rw [if_pos h4]; exact op_br _
  rw [if_neg h4]
  by_cases h5 : x % 128 = 35
  · rw [if_pos h5]; exact op_st _
  rw [if_neg h5]
  by_cases h6 : x % 128 = 19
  · rw [if_pos h6]
    by_cases h7 : x / 4096 % 8 = 1 ∨ x / 4096 % 8 = 5
    · rw [if_pos h7]; exact op_sh _ _
    · rw [if_neg h7]; exact op_nu 19 (x / 4096 % 8)
  rw [if_neg h6]
  by_cases h7 : x % 128 = 103
  · rw [if_pos h7]; exact op_nu 103 (x / 4096 % 8)
  rw [if_neg h7]
  by_cases h8 : x % 128 = 3
  · rw [if_pos h8]; exact op_nu 3 (x / 4096 % 8)
  rw [if_neg h8]
  by_cases h9 : x % 128 = 51
  · rw [if_pos h9]; exact op_rg _ _ (by omega) (by omega)
  rw [if_neg h9]
  by_cases h10 : x % 128 = 15 ∨ x % 128 = 115
  · rw [if_pos h10]; exact op_ba _ _ _
  rw [if_neg h10]; decide

theorem fld75 (x : Int) : fld x 7 5 = x / 128 % 32 := by simp [fld]

theorem fld155 (x : Int) : fld x 15 5 = x / 32768 % 32 := by simp [fld]

theorem fld205 (x : Int) : fld x 20 5 = x / 1048576 % 32 := by simp [fld]

theorem formN_zero (x : Int) (h : formN (decP x).op = 0) : (decP x).op = 0 := by
  apply Classical.byContradiction
  intro h0
  have e := dec_parts x h0
  have : ∀ op : Int, formN op = 0 → op = 0 ∨ op < 1 ∨ 48 < op := by
    intro op ho
    apply Classical.byContradiction
    intro hc
    obtain ⟨n, rfl⟩ := Int.eq_ofNat_of_zero_le (show 0 ≤ op by omega)
    have h3 : ∀ n : Fin 49, 1 ≤ n.val → ¬ formN n.val = 0 := by decide
    exact h3 ⟨n, by omega⟩ (by show 1 ≤ n; omega) ho
  have hr := dec_range x
  rcases this _ h with h1 | h1 | h1 <;> omega

theorem rdecode_any (x : Int) (w : World) (hx : 0 ≤ x) (hx' : x < 4294967296) :
    Calls Tryd.prog 11 #[.int .u32 x] w fun e w' => e = .returned (.tuple #[.agg #[.int .i64 (decJ x).op, .int .i64 (decJ x).rd, .int .i64 (decJ x).rs1, .int .i64 (decJ x).rs2, .int .i32 (decJ x).imm], .bool (!((decP x).op == 0))]) ∧ Nx w w' := by
  by_cases h0 : (decP x).op = 0
  · have e1 : decJ x = none5 := by unfold decJ; rw [if_pos h0]
    have e2 : ((decP x).op == 0) = true := by rw [beq_iff_eq]; exact h0
    rw [e1, e2]
    exact rdecode_0 x w hx hx' h0
  · have e1 : decJ x = decP x := by unfold decJ; rw [if_neg h0]
    have e2 : ((decP x).op == 0) = false := beq_eq_false_iff_ne.2 h0
    have e3 := dec_parts x h0
    rw [e1, e2]
    have k := fun (i : In5) (h : decP x = i) => h
    rcases formN_range (decP x).op with hf | hf | hf | hf | hf | hf | hf | hf | hf | hf
    · exact absurd (formN_zero x hf) h0
    · have h := rdecode_1 x w hx hx' hf
      rw [hf] at e3
      simp only [fld75, rimmU_eq] at h
      have q1 : (decP x).rd = _ := congrArg In5.rd e3
      have q2 : (decP x).rs1 = _ := congrArg In5.rs1 e3
      have q3 : (decP x).rs2 = _ := congrArg In5.rs2 e3
      have q4 : (decP x).imm = _ := congrArg In5.imm e3
      rw [q1, q2, q3, q4]
      exact h
    · have h := rdecode_2 x w hx hx' hf
      rw [hf] at e3
      simp only [fld75, rimmJ_eq] at h
      have q1 : (decP x).rd = _ := congrArg In5.rd e3
      have q2 : (decP x).rs1 = _ := congrArg In5.rs1 e3
      have q3 : (decP x).rs2 = _ := congrArg In5.rs2 e3
      have q4 : (decP x).imm = _ := congrArg In5.imm e3
      rw [q1, q2, q3, q4]
      exact h
    · have h := rdecode_3 x w hx hx' hf
      rw [hf] at e3
      simp only [fld155, fld205, rimmB_eq] at h
      have q1 : (decP x).rd = _ := congrArg In5.rd e3
      have q2 : (decP x).rs1 = _ := congrArg In5.rs1 e3
      have q3 : (decP x).rs2 = _ := congrArg In5.rs2 e3
      have q4 : (decP x).imm = _ := congrArg In5.imm e3
      rw [q1, q2, q3, q4]
      exact h
    · have h := rdecode_4 x w hx hx' hf
      rw [hf] at e3
      simp only [fld75, fld155, rimmI_eq] at h
      have q1 : (decP x).rd = _ := congrArg In5.rd e3
      have q2 : (decP x).rs1 = _ := congrArg In5.rs1 e3
      have q3 : (decP x).rs2 = _ := congrArg In5.rs2 e3
      have q4 : (decP x).imm = _ := congrArg In5.imm e3
      rw [q1, q2, q3, q4]
      exact h
    · have h := rdecode_5 x w hx hx' hf
      rw [hf] at e3
      simp only [fld155, fld205, rimmS_eq] at h
      have q1 : (decP x).rd = _ := congrArg In5.rd e3
      have q2 : (decP x).rs1 = _ := congrArg In5.rs1 e3
      have q3 : (decP x).rs2 = _ := congrArg In5.rs2 e3
      have q4 : (decP x).imm = _ := congrArg In5.imm e3
      rw [q1, q2, q3, q4]
      exact h
    · have h := rdecode_6 x w hx hx' hf
      rw [hf] at e3
      simp only [fld75, fld155, rimmI_eq] at h
      have q1 : (decP x).rd = _ := congrArg In5.rd e3
      have q2 : (decP x).rs1 = _ := congrArg In5.rs1 e3
      have q3 : (decP x).rs2 = _ := congrArg In5.rs2 e3
      have q4 : (decP x).imm = _ := congrArg In5.imm e3
      rw [q1, q2, q3, q4]
      exact h
    · have h := rdecode_7 x w hx hx' hf
      rw [hf] at e3
      simp only [fld75, fld155, fld205] at h
      have q1 : (decP x).rd = _ := congrArg In5.rd e3
      have q2 : (decP x).rs1 = _ := congrArg In5.rs1 e3
      have q3 : (decP x).rs2 = _ := congrArg In5.rs2 e3
      have q4 : (decP x).imm = _ := congrArg In5.imm e3
      rw [q1, q2, q3, q4]
      exact h
    · have h := rdecode_8 x w hx hx' hf
      rw [hf] at e3
      simp only [fld75, fld155, fld205] at h
      have q1 : (decP x).rd = _ := congrArg In5.rd e3
      have q2 : (decP x).rs1 = _ := congrArg In5.rs1 e3
      have q3 : (decP x).rs2 = _ := congrArg In5.rs2 e3
      have q4 : (decP x).imm = _ := congrArg In5.imm e3
      rw [q1, q2, q3, q4]
      exact h
    · have h := rdecode_9 x w hx hx' hf
      rw [hf] at e3
      have q1 : (decP x).rd = _ := congrArg In5.rd e3
      have q2 : (decP x).rs1 = _ := congrArg In5.rs1 e3
      have q3 : (decP x).rs2 = _ := congrArg In5.rs2 e3
      have q4 : (decP x).imm = _ := congrArg In5.imm e3
      rw [q1, q2, q3, q4]
      exact h

end Go.Proofs.YtpaadeiopflfgaaDoor
