/- Parts of the proof, one behind the other. -/
import Derived.Test.YtndpgakjpokllaaGreatZsaj
import Derived.Test.YtndpgakjpokllaaGreatZsan
/- Contracts of package slim: Expand. -/
namespace Go.Proofs.YtndpgakjpokllaaGreat
open Go.RowKit
set_option linter.unusedVariables false
set_option linter.unusedSimpArgs false

/-- What a parcel stands for; of the operation 0: nothing. -/
def expI (x : Int) : In5 :=
  if fld x 0 2 = 0 then fstI x (fld x 13 3) (8 + fld x 7 3) (8 + fld x 2 3)
  else if fld x 0 2 = 1 then sndI x (fld x 13 3) (fld x 7 5) (8 + fld x 7 3) (8 + fld x 2 3) (fld x 12 1) (n6P x) (jP x) (fld x 2 5) (fld x 10 2) (fld x 5 2)
  else if fld x 0 2 = 2 then thdI x (fld x 13 3) (fld x 7 5) (fld x 2 5) (fld x 12 1) (fld x 2 5)
  else none5

def expJ (x : Int) : In5 := if (expI x).op = 0 then none5 else expI x

theorem n6_bd (x : Int) : -32 ≤ n6P x ∧ n6P x ≤ 31 := by
  have := sgn_range (runsV x 0 [(12, 1), (2, 5)] % 4294967296) 6
  have e : (2 : Int) ^ 6 = 64 := by decide
  unfold n6P
  omega

theorem par_set (x : Int) (b : Nat) (w : World) : (w.alloc (.cells #[.int .u32 0, .int .u32 0, .int .i64 0, .int .i64 0, .int .i64 0, .int .i64 0, .int .u32 0, .int .i32 0, .int .i32 0, .int .i32 0, .nilFunc, .int .u32 0, .int .u32 0] 173)).setCells w.heap.size 0 (parA x b).toList = w.alloc (.cells (parA x b) 173) := by
  simp [World.setCells, parA, go_sem]

theorem par_there (w : World) : (w.alloc (.cells #[.int .u32 0, .int .u32 0, .int .i64 0, .int .i64 0, .int .i64 0, .int .i64 0, .int .u32 0, .int .i32 0, .int .i32 0, .int .i32 0, .nilFunc, .int .u32 0, .int .u32 0] 173)).there w.heap.size 0 13 := there_new (Nx.refl _) 13 rfl

set_option maxHeartbeats 4000000 in
theorem expand_q0 (x : Int) (w : World) (hx : 0 ≤ x) (hx' : x < 65536) (hq : fld x 0 2 = 0) :
    Calls Tryz.prog 151 #[.int .u16 x] w fun e w' => e = .returned (.tuple #[.agg #[.int .i64 (expJ x).op, .int .i64 (expJ x).rd, .int .i64 (expJ x).rs1, .int .i64 (expJ x).rs2, .int .i32 (expJ x).imm], .bool (!((expI x).op == 0))]) ∧ Nx w w' := by
  have f0 := fld_nonneg x 13 3
  have f1 : fld x 13 3 < 8 := fld_lt x 13 3
  have g0 := fld_nonneg x 12 1
  have g1 : fld x 12 1 < 2 := fld_lt x 12 1
  have k0 := fld_nonneg x 10 2
  have k1 : fld x 10 2 < 4 := fld_lt x 10 2
  have l0 := fld_nonneg x 5 2
  have l1 : fld x 5 2 < 4 := fld_lt x 5 2
  obtain ⟨m0, m1⟩ := n6_bd x
  have hf : fld x 13 3 = 0 ∨ fld x 13 3 = 1 ∨ fld x 13 3 = 2 ∨ fld x 13 3 = 3 ∨ fld x 13 3 = 4 ∨ fld x 13 3 = 5 ∨ fld x 13 3 = 6 ∨ fld x 13 3 = 7 := by omega
  have hg : fld x 12 1 = 0 ∨ fld x 12 1 = 1 := by omega
  have hk : fld x 10 2 = 0 ∨ fld x 10 2 = 1 ∨ fld x 10 2 = 2 ∨ fld x 10 2 = 3 := by omega
  have hl : fld x 5 2 = 0 ∨ fld x 5 2 = 1 ∨ fld x 5 2 = 2 ∨ fld x 5 2 = 3 := by omega
  have HF := Lib.hid hf
  have HG := Lib.hid hg
  have HK := Lib.hid hk
  have HL := Lib.hid hl
  clear hf hg hk hl
  have eI : expI x = fstI x (fld x 13 3) (8 + fld x 7 3) (8 + fld x 2 3) := by unfold expI; simp [hq]
  generalize hI : expI x = I at eI
  have eJ : expJ x = if I.op = 0 then none5 else I := by unfold expJ; rw [hI]
  rw [eJ]
  clear eJ
  cases h : (I.op == 0)
  · have h' : ¬ I.op = 0 := beq_eq_false_iff_ne.1 h
    rw [if_neg h']
    clear h'
    go_enter Tryz.func151, Tryz.ntmps151
    go_wp2_with fail
    refine (split_any _ _ hx hx').mono ?_
    rintro e w1 ⟨b, rfl, hb, hn1⟩
    go_wp2_with (refine wpList_store_mid (by rfl) 173 _ _ (by rfl) w1.heap.size 0 (parA x b) (by rfl) (by rfl) (par_there w1) par_info (par_one x b) ?_; rw [par_set]; unfold parA)
    refine (first_any x _ _ _ _ _ _ _ _ _ _ b _ _ _ hx hx' ((((Nx.refl w1).alloc _).alloc _).cell hb)).mono ?_
    rw [← eI]
    clear eI
    rintro e w2 ⟨rfl, hn2⟩
    obtain ⟨c0, c1, c2, c3, c4, z0, z1, z2, z3, z4, hz⟩ := five_res hn2
    obtain ⟨d0, d1, d2, d3, d4, y0, y1, y2, y3, y4, hy⟩ := five_cells (hn1.trans ((((Nx.refl w1).alloc _).alloc _).trans hn2))
    have HN := Lib.hid (((Nx.refl w).alloc _).trans (hn1.trans ((((Nx.refl w1).alloc _).alloc _).trans hn2)))
    have hzz : w.heap.size < w1.heap.size := by have := hn1.size; simp at this; omega
    have hz1 : ¬ w1.heap.size = w.heap.size := by omega
    have hz2 : ¬ w1.heap.size + 1 = w.heap.size := by omega
    have hz3 : ¬ w.heap.size = w1.heap.size + 1 := by omega
    clear hn1 hn2
    unfold insV
    go_wp2
    refine bodyPost_ret (v := .tuple #[.agg #[.int .i64 I.op, .int .i64 I.rd, .int .i64 I.rs1, .int .i64 I.rs2, .int .i32 I.imm], .bool true]) (by simp [results, Tryz.results151, go_sem, c0, c1, c2, c3, c4, d0, d1, d2, d3, d4, hy, hz, hz1, hz2, hz3]) rfl ⟨rfl, ?_⟩
    repeat (with_reducible first | exact HN.out | refine Nx.alloc ?_ _ | refine Nx.setCell ?_ (Nat.le_refl _) _ | refine Nx.setCell ?_ (Nat.le_succ_of_le (Nat.le_of_lt hzz)) _)
  · have h' : I.op = 0 := beq_iff_eq.1 h
    rw [if_pos h']
    clear h'
    go_enter Tryz.func151, Tryz.ntmps151
    go_wp2_with fail
    refine (split_any _ _ hx hx').mono ?_
    rintro e w1 ⟨b, rfl, hb, hn1⟩
    go_wp2_with (refine wpList_store_mid (by rfl) 173 _ _ (by rfl) w1.heap.size 0 (parA x b) (by rfl) (by rfl) (par_there w1) par_info (par_one x b) ?_; rw [par_set]; unfold parA)
    refine (first_any x _ _ _ _ _ _ _ _ _ _ b _ _ _ hx hx' ((((Nx.refl w1).alloc _).alloc _).cell hb)).mono ?_
    rw [← eI]
    clear eI
    rintro e w2 ⟨rfl, hn2⟩
    obtain ⟨c0, c1, c2, c3, c4, z0, z1, z2, z3, z4, hz⟩ := five_res hn2
    obtain ⟨d0, d1, d2, d3, d4, y0, y1, y2, y3, y4, hy⟩ := five_cells (hn1.trans ((((Nx.refl w1).alloc _).alloc _).trans hn2))
    have HN := Lib.hid (((Nx.refl w).alloc _).trans (hn1.trans ((((Nx.refl w1).alloc _).alloc _).trans hn2)))
    have hzz : w.heap.size < w1.heap.size := by have := hn1.size; simp at this; omega
    have hz1 : ¬ w1.heap.size = w.heap.size := by omega
    have hz2 : ¬ w1.heap.size + 1 = w.heap.size := by omega
    have hz3 : ¬ w.heap.size = w1.heap.size + 1 := by omega
    clear hn1 hn2
    unfold insV
    go_wp2
    refine bodyPost_ret (v := .tuple #[.agg #[.int .i64 0, .int .i64 0, .int .i64 0, .int .i64 0, .int .i32 0], .bool false]) (by simp [results, Tryz.results151, go_sem, c0, c1, c2, c3, c4, d0, d1, d2, d3, d4, hy, hz, hz1, hz2, hz3]) rfl ⟨by simp [none5], ?_⟩
    repeat (with_reducible first | exact HN.out | refine Nx.alloc ?_ _ | refine Nx.setCell ?_ (Nat.le_refl _) _ | refine Nx.setCell ?_ (Nat.le_succ_of_le (Nat.le_of_lt hzz)) _)

set_option maxHeartbeats 4000000 in
theorem expand_q1 (x : Int) (w : World) (hx : 0 ≤ x) (hx' : x < 65536) (hq : fld x 0 2 = 1) :
    Calls Tryz.prog 151 #[.int .u16 x] w fun e w' => e = .returned (.tuple #[.agg #[.int .i64 (expJ x).op, .int .i64 (expJ x).rd, .int .i64 (expJ x).rs1, .int .i64 (expJ x).rs2, .int .i32 (expJ x).imm], .bool (!((expI x).op == 0))]) ∧ Nx w w' := by
  have f0 := fld_nonneg x 13 3
  have f1 : fld x 13 3 < 8 := fld_lt x 13 3
  have g0 := fld_nonneg x 12 1
  have g1 : fld x 12 1 < 2 := fld_lt x 12 1
  have k0 := fld_nonneg x 10 2
  have k1 : fld x 10 2 < 4 := fld_lt x 10 2
  have l0 := fld_nonneg x 5 2
  have l1 : fld x 5 2 < 4 := fld_lt x 5 2
  obtain ⟨m0, m1⟩ := n6_bd x
  have hf : fld x 13 3 = 0 ∨ fld x 13 3 = 1 ∨ fld x 13 3 = 2 ∨ fld x 13 3 = 3 ∨ fld x 13 3 = 4 ∨ fld x 13 3 = 5 ∨ fld x 13 3 = 6 ∨ fld x 13 3 = 7 := by omega
  have hg : fld x 12 1 = 0 ∨ fld x 12 1 = 1 := by omega
  have hk : fld x 10 2 = 0 ∨ fld x 10 2 = 1 ∨ fld x 10 2 = 2 ∨ fld x 10 2 = 3 := by omega
  have hl : fld x 5 2 = 0 ∨ fld x 5 2 = 1 ∨ fld x 5 2 = 2 ∨ fld x 5 2 = 3 := by omega
  have HF := Lib.hid hf
  have HG := Lib.hid hg
  have HK := Lib.hid hk
  have HL := Lib.hid hl
  clear hf hg hk hl
  have eI : expI x = sndI x (fld x 13 3) (fld x 7 5) (8 + fld x 7 3) (8 + fld x 2 3) (fld x 12 1) (n6P x) (jP x) (fld x 2 5) (fld x 10 2) (fld x 5 2) := by unfold expI; simp [hq]
  generalize hI : expI x = I at eI
  have eJ : expJ x = if I.op = 0 then none5 else I := by unfold expJ; rw [hI]
  rw [eJ]
  clear eJ
  cases h : (I.op == 0)
  · have h' : ¬ I.op = 0 := beq_eq_false_iff_ne.1 h
    rw [if_neg h']
    clear h'
    go_enter Tryz.func151, Tryz.ntmps151
    go_wp2_with fail
    refine (split_any _ _ hx hx').mono ?_
    rintro e w1 ⟨b, rfl, hb, hn1⟩
    go_wp2_with (refine wpList_store_mid (by rfl) 173 _ _ (by rfl) w1.heap.size 0 (parA x b) (by rfl) (by rfl) (par_there w1) par_info (par_one x b) ?_; rw [par_set]; unfold parA)
    refine (second_any x _ _ _ _ _ _ _ _ _ _ b _ _ _ hx hx' HF.out m0 m1 HG.out HK.out HL.out ((((Nx.refl w1).alloc _).alloc _).cell hb)).mono ?_
    rw [← eI]
    clear eI
    rintro e w2 ⟨rfl, hn2⟩
    obtain ⟨c0, c1, c2, c3, c4, z0, z1, z2, z3, z4, hz⟩ := five_res hn2
    obtain ⟨d0, d1, d2, d3, d4, y0, y1, y2, y3, y4, hy⟩ := five_cells (hn1.trans ((((Nx.refl w1).alloc _).alloc _).trans hn2))
    have HN := Lib.hid (((Nx.refl w).alloc _).trans (hn1.trans ((((Nx.refl w1).alloc _).alloc _).trans hn2)))
    have hzz : w.heap.size < w1.heap.size := by have := hn1.size; simp at this; omega
    have hz1 : ¬ w1.heap.size = w.heap.size := by omega
    have hz2 : ¬ w1.heap.size + 1 = w.heap.size := by omega
    have hz3 : ¬ w.heap.size = w1.heap.size + 1 := by omega
    clear hn1 hn2
    unfold insV
    go_wp2
    refine bodyPost_ret (v := .tuple #[.agg #[.int .i64 I.op, .int .i64 I.rd, .int .i64 I.rs1, .int .i64 I.rs2, .int .i32 I.imm], .bool true]) (by simp [results, Tryz.results151, go_sem, c0, c1, c2, c3, c4, d0, d1, d2, d3, d4, hy, hz, hz1, hz2, hz3]) rfl ⟨rfl, ?_⟩
    repeat (with_reducible first | exact HN.out | refine Nx.alloc ?_ _ | refine Nx.setCell ?_ (Nat.le_refl _) _ | refine Nx.setCell ?_ (Nat.le_succ_of_le (Nat.le_of_lt hzz)) _)
  · have h' : I.op = 0 := beq_iff_eq.1 h
    rw [if_pos h']
    clear h'
    go_enter Tryz.func151, Tryz.ntmps151
    go_wp2_with fail
    refine (split_any _ _ hx hx').mono ?_
    rintro e w1 ⟨b, rfl, hb, hn1⟩
    go_wp2_with (refine wpList_store_mid (by rfl) 173 _ _ (by rfl) w1.heap.size 0 (parA x b) (by rfl) (by rfl) (par_there w1) par_info (par_one x b) ?_; rw [par_set]; unfold parA)
    refine (second_any x _ _ _ _ _ _ _ _ _ _ b _ _ _ hx hx' HF.out m0 m1 HG.out HK.out HL.out ((((Nx.refl w1).alloc _).alloc _).cell hb)).mono ?_
    rw [← eI]
    clear eI
    rintro e w2 ⟨rfl, hn2⟩
    obtain ⟨c0, c1, c2, c3, c4, z0, z1, z2, z3, z4, hz⟩ := five_res hn2
    obtain ⟨d0, d1, d2, d3, d4, y0, y1, y2, y3, y4, hy⟩ := five_cells (hn1.trans ((((Nx.refl w1).alloc _).alloc _).trans hn2))
    have HN := Lib.hid (((Nx.refl w).alloc _).trans (hn1.trans ((((Nx.refl w1).alloc _).alloc _).trans hn2)))
    have hzz : w.heap.size < w1.heap.size := by have := hn1.size; simp at this; omega
    have hz1 : ¬ w1.heap.size = w.heap.size := by omega
    have hz2 : ¬ w1.heap.size + 1 = w.heap.size := by omega
    have hz3 : ¬ w.heap.size = w1.heap.size + 1 := by omega
    clear hn1 hn2
    unfold insV
    go_wp2
    refine bodyPost_ret (v := .tuple #[.agg #[.int .i64 0, .int .i64 0, .int .i64 0, .int .i64 0, .int .i32 0], .bool false]) (by simp [results, Tryz.results151, go_sem, c0, c1, c2, c3, c4, d0, d1, d2, d3, d4, hy, hz, hz1, hz2, hz3]) rfl ⟨by simp [none5], ?_⟩
    repeat (with_reducible first | exact HN.out | refine Nx.alloc ?_ _ | refine Nx.setCell ?_ (Nat.le_refl _) _ | refine Nx.setCell ?_ (Nat.le_succ_of_le (Nat.le_of_lt hzz)) _)

set_option maxHeartbeats 4000000 in
theorem expand_q2 (x : Int) (w : World) (hx : 0 ≤ x) (hx' : x < 65536) (hq : fld x 0 2 = 2) :
    Calls Tryz.prog 151 #[.int .u16 x] w fun e w' => e = .returned (.tuple #[.agg #[.int .i64 (expJ x).op, .int .i64 (expJ x).rd, .int .i64 (expJ x).rs1, .int .i64 (expJ x).rs2, .int .i32 (expJ x).imm], .bool (!((expI x).op == 0))]) ∧ Nx w w' := by
  have f0 := fld_nonneg x 13 3
  have f1 : fld x 13 3 < 8 := fld_lt x 13 3
  have g0 := fld_nonneg x 12 1
  have g1 : fld x 12 1 < 2 := fld_lt x 12 1
  have k0 := fld_nonneg x 10 2
  have k1 : fld x 10 2 < 4 := fld_lt x 10 2
  have l0 := fld_nonneg x 5 2
  have l1 : fld x 5 2 < 4 := fld_lt x 5 2
  obtain ⟨m0, m1⟩ := n6_bd x
  have hf : fld x 13 3 = 0 ∨ fld x 13 3 = 1 ∨ fld x 13 3 = 2 ∨ fld x 13 3 = 3 ∨ fld x 13 3 = 4 ∨ fld x 13 3 = 5 ∨ fld x 13 3 = 6 ∨ fld x 13 3 = 7 := by omega
  have hg : fld x 12 1 = 0 ∨ fld x 12 1 = 1 := by omega
  have hk : fld x 10 2 = 0 ∨ fld x 10 2 = 1 ∨ fld x 10 2 = 2 ∨ fld x 10 2 = 3 := by omega
  have hl : fld x 5 2 = 0 ∨ fld x 5 2 = 1 ∨ fld x 5 2 = 2 ∨ fld x 5 2 = 3 := by omega
  have HF := Lib.hid hf
  have HG := Lib.hid hg
  have HK := Lib.hid hk
  have HL := Lib.hid hl
  clear hf hg hk hl
  have eI : expI x = thdI x (fld x 13 3) (fld x 7 5) (fld x 2 5) (fld x 12 1) (fld x 2 5) := by unfold expI; simp [hq]
  generalize hI : expI x = I at eI
  have eJ : expJ x = if I.op = 0 then none5 else I := by unfold expJ; rw [hI]
  rw [eJ]
  clear eJ
  cases h : (I.op == 0)
  · have h' : ¬ I.op = 0 := beq_eq_false_iff_ne.1 h
    rw [if_neg h']
    clear h'
    go_enter Tryz.func151, Tryz.ntmps151
    go_wp2_with fail
    refine (split_any _ _ hx hx').mono ?_
    rintro e w1 ⟨b, rfl, hb, hn1⟩
    go_wp2_with (refine wpList_store_mid (by rfl) 173 _ _ (by rfl) w1.heap.size 0 (parA x b) (by rfl) (by rfl) (par_there w1) par_info (par_one x b) ?_; rw [par_set]; unfold parA)
    refine (third_any x _ _ _ _ _ _ _ _ _ _ b _ _ _ hx hx' HF.out g0 (by omega) ((((Nx.refl w1).alloc _).alloc _).cell hb)).mono ?_
    rw [← eI]
    clear eI
    rintro e w2 ⟨rfl, hn2⟩
    obtain ⟨c0, c1, c2, c3, c4, z0, z1, z2, z3, z4, hz⟩ := five_res hn2
    obtain ⟨d0, d1, d2, d3, d4, y0, y1, y2, y3, y4, hy⟩ := five_cells (hn1.trans ((((Nx.refl w1).alloc _).alloc _).trans hn2))
    have HN := Lib.hid (((Nx.refl w).alloc _).trans (hn1.trans ((((Nx.refl w1).alloc _).alloc _).trans hn2)))
    have hzz : w.heap.size < w1.heap.size := by have := hn1.size; simp at this; omega
    have hz1 : ¬ w1.heap.size = w.heap.size := by omega
    have hz2 : ¬ w1.heap.size + 1 = w.heap.size := by omega
    have hz3 : ¬ w.heap.size = w1.heap.size + 1 := by omega
    clear hn1 hn2
    unfold insV
    go_wp2
    refine bodyPost_ret (v := .tuple #[.agg #[.int .i64 I.op, .int .i64 I.rd, .int .i64 I.rs1, .int .i64 I.rs2, .int .i32 I.imm], .bool true]) (by simp [results, Tryz.results151, go_sem, c0, c1, c2, c3, c4, d0, d1, d2, d3, d4, hy, hz, hz1, hz2, hz3]) rfl ⟨rfl, ?_⟩
    repeat (with_reducible first | exact HN.out | refine Nx.alloc ?_ _ | refine Nx.setCell ?_ (Nat.le_refl _) _ | refine Nx.setCell ?_ (Nat.le_succ_of_le (Nat.le_of_lt hzz)) _)
  · have h' : I.op = 0 := beq_iff_eq.1 h
    rw [if_pos h']
    clear h'
    go_enter Tryz.func151, Tryz.ntmps151
    go_wp2_with fail
    refine (split_any _ _ hx hx').mono ?_
    rintro e w1 ⟨b, rfl, hb, hn1⟩
    go_wp2_with (refine wpList_store_mid (by rfl) 173 _ _ (by rfl) w1.heap.size 0 (parA x b) (by rfl) (by rfl) (par_there w1) par_info (par_one x b) ?_; rw [par_set]; unfold parA)
    refine (third_any x _ _ _ _ _ _ _ _ _ _ b _ _ _ hx hx' HF.out g0 (by omega) ((((Nx.refl w1).alloc _).alloc _).cell hb)).mono ?_
    rw [← eI]
    clear eI
    rintro e w2 ⟨rfl, hn2⟩
    obtain ⟨c0, c1, c2, c3, c4, z0, z1, z2, z3, z4, hz⟩ := five_res hn2
    obtain ⟨d0, d1, d2, d3, d4, y0, y1, y2, y3, y4, hy⟩ := five_cells (hn1.trans ((((Nx.refl w1).alloc _).alloc _).trans hn2))
    have HN := Lib.hid (((Nx.refl w).alloc _).trans (hn1.trans ((((Nx.refl w1).alloc _).alloc _).trans hn2)))
    have hzz : w.heap.size < w1.heap.size := by have := hn1.size; simp at this; omega
    have hz1 : ¬ w1.heap.size = w.heap.size := by omega
    have hz2 : ¬ w1.heap.size + 1 = w.heap.size := by omega
    have hz3 : ¬ w.heap.size = w1.heap.size + 1 := by omega
    clear hn1 hn2
    unfold insV
    go_wp2
    refine bodyPost_ret (v := .tuple #[.agg #[.int .i64 0, .int .i64 0, .int .i64 0, .int .i64 0, .int .i32 0], .bool false]) (by simp [results, Tryz.results151, go_sem, c0, c1, c2, c3, c4, d0, d1, d2, d3, d4, hy, hz, hz1, hz2, hz3]) rfl ⟨by simp [none5], ?_⟩
    repeat (with_reducible first | exact HN.out | refine Nx.alloc ?_ _ | refine Nx.setCell ?_ (Nat.le_refl _) _ | refine Nx.setCell ?_ (Nat.le_succ_of_le (Nat.le_of_lt hzz)) _)

set_option maxHeartbeats 4000000 in
theorem expand_q3 (x : Int) (w : World) (hx : 0 ≤ x) (hx' : x < 65536) (hq : fld x 0 2 = 3) :
    Calls Tryz.prog 151 #[.int .u16 x] w fun e w' => e = .returned (.tuple #[.agg #[.int .i64 (expJ x).op, .int .i64 (expJ x).rd, .int .i64 (expJ x).rs1, .int .i64 (expJ x).rs2, .int .i32 (expJ x).imm], .bool (!((expI x).op == 0))]) ∧ Nx w w' := by
  have eI : expI x = none5 := by unfold expI; simp [hq]
  have eJ : expJ x = none5 := by unfold expJ; rw [eI]; rfl
  rw [eI, eJ]
  clear eI eJ
  go_enter Tryz.func151, Tryz.ntmps151
  go_wp2_with fail
  refine (split_any _ _ hx hx').mono ?_
  rintro e w1 ⟨b, rfl, hb, hn1⟩
  obtain ⟨d0, d1, d2, d3, d4, y0, y1, y2, y3, y4, hy⟩ := five_cells hn1
  have HN := Lib.hid (((Nx.refl w).alloc _).trans hn1)
  have hz1 : ¬ w1.heap.size = w.heap.size := by omega
  have hz2 : ¬ w1.heap.size + 1 = w.heap.size := by omega
  have hz3 : ¬ w.heap.size = w1.heap.size + 1 := by omega
  have hz4 : ¬ w.heap.size = w1.heap.size := by omega
  clear hn1
  go_wp2_with (refine wpList_store_mid (by rfl) 173 _ _ (by rfl) w1.heap.size 0 (parA x b) (by rfl) (by rfl) (par_there w1) par_info (par_one x b) ?_; rw [par_set]; unfold parA)
  refine bodyPost_ret (v := .tuple #[.agg #[.int .i64 0, .int .i64 0, .int .i64 0, .int .i64 0, .int .i32 0], .bool false]) (by simp [results, Tryz.results151, go_sem, d0, d1, d2, d3, d4, hy, hz1, hz2, hz3, hz4]) rfl ⟨by simp [none5], ?_⟩
  repeat (with_reducible first | exact HN.out | refine Nx.alloc ?_ _ | refine Nx.setCell ?_ (Nat.le_refl _) _)

theorem expand_any (x : Int) (w : World) (hx : 0 ≤ x) (hx' : x < 65536) :
    Calls Tryz.prog 151 #[.int .u16 x] w fun e w' => e = .returned (.tuple #[.agg #[.int .i64 (expJ x).op, .int .i64 (expJ x).rd, .int .i64 (expJ x).rs1, .int .i64 (expJ x).rs2, .int .i32 (expJ x).imm], .bool (!((expI x).op == 0))]) ∧ Nx w w' := by
  have g0 := fld_nonneg x 0 2
  have g1 : fld x 0 2 < 4 := fld_lt x 0 2
  have hq : fld x 0 2 = 0 ∨ fld x 0 2 = 1 ∨ fld x 0 2 = 2 ∨ fld x 0 2 = 3 := by omega
  rcases hq with hq | hq | hq | hq
  · exact expand_q0 x w hx hx' hq
  · exact expand_q1 x w hx hx' hq
  · exact expand_q2 x w hx hx' hq
  · exact expand_q3 x w hx hx' hq

end Go.Proofs.YtndpgakjpokllaaGreat

/- Plain: the numbers of a parcel, bit by bit, and by runs of bits. -/
namespace Go.Proofs.YtndpgakjpokllaaGreat
open Go.RowKit
set_option linter.unusedVariables false
set_option linter.unusedSimpArgs false

theorem fld_more (x : Int) (l n : Nat) : fld x l (n + 1) = fld x (l + 1) n * 2 + fld x l 1 := by
  unfold fld
  rw [Int.pow_succ, Int.pow_succ, Int.pow_one, Int.mul_comm (2 ^ l) 2]
  rw [show (2 : Int) * 2 ^ l = 2 ^ l * 2 from Int.mul_comm _ _, ← Int.ediv_ediv_of_nonneg (Int.le_of_lt (pow_pos' l)), Int.mul_comm (2 ^ n) 2]
  generalize x / 2 ^ l = y
  rw [Int.emod_def y (2 * 2 ^ n), Int.emod_def (y / 2) (2 ^ n), Int.ediv_ediv_of_nonneg (by omega : (0 : Int) ≤ 2), Int.mul_assoc]
  generalize (2 : Int) ^ n * (y / (2 * 2 ^ n)) = z
  omega

def bt (x : Int) (l : Nat) : Int := fld x l 1

theorem bt_bd (x : Int) (l : Nat) : 0 ≤ bt x l ∧ bt x l ≤ 1 := by
  have h1 := fld_nonneg x l 1
  have h2 : fld x l 1 < 2 := fld_lt x l 1
  unfold bt
  omega

theorem f1 (x : Int) (l : Nat) : fld x l 1 = bt x l := rfl

theorem f2 (x : Int) (l : Nat) : fld x l 2 = bt x (l + 1) * 2 + bt x l := fld_more x l 1

theorem f3 (x : Int) (l : Nat) : fld x l 3 = (bt x (l + 2) * 2 + bt x (l + 1)) * 2 + bt x l := by rw [fld_more x l 2, f2]; rfl

theorem f4 (x : Int) (l : Nat) : fld x l 4 = ((bt x (l + 3) * 2 + bt x (l + 2)) * 2 + bt x (l + 1)) * 2 + bt x l := by rw [fld_more x l 3, f3]; rfl

theorem f5 (x : Int) (l : Nat) : fld x l 5 = (((bt x (l + 4) * 2 + bt x (l + 3)) * 2 + bt x (l + 2)) * 2 + bt x (l + 1)) * 2 + bt x l := by rw [fld_more x l 4, f4]; rfl

/-- A number whose highest bits are told, with no bound. -/
def hr (x : Int) : Int → List Int → Int
  | v, [] => v
  | v, i :: t => hr x (if 0 ≤ i then v * 2 + bt x i.toNat else v * 2) t

theorem hr_bd (x v : Int) (l : List Int) (n : Nat) (h : 0 ≤ v) (h' : v < 2 ^ n) : 0 ≤ hr x v l ∧ hr x v l < 2 ^ (n + l.length) := by
  induction l generalizing v n with
  | nil => exact ⟨h, h'⟩
  | cons i t ih =>
    have b := bt_bd x i.toNat
    have e : (2 : Int) ^ (n + 1) = 2 ^ n * 2 := Int.pow_succ 2 n
    have := ih (if 0 ≤ i then v * 2 + bt x i.toNat else v * 2) (n + 1) (by split <;> omega) (by rw [e]; split <;> omega)
    rw [List.length_cons, show n + (t.length + 1) = n + 1 + t.length by omega]
    exact this

theorem hor_hr (x v : Int) (l : List Int) (n : Nat) (h : 0 ≤ v) (h' : v < 2 ^ n) (hn : n + l.length ≤ 32) : hor x v l = hr x v l := by
  induction l generalizing v n with
  | nil => rfl
  | cons i t ih =>
    have b := bt_bd x i.toNat
    have e : (2 : Int) ^ (n + 1) = 2 ^ n * 2 := Int.pow_succ 2 n
    rw [List.length_cons] at hn
    have hp : (2 : Int) ^ (n + 1) ≤ 4294967296 := by
      have := pow_le32 (n + 1) (by omega)
      exact this
    have e2 : (if 0 ≤ i then (2 * v % 4294967296 + fld x i.toNat 1) % 4294967296 else 2 * v % 4294967296) = (if 0 ≤ i then v * 2 + bt x i.toNat else v * 2) := by
      have := f1 x i.toNat
      rw [this]
      split <;> omega
    show hor x _ t = hr x _ t
    rw [e2]
    exact ih _ (n + 1) (by split <;> omega) (by rw [e]; split <;> omega) (by omega)

theorem hor0 (x : Int) (l : List Int) (hn : l.length ≤ 32) : hor x 0 l = hr x 0 l := hor_hr x 0 l 0 (by omega) (by decide) (by omega)

theorem e_n6 (x : Int) : hor x 0 [12, 6, 5, 4, 3, 2] = runsV x 0 [(12, 1), (2, 5)] % 4294967296 := by
  rw [hor0 _ _ (by decide)]
  have b2 := bt_bd x 2
  have b3 := bt_bd x 3
  have b4 := bt_bd x 4
  have b5 := bt_bd x 5
  have b6 := bt_bd x 6
  have b12 := bt_bd x 12
  have q12 : fld x 12 1 = bt x 12 := f1 x 12
  have q2 : fld x 2 5 = (((bt x 6 * 2 + bt x 5) * 2 + bt x 4) * 2 + bt x 3) * 2 + bt x 2 := f5 x 2
  show ((((((0 * 2 + bt x 12) * 2 + bt x 6) * 2 + bt x 5) * 2 + bt x 4) * 2 + bt x 3) * 2 + bt x 2) = ((0 * 2 ^ 1 % 4294967296 + fld x 12 1) * 2 ^ 5 % 4294967296 + fld x 2 5) % 4294967296
  rw [q12, q2]
  omega

theorem e_j (x : Int) : hor x 0 [12, 8, 10, 9, 6, 7, 2, 11, 5, 4, 3, -1] = runsV x 0 rsJ * 2 % 4294967296 := by
  rw [hor0 _ _ (by decide)]
  have b2 := bt_bd x 2
  have b3 := bt_bd x 3
  have b4 := bt_bd x 4
  have b5 := bt_bd x 5
  have b6 := bt_bd x 6
  have b7 := bt_bd x 7
  have b8 := bt_bd x 8
  have b9 := bt_bd x 9
  have b10 := bt_bd x 10
  have b11 := bt_bd x 11
  have b12 := bt_bd x 12
  have q12 : fld x 12 1 = bt x 12 := f1 x 12
  have q8 : fld x 8 1 = bt x 8 := f1 x 8
  have q9 : fld x 9 2 = bt x 10 * 2 + bt x 9 := f2 x 9
  have q6 : fld x 6 1 = bt x 6 := f1 x 6
  have q7 : fld x 7 1 = bt x 7 := f1 x 7
  have q2 : fld x 2 1 = bt x 2 := f1 x 2
  have q11 : fld x 11 1 = bt x 11 := f1 x 11
  have q3 : fld x 3 3 = (bt x 5 * 2 + bt x 4) * 2 + bt x 3 := f3 x 3
  show ((((((((((((0 * 2 + bt x 12) * 2 + bt x 8) * 2 + bt x 10) * 2 + bt x 9) * 2 + bt x 6) * 2 + bt x 7) * 2 + bt x 2) * 2 + bt x 11) * 2 + bt x 5) * 2 + bt x 4) * 2 + bt x 3) * 2) = ((((((((0 * 2 ^ 1 % 4294967296 + fld x 12 1) * 2 ^ 1 % 4294967296 + fld x 8 1) * 2 ^ 2 % 4294967296 + fld x 9 2) * 2 ^ 1 % 4294967296 + fld x 6 1) * 2 ^ 1 % 4294967296 + fld x 7 1) * 2 ^ 1 % 4294967296 + fld x 2 1) * 2 ^ 1 % 4294967296 + fld x 11 1) * 2 ^ 3 % 4294967296 + fld x 3 3) * 2 % 4294967296
  rw [q12, q8, q9, q6, q7, q2, q11, q3]
  omega

theorem e_b (x : Int) : hor x 0 [12, 6, 5, 2, 11, 10, 4, 3, -1] = runsV x 0 rsB * 2 % 4294967296 := by
  rw [hor0 _ _ (by decide)]
  have b2 := bt_bd x 2
  have b3 := bt_bd x 3
  have b4 := bt_bd x 4
  have b5 := bt_bd x 5
  have b6 := bt_bd x 6
  have b10 := bt_bd x 10
  have b11 := bt_bd x 11
  have b12 := bt_bd x 12
  have q12 : fld x 12 1 = bt x 12 := f1 x 12
  have q5 : fld x 5 2 = bt x 6 * 2 + bt x 5 := f2 x 5
  have q2 : fld x 2 1 = bt x 2 := f1 x 2
  have q10 : fld x 10 2 = bt x 11 * 2 + bt x 10 := f2 x 10
  have q3 : fld x 3 2 = bt x 4 * 2 + bt x 3 := f2 x 3
  show (((((((((0 * 2 + bt x 12) * 2 + bt x 6) * 2 + bt x 5) * 2 + bt x 2) * 2 + bt x 11) * 2 + bt x 10) * 2 + bt x 4) * 2 + bt x 3) * 2) = (((((0 * 2 ^ 1 % 4294967296 + fld x 12 1) * 2 ^ 2 % 4294967296 + fld x 5 2) * 2 ^ 1 % 4294967296 + fld x 2 1) * 2 ^ 2 % 4294967296 + fld x 10 2) * 2 ^ 2 % 4294967296 + fld x 3 2) * 2 % 4294967296
  rw [q12, q5, q2, q10, q3]
  omega

theorem e_far (x : Int) : hor x 0 [12, 4, 3, 5, 2, 6, -1, -1, -1, -1] = runsV x 0 rsF * 16 % 4294967296 := by
  rw [hor0 _ _ (by decide)]
  have b2 := bt_bd x 2
  have b3 := bt_bd x 3
  have b4 := bt_bd x 4
  have b5 := bt_bd x 5
  have b6 := bt_bd x 6
  have b12 := bt_bd x 12
  have q12 : fld x 12 1 = bt x 12 := f1 x 12
  have q3 : fld x 3 2 = bt x 4 * 2 + bt x 3 := f2 x 3
  have q5 : fld x 5 1 = bt x 5 := f1 x 5
  have q2 : fld x 2 1 = bt x 2 := f1 x 2
  have q6 : fld x 6 1 = bt x 6 := f1 x 6
  show ((((((((((0 * 2 + bt x 12) * 2 + bt x 4) * 2 + bt x 3) * 2 + bt x 5) * 2 + bt x 2) * 2 + bt x 6) * 2) * 2) * 2) * 2) = (((((0 * 2 ^ 1 % 4294967296 + fld x 12 1) * 2 ^ 2 % 4294967296 + fld x 3 2) * 2 ^ 1 % 4294967296 + fld x 5 1) * 2 ^ 1 % 4294967296 + fld x 2 1) * 2 ^ 1 % 4294967296 + fld x 6 1) * 16 % 4294967296
  rw [q12, q3, q5, q2, q6]
  omega

theorem e_u (x : Int) : hor x 0 [-1, 10, 9, 8, 7, 12, 11, 5, 6, -1, -1] = uP x := by
  rw [hor0 _ _ (by decide)]
  have b5 := bt_bd x 5
  have b6 := bt_bd x 6
  have b7 := bt_bd x 7
  have b8 := bt_bd x 8
  have b9 := bt_bd x 9
  have b10 := bt_bd x 10
  have b11 := bt_bd x 11
  have b12 := bt_bd x 12
  have q7 : fld x 7 4 = ((bt x 10 * 2 + bt x 9) * 2 + bt x 8) * 2 + bt x 7 := f4 x 7
  have q11 : fld x 11 2 = bt x 12 * 2 + bt x 11 := f2 x 11
  have q5 : fld x 5 1 = bt x 5 := f1 x 5
  have q6 : fld x 6 1 = bt x 6 := f1 x 6
  show (((((((((((0 * 2) * 2 + bt x 10) * 2 + bt x 9) * 2 + bt x 8) * 2 + bt x 7) * 2 + bt x 12) * 2 + bt x 11) * 2 + bt x 5) * 2 + bt x 6) * 2) * 2) = ((((0 * 2 ^ 4 % 4294967296 + fld x 7 4) * 2 ^ 2 % 4294967296 + fld x 11 2) * 2 ^ 1 % 4294967296 + fld x 5 1) * 2 ^ 1 % 4294967296 + fld x 6 1) * 4 % 4294967296
  rw [q7, q11, q5, q6]
  omega

theorem e_near (x : Int) : hor x 0 [-1, 5, 12, 11, 10, 6, -1, -1] = nearP x := by
  rw [hor0 _ _ (by decide)]
  have b5 := bt_bd x 5
  have b6 := bt_bd x 6
  have b10 := bt_bd x 10
  have b11 := bt_bd x 11
  have b12 := bt_bd x 12
  have q5 : fld x 5 1 = bt x 5 := f1 x 5
  have q10 : fld x 10 3 = (bt x 12 * 2 + bt x 11) * 2 + bt x 10 := f3 x 10
  have q6 : fld x 6 1 = bt x 6 := f1 x 6
  show ((((((((0 * 2) * 2 + bt x 5) * 2 + bt x 12) * 2 + bt x 11) * 2 + bt x 10) * 2 + bt x 6) * 2) * 2) = (((0 * 2 ^ 1 % 4294967296 + fld x 5 1) * 2 ^ 3 % 4294967296 + fld x 10 3) * 2 ^ 1 % 4294967296 + fld x 6 1) * 4 % 4294967296
  rw [q5, q10, q6]
  omega

theorem e_ls (x : Int) : hor x 0 [-1, 3, 2, 12, 6, 5, 4, -1, -1] = lsP x := by
  rw [hor0 _ _ (by decide)]
  have b2 := bt_bd x 2
  have b3 := bt_bd x 3
  have b4 := bt_bd x 4
  have b5 := bt_bd x 5
  have b6 := bt_bd x 6
  have b12 := bt_bd x 12
  have q2 : fld x 2 2 = bt x 3 * 2 + bt x 2 := f2 x 2
  have q12 : fld x 12 1 = bt x 12 := f1 x 12
  have q4 : fld x 4 3 = (bt x 6 * 2 + bt x 5) * 2 + bt x 4 := f3 x 4
  show (((((((((0 * 2) * 2 + bt x 3) * 2 + bt x 2) * 2 + bt x 12) * 2 + bt x 6) * 2 + bt x 5) * 2 + bt x 4) * 2) * 2) = (((0 * 2 ^ 2 % 4294967296 + fld x 2 2) * 2 ^ 1 % 4294967296 + fld x 12 1) * 2 ^ 3 % 4294967296 + fld x 4 3) * 4 % 4294967296
  rw [q2, q12, q4]
  omega

theorem e_ss (x : Int) : hor x 0 [-1, 8, 7, 12, 11, 10, 9, -1, -1] = ssP x := by
  rw [hor0 _ _ (by decide)]
  have b7 := bt_bd x 7
  have b8 := bt_bd x 8
  have b9 := bt_bd x 9
  have b10 := bt_bd x 10
  have b11 := bt_bd x 11
  have b12 := bt_bd x 12
  have q7 : fld x 7 2 = bt x 8 * 2 + bt x 7 := f2 x 7
  have q9 : fld x 9 4 = ((bt x 12 * 2 + bt x 11) * 2 + bt x 10) * 2 + bt x 9 := f4 x 9
  show (((((((((0 * 2) * 2 + bt x 8) * 2 + bt x 7) * 2 + bt x 12) * 2 + bt x 11) * 2 + bt x 10) * 2 + bt x 9) * 2) * 2) = ((0 * 2 ^ 2 % 4294967296 + fld x 7 2) * 2 ^ 4 % 4294967296 + fld x 9 4) * 4 % 4294967296
  rw [q7, q9]
  omega

/-- A number whose first bit is a nought is itself as a signed one. -/
theorem sgn_plain (x : Int) (l : List Int) (m : Nat) (hm : 1 + l.length = m) (h : m ≤ 32) : sgn (hor x 0 (-1 :: l)) m = hor x 0 (-1 :: l) := by
  subst hm
  rw [hor0 _ _ (by simp; omega)]
  have b := hr_bd x 0 l 0 (by omega) (by decide)
  have e : hr x 0 (-1 :: l) = hr x 0 l := rfl
  rw [e]
  refine sgn_lo' _ _ b.1 ?_
  rw [Nat.add_comm 1, Int.pow_succ]
  have := b.2
  rw [Nat.zero_add] at this
  omega

end Go.Proofs.YtndpgakjpokllaaGreat

/- Contracts of package typecaseref05: the quarters. -/
namespace Go.Proofs.YtndpgakjpokllaaGreat
open Go.RowKit
set_option linter.unusedVariables false
set_option linter.unusedSimpArgs false

/-- A list of bits, laid, with noughts behind. -/
theorem elist_lst (nn : Int) (l : List Int) (n m : Nat) (L : List Int) (C : Array Value) (hC : (l.map (Value.int .i64)).toArray = C) (g : Nat) (W : World) (hg : W.heap.size = g) (h0 : 0 ≤ nn) (h1 : nn ≤ 100) (hn : l.length = n) (hl : n ≤ 100) (hp : 0 < n) (hm : n + nn.toNat = m) (hL : l ++ List.replicate nn.toNat (-1) = L) :
    Calls Tryz.prog 78 #[.int .i64 nn, .slice (some ⟨g, 0, none⟩) n n] (W.alloc (.cells C 3)) fun e w' => ∃ g c, e = .returned (.slice (some ⟨g, 0, none⟩) m c) ∧ Hid (Ints w' g L) ∧ Nx W w' := by
  subst hC hg hL
  have hi : Ints (W.alloc (.cells (l.map (Value.int .i64)).toArray 3)) W.heap.size l := own_row (own_new W W.heap.size n l hn (Nat.le_refl _) (by omega)) hn
  refine (elist_any nn l W.heap.size n n m _ h0 h1 hn hl hp hm hi).mono ?_
  rintro e w' ⟨g, c, rfl, ho, hx⟩
  exact ⟨g, c, rfl, Lib.hid (own_row ho (by simp; omega)), ((Nx.refl W).alloc _).trans hx⟩

/-- The signed number of a list of bits. -/
theorem ebits_lst (x : Int) (L : List Int) (g n c k : Nat) (v : Int) (w : World) (hx : 0 ≤ x) (hx' : x < 65536) (hn : L.length = n) (hk : n ≤ 32) (hi : Hid (Ints w g L)) (hv : sgn (hor x 0 L) n = v) :
    Calls Tryz.prog 81 #[.int .u32 x, .slice (some ⟨g, 0, none⟩) n c] w fun e w' => e = .returned (.int .i32 v) ∧ w = w' := by
  have h := bits_any x g n c L hn w hx (by omega) (by omega) hi.out
  rw [cl_nat n hk, hv] at h
  exact h

/-- The plain number of a list of bits. -/
theorem eplain_lst (x : Int) (L : List Int) (g n c : Nat) (v : Int) (w : World) (hx : 0 ≤ x) (hx' : x < 65536) (hn : L.length = n) (hk : n ≤ 31) (hi : Hid (Ints w g L)) (hv : hor x 0 (-1 :: L) = v) :
    Calls Tryz.prog 77 #[.int .u32 x, .slice (some ⟨g, 0, none⟩) n c] w fun e w' => e = .returned (.int .i32 v) ∧ Nx w w' := by
  have h := eplain_any x L g n c w hx hx' hn (by omega) hi.out
  rw [cl_nat (1 + n) (by omega), sgn_plain x L (1 + n) (by omega) (by omega), hv] at h
  exact h

theorem efield_v (x a b : Int) (n : Nat) (v : Int) (w : World) (hx : 0 ≤ x) (hx' : x < 65536) (hb : 0 ≤ b) (hb' : b ≤ 31) (ha : b ≤ a) (ha' : a ≤ 31) (hn : (a - b + 1).toNat = n) (hv : fld x b.toNat n = v) :
    Calls Tryz.prog 79 #[.int .u32 x, .int .i64 a, .int .i64 b] w fun e w' => e = .returned (.int .i64 v) ∧ w = w' := by
  subst hv
  exact efield_any x a b n w hx hx' hb hb' ha ha' hn

set_option maxHeartbeats 4000000 in
theorem q0_a (x : Int) (w : World) (hx : 0 ≤ x) (hx' : x < 65536) (hf : fld x 13 3 = 0) (hu : uP x = 0) :
    Calls Tryz.prog 46 #[.int .u32 x] w fun e w' => e = .returned (insV (fstI x (fld x 13 3) (8 + fld x 7 3) (8 + fld x 2 3))) ∧ Nx w w' := by
  obtain ⟨s1, s2⟩ := near_bd x
  obtain ⟨t1, t2⟩ := u_bd x
  have g0 := fld_nonneg x 7 3
  have g1 : fld x 7 3 < 8 := fld_lt x 7 3
  have k0 := fld_nonneg x 2 3
  have k1 : fld x 2 3 < 8 := fld_lt x 2 3
  rw [show fstI x (fld x 13 3) (8 + fld x 7 3) (8 + fld x 2 3) = fstI x 0 (8 + fld x 7 3) (8 + fld x 2 3) by rw [hf]]
  go_enter Tryz.func46, Tryz.ntmps46
  go_wp2_with fail
  refine (elist_lst 2 [10, 9, 8, 7, 12, 11, 5, 6] 8 10 [10, 9, 8, 7, 12, 11, 5, 6, -1, -1] _ rfl _ _ (by simp) (by decide) (by decide) rfl (by decide) (by decide) rfl rfl).mono ?_
  rintro e w1 ⟨gA, cA, rfl, iA, n1⟩
  go_wp2_with fail
  refine (eplain_lst x _ gA 10 cA (uP x) _ hx hx' rfl (by decide) iA (e_u x)).mono ?_
  rintro e w2 ⟨rfl, n2⟩
  replace n2 := n1.trans n2
  clear n1 iA
  go_wp2_with fail
  refine (elist_lst 2 [5, 12, 11, 10, 6] 5 7 [5, 12, 11, 10, 6, -1, -1] _ rfl _ _ rfl (by decide) (by decide) rfl (by decide) (by decide) rfl rfl).mono ?_
  rintro e w3 ⟨gB, cB, rfl, iB, n3⟩
  go_wp2_with fail
  refine (eplain_lst x _ gB 7 cB (nearP x) _ hx hx' rfl (by decide) iB (e_near x)).mono ?_
  rintro e w4 ⟨rfl, n4⟩
  replace n4 := n2.trans (n3.trans n4)
  clear n2 n3 iB
  go_wp2_with fail
  refine (efield_v x 15 13 3 0 _ hx hx' (by decide) (by decide) (by decide) (by decide) rfl hf).mono ?_
  rintro e w' ⟨rfl, rfl⟩
  have hu' : (uP x == 0) = true := by rw [beq_iff_eq]; exact hu
  obtain ⟨c0, c1, c2, c3, c4, z0, z1, z2, z3, z4, hz⟩ := five_cells n4
  have HN := Lib.hid (((Nx.refl w).alloc _).trans n4)
  clear n4
  go_wp2_with (go_at_call 80; refine (efew_any _ _ _ hx hx' (by decide) (by decide)).mono ?_; rintro e w' ⟨rfl, rfl⟩)
  refine bodyPost_ret (v := insV (fstI x 0 (8 + fld x 7 3) (8 + fld x 2 3))) (by simp [results, Tryz.results46, go_sem, insV, fstI, none5, c0, c1, c2, c3, c4, hu]) rfl ⟨rfl, ?_⟩
  repeat (with_reducible first | exact HN.out | refine Nx.alloc ?_ _ | refine Nx.setCell ?_ (Nat.le_refl _) _)

set_option maxHeartbeats 4000000 in
theorem q0_b (x : Int) (w : World) (hx : 0 ≤ x) (hx' : x < 65536) (hf : fld x 13 3 = 0) (hu : ¬ uP x = 0) :
    Calls Tryz.prog 46 #[.int .u32 x] w fun e w' => e = .returned (insV (fstI x (fld x 13 3) (8 + fld x 7 3) (8 + fld x 2 3))) ∧ Nx w w' := by
  obtain ⟨s1, s2⟩ := near_bd x
  obtain ⟨t1, t2⟩ := u_bd x
  have g0 := fld_nonneg x 7 3
  have g1 : fld x 7 3 < 8 := fld_lt x 7 3
  have k0 := fld_nonneg x 2 3
  have k1 : fld x 2 3 < 8 := fld_lt x 2 3
  rw [show fstI x (fld x 13 3) (8 + fld x 7 3) (8 + fld x 2 3) = fstI x 0 (8 + fld x 7 3) (8 + fld x 2 3) by rw [hf]]
  go_enter Tryz.func46, Tryz.ntmps46
  go_wp2_with fail
  refine (elist_lst 2 [10, 9, 8, 7, 12, 11, 5, 6] 8 10 [10, 9, 8, 7, 12, 11, 5, 6, -1, -1] _ rfl _ _ (by simp) (by decide) (by decide) rfl (by decide) (by decide) rfl rfl).mono ?_
  rintro e w1 ⟨gA, cA, rfl, iA, n1⟩
  go_wp2_with fail
  refine (eplain_lst x _ gA 10 cA (uP x) _ hx hx' rfl (by decide) iA (e_u x)).mono ?_
  rintro e w2 ⟨rfl, n2⟩
  replace n2 := n1.trans n2
  clear n1 iA
  go_wp2_with fail
  refine (elist_lst 2 [5, 12, 11, 10, 6] 5 7 [5, 12, 11, 10, 6, -1, -1] _ rfl _ _ rfl (by decide) (by decide) rfl (by decide) (by decide) rfl rfl).mono ?_
  rintro e w3 ⟨gB, cB, rfl, iB, n3⟩
  go_wp2_with fail
  refine (eplain_lst x _ gB 7 cB (nearP x) _ hx hx' rfl (by decide) iB (e_near x)).mono ?_
  rintro e w4 ⟨rfl, n4⟩
  replace n4 := n2.trans (n3.trans n4)
  clear n2 n3 iB
  go_wp2_with fail
  refine (efield_v x 15 13 3 0 _ hx hx' (by decide) (by decide) (by decide) (by decide) rfl hf).mono ?_
  rintro e w' ⟨rfl, rfl⟩
  have hu' : (uP x == 0) = false := beq_eq_false_iff_ne.2 hu
  obtain ⟨c0, c1, c2, c3, c4, z0, z1, z2, z3, z4, hz⟩ := five_cells n4
  have HN := Lib.hid (((Nx.refl w).alloc _).trans n4)
  clear n4
  go_wp2_with (go_at_call 80; refine (efew_any _ _ _ hx hx' (by decide) (by decide)).mono ?_; rintro e w' ⟨rfl, rfl⟩)
  refine bodyPost_ret (v := insV (fstI x 0 (8 + fld x 7 3) (8 + fld x 2 3))) (by simp [results, Tryz.results46, go_sem, insV, fstI, none5, c0, c1, c2, c3, c4, hu]) rfl ⟨rfl, ?_⟩
  repeat (with_reducible first | exact HN.out | refine Nx.alloc ?_ _ | refine Nx.setCell ?_ (Nat.le_refl _) _)

set_option maxHeartbeats 4000000 in
theorem q0_c (x : Int) (w : World) (hx : 0 ≤ x) (hx' : x < 65536) (hf : fld x 13 3 = 2) :
    Calls Tryz.prog 46 #[.int .u32 x] w fun e w' => e = .returned (insV (fstI x (fld x 13 3) (8 + fld x 7 3) (8 + fld x 2 3))) ∧ Nx w w' := by
  obtain ⟨s1, s2⟩ := near_bd x
  obtain ⟨t1, t2⟩ := u_bd x
  have g0 := fld_nonneg x 7 3
  have g1 : fld x 7 3 < 8 := fld_lt x 7 3
  have k0 := fld_nonneg x 2 3
  have k1 : fld x 2 3 < 8 := fld_lt x 2 3
  rw [show fstI x (fld x 13 3) (8 + fld x 7 3) (8 + fld x 2 3) = fstI x 2 (8 + fld x 7 3) (8 + fld x 2 3) by rw [hf]]
  go_enter Tryz.func46, Tryz.ntmps46
  go_wp2_with fail
  refine (elist_lst 2 [10, 9, 8, 7, 12, 11, 5, 6] 8 10 [10, 9, 8, 7, 12, 11, 5, 6, -1, -1] _ rfl _ _ (by simp) (by decide) (by decide) rfl (by decide) (by decide) rfl rfl).mono ?_
  rintro e w1 ⟨gA, cA, rfl, iA, n1⟩
  go_wp2_with fail
  refine (eplain_lst x _ gA 10 cA (uP x) _ hx hx' rfl (by decide) iA (e_u x)).mono ?_
  rintro e w2 ⟨rfl, n2⟩
  replace n2 := n1.trans n2
  clear n1 iA
  go_wp2_with fail
  refine (elist_lst 2 [5, 12, 11, 10, 6] 5 7 [5, 12, 11, 10, 6, -1, -1] _ rfl _ _ rfl (by decide) (by decide) rfl (by decide) (by decide) rfl rfl).mono ?_
  rintro e w3 ⟨gB, cB, rfl, iB, n3⟩
  go_wp2_with fail
  refine (eplain_lst x _ gB 7 cB (nearP x) _ hx hx' rfl (by decide) iB (e_near x)).mono ?_
  rintro e w4 ⟨rfl, n4⟩
  replace n4 := n2.trans (n3.trans n4)
  clear n2 n3 iB
  go_wp2_with fail
  refine (efield_v x 15 13 3 2 _ hx hx' (by decide) (by decide) (by decide) (by decide) rfl hf).mono ?_
  rintro e w' ⟨rfl, rfl⟩
  obtain ⟨c0, c1, c2, c3, c4, z0, z1, z2, z3, z4, hz⟩ := five_cells n4
  have HN := Lib.hid (((Nx.refl w).alloc _).trans n4)
  clear n4
  go_wp2_with (go_at_call 80; refine (efew_any _ _ _ hx hx' (by decide) (by decide)).mono ?_; rintro e w' ⟨rfl, rfl⟩)
  refine bodyPost_ret (v := insV (fstI x 2 (8 + fld x 7 3) (8 + fld x 2 3))) (by simp [results, Tryz.results46, go_sem, insV, fstI, none5, c0, c1, c2, c3, c4]) rfl ⟨rfl, ?_⟩
  repeat (with_reducible first | exact HN.out | refine Nx.alloc ?_ _ | refine Nx.setCell ?_ (Nat.le_refl _) _)

set_option maxHeartbeats 4000000 in
theorem q0_d (x : Int) (w : World) (hx : 0 ≤ x) (hx' : x < 65536) (hf : fld x 13 3 = 6) :
    Calls Tryz.prog 46 #[.int .u32 x] w fun e w' => e = .returned (insV (fstI x (fld x 13 3) (8 + fld x 7 3) (8 + fld x 2 3))) ∧ Nx w w' := by
  obtain ⟨s1, s2⟩ := near_bd x
  obtain ⟨t1, t2⟩ := u_bd x
  have g0 := fld_nonneg x 7 3
  have g1 : fld x 7 3 < 8 := fld_lt x 7 3
  have k0 := fld_nonneg x 2 3
  have k1 : fld x 2 3 < 8 := fld_lt x 2 3
  rw [show fstI x (fld x 13 3) (8 + fld x 7 3) (8 + fld x 2 3) = fstI x 6 (8 + fld x 7 3) (8 + fld x 2 3) by rw [hf]]
  go_enter Tryz.func46, Tryz.ntmps46
  go_wp2_with fail
  refine (elist_lst 2 [10, 9, 8, 7, 12, 11, 5, 6] 8 10 [10, 9, 8, 7, 12, 11, 5, 6, -1, -1] _ rfl _ _ (by simp) (by decide) (by decide) rfl (by decide) (by decide) rfl rfl).mono ?_
  rintro e w1 ⟨gA, cA, rfl, iA, n1⟩
  go_wp2_with fail
  refine (eplain_lst x _ gA 10 cA (uP x) _ hx hx' rfl (by decide) iA (e_u x)).mono ?_
  rintro e w2 ⟨rfl, n2⟩
  replace n2 := n1.trans n2
  clear n1 iA
  go_wp2_with fail
  refine (elist_lst 2 [5, 12, 11, 10, 6] 5 7 [5, 12, 11, 10, 6, -1, -1] _ rfl _ _ rfl (by decide) (by decide) rfl (by decide) (by decide) rfl rfl).mono ?_
  rintro e w3 ⟨gB, cB, rfl, iB, n3⟩
  go_wp2_with fail
  refine (eplain_lst x _ gB 7 cB (nearP x) _ hx hx' rfl (by decide) iB (e_near x)).mono ?_
  rintro e w4 ⟨rfl, n4⟩
  replace n4 := n2.trans (n3.trans n4)
  clear n2 n3 iB
  go_wp2_with fail
  refine (efield_v x 15 13 3 6 _ hx hx' (by decide) (by decide) (by decide) (by decide) rfl hf).mono ?_
  rintro e w' ⟨rfl, rfl⟩
  obtain ⟨c0, c1, c2, c3, c4, z0, z1, z2, z3, z4, hz⟩ := five_cells n4
  have HN := Lib.hid (((Nx.refl w).alloc _).trans n4)
  clear n4
  go_wp2_with (go_at_call 80; refine (efew_any _ _ _ hx hx' (by decide) (by decide)).mono ?_; rintro e w' ⟨rfl, rfl⟩)
  refine bodyPost_ret (v := insV (fstI x 6 (8 + fld x 7 3) (8 + fld x 2 3))) (by simp [results, Tryz.results46, go_sem, insV, fstI, none5, c0, c1, c2, c3, c4]) rfl ⟨rfl, ?_⟩
  repeat (with_reducible first | exact HN.out | refine Nx.alloc ?_ _ | refine Nx.setCell ?_ (Nat.le_refl _) _)

set_option maxHeartbeats 4000000 in
theorem q0_e1 (x : Int) (w : World) (hx : 0 ≤ x) (hx' : x < 65536) (hf : fld x 13 3 = 1) :
    Calls Tryz.prog 46 #[.int .u32 x] w fun e w' => e = .returned (insV (fstI x (fld x 13 3) (8 + fld x 7 3) (8 + fld x 2 3))) ∧ Nx w w' := by
  obtain ⟨s1, s2⟩ := near_bd x
  obtain ⟨t1, t2⟩ := u_bd x
  have g0 := fld_nonneg x 7 3
  have g1 : fld x 7 3 < 8 := fld_lt x 7 3
  have k0 := fld_nonneg x 2 3
  have k1 : fld x 2 3 < 8 := fld_lt x 2 3
  rw [show fstI x (fld x 13 3) (8 + fld x 7 3) (8 + fld x 2 3) = fstI x 1 (8 + fld x 7 3) (8 + fld x 2 3) by rw [hf]]
  go_enter Tryz.func46, Tryz.ntmps46
  go_wp2_with fail
  refine (elist_lst 2 [10, 9, 8, 7, 12, 11, 5, 6] 8 10 [10, 9, 8, 7, 12, 11, 5, 6, -1, -1] _ rfl _ _ (by simp) (by decide) (by decide) rfl (by decide) (by decide) rfl rfl).mono ?_
  rintro e w1 ⟨gA, cA, rfl, iA, n1⟩
  go_wp2_with fail
  refine (eplain_lst x _ gA 10 cA (uP x) _ hx hx' rfl (by decide) iA (e_u x)).mono ?_
  rintro e w2 ⟨rfl, n2⟩
  replace n2 := n1.trans n2
  clear n1 iA
  go_wp2_with fail
  refine (elist_lst 2 [5, 12, 11, 10, 6] 5 7 [5, 12, 11, 10, 6, -1, -1] _ rfl _ _ rfl (by decide) (by decide) rfl (by decide) (by decide) rfl rfl).mono ?_
  rintro e w3 ⟨gB, cB, rfl, iB, n3⟩
  go_wp2_with fail
  refine (eplain_lst x _ gB 7 cB (nearP x) _ hx hx' rfl (by decide) iB (e_near x)).mono ?_
  rintro e w4 ⟨rfl, n4⟩
  replace n4 := n2.trans (n3.trans n4)
  clear n2 n3 iB
  go_wp2_with fail
  refine (efield_v x 15 13 3 1 _ hx hx' (by decide) (by decide) (by decide) (by decide) rfl hf).mono ?_
  rintro e w' ⟨rfl, rfl⟩
  obtain ⟨c0, c1, c2, c3, c4, z0, z1, z2, z3, z4, hz⟩ := five_cells n4
  have HN := Lib.hid (((Nx.refl w).alloc _).trans n4)
  clear n4
  go_wp2_with (go_at_call 80; refine (efew_any _ _ _ hx hx' (by decide) (by decide)).mono ?_; rintro e w' ⟨rfl, rfl⟩)
  refine bodyPost_ret (v := insV (fstI x 1 (8 + fld x 7 3) (8 + fld x 2 3))) (by simp [results, Tryz.results46, go_sem, insV, fstI, none5, c0, c1, c2, c3, c4]) rfl ⟨rfl, ?_⟩
  repeat (with_reducible first | exact HN.out | refine Nx.alloc ?_ _ | refine Nx.setCell ?_ (Nat.le_refl _) _)

set_option maxHeartbeats 4000000 in
theorem q0_e3 (x : Int) (w : World) (hx : 0 ≤ x) (hx' : x < 65536) (hf : fld x 13 3 = 3) :
    Calls Tryz.prog 46 #[.int .u32 x] w fun e w' => e = .returned (insV (fstI x (fld x 13 3) (8 + fld x 7 3) (8 + fld x 2 3))) ∧ Nx w w' := by
  obtain ⟨s1, s2⟩ := near_bd x
  obtain ⟨t1, t2⟩ := u_bd x
  have g0 := fld_nonneg x 7 3
  have g1 : fld x 7 3 < 8 := fld_lt x 7 3
  have k0 := fld_nonneg x 2 3
  have k1 : fld x 2 3 < 8 := fld_lt x 2 3
  rw [show fstI x (fld x 13 3) (8 + fld x 7 3) (8 + fld x 2 3) = fstI x 3 (8 + fld x 7 3) (8 + fld x 2 3) by rw [hf]]
  go_enter Tryz.func46, Tryz.ntmps46
  go_wp2_with fail
  refine (elist_lst 2 [10, 9, 8, 7, 12, 11, 5, 6] 8 10 [10, 9, 8, 7, 12, 11, 5, 6, -1, -1] _ rfl _ _ (by simp) (by decide) (by decide) rfl (by decide) (by decide) rfl rfl).mono ?_
  rintro e w1 ⟨gA, cA, rfl, iA, n1⟩
  go_wp2_with fail
  refine (eplain_lst x _ gA 10 cA (uP x) _ hx hx' rfl (by decide) iA (e_u x)).mono ?_
  rintro e w2 ⟨rfl, n2⟩
  replace n2 := n1.trans n2
  clear n1 iA
  go_wp2_with fail
  refine (elist_lst 2 [5, 12, 11, 10, 6] 5 7 [5, 12, 11, 10, 6, -1, -1] _ rfl _ _ rfl (by decide) (by decide) rfl (by decide) (by decide) rfl rfl).mono ?_
  rintro e w3 ⟨gB, cB, rfl, iB, n3⟩
  go_wp2_with fail
  refine (eplain_lst x _ gB 7 cB (nearP x) _ hx hx' rfl (by decide) iB (e_near x)).mono ?_
  rintro e w4 ⟨rfl, n4⟩
  replace n4 := n2.trans (n3.trans n4)
  clear n2 n3 iB
  go_wp2_with fail
  refine (efield_v x 15 13 3 3 _ hx hx' (by decide) (by decide) (by decide) (by decide) rfl hf).mono ?_
  rintro e w' ⟨rfl, rfl⟩
  obtain ⟨c0, c1, c2, c3, c4, z0, z1, z2, z3, z4, hz⟩ := five_cells n4
  have HN := Lib.hid (((Nx.refl w).alloc _).trans n4)
  clear n4
  go_wp2_with (go_at_call 80; refine (efew_any _ _ _ hx hx' (by decide) (by decide)).mono ?_; rintro e w' ⟨rfl, rfl⟩)
  refine bodyPost_ret (v := insV (fstI x 3 (8 + fld x 7 3) (8 + fld x 2 3))) (by simp [results, Tryz.results46, go_sem, insV, fstI, none5, c0, c1, c2, c3, c4]) rfl ⟨rfl, ?_⟩
  repeat (with_reducible first | exact HN.out | refine Nx.alloc ?_ _ | refine Nx.setCell ?_ (Nat.le_refl _) _)

set_option maxHeartbeats 4000000 in
theorem q0_e4 (x : Int) (w : World) (hx : 0 ≤ x) (hx' : x < 65536) (hf : fld x 13 3 = 4) :
    Calls Tryz.prog 46 #[.int .u32 x] w fun e w' => e = .returned (insV (fstI x (fld x 13 3) (8 + fld x 7 3) (8 + fld x 2 3))) ∧ Nx w w' := by
  obtain ⟨s1, s2⟩ := near_bd x
  obtain ⟨t1, t2⟩ := u_bd x
  have g0 := fld_nonneg x 7 3
  have g1 : fld x 7 3 < 8 := fld_lt x 7 3
  have k0 := fld_nonneg x 2 3
  have k1 : fld x 2 3 < 8 := fld_lt x 2 3
  rw [show fstI x (fld x 13 3) (8 + fld x 7 3) (8 + fld x 2 3) = fstI x 4 (8 + fld x 7 3) (8 + fld x 2 3) by rw [hf]]
  go_enter Tryz.func46, Tryz.ntmps46
  go_wp2_with fail
  refine (elist_lst 2 [10, 9, 8, 7, 12, 11, 5, 6] 8 10 [10, 9, 8, 7, 12, 11, 5, 6, -1, -1] _ rfl _ _ (by simp) (by decide) (by decide) rfl (by decide) (by decide) rfl rfl).mono ?_
  rintro e w1 ⟨gA, cA, rfl, iA, n1⟩
  go_wp2_with fail
  refine (eplain_lst x _ gA 10 cA (uP x) _ hx hx' rfl (by decide) iA (e_u x)).mono ?_
  rintro e w2 ⟨rfl, n2⟩
  replace n2 := n1.trans n2
  clear n1 iA
  go_wp2_with fail
  refine (elist_lst 2 [5, 12, 11, 10, 6] 5 7 [5, 12, 11, 10, 6, -1, -1] _ rfl _ _ rfl (by decide) (by decide) rfl (by decide) (by decide) rfl rfl).mono ?_
  rintro e w3 ⟨gB, cB, rfl, iB, n3⟩
  go_wp2_with fail
  refine (eplain_lst x _ gB 7 cB (nearP x) _ hx hx' rfl (by decide) iB (e_near x)).mono ?_
  rintro e w4 ⟨rfl, n4⟩
  replace n4 := n2.trans (n3.trans n4)
  clear n2 n3 iB
  go_wp2_with fail
  refine (efield_v x 15 13 3 4 _ hx hx' (by decide) (by decide) (by decide) (by decide) rfl hf).mono ?_
  rintro e w' ⟨rfl, rfl⟩
  obtain ⟨c0, c1, c2, c3, c4, z0, z1, z2, z3, z4, hz⟩ := five_cells n4
  have HN := Lib.hid (((Nx.refl w).alloc _).trans n4)
  clear n4
  go_wp2_with (go_at_call 80; refine (efew_any _ _ _ hx hx' (by decide) (by decide)).mono ?_; rintro e w' ⟨rfl, rfl⟩)
  refine bodyPost_ret (v := insV (fstI x 4 (8 + fld x 7 3) (8 + fld x 2 3))) (by simp [results, Tryz.results46, go_sem, insV, fstI, none5, c0, c1, c2, c3, c4]) rfl ⟨rfl, ?_⟩
  repeat (with_reducible first | exact HN.out | refine Nx.alloc ?_ _ | refine Nx.setCell ?_ (Nat.le_refl _) _)

set_option maxHeartbeats 4000000 in
theorem q0_e5 (x : Int) (w : World) (hx : 0 ≤ x) (hx' : x < 65536) (hf : fld x 13 3 = 5) :
    Calls Tryz.prog 46 #[.int .u32 x] w fun e w' => e = .returned (insV (fstI x (fld x 13 3) (8 + fld x 7 3) (8 + fld x 2 3))) ∧ Nx w w' := by
  obtain ⟨s1, s2⟩ := near_bd x
  obtain ⟨t1, t2⟩ := u_bd x
  have g0 := fld_nonneg x 7 3
  have g1 : fld x 7 3 < 8 := fld_lt x 7 3
  have k0 := fld_nonneg x 2 3
  have k1 : fld x 2 3 < 8 := fld_lt x 2 3
  rw [show fstI x (fld x 13 3) (8 + fld x 7 3) (8 + fld x 2 3) = fstI x 5 (8 + fld x 7 3) (8 + fld x 2 3) by rw [hf]]
  go_enter Tryz.func46, Tryz.ntmps46
  go_wp2_with fail
  refine (elist_lst 2 [10, 9, 8, 7, 12, 11, 5, 6] 8 10 [10, 9, 8, 7, 12, 11, 5, 6, -1, -1] _ rfl _ _ (by simp) (by decide) (by decide) rfl (by decide) (by decide) rfl rfl).mono ?_
  rintro e w1 ⟨gA, cA, rfl, iA, n1⟩
  go_wp2_with fail
  refine (eplain_lst x _ gA 10 cA (uP x) _ hx hx' rfl (by decide) iA (e_u x)).mono ?_
  rintro e w2 ⟨rfl, n2⟩
  replace n2 := n1.trans n2
  clear n1 iA
  go_wp2_with fail
  refine (elist_lst 2 [5, 12, 11, 10, 6] 5 7 [5, 12, 11, 10, 6, -1, -1] _ rfl _ _ rfl (by decide) (by decide) rfl (by decide) (by decide) rfl rfl).mono ?_
  rintro e w3 ⟨gB, cB, rfl, iB, n3⟩
  go_wp2_with fail
  refine (eplain_lst x _ gB 7 cB (nearP x) _ hx hx' rfl (by decide) iB (e_near x)).mono ?_
  rintro e w4 ⟨rfl, n4⟩
  replace n4 := n2.trans (n3.trans n4)
  clear n2 n3 iB
  go_wp2_with fail
  refine (efield_v x 15 13 3 5 _ hx hx' (by decide) (by decide) (by decide) (by decide) rfl hf).mono ?_
  rintro e w' ⟨rfl, rfl⟩
  obtain ⟨c0, c1, c2, c3, c4, z0, z1, z2, z3, z4, hz⟩ := five_cells n4
  have HN := Lib.hid (((Nx.refl w).alloc _).trans n4)
  clear n4
  go_wp2_with (go_at_call 80; refine (efew_any _ _ _ hx hx' (by decide) (by decide)).mono ?_; rintro e w' ⟨rfl, rfl⟩)
  refine bodyPost_ret (v := insV (fstI x 5 (8 + fld x 7 3) (8 + fld x 2 3))) (by simp [results, Tryz.results46, go_sem, insV, fstI, none5, c0, c1, c2, c3, c4]) rfl ⟨rfl, ?_⟩
  repeat (with_reducible first | exact HN.out | refine Nx.alloc ?_ _ | refine Nx.setCell ?_ (Nat.le_refl _) _)

set_option maxHeartbeats 4000000 in
theorem q0_e7 (x : Int) (w : World) (hx : 0 ≤ x) (hx' : x < 65536) (hf : fld x 13 3 = 7) :
    Calls Tryz.prog 46 #[.int .u32 x] w fun e w' => e = .returned (insV (fstI x (fld x 13 3) (8 + fld x 7 3) (8 + fld x 2 3))) ∧ Nx w w' := by
  obtain ⟨s1, s2⟩ := near_bd x
  obtain ⟨t1, t2⟩ := u_bd x
  have g0 := fld_nonneg x 7 3
  have g1 : fld x 7 3 < 8 := fld_lt x 7 3
  have k0 := fld_nonneg x 2 3
  have k1 : fld x 2 3 < 8 := fld_lt x 2 3
  rw [show fstI x (fld x 13 3) (8 + fld x 7 3) (8 + fld x 2 3) = fstI x 7 (8 + fld x 7 3) (8 + fld x 2 3) by rw [hf]]
  go_enter Tryz.func46, Tryz.ntmps46
  go_wp2_with fail
  refine (elist_lst 2 [10, 9, 8, 7, 12, 11, 5, 6] 8 10 [10, 9, 8, 7, 12, 11, 5, 6, -1, -1] _ rfl _ _ (by simp) (by decide) (by decide) rfl (by decide) (by decide) rfl rfl).mono ?_
  rintro e w1 ⟨gA, cA, rfl, iA, n1⟩
  go_wp2_with fail
  refine (eplain_lst x _ gA 10 cA (uP x) _ hx hx' rfl (by decide) iA (e_u x)).mono ?_
  rintro e w2 ⟨rfl, n2⟩
  replace n2 := n1.trans n2
  clear n1 iA
  go_wp2_with fail
  refine (elist_lst 2 [5, 12, 11, 10, 6] 5 7 [5, 12, 11, 10, 6, -1, -1] _ rfl _ _ rfl (by decide) (by decide) rfl (by decide) (by decide) rfl rfl).mono ?_
  rintro e w3 ⟨gB, cB, rfl, iB, n3⟩
  go_wp2_with fail
  refine (eplain_lst x _ gB 7 cB (nearP x) _ hx hx' rfl (by decide) iB (e_near x)).mono ?_
  rintro e w4 ⟨rfl, n4⟩
  replace n4 := n2.trans (n3.trans n4)
  clear n2 n3 iB
  go_wp2_with fail
  refine (efield_v x 15 13 3 7 _ hx hx' (by decide) (by decide) (by decide) (by decide) rfl hf).mono ?_
  rintro e w' ⟨rfl, rfl⟩
  obtain ⟨c0, c1, c2, c3, c4, z0, z1, z2, z3, z4, hz⟩ := five_cells n4
  have HN := Lib.hid (((Nx.refl w).alloc _).trans n4)
  clear n4
  go_wp2_with (go_at_call 80; refine (efew_any _ _ _ hx hx' (by decide) (by decide)).mono ?_; rintro e w' ⟨rfl, rfl⟩)
  refine bodyPost_ret (v := insV (fstI x 7 (8 + fld x 7 3) (8 + fld x 2 3))) (by simp [results, Tryz.results46, go_sem, insV, fstI, none5, c0, c1, c2, c3, c4]) rfl ⟨rfl, ?_⟩
  repeat (with_reducible first | exact HN.out | refine Nx.alloc ?_ _ | refine Nx.setCell ?_ (Nat.le_refl _) _)

theorem quarter0_any (x : Int) (w : World) (hx : 0 ≤ x) (hx' : x < 65536) :
    Calls Tryz.prog 46 #[.int .u32 x] w fun e w' => e = .returned (insV (fstI x (fld x 13 3) (8 + fld x 7 3) (8 + fld x 2 3))) ∧ Nx w w' := by
  have f0 := fld_nonneg x 13 3
  have ff : fld x 13 3 < 8 := fld_lt x 13 3
  have hf : fld x 13 3 = 0 ∨ fld x 13 3 = 1 ∨ fld x 13 3 = 2 ∨ fld x 13 3 = 3 ∨ fld x 13 3 = 4 ∨ fld x 13 3 = 5 ∨ fld x 13 3 = 6 ∨ fld x 13 3 = 7 := by omega
  rcases hf with h | h | h | h | h | h | h | h
  · by_cases hu : uP x = 0
    · exact q0_a x w hx hx' h hu
    · exact q0_b x w hx hx' h hu
  · exact q0_e1 x w hx hx' h
  · exact q0_c x w hx hx' h
  · exact q0_e3 x w hx hx' h
  · exact q0_e4 x w hx hx' h
  · exact q0_e5 x w hx hx' h
  · exact q0_d x w hx hx' h
  · exact q0_e7 x w hx hx' h

end Go.Proofs.YtndpgakjpokllaaGreat

/- Contracts of package typecaseref05: the fields that are asked for. -/
namespace Go.Proofs.YtndpgakjpokllaaGreat
open Go.RowKit
set_option linter.unusedVariables false
set_option linter.unusedSimpArgs false

theorem ef_11_7 (x v : Int) (w : World) (hx : 0 ≤ x) (hx' : x < 65536) (hv : fld x 7 5 = v) :
    Calls Tryz.prog 79 #[.int .u32 x, .int .i64 11, .int .i64 7] w fun e w' => e = .returned (.int .i64 v) ∧ w = w' :=
  efield_v x 11 7 5 v w hx hx' (by decide) (by decide) (by decide) (by decide) rfl hv

theorem ef_6_2 (x v : Int) (w : World) (hx : 0 ≤ x) (hx' : x < 65536) (hv : fld x 2 5 = v) :
    Calls Tryz.prog 79 #[.int .u32 x, .int .i64 6, .int .i64 2] w fun e w' => e = .returned (.int .i64 v) ∧ w = w' :=
  efield_v x 6 2 5 v w hx hx' (by decide) (by decide) (by decide) (by decide) rfl hv

theorem ef_12_12 (x v : Int) (w : World) (hx : 0 ≤ x) (hx' : x < 65536) (hv : fld x 12 1 = v) :
    Calls Tryz.prog 79 #[.int .u32 x, .int .i64 12, .int .i64 12] w fun e w' => e = .returned (.int .i64 v) ∧ w = w' :=
  efield_v x 12 12 1 v w hx hx' (by decide) (by decide) (by decide) (by decide) rfl hv

theorem ef_15_13 (x v : Int) (w : World) (hx : 0 ≤ x) (hx' : x < 65536) (hv : fld x 13 3 = v) :
    Calls Tryz.prog 79 #[.int .u32 x, .int .i64 15, .int .i64 13] w fun e w' => e = .returned (.int .i64 v) ∧ w = w' :=
  efield_v x 15 13 3 v w hx hx' (by decide) (by decide) (by decide) (by decide) rfl hv

theorem ef_11_10 (x v : Int) (w : World) (hx : 0 ≤ x) (hx' : x < 65536) (hv : fld x 10 2 = v) :
    Calls Tryz.prog 79 #[.int .u32 x, .int .i64 11, .int .i64 10] w fun e w' => e = .returned (.int .i64 v) ∧ w = w' :=
  efield_v x 11 10 2 v w hx hx' (by decide) (by decide) (by decide) (by decide) rfl hv

theorem ef_6_5 (x v : Int) (w : World) (hx : 0 ≤ x) (hx' : x < 65536) (hv : fld x 5 2 = v) :
    Calls Tryz.prog 79 #[.int .u32 x, .int .i64 6, .int .i64 5] w fun e w' => e = .returned (.int .i64 v) ∧ w = w' :=
  efield_v x 6 5 2 v w hx hx' (by decide) (by decide) (by decide) (by decide) rfl hv

end Go.Proofs.YtndpgakjpokllaaGreat

/- Contracts of package typecaseref05: quarter2. -/
namespace Go.Proofs.YtndpgakjpokllaaGreat
open Go.RowKit
set_option linter.unusedVariables false
set_option linter.unusedSimpArgs false

set_option maxHeartbeats 1000000 in
theorem q2_00 (x : Int) (w : World) (hx : 0 ≤ x) (hx' : x < 65536) (hf : fld x 13 3 = 0) (hb : fld x 12 1 = 0) :
    Calls Tryz.prog 48 #[.int .u32 x] w fun e w' => e = .returned (insV (thdI x 0 (fld x 7 5) (fld x 2 5) 0 (fld x 2 5))) ∧ Nx w w' := by
  have r0 := fld_nonneg x 7 5
  have r1 : fld x 7 5 < 32 := fld_lt x 7 5
  have p0 := fld_nonneg x 2 5
  have p1 : fld x 2 5 < 32 := fld_lt x 2 5
  go_enter Tryz.func48, Tryz.ntmps48
  go_wp2_with fail
  refine (ef_11_7 x (fld x 7 5) _ hx hx' rfl).mono ?_
  rintro e w' ⟨rfl, rfl⟩
  go_wp2_with fail
  refine (ef_6_2 x (fld x 2 5) _ hx hx' rfl).mono ?_
  rintro e w' ⟨rfl, rfl⟩
  go_wp2_with fail
  refine (ef_12_12 x _ _ hx hx' hb).mono ?_
  rintro e w' ⟨rfl, rfl⟩
  go_wp2_with fail
  refine (ef_15_13 x _ _ hx hx' hf).mono ?_
  rintro e w' ⟨rfl, rfl⟩
  go_wp2
  refine bodyPost_ret (v := insV (thdI x 0 (fld x 7 5) (fld x 2 5) 0 (fld x 2 5))) (by simp [results, Tryz.results48, go_sem, insV, thdI, movI, none5]) rfl ⟨rfl, ?_⟩
  repeat (with_reducible first | exact Nx.refl _ | refine Nx.alloc ?_ _ | refine Nx.setCell ?_ (Nat.le_refl _) _)

set_option maxHeartbeats 1000000 in
theorem q2_01 (x : Int) (w : World) (hx : 0 ≤ x) (hx' : x < 65536) (hf : fld x 13 3 = 0) (hb : fld x 12 1 = 1) :
    Calls Tryz.prog 48 #[.int .u32 x] w fun e w' => e = .returned (insV (thdI x 0 (fld x 7 5) (fld x 2 5) 1 (fld x 2 5))) ∧ Nx w w' := by
  have r0 := fld_nonneg x 7 5
  have r1 : fld x 7 5 < 32 := fld_lt x 7 5
  have p0 := fld_nonneg x 2 5
  have p1 : fld x 2 5 < 32 := fld_lt x 2 5
  go_enter Tryz.func48, Tryz.ntmps48
  go_wp2_with fail
  refine (ef_11_7 x (fld x 7 5) _ hx hx' rfl).mono ?_
  rintro e w' ⟨rfl, rfl⟩
  go_wp2_with fail
  refine (ef_6_2 x (fld x 2 5) _ hx hx' rfl).mono ?_
  rintro e w' ⟨rfl, rfl⟩
  go_wp2_with fail
  refine (ef_12_12 x _ _ hx hx' hb).mono ?_
  rintro e w' ⟨rfl, rfl⟩
  go_wp2_with fail
  refine (ef_15_13 x _ _ hx hx' hf).mono ?_
  rintro e w' ⟨rfl, rfl⟩
  go_wp2
  refine bodyPost_ret (v := insV (thdI x 0 (fld x 7 5) (fld x 2 5) 1 (fld x 2 5))) (by simp [results, Tryz.results48, go_sem, insV, thdI, movI, none5]) rfl ⟨rfl, ?_⟩
  repeat (with_reducible first | exact Nx.refl _ | refine Nx.alloc ?_ _ | refine Nx.setCell ?_ (Nat.le_refl _) _)

set_option maxHeartbeats 1000000 in
theorem q2_1 (x B : Int) (w : World) (hx : 0 ≤ x) (hx' : x < 65536) (hf : fld x 13 3 = 1) (hb : fld x 12 1 = B) :
    Calls Tryz.prog 48 #[.int .u32 x] w fun e w' => e = .returned (insV (thdI x 1 (fld x 7 5) (fld x 2 5) B (fld x 2 5))) ∧ Nx w w' := by
  have r0 := fld_nonneg x 7 5
  have r1 : fld x 7 5 < 32 := fld_lt x 7 5
  have p0 := fld_nonneg x 2 5
  have p1 : fld x 2 5 < 32 := fld_lt x 2 5
  go_enter Tryz.func48, Tryz.ntmps48
  go_wp2_with fail
  refine (ef_11_7 x (fld x 7 5) _ hx hx' rfl).mono ?_
  rintro e w' ⟨rfl, rfl⟩
  go_wp2_with fail
  refine (ef_6_2 x (fld x 2 5) _ hx hx' rfl).mono ?_
  rintro e w' ⟨rfl, rfl⟩
  go_wp2_with fail
  refine (ef_12_12 x _ _ hx hx' hb).mono ?_
  rintro e w' ⟨rfl, rfl⟩
  go_wp2_with fail
  refine (ef_15_13 x _ _ hx hx' hf).mono ?_
  rintro e w' ⟨rfl, rfl⟩
  go_wp2
  refine bodyPost_ret (v := insV (thdI x 1 (fld x 7 5) (fld x 2 5) B (fld x 2 5))) (by simp [results, Tryz.results48, go_sem, insV, thdI, movI, none5]) rfl ⟨rfl, ?_⟩
  repeat (with_reducible first | exact Nx.refl _ | refine Nx.alloc ?_ _ | refine Nx.setCell ?_ (Nat.le_refl _) _)

set_option maxHeartbeats 1000000 in
theorem q2_3 (x B : Int) (w : World) (hx : 0 ≤ x) (hx' : x < 65536) (hf : fld x 13 3 = 3) (hb : fld x 12 1 = B) :
    Calls Tryz.prog 48 #[.int .u32 x] w fun e w' => e = .returned (insV (thdI x 3 (fld x 7 5) (fld x 2 5) B (fld x 2 5))) ∧ Nx w w' := by
  have r0 := fld_nonneg x 7 5
  have r1 : fld x 7 5 < 32 := fld_lt x 7 5
  have p0 := fld_nonneg x 2 5
  have p1 : fld x 2 5 < 32 := fld_lt x 2 5
  go_enter Tryz.func48, Tryz.ntmps48
  go_wp2_with fail
  refine (ef_11_7 x (fld x 7 5) _ hx hx' rfl).mono ?_
  rintro e w' ⟨rfl, rfl⟩
  go_wp2_with fail
  refine (ef_6_2 x (fld x 2 5) _ hx hx' rfl).mono ?_
  rintro e w' ⟨rfl, rfl⟩
  go_wp2_with fail
  refine (ef_12_12 x _ _ hx hx' hb).mono ?_
  rintro e w' ⟨rfl, rfl⟩
  go_wp2_with fail
  refine (ef_15_13 x _ _ hx hx' hf).mono ?_
  rintro e w' ⟨rfl, rfl⟩
  go_wp2
  refine bodyPost_ret (v := insV (thdI x 3 (fld x 7 5) (fld x 2 5) B (fld x 2 5))) (by simp [results, Tryz.results48, go_sem, insV, thdI, movI, none5]) rfl ⟨rfl, ?_⟩
  repeat (with_reducible first | exact Nx.refl _ | refine Nx.alloc ?_ _ | refine Nx.setCell ?_ (Nat.le_refl _) _)

set_option maxHeartbeats 1000000 in
theorem q2_5 (x B : Int) (w : World) (hx : 0 ≤ x) (hx' : x < 65536) (hf : fld x 13 3 = 5) (hb : fld x 12 1 = B) :
    Calls Tryz.prog 48 #[.int .u32 x] w fun e w' => e = .returned (insV (thdI x 5 (fld x 7 5) (fld x 2 5) B (fld x 2 5))) ∧ Nx w w' := by
  have r0 := fld_nonneg x 7 5
  have r1 : fld x 7 5 < 32 := fld_lt x 7 5
  have p0 := fld_nonneg x 2 5
  have p1 : fld x 2 5 < 32 := fld_lt x 2 5
  go_enter Tryz.func48, Tryz.ntmps48
  go_wp2_with fail
  refine (ef_11_7 x (fld x 7 5) _ hx hx' rfl).mono ?_
  rintro e w' ⟨rfl, rfl⟩
  go_wp2_with fail
  refine (ef_6_2 x (fld x 2 5) _ hx hx' rfl).mono ?_
  rintro e w' ⟨rfl, rfl⟩
  go_wp2_with fail
  refine (ef_12_12 x _ _ hx hx' hb).mono ?_
  rintro e w' ⟨rfl, rfl⟩
  go_wp2_with fail
  refine (ef_15_13 x _ _ hx hx' hf).mono ?_
  rintro e w' ⟨rfl, rfl⟩
  go_wp2
  refine bodyPost_ret (v := insV (thdI x 5 (fld x 7 5) (fld x 2 5) B (fld x 2 5))) (by simp [results, Tryz.results48, go_sem, insV, thdI, movI, none5]) rfl ⟨rfl, ?_⟩
  repeat (with_reducible first | exact Nx.refl _ | refine Nx.alloc ?_ _ | refine Nx.setCell ?_ (Nat.le_refl _) _)

set_option maxHeartbeats 1000000 in
theorem q2_7 (x B : Int) (w : World) (hx : 0 ≤ x) (hx' : x < 65536) (hf : fld x 13 3 = 7) (hb : fld x 12 1 = B) :
    Calls Tryz.prog 48 #[.int .u32 x] w fun e w' => e = .returned (insV (thdI x 7 (fld x 7 5) (fld x 2 5) B (fld x 2 5))) ∧ Nx w w' := by
  have r0 := fld_nonneg x 7 5
  have r1 : fld x 7 5 < 32 := fld_lt x 7 5
  have p0 := fld_nonneg x 2 5
  have p1 : fld x 2 5 < 32 := fld_lt x 2 5
  go_enter Tryz.func48, Tryz.ntmps48
  go_wp2_with fail
  refine (ef_11_7 x (fld x 7 5) _ hx hx' rfl).mono ?_
  rintro e w' ⟨rfl, rfl⟩
  go_wp2_with fail
  refine (ef_6_2 x (fld x 2 5) _ hx hx' rfl).mono ?_
  rintro e w' ⟨rfl, rfl⟩
  go_wp2_with fail
  refine (ef_12_12 x _ _ hx hx' hb).mono ?_
  rintro e w' ⟨rfl, rfl⟩
  go_wp2_with fail
  refine (ef_15_13 x _ _ hx hx' hf).mono ?_
  rintro e w' ⟨rfl, rfl⟩
  go_wp2
  refine bodyPost_ret (v := insV (thdI x 7 (fld x 7 5) (fld x 2 5) B (fld x 2 5))) (by simp [results, Tryz.results48, go_sem, insV, thdI, movI, none5]) rfl ⟨rfl, ?_⟩
  repeat (with_reducible first | exact Nx.refl _ | refine Nx.alloc ?_ _ | refine Nx.setCell ?_ (Nat.le_refl _) _)

set_option maxHeartbeats 1000000 in
theorem q2_40a (x : Int) (w : World) (hx : 0 ≤ x) (hx' : x < 65536) (hf : fld x 13 3 = 4) (hb : fld x 12 1 = 0) (h1 : fld x 2 5 = 0) (h2 : fld x 7 5 = 0) :
    Calls Tryz.prog 48 #[.int .u32 x] w fun e w' => e = .returned (insV (thdI x 4 (fld x 7 5) (fld x 2 5) 0 (fld x 2 5))) ∧ Nx w w' := by
  have r0 := fld_nonneg x 7 5
  have r1 : fld x 7 5 < 32 := fld_lt x 7 5
  have p0 := fld_nonneg x 2 5
  have p1 : fld x 2 5 < 32 := fld_lt x 2 5
  have e1 : (fld x 2 5 == 0) = true := by rw [beq_iff_eq]; exact h1
  have e2 : (fld x 7 5 == 0) = true := by rw [beq_iff_eq]; exact h2
  go_enter Tryz.func48, Tryz.ntmps48
  go_wp2_with fail
  refine (ef_11_7 x (fld x 7 5) _ hx hx' rfl).mono ?_
  rintro e w' ⟨rfl, rfl⟩
  go_wp2_with fail
  refine (ef_6_2 x (fld x 2 5) _ hx hx' rfl).mono ?_
  rintro e w' ⟨rfl, rfl⟩
  go_wp2_with fail
  refine (ef_12_12 x _ _ hx hx' hb).mono ?_
  rintro e w' ⟨rfl, rfl⟩
  go_wp2_with fail
  refine (ef_15_13 x _ _ hx hx' hf).mono ?_
  rintro e w' ⟨rfl, rfl⟩
  go_wp2
  refine bodyPost_ret (v := insV (thdI x 4 (fld x 7 5) (fld x 2 5) 0 (fld x 2 5))) (by simp [results, Tryz.results48, go_sem, insV, thdI, movI, none5, h1, h2]) rfl ⟨rfl, ?_⟩
  repeat (with_reducible first | exact Nx.refl _ | refine Nx.alloc ?_ _ | refine Nx.setCell ?_ (Nat.le_refl _) _)

set_option maxHeartbeats 1000000 in
theorem q2_40b (x : Int) (w : World) (hx : 0 ≤ x) (hx' : x < 65536) (hf : fld x 13 3 = 4) (hb : fld x 12 1 = 0) (h1 : fld x 2 5 = 0) (h2 : ¬ fld x 7 5 = 0) :
    Calls Tryz.prog 48 #[.int .u32 x] w fun e w' => e = .returned (insV (thdI x 4 (fld x 7 5) (fld x 2 5) 0 (fld x 2 5))) ∧ Nx w w' := by
  have r0 := fld_nonneg x 7 5
  have r1 : fld x 7 5 < 32 := fld_lt x 7 5
  have p0 := fld_nonneg x 2 5
  have p1 : fld x 2 5 < 32 := fld_lt x 2 5
  have e1 : (fld x 2 5 == 0) = true := by rw [beq_iff_eq]; exact h1
  have e2 : (fld x 7 5 == 0) = false := beq_eq_false_iff_ne.2 h2
  go_enter Tryz.func48, Tryz.ntmps48
  go_wp2_with fail
  refine (ef_11_7 x (fld x 7 5) _ hx hx' rfl).mono ?_
  rintro e w' ⟨rfl, rfl⟩
  go_wp2_with fail
  refine (ef_6_2 x (fld x 2 5) _ hx hx' rfl).mono ?_
  rintro e w' ⟨rfl, rfl⟩
  go_wp2_with fail
  refine (ef_12_12 x _ _ hx hx' hb).mono ?_
  rintro e w' ⟨rfl, rfl⟩
  go_wp2_with fail
  refine (ef_15_13 x _ _ hx hx' hf).mono ?_
  rintro e w' ⟨rfl, rfl⟩
  go_wp2
  refine bodyPost_ret (v := insV (thdI x 4 (fld x 7 5) (fld x 2 5) 0 (fld x 2 5))) (by simp [results, Tryz.results48, go_sem, insV, thdI, movI, none5, h1, h2]) rfl ⟨rfl, ?_⟩
  repeat (with_reducible first | exact Nx.refl _ | refine Nx.alloc ?_ _ | refine Nx.setCell ?_ (Nat.le_refl _) _)

set_option maxHeartbeats 1000000 in
theorem q2_40c (x : Int) (w : World) (hx : 0 ≤ x) (hx' : x < 65536) (hf : fld x 13 3 = 4) (hb : fld x 12 1 = 0) (h1 : ¬ fld x 2 5 = 0) (h2 : fld x 7 5 = 0) :
    Calls Tryz.prog 48 #[.int .u32 x] w fun e w' => e = .returned (insV (thdI x 4 (fld x 7 5) (fld x 2 5) 0 (fld x 2 5))) ∧ Nx w w' := by
  have r0 := fld_nonneg x 7 5
  have r1 : fld x 7 5 < 32 := fld_lt x 7 5
  have p0 := fld_nonneg x 2 5
  have p1 : fld x 2 5 < 32 := fld_lt x 2 5
  have e1 : (fld x 2 5 == 0) = false := beq_eq_false_iff_ne.2 h1
  have e2 : (fld x 7 5 == 0) = true := by rw [beq_iff_eq]; exact h2
  go_enter Tryz.func48, Tryz.ntmps48
  go_wp2_with fail
  refine (ef_11_7 x (fld x 7 5) _ hx hx' rfl).mono ?_
  rintro e w' ⟨rfl, rfl⟩
  go_wp2_with fail
  refine (ef_6_2 x (fld x 2 5) _ hx hx' rfl).mono ?_
  rintro e w' ⟨rfl, rfl⟩
  go_wp2_with fail
  refine (ef_12_12 x _ _ hx hx' hb).mono ?_
  rintro e w' ⟨rfl, rfl⟩
  go_wp2_with fail
  refine (ef_15_13 x _ _ hx hx' hf).mono ?_
  rintro e w' ⟨rfl, rfl⟩
  go_wp2
  refine bodyPost_ret (v := insV (thdI x 4 (fld x 7 5) (fld x 2 5) 0 (fld x 2 5))) (by simp [results, Tryz.results48, go_sem, insV, thdI, movI, none5, h1, h2]) rfl ⟨rfl, ?_⟩
  repeat (with_reducible first | exact Nx.refl _ | refine Nx.alloc ?_ _ | refine Nx.setCell ?_ (Nat.le_refl _) _)

set_option maxHeartbeats 1000000 in
theorem q2_40d (x : Int) (w : World) (hx : 0 ≤ x) (hx' : x < 65536) (hf : fld x 13 3 = 4) (hb : fld x 12 1 = 0) (h1 : ¬ fld x 2 5 = 0) (h2 : ¬ fld x 7 5 = 0) :
    Calls Tryz.prog 48 #[.int .u32 x] w fun e w' => e = .returned (insV (thdI x 4 (fld x 7 5) (fld x 2 5) 0 (fld x 2 5))) ∧ Nx w w' := by
  have r0 := fld_nonneg x 7 5
  have r1 : fld x 7 5 < 32 := fld_lt x 7 5
  have p0 := fld_nonneg x 2 5
  have p1 : fld x 2 5 < 32 := fld_lt x 2 5
  have e1 : (fld x 2 5 == 0) = false := beq_eq_false_iff_ne.2 h1
  have e2 : (fld x 7 5 == 0) = false := beq_eq_false_iff_ne.2 h2
  go_enter Tryz.func48, Tryz.ntmps48
  go_wp2_with fail
  refine (ef_11_7 x (fld x 7 5) _ hx hx' rfl).mono ?_
  rintro e w' ⟨rfl, rfl⟩
  go_wp2_with fail
  refine (ef_6_2 x (fld x 2 5) _ hx hx' rfl).mono ?_
  rintro e w' ⟨rfl, rfl⟩
  go_wp2_with fail
  refine (ef_12_12 x _ _ hx hx' hb).mono ?_
  rintro e w' ⟨rfl, rfl⟩
  go_wp2_with fail
  refine (ef_15_13 x _ _ hx hx' hf).mono ?_
  rintro e w' ⟨rfl, rfl⟩
  go_wp2
  refine bodyPost_ret (v := insV (thdI x 4 (fld x 7 5) (fld x 2 5) 0 (fld x 2 5))) (by simp [results, Tryz.results48, go_sem, insV, thdI, movI, none5, h1, h2]) rfl ⟨rfl, ?_⟩
  repeat (with_reducible first | exact Nx.refl _ | refine Nx.alloc ?_ _ | refine Nx.setCell ?_ (Nat.le_refl _) _)

set_option maxHeartbeats 1000000 in
theorem q2_41a (x : Int) (w : World) (hx : 0 ≤ x) (hx' : x < 65536) (hf : fld x 13 3 = 4) (hb : fld x 12 1 = 1) (h1 : fld x 2 5 = 0) (h2 : fld x 7 5 = 0) :
    Calls Tryz.prog 48 #[.int .u32 x] w fun e w' => e = .returned (insV (thdI x 4 (fld x 7 5) (fld x 2 5) 1 (fld x 2 5))) ∧ Nx w w' := by
  have r0 := fld_nonneg x 7 5
  have r1 : fld x 7 5 < 32 := fld_lt x 7 5
  have p0 := fld_nonneg x 2 5
  have p1 : fld x 2 5 < 32 := fld_lt x 2 5
  have e1 : (fld x 2 5 == 0) = true := by rw [beq_iff_eq]; exact h1
  have e2 : (fld x 7 5 == 0) = true := by rw [beq_iff_eq]; exact h2
  go_enter Tryz.func48, Tryz.ntmps48
  go_wp2_with fail
  refine (ef_11_7 x (fld x 7 5) _ hx hx' rfl).mono ?_
  rintro e w' ⟨rfl, rfl⟩
  go_wp2_with fail
  refine (ef_6_2 x (fld x 2 5) _ hx hx' rfl).mono ?_
  rintro e w' ⟨rfl, rfl⟩
  go_wp2_with fail
  refine (ef_12_12 x _ _ hx hx' hb).mono ?_
  rintro e w' ⟨rfl, rfl⟩
  go_wp2_with fail
  refine (ef_15_13 x _ _ hx hx' hf).mono ?_
  rintro e w' ⟨rfl, rfl⟩
  go_wp2
  refine bodyPost_ret (v := insV (thdI x 4 (fld x 7 5) (fld x 2 5) 1 (fld x 2 5))) (by simp [results, Tryz.results48, go_sem, insV, thdI, movI, none5, h1, h2]) rfl ⟨rfl, ?_⟩
  repeat (with_reducible first | exact Nx.refl _ | refine Nx.alloc ?_ _ | refine Nx.setCell ?_ (Nat.le_refl _) _)

set_option maxHeartbeats 1000000 in
theorem q2_41b (x : Int) (w : World) (hx : 0 ≤ x) (hx' : x < 65536) (hf : fld x 13 3 = 4) (hb : fld x 12 1 = 1) (h1 : fld x 2 5 = 0) (h2 : ¬ fld x 7 5 = 0) :
    Calls Tryz.prog 48 #[.int .u32 x] w fun e w' => e = .returned (insV (thdI x 4 (fld x 7 5) (fld x 2 5) 1 (fld x 2 5))) ∧ Nx w w' := by
  have r0 := fld_nonneg x 7 5
  have r1 : fld x 7 5 < 32 := fld_lt x 7 5
  have p0 := fld_nonneg x 2 5
  have p1 : fld x 2 5 < 32 := fld_lt x 2 5
  have e1 : (fld x 2 5 == 0) = true := by rw [beq_iff_eq]; exact h1
  have e2 : (fld x 7 5 == 0) = false := beq_eq_false_iff_ne.2 h2
  go_enter Tryz.func48, Tryz.ntmps48
  go_wp2_with fail
  refine (ef_11_7 x (fld x 7 5) _ hx hx' rfl).mono ?_
  rintro e w' ⟨rfl, rfl⟩
  go_wp2_with fail
  refine (ef_6_2 x (fld x 2 5) _ hx hx' rfl).mono ?_
  rintro e w' ⟨rfl, rfl⟩
  go_wp2_with fail
  refine (ef_12_12 x _ _ hx hx' hb).mono ?_
  rintro e w' ⟨rfl, rfl⟩
  go_wp2_with fail
  refine (ef_15_13 x _ _ hx hx' hf).mono ?_
  rintro e w' ⟨rfl, rfl⟩
  go_wp2
  refine bodyPost_ret (v := insV (thdI x 4 (fld x 7 5) (fld x 2 5) 1 (fld x 2 5))) (by simp [results, Tryz.results48, go_sem, insV, thdI, movI, none5, h1, h2]) rfl ⟨rfl, ?_⟩
  repeat (with_reducible first | exact Nx.refl _ | refine Nx.alloc ?_ _ | refine Nx.setCell ?_ (Nat.le_refl _) _)

set_option maxHeartbeats 1000000 in
theorem q2_41c (x : Int) (w : World) (hx : 0 ≤ x) (hx' : x < 65536) (hf : fld x 13 3 = 4) (hb : fld x 12 1 = 1) (h1 : ¬ fld x 2 5 = 0) (h2 : fld x 7 5 = 0) :
    Calls Tryz.prog 48 #[.int .u32 x] w fun e w' => e = .returned (insV (thdI x 4 (fld x 7 5) (fld x 2 5) 1 (fld x 2 5))) ∧ Nx w w' := by
  have r0 := fld_nonneg x 7 5
  have r1 : fld x 7 5 < 32 := fld_lt x 7 5
  have p0 := fld_nonneg x 2 5
  have p1 : fld x 2 5 < 32 := fld_lt x 2 5
  have e1 : (fld x 2 5 == 0) = false := beq_eq_false_iff_ne.2 h1
  have e2 : (fld x 7 5 == 0) = true := by rw [beq_iff_eq]; exact h2
  go_enter Tryz.func48, Tryz.ntmps48
  go_wp2_with fail
  refine (ef_11_7 x (fld x 7 5) _ hx hx' rfl).mono ?_
  rintro e w' ⟨rfl, rfl⟩
  go_wp2_with fail
  refine (ef_6_2 x (fld x 2 5) _ hx hx' rfl).mono ?_
  rintro e w' ⟨rfl, rfl⟩
  go_wp2_with fail
  refine (ef_12_12 x _ _ hx hx' hb).mono ?_
  rintro e w' ⟨rfl, rfl⟩
  go_wp2_with fail
  refine (ef_15_13 x _ _ hx hx' hf).mono ?_
  rintro e w' ⟨rfl, rfl⟩
  go_wp2
  refine bodyPost_ret (v := insV (thdI x 4 (fld x 7 5) (fld x 2 5) 1 (fld x 2 5))) (by simp [results, Tryz.results48, go_sem, insV, thdI, movI, none5, h1, h2]) rfl ⟨rfl, ?_⟩
  repeat (with_reducible first | exact Nx.refl _ | refine Nx.alloc ?_ _ | refine Nx.setCell ?_ (Nat.le_refl _) _)

set_option maxHeartbeats 1000000 in
theorem q2_41d (x : Int) (w : World) (hx : 0 ≤ x) (hx' : x < 65536) (hf : fld x 13 3 = 4) (hb : fld x 12 1 = 1) (h1 : ¬ fld x 2 5 = 0) (h2 : ¬ fld x 7 5 = 0) :
    Calls Tryz.prog 48 #[.int .u32 x] w fun e w' => e = .returned (insV (thdI x 4 (fld x 7 5) (fld x 2 5) 1 (fld x 2 5))) ∧ Nx w w' := by
  have r0 := fld_nonneg x 7 5
  have r1 : fld x 7 5 < 32 := fld_lt x 7 5
  have p0 := fld_nonneg x 2 5
  have p1 : fld x 2 5 < 32 := fld_lt x 2 5
  have e1 : (fld x 2 5 == 0) = false := beq_eq_false_iff_ne.2 h1
  have e2 : (fld x 7 5 == 0) = false := beq_eq_false_iff_ne.2 h2
  go_enter Tryz.func48, Tryz.ntmps48
  go_wp2_with fail
  refine (ef_11_7 x (fld x 7 5) _ hx hx' rfl).mono ?_
  rintro e w' ⟨rfl, rfl⟩
  go_wp2_with fail
  refine (ef_6_2 x (fld x 2 5) _ hx hx' rfl).mono ?_
  rintro e w' ⟨rfl, rfl⟩
  go_wp2_with fail
  refine (ef_12_12 x _ _ hx hx' hb).mono ?_
  rintro e w' ⟨rfl, rfl⟩
  go_wp2_with fail
  refine (ef_15_13 x _ _ hx hx' hf).mono ?_
  rintro e w' ⟨rfl, rfl⟩
  go_wp2
  refine bodyPost_ret (v := insV (thdI x 4 (fld x 7 5) (fld x 2 5) 1 (fld x 2 5))) (by simp [results, Tryz.results48, go_sem, insV, thdI, movI, none5, h1, h2]) rfl ⟨rfl, ?_⟩
  repeat (with_reducible first | exact Nx.refl _ | refine Nx.alloc ?_ _ | refine Nx.setCell ?_ (Nat.le_refl _) _)

set_option maxHeartbeats 1000000 in
theorem q2_2a0 (x : Int) (w : World) (hx : 0 ≤ x) (hx' : x < 65536) (hf : fld x 13 3 = 2) (hb : fld x 12 1 = 0) (hr : fld x 7 5 = 0) :
    Calls Tryz.prog 48 #[.int .u32 x] w fun e w' => e = .returned (insV (thdI x 2 (fld x 7 5) (fld x 2 5) 0 (fld x 2 5))) ∧ Nx w w' := by
  have r0 := fld_nonneg x 7 5
  have r1 : fld x 7 5 < 32 := fld_lt x 7 5
  have p0 := fld_nonneg x 2 5
  have p1 : fld x 2 5 < 32 := fld_lt x 2 5
  have e2 : (fld x 7 5 == 0) = true := by rw [beq_iff_eq]; exact hr
  go_enter Tryz.func48, Tryz.ntmps48
  go_wp2_with fail
  refine (ef_11_7 x (fld x 7 5) _ hx hx' rfl).mono ?_
  rintro e w' ⟨rfl, rfl⟩
  go_wp2_with fail
  refine (ef_6_2 x (fld x 2 5) _ hx hx' rfl).mono ?_
  rintro e w' ⟨rfl, rfl⟩
  go_wp2_with fail
  refine (ef_12_12 x _ _ hx hx' hb).mono ?_
  rintro e w' ⟨rfl, rfl⟩
  go_wp2_with fail
  refine (ef_15_13 x _ _ hx hx' hf).mono ?_
  rintro e w' ⟨rfl, rfl⟩
  go_wp2
  refine bodyPost_ret (v := insV (thdI x 2 (fld x 7 5) (fld x 2 5) 0 (fld x 2 5))) (by simp [results, Tryz.results48, go_sem, insV, thdI, movI, none5, hr]) rfl ⟨rfl, ?_⟩
  repeat (with_reducible first | exact Nx.refl _ | refine Nx.alloc ?_ _ | refine Nx.setCell ?_ (Nat.le_refl _) _)

set_option maxHeartbeats 1000000 in
theorem q2_2a1 (x : Int) (w : World) (hx : 0 ≤ x) (hx' : x < 65536) (hf : fld x 13 3 = 2) (hb : fld x 12 1 = 1) (hr : fld x 7 5 = 0) :
    Calls Tryz.prog 48 #[.int .u32 x] w fun e w' => e = .returned (insV (thdI x 2 (fld x 7 5) (fld x 2 5) 1 (fld x 2 5))) ∧ Nx w w' := by
  have r0 := fld_nonneg x 7 5
  have r1 : fld x 7 5 < 32 := fld_lt x 7 5
  have p0 := fld_nonneg x 2 5
  have p1 : fld x 2 5 < 32 := fld_lt x 2 5
  have e2 : (fld x 7 5 == 0) = true := by rw [beq_iff_eq]; exact hr
  go_enter Tryz.func48, Tryz.ntmps48
  go_wp2_with fail
  refine (ef_11_7 x (fld x 7 5) _ hx hx' rfl).mono ?_
  rintro e w' ⟨rfl, rfl⟩
  go_wp2_with fail
  refine (ef_6_2 x (fld x 2 5) _ hx hx' rfl).mono ?_
  rintro e w' ⟨rfl, rfl⟩
  go_wp2_with fail
  refine (ef_12_12 x _ _ hx hx' hb).mono ?_
  rintro e w' ⟨rfl, rfl⟩
  go_wp2_with fail
  refine (ef_15_13 x _ _ hx hx' hf).mono ?_
  rintro e w' ⟨rfl, rfl⟩
  go_wp2
  refine bodyPost_ret (v := insV (thdI x 2 (fld x 7 5) (fld x 2 5) 1 (fld x 2 5))) (by simp [results, Tryz.results48, go_sem, insV, thdI, movI, none5, hr]) rfl ⟨rfl, ?_⟩
  repeat (with_reducible first | exact Nx.refl _ | refine Nx.alloc ?_ _ | refine Nx.setCell ?_ (Nat.le_refl _) _)

set_option maxHeartbeats 8000000 in
theorem q2_2b (x B : Int) (w : World) (hx : 0 ≤ x) (hx' : x < 65536) (hf : fld x 13 3 = 2) (hb : fld x 12 1 = B) (hB : B = 0 ∨ B = 1) (hr : ¬ fld x 7 5 = 0) :
    Calls Tryz.prog 48 #[.int .u32 x] w fun e w' => e = .returned (insV (thdI x 2 (fld x 7 5) (fld x 2 5) B (fld x 2 5))) ∧ Nx w w' := by
  have r0 := fld_nonneg x 7 5
  have r1 : fld x 7 5 < 32 := fld_lt x 7 5
  have p0 := fld_nonneg x 2 5
  have p1 : fld x 2 5 < 32 := fld_lt x 2 5
  have g0 := fld_nonneg x 7 3
  have g1 : fld x 7 3 < 8 := fld_lt x 7 3
  have k0 := fld_nonneg x 2 3
  have k1 : fld x 2 3 < 8 := fld_lt x 2 3
  obtain ⟨s1, s2⟩ := ls_bd x
  have e2 : (fld x 7 5 == 0) = false := beq_eq_false_iff_ne.2 hr
  rcases hB with rfl | rfl
  all_goals
    go_enter Tryz.func48, Tryz.ntmps48
    go_wp2_with fail
    refine (efield_v x 11 7 5 (fld x 7 5) _ hx hx' (by decide) (by decide) (by decide) (by decide) rfl rfl).mono ?_
    rintro e w' ⟨rfl, rfl⟩
    go_wp2_with fail
    refine (efield_v x 6 2 5 (fld x 2 5) _ hx hx' (by decide) (by decide) (by decide) (by decide) rfl rfl).mono ?_
    rintro e w' ⟨rfl, rfl⟩
    go_wp2_with fail
    refine (efield_v x 12 12 1 _ _ hx hx' (by decide) (by decide) (by decide) (by decide) rfl hb).mono ?_
    rintro e w' ⟨rfl, rfl⟩
    go_wp2_with fail
    refine (efield_v x 15 13 3 _ _ hx hx' (by decide) (by decide) (by decide) (by decide) rfl hf).mono ?_
    rintro e w' ⟨rfl, rfl⟩
    go_wp2_with fail
    refine (elist_lst 2 [3, 2, 12, 6, 5, 4] 6 8 [3, 2, 12, 6, 5, 4, -1, -1] _ rfl _ _ (by simp) (by decide) (by decide) rfl (by decide) (by decide) rfl rfl).mono ?_
    rintro e w1 ⟨gA, cA, rfl, iA, n1⟩
    go_wp2_with fail
    refine (eplain_lst x _ gA 8 cA (lsP x) _ hx hx' rfl (by decide) iA (e_ls x)).mono ?_
    rintro e w2 ⟨rfl, n2⟩
    have n4 := n1.trans n2
    clear n1 n2 iA
    obtain ⟨c0, c1, c2, c3, c4, z0, z1, z2, z3, z4, hz⟩ := five_cells n4
    have HN := Lib.hid (((Nx.refl w).alloc _).trans n4)
    clear n4
    go_wp2
    refine bodyPost_ret (v := insV (thdI x 2 (fld x 7 5) (fld x 2 5) _ (fld x 2 5))) (by simp [results, Tryz.results48, go_sem, insV, thdI, c0, c1, c2, c3, c4, hr]) rfl ⟨rfl, ?_⟩
    repeat (with_reducible first | exact HN.out | refine Nx.alloc ?_ _ | refine Nx.setCell ?_ (Nat.le_refl _) _)

set_option maxHeartbeats 8000000 in
theorem q2_6 (x B : Int) (w : World) (hx : 0 ≤ x) (hx' : x < 65536) (hf : fld x 13 3 = 6) (hb : fld x 12 1 = B) (hB : B = 0 ∨ B = 1) :
    Calls Tryz.prog 48 #[.int .u32 x] w fun e w' => e = .returned (insV (thdI x 6 (fld x 7 5) (fld x 2 5) B (fld x 2 5))) ∧ Nx w w' := by
  have r0 := fld_nonneg x 7 5
  have r1 : fld x 7 5 < 32 := fld_lt x 7 5
  have p0 := fld_nonneg x 2 5
  have p1 : fld x 2 5 < 32 := fld_lt x 2 5
  have g0 := fld_nonneg x 7 3
  have g1 : fld x 7 3 < 8 := fld_lt x 7 3
  have k0 := fld_nonneg x 2 3
  have k1 : fld x 2 3 < 8 := fld_lt x 2 3
  obtain ⟨s1, s2⟩ := ss_bd x
  rcases hB with rfl | rfl
  all_goals
    go_enter Tryz.func48, Tryz.ntmps48
    go_wp2_with fail
    refine (efield_v x 11 7 5 (fld x 7 5) _ hx hx' (by decide) (by decide) (by decide) (by decide) rfl rfl).mono ?_
    rintro e w' ⟨rfl, rfl⟩
    go_wp2_with fail
    refine (efield_v x 6 2 5 (fld x 2 5) _ hx hx' (by decide) (by decide) (by decide) (by decide) rfl rfl).mono ?_
    rintro e w' ⟨rfl, rfl⟩
    go_wp2_with fail
    refine (efield_v x 12 12 1 _ _ hx hx' (by decide) (by decide) (by decide) (by decide) rfl hb).mono ?_
    rintro e w' ⟨rfl, rfl⟩
    go_wp2_with fail
    refine (efield_v x 15 13 3 _ _ hx hx' (by decide) (by decide) (by decide) (by decide) rfl hf).mono ?_
    rintro e w' ⟨rfl, rfl⟩
    go_wp2_with fail
    refine (elist_lst 2 [8, 7, 12, 11, 10, 9] 6 8 [8, 7, 12, 11, 10, 9, -1, -1] _ rfl _ _ (by simp) (by decide) (by decide) rfl (by decide) (by decide) rfl rfl).mono ?_
    rintro e w1 ⟨gA, cA, rfl, iA, n1⟩
    go_wp2_with fail
    refine (eplain_lst x _ gA 8 cA (ssP x) _ hx hx' rfl (by decide) iA (e_ss x)).mono ?_
    rintro e w2 ⟨rfl, n2⟩
    have n4 := n1.trans n2
    clear n1 n2 iA
    obtain ⟨c0, c1, c2, c3, c4, z0, z1, z2, z3, z4, hz⟩ := five_cells n4
    have HN := Lib.hid (((Nx.refl w).alloc _).trans n4)
    clear n4
    go_wp2
    refine bodyPost_ret (v := insV (thdI x 6 (fld x 7 5) (fld x 2 5) _ (fld x 2 5))) (by simp [results, Tryz.results48, go_sem, insV, thdI, c0, c1, c2, c3, c4]) rfl ⟨rfl, ?_⟩
    repeat (with_reducible first | exact HN.out | refine Nx.alloc ?_ _ | refine Nx.setCell ?_ (Nat.le_refl _) _)

theorem quarter2_any (x : Int) (w : World) (hx : 0 ≤ x) (hx' : x < 65536) :
    Calls Tryz.prog 48 #[.int .u32 x] w fun e w' => e = .returned (insV (thdI x (fld x 13 3) (fld x 7 5) (fld x 2 5) (fld x 12 1) (fld x 2 5))) ∧ Nx w w' := by
  have f0 := fld_nonneg x 13 3
  have ff : fld x 13 3 < 8 := fld_lt x 13 3
  have g0 := fld_nonneg x 12 1
  have g1 : fld x 12 1 < 2 := fld_lt x 12 1
  have hB : fld x 12 1 = 0 ∨ fld x 12 1 = 1 := by omega
  have hf : fld x 13 3 = 0 ∨ fld x 13 3 = 1 ∨ fld x 13 3 = 2 ∨ fld x 13 3 = 3 ∨ fld x 13 3 = 4 ∨ fld x 13 3 = 5 ∨ fld x 13 3 = 6 ∨ fld x 13 3 = 7 := by omega
  rcases hf with h | h | h | h | h | h | h | h <;> rw [h]
  · rcases hB with hb | hb <;> rw [hb]
    · exact q2_00 x w hx hx' h hb
    · exact q2_01 x w hx hx' h hb
  · exact q2_1 x _ w hx hx' h rfl
  · by_cases hr : fld x 7 5 = 0
    · rcases hB with hb | hb <;> rw [hb]
      · exact q2_2a0 x w hx hx' h hb hr
      · exact q2_2a1 x w hx hx' h hb hr
    · exact q2_2b x _ w hx hx' h rfl hB hr
  · exact q2_3 x _ w hx hx' h rfl
  · by_cases h1 : fld x 2 5 = 0 <;> by_cases h2 : fld x 7 5 = 0 <;> rcases hB with hb | hb <;> rw [hb]
    · exact q2_40a x w hx hx' h hb h1 h2
    · exact q2_41a x w hx hx' h hb h1 h2
    · exact q2_40b x w hx hx' h hb h1 h2
    · exact q2_41b x w hx hx' h hb h1 h2
    · exact q2_40c x w hx hx' h hb h1 h2
    · exact q2_41c x w hx hx' h hb h1 h2
    · exact q2_40d x w hx hx' h hb h1 h2
    · exact q2_41d x w hx hx' h hb h1 h2
  · exact q2_5 x _ w hx hx' h rfl
  · exact q2_6 x _ w hx hx' h rfl hB
  · exact q2_7 x _ w hx hx' h rfl

end Go.Proofs.YtndpgakjpokllaaGreat

/- Plain: what a parcel stands for may be. -/
namespace Go.Proofs.YtndpgakjpokllaaGreat
open Go.RowKit
set_option linter.unusedVariables false
set_option linter.unusedSimpArgs false

theorem fit12 (v : Int) (h : -2048 ≤ v) (h' : v ≤ 2047) : fitB v 12 = true := by
  unfold fitB sgn Int.bmod
  simp
  split <;> omega

theorem fit13 (v : Int) (h : -4096 ≤ v) (h' : v ≤ 4095) : fitB v 13 = true := by
  unfold fitB sgn Int.bmod
  simp
  split <;> omega

theorem fit21 (v : Int) (h : -1048576 ≤ v) (h' : v ≤ 1048575) : fitB v 21 = true := by
  unfold fitB sgn Int.bmod
  simp
  split <;> omega

theorem j_bd (x : Int) : -2048 ≤ jP x ∧ jP x ≤ 2047 ∧ jP x % 2 = 0 := by
  unfold jP
  generalize runsV x 0 rsJ = v
  have := sgn_range (v * 2 % 4294967296) 12
  have e : (2 : Int) ^ 12 = 4096 := by decide
  refine ⟨by omega, by omega, ?_⟩
  unfold sgn Int.bmod
  simp
  split <;> omega

theorem br_bd (x : Int) : -256 ≤ brP x ∧ brP x ≤ 255 ∧ brP x % 2 = 0 := by
  unfold brP
  generalize runsV x 0 rsB = v
  have := sgn_range (v * 2 % 4294967296) 9
  have e : (2 : Int) ^ 9 = 512 := by decide
  refine ⟨by omega, by omega, ?_⟩
  unfold sgn Int.bmod
  simp
  split <;> omega

theorem far_bd (x : Int) : -512 ≤ farP x ∧ farP x ≤ 511 := by
  unfold farP
  generalize runsV x 0 rsF = v
  have := sgn_range (v * 16 % 4294967296) 10
  have e : (2 : Int) ^ 10 = 1024 := by decide
  omega

theorem mayn (op rd rs1 imm : Int) (hf : formN op = 6 ∨ formN op = 4) (h1 : 0 ≤ rd) (h2 : rd ≤ 31) (h3 : 0 ≤ rs1) (h4 : rs1 ≤ 31) (h5 : -2048 ≤ imm) (h6 : imm ≤ 2047) : mayB op rd rs1 0 imm = true := by
  have h := fit12 imm h5 h6
  rcases hf with hf | hf <;> simp [mayB, hf, regB, needD, needS, needT, numB, h, h1, h2, h3, h4]

theorem maysh (op rd rs1 imm : Int) (hf : formN op = 7) (h1 : 0 ≤ rd) (h2 : rd ≤ 31) (h3 : 0 ≤ rs1) (h4 : rs1 ≤ 31) (h5 : 0 ≤ imm) (h6 : imm ≤ 31) : mayB op rd rs1 0 imm = true := by
  simp [mayB, hf, regB, needD, needS, needT, numB, h1, h2, h3, h4, h5, h6]

theorem mayst (op rs1 rs2 imm : Int) (hf : formN op = 5) (h1 : 0 ≤ rs2) (h2 : rs2 ≤ 31) (h3 : 0 ≤ rs1) (h4 : rs1 ≤ 31) (h5 : -2048 ≤ imm) (h6 : imm ≤ 2047) : mayB op 0 rs1 rs2 imm = true := by
  have h := fit12 imm h5 h6
  simp [mayB, hf, regB, needD, needS, needT, numB, h, h1, h2, h3, h4]

theorem mayre (op rd rs1 rs2 : Int) (hf : formN op = 8) (h1 : 0 ≤ rs2) (h2 : rs2 ≤ 31) (h3 : 0 ≤ rs1) (h4 : rs1 ≤ 31) (h5 : 0 ≤ rd) (h6 : rd ≤ 31) : mayB op rd rs1 rs2 0 = true := by
  simp [mayB, hf, regB, needD, needS, needT, numB, h1, h2, h3, h4, h5, h6]

theorem maybr (op rs1 rs2 imm : Int) (hf : formN op = 3) (h1 : 0 ≤ rs2) (h2 : rs2 ≤ 31) (h3 : 0 ≤ rs1) (h4 : rs1 ≤ 31) (h5 : -256 ≤ imm) (h6 : imm ≤ 255) (h7 : imm % 2 = 0) : mayB op 0 rs1 rs2 imm = true := by
  have h := fit13 imm (by omega) (by omega)
  simp [mayB, hf, regB, needD, needS, needT, numB, h, h1, h2, h3, h4, h7]

theorem mayju (op rd imm : Int) (hf : formN op = 2) (h1 : 0 ≤ rd) (h2 : rd ≤ 31) (h5 : -2048 ≤ imm) (h6 : imm ≤ 2047) (h7 : imm % 2 = 0) : mayB op rd 0 0 imm = true := by
  have h := fit21 imm (by omega) (by omega)
  simp [mayB, hf, regB, needD, needS, needT, numB, h, h1, h2, h7]

theorem mayup (op rd imm : Int) (hf : formN op = 1) (h1 : 0 ≤ rd) (h2 : rd ≤ 31) (h7 : imm % 4096 = 0) : mayB op rd 0 0 imm = true := by
  simp [mayB, hf, regB, needD, needS, needT, numB, h1, h2, h7]

/-- An instruction that may be, and whose number is one of 32 bits. -/
def okI (i : In5) : Prop := i = none5 ∨ (0 < i.op ∧ mayB i.op i.rd i.rs1 i.rs2 i.imm = true)

theorem ok_none : okI none5 := Or.inl rfl

theorem ok_of (op rd rs1 rs2 imm : Int) (h : 0 < op) (h' : mayB op rd rs1 rs2 imm = true) : okI ⟨op, rd, rs1, rs2, imm⟩ := Or.inr ⟨h, h'⟩

theorem ok_fst (x : Int) : okI (fstI x (fld x 13 3) (8 + fld x 7 3) (8 + fld x 2 3)) := by
  have g0 := fld_nonneg x 7 3
  have g1 : fld x 7 3 < 8 := fld_lt x 7 3
  have k0 := fld_nonneg x 2 3
  have k1 : fld x 2 3 < 8 := fld_lt x 2 3
  obtain ⟨u1, u2⟩ := u_bd x
  obtain ⟨n1, n2⟩ := near_bd x
  unfold fstI
  repeat' split
  · exact ok_none
  · exact ok_of _ _ _ _ _ (by decide) (mayn 19 _ _ _ (Or.inl (by decide)) (by omega) (by omega) (by omega) (by omega) (by omega) (by omega))
  · exact ok_of _ _ _ _ _ (by decide) (mayn 13 _ _ _ (Or.inr (by decide)) (by omega) (by omega) (by omega) (by omega) (by omega) (by omega))
  · exact ok_of _ _ _ _ _ (by decide) (mayst 18 _ _ _ (by decide) (by omega) (by omega) (by omega) (by omega) (by omega) (by omega))
  · exact ok_none

theorem ok_upp (x : Int) : okI (uppI x (fld x 7 5) (n6P x)) := by
  have r0 := fld_nonneg x 7 5
  have r1 : fld x 7 5 < 32 := fld_lt x 7 5
  obtain ⟨m0, m1⟩ := n6_bd x
  obtain ⟨u1, u2⟩ := far_bd x
  unfold uppI
  repeat' split
  · exact ok_none
  · exact ok_of _ _ _ _ _ (by decide) (mayn 19 _ _ _ (Or.inl (by decide)) (by omega) (by omega) (by omega) (by omega) (by omega) (by omega))
  · exact ok_of _ _ _ _ _ (by decide) (mayup 1 _ _ (by decide) (by omega) (by omega) (by simp only [wrap32]; omega))

theorem ok_rec (x : Int) : okI (recI (8 + fld x 7 3) (8 + fld x 2 3) (fld x 12 1) (n6P x) (fld x 2 5) (fld x 10 2) (fld x 5 2)) := by
  have g0 := fld_nonneg x 7 3
  have g1 : fld x 7 3 < 8 := fld_lt x 7 3
  have k0 := fld_nonneg x 2 3
  have k1 : fld x 2 3 < 8 := fld_lt x 2 3
  have p0 := fld_nonneg x 2 5
  have p1 : fld x 2 5 < 32 := fld_lt x 2 5
  obtain ⟨m0, m1⟩ := n6_bd x
  unfold recI
  split
  · exact ok_of _ _ _ _ _ (by decide) (mayn 24 _ _ _ (Or.inl (by decide)) (by omega) (by omega) (by omega) (by omega) (by omega) (by omega))
  split
  · exact ok_none
  split
  · exact ok_of _ _ _ _ _ (by decide) (maysh 26 _ _ _ (by decide) (by omega) (by omega) (by omega) (by omega) (by omega) (by omega))
  split
  · exact ok_of _ _ _ _ _ (by decide) (maysh 27 _ _ _ (by decide) (by omega) (by omega) (by omega) (by omega) (by omega) (by omega))
  split
  · exact ok_of _ _ _ _ _ (by decide) (mayre 29 _ _ _ (by decide) (by omega) (by omega) (by omega) (by omega) (by omega) (by omega))
  split
  · exact ok_of _ _ _ _ _ (by decide) (mayre 33 _ _ _ (by decide) (by omega) (by omega) (by omega) (by omega) (by omega) (by omega))
  split
  · exact ok_of _ _ _ _ _ (by decide) (mayre 36 _ _ _ (by decide) (by omega) (by omega) (by omega) (by omega) (by omega) (by omega))
  · exact ok_of _ _ _ _ _ (by decide) (mayre 37 _ _ _ (by decide) (by omega) (by omega) (by omega) (by omega) (by omega) (by omega))

theorem ok_snd (x : Int) : okI (sndI x (fld x 13 3) (fld x 7 5) (8 + fld x 7 3) (8 + fld x 2 3) (fld x 12 1) (n6P x) (jP x) (fld x 2 5) (fld x 10 2) (fld x 5 2)) := by
  have r0 := fld_nonneg x 7 5
  have r1 : fld x 7 5 < 32 := fld_lt x 7 5
  have g0 := fld_nonneg x 7 3
  have g1 : fld x 7 3 < 8 := fld_lt x 7 3
  obtain ⟨m0, m1⟩ := n6_bd x
  obtain ⟨j0, j1, j2⟩ := j_bd x
  obtain ⟨b0, b1, b2⟩ := br_bd x
  unfold sndI
  split
  · exact ok_of _ _ _ _ _ (by decide) (mayn 19 _ _ _ (Or.inl (by decide)) (by omega) (by omega) (by omega) (by omega) (by omega) (by omega))
  split
  · exact ok_of _ _ _ _ _ (by decide) (mayju 3 _ _ (by decide) (by omega) (by omega) (by omega) (by omega) (by omega))
  split
  · exact ok_of _ _ _ _ _ (by decide) (mayn 19 _ _ _ (Or.inl (by decide)) (by omega) (by omega) (by omega) (by omega) (by omega) (by omega))
  split
  · exact ok_upp x
  split
  · exact ok_rec x
  split
  · exact ok_of _ _ _ _ _ (by decide) (mayju 3 _ _ (by decide) (by omega) (by omega) (by omega) (by omega) (by omega))
  split
  · exact ok_of _ _ _ _ _ (by decide) (maybr 5 _ _ _ (by decide) (by omega) (by omega) (by omega) (by omega) (by omega) (by omega) (by omega))
  · exact ok_of _ _ _ _ _ (by decide) (maybr 6 _ _ _ (by decide) (by omega) (by omega) (by omega) (by omega) (by omega) (by omega) (by omega))

theorem ok_thd (x : Int) : okI (thdI x (fld x 13 3) (fld x 7 5) (fld x 2 5) (fld x 12 1) (fld x 2 5)) := by
  have r0 := fld_nonneg x 7 5
  have r1 : fld x 7 5 < 32 := fld_lt x 7 5
  have p0 := fld_nonneg x 2 5
  have p1 : fld x 2 5 < 32 := fld_lt x 2 5
  have b0 := fld_nonneg x 12 1
  have b1 : fld x 12 1 < 2 := fld_lt x 12 1
  obtain ⟨m0, m1⟩ := ls_bd x
  obtain ⟨s0, s1⟩ := ss_bd x
  unfold thdI movI
  repeat' split
  · exact ok_of _ _ _ _ _ (by decide) (maysh 25 _ _ _ (by decide) (by omega) (by omega) (by omega) (by omega) (by omega) (by omega))
  · exact ok_none
  · exact ok_none
  · exact ok_of _ _ _ _ _ (by decide) (mayn 13 _ _ _ (Or.inr (by decide)) (by omega) (by omega) (by omega) (by omega) (by omega) (by omega))
  · exact ok_of _ _ _ _ _ (by decide) (by decide)
  · exact ok_none
  · exact ok_of _ _ _ _ _ (by decide) (mayn 4 _ _ _ (Or.inr (by decide)) (by omega) (by omega) (by omega) (by omega) (by omega) (by omega))
  · exact ok_of _ _ _ _ _ (by decide) (mayre 28 _ _ _ (by decide) (by omega) (by omega) (by omega) (by omega) (by omega) (by omega))
  · exact ok_of _ _ _ _ _ (by decide) (mayre 28 _ _ _ (by decide) (by omega) (by omega) (by omega) (by omega) (by omega) (by omega))
  · exact ok_of _ _ _ _ _ (by decide) (mayst 18 _ _ _ (by decide) (by omega) (by omega) (by omega) (by omega) (by omega) (by omega))
  · exact ok_none

theorem ok_exp (x : Int) : okI (expI x) := by
  unfold expI
  split
  · exact ok_fst x
  split
  · exact ok_snd x
  split
  · exact ok_thd x
  · exact ok_none

theorem exp_eq (x : Int) : expJ x = expI x := by
  unfold expJ
  rcases ok_exp x with h | ⟨h, _⟩
  · rw [h]; rfl
  · rw [if_neg (by omega)]

theorem exp_pos (x : Int) : (!((expI x).op == 0)) = decide (0 < (expI x).op) := by
  rcases ok_exp x with h | ⟨h, _⟩
  · rw [h]; rfl
  · have h' : ((expI x).op == 0) = false := beq_eq_false_iff_ne.2 (by omega)
    rw [h']
    simp [h]

theorem exp_may (x : Int) (h : ((expI x).op == 0) = false) : mayB (expI x).op (expI x).rd (expI x).rs1 (expI x).rs2 (expI x).imm = true := by
  rcases ok_exp x with h' | ⟨_, h'⟩
  · rw [h'] at h; exact absurd h (by decide)
  · exact h'

def bdI (i : In5) : Prop := -2147483648 ≤ i.imm ∧ i.imm ≤ 2147483647

theorem bd_ite {c : Prop} [Decidable c] {a b : In5} (h1 : bdI a) (h2 : bdI b) : bdI (if c then a else b) := by split <;> assumption

theorem bd_none : bdI none5 := ⟨by decide, by decide⟩

theorem bd_of (op rd rs1 rs2 imm : Int) (h : -2147483648 ≤ imm) (h' : imm ≤ 2147483647) : bdI ⟨op, rd, rs1, rs2, imm⟩ := ⟨h, h'⟩

theorem exp_imm (x : Int) : -2147483648 ≤ (expI x).imm ∧ (expI x).imm ≤ 2147483647 := by
  obtain ⟨u1, u2⟩ := u_bd x
  obtain ⟨n1, n2⟩ := near_bd x
  obtain ⟨m0, m1⟩ := n6_bd x
  obtain ⟨j0, j1, j2⟩ := j_bd x
  obtain ⟨b0, b1, b2⟩ := br_bd x
  obtain ⟨l0, l1⟩ := ls_bd x
  obtain ⟨s0, s1⟩ := ss_bd x
  obtain ⟨w1, w2⟩ := far_bd x
  have p0 := fld_nonneg x 2 5
  have p1 : fld x 2 5 < 32 := fld_lt x 2 5
  show bdI (expI x)
  unfold expI fstI sndI thdI uppI recI movI
  repeat' (with_reducible first | apply bd_ite | exact bd_none)
  all_goals (apply bd_of <;> (try simp only [wrap32]) <;> omega)

theorem fld_q (x : Int) : fld x 0 2 = x % 4 := by
  unfold fld
  simp

end Go.Proofs.YtndpgakjpokllaaGreat

