/- Parts of the proof, one behind the other. -/
import Derived.Test.YtndpgakjpokllaaGreatZtac
import Derived.Test.YtndpgakjpokllaaGreatZtag
import Derived.Test.YtndpgakjpokllaaGreatZtal
/- Contracts of package slim: Expand. -/
namespace Go.Proofs.YtndpgakjpokllaaGreat
open Go.RowKit
set_option linter.unusedVariables false
set_option linter.unusedSimpArgs false

/-- What a parcel stands for; of the operation 0: nothing. -/
def expI (x : Int) : In5 :=
  if fld x 0 2 = 0 then fstI x (fld x 13 3) (8 + fld x 7 3) (8 + fld x 2 3)
  else if fld x 0 2 = 1 then sndI x (fld x 13 3) (fld x 7 5) (8 + fld x 7 3) (8 + fld x 2 3) (fld x 12 1) (n6P x) (jP x) (fld x 2 5) (fld x 10 2) (fld x 5 2)
  else if fld x 0 2 = 2 then thdI x (fld x 13 3) (fld x 7 5) (fld x 2 5) (fld x 12 1) (fld x 2 5)
  else none5

def expJ (x : Int) : In5 := if (expI x).op = 0 then none5 else expI x

theorem n6_bd (x : Int) : -32 ≤ n6P x ∧ n6P x ≤ 31 := by
  have := sgn_range (runsV x 0 [(12, 1), (2, 5)] % 4294967296) 6
  have e : (2 : Int) ^ 6 = 64 := by decide
  unfold n6P
  omega

theorem par_set (x : Int) (b : Nat) (w : World) : (w.alloc (.cells #[.int .u32 0, .int .u32 0, .int .i64 0, .int .i64 0, .int .i64 0, .int .i64 0, .int .u32 0, .int .i32 0, .int .i32 0, .int .i32 0, .nilFunc, .int .u32 0, .int .u32 0] 173)).setCells w.heap.size 0 (parA x b).toList = w.alloc (.cells (parA x b) 173) := by
  simp [World.setCells, parA, go_sem]

theorem par_there (w : World) : (w.alloc (.cells #[.int .u32 0, .int .u32 0, .int .i64 0, .int .i64 0, .int .i64 0, .int .i64 0, .int .u32 0, .int .i32 0, .int .i32 0, .int .i32 0, .nilFunc, .int .u32 0, .int .u32 0] 173)).there w.heap.size 0 13 := there_new (Nx.refl _) 13 rfl

set_option maxHeartbeats 4000000 in
theorem expand_q0 (x : Int) (w : World) (hx : 0 ≤ x) (hx' : x < 65536) (hq : fld x 0 2 = 0) :
    Calls Tryz.prog 151 #[.int .u16 x] w fun e w' => e = .returned (.tuple #[.agg #[.int .i64 (expJ x).op, .int .i64 (expJ x).rd, .int .i64 (expJ x).rs1, .int .i64 (expJ x).rs2, .int .i32 (expJ x).imm], .bool (!((expI x).op == 0))]) ∧ Nx w w' := by
  have f0 := fld_nonneg x 13 3
  have f1 : fld x 13 3 < 8 := fld_lt x 13 3
  have g0 := fld_nonneg x 12 1
  have g1 : fld x 12 1 < 2 := fld_lt x 12 1
  have k0 := fld_nonneg x 10 2
  have k1 : fld x 10 2 < 4 := fld_lt x 10 2
  have l0 := fld_nonneg x 5 2
  have l1 : fld x 5 2 < 4 := fld_lt x 5 2
  obtain ⟨m0, m1⟩ := n6_bd x
  have hf : fld x 13 3 = 0 ∨ fld x 13 3 = 1 ∨ fld x 13 3 = 2 ∨ fld x 13 3 = 3 ∨ fld x 13 3 = 4 ∨ fld x 13 3 = 5 ∨ fld x 13 3 = 6 ∨ fld x 13 3 = 7 := by omega
  have hg : fld x 12 1 = 0 ∨ fld x 12 1 = 1 := by omega
  have hk : fld x 10 2 = 0 ∨ fld x 10 2 = 1 ∨ fld x 10 2 = 2 ∨ fld x 10 2 = 3 := by omega
  have hl : fld x 5 2 = 0 ∨ fld x 5 2 = 1 ∨ fld x 5 2 = 2 ∨ fld x 5 2 = 3 := by omega
  have HF := Lib.hid hf
  have HG := Lib.hid hg
  have HK := Lib.hid hk
  have HL := Lib.hid hl
  clear hf hg hk hl
  have eI : expI x = fstI x (fld x 13 3) (8 + fld x 7 3) (8 + fld x 2 3) := by unfold expI; simp [hq]
  generalize hI : expI x = I at eI
  have eJ : expJ x = if I.op = 0 then none5 else I := by unfold expJ; rw [hI]
  rw [eJ]
  clear eJ
  cases h : (I.op == 0)
  · have h' : ¬ I.op = 0 := beq_eq_false_iff_ne.1 h
    rw [if_neg h']
    clear h'
    go_enter Tryz.func151, Tryz.ntmps151
    go_wp2_with fail
    refine (split_any _ _ hx hx').mono ?_
    rintro e w1 ⟨b, rfl, hb, hn1⟩
    go_wp2_with (refine wpList_store_mid (by rfl) 173 _ _ (by rfl) w1.heap.size 0 (parA x b) (by rfl) (by rfl) (par_there w1) par_info (par_one x b) ?_; rw [par_set]; unfold parA)
    refine (first_any x _ _ _ _ _ _ _ _ _ _ b _ _ _ hx hx' ((((Nx.refl w1).alloc _).alloc _).cell hb)).mono ?_
    rw [← eI]
    clear eI
    rintro e w2 ⟨rfl, hn2⟩
    obtain ⟨c0, c1, c2, c3, c4, z0, z1, z2, z3, z4, hz⟩ := five_res hn2
    obtain ⟨d0, d1, d2, d3, d4, y0, y1, y2, y3, y4, hy⟩ := five_cells (hn1.trans ((((Nx.refl w1).alloc _).alloc _).trans hn2))
    have HN := Lib.hid (((Nx.refl w).alloc _).trans (hn1.trans ((((Nx.refl w1).alloc _).alloc _).trans hn2)))
    have hzz : w.heap.size < w1.heap.size := by have := hn1.size; simp at this; omega
    have hz1 : ¬ w1.heap.size = w.heap.size := by omega
    have hz2 : ¬ w1.heap.size + 1 = w.heap.size := by omega
    have hz3 : ¬ w.heap.size = w1.heap.size + 1 := by omega
    clear hn1 hn2
    unfold insV
    go_wp2
    refine bodyPost_ret (v := .tuple #[.agg #[.int .i64 I.op, .int .i64 I.rd, .int .i64 I.rs1, .int .i64 I.rs2, .int .i32 I.imm], .bool true]) (by simp [results, Tryz.results151, go_sem, c0, c1, c2, c3, c4, d0, d1, d2, d3, d4, hy, hz, hz1, hz2, hz3]) rfl ⟨rfl, ?_⟩
    repeat (with_reducible first | exact HN.out | refine Nx.alloc ?_ _ | refine Nx.setCell ?_ (Nat.le_refl _) _ | refine Nx.setCell ?_ (Nat.le_succ_of_le (Nat.le_of_lt hzz)) _)
  · have h' : I.op = 0 := beq_iff_eq.1 h
    rw [if_pos h']
    clear h'
    go_enter Tryz.func151, Tryz.ntmps151
    go_wp2_with fail
    refine (split_any _ _ hx hx').mono ?_
    rintro e w1 ⟨b, rfl, hb, hn1⟩
    go_wp2_with (refine wpList_store_mid (by rfl) 173 _ _ (by rfl) w1.heap.size 0 (parA x b) (by rfl) (by rfl) (par_there w1) par_info (par_one x b) ?_; rw [par_set]; unfold parA)
    refine (first_any x _ _ _ _ _ _ _ _ _ _ b _ _ _ hx hx' ((((Nx.refl w1).alloc _).alloc _).cell hb)).mono ?_
    rw [← eI]
    clear eI
    rintro e w2 ⟨rfl, hn2⟩
    obtain ⟨c0, c1, c2, c3, c4, z0, z1, z2, z3, z4, hz⟩ := five_res hn2
    obtain ⟨d0, d1, d2, d3, d4, y0, y1, y2, y3, y4, hy⟩ := five_cells (hn1.trans ((((Nx.refl w1).alloc _).alloc _).trans hn2))
    have HN := Lib.hid (((Nx.refl w).alloc _).trans (hn1.trans ((((Nx.refl w1).alloc _).alloc _).trans hn2)))
    have hzz : w.heap.size < w1.heap.size := by have := hn1.size; simp at this; omega
    have hz1 : ¬ w1.heap.size = w.heap.size := by omega
    have hz2 : ¬ w1.heap.size + 1 = w.heap.size := by omega
    have hz3 : ¬ w.heap.size = w1.heap.size + 1 := by omega
    clear hn1 hn2
    unfold insV
    go_wp2
    refine bodyPost_ret (v := .tuple #[.agg #[.int .i64 0, .int .i64 0, .int .i64 0, .int .i64 0, .int .i32 0], .bool false]) (by simp [results, Tryz.results151, go_sem, c0, c1, c2, c3, c4, d0, d1, d2, d3, d4, hy, hz, hz1, hz2, hz3]) rfl ⟨by simp [none5], ?_⟩
    repeat (with_reducible first | exact HN.out | refine Nx.alloc ?_ _ | refine Nx.setCell ?_ (Nat.le_refl _) _ | refine Nx.setCell ?_ (Nat.le_succ_of_le (Nat.le_of_lt hzz)) _)

set_option maxHeartbeats 4000000 in
theorem expand_q1 (x : Int) (w : World) (hx : 0 ≤ x) (hx' : x < 65536) (hq : fld x 0 2 = 1) :
    Calls Tryz.prog 151 #[.int .u16 x] w fun e w' => e = .returned (.tuple #[.agg #[.int .i64 (expJ x).op, .int .i64 (expJ x).rd, .int .i64 (expJ x).rs1, .int .i64 (expJ x).rs2, .int .i32 (expJ x).imm], .bool (!((expI x).op == 0))]) ∧ Nx w w' := by
  have f0 := fld_nonneg x 13 3
  have f1 : fld x 13 3 < 8 := fld_lt x 13 3
  have g0 := fld_nonneg x 12 1
  have g1 : fld x 12 1 < 2 := fld_lt x 12 1
  have k0 := fld_nonneg x 10 2
  have k1 : fld x 10 2 < 4 := fld_lt x 10 2
  have l0 := fld_nonneg x 5 2
  have l1 : fld x 5 2 < 4 := fld_lt x 5 2
  obtain ⟨m0, m1⟩ := n6_bd x
  have hf : fld x 13 3 = 0 ∨ fld x 13 3 = 1 ∨ fld x 13 3 = 2 ∨ fld x 13 3 = 3 ∨ fld x 13 3 = 4 ∨ fld x 13 3 = 5 ∨ fld x 13 3 = 6 ∨ fld x 13 3 = 7 := by omega
  have hg : fld x 12 1 = 0 ∨ fld x 12 1 = 1 := by omega
  have hk : fld x 10 2 = 0 ∨ fld x 10 2 = 1 ∨ fld x 10 2 = 2 ∨ fld x 10 2 = 3 := by omega
  have hl : fld x 5 2 = 0 ∨ fld x 5 2 = 1 ∨ fld x 5 2 = 2 ∨ fld x 5 2 = 3 := by omega
  have HF := Lib.hid hf
  have HG := Lib.hid hg
  have HK := Lib.hid hk
  have HL := Lib.hid hl
  clear hf hg hk hl
  have eI : expI x = sndI x (fld x 13 3) (fld x 7 5) (8 + fld x 7 3) (8 + fld x 2 3) (fld x 12 1) (n6P x) (jP x) (fld x 2 5) (fld x 10 2) (fld x 5 2) := by unfold expI; simp [hq]
  generalize hI : expI x = I at eI
  have eJ : expJ x = if I.op = 0 then none5 else I := by unfold expJ; rw [hI]
  rw [eJ]
  clear eJ
  cases h : (I.op == 0)
  · have h' : ¬ I.op = 0 := beq_eq_false_iff_ne.1 h
    rw [if_neg h']
    clear h'
    go_enter Tryz.func151, Tryz.ntmps151
    go_wp2_with fail
    refine (split_any _ _ hx hx').mono ?_
    rintro e w1 ⟨b, rfl, hb, hn1⟩
    go_wp2_with (refine wpList_store_mid (by rfl) 173 _ _ (by rfl) w1.heap.size 0 (parA x b) (by rfl) (by rfl) (par_there w1) par_info (par_one x b) ?_; rw [par_set]; unfold parA)
    refine (second_any x _ _ _ _ _ _ _ _ _ _ b _ _ _ hx hx' HF.out m0 m1 HG.out HK.out HL.out ((((Nx.refl w1).alloc _).alloc _).cell hb)).mono ?_
    rw [← eI]
    clear eI
    rintro e w2 ⟨rfl, hn2⟩
    obtain ⟨c0, c1, c2, c3, c4, z0, z1, z2, z3, z4, hz⟩ := five_res hn2
    obtain ⟨d0, d1, d2, d3, d4, y0, y1, y2, y3, y4, hy⟩ := five_cells (hn1.trans ((((Nx.refl w1).alloc _).alloc _).trans hn2))
    have HN := Lib.hid (((Nx.refl w).alloc _).trans (hn1.trans ((((Nx.refl w1).alloc _).alloc _).trans hn2)))
    have hzz : w.heap.size < w1.heap.size := by have := hn1.size; simp at this; omega
    have hz1 : ¬ w1.heap.size = w.heap.size := by omega
    have hz2 : ¬ w1.heap.size + 1 = w.heap.size := by omega
    have hz3 : ¬ w.heap.size = w1.heap.size + 1 := by omega
    clear hn1 hn2
    unfold insV
    go_wp2
    refine bodyPost_ret (v := .tuple #[.agg #[.int .i64 I.op, .int .i64 I.rd, .int .i64 I.rs1, .int .i64 I.rs2, .int .i32 I.imm], .bool true]) (by simp [results, Tryz.results151, go_sem, c0, c1, c2, c3, c4, d0, d1, d2, d3, d4, hy, hz, hz1, hz2, hz3]) rfl ⟨rfl, ?_⟩
    repeat (with_reducible first | exact HN.out | refine Nx.alloc ?_ _ | refine Nx.setCell ?_ (Nat.le_refl _) _ | refine Nx.setCell ?_ (Nat.le_succ_of_le (Nat.le_of_lt hzz)) _)
  · have h' : I.op = 0 := beq_iff_eq.1 h
    rw [if_pos h']
    clear h'
    go_enter Tryz.func151, Tryz.ntmps151
    go_wp2_with fail
    refine (split_any _ _ hx hx').mono ?_
    rintro e w1 ⟨b, rfl, hb, hn1⟩
    go_wp2_with (refine wpList_store_mid (by rfl) 173 _ _ (by rfl) w1.heap.size 0 (parA x b) (by rfl) (by rfl) (par_there w1) par_info (par_one x b) ?_; rw [par_set]; unfold parA)
    refine (second_any x _ _ _ _ _ _ _ _ _ _ b _ _ _ hx hx' HF.out m0 m1 HG.out HK.out HL.out ((((Nx.refl w1).alloc _).alloc _).cell hb)).mono ?_
    rw [← eI]
    clear eI
    rintro e w2 ⟨rfl, hn2⟩
    obtain ⟨c0, c1, c2, c3, c4, z0, z1, z2, z3, z4, hz⟩ := five_res hn2
    obtain ⟨d0, d1, d2, d3, d4, y0, y1, y2, y3, y4, hy⟩ := five_cells (hn1.trans ((((Nx.refl w1).alloc _).alloc _).trans hn2))
    have HN := Lib.hid (((Nx.refl w).alloc _).trans (hn1.trans ((((Nx.refl w1).alloc _).alloc _).trans hn2)))
    have hzz : w.heap.size < w1.heap.size := by have := hn1.size; simp at this; omega
    have hz1 : ¬ w1.heap.size = w.heap.size := by omega
    have hz2 : ¬ w1.heap.size + 1 = w.heap.size := by omega
    have hz3 : ¬ w.heap.size = w1.heap.size + 1 := by omega
    clear hn1 hn2
    unfold insV
    go_wp2
    refine bodyPost_ret (v := .tuple #[.agg #[.int .i64 0, .int .i64 0, .int .i64 0, .int .i64 0, .int .i32 0], .bool false]) (by simp [results, Tryz.results151, go_sem, c0, c1, c2, c3, c4, d0, d1, d2, d3, d4, hy, hz, hz1, hz2, hz3]) rfl ⟨by simp [none5], ?_⟩
    repeat (with_reducible first | exact HN.out | refine Nx.alloc ?_ _ | refine Nx.setCell ?_ (Nat.le_refl _) _ | refine Nx.setCell ?_ (Nat.le_succ_of_le (Nat.le_of_lt hzz)) _)

set_option maxHeartbeats 4000000 in
theorem expand_q2 (x : Int) (w : World) (hx : 0 ≤ x) (hx' : x < 65536) (hq : fld x 0 2 = 2) :
    Calls Tryz.prog 151 #[.int .u16 x] w fun e w' => e = .returned (.tuple #[.agg #[.int .i64 (expJ x).op, .int .i64 (expJ x).rd, .int .i64 (expJ x).rs1, .int .i64 (expJ x).rs2, .int .i32 (expJ x).imm], .bool (!((expI x).op == 0))]) ∧ Nx w w' := by
  have f0 := fld_nonneg x 13 3
  have f1 : fld x 13 3 < 8 := fld_lt x 13 3
  have g0 := fld_nonneg x 12 1
  have g1 : fld x 12 1 < 2 := fld_lt x 12 1
  have k0 := fld_nonneg x 10 2
  have k1 : fld x 10 2 < 4 := fld_lt x 10 2
  have l0 := fld_nonneg x 5 2
  have l1 : fld x 5 2 < 4 := fld_lt x 5 2
  obtain ⟨m0, m1⟩ := n6_bd x
  have hf : fld x 13 3 = 0 ∨ fld x 13 3 = 1 ∨ fld x 13 3 = 2 ∨ fld x 13 3 = 3 ∨ fld x 13 3 = 4 ∨ fld x 13 3 = 5 ∨ fld x 13 3 = 6 ∨ fld x 13 3 = 7 := by omega
  have hg : fld x 12 1 = 0 ∨ fld x 12 1 = 1 := by omega
  have hk : fld x 10 2 = 0 ∨ fld x 10 2 = 1 ∨ fld x 10 2 = 2 ∨ fld x 10 2 = 3 := by omega
  have hl : fld x 5 2 = 0 ∨ fld x 5 2 = 1 ∨ fld x 5 2 = 2 ∨ fld x 5 2 = 3 := by omega
  have HF := Lib.hid hf
  have HG := Lib.hid hg
  have HK := Lib.hid hk
  have HL := Lib.hid hl
  clear hf hg hk hl
  have eI : expI x = thdI x (fld x 13 3) (fld x 7 5) (fld x 2 5) (fld x 12 1) (fld x 2 5) := by unfold expI; simp [hq]
  generalize hI : expI x = I at eI
  have eJ : expJ x = if I.op = 0 then none5 else I := by unfold expJ; rw [hI]
  rw [eJ]
  clear eJ
  cases h : (I.op == 0)
  · have h' : ¬ I.op = 0 := beq_eq_false_iff_ne.1 h
    rw [if_neg h']
    clear h'
    go_enter Tryz.func151, Tryz.ntmps151
    go_wp2_with fail
    refine (split_any _ _ hx hx').mono ?_
    rintro e w1 ⟨b, rfl, hb, hn1⟩
    go_wp2_with (refine wpList_store_mid (by rfl) 173 _ _ (by rfl) w1.heap.size 0 (parA x b) (by rfl) (by rfl) (par_there w1) par_info (par_one x b) ?_; rw [par_set]; unfold parA)
    refine (third_any x _ _ _ _ _ _ _ _ _ _ b _ _ _ hx hx' HF.out g0 (by omega) ((((Nx.refl w1).alloc _).alloc _).cell hb)).mono ?_
    rw [← eI]
    clear eI
    rintro e w2 ⟨rfl, hn2⟩
    obtain ⟨c0, c1, c2, c3, c4, z0, z1, z2, z3, z4, hz⟩ := five_res hn2
    obtain ⟨d0, d1, d2, d3, d4, y0, y1, y2, y3, y4, hy⟩ := five_cells (hn1.trans ((((Nx.refl w1).alloc _).alloc _).trans hn2))
    have HN := Lib.hid (((Nx.refl w).alloc _).trans (hn1.trans ((((Nx.refl w1).alloc _).alloc _).trans hn2)))
    have hzz : w.heap.size < w1.heap.size := by have := hn1.size; simp at this; omega
    have hz1 : ¬ w1.heap.size = w.heap.size := by omega
    have hz2 : ¬ w1.heap.size + 1 = w.heap.size := by omega
    have hz3 : ¬ w.heap.size = w1.heap.size + 1 := by omega
    clear hn1 hn2
    unfold insV
    go_wp2
    refine bodyPost_ret (v := .tuple #[.agg #[.int .i64 I.op, .int .i64 I.rd, .int .i64 I.rs1, .int .i64 I.rs2, .int .i32 I.imm], .bool true]) (by simp [results, Tryz.results151, go_sem, c0, c1, c2, c3, c4, d0, d1, d2, d3, d4, hy, hz, hz1, hz2, hz3]) rfl ⟨rfl, ?_⟩
    repeat (with_reducible first | exact HN.out | refine Nx.alloc ?_ _ | refine Nx.setCell ?_ (Nat.le_refl _) _ | refine Nx.setCell ?_ (Nat.le_succ_of_le (Nat.le_of_lt hzz)) _)
  · have h' : I.op = 0 := beq_iff_eq.1 h
    rw [if_pos h']
    clear h'
    go_enter Tryz.func151, Tryz.ntmps151
    go_wp2_with fail
    refine (split_any _ _ hx hx').mono ?_
    rintro e w1 ⟨b, rfl, hb, hn1⟩
    go_wp2_with (refine wpList_store_mid (by rfl) 173 _ _ (by rfl) w1.heap.size 0 (parA x b) (by rfl) (by rfl) (par_there w1) par_info (par_one x b) ?_; rw [par_set]; unfold parA)
    refine (third_any x _ _ _ _ _ _ _ _ _ _ b _ _ _ hx hx' HF.out g0 (by omega) ((((Nx.refl w1).alloc _).alloc _).cell hb)).mono ?_
    rw [← eI]
    clear eI
    rintro e w2 ⟨rfl, hn2⟩
    obtain ⟨c0, c1, c2, c3, c4, z0, z1, z2, z3, z4, hz⟩ := five_res hn2
    obtain ⟨d0, d1, d2, d3, d4, y0, y1, y2, y3, y4, hy⟩ := five_cells (hn1.trans ((((Nx.refl w1).alloc _).alloc _).trans hn2))
    have HN := Lib.hid (((Nx.refl w).alloc _).trans (hn1.trans ((((Nx.refl w1).alloc _).alloc _).trans hn2)))
    have hzz : w.heap.size < w1.heap.size := by have := hn1.size; simp at this; omega
    have hz1 : ¬ w1.heap.size = w.heap.size := by omega
    have hz2 : ¬ w1.heap.size + 1 = w.heap.size := by omega
    have hz3 : ¬ w.heap.size = w1.heap.size + 1 := by omega
    clear hn1 hn2
    unfold insV
    go_wp2
    refine bodyPost_ret (v := .tuple #[.agg #[.int .i64 0, .int .i64 0, .int .i64 0, .int .i64 0, .int .i32 0], .bool false]) (by simp [results, Tryz.results151, go_sem, c0, c1, c2, c3, c4, d0, d1, d2, d3, d4, hy, hz, hz1, hz2, hz3]) rfl ⟨by simp [none5], ?_⟩
    repeat (with_reducible first | exact HN.out | refine Nx.alloc ?_ _ | refine Nx.setCell ?_ (Nat.le_refl _) _ | refine Nx.setCell ?_ (Nat.le_succ_of_le (Nat.le_of_lt hzz)) _)

set_option maxHeartbeats 4000000 in
theorem expand_q3 (x : Int) (w : World) (hx : 0 ≤ x) (hx' : x < 65536) (hq : fld x 0 2 = 3) :
    Calls Tryz.prog 151 #[.int .u16 x] w fun e w' => e = .returned (.tuple #[.agg #[.int .i64 (expJ x).op, .int .i64 (expJ x).rd, .int .i64 (expJ x).rs1, .int .i64 (expJ x).rs2, .int .i32 (expJ x).imm], .bool (!((expI x).op == 0))]) ∧ Nx w w' := by
  have eI : expI x = none5 := by unfold expI; simp [hq]
  have eJ : expJ x = none5 := by unfold expJ; rw [eI]; rfl
  rw [eI, eJ]
  clear eI eJ
  go_enter Tryz.func151, Tryz.ntmps151
  go_wp2_with fail
  refine (split_any _ _ hx hx').mono ?_
  rintro e w1 ⟨b, rfl, hb, hn1⟩
  obtain ⟨d0, d1, d2, d3, d4, y0, y1, y2, y3, y4, hy⟩ := five_cells hn1
  have HN := Lib.hid (((Nx.refl w).alloc _).trans hn1)
  have hz1 : ¬ w1.heap.size = w.heap.size := by omega
  have hz2 : ¬ w1.heap.size + 1 = w.heap.size := by omega
  have hz3 : ¬ w.heap.size = w1.heap.size + 1 := by omega
  have hz4 : ¬ w.heap.size = w1.heap.size := by omega
  clear hn1
  go_wp2_with (refine wpList_store_mid (by rfl) 173 _ _ (by rfl) w1.heap.size 0 (parA x b) (by rfl) (by rfl) (par_there w1) par_info (par_one x b) ?_; rw [par_set]; unfold parA)
  refine bodyPost_ret (v := .tuple #[.agg #[.int .i64 0, .int .i64 0, .int .i64 0, .int .i64 0, .int .i32 0], .bool false]) (by simp [results, Tryz.results151, go_sem, d0, d1, d2, d3, d4, hy, hz1, hz2, hz3, hz4]) rfl ⟨by simp [none5], ?_⟩
  repeat (with_reducible first | exact HN.out | refine Nx.alloc ?_ _ | refine Nx.setCell ?_ (Nat.le_refl _) _)

theorem expand_any (x : Int) (w : World) (hx : 0 ≤ x) (hx' : x < 65536) :
    Calls Tryz.prog 151 #[.int .u16 x] w fun e w' => e = .returned (.tuple #[.agg #[.int .i64 (expJ x).op, .int .i64 (expJ x).rd, .int .i64 (expJ x).rs1, .int .i64 (expJ x).rs2, .int .i32 (expJ x).imm], .bool (!((expI x).op == 0))]) ∧ Nx w w' := by
  have g0 := fld_nonneg x 0 2
  have g1 : fld x 0 2 < 4 := fld_lt x 0 2
  have hq : fld x 0 2 = 0 ∨ fld x 0 2 = 1 ∨ fld x 0 2 = 2 ∨ fld x 0 2 = 3 := by omega
  rcases hq with hq | hq | hq | hq
  · exact expand_q0 x w hx hx' hq
  · exact expand_q1 x w hx hx' hq
  · exact expand_q2 x w hx hx' hq
  · exact expand_q3 x w hx hx' hq

end Go.Proofs.YtndpgakjpokllaaGreat

/- Plain: the numbers of a parcel, bit by bit, and by runs of bits. -/
namespace Go.Proofs.YtndpgakjpokllaaGreat
open Go.RowKit
set_option linter.unusedVariables false
set_option linter.unusedSimpArgs false

theorem fld_more (x : Int) (l n : Nat) : fld x l (n + 1) = fld x (l + 1) n * 2 + fld x l 1 := by
  unfold fld
  rw [Int.pow_succ, Int.pow_succ, Int.pow_one, Int.mul_comm (2 ^ l) 2]
  rw [show (2 : Int) * 2 ^ l = 2 ^ l * 2 from Int.mul_comm _ _, ← Int.ediv_ediv_of_nonneg (Int.le_of_lt (pow_pos' l)), Int.mul_comm (2 ^ n) 2]
  generalize x / 2 ^ l = y
  rw [Int.emod_def y (2 * 2 ^ n), Int.emod_def (y / 2) (2 ^ n), Int.ediv_ediv_of_nonneg (by omega : (0 : Int) ≤ 2), Int.mul_assoc]
  generalize (2 : Int) ^ n * (y / (2 * 2 ^ n)) = z
  omega

def bt (x : Int) (l : Nat) : Int := fld x l 1

theorem f1 (x : Int) (l : Nat) : fld x l 1 = bt x l := rfl

theorem f2 (x : Int) (l : Nat) : fld x l 2 = bt x (l + 1) * 2 + bt x l := fld_more x l 1

theorem f3 (x : Int) (l : Nat) : fld x l 3 = (bt x (l + 2) * 2 + bt x (l + 1)) * 2 + bt x l := by rw [fld_more x l 2, f2]; rfl

theorem f4 (x : Int) (l : Nat) : fld x l 4 = ((bt x (l + 3) * 2 + bt x (l + 2)) * 2 + bt x (l + 1)) * 2 + bt x l := by rw [fld_more x l 3, f3]; rfl

def hstep (x v i : Int) : Int := if 0 ≤ i then (2 * v % 4294967296 + fld x i.toNat 1) % 4294967296 else 2 * v % 4294967296

/-- A number whose highest bits are told, with no bound. -/
def hr (x : Int) : Int → List Int → Int
  | v, [] => v
  | v, i :: t => hr x (if 0 ≤ i then v * 2 + bt x i.toNat else v * 2) t

end Go.Proofs.YtndpgakjpokllaaGreat

/- Plain: what a parcel stands for may be. -/
namespace Go.Proofs.YtndpgakjpokllaaGreat
open Go.RowKit
set_option linter.unusedVariables false
set_option linter.unusedSimpArgs false

theorem fit12 (v : Int) (h : -2048 ≤ v) (h' : v ≤ 2047) : fitB v 12 = true := by
  unfold fitB sgn Int.bmod
  simp
  split <;> omega

theorem fit13 (v : Int) (h : -4096 ≤ v) (h' : v ≤ 4095) : fitB v 13 = true := by
  unfold fitB sgn Int.bmod
  simp
  split <;> omega

theorem fit21 (v : Int) (h : -1048576 ≤ v) (h' : v ≤ 1048575) : fitB v 21 = true := by
  unfold fitB sgn Int.bmod
  simp
  split <;> omega

theorem j_bd (x : Int) : -2048 ≤ jP x ∧ jP x ≤ 2047 ∧ jP x % 2 = 0 := by
  unfold jP
  generalize runsV x 0 rsJ = v
  have := sgn_range (v * 2 % 4294967296) 12
  have e : (2 : Int) ^ 12 = 4096 := by decide
  refine ⟨by omega, by omega, ?_⟩
  unfold sgn Int.bmod
  simp
  split <;> omega

theorem br_bd (x : Int) : -256 ≤ brP x ∧ brP x ≤ 255 ∧ brP x % 2 = 0 := by
  unfold brP
  generalize runsV x 0 rsB = v
  have := sgn_range (v * 2 % 4294967296) 9
  have e : (2 : Int) ^ 9 = 512 := by decide
  refine ⟨by omega, by omega, ?_⟩
  unfold sgn Int.bmod
  simp
  split <;> omega

theorem far_bd (x : Int) : -512 ≤ farP x ∧ farP x ≤ 511 := by
  unfold farP
  generalize runsV x 0 rsF = v
  have := sgn_range (v * 16 % 4294967296) 10
  have e : (2 : Int) ^ 10 = 1024 := by decide
  omega

theorem mayn (op rd rs1 imm : Int) (hf : formN op = 6 ∨ formN op = 4) (h1 : 0 ≤ rd) (h2 : rd ≤ 31) (h3 : 0 ≤ rs1) (h4 : rs1 ≤ 31) (h5 : -2048 ≤ imm) (h6 : imm ≤ 2047) : mayB op rd rs1 0 imm = true := by
  have h := fit12 imm h5 h6
  rcases hf with hf | hf <;> simp [mayB, hf, regB, needD, needS, needT, numB, h, h1, h2, h3, h4]

theorem maysh (op rd rs1 imm : Int) (hf : formN op = 7) (h1 : 0 ≤ rd) (h2 : rd ≤ 31) (h3 : 0 ≤ rs1) (h4 : rs1 ≤ 31) (h5 : 0 ≤ imm) (h6 : imm ≤ 31) : mayB op rd rs1 0 imm = true := by
  simp [mayB, hf, regB, needD, needS, needT, numB, h1, h2, h3, h4, h5, h6]

theorem mayst (op rs1 rs2 imm : Int) (hf : formN op = 5) (h1 : 0 ≤ rs2) (h2 : rs2 ≤ 31) (h3 : 0 ≤ rs1) (h4 : rs1 ≤ 31) (h5 : -2048 ≤ imm) (h6 : imm ≤ 2047) : mayB op 0 rs1 rs2 imm = true := by
  have h := fit12 imm h5 h6
  simp [mayB, hf, regB, needD, needS, needT, numB, h, h1, h2, h3, h4]

theorem mayre (op rd rs1 rs2 : Int) (hf : formN op = 8) (h1 : 0 ≤ rs2) (h2 : rs2 ≤ 31) (h3 : 0 ≤ rs1) (h4 : rs1 ≤ 31) (h5 : 0 ≤ rd) (h6 : rd ≤ 31) : mayB op rd rs1 rs2 0 = true := by
  simp [mayB, hf, regB, needD, needS, needT, numB, h1, h2, h3, h4, h5, h6]

theorem maybr (op rs1 rs2 imm : Int) (hf : formN op = 3) (h1 : 0 ≤ rs2) (h2 : rs2 ≤ 31) (h3 : 0 ≤ rs1) (h4 : rs1 ≤ 31) (h5 : -256 ≤ imm) (h6 : imm ≤ 255) (h7 : imm % 2 = 0) : mayB op 0 rs1 rs2 imm = true := by
  have h := fit13 imm (by omega) (by omega)
  simp [mayB, hf, regB, needD, needS, needT, numB, h, h1, h2, h3, h4, h7]

theorem mayju (op rd imm : Int) (hf : formN op = 2) (h1 : 0 ≤ rd) (h2 : rd ≤ 31) (h5 : -2048 ≤ imm) (h6 : imm ≤ 2047) (h7 : imm % 2 = 0) : mayB op rd 0 0 imm = true := by
  have h := fit21 imm (by omega) (by omega)
  simp [mayB, hf, regB, needD, needS, needT, numB, h, h1, h2, h7]

theorem mayup (op rd imm : Int) (hf : formN op = 1) (h1 : 0 ≤ rd) (h2 : rd ≤ 31) (h7 : imm % 4096 = 0) : mayB op rd 0 0 imm = true := by
  simp [mayB, hf, regB, needD, needS, needT, numB, h1, h2, h7]

/-- An instruction that may be, and whose number is one of 32 bits. -/
def okI (i : In5) : Prop := i = none5 ∨ (0 < i.op ∧ mayB i.op i.rd i.rs1 i.rs2 i.imm = true)

theorem ok_none : okI none5 := Or.inl rfl

theorem ok_of (op rd rs1 rs2 imm : Int) (h : 0 < op) (h' : mayB op rd rs1 rs2 imm = true) : okI ⟨op, rd, rs1, rs2, imm⟩ := Or.inr ⟨h, h'⟩

theorem ok_fst (x : Int) : okI (fstI x (fld x 13 3) (8 + fld x 7 3) (8 + fld x 2 3)) := by
  have g0 := fld_nonneg x 7 3
  have g1 : fld x 7 3 < 8 := fld_lt x 7 3
  have k0 := fld_nonneg x 2 3
  have k1 : fld x 2 3 < 8 := fld_lt x 2 3
  obtain ⟨u1, u2⟩ := u_bd x
  obtain ⟨n1, n2⟩ := near_bd x
  unfold fstI
  repeat' split
  · exact ok_none
  · exact ok_of _ _ _ _ _ (by decide) (mayn 19 _ _ _ (Or.inl (by decide)) (by omega) (by omega) (by omega) (by omega) (by omega) (by omega))
  · exact ok_of _ _ _ _ _ (by decide) (mayn 13 _ _ _ (Or.inr (by decide)) (by omega) (by omega) (by omega) (by omega) (by omega) (by omega))
  · exact ok_of _ _ _ _ _ (by decide) (mayst 18 _ _ _ (by decide) (by omega) (by omega) (by omega) (by omega) (by omega) (by omega))
  · exact ok_none

theorem ok_upp (x : Int) : okI (uppI x (fld x 7 5) (n6P x)) := by
  have r0 := fld_nonneg x 7 5
  have r1 : fld x 7 5 < 32 := fld_lt x 7 5
  obtain ⟨m0, m1⟩ := n6_bd x
  obtain ⟨u1, u2⟩ := far_bd x
  unfold uppI
  repeat' split
  · exact ok_none
  · exact ok_of _ _ _ _ _ (by decide) (mayn 19 _ _ _ (Or.inl (by decide)) (by omega) (by omega) (by omega) (by omega) (by omega) (by omega))
  · exact ok_of _ _ _ _ _ (by decide) (mayup 1 _ _ (by decide) (by omega) (by omega) (by simp only [wrap32]; omega))

theorem ok_rec (x : Int) : okI (recI (8 + fld x 7 3) (8 + fld x 2 3) (fld x 12 1) (n6P x) (fld x 2 5) (fld x 10 2) (fld x 5 2)) := by
  have g0 := fld_nonneg x 7 3
  have g1 : fld x 7 3 < 8 := fld_lt x 7 3
  have k0 := fld_nonneg x 2 3
  have k1 : fld x 2 3 < 8 := fld_lt x 2 3
  have p0 := fld_nonneg x 2 5
  have p1 : fld x 2 5 < 32 := fld_lt x 2 5
  obtain ⟨m0, m1⟩ := n6_bd x
  unfold recI
  split
  · exact ok_of _ _ _ _ _ (by decide) (mayn 24 _ _ _ (Or.inl (by decide)) (by omega) (by omega) (by omega) (by omega) (by omega) (by omega))
  split
  · exact ok_none
  split
  · exact ok_of _ _ _ _ _ (by decide) (maysh 26 _ _ _ (by decide) (by omega) (by omega) (by omega) (by omega) (by omega) (by omega))
  split
  · exact ok_of _ _ _ _ _ (by decide) (maysh 27 _ _ _ (by decide) (by omega) (by omega) (by omega) (by omega) (by omega) (by omega))
  split
  · exact ok_of _ _ _ _ _ (by decide) (mayre 29 _ _ _ (by decide) (by omega) (by omega) (by omega) (by omega) (by omega) (by omega))
  split
  · exact ok_of _ _ _ _ _ (by decide) (mayre 33 _ _ _ (by decide) (by omega) (by omega) (by omega) (by omega) (by omega) (by omega))
  split
  · exact ok_of _ _ _ _ _ (by decide) (mayre 36 _ _ _ (by decide) (by omega) (by omega) (by omega) (by omega) (by omega) (by omega))
  · exact ok_of _ _ _ _ _ (by decide) (mayre 37 _ _ _ (by decide) (by omega) (by omega) (by omega) (by omega) (by omega) (by omega))

theorem ok_snd (x : Int) : okI (sndI x (fld x 13 3) (fld x 7 5) (8 + fld x 7 3) (8 + fld x 2 3) (fld x 12 1) (n6P x) (jP x) (fld x 2 5) (fld x 10 2) (fld x 5 2)) := by
  have r0 := fld_nonneg x 7 5
  have r1 : fld x 7 5 < 32 := fld_lt x 7 5
  have g0 := fld_nonneg x 7 3
  have g1 : fld x 7 3 < 8 := fld_lt x 7 3
  obtain ⟨m0, m1⟩ := n6_bd x
  obtain ⟨j0, j1, j2⟩ := j_bd x
  obtain ⟨b0, b1, b2⟩ := br_bd x
  unfold sndI
  split
  · exact ok_of _ _ _ _ _ (by decide) (mayn 19 _ _ _ (Or.inl (by decide)) (by omega) (by omega) (by omega) (by omega) (by omega) (by omega))
  split
  · exact ok_of _ _ _ _ _ (by decide) (mayju 3 _ _ (by decide) (by omega) (by omega) (by omega) (by omega) (by omega))
  split
  · exact ok_of _ _ _ _ _ (by decide) (mayn 19 _ _ _ (Or.inl (by decide)) (by omega) (by omega) (by omega) (by omega) (by omega) (by omega))
  split
  · exact ok_upp x
  split
  · exact ok_rec x
  split
  · exact ok_of _ _ _ _ _ (by decide) (mayju 3 _ _ (by decide) (by omega) (by omega) (by omega) (by omega) (by omega))
  split
  · exact ok_of _ _ _ _ _ (by decide) (maybr 5 _ _ _ (by decide) (by omega) (by omega) (by omega) (by omega) (by omega) (by omega) (by omega))
  · exact ok_of _ _ _ _ _ (by decide) (maybr 6 _ _ _ (by decide) (by omega) (by omega) (by omega) (by omega) (by omega) (by omega) (by omega))

theorem ok_thd (x : Int) : okI (thdI x (fld x 13 3) (fld x 7 5) (fld x 2 5) (fld x 12 1) (fld x 2 5)) := by
  have r0 := fld_nonneg x 7 5
  have r1 : fld x 7 5 < 32 := fld_lt x 7 5
  have p0 := fld_nonneg x 2 5
  have p1 : fld x 2 5 < 32 := fld_lt x 2 5
  have b0 := fld_nonneg x 12 1
  have b1 : fld x 12 1 < 2 := fld_lt x 12 1
  obtain ⟨m0, m1⟩ := ls_bd x
  obtain ⟨s0, s1⟩ := ss_bd x
  unfold thdI movI
  repeat' split
  · exact ok_of _ _ _ _ _ (by decide) (maysh 25 _ _ _ (by decide) (by omega) (by omega) (by omega) (by omega) (by omega) (by omega))
  · exact ok_none
  · exact ok_none
  · exact ok_of _ _ _ _ _ (by decide) (mayn 13 _ _ _ (Or.inr (by decide)) (by omega) (by omega) (by omega) (by omega) (by omega) (by omega))
  · exact ok_of _ _ _ _ _ (by decide) (by decide)
  · exact ok_none
  · exact ok_of _ _ _ _ _ (by decide) (mayn 4 _ _ _ (Or.inr (by decide)) (by omega) (by omega) (by omega) (by omega) (by omega) (by omega))
  · exact ok_of _ _ _ _ _ (by decide) (mayre 28 _ _ _ (by decide) (by omega) (by omega) (by omega) (by omega) (by omega) (by omega))
  · exact ok_of _ _ _ _ _ (by decide) (mayre 28 _ _ _ (by decide) (by omega) (by omega) (by omega) (by omega) (by omega) (by omega))
  · exact ok_of _ _ _ _ _ (by decide) (mayst 18 _ _ _ (by decide) (by omega) (by omega) (by omega) (by omega) (by omega) (by omega))
  · exact ok_none

theorem ok_exp (x : Int) : okI (expI x) := by
  unfold expI
  split
  · exact ok_fst x
  split
  · exact ok_snd x
  split
  · exact ok_thd x
  · exact ok_none

theorem exp_eq (x : Int) : expJ x = expI x := by
  unfold expJ
  rcases ok_exp x with h | ⟨h, _⟩
  · rw [h]; rfl
  · rw [if_neg (by omega)]

theorem exp_may (x : Int) (h : ((expI x).op == 0) = false) : mayB (expI x).op (expI x).rd (expI x).rs1 (expI x).rs2 (expI x).imm = true := by
  rcases ok_exp x with h' | ⟨_, h'⟩
  · rw [h'] at h; exact absurd h (by decide)
  · exact h'

def bdI (i : In5) : Prop := -2147483648 ≤ i.imm ∧ i.imm ≤ 2147483647

theorem bd_ite {c : Prop} [Decidable c] {a b : In5} (h1 : bdI a) (h2 : bdI b) : bdI (if c then a else b) := by split <;> assumption

theorem bd_none : bdI none5 := ⟨by decide, by decide⟩

theorem bd_of (op rd rs1 rs2 imm : Int) (h : -2147483648 ≤ imm) (h' : imm ≤ 2147483647) : bdI ⟨op, rd, rs1, rs2, imm⟩ := ⟨h, h'⟩

theorem exp_imm (x : Int) : -2147483648 ≤ (expI x).imm ∧ (expI x).imm ≤ 2147483647 := by
  obtain ⟨u1, u2⟩ := u_bd x
  obtain ⟨n1, n2⟩ := near_bd x
  obtain ⟨m0, m1⟩ := n6_bd x
  obtain ⟨j0, j1, j2⟩ := j_bd x
  obtain ⟨b0, b1, b2⟩ := br_bd x
  obtain ⟨l0, l1⟩ := ls_bd x
  obtain ⟨s0, s1⟩ := ss_bd x
  obtain ⟨w1, w2⟩ := far_bd x
  have p0 := fld_nonneg x 2 5
  have p1 : fld x 2 5 < 32 := fld_lt x 2 5
  show bdI (expI x)
  unfold expI fstI sndI thdI uppI recI movI
  repeat' (with_reducible first | apply bd_ite | exact bd_none)
  all_goals (apply bd_of <;> (try simp only [wrap32]) <;> omega)

theorem fld_q (x : Int) : fld x 0 2 = x % 4 := by
  unfold fld
  simp

end Go.Proofs.YtndpgakjpokllaaGreat

