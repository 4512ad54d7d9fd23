/- Contracts of package slim: Expand. -/
import Derived.Test.YtcdjabfhmhibjaaSlimq
import Derived.Test.YtcdjabfhmhibjaaSlimr
namespace Go.Proofs.Ytcdjabfhmhibjaa
open Go.RowKit
set_option linter.unusedVariables false
set_option linter.unusedSimpArgs false

/-- What a parcel stands for; of the operation 0: nothing. -/
def expI (x : Int) : In5 :=
  if fld x 0 2 = 0 then fstI x (fld x 13 3) (8 + fld x 7 3) (8 + fld x 2 3)
  else if fld x 0 2 = 1 then sndI x (fld x 13 3) (fld x 7 5) (8 + fld x 7 3) (8 + fld x 2 3) (fld x 12 1) (n6P x) (jP x) (fld x 2 5) (fld x 10 2) (fld x 5 2)
  else if fld x 0 2 = 2 then thdI x (fld x 13 3) (fld x 7 5) (fld x 2 5) (fld x 12 1) (fld x 2 5)
  else none5

def expJ (x : Int) : In5 := if (expI x).op = 0 then none5 else expI x

theorem n6_bd (x : Int) : -32 ≤ n6P x ∧ n6P x ≤ 31 := by
  have := sgn_range (runsV x 0 [(12, 1), (2, 5)] % 4294967296) 6
  have e : (2 : Int) ^ 6 = 64 := by decide
  unfold n6P
  omega

theorem par_set (x : Int) (b : Nat) (w : World) : (w.alloc (.cells #[.int .u32 0, .int .u32 0, .int .i64 0, .int .i64 0, .int .i64 0, .int .i64 0, .int .u32 0, .int .i32 0, .int .i32 0, .int .i32 0, .nilFunc, .int .u32 0, .int .u32 0] 35)).setCells w.heap.size 0 (parA x b).toList = w.alloc (.cells (parA x b) 35) := by
  simp [World.setCells, parA, go_sem]

theorem par_there (w : World) : (w.alloc (.cells #[.int .u32 0, .int .u32 0, .int .i64 0, .int .i64 0, .int .i64 0, .int .i64 0, .int .u32 0, .int .i32 0, .int .i32 0, .int .i32 0, .nilFunc, .int .u32 0, .int .u32 0] 35)).there w.heap.size 0 13 := there_new (Nx.refl _) 13 rfl

set_option maxHeartbeats 4000000 in
theorem expand_q0 (x : Int) (w : World) (hx : 0 ≤ x) (hx' : x < 65536) (hq : fld x 0 2 = 0) :
    Calls Try.prog 6 #[.int .u16 x] w fun e w' => e = .returned (.tuple #[.agg #[.int .i64 (expJ x).op, .int .i64 (expJ x).rd, .int .i64 (expJ x).rs1, .int .i64 (expJ x).rs2, .int .i32 (expJ x).imm], .bool (!((expI x).op == 0))]) ∧ Nx w w' := by
  have f0 := fld_nonneg x 13 3
  have f1 : fld x 13 3 < 8 := fld_lt x 13 3
  have g0 := fld_nonneg x 12 1
  have g1 : fld x 12 1 < 2 := fld_lt x 12 1
  have k0 := fld_nonneg x 10 2
  have k1 : fld x 10 2 < 4 := fld_lt x 10 2
  have l0 := fld_nonneg x 5 2
  have l1 : fld x 5 2 < 4 := fld_lt x 5 2
  obtain ⟨m0, m1⟩ := n6_bd x
  have hf : fld x 13 3 = 0 ∨ fld x 13 3 = 1 ∨ fld x 13 3 = 2 ∨ fld x 13 3 = 3 ∨ fld x 13 3 = 4 ∨ fld x 13 3 = 5 ∨ fld x 13 3 = 6 ∨ fld x 13 3 = 7 := by omega
  have hg : fld x 12 1 = 0 ∨ fld x 12 1 = 1 := by omega
  have hk : fld x 10 2 = 0 ∨ fld x 10 2 = 1 ∨ fld x 10 2 = 2 ∨ fld x 10 2 = 3 := by omega
  have hl : fld x 5 2 = 0 ∨ fld x 5 2 = 1 ∨ fld x 5 2 = 2 ∨ fld x 5 2 = 3 := by omega
  have HF := Lib.hid hf
  have HG := Lib.hid hg
  have HK := Lib.hid hk
  have HL := Lib.hid hl
  clear hf hg hk hl
  have eI : expI x = fstI x (fld x 13 3) (8 + fld x 7 3) (8 + fld x 2 3) := by unfold expI; simp [hq]
  generalize hI : expI x = I at eI
  have eJ : expJ x = if I.op = 0 then none5 else I := by unfold expJ; rw [hI]
  rw [eJ]
  clear eJ
  cases h : (I.op == 0)
  · have h' : ¬ I.op = 0 := beq_eq_false_iff_ne.1 h
    rw [if_neg h']
    clear h'
    go_enter Try.func6, Try.ntmps6
    go_wp2_with fail
    refine (split_any _ _ hx hx').mono ?_
    rintro e w1 ⟨b, rfl, hb, hn1⟩
    go_wp2_with (refine wpList_store_mid (by rfl) 35 _ _ (by rfl) w1.heap.size 0 (parA x b) (by rfl) (by rfl) (par_there w1) par_info (par_one x b) ?_; rw [par_set]; unfold parA)
    refine (first_any x _ _ _ _ _ _ _ _ _ _ b _ _ _ hx hx' ((((Nx.refl w1).alloc _).alloc _).cell hb)).mono ?_
    rw [← eI]
    clear eI
    rintro e w2 ⟨rfl, hn2⟩
    obtain ⟨c0, c1, c2, c3, c4, z0, z1, z2, z3, z4, hz⟩ := five_res hn2
    obtain ⟨d0, d1, d2, d3, d4, y0, y1, y2, y3, y4, hy⟩ := five_cells (hn1.trans ((((Nx.refl w1).alloc _).alloc _).trans hn2))
    have HN := Lib.hid (((Nx.refl w).alloc _).trans (hn1.trans ((((Nx.refl w1).alloc _).alloc _).trans hn2)))
    have hzz : w.heap.size < w1.heap.size := by have := hn1.size; simp at this; omega
    have hz1 : ¬ w1.heap.size = w.heap.size := by omega
    have hz2 : ¬ w1.heap.size + 1 = w.heap.size := by omega
    have hz3 : ¬ w.heap.size = w1.heap.size + 1 := by omega
    clear hn1 hn2
    unfold insV
    go_wp2
    refine bodyPost_ret (v := .tuple #[.agg #[.int .i64 I.op, .int .i64 I.rd, .int .i64 I.rs1, .int .i64 I.rs2, .int .i32 I.imm], .bool true]) (by simp [results, Try.results6, go_sem, c0, c1, c2, c3, c4, d0, d1, d2, d3, d4, hy, hz, hz1, hz2, hz3]) rfl ⟨rfl, ?_⟩
    repeat (with_reducible first | exact HN.out | refine Nx.alloc ?_ _ | refine Nx.setCell ?_ (Nat.le_refl _) _ | refine Nx.setCell ?_ (Nat.le_succ_of_le (Nat.le_of_lt hzz)) _)
  · have h' : I.op = 0 := beq_iff_eq.1 h
    rw [if_pos h']
    clear h'
    go_enter Try.func6, Try.ntmps6
    go_wp2_with fail
    refine (split_any _ _ hx hx').mono ?_
    rintro e w1 ⟨b, rfl, hb, hn1⟩
    go_wp2_with (refine wpList_store_mid (by rfl) 35 _ _ (by rfl) w1.heap.size 0 (parA x b) (by rfl) (by rfl) (par_there w1) par_info (par_one x b) ?_; rw [par_set]; unfold parA)
    refine (first_any x _ _ _ _ _ _ _ _ _ _ b _ _ _ hx hx' ((((Nx.refl w1).alloc _).alloc _).cell hb)).mono ?_
    rw [← eI]
    clear eI
    rintro e w2 ⟨rfl, hn2⟩
    obtain ⟨c0, c1, c2, c3, c4, z0, z1, z2, z3, z4, hz⟩ := five_res hn2
    obtain ⟨d0, d1, d2, d3, d4, y0, y1, y2, y3, y4, hy⟩ := five_cells (hn1.trans ((((Nx.refl w1).alloc _).alloc _).trans hn2))
    have HN := Lib.hid (((Nx.refl w).alloc _).trans (hn1.trans ((((Nx.refl w1).alloc _).alloc _).trans hn2)))
    have hzz : w.heap.size < w1.heap.size := by have := hn1.size; simp at this; omega
    have hz1 : ¬ w1.heap.size = w.heap.size := by omega
    have hz2 : ¬ w1.heap.size + 1 = w.heap.size := by omega
    have hz3 : ¬ w.heap.size = w1.heap.size + 1 := by omega
    clear hn1 hn2
    unfold insV
    go_wp2
    refine bodyPost_ret (v := .tuple #[.agg #[.int .i64 0, .int .i64 0, .int .i64 0, .int .i64 0, .int .i32 0], .bool false]) (by simp [results, Try.results6, go_sem, c0, c1, c2, c3, c4, d0, d1, d2, d3, d4, hy, hz, hz1, hz2, hz3]) rfl ⟨by simp [none5], ?_⟩
    repeat (with_reducible first | exact HN.out | refine Nx.alloc ?_ _ | refine Nx.setCell ?_ (Nat.le_refl _) _ | refine Nx.setCell ?_ (Nat.le_succ_of_le (Nat.le_of_lt hzz)) _)

set_option maxHeartbeats 4000000 in
theorem expand_q1 (x : Int) (w : World) (hx : 0 ≤ x) (hx' : x < 65536) (hq : fld x 0 2 = 1) :
    Calls Try.prog 6 #[.int .u16 x] w fun e w' => e = .returned (.tuple #[.agg #[.int .i64 (expJ x).op, .int .i64 (expJ x).rd, .int .i64 (expJ x).rs1, .int .i64 (expJ x).rs2, .int .i32 (expJ x).imm], .bool (!((expI x).op == 0))]) ∧ Nx w w' := by
  have f0 := fld_nonneg x 13 3
  have f1 : fld x 13 3 < 8 := fld_lt x 13 3
  have g0 := fld_nonneg x 12 1
  have g1 : fld x 12 1 < 2 := fld_lt x 12 1
  have k0 := fld_nonneg x 10 2
  have k1 : fld x 10 2 < 4 := fld_lt x 10 2
  have l0 := fld_nonneg x 5 2
  have l1 : fld x 5 2 < 4 := fld_lt x 5 2
  obtain ⟨m0, m1⟩ := n6_bd x
  have hf : fld x 13 3 = 0 ∨ fld x 13 3 = 1 ∨ fld x 13 3 = 2 ∨ fld x 13 3 = 3 ∨ fld x 13 3 = 4 ∨ fld x 13 3 = 5 ∨ fld x 13 3 = 6 ∨ fld x 13 3 = 7 := by omega
  have hg : fld x 12 1 = 0 ∨ fld x 12 1 = 1 := by omega
  have hk : fld x 10 2 = 0 ∨ fld x 10 2 = 1 ∨ fld x 10 2 = 2 ∨ fld x 10 2 = 3 := by omega
  have hl : fld x 5 2 = 0 ∨ fld x 5 2 = 1 ∨ fld x 5 2 = 2 ∨ fld x 5 2 = 3 := by omega
  have HF := Lib.hid hf
  have HG := Lib.hid hg
  have HK := Lib.hid hk
  have HL := Lib.hid hl
  clear hf hg hk hl
  have eI : expI x = sndI x (fld x 13 3) (fld x 7 5) (8 + fld x 7 3) (8 + fld x 2 3) (fld x 12 1) (n6P x) (jP x) (fld x 2 5) (fld x 10 2) (fld x 5 2) := by unfold expI; simp [hq]
  generalize hI : expI x = I at eI
  have eJ : expJ x = if I.op = 0 then none5 else I := by unfold expJ; rw [hI]
  rw [eJ]
  clear eJ
  cases h : (I.op == 0)
  · have h' : ¬ I.op = 0 := beq_eq_false_iff_ne.1 h
    rw [if_neg h']
    clear h'
    go_enter Try.func6, Try.ntmps6
    go_wp2_with fail
    refine (split_any _ _ hx hx').mono ?_
    rintro e w1 ⟨b, rfl, hb, hn1⟩
    go_wp2_with (refine wpList_store_mid (by rfl) 35 _ _ (by rfl) w1.heap.size 0 (parA x b) (by rfl) (by rfl) (par_there w1) par_info (par_one x b) ?_; rw [par_set]; unfold parA)
    refine (second_any x _ _ _ _ _ _ _ _ _ _ b _ _ _ hx hx' HF.out m0 m1 HG.out HK.out HL.out ((((Nx.refl w1).alloc _).alloc _).cell hb)).mono ?_
    rw [← eI]
    clear eI
    rintro e w2 ⟨rfl, hn2⟩
    obtain ⟨c0, c1, c2, c3, c4, z0, z1, z2, z3, z4, hz⟩ := five_res hn2
    obtain ⟨d0, d1, d2, d3, d4, y0, y1, y2, y3, y4, hy⟩ := five_cells (hn1.trans ((((Nx.refl w1).alloc _).alloc _).trans hn2))
    have HN := Lib.hid (((Nx.refl w).alloc _).trans (hn1.trans ((((Nx.refl w1).alloc _).alloc _).trans hn2)))
    have hzz : w.heap.size < w1.heap.size := by have := hn1.size; simp at this; omega
    have hz1 : ¬ w1.heap.size = w.heap.size := by omega
    have hz2 : ¬ w1.heap.size + 1 = w.heap.size := by omega
    have hz3 : ¬ w.heap.size = w1.heap.size + 1 := by omega
    clear hn1 hn2
    unfold insV
    go_wp2
    refine bodyPost_ret (v := .tuple #[.agg #[.int .i64 I.op, .int .i64 I.rd, .int .i64 I.rs1, .int .i64 I.rs2, .int .i32 I.imm], .bool true]) (by simp [results, Try.results6, go_sem, c0, c1, c2, c3, c4, d0, d1, d2, d3, d4, hy, hz, hz1, hz2, hz3]) rfl ⟨rfl, ?_⟩
    repeat (with_reducible first | exact HN.out | refine Nx.alloc ?_ _ | refine Nx.setCell ?_ (Nat.le_refl _) _ | refine Nx.setCell ?_ (Nat.le_succ_of_le (Nat.le_of_lt hzz)) _)
  · have h' : I.op = 0 := beq_iff_eq.1 h
    rw [if_pos h']
    clear h'
    go_enter Try.func6, Try.ntmps6
    go_wp2_with fail
    refine (split_any _ _ hx hx').mono ?_
    rintro e w1 ⟨b, rfl, hb, hn1⟩
    go_wp2_with (refine wpList_store_mid (by rfl) 35 _ _ (by rfl) w1.heap.size 0 (parA x b) (by rfl) (by rfl) (par_there w1) par_info (par_one x b) ?_; rw [par_set]; unfold parA)
    refine (second_any x _ _ _ _ _ _ _ _ _ _ b _ _ _ hx hx' HF.out m0 m1 HG.out HK.out HL.out ((((Nx.refl w1).alloc _).alloc _).cell hb)).mono ?_
    rw [← eI]
    clear eI
    rintro e w2 ⟨rfl, hn2⟩
    obtain ⟨c0, c1, c2, c3, c4, z0, z1, z2, z3, z4, hz⟩ := five_res hn2
    obtain ⟨d0, d1, d2, d3, d4, y0, y1, y2, y3, y4, hy⟩ := five_cells (hn1.trans ((((Nx.refl w1).alloc _).alloc _).trans hn2))
    have HN := Lib.hid (((Nx.refl w).alloc _).trans (hn1.trans ((((Nx.refl w1).alloc _).alloc _).trans hn2)))
    have hzz : w.heap.size < w1.heap.size := by have := hn1.size; simp at this; omega
    have hz1 : ¬ w1.heap.size = w.heap.size := by omega
    have hz2 : ¬ w1.heap.size + 1 = w.heap.size := by omega
    have hz3 : ¬ w.heap.size = w1.heap.size + 1 := by omega
    clear hn1 hn2
    unfold insV
    go_wp2
    refine bodyPost_ret (v := .tuple #[.agg #[.int .i64 0, .int .i64 0, .int .i64 0, .int .i64 0, .int .i32 0], .bool false]) (by simp [results, Try.results6, go_sem, c0, c1, c2, c3, c4, d0, d1, d2, d3, d4, hy, hz, hz1, hz2, hz3]) rfl ⟨by simp [none5], ?_⟩
    repeat (with_reducible first | exact HN.out | refine Nx.alloc ?_ _ | refine Nx.setCell ?_ (Nat.le_refl _) _ | refine Nx.setCell ?_ (Nat.le_succ_of_le (Nat.le_of_lt hzz)) _)

set_option maxHeartbeats 4000000 in
theorem expand_q2 (x : Int) (w : World) (hx : 0 ≤ x) (hx' : x < 65536) (hq : fld x 0 2 = 2) :
    Calls Try.prog 6 #[.int .u16 x] w fun e w' => e = .returned (.tuple #[.agg #[.int .i64 (expJ x).op, .int .i64 (expJ x).rd, .int .i64 (expJ x).rs1, .int .i64 (expJ x).rs2, .int .i32 (expJ x).imm], .bool (!((expI x).op == 0))]) ∧ Nx w w' := by
  have f0 := fld_nonneg x 13 3
  have f1 : fld x 13 3 < 8 := fld_lt x 13 3
  have g0 := fld_nonneg x 12 1
  have g1 : fld x 12 1 < 2 := fld_lt x 12 1
  have k0 := fld_nonneg x 10 2
  have k1 : fld x 10 2 < 4 := fld_lt x 10 2
  have l0 := fld_nonneg x 5 2
  have l1 : fld x 5 2 < 4 := fld_lt x 5 2
  obtain ⟨m0, m1⟩ := n6_bd x
  have hf : fld x 13 3 = 0 ∨ fld x 13 3 = 1 ∨ fld x 13 3 = 2 ∨ fld x 13 3 = 3 ∨ fld x 13 3 = 4 ∨ fld x 13 3 = 5 ∨ fld x 13 3 = 6 ∨ fld x 13 3 = 7 := by omega
  have hg : fld x 12 1 = 0 ∨ fld x 12 1 = 1 := by omega
  have hk : fld x 10 2 = 0 ∨ fld x 10 2 = 1 ∨ fld x 10 2 = 2 ∨ fld x 10 2 = 3 := by omega
  have hl : fld x 5 2 = 0 ∨ fld x 5 2 = 1 ∨ fld x 5 2 = 2 ∨ fld x 5 2 = 3 := by omega
  have HF := Lib.hid hf
  have HG := Lib.hid hg
  have HK := Lib.hid hk
  have HL := Lib.hid hl
  clear hf hg hk hl
  have eI : expI x = thdI x (fld x 13 3) (fld x 7 5) (fld x 2 5) (fld x 12 1) (fld x 2 5) := by unfold expI; simp [hq]
  generalize hI : expI x = I at eI
  have eJ : expJ x = if I.op = 0 then none5 else I := by unfold expJ; rw [hI]
  rw [eJ]
  clear eJ
  cases h : (I.op == 0)
  · have h' : ¬ I.op = 0 := beq_eq_false_iff_ne.1 h
    rw [if_neg h']
    clear h'
    go_enter Try.func6, Try.ntmps6
    go_wp2_with fail
    refine (split_any _ _ hx hx').mono ?_
    rintro e w1 ⟨b, rfl, hb, hn1⟩
    go_wp2_with (refine wpList_store_mid (by rfl) 35 _ _ (by rfl) w1.heap.size 0 (parA x b) (by rfl) (by rfl) (par_there w1) par_info (par_one x b) ?_; rw [par_set]; unfold parA)
    refine (third_any x _ _ _ _ _ _ _ _ _ _ b _ _ _ hx hx' HF.out g0 (by omega) ((((Nx.refl w1).alloc _).alloc _).cell hb)).mono ?_
    rw [← eI]
    clear eI
    rintro e w2 ⟨rfl, hn2⟩
    obtain ⟨c0, c1, c2, c3, c4, z0, z1, z2, z3, z4, hz⟩ := five_res hn2
    obtain ⟨d0, d1, d2, d3, d4, y0, y1, y2, y3, y4, hy⟩ := five_cells (hn1.trans ((((Nx.refl w1).alloc _).alloc _).trans hn2))
    have HN := Lib.hid (((Nx.refl w).alloc _).trans (hn1.trans ((((Nx.refl w1).alloc _).alloc _).trans hn2)))
    have hzz : w.heap.size < w1.heap.size := by have := hn1.size; simp at this; omega
    have hz1 : ¬ w1.heap.size = w.heap.size := by omega
    have hz2 : ¬ w1.heap.size + 1 = w.heap.size := by omega
    have hz3 : ¬ w.heap.size = w1.heap.size + 1 := by omega
    clear hn1 hn2
    unfold insV
    go_wp2
    refine bodyPost_ret (v := .tuple #[.agg #[.int .i64 I.op, .int .i64 I.rd, .int .i64 I.rs1, .int .i64 I.rs2, .int .i32 I.imm], .bool true]) (by simp [results, Try.results6, go_sem, c0, c1, c2, c3, c4, d0, d1, d2, d3, d4, hy, hz, hz1, hz2, hz3]) rfl ⟨rfl, ?_⟩
    repeat (with_reducible first | exact HN.out | refine Nx.alloc ?_ _ | refine Nx.setCell ?_ (Nat.le_refl _) _ | refine Nx.setCell ?_ (Nat.le_succ_of_le (Nat.le_of_lt hzz)) _)
  · have h' : I.op = 0 := beq_iff_eq.1 h
    rw [if_pos h']
    clear h'
    go_enter Try.func6, Try.ntmps6
    go_wp2_with fail
    refine (split_any _ _ hx hx').mono ?_
    rintro e w1 ⟨b, rfl, hb, hn1⟩
    go_wp2_with (refine wpList_store_mid (by rfl) 35 _ _ (by rfl) w1.heap.size 0 (parA x b) (by rfl) (by rfl) (par_there w1) par_info (par_one x b) ?_; rw [par_set]; unfold parA)
    refine (third_any x _ _ _ _ _ _ _ _ _ _ b _ _ _ hx hx' HF.out g0 (by omega) ((((Nx.refl w1).alloc _).alloc _).cell hb)).mono ?_
    rw [← eI]
    clear eI
    rintro e w2 ⟨rfl, hn2⟩
    obtain ⟨c0, c1, c2, c3, c4, z0, z1, z2, z3, z4, hz⟩ := five_res hn2
    obtain ⟨d0, d1, d2, d3, d4, y0, y1, y2, y3, y4, hy⟩ := five_cells (hn1.trans ((((Nx.refl w1).alloc _).alloc _).trans hn2))
    have HN := Lib.hid (((Nx.refl w).alloc _).trans (hn1.trans ((((Nx.refl w1).alloc _).alloc _).trans hn2)))
    have hzz : w.heap.size < w1.heap.size := by have := hn1.size; simp at this; omega
    have hz1 : ¬ w1.heap.size = w.heap.size := by omega
    have hz2 : ¬ w1.heap.size + 1 = w.heap.size := by omega
    have hz3 : ¬ w.heap.size = w1.heap.size + 1 := by omega
    clear hn1 hn2
    unfold insV
    go_wp2
    refine bodyPost_ret (v := .tuple #[.agg #[.int .i64 0, .int .i64 0, .int .i64 0, .int .i64 0, .int .i32 0], .bool false]) (by simp [results, Try.results6, go_sem, c0, c1, c2, c3, c4, d0, d1, d2, d3, d4, hy, hz, hz1, hz2, hz3]) rfl ⟨by simp [none5], ?_⟩
    repeat (with_reducible first | exact HN.out | refine Nx.alloc ?_ _ | refine Nx.setCell ?_ (Nat.le_refl _) _ | refine Nx.setCell ?_ (Nat.le_succ_of_le (Nat.le_of_lt hzz)) _)

set_option maxHeartbeats 4000000 in
theorem expand_q3 (x : Int) (w : World) (hx : 0 ≤ x) (hx' : x < 65536) (hq : fld x 0 2 = 3) :
    Calls Try.prog 6 #[.int .u16 x] w fun e w' => e = .returned (.tuple #[.agg #[.int .i64 (expJ x).op, .int .i64 (expJ x).rd, .int .i64 (expJ x).rs1, .int .i64 (expJ x).rs2, .int .i32 (expJ x).imm], .bool (!((expI x).op == 0))]) ∧ Nx w w' := by
  have eI : expI x = none5 := by unfold expI; simp [hq]
  have eJ : expJ x = none5 := by unfold expJ; rw [eI]; rfl
  rw [eI, eJ]
  clear eI eJ
  go_enter Try.func6, Try.ntmps6
  go_wp2_with fail
  refine (split_any _ _ hx hx').mono ?_
  rintro e w1 ⟨b, rfl, hb, hn1⟩
  obtain ⟨d0, d1, d2, d3, d4, y0, y1, y2, y3, y4, hy⟩ := five_cells hn1
  have HN := Lib.hid (((Nx.refl w).alloc _).trans hn1)
  have hz1 : ¬ w1.heap.size = w.heap.size := by omega
  have hz2 : ¬ w1.heap.size + 1 = w.heap.size := by omega
  have hz3 : ¬ w.heap.size = w1.heap.size + 1 := by omega
  have hz4 : ¬ w.heap.size = w1.heap.size := by omega
  clear hn1
  go_wp2_with (refine wpList_store_mid (by rfl) 35 _ _ (by rfl) w1.heap.size 0 (parA x b) (by rfl) (by rfl) (par_there w1) par_info (par_one x b) ?_; rw [par_set]; unfold parA)
  refine bodyPost_ret (v := .tuple #[.agg #[.int .i64 0, .int .i64 0, .int .i64 0, .int .i64 0, .int .i32 0], .bool false]) (by simp [results, Try.results6, go_sem, d0, d1, d2, d3, d4, hy, hz1, hz2, hz3, hz4]) rfl ⟨by simp [none5], ?_⟩
  repeat (with_reducible first | exact HN.out | refine Nx.alloc ?_ _ | refine Nx.setCell ?_ (Nat.le_refl _) _)

theorem expand_any (x : Int) (w : World) (hx : 0 ≤ x) (hx' : x < 65536) :
    Calls Try.prog 6 #[.int .u16 x] w fun e w' => e = .returned (.tuple #[.agg #[.int .i64 (expJ x).op, .int .i64 (expJ x).rd, .int .i64 (expJ x).rs1, .int .i64 (expJ x).rs2, .int .i32 (expJ x).imm], .bool (!((expI x).op == 0))]) ∧ Nx w w' := by
  have g0 := fld_nonneg x 0 2
  have g1 : fld x 0 2 < 4 := fld_lt x 0 2
  have hq : fld x 0 2 = 0 ∨ fld x 0 2 = 1 ∨ fld x 0 2 = 2 ∨ fld x 0 2 = 3 := by omega
  rcases hq with hq | hq | hq | hq
  · exact expand_q0 x w hx hx' hq
  · exact expand_q1 x w hx hx' hq
  · exact expand_q2 x w hx hx' hq
  · exact expand_q3 x w hx hx' hq

end Go.Proofs.Ytcdjabfhmhibjaa
