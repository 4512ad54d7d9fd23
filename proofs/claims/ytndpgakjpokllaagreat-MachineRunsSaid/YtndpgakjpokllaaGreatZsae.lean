/- Parts of the proof, one behind the other. -/
import Derived.StillTail
import Derived.Deep.Quiet
import Derived.Test.YtndpgakjpokllaaGreatZsab
import Derived.Test.YtndpgakjpokllaaGreatZsac
/- A region that draws its order, all of whose operations but the last few read memory that nobody turns, or call what makes new memory alone: one walk in the order of the text serves every order. The class of worlds is C. -/
namespace Go.Proofs.YtndpgakjpokllaaGreat
open Go.RowKit
set_option linter.unusedVariables false

section
variable {P : Program} {ops : Array Oper} {md : Region.Mode} {C : World → Prop}

/-- The head of a region, in whatever order: n operations, each quiet in C; then L. -/
def anyL (P : Program) (md : Region.Mode) (ops : Array Oper) (C : World → Prop) (n : Nat) (L : Array Bool → Act → Prop) : Nat → Array Bool → Act → Prop
  | 0, listed, a => L listed a
  | f + 1, listed, a => Region.ready md ops listed ≠ [] ∧ ∀ i ∈ Region.ready md ops listed, i < n ∧ qOp P ops C i (anyL P md ops C n L f (listed.setIfInBounds i true)) a

theorem any_of_head {n g : Nat} {L : Array Bool → Act → Prop} {Q' : Exit → Act → World → Prop} (hL : ∀ listed a w, C w → L listed a → wpAny P md ops Q' g listed a w) :
    ∀ (f : Nat) (listed : Array Bool) (a : Act) (w : World), C w → anyL P md ops C n L f listed a → wpAny P md ops Q' (f + g) listed a w := by
  intro f
  induction f with
  | zero => intro listed a w hw h; rw [Nat.zero_add]; exact hL _ _ _ hw h
  | succ f ih =>
    intro listed a w hw h
    rw [show f + 1 + g = (f + g) + 1 by omega]
    exact ⟨fun h0 => absurd h0 h.1, fun i hi => wpOp_of_qOp hw (fun a' w' hw' h' => ih _ a' w' hw' h') (h.2 i hi).2⟩

theorem anyL_first {n i : Nat} {oi : Oper} {v : Value} {L : Array Bool → Act → Prop} (hi : ops[i]? = some oi) (hsel : ∀ (j : Nat) (o : Oper) cs b, ops[j]? = some o → o.op ≠ .select cs b)
    (hs : Region.sinkB md ops n = true) (hc : Region.chainB md ops n = true) (hn : n < ops.size) (hin : i < n)
    (hdone : ∀ listed a, L listed a → ∀ j ∈ Region.ready md ops listed, n ≤ j) :
    ∀ (f : Nat) (listed : Array Bool) (a : Act), HeadInv md ops n listed →
      (∀ j oj, ops[j]? = some oj → j ≠ i → listed.getD j true = false → (∀ e ∈ oj.after, Region.binds md e = true → e.on ≠ i) → oi.apart ops oj = true) →
      i ∈ Region.ready md ops listed → YieldsIn P ops C oi v a →
      anyL P md ops C n L f (listed.setIfInBounds i true) (a.put oi.dst v) → anyL P md ops C n L (f + 1) listed a := by
  intro f
  induction f with
  | zero =>
    intro listed a inv _ hr hy H
    have hun := (mem_ready.1 hr).1
    refine ⟨fun h => (by rw [h] at hr; cases hr), fun j hj => ?_⟩
    have hjn : j < n := Nat.lt_of_not_le fun h => tail_waits hs hc hn inv _ i rfl hin hun j h hj
    refine ⟨hjn, ?_⟩
    by_cases hji : j = i
    · subst hji; exact hy.qOp hi H
    · have := hdone _ _ H j (ready_mono hj hji); omega
  | succ f ih =>
    intro listed a inv hfree hr hy H
    have hun := (mem_ready.1 hr).1
    refine ⟨fun h => (by rw [h] at hr; cases hr), fun j hj => ?_⟩
    have hjn : j < n := Nat.lt_of_not_le fun h => tail_waits hs hc hn inv _ i rfl hin hun j h hj
    refine ⟨hjn, ?_⟩
    by_cases hji : j = i
    · subst hji; exact hy.qOp hi H
    · have h1 := (H.2 j (ready_mono hj hji)).2
      obtain ⟨hjun, oj, hoj, hall⟩ := mem_ready.1 hj
      have hnot : ∀ e ∈ oj.after, Region.binds md e = true → e.on ≠ i := fun e he hb heq => by
        have h2 := hall e he hb
        rw [heq, getD_both hun] at h2
        cases h2
      have h2 := qOp_put hoj (hfree j oj hoj hji hjun hnot) (fun cs b => hsel i oi cs b hi) (fun cs b => hsel j oj cs b hoj) hy h1
      refine qOp_mono (fun a' h3 => ih (listed.setIfInBounds j true) a' (inv.set hj hjn) (fun k ok hk hki hk1 hno => hfree k ok hk hki ?_ hno) (ready_mono hr (Ne.symm hji)) h3.1 ?_) h2
      · by_cases hjk : j = k
        · subst hjk; exact hjun
        · rw [getD_set_ne true hjk] at hk1; exact hk1
      · rw [Array.setIfInBounds_comm _ _ hji]; exact h3.2

theorem anyL_lex {n g : Nat} {Lq : Act → Prop} (hsel : Region.noSelect ops = true) (hs : Region.sinkB md ops n = true) (hc : Region.chainB md ops n = true) (hn : n < ops.size) :
    ∀ (l : List Oper) (k : Nat) (listed : Array Bool) (a : Act), (∀ j, j < l.length → l[j]? = ops[k + j]?) → k + l.length = n → HeadInv md ops n listed →
    Region.lexHead md ops g l.length k listed = true → wpQuiet P ops C Lq l a →
    anyL P md ops C n (fun listed' a' => Region.seqB md ops g n listed' = true ∧ Lq a') l.length listed a := by
  intro l
  induction l with
  | nil =>
    intro k listed a _ hk _ hB h
    have e : k = n := by simpa using hk
    subst e
    exact ⟨by simpa [Region.lexHead] using hB, h⟩
  | cons o l ih =>
    intro k listed a hl hk inv hB h
    have h0 : ops[k]? = some o := by simpa using (hl 0 (by simp)).symm
    simp only [List.length_cons, Region.lexHead, Bool.and_eq_true] at hB
    obtain ⟨⟨hr, hf⟩, hB'⟩ := hB
    have hkn : k < n := by simp only [List.length_cons] at hk; omega
    have hr' : k ∈ Region.ready md ops listed := by simpa using hr
    have hq : qOp P ops C k (wpQuiet P ops C Lq l) a := by unfold qOp; simp only [h0]; exact h
    obtain ⟨v, hy, hK⟩ := yieldsIn_of_qOp h0 hq
    exact anyL_first h0 (Region.noSelect_spec hsel) hs hc hn hkn (fun listed' a' hL => seqB_ready hL.1) l.length listed a inv (Region.free_spec h0 hf) hr' hy
      (ih (k + 1) _ _ (fun j hj => by have := hl (j + 1) (by simp; omega); simpa [Nat.add_assoc, Nat.add_comm 1 j] using this) (by simp only [List.length_cons] at hk; omega) (inv.set hr' hkn) hB' hK)

/-- The region: its first n operations quiet in C, the others in their one order. -/
theorem wp_region_tail {id : Nat} {Q : Exit → Act → World → Prop} {a : Act} {w : World} {l : List Oper} (n : Nat) (C : World → Prop) (hm : P.follows .mixedOrders = true) (hB : Region.lexTailB .any l.toArray n = true)
    (hC : C w.drew) (h : wpQuiet P l.toArray C (fun a' => ∀ w', C w' → wpList P l.toArray Q (l.drop n) a' w') (l.take n) a) : (Code.region id l.toArray true).wp P Q a w := by
  simp only [Region.lexTailB, Bool.and_eq_true, decide_eq_true_eq] at hB
  obtain ⟨⟨⟨⟨hsel, hn⟩, hs⟩, hc⟩, hlex⟩ := hB
  have hn' : n < l.length := by simpa using hn
  have htl : (l.take n).length = n := by simp; omega
  have hdl : (l.drop n).length = l.toArray.size - n := by simp
  have inv0 : HeadInv .any l.toArray n (Array.replicate l.toArray.size false) :=
    ⟨by simp, fun j oj _ hl => (by rw [getD_replicate_false] at hl; cases hl), fun t _ ht => getD_in (by simpa using ht) (getD_replicate_false _ _)⟩
  have H := anyL_lex (md := .any) (g := l.toArray.size - n) hsel hs hc hn (l.take n) 0 _ a (fun j hj => by
    have hj' : j < n := by rw [htl] at hj; exact hj
    simp [hj']) (by simpa using htl) inv0 (by rw [htl]; exact hlex) h
  refine wp_region_any hm ?_
  have := any_of_head (Q' := Q) (g := l.toArray.size - n) (fun listed a' w' hw' hL => by
    have := wpAny_of_seq (md := .any) (Q' := Q) (l.drop n) n listed a' w' (fun j => by simp [List.getElem?_drop]) (by rw [hdl]; exact hL.1) (hL.2 w' hw')
    rwa [hdl] at this) _ _ _ _ hC H
  rw [htl, show n + (l.toArray.size - n) = l.toArray.size by omega] at this
  exact this

/-- The class of all worlds that have at most new blocks. -/
theorem wp_region_nx {id : Nat} {Q : Exit → Act → World → Prop} {a : Act} {w : World} {l : List Oper} (n : Nat) (hm : P.follows .mixedOrders = true) (hB : Region.lexTailB .any l.toArray n = true)
    (h : wpQuiet P l.toArray (Nx w) (fun a' => ∀ w', Nx w w' → wpList P l.toArray Q (l.drop n) a' w') (l.take n) a) : (Code.region id l.toArray true).wp P Q a w :=
  wp_region_tail n (Nx w) hm hB ((Nx.refl w).drew) h

theorem nx_cells {W w' : World} (hn : Nx W w') : (∀ b o, b < W.heap.size → w'.cell? ⟨b, o, none⟩ = W.cell? ⟨b, o, none⟩) ∧ (∀ b o, b < W.heap.size → w'.frozen? ⟨b, o, none⟩ = W.frozen? ⟨b, o, none⟩) :=
  ⟨fun b o h => Below.cell hn (p := ⟨b, o, none⟩) h, fun b o h => Below.frozen hn (p := ⟨b, o, none⟩) h⟩

theorem five_cells {w w2 : World} {T : TypeId} {a b c d e : Value} (h : Nx (w.alloc (.cells #[a, b, c, d, e] T)) w2) :
    w2.cell? ⟨w.heap.size, 0, none⟩ = some a ∧ w2.cell? ⟨w.heap.size, 1, none⟩ = some b ∧ w2.cell? ⟨w.heap.size, 2, none⟩ = some c ∧ w2.cell? ⟨w.heap.size, 3, none⟩ = some d ∧ w2.cell? ⟨w.heap.size, 4, none⟩ = some e ∧
    w2.frozen? ⟨w.heap.size, 0, none⟩ = false ∧ w2.frozen? ⟨w.heap.size, 1, none⟩ = false ∧ w2.frozen? ⟨w.heap.size, 2, none⟩ = false ∧ w2.frozen? ⟨w.heap.size, 3, none⟩ = false ∧ w2.frozen? ⟨w.heap.size, 4, none⟩ = false ∧ w.heap.size < w2.heap.size := by
  have hs := h.size
  have e1 : (w.alloc (.cells #[a, b, c, d, e] T)).heap.size = w.heap.size + 1 := by simp
  refine ⟨h.cell (by simp), h.cell (by simp), h.cell (by simp), h.cell (by simp), h.cell (by simp), ?_, ?_, ?_, ?_, ?_, by omega⟩
  all_goals (rw [h.frozen (by rw [e1]; exact Nat.lt_succ_self _)]; simp)

theorem five_in {w w2 : World} {T : TypeId} {a b c d e : Value} (h : Nx (w.alloc (.cells #[a, b, c, d, e] T)) w2) :
    w2.cell? ⟨w.heap.size, 0, none⟩ = some a ∧ w2.cell? ⟨w.heap.size, 1, none⟩ = some b ∧ w2.cell? ⟨w.heap.size, 2, none⟩ = some c ∧ w2.cell? ⟨w.heap.size, 3, none⟩ = some d ∧ w2.cell? ⟨w.heap.size, 4, none⟩ = some e ∧ w.heap.size < w2.heap.size := by
  obtain ⟨c0, c1, c2, c3, c4, _, _, _, _, _, hz⟩ := five_cells h
  exact ⟨c0, c1, c2, c3, c4, hz⟩

end

end Go.Proofs.YtndpgakjpokllaaGreat

/- Contracts of package ins: forms, and what may be. -/
namespace Go.Proofs.YtndpgakjpokllaaGreat
open Go.RowKit
set_option linter.unusedVariables false

theorem formN_far (op : Int) (h : op < 1 ∨ 48 < op) : formN op = 0 := by
  unfold formN
  rcases h with h | h
  · have : op.toNat = 0 := by omega
    rw [this]; rfl
  · have : formsL.length ≤ op.toNat := by have : formsL.length = 49 := rfl
                                          omega
    rw [List.getD_eq_getElem?_getD, List.getElem?_eq_none this]; rfl

set_option maxHeartbeats 4000000 in
theorem formOf_any (op : Int) (w : World) : Calls Tryz.prog 59 #[.int .i64 op] w fun e w' => e = .returned (.int .i64 (formN op)) ∧ w = w' := by
  by_cases h : op < 1 ∨ 48 < op
  · have HR := Lib.hid (formN_far op h)
    have k1 : (op == 1) = false := beq_eq_false_iff_ne.2 (by omega)
    have k2 : (op == 2) = false := beq_eq_false_iff_ne.2 (by omega)
    have k3 : (op == 3) = false := beq_eq_false_iff_ne.2 (by omega)
    have k4 : (op == 4) = false := beq_eq_false_iff_ne.2 (by omega)
    have k5 : (op == 5) = false := beq_eq_false_iff_ne.2 (by omega)
    have k6 : (op == 6) = false := beq_eq_false_iff_ne.2 (by omega)
    have k7 : (op == 7) = false := beq_eq_false_iff_ne.2 (by omega)
    have k8 : (op == 8) = false := beq_eq_false_iff_ne.2 (by omega)
    have k9 : (op == 9) = false := beq_eq_false_iff_ne.2 (by omega)
    have k10 : (op == 10) = false := beq_eq_false_iff_ne.2 (by omega)
    have k11 : (op == 11) = false := beq_eq_false_iff_ne.2 (by omega)
    have k12 : (op == 12) = false := beq_eq_false_iff_ne.2 (by omega)
    have k13 : (op == 13) = false := beq_eq_false_iff_ne.2 (by omega)
    have k14 : (op == 14) = false := beq_eq_false_iff_ne.2 (by omega)
    have k15 : (op == 15) = false := beq_eq_false_iff_ne.2 (by omega)
    have k16 : (op == 16) = false := beq_eq_false_iff_ne.2 (by omega)
    have k17 : (op == 17) = false := beq_eq_false_iff_ne.2 (by omega)
    have k18 : (op == 18) = false := beq_eq_false_iff_ne.2 (by omega)
    have k19 : (op == 19) = false := beq_eq_false_iff_ne.2 (by omega)
    have k20 : (op == 20) = false := beq_eq_false_iff_ne.2 (by omega)
    have k21 : (op == 21) = false := beq_eq_false_iff_ne.2 (by omega)
    have k22 : (op == 22) = false := beq_eq_false_iff_ne.2 (by omega)
    have k23 : (op == 23) = false := beq_eq_false_iff_ne.2 (by omega)
    have k24 : (op == 24) = false := beq_eq_false_iff_ne.2 (by omega)
    have k25 : (op == 25) = false := beq_eq_false_iff_ne.2 (by omega)
    have k26 : (op == 26) = false := beq_eq_false_iff_ne.2 (by omega)
    have k27 : (op == 27) = false := beq_eq_false_iff_ne.2 (by omega)
    have k28 : (op == 28) = false := beq_eq_false_iff_ne.2 (by omega)
    have k29 : (op == 29) = false := beq_eq_false_iff_ne.2 (by omega)
    have k30 : (op == 30) = false := beq_eq_false_iff_ne.2 (by omega)
    have k31 : (op == 31) = false := beq_eq_false_iff_ne.2 (by omega)
    have k32 : (op == 32) = false := beq_eq_false_iff_ne.2 (by omega)
    have k33 : (op == 33) = false := beq_eq_false_iff_ne.2 (by omega)
    have k34 : (op == 34) = false := beq_eq_false_iff_ne.2 (by omega)
    have k35 : (op == 35) = false := beq_eq_false_iff_ne.2 (by omega)
    have k36 : (op == 36) = false := beq_eq_false_iff_ne.2 (by omega)
    have k37 : (op == 37) = false := beq_eq_false_iff_ne.2 (by omega)
    have k38 : (op == 38) = false := beq_eq_false_iff_ne.2 (by omega)
    have k39 : (op == 39) = false := beq_eq_false_iff_ne.2 (by omega)
    have k40 : (op == 40) = false := beq_eq_false_iff_ne.2 (by omega)
    have k41 : (op == 41) = false := beq_eq_false_iff_ne.2 (by omega)
    have k42 : (op == 42) = false := beq_eq_false_iff_ne.2 (by omega)
    have k43 : (op == 43) = false := beq_eq_false_iff_ne.2 (by omega)
    have k44 : (op == 44) = false := beq_eq_false_iff_ne.2 (by omega)
    have k45 : (op == 45) = false := beq_eq_false_iff_ne.2 (by omega)
    have k46 : (op == 46) = false := beq_eq_false_iff_ne.2 (by omega)
    have k47 : (op == 47) = false := beq_eq_false_iff_ne.2 (by omega)
    have k48 : (op == 48) = false := beq_eq_false_iff_ne.2 (by omega)
    clear h
    go_enter Tryz.func59, Tryz.ntmps59
    go_wp2
    go_ret
    exact ⟨ret_i64 HR.out.symm, rfl⟩
  · rcases (by omega : op = 1 ∨ op = 2 ∨ op = 3 ∨ op = 4 ∨ op = 5 ∨ op = 6 ∨ op = 7 ∨ op = 8 ∨ op = 9 ∨ op = 10 ∨ op = 11 ∨ op = 12 ∨ op = 13 ∨ op = 14 ∨ op = 15 ∨ op = 16 ∨ op = 17 ∨ op = 18 ∨ op = 19 ∨ op = 20 ∨ op = 21 ∨ op = 22 ∨ op = 23 ∨ op = 24 ∨ op = 25 ∨ op = 26 ∨ op = 27 ∨ op = 28 ∨ op = 29 ∨ op = 30 ∨ op = 31 ∨ op = 32 ∨ op = 33 ∨ op = 34 ∨ op = 35 ∨ op = 36 ∨ op = 37 ∨ op = 38 ∨ op = 39 ∨ op = 40 ∨ op = 41 ∨ op = 42 ∨ op = 43 ∨ op = 44 ∨ op = 45 ∨ op = 46 ∨ op = 47 ∨ op = 48) with rfl | rfl | rfl | rfl | rfl | rfl | rfl | rfl | rfl | rfl | rfl | rfl | rfl | rfl | rfl | rfl | rfl | rfl | rfl | rfl | rfl | rfl | rfl | rfl | rfl | rfl | rfl | rfl | rfl | rfl | rfl | rfl | rfl | rfl | rfl | rfl | rfl | rfl | rfl | rfl | rfl | rfl | rfl | rfl | rfl | rfl | rfl | rfl
    all_goals
      go_enter Tryz.func59, Tryz.ntmps59
      go_wp2
      go_ret
      exact ⟨rfl, rfl⟩

set_option maxHeartbeats 1000000 in
theorem needs_any (f : Int) (hf : 0 ≤ f) (hf' : f ≤ 9) (w : World) : Calls Tryz.prog 85 #[.int .i64 f] w fun e w' => e = .returned (.tuple #[.bool (needD f), .bool (needS f), .bool (needT f)]) ∧ w = w' := by
  rcases (by omega : f = 0 ∨ f = 1 ∨ f = 2 ∨ f = 3 ∨ f = 4 ∨ f = 5 ∨ f = 6 ∨ f = 7 ∨ f = 8 ∨ f = 9) with rfl | rfl | rfl | rfl | rfl | rfl | rfl | rfl | rfl | rfl
  all_goals
    go_enter Tryz.func85, Tryz.ntmps85
    go_wp2
    go_ret3
    exact ⟨rfl, rfl⟩

set_option maxHeartbeats 400000 in
theorem isReg_any (n : Int) (b : Bool) (w : World) : Calls Tryz.prog 86 #[.int .i64 n, .bool b] w fun e w' => e = .returned (.bool (regB n b)) ∧ w = w' := by
  cases b
  · go_enter Tryz.func86, Tryz.ntmps86
    go_wp2
    go_ret
    exact ⟨rfl, rfl⟩
  · go_enter Tryz.func86, Tryz.ntmps86
    go_wp2
    all_goals
      go_ret
      exact ⟨ret_bool (by simp only [regB, if_true]; rw [Bool.eq_iff_iff]; simp; omega), rfl⟩

theorem tmod_zero (v k : Int) : (v.tmod k == 0) = (v % k == 0) := by
  rw [Bool.eq_iff_iff, beq_iff_eq, beq_iff_eq]
  exact ⟨fun h => Int.emod_eq_zero_of_dvd (Int.dvd_of_tmod_eq_zero h), fun h => Int.tmod_eq_zero_of_dvd (Int.dvd_of_emod_eq_zero h)⟩

theorem fits_in (x n : Int) (w : World) (hx : -2147483648 ≤ x) (hx' : x ≤ 2147483647) (hn : 0 ≤ n) (hn' : n ≤ 32) :
    Calls Tryz.prog 106 #[.int .i32 x, .int .i64 n] w fun e w' => e = .returned (.bool (fitB x n.toNat)) ∧ w = w' := by
  have h := fits_any x n w hx hx'
  have e : cl n = n.toNat := by unfold cl; omega
  rw [e] at h
  exact h

set_option maxHeartbeats 1000000 in
theorem ifits_any (f v : Int) (w : World) (hv : -2147483648 ≤ v) (hv' : v ≤ 2147483647) (hf : 0 ≤ f) (hf' : f ≤ 9) : Calls Tryz.prog 87 #[.int .i64 f, .int .i32 v] w fun e w' => e = .returned (.bool (numB f v)) ∧ w = w' := by
  have HA := Lib.hid (tmod_zero v 4096)
  have HB := Lib.hid (tmod_zero v 2)
  cases h2 : (v % 2 == 0)
  all_goals
    have h3 := HB.out.trans h2
    have H2 := Lib.hid h2
    clear h2
    rcases (by omega : f = 0 ∨ f = 1 ∨ f = 2 ∨ f = 3 ∨ f = 4 ∨ f = 5 ∨ f = 6 ∨ f = 7 ∨ f = 8 ∨ f = 9) with rfl | rfl | rfl | rfl | rfl | rfl | rfl | rfl | rfl | rfl
    all_goals
      go_enter Tryz.func87, Tryz.ntmps87
      go_wp2_with (go_at_call 106; refine (fits_in _ _ _ (by omega) (by omega) (by omega) (by omega)).mono ?_; rintro e w' ⟨rfl, rfl⟩)
    all_goals
      go_ret
      first
        | exact ⟨rfl, rfl⟩
        | exact ⟨ret_bool (by simp only [numB]; rw [HA.out]; rfl), rfl⟩
        | (refine ⟨ret_bool ?_, rfl⟩; (simp [numB, H2.out]; done))
        | (refine ⟨ret_bool ?_, rfl⟩; simp only [numB]; rw [Bool.eq_iff_iff]; simp; omega)

set_option maxHeartbeats 2000000 in
theorem may_any (op rd rs1 rs2 imm : Int) (w : World) (hv : -2147483648 ≤ imm) (hv' : imm ≤ 2147483647) :
    Calls Tryz.prog 57 #[.agg #[.int .i64 op, .int .i64 rd, .int .i64 rs1, .int .i64 rs2, .int .i32 imm]] w fun e w' => e = .returned (.bool (mayB op rd rs1 rs2 imm)) ∧ Nx w w' := by
  have hM := Lib.hid (show mayB op rd rs1 rs2 imm = (!(formN op == 0) && (regB rd (needD (formN op)) && (regB rs1 (needS (formN op)) && (regB rs2 (needT (formN op)) && numB (formN op) imm)))) from rfl)
  rcases formN_range op with hf | hf | hf | hf | hf | hf | hf | hf | hf | hf
  all_goals
    have h1 := hM.out
    rw [hf] at h1
    have HM := Lib.hid h1
    clear h1 hM
    go_enter Tryz.func57, Tryz.ntmps57
    go_wp2_with (first | (go_at_call 59; refine (formOf_any _ _).mono ?_; rintro e w' ⟨rfl, rfl⟩) | (go_at_call 85; refine (needs_any _ (by omega) (by omega) _).mono ?_; rintro e w' ⟨rfl, rfl⟩) | (go_at_call 86; refine (isReg_any _ _ _).mono ?_; rintro e w' ⟨rfl, rfl⟩) | (go_at_call 87; refine (ifits_any _ _ _ hv hv' (by omega) (by omega)).mono ?_; rintro e w' ⟨rfl, rfl⟩))
  all_goals
    go_ret
    refine ⟨ret_bool ?_, (Nx.refl _).alloc _⟩
    rw [HM.out]
    first | rfl | (simp_all [needD, needS, needT]; done)

end Go.Proofs.YtndpgakjpokllaaGreat

/- Plain: what an instruction's register gets. -/
namespace Go.Proofs.YtndpgakjpokllaaGreat
open Go.RowKit
set_option linter.unusedVariables false

/-- 1, if the first is less. -/
def ltI (a b : Int) : Int := if a < b then 1 else 0

/-- What an operation does with two numbers. -/
def recV (op a b : Int) : Int :=
  if op = 19 ∨ op = 28 then (a + b) % 4294967296
  else if op = 29 then (a - b) % 4294967296
  else if op = 20 ∨ op = 31 then ltI (wrap32 a) (wrap32 b)
  else if op = 21 ∨ op = 32 then ltI a b
  else if op = 22 ∨ op = 33 then bits .xor .u32 a b
  else if op = 23 ∨ op = 36 then bits .or .u32 a b
  else if op = 24 ∨ op = 37 then bits .and .u32 a b
  else if op = 25 ∨ op = 30 then a * 2 ^ (b % 32).toNat % 4294967296
  else if op = 26 ∨ op = 34 then a / 2 ^ (b % 32).toNat
  else if op = 27 ∨ op = 35 then (wrap32 a / 2 ^ (b % 32).toNat) % 4294967296
  else if op = 41 then a * b % 4294967296
  else if op = 42 then mulh a b true true
  else if op = 43 then mulh a b true false
  else if op = 44 then mulh a b false false
  else if op = 45 then dv a b true
  else if op = 46 then dv a b false
  else if op = 47 then rm a b true
  else if op = 48 then rm a b false
  else 0

def recO (op : Int) : Bool := (decide (19 ≤ op) && decide (op ≤ 37)) || (decide (41 ≤ op) && decide (op ≤ 48))

/-- The second number. -/
def sndV (op b imm : Int) : Int := if formN op = 8 then b else imm % 4294967296

/-- What the register gets, if it gets anything. -/
def valV (op a b pc imm size : Int) : Int :=
  if op = 1 then imm % 4294967296
  else if op = 2 then (pc + imm % 4294967296) % 4294967296
  else if op = 3 ∨ op = 4 then (pc + size % 4294967296) % 4294967296
  else recV op a (sndV op b imm)

def valO (op : Int) : Bool := (decide (1 ≤ op) && decide (op ≤ 4)) || recO op

theorem and31 (b : Int) (hb : 0 ≤ b) (hb' : b < 4294967296) : bits .and .u32 b 31 = b % 32 := by
  obtain ⟨n, rfl⟩ := Int.eq_ofNat_of_zero_le hb
  have h := u32_and_nat n 31 (by omega) (by decide)
  have e : n &&& 31 = n % 32 := by
    have := Nat.and_two_pow_sub_one_eq_mod n 5
    simpa using this
  rw [e] at h
  exact h.trans (by omega)

end Go.Proofs.YtndpgakjpokllaaGreat

/- Contracts of package exec: what an operation does with two numbers. -/
namespace Go.Proofs.YtndpgakjpokllaaGreat
open Go.RowKit
set_option linter.unusedVariables false
set_option linter.unusedSimpArgs false

theorem ret2_ub {a b : Int} {c d : Bool} (h : a = b) (h' : c = d) : Ending.returned (.tuple #[.int .u32 a, .bool c]) = Ending.returned (.tuple #[.int .u32 b, .bool d]) := by rw [h, h']

set_option maxHeartbeats 400000 in
theorem truth_any (b : Bool) (w : World) : Calls Tryz.prog 91 #[.bool b] w fun e w' => e = .returned (.int .u32 (if b = true then 1 else 0)) ∧ w = w' := by
  cases b
  all_goals
    go_enter Tryz.func91, Tryz.ntmps91
    go_wp2
    go_ret
    exact ⟨rfl, rfl⟩

set_option maxHeartbeats 400000 in
theorem clo_add (a b : Int) (w : World) (a1 : 0 ≤ a) (a2 : a < 4294967296) (b1 : 0 ≤ b) (b2 : b < 4294967296) : Calls Tryz.prog 88 #[.int .u32 a, .int .u32 b] w fun e w' => e = .returned (.int .u32 ((a + b) % 4294967296)) ∧ w = w' := by
  go_enter Tryz.func88, Tryz.ntmps88
  go_wp2_with (go_at_call 91; refine (truth_any _ _).mono ?_; rintro e w' ⟨rfl, rfl⟩)
  all_goals
    go_ret
    exact ⟨rfl, rfl⟩

set_option maxHeartbeats 400000 in
theorem clo_sub (a b : Int) (w : World) (a1 : 0 ≤ a) (a2 : a < 4294967296) (b1 : 0 ≤ b) (b2 : b < 4294967296) : Calls Tryz.prog 89 #[.int .u32 a, .int .u32 b] w fun e w' => e = .returned (.int .u32 ((a - b) % 4294967296)) ∧ w = w' := by
  go_enter Tryz.func89, Tryz.ntmps89
  go_wp2_with (go_at_call 91; refine (truth_any _ _).mono ?_; rintro e w' ⟨rfl, rfl⟩)
  all_goals
    go_ret
    exact ⟨rfl, rfl⟩

set_option maxHeartbeats 400000 in
theorem clo_slt (a b : Int) (w : World) (a1 : 0 ≤ a) (a2 : a < 4294967296) (b1 : 0 ≤ b) (b2 : b < 4294967296) : Calls Tryz.prog 90 #[.int .u32 a, .int .u32 b] w fun e w' => e = .returned (.int .u32 (ltI (wrap32 a) (wrap32 b))) ∧ w = w' := by
  go_enter Tryz.func90, Tryz.ntmps90
  go_wp2_with (go_at_call 91; refine (truth_any _ _).mono ?_; rintro e w' ⟨rfl, rfl⟩)
  all_goals
    go_ret
    exact ⟨ret_u32 (by unfold ltI; split <;> omega), rfl⟩

set_option maxHeartbeats 400000 in
theorem clo_sltu (a b : Int) (w : World) (a1 : 0 ≤ a) (a2 : a < 4294967296) (b1 : 0 ≤ b) (b2 : b < 4294967296) : Calls Tryz.prog 92 #[.int .u32 a, .int .u32 b] w fun e w' => e = .returned (.int .u32 (ltI a b)) ∧ w = w' := by
  go_enter Tryz.func92, Tryz.ntmps92
  go_wp2_with (go_at_call 91; refine (truth_any _ _).mono ?_; rintro e w' ⟨rfl, rfl⟩)
  all_goals
    go_ret
    exact ⟨ret_u32 (by unfold ltI; split <;> omega), rfl⟩

set_option maxHeartbeats 400000 in
theorem clo_xor (a b : Int) (w : World) (a1 : 0 ≤ a) (a2 : a < 4294967296) (b1 : 0 ≤ b) (b2 : b < 4294967296) : Calls Tryz.prog 93 #[.int .u32 a, .int .u32 b] w fun e w' => e = .returned (.int .u32 (bits .xor .u32 a b)) ∧ w = w' := by
  go_enter Tryz.func93, Tryz.ntmps93
  go_wp2_with (go_at_call 91; refine (truth_any _ _).mono ?_; rintro e w' ⟨rfl, rfl⟩)
  all_goals
    go_ret
    exact ⟨rfl, rfl⟩

set_option maxHeartbeats 400000 in
theorem clo_or (a b : Int) (w : World) (a1 : 0 ≤ a) (a2 : a < 4294967296) (b1 : 0 ≤ b) (b2 : b < 4294967296) : Calls Tryz.prog 94 #[.int .u32 a, .int .u32 b] w fun e w' => e = .returned (.int .u32 (bits .or .u32 a b)) ∧ w = w' := by
  go_enter Tryz.func94, Tryz.ntmps94
  go_wp2_with (go_at_call 91; refine (truth_any _ _).mono ?_; rintro e w' ⟨rfl, rfl⟩)
  all_goals
    go_ret
    exact ⟨rfl, rfl⟩

set_option maxHeartbeats 400000 in
theorem clo_and (a b : Int) (w : World) (a1 : 0 ≤ a) (a2 : a < 4294967296) (b1 : 0 ≤ b) (b2 : b < 4294967296) : Calls Tryz.prog 95 #[.int .u32 a, .int .u32 b] w fun e w' => e = .returned (.int .u32 (bits .and .u32 a b)) ∧ w = w' := by
  go_enter Tryz.func95, Tryz.ntmps95
  go_wp2_with (go_at_call 91; refine (truth_any _ _).mono ?_; rintro e w' ⟨rfl, rfl⟩)
  all_goals
    go_ret
    exact ⟨rfl, rfl⟩

set_option maxHeartbeats 400000 in
theorem clo_sll (a b : Int) (w : World) (a1 : 0 ≤ a) (a2 : a < 4294967296) (b1 : 0 ≤ b) (b2 : b < 4294967296) : Calls Tryz.prog 96 #[.int .u32 a, .int .u32 b] w fun e w' => e = .returned (.int .u32 (a * 2 ^ (b % 32).toNat % 4294967296)) ∧ w = w' := by
  have h31 := and31 b b1 b2
  have k1 : 0 ≤ b % 32 := by omega
  have k2 : b % 32 ≤ 31 := by omega
  have k3 : b % 32 ≤ 32 := by omega
  go_enter Tryz.func96, Tryz.ntmps96
  go_wp2_with (go_at_call 91; refine (truth_any _ _).mono ?_; rintro e w' ⟨rfl, rfl⟩)
  all_goals
    go_ret
    exact ⟨rfl, rfl⟩

set_option maxHeartbeats 400000 in
theorem clo_srl (a b : Int) (w : World) (a1 : 0 ≤ a) (a2 : a < 4294967296) (b1 : 0 ≤ b) (b2 : b < 4294967296) : Calls Tryz.prog 97 #[.int .u32 a, .int .u32 b] w fun e w' => e = .returned (.int .u32 (a / 2 ^ (b % 32).toNat)) ∧ w = w' := by
  have h31 := and31 b b1 b2
  have k1 : 0 ≤ b % 32 := by omega
  have k2 : b % 32 ≤ 31 := by omega
  have k3 : b % 32 ≤ 32 := by omega
  go_enter Tryz.func97, Tryz.ntmps97
  go_wp2_with (go_at_call 91; refine (truth_any _ _).mono ?_; rintro e w' ⟨rfl, rfl⟩)
  all_goals
    go_ret
    exact ⟨rfl, rfl⟩

set_option maxHeartbeats 400000 in
theorem clo_sra (a b : Int) (w : World) (a1 : 0 ≤ a) (a2 : a < 4294967296) (b1 : 0 ≤ b) (b2 : b < 4294967296) : Calls Tryz.prog 98 #[.int .u32 a, .int .u32 b] w fun e w' => e = .returned (.int .u32 ((wrap32 a / 2 ^ (b % 32).toNat) % 4294967296)) ∧ w = w' := by
  have h31 := and31 b b1 b2
  have k1 : 0 ≤ b % 32 := by omega
  have k2 : b % 32 ≤ 31 := by omega
  have k3 : b % 32 ≤ 32 := by omega
  go_enter Tryz.func98, Tryz.ntmps98
  go_wp2_with (go_at_call 91; refine (truth_any _ _).mono ?_; rintro e w' ⟨rfl, rfl⟩)
  all_goals
    go_ret
    exact ⟨rfl, rfl⟩

set_option maxHeartbeats 400000 in
theorem clo_mul (a b : Int) (w : World) (a1 : 0 ≤ a) (a2 : a < 4294967296) (b1 : 0 ≤ b) (b2 : b < 4294967296) : Calls Tryz.prog 107 #[.int .u32 a, .int .u32 b] w fun e w' => e = .returned (.int .u32 (a * b % 4294967296)) ∧ w = w' := by
  go_enter Tryz.func107, Tryz.ntmps107
  go_wp2_with (go_at_call 91; refine (truth_any _ _).mono ?_; rintro e w' ⟨rfl, rfl⟩)
  all_goals
    go_ret
    exact ⟨rfl, rfl⟩

set_option maxHeartbeats 400000 in
theorem clo_mulh (a b : Int) (sa sb : Bool) (x y : Nat) (w : World) (a1 : 0 ≤ a) (a2 : a < 4294967296) (b1 : 0 ≤ b) (b2 : b < 4294967296) (hx : w.cell? ⟨x, 0, none⟩ = some (.bool sa)) (hy : w.cell? ⟨y, 0, none⟩ = some (.bool sb)) :
    Calls Tryz.prog 108 #[.int .u32 a, .int .u32 b, .pointer (some ⟨x, 0, none⟩), .pointer (some ⟨y, 0, none⟩)] w fun e w' => e = .returned (.int .u32 (mulh a b sa sb)) ∧ Nx w w' := by
  go_enter Tryz.func108, Tryz.ntmps108
  go_wp2_with (go_at_call 109; refine (mulh_any _ _ _ _ _ a1 a2 b1 b2).mono ?_; rintro e w' ⟨rfl, rfl⟩)
  go_ret
  exact ⟨rfl, Nx.refl _⟩

set_option maxHeartbeats 400000 in
theorem clo_div (a b op : Int) (x : Nat) (w : World) (a1 : 0 ≤ a) (a2 : a < 4294967296) (b1 : 0 ≤ b) (b2 : b < 4294967296) (hx : w.cell? ⟨x, 0, none⟩ = some (.int .i64 op)) :
    Calls Tryz.prog 110 #[.int .u32 a, .int .u32 b, .pointer (some ⟨x, 0, none⟩)] w fun e w' => e = .returned (.int .u32 (dv a b (op == 45))) ∧ Nx w w' := by
  go_enter Tryz.func110, Tryz.ntmps110
  go_wp2_with (go_at_call 111; refine (div_any _ _ _ _ a1 a2 b1 b2).mono ?_; rintro e w' ⟨rfl, n, rfl⟩)
  go_ret
  exact ⟨rfl, (Nx.refl _).drewN _⟩

set_option maxHeartbeats 400000 in
theorem clo_rem (a b op : Int) (x : Nat) (w : World) (a1 : 0 ≤ a) (a2 : a < 4294967296) (b1 : 0 ≤ b) (b2 : b < 4294967296) (hx : w.cell? ⟨x, 0, none⟩ = some (.int .i64 op)) :
    Calls Tryz.prog 112 #[.int .u32 a, .int .u32 b, .pointer (some ⟨x, 0, none⟩)] w fun e w' => e = .returned (.int .u32 (rm a b (op == 47))) ∧ Nx w w' := by
  go_enter Tryz.func112, Tryz.ntmps112
  go_wp2_with (go_at_call 113; refine (rem_any _ _ _ _ a1 a2 b1 b2).mono ?_; rintro e w' ⟨rfl, n, rfl⟩)
  go_ret
  exact ⟨rfl, (Nx.refl _).drewN _⟩

set_option maxHeartbeats 400000 in
theorem reck_19 (w : World) : Calls Tryz.prog 60 #[.int .i64 19] w fun e w' => e = .returned (.func (Fn.func 88) #[] #[]) ∧ w = w' := by
  go_enter Tryz.func60, Tryz.ntmps60
  go_wp2
  go_ret
  exact ⟨rfl, rfl⟩

set_option maxHeartbeats 400000 in
theorem reck_20 (w : World) : Calls Tryz.prog 60 #[.int .i64 20] w fun e w' => e = .returned (.func (Fn.func 90) #[] #[]) ∧ w = w' := by
  go_enter Tryz.func60, Tryz.ntmps60
  go_wp2
  go_ret
  exact ⟨rfl, rfl⟩

set_option maxHeartbeats 400000 in
theorem reck_21 (w : World) : Calls Tryz.prog 60 #[.int .i64 21] w fun e w' => e = .returned (.func (Fn.func 92) #[] #[]) ∧ w = w' := by
  go_enter Tryz.func60, Tryz.ntmps60
  go_wp2
  go_ret
  exact ⟨rfl, rfl⟩

set_option maxHeartbeats 400000 in
theorem reck_22 (w : World) : Calls Tryz.prog 60 #[.int .i64 22] w fun e w' => e = .returned (.func (Fn.func 93) #[] #[]) ∧ w = w' := by
  go_enter Tryz.func60, Tryz.ntmps60
  go_wp2
  go_ret
  exact ⟨rfl, rfl⟩

set_option maxHeartbeats 400000 in
theorem reck_23 (w : World) : Calls Tryz.prog 60 #[.int .i64 23] w fun e w' => e = .returned (.func (Fn.func 94) #[] #[]) ∧ w = w' := by
  go_enter Tryz.func60, Tryz.ntmps60
  go_wp2
  go_ret
  exact ⟨rfl, rfl⟩

set_option maxHeartbeats 400000 in
theorem reck_24 (w : World) : Calls Tryz.prog 60 #[.int .i64 24] w fun e w' => e = .returned (.func (Fn.func 95) #[] #[]) ∧ w = w' := by
  go_enter Tryz.func60, Tryz.ntmps60
  go_wp2
  go_ret
  exact ⟨rfl, rfl⟩

set_option maxHeartbeats 400000 in
theorem reck_25 (w : World) : Calls Tryz.prog 60 #[.int .i64 25] w fun e w' => e = .returned (.func (Fn.func 96) #[] #[]) ∧ w = w' := by
  go_enter Tryz.func60, Tryz.ntmps60
  go_wp2
  go_ret
  exact ⟨rfl, rfl⟩

set_option maxHeartbeats 400000 in
theorem reck_26 (w : World) : Calls Tryz.prog 60 #[.int .i64 26] w fun e w' => e = .returned (.func (Fn.func 97) #[] #[]) ∧ w = w' := by
  go_enter Tryz.func60, Tryz.ntmps60
  go_wp2
  go_ret
  exact ⟨rfl, rfl⟩

set_option maxHeartbeats 400000 in
theorem reck_27 (w : World) : Calls Tryz.prog 60 #[.int .i64 27] w fun e w' => e = .returned (.func (Fn.func 98) #[] #[]) ∧ w = w' := by
  go_enter Tryz.func60, Tryz.ntmps60
  go_wp2
  go_ret
  exact ⟨rfl, rfl⟩

set_option maxHeartbeats 400000 in
theorem reck_28 (w : World) : Calls Tryz.prog 60 #[.int .i64 28] w fun e w' => e = .returned (.func (Fn.func 88) #[] #[]) ∧ w = w' := by
  go_enter Tryz.func60, Tryz.ntmps60
  go_wp2
  go_ret
  exact ⟨rfl, rfl⟩

set_option maxHeartbeats 400000 in
theorem reck_29 (w : World) : Calls Tryz.prog 60 #[.int .i64 29] w fun e w' => e = .returned (.func (Fn.func 89) #[] #[]) ∧ w = w' := by
  go_enter Tryz.func60, Tryz.ntmps60
  go_wp2
  go_ret
  exact ⟨rfl, rfl⟩

set_option maxHeartbeats 400000 in
theorem reck_30 (w : World) : Calls Tryz.prog 60 #[.int .i64 30] w fun e w' => e = .returned (.func (Fn.func 96) #[] #[]) ∧ w = w' := by
  go_enter Tryz.func60, Tryz.ntmps60
  go_wp2
  go_ret
  exact ⟨rfl, rfl⟩

set_option maxHeartbeats 400000 in
theorem reck_31 (w : World) : Calls Tryz.prog 60 #[.int .i64 31] w fun e w' => e = .returned (.func (Fn.func 90) #[] #[]) ∧ w = w' := by
  go_enter Tryz.func60, Tryz.ntmps60
  go_wp2
  go_ret
  exact ⟨rfl, rfl⟩

set_option maxHeartbeats 400000 in
theorem reck_32 (w : World) : Calls Tryz.prog 60 #[.int .i64 32] w fun e w' => e = .returned (.func (Fn.func 92) #[] #[]) ∧ w = w' := by
  go_enter Tryz.func60, Tryz.ntmps60
  go_wp2
  go_ret
  exact ⟨rfl, rfl⟩

set_option maxHeartbeats 400000 in
theorem reck_33 (w : World) : Calls Tryz.prog 60 #[.int .i64 33] w fun e w' => e = .returned (.func (Fn.func 93) #[] #[]) ∧ w = w' := by
  go_enter Tryz.func60, Tryz.ntmps60
  go_wp2
  go_ret
  exact ⟨rfl, rfl⟩

set_option maxHeartbeats 400000 in
theorem reck_34 (w : World) : Calls Tryz.prog 60 #[.int .i64 34] w fun e w' => e = .returned (.func (Fn.func 97) #[] #[]) ∧ w = w' := by
  go_enter Tryz.func60, Tryz.ntmps60
  go_wp2
  go_ret
  exact ⟨rfl, rfl⟩

set_option maxHeartbeats 400000 in
theorem reck_35 (w : World) : Calls Tryz.prog 60 #[.int .i64 35] w fun e w' => e = .returned (.func (Fn.func 98) #[] #[]) ∧ w = w' := by
  go_enter Tryz.func60, Tryz.ntmps60
  go_wp2
  go_ret
  exact ⟨rfl, rfl⟩

set_option maxHeartbeats 400000 in
theorem reck_36 (w : World) : Calls Tryz.prog 60 #[.int .i64 36] w fun e w' => e = .returned (.func (Fn.func 94) #[] #[]) ∧ w = w' := by
  go_enter Tryz.func60, Tryz.ntmps60
  go_wp2
  go_ret
  exact ⟨rfl, rfl⟩

set_option maxHeartbeats 400000 in
theorem reck_37 (w : World) : Calls Tryz.prog 60 #[.int .i64 37] w fun e w' => e = .returned (.func (Fn.func 95) #[] #[]) ∧ w = w' := by
  go_enter Tryz.func60, Tryz.ntmps60
  go_wp2
  go_ret
  exact ⟨rfl, rfl⟩

set_option maxHeartbeats 400000 in
theorem prod_5 (w : World) : Calls Tryz.prog 99 #[.int .i64 5] w fun e w' => e = .returned .nilFunc ∧ Nx w w' := by
  go_enter Tryz.func99, Tryz.ntmps99
  go_wp2
  go_ret
  refine ⟨rfl, ?_⟩
  repeat (with_reducible first | exact Nx.refl _ | refine Nx.alloc ?_ _)

set_option maxHeartbeats 400000 in
theorem reck_5 (w : World) : Calls Tryz.prog 60 #[.int .i64 5] w fun e w' => e = .returned .nilFunc ∧ Nx w w' := by
  go_enter Tryz.func60, Tryz.ntmps60
  go_wp2_with (go_at_call 99; refine (prod_5 _).mono ?_; rintro e w1 ⟨rfl, hn⟩)
  go_ret
  exact ⟨rfl, hn⟩

set_option maxHeartbeats 400000 in
theorem prod_6 (w : World) : Calls Tryz.prog 99 #[.int .i64 6] w fun e w' => e = .returned .nilFunc ∧ Nx w w' := by
  go_enter Tryz.func99, Tryz.ntmps99
  go_wp2
  go_ret
  refine ⟨rfl, ?_⟩
  repeat (with_reducible first | exact Nx.refl _ | refine Nx.alloc ?_ _)

set_option maxHeartbeats 400000 in
theorem reck_6 (w : World) : Calls Tryz.prog 60 #[.int .i64 6] w fun e w' => e = .returned .nilFunc ∧ Nx w w' := by
  go_enter Tryz.func60, Tryz.ntmps60
  go_wp2_with (go_at_call 99; refine (prod_6 _).mono ?_; rintro e w1 ⟨rfl, hn⟩)
  go_ret
  exact ⟨rfl, hn⟩

set_option maxHeartbeats 400000 in
theorem prod_7 (w : World) : Calls Tryz.prog 99 #[.int .i64 7] w fun e w' => e = .returned .nilFunc ∧ Nx w w' := by
  go_enter Tryz.func99, Tryz.ntmps99
  go_wp2
  go_ret
  refine ⟨rfl, ?_⟩
  repeat (with_reducible first | exact Nx.refl _ | refine Nx.alloc ?_ _)

set_option maxHeartbeats 400000 in
theorem reck_7 (w : World) : Calls Tryz.prog 60 #[.int .i64 7] w fun e w' => e = .returned .nilFunc ∧ Nx w w' := by
  go_enter Tryz.func60, Tryz.ntmps60
  go_wp2_with (go_at_call 99; refine (prod_7 _).mono ?_; rintro e w1 ⟨rfl, hn⟩)
  go_ret
  exact ⟨rfl, hn⟩

set_option maxHeartbeats 400000 in
theorem prod_8 (w : World) : Calls Tryz.prog 99 #[.int .i64 8] w fun e w' => e = .returned .nilFunc ∧ Nx w w' := by
  go_enter Tryz.func99, Tryz.ntmps99
  go_wp2
  go_ret
  refine ⟨rfl, ?_⟩
  repeat (with_reducible first | exact Nx.refl _ | refine Nx.alloc ?_ _)

set_option maxHeartbeats 400000 in
theorem reck_8 (w : World) : Calls Tryz.prog 60 #[.int .i64 8] w fun e w' => e = .returned .nilFunc ∧ Nx w w' := by
  go_enter Tryz.func60, Tryz.ntmps60
  go_wp2_with (go_at_call 99; refine (prod_8 _).mono ?_; rintro e w1 ⟨rfl, hn⟩)
  go_ret
  exact ⟨rfl, hn⟩

set_option maxHeartbeats 400000 in
theorem prod_9 (w : World) : Calls Tryz.prog 99 #[.int .i64 9] w fun e w' => e = .returned .nilFunc ∧ Nx w w' := by
  go_enter Tryz.func99, Tryz.ntmps99
  go_wp2
  go_ret
  refine ⟨rfl, ?_⟩
  repeat (with_reducible first | exact Nx.refl _ | refine Nx.alloc ?_ _)

set_option maxHeartbeats 400000 in
theorem reck_9 (w : World) : Calls Tryz.prog 60 #[.int .i64 9] w fun e w' => e = .returned .nilFunc ∧ Nx w w' := by
  go_enter Tryz.func60, Tryz.ntmps60
  go_wp2_with (go_at_call 99; refine (prod_9 _).mono ?_; rintro e w1 ⟨rfl, hn⟩)
  go_ret
  exact ⟨rfl, hn⟩

set_option maxHeartbeats 400000 in
theorem prod_10 (w : World) : Calls Tryz.prog 99 #[.int .i64 10] w fun e w' => e = .returned .nilFunc ∧ Nx w w' := by
  go_enter Tryz.func99, Tryz.ntmps99
  go_wp2
  go_ret
  refine ⟨rfl, ?_⟩
  repeat (with_reducible first | exact Nx.refl _ | refine Nx.alloc ?_ _)

set_option maxHeartbeats 400000 in
theorem reck_10 (w : World) : Calls Tryz.prog 60 #[.int .i64 10] w fun e w' => e = .returned .nilFunc ∧ Nx w w' := by
  go_enter Tryz.func60, Tryz.ntmps60
  go_wp2_with (go_at_call 99; refine (prod_10 _).mono ?_; rintro e w1 ⟨rfl, hn⟩)
  go_ret
  exact ⟨rfl, hn⟩

set_option maxHeartbeats 400000 in
theorem prod_11 (w : World) : Calls Tryz.prog 99 #[.int .i64 11] w fun e w' => e = .returned .nilFunc ∧ Nx w w' := by
  go_enter Tryz.func99, Tryz.ntmps99
  go_wp2
  go_ret
  refine ⟨rfl, ?_⟩
  repeat (with_reducible first | exact Nx.refl _ | refine Nx.alloc ?_ _)

set_option maxHeartbeats 400000 in
theorem reck_11 (w : World) : Calls Tryz.prog 60 #[.int .i64 11] w fun e w' => e = .returned .nilFunc ∧ Nx w w' := by
  go_enter Tryz.func60, Tryz.ntmps60
  go_wp2_with (go_at_call 99; refine (prod_11 _).mono ?_; rintro e w1 ⟨rfl, hn⟩)
  go_ret
  exact ⟨rfl, hn⟩

set_option maxHeartbeats 400000 in
theorem prod_12 (w : World) : Calls Tryz.prog 99 #[.int .i64 12] w fun e w' => e = .returned .nilFunc ∧ Nx w w' := by
  go_enter Tryz.func99, Tryz.ntmps99
  go_wp2
  go_ret
  refine ⟨rfl, ?_⟩
  repeat (with_reducible first | exact Nx.refl _ | refine Nx.alloc ?_ _)

set_option maxHeartbeats 400000 in
theorem reck_12 (w : World) : Calls Tryz.prog 60 #[.int .i64 12] w fun e w' => e = .returned .nilFunc ∧ Nx w w' := by
  go_enter Tryz.func60, Tryz.ntmps60
  go_wp2_with (go_at_call 99; refine (prod_12 _).mono ?_; rintro e w1 ⟨rfl, hn⟩)
  go_ret
  exact ⟨rfl, hn⟩

set_option maxHeartbeats 400000 in
theorem prod_13 (w : World) : Calls Tryz.prog 99 #[.int .i64 13] w fun e w' => e = .returned .nilFunc ∧ Nx w w' := by
  go_enter Tryz.func99, Tryz.ntmps99
  go_wp2
  go_ret
  refine ⟨rfl, ?_⟩
  repeat (with_reducible first | exact Nx.refl _ | refine Nx.alloc ?_ _)

set_option maxHeartbeats 400000 in
theorem reck_13 (w : World) : Calls Tryz.prog 60 #[.int .i64 13] w fun e w' => e = .returned .nilFunc ∧ Nx w w' := by
  go_enter Tryz.func60, Tryz.ntmps60
  go_wp2_with (go_at_call 99; refine (prod_13 _).mono ?_; rintro e w1 ⟨rfl, hn⟩)
  go_ret
  exact ⟨rfl, hn⟩

set_option maxHeartbeats 400000 in
theorem prod_14 (w : World) : Calls Tryz.prog 99 #[.int .i64 14] w fun e w' => e = .returned .nilFunc ∧ Nx w w' := by
  go_enter Tryz.func99, Tryz.ntmps99
  go_wp2
  go_ret
  refine ⟨rfl, ?_⟩
  repeat (with_reducible first | exact Nx.refl _ | refine Nx.alloc ?_ _)

set_option maxHeartbeats 400000 in
theorem reck_14 (w : World) : Calls Tryz.prog 60 #[.int .i64 14] w fun e w' => e = .returned .nilFunc ∧ Nx w w' := by
  go_enter Tryz.func60, Tryz.ntmps60
  go_wp2_with (go_at_call 99; refine (prod_14 _).mono ?_; rintro e w1 ⟨rfl, hn⟩)
  go_ret
  exact ⟨rfl, hn⟩

set_option maxHeartbeats 400000 in
theorem prod_15 (w : World) : Calls Tryz.prog 99 #[.int .i64 15] w fun e w' => e = .returned .nilFunc ∧ Nx w w' := by
  go_enter Tryz.func99, Tryz.ntmps99
  go_wp2
  go_ret
  refine ⟨rfl, ?_⟩
  repeat (with_reducible first | exact Nx.refl _ | refine Nx.alloc ?_ _)

set_option maxHeartbeats 400000 in
theorem reck_15 (w : World) : Calls Tryz.prog 60 #[.int .i64 15] w fun e w' => e = .returned .nilFunc ∧ Nx w w' := by
  go_enter Tryz.func60, Tryz.ntmps60
  go_wp2_with (go_at_call 99; refine (prod_15 _).mono ?_; rintro e w1 ⟨rfl, hn⟩)
  go_ret
  exact ⟨rfl, hn⟩

set_option maxHeartbeats 400000 in
theorem prod_16 (w : World) : Calls Tryz.prog 99 #[.int .i64 16] w fun e w' => e = .returned .nilFunc ∧ Nx w w' := by
  go_enter Tryz.func99, Tryz.ntmps99
  go_wp2
  go_ret
  refine ⟨rfl, ?_⟩
  repeat (with_reducible first | exact Nx.refl _ | refine Nx.alloc ?_ _)

set_option maxHeartbeats 400000 in
theorem reck_16 (w : World) : Calls Tryz.prog 60 #[.int .i64 16] w fun e w' => e = .returned .nilFunc ∧ Nx w w' := by
  go_enter Tryz.func60, Tryz.ntmps60
  go_wp2_with (go_at_call 99; refine (prod_16 _).mono ?_; rintro e w1 ⟨rfl, hn⟩)
  go_ret
  exact ⟨rfl, hn⟩

set_option maxHeartbeats 400000 in
theorem prod_17 (w : World) : Calls Tryz.prog 99 #[.int .i64 17] w fun e w' => e = .returned .nilFunc ∧ Nx w w' := by
  go_enter Tryz.func99, Tryz.ntmps99
  go_wp2
  go_ret
  refine ⟨rfl, ?_⟩
  repeat (with_reducible first | exact Nx.refl _ | refine Nx.alloc ?_ _)

set_option maxHeartbeats 400000 in
theorem reck_17 (w : World) : Calls Tryz.prog 60 #[.int .i64 17] w fun e w' => e = .returned .nilFunc ∧ Nx w w' := by
  go_enter Tryz.func60, Tryz.ntmps60
  go_wp2_with (go_at_call 99; refine (prod_17 _).mono ?_; rintro e w1 ⟨rfl, hn⟩)
  go_ret
  exact ⟨rfl, hn⟩

set_option maxHeartbeats 400000 in
theorem prod_18 (w : World) : Calls Tryz.prog 99 #[.int .i64 18] w fun e w' => e = .returned .nilFunc ∧ Nx w w' := by
  go_enter Tryz.func99, Tryz.ntmps99
  go_wp2
  go_ret
  refine ⟨rfl, ?_⟩
  repeat (with_reducible first | exact Nx.refl _ | refine Nx.alloc ?_ _)

set_option maxHeartbeats 400000 in
theorem reck_18 (w : World) : Calls Tryz.prog 60 #[.int .i64 18] w fun e w' => e = .returned .nilFunc ∧ Nx w w' := by
  go_enter Tryz.func60, Tryz.ntmps60
  go_wp2_with (go_at_call 99; refine (prod_18 _).mono ?_; rintro e w1 ⟨rfl, hn⟩)
  go_ret
  exact ⟨rfl, hn⟩

set_option maxHeartbeats 400000 in
theorem prod_38 (w : World) : Calls Tryz.prog 99 #[.int .i64 38] w fun e w' => e = .returned .nilFunc ∧ Nx w w' := by
  go_enter Tryz.func99, Tryz.ntmps99
  go_wp2
  go_ret
  refine ⟨rfl, ?_⟩
  repeat (with_reducible first | exact Nx.refl _ | refine Nx.alloc ?_ _)

set_option maxHeartbeats 400000 in
theorem reck_38 (w : World) : Calls Tryz.prog 60 #[.int .i64 38] w fun e w' => e = .returned .nilFunc ∧ Nx w w' := by
  go_enter Tryz.func60, Tryz.ntmps60
  go_wp2_with (go_at_call 99; refine (prod_38 _).mono ?_; rintro e w1 ⟨rfl, hn⟩)
  go_ret
  exact ⟨rfl, hn⟩

set_option maxHeartbeats 400000 in
theorem prod_39 (w : World) : Calls Tryz.prog 99 #[.int .i64 39] w fun e w' => e = .returned .nilFunc ∧ Nx w w' := by
  go_enter Tryz.func99, Tryz.ntmps99
  go_wp2
  go_ret
  refine ⟨rfl, ?_⟩
  repeat (with_reducible first | exact Nx.refl _ | refine Nx.alloc ?_ _)

set_option maxHeartbeats 400000 in
theorem reck_39 (w : World) : Calls Tryz.prog 60 #[.int .i64 39] w fun e w' => e = .returned .nilFunc ∧ Nx w w' := by
  go_enter Tryz.func60, Tryz.ntmps60
  go_wp2_with (go_at_call 99; refine (prod_39 _).mono ?_; rintro e w1 ⟨rfl, hn⟩)
  go_ret
  exact ⟨rfl, hn⟩

set_option maxHeartbeats 400000 in
theorem prod_40 (w : World) : Calls Tryz.prog 99 #[.int .i64 40] w fun e w' => e = .returned .nilFunc ∧ Nx w w' := by
  go_enter Tryz.func99, Tryz.ntmps99
  go_wp2
  go_ret
  refine ⟨rfl, ?_⟩
  repeat (with_reducible first | exact Nx.refl _ | refine Nx.alloc ?_ _)

set_option maxHeartbeats 400000 in
theorem reck_40 (w : World) : Calls Tryz.prog 60 #[.int .i64 40] w fun e w' => e = .returned .nilFunc ∧ Nx w w' := by
  go_enter Tryz.func60, Tryz.ntmps60
  go_wp2_with (go_at_call 99; refine (prod_40 _).mono ?_; rintro e w1 ⟨rfl, hn⟩)
  go_ret
  exact ⟨rfl, hn⟩

set_option maxHeartbeats 400000 in
theorem prod_41 (w : World) : Calls Tryz.prog 99 #[.int .i64 41] w fun e w' => e = .returned (.func (Fn.func 107) #[] #[]) ∧ Nx w w' := by
  go_enter Tryz.func99, Tryz.ntmps99
  go_wp2
  go_ret
  refine ⟨rfl, ?_⟩
  repeat (with_reducible first | exact Nx.refl _ | refine Nx.alloc ?_ _)

set_option maxHeartbeats 400000 in
theorem reck_41 (w : World) : Calls Tryz.prog 60 #[.int .i64 41] w fun e w' => e = .returned (.func (Fn.func 107) #[] #[]) ∧ Nx w w' := by
  go_enter Tryz.func60, Tryz.ntmps60
  go_wp2_with (go_at_call 99; refine (prod_41 _).mono ?_; rintro e w1 ⟨rfl, hn⟩)
  go_ret
  exact ⟨rfl, hn⟩

/-- A function that has taken two truths with it. -/
def RetF2 (sa sb : Bool) (w : World) (e : Ending) (w' : World) : Prop := ∃ x y, e = .returned (.func (Fn.func 108) #[] #[.pointer (some ⟨x, 0, none⟩), .pointer (some ⟨y, 0, none⟩)]) ∧ w'.cell? ⟨x, 0, none⟩ = some (.bool sa) ∧ w'.cell? ⟨y, 0, none⟩ = some (.bool sb) ∧ Nx w w'

/-- A function that has taken a number with it. -/
def RetF1 (f : Nat) (op : Int) (w : World) (e : Ending) (w' : World) : Prop := ∃ x, e = .returned (.func (Fn.func f) #[] #[.pointer (some ⟨x, 0, none⟩)]) ∧ w'.cell? ⟨x, 0, none⟩ = some (.int .i64 op) ∧ Nx w w'

set_option maxHeartbeats 400000 in
theorem prod_42 (w : World) : Calls Tryz.prog 99 #[.int .i64 42] w (RetF2 true true w) := by
  have hmf : ∀ (fn : Fn) (first cap : Array Value) (w : World), (Instr.makeFunc fn first cap).run Tryz.prog w = .ok (.func fn first cap) w := fun _ _ _ _ => rfl
  go_enter Tryz.func99, Tryz.ntmps99
  go_wp2
  go_ret
  refine ⟨_, _, rfl, ?_, ?_, ?_⟩
  · simp [go_sem]
  · simp [go_sem]
  repeat (with_reducible first | exact Nx.refl _ | refine Nx.alloc ?_ _)

set_option maxHeartbeats 400000 in
theorem reck_42 (w : World) : Calls Tryz.prog 60 #[.int .i64 42] w (RetF2 true true w) := by
  go_enter Tryz.func60, Tryz.ntmps60
  go_wp2_with (go_at_call 99; refine (prod_42 _).mono ?_; rintro e w1 ⟨x, y, rfl, hx, hy, hn⟩)
  go_ret
  exact ⟨x, y, rfl, hx, hy, hn⟩

set_option maxHeartbeats 400000 in
theorem prod_43 (w : World) : Calls Tryz.prog 99 #[.int .i64 43] w (RetF2 true false w) := by
  have hmf : ∀ (fn : Fn) (first cap : Array Value) (w : World), (Instr.makeFunc fn first cap).run Tryz.prog w = .ok (.func fn first cap) w := fun _ _ _ _ => rfl
  go_enter Tryz.func99, Tryz.ntmps99
  go_wp2
  go_ret
  refine ⟨_, _, rfl, ?_, ?_, ?_⟩
  · simp [go_sem]
  · simp [go_sem]
  repeat (with_reducible first | exact Nx.refl _ | refine Nx.alloc ?_ _)

set_option maxHeartbeats 400000 in
theorem reck_43 (w : World) : Calls Tryz.prog 60 #[.int .i64 43] w (RetF2 true false w) := by
  go_enter Tryz.func60, Tryz.ntmps60
  go_wp2_with (go_at_call 99; refine (prod_43 _).mono ?_; rintro e w1 ⟨x, y, rfl, hx, hy, hn⟩)
  go_ret
  exact ⟨x, y, rfl, hx, hy, hn⟩

set_option maxHeartbeats 400000 in
theorem prod_44 (w : World) : Calls Tryz.prog 99 #[.int .i64 44] w (RetF2 false false w) := by
  have hmf : ∀ (fn : Fn) (first cap : Array Value) (w : World), (Instr.makeFunc fn first cap).run Tryz.prog w = .ok (.func fn first cap) w := fun _ _ _ _ => rfl
  go_enter Tryz.func99, Tryz.ntmps99
  go_wp2
  go_ret
  refine ⟨_, _, rfl, ?_, ?_, ?_⟩
  · simp [go_sem]
  · simp [go_sem]
  repeat (with_reducible first | exact Nx.refl _ | refine Nx.alloc ?_ _)

set_option maxHeartbeats 400000 in
theorem reck_44 (w : World) : Calls Tryz.prog 60 #[.int .i64 44] w (RetF2 false false w) := by
  go_enter Tryz.func60, Tryz.ntmps60
  go_wp2_with (go_at_call 99; refine (prod_44 _).mono ?_; rintro e w1 ⟨x, y, rfl, hx, hy, hn⟩)
  go_ret
  exact ⟨x, y, rfl, hx, hy, hn⟩

set_option maxHeartbeats 400000 in
theorem prod_45 (w : World) : Calls Tryz.prog 99 #[.int .i64 45] w (RetF1 110 45 w) := by
  have hmf : ∀ (fn : Fn) (first cap : Array Value) (w : World), (Instr.makeFunc fn first cap).run Tryz.prog w = .ok (.func fn first cap) w := fun _ _ _ _ => rfl
  go_enter Tryz.func99, Tryz.ntmps99
  go_wp2
  go_ret
  refine ⟨_, rfl, ?_, ?_⟩
  · simp [go_sem]
  repeat (with_reducible first | exact Nx.refl _ | refine Nx.alloc ?_ _)

set_option maxHeartbeats 400000 in
theorem reck_45 (w : World) : Calls Tryz.prog 60 #[.int .i64 45] w (RetF1 110 45 w) := by
  go_enter Tryz.func60, Tryz.ntmps60
  go_wp2_with (go_at_call 99; refine (prod_45 _).mono ?_; rintro e w1 ⟨x, rfl, hx, hn⟩)
  go_ret
  exact ⟨x, rfl, hx, hn⟩

set_option maxHeartbeats 400000 in
theorem prod_46 (w : World) : Calls Tryz.prog 99 #[.int .i64 46] w (RetF1 110 46 w) := by
  have hmf : ∀ (fn : Fn) (first cap : Array Value) (w : World), (Instr.makeFunc fn first cap).run Tryz.prog w = .ok (.func fn first cap) w := fun _ _ _ _ => rfl
  go_enter Tryz.func99, Tryz.ntmps99
  go_wp2
  go_ret
  refine ⟨_, rfl, ?_, ?_⟩
  · simp [go_sem]
  repeat (with_reducible first | exact Nx.refl _ | refine Nx.alloc ?_ _)

set_option maxHeartbeats 400000 in
theorem reck_46 (w : World) : Calls Tryz.prog 60 #[.int .i64 46] w (RetF1 110 46 w) := by
  go_enter Tryz.func60, Tryz.ntmps60
  go_wp2_with (go_at_call 99; refine (prod_46 _).mono ?_; rintro e w1 ⟨x, rfl, hx, hn⟩)
  go_ret
  exact ⟨x, rfl, hx, hn⟩

set_option maxHeartbeats 400000 in
theorem prod_47 (w : World) : Calls Tryz.prog 99 #[.int .i64 47] w (RetF1 112 47 w) := by
  have hmf : ∀ (fn : Fn) (first cap : Array Value) (w : World), (Instr.makeFunc fn first cap).run Tryz.prog w = .ok (.func fn first cap) w := fun _ _ _ _ => rfl
  go_enter Tryz.func99, Tryz.ntmps99
  go_wp2
  go_ret
  refine ⟨_, rfl, ?_, ?_⟩
  · simp [go_sem]
  repeat (with_reducible first | exact Nx.refl _ | refine Nx.alloc ?_ _)

set_option maxHeartbeats 400000 in
theorem reck_47 (w : World) : Calls Tryz.prog 60 #[.int .i64 47] w (RetF1 112 47 w) := by
  go_enter Tryz.func60, Tryz.ntmps60
  go_wp2_with (go_at_call 99; refine (prod_47 _).mono ?_; rintro e w1 ⟨x, rfl, hx, hn⟩)
  go_ret
  exact ⟨x, rfl, hx, hn⟩

set_option maxHeartbeats 400000 in
theorem prod_48 (w : World) : Calls Tryz.prog 99 #[.int .i64 48] w (RetF1 112 48 w) := by
  have hmf : ∀ (fn : Fn) (first cap : Array Value) (w : World), (Instr.makeFunc fn first cap).run Tryz.prog w = .ok (.func fn first cap) w := fun _ _ _ _ => rfl
  go_enter Tryz.func99, Tryz.ntmps99
  go_wp2
  go_ret
  refine ⟨_, rfl, ?_, ?_⟩
  · simp [go_sem]
  repeat (with_reducible first | exact Nx.refl _ | refine Nx.alloc ?_ _)

set_option maxHeartbeats 400000 in
theorem reck_48 (w : World) : Calls Tryz.prog 60 #[.int .i64 48] w (RetF1 112 48 w) := by
  go_enter Tryz.func60, Tryz.ntmps60
  go_wp2_with (go_at_call 99; refine (prod_48 _).mono ?_; rintro e w1 ⟨x, rfl, hx, hn⟩)
  go_ret
  exact ⟨x, rfl, hx, hn⟩

end Go.Proofs.YtndpgakjpokllaaGreat

/- Contracts of package exec: Value, operation by operation. -/
namespace Go.Proofs.YtndpgakjpokllaaGreat
open Go.RowKit
set_option linter.unusedVariables false
set_option maxRecDepth 100000
set_option linter.unusedSimpArgs false

set_option maxHeartbeats 1000000 in
theorem value_1 (rd rs1 rs2 imm a b pc size : Int) (w : World) (hv : -2147483648 ≤ imm) (hv' : imm ≤ 2147483647) (a1 : 0 ≤ a) (a2 : a < 4294967296) (b1 : 0 ≤ b) (b2 : b < 4294967296) (p1 : 0 ≤ pc) (p2 : pc < 4294967296) (h : mayB 1 rd rs1 rs2 imm = true) :
    Calls Tryz.prog 32 #[.agg #[.int .i64 1, .int .i64 rd, .int .i64 rs1, .int .i64 rs2, .int .i32 imm], .int .u32 a, .int .u32 b, .int .u32 pc, .int .i64 size] w fun e w' => e = .returned (.tuple #[.int .u32 (valV 1 a b pc imm size), .bool (valO 1)]) ∧ Nx w w' := by
  have hf : formN 1 = 1 := rfl
  have HO : Hid (valO 1 = true) := rfl
  have HV : Hid (valV 1 a b pc imm size = imm % 4294967296) := rfl
  have hne : ∀ (fn : Fn) (first cap : Array Value) (w : World), (binOp .eql 102 (.func fn first cap) .nilFunc).run Tryz.prog w = .ok (.bool false) w := fun _ _ _ _ => rfl
  have hnn : ∀ (w : World), (binOp .eql 102 .nilFunc .nilFunc).run Tryz.prog w = .ok (.bool true) w := fun _ => rfl
  go_enter Tryz.func32, Tryz.ntmps32
  go_wp2_with fail
  refine (may_any _ _ _ _ _ _ hv hv').mono ?_
  rintro e w1 ⟨rfl, hn1⟩
  obtain ⟨c0, c1, c2, c3, c4, hz⟩ := five_in hn1
  have HN := Lib.hid (((Nx.refl w).alloc _).trans hn1)
  clear hn1
  go_wp2_with (go_at_call 59; refine (formOf_any _ _).mono ?_; rintro e w' ⟨rfl, rfl⟩)
  go_ret2
  exact ⟨ret2_ub HV.out.symm HO.out.symm, HN.out⟩

set_option maxHeartbeats 1000000 in
theorem value_2 (rd rs1 rs2 imm a b pc size : Int) (w : World) (hv : -2147483648 ≤ imm) (hv' : imm ≤ 2147483647) (a1 : 0 ≤ a) (a2 : a < 4294967296) (b1 : 0 ≤ b) (b2 : b < 4294967296) (p1 : 0 ≤ pc) (p2 : pc < 4294967296) (h : mayB 2 rd rs1 rs2 imm = true) :
    Calls Tryz.prog 32 #[.agg #[.int .i64 2, .int .i64 rd, .int .i64 rs1, .int .i64 rs2, .int .i32 imm], .int .u32 a, .int .u32 b, .int .u32 pc, .int .i64 size] w fun e w' => e = .returned (.tuple #[.int .u32 (valV 2 a b pc imm size), .bool (valO 2)]) ∧ Nx w w' := by
  have hf : formN 2 = 1 := rfl
  have HO : Hid (valO 2 = true) := rfl
  have HV : Hid (valV 2 a b pc imm size = (pc + imm % 4294967296) % 4294967296) := rfl
  have hne : ∀ (fn : Fn) (first cap : Array Value) (w : World), (binOp .eql 102 (.func fn first cap) .nilFunc).run Tryz.prog w = .ok (.bool false) w := fun _ _ _ _ => rfl
  have hnn : ∀ (w : World), (binOp .eql 102 .nilFunc .nilFunc).run Tryz.prog w = .ok (.bool true) w := fun _ => rfl
  go_enter Tryz.func32, Tryz.ntmps32
  go_wp2_with fail
  refine (may_any _ _ _ _ _ _ hv hv').mono ?_
  rintro e w1 ⟨rfl, hn1⟩
  obtain ⟨c0, c1, c2, c3, c4, hz⟩ := five_in hn1
  have HN := Lib.hid (((Nx.refl w).alloc _).trans hn1)
  clear hn1
  go_wp2_with (go_at_call 59; refine (formOf_any _ _).mono ?_; rintro e w' ⟨rfl, rfl⟩)
  go_ret2
  exact ⟨ret2_ub HV.out.symm HO.out.symm, HN.out⟩

set_option maxHeartbeats 1000000 in
theorem value_3 (rd rs1 rs2 imm a b pc size : Int) (w : World) (hv : -2147483648 ≤ imm) (hv' : imm ≤ 2147483647) (a1 : 0 ≤ a) (a2 : a < 4294967296) (b1 : 0 ≤ b) (b2 : b < 4294967296) (p1 : 0 ≤ pc) (p2 : pc < 4294967296) (h : mayB 3 rd rs1 rs2 imm = true) :
    Calls Tryz.prog 32 #[.agg #[.int .i64 3, .int .i64 rd, .int .i64 rs1, .int .i64 rs2, .int .i32 imm], .int .u32 a, .int .u32 b, .int .u32 pc, .int .i64 size] w fun e w' => e = .returned (.tuple #[.int .u32 (valV 3 a b pc imm size), .bool (valO 3)]) ∧ Nx w w' := by
  have hf : formN 3 = 2 := rfl
  have HO : Hid (valO 3 = true) := rfl
  have HV : Hid (valV 3 a b pc imm size = (pc + size % 4294967296) % 4294967296) := rfl
  have hne : ∀ (fn : Fn) (first cap : Array Value) (w : World), (binOp .eql 102 (.func fn first cap) .nilFunc).run Tryz.prog w = .ok (.bool false) w := fun _ _ _ _ => rfl
  have hnn : ∀ (w : World), (binOp .eql 102 .nilFunc .nilFunc).run Tryz.prog w = .ok (.bool true) w := fun _ => rfl
  go_enter Tryz.func32, Tryz.ntmps32
  go_wp2_with fail
  refine (may_any _ _ _ _ _ _ hv hv').mono ?_
  rintro e w1 ⟨rfl, hn1⟩
  obtain ⟨c0, c1, c2, c3, c4, hz⟩ := five_in hn1
  have HN := Lib.hid (((Nx.refl w).alloc _).trans hn1)
  clear hn1
  go_wp2_with (go_at_call 59; refine (formOf_any _ _).mono ?_; rintro e w' ⟨rfl, rfl⟩)
  go_ret2
  exact ⟨ret2_ub HV.out.symm HO.out.symm, HN.out⟩

set_option maxHeartbeats 1000000 in
theorem value_4 (rd rs1 rs2 imm a b pc size : Int) (w : World) (hv : -2147483648 ≤ imm) (hv' : imm ≤ 2147483647) (a1 : 0 ≤ a) (a2 : a < 4294967296) (b1 : 0 ≤ b) (b2 : b < 4294967296) (p1 : 0 ≤ pc) (p2 : pc < 4294967296) (h : mayB 4 rd rs1 rs2 imm = true) :
    Calls Tryz.prog 32 #[.agg #[.int .i64 4, .int .i64 rd, .int .i64 rs1, .int .i64 rs2, .int .i32 imm], .int .u32 a, .int .u32 b, .int .u32 pc, .int .i64 size] w fun e w' => e = .returned (.tuple #[.int .u32 (valV 4 a b pc imm size), .bool (valO 4)]) ∧ Nx w w' := by
  have hf : formN 4 = 4 := rfl
  have HO : Hid (valO 4 = true) := rfl
  have HV : Hid (valV 4 a b pc imm size = (pc + size % 4294967296) % 4294967296) := rfl
  have hne : ∀ (fn : Fn) (first cap : Array Value) (w : World), (binOp .eql 102 (.func fn first cap) .nilFunc).run Tryz.prog w = .ok (.bool false) w := fun _ _ _ _ => rfl
  have hnn : ∀ (w : World), (binOp .eql 102 .nilFunc .nilFunc).run Tryz.prog w = .ok (.bool true) w := fun _ => rfl
  go_enter Tryz.func32, Tryz.ntmps32
  go_wp2_with fail
  refine (may_any _ _ _ _ _ _ hv hv').mono ?_
  rintro e w1 ⟨rfl, hn1⟩
  obtain ⟨c0, c1, c2, c3, c4, hz⟩ := five_in hn1
  have HN := Lib.hid (((Nx.refl w).alloc _).trans hn1)
  clear hn1
  go_wp2_with (go_at_call 59; refine (formOf_any _ _).mono ?_; rintro e w' ⟨rfl, rfl⟩)
  go_ret2
  exact ⟨ret2_ub HV.out.symm HO.out.symm, HN.out⟩

set_option maxHeartbeats 1000000 in
theorem value_5 (rd rs1 rs2 imm a b pc size : Int) (w : World) (hv : -2147483648 ≤ imm) (hv' : imm ≤ 2147483647) (a1 : 0 ≤ a) (a2 : a < 4294967296) (b1 : 0 ≤ b) (b2 : b < 4294967296) (p1 : 0 ≤ pc) (p2 : pc < 4294967296) (h : mayB 5 rd rs1 rs2 imm = true) :
    Calls Tryz.prog 32 #[.agg #[.int .i64 5, .int .i64 rd, .int .i64 rs1, .int .i64 rs2, .int .i32 imm], .int .u32 a, .int .u32 b, .int .u32 pc, .int .i64 size] w fun e w' => e = .returned (.tuple #[.int .u32 (0), .bool (valO 5)]) ∧ Nx w w' := by
  have hf : formN 5 = 3 := rfl
  have HO : Hid (valO 5 = false) := rfl
  have hne : ∀ (fn : Fn) (first cap : Array Value) (w : World), (binOp .eql 102 (.func fn first cap) .nilFunc).run Tryz.prog w = .ok (.bool false) w := fun _ _ _ _ => rfl
  have hnn : ∀ (w : World), (binOp .eql 102 .nilFunc .nilFunc).run Tryz.prog w = .ok (.bool true) w := fun _ => rfl
  go_enter Tryz.func32, Tryz.ntmps32
  go_wp2_with fail
  refine (may_any _ _ _ _ _ _ hv hv').mono ?_
  rintro e w1 ⟨rfl, hn1⟩
  obtain ⟨c0, c1, c2, c3, c4, hz⟩ := five_in hn1
  have HN := Lib.hid (((Nx.refl w).alloc _).trans hn1)
  clear hn1
  go_wp2_with (go_at_call 59; refine (formOf_any _ _).mono ?_; rintro e w' ⟨rfl, rfl⟩)
  refine (reck_5 _).mono ?_
  rintro e w2 ⟨rfl, hn2⟩
  go_wp2
  go_ret2
  exact ⟨ret2_ub rfl HO.out.symm, HN.out.trans hn2⟩

set_option maxHeartbeats 1000000 in
theorem value_6 (rd rs1 rs2 imm a b pc size : Int) (w : World) (hv : -2147483648 ≤ imm) (hv' : imm ≤ 2147483647) (a1 : 0 ≤ a) (a2 : a < 4294967296) (b1 : 0 ≤ b) (b2 : b < 4294967296) (p1 : 0 ≤ pc) (p2 : pc < 4294967296) (h : mayB 6 rd rs1 rs2 imm = true) :
    Calls Tryz.prog 32 #[.agg #[.int .i64 6, .int .i64 rd, .int .i64 rs1, .int .i64 rs2, .int .i32 imm], .int .u32 a, .int .u32 b, .int .u32 pc, .int .i64 size] w fun e w' => e = .returned (.tuple #[.int .u32 (0), .bool (valO 6)]) ∧ Nx w w' := by
  have hf : formN 6 = 3 := rfl
  have HO : Hid (valO 6 = false) := rfl
  have hne : ∀ (fn : Fn) (first cap : Array Value) (w : World), (binOp .eql 102 (.func fn first cap) .nilFunc).run Tryz.prog w = .ok (.bool false) w := fun _ _ _ _ => rfl
  have hnn : ∀ (w : World), (binOp .eql 102 .nilFunc .nilFunc).run Tryz.prog w = .ok (.bool true) w := fun _ => rfl
  go_enter Tryz.func32, Tryz.ntmps32
  go_wp2_with fail
  refine (may_any _ _ _ _ _ _ hv hv').mono ?_
  rintro e w1 ⟨rfl, hn1⟩
  obtain ⟨c0, c1, c2, c3, c4, hz⟩ := five_in hn1
  have HN := Lib.hid (((Nx.refl w).alloc _).trans hn1)
  clear hn1
  go_wp2_with (go_at_call 59; refine (formOf_any _ _).mono ?_; rintro e w' ⟨rfl, rfl⟩)
  refine (reck_6 _).mono ?_
  rintro e w2 ⟨rfl, hn2⟩
  go_wp2
  go_ret2
  exact ⟨ret2_ub rfl HO.out.symm, HN.out.trans hn2⟩

set_option maxHeartbeats 1000000 in
theorem value_7 (rd rs1 rs2 imm a b pc size : Int) (w : World) (hv : -2147483648 ≤ imm) (hv' : imm ≤ 2147483647) (a1 : 0 ≤ a) (a2 : a < 4294967296) (b1 : 0 ≤ b) (b2 : b < 4294967296) (p1 : 0 ≤ pc) (p2 : pc < 4294967296) (h : mayB 7 rd rs1 rs2 imm = true) :
    Calls Tryz.prog 32 #[.agg #[.int .i64 7, .int .i64 rd, .int .i64 rs1, .int .i64 rs2, .int .i32 imm], .int .u32 a, .int .u32 b, .int .u32 pc, .int .i64 size] w fun e w' => e = .returned (.tuple #[.int .u32 (0), .bool (valO 7)]) ∧ Nx w w' := by
  have hf : formN 7 = 3 := rfl
  have HO : Hid (valO 7 = false) := rfl
  have hne : ∀ (fn : Fn) (first cap : Array Value) (w : World), (binOp .eql 102 (.func fn first cap) .nilFunc).run Tryz.prog w = .ok (.bool false) w := fun _ _ _ _ => rfl
  have hnn : ∀ (w : World), (binOp .eql 102 .nilFunc .nilFunc).run Tryz.prog w = .ok (.bool true) w := fun _ => rfl
  go_enter Tryz.func32, Tryz.ntmps32
  go_wp2_with fail
  refine (may_any _ _ _ _ _ _ hv hv').mono ?_
  rintro e w1 ⟨rfl, hn1⟩
  obtain ⟨c0, c1, c2, c3, c4, hz⟩ := five_in hn1
  have HN := Lib.hid (((Nx.refl w).alloc _).trans hn1)
  clear hn1
  go_wp2_with (go_at_call 59; refine (formOf_any _ _).mono ?_; rintro e w' ⟨rfl, rfl⟩)
  refine (reck_7 _).mono ?_
  rintro e w2 ⟨rfl, hn2⟩
  go_wp2
  go_ret2
  exact ⟨ret2_ub rfl HO.out.symm, HN.out.trans hn2⟩

set_option maxHeartbeats 1000000 in
theorem value_8 (rd rs1 rs2 imm a b pc size : Int) (w : World) (hv : -2147483648 ≤ imm) (hv' : imm ≤ 2147483647) (a1 : 0 ≤ a) (a2 : a < 4294967296) (b1 : 0 ≤ b) (b2 : b < 4294967296) (p1 : 0 ≤ pc) (p2 : pc < 4294967296) (h : mayB 8 rd rs1 rs2 imm = true) :
    Calls Tryz.prog 32 #[.agg #[.int .i64 8, .int .i64 rd, .int .i64 rs1, .int .i64 rs2, .int .i32 imm], .int .u32 a, .int .u32 b, .int .u32 pc, .int .i64 size] w fun e w' => e = .returned (.tuple #[.int .u32 (0), .bool (valO 8)]) ∧ Nx w w' := by
  have hf : formN 8 = 3 := rfl
  have HO : Hid (valO 8 = false) := rfl
  have hne : ∀ (fn : Fn) (first cap : Array Value) (w : World), (binOp .eql 102 (.func fn first cap) .nilFunc).run Tryz.prog w = .ok (.bool false) w := fun _ _ _ _ => rfl
  have hnn : ∀ (w : World), (binOp .eql 102 .nilFunc .nilFunc).run Tryz.prog w = .ok (.bool true) w := fun _ => rfl
  go_enter Tryz.func32, Tryz.ntmps32
  go_wp2_with fail
  refine (may_any _ _ _ _ _ _ hv hv').mono ?_
  rintro e w1 ⟨rfl, hn1⟩
  obtain ⟨c0, c1, c2, c3, c4, hz⟩ := five_in hn1
  have HN := Lib.hid (((Nx.refl w).alloc _).trans hn1)
  clear hn1
  go_wp2_with (go_at_call 59; refine (formOf_any _ _).mono ?_; rintro e w' ⟨rfl, rfl⟩)
  refine (reck_8 _).mono ?_
  rintro e w2 ⟨rfl, hn2⟩
  go_wp2
  go_ret2
  exact ⟨ret2_ub rfl HO.out.symm, HN.out.trans hn2⟩

set_option maxHeartbeats 1000000 in
theorem value_9 (rd rs1 rs2 imm a b pc size : Int) (w : World) (hv : -2147483648 ≤ imm) (hv' : imm ≤ 2147483647) (a1 : 0 ≤ a) (a2 : a < 4294967296) (b1 : 0 ≤ b) (b2 : b < 4294967296) (p1 : 0 ≤ pc) (p2 : pc < 4294967296) (h : mayB 9 rd rs1 rs2 imm = true) :
    Calls Tryz.prog 32 #[.agg #[.int .i64 9, .int .i64 rd, .int .i64 rs1, .int .i64 rs2, .int .i32 imm], .int .u32 a, .int .u32 b, .int .u32 pc, .int .i64 size] w fun e w' => e = .returned (.tuple #[.int .u32 (0), .bool (valO 9)]) ∧ Nx w w' := by
  have hf : formN 9 = 3 := rfl
  have HO : Hid (valO 9 = false) := rfl
  have hne : ∀ (fn : Fn) (first cap : Array Value) (w : World), (binOp .eql 102 (.func fn first cap) .nilFunc).run Tryz.prog w = .ok (.bool false) w := fun _ _ _ _ => rfl
  have hnn : ∀ (w : World), (binOp .eql 102 .nilFunc .nilFunc).run Tryz.prog w = .ok (.bool true) w := fun _ => rfl
  go_enter Tryz.func32, Tryz.ntmps32
  go_wp2_with fail
  refine (may_any _ _ _ _ _ _ hv hv').mono ?_
  rintro e w1 ⟨rfl, hn1⟩
  obtain ⟨c0, c1, c2, c3, c4, hz⟩ := five_in hn1
  have HN := Lib.hid (((Nx.refl w).alloc _).trans hn1)
  clear hn1
  go_wp2_with (go_at_call 59; refine (formOf_any _ _).mono ?_; rintro e w' ⟨rfl, rfl⟩)
  refine (reck_9 _).mono ?_
  rintro e w2 ⟨rfl, hn2⟩
  go_wp2
  go_ret2
  exact ⟨ret2_ub rfl HO.out.symm, HN.out.trans hn2⟩

set_option maxHeartbeats 1000000 in
theorem value_10 (rd rs1 rs2 imm a b pc size : Int) (w : World) (hv : -2147483648 ≤ imm) (hv' : imm ≤ 2147483647) (a1 : 0 ≤ a) (a2 : a < 4294967296) (b1 : 0 ≤ b) (b2 : b < 4294967296) (p1 : 0 ≤ pc) (p2 : pc < 4294967296) (h : mayB 10 rd rs1 rs2 imm = true) :
    Calls Tryz.prog 32 #[.agg #[.int .i64 10, .int .i64 rd, .int .i64 rs1, .int .i64 rs2, .int .i32 imm], .int .u32 a, .int .u32 b, .int .u32 pc, .int .i64 size] w fun e w' => e = .returned (.tuple #[.int .u32 (0), .bool (valO 10)]) ∧ Nx w w' := by
  have hf : formN 10 = 3 := rfl
  have HO : Hid (valO 10 = false) := rfl
  have hne : ∀ (fn : Fn) (first cap : Array Value) (w : World), (binOp .eql 102 (.func fn first cap) .nilFunc).run Tryz.prog w = .ok (.bool false) w := fun _ _ _ _ => rfl
  have hnn : ∀ (w : World), (binOp .eql 102 .nilFunc .nilFunc).run Tryz.prog w = .ok (.bool true) w := fun _ => rfl
  go_enter Tryz.func32, Tryz.ntmps32
  go_wp2_with fail
  refine (may_any _ _ _ _ _ _ hv hv').mono ?_
  rintro e w1 ⟨rfl, hn1⟩
  obtain ⟨c0, c1, c2, c3, c4, hz⟩ := five_in hn1
  have HN := Lib.hid (((Nx.refl w).alloc _).trans hn1)
  clear hn1
  go_wp2_with (go_at_call 59; refine (formOf_any _ _).mono ?_; rintro e w' ⟨rfl, rfl⟩)
  refine (reck_10 _).mono ?_
  rintro e w2 ⟨rfl, hn2⟩
  go_wp2
  go_ret2
  exact ⟨ret2_ub rfl HO.out.symm, HN.out.trans hn2⟩

set_option maxHeartbeats 1000000 in
theorem value_11 (rd rs1 rs2 imm a b pc size : Int) (w : World) (hv : -2147483648 ≤ imm) (hv' : imm ≤ 2147483647) (a1 : 0 ≤ a) (a2 : a < 4294967296) (b1 : 0 ≤ b) (b2 : b < 4294967296) (p1 : 0 ≤ pc) (p2 : pc < 4294967296) (h : mayB 11 rd rs1 rs2 imm = true) :
    Calls Tryz.prog 32 #[.agg #[.int .i64 11, .int .i64 rd, .int .i64 rs1, .int .i64 rs2, .int .i32 imm], .int .u32 a, .int .u32 b, .int .u32 pc, .int .i64 size] w fun e w' => e = .returned (.tuple #[.int .u32 (0), .bool (valO 11)]) ∧ Nx w w' := by
  have hf : formN 11 = 4 := rfl
  have HO : Hid (valO 11 = false) := rfl
  have hne : ∀ (fn : Fn) (first cap : Array Value) (w : World), (binOp .eql 102 (.func fn first cap) .nilFunc).run Tryz.prog w = .ok (.bool false) w := fun _ _ _ _ => rfl
  have hnn : ∀ (w : World), (binOp .eql 102 .nilFunc .nilFunc).run Tryz.prog w = .ok (.bool true) w := fun _ => rfl
  go_enter Tryz.func32, Tryz.ntmps32
  go_wp2_with fail
  refine (may_any _ _ _ _ _ _ hv hv').mono ?_
  rintro e w1 ⟨rfl, hn1⟩
  obtain ⟨c0, c1, c2, c3, c4, hz⟩ := five_in hn1
  have HN := Lib.hid (((Nx.refl w).alloc _).trans hn1)
  clear hn1
  go_wp2_with (go_at_call 59; refine (formOf_any _ _).mono ?_; rintro e w' ⟨rfl, rfl⟩)
  refine (reck_11 _).mono ?_
  rintro e w2 ⟨rfl, hn2⟩
  go_wp2
  go_ret2
  exact ⟨ret2_ub rfl HO.out.symm, HN.out.trans hn2⟩

set_option maxHeartbeats 1000000 in
theorem value_12 (rd rs1 rs2 imm a b pc size : Int) (w : World) (hv : -2147483648 ≤ imm) (hv' : imm ≤ 2147483647) (a1 : 0 ≤ a) (a2 : a < 4294967296) (b1 : 0 ≤ b) (b2 : b < 4294967296) (p1 : 0 ≤ pc) (p2 : pc < 4294967296) (h : mayB 12 rd rs1 rs2 imm = true) :
    Calls Tryz.prog 32 #[.agg #[.int .i64 12, .int .i64 rd, .int .i64 rs1, .int .i64 rs2, .int .i32 imm], .int .u32 a, .int .u32 b, .int .u32 pc, .int .i64 size] w fun e w' => e = .returned (.tuple #[.int .u32 (0), .bool (valO 12)]) ∧ Nx w w' := by
  have hf : formN 12 = 4 := rfl
  have HO : Hid (valO 12 = false) := rfl
  have hne : ∀ (fn : Fn) (first cap : Array Value) (w : World), (binOp .eql 102 (.func fn first cap) .nilFunc).run Tryz.prog w = .ok (.bool false) w := fun _ _ _ _ => rfl
  have hnn : ∀ (w : World), (binOp .eql 102 .nilFunc .nilFunc).run Tryz.prog w = .ok (.bool true) w := fun _ => rfl
  go_enter Tryz.func32, Tryz.ntmps32
  go_wp2_with fail
  refine (may_any _ _ _ _ _ _ hv hv').mono ?_
  rintro e w1 ⟨rfl, hn1⟩
  obtain ⟨c0, c1, c2, c3, c4, hz⟩ := five_in hn1
  have HN := Lib.hid (((Nx.refl w).alloc _).trans hn1)
  clear hn1
  go_wp2_with (go_at_call 59; refine (formOf_any _ _).mono ?_; rintro e w' ⟨rfl, rfl⟩)
  refine (reck_12 _).mono ?_
  rintro e w2 ⟨rfl, hn2⟩
  go_wp2
  go_ret2
  exact ⟨ret2_ub rfl HO.out.symm, HN.out.trans hn2⟩

set_option maxHeartbeats 1000000 in
theorem value_13 (rd rs1 rs2 imm a b pc size : Int) (w : World) (hv : -2147483648 ≤ imm) (hv' : imm ≤ 2147483647) (a1 : 0 ≤ a) (a2 : a < 4294967296) (b1 : 0 ≤ b) (b2 : b < 4294967296) (p1 : 0 ≤ pc) (p2 : pc < 4294967296) (h : mayB 13 rd rs1 rs2 imm = true) :
    Calls Tryz.prog 32 #[.agg #[.int .i64 13, .int .i64 rd, .int .i64 rs1, .int .i64 rs2, .int .i32 imm], .int .u32 a, .int .u32 b, .int .u32 pc, .int .i64 size] w fun e w' => e = .returned (.tuple #[.int .u32 (0), .bool (valO 13)]) ∧ Nx w w' := by
  have hf : formN 13 = 4 := rfl
  have HO : Hid (valO 13 = false) := rfl
  have hne : ∀ (fn : Fn) (first cap : Array Value) (w : World), (binOp .eql 102 (.func fn first cap) .nilFunc).run Tryz.prog w = .ok (.bool false) w := fun _ _ _ _ => rfl
  have hnn : ∀ (w : World), (binOp .eql 102 .nilFunc .nilFunc).run Tryz.prog w = .ok (.bool true) w := fun _ => rfl
  go_enter Tryz.func32, Tryz.ntmps32
  go_wp2_with fail
  refine (may_any _ _ _ _ _ _ hv hv').mono ?_
  rintro e w1 ⟨rfl, hn1⟩
  obtain ⟨c0, c1, c2, c3, c4, hz⟩ := five_in hn1
  have HN := Lib.hid (((Nx.refl w).alloc _).trans hn1)
  clear hn1
  go_wp2_with (go_at_call 59; refine (formOf_any _ _).mono ?_; rintro e w' ⟨rfl, rfl⟩)
  refine (reck_13 _).mono ?_
  rintro e w2 ⟨rfl, hn2⟩
  go_wp2
  go_ret2
  exact ⟨ret2_ub rfl HO.out.symm, HN.out.trans hn2⟩

set_option maxHeartbeats 1000000 in
theorem value_14 (rd rs1 rs2 imm a b pc size : Int) (w : World) (hv : -2147483648 ≤ imm) (hv' : imm ≤ 2147483647) (a1 : 0 ≤ a) (a2 : a < 4294967296) (b1 : 0 ≤ b) (b2 : b < 4294967296) (p1 : 0 ≤ pc) (p2 : pc < 4294967296) (h : mayB 14 rd rs1 rs2 imm = true) :
    Calls Tryz.prog 32 #[.agg #[.int .i64 14, .int .i64 rd, .int .i64 rs1, .int .i64 rs2, .int .i32 imm], .int .u32 a, .int .u32 b, .int .u32 pc, .int .i64 size] w fun e w' => e = .returned (.tuple #[.int .u32 (0), .bool (valO 14)]) ∧ Nx w w' := by
  have hf : formN 14 = 4 := rfl
  have HO : Hid (valO 14 = false) := rfl
  have hne : ∀ (fn : Fn) (first cap : Array Value) (w : World), (binOp .eql 102 (.func fn first cap) .nilFunc).run Tryz.prog w = .ok (.bool false) w := fun _ _ _ _ => rfl
  have hnn : ∀ (w : World), (binOp .eql 102 .nilFunc .nilFunc).run Tryz.prog w = .ok (.bool true) w := fun _ => rfl
  go_enter Tryz.func32, Tryz.ntmps32
  go_wp2_with fail
  refine (may_any _ _ _ _ _ _ hv hv').mono ?_
  rintro e w1 ⟨rfl, hn1⟩
  obtain ⟨c0, c1, c2, c3, c4, hz⟩ := five_in hn1
  have HN := Lib.hid (((Nx.refl w).alloc _).trans hn1)
  clear hn1
  go_wp2_with (go_at_call 59; refine (formOf_any _ _).mono ?_; rintro e w' ⟨rfl, rfl⟩)
  refine (reck_14 _).mono ?_
  rintro e w2 ⟨rfl, hn2⟩
  go_wp2
  go_ret2
  exact ⟨ret2_ub rfl HO.out.symm, HN.out.trans hn2⟩

set_option maxHeartbeats 1000000 in
theorem value_15 (rd rs1 rs2 imm a b pc size : Int) (w : World) (hv : -2147483648 ≤ imm) (hv' : imm ≤ 2147483647) (a1 : 0 ≤ a) (a2 : a < 4294967296) (b1 : 0 ≤ b) (b2 : b < 4294967296) (p1 : 0 ≤ pc) (p2 : pc < 4294967296) (h : mayB 15 rd rs1 rs2 imm = true) :
    Calls Tryz.prog 32 #[.agg #[.int .i64 15, .int .i64 rd, .int .i64 rs1, .int .i64 rs2, .int .i32 imm], .int .u32 a, .int .u32 b, .int .u32 pc, .int .i64 size] w fun e w' => e = .returned (.tuple #[.int .u32 (0), .bool (valO 15)]) ∧ Nx w w' := by
  have hf : formN 15 = 4 := rfl
  have HO : Hid (valO 15 = false) := rfl
  have hne : ∀ (fn : Fn) (first cap : Array Value) (w : World), (binOp .eql 102 (.func fn first cap) .nilFunc).run Tryz.prog w = .ok (.bool false) w := fun _ _ _ _ => rfl
  have hnn : ∀ (w : World), (binOp .eql 102 .nilFunc .nilFunc).run Tryz.prog w = .ok (.bool true) w := fun _ => rfl
  go_enter Tryz.func32, Tryz.ntmps32
  go_wp2_with fail
  refine (may_any _ _ _ _ _ _ hv hv').mono ?_
  rintro e w1 ⟨rfl, hn1⟩
  obtain ⟨c0, c1, c2, c3, c4, hz⟩ := five_in hn1
  have HN := Lib.hid (((Nx.refl w).alloc _).trans hn1)
  clear hn1
  go_wp2_with (go_at_call 59; refine (formOf_any _ _).mono ?_; rintro e w' ⟨rfl, rfl⟩)
  refine (reck_15 _).mono ?_
  rintro e w2 ⟨rfl, hn2⟩
  go_wp2
  go_ret2
  exact ⟨ret2_ub rfl HO.out.symm, HN.out.trans hn2⟩

set_option maxHeartbeats 1000000 in
theorem value_16 (rd rs1 rs2 imm a b pc size : Int) (w : World) (hv : -2147483648 ≤ imm) (hv' : imm ≤ 2147483647) (a1 : 0 ≤ a) (a2 : a < 4294967296) (b1 : 0 ≤ b) (b2 : b < 4294967296) (p1 : 0 ≤ pc) (p2 : pc < 4294967296) (h : mayB 16 rd rs1 rs2 imm = true) :
    Calls Tryz.prog 32 #[.agg #[.int .i64 16, .int .i64 rd, .int .i64 rs1, .int .i64 rs2, .int .i32 imm], .int .u32 a, .int .u32 b, .int .u32 pc, .int .i64 size] w fun e w' => e = .returned (.tuple #[.int .u32 (0), .bool (valO 16)]) ∧ Nx w w' := by
  have hf : formN 16 = 5 := rfl
  have HO : Hid (valO 16 = false) := rfl
  have hne : ∀ (fn : Fn) (first cap : Array Value) (w : World), (binOp .eql 102 (.func fn first cap) .nilFunc).run Tryz.prog w = .ok (.bool false) w := fun _ _ _ _ => rfl
  have hnn : ∀ (w : World), (binOp .eql 102 .nilFunc .nilFunc).run Tryz.prog w = .ok (.bool true) w := fun _ => rfl
  go_enter Tryz.func32, Tryz.ntmps32
  go_wp2_with fail
  refine (may_any _ _ _ _ _ _ hv hv').mono ?_
  rintro e w1 ⟨rfl, hn1⟩
  obtain ⟨c0, c1, c2, c3, c4, hz⟩ := five_in hn1
  have HN := Lib.hid (((Nx.refl w).alloc _).trans hn1)
  clear hn1
  go_wp2_with (go_at_call 59; refine (formOf_any _ _).mono ?_; rintro e w' ⟨rfl, rfl⟩)
  refine (reck_16 _).mono ?_
  rintro e w2 ⟨rfl, hn2⟩
  go_wp2
  go_ret2
  exact ⟨ret2_ub rfl HO.out.symm, HN.out.trans hn2⟩

end Go.Proofs.YtndpgakjpokllaaGreat

