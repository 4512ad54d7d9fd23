/- Package typecaselaw23: the walk of ShowApart. -/
import Derived.Test.YtdgmdkkockbkjaaDoorLawu
namespace Go.Proofs.YtdgmdkkockbkjaaDoor
open Go.RowKit
set_option linter.unusedVariables false
set_option linter.unusedSimpArgs false

theorem neq_ins (i j : In5) : ∃ b : Bool, (∀ w, (binOp .neq 23 (.agg #[.int .i64 i.op, .int .i64 i.rd, .int .i64 i.rs1, .int .i64 i.rs2, .int .i32 i.imm]) (.agg #[.int .i64 j.op, .int .i64 j.rd, .int .i64 j.rs1, .int .i64 j.rs2, .int .i32 j.imm])).run Tryd.prog w = .ok (.bool b) w) ∧ (i = j → b = false) := by
  refine ⟨!(i.op == j.op && i.rd == j.rd && i.rs1 == j.rs1 && i.rs2 == j.rs2 && i.imm == j.imm), fun w => ?_, fun h => ?_⟩
  · simp [go_sem, Bool.and_assoc]
    repeat' split
    all_goals simp_all
  · subst h; simp

theorem has5 {w : World} {g : Nat} {T : TypeId} {fz : Nat × Nat} {a b c d e : Value} (h : Has w g (.cells #[a, b, c, d, e] T fz)) :
    w.cell? ⟨g, 0, none⟩ = some a ∧ w.cell? ⟨g, 1, none⟩ = some b ∧ w.cell? ⟨g, 2, none⟩ = some c ∧ w.cell? ⟨g, 3, none⟩ = some d ∧ w.cell? ⟨g, 4, none⟩ = some e :=
  ⟨h.cell 0 _ rfl, h.cell 1 _ rfl, h.cell 2 _ rfl, h.cell 3 _ rfl, h.cell 4 _ rfl⟩

/-- What the texts of two instructions say of each other. -/
def ApB (i j : In5) (s : List UInt8) (b : Bool) : Prop := textP i s = [] ∨ (¬ textP i s = [] ∧ textP i s = textP j s ∧ b = false) ∨ (¬ textP i s = [] ∧ ¬ textP i s = textP j s)

theorem apB_of (i j : In5) (s : List UInt8) (b : Bool) (bi : -2147483648 ≤ i.imm ∧ i.imm ≤ 2147483647) (bj : -2147483648 ≤ j.imm ∧ j.imm ≤ 2147483647) (hb : i = j → b = false) : ApB i j s b := by
  unfold ApB
  by_cases h : textP i s = []
  · exact Or.inl h
  · by_cases e : textP i s = textP j s
    · exact Or.inr (Or.inl ⟨h, e, hb (text_apart i j s bi bj h e)⟩)
    · exact Or.inr (Or.inr ⟨h, e⟩)

theorem shB_tot : ∀ k, k < 27 → shB[k]? = some (shB.getD k []) := by
  intro k hk
  rw [List.getD_eq_getElem?_getD, List.getElem?_eq_getElem (by show k < 27; exact hk)]
  rfl

set_option maxHeartbeats 8000000 in
set_option maxRecDepth 100000 in
theorem ShowApart_walk0 (i j : In5) (bi : -2147483648 ≤ i.imm ∧ i.imm ≤ 2147483647) (bj : -2147483648 ≤ j.imm ∧ j.imm ≤ 2147483647) (w : World) (hP : NamesAt w ∧ Tab w) :
    Calls Tryd.prog 4 #[.agg #[.int .i64 i.op, .int .i64 i.rd, .int .i64 i.rs1, .int .i64 i.rs2, .int .i32 i.imm], .agg #[.int .i64 j.op, .int .i64 j.rd, .int .i64 j.rs1, .int .i64 j.rs2, .int .i32 j.imm]] w fun e w' => e = .returned (.bool true) ∧ Nx w w' := by
  have HP := Lib.hid hP
  obtain ⟨b, q, hb⟩ := neq_ins i j
  have HAP := Lib.hid (fun s => apB_of i j s b bi bj hb)
  have HTS := Lib.hid (fun s (hs : s ∈ shB) (h : ¬ textP i s = []) => text_short i s hs h)
  have CA := Lib.hid (fun s t (h : textP i s = t) w' (hp : NamesAt w' ∧ Tab w') => shText_v i.op i.rd i.rs1 i.rs2 i.imm s t h w' bi.1 bi.2 hp)
  have CB := Lib.hid (fun s t (h : textP j s = t) w' (hp : NamesAt w' ∧ Tab w') => shText_v j.op j.rd j.rs1 j.rs2 j.imm s t h w' bj.1 bj.2 hp)
  clear hP hb bi bj
  have G0 := Lib.hid (((Nx.refl w).alloc (.cells #[.int .i64 i.op, .int .i64 i.rd, .int .i64 i.rs1, .int .i64 i.rs2, .int .i32 i.imm] 23)).alloc (.cells #[.int .i64 j.op, .int .i64 j.rd, .int .i64 j.rs1, .int .i64 j.rs2, .int .i32 j.imm] 23))
  have HA0 := Lib.hid ((Has.new w (.cells #[.int .i64 i.op, .int .i64 i.rd, .int .i64 i.rs1, .int .i64 i.rs2, .int .i32 i.imm] 23)).alloc (.cells #[.int .i64 j.op, .int .i64 j.rd, .int .i64 j.rs1, .int .i64 j.rs2, .int .i32 j.imm] 23))
  have HB0 := Lib.hid (Has.at_ (w.alloc (.cells #[.int .i64 i.op, .int .i64 i.rd, .int .i64 i.rs1, .int .i64 i.rs2, .int .i32 i.imm] 23)) (.cells #[.int .i64 j.op, .int .i64 j.rd, .int .i64 j.rs1, .int .i64 j.rs2, .int .i32 j.imm] 23) (g := w.heap.size + 1) (by simp))
  obtain ⟨s0, hs0⟩ : ∃ s, textP i [] = s := ⟨_, rfl⟩
  obtain ⟨t0, ht0⟩ : ∃ s, textP j [] = s := ⟨_, rfl⟩
  have HAP0 := Lib.hid (HAP.out [])
  unfold ApB at HAP0
  rw [hs0, ht0] at HAP0
  have HS0 := Lib.hid hs0
  have HT0 := Lib.hid ht0
  have CA0 := Lib.hid (fun w' hp => CA.out [] s0 HS0.out w' hp)
  have CB0 := Lib.hid (fun w' hp => CB.out [] t0 HT0.out w' hp)
  clear hs0 ht0
  obtain ⟨iop, ird, irs1, irs2, iimm⟩ := i
  obtain ⟨jop, jrd, jrs1, jrs2, jimm⟩ := j
  dsimp only at *
  go_enter Tryd.func4, Tryd.ntmps4
  go_wp2_with fail
  refine (awakeu_any _ (hP_nx HP.out G0.out)).mono ?_
  rintro e w1 ⟨rfl, hn1⟩
  have HA := Lib.hid (HA0.out.nx hn1)
  have HB := Lib.hid (HB0.out.nx hn1)
  have G1 := Lib.hid (G0.out.trans hn1)
  have hz1 : w.heap.size + 1 < w1.heap.size := HB.out.lt
  have hy1 : w.heap.size < w1.heap.size := HA.out.lt
  clear HA0 HB0 hn1
  obtain ⟨a0, a1, a2, a3, a4⟩ := has5 HA.out
  obtain ⟨ab0, ab1, ab2, ab3, ab4⟩ := has5 HB.out
  go_wp2_with fail
  (refine wp_region_nx 4 (by kernel_rfl) (by kernel_rfl) ?_; simp only [List.take_succ_cons, List.take_zero, List.drop_succ_cons, List.drop_zero]; (repeat (refine wpQuiet_step (fun K hK => ?_); go_simp; first | (refine hK _ ?_; clear hK K) | (apply Exists.intro; refine ⟨fun w' hw' => ?_, hK _ ?_⟩; (first | (with_reducible rfl) | (go_at_call 7; with_reducible exact (CA0.out _ (hP_nx HP.out (G1.out.trans hw'))).mono fun _ _ h => ⟨h.1, hw'.trans h.2⟩) | (go_at_call 7; with_reducible exact (CB0.out _ (hP_nx HP.out (G1.out.trans hw'))).mono fun _ _ h => ⟨h.1, hw'.trans h.2⟩) | (obtain ⟨hc, hf⟩ := nx_cells hw'; go_simp; with_reducible rfl) | (obtain ⟨hc, hf⟩ := nx_cells hw'; go_simp; rfl)); clear hK K))); refine wpQuiet_nil ?_; intro w2 hn2)
  have HA2 := Lib.hid (HA.out.nx hn2)
  have HB2 := Lib.hid (HB.out.nx hn2)
  have G2 := Lib.hid (G1.out.trans hn2)
  have hz2 := Nat.lt_of_lt_of_le hz1 hn2.size
  have hy2 := Nat.lt_of_lt_of_le hy1 hn2.size
  clear hn2 HA HB a0 ab0 a1 ab1 a2 ab2 a3 ab3 a4 ab4
  obtain ⟨a0, a1, a2, a3, a4⟩ := has5 HA2.out
  obtain ⟨ab0, ab1, ab2, ab3, ab4⟩ := has5 HB2.out
  have KEY : ∀ (bs bst : Bool), ((s0 == []) = bs ∧ (s0 == t0) = bst ∧ (bs = true ∨ (bst = false) ∨ b = false)) → True := fun _ _ _ => trivial
  rcases HAP0.out with h | ⟨h, h', h''⟩ | ⟨h, h'⟩
  · have f1 : (s0 == []) = true := by rw [h]; rfl
    clear HAP0 h
    go_wp2_with fail
    refine (rNames_any _).mono ?_
    rintro e w3 ⟨rfl, hS, hn3⟩
    have HS := Lib.hid hS
    have HA3 := Lib.hid (HA2.out.nx hn3)
    have HB3 := Lib.hid (HB2.out.nx hn3)
    have G3 := Lib.hid (G2.out.trans hn3)
    have hz3 := Nat.lt_of_lt_of_le hz2 hn3.size
    have hy3 := Nat.lt_of_lt_of_le hy2 hn3.size
    have hq3 : w2.heap.size < w3.heap.size := block_lt (hS 0 _ (shB_tot 0 (by decide)))
    clear hS hn3 a0 ab0 a1 ab1 a2 ab2 a3 ab3 a4 ab4
    go_wp2
    go_loopw [8] (fun v wr => ∃ k : Nat, k ≤ 27 ∧ v = .int .i64 k ∧ Nx w3 wr) (fun v _ => 27 - (intOf v).toNat)
    case atStart => exact ⟨0, by omega, rfl, Nx.refl _⟩
    case round =>
      obtain ⟨k, hk, rfl, hn⟩ := hrel
      by_cases hlt : k < 27
      · have hc := hn.cell (HS.out k _ (shB_tot k hlt))
        have HM := Lib.hid (List.mem_of_getElem? (shB_tot k hlt))
        have hzr := Nat.lt_of_lt_of_le hz3 hn.size
        have hyr := Nat.lt_of_lt_of_le hy3 hn.size
        have hqr := Nat.lt_of_lt_of_le hq3 hn.size
        have HN := Lib.hid hn
        have HAr := Lib.hid (HA3.out.nx hn)
        have HBr := Lib.hid (HB3.out.nx hn)
        clear hn
        obtain ⟨a0, a1, a2, a3, a4⟩ := has5 HAr.out
        obtain ⟨ab0, ab1, ab2, ab3, ab4⟩ := has5 HBr.out
        generalize shB.getD k [] = nm at *
        obtain ⟨x, hx⟩ : ∃ x, textP ⟨iop, ird, irs1, irs2, iimm⟩ nm = x := ⟨_, rfl⟩
        obtain ⟨y, hy⟩ : ∃ y, textP ⟨jop, jrd, jrs1, jrs2, jimm⟩ nm = y := ⟨_, rfl⟩
        have CAx := Lib.hid (fun w' hp => CA.out nm x hx w' hp)
        have CBy := Lib.hid (fun w' hp => CB.out nm y hy w' hp)
        have HC := Lib.hid (HAP.out nm)
        unfold ApB at HC
        rw [hx, hy] at HC
        have HXS := Lib.hid (fun (h : ¬ x = []) => (show (x == s0) = false from by rw [beq_eq_false_iff_ne, ← hx, ← HS0.out]; exact HTS.out nm HM.out (by rw [hx]; exact h)))
        have dk : decide ((k : Int) < 27) = true := decide_eq_true (by omega)
        have hkI : (k : Int) < 27 := by omega
        clear hx hy
        go_wp2_with fail
        (refine wp_region_nx 12 (by kernel_rfl) (by kernel_rfl) ?_; simp only [List.take_succ_cons, List.take_zero, List.drop_succ_cons, List.drop_zero]; (repeat (refine wpQuiet_step (fun K hK => ?_); go_simp; first | (refine hK _ ?_; clear hK K) | (apply Exists.intro; refine ⟨fun w' hw' => ?_, hK _ ?_⟩; (first | (with_reducible rfl) | (go_at_call 7; with_reducible exact (CAx.out _ (hP_nx HP.out ((G3.out.trans HN.out).trans hw'))).mono fun _ _ h => ⟨h.1, hw'.trans h.2⟩) | (go_at_call 7; with_reducible exact (CBy.out _ (hP_nx HP.out ((G3.out.trans HN.out).trans hw'))).mono fun _ _ h => ⟨h.1, hw'.trans h.2⟩) | (obtain ⟨hc, hf⟩ := nx_cells hw'; go_simp; with_reducible rfl) | (obtain ⟨hc, hf⟩ := nx_cells hw'; go_simp; rfl)); clear hK K))); refine wpQuiet_nil ?_; intro w9 hn9)
        have HA9 := Lib.hid (HAr.out.nx hn9)
        have HB9 := Lib.hid (HBr.out.nx hn9)
        have HN9 := Lib.hid (HN.out.trans hn9)
        have hz9 := Nat.lt_of_lt_of_le hzr hn9.size
        have hy9 := Nat.lt_of_lt_of_le hyr hn9.size
        clear hn9 a0 ab0 a1 ab1 a2 ab2 a3 ab3 a4 ab4 HAr HBr HA2 HB2
        have HAr := Lib.hid HA9.out
        have HBr := Lib.hid HB9.out
        obtain ⟨a0, a1, a2, a3, a4⟩ := has5 HAr.out
        obtain ⟨ab0, ab1, ab2, ab3, ab4⟩ := has5 HBr.out
        rcases HC.out with g | ⟨g, g', g''⟩ | ⟨g, g'⟩
        · have f1 : (x == []) = true := by rw [g]; rfl
          clear g HXS HC CAx CBy
          go_wp2
          go_roundw
          case rel => exact ⟨k + 1, by omega, by go_num, HN9.out⟩
          case measure => simp [intOf]; omega
        · have f1 : (x == []) = false := by rw [beq_eq_false_iff_ne]; exact g
          have f2 : (x == y) = true := by rw [beq_iff_eq]; exact g'
          have f3 := HXS.out g
          try subst g''
          clear g g' HXS HC CAx CBy
          go_wp2
          go_roundw
          case rel => exact ⟨k + 1, by omega, by go_num, HN9.out⟩
          case measure => simp [intOf]; omega
        · have f1 : (x == []) = false := by rw [beq_eq_false_iff_ne]; exact g
          have f2 : (x == y) = false := by rw [beq_eq_false_iff_ne]; exact g'
          have f3 := HXS.out g
          clear g g' HXS HC CAx CBy
          go_wp2
          go_roundw
          case rel => exact ⟨k + 1, by omega, by go_num, HN9.out⟩
          case measure => simp [intOf]; omega
      · obtain rfl : k = 27 := by omega
        have HN := Lib.hid (G3.out.trans hn)
        clear hn
        go_wp2
        go_ret
        exact ⟨rfl, HN.out⟩
  · have f1 : (s0 == []) = false := by rw [beq_eq_false_iff_ne]; exact h
    have f2 : (s0 == t0) = true := by rw [beq_iff_eq]; exact h'
    subst h''
    clear HAP0 h h'
    go_wp2_with fail
    refine (rNames_any _).mono ?_
    rintro e w3 ⟨rfl, hS, hn3⟩
    have HS := Lib.hid hS
    have HA3 := Lib.hid (HA2.out.nx hn3)
    have HB3 := Lib.hid (HB2.out.nx hn3)
    have G3 := Lib.hid (G2.out.trans hn3)
    have hz3 := Nat.lt_of_lt_of_le hz2 hn3.size
    have hy3 := Nat.lt_of_lt_of_le hy2 hn3.size
    have hq3 : w2.heap.size < w3.heap.size := block_lt (hS 0 _ (shB_tot 0 (by decide)))
    clear hS hn3 a0 ab0 a1 ab1 a2 ab2 a3 ab3 a4 ab4
    go_wp2
    go_loopw [8] (fun v wr => ∃ k : Nat, k ≤ 27 ∧ v = .int .i64 k ∧ Nx w3 wr) (fun v _ => 27 - (intOf v).toNat)
    case atStart => exact ⟨0, by omega, rfl, Nx.refl _⟩
    case round =>
      obtain ⟨k, hk, rfl, hn⟩ := hrel
      by_cases hlt : k < 27
      · have hc := hn.cell (HS.out k _ (shB_tot k hlt))
        have HM := Lib.hid (List.mem_of_getElem? (shB_tot k hlt))
        have hzr := Nat.lt_of_lt_of_le hz3 hn.size
        have hyr := Nat.lt_of_lt_of_le hy3 hn.size
        have hqr := Nat.lt_of_lt_of_le hq3 hn.size
        have HN := Lib.hid hn
        have HAr := Lib.hid (HA3.out.nx hn)
        have HBr := Lib.hid (HB3.out.nx hn)
        clear hn
        obtain ⟨a0, a1, a2, a3, a4⟩ := has5 HAr.out
        obtain ⟨ab0, ab1, ab2, ab3, ab4⟩ := has5 HBr.out
        generalize shB.getD k [] = nm at *
        obtain ⟨x, hx⟩ : ∃ x, textP ⟨iop, ird, irs1, irs2, iimm⟩ nm = x := ⟨_, rfl⟩
        obtain ⟨y, hy⟩ : ∃ y, textP ⟨jop, jrd, jrs1, jrs2, jimm⟩ nm = y := ⟨_, rfl⟩
        have CAx := Lib.hid (fun w' hp => CA.out nm x hx w' hp)
        have CBy := Lib.hid (fun w' hp => CB.out nm y hy w' hp)
        have HC := Lib.hid (HAP.out nm)
        unfold ApB at HC
        rw [hx, hy] at HC
        have HXS := Lib.hid (fun (h : ¬ x = []) => (show (x == s0) = false from by rw [beq_eq_false_iff_ne, ← hx, ← HS0.out]; exact HTS.out nm HM.out (by rw [hx]; exact h)))
        have dk : decide ((k : Int) < 27) = true := decide_eq_true (by omega)
        have hkI : (k : Int) < 27 := by omega
        clear hx hy
        go_wp2_with fail
        (refine wp_region_nx 12 (by kernel_rfl) (by kernel_rfl) ?_; simp only [List.take_succ_cons, List.take_zero, List.drop_succ_cons, List.drop_zero]; (repeat (refine wpQuiet_step (fun K hK => ?_); go_simp; first | (refine hK _ ?_; clear hK K) | (apply Exists.intro; refine ⟨fun w' hw' => ?_, hK _ ?_⟩; (first | (with_reducible rfl) | (go_at_call 7; with_reducible exact (CAx.out _ (hP_nx HP.out ((G3.out.trans HN.out).trans hw'))).mono fun _ _ h => ⟨h.1, hw'.trans h.2⟩) | (go_at_call 7; with_reducible exact (CBy.out _ (hP_nx HP.out ((G3.out.trans HN.out).trans hw'))).mono fun _ _ h => ⟨h.1, hw'.trans h.2⟩) | (obtain ⟨hc, hf⟩ := nx_cells hw'; go_simp; with_reducible rfl) | (obtain ⟨hc, hf⟩ := nx_cells hw'; go_simp; rfl)); clear hK K))); refine wpQuiet_nil ?_; intro w9 hn9)
        have HA9 := Lib.hid (HAr.out.nx hn9)
        have HB9 := Lib.hid (HBr.out.nx hn9)
        have HN9 := Lib.hid (HN.out.trans hn9)
        have hz9 := Nat.lt_of_lt_of_le hzr hn9.size
        have hy9 := Nat.lt_of_lt_of_le hyr hn9.size
        clear hn9 a0 ab0 a1 ab1 a2 ab2 a3 ab3 a4 ab4 HAr HBr HA2 HB2
        have HAr := Lib.hid HA9.out
        have HBr := Lib.hid HB9.out
        obtain ⟨a0, a1, a2, a3, a4⟩ := has5 HAr.out
        obtain ⟨ab0, ab1, ab2, ab3, ab4⟩ := has5 HBr.out
        rcases HC.out with g | ⟨g, g', g''⟩ | ⟨g, g'⟩
        · have f1 : (x == []) = true := by rw [g]; rfl
          clear g HXS HC CAx CBy
          go_wp2
          go_roundw
          case rel => exact ⟨k + 1, by omega, by go_num, HN9.out⟩
          case measure => simp [intOf]; omega
        · have f1 : (x == []) = false := by rw [beq_eq_false_iff_ne]; exact g
          have f2 : (x == y) = true := by rw [beq_iff_eq]; exact g'
          have f3 := HXS.out g
          try subst g''
          clear g g' HXS HC CAx CBy
          go_wp2
          go_roundw
          case rel => exact ⟨k + 1, by omega, by go_num, HN9.out⟩
          case measure => simp [intOf]; omega
        · have f1 : (x == []) = false := by rw [beq_eq_false_iff_ne]; exact g
          have f2 : (x == y) = false := by rw [beq_eq_false_iff_ne]; exact g'
          have f3 := HXS.out g
          clear g g' HXS HC CAx CBy
          go_wp2
          go_roundw
          case rel => exact ⟨k + 1, by omega, by go_num, HN9.out⟩
          case measure => simp [intOf]; omega
      · obtain rfl : k = 27 := by omega
        have HN := Lib.hid (G3.out.trans hn)
        clear hn
        go_wp2
        go_ret
        exact ⟨rfl, HN.out⟩
  · have f1 : (s0 == []) = false := by rw [beq_eq_false_iff_ne]; exact h
    have f2 : (s0 == t0) = false := by rw [beq_eq_false_iff_ne]; exact h'
    clear HAP0 h h'
    go_wp2_with fail
    refine (rNames_any _).mono ?_
    rintro e w3 ⟨rfl, hS, hn3⟩
    have HS := Lib.hid hS
    have HA3 := Lib.hid (HA2.out.nx hn3)
    have HB3 := Lib.hid (HB2.out.nx hn3)
    have G3 := Lib.hid (G2.out.trans hn3)
    have hz3 := Nat.lt_of_lt_of_le hz2 hn3.size
    have hy3 := Nat.lt_of_lt_of_le hy2 hn3.size
    have hq3 : w2.heap.size < w3.heap.size := block_lt (hS 0 _ (shB_tot 0 (by decide)))
    clear hS hn3 a0 ab0 a1 ab1 a2 ab2 a3 ab3 a4 ab4
    go_wp2
    go_loopw [8] (fun v wr => ∃ k : Nat, k ≤ 27 ∧ v = .int .i64 k ∧ Nx w3 wr) (fun v _ => 27 - (intOf v).toNat)
    case atStart => exact ⟨0, by omega, rfl, Nx.refl _⟩
    case round =>
      obtain ⟨k, hk, rfl, hn⟩ := hrel
      by_cases hlt : k < 27
      · have hc := hn.cell (HS.out k _ (shB_tot k hlt))
        have HM := Lib.hid (List.mem_of_getElem? (shB_tot k hlt))
        have hzr := Nat.lt_of_lt_of_le hz3 hn.size
        have hyr := Nat.lt_of_lt_of_le hy3 hn.size
        have hqr := Nat.lt_of_lt_of_le hq3 hn.size
        have HN := Lib.hid hn
        have HAr := Lib.hid (HA3.out.nx hn)
        have HBr := Lib.hid (HB3.out.nx hn)
        clear hn
        obtain ⟨a0, a1, a2, a3, a4⟩ := has5 HAr.out
        obtain ⟨ab0, ab1, ab2, ab3, ab4⟩ := has5 HBr.out
        generalize shB.getD k [] = nm at *
        obtain ⟨x, hx⟩ : ∃ x, textP ⟨iop, ird, irs1, irs2, iimm⟩ nm = x := ⟨_, rfl⟩
        obtain ⟨y, hy⟩ : ∃ y, textP ⟨jop, jrd, jrs1, jrs2, jimm⟩ nm = y := ⟨_, rfl⟩
        have CAx := Lib.hid (fun w' hp => CA.out nm x hx w' hp)
        have CBy := Lib.hid (fun w' hp => CB.out nm y hy w' hp)
        have HC := Lib.hid (HAP.out nm)
        unfold ApB at HC
        rw [hx, hy] at HC
        have HXS := Lib.hid (fun (h : ¬ x = []) => (show (x == s0) = false from by rw [beq_eq_false_iff_ne, ← hx, ← HS0.out]; exact HTS.out nm HM.out (by rw [hx]; exact h)))
        have dk : decide ((k : Int) < 27) = true := decide_eq_true (by omega)
        have hkI : (k : Int) < 27 := by omega
        clear hx hy
        go_wp2_with fail
        (refine wp_region_nx 12 (by kernel_rfl) (by kernel_rfl) ?_; simp only [List.take_succ_cons, List.take_zero, List.drop_succ_cons, List.drop_zero]; (repeat (refine wpQuiet_step (fun K hK => ?_); go_simp; first | (refine hK _ ?_; clear hK K) | (apply Exists.intro; refine ⟨fun w' hw' => ?_, hK _ ?_⟩; (first | (with_reducible rfl) | (go_at_call 7; with_reducible exact (CAx.out _ (hP_nx HP.out ((G3.out.trans HN.out).trans hw'))).mono fun _ _ h => ⟨h.1, hw'.trans h.2⟩) | (go_at_call 7; with_reducible exact (CBy.out _ (hP_nx HP.out ((G3.out.trans HN.out).trans hw'))).mono fun _ _ h => ⟨h.1, hw'.trans h.2⟩) | (obtain ⟨hc, hf⟩ := nx_cells hw'; go_simp; with_reducible rfl) | (obtain ⟨hc, hf⟩ := nx_cells hw'; go_simp; rfl)); clear hK K))); refine wpQuiet_nil ?_; intro w9 hn9)
        have HA9 := Lib.hid (HAr.out.nx hn9)
        have HB9 := Lib.hid (HBr.out.nx hn9)
        have HN9 := Lib.hid (HN.out.trans hn9)
        have hz9 := Nat.lt_of_lt_of_le hzr hn9.size
        have hy9 := Nat.lt_of_lt_of_le hyr hn9.size
        clear hn9 a0 ab0 a1 ab1 a2 ab2 a3 ab3 a4 ab4 HAr HBr HA2 HB2
        have HAr := Lib.hid HA9.out
        have HBr := Lib.hid HB9.out
        obtain ⟨a0, a1, a2, a3, a4⟩ := has5 HAr.out
        obtain ⟨ab0, ab1, ab2, ab3, ab4⟩ := has5 HBr.out
        rcases HC.out with g | ⟨g, g', g''⟩ | ⟨g, g'⟩
        · have f1 : (x == []) = true := by rw [g]; rfl
          clear g HXS HC CAx CBy
          go_wp2
          go_roundw
          case rel => exact ⟨k + 1, by omega, by go_num, HN9.out⟩
          case measure => simp [intOf]; omega
        · have f1 : (x == []) = false := by rw [beq_eq_false_iff_ne]; exact g
          have f2 : (x == y) = true := by rw [beq_iff_eq]; exact g'
          have f3 := HXS.out g
          try subst g''
          clear g g' HXS HC CAx CBy
          go_wp2
          go_roundw
          case rel => exact ⟨k + 1, by omega, by go_num, HN9.out⟩
          case measure => simp [intOf]; omega
        · have f1 : (x == []) = false := by rw [beq_eq_false_iff_ne]; exact g
          have f2 : (x == y) = false := by rw [beq_eq_false_iff_ne]; exact g'
          have f3 := HXS.out g
          clear g g' HXS HC CAx CBy
          go_wp2
          go_roundw
          case rel => exact ⟨k + 1, by omega, by go_num, HN9.out⟩
          case measure => simp [intOf]; omega
      · obtain rfl : k = 27 := by omega
        have HN := Lib.hid (G3.out.trans hn)
        clear hn
        go_wp2
        go_ret
        exact ⟨rfl, HN.out⟩

theorem ShowApart_walk (op rd rs1 rs2 imm op' rd' rs1' rs2' imm' : Int) (h0 : -2147483648 ≤ imm) (h1 : imm ≤ 2147483647) (h0' : -2147483648 ≤ imm') (h1' : imm' ≤ 2147483647) (w : World) (hP : NamesAt w ∧ Tab w) :
    Calls Tryd.prog 4 #[.agg #[.int .i64 op, .int .i64 rd, .int .i64 rs1, .int .i64 rs2, .int .i32 imm], .agg #[.int .i64 op', .int .i64 rd', .int .i64 rs1', .int .i64 rs2', .int .i32 imm']] w fun e w' => e = .returned (.bool true) ∧ Nx w w' :=
  ShowApart_walk0 ⟨op, rd, rs1, rs2, imm⟩ ⟨op', rd', rs1', rs2', imm'⟩ ⟨h0, h1⟩ ⟨h0', h1'⟩ w hP

end Go.Proofs.YtdgmdkkockbkjaaDoor
