/- Package typecaselaw13: awake, light, and the walks of BlockKinds and BlockEnds. -/
import Derived.Test.YtbkgdepblaibkaaDoorRtj
import Derived.Test.YtbkgdepblaibkaaDoorBlke
import Derived.Test.YtbkgdepblaibkaaDoorBlkr
import Derived.Lib.SlBytesConst
namespace Go.Proofs.YtbkgdepblaibkaaDoor
open Go.RowKit
set_option linter.unusedVariables false
set_option linter.unusedSimpArgs false

/-- How many lines and tokens there are. -/
def lightN (ls : List (List Tok)) : Nat := ls.length + (ls.map List.length).sum

theorem light_take (ls : List (List Tok)) (k : Nat) (l : List Tok) (h : ls[k]? = some l) : ((ls.take (k + 1)).map List.length).sum = ((ls.take k).map List.length).sum + l.length := by
  rw [take_snoc' _ _ _ h]; simp

theorem light_le (ls : List (List Tok)) (k : Nat) : ((ls.take k).map List.length).sum ≤ (ls.map List.length).sum := by
  conv => rhs; rw [← List.take_append_drop k ls]
  rw [List.map_append, List.sum_append]
  omega

set_option maxHeartbeats 1000000 in
theorem light_any (v : Value) (ls : List (List Tok)) (w : World) (hL : Lins w v ls) (hb : ls.length ≤ 140737488351232 ∧ ∀ l ∈ ls, l.length ≤ 140737488351232) : Calls Tryd.prog 18 #[v] w fun e w' => e = .returned (.bool (decide (lightN ls ≤ 600))) ∧ w = w' := by
  have HL := Lib.hid hL
  obtain ⟨A, c, rfl, hc1, hc2, _⟩ := hL.form
  have HB := Lib.hid hb.2
  have hb1 := hb.1
  have HN : Hid (lightN ls = ls.length + ((ls.drop 0).map List.length).sum) := Lib.hid (by unfold lightN; rw [List.drop_zero])
  clear hL hb hc2
  generalize hV : lightN ls = V at *
  have HV := Lib.hid hV
  clear hV HN
  go_enter Tryd.func18, Tryd.ntmps18
  go_wp2
  go_loop [3, 4] (fun nv iv => ∃ k n : Nat, k ≤ ls.length ∧ iv = .int .i64 k ∧ nv = .int .i64 n ∧ n ≤ 281474976702464 ∧ Hid (n = ls.length + ((ls.take k).map List.length).sum)) (fun _ iv => ls.length - (intOf iv).toNat)
  case atStart => exact ⟨0, ls.length, Nat.zero_le _, rfl, rfl, by omega, Lib.hid (by simp)⟩
  case round =>
    obtain ⟨k, n, hk, rfl, rfl, hn, HK⟩ := hrel
    have d0 : decide ((n : Int) ≤ 600) = decide (n ≤ 600) := by rw [decide_eq_decide]; omega
    by_cases hlt : k < ls.length
    · obtain ⟨l, hl⟩ : ∃ l, ls[k]? = some l := ⟨_, List.getElem?_eq_getElem hlt⟩
      by_cases hn6 : n ≤ 600
      · obtain ⟨g, o, c', u, he, _, hcell, hT⟩ := line_at HL.out k l hl
        cases he
        obtain ⟨A2, c2, rfl, _⟩ := hT.form
        have hlb := HB.out l (List.mem_of_getElem? hl)
        have HK2 := Lib.hid (show n + l.length = ls.length + ((ls.take (k + 1)).map List.length).sum by rw [light_take _ _ _ hl, HK.out]; omega)
        have d1 : decide ((n : Int) ≤ 600) = true := decide_eq_true (by omega)
        clear d0 hl hT
        go_wp2
        go_round
        case rel => exact ⟨k + 1, n + l.length, by omega, by go_num, by go_num, by omega, HK2⟩
        case measure => simp [intOf]; omega
      · have hf : decide (V ≤ 600) = false := decide_eq_false (by have h1 := HK.out; have h2 := light_le ls k; have h3 := HV.out; unfold lightN at h3; omega)
        have d1 : decide ((n : Int) ≤ 600) = false := decide_eq_false (by omega)
        clear d0 hl
        go_wp2
        go_ret
        exact ⟨rfl, rfl⟩
    · obtain rfl : k = ls.length := by omega
      have hf : decide ((n : Int) ≤ 600) = decide (V ≤ 600) := by
        have h1 := HK.out
        rw [List.take_length] at h1
        have h3 := HV.out
        unfold lightN at h3
        rw [decide_eq_decide]; omega
      have HF := Lib.hid hf
      clear hf d0
      go_wp2
      go_ret
      exact ⟨ret_bool HF.out, rfl⟩

/-- The source of awake, and its lines. -/
def aw13B : List UInt8 := [46, 105, 102, 10, 120, 10, 46, 101, 108, 115, 101, 10, 121, 10, 46, 101, 110, 100, 105, 102, 10, 46, 101, 110, 100, 109]

def aw13L : List (List Tok) := [[⟨1, 1, 1, [46, 105, 102], 0, 0⟩], [⟨1, 2, 1, [120], 0, 0⟩], [⟨1, 3, 1, [46, 101, 108, 115, 101], 0, 0⟩], [⟨1, 4, 1, [121], 0, 0⟩], [⟨1, 5, 1, [46, 101, 110, 100, 105, 102], 0, 0⟩], [⟨1, 6, 1, [46, 101, 110, 100, 109], 0, 0⟩]]

theorem aw13_src : srcR aw13B = .ok aw13L := by kernel_rfl

theorem aw13_end0 : endP aw13L 0 = .ok 4 2 := by kernel_rfl

theorem aw13_end5 : endP aw13L 5 = .bad 6 1 := by kernel_rfl

theorem bys_new (w : World) (l : List UInt8) (fz : Nat × Nat) (hl : l.length ≤ maxLen) : Bys (w.alloc (.cells (l.map fun b => Value.int .u8 b.toNat).toArray 5 fz)) (.slice (some ⟨w.heap.size, 0, none⟩) l.length l.length) l := by
  refine Or.inr ⟨w.heap.size, 0, l.length, rfl, Nat.le_refl _, hl, fun k b hk => ?_⟩
  rw [Nat.zero_add]
  refine (Has.new w (.cells (l.map fun b => Value.int .u8 b.toNat).toArray 5 fz)).cell k _ ?_
  simp [hk]

theorem eql_flt (a b c : Int) (w : World) : (binOp .eql 30 (.agg #[.int .i64 a, .int .i64 b, .int .i64 c]) (.agg #[.int .i64 a, .int .i64 b, .int .i64 c])).run Tryd.prog w = .ok (.bool true) w := by
  simp [go_sem]

/-- The lines that were made, as awake has them. -/
theorem aw13_lines (w : World) (v : Value) (hB : Bys w v aw13B) : Calls Tryd.prog 43 #[v] w fun e w' => ∃ u, e = .returned (.tuple #[u, .agg #[.int .i64 0, .int .i64 0, .int .i64 0]]) ∧ Nx w w' ∧ Lins w' u aw13L := by
  refine (lines_any v aw13B w hB (by decide)).mono ?_
  rintro e w' ⟨u, a, b, c, rfl, hn, h | ⟨h, _⟩⟩
  · obtain ⟨ls, h, hL, rfl, rfl, rfl⟩ := h
    rw [aw13_src] at h
    cases h
    exact ⟨u, rfl, hn, hL⟩
  · rw [aw13_src] at h; cases h

theorem aw13_e0 (w : World) (v : Value) (hE : ErrT w) (hL : Lins w v aw13L) : Calls Tryd.prog 19 #[v, .int .i64 0] w fun e w' => e = .returned (.tuple #[.int .i64 4, .int .i64 2, .nilIface]) ∧ Nx w w' := by
  refine (end_any v aw13L 0 w hE hL (by decide)).mono ?_
  rintro e w' ⟨x, y, u, rfl, hn, ⟨h, rfl⟩ | ⟨l, c, h, _⟩⟩
  · rw [aw13_end0] at h; cases h; exact ⟨rfl, hn⟩
  · rw [aw13_end0] at h; cases h

theorem aw13_e5 (w : World) (v : Value) (hE : ErrT w) (hL : Lins w v aw13L) : Calls Tryd.prog 19 #[v, .int .i64 5] w fun e w' => ∃ u, e = .returned (.tuple #[.int .i64 0, .int .i64 0, u]) ∧ FaultIs w' u 6 1 15 ∧ Nx w w' := by
  refine (end_any v aw13L 5 w hE hL (by decide)).mono ?_
  rintro e w' ⟨x, y, u, rfl, hn, ⟨h, rfl⟩ | ⟨l, c, h, rfl, rfl, hF⟩⟩
  · rw [aw13_end5] at h; cases h
  · rw [aw13_end5] at h; cases h; exact ⟨u, rfl, hF, hn⟩

set_option maxHeartbeats 2000000 in
set_option maxRecDepth 100000 in
theorem awakee_any (w : World) (hE : ErrT w) : Calls Tryd.prog 17 #[] w fun e w' => e = .returned (.bool true) ∧ Nx w w' := by
  have HE := Lib.hid hE
  have HB := Lib.hid (show Bys (w.alloc (.cells #[.int .u8 46, .int .u8 105, .int .u8 102, .int .u8 10, .int .u8 120, .int .u8 10, .int .u8 46, .int .u8 101, .int .u8 108, .int .u8 115, .int .u8 101, .int .u8 10, .int .u8 121, .int .u8 10, .int .u8 46, .int .u8 101, .int .u8 110, .int .u8 100, .int .u8 105, .int .u8 102, .int .u8 10, .int .u8 46, .int .u8 101, .int .u8 110, .int .u8 100, .int .u8 109] 5 (26, 27))) (.slice (some ⟨w.heap.size, 0, none⟩) 26 26) aw13B from bys_new w aw13B _ (by decide))
  have kc := fun (w : World) (C : Array Value) (n c : Nat) => Lib.run_convert_bytes_const (P := Tryd.prog) w 70 5 C n c Tryd.underlying70 Tryd.underlying5
  clear hE
  go_enter Tryd.func17, Tryd.ntmps17
  go_wp2_with fail
  refine (aw13_lines _ _ HB.out).mono ?_
  rintro e w1 ⟨u, rfl, hn1, hL⟩
  have H1 := Lib.hid (((Nx.refl w).alloc _).trans hn1)
  have HL := Lib.hid hL
  obtain ⟨A, c, rfl, hc1, hc2, _⟩ := hL.form
  clear hn1 hL HB
  go_wp2_with fail
  refine (aw13_e0 _ _ ((HE.out.nx H1.out).nx ((Nx.refl _).alloc _)) (HL.out.nx ((Nx.refl _).alloc _))).mono ?_
  rintro e w2 ⟨rfl, hn2⟩
  have H2 := Lib.hid ((H1.out.alloc _).trans hn2)
  have HL2 := Lib.hid ((HL.out.nx ((Nx.refl _).alloc _)).nx hn2)
  clear hn2
  go_wp2_with fail
  refine (aw13_e5 _ _ (HE.out.nx H2.out) HL2.out).mono ?_
  rintro e w3 ⟨u3, rfl, hF, hn3⟩
  have H3 := Lib.hid (H2.out.trans hn3)
  have HL3 := Lib.hid (HL2.out.nx hn3)
  have HF := Lib.hid hF
  clear hn3 hF
  go_wp2_with fail
  refine (fault_is u3 6 1 15 _ (HE.out.nx H3.out) HF.out (by decide) (by decide)).mono ?_
  rintro e w4 ⟨rfl, hn4⟩
  have H4 := Lib.hid (H3.out.trans hn4)
  have HL4 := Lib.hid (HL3.out.nx hn4)
  have q1 := fun w => eql_flt 6 1 15 w
  obtain ⟨g, o, c', u, he, _, hcell, hT⟩ := line_at HL4.out 5 _ rfl
  cases he
  have CK := Lib.hid (show Calls Tryd.prog 22 #[u] w4 (fun e w' => e = .returned (.int .i64 2) ∧ w4 = w') from kindOf_any u _ _ hT)
  clear hn4 hT
  go_wp2_with fail
  refine CK.out.mono ?_
  rintro e w5 ⟨rfl, rfl⟩
  go_wp2
  go_ret
  exact ⟨rfl, H4.out⟩

/-! ### BlockKinds -/

set_option maxHeartbeats 1000000 in
theorem BlockKinds_walk (w0 : World) (hE : ErrT w0) (v : Value) (l : List Tok) (hT : Toks w0 v l) (hbd : ∀ t ∈ l, TokBd t) (hs : l.length ≤ 140737488351232) :
    Calls Tryd.prog 6 #[v] w0 fun e w' => e = .returned (.bool true) ∧ Nx w0 w' := by
  have HE := Lib.hid hE
  have HT := Lib.hid hT
  obtain ⟨A, c, rfl, hc1, hc2, _⟩ := hT.form
  clear hE hT hbd
  by_cases h6 : 600 < l.length
  · have d0 : decide ((600 : Int) < l.length) = true := decide_eq_true (by omega)
    go_enter Tryd.func6, Tryd.ntmps6
    go_wp2_with fail
    refine (awakee_any _ HE.out).mono ?_
    rintro e w1 ⟨rfl, hn1⟩
    have H1 := Lib.hid hn1
    clear hn1
    go_wp2
    go_ret
    exact ⟨rfl, H1.out⟩
  · have d0 : decide ((600 : Int) < l.length) = false := decide_eq_false (by omega)
    have C1 := Lib.hid (fun w (h : Nx w0 w) => kindOf_any _ l w (HT.out.nx h))
    have C2 := Lib.hid (fun w (h : Nx w0 w) => kindR_any _ l w (HT.out.nx h))
    have C3 := Lib.hid (fun w (h : Nx w0 w) => labels_any _ l w (HT.out.nx h) (by omega))
    have C4 := Lib.hid (fun w (h : Nx w0 w) => rlabels_any _ l w (HT.out.nx h) (by omega))
    generalize kindP l = k at *
    generalize labelsP l = b at *
    have bk : ((k : Int) == k) = true := by simp
    have bb : ((b : Int) == b) = true := by simp
    go_enter Tryd.func6, Tryd.ntmps6
    go_wp2_with fail
    refine (awakee_any _ HE.out).mono ?_
    rintro e w1 ⟨rfl, hn1⟩
    have H1 := Lib.hid hn1
    clear hn1
    go_wp2_with fail
    refine (C1.out _ H1.out).mono ?_
    rintro e w2 ⟨rfl, rfl⟩
    go_wp2_with fail
    refine (C2.out _ H1.out).mono ?_
    rintro e w2 ⟨rfl, hn2⟩
    have H2 := Lib.hid (H1.out.trans hn2)
    clear hn2
    go_wp2_with fail
    refine (C3.out _ H2.out).mono ?_
    rintro e w3 ⟨rfl, rfl⟩
    go_wp2_with fail
    refine (C4.out _ H2.out).mono ?_
    rintro e w3 ⟨rfl, rfl⟩
    go_wp2
    go_ret
    exact ⟨rfl, H2.out⟩

/-! ### BlockEnds -/

set_option maxHeartbeats 2000000 in
set_option maxRecDepth 100000 in
theorem BlockEnds_walk (w0 : World) (hE : ErrT w0) (v : Value) (ls : List (List Tok)) (hL : Lins w0 v ls) (hbd : ∀ l ∈ ls, ∀ t ∈ l, TokBd t) (hs : ls.length ≤ 140737488351232 ∧ ∀ l ∈ ls, l.length ≤ 140737488351232) (a : Int) :
    Calls Tryd.prog 3 #[v, .int .i64 a] w0 fun e w' => e = .returned (.bool true) ∧ Nx w0 w' := by
  have HE := Lib.hid hE
  have HL := Lib.hid hL
  obtain ⟨A, c, rfl, hc1, hc2, _⟩ := hL.form
  have CL := Lib.hid (fun w (h : Nx w0 w) => light_any _ ls w (HL.out.nx h) hs)
  clear hE hL hbd
  cases hl : decide (lightN ls ≤ 600)
  · rw [hl] at CL
    clear hl
    go_enter Tryd.func3, Tryd.ntmps3
    go_wp2_with fail
    refine (awakee_any _ HE.out).mono ?_
    rintro e w1 ⟨rfl, hn1⟩
    have H1 := Lib.hid hn1
    clear hn1
    go_wp2_with fail
    refine (CL.out _ H1.out).mono ?_
    rintro e w2 ⟨rfl, rfl⟩
    go_wp2
    go_ret
    exact ⟨rfl, H1.out⟩
  · rw [hl] at CL
    have hsm : ls.length ≤ 1000000 := by have := of_decide_eq_true hl; unfold lightN at this; omega
    clear hl
    have C1 := Lib.hid (fun w (h : Nx w0 w) => end_any _ ls a w (HE.out.nx h) (HL.out.nx h) hsm)
    have C2 := Lib.hid (fun w (h : Nx w0 w) => rend_any _ ls a w (HL.out.nx h) hsm)
    rw [← end_alike] at C2
    generalize endP ls a = V at *
    go_enter Tryd.func3, Tryd.ntmps3
    go_wp2_with fail
    refine (awakee_any _ HE.out).mono ?_
    rintro e w1 ⟨rfl, hn1⟩
    have H1 := Lib.hid hn1
    clear hn1
    go_wp2_with fail
    refine (CL.out _ H1.out).mono ?_
    rintro e w2 ⟨rfl, rfl⟩
    go_wp2_with fail
    refine (C1.out _ H1.out).mono ?_
    rintro e w2 ⟨x, y, u, rfl, hn2, hres⟩
    have H2 := Lib.hid (H1.out.trans hn2)
    clear hn2
    rcases hres with ⟨hV, rfl⟩ | ⟨fl, fc, hV, rfl, rfl, hF⟩
    · rw [hV] at C2
      have C2 := Lib.hid (fun w h => (show Calls Tryd.prog 20 #[.slice A ls.length c, .int .i64 a] w (fun e w' => e = .returned (.tuple #[.int .i64 x, .int .i64 y, .agg #[.int .i64 0, .int .i64 0, .int .i64 0]]) ∧ Nx w w') from C2.out w h))
      have CF := Lib.hid (fun w => fault_nil w)
      have q1 := fun w => eql_flt 0 0 0 w
      have b1 : (x == x) = true := by simp
      have b2 : (y == y) = true := by simp
      clear hV
      go_wp2_with fail
      refine (C2.out _ H2.out).mono ?_
      rintro e w3 ⟨rfl, hn3⟩
      have H3 := Lib.hid (H2.out.trans hn3)
      clear hn3
      go_wp2
      (refine wp_region_nx 14 (by kernel_rfl) (by kernel_rfl) ?_; simp only [List.take_succ_cons, List.take_zero, List.drop_succ_cons, List.drop_zero]; (repeat (refine wpQuiet_step (fun K hK => ?_); go_simp; first | (refine hK _ ?_; clear hK K) | (apply Exists.intro; refine ⟨fun w' hw' => ?_, hK _ ?_⟩; (first | (with_reducible rfl) | (go_at_call 21; with_reducible exact (CF.out _).mono fun _ _ h => ⟨h.1, hw'.trans h.2⟩) | (obtain ⟨hc, hf⟩ := nx_cells hw'; go_simp; with_reducible rfl) | (obtain ⟨hc, hf⟩ := nx_cells hw'; go_simp; rfl)); clear hK K))); refine wpQuiet_nil ?_; intro w9 hn9)
      have H9 := Lib.hid ((H3.out.alloc _).trans hn9)
      clear hn9
      go_wp2
      go_ret
      exact ⟨rfl, H9.out⟩
    · rw [hV] at C2
      have C2 := Lib.hid (fun w h => (show Calls Tryd.prog 20 #[.slice A ls.length c, .int .i64 a] w (fun e w' => e = .returned (.tuple #[.int .i64 0, .int .i64 0, .agg #[.int .i64 fl, .int .i64 fc, .int .i64 15]]) ∧ Nx w w') from C2.out w h))
      have HF := Lib.hid hF
      have q1 := fun w => eql_flt fl fc 15 w
      clear hV hF
      go_wp2_with fail
      refine (C2.out _ H2.out).mono ?_
      rintro e w3 ⟨rfl, hn3⟩
      have H3 := Lib.hid (H2.out.trans hn3)
      have CF := Lib.hid (fun w (h : Nx (w3.alloc (.cells #[.int .i64 fl, .int .i64 fc, .int .i64 15] 30)) w) => fault_is u fl fc 15 w ((HE.out.nx (H3.out.alloc _)).nx h) ((HF.out.nx (hn3.alloc _)).nx h) (by decide) (by decide))
      clear hn3
      go_wp2
      (refine wp_region_nx 14 (by kernel_rfl) (by kernel_rfl) ?_; simp only [List.take_succ_cons, List.take_zero, List.drop_succ_cons, List.drop_zero]; (repeat (refine wpQuiet_step (fun K hK => ?_); go_simp; first | (refine hK _ ?_; clear hK K) | (apply Exists.intro; refine ⟨fun w' hw' => ?_, hK _ ?_⟩; (first | (with_reducible rfl) | (go_at_call 21; with_reducible exact (CF.out _ hw').mono fun _ _ h => ⟨h.1, hw'.trans h.2⟩) | (obtain ⟨hc, hf⟩ := nx_cells hw'; go_simp; with_reducible rfl) | (obtain ⟨hc, hf⟩ := nx_cells hw'; go_simp; rfl)); clear hK K))); refine wpQuiet_nil ?_; intro w9 hn9)
      have H9 := Lib.hid ((H3.out.alloc _).trans hn9)
      clear hn9
      go_wp2
      go_ret
      exact ⟨rfl, H9.out⟩

end Go.Proofs.YtbkgdepblaibkaaDoor
