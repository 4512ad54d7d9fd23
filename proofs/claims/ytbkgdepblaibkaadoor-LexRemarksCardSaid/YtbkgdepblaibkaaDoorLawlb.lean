/- Package typecaselaw10: the walk of LexBytes. -/
import Derived.Test.YtbkgdepblaibkaaDoorLawl
import Derived.Test.YtbkgdepblaibkaaDoorLawla
import Derived.Test.YtbkgdepblaibkaaDoorLxk
import Derived.Test.YtbkgdepblaibkaaDoorQuiet
import Derived.Lib.ConvBytes
namespace Go.Proofs.YtbkgdepblaibkaaDoor
open Go.RowKit
set_option linter.unusedVariables false
set_option linter.unusedSimpArgs false

theorem nx_bytes (w : World) (e : TypeId) (s : ByteArray) : Nx w (Lib.bytesWorld w e s) := by
  refine Below.grown (row := none) (Nx.refl w) ⟨?_, ?_, ?_, by rw [Lib.bytesWorld_size]; omega, fun k hk _ => Lib.bytesWorld_at_old w e s k hk⟩ (Nat.le_refl _) (fun k hk => by cases hk)
  all_goals simp [Lib.bytesWorld, World.freeze, World.alloc, World.drew, -World.alloc_eq, -World.drew_eq]

/-- The bytes of a string. -/
theorem conv_str (w : World) (l : List UInt8) (hl : l.length ≤ 1000000) : ∃ v w', (convert 9 70 (.string (B l))).run Tryd.prog w = .ok v w' ∧ Nx w w' ∧ Bys w' v l ∧ v.ownBlock = some w.heap.size ∧ w'.heap.size = w.heap.size + 1 := by
  refine ⟨_, _, Lib.run_convert_string_bytes w 9 70 5 (B l) Tryd.underlying9 Tryd.underlying70 Tryd.underlying5, nx_bytes w _ _, ?_, rfl, Lib.bytesWorld_size w _ _⟩
  have hs : (B l).size = l.length := rfl
  refine Or.inr ⟨w.heap.size, 0, grownCap w l.length 0 5, rfl, grownCap_ge w _ _ _, grownCap_le_maxLen w _ _ _ (by unfold maxLen; omega), fun k b hk => ?_⟩
  rw [Nat.zero_add, Lib.bytesWorld_cell w 5 (B l) k (by rw [hs]; exact (List.getElem?_eq_some_iff.1 hk).1)]
  show some (Value.int .u8 (l.getD k 0).toNat) = _
  rw [getD_at l k b hk]

theorem hex_cut (k : Nat) (hk : k < 16) : (B hexS).extract k (k + 1) = B [hexS.getD k 0] := by
  apply ByteArray.ext
  rw [ByteArray.data_extract]
  have := (show ∀ k, k < 16 → hexS.toArray.extract k (k + 1) = [hexS.getD k 0].toArray by decide) k hk
  exact this

theorem wrap_u8 (x : Int) : IntKind.u8.wrap x = x % 256 := by
  rfl

theorem nibs (x : UInt8) : ∃ d e : Nat, d = x.toNat / 16 ∧ e = x.toNat % 16 ∧ d < 16 ∧ e < 16 ∧ IntKind.u8.wrap ((x.toNat : Int) / 16) = d ∧ (x.toNat : Int).tmod 16 = e := by
  have hx := x.toNat_lt
  refine ⟨_, _, rfl, rfl, by omega, by omega, ?_, ?_⟩
  · rw [wrap_u8]; omega
  · rw [Int.tmod_eq_emod_of_nonneg (by omega)]; omega

theorem wrap1 (d : Nat) (h : d < 16) : IntKind.u8.wrap ((d : Int) + 1) = (d : Int) + 1 := by
  rw [wrap_u8]; omega

theorem B_ap (o r : List UInt8) : B o ++ B r = B (o ++ r) := by
  apply ByteArray.ext
  rw [ByteArray.data_append]
  simp

set_option maxHeartbeats 1000000 in
set_option maxRecDepth 100000 in
theorem LexBytes_walk (w0 : World) (hE : ErrT w0) (v : Value) (l : List UInt8) (hB : Bys w0 v l) (hs : l.length ≤ 140737488351232) :
    Calls Tryd.prog 15 #[v] w0 fun e w' => e = .returned (.bool true) ∧ Nx w0 w' := by
  have HE := Lib.hid hE
  have HB := Lib.hid hB
  obtain ⟨A, c, rfl, hc1, hc2, hA⟩ := hB.form
  have HA := Lib.hid hA
  clear hE hB hA
  unfold maxLen at hc2
  by_cases hl : 200 < l.length
  · have d1 : decide ((200 : Int) < l.length) = true := decide_eq_true (by omega)
    go_enter Tryd.func15, Tryd.ntmps15
    go_wp2_with fail
    refine (awakel_any _ HE.out).mono ?_
    rintro e w1 ⟨rfl, hn1⟩
    have H1 := Lib.hid hn1
    clear hn1
    go_wp2
    go_ret
    exact ⟨rfl, H1.out⟩
  · have d1 : decide ((200 : Int) < l.length) = false := decide_eq_false (by omega)
    go_enter Tryd.func15, Tryd.ntmps15
    go_wp2_with fail
    refine (awakel_any _ HE.out).mono ?_
    rintro e w1 ⟨rfl, hn1⟩
    have H1 := Lib.hid hn1
    clear hn1
    go_wp2
    go_loopw [3, 5] (fun sv iv wr => ∃ (i : Nat), i ≤ l.length ∧ iv = .int .i64 i ∧ sv = .string (B (34 :: hexT (l.take i))) ∧ Nx w0 wr) (fun _ iv _ => l.length - (intOf iv).toNat)
    case atStart => exact ⟨0, Nat.zero_le _, rfl, rfl, H1.out⟩
    case round =>
      obtain ⟨i, hi1, rfl, rfl, hn⟩ := hrel
      have HN := Lib.hid hn
      clear hn H1
      by_cases hi2 : i < l.length
      · obtain ⟨x, hx⟩ : ∃ x, l[i]? = some x := ⟨_, List.getElem?_eq_getElem hi2⟩
        obtain ⟨g, o, rfl, hcells⟩ : ∃ g o, A = some ⟨g, o, none⟩ ∧ ∀ (k : Nat) (b : UInt8), l[k]? = some b → w0.cell? ⟨g, o + k, none⟩ = some (.int .u8 b.toNat) := by
          rcases HA.out with ⟨_, h⟩ | h
          · omega
          · exact h
        have cx := HN.out.cell (hcells i x hx)
        have e1 := hexT_snoc l i x hx
        clear hcells hx
        generalize hS : 34 :: hexT (l.take i) = S
        have hst : ¬ 9223372036854775807 < S.length + 2 ∧ ¬ 9223372036854775807 < S.length + 2 + 1 ∧ ¬ 9223372036854775807 < S.length + 2 + 1 + 1 := by
          rw [← hS, List.length_cons, hexT_len, List.length_take]; omega
        obtain ⟨hst, hst1, hst2⟩ := hst
        have HSX := Lib.hid (And.intro hS e1)
        clear hS e1
        obtain ⟨d, e, hd, he, hd16, he16, r1, r2⟩ := nibs x
        have HD := Lib.hid (And.intro hd he)
        clear hd he
        have r3 := wrap1 d hd16
        have r4 := wrap1 e he16
        have t1 : (0 : Int) ≤ (d : Int) + 1 := by omega
        have t2 : (d : Int) ≤ (d : Int) + 1 := by omega
        have t3 : (0 : Int) ≤ (e : Int) + 1 := by omega
        have t4 : (e : Int) ≤ (e : Int) + 1 := by omega
        have r5 : (d : Int) + 1 ≤ 16 := by omega
        have r6 : (e : Int) + 1 ≤ 16 := by omega
        have r7 : ({ data := #[48, 49, 50, 51, 52, 53, 54, 55, 56, 57, 97, 98, 99, 100, 101, 102] } : ByteArray).extract d (d + 1) = B [hexS.getD d 0] := hex_cut d hd16
        have r8 : ({ data := #[48, 49, 50, 51, 52, 53, 54, 55, 56, 57, 97, 98, 99, 100, 101, 102] } : ByteArray).extract e (e + 1) = B [hexS.getD e 0] := hex_cut e he16
        generalize hc1' : hexS.getD d 0 = c1 at r7
        generalize hc2' : hexS.getD e 0 = c2 at r8
        have HC := Lib.hid (And.intro hc1' hc2')
        clear hc1' hc2'
        go_wp2
        (refine wp_region_nx 30 (by kernel_rfl) (by kernel_rfl) ?_; simp only [List.take_succ_cons, List.take_zero, List.drop_succ_cons, List.drop_zero]; (repeat (refine wpQuiet_step (fun K hK => ?_); go_simp; first | (refine hK _ ?_; clear hK K) | (apply Exists.intro; refine ⟨fun w' hw' => ?_, hK _ ?_⟩; (first | (with_reducible rfl) | (rw [hw'.cell cx]; exact ⟨rfl, rfl⟩) | (obtain ⟨hc, hf⟩ := nx_cells hw'; go_simp; with_reducible rfl) | (obtain ⟨hc, hf⟩ := nx_cells hw'; go_simp; rfl)); clear hK K))); refine wpQuiet_nil ?_; intro w9 hn9)
        have H9 := Lib.hid (HN.out.trans hn9)
        clear hn9
        go_wp2
        go_roundw
        case rel =>
          refine ⟨i + 1, by omega, by go_num, ?_, ?_⟩
          · obtain ⟨q1, q2⟩ := HSX.out
            obtain ⟨q3, q4⟩ := HC.out
            obtain ⟨q5, q6⟩ := HD.out
            rw [q2, ← List.cons_append, q1]
            subst q5 q6 q3 q4
            rw [show ({ data := #[92, 120] } : ByteArray) = B [92, 120] from rfl, B_ap, B_ap, B_ap]
            simp [hexE]
          · exact H9.out
        case measure => simp [intOf]; omega
      · have e1 : l.take i = l := List.take_of_length_le (by omega)
        have hlt : decide ((i : Int) < l.length) = false := decide_eq_false (by omega)
        have q : B (34 :: hexT (l.take i)) ++ { data := #[34] } = B (34 :: (hexT l ++ [34])) := by
          rw [e1, show ({ data := #[34] } : ByteArray) = B [34] from rfl, B_ap]; rfl
        have hst : ¬ 9223372036854775807 < (34 :: hexT (l.take i)).length + 1 := by
          rw [List.length_cons, hexT_len, List.length_take]; omega
        have hT := src_hex l (by omega)
        have hTl : (34 :: (hexT l ++ [34])).length ≤ 1000 := by simp [hexT_len]; omega
        generalize 34 :: hexT (l.take i) = S at *
        generalize 34 :: (hexT l ++ [34]) = T at *
        obtain ⟨v2, w2, hr, hn2, hB2, _⟩ := conv_str wr T (by omega)
        have H2 := Lib.hid (HN.out.trans hn2)
        have HB2 := Lib.hid hB2
        have CE := Lib.hid (show Calls Tryd.prog 42 #[v2] w2 fun e w' => ∃ u, e = .returned (.tuple #[u, .nilIface]) ∧ Nx w2 w' ∧ Lins w' u [[⟨6, 1, 1, l, 0, 0⟩]] from by
          refine (llines_any v2 T w2 (HE.out.nx H2.out) hB2 (by omega)).mono ?_
          rintro e w' ⟨u, ev, rfl, hn, ⟨ls, h, hL, rfl⟩ | ⟨a, b, c, h, _⟩⟩
          · rw [hT] at h; cases h; exact ⟨u, rfl, hn, hL⟩
          · rw [hT] at h; cases h)
        have HX := Lib.hid (And.intro e1 hT)
        clear hn2 hB2 e1 hT hTl
        go_wp2_with fail
        refine CE.out.mono ?_
        rintro e w3 ⟨u, rfl, hn3, hL⟩
        have H3 := Lib.hid (H2.out.trans hn3)
        have HL := Lib.hid hL
        clear hn3 hL CE
        obtain ⟨A1, c1, rfl, _, _, _⟩ := HL.out.form
        obtain ⟨g, o, c', u, he, _, hcell, hT⟩ := line_at HL.out 0 _ rfl
        cases he
        obtain ⟨A3, c3, rfl, _, _, hA3⟩ := hT.form
        obtain ⟨g3, o3, rfl, hT3⟩ : ∃ g o, A3 = some ⟨g, o, none⟩ ∧ TokAt w3 g o [⟨6, 1, 1, l, 0, 0⟩] := by
          rcases hA3 with ⟨_, h, _⟩ | h
          · cases h
          · exact h
        obtain ⟨a0, a1, a2, a3, a4, a5⟩ := hT3.head
        dsimp only at a0 a1 a2 a3 a4 a5
        rw [Nat.add_zero] at hcell
        have HC := Lib.hid (fun w (h : Nx w3 w) => conv_bys ((HB.out.nx H3.out).nx h))
        have qf : (l == l) = true := by simp
        clear hA3 hT hT3
        go_wp2
        (refine wp_region_nx 34 (by kernel_rfl) (by kernel_rfl) ?_; simp only [List.take_succ_cons, List.take_zero, List.drop_succ_cons, List.drop_zero]; (repeat (refine wpQuiet_step (fun K hK => ?_); go_simp; first | (refine hK _ ?_; clear hK K) | (apply Exists.intro; refine ⟨fun w' hw' => ?_, hK _ ?_⟩; (first | (with_reducible rfl) | (rw [hw'.cell hcell]; exact ⟨rfl, rfl⟩) | (rw [hw'.cell a0]; exact ⟨rfl, rfl⟩) | (rw [hw'.cell a3]; exact ⟨rfl, rfl⟩) | (rw [HC.out w' hw']; exact ⟨rfl, rfl⟩) | (obtain ⟨hc, hf⟩ := nx_cells hw'; go_simp; with_reducible rfl) | (obtain ⟨hc, hf⟩ := nx_cells hw'; go_simp; rfl)); clear hK K))); refine wpQuiet_nil ?_; intro w9 hn9)
        have H9 := Lib.hid (H3.out.trans hn9)
        clear hn9
        go_wp2
        go_ret
        exact ⟨rfl, H9.out⟩

end Go.Proofs.YtbkgdepblaibkaaDoor
