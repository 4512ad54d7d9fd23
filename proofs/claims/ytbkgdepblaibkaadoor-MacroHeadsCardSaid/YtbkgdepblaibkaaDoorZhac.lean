/- Parts of the proof, one behind the other. -/
import Derived.Test.YtbkgdepblaibkaaDoorZhaa
import Derived.Test.YtbkgdepblaibkaaDoorZhab
/- Contracts of typecaseref11: Tokens, at the same tokens; of typecaseref14: Same, at the same macros. -/
namespace Go.Proofs.YtbkgdepblaibkaaDoor
open Go.RowKit
set_option linter.unusedVariables false
set_option linter.unusedSimpArgs false

set_option maxHeartbeats 2000000 in
set_option maxRecDepth 100000 in
theorem toks_any (v u : Value) (l : List Tok) (w : World) (h1 : Toks w v l) (h2 : Toks w u l) : Calls Tryd.prog 39 #[v, u] w fun e w' => e = .returned (.bool true) ∧ Nx w w' := by
  obtain ⟨B1, e1, rfl, hp1, hp2, hB1⟩ := h1.form
  have hlb : l.length ≤ 9223372036854775807 := by unfold maxLen at hp2; omega
  obtain ⟨B2, e2, rfl, _, _, hB2⟩ := h2.form
  have HB1 := Lib.hid hB1
  have HB2 := Lib.hid hB2
  have bl2 : ((l.length : Int) != l.length) = false := by simp
  clear h1 h2 hp1 hp2 hB1 hB2
  go_enter Tryd.func39, Tryd.ntmps39
  go_wp2
  go_loopw [5] (fun kv wr => ∃ k : Nat, k ≤ l.length ∧ kv = .int .i64 k ∧ Nx w wr) (fun kv _ => l.length - (intOf kv).toNat)
  case atStart => exact ⟨0, Nat.zero_le _, rfl, Nx.refl w⟩
  case round =>
    obtain ⟨k, hk, rfl, hnx⟩ := hrel
    have HNI := Lib.hid hnx
    clear hnx
    by_cases hkl : k < l.length
    · obtain ⟨⟨kd, ln, cl, tx, nm, sc⟩, ht⟩ : ∃ t, l[k]? = some t := ⟨_, List.getElem?_eq_getElem hkl⟩
      obtain ⟨p1, q1, rfl, hT1⟩ : ∃ g o, B1 = some ⟨g, o, none⟩ ∧ TokAt w g o l := by
        rcases HB1.out with ⟨_, h, _⟩ | h
        · subst h; cases ht
        · exact h
      obtain ⟨p2, q2, rfl, hT2⟩ : ∃ g o, B2 = some ⟨g, o, none⟩ ∧ TokAt w g o l := by
        rcases HB2.out with ⟨_, h, _⟩ | h
        · subst h; cases ht
        · exact h
      obtain ⟨a0, a1, a2, a3, a4, a5⟩ := (hT1.nx HNI.out).at_ k _ ht
      obtain ⟨b0, b1, b2, b3, b4, b5⟩ := (hT2.nx HNI.out).at_ k _ ht
      dsimp only at a0 a1 a2 a3 a4 a5 b0 b1 b2 b3 b4 b5
      have y1 := block_lt a0
      have y2 := block_lt b0
      have q := fun w => neq_tok kd ln cl tx nm sc w
      clear ht hT1 hT2
      go_wp2
      go_quiet (fail)
      go_wp2
      go_roundw
      case rel => exact ⟨k + 1, by omega, by go_num, HNI.out.drewN _⟩
      case measure => simp [intOf]; omega
    · obtain rfl : k = l.length := by omega
      go_wp2
      go_ret
      exact ⟨rfl, HNI.out⟩

set_option maxHeartbeats 4000000 in
set_option maxRecDepth 100000 in
theorem rsame_any (mn : List UInt8) (pv1 pv2 lv1 lv2 : Value) (qs ps : List (PPar × Value)) (ls : List (List Tok)) (w : World) (hP1 : ParsQ w pv1 qs) (hP2 : ParsQ w pv2 ps) (he : qs.map (·.1) = ps.map (·.1)) (hL1 : Lins w lv1 ls) (hL2 : Lins w lv2 ls) :
    Calls Tryd.prog 29 #[.agg #[.string (B mn), pv1, lv1], .agg #[.string (B mn), pv2, lv2]] w fun e w' => e = .returned (.bool true) ∧ Nx w w' := by
  have hlen : ps.length = qs.length := by have h := congrArg List.length he; rw [List.length_map, List.length_map] at h; omega
  obtain ⟨A1, c1, rfl, hc1, hc1', hA1⟩ := hP1.1.form
  obtain ⟨A2, c2, rfl, _, _, hA2⟩ := hP2.1.form
  obtain ⟨D1, d1, rfl, _⟩ := hL1.form
  obtain ⟨D2, d2, rfl, _⟩ := hL2.form
  have HP1 := Lib.hid hP1
  have HP2 := Lib.hid hP2
  have HL1 := Lib.hid hL1
  have HL2 := Lib.hid hL2
  have HA1 := Lib.hid hA1
  have HA2 := Lib.hid hA2
  have HEQ := Lib.hid he
  rw [hlen]
  have hn1 : qs.length ≤ 9223372036854775807 := by unfold maxLen at hc1'; omega
  have bl : ((qs.length : Int) != qs.length) = false := by simp
  obtain ⟨W, hW⟩ : ∃ W, (w.alloc (.cells #[.string (B mn), .slice A1 qs.length c1, .slice D1 ls.length d1] 49)).alloc (.cells #[.string (B mn), .slice A2 qs.length c2, .slice D2 ls.length d2] 49) = W := ⟨_, rfl⟩
  have HWE := Lib.hid hW
  have HWN := Lib.hid (show Nx w W from hW ▸ ((Nx.refl w).alloc _).alloc _)
  have HM1 := Lib.hid (show Has W w.heap.size (.cells #[.string (B mn), .slice A1 qs.length c1, .slice D1 ls.length d1] 49) from hW ▸ (Has.new w _).alloc _)
  have HM2 := Lib.hid (show Has W (w.heap.size + 1) (.cells #[.string (B mn), .slice A2 qs.length c2, .slice D2 ls.length d2] 49) from hW ▸ Has.at_ _ _ (by simp))
  clear hP1 hP2 he hlen hc1 hc1' hA1 hA2 hL1 hL2 hW
  go_enter Tryd.func29, Tryd.ntmps29
  go_wp2_with (go_at_call 31; rw [HWE.out]; refine (same_any _ _ ls _ (HL1.out.nx HWN.out) (HL2.out.nx HWN.out)).mono ?_; rintro e w1 ⟨rfl, hn1⟩)
  have H1 := Lib.hid (HWN.out.trans hn1)
  have K1 := Lib.hid hn1
  clear hn1
  go_loopw [5] (fun iv wr => ∃ i : Nat, i ≤ qs.length ∧ iv = .int .i64 i ∧ Nx w1 wr) (fun iv _ => qs.length - (intOf iv).toNat)
  case atStart => exact ⟨0, Nat.zero_le _, rfl, Nx.refl w1⟩
  case round =>
    obtain ⟨i, hi, rfl, hnx⟩ := hrel
    have HNX := Lib.hid hnx
    have HWX := Lib.hid (H1.out.trans hnx)
    have hm := HM1.out.nx (K1.out.trans hnx)
    have hn := HM2.out.nx (K1.out.trans hnx)
    have m1 : wr.cell? ⟨w.heap.size, 1, none⟩ = some (.slice A1 qs.length c1) := hm.cell 1 _ rfl
    have n1 : wr.cell? ⟨w.heap.size + 1, 1, none⟩ = some (.slice A2 qs.length c2) := hn.cell 1 _ rfl
    have zm := hm.lt
    have zn := hn.lt
    clear hnx hm hn
    by_cases hlt : i < qs.length
    · obtain ⟨⟨⟨nm, hs, df⟩, dv⟩, hq1⟩ : ∃ q, qs[i]? = some q := ⟨_, List.getElem?_eq_getElem hlt⟩
      obtain ⟨ev, hq2⟩ : ∃ ev, ps[i]? = some (⟨nm, hs, df⟩, ev) := by
        have h := congrArg (fun l => l[i]?) HEQ.out
        simp only [List.getElem?_map, hq1, Option.map_some] at h
        match hp : ps[i]?, h with
        | some ⟨p, ev⟩, h => simp at h; exact ⟨ev, by rw [h]⟩
      obtain ⟨g1, o1, rfl, hQ1⟩ : ∃ g o, A1 = some ⟨g, o, none⟩ ∧ ParAt w g o qs := by
        rcases HA1.out with ⟨_, h, _⟩ | h
        · subst h; cases hq1
        · exact h
      obtain ⟨g2, o2, rfl, hQ2⟩ : ∃ g o, A2 = some ⟨g, o, none⟩ ∧ ParAt w g o ps := by
        rcases HA2.out with ⟨_, h, _⟩ | h
        · subst h; cases hq2
        · exact h
      have HT1 := Lib.hid (HP1.out.2 _ (List.mem_of_getElem? hq1))
      have HT2 := Lib.hid (HP2.out.2 _ (List.mem_of_getElem? hq2))
      obtain ⟨a0, a1, a2⟩ := (hQ1.nx HWX.out).at_ i _ hq1
      obtain ⟨b0, b1, b2⟩ := (hQ2.nx HWX.out).at_ i _ hq2
      dsimp only at a0 a1 a2 b0 b1 b2 HT1 HT2
      have y1 := block_lt a0
      have y2 := block_lt b0
      have hiI : (i : Int) < qs.length := by omega
      have hi0 : (0 : Int) ≤ i := by omega
      have bh : (hs != hs) = false := by simp
      clear hQ1 hQ2 hq1 hq2
      go_wp2
      (refine wp_region_nx 43 (by kernel_rfl) (by kernel_rfl) ?_; simp only [List.take_succ_cons, List.take_zero, List.drop_succ_cons, List.drop_zero]; (repeat (refine wpQuiet_step (fun K hK => ?_); go_simp; first | (refine hK _ ?_; clear hK K) | (apply Exists.intro; refine ⟨fun w' hw' => ?_, hK _ ?_⟩; (first | (with_reducible rfl) | (go_at_call 39; with_reducible exact (toks_any _ _ df _ (HT1.out.nx (HWX.out.trans hw')) (HT2.out.nx (HWX.out.trans hw'))).mono fun _ _ h => ⟨h.1, hw'.trans h.2⟩) | (rw [hw'.cell m1]; exact ⟨rfl, rfl⟩) | (rw [hw'.cell n1]; exact ⟨rfl, rfl⟩) | (rw [hw'.cell a0]; exact ⟨rfl, rfl⟩) | (rw [hw'.cell a1]; exact ⟨rfl, rfl⟩) | (rw [hw'.cell a2]; exact ⟨rfl, rfl⟩) | (rw [hw'.cell b0]; exact ⟨rfl, rfl⟩) | (rw [hw'.cell b1]; exact ⟨rfl, rfl⟩) | (rw [hw'.cell b2]; exact ⟨rfl, rfl⟩) | (obtain ⟨hc, hf⟩ := nx_cells hw'; go_simp; with_reducible rfl) | (obtain ⟨hc, hf⟩ := nx_cells hw'; go_simp; rfl)); clear hK K))); refine wpQuiet_nil ?_; intro w9 hn9)
      have HN9 := Lib.hid (HNX.out.trans hn9)
      clear hn9 a0 a1 a2 b0 b1 b2 m1 n1
      go_wp2
      go_roundw
      case rel => exact ⟨i + 1, by omega, by go_num, HN9.out⟩
      case measure => simp [intOf]; omega
    · obtain rfl : i = qs.length := by omega
      go_wp2
      go_ret
      exact ⟨rfl, HWX.out⟩

end Go.Proofs.YtbkgdepblaibkaaDoor

/- Contracts of typecaseref14: At. -/
namespace Go.Proofs.YtbkgdepblaibkaaDoor
open Go.RowKit
set_option linter.unusedVariables false
set_option linter.unusedSimpArgs false

set_option maxHeartbeats 1000000 in
set_option maxRecDepth 100000 in
theorem rat_any (v : Value) (l : List Tok) (i : Nat) (k : Int) (w : World) (hT : Toks w v l) (hl : l.length ≤ 100000000) :
    Calls Tryd.prog 49 #[v, .int .i64 i, .int .i64 k] w fun e w' => e = .returned (.agg #[.int .i64 (atT l i).line, .int .i64 (atT l i).col, .int .i64 k]) ∧ Nx w w' := by
  obtain ⟨A, c, rfl, hc1, hc2, hA⟩ := hT.form
  unfold maxLen at hc2
  clear hT
  by_cases h0 : 0 < l.length
  · obtain ⟨g2, o, rfl, hTA⟩ : ∃ g o, A = some ⟨g, o, none⟩ ∧ TokAt w g o l := by
      rcases hA with ⟨_, rfl, _⟩ | h
      · simp at h0
      · exact h
    obtain ⟨n, t, hn, hmin, ht, hat⟩ := atT_near l i h0
    rw [hat]
    obtain ⟨a0, a1, a2, a3, a4, a5⟩ := hTA.at_ n t ht
    have hg := block_lt a1
    have hz : ((l.length : Int) == 0) = false := by rw [beq_eq_false_iff_ne]; omega
    clear hA hTA ht hat a0 a3 a4 a5
    by_cases hi : i < l.length
    · have hni : n = i := by rw [hmin]; exact Nat.min_eq_left (by omega)
      clear hmin
      subst hni
      have hnI : (n : Int) < l.length := by omega
      have hd : decide ((n : Int) ≥ l.length) = false := decide_eq_false (by omega)
      go_enter Tryd.func49, Tryd.ntmps49
      go_wp2
      go_region
      all_goals go_wp2
      all_goals
        refine bodyPost_ret (v := .agg #[.int .i64 t.line, .int .i64 t.col, .int .i64 k]) (by simp [results, Tryd.results49, go_sem]) rfl ⟨rfl, ?_⟩
        repeat (with_reducible first | exact Nx.refl _ | refine Nx.drew ?_ | refine Nx.setCell ?_ (Nat.le_refl _) _ | refine Nx.alloc ?_ _)
    · have hnn : n = l.length - 1 := by rw [hmin]; exact Nat.min_eq_right (by omega)
      clear hmin
      have hd : decide ((i : Int) ≥ l.length) = true := decide_eq_true (by omega)
      have hn1 : IntKind.i64.wrap ((l.length : Int) - 1) = n := by rw [IntWalk.i64_in _ (by omega)]; omega
      have hn2 : (l.length : Int) - 1 = n := by omega
      have hnI : (n : Int) < l.length := by omega
      clear hnn
      go_enter Tryd.func49, Tryd.ntmps49
      go_wp2
      go_region
      all_goals go_wp2
      all_goals
        refine bodyPost_ret (v := .agg #[.int .i64 t.line, .int .i64 t.col, .int .i64 k]) (by simp [results, Tryd.results49, go_sem]) rfl ⟨rfl, ?_⟩
        repeat (with_reducible first | exact Nx.refl _ | refine Nx.drew ?_ | refine Nx.setCell ?_ (Nat.le_refl _) _ | refine Nx.alloc ?_ _)
  · obtain rfl : l = [] := List.eq_nil_of_length_eq_zero (by omega)
    clear hA
    have ha : atT [] i = tok0 := rfl
    rw [ha]
    simp only [List.length_nil] at *
    go_enter Tryd.func49, Tryd.ntmps49
    go_wp2
    refine bodyPost_ret (v := .agg #[.int .i64 0, .int .i64 0, .int .i64 k]) (by simp [results, Tryd.results49, go_sem]) rfl ⟨rfl, ?_⟩
    repeat (with_reducible first | exact Nx.refl _ | refine Nx.setCell ?_ (Nat.le_refl _) _ | refine Nx.alloc ?_ _)

end Go.Proofs.YtbkgdepblaibkaaDoor

/- The document's macros: parameters in memory of the call's own. -/
namespace Go.Proofs.YtbkgdepblaibkaaDoor
open Go.RowKit
set_option linter.unusedVariables false
set_option linter.unusedSimpArgs false

/-- Parameters in memory of the call's own. -/
def OwnR (w : World) (base : Nat) (v : Value) (qs : List (PPar × Value)) : Prop :=
  OwnC w base 96 3 v qs.length (parC qs) ∧ ∀ q ∈ qs, Toks w q.2 q.1.dflt ∧ ∀ g, q.2.ownBlock = some g → base ≤ g ∧ g < w.heap.size ∧ v.ownBlock ≠ some g

theorem OwnR.nx {w w' : World} {base : Nat} {v : Value} {qs : List (PPar × Value)} (h : OwnR w base v qs) (hn : Nx w w') : OwnR w' base v qs :=
  ⟨h.1.nx hn, fun q hq => ⟨(h.2 q hq).1.nx hn, fun g hg => ⟨((h.2 q hq).2 g hg).1, Nat.lt_of_lt_of_le ((h.2 q hq).2 g hg).2.1 hn.size, ((h.2 q hq).2 g hg).2.2⟩⟩⟩

theorem OwnR.set_ {w : World} {base : Nat} {v : Value} {qs : List (PPar × Value)} (h : OwnR w base v qs) {p : Addr} (hp : p.block < base) (x : Value) : OwnR (w.setCell p x) base v qs :=
  ⟨own_set h.1 hp x, fun q hq => ⟨toks_block (h.2 q hq).1 fun g hg => Below.heap_setCell w p x g (fun e => by have := ((h.2 q hq).2 g hg).1; omega), fun g hg => ⟨((h.2 q hq).2 g hg).1, by simpa using ((h.2 q hq).2 g hg).2.1, ((h.2 q hq).2 g hg).2.2⟩⟩⟩

theorem OwnR.pars {w : World} {base : Nat} {v : Value} {qs : List (PPar × Value)} (h : OwnR w base v qs) : Pars w v qs := by
  rcases h.1.2 with ⟨hv, h0⟩ | ⟨g, cap, cur, hv, hb, hg, h3, h4, h5, h6⟩
  · exact Or.inl ⟨⟨none, hv⟩, List.eq_nil_of_length_eq_zero h0⟩
  · refine Or.inr ⟨g, 0, cap, hv, h3, h4, fun k q hk j u hj => ?_⟩
    rw [Nat.zero_add]
    exact h.1.cells (g := g) (by rw [hv]; rfl) _ u (parC_at qs k q hk j u hj)

theorem OwnR.slices {w : World} {base : Nat} {v : Value} {qs : List (PPar × Value)} (h : OwnR w base v qs) : ∀ q ∈ qs, ∃ A n c, q.2 = Value.slice A n c := fun q hq => by
  obtain ⟨A, c, e, _⟩ := (h.2 q hq).1.form
  exact ⟨A, _, c, e⟩

theorem OwnR.form {w : World} {base : Nat} {v : Value} {qs : List (PPar × Value)} (h : OwnR w base v qs) : ∃ A c, v = .slice A qs.length c := by
  obtain ⟨A, c, e, _⟩ := h.pars.form
  exact ⟨A, c, e⟩

/-- One parameter more. -/
theorem OwnR.push {w w' : World} {base : Nat} {v v' : Value} {qs : List (PPar × Value)} {q : PPar × Value} (h : OwnR w base v qs) (ht : Toks w q.2 q.1.dflt) (hu : ∀ g, q.2.ownBlock = some g → base ≤ g ∧ g < w.heap.size ∧ v.ownBlock ≠ some g)
    (hg : w.grownBy w' v.ownBlock) (hv : v'.ownBlock = v.ownBlock ∨ v'.ownBlock = some w.heap.size) (hown : OwnC w' base 96 3 v' (qs.length + 1) (parC qs ++ parQ q)) : OwnR w' base v' (qs ++ [q]) := by
  refine ⟨by rw [parC_snoc, List.length_append, List.length_singleton]; exact hown, fun x hx => ?_⟩
  have one : Toks w x.2 x.1.dflt ∧ ∀ g, x.2.ownBlock = some g → base ≤ g ∧ g < w.heap.size ∧ v.ownBlock ≠ some g := by
    rcases List.mem_append.1 hx with hx | hx
    · exact h.2 x hx
    · simp at hx; subst hx; exact ⟨ht, hu⟩
  obtain ⟨h1, h2⟩ := one
  refine ⟨toks_block h1 fun g hgx => hg.block g (h2 g hgx).2.1 (fun e => (h2 g hgx).2.2 e.symm), fun g hgx => ⟨(h2 g hgx).1, Nat.lt_of_lt_of_le (h2 g hgx).2.1 hg.size, ?_⟩⟩
  rcases hv with e | e
  · rw [e]; exact (h2 g hgx).2.2
  · rw [e]; intro e2
    have := (h2 g hgx).2.1
    injection e2 with e2
    omega

theorem OwnR.parsQ {w : World} {base : Nat} {v : Value} {qs : List (PPar × Value)} (h : OwnR w base v qs) : ParsQ w v qs := ⟨h.pars, fun q hq => (h.2 q hq).1⟩

theorem OwnR.nil (w : World) (base : Nat) : OwnR w base (.slice none 0 0) [] := ⟨OwnC.nil _ _ _ _, fun q h => by cases h⟩

theorem mac_info : (Tryd.prog.info? 49).map (fun i => (i.zero, i.size)) = some (some (.agg #[.string (B []), .slice none 0 0, .slice none 0 0]), 3) := by kernel_rfl

/-- What comes of a head, by the document. -/
def RetRHead (V : HRes) (w : World) (e : Ending) (w' : World) : Prop :=
  ∃ name pv qs a b c, e = .returned (.tuple #[.agg #[.string (B name), pv, .slice none 0 0], .agg #[.int .i64 a, .int .i64 b, .int .i64 c]]) ∧ Nx w w' ∧
    ((V = .ok name (qs.map (·.1)) ∧ a = 0 ∧ b = 0 ∧ c = 0 ∧ ParsQ w' pv qs) ∨ (V = .bad a b c ∧ name = [] ∧ pv = .slice none 0 0 ∧ qs = []))

/-- What holds at a round's head. -/
def RHeadRel (l : List Tok) (name : List UInt8) (gm : Nat) (W wr : World) (V : HRes) (iv : Value) : Prop :=
  ∃ (i : Nat) (pv : Value) (qs : List (PPar × Value)), iv = .int .i64 i ∧ 2 ≤ i ∧ i ≤ l.length ∧ qs.length ≤ i ∧ Nx W wr ∧ Has wr gm (.cells #[.string (B name), pv, .slice none 0 0] 49) ∧ OwnR wr (gm + 1) pv qs ∧
    ((2 < i ∨ 2 < l.length) ∧ parT l name i (qs.map (·.1)) = V ∨ i = 2 ∧ l.length = 2 ∧ qs = [] ∧ V = .ok name [])

end Go.Proofs.YtbkgdepblaibkaaDoor

