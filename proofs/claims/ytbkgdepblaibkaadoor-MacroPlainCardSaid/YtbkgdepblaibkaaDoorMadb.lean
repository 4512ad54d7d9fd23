/- Contracts of package macro: a head's reader: fault, name. -/
import Derived.Test.YtbkgdepblaibkaaDoorMada
import Derived.IntWalk
namespace Go.Proofs.YtbkgdepblaibkaaDoor
open Go.RowKit
set_option linter.unusedVariables false
set_option linter.unusedSimpArgs false

theorem atT_far (l : List Tok) (i : Nat) (h : l.length ≤ i) (h0 : 0 < l.length) : ∃ t, l[l.length - 1]? = some t ∧ atT l i = t := by
  refine ⟨l[l.length - 1]'(by omega), List.getElem?_eq_getElem (by omega), ?_⟩
  unfold atT
  rw [show min i (l.length - 1) = l.length - 1 by omega, List.getD_eq_getElem?_getD, List.getElem?_eq_getElem (by omega)]; rfl

theorem atT_near (l : List Tok) (i : Nat) (h0 : 0 < l.length) : ∃ n t, n < l.length ∧ n = min i (l.length - 1) ∧ l[n]? = some t ∧ atT l i = t := by
  refine ⟨min i (l.length - 1), _, by omega, rfl, List.getElem?_eq_getElem (by omega), ?_⟩
  unfold atT
  rw [List.getD_eq_getElem?_getD, List.getElem?_eq_getElem (by omega)]; rfl

set_option maxHeartbeats 1000000 in
set_option maxRecDepth 100000 in
theorem hfault_any (g i : Nat) (lv : Value) (l : List Tok) (name : List UInt8) (pv : Value) (cd : Int) (w : World) (hH : Has w g (hdO lv i name pv)) (hT : Toks w lv l) (hl : l.length ≤ 100000000) (hi : i ≤ 1000000000) :
    Calls Tryd.prog 68 #[.pointer (some ⟨g, 0, none⟩), .int .i64 cd] w fun e w' => ∃ ev, e = .returned ev ∧ Nx w w' ∧ FaultIs w' ev (atT l i).line (atT l i).col cd := by
  obtain ⟨A, c, rfl, hc1, hc2, hA⟩ := hT.form
  have r0 : w.cell? ⟨g, 0, none⟩ = some (.slice A l.length c) := hH.cell 0 _ rfl
  have r1 : w.cell? ⟨g, 1, none⟩ = some (.int .i64 i) := hH.cell 1 _ rfl
  clear hT hH hc1 hc2
  by_cases h0 : 0 < l.length
  · obtain ⟨g2, o, rfl, hTA⟩ : ∃ g o, A = some ⟨g, o, none⟩ ∧ TokAt w g o l := by
      rcases hA with ⟨_, rfl, _⟩ | h
      · simp at h0
      · exact h
    obtain ⟨n, t, hn, hmin, ht, hat⟩ := atT_near l i h0
    rw [hat]
    obtain ⟨a0, a1, a2, a3, a4, a5⟩ := hTA.at_ n t ht
    have hm : (if (l.length : Int) - 1 < (i : Int) then (l.length : Int) - 1 else (i : Int)) = n := by split <;> omega
    have hln : l.length ≤ 100000000 := hl
    clear hA hTA hmin ht hat
    go_enter Tryd.func68, Tryd.ntmps68
    go_wp2
    go_quiet (fail)
    go_wp2
    (refine wp_region_nx 19 (by kernel_rfl) (by kernel_rfl) ?_; simp only [List.take_succ_cons, List.take_zero, List.drop_succ_cons, List.drop_zero]; (repeat (refine wpQuiet_step (fun K hK => ?_); go_simp; first | (refine hK _ ?_; clear hK K) | (apply Exists.intro; refine ⟨fun w' hw' => ?_, hK _ ?_⟩; (first | (with_reducible rfl) | (rw [hw'.cell r0]; exact ⟨rfl, rfl⟩) | (rw [hw'.cell a1]; exact ⟨rfl, rfl⟩) | (rw [hw'.cell a2]; exact ⟨rfl, rfl⟩) | (obtain ⟨hc, hf⟩ := nx_cells hw'; go_simp; with_reducible rfl) | (obtain ⟨hc, hf⟩ := nx_cells hw'; go_simp; rfl)); clear hK K))); refine wpQuiet_nil ?_; intro w9 hn9)
    have H9 := Lib.hid (((Nx.refl w).drewN _).trans hn9)
    clear hn9
    go_wp2
    go_ret
    exact ⟨_, rfl, by repeat (with_reducible first | exact H9.out | refine Nx.alloc ?_ _), FaultIs.new _ _ _ _ _⟩
  · obtain rfl : l = [] := List.eq_nil_of_length_eq_zero (by omega)
    have q1 : ((0 : Nat) : Int) - 1 = -1 := by omega
    clear hA
    simp only [List.length_nil] at *
    go_enter Tryd.func68, Tryd.ntmps68
    go_wp2
    go_quiet (fail)
    go_wp2
    go_ret
    exact ⟨_, rfl, by repeat (with_reducible first | exact Nx.refl _ | refine Nx.drewN ?_ _ | refine Nx.alloc ?_ _), FaultIs.new _ _ _ _ _⟩

/-- Parameters in memory of the call's own. -/
def OwnQ (w : World) (base : Nat) (v : Value) (qs : List (PPar × Value)) : Prop :=
  OwnC w base 88 3 v qs.length (parC qs) ∧ ∀ q ∈ qs, Toks w q.2 q.1.dflt ∧ ∀ g, q.2.ownBlock = some g → base ≤ g ∧ g < w.heap.size ∧ v.ownBlock ≠ some g

theorem OwnQ.nx {w w' : World} {base : Nat} {v : Value} {qs : List (PPar × Value)} (h : OwnQ w base v qs) (hn : Nx w w') : OwnQ w' base v qs :=
  ⟨h.1.nx hn, fun q hq => ⟨(h.2 q hq).1.nx hn, fun g hg => ⟨((h.2 q hq).2 g hg).1, Nat.lt_of_lt_of_le ((h.2 q hq).2 g hg).2.1 hn.size, ((h.2 q hq).2 g hg).2.2⟩⟩⟩

theorem OwnQ.set_ {w : World} {base : Nat} {v : Value} {qs : List (PPar × Value)} (h : OwnQ w base v qs) {p : Addr} (hp : p.block < base) (x : Value) : OwnQ (w.setCell p x) base v qs :=
  ⟨own_set h.1 hp x, fun q hq => ⟨toks_block (h.2 q hq).1 fun g hg => Below.heap_setCell w p x g (fun e => by have := ((h.2 q hq).2 g hg).1; omega), fun g hg => ⟨((h.2 q hq).2 g hg).1, by simpa using ((h.2 q hq).2 g hg).2.1, ((h.2 q hq).2 g hg).2.2⟩⟩⟩

theorem OwnQ.pars {w : World} {base : Nat} {v : Value} {qs : List (PPar × Value)} (h : OwnQ w base v qs) : Pars w v qs := by
  rcases h.1.2 with ⟨hv, h0⟩ | ⟨g, cap, cur, hv, hb, hg, h3, h4, h5, h6⟩
  · exact Or.inl ⟨⟨none, hv⟩, List.eq_nil_of_length_eq_zero h0⟩
  · refine Or.inr ⟨g, 0, cap, hv, h3, h4, fun k q hk j u hj => ?_⟩
    rw [Nat.zero_add]
    exact h.1.cells (g := g) (by rw [hv]; rfl) _ u (parC_at qs k q hk j u hj)

theorem OwnQ.slices {w : World} {base : Nat} {v : Value} {qs : List (PPar × Value)} (h : OwnQ w base v qs) : ∀ q ∈ qs, ∃ A n c, q.2 = Value.slice A n c := fun q hq => by
  obtain ⟨A, c, e, _⟩ := (h.2 q hq).1.form
  exact ⟨A, _, c, e⟩

theorem OwnQ.form {w : World} {base : Nat} {v : Value} {qs : List (PPar × Value)} (h : OwnQ w base v qs) : ∃ A c, v = .slice A qs.length c := by
  obtain ⟨A, c, e, _⟩ := h.pars.form
  exact ⟨A, c, e⟩

/-- One parameter more. -/
theorem OwnQ.push {w w' : World} {base : Nat} {v v' : Value} {qs : List (PPar × Value)} {q : PPar × Value} (h : OwnQ w base v qs) (ht : Toks w q.2 q.1.dflt) (hu : ∀ g, q.2.ownBlock = some g → base ≤ g ∧ g < w.heap.size ∧ v.ownBlock ≠ some g)
    (hg : w.grownBy w' v.ownBlock) (hv : v'.ownBlock = v.ownBlock ∨ v'.ownBlock = some w.heap.size) (hown : OwnC w' base 88 3 v' (qs.length + 1) (parC qs ++ parQ q)) : OwnQ w' base v' (qs ++ [q]) := by
  refine ⟨by rw [parC_snoc, List.length_append, List.length_singleton]; exact hown, fun x hx => ?_⟩
  have one : Toks w x.2 x.1.dflt ∧ ∀ g, x.2.ownBlock = some g → base ≤ g ∧ g < w.heap.size ∧ v.ownBlock ≠ some g := by
    rcases List.mem_append.1 hx with hx | hx
    · exact h.2 x hx
    · simp at hx; subst hx; exact ⟨ht, hu⟩
  obtain ⟨h1, h2⟩ := one
  refine ⟨toks_block h1 fun g hgx => hg.block g (h2 g hgx).2.1 (fun e => (h2 g hgx).2.2 e.symm), fun g hgx => ⟨(h2 g hgx).1, Nat.lt_of_lt_of_le (h2 g hgx).2.1 hg.size, ?_⟩⟩
  rcases hv with e | e
  · rw [e]; exact (h2 g hgx).2.2
  · rw [e]; intro e2
    have := (h2 g hgx).2.1
    injection e2 with e2
    omega

/-- How a step of a head's reader ends: at a fault; or with what is to read on, the reader at a place. -/
def RetStep (l : List Tok) (lv : Value) (g : Nat) (w0 : World) (V : HRes) (nx : Value → Nat → List UInt8 → List PPar → Prop) (e : Ending) (w' : World) : Prop :=
  Nx w0 w' ∧ ((∃ ev a b c, e = .returned (.tuple #[.nilFunc, ev]) ∧ V = .bad a b c ∧ FaultIs w' ev a b c ∧ 1 ≤ c ∧ c ≤ 16) ∨
    ∃ nv i name pv qs, e = .returned (.tuple #[nv, .nilIface]) ∧ Has w' g (hdO lv i name pv) ∧ OwnQ w' (g + 1) pv qs ∧ i ≤ l.length + 1 ∧ qs.length ≤ i ∧ nx nv i name (qs.map (·.1)))

/-- A method of the reader, bound. -/
abbrev bound (f g : Nat) : Value := .func (.func f) #[.pointer (some ⟨g, 0, none⟩)] #[]

set_option maxHeartbeats 2000000 in
set_option maxRecDepth 100000 in
theorem hname_any (g : Nat) (lv : Value) (l : List Tok) (w0 w : World) (hn0 : Nx w0 w) (hg : w0.heap.size ≤ g) (hH : Has w g (hdO lv 1 [] (.slice none 0 0))) (hT : Toks w0 lv l) (hl : l.length ≤ 100000000) :
    Calls Tryd.prog 48 #[.pointer (some ⟨g, 0, none⟩)] w (RetStep l lv g w0 (headP l) fun nv i name ps => ps = [] ∧ ((nv = .nilFunc ∧ headP l = .ok name []) ∨ (nv = bound 69 g ∧ i = 2 ∧ 2 ≤ l.length ∧ parT l name 2 [] = headP l))) := by
  obtain ⟨A, c, rfl, hc1, hc2, hA⟩ := hT.form
  have HT := Lib.hid hT
  have HH := Lib.hid hH
  have HN0 := Lib.hid hn0
  have HG := Lib.hid hg
  have CI := fun b hb => isName_any g 1 _ l [] _ w hH (hT.nx hn0) b hb
  clear hT hH hn0 hg
  by_cases hk : 1 < l.length ∧ (atT l 1).kind = 1
  · have CI := Lib.hid (CI true (by rw [decide_eq_true hk.1, decide_eq_true hk.2]; rfl))
    obtain ⟨⟨kd, ln, cl, tx, nm, sc⟩, ht⟩ : ∃ t, l[1]? = some t := ⟨_, List.getElem?_eq_getElem hk.1⟩
    have hat := atT_in l 1 hk.1 _ ht
    have HV0 : headP l = if tx.head? = some 46 then badT l 1 8 else if 2 < l.length then parT l tx 2 [] else .ok tx [] := by
      unfold headP
      rw [if_neg (by simpa using hk), hat]
    have HV := Lib.hid HV0
    obtain ⟨g2, o, rfl, hTA⟩ : ∃ g o, A = some ⟨g, o, none⟩ ∧ TokAt w0 g o l := by
      rcases hA with ⟨_, h, _⟩ | h
      · subst h; cases ht
      · exact h
    have HTA := Lib.hid (fun w (h : Nx w0 w) => (hTA.nx h).at_ 1 _ ht)
    have hk1 : (1 : Int) < (l.length : Int) := by have := hk.1; omega
    clear hA hTA ht hat HV0
    have three : tx = [] ∨ (∃ r, tx = 46 :: r) ∨ (∃ x r, tx = x :: r ∧ x ≠ 46) := by
      cases tx with
      | nil => exact Or.inl rfl
      | cons x r =>
        by_cases hx : x = 46
        · subst hx; exact Or.inr (Or.inl ⟨r, rfl⟩)
        · exact Or.inr (Or.inr ⟨x, r, rfl, hx⟩)
    rcases three with rfl | ⟨r, rfl⟩ | ⟨x, r, rfl, hx⟩
    · skip
      by_cases h2 : 2 < l.length
      · have bl : ((2 : Int) == l.length) = false := beq_eq_false_iff_ne.2 (by omega)
        have HV2 := Lib.hid (show parT l [] 2 [] = headP l from by rw [HV.out, if_neg (by simp), if_pos h2])
        go_enter Tryd.func48, Tryd.ntmps48
        go_wp2_with fail
        refine CI.out.mono ?_
        rintro e w1 ⟨rfl, hn1⟩
        have HH := Lib.hid (HH.out.nx hn1)
        have HN1 := Lib.hid (HN0.out.trans hn1)
        have r0 : w1.cell? ⟨g, 0, none⟩ = some (.slice (some ⟨g2, o, none⟩) l.length c) := HH.out.cell 0 _ rfl
        have r1 : w1.cell? ⟨g, 1, none⟩ = some (.int .i64 1) := HH.out.cell 1 _ rfl
        have r2 : w1.cell? ⟨g, 2, none⟩ = some (.string (B [])) := HH.out.cell 2 _ rfl
        have f2 := HH.out.free 2
        have zg := HH.out.lt
        obtain ⟨a0, a1, a2, a3, a4, a5⟩ := HTA.out _ HN1.out
        have a3' : w1.cell? ⟨g2, o + 9, none⟩ = some (.string (B [])) := a3
        clear hn1 CI
        go_wp2
        (refine wp_region_nx 15 (by kernel_rfl) (by kernel_rfl) ?_; simp only [List.take_succ_cons, List.take_zero, List.drop_succ_cons, List.drop_zero]; (repeat (refine wpQuiet_step (fun K hK => ?_); go_simp; first | (refine hK _ ?_; clear hK K) | (apply Exists.intro; refine ⟨fun w' hw' => ?_, hK _ ?_⟩; (first | (with_reducible rfl) | (rw [hw'.cell r0]; exact ⟨rfl, rfl⟩) | (rw [hw'.cell r1]; exact ⟨rfl, rfl⟩) | (rw [hw'.cell a3]; exact ⟨rfl, rfl⟩) | (rw [hw'.cell a3']; exact ⟨rfl, rfl⟩) | (obtain ⟨hc, hf⟩ := nx_cells hw'; go_simp; with_reducible rfl) | (obtain ⟨hc, hf⟩ := nx_cells hw'; go_simp; rfl)); clear hK K))); refine wpQuiet_nil ?_; intro w9 hn9)
        have r2' := hn9.cell r2
        have f2' := (hn9.frozen (p := ⟨g, 2, none⟩) zg).trans f2
        have HX := Lib.hid ((HH.out.nx hn9).put 2 (.string (B [])))
        have HX := Lib.hid (show Has (w9.setCell ⟨g, 2, none⟩ (.string (B []))) g (hdO (.slice (some ⟨g2, o, none⟩) l.length c) 1 [] (.slice none 0 0)) from HX.out)
        have HN2 := Lib.hid ((HN1.out.trans hn9).setCell (p := ⟨g, 2, none⟩) HG.out (.string (B [])))
        have s0 := HX.out.cell 0 _ rfl
        have s1 := HX.out.cell 1 _ rfl
        have s2 := HX.out.cell 2 _ rfl
        have t1 := HX.out.free 1
        clear hn9 r0 r1 r2 f2 a0 a1 a2 a3 a4 a5 a3'
        go_wp2
        go_quiet (fail)
        go_wp2
        go_ret2
        exact ⟨by repeat (with_reducible first | exact HN2.out | refine Nx.drewN ?_ _ | refine Nx.setCell ?_ HG.out _), Or.inr ⟨_, 2, [], _, [], rfl, (HX.out.put 1 (.int .i64 2)).nx ((Nx.refl _).drewN _), ⟨OwnC.nil _ _ _ _, fun q h => by cases h⟩, by omega, Nat.zero_le _, rfl, Or.inr ⟨rfl, rfl, by omega, HV2.out⟩⟩⟩
      · have bl : ((2 : Int) == l.length) = true := by simp; omega
        have HV2 := Lib.hid (show headP l = .ok [] [] from by rw [HV.out, if_neg (by simp), if_neg h2])
        go_enter Tryd.func48, Tryd.ntmps48
        go_wp2_with fail
        refine CI.out.mono ?_
        rintro e w1 ⟨rfl, hn1⟩
        have HH := Lib.hid (HH.out.nx hn1)
        have HN1 := Lib.hid (HN0.out.trans hn1)
        have r0 : w1.cell? ⟨g, 0, none⟩ = some (.slice (some ⟨g2, o, none⟩) l.length c) := HH.out.cell 0 _ rfl
        have r1 : w1.cell? ⟨g, 1, none⟩ = some (.int .i64 1) := HH.out.cell 1 _ rfl
        have r2 : w1.cell? ⟨g, 2, none⟩ = some (.string (B [])) := HH.out.cell 2 _ rfl
        have f2 := HH.out.free 2
        have zg := HH.out.lt
        obtain ⟨a0, a1, a2, a3, a4, a5⟩ := HTA.out _ HN1.out
        have a3' : w1.cell? ⟨g2, o + 9, none⟩ = some (.string (B [])) := a3
        clear hn1 CI
        go_wp2
        (refine wp_region_nx 15 (by kernel_rfl) (by kernel_rfl) ?_; simp only [List.take_succ_cons, List.take_zero, List.drop_succ_cons, List.drop_zero]; (repeat (refine wpQuiet_step (fun K hK => ?_); go_simp; first | (refine hK _ ?_; clear hK K) | (apply Exists.intro; refine ⟨fun w' hw' => ?_, hK _ ?_⟩; (first | (with_reducible rfl) | (rw [hw'.cell r0]; exact ⟨rfl, rfl⟩) | (rw [hw'.cell r1]; exact ⟨rfl, rfl⟩) | (rw [hw'.cell a3]; exact ⟨rfl, rfl⟩) | (rw [hw'.cell a3']; exact ⟨rfl, rfl⟩) | (obtain ⟨hc, hf⟩ := nx_cells hw'; go_simp; with_reducible rfl) | (obtain ⟨hc, hf⟩ := nx_cells hw'; go_simp; rfl)); clear hK K))); refine wpQuiet_nil ?_; intro w9 hn9)
        have r2' := hn9.cell r2
        have f2' := (hn9.frozen (p := ⟨g, 2, none⟩) zg).trans f2
        have HX := Lib.hid ((HH.out.nx hn9).put 2 (.string (B [])))
        have HX := Lib.hid (show Has (w9.setCell ⟨g, 2, none⟩ (.string (B []))) g (hdO (.slice (some ⟨g2, o, none⟩) l.length c) 1 [] (.slice none 0 0)) from HX.out)
        have HN2 := Lib.hid ((HN1.out.trans hn9).setCell (p := ⟨g, 2, none⟩) HG.out (.string (B [])))
        have s0 := HX.out.cell 0 _ rfl
        have s1 := HX.out.cell 1 _ rfl
        have s2 := HX.out.cell 2 _ rfl
        have t1 := HX.out.free 1
        clear hn9 r0 r1 r2 f2 a0 a1 a2 a3 a4 a5 a3'
        go_wp2
        go_quiet (fail)
        go_wp2
        go_ret2
        exact ⟨by repeat (with_reducible first | exact HN2.out | refine Nx.drewN ?_ _ | refine Nx.setCell ?_ HG.out _), Or.inr ⟨_, 2, [], _, [], rfl, (HX.out.put 1 (.int .i64 2)).nx ((Nx.refl _).drewN _), ⟨OwnC.nil _ _ _ _, fun q h => by cases h⟩, by omega, Nat.zero_le _, rfl, Or.inl ⟨rfl, HV2.out⟩⟩⟩
    · have HV2 := Lib.hid (show headP l = badT l 1 8 from by rw [HV.out]; exact if_pos rfl)
      go_enter Tryd.func48, Tryd.ntmps48
      go_wp2_with fail
      refine CI.out.mono ?_
      rintro e w1 ⟨rfl, hn1⟩
      have HH := Lib.hid (HH.out.nx hn1)
      have HN1 := Lib.hid (HN0.out.trans hn1)
      have r0 : w1.cell? ⟨g, 0, none⟩ = some (.slice (some ⟨g2, o, none⟩) l.length c) := HH.out.cell 0 _ rfl
      have r1 : w1.cell? ⟨g, 1, none⟩ = some (.int .i64 1) := HH.out.cell 1 _ rfl
      have r2 : w1.cell? ⟨g, 2, none⟩ = some (.string (B [])) := HH.out.cell 2 _ rfl
      have f2 := HH.out.free 2
      have zg := HH.out.lt
      obtain ⟨a0, a1, a2, a3, a4, a5⟩ := HTA.out _ HN1.out
      have a3' : w1.cell? ⟨g2, o + 9, none⟩ = some (.string (B (46 :: r))) := a3
      clear hn1 CI
      go_wp2
      (refine wp_region_nx 15 (by kernel_rfl) (by kernel_rfl) ?_; simp only [List.take_succ_cons, List.take_zero, List.drop_succ_cons, List.drop_zero]; (repeat (refine wpQuiet_step (fun K hK => ?_); go_simp; first | (refine hK _ ?_; clear hK K) | (apply Exists.intro; refine ⟨fun w' hw' => ?_, hK _ ?_⟩; (first | (with_reducible rfl) | (rw [hw'.cell r0]; exact ⟨rfl, rfl⟩) | (rw [hw'.cell r1]; exact ⟨rfl, rfl⟩) | (rw [hw'.cell a3]; exact ⟨rfl, rfl⟩) | (rw [hw'.cell a3']; exact ⟨rfl, rfl⟩) | (obtain ⟨hc, hf⟩ := nx_cells hw'; go_simp; with_reducible rfl) | (obtain ⟨hc, hf⟩ := nx_cells hw'; go_simp; rfl)); clear hK K))); refine wpQuiet_nil ?_; intro w9 hn9)
      have r2' := hn9.cell r2
      have f2' := (hn9.frozen (p := ⟨g, 2, none⟩) zg).trans f2
      have HX := Lib.hid ((HH.out.nx hn9).put 2 (.string (B (46 :: r))))
      have HX := Lib.hid (show Has (w9.setCell ⟨g, 2, none⟩ (.string (B (46 :: r)))) g (hdO (.slice (some ⟨g2, o, none⟩) l.length c) 1 (46 :: r) (.slice none 0 0)) from HX.out)
      have HN2 := Lib.hid ((HN1.out.trans hn9).setCell (p := ⟨g, 2, none⟩) HG.out (.string (B (46 :: r))))
      have s0 := HX.out.cell 0 _ rfl
      have s1 := HX.out.cell 1 _ rfl
      have s2 := HX.out.cell 2 _ rfl
      have t1 := HX.out.free 1
      clear hn9 r0 r1 r2 f2 a0 a1 a2 a3 a4 a5 a3'
      go_wp2_with fail
      refine (hfault_any g 1 _ l _ _ 8 _ HX.out (HT.out.nx HN2.out) hl (by omega)).mono ?_
      rintro e w2 ⟨ev, rfl, hn2, hF⟩
      have HN3 := Lib.hid (HN2.out.trans hn2)
      have HF := Lib.hid hF
      clear hn2 hF
      go_wp2
      go_ret2
      exact ⟨HN3.out, Or.inl ⟨_, _, _, _, rfl, HV2.out, HF.out, by omega, by omega⟩⟩
    · have bx : ((x.toNat : Int) == 46) = false := u8n x 46 (by omega) false (beq_eq_false_iff_ne.2 hx)
      obtain ⟨p1, e1⟩ := byte_at (x :: r) 0 x rfl
      by_cases h2 : 2 < l.length
      · have bl : ((2 : Int) == l.length) = false := beq_eq_false_iff_ne.2 (by omega)
        have HV2 := Lib.hid (show parT l (x :: r) 2 [] = headP l from by rw [HV.out, if_neg (by simpa using hx), if_pos h2])
        go_enter Tryd.func48, Tryd.ntmps48
        go_wp2_with fail
        refine CI.out.mono ?_
        rintro e w1 ⟨rfl, hn1⟩
        have HH := Lib.hid (HH.out.nx hn1)
        have HN1 := Lib.hid (HN0.out.trans hn1)
        have r0 : w1.cell? ⟨g, 0, none⟩ = some (.slice (some ⟨g2, o, none⟩) l.length c) := HH.out.cell 0 _ rfl
        have r1 : w1.cell? ⟨g, 1, none⟩ = some (.int .i64 1) := HH.out.cell 1 _ rfl
        have r2 : w1.cell? ⟨g, 2, none⟩ = some (.string (B [])) := HH.out.cell 2 _ rfl
        have f2 := HH.out.free 2
        have zg := HH.out.lt
        obtain ⟨a0, a1, a2, a3, a4, a5⟩ := HTA.out _ HN1.out
        have a3' : w1.cell? ⟨g2, o + 9, none⟩ = some (.string (B (x :: r))) := a3
        clear hn1 CI
        go_wp2
        (refine wp_region_nx 15 (by kernel_rfl) (by kernel_rfl) ?_; simp only [List.take_succ_cons, List.take_zero, List.drop_succ_cons, List.drop_zero]; (repeat (refine wpQuiet_step (fun K hK => ?_); go_simp; first | (refine hK _ ?_; clear hK K) | (apply Exists.intro; refine ⟨fun w' hw' => ?_, hK _ ?_⟩; (first | (with_reducible rfl) | (rw [hw'.cell r0]; exact ⟨rfl, rfl⟩) | (rw [hw'.cell r1]; exact ⟨rfl, rfl⟩) | (rw [hw'.cell a3]; exact ⟨rfl, rfl⟩) | (rw [hw'.cell a3']; exact ⟨rfl, rfl⟩) | (obtain ⟨hc, hf⟩ := nx_cells hw'; go_simp; with_reducible rfl) | (obtain ⟨hc, hf⟩ := nx_cells hw'; go_simp; rfl)); clear hK K))); refine wpQuiet_nil ?_; intro w9 hn9)
        have r2' := hn9.cell r2
        have f2' := (hn9.frozen (p := ⟨g, 2, none⟩) zg).trans f2
        have HX := Lib.hid ((HH.out.nx hn9).put 2 (.string (B (x :: r))))
        have HX := Lib.hid (show Has (w9.setCell ⟨g, 2, none⟩ (.string (B (x :: r)))) g (hdO (.slice (some ⟨g2, o, none⟩) l.length c) 1 (x :: r) (.slice none 0 0)) from HX.out)
        have HN2 := Lib.hid ((HN1.out.trans hn9).setCell (p := ⟨g, 2, none⟩) HG.out (.string (B (x :: r))))
        have s0 := HX.out.cell 0 _ rfl
        have s1 := HX.out.cell 1 _ rfl
        have s2 := HX.out.cell 2 _ rfl
        have t1 := HX.out.free 1
        clear hn9 r0 r1 r2 f2 a0 a1 a2 a3 a4 a5 a3'
        go_wp2
        go_quiet (fail)
        go_wp2
        go_ret2
        exact ⟨by repeat (with_reducible first | exact HN2.out | refine Nx.drewN ?_ _ | refine Nx.setCell ?_ HG.out _), Or.inr ⟨_, 2, (x :: r), _, [], rfl, (HX.out.put 1 (.int .i64 2)).nx ((Nx.refl _).drewN _), ⟨OwnC.nil _ _ _ _, fun q h => by cases h⟩, by omega, Nat.zero_le _, rfl, Or.inr ⟨rfl, rfl, by omega, HV2.out⟩⟩⟩
      · have bl : ((2 : Int) == l.length) = true := by simp; omega
        have HV2 := Lib.hid (show headP l = .ok (x :: r) [] from by rw [HV.out, if_neg (by simpa using hx), if_neg h2])
        go_enter Tryd.func48, Tryd.ntmps48
        go_wp2_with fail
        refine CI.out.mono ?_
        rintro e w1 ⟨rfl, hn1⟩
        have HH := Lib.hid (HH.out.nx hn1)
        have HN1 := Lib.hid (HN0.out.trans hn1)
        have r0 : w1.cell? ⟨g, 0, none⟩ = some (.slice (some ⟨g2, o, none⟩) l.length c) := HH.out.cell 0 _ rfl
        have r1 : w1.cell? ⟨g, 1, none⟩ = some (.int .i64 1) := HH.out.cell 1 _ rfl
        have r2 : w1.cell? ⟨g, 2, none⟩ = some (.string (B [])) := HH.out.cell 2 _ rfl
        have f2 := HH.out.free 2
        have zg := HH.out.lt
        obtain ⟨a0, a1, a2, a3, a4, a5⟩ := HTA.out _ HN1.out
        have a3' : w1.cell? ⟨g2, o + 9, none⟩ = some (.string (B (x :: r))) := a3
        clear hn1 CI
        go_wp2
        (refine wp_region_nx 15 (by kernel_rfl) (by kernel_rfl) ?_; simp only [List.take_succ_cons, List.take_zero, List.drop_succ_cons, List.drop_zero]; (repeat (refine wpQuiet_step (fun K hK => ?_); go_simp; first | (refine hK _ ?_; clear hK K) | (apply Exists.intro; refine ⟨fun w' hw' => ?_, hK _ ?_⟩; (first | (with_reducible rfl) | (rw [hw'.cell r0]; exact ⟨rfl, rfl⟩) | (rw [hw'.cell r1]; exact ⟨rfl, rfl⟩) | (rw [hw'.cell a3]; exact ⟨rfl, rfl⟩) | (rw [hw'.cell a3']; exact ⟨rfl, rfl⟩) | (obtain ⟨hc, hf⟩ := nx_cells hw'; go_simp; with_reducible rfl) | (obtain ⟨hc, hf⟩ := nx_cells hw'; go_simp; rfl)); clear hK K))); refine wpQuiet_nil ?_; intro w9 hn9)
        have r2' := hn9.cell r2
        have f2' := (hn9.frozen (p := ⟨g, 2, none⟩) zg).trans f2
        have HX := Lib.hid ((HH.out.nx hn9).put 2 (.string (B (x :: r))))
        have HX := Lib.hid (show Has (w9.setCell ⟨g, 2, none⟩ (.string (B (x :: r)))) g (hdO (.slice (some ⟨g2, o, none⟩) l.length c) 1 (x :: r) (.slice none 0 0)) from HX.out)
        have HN2 := Lib.hid ((HN1.out.trans hn9).setCell (p := ⟨g, 2, none⟩) HG.out (.string (B (x :: r))))
        have s0 := HX.out.cell 0 _ rfl
        have s1 := HX.out.cell 1 _ rfl
        have s2 := HX.out.cell 2 _ rfl
        have t1 := HX.out.free 1
        clear hn9 r0 r1 r2 f2 a0 a1 a2 a3 a4 a5 a3'
        go_wp2
        go_quiet (fail)
        go_wp2
        go_ret2
        exact ⟨by repeat (with_reducible first | exact HN2.out | refine Nx.drewN ?_ _ | refine Nx.setCell ?_ HG.out _), Or.inr ⟨_, 2, (x :: r), _, [], rfl, (HX.out.put 1 (.int .i64 2)).nx ((Nx.refl _).drewN _), ⟨OwnC.nil _ _ _ _, fun q h => by cases h⟩, by omega, Nat.zero_le _, rfl, Or.inl ⟨rfl, HV2.out⟩⟩⟩
  · have CI := Lib.hid (CI false (by
      by_cases h1 : 1 < l.length
      · rw [decide_eq_true h1, decide_eq_false (fun h => hk ⟨h1, h⟩)]; rfl
      · rw [decide_eq_false h1]; rfl))
    have HV := Lib.hid (show headP l = badT l 1 5 from by unfold headP; rw [if_pos hk])
    clear hA hk
    go_enter Tryd.func48, Tryd.ntmps48
    go_wp2_with fail
    refine CI.out.mono ?_
    rintro e w1 ⟨rfl, hn1⟩
    have HH := Lib.hid (HH.out.nx hn1)
    have HN1 := Lib.hid (HN0.out.trans hn1)
    clear hn1
    go_wp2_with fail
    refine (hfault_any g 1 _ l _ _ 5 _ HH.out (HT.out.nx HN1.out) hl (by omega)).mono ?_
    rintro e w2 ⟨ev, rfl, hn2, hF⟩
    have HN2 := Lib.hid (HN1.out.trans hn2)
    have HF := Lib.hid hF
    clear hn2 hF
    go_wp2
    go_ret2
    exact ⟨HN2.out, Or.inl ⟨_, _, _, _, rfl, HV.out, HF.out, by omega, by omega⟩⟩

end Go.Proofs.YtbkgdepblaibkaaDoor
