/- For every input the law typecase/typecaselaw14.MacroHeads returns true, and leaves its arguments as they were; the listed package variables are tied to the program's text. No condition. -/
import Derived.Test.YtbkgdepblaibkaaDoorRows
import Derived.Test.YtbkgdepblaibkaaDoorTie
import Derived.Test.YtbkgdepblaibkaaDoorCards
import Derived.Test.YtbkgdepblaibkaaDoorLaide
import Derived.Test.YtbkgdepblaibkaaDoorArg
import Derived.WalkKit
import Derived.ProofKit
import Derived.LaidMore
import Derived.OpenShut
import Derived.ShutString
import Derived.ChangeOld
import Derived.Below
import Derived.Stop.Joined
import Derived.SevenTiedAt
import Derived.Test.YtbkgdepblaibkaaDoorZhaa
import Derived.Test.YtbkgdepblaibkaaDoorZhab
import Derived.Test.YtbkgdepblaibkaaDoorZhac
import Derived.Test.YtbkgdepblaibkaaDoorZhad
/- Package typecaselaw14: the walk of MacroHeads. -/
namespace Go.Proofs.YtbkgdepblaibkaaDoor
open Go.RowKit
set_option linter.unusedVariables false
set_option linter.unusedSimpArgs false

theorem parF_count (l : List Tok) (name : List UInt8) : ∀ (f i : Nat) (ps : List PPar) (nm : List UInt8) (qs : List PPar), parF l name f i ps = .ok nm qs → qs.length ≤ ps.length + f := by
  intro f
  induction f with
  | zero =>
    intro i ps nm qs h
    unfold parF at h
    injection h with h1 h2
    subst h2
    exact Nat.le_refl _
  | succ f ih =>
    intro i ps nm qs h
    unfold parF at h
    split at h
    · cases h
    · split at h
      · cases h
      · split at h
        · split at h
          · have := ih _ _ _ _ h
            simp at this
            omega
          · injection h with h1 h2
            subst h2
            simp
        · split at h
          · split at h
            · have := ih _ _ _ _ h
              simp at this
              omega
            · cases h
          · injection h with h1 h2
            subst h2
            simp

theorem headP_count (l : List Tok) (nm : List UInt8) (qs : List PPar) (h : headP l = .ok nm qs) : qs.length ≤ l.length := by
  unfold headP at h
  split at h
  · cases h
  · split at h
    · cases h
    · split at h
      · unfold parT at h
        have := parF_count _ _ _ _ _ _ _ h
        simp at this
        omega
      · injection h with h1 h2
        subst h2
        simp

set_option maxHeartbeats 4000000 in
set_option maxRecDepth 100000 in
theorem MacroHeads_walk (w0 : World) (hE : ErrT w0) (v : Value) (l : List Tok) (hT : Toks w0 v l) (hB : ∀ t ∈ l, TokBd t) (hs : l.length ≤ 140737488351232) :
    Calls Tryd.prog 7 #[v] w0 fun e w' => e = .returned (.bool true) ∧ Nx w0 w' := by
  have HE := Lib.hid hE
  obtain ⟨A, c, rfl, hc1, hc2, hA⟩ := hT.form
  have HT := Lib.hid hT
  unfold maxLen at hc2
  clear hE hT hA hB
  by_cases hl : 300 < l.length
  · have d1 : decide ((300 : Int) < l.length) = true := decide_eq_true (by omega)
    go_enter Tryd.func7, Tryd.ntmps7
    go_wp2_with fail
    refine (awakem_any _ HE.out).mono ?_
    rintro e w1 ⟨rfl, hn1⟩
    have H1 := Lib.hid hn1
    clear hn1
    go_wp2
    go_ret
    exact ⟨rfl, H1.out⟩
  · have d1 : decide ((300 : Int) < l.length) = false := decide_eq_false (by omega)
    have hl3 : l.length ≤ 300 := by omega
    go_enter Tryd.func7, Tryd.ntmps7
    go_wp2_with fail
    refine (awakem_any _ HE.out).mono ?_
    rintro e w1 ⟨rfl, hn1⟩
    have H1 := Lib.hid hn1
    clear hn1
    go_wp2_with fail
    refine (head_any _ l _ (HE.out.nx H1.out) (HT.out.nx H1.out) (by omega)).mono ?_
    rintro e w2 ⟨name, pv, qs, ev, rfl, hn2, hres2⟩
    obtain ⟨P1, p1, rfl⟩ : ∃ A c, pv = .slice A qs.length c := by
      rcases hres2 with ⟨_, _, h, _⟩ | ⟨a, b, c, _, _, h, h2, _⟩
      · obtain ⟨A, c, h1, _⟩ := h.1.form
        exact ⟨A, c, h1⟩
      · subst h2; exact ⟨none, 0, h⟩
    have H2 := Lib.hid (H1.out.trans hn2)
    have HR2 := Lib.hid hres2
    clear hn2 hres2
    go_wp2_with fail
    refine (rhead_any _ l _ (HT.out.nx (H2.out.alloc _)) (by omega)).mono ?_
    rintro e w3 ⟨name3, pv3, ps, a, b, c3, rfl, hn3, hres3⟩
    have H3 := Lib.hid ((H2.out.alloc _).trans hn3)
    have HR3 := Lib.hid hres3
    have HM3 := Lib.hid ((Has.new w2 (.cells #[.string (B name), .slice P1 qs.length p1, .slice none 0 0] 44)).nx hn3)
    have K3 := Lib.hid (((Nx.refl w2).alloc (.cells #[.string (B name), .slice P1 qs.length p1, .slice none 0 0] 44)).trans hn3)
    obtain ⟨P3, p3, rfl⟩ : ∃ A c, pv3 = .slice A ps.length c := by
      rcases HR3.out with ⟨_, _, _, _, h⟩ | ⟨_, _, h, h2⟩
      · obtain ⟨A, c, h1, _⟩ := h.1.form
        exact ⟨A, c, h1⟩
      · subst h2; exact ⟨none, 0, h⟩
    clear hn3 hres3
    have HFA := Lib.hid (show name3 = name ∧ ParsQ w3 (.slice P1 qs.length p1) qs ∧ ParsQ w3 (.slice P3 ps.length p3) ps ∧ qs.map (·.1) = ps.map (·.1) ∧ qs.length ≤ 300 ∧ ((ev = .nilIface ∧ a = 0 ∧ b = 0 ∧ c3 = 0) ∨ (FaultIs w3 ev a b c3 ∧ 1 ≤ c3 ∧ c3 ≤ 16)) from by
      rcases HR2.out with ⟨h1, h2, h3, _⟩ | ⟨a2, b2, c2, h1, h2, h3, h4, h5, h6, h7⟩
      · rcases HR3.out with ⟨k1, k2, k3, k4, k5⟩ | ⟨k1, _⟩
        · have hc := headP_count _ _ _ h1
          rw [List.length_map] at hc
          rw [h1] at k1
          injection k1 with k6 k7
          exact ⟨k6.symm, ⟨h3.1.nx K3.out, fun q hq => (h3.2 q hq).nx K3.out⟩, k5, k7, by omega, Or.inl ⟨h2, k2, k3, k4⟩⟩
        · rw [h1] at k1; cases k1
      · rcases HR3.out with ⟨k1, _⟩ | ⟨k1, k2, k3, k4⟩
        · rw [h1] at k1; cases k1
        · rw [h1] at k1
          injection k1 with k5 k6 k7
          subst k5 k6 k7 h2 k2 h4 k4
          rw [h3, k3]
          exact ⟨rfl, ⟨Or.inl ⟨⟨none, rfl⟩, rfl⟩, fun q hq => by cases hq⟩, ⟨Or.inl ⟨⟨none, rfl⟩, rfl⟩, fun q hq => by cases hq⟩, rfl, Nat.zero_le _, Or.inr ⟨h5.nx K3.out, h6, h7⟩⟩)
    obtain rfl : name3 = name := HFA.out.1
    have HF6 := Lib.hid (fun w (h : Nx w3 w) => (show Calls Tryd.prog 21 #[ev] w (fun e w' => e = .returned (.agg #[.int .i64 a, .int .i64 b, .int .i64 c3]) ∧ Nx w w') from by
      rcases HFA.out.2.2.2.2.2 with ⟨h3, h4, h5, h6⟩ | ⟨h3, h4, h5⟩
      · subst h3 h4 h5 h6
        exact fault_nil w
      · exact fault_is ev a b c3 w ((HE.out.nx H3.out).nx h) (h3.nx h) h4 h5))
    have q2 := fun w => eql_fl a b c3 w
    obtain ⟨W, hW⟩ : ∃ W, (w3.alloc (.cells #[.string (B name3), .slice P3 ps.length p3, .slice none 0 0] 49)).alloc (.cells #[.int .i64 a, .int .i64 b, .int .i64 c3] 30) = W := ⟨_, rfl⟩
    have HWE := Lib.hid hW
    have K4 := Lib.hid (show Nx w3 W from hW ▸ ((Nx.refl w3).alloc _).alloc _)
    have H4 := Lib.hid (H3.out.trans K4.out)
    have HA4 := Lib.hid (HM3.out.nx K4.out)
    have HB4 := Lib.hid (show Has W w3.heap.size (.cells #[.string (B name3), .slice P3 ps.length p3, .slice none 0 0] 49) from hW ▸ (Has.new w3 _).alloc _)
    have HC4 := Lib.hid (show Has W (w3.heap.size + 1) (.cells #[.int .i64 a, .int .i64 b, .int .i64 c3] 30) from hW ▸ Has.at_ _ _ (by simp))
    clear hW
    have m0 : W.cell? ⟨w2.heap.size, 0, none⟩ = some (.string (B name3)) := HA4.out.cell 0 _ rfl
    have m1 : W.cell? ⟨w2.heap.size, 1, none⟩ = some (.slice P1 qs.length p1) := HA4.out.cell 1 _ rfl
    have m2 : W.cell? ⟨w2.heap.size, 2, none⟩ = some (.slice none 0 0) := HA4.out.cell 2 _ rfl
    have zm := HA4.out.lt
    have n0 : W.cell? ⟨w3.heap.size, 0, none⟩ = some (.string (B name3)) := HB4.out.cell 0 _ rfl
    have n1 : W.cell? ⟨w3.heap.size, 1, none⟩ = some (.slice P3 ps.length p3) := HB4.out.cell 1 _ rfl
    have n2 : W.cell? ⟨w3.heap.size, 2, none⟩ = some (.slice none 0 0) := HB4.out.cell 2 _ rfl
    have zn := HB4.out.lt
    have f0 : W.cell? ⟨w3.heap.size + 1, 0, none⟩ = some (.int .i64 a) := HC4.out.cell 0 _ rfl
    have f1 : W.cell? ⟨w3.heap.size + 1, 1, none⟩ = some (.int .i64 b) := HC4.out.cell 1 _ rfl
    have f2 : W.cell? ⟨w3.heap.size + 1, 2, none⟩ = some (.int .i64 c3) := HC4.out.cell 2 _ rfl
    have zf := HC4.out.lt
    have hlm : l.length ≤ 1000000 := by omega
    have NXX := Lib.hid (fun w' (h : Nx W w') => H4.out.trans h)
    have CTH := Lib.hid (fun w' (h : Nx W w') => theirs_any name3 _ qs (.slice none 0 0) ⟨_, _, _, rfl⟩ w' ⟨HFA.out.2.1.1.nx (K4.out.trans h), fun q hq => (HFA.out.2.1.2 q hq).nx (K4.out.trans h)⟩ (by have := HFA.out.2.2.2.2.1; omega))
    have CSM := Lib.hid (fun w' (h : Nx W w') pv' (hp : ParsQ w' pv' qs) => rsame_any name3 pv' (.slice P3 ps.length p3) (.slice none 0 0) (.slice none 0 0) qs ps [] w' hp ⟨HFA.out.2.2.1.1.nx (K4.out.trans h), fun q hq => (HFA.out.2.2.1.2 q hq).nx (K4.out.trans h)⟩ HFA.out.2.2.2.1 (Or.inl ⟨⟨none, rfl⟩, rfl⟩) (Or.inl ⟨⟨none, rfl⟩, rfl⟩))
    have CP1 := Lib.hid (fun w' (h : Nx W w') => parts_any _ l w' (HT.out.nx (NXX.out w' h)) (by omega))
    have CP2 := Lib.hid (fun w' (h : Nx W w') => rparts_any _ l w' (HT.out.nx (NXX.out w' h)) (by omega))
    go_wp2
    rw [HWE.out]
    go_region_with (first
      | (go_at_call 30; refine (CTH.out _ (by repeat (with_reducible first | exact Nx.refl _ | refine Nx.drew ?_))).mono ?_; rintro e w5 ⟨pv5, rfl, hn5, hP5⟩; have N5 : Nx W w5 := Nx.trans (by repeat (with_reducible first | exact Nx.refl _ | refine Nx.drew ?_)) hn5; have n0' := N5.cell n0; have n1' := N5.cell n1; have n2' := N5.cell n2; have f0' := N5.cell f0; have f1' := N5.cell f1; have f2' := N5.cell f2; have zn' := Nat.lt_of_lt_of_le zn N5.size; have zf' := Nat.lt_of_lt_of_le zf N5.size)
      | (go_at_call 29; refine (CSM.out _ (by repeat (with_reducible first | exact N5 | refine Nx.drew ?_)) _ ⟨hP5.1.nx (by repeat (with_reducible first | exact Nx.refl _ | refine Nx.drew ?_)), fun q hq => (hP5.2 q hq).nx (by repeat (with_reducible first | exact Nx.refl _ | refine Nx.drew ?_))⟩).mono ?_; rintro e w6 ⟨rfl, hn6⟩; have N6 : Nx W w6 := Nx.trans (by repeat (with_reducible first | exact N5 | refine Nx.drew ?_)) hn6; have f0'' := N6.cell f0; have f1'' := N6.cell f1; have f2'' := N6.cell f2; have zf'' := Nat.lt_of_lt_of_le zf N6.size)
      | (go_at_call 21; refine (HF6.out _ (K4.out.trans (by repeat (with_reducible first | exact N6 | refine Nx.drew ?_)))).mono ?_; rintro e w7 ⟨rfl, hn7⟩; have N7 : Nx W w7 := Nx.trans (by repeat (with_reducible first | exact N6 | refine Nx.drew ?_)) hn7; have g0 := N7.cell f0; have g1 := N7.cell f1; have g2 := N7.cell f2; have zg := Nat.lt_of_lt_of_le zf N7.size)
      | (go_at_call 32; refine (CP1.out _ (by repeat (with_reducible first | exact N7 | refine Nx.drew ?_))).mono ?_; rintro e w8 ⟨v8, rfl, hn8, hO8⟩; have N8 : Nx W w8 := Nx.trans (by repeat (with_reducible first | exact N7 | refine Nx.drew ?_)) hn8)
      | (go_at_call 33; refine (CP2.out _ (by repeat (with_reducible first | exact N8 | refine Nx.drew ?_))).mono ?_; rintro e w9 ⟨v9, rfl, hn9, hO9⟩; have N9 : Nx W w9 := Nx.trans (by repeat (with_reducible first | exact N8 | refine Nx.drew ?_)) hn9)
      | (go_at_call 31; refine (same_any _ _ (partP l) _ ((hO8.lins.nx (by repeat (with_reducible first | exact Nx.refl _ | refine Nx.drew ?_))).nx hn9 |>.nx (by repeat (with_reducible first | exact Nx.refl _ | refine Nx.drew ?_))) (hO9.lins.nx (by repeat (with_reducible first | exact Nx.refl _ | refine Nx.drew ?_)))).mono ?_; rintro e w10 ⟨rfl, hn10⟩; have N10 : Nx W w10 := Nx.trans (by repeat (with_reducible first | exact N9 | refine Nx.drew ?_)) hn10))
    all_goals
      have H10 := Lib.hid (H4.out.trans N10)
      clear N5 N6 N7 N8 N9 N10 hn5 hn6 hn7 hn8 hn9 hn10 m0 m1 m2 n0 n1 n2 f0 f1 f2
      go_wp2
      go_ret
      exact ⟨rfl, H10.out⟩

end Go.Proofs.YtbkgdepblaibkaaDoor

namespace Go.Proofs.YtbkgdepblaibkaaDoor.macroHeads
open Go.ChangeShapes Go.WideShapes Go.ChangeAt Go.RowKit
open Go.ChangeMaps (open_string shut_string)
set_option linter.unusedVariables false

theorem laidOut : laidOutB Tryd.prog = true := by kernel_rfl

set_option maxRecDepth 100000 in
theorem lifted (os : Os) (started : os.Started) (H : Type) (enc : TypeId × Value → H) :
    ReturnsInHanded {} Tryd.checked os 7 .any (fun w args => (Rows.macroHeadsSpec.pre enc Tryd.prog Tryd.f7 [] false w args ∧ laidMetH Tryd.prog laidL w) ∧ sizedMet enc Tryd.prog Tryd.f7 (OpenSpec.ofChange Rows.macroHeadsSpec) false w args) (Rows.macroHeadsSpec.post enc Tryd.prog Tryd.f7 false true false false) := by
  refine returnsInHanded_of_change_and (C := Tryd.checked) (X := fun w _ => laidMetH Tryd.prog laidL w) (fun _ _ _ hh h => h.of_heap hh) own started (by kernel_rfl) Tryd.func7
    (ChangeSpec.witness_shaped (enc := enc) (C := Tryd.checked) (os := os) (X := fun w _ => laidMetH Tryd.prog laidL w) false (World.doorLaid Tryd.prog 400 os) #[.slice none 0 0] 8 rfl (World.shaped_of_RefB (by kernel_rfl) (by kernel_rfl)) (by kernel_rfl) (by kernel_rfl) (by kernel_rfl) (door_met os _)) ?_
  intro W base args ds gs before hval0 hW _ hsz hL _
  have hval : ∀ (j : Nat) t v, Tryd.f7.params[j]? = some t → args[j]? = some v → Value.okWide Tryd.prog W .any base t v := hval0
  have hW' := hW
  obtain ⟨p, q, hA0, hV, rfl, hfz, hnd⟩ := hW
  have hA : DataW.TrodAll enc Tryd.prog W 0 (fun _ => true) true Tryd.f7.params.toList args.toList ds p := hA0
  rw [Tryd.params7] at hA hval
  obtain ⟨v0, vs0, d0, ds0, p0, q0, hargs, rfl, rfl, h0, r0⟩ := trodAll_cons hA
  obtain ⟨rfl, rfl, rfl⟩ := trodAll_nil r0
  obtain rfl : args = #[v0] := by cases args; simp_all
  obtain ⟨rfl, rfl⟩ := trodVars_none hV
  have k0 := h0
  have lt0 : ∀ x ∈ p0, x.block < W.heap.size := by obtain ⟨m, hm⟩ := k0; exact DataW.trod_lt m _ _ _ hm
  obtain ⟨l0, c0, b0, z0⟩ := open_toks (hval 0 37 v0 rfl rfl) h0
  have s0 := toks_small (weights_at 0 hsz rfl rfl) z0
  have hP := of_laid hL
  clear hA0 hval0
  refine (MacroHeads_walk W hP v0 l0 c0 b0 s0).mono fun e W' ⟨he, bel⟩ => ?_
  subst he
  exact ⟨_, rfl, _, _, _, [], _, [], hW', trodAll_mk1 (shut_bool Tryd.underlying4 _), (trodAll_cons_mk (Below.trod laidOut (by kernel_rfl) (of_decide_eq_true (by kernel_rfl)) k0 bel lt0) trodAll_mk0), rfl, Below.frame bel _, fun h => by cases h⟩

theorem over : Rows.MacroHeadsSaid :=
  OpenClaim.holds_of_wide 7 Tryd.f7 rfl rfl rfl rfl rfl rfl rfl ⟨rfl, rfl, rfl, rfl, rfl⟩ rfl rfl rfl rfl rfl (by kernel_rfl) Tryd.func7 (by kernel_rfl)
    (of_decide_eq_true (by kernel_rfl)) (by unfold Func.isWrapper; first | (rw [if_pos (by decide +kernel)]; kernel_rfl) | (rw [if_neg (by decide +kernel)]; exact ⟨rfl, rfl⟩))
    (fun os started H enc _ => lifted os started H enc)

theorem proved : Rows.MacroHeadsCardSaid :=
  Claim7.holds_tied_plain_at .later [] [.handle] true (true, "ae78293e55a1e57793156b061735e9fcce40baa6e9e48a58a3544e123d6d2881") true
    over (fun _ h => by cases h) (by kernel_rfl) (fun _ h => by cases h) macroHeads_row_tie rfl ⟨rfl, rfl⟩ (by kernel_rfl) rfl
    (fun f fn hf hfn => by
      obtain rfl : f = 7 := Option.some.inj ((show Tryd.prog.funcNamed "typecase/typecaselaw14.MacroHeads" = some 7 by kernel_rfl).symm.trans hf) |>.symm
      obtain rfl : fn = Tryd.f7 := (Option.some.inj (Tryd.func7.symm.trans hfn)).symm
      exact ⟨by kernel_rfl, fun j t ht => by
        rw [Tryd.params7] at ht
        have hm : t ∈ [37] := by simpa using Array.mem_of_getElem? ht
        have hall : ([37].all fun u => !Tryd.prog.wantsStandIn u) = true := by kernel_rfl
        exact (show Tryd.prog.wantsStandIn t = false by simpa using List.all_eq_true.1 hall t hm)⟩)
    (by kernel_rfl)
#print axioms proved
end Go.Proofs.YtbkgdepblaibkaaDoor.macroHeads
