/- Contracts of package macro: a head's reader: param. -/
import Derived.Test.YtbkgdepblaibkaaDoorMadb
import Derived.Test.YtbkgdepblaibkaaDoorQuiet
namespace Go.Proofs.YtbkgdepblaibkaaDoor
open Go.RowKit
set_option linter.unusedVariables false
set_option linter.unusedSimpArgs false

/-- A head's default, from a place on. -/
def preT (l : List Tok) (name : List UInt8) (i : Nat) (ps : List PPar) (t : List UInt8) : HRes :=
  if i + comN 0 (l.drop i) < l.length then parT l name (i + comN 0 (l.drop i) + 1) (ps ++ [⟨t, true, (l.drop i).take (comN 0 (l.drop i))⟩]) else .ok name (ps ++ [⟨t, true, (l.drop i).take (comN 0 (l.drop i))⟩])

theorem par_info : (Tryd.prog.info? 88).map (fun i => (i.zero, i.size, i.bytes)) = some (some (.agg #[.string (B []), .bool false, .slice none 0 0]), 3, 48) := by kernel_rfl

/-- What is read on behind a parameter's name. -/
def NextP (l : List Tok) (g i0 : Nat) (name0 : List UInt8) (V : HRes) (nv : Value) (i : Nat) (name : List UInt8) (ps : List PPar) : Prop :=
  name = name0 ∧ ((nv = .nilFunc ∧ V = .ok name0 ps) ∨ (nv = bound 69 g ∧ i0 < i ∧ i ≤ l.length ∧ parT l name0 i ps = V) ∨
    (nv = bound 77 g ∧ i0 < i ∧ i ≤ l.length ∧ ∃ ps0 t, ps = ps0 ++ [⟨t, false, []⟩] ∧ preT l name0 i ps0 t = V))

theorem any_fst (s : List UInt8) (qs : List (PPar × Value)) : ((qs.map (·.1)).any fun p => p.name == s) = hasN s qs := by
  unfold hasN
  rw [List.any_map]
  rfl

set_option maxHeartbeats 4000000 in
set_option maxRecDepth 100000 in
theorem hparam_any (g i : Nat) (name : List UInt8) (pv : Value) (qs : List (PPar × Value)) (lv : Value) (l : List Tok) (w0 w : World) (hn0 : Nx w0 w) (hg : w0.heap.size ≤ g) (hH : Has w g (hdO lv i name pv)) (hQ : OwnQ w (g + 1) pv qs) (hT : Toks w0 lv l) (hl : l.length ≤ 100000000) (hi : i ≤ l.length) (hq : qs.length ≤ i) :
    Calls Tryd.prog 69 #[.pointer (some ⟨g, 0, none⟩)] w (RetStep l lv g w0 (parT l name i (qs.map (·.1))) (NextP l g i name (parT l name i (qs.map (·.1))))) := by
  obtain ⟨i0, pi, hz0, hz1, hz2⟩ := info_parts par_info
  have HI := Lib.hid (And.intro pi (And.intro hz0 (And.intro hz1 hz2)))
  clear pi hz0 hz1 hz2
  obtain ⟨A, c, rfl, hc1, hc2, hA⟩ := hT.form
  obtain ⟨Ap, cp, rfl⟩ := hQ.form
  have HT := Lib.hid hT
  have HH := Lib.hid hH
  have HQ := Lib.hid hQ
  have HN0 := Lib.hid hn0
  have HG := Lib.hid hg
  have CI := fun b hb => isName_any g i _ l name _ w hH (hT.nx hn0) b hb
  have HV := Lib.hid (parT_step l name i (qs.map (·.1)) hi)
  generalize parT l name i (qs.map (·.1)) = V at *
  clear hT hH hn0 hg hQ
  by_cases hk : i < l.length ∧ (atT l i).kind = 1
  · have CI := Lib.hid (CI true (by rw [decide_eq_true hk.1, decide_eq_true hk.2]; rfl))
    have hi1 := hk.1
    obtain ⟨⟨kd, ln, cl, tx, nm, sc⟩, ht⟩ : ∃ t, l[i]? = some t := ⟨_, List.getElem?_eq_getElem hk.1⟩
    have hat := atT_in l i hk.1 _ ht
    obtain ⟨g2, o, rfl, hTA⟩ : ∃ g o, A = some ⟨g, o, none⟩ ∧ TokAt w0 g o l := by
      rcases hA with ⟨_, h, _⟩ | h
      · subst h; cases ht
      · exact h
    have hV := HV.out
    rw [if_neg (by simpa using hk), hat, any_fst] at hV
    dsimp only at hV
    have HV := Lib.hid hV
    have HTA := Lib.hid hTA
    have HTT := Lib.hid ht
    have hiI : (i : Int) < (l.length : Int) := by omega
    have hlm : l.length ≤ 100000000 := hl
    clear hA hTA ht hat hV hk
    cases hdup : hasN tx qs
    · have hV2 := HV.out
      rw [if_neg (by simp [hdup])] at hV2
      have HV := Lib.hid hV2
      clear hV2
      go_enter Tryd.func69, Tryd.ntmps69
      go_wp2_with fail
      refine CI.out.mono ?_
      rintro e w1 ⟨rfl, hn1⟩
      have HH := Lib.hid (HH.out.nx hn1)
      have HQ := Lib.hid (HQ.out.nx hn1)
      have HN1 := Lib.hid (HN0.out.trans hn1)
      have r0 : w1.cell? ⟨g, 0, none⟩ = some (.slice (some ⟨g2, o, none⟩) l.length c) := HH.out.cell 0 _ rfl
      have r1 : w1.cell? ⟨g, 1, none⟩ = some (.int .i64 i) := HH.out.cell 1 _ rfl
      have r3 : w1.cell? ⟨g, 3, none⟩ = some (.slice Ap qs.length cp) := HH.out.cell 3 _ rfl
      have zg := HH.out.lt
      obtain ⟨a0, a1, a2, a3, a4, a5⟩ := TokAt.at_ (HTA.out.nx HN1.out) i _ HTT.out
      dsimp only at a0 a1 a2 a3 a4 a5
      clear hn1 CI
      go_wp2
      go_quiet (fail)
      have HQd := Lib.hid (HQ.out.nx ((Nx.refl w1).drewN nq))
      go_wp2_with fail
      refine (find_any _ qs tx _ HQd.out.pars HQd.out.slices).mono ?_
      rintro e w2 ⟨r, rfl, hr, hn2⟩
      have K2 := Lib.hid (((Nx.refl w1).drewN nq).trans hn2)
      have HH := Lib.hid (HH.out.nx K2.out)
      have HQ := Lib.hid (HQ.out.nx K2.out)
      have HN2 := Lib.hid (HN1.out.trans K2.out)
      rw [hdup] at hr
      clear hn2 HQd r0 r1 r3 a0 a1 a2 a3 a4 a5 zg K2
      have r0 : w2.cell? ⟨g, 0, none⟩ = some (.slice (some ⟨g2, o, none⟩) l.length c) := HH.out.cell 0 _ rfl
      have r1 : w2.cell? ⟨g, 1, none⟩ = some (.int .i64 i) := HH.out.cell 1 _ rfl
      have r3 : w2.cell? ⟨g, 3, none⟩ = some (.slice Ap qs.length cp) := HH.out.cell 3 _ rfl
      have f1 := HH.out.free 1
      have f3 := HH.out.free 3
      have zg := HH.out.lt
      have hA := Lib.hid (HQ.out.1.alloc (.cells #[.string (B tx), .bool false, .slice none 0 0] 88))
      obtain ⟨pi, hz0, hz1, hz2⟩ := HI.out
      have hqI : (qs.length : Int) ≤ 100000000 := by omega
      go_wp2_with (at_builtin; refine wpList_append_c _ rfl _ _ 42 rfl (g + 1) 88 i0 _ 3 48 Tryd.underlying42 pi hz0 hz1 hz2 rfl (by decide) _ _ _ rfl hA.out (some ⟨w2.heap.size, 0, none⟩) 1 1 [.string (B tx), .bool false, .slice none 0 0] rfl rfl (Or.inr ⟨_, rfl, ?c1⟩) ?c2 ?c3 ?c4 ?c5 ?_)
      case c1 => exact six_at w2 [.string (B tx), .bool false, .slice none 0 0] 88
      case c2 => simp [Value.oneCell']
      case c3 => unfold maxLen; omega
      case c4 => omega
      case c5 => simp; omega
      intro v3 w3 hown3 hgr3 hbl3
      have HN3 := Lib.hid (show Nx w0 w3 from Below.grown (HN2.out.alloc _) hgr3 (by have := HN2.out.size; simp; omega) (fun k hk => by have := (hA.out.lt k hk).1; have := HG.out; omega))
      have HH3 := Lib.hid ((HH.out.alloc (.cells #[.string (B tx), .bool false, .slice none 0 0] 88)).keep_grown hgr3 (fun e => by have := (hA.out.lt _ e).1; omega))
      have HQ3 := Lib.hid (OwnQ.push (q := (⟨tx, false, []⟩, .slice none 0 0)) (HQ.out.nx ((Nx.refl w2).alloc (.cells #[.string (B tx), .bool false, .slice none 0 0] 88))) (Toks.nil _) (fun g hg => by cases hg) hgr3 (by simpa using hbl3) hown3)
      obtain ⟨A3, c3, he3⟩ := HQ3.out.form
      rw [List.length_append, List.length_singleton] at he3
      subst he3
      have s3 : w3.cell? ⟨g, 3, none⟩ = some (.slice Ap qs.length cp) := HH3.out.cell 3 _ rfl
      have s1 : w3.cell? ⟨g, 1, none⟩ = some (.int .i64 i) := HH3.out.cell 1 _ rfl
      have s0 : w3.cell? ⟨g, 0, none⟩ = some (.slice (some ⟨g2, o, none⟩) l.length c) := HH3.out.cell 0 _ rfl
      have t1 := HH3.out.free 1
      have t3 := HH3.out.free 3
      have zg3 := HH3.out.lt
      have HH4 := Lib.hid (show Has ((w3.setCell ⟨g, 3, none⟩ (.slice A3 (qs.length + 1) c3)).setCell ⟨g, 1, none⟩ (.int .i64 ((i : Int) + 1))) g (hdO (.slice (some ⟨g2, o, none⟩) l.length c) (i + 1) name (.slice A3 (qs.length + 1) c3)) from by
        have h := (HH3.out.put 3 (.slice A3 (qs.length + 1) c3)).put 1 (.int .i64 ((i : Int) + 1))
        rw [show (i : Int) + 1 = ((i + 1 : Nat) : Int) by omega] at h ⊢
        exact h)
      have HQ4 := Lib.hid ((HQ3.out.set_ (p := ⟨g, 3, none⟩) (Nat.lt_succ_self g) (.slice A3 (qs.length + 1) c3)).set_ (p := ⟨g, 1, none⟩) (Nat.lt_succ_self g) (.int .i64 ((i : Int) + 1)))
      have HN4 := Lib.hid ((HN3.out.setCell (p := ⟨g, 3, none⟩) HG.out (.slice A3 (qs.length + 1) c3)).setCell (p := ⟨g, 1, none⟩) HG.out (.int .i64 ((i : Int) + 1)))
      clear hown3 hgr3 hbl3 hA r0 r1 r3 f1 f3 zg pi hz0 hz1 hz2 hr
      go_wp2
      generalize (w3.setCell ⟨g, 3, none⟩ (.slice A3 (qs.length + 1) c3)).setCell ⟨g, 1, none⟩ (.int .i64 ((i : Int) + 1)) = w4 at *
      have r0 : w4.cell? ⟨g, 0, none⟩ = some (.slice (some ⟨g2, o, none⟩) l.length c) := HH4.out.cell 0 _ rfl
      have r1 : w4.cell? ⟨g, 1, none⟩ = some (.int .i64 ((i : Int) + 1)) := by have h := HH4.out.cell 1 _ rfl; rw [show (i : Int) + 1 = ((i + 1 : Nat) : Int) by omega]; exact h
      have f1 := HH4.out.free 1
      have zg := HH4.out.lt
      clear s0 s1 s3 t1 t3 zg3
      by_cases hend : i + 1 = l.length
      · have be : ((i : Int) + 1 == l.length) = true := by simp; omega
        have HV2 := Lib.hid (show V = .ok name ((qs ++ [((⟨tx, false, []⟩ : PPar), Value.slice none 0 0)]).map (·.1)) from by
          rw [HV.out, if_neg (by omega), if_neg (by omega), List.map_append]; rfl)
        go_quiet (fail)
        go_wp2
        go_ret2
        exact ⟨HN4.out.drewN _, Or.inr ⟨_, i + 1, name, _, _, rfl, HH4.out.nx ((Nx.refl _).drewN _), HQ4.out.nx ((Nx.refl _).drewN _), by omega, by rw [List.length_append, List.length_singleton]; omega, rfl, Or.inl ⟨rfl, HV2.out⟩⟩⟩
      · have be : ((i : Int) + 1 == l.length) = false := beq_eq_false_iff_ne.2 (by omega)
        obtain ⟨t2, ht2⟩ : ∃ t, l[i + 1]? = some t := ⟨_, List.getElem?_eq_getElem (by omega)⟩
        have hat2 := atT_in l (i + 1) (by omega) _ ht2
        obtain ⟨b0, b1, b2, b3, b4, b5⟩ := TokAt.at_ (HTA.out.nx HN4.out) (i + 1) _ ht2
        have hi2 : i + 1 < l.length := by omega
        have hi2I : (i : Int) + 1 < l.length := by omega
        have hi0I : (0 : Int) ≤ (i : Int) + 1 := by omega
        have HB := Lib.hid (fun w (h : Nx w0 w) => TokAt.at_ (HTA.out.nx h) (i + 1) _ ht2)
        have hV3 := HV.out
        rw [hat2, if_pos hi2] at hV3
        have HV3 := Lib.hid hV3
        clear hV3 HV ht2 hat2
        go_quiet (fail)
        go_wp2
        have three : mkN [44] t2 = true ∨ (mkN [44] t2 = false ∧ mkN [61] t2 = true) ∨ (mkN [44] t2 = false ∧ mkN [61] t2 = false) := by
          cases h1 : mkN [44] t2 <;> cases h2 : mkN [61] t2 <;> simp
        obtain ⟨kd2, ln2, cl2, tx2, nm2, sc2⟩ := t2
        dsimp only at b0 b1 b2 b3 b4 b5
        have y0 := block_lt b0
        rcases three with m1 | ⟨m1, m2⟩ | ⟨m1, m2⟩
        · have HV4 := Lib.hid (show parT l name (i + 2) ((qs ++ [((⟨tx, false, []⟩ : PPar), Value.slice none 0 0)]).map (·.1)) = V from by
            rw [HV3.out, if_neg (by rw [mk_apart _ _ _ m1 rfl]; simp), if_pos m1, List.map_append]; rfl)
          have M1 := Lib.hid m1
          clear m1
          (refine wp_region_nx 11 (by kernel_rfl) (by kernel_rfl) ?_; simp only [List.take_succ_cons, List.take_zero, List.drop_succ_cons, List.drop_zero]; (repeat (refine wpQuiet_step (fun K hK => ?_); go_simp; first | (refine hK _ ?_; clear hK K) | (apply Exists.intro; refine ⟨fun w' hw' => ?_, hK _ ?_⟩; (first | (with_reducible rfl) | (go_at_call 70; with_reducible exact (markp_is ⟨kd2, ln2, cl2, tx2, nm2, sc2⟩ [44] true _ M1.out).mono fun _ _ h => ⟨h.1, hw'.trans h.2⟩) | (rw [hw'.cell r0]; exact ⟨rfl, rfl⟩) | (rw [hw'.cell r1]; exact ⟨rfl, rfl⟩) | (simp only [hw'.cell b0, hw'.cell b1, hw'.cell b2, hw'.cell b3, hw'.cell b4, hw'.cell b5, Result.andThen_ok]; exact ⟨trivial, rfl⟩) | (obtain ⟨hc, hf⟩ := nx_cells hw'; go_simp; with_reducible rfl) | (obtain ⟨hc, hf⟩ := nx_cells hw'; go_simp; rfl)); clear hK K))); refine wpQuiet_nil ?_; intro w9 hn9)
          have HH9 := Lib.hid (HH4.out.nx (((Nx.refl w4).drewN _).trans hn9))
          have HQ9 := Lib.hid (HQ4.out.nx (((Nx.refl w4).drewN _).trans hn9))
          have HN9 := Lib.hid (HN4.out.trans (((Nx.refl w4).drewN _).trans hn9))
          have r1 : w9.cell? ⟨g, 1, none⟩ = some (.int .i64 ((i : Int) + 1)) := by have h := HH9.out.cell 1 _ rfl; rw [show (i : Int) + 1 = ((i + 1 : Nat) : Int) by omega]; exact h
          have r0 : w9.cell? ⟨g, 0, none⟩ = some (.slice (some ⟨g2, o, none⟩) l.length c) := HH9.out.cell 0 _ rfl
          have f1 := HH9.out.free 1
          have zg := HH9.out.lt
          clear hn9 b0 b1 b2 b3 b4 b5 y0
          go_wp2
          go_ret2
          exact ⟨HN9.out.setCell HG.out _, Or.inr ⟨_, i + 2, name, _, _, rfl, by
            have h := HH9.out.put 1 (.int .i64 ((i : Int) + 1 + 1))
            rw [show (i : Int) + 1 + 1 = ((i + 2 : Nat) : Int) by omega] at h ⊢
            exact h, HQ9.out.set_ (Nat.lt_succ_self g) _, by omega, by rw [List.length_append, List.length_singleton]; omega, rfl, Or.inr (Or.inl ⟨rfl, by omega, by omega, HV4.out⟩)⟩⟩
        · have M1 := Lib.hid m1
          have M2 := Lib.hid m2
          clear m1 m2
          have HV4 := Lib.hid (show preT l name (i + 2) (qs.map (·.1)) tx = V from by
            rw [HV3.out, if_pos ⟨hi2, M2.out⟩]; rfl)
          (refine wp_region_nx 11 (by kernel_rfl) (by kernel_rfl) ?_; simp only [List.take_succ_cons, List.take_zero, List.drop_succ_cons, List.drop_zero]; (repeat (refine wpQuiet_step (fun K hK => ?_); go_simp; first | (refine hK _ ?_; clear hK K) | (apply Exists.intro; refine ⟨fun w' hw' => ?_, hK _ ?_⟩; (first | (with_reducible rfl) | (go_at_call 70; with_reducible exact (markp_is ⟨kd2, ln2, cl2, tx2, nm2, sc2⟩ [44] false _ M1.out).mono fun _ _ h => ⟨h.1, hw'.trans h.2⟩) | (rw [hw'.cell r0]; exact ⟨rfl, rfl⟩) | (rw [hw'.cell r1]; exact ⟨rfl, rfl⟩) | (simp only [hw'.cell b0, hw'.cell b1, hw'.cell b2, hw'.cell b3, hw'.cell b4, hw'.cell b5, Result.andThen_ok]; exact ⟨trivial, rfl⟩) | (obtain ⟨hc, hf⟩ := nx_cells hw'; go_simp; with_reducible rfl) | (obtain ⟨hc, hf⟩ := nx_cells hw'; go_simp; rfl)); clear hK K))); refine wpQuiet_nil ?_; intro w9 hn9)
          have HH9 := Lib.hid (HH4.out.nx (((Nx.refl w4).drewN _).trans hn9))
          have HQ9 := Lib.hid (HQ4.out.nx (((Nx.refl w4).drewN _).trans hn9))
          have HN9 := Lib.hid (HN4.out.trans (((Nx.refl w4).drewN _).trans hn9))
          have r1 : w9.cell? ⟨g, 1, none⟩ = some (.int .i64 ((i : Int) + 1)) := by have h := HH9.out.cell 1 _ rfl; rw [show (i : Int) + 1 = ((i + 1 : Nat) : Int) by omega]; exact h
          have r0 : w9.cell? ⟨g, 0, none⟩ = some (.slice (some ⟨g2, o, none⟩) l.length c) := HH9.out.cell 0 _ rfl
          have f1 := HH9.out.free 1
          have zg := HH9.out.lt
          clear hn9 b0 b1 b2 b3 b4 b5 y0
          obtain ⟨b0, b1, b2, b3, b4, b5⟩ := HB.out _ HN9.out
          dsimp only at b0 b1 b2 b3 b4 b5
          have y0 := block_lt b0
          go_wp2
          (refine wp_region_nx 11 (by kernel_rfl) (by kernel_rfl) ?_; simp only [List.take_succ_cons, List.take_zero, List.drop_succ_cons, List.drop_zero]; (repeat (refine wpQuiet_step (fun K hK => ?_); go_simp; first | (refine hK _ ?_; clear hK K) | (apply Exists.intro; refine ⟨fun w' hw' => ?_, hK _ ?_⟩; (first | (with_reducible rfl) | (go_at_call 70; with_reducible exact (markp_is ⟨kd2, ln2, cl2, tx2, nm2, sc2⟩ [61] true _ M2.out).mono fun _ _ h => ⟨h.1, hw'.trans h.2⟩) | (rw [hw'.cell r0]; exact ⟨rfl, rfl⟩) | (rw [hw'.cell r1]; exact ⟨rfl, rfl⟩) | (simp only [hw'.cell b0, hw'.cell b1, hw'.cell b2, hw'.cell b3, hw'.cell b4, hw'.cell b5, Result.andThen_ok]; exact ⟨trivial, rfl⟩) | (obtain ⟨hc, hf⟩ := nx_cells hw'; go_simp; with_reducible rfl) | (obtain ⟨hc, hf⟩ := nx_cells hw'; go_simp; rfl)); clear hK K))); refine wpQuiet_nil ?_; intro wA hnA)
          have HHA := Lib.hid (HH9.out.nx (hnA))
          have HQA := Lib.hid (HQ9.out.nx (hnA))
          have HNA := Lib.hid (HN9.out.trans (hnA))
          have r1 : wA.cell? ⟨g, 1, none⟩ = some (.int .i64 ((i : Int) + 1)) := by have h := HHA.out.cell 1 _ rfl; rw [show (i : Int) + 1 = ((i + 1 : Nat) : Int) by omega]; exact h
          have r0 : wA.cell? ⟨g, 0, none⟩ = some (.slice (some ⟨g2, o, none⟩) l.length c) := HHA.out.cell 0 _ rfl
          have f1 := HHA.out.free 1
          have zg := HHA.out.lt
          clear hnA b0 b1 b2 b3 b4 b5 y0
          go_wp2
          go_ret2
          exact ⟨HNA.out.setCell HG.out _, Or.inr ⟨_, i + 2, name, _, _, rfl, by
            have h := HHA.out.put 1 (.int .i64 ((i : Int) + 1 + 1))
            rw [show (i : Int) + 1 + 1 = ((i + 2 : Nat) : Int) by omega] at h ⊢
            exact h, HQA.out.set_ (Nat.lt_succ_self g) _, by omega, by rw [List.length_append, List.length_singleton]; omega, rfl, Or.inr (Or.inr ⟨rfl, by omega, by omega, qs.map (·.1), tx, by rw [List.map_append]; rfl, HV4.out⟩)⟩⟩
        · have M1 := Lib.hid m1
          have M2 := Lib.hid m2
          clear m1 m2
          have HV4 := Lib.hid (show V = badT l (i + 1) 5 from by
            rw [HV3.out, if_neg (by rw [M2.out]; simp), if_neg (by rw [M1.out]; simp)])
          (refine wp_region_nx 11 (by kernel_rfl) (by kernel_rfl) ?_; simp only [List.take_succ_cons, List.take_zero, List.drop_succ_cons, List.drop_zero]; (repeat (refine wpQuiet_step (fun K hK => ?_); go_simp; first | (refine hK _ ?_; clear hK K) | (apply Exists.intro; refine ⟨fun w' hw' => ?_, hK _ ?_⟩; (first | (with_reducible rfl) | (go_at_call 70; with_reducible exact (markp_is ⟨kd2, ln2, cl2, tx2, nm2, sc2⟩ [44] false _ M1.out).mono fun _ _ h => ⟨h.1, hw'.trans h.2⟩) | (rw [hw'.cell r0]; exact ⟨rfl, rfl⟩) | (rw [hw'.cell r1]; exact ⟨rfl, rfl⟩) | (simp only [hw'.cell b0, hw'.cell b1, hw'.cell b2, hw'.cell b3, hw'.cell b4, hw'.cell b5, Result.andThen_ok]; exact ⟨trivial, rfl⟩) | (obtain ⟨hc, hf⟩ := nx_cells hw'; go_simp; with_reducible rfl) | (obtain ⟨hc, hf⟩ := nx_cells hw'; go_simp; rfl)); clear hK K))); refine wpQuiet_nil ?_; intro w9 hn9)
          have HH9 := Lib.hid (HH4.out.nx (((Nx.refl w4).drewN _).trans hn9))
          have HQ9 := Lib.hid (HQ4.out.nx (((Nx.refl w4).drewN _).trans hn9))
          have HN9 := Lib.hid (HN4.out.trans (((Nx.refl w4).drewN _).trans hn9))
          have r1 : w9.cell? ⟨g, 1, none⟩ = some (.int .i64 ((i : Int) + 1)) := by have h := HH9.out.cell 1 _ rfl; rw [show (i : Int) + 1 = ((i + 1 : Nat) : Int) by omega]; exact h
          have r0 : w9.cell? ⟨g, 0, none⟩ = some (.slice (some ⟨g2, o, none⟩) l.length c) := HH9.out.cell 0 _ rfl
          have f1 := HH9.out.free 1
          have zg := HH9.out.lt
          clear hn9 b0 b1 b2 b3 b4 b5 y0
          obtain ⟨b0, b1, b2, b3, b4, b5⟩ := HB.out _ HN9.out
          dsimp only at b0 b1 b2 b3 b4 b5
          have y0 := block_lt b0
          go_wp2
          (refine wp_region_nx 11 (by kernel_rfl) (by kernel_rfl) ?_; simp only [List.take_succ_cons, List.take_zero, List.drop_succ_cons, List.drop_zero]; (repeat (refine wpQuiet_step (fun K hK => ?_); go_simp; first | (refine hK _ ?_; clear hK K) | (apply Exists.intro; refine ⟨fun w' hw' => ?_, hK _ ?_⟩; (first | (with_reducible rfl) | (go_at_call 70; with_reducible exact (markp_is ⟨kd2, ln2, cl2, tx2, nm2, sc2⟩ [61] false _ M2.out).mono fun _ _ h => ⟨h.1, hw'.trans h.2⟩) | (rw [hw'.cell r0]; exact ⟨rfl, rfl⟩) | (rw [hw'.cell r1]; exact ⟨rfl, rfl⟩) | (simp only [hw'.cell b0, hw'.cell b1, hw'.cell b2, hw'.cell b3, hw'.cell b4, hw'.cell b5, Result.andThen_ok]; exact ⟨trivial, rfl⟩) | (obtain ⟨hc, hf⟩ := nx_cells hw'; go_simp; with_reducible rfl) | (obtain ⟨hc, hf⟩ := nx_cells hw'; go_simp; rfl)); clear hK K))); refine wpQuiet_nil ?_; intro wA hnA)
          have HHA := Lib.hid (HH9.out.nx (hnA))
          have HQA := Lib.hid (HQ9.out.nx (hnA))
          have HNA := Lib.hid (HN9.out.trans (hnA))
          have r1 : wA.cell? ⟨g, 1, none⟩ = some (.int .i64 ((i : Int) + 1)) := by have h := HHA.out.cell 1 _ rfl; rw [show (i : Int) + 1 = ((i + 1 : Nat) : Int) by omega]; exact h
          have r0 : wA.cell? ⟨g, 0, none⟩ = some (.slice (some ⟨g2, o, none⟩) l.length c) := HHA.out.cell 0 _ rfl
          have f1 := HHA.out.free 1
          have zg := HHA.out.lt
          clear hnA b0 b1 b2 b3 b4 b5 y0
          go_wp2_with fail
          refine (hfault_any g (i + 1) _ l _ _ 5 _ HHA.out (HT.out.nx HNA.out) hl (by omega)).mono ?_
          rintro e wB ⟨ev, rfl, hnB, hF⟩
          have HNB := Lib.hid (HNA.out.trans hnB)
          have HF := Lib.hid hF
          clear hnB hF
          go_wp2
          go_ret2
          exact ⟨HNB.out, Or.inl ⟨_, _, _, _, rfl, HV4.out, HF.out, by omega, by omega⟩⟩
    · have HV := Lib.hid (show V = badT l i 10 from by have h := HV.out; rw [if_pos hdup] at h; exact h)
      go_enter Tryd.func69, Tryd.ntmps69
      go_wp2_with fail
      refine CI.out.mono ?_
      rintro e w1 ⟨rfl, hn1⟩
      have HH := Lib.hid (HH.out.nx hn1)
      have HQ := Lib.hid (HQ.out.nx hn1)
      have HN1 := Lib.hid (HN0.out.trans hn1)
      have r0 : w1.cell? ⟨g, 0, none⟩ = some (.slice (some ⟨g2, o, none⟩) l.length c) := HH.out.cell 0 _ rfl
      have r1 : w1.cell? ⟨g, 1, none⟩ = some (.int .i64 i) := HH.out.cell 1 _ rfl
      have r3 : w1.cell? ⟨g, 3, none⟩ = some (.slice Ap qs.length cp) := HH.out.cell 3 _ rfl
      have zg := HH.out.lt
      obtain ⟨a0, a1, a2, a3, a4, a5⟩ := TokAt.at_ (HTA.out.nx HN1.out) i _ HTT.out
      dsimp only at a0 a1 a2 a3 a4 a5
      clear hn1 CI
      go_wp2
      go_quiet (fail)
      have HQd := Lib.hid (HQ.out.nx ((Nx.refl w1).drewN nq))
      go_wp2_with fail
      refine (find_any _ qs tx _ HQd.out.pars HQd.out.slices).mono ?_
      rintro e w2 ⟨r, rfl, hr, hn2⟩
      have K2 := Lib.hid (((Nx.refl w1).drewN nq).trans hn2)
      have HH := Lib.hid (HH.out.nx K2.out)
      have HQ := Lib.hid (HQ.out.nx K2.out)
      have HN2 := Lib.hid (HN1.out.trans K2.out)
      rw [hdup] at hr
      clear hn2 HQd r0 r1 r3 a0 a1 a2 a3 a4 a5 zg K2
      go_wp2_with fail
      refine (hfault_any g i _ l _ _ 10 _ HH.out (HT.out.nx HN2.out) hl (by omega)).mono ?_
      rintro e w3 ⟨ev, rfl, hn3, hF⟩
      have HN3 := Lib.hid (HN2.out.trans hn3)
      have HF := Lib.hid hF
      clear hn3 hF
      go_wp2
      go_ret2
      exact ⟨HN3.out, Or.inl ⟨_, _, _, _, rfl, HV.out, HF.out, by omega, by omega⟩⟩
  · have CI := Lib.hid (CI false (by
      by_cases h1 : i < l.length
      · rw [decide_eq_true h1, decide_eq_false (fun h => hk ⟨h1, h⟩)]; rfl
      · rw [decide_eq_false h1]; rfl))
    have HV := Lib.hid (show V = badT l i 5 from by have h := HV.out; rw [if_pos hk] at h; exact h)
    clear hA hk
    go_enter Tryd.func69, Tryd.ntmps69
    go_wp2_with fail
    refine CI.out.mono ?_
    rintro e w1 ⟨rfl, hn1⟩
    have HH := Lib.hid (HH.out.nx hn1)
    have HN1 := Lib.hid (HN0.out.trans hn1)
    clear hn1
    go_wp2_with fail
    refine (hfault_any g i _ l _ _ 5 _ HH.out (HT.out.nx HN1.out) hl (by omega)).mono ?_
    rintro e w2 ⟨ev, rfl, hn2, hF⟩
    have HN2 := Lib.hid (HN1.out.trans hn2)
    have HF := Lib.hid hF
    clear hn2 hF
    go_wp2
    go_ret2
    exact ⟨HN2.out, Or.inl ⟨_, _, _, _, rfl, HV.out, HF.out, by omega, by omega⟩⟩

end Go.Proofs.YtbkgdepblaibkaaDoor
