/- Contracts of package lex: Lines. -/
import Derived.Test.YtbkgdepblaibkaaDoorLxi
import Derived.Test.YtbkgdepblaibkaaDoorRtj
namespace Go.Proofs.YtbkgdepblaibkaaDoor
open Go.RowKit
set_option linter.unusedVariables false
set_option linter.unusedSimpArgs false

theorem take_in {α : Type} (l : List α) (m j : Nat) (x : α) (h : (l.take m)[j]? = some x) : l[j]? = some x := by
  rw [List.getElem?_take] at h
  split at h
  · exact h
  · cases h

/-- What comes of a source. -/
def RetLinesE (r : LRes (List (List Tok))) (w : World) (e : Ending) (w' : World) : Prop :=
  ∃ v ev, e = .returned (.tuple #[v, ev]) ∧ Nx w w' ∧ ((∃ ls, r = .ok ls ∧ Lins w' v ls ∧ ev = .nilIface) ∨ (∃ a b c, r = .bad a b c ∧ v = .slice none 0 0 ∧ FaultIs w' ev a b c ∧ 1 ≤ c ∧ c ≤ 16))

theorem llines_long (v : Value) (l : List UInt8) (w : World) (hB : Bys w v l) (hl : 65536 < l.length) : Calls Tryd.prog 42 #[v] w (RetLinesE (srcR l) w) := by
  obtain ⟨A, c, rfl, hc1, hc2, hA⟩ := hB.form
  have HV := Lib.hid (show srcR l = .bad 1 1 12 by unfold srcR; rw [if_pos hl])
  generalize srcR l = V at *
  clear hB hA
  unfold maxLen at hc2
  have d0 : decide ((65536 : Int) < l.length) = true := decide_eq_true (by omega)
  go_enter Tryd.func42, Tryd.ntmps42
  go_wp2
  go_ret2
  exact ⟨_, _, rfl, (Nx.refl w).alloc _, Or.inr ⟨1, 1, 12, HV.out, rfl, FaultIs.new _ _ _ _ _, by decide, by decide⟩⟩

/-- What holds at a round's head. -/
def SrcRelE (l : List UInt8) (w wr : World) (V : LRes (List (List Tok))) (ov fv : Value) : Prop :=
  ∃ (a : Nat) (ls : List (List Tok)), a ≤ l.length + 1 ∧ fv = .int .i64 a ∧ ls.length ≤ a ∧ OwnL wr w.heap.size ov ls ∧ Nx w wr ∧ LRes.pre ls (linesR (ls.length + 1) (restL l a)) = V

set_option maxHeartbeats 8000000 in
set_option maxRecDepth 100000 in
theorem llines_any (v : Value) (l : List UInt8) (w : World) (hE : ErrT w) (hB : Bys w v l) (hl : l.length ≤ 65536) : Calls Tryd.prog 42 #[v] w (RetLinesE (srcR l) w) := by
  obtain ⟨i0, hi, hz0, hz1, hz2⟩ := info_parts toks_info
  have HI := Lib.hid (And.intro hi (And.intro hz0 (And.intro hz1 hz2)))
  clear hi hz0 hz1 hz2
  obtain ⟨A, c, rfl, hc1, hc2, hA⟩ := hB.form
  have HA := Lib.hid hA
  have HE := Lib.hid hE
  have HCM := Lib.hid hc2
  clear hA hE
  have HV := Lib.hid (show LRes.pre [] (linesR (0 + 1) (restL l 0)) = srcR l by
    have h1 : restL l 0 = splitL l := by unfold restL; rw [if_pos (Nat.zero_le _), List.drop_zero]
    have h2 : srcR l = linesR 1 (splitL l) := by unfold srcR; rw [if_neg (by omega)]
    rw [pre_nil, h1, h2])
  generalize srcR l = V at *
  clear hB
  unfold maxLen at hc2
  have d0 : decide ((65536 : Int) < l.length) = false := decide_eq_false (by omega)
  go_enter Tryd.func42, Tryd.ntmps42
  go_wp2
  go_loopw [4, 5] (fun ov fv wr => SrcRelE l w wr V ov fv) (fun _ fv _ => l.length + 1 - (intOf fv).toNat)
  case atStart => exact ⟨0, [], Nat.zero_le _, rfl, Nat.le_refl _, OwnL.nil _ _, Nx.refl w, HV.out⟩
  case round =>
    obtain ⟨a, ls, ha1, rfl, hla, hown, hnx, hV⟩ := hrel
    obtain ⟨wo, rfl⟩ : ∃ wo : World, wo = wr := ⟨_, rfl⟩
    have HNX := Lib.hid hnx
    have HO := Lib.hid hown
    obtain ⟨Av, cv, rfl⟩ := hown.form
    have HVV := Lib.hid hV
    clear hnx hown hV HV
    by_cases ha2 : a ≤ l.length
    · have ha2I : decide ((a : Int) ≤ l.length) = true := decide_eq_true (by omega)
      go_wp2
      go_loop [6] (fun iv => ∃ i : Nat, a ≤ i ∧ i ≤ l.length ∧ iv = .int .i64 i ∧ Hid (∀ x ∈ (l.take i).drop a, x ≠ 10)) (fun iv => l.length - (intOf iv).toNat)
      case atStart => exact ⟨a, Nat.le_refl _, ha2, rfl, Lib.hid (fun x h => by rw [List.drop_eq_nil_of_le (by rw [List.length_take]; omega)] at h; cases h)⟩
      case round =>
        obtain ⟨i, hai, hi2, rfl, HNO⟩ := hrel
        have step : (i < l.length ∧ ∃ x, l[i]? = some x ∧ x ≠ 10) ∨ (restL l a = (l.take i).drop a :: restL l (i + 1) ∧ ((i < l.length ∧ l[i]? = some 10) ∨ i = l.length)) := by
          by_cases hlt : i < l.length
          · obtain ⟨x, hx⟩ : ∃ x, l[i]? = some x := ⟨_, List.getElem?_eq_getElem hlt⟩
            by_cases h10 : x = 10
            · subst h10
              exact Or.inr ⟨restL_feed l a i hai hx HNO.out, Or.inl ⟨hlt, hx⟩⟩
            · exact Or.inl ⟨hlt, x, hx, h10⟩
          · obtain rfl : i = l.length := by omega
            refine Or.inr ⟨?_, Or.inr rfl⟩
            have h := HNO.out
            rw [List.take_length] at h ⊢
            exact restL_end l a hai h
        rcases step with ⟨hlt, x, hx, h10⟩ | ⟨hrest, hcase⟩
        · obtain ⟨g, o, rfl, hcells⟩ : ∃ g o, A = some ⟨g, o, none⟩ ∧ BysAt w g o l := by
            rcases HA.out with ⟨h, _⟩ | h
            · subst h; cases hx
            · exact h
          have cx := HNX.out.cell (hcells i x hx)
          have b10 : ((x.toNat : Int) != 10) = true := by
            have := u8n x 10 (by omega) false (beq_eq_false_iff_ne.2 h10)
            simpa using this
          have HN2 := Lib.hid (nofeed_snoc l a i hai x hx h10 HNO.out)
          clear hcells hx h10
          go_wp2
          go_round
          case rel => exact ⟨i + 1, by omega, by omega, by go_num, HN2⟩
          case measure => simp [intOf]; omega
        · have hV := HVV.out
          rw [hrest, linesR_cons] at hV
          have HV1 := Lib.hid hV
          clear hV hrest HNO
          rcases hcase with ⟨hlt, hx⟩ | hlen
          · obtain ⟨g, o, rfl, hcells⟩ : ∃ g o, A = some ⟨g, o, none⟩ ∧ BysAt w g o l := by
              rcases HA.out with ⟨h, _⟩ | h
              · subst h; cases hx
              · exact h
            have cx := HNX.out.cell (hcells i 10 hx)
            have cx : wo.cell? ⟨g, o + i, none⟩ = some (.int .u8 10) := cx
            have hbs := hcells.nx HNX.out
            have hsl : ((l.take i).drop a).length = i - a := by rw [List.length_drop, List.length_take]; omega
            have hbt : BysAt wo g (o + a) ((l.take i).drop a) := fun k b hk => by
              rw [List.getElem?_drop] at hk
              have := hbs (a + k) b (take_in _ _ _ _ hk)
              rwa [← Nat.add_assoc] at this
            have CL := lline_at g (o + a) (c - a) ((l.take i).drop a) ((ls.length + 1 : Nat) : Int) wo (HE.out.nx HNX.out) hbt (by omega) (by omega) (by have := HCM.out; omega)
            rw [hsl] at CL
            generalize (l.take i).drop a = s at *
            have CL := Lib.hid (show Calls Tryd.prog 56 #[.slice (some ⟨g, o + a, none⟩) (i - a) (c - a), .int .i64 ((ls.length : Int) + 1)] wo (RetLineE (lineT ((ls.length + 1 : Nat) : Int) 0 s) wo) from by have := CL; rwa [Int.natCast_add] at this)
            clear hbs hbt hsl
            have haI : (a : Int) ≤ i := by omega
            have hacI : (a : Int) ≤ c := by omega
            have hicI : (i : Int) ≤ c := by omega
            have hlI : (ls.length : Int) ≤ 65537 := by omega
            clear hx hcells
            go_wp2_with fail
            refine CL.out.mono ?_
            rintro e w2 hr
            obtain ⟨v2, ev, rfl, hn2, hres⟩ := hr
            have HX2 := Lib.hid (HNX.out.trans hn2)
            have HO2 := Lib.hid (HO.out.nx hn2)
            have HS2 := Lib.hid hn2.size
            clear hn2
            rcases hres with ⟨ts, hR, htok, rfl⟩ | ⟨fa, fb, fc, hR, rfl, hF, hc16⟩
            · have hV := HV1.out
              rw [hR] at hV
              obtain ⟨A2, c2, rfl, _⟩ := htok.1.form
              have HV2 := Lib.hid hV
              have HT := Lib.hid htok
              clear hV hR htok HV1
              obtain ⟨us, hus, husl, hus2⟩ := (HO2.out.nx ((Nx.refl w2).alloc (.cells #[.slice A2 ts.length c2] 37))).parts
              have HU := Lib.hid hus
              have HU2 := Lib.hid hus2
              have HUL := Lib.hid husl
              have HTA := Lib.hid (HT.out.1.nx ((Nx.refl w2).alloc (.cells #[.slice A2 ts.length c2] 37)))
              have HTB := Lib.hid (fun g (hg : (Value.slice A2 ts.length c2).ownBlock = some g) => (show w.heap.size ≤ g ∧ g < w2.heap.size + 1 ∧ (Value.slice Av ls.length cv).ownBlock ≠ some g from by
                obtain ⟨h1, h2⟩ := HT.out.2 g hg
                have h3 := HNX.out.size
                refine ⟨by omega, by omega, fun e => ?_⟩
                have := (HO.out.lt g e).2
                omega))
              clear hus hus2 husl HT
              obtain ⟨hi, hz0, hz1, hz2⟩ := HI.out
              go_wp2_with (at_builtin; refine wpList_append_c _ rfl _ _ 22 rfl w.heap.size 37 i0 (.slice none 0 0) 1 24 Tryd.underlying22 hi hz0 hz1 hz2 rfl (by decide) _ _ _ rfl HU.out (some ⟨w2.heap.size, 0, none⟩) 1 1 [.slice A2 ts.length c2] rfl rfl (Or.inr ⟨_, rfl, ?c1⟩) ?c2 ?c3 ?c4 ?c5 ?_)
              case c1 => exact six_at w2 [.slice A2 ts.length c2] 37
              case c2 => simp [Value.oneCell']
              case c3 => unfold maxLen; omega
              case c4 => omega
              case c5 => have := HX2.out.size; simp; omega
              intro v3 w3 hown3 hgr3 hbl3
              have HX3 := Lib.hid (show Nx w w3 from Below.grown (HX2.out.alloc _) hgr3 (by have := HX2.out.size; simp; omega) (fun k hk => (HU.out.lt k hk).1))
              have HO3 := Lib.hid (OwnL.push HUL.out HU2.out HTA.out (by intro g hg; have := HTB.out g hg; simpa using this) hgr3 (by simpa using hbl3) hown3)
              clear hown3 hgr3 hbl3
              go_wp2
              go_roundw
              case rel => exact ⟨i + 1, ls ++ [ts], by omega, by go_num, by simp; omega, HO3.out, HX3.out, by rw [← HV2.out]; show _ = LRes.pre ls (LRes.pre [ts] _); rw [pre_pre]; simp⟩
              case measure => simp [intOf]; omega
            · have hV := HV1.out
              rw [hR] at hV
              have HV2 := Lib.hid (show LRes.bad fa fb fc = V from hV)
              have HF := Lib.hid hF
              obtain ⟨fg, fo, rfl, _⟩ := hF
              have HC := Lib.hid hc16
              clear hV hR HV1 hc16
              go_wp2
              go_ret2
              exact ⟨_, _, rfl, HX2.out, Or.inr ⟨fa, fb, fc, HV2.out.symm, rfl, HF.out, HC.out⟩⟩
          · have hltI : decide ((i : Int) < l.length) = false := decide_eq_false (by omega)
            have hge : l.length ≤ i := by omega
            clear hlen
            by_cases hac : a < c
            · obtain ⟨g, o, rfl, hcells⟩ : ∃ g o, A = some ⟨g, o, none⟩ ∧ BysAt w g o l := by
                rcases HA.out with ⟨_, h⟩ | h
                · omega
                · exact h
              have hbs := hcells.nx HNX.out
              have hsl : ((l.take i).drop a).length = i - a := by rw [List.length_drop, List.length_take]; omega
              have hbt : BysAt wo g (o + a) ((l.take i).drop a) := fun k b hk => by
                rw [List.getElem?_drop] at hk
                have := hbs (a + k) b (take_in _ _ _ _ hk)
                rwa [← Nat.add_assoc] at this
              have CL := lline_at g (o + a) (c - a) ((l.take i).drop a) ((ls.length + 1 : Nat) : Int) wo (HE.out.nx HNX.out) hbt (by omega) (by omega) (by have := HCM.out; omega)
              rw [hsl] at CL
              generalize (l.take i).drop a = s at *
              have CL := Lib.hid (show Calls Tryd.prog 56 #[.slice (some ⟨g, o + a, none⟩) (i - a) (c - a), .int .i64 ((ls.length : Int) + 1)] wo (RetLineE (lineT ((ls.length + 1 : Nat) : Int) 0 s) wo) from by have := CL; rwa [Int.natCast_add] at this)
              clear hbs hbt hsl
              have haI : (a : Int) ≤ i := by omega
              have hacI : (a : Int) ≤ c := by omega
              have hicI : (i : Int) ≤ c := by omega
              have hlI : (ls.length : Int) ≤ 65537 := by omega
              clear hcells
              go_wp2_with fail
              refine CL.out.mono ?_
              rintro e w2 hr
              obtain ⟨v2, ev, rfl, hn2, hres⟩ := hr
              have HX2 := Lib.hid (HNX.out.trans hn2)
              have HO2 := Lib.hid (HO.out.nx hn2)
              have HS2 := Lib.hid hn2.size
              clear hn2
              rcases hres with ⟨ts, hR, htok, rfl⟩ | ⟨fa, fb, fc, hR, rfl, hF, hc16⟩
              · have hV := HV1.out
                rw [hR] at hV
                obtain ⟨A2, c2, rfl, _⟩ := htok.1.form
                have HV2 := Lib.hid hV
                have HT := Lib.hid htok
                clear hV hR htok HV1
                obtain ⟨us, hus, husl, hus2⟩ := (HO2.out.nx ((Nx.refl w2).alloc (.cells #[.slice A2 ts.length c2] 37))).parts
                have HU := Lib.hid hus
                have HU2 := Lib.hid hus2
                have HUL := Lib.hid husl
                have HTA := Lib.hid (HT.out.1.nx ((Nx.refl w2).alloc (.cells #[.slice A2 ts.length c2] 37)))
                have HTB := Lib.hid (fun g (hg : (Value.slice A2 ts.length c2).ownBlock = some g) => (show w.heap.size ≤ g ∧ g < w2.heap.size + 1 ∧ (Value.slice Av ls.length cv).ownBlock ≠ some g from by
                  obtain ⟨h1, h2⟩ := HT.out.2 g hg
                  have h3 := HNX.out.size
                  refine ⟨by omega, by omega, fun e => ?_⟩
                  have := (HO.out.lt g e).2
                  omega))
                clear hus hus2 husl HT
                obtain ⟨hi, hz0, hz1, hz2⟩ := HI.out
                go_wp2_with (at_builtin; refine wpList_append_c _ rfl _ _ 22 rfl w.heap.size 37 i0 (.slice none 0 0) 1 24 Tryd.underlying22 hi hz0 hz1 hz2 rfl (by decide) _ _ _ rfl HU.out (some ⟨w2.heap.size, 0, none⟩) 1 1 [.slice A2 ts.length c2] rfl rfl (Or.inr ⟨_, rfl, ?c1⟩) ?c2 ?c3 ?c4 ?c5 ?_)
                case c1 => exact six_at w2 [.slice A2 ts.length c2] 37
                case c2 => simp [Value.oneCell']
                case c3 => unfold maxLen; omega
                case c4 => omega
                case c5 => have := HX2.out.size; simp; omega
                intro v3 w3 hown3 hgr3 hbl3
                have HX3 := Lib.hid (show Nx w w3 from Below.grown (HX2.out.alloc _) hgr3 (by have := HX2.out.size; simp; omega) (fun k hk => (HU.out.lt k hk).1))
                have HO3 := Lib.hid (OwnL.push HUL.out HU2.out HTA.out (by intro g hg; have := HTB.out g hg; simpa using this) hgr3 (by simpa using hbl3) hown3)
                clear hown3 hgr3 hbl3
                go_wp2
                go_roundw
                case rel => exact ⟨i + 1, ls ++ [ts], by omega, by go_num, by simp; omega, HO3.out, HX3.out, by rw [← HV2.out]; show _ = LRes.pre ls (LRes.pre [ts] _); rw [pre_pre]; simp⟩
                case measure => simp [intOf]; omega
              · have hV := HV1.out
                rw [hR] at hV
                have HV2 := Lib.hid (show LRes.bad fa fb fc = V from hV)
                have HF := Lib.hid hF
                obtain ⟨fg, fo, rfl, _⟩ := hF
                have HC := Lib.hid hc16
                clear hV hR HV1 hc16
                go_wp2
                go_ret2
                exact ⟨_, _, rfl, HX2.out, Or.inr ⟨fa, fb, fc, HV2.out.symm, rfl, HF.out, HC.out⟩⟩
            · have hs0 : (l.take i).drop a = [] := List.drop_eq_nil_of_le (by rw [List.length_take]; omega)
              rw [hs0] at HV1
              obtain rfl : a = i := by omega
              obtain rfl : a = c := by omega
              have CL := lline_nil A 0 ((ls.length + 1 : Nat) : Int) wo
              generalize ([] : List UInt8) = s at *
              have CL := Lib.hid (show Calls Tryd.prog 56 #[.slice A 0 0, .int .i64 ((ls.length : Int) + 1)] wo (RetLineE (lineT ((ls.length + 1 : Nat) : Int) 0 s) wo) from by have := CL; rwa [Int.natCast_add] at this)
              have d1 : decide ((a : Int) < a) = false := decide_eq_false (by omega)
              have haI : (a : Int) ≤ a := by omega
              have hacI : (a : Int) ≤ a := by omega
              have hicI : (a : Int) ≤ a := by omega
              have hlI : (ls.length : Int) ≤ 65537 := by omega
              clear hs0
              go_wp2_with fail
              refine CL.out.mono ?_
              rintro e w2 hr
              obtain ⟨v2, ev, rfl, hn2, hres⟩ := hr
              have HX2 := Lib.hid (HNX.out.trans hn2)
              have HO2 := Lib.hid (HO.out.nx hn2)
              have HS2 := Lib.hid hn2.size
              clear hn2
              rcases hres with ⟨ts, hR, htok, rfl⟩ | ⟨fa, fb, fc, hR, rfl, hF, hc16⟩
              · have hV := HV1.out
                rw [hR] at hV
                obtain ⟨A2, c2, rfl, _⟩ := htok.1.form
                have HV2 := Lib.hid hV
                have HT := Lib.hid htok
                clear hV hR htok HV1
                obtain ⟨us, hus, husl, hus2⟩ := (HO2.out.nx ((Nx.refl w2).alloc (.cells #[.slice A2 ts.length c2] 37))).parts
                have HU := Lib.hid hus
                have HU2 := Lib.hid hus2
                have HUL := Lib.hid husl
                have HTA := Lib.hid (HT.out.1.nx ((Nx.refl w2).alloc (.cells #[.slice A2 ts.length c2] 37)))
                have HTB := Lib.hid (fun g (hg : (Value.slice A2 ts.length c2).ownBlock = some g) => (show w.heap.size ≤ g ∧ g < w2.heap.size + 1 ∧ (Value.slice Av ls.length cv).ownBlock ≠ some g from by
                  obtain ⟨h1, h2⟩ := HT.out.2 g hg
                  have h3 := HNX.out.size
                  refine ⟨by omega, by omega, fun e => ?_⟩
                  have := (HO.out.lt g e).2
                  omega))
                clear hus hus2 husl HT
                obtain ⟨hi, hz0, hz1, hz2⟩ := HI.out
                go_wp2_with (at_builtin; refine wpList_append_c _ rfl _ _ 22 rfl w.heap.size 37 i0 (.slice none 0 0) 1 24 Tryd.underlying22 hi hz0 hz1 hz2 rfl (by decide) _ _ _ rfl HU.out (some ⟨w2.heap.size, 0, none⟩) 1 1 [.slice A2 ts.length c2] rfl rfl (Or.inr ⟨_, rfl, ?c1⟩) ?c2 ?c3 ?c4 ?c5 ?_)
                case c1 => exact six_at w2 [.slice A2 ts.length c2] 37
                case c2 => simp [Value.oneCell']
                case c3 => unfold maxLen; omega
                case c4 => omega
                case c5 => have := HX2.out.size; simp; omega
                intro v3 w3 hown3 hgr3 hbl3
                have HX3 := Lib.hid (show Nx w w3 from Below.grown (HX2.out.alloc _) hgr3 (by have := HX2.out.size; simp; omega) (fun k hk => (HU.out.lt k hk).1))
                have HO3 := Lib.hid (OwnL.push HUL.out HU2.out HTA.out (by intro g hg; have := HTB.out g hg; simpa using this) hgr3 (by simpa using hbl3) hown3)
                clear hown3 hgr3 hbl3
                go_wp2
                go_roundw
                case rel => exact ⟨a + 1, ls ++ [ts], by omega, by go_num, by simp; omega, HO3.out, HX3.out, by rw [← HV2.out]; show _ = LRes.pre ls (LRes.pre [ts] _); rw [pre_pre]; simp⟩
                case measure => simp [intOf]; omega
              · have hV := HV1.out
                rw [hR] at hV
                have HV2 := Lib.hid (show LRes.bad fa fb fc = V from hV)
                have HF := Lib.hid hF
                obtain ⟨fg, fo, rfl, _⟩ := hF
                have HC := Lib.hid hc16
                clear hV hR HV1 hc16
                go_wp2
                go_ret2
                exact ⟨_, _, rfl, HX2.out, Or.inr ⟨fa, fb, fc, HV2.out.symm, rfl, HF.out, HC.out⟩⟩
    · obtain rfl : a = l.length + 1 := by omega
      have hV := HVV.out
      rw [show restL l (l.length + 1) = [] by unfold restL; rw [if_neg (by omega)]] at hV
      have HV2 := Lib.hid (show LRes.ok (ls ++ []) = V from hV)
      have dl : decide (((l.length + 1 : Nat) : Int) ≤ l.length) = false := decide_eq_false (by omega)
      clear hV HVV
      go_wp2
      go_ret2
      exact ⟨_, _, rfl, HNX.out, Or.inl ⟨ls, by rw [← HV2.out, List.append_nil], HO.out.lins, rfl⟩⟩

end Go.Proofs.YtbkgdepblaibkaaDoor
