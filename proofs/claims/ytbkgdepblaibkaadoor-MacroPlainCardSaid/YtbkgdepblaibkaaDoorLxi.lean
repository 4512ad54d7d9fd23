/- Contracts of package lex: a place for an error, a line. -/
import Derived.Test.YtbkgdepblaibkaaDoorLxh
import Derived.Test.YtbkgdepblaibkaaDoorErrs
namespace Go.Proofs.YtbkgdepblaibkaaDoor
open Go.RowKit
set_option linter.unusedVariables false
set_option linter.unusedSimpArgs false

theorem lplaced_any (k : Nat) (n m : Int) (w : World) (hE : ErrT w) : Calls Tryd.prog 72 #[.iface 83 (.int .i64 k), .int .i64 n, .int .i64 m] w fun e w' => ∃ v, e = .returned v ∧ FaultIs w' v n m k ∧ Nx w w' := by
  have HE := Lib.hid (hE.nx ((Nx.refl w).alloc (.cells #[.pointer none] 77)))
  clear hE
  go_enter Tryd.func72, Tryd.ntmps72
  go_wp2_with fail
  refine (as_code ⟨w.heap.size, 0, none⟩ (.pointer none) k _ HE.out (by simp)).mono ?_
  rintro e w2 ⟨rfl, hn2⟩
  have HX2 := Lib.hid (((Nx.refl w).alloc _).trans hn2)
  clear hn2
  go_wp2
  go_ret
  exact ⟨_, rfl, FaultIs.new _ _ _ _ _, HX2.out.alloc _⟩

theorem tokR_le4 (s : List UInt8) : (tokR s).2.2 ≤ 4 := by
  unfold tokR
  split
  · exact (by decide : 0 ≤ 4)
  · split
    · exact (by decide : 3 ≤ 4)
    · split
      · split
        · exact (by decide : 0 ≤ 4)
        · exact (by decide : 3 ≤ 4)
      · split
        · exact (by decide : 4 ≤ 4)
        · split
          · exact (by decide : 0 ≤ 4)
          · split
            · exact (by decide : 0 ≤ 4)
            · split
              · exact (by decide : 0 ≤ 4)
              · split
                · exact (by decide : 0 ≤ 4)
                · exact (by decide : 2 ≤ 4)

theorem ltoken_of (g o c i : Nat) (l : List UInt8) (w : World) (hb : BysAt w g o l) (hi : i < l.length) (hl : l.length ≤ 1000000) (hlc : l.length ≤ c) (hcm : c ≤ maxLen) : Calls Tryd.prog 71 #[.slice (some ⟨g, o + i, none⟩) (l.length - i) (c - i)] w (RetTokE (tokR (l.drop i)) w) := by
  have h := ltok_any g (o + i) (c - i) (l.drop i) w (hb.cut i) (by rw [List.length_drop]; omega) (by rw [List.length_drop]; omega) (by rw [List.length_drop]; omega) (by unfold maxLen at hcm ⊢; omega)
  rwa [List.length_drop] at h

/-- What comes of a line. -/
def RetLineE (r : LRes (List Tok)) (w : World) (e : Ending) (w' : World) : Prop :=
  ∃ v ev, e = .returned (.tuple #[v, ev]) ∧ Nx w w' ∧ ((∃ ts, r = .ok ts ∧ (Toks w' v ts ∧ ∀ g, v.ownBlock = some g → w.heap.size ≤ g ∧ g < w'.heap.size) ∧ ev = .nilIface) ∨ (∃ a b c, r = .bad a b c ∧ v = .slice none 0 0 ∧ FaultIs w' ev a b c ∧ 1 ≤ c ∧ c ≤ 16))

theorem lline_nil (A : Option Addr) (c : Nat) (n : Int) (w : World) : Calls Tryd.prog 56 #[.slice A 0 c, .int .i64 n] w (RetLineE (lineT n 0 []) w) := by
  go_enter Tryd.func56, Tryd.ntmps56
  go_wp2
  go_loop [6, 7] (fun ov iv => ov = .slice none 0 0 ∧ iv = .int .i64 0) (fun _ _ => 0)
  case atStart => exact ⟨rfl, rfl⟩
  case round =>
    obtain ⟨rfl, rfl⟩ := hrel
    go_wp2
    go_ret2
    exact ⟨_, _, rfl, Nx.refl w, Or.inl ⟨[], rfl, ⟨Toks.nil w, fun g hg => by cases hg⟩, rfl⟩⟩

/-- What holds at a round's head. -/
def LineRelE (n : Int) (l : List UInt8) (w wr : World) (V : LRes (List Tok)) (ov iv : Value) : Prop :=
  ∃ (i : Nat) (ts : List Tok), i ≤ l.length ∧ iv = .int .i64 i ∧ ts.length ≤ i ∧ OwnC wr w.heap.size 58 6 ov ts.length (toksC ts) ∧ Nx w wr ∧ LRes.pre ts (lineT n i (l.drop i)) = V

set_option maxHeartbeats 2000000 in
set_option maxRecDepth 100000 in
theorem lline_at (g o c : Nat) (l : List UInt8) (n : Int) (w : World) (hE : ErrT w) (hb : BysAt w g o l) (hl : l.length ≤ 1000000) (hlc : l.length ≤ c) (hcm : c ≤ maxLen) : Calls Tryd.prog 56 #[.slice (some ⟨g, o, none⟩) l.length c, .int .i64 n] w (RetLineE (lineT n 0 l) w) := by
  obtain ⟨i0, hi, hz0, hz1, hz2⟩ := info_parts tok_info
  have HI := Lib.hid (And.intro hi (And.intro hz0 (And.intro hz1 hz2)))
  clear hi hz0 hz1 hz2
  have HV := Lib.hid (show LRes.pre [] (lineT n 0 (l.drop 0)) = lineT n 0 l by rw [pre_nil, List.drop_zero])
  generalize lineT n 0 l = V at *
  have HB := Lib.hid hb
  have HE := Lib.hid hE
  clear hb hE
  go_enter Tryd.func56, Tryd.ntmps56
  go_wp2
  go_loopw [6, 7] (fun ov iv wr => LineRelE n l w wr V ov iv) (fun _ iv _ => l.length - (intOf iv).toNat)
  case atStart => exact ⟨0, [], Nat.zero_le _, rfl, Nat.le_refl _, OwnC.nil _ _ _ _, Nx.refl w, HV.out⟩
  case round =>
    obtain ⟨i, ts, hi1, rfl, hts, hown, hnx, hV⟩ := hrel
    have HNX := Lib.hid hnx
    have HO := Lib.hid hown
    clear hnx hown
    by_cases hlt : i < l.length
    · obtain ⟨x, hx⟩ : ∃ x, l[i]? = some x := ⟨_, List.getElem?_eq_getElem hlt⟩
      have cx := HNX.out.cell (HB.out i x hx)
      have hg0 := line_take l i x hx
      rw [lineT_cons n i (l.drop i) (by rw [List.length_drop]; omega), hg0, List.drop_drop] at hV
      have hiI : (i : Int) ≤ l.length := by omega
      have hic : i < c := by omega
      have hicI : (i : Int) < c := by omega
      by_cases h35 : x = 35
      · have hnb : ¬ blankN.contains x = true := by rw [h35]; decide
        rw [if_neg hnb, if_pos h35] at hV
        have b35 : ((x.toNat : Int) != 35) = false := by have := u8n x 35 (by omega) true (by rw [h35]; rfl); simpa using this
        have HV2 := Lib.hid (show LRes.ok (ts ++ []) = V from hV)
        clear hV h35 hnb hg0 hx HV
        go_wp2
        go_ret2
        exact ⟨_, _, rfl, HNX.out, Or.inl ⟨ts, by rw [← HV2.out, List.append_nil], own_fresh (Nat.le_refl _) HO.out, rfl⟩⟩
      · have b35 : ((x.toNat : Int) != 35) = true := by have := u8n x 35 (by omega) false (beq_eq_false_iff_ne.2 h35); simpa using this
        have blank : (blankN.contains x = true ∧ ((((x.toNat : Int) == 32) = true) ∨ ((((x.toNat : Int) == 32) = false) ∧ (((x.toNat : Int) == 9) = true)) ∨ ((((x.toNat : Int) == 32) = false) ∧ (((x.toNat : Int) == 9) = false) ∧ (((x.toNat : Int) == 13) = true)))) ∨ (¬ blankN.contains x = true ∧ (((x.toNat : Int) == 32) = false) ∧ (((x.toNat : Int) == 9) = false) ∧ (((x.toNat : Int) == 13) = false)) := by
          by_cases k1 : x = 32
          · exact Or.inl ⟨by rw [k1]; decide, Or.inl (u8n x 32 (by omega) true (by rw [k1]; rfl))⟩
          · have b1 := u8n x 32 (by omega) false (beq_eq_false_iff_ne.2 k1)
            by_cases k2 : x = 9
            · exact Or.inl ⟨by rw [k2]; decide, Or.inr (Or.inl ⟨b1, u8n x 9 (by omega) true (by rw [k2]; rfl)⟩)⟩
            · have b2 := u8n x 9 (by omega) false (beq_eq_false_iff_ne.2 k2)
              by_cases k3 : x = 13
              · exact Or.inl ⟨by rw [k3]; decide, Or.inr (Or.inr ⟨b1, b2, u8n x 13 (by omega) true (by rw [k3]; rfl)⟩)⟩
              · refine Or.inr ⟨?_, b1, b2, u8n x 13 (by omega) false (beq_eq_false_iff_ne.2 k3)⟩
                simp [blankN, k1, k2, k3]
        rcases blank with ⟨hbl, tests⟩ | ⟨hbl, b1, b2, b3⟩
        · rw [if_pos hbl] at hV
          have HV2 := Lib.hid hV
          clear hV hbl hg0 hx HV h35
          rcases tests with b1 | ⟨b1, b2⟩ | ⟨b1, b2, b3⟩
          all_goals
            go_wp2
            go_roundw
            case rel => exact ⟨i + 1, ts, by omega, by go_num, by omega, HO.out, HNX.out, HV2.out⟩
            case measure => simp [intOf]; omega
        · rw [if_neg hbl, if_neg h35] at hV
          have CT := ltoken_of g o c i l wr (HB.out.nx HNX.out) hlt hl hlc hcm
          have hle := tokR_le (l.drop i) (by rw [List.length_drop]; omega)
          have hle4 := tokR_le4 (l.drop i)
          rw [List.length_drop] at hle
          unfold RetTokE tokE errV at CT
          by_cases hm : (tokR (l.drop i)).2.1 = 0
          · have HC0 := Lib.hid (tokR_code (l.drop i) (by rw [List.length_drop]; omega) hm)
            rw [if_pos hm] at hV CT
            rw [if_pos hm, hm] at CT
            generalize (tokR (l.drop i)).2.2 = code at *
            have CT := Lib.hid CT
            have HV2 := Lib.hid (show LRes.bad n ((i + 1 : Nat) : Int) code = V from hV)
            clear hg0 hx HV hV hm hbl h35
            go_wp2_with fail
            refine CT.out.mono ?_
            rintro e w2 ⟨rfl, hn2⟩
            have HX2 := Lib.hid (HNX.out.trans hn2)
            clear hn2
            go_wp2_with fail
            refine (lplaced_any code n (i + 1) _ ((HE.out.nx HX2.out).nx ((Nx.refl _).alloc _))).mono ?_
            rintro e w3 ⟨v3, rfl, hF, hn3⟩
            have HX3 := Lib.hid ((HX2.out.alloc _).trans hn3)
            have HF := Lib.hid hF
            clear hn3 hF
            go_wp2
            go_ret2
            exact ⟨_, _, rfl, HX3.out, Or.inr ⟨n, ((i + 1 : Nat) : Int), code, HV2.out.symm, rfl, HF.out, by have := HC0.out; omega, by omega⟩⟩
          · rw [if_neg hm] at hV CT
            rw [if_neg hm] at CT
            rcases hR : tokR (l.drop i) with ⟨⟨kd, ln, cl, tx, nm, sc⟩, m, code⟩
            rw [hR] at CT hle hV hm
            have CT := Lib.hid (show Calls Tryd.prog 71 #[.slice (some ⟨g, o + i, none⟩) (l.length - i) (c - i)] wr (fun e w' => e = .returned (.tuple #[.agg #[.int .i64 kd, .int .i64 ln, .int .i64 cl, .string (B tx), .int .u32 nm, .int .i64 sc], .int .i64 m, .nilIface]) ∧ Nx wr w') from CT)
            simp only at hle hV hm
            rw [List.drop_drop] at hV
            have HV2 := Lib.hid hV
            have hm1 : 0 < m := by omega
            clear hR hg0 hx HV hV hm hbl h35 hle4
            go_wp2_with fail
            refine CT.out.mono ?_
            rintro e w2 ⟨rfl, hn2⟩
            have HX2 := Lib.hid (HNX.out.trans hn2)
            have HO2 := Lib.hid (HO.out.nx hn2)
            have hA := Lib.hid ((HO2.out.alloc (.cells #[.int .i64 kd, .int .i64 n, .int .i64 (i + 1), .string (B tx), .int .u32 nm, .int .i64 sc] 58)).alloc (.cells #[.int .i64 kd, .int .i64 n, .int .i64 (i + 1), .string (B tx), .int .u32 nm, .int .i64 sc] 58))
            obtain ⟨hi, hz0, hz1, hz2⟩ := HI.out
            clear hn2
            go_wp2_with (at_builtin; refine wpList_append_c _ rfl _ _ 37 rfl w.heap.size 58 i0 (.agg #[.int .i64 0, .int .i64 0, .int .i64 0, .string (B []), .int .u32 0, .int .i64 0]) 6 56 Tryd.underlying37 hi hz0 hz1 hz2 rfl (by decide) _ _ _ rfl hA.out (some ⟨w2.heap.size + 1, 0, none⟩) 1 1 [.int .i64 kd, .int .i64 n, .int .i64 (i + 1), .string (B tx), .int .u32 nm, .int .i64 sc] rfl rfl (Or.inr ⟨_, rfl, ?c1⟩) ?c2 ?c3 ?c4 ?c5 ?_)
            case c1 =>
              have h6 := six_at (w2.alloc (.cells #[.int .i64 kd, .int .i64 n, .int .i64 (i + 1), .string (B tx), .int .u32 nm, .int .i64 sc] 58)) [.int .i64 kd, .int .i64 n, .int .i64 (i + 1), .string (B tx), .int .u32 nm, .int .i64 sc] 58
              rw [show (w2.alloc (.cells #[.int .i64 kd, .int .i64 n, .int .i64 (i + 1), .string (B tx), .int .u32 nm, .int .i64 sc] 58)).heap.size = w2.heap.size + 1 by simp] at h6
              exact h6
            case c2 => simp [Value.oneCell']
            case c3 => unfold maxLen; omega
            case c4 => omega
            case c5 => have := HX2.out.size; simp; omega
            intro v3 w3 hown3 hgr3 hbl3
            have HX3 := Lib.hid (show Nx w w3 from Below.grown ((HX2.out.alloc _).alloc _) hgr3 (by have := HX2.out.size; simp; omega) (fun k hk => (hA.out.lt k hk).1))
            have HO3 := Lib.hid hown3
            clear hown3 hgr3 hbl3
            go_wp2
            go_roundw
            case rel => exact ⟨i + m, ts ++ [placeT ⟨kd, ln, cl, tx, nm, sc⟩ n ((i + 1 : Nat) : Int)], by omega, by go_num, by simp; omega, by rw [toksC_snoc]; simp only [List.length_append, List.length_singleton]; exact HO3.out, HX3.out, by rw [← HV2.out, pre_pre]⟩
            case measure => simp [intOf]; omega
    · obtain rfl : i = l.length := by omega
      rw [List.drop_length, lineT_nil] at hV
      have HV2 := Lib.hid (show LRes.ok (ts ++ []) = V from hV)
      clear hV HV
      go_wp2
      go_ret2
      exact ⟨_, _, rfl, HNX.out, Or.inl ⟨ts, by rw [← HV2.out, List.append_nil], own_fresh (Nat.le_refl _) HO.out, rfl⟩⟩

end Go.Proofs.YtbkgdepblaibkaaDoor
