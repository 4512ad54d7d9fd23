/- Package typecaselaw10: the walk of LexNames. -/
import Derived.Test.YtbkgdepblaibkaaDoorLawlb
import Derived.Test.YtbkgdepblaibkaaDoorLxn
import Derived.IntWalk
namespace Go.Proofs.YtbkgdepblaibkaaDoor
open Go.RowKit
set_option linter.unusedVariables false
set_option linter.unusedSimpArgs false

theorem ext_mid (l : List UInt8) (a b : Nat) : (B l).extract a b = B ((l.drop a).take (b - a)) := by
  apply ByteArray.ext
  rw [ByteArray.data_extract]
  apply Array.ext'
  simp [B]

/-- What holds at a round's head. -/
def NamRel (l : List UInt8) (ls : List (List Tok)) (w wr : World) (kv av iv : Value) : Prop :=
  ∃ (i a k : Nat), a ≤ i ∧ i ≤ l.length + 1 ∧ (i = l.length + 1 → a = i) ∧ kv = .int .i64 k ∧ av = .int .i64 a ∧ iv = .int .i64 i ∧ (∀ c ∈ (l.take i).drop a, c ≠ 10) ∧ k ≤ ls.length ∧ k ≤ a ∧ Nx w wr ∧ linesR (k + 1) (restL l a) = .ok (ls.drop k)

set_option maxHeartbeats 4000000 in
set_option maxRecDepth 100000 in
theorem LexNames_walk (w0 : World) (hE : ErrT w0) (v : Value) (l : List UInt8) (hB : Bys w0 v l) (hs : l.length ≤ 140737488351232) :
    Calls Tryd.prog 12 #[v] w0 fun e w' => e = .returned (.bool true) ∧ Nx w0 w' := by
  have HE := Lib.hid hE
  have HB := Lib.hid hB
  obtain ⟨A, c, rfl, hc1, hc2, hA⟩ := hB.form
  have HA := Lib.hid hA
  clear hE hB hA
  unfold maxLen at hc2
  by_cases hl : 2000 < l.length
  · have d1 : decide ((2000 : Int) < l.length) = true := decide_eq_true (by omega)
    go_enter Tryd.func12, Tryd.ntmps12
    go_wp2_with fail
    refine (awakel_any _ HE.out).mono ?_
    rintro e w1 ⟨rfl, hn1⟩
    have H1 := Lib.hid hn1
    clear hn1
    go_wp2
    go_ret
    exact ⟨rfl, H1.out⟩
  · have d1 : decide ((2000 : Int) < l.length) = false := decide_eq_false (by omega)
    go_enter Tryd.func12, Tryd.ntmps12
    go_wp2_with fail
    refine (awakel_any _ HE.out).mono ?_
    rintro e w1 ⟨rfl, hn1⟩
    have H1 := Lib.hid hn1
    clear hn1
    go_wp2_with fail
    refine (llines_any _ l _ (HE.out.nx H1.out) (HB.out.nx H1.out) (by omega)).mono ?_
    rintro e w2 ⟨u, ev, rfl, hn2, ⟨ls, hV, hL, rfl⟩ | ⟨fa, fb, fc, hV, rfl, hF, _⟩⟩
    · have H2 := Lib.hid (H1.out.trans hn2)
      have HL := Lib.hid hL
      obtain ⟨A2, c2, rfl, h2a, h2b, _⟩ := HL.out.form
      have HV := Lib.hid (show linesR (0 + 1) (restL l 0) = .ok (ls.drop 0) by
        have h1 : restL l 0 = splitL l := by unfold restL; rw [if_pos (Nat.zero_le _), List.drop_zero]
        have h2 : srcR l = linesR 1 (splitL l) := by unfold srcR; rw [if_neg (by omega)]
        rw [h1, List.drop_zero, ← hV, h2])
      clear hn2 hL hV
      go_wp2
      go_loopw [5, 6, 7] (fun kv av iv wr => NamRel l ls w2 wr kv av iv) (fun _ _ iv _ => l.length + 1 - (intOf iv).toNat)
      case atStart => exact ⟨0, 0, 0, Nat.le_refl _, Nat.zero_le _, (fun h => by omega), rfl, rfl, rfl, (fun c h => by simp at h), Nat.zero_le _, Nat.zero_le _, Nx.refl _, HV.out⟩
      case round =>
        obtain ⟨i, a, k, hai, hi1, hend, rfl, rfl, rfl, hno, hk, hka, hnx, hV⟩ := hrel
        have HNX := Lib.hid hnx
        have HNO := Lib.hid hno
        clear hnx hno
        by_cases hi2 : i ≤ l.length
        · have hiI : decide ((i : Int) ≤ l.length) = true := decide_eq_true (by omega)
          have step : (i < l.length ∧ ∃ x, l[i]? = some x ∧ x ≠ 10) ∨ (restL l a = (l.take i).drop a :: restL l (i + 1) ∧ ((i < l.length ∧ l[i]? = some 10) ∨ i = l.length)) := by
            by_cases hlt : i < l.length
            · obtain ⟨x, hx⟩ : ∃ x, l[i]? = some x := ⟨_, List.getElem?_eq_getElem hlt⟩
              by_cases h10 : x = 10
              · subst h10
                exact Or.inr ⟨restL_feed l a i hai hx HNO.out, Or.inl ⟨hlt, hx⟩⟩
              · exact Or.inl ⟨hlt, x, hx, h10⟩
            · obtain rfl : i = l.length := by omega
              refine Or.inr ⟨?_, Or.inr rfl⟩
              have h := HNO.out
              rw [List.take_length] at h ⊢
              exact restL_end l a hai h
          rcases step with ⟨hlt, x, hx, h10⟩ | ⟨hrest, hcase⟩
          · obtain ⟨g, o, rfl, hcells⟩ : ∃ g o, A = some ⟨g, o, none⟩ ∧ ∀ (k : Nat) (b : UInt8), l[k]? = some b → w0.cell? ⟨g, o + k, none⟩ = some (.int .u8 b.toNat) := by
              rcases HA.out with ⟨_, h⟩ | h
              · omega
              · exact h
            have cx := (H2.out.trans HNX.out).cell (hcells i x hx)
            have cx : wr.cell? ⟨g, o + i, none⟩ = some (.int .u8 x.toNat) := cx
            have b10 : ((x.toNat : Int) != 10) = true := by
              have := u8n x 10 (by omega) false (beq_eq_false_iff_ne.2 h10)
              simpa using this
            have hltI : decide ((i : Int) < l.length) = true := decide_eq_true (by omega)
            have HN2 := Lib.hid (nofeed_snoc l a i hai x hx h10 HNO.out)
            have HV2 := Lib.hid hV
            clear hV hcells hx h10 HV
            go_wp2
            go_roundw
            case rel => exact ⟨i + 1, a, k, by omega, by omega, (fun h => by omega), rfl, rfl, by go_num, HN2.out, hk, hka, HNX.out, HV2.out⟩
            case measure => simp [intOf]; omega
          · rw [hrest, linesR_cons] at hV
            obtain ⟨ts, hts, hkt, hV2⟩ : ∃ ts, lineT ((k + 1 : Nat) : Int) 0 ((l.take i).drop a) = .ok ts ∧ ls[k]? = some ts ∧ linesR (k + 1 + 1) (restL l (i + 1)) = .ok (ls.drop (k + 1)) := by
              cases h1 : lineT ((k + 1 : Nat) : Int) 0 ((l.take i).drop a) with
              | bad x y z => rw [h1] at hV; cases hV
              | ok ts =>
                rw [h1] at hV
                cases h2 : linesR (k + 1 + 1) (restL l (i + 1)) with
                | bad x y z => rw [h2] at hV; cases hV
                | ok lr =>
                  rw [h2] at hV
                  have h3 : [ts] ++ lr = ls.drop k := LRes.ok.inj (show LRes.ok ([ts] ++ lr) = LRes.ok (ls.drop k) from hV)
                  have h4 : ls[k]? = some ts := by
                    have : (ls.drop k)[0]? = some ts := by rw [← h3]; rfl
                    rwa [List.getElem?_drop, Nat.add_zero] at this
                  refine ⟨ts, rfl, h4, ?_⟩
                  have : ls.drop (k + 1) = lr := by
                    have h5 := congrArg (List.drop 1) h3
                    rw [List.drop_drop] at h5
                    exact h5.symm
                  rw [this]
            have HOK := Lib.hid (lineT_okL _ _ _ hts)
            have HV2 := Lib.hid hV2
            have HKT := Lib.hid hkt
            have hlt2 : k < ls.length := (List.getElem?_eq_some_iff.1 hkt).1
            clear hV2 hkt hts
            rcases hcase with ⟨hlt, hx⟩ | hlen
            · obtain ⟨g, o, rfl, hcells⟩ : ∃ g o, A = some ⟨g, o, none⟩ ∧ ∀ (k : Nat) (b : UInt8), l[k]? = some b → w0.cell? ⟨g, o + k, none⟩ = some (.int .u8 b.toNat) := by
                rcases HA.out with ⟨_, h⟩ | h
                · omega
                · exact h
              have b10 : (((10 : UInt8).toNat : Int) != 10) = false := rfl
              have cx := (H2.out.trans HNX.out).cell (hcells i 10 hx)
              have cx : wr.cell? ⟨g, o + i, none⟩ = some (.int .u8 10) := cx
              have hltI : decide ((i : Int) < l.length) = true := decide_eq_true (by omega)
              have hconv := conv_cut wr g o c a i l (fun k b hk => (H2.out.trans HNX.out).cell (hcells k b hk)) hai hi2
              have hsl : ((l.take i).drop a).length ≤ 2000 := by rw [List.length_drop, List.length_take]; omega
              have haI : (a : Int) ≤ i := by omega
              have hacI : (a : Int) ≤ c := by omega
              have hicI : (i : Int) ≤ c := by omega
              generalize (l.take i).drop a = seg at *
              clear hx
              have HLT := Lib.hid hlt2
              have HSEG := Lib.hid hsl
              have hkI : decide (ls.length ≤ k) = false := decide_eq_false (by omega)
              obtain ⟨gl, ol, cl2, u, he, _, hcell, hT⟩ := line_at HL.out k ts HKT.out
              cases he
              obtain ⟨A3, c3, rfl, h3a, h3b, hA3⟩ := hT.form
              have HCL := Lib.hid hcell
              have HT3 := Lib.hid hA3
              clear hrest hcells HNO hV hlt2 hsl hcell hT hA3
              go_wp2
              go_loopw [9, 10] (fun lv qv wq => ∃ (q last : Nat), q ≤ ts.length ∧ qv = .int .i64 q ∧ lv = .int .i64 last ∧ okL ((k + 1 : Nat) : Int) seg last (ts.drop q) ∧ Nx wr wq) (fun _ qv _ => ts.length - (intOf qv).toNat)
              case atStart => exact ⟨0, 0, Nat.zero_le _, rfl, rfl, HOK.out, Nx.refl _⟩
              case round =>
                obtain ⟨q, last, hq, rfl, rfl, hok, hnq⟩ := hrel
                have HQ := Lib.hid (HNX.out.trans hnq)
                have HQR := Lib.hid hnq
                have cl := HQ.out.cell HCL.out
                clear hnq
                by_cases hq2 : q < ts.length
                · have hqI : decide ((q : Int) < ts.length) = true := decide_eq_true (by omega)
                  have hq3 : q < 9223372036854775807 := by have := h3b; unfold maxLen at this; omega
                  obtain ⟨t, ht⟩ : ∃ t, ts[q]? = some t := ⟨_, List.getElem?_eq_getElem hq2⟩
                  obtain ⟨cc, k1, k2, k3, k4, k5, k6⟩ := okL_drop _ _ _ _ _ _ ht hok
                  obtain ⟨g3, o3, rfl, hT3⟩ : ∃ g o, A3 = some ⟨g, o, none⟩ ∧ TokAt w2 g o ts := by
                    rcases HT3.out with ⟨_, h, _⟩ | h
                    · rw [h] at hq2; exact absurd hq2 (by simp)
                    · exact h
                  obtain ⟨b0, b1, b2, b3, b4, b5⟩ := TokAt.at_ (hT3.nx HQ.out) q t ht
                  obtain ⟨c0, rfl⟩ : ∃ c0, cc = c0 + 1 := ⟨cc - 1, by omega⟩
                  rw [k1] at b1
                  rw [k2] at b2
                  rw [Nat.add_sub_cancel] at k5
                  have b1 : wr.cell? ⟨g3, o3 + q * 6 + 1, none⟩ = some (.int .i64 ((k : Int) + 1)) := b1
                  have b2 : wr.cell? ⟨g3, o3 + q * 6 + 2, none⟩ = some (.int .i64 ((c0 : Int) + 1)) := b2
                  have HK := Lib.hid (And.intro k6 k3)
                  have x1 : decide ((c0 : Int) + 1 ≤ last) = false := decide_eq_false (by omega)
                  have x2 : decide ((seg.length : Int) < (c0 : Int) + 1) = false := decide_eq_false (by omega)
                  by_cases hk1 : t.kind = 1
                  · obtain ⟨k7, k8⟩ := k5 hk1
                    have z1 : (t.kind == 1) = true := by rw [hk1]; rfl
                    obtain ⟨m, hm⟩ : ∃ m, c0 + t.text.length = m := ⟨_, rfl⟩
                    have hmI : (c0 : Int) + t.text.length = m := by omega
                    have x4 : (m : Int) ≤ seg.length := by omega
                    have x5 : (c0 : Int) ≤ m := by omega
                    have hmx : m ≤ 100000 := by have := HSEG.out; omega
                    have r7 : (B seg).extract c0 m = B t.text := by
                      rw [← hm]
                      exact (ext_mid seg c0 (c0 + t.text.length)).trans (by rw [Nat.add_sub_cancel_left, k8])
                    have x3 : decide (seg.length < m) = false := decide_eq_false (by omega)
                    have q1 : IntKind.i64.wrap (c0 : Int) = c0 := IntWalk.i64_in _ (by omega)
                    have q2 : IntKind.i64.wrap ((c0 : Int) + t.text.length) = m := by rw [hmI]; exact IntWalk.i64_in _ (by omega)
                    have q3 : (c0 : Int) + 1 - 1 = c0 := by omega
                    clear hT3 ht k1 k2 k5 k6 hok k7 k8 hk1 hm hmI hmx
                    go_wp2
                    go_quiet (fail)
                    go_wp2
                    go_roundw
                    case rel => exact ⟨q + 1, c0 + 1, by omega, by go_num, by go_num, HK.out.1, (HQR.out.alloc _).drewN _⟩
                    case measure => simp [intOf]; omega
                  · have z1 : (t.kind == 1) = false := beq_eq_false_iff_ne.2 hk1
                    clear hT3 ht k1 k2 k5 k6 hok hk1
                    go_wp2
                    go_quiet (fail)
                    go_wp2
                    go_roundw
                    case rel => exact ⟨q + 1, c0 + 1, by omega, by go_num, by go_num, HK.out.1, (HQR.out.alloc _).drewN _⟩
                    case measure => simp [intOf]; omega
                · have hqI : decide ((q : Int) < ts.length) = false := decide_eq_false (by omega)
                  go_wp2
                  go_roundw
                  case rel => exact ⟨i + 1, i + 1, k + 1, Nat.le_refl _, by omega, (fun _ => rfl), by go_num, by go_num, by go_num, (fun c h => by rw [List.drop_eq_nil_of_le (by rw [List.length_take]; omega)] at h; cases h), by have := HLT.out; omega, by omega, HQ.out, HV2.out⟩
                  case measure => simp [intOf]; omega
            · have hltI : decide ((i : Int) < l.length) = false := decide_eq_false (by omega)
              have hge : l.length ≤ i := by omega
              clear hlen
              by_cases hac : a < c
              · obtain ⟨g, o, rfl, hcells⟩ : ∃ g o, A = some ⟨g, o, none⟩ ∧ ∀ (k : Nat) (b : UInt8), l[k]? = some b → w0.cell? ⟨g, o + k, none⟩ = some (.int .u8 b.toNat) := by
                  rcases HA.out with ⟨_, h⟩ | h
                  · omega
                  · exact h
                have hconv := conv_cut wr g o c a i l (fun k b hk => (H2.out.trans HNX.out).cell (hcells k b hk)) hai hi2
                have hsl : ((l.take i).drop a).length ≤ 2000 := by rw [List.length_drop, List.length_take]; omega
                have haI : (a : Int) ≤ i := by omega
                have hacI : (a : Int) ≤ c := by omega
                have hicI : (i : Int) ≤ c := by omega
                generalize (l.take i).drop a = seg at *
                have HLT := Lib.hid hlt2
                have HSEG := Lib.hid hsl
                have hkI : decide (ls.length ≤ k) = false := decide_eq_false (by omega)
                obtain ⟨gl, ol, cl2, u, he, _, hcell, hT⟩ := line_at HL.out k ts HKT.out
                cases he
                obtain ⟨A3, c3, rfl, h3a, h3b, hA3⟩ := hT.form
                have HCL := Lib.hid hcell
                have HT3 := Lib.hid hA3
                clear hrest hcells HNO hV hlt2 hsl hcell hT hA3
                go_wp2
                go_loopw [9, 10] (fun lv qv wq => ∃ (q last : Nat), q ≤ ts.length ∧ qv = .int .i64 q ∧ lv = .int .i64 last ∧ okL ((k + 1 : Nat) : Int) seg last (ts.drop q) ∧ Nx wr wq) (fun _ qv _ => ts.length - (intOf qv).toNat)
                case atStart => exact ⟨0, 0, Nat.zero_le _, rfl, rfl, HOK.out, Nx.refl _⟩
                case round =>
                  obtain ⟨q, last, hq, rfl, rfl, hok, hnq⟩ := hrel
                  have HQ := Lib.hid (HNX.out.trans hnq)
                  have HQR := Lib.hid hnq
                  have cl := HQ.out.cell HCL.out
                  clear hnq
                  by_cases hq2 : q < ts.length
                  · have hqI : decide ((q : Int) < ts.length) = true := decide_eq_true (by omega)
                    have hq3 : q < 9223372036854775807 := by have := h3b; unfold maxLen at this; omega
                    obtain ⟨t, ht⟩ : ∃ t, ts[q]? = some t := ⟨_, List.getElem?_eq_getElem hq2⟩
                    obtain ⟨cc, k1, k2, k3, k4, k5, k6⟩ := okL_drop _ _ _ _ _ _ ht hok
                    obtain ⟨g3, o3, rfl, hT3⟩ : ∃ g o, A3 = some ⟨g, o, none⟩ ∧ TokAt w2 g o ts := by
                      rcases HT3.out with ⟨_, h, _⟩ | h
                      · rw [h] at hq2; exact absurd hq2 (by simp)
                      · exact h
                    obtain ⟨b0, b1, b2, b3, b4, b5⟩ := TokAt.at_ (hT3.nx HQ.out) q t ht
                    obtain ⟨c0, rfl⟩ : ∃ c0, cc = c0 + 1 := ⟨cc - 1, by omega⟩
                    rw [k1] at b1
                    rw [k2] at b2
                    rw [Nat.add_sub_cancel] at k5
                    have b1 : wr.cell? ⟨g3, o3 + q * 6 + 1, none⟩ = some (.int .i64 ((k : Int) + 1)) := b1
                    have b2 : wr.cell? ⟨g3, o3 + q * 6 + 2, none⟩ = some (.int .i64 ((c0 : Int) + 1)) := b2
                    have HK := Lib.hid (And.intro k6 k3)
                    have x1 : decide ((c0 : Int) + 1 ≤ last) = false := decide_eq_false (by omega)
                    have x2 : decide ((seg.length : Int) < (c0 : Int) + 1) = false := decide_eq_false (by omega)
                    by_cases hk1 : t.kind = 1
                    · obtain ⟨k7, k8⟩ := k5 hk1
                      have z1 : (t.kind == 1) = true := by rw [hk1]; rfl
                      obtain ⟨m, hm⟩ : ∃ m, c0 + t.text.length = m := ⟨_, rfl⟩
                      have hmI : (c0 : Int) + t.text.length = m := by omega
                      have x4 : (m : Int) ≤ seg.length := by omega
                      have x5 : (c0 : Int) ≤ m := by omega
                      have hmx : m ≤ 100000 := by have := HSEG.out; omega
                      have r7 : (B seg).extract c0 m = B t.text := by
                        rw [← hm]
                        exact (ext_mid seg c0 (c0 + t.text.length)).trans (by rw [Nat.add_sub_cancel_left, k8])
                      have x3 : decide (seg.length < m) = false := decide_eq_false (by omega)
                      have q1 : IntKind.i64.wrap (c0 : Int) = c0 := IntWalk.i64_in _ (by omega)
                      have q2 : IntKind.i64.wrap ((c0 : Int) + t.text.length) = m := by rw [hmI]; exact IntWalk.i64_in _ (by omega)
                      have q3 : (c0 : Int) + 1 - 1 = c0 := by omega
                      clear hT3 ht k1 k2 k5 k6 hok k7 k8 hk1 hm hmI hmx
                      go_wp2
                      go_quiet (fail)
                      go_wp2
                      go_roundw
                      case rel => exact ⟨q + 1, c0 + 1, by omega, by go_num, by go_num, HK.out.1, (HQR.out.alloc _).drewN _⟩
                      case measure => simp [intOf]; omega
                    · have z1 : (t.kind == 1) = false := beq_eq_false_iff_ne.2 hk1
                      clear hT3 ht k1 k2 k5 k6 hok hk1
                      go_wp2
                      go_quiet (fail)
                      go_wp2
                      go_roundw
                      case rel => exact ⟨q + 1, c0 + 1, by omega, by go_num, by go_num, HK.out.1, (HQR.out.alloc _).drewN _⟩
                      case measure => simp [intOf]; omega
                  · have hqI : decide ((q : Int) < ts.length) = false := decide_eq_false (by omega)
                    go_wp2
                    go_roundw
                    case rel => exact ⟨i + 1, i + 1, k + 1, Nat.le_refl _, by omega, (fun _ => rfl), by go_num, by go_num, by go_num, (fun c h => by rw [List.drop_eq_nil_of_le (by rw [List.length_take]; omega)] at h; cases h), by have := HLT.out; omega, by omega, HQ.out, HV2.out⟩
                    case measure => simp [intOf]; omega
              · have hconv := conv_none wr A
                have hs0 : (l.take i).drop a = [] := List.drop_eq_nil_of_le (by rw [List.length_take]; omega)
                rw [hs0] at HOK
                clear hs0
                have hsl : ([] : List UInt8).length ≤ 2000 := by simp
                generalize ([] : List UInt8) = seg at *
                have haI : (a : Int) ≤ i := by omega
                have hacI : (a : Int) ≤ c := by omega
                have hicI : (i : Int) ≤ c := by omega
                clear hrest HNO
                obtain rfl : a = i := by omega
                obtain rfl : a = c := by omega
                have d1 : decide ((a : Int) < a) = false := decide_eq_false (by omega)
                have HLT := Lib.hid hlt2
                have HSEG := Lib.hid hsl
                have hkI : decide (ls.length ≤ k) = false := decide_eq_false (by omega)
                obtain ⟨gl, ol, cl2, u, he, _, hcell, hT⟩ := line_at HL.out k ts HKT.out
                cases he
                obtain ⟨A3, c3, rfl, h3a, h3b, hA3⟩ := hT.form
                have HCL := Lib.hid hcell
                have HT3 := Lib.hid hA3
                clear hV hlt2 hsl hcell hT hA3
                go_wp2
                go_loopw [9, 10] (fun lv qv wq => ∃ (q last : Nat), q ≤ ts.length ∧ qv = .int .i64 q ∧ lv = .int .i64 last ∧ okL ((k + 1 : Nat) : Int) seg last (ts.drop q) ∧ Nx wr wq) (fun _ qv _ => ts.length - (intOf qv).toNat)
                case atStart => exact ⟨0, 0, Nat.zero_le _, rfl, rfl, HOK.out, Nx.refl _⟩
                case round =>
                  obtain ⟨q, last, hq, rfl, rfl, hok, hnq⟩ := hrel
                  have HQ := Lib.hid (HNX.out.trans hnq)
                  have HQR := Lib.hid hnq
                  have cl := HQ.out.cell HCL.out
                  clear hnq
                  by_cases hq2 : q < ts.length
                  · have hqI : decide ((q : Int) < ts.length) = true := decide_eq_true (by omega)
                    have hq3 : q < 9223372036854775807 := by have := h3b; unfold maxLen at this; omega
                    obtain ⟨t, ht⟩ : ∃ t, ts[q]? = some t := ⟨_, List.getElem?_eq_getElem hq2⟩
                    obtain ⟨cc, k1, k2, k3, k4, k5, k6⟩ := okL_drop _ _ _ _ _ _ ht hok
                    obtain ⟨g3, o3, rfl, hT3⟩ : ∃ g o, A3 = some ⟨g, o, none⟩ ∧ TokAt w2 g o ts := by
                      rcases HT3.out with ⟨_, h, _⟩ | h
                      · rw [h] at hq2; exact absurd hq2 (by simp)
                      · exact h
                    obtain ⟨b0, b1, b2, b3, b4, b5⟩ := TokAt.at_ (hT3.nx HQ.out) q t ht
                    obtain ⟨c0, rfl⟩ : ∃ c0, cc = c0 + 1 := ⟨cc - 1, by omega⟩
                    rw [k1] at b1
                    rw [k2] at b2
                    rw [Nat.add_sub_cancel] at k5
                    have b1 : wr.cell? ⟨g3, o3 + q * 6 + 1, none⟩ = some (.int .i64 ((k : Int) + 1)) := b1
                    have b2 : wr.cell? ⟨g3, o3 + q * 6 + 2, none⟩ = some (.int .i64 ((c0 : Int) + 1)) := b2
                    have HK := Lib.hid (And.intro k6 k3)
                    have x1 : decide ((c0 : Int) + 1 ≤ last) = false := decide_eq_false (by omega)
                    have x2 : decide ((seg.length : Int) < (c0 : Int) + 1) = false := decide_eq_false (by omega)
                    by_cases hk1 : t.kind = 1
                    · obtain ⟨k7, k8⟩ := k5 hk1
                      have z1 : (t.kind == 1) = true := by rw [hk1]; rfl
                      obtain ⟨m, hm⟩ : ∃ m, c0 + t.text.length = m := ⟨_, rfl⟩
                      have hmI : (c0 : Int) + t.text.length = m := by omega
                      have x4 : (m : Int) ≤ seg.length := by omega
                      have x5 : (c0 : Int) ≤ m := by omega
                      have hmx : m ≤ 100000 := by have := HSEG.out; omega
                      have r7 : (B seg).extract c0 m = B t.text := by
                        rw [← hm]
                        exact (ext_mid seg c0 (c0 + t.text.length)).trans (by rw [Nat.add_sub_cancel_left, k8])
                      have x3 : decide (seg.length < m) = false := decide_eq_false (by omega)
                      have q1 : IntKind.i64.wrap (c0 : Int) = c0 := IntWalk.i64_in _ (by omega)
                      have q2 : IntKind.i64.wrap ((c0 : Int) + t.text.length) = m := by rw [hmI]; exact IntWalk.i64_in _ (by omega)
                      have q3 : (c0 : Int) + 1 - 1 = c0 := by omega
                      clear hT3 ht k1 k2 k5 k6 hok k7 k8 hk1 hm hmI hmx
                      go_wp2
                      go_quiet (fail)
                      go_wp2
                      go_roundw
                      case rel => exact ⟨q + 1, c0 + 1, by omega, by go_num, by go_num, HK.out.1, (HQR.out.alloc _).drewN _⟩
                      case measure => simp [intOf]; omega
                    · have z1 : (t.kind == 1) = false := beq_eq_false_iff_ne.2 hk1
                      clear hT3 ht k1 k2 k5 k6 hok hk1
                      go_wp2
                      go_quiet (fail)
                      go_wp2
                      go_roundw
                      case rel => exact ⟨q + 1, c0 + 1, by omega, by go_num, by go_num, HK.out.1, (HQR.out.alloc _).drewN _⟩
                      case measure => simp [intOf]; omega
                  · have hqI : decide ((q : Int) < ts.length) = false := decide_eq_false (by omega)
                    go_wp2
                    go_roundw
                    case rel => exact ⟨a + 1, a + 1, k + 1, Nat.le_refl _, by omega, (fun _ => rfl), by go_num, by go_num, by go_num, (fun c h => by rw [List.drop_eq_nil_of_le (by rw [List.length_take]; omega)] at h; cases h), by have := HLT.out; omega, by omega, HQ.out, HV2.out⟩
                    case measure => simp [intOf]; omega
        · have hiI : decide ((i : Int) ≤ l.length) = false := decide_eq_false (by omega)
          have hkl : k = ls.length := by
            have h1 : restL l a = [] := by unfold restL; rw [if_neg (by have := hend (by omega); omega)]
            rw [h1, linesR] at hV
            have h2 : ls.drop k = [] := by cases h3 : ls.drop k with | nil => rfl | cons x y => rw [h3] at hV; cases hV
            have := List.drop_eq_nil_iff.1 h2
            omega
          have z : ((k : Int) == (ls.length : Int)) = true := by rw [hkl]; simp
          clear hV hkl
          go_wp2
          go_ret
          exact ⟨rfl, H2.out.trans HNX.out⟩
    · have H2 := Lib.hid (H1.out.trans hn2)
      obtain ⟨g, o, rfl, _⟩ := hF
      clear hn2 hV
      go_wp2
      go_ret
      exact ⟨rfl, H2.out⟩

end Go.Proofs.YtbkgdepblaibkaaDoor
