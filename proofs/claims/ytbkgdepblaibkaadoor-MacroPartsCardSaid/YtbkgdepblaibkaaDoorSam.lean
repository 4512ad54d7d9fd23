/- Contracts of typecaseref10: Same, at the same lines. -/
import Derived.Test.YtbkgdepblaibkaaDoorRtj
import Derived.Test.YtbkgdepblaibkaaDoorBlkz
namespace Go.Proofs.YtbkgdepblaibkaaDoor
open Go.RowKit
set_option linter.unusedVariables false
set_option linter.unusedSimpArgs false

theorem neq_tok (a b c : Int) (s : List UInt8) (d e : Int) (w : World) : (binOp .neq 58 (.agg #[.int .i64 a, .int .i64 b, .int .i64 c, .string (B s), .int .u32 d, .int .i64 e]) (.agg #[.int .i64 a, .int .i64 b, .int .i64 c, .string (B s), .int .u32 d, .int .i64 e])).run Tryd.prog w = .ok (.bool false) w := by
  simp [go_sem]

set_option maxHeartbeats 2000000 in
set_option maxRecDepth 100000 in
theorem same_any (v u : Value) (ls : List (List Tok)) (w : World) (h1 : Lins w v ls) (h2 : Lins w u ls) : Calls Tryd.prog 31 #[v, u] w fun e w' => e = .returned (.bool true) ∧ Nx w w' := by
  have H1 := Lib.hid h1
  have H2 := Lib.hid h2
  obtain ⟨A1, c1, rfl, hm1, hm2, _⟩ := h1.form
  obtain ⟨A2, c2, rfl, _, _, _⟩ := h2.form
  have hn1 : ls.length ≤ 9223372036854775807 := by unfold maxLen at hm2; omega
  have bl : ((ls.length : Int) != ls.length) = false := by simp
  clear h1 h2 hm1 hm2
  go_enter Tryd.func31, Tryd.ntmps31
  go_wp2
  go_loopw [5] (fun iv wr => ∃ i : Nat, i ≤ ls.length ∧ iv = .int .i64 i ∧ Nx w wr) (fun iv _ => ls.length - (intOf iv).toNat)
  case atStart => exact ⟨0, Nat.zero_le _, rfl, Nx.refl w⟩
  case round =>
    obtain ⟨i, hi, rfl, hnx⟩ := hrel
    obtain ⟨wo, rfl⟩ : ∃ wo : World, wo = wr := ⟨_, rfl⟩
    have HNX := Lib.hid hnx
    clear hnx
    by_cases hlt : i < ls.length
    · obtain ⟨l, hl⟩ : ∃ l, ls[i]? = some l := ⟨_, List.getElem?_eq_getElem hlt⟩
      obtain ⟨g1, o1, d1, x1, he1, _, hc1, ht1⟩ := line_at H1.out i l hl
      obtain ⟨g2, o2, d2, x2, he2, _, hc2, ht2⟩ := line_at H2.out i l hl
      cases he1
      cases he2
      have k1 := HNX.out.cell hc1
      have k2 := HNX.out.cell hc2
      have z1 := block_lt k1
      have z2 := block_lt k2
      obtain ⟨B1, e1, rfl, hp1, hp2, hB1⟩ := ht1.form
      have hlb : l.length ≤ 9223372036854775807 := by unfold maxLen at hp2; omega
      clear hp1 hp2
      obtain ⟨B2, e2, rfl, _, _, hB2⟩ := ht2.form
      have HB1 := Lib.hid hB1
      have HB2 := Lib.hid hB2
      have HC1 := Lib.hid hc1
      have HC2 := Lib.hid hc2
      have bl2 : ((l.length : Int) != l.length) = false := by simp
      clear hl ht1 ht2 hB1 hB2 hc1 hc2
      go_wp2
      go_quiet (fail)
      go_wp2
      go_loopw [6] (fun kv wr => ∃ k : Nat, k ≤ l.length ∧ kv = .int .i64 k ∧ Nx w wr) (fun kv _ => l.length - (intOf kv).toNat)
      case atStart => exact ⟨0, Nat.zero_le _, rfl, HNX.out.drewN _⟩
      case round =>
        obtain ⟨k, hk, rfl, hnx⟩ := hrel
        have HNI := Lib.hid hnx
        have k1 := HNI.out.cell HC1.out
        have k2 := HNI.out.cell HC2.out
        have z1 := block_lt k1
        have z2 := block_lt k2
        clear hnx
        by_cases hkl : k < l.length
        · obtain ⟨⟨kd, ln, cl, tx, nm, sc⟩, ht⟩ : ∃ t, l[k]? = some t := ⟨_, List.getElem?_eq_getElem hkl⟩
          obtain ⟨p1, q1, rfl, hT1⟩ : ∃ g o, B1 = some ⟨g, o, none⟩ ∧ TokAt w g o l := by
            rcases HB1.out with ⟨_, h, _⟩ | h
            · subst h; cases ht
            · exact h
          obtain ⟨p2, q2, rfl, hT2⟩ : ∃ g o, B2 = some ⟨g, o, none⟩ ∧ TokAt w g o l := by
            rcases HB2.out with ⟨_, h, _⟩ | h
            · subst h; cases ht
            · exact h
          obtain ⟨a0, a1, a2, a3, a4, a5⟩ := (hT1.nx HNI.out).at_ k _ ht
          obtain ⟨b0, b1, b2, b3, b4, b5⟩ := (hT2.nx HNI.out).at_ k _ ht
          dsimp only at a0 a1 a2 a3 a4 a5 b0 b1 b2 b3 b4 b5
          have y1 := block_lt a0
          have y2 := block_lt b0
          have q := fun w => neq_tok kd ln cl tx nm sc w
          clear ht hT1 hT2
          go_wp2
          go_quiet (fail)
          go_wp2
          go_roundw
          case rel => exact ⟨k + 1, by omega, by go_num, HNI.out.drewN _⟩
          case measure => simp [intOf]; omega
        · obtain rfl : k = l.length := by omega
          go_wp2
          go_roundw
          case rel => exact ⟨i + 1, by omega, by go_num, HNI.out⟩
          case measure => simp [intOf]; omega
    · obtain rfl : i = ls.length := by omega
      go_wp2
      go_ret
      exact ⟨rfl, HNX.out⟩

end Go.Proofs.YtbkgdepblaibkaaDoor
