/- Contracts of typecaseref10: a text. -/
import Derived.Test.YtbkgdepblaibkaaDoorRtd
import Derived.Laws.IdiomStrings
namespace Go.Proofs.YtbkgdepblaibkaaDoor
open Go.RowKit
set_option linter.unusedVariables false
set_option linter.unusedSimpArgs false

theorem txt_fuel : ∀ (f : Nat) (s : List UInt8), s.length ≤ f → ∀ g, s.length ≤ g → txtR f s = txtR g s := by
  intro f
  induction f with
  | zero =>
    intro s h g hg
    obtain rfl : s = [] := List.eq_nil_of_length_eq_zero (by omega)
    cases g with
    | zero => rfl
    | succ g => rfl
  | succ f ih =>
    intro s h g hg
    cases g with
    | zero =>
      obtain rfl : s = [] := List.eq_nil_of_length_eq_zero (by omega)
      rfl
    | succ g =>
      unfold txtR
      by_cases h0 : (quoR 34 s).2 = 0
      · rw [if_pos h0, if_pos h0]
      · rw [if_neg h0, if_neg h0]
        have hd : (s.drop (quoR 34 s).2).length = s.length - (quoR 34 s).2 := List.length_drop
        rw [ih _ (by omega) g (by omega)]

def txtT (s : List UInt8) : List UInt8 × Nat := txtR s.length s

theorem txtT_stop (s : List UInt8) (h : (quoR 34 s).2 = 0) : txtT s = ([], 0) := by
  unfold txtT
  cases hs : s.length with
  | zero => rfl
  | succ n => unfold txtR; rw [if_pos h]

theorem txtT_go (s : List UInt8) (h : ¬ (quoR 34 s).2 = 0) : txtT s = ((quoR 34 s).1 :: (txtT (s.drop (quoR 34 s).2)).1, (quoR 34 s).2 + (txtT (s.drop (quoR 34 s).2)).2) := by
  have hle := quoR_le 34 s
  have hd : (s.drop (quoR 34 s).2).length = s.length - (quoR 34 s).2 := List.length_drop
  unfold txtT
  cases hs : s.length with
  | zero => omega
  | succ n =>
    rw [txtR, if_neg h, txt_fuel n _ (by omega) (s.drop (quoR 34 s).2).length (Nat.le_refl _)]

theorem textR_T (l : List UInt8) : textR l = if 1 + (txtT (l.drop 1)).2 < l.length ∧ l.getD (1 + (txtT (l.drop 1)).2) 0 = 34 then ((txtT (l.drop 1)).1, 1 + (txtT (l.drop 1)).2 + 1) else ([], 0) := by
  have e : txtR l.length (l.drop 1) = txtT (l.drop 1) := txt_fuel _ _ (by rw [List.length_drop]; omega) _ (Nat.le_refl _)
  unfold textR
  rw [e]

theorem B_app (o : List UInt8) (c : UInt8) : B o ++ { data := #[c] } = B (o ++ [c]) := by
  apply ByteArray.ext
  rw [ByteArray.data_append]
  simp

theorem conv_one (c : UInt8) (w : World) : (convert 70 9 (.slice (some ⟨w.heap.size, 0, none⟩) 1 1)).run Tryd.prog (w.alloc (.cells #[.int .u8 c.toNat] 5)) = .ok (.string ⟨#[c]⟩) (w.alloc (.cells #[.int .u8 c.toNat] 5)) := by
  refine run_convert_bytes_back (P := Tryd.prog) _ 70 9 5 ⟨w.heap.size, 0, none⟩ 1 [c] Tryd.underlying70 Tryd.underlying5 Tryd.underlying9 (fun j hj => ?_)
  have hj0 : j = 0 := by simpa using hj
  subst hj0
  simp [Addr.add]

def RetSN (r : List UInt8 × Nat) (w : World) (e : Ending) (w' : World) : Prop := e = .returned (.tuple #[.string (B r.1), .int .i64 (r.2 : Nat)]) ∧ Nx w w'

set_option maxHeartbeats 4000000 in
set_option maxRecDepth 100000 in
theorem text_any (l : List UInt8) (w : World) (h1 : 1 ≤ l.length) (hl : l.length ≤ 1000000) : Calls Tryd.prog 90 #[.string (B l)] w (RetSN (textR l) w) := by
  have HV := Lib.hid (textR_T l)
  generalize textR l = V at *
  have h1I : (1 : Int) ≤ l.length := by omega
  go_enter Tryd.func90, Tryd.ntmps90
  go_wp2
  go_loopw [4, 5] (fun ov iv wr => ∃ (i : Nat) (o : List UInt8), 1 ≤ i ∧ i ≤ l.length ∧ iv = .int .i64 i ∧ ov = .string (B o) ∧ o.length ≤ i ∧ Nx w wr ∧ Hid (txtT (l.drop 1) = (o ++ (txtT (l.drop i)).1, i - 1 + (txtT (l.drop i)).2))) (fun _ iv _ => l.length - (intOf iv).toNat)
  case atStart => exact ⟨1, [], by omega, h1, rfl, rfl, by simp, Nx.refl _, Lib.hid (by simp)⟩
  case round =>
    obtain ⟨i, o, hi1, hi2, rfl, rfl, ho, hn, HT⟩ := hrel
    have HN := Lib.hid hn
    clear hn
    have CQ := quoted_any 34 (l.drop i) wr (by rw [List.length_drop]; omega)
    rw [← ext_drop l i hi2] at CQ
    have hqle := quoR_le 34 (l.drop i)
    rw [List.length_drop] at hqle
    have CQ := Lib.hid (show Calls Tryd.prog 89 #[.string ((B l).extract i l.length), .int .u8 34] wr (RetBN (quoR 34 (l.drop i)) wr) from CQ)
    have hiI : (i : Int) ≤ l.length := by omega
    by_cases hq : (quoR 34 (l.drop i)).2 = 0
    · have hT := HT.out
      rw [txtT_stop _ hq] at hT
      have hv := HV.out
      rw [hT] at hv
      simp only [List.append_nil, Nat.add_zero] at hv
      rw [show 1 + (i - 1) = i by omega] at hv
      have hz : (((quoR 34 (l.drop i)).2 : Int) == 0) = true := by rw [hq]; rfl
      generalize quoR 34 (l.drop i) = q at *
      clear hT HT hq
      by_cases hlt : i < l.length
      · obtain ⟨x, hx⟩ : ∃ x, l[i]? = some x := ⟨_, List.getElem?_eq_getElem hlt⟩
        have hgd : l.getD i 0 = x := by rw [List.getD_eq_getElem?_getD, hx]; rfl
        obtain ⟨p1, e1⟩ := byte_at l i x hx
        rw [hgd] at hv
        by_cases hxq : x = 34
        · rw [if_pos ⟨hlt, hxq⟩] at hv
          subst hv
          have bx : ((x.toNat : Int) == 34) = true := u8n x 34 (by omega) true (by rw [hxq]; rfl)
          clear hxq hgd hx HV
          go_wp2_with (go_at_call 89; refine CQ.out.mono ?_; rintro e w2 ⟨rfl, hn2⟩; have HN2 := Lib.hid (HN.out.trans hn2); clear hn2)
          go_ret2
          exact ⟨rfl, HN2.out⟩
        · rw [if_neg (fun h => hxq h.2)] at hv
          subst hv
          have bx : ((x.toNat : Int) == 34) = false := u8n x 34 (by omega) false (beq_eq_false_iff_ne.2 hxq)
          clear hxq hgd hx HV
          go_wp2_with (go_at_call 89; refine CQ.out.mono ?_; rintro e w2 ⟨rfl, hn2⟩; have HN2 := Lib.hid (HN.out.trans hn2); clear hn2)
          go_ret2
          exact ⟨rfl, HN2.out⟩
      · rw [if_neg (fun h => hlt h.1)] at hv
        subst hv
        have hltI : decide ((i : Int) < l.length) = false := decide_eq_false (by omega)
        clear HV
        go_wp2_with (go_at_call 89; refine CQ.out.mono ?_; rintro e w2 ⟨rfl, hn2⟩; have HN2 := Lib.hid (HN.out.trans hn2); clear hn2)
        go_ret2
        exact ⟨rfl, HN2.out⟩
    · have hT := HT.out
      rw [txtT_go _ hq, List.drop_drop] at hT
      have hz : (((quoR 34 (l.drop i)).2 : Int) == 0) = false := beq_eq_false_iff_ne.2 (by omega)
      generalize hQ : quoR 34 (l.drop i) = q at *
      have HT2 := Lib.hid hT
      clear hT HT hQ
      go_wp2_with fail
      refine CQ.out.mono ?_
      rintro e w2 ⟨rfl, hn2⟩
      have HN2 := Lib.hid (HN.out.trans hn2)
      clear hn2
      have hcv := conv_one q.1 w2
      have hoB : (B o).size + 1 ≤ 9223372036854775807 := by show o.length + 1 ≤ _; omega
      go_wp2
      go_roundw
      case rel => exact ⟨i + q.2, o ++ [q.1], by omega, by omega, by go_num, by rw [B_app], by simp; omega, HN2.out.alloc _, Lib.hid (by rw [HT2.out]; simp; omega)⟩
      case measure => simp [intOf]; omega

end Go.Proofs.YtbkgdepblaibkaaDoor
