/- Contracts of package lex: texts, characters. -/
import Derived.Test.YtbkgdepblaibkaaDoorLxb
import Derived.Test.YtbkgdepblaibkaaDoorRti
import Derived.OwnWalk
import Derived.Laws.IdiomStrings
namespace Go.Proofs.YtbkgdepblaibkaaDoor
open Go.RowKit
set_option linter.unusedVariables false
set_option linter.unusedSimpArgs false

/-- A token as the program hands it back: none beside an error. -/
def tokE (r : Tok × Nat × Nat) : Tok := if r.2.1 = 0 then tok0 else r.1

def errV (r : Tok × Nat × Nat) : Value := if r.2.1 = 0 then .iface 83 (.int .i64 (r.2.2 : Nat)) else .nilIface

def RetTokE (r : Tok × Nat × Nat) (w : World) (e : Ending) (w' : World) : Prop := e = .returned (.tuple #[tokV (tokE r), .int .i64 (r.2.1 : Nat), errV r]) ∧ Nx w w'

theorem tokE_ok (t : Tok) (n k : Nat) (h : 0 < n) (w w' : World) (hn : Nx w w') : RetTokE (t, n, k) w (.returned (.tuple #[tokV t, .int .i64 n, .nilIface])) w' := by
  unfold RetTokE tokE errV
  rw [if_neg (by show ¬ n = 0; omega), if_neg (by show ¬ n = 0; omega)]
  exact ⟨rfl, hn⟩

theorem tokE_is (t : Tok) (n k : Nat) (z : Int) (hz : z = n) (h : 0 < n) (w w' : World) (hn : Nx w w') : RetTokE (t, n, k) w (.returned (.tuple #[tokV t, .int .i64 z, .nilIface])) w' := by
  subst hz
  exact tokE_ok t n k h w w' hn

theorem tokE_bad (t : Tok) (k : Nat) (w w' : World) (hn : Nx w w') : RetTokE (t, 0, k) w (.returned (.tuple #[.agg #[.int .i64 0, .int .i64 0, .int .i64 0, .string (B []), .int .u32 0, .int .i64 0], .int .i64 0, .iface 83 (.int .i64 k)])) w' := ⟨rfl, hn⟩

/-- A token's cells, none. -/
def rt0 : Obj := .cells #[.int .i64 0, .int .i64 0, .int .i64 0, .string (B []), .int .u32 0, .int .i64 0] 58

theorem lone_at (g o c : Nat) (m : List UInt8) (n : Nat) (q : UInt8) (w : World) (hb : BysAt w g o m) (hn : n = m.length) (h1 : 1 ≤ n) (hl : n ≤ 1000000) : Calls Tryd.prog 91 #[.slice (some ⟨g, o, none⟩) n c, .int .u8 q.toNat] w (RetBL (oneP q m) w) := by
  subst hn
  cases m with
  | nil => simp at h1
  | cons x tl => exact lone_cons g o c x tl q w hb hl

theorem quoR_cons (q c : UInt8) (l : List UInt8) : quoR q (c :: l) = if c = q then (0, 0) else if c = 92 then escR (c :: l) else if 32 ≤ c.toNat ∨ (c = 9 ∧ q = 34) then (c, 1) else (0, 0) := rfl

theorem oneP_cons (q c : UInt8) (l : List UInt8) : oneP q (c :: l) = if c.toNat < 32 ∨ c = q then (0, 0) else if c = 92 then escR (c :: l) else (c, 1) := rfl

theorem quo_tab (s : List UInt8) (h1 : 1 ≤ s.length) (h : s.getD 0 0 = 9) : quoR 34 s = (9, 1) := by
  cases s with
  | nil => simp at h1
  | cons c l =>
    obtain rfl : c = 9 := h
    rfl

theorem quo_one34 (s : List UInt8) (h : ¬ s.getD 0 0 = 9) : quoR 34 s = oneP 34 s := by
  cases s with
  | nil => rfl
  | cons c l =>
    have h9 : ¬ c = 9 := h
    rw [quoR_cons, oneP_cons]
    by_cases h34 : c = 34
    · rw [if_pos h34, if_pos (Or.inr h34)]
    · rw [if_neg h34]
      by_cases h92 : c = 92
      · subst h92
        rw [if_pos rfl, if_neg (by decide), if_pos rfl]
      · rw [if_neg h92]
        by_cases h32 : c.toNat < 32
        · rw [if_neg (by intro h; rcases h with h | h; omega; exact h9 h.1), if_pos (Or.inl h32)]
        · rw [if_pos (Or.inl (by omega)), if_neg (fun h => h.elim h32 h34), if_neg h92]

theorem quo_one39 (s : List UInt8) : quoR 39 s = oneP 39 s := by
  cases s with
  | nil => rfl
  | cons c l =>
    rw [quoR_cons, oneP_cons]
    by_cases h39 : c = 39
    · rw [if_pos h39, if_pos (Or.inr h39)]
    · rw [if_neg h39]
      by_cases h92 : c = 92
      · subst h92
        rw [if_pos rfl, if_neg (by decide), if_pos rfl]
      · rw [if_neg h92]
        by_cases h32 : c.toNat < 32
        · rw [if_neg (by intro h; rcases h with h | h; omega; exact absurd h.2 (by decide)), if_pos (Or.inl h32)]
        · rw [if_pos (Or.inl (by omega)), if_neg (fun h => h.elim h32 h39), if_neg h92]

theorem getD_at (l : List UInt8) (i : Nat) (x : UInt8) (h : l[i]? = some x) : l.getD i 0 = x := by rw [List.getD_eq_getElem?_getD, h]; rfl

/-- The bytes' cells. -/
def bysC (o : List UInt8) : List Value := o.map fun b => .int .u8 b.toNat

theorem conv_own (w : World) (base : Nat) (v : Value) (o : List UInt8) (h : OwnC w base 5 1 v o.length (bysC o)) : (convert 70 9 v).run Tryd.prog w = .ok (.string (B o)) w := by
  rcases h.2 with ⟨rfl, h0⟩ | ⟨g, cap, cur, rfl, _⟩
  · obtain rfl : o = [] := List.eq_nil_of_length_eq_zero h0
    kernel_rfl
  · refine run_convert_bytes_back (P := Tryd.prog) w 70 9 5 ⟨g, 0, none⟩ cap o Tryd.underlying70 Tryd.underlying5 Tryd.underlying9 (fun j hj => ?_)
    rw [add_flat, Nat.zero_add]
    refine h.cells (g := g) rfl j _ ?_
    unfold bysC
    rw [List.getElem?_map, List.getElem?_eq_getElem hj]; rfl

theorem byte_info : (Tryd.prog.info? 5).map (fun i => (i.zero, i.size, i.bytes)) = some (some (.int .u8 0), 1, 1) := by kernel_rfl

set_option maxHeartbeats 8000000 in
set_option maxRecDepth 100000 in
theorem ltext_any (g o c : Nat) (l : List UInt8) (w : World) (hb : BysAt w g o l) (h1 : 1 ≤ l.length) (hl : l.length ≤ 1000000) (hlc : l.length ≤ c) (hcm : c ≤ maxLen) : Calls Tryd.prog 78 #[.slice (some ⟨g, o, none⟩) l.length c] w (RetTokE (tokN 6 (textR l).1, (textR l).2, 4) w) := by
  obtain ⟨i0, hi, hz0, hz1, hz2⟩ := info_parts byte_info
  have HI := Lib.hid (And.intro hi (And.intro hz0 (And.intro hz1 hz2)))
  clear hi hz0 hz1 hz2
  have HV := Lib.hid (textR_T l)
  generalize textR l = V at *
  have HB := Lib.hid hb
  unfold maxLen at hcm
  clear hb
  go_enter Tryd.func78, Tryd.ntmps78
  go_wp2
  go_loopw [5, 6] (fun ov iv wr => ∃ (i : Nat) (t : List UInt8), 1 ≤ i ∧ i ≤ l.length ∧ iv = .int .i64 i ∧ OwnC wr (w.heap.size + 1) 5 1 ov t.length (bysC t) ∧ t.length ≤ i ∧ Has wr w.heap.size rt0 ∧ Nx w wr ∧ Hid (txtT (l.drop 1) = (t ++ (txtT (l.drop i)).1, i - 1 + (txtT (l.drop i)).2))) (fun _ iv _ => l.length - (intOf iv).toNat)
  case atStart => exact ⟨1, [], by omega, h1, rfl, OwnC.nil _ _ _ _, by simp, Has.new w rt0, (Nx.refl w).alloc _, Lib.hid (by simp)⟩
  case round =>
    obtain ⟨i, t, hi1, hi2, rfl, hown, ht, hh, hnx, HT⟩ := hrel
    have HNX := Lib.hid hnx
    have HO := Lib.hid hown
    have HH := Lib.hid hh
    have zb := HH.out.lt
    clear hnx hown hh
    by_cases hlt : i < l.length
    · obtain ⟨x, hx⟩ : ∃ x, l[i]? = some x := ⟨_, List.getElem?_eq_getElem hlt⟩
      have cx := HNX.out.cell (HB.out i x hx)
      have hgd := getD_at l i x hx
      have hg0 := line_take l i x hx
      by_cases h34 : x = 34
      · have hq0 : (quoR 34 (l.drop i)).2 = 0 := by
          have hd : l.drop i = x :: l.drop (i + 1) := by
            obtain ⟨k1, e1⟩ := List.getElem?_eq_some_iff.1 hx
            rw [List.drop_eq_getElem_cons k1, e1]
          rw [hd, quoR_cons, if_pos h34]
        have hT := HT.out
        rw [txtT_stop (l.drop i) hq0] at hT
        have hv := HV.out
        rw [hT] at hv
        simp only [List.append_nil, Nat.add_zero] at hv
        rw [show 1 + (i - 1) = i by omega, if_pos ⟨hlt, by rw [hgd]; exact h34⟩] at hv
        have HV2 := Lib.hid hv
        have b34 : ((x.toNat : Int) != 34) = false := by have := u8n x 34 (by omega) true (by rw [h34]; rfl); simpa using this
        have dge : decide ((l.length : Int) ≤ i) = false := decide_eq_false (by omega)
        have hcv := conv_own _ _ _ t HO.out
        clear hT hv HT HV hq0 h34 hg0 hgd hx
        have hh := HH.out
        unfold rt0 at hh
        have r0 := hh.cell 0 _ rfl
        have r1 := hh.cell 1 _ rfl
        have r2 := hh.cell 2 _ rfl
        have r3 := hh.cell 3 _ rfl
        have r4 := hh.cell 4 _ rfl
        have r5 := hh.cell 5 _ rfl
        have f0 := hh.free 0
        have f1 := hh.free 1
        have f2 := hh.free 2
        have f3 := hh.free 3
        have f4 := hh.free 4
        have f5 := hh.free 5
        clear hh
        go_wp2
        refine bodyPost_ret (v := .tuple #[.agg #[.int .i64 6, .int .i64 0, .int .i64 0, .string (B t), .int .u32 0, .int .i64 0], .int .i64 (i + 1), .nilIface]) (by simp [results, Tryd.results78, go_sem, r0, r1, r2, r3, r4, r5, f0, f1, f2, f3, f4, f5]) rfl ?_
        rw [HV2.out]
        refine tokE_is (tokN 6 t) (i + 1) 4 ((i : Int) + 1) (by omega) (by omega) w _ ?_
        repeat (with_reducible first | exact HNX.out | refine Nx.drew ?_ | refine Nx.setCell ?_ (Nat.le_refl _) _ | refine Nx.alloc ?_ _)
      · have b34 : ((x.toNat : Int) != 34) = true := by have := u8n x 34 (by omega) false (beq_eq_false_iff_ne.2 h34); simpa using this
        have CO := Lib.hid (fun w' (hn : Nx w w') => lone_at g (o + i) (c - i) (l.drop i) (l.length - i) 34 w' ((HB.out.nx hn).cut i) (by rw [List.length_drop]) (by omega) (by omega))
        have dc : i < c := by omega
        have dcI : (i : Int) < c := by omega
        by_cases h9 : x = 9
        · have hq := quo_tab (l.drop i) (by rw [List.length_drop]; omega) (by rw [hg0]; exact h9)
          have hT := HT.out
          rw [txtT_go (l.drop i) (by rw [hq]; simp), List.drop_drop, hq] at hT
          have HT2 := Lib.hid (show txtT (l.drop 1) = ((t ++ [9]) ++ (txtT (l.drop (i + 1))).1, (i + 1) - 1 + (txtT (l.drop (i + 1))).2) by rw [hT]; simp; omega)
          have b9 : ((x.toNat : Int) == 9) = true := u8n x 9 (by omega) true (by rw [h9]; rfl)
          clear hT hq HT HV h34 hg0 hgd hx h9
          go_wp2_with fail
          refine (CO.out _ HNX.out).mono ?_
          rintro e w2 ⟨rfl, hn2⟩
          have HX2 := Lib.hid (HNX.out.trans hn2)
          have HO2 := Lib.hid (HO.out.nx hn2)
          have HH2 := Lib.hid (HH.out.nx hn2)
          have cx2 := hn2.cell cx
          clear hn2 cx
          have hA := Lib.hid (HO2.out.alloc (.cells #[.int .u8 9] 5))
          obtain ⟨hi, hz0, hz1, hz2⟩ := HI.out
          go_wp2_with (at_builtin; refine wpList_append_c _ rfl _ _ 70 rfl (w.heap.size + 1) 5 i0 (.int .u8 0) 1 1 Tryd.underlying70 hi hz0 hz1 hz2 rfl (by decide) _ _ _ rfl hA.out (some ⟨w2.heap.size, 0, none⟩) 1 1 [.int .u8 9] rfl rfl (Or.inr ⟨_, rfl, ?c1⟩) ?c2 ?c3 ?c4 ?c5 ?_)
          case c1 => exact six_at w2 [.int .u8 9] 5
          case c2 => simp [Value.oneCell']
          case c3 => unfold maxLen; omega
          case c4 => omega
          case c5 => have := HH2.out.lt; simp; omega
          intro v3 w3 hown3 hgr3 hbl3
          have HX3 := Lib.hid (show Nx w w3 from Below.grown (HX2.out.alloc _) hgr3 (by have := HX2.out.size; simp; omega) (fun k hk => by have := (hA.out.lt k hk).1; omega))
          have HH3 := Lib.hid ((HH2.out.alloc (.cells #[.int .u8 9] 5)).keep_grown hgr3 (fun e => by have := (hA.out.lt _ e).1; omega))
          have HO3 := Lib.hid hown3
          clear hown3 hgr3 hbl3
          go_wp2
          go_roundw
          case rel => exact ⟨i + 1, t ++ [9], by omega, by omega, by go_num, by unfold bysC at *; rw [List.map_append]; simp only [List.length_append, List.length_singleton]; exact HO3.out, by simp; omega, HH3.out, HX3.out, HT2⟩
          case measure => simp [intOf]; omega
        · have hq := quo_one34 (l.drop i) (by rw [hg0]; exact h9)
          have b9 : ((x.toNat : Int) == 9) = false := u8n x 9 (by omega) false (beq_eq_false_iff_ne.2 h9)
          rw [← hq] at CO
          have hle := quoR_le 34 (l.drop i)
          rw [List.length_drop] at hle
          by_cases h0 : (quoR 34 (l.drop i)).2 = 0
          · have hT := HT.out
            rw [txtT_stop (l.drop i) h0] at hT
            have hv := HV.out
            rw [hT] at hv
            simp only [List.append_nil, Nat.add_zero] at hv
            rw [show 1 + (i - 1) = i by omega, if_neg (fun h => h34 (by rw [← hgd]; exact h.2))] at hv
            have HV2 := Lib.hid hv
            have bz : (((quoR 34 (l.drop i)).2 : Int) == 0) = true := by rw [h0]; rfl
            generalize quoR 34 (l.drop i) = q at *
            clear hT hv hq HT HV h34 hg0 hgd hx h9 h0
            go_wp2_with fail
            refine (CO.out _ HNX.out).mono ?_
            rintro e w2 ⟨rfl, hn2⟩
            have HX2 := Lib.hid (HNX.out.trans hn2)
            have HH2 := Lib.hid (HH.out.nx hn2)
            have cx2 := hn2.cell cx
            clear hn2 cx
            have hh := HH2.out
            unfold rt0 at hh
            have r0 := hh.cell 0 _ rfl
            have r1 := hh.cell 1 _ rfl
            have r2 := hh.cell 2 _ rfl
            have r3 := hh.cell 3 _ rfl
            have r4 := hh.cell 4 _ rfl
            have r5 := hh.cell 5 _ rfl
            have f0 := hh.free 0
            have f1 := hh.free 1
            have f2 := hh.free 2
            have f3 := hh.free 3
            have f4 := hh.free 4
            have f5 := hh.free 5
            clear hh
            go_wp2
            refine bodyPost_ret (v := .tuple #[.agg #[.int .i64 0, .int .i64 0, .int .i64 0, .string (B []), .int .u32 0, .int .i64 0], .int .i64 0, .iface 83 (.int .i64 4)]) (by simp [results, Tryd.results78, go_sem, r0, r1, r2, r3, r4, r5, f0, f1, f2, f3, f4, f5]) rfl ?_
            rw [HV2.out]
            exact tokE_bad _ 4 _ _ (by repeat (with_reducible first | exact HX2.out | refine Nx.drew ?_ | refine Nx.setCell ?_ (Nat.le_refl _) _ | refine Nx.alloc ?_ _))
          · have hT := HT.out
            rw [txtT_go (l.drop i) h0, List.drop_drop] at hT
            have bz : (((quoR 34 (l.drop i)).2 : Int) == 0) = false := beq_eq_false_iff_ne.2 (by omega)
            generalize hQ : quoR 34 (l.drop i) = q at *
            have hq1 : 0 < q.2 := by omega
            have HT2 := Lib.hid (show txtT (l.drop 1) = ((t ++ [q.1]) ++ (txtT (l.drop (i + q.2))).1, (i + q.2) - 1 + (txtT (l.drop (i + q.2))).2) by rw [hT]; simp; omega)
            clear hT hq hQ HT HV h34 hg0 hgd hx h9 h0
            go_wp2_with fail
            refine (CO.out _ HNX.out).mono ?_
            rintro e w2 ⟨rfl, hn2⟩
            have HX2 := Lib.hid (HNX.out.trans hn2)
            have HO2 := Lib.hid (HO.out.nx hn2)
            have HH2 := Lib.hid (HH.out.nx hn2)
            have cx2 := hn2.cell cx
            clear hn2 cx
            have hA := Lib.hid (HO2.out.alloc (.cells #[.int .u8 q.1.toNat] 5))
            obtain ⟨hi, hz0, hz1, hz2⟩ := HI.out
            go_wp2_with (at_builtin; refine wpList_append_c _ rfl _ _ 70 rfl (w.heap.size + 1) 5 i0 (.int .u8 0) 1 1 Tryd.underlying70 hi hz0 hz1 hz2 rfl (by decide) _ _ _ rfl hA.out (some ⟨w2.heap.size, 0, none⟩) 1 1 [.int .u8 q.1.toNat] rfl rfl (Or.inr ⟨_, rfl, ?c1⟩) ?c2 ?c3 ?c4 ?c5 ?_)
            case c1 => exact six_at w2 [.int .u8 q.1.toNat] 5
            case c2 => simp [Value.oneCell']
            case c3 => unfold maxLen; omega
            case c4 => omega
            case c5 => have := HH2.out.lt; simp; omega
            intro v3 w3 hown3 hgr3 hbl3
            have HX3 := Lib.hid (show Nx w w3 from Below.grown (HX2.out.alloc _) hgr3 (by have := HX2.out.size; simp; omega) (fun k hk => by have := (hA.out.lt k hk).1; omega))
            have HH3 := Lib.hid ((HH2.out.alloc (.cells #[.int .u8 q.1.toNat] 5)).keep_grown hgr3 (fun e => by have := (hA.out.lt _ e).1; omega))
            have HO3 := Lib.hid hown3
            clear hown3 hgr3 hbl3
            go_wp2
            go_roundw
            case rel => exact ⟨i + q.2, t ++ [q.1], by omega, by omega, by go_num, by unfold bysC at *; rw [List.map_append]; simp only [List.length_append, List.length_singleton]; exact HO3.out, by simp; omega, HH3.out, HX3.out, HT2⟩
            case measure => simp [intOf]; omega
    · obtain rfl : i = l.length := by omega
      have hT := HT.out
      rw [List.drop_length, txtT_stop _ (show (quoR 34 []).2 = 0 from rfl)] at hT
      have hv := HV.out
      rw [hT] at hv
      simp only [List.append_nil, Nat.add_zero] at hv
      rw [show 1 + (l.length - 1) = l.length by omega, if_neg (fun h => by omega)] at hv
      have HV2 := Lib.hid hv
      clear hT hv HT HV
      have hh := HH.out
      unfold rt0 at hh
      have r0 := hh.cell 0 _ rfl
      have r1 := hh.cell 1 _ rfl
      have r2 := hh.cell 2 _ rfl
      have r3 := hh.cell 3 _ rfl
      have r4 := hh.cell 4 _ rfl
      have r5 := hh.cell 5 _ rfl
      have f0 := hh.free 0
      have f1 := hh.free 1
      have f2 := hh.free 2
      have f3 := hh.free 3
      have f4 := hh.free 4
      have f5 := hh.free 5
      clear hh
      go_wp2
      refine bodyPost_ret (v := .tuple #[.agg #[.int .i64 0, .int .i64 0, .int .i64 0, .string (B []), .int .u32 0, .int .i64 0], .int .i64 0, .iface 83 (.int .i64 4)]) (by simp [results, Tryd.results78, go_sem, r0, r1, r2, r3, r4, r5, f0, f1, f2, f3, f4, f5]) rfl ?_
      rw [HV2.out]
      exact tokE_bad _ 4 _ _ (by repeat (with_reducible first | exact HNX.out | refine Nx.drew ?_ | refine Nx.setCell ?_ (Nat.le_refl _) _ | refine Nx.alloc ?_ _))

end Go.Proofs.YtbkgdepblaibkaaDoor
