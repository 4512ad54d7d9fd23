/- Contracts of typecaseref10: a line. -/
import Derived.Test.YtbkgdepblaibkaaDoorRtg
import Derived.Test.YtbkgdepblaibkaaDoorRth
import Derived.Test.YtbkgdepblaibkaaDoorHas
import Derived.OwnWalk
namespace Go.Proofs.YtbkgdepblaibkaaDoor
open Go.RowKit
set_option linter.unusedVariables false
set_option linter.unusedSimpArgs false

/-- Tokens' cells. -/
def toksC (ts : List Tok) : List Value := ts.flatMap tokC

theorem toksC_len (ts : List Tok) : (toksC ts).length = ts.length * 6 := by
  induction ts with
  | nil => rfl
  | cons t ts ih => show (tokC t ++ toksC ts).length = _; rw [List.length_append, ih]; simp [tokC]; omega

theorem toksC_snoc (ts : List Tok) (t : Tok) : toksC (ts ++ [t]) = toksC ts ++ tokC t := by unfold toksC; simp

theorem toksC_at (ts : List Tok) : ∀ (k : Nat) (t : Tok), ts[k]? = some t → ∀ j v, (tokC t)[j]? = some v → (toksC ts)[k * 6 + j]? = some v := by
  induction ts with
  | nil => intro k t h; cases h
  | cons a ts ih =>
    intro k t h j v hj
    show (tokC a ++ toksC ts)[k * 6 + j]? = some v
    cases k with
    | zero =>
      cases h
      rw [List.getElem?_append_left (by have := (List.getElem?_eq_some_iff.1 hj).1; omega), Nat.zero_mul, Nat.zero_add]
      exact hj
    | succ k =>
      rw [List.getElem?_append_right (by simp [tokC]; omega), show (k + 1) * 6 + j - (tokC a).length = k * 6 + j by simp [tokC]; omega]
      exact ih k t h j v hj

theorem own_toks {w : World} {base : Nat} {v : Value} {ts : List Tok} (h : OwnC w base 58 6 v ts.length (toksC ts)) : Toks w v ts := by
  rcases h.2 with ⟨hv, h0⟩ | ⟨g, cap, cur, hv, hb, hg, h1, h2, h3, h4⟩
  · exact Or.inl ⟨⟨none, by rw [hv]⟩, List.eq_nil_of_length_eq_zero h0⟩
  · refine Or.inr ⟨g, 0, cap, hv, h1, h2, fun k t hk j u hu => ?_⟩
    have := h.cells (g := g) (by rw [hv]; rfl) (k * 6 + j) u (toksC_at ts k t hk j u hu)
    rw [show 0 + k * 6 + j = k * 6 + j by omega]
    exact this

theorem own_fresh {w : World} {base m : Nat} {v : Value} {ts : List Tok} (hm : m ≤ base) (h : OwnC w base 58 6 v ts.length (toksC ts)) : Toks w v ts ∧ ∀ g, v.ownBlock = some g → m ≤ g ∧ g < w.heap.size :=
  ⟨own_toks h, fun g hg => ⟨Nat.le_trans hm (h.lt g hg).1, (h.lt g hg).2⟩⟩

/-- What comes of a line: tokens in new memory, or a place and a code. -/
def RetLine (r : LRes (List Tok)) (w : World) (e : Ending) (w' : World) : Prop :=
  ∃ v a b c, e = .returned (.tuple #[v, .agg #[.int .i64 a, .int .i64 b, .int .i64 c]]) ∧ Nx w w' ∧ ((∃ ts, r = .ok ts ∧ (Toks w' v ts ∧ ∀ g, v.ownBlock = some g → w.heap.size ≤ g ∧ g < w'.heap.size) ∧ a = 0 ∧ b = 0 ∧ c = 0) ∨ (r = .bad a b c ∧ v = .slice none 0 0 ∧ 0 < c))

theorem tok_info : (Tryd.prog.info? 58).map (fun i => (i.zero, i.size, i.bytes)) = some (some (.agg #[.int .i64 0, .int .i64 0, .int .i64 0, .string (B []), .int .u32 0, .int .i64 0]), 6, 56) := by kernel_rfl

theorem Has.keep_grown {w w' : World} {g : Nat} {o : Obj} {row : Option Nat} (h : Has w g o) (hg : w.grownBy w' row) (hr : row ≠ some g) : Has w' g o := (hg.block g h.lt (fun e => hr e.symm)).trans h

theorem own_set {w : World} {base : Nat} {e : TypeId} {size : Nat} {v : Value} {n : Nat} {xs : List Value} (h : OwnC w base e size v n xs) {p : Addr} (hp : p.block < base) (u : Value) : OwnC (w.setCell p u) base e size v n xs :=
  h.kept fun k hk hv => Below.heap_setCell w p u k (fun e => by have := (h.lt k hv).1; omega)

theorem tokR_code (s : List UInt8) (hs : 1 ≤ s.length) (h : (tokR s).2.1 = 0) : 0 < (tokR s).2.2 := by
  obtain ⟨c, l, rfl⟩ : ∃ c l, s = c :: l := by cases s with | nil => simp at hs | cons c l => exact ⟨c, l, rfl⟩
  revert h
  unfold tokR
  split
  · rename_i hc
    intro h
    exfalso
    have h1 : goN.contains c = true := by
      have h2 : (letN ++ [46]).contains c = true := hc
      have := byte_all (fun c => !(letN ++ [46]).contains c || goN.contains c) (by decide +kernel) c
      rw [h2] at this
      simpa using this
    have h3 : whileN goN (c :: l) = 0 := h
    unfold whileN at h3
    rw [if_pos h1] at h3
    omega
  · split
    · intro _; exact (by decide : 0 < 3)
    · split
      · split
        · intro h; exact absurd h (by show ¬ (quoR 39 _).2 + 2 = 0; omega)
        · intro _; exact (by decide : 0 < 3)
      · split
        · intro _; exact (by decide : 0 < 4)
        · split
          · intro h; exact absurd h (by show ¬ whileN _ _ + 1 = 0; omega)
          · split
            · intro h; exact absurd h (by show ¬ whileN _ _ + 1 = 0; omega)
            · split
              · intro h; exact absurd h (by show ¬ 2 = 0; omega)
              · split
                · intro h; exact absurd h (by show ¬ 1 = 0; omega)
                · intro _; exact (by decide : 0 < 2)

theorem six_at (w : World) (cs : List Value) (T : TypeId) : ∀ (j : Nat) (v : Value), cs[j]? = some v → (w.alloc (.cells cs.toArray T)).cell? ((⟨w.heap.size, 0, none⟩ : Addr).add j) = some v := by
  intro j v hj
  rw [show (⟨w.heap.size, 0, none⟩ : Addr).add j = ⟨w.heap.size, j, none⟩ by unfold Addr.add; split <;> simp_all]
  exact (Has.new w (.cells cs.toArray T)).cell j v (by simpa using hj)

/-- A fault's cells, none. -/
def rf0 : Obj := .cells #[.int .i64 0, .int .i64 0, .int .i64 0] 30

/-- What holds at a round's head. -/
def LineRel (n : Int) (l : List UInt8) (w wr : World) (V : LRes (List Tok)) (ov iv : Value) : Prop :=
  ∃ (i : Nat) (ts : List Tok), i ≤ l.length ∧ iv = .int .i64 i ∧ ts.length ≤ i ∧ OwnC wr (w.heap.size + 1) 58 6 ov ts.length (toksC ts) ∧ Has wr w.heap.size rf0 ∧ Nx w wr ∧ LRes.pre ts (lineT n i (l.drop i)) = V

theorem line_take (l : List UInt8) (i : Nat) (x : UInt8) (hx : l[i]? = some x) : (l.drop i).getD 0 0 = x := by
  rw [List.getD_eq_getElem?_getD, List.getElem?_drop, Nat.add_zero, hx]; rfl

set_option maxHeartbeats 4000000 in
set_option maxRecDepth 100000 in
theorem line_any (l : List UInt8) (n : Int) (w : World) (hl : l.length ≤ 1000000) : Calls Tryd.prog 57 #[.string (B l), .int .i64 n] w (RetLine (lineT n 0 l) w) := by
  obtain ⟨i0, hi, hz0, hz1, hz2⟩ := info_parts tok_info
  have HI := Lib.hid (And.intro hi (And.intro hz0 (And.intro hz1 hz2)))
  clear hi hz0 hz1 hz2
  have HV := Lib.hid (show LRes.pre [] (lineT n 0 (l.drop 0)) = lineT n 0 l by rw [pre_nil, List.drop_zero])
  generalize lineT n 0 l = V at *
  go_enter Tryd.func57, Tryd.ntmps57
  go_wp2
  go_loopw [6, 7] (fun ov iv wr => LineRel n l w wr V ov iv) (fun _ iv _ => l.length - (intOf iv).toNat)
  case atStart => exact ⟨0, [], Nat.zero_le _, rfl, Nat.le_refl _, OwnC.nil _ _ _ _, Has.new w rf0, (Nx.refl w).alloc _, HV.out⟩
  case round =>
    obtain ⟨i, ts, hi1, rfl, hts, hown, hh, hnx, hV⟩ := hrel
    have HNX := Lib.hid hnx
    have HO := Lib.hid hown
    have HH := Lib.hid hh
    have zb := HH.out.lt
    clear hnx hown hh
    by_cases hlt : i < l.length
    · obtain ⟨x, hx⟩ : ∃ x, l[i]? = some x := ⟨_, List.getElem?_eq_getElem hlt⟩
      obtain ⟨p1, e1⟩ := byte_at l i x hx
      have hg0 := line_take l i x hx
      rw [lineT_cons n i (l.drop i) (by rw [List.length_drop]; omega), hg0, List.drop_drop] at hV
      have hiI : (i : Int) ≤ l.length := by omega
      have CI := in_any x blankN wr (by decide)
      cases hb : blankN.contains x
      · rw [hb] at CI
        rw [if_neg (by rw [hb]; simp)] at hV
        have CI := Lib.hid CI
        by_cases h35 : x = 35
        · rw [if_pos h35] at hV
          have b35 : ((x.toNat : Int) == 35) = true := u8n x 35 (by omega) true (by rw [h35]; rfl)
          have HV2 := Lib.hid hV
          have hh := HH.out
          unfold rf0 at hh
          have r0 := hh.cell 0 _ rfl
          have r1 := hh.cell 1 _ rfl
          have r2 := hh.cell 2 _ rfl
          have f0 := hh.free 0
          have f1 := hh.free 1
          have f2 := hh.free 2
          clear hV hh h35 hg0 hx hb HV
          go_wp2_with fail
          refine CI.out.mono ?_
          rintro e w2 ⟨rfl, rfl⟩
          go_wp2
          refine bodyPost_ret (v := .tuple #[u6, .agg #[.int .i64 0, .int .i64 0, .int .i64 0]]) (by simp [results, Tryd.results57, go_sem, r0, r1, r2, f0, f1, f2]) rfl ?_
          exact ⟨_, 0, 0, 0, rfl, by repeat (with_reducible first | exact HNX.out | refine Nx.drew ?_ | refine Nx.setCell ?_ (Nat.le_refl _) _ | refine Nx.alloc ?_ _), Or.inl ⟨ts, by rw [← HV2.out]; show LRes.ok (ts ++ []) = _; rw [List.append_nil], by refine own_fresh (base := w.heap.size + 1) (Nat.le_succ _) ?_; repeat (with_reducible first | exact HO.out | refine own_set ?_ (Nat.lt_succ_self _) _ | refine OwnC.alloc ?_ _), rfl, rfl, rfl⟩⟩
        · rw [if_neg h35] at hV
          have b35 : ((x.toNat : Int) == 35) = false := u8n x 35 (by omega) false (beq_eq_false_iff_ne.2 h35)
          have CT := token_any (l.drop i) wr (by rw [List.length_drop]; omega) (by rw [List.length_drop]; omega)
          rw [← ext_drop l i hi1] at CT
          have hle := tokR_le (l.drop i) (by rw [List.length_drop]; omega)
          rw [List.length_drop] at hle
          rcases hR : tokR (l.drop i) with ⟨⟨kd, ln, cl, tx, nm, sc⟩, m, code⟩
          rw [hR] at CT hle hV
          have CT := Lib.hid (show Calls Tryd.prog 74 #[.string ((B l).extract i l.length)] wr (fun e w' => e = .returned (.tuple #[.agg #[.int .i64 kd, .int .i64 ln, .int .i64 cl, .string (B tx), .int .u32 nm, .int .i64 sc], .int .i64 m, .int .i64 code]) ∧ Nx wr w') from CT)
          simp only at hle hV
          by_cases hm : m = 0
          · rw [if_pos hm] at hV
            have HV2 := Lib.hid hV
            have HC0 := Lib.hid (show (0 : Int) < (code : Int) by have := tokR_code (l.drop i) (by rw [List.length_drop]; omega) (by rw [hR]; exact hm); rw [hR] at this; simp only at this; omega)
            have bm : ((m : Int) == 0) = true := by rw [hm]; rfl
            clear hR h35 hg0 hx hb HV hV hm
            go_wp2_with fail
            refine CI.out.mono ?_
            rintro e w2 ⟨rfl, rfl⟩
            go_wp2_with fail
            refine CT.out.mono ?_
            rintro e w2 ⟨rfl, hn2⟩
            have hh := HH.out.nx hn2
            unfold rf0 at hh
            have r0 := hh.cell 0 _ rfl
            have r1 := hh.cell 1 _ rfl
            have r2 := hh.cell 2 _ rfl
            have f0 := hh.free 0
            have f1 := hh.free 1
            have f2 := hh.free 2
            have zr := hh.lt
            clear hh
            have HX2 := Lib.hid (HNX.out.trans hn2)
            clear hn2
            go_wp2
            refine bodyPost_ret (v := .tuple #[.slice none 0 0, .agg #[.int .i64 n, .int .i64 (i + 1), .int .i64 code]]) (by simp [results, Tryd.results57, go_sem, r0, r1, r2, f0, f1, f2, World.cell?_alloc_lt, zr]) rfl ?_
            exact ⟨_, _, _, _, rfl, by repeat (with_reducible first | exact HX2.out | refine Nx.drew ?_ | refine Nx.setCell ?_ (Nat.le_refl _) _ | refine Nx.alloc ?_ _), Or.inr ⟨by rw [← HV2.out]; rfl, rfl, HC0.out⟩⟩
          · rw [if_neg hm, List.drop_drop] at hV
            have HV2 := Lib.hid hV
            have bm : ((m : Int) == 0) = false := beq_eq_false_iff_ne.2 (by omega)
            have hm1 : 0 < m := by omega
            clear hR h35 hg0 hx hb HV hV hm
            go_wp2_with fail
            refine CI.out.mono ?_
            rintro e w2 ⟨rfl, rfl⟩
            go_wp2_with fail
            refine CT.out.mono ?_
            rintro e w2 ⟨rfl, hn2⟩
            have HX2 := Lib.hid (HNX.out.trans hn2)
            have HO2 := Lib.hid (HO.out.nx hn2)
            have HH2 := Lib.hid (HH.out.nx hn2)
            have hA := Lib.hid ((HO2.out.alloc (.cells #[.int .i64 kd, .int .i64 n, .int .i64 (i + 1), .string (B tx), .int .u32 nm, .int .i64 sc] 58)).alloc (.cells #[.int .i64 kd, .int .i64 n, .int .i64 (i + 1), .string (B tx), .int .u32 nm, .int .i64 sc] 58))
            obtain ⟨hi, hz0, hz1, hz2⟩ := HI.out
            clear hn2
            go_wp2_with (at_builtin; refine wpList_append_c _ rfl _ _ 37 rfl (w.heap.size + 1) 58 i0 (.agg #[.int .i64 0, .int .i64 0, .int .i64 0, .string (B []), .int .u32 0, .int .i64 0]) 6 56 Tryd.underlying37 hi hz0 hz1 hz2 rfl (by decide) _ _ _ rfl hA.out (some ⟨w2.heap.size + 1, 0, none⟩) 1 1 [.int .i64 kd, .int .i64 n, .int .i64 (i + 1), .string (B tx), .int .u32 nm, .int .i64 sc] rfl rfl (Or.inr ⟨_, rfl, ?c1⟩) ?c2 ?c3 ?c4 ?c5 ?_)
            case c1 =>
              have h6 := six_at (w2.alloc (.cells #[.int .i64 kd, .int .i64 n, .int .i64 (i + 1), .string (B tx), .int .u32 nm, .int .i64 sc] 58)) [.int .i64 kd, .int .i64 n, .int .i64 (i + 1), .string (B tx), .int .u32 nm, .int .i64 sc] 58
              rw [show (w2.alloc (.cells #[.int .i64 kd, .int .i64 n, .int .i64 (i + 1), .string (B tx), .int .u32 nm, .int .i64 sc] 58)).heap.size = w2.heap.size + 1 by simp] at h6
              exact h6
            case c2 => simp [Value.oneCell']
            case c3 => unfold maxLen; omega
            case c4 => omega
            case c5 => have := HH2.out.lt; simp; omega
            intro v3 w3 hown3 hgr3 hbl3
            have HX3 := Lib.hid (show Nx w w3 from Below.grown ((HX2.out.alloc _).alloc _) hgr3 (by have := HX2.out.size; simp; omega) (fun k hk => by have := (hA.out.lt k hk).1; omega))
            have HH3 := Lib.hid (((HH2.out.alloc (.cells #[.int .i64 kd, .int .i64 n, .int .i64 (i + 1), .string (B tx), .int .u32 nm, .int .i64 sc] 58)).alloc (.cells #[.int .i64 kd, .int .i64 n, .int .i64 (i + 1), .string (B tx), .int .u32 nm, .int .i64 sc] 58)).keep_grown hgr3 (fun e => by have := (hA.out.lt _ e).1; omega))
            have HO3 := Lib.hid hown3
            clear hown3 hgr3 hbl3
            go_wp2
            go_roundw
            case rel => exact ⟨i + m, ts ++ [placeT ⟨kd, ln, cl, tx, nm, sc⟩ n ((i + 1 : Nat) : Int)], by omega, by go_num, by simp; omega, by rw [toksC_snoc]; simp only [List.length_append, List.length_singleton]; exact HO3.out, HH3.out, HX3.out, by rw [← HV2.out, pre_pre]⟩
            case measure => simp [intOf]; omega
      · rw [hb] at CI
        rw [if_pos hb] at hV
        have CI := Lib.hid CI
        have HV2 := Lib.hid hV
        clear hV hb hg0 hx HV
        go_wp2_with fail
        refine CI.out.mono ?_
        rintro e w2 ⟨rfl, rfl⟩
        go_wp2
        go_roundw
        case rel => exact ⟨i + 1, ts, by omega, by go_num, by omega, HO.out, HH.out, HNX.out, HV2.out⟩
        case measure => simp [intOf]; omega
    · obtain rfl : i = l.length := by omega
      rw [List.drop_length, lineT_nil] at hV
      have HV2 := Lib.hid hV
      have hh := HH.out
      unfold rf0 at hh
      have r0 := hh.cell 0 _ rfl
      have r1 := hh.cell 1 _ rfl
      have r2 := hh.cell 2 _ rfl
      have f0 := hh.free 0
      have f1 := hh.free 1
      have f2 := hh.free 2
      clear hV hh HV
      go_wp2
      refine bodyPost_ret (v := .tuple #[u6, .agg #[.int .i64 0, .int .i64 0, .int .i64 0]]) (by simp [results, Tryd.results57, go_sem, r0, r1, r2, f0, f1, f2]) rfl ?_
      exact ⟨_, 0, 0, 0, rfl, by repeat (with_reducible first | exact HNX.out | refine Nx.drew ?_ | refine Nx.setCell ?_ (Nat.le_refl _) _ | refine Nx.alloc ?_ _), Or.inl ⟨ts, by rw [← HV2.out]; show LRes.ok (ts ++ []) = _; rw [List.append_nil], by refine own_fresh (base := w.heap.size + 1) (Nat.le_succ _) ?_; repeat (with_reducible first | exact HO.out | refine own_set ?_ (Nat.lt_succ_self _) _ | refine OwnC.alloc ?_ _), rfl, rfl, rfl⟩⟩

end Go.Proofs.YtbkgdepblaibkaaDoor
