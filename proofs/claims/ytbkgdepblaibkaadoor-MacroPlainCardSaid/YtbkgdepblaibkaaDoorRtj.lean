/- Contracts of typecaseref10: Lines. -/
import Derived.Test.YtbkgdepblaibkaaDoorRti
import Derived.Test.YtbkgdepblaibkaaDoorRtl
import Derived.Test.YtbkgdepblaibkaaDoorArg
import Derived.OwnWalk
import Derived.Laws.IdiomStrings
namespace Go.Proofs.YtbkgdepblaibkaaDoor
open Go.RowKit
set_option linter.unusedVariables false
set_option linter.unusedSimpArgs false

/-- Lines in memory of the call's own, each at a place of its own. -/
def OwnL (w : World) (base : Nat) (v : Value) (ls : List (List Tok)) : Prop :=
  ∃ us, OwnC w base 37 1 v ls.length us ∧ ∀ (k : Nat) (u : Value) (l : List Tok), us[k]? = some u → ls[k]? = some l → Toks w u l ∧ ∀ g, u.ownBlock = some g → base ≤ g ∧ g < w.heap.size ∧ v.ownBlock ≠ some g

theorem toks_kept {w w' : World} {u : Value} {l : List Tok} (h : Toks w u l) (hk : ∀ g, u.ownBlock = some g → ∀ o v, w.cell? ⟨g, o, none⟩ = some v → w'.cell? ⟨g, o, none⟩ = some v) : Toks w' u l := by
  rcases h with h | ⟨g, o, c, h1, h2, h3, h4⟩
  · exact Or.inl h
  · exact Or.inr ⟨g, o, c, h1, h2, h3, fun k t hkt j v hj => hk g (by rw [h1]; rfl) _ _ (h4 k t hkt j v hj)⟩

theorem toks_block {w w' : World} {u : Value} {l : List Tok} (h : Toks w u l) (hk : ∀ g, u.ownBlock = some g → w'.heap[g]? = w.heap[g]?) : Toks w' u l :=
  toks_kept h fun g hg o v hv => by rw [World.cell?_of_block (hk g hg)]; exact hv

theorem OwnL.parts {w : World} {base : Nat} {v : Value} {ls : List (List Tok)} (h : OwnL w base v ls) :
    ∃ us, OwnC w base 37 1 v ls.length us ∧ us.length = ls.length ∧ ∀ (k : Nat) (u : Value) (l : List Tok), us[k]? = some u → ls[k]? = some l → Toks w u l ∧ ∀ g, u.ownBlock = some g → base ≤ g ∧ g < w.heap.size ∧ v.ownBlock ≠ some g := by
  obtain ⟨us, h1, h2⟩ := h
  exact ⟨us, h1, by have := h1.1; omega, h2⟩

theorem OwnL.form {w : World} {base : Nat} {v : Value} {ls : List (List Tok)} (h : OwnL w base v ls) : ∃ A c, v = .slice A ls.length c := by
  obtain ⟨us, h1, _⟩ := h
  rcases h1.2 with ⟨hv, h0⟩ | ⟨g, cap, cur, hv, _⟩
  · exact ⟨none, 0, by rw [hv, h0]⟩
  · exact ⟨_, _, hv⟩

theorem OwnL.nil (w : World) (base : Nat) : OwnL w base (.slice none 0 0) [] := ⟨[], OwnC.nil _ _ _ _, fun k u l h => by cases h⟩

theorem OwnL.lt {w : World} {base : Nat} {v : Value} {ls : List (List Tok)} (h : OwnL w base v ls) : ∀ k, v.ownBlock = some k → base ≤ k ∧ k < w.heap.size := by
  obtain ⟨us, h1, _⟩ := h
  exact h1.lt

theorem OwnL.nx {w w' : World} {base : Nat} {v : Value} {ls : List (List Tok)} (h : OwnL w base v ls) (hn : Nx w w') : OwnL w' base v ls := by
  obtain ⟨us, h1, h2⟩ := h
  refine ⟨us, h1.nx hn, fun k u l hu hl => ?_⟩
  obtain ⟨h3, h4⟩ := h2 k u l hu hl
  exact ⟨h3.nx hn, fun g hg => ⟨(h4 g hg).1, Nat.lt_of_lt_of_le (h4 g hg).2.1 hn.size, (h4 g hg).2.2⟩⟩

theorem OwnL.set_ {w : World} {base : Nat} {v : Value} {ls : List (List Tok)} (h : OwnL w base v ls) {p : Addr} (hp : p.block < base) (x : Value) : OwnL (w.setCell p x) base v ls := by
  obtain ⟨us, h1, h2⟩ := h
  refine ⟨us, own_set h1 hp x, fun k u l hu hl => ?_⟩
  obtain ⟨h3, h4⟩ := h2 k u l hu hl
  exact ⟨toks_block h3 fun g hg => Below.heap_setCell w p x g (fun e => by have := (h4 g hg).1; omega), fun g hg => ⟨(h4 g hg).1, by simpa using (h4 g hg).2.1, (h4 g hg).2.2⟩⟩

theorem OwnL.lins {w : World} {base : Nat} {v : Value} {ls : List (List Tok)} (h : OwnL w base v ls) : Lins w v ls := by
  obtain ⟨us, h1, h2⟩ := h
  have hlen : us.length = ls.length := by have := h1.1; omega
  rcases h1.2 with ⟨hv, h0⟩ | ⟨g, cap, cur, hv, hb, hg, h3, h4, h5, h6⟩
  · exact Or.inl ⟨⟨none, by rw [hv]⟩, List.eq_nil_of_length_eq_zero h0⟩
  · refine Or.inr ⟨g, 0, cap, hv, h3, h4, fun k l hk => ?_⟩
    have hlt := (List.getElem?_eq_some_iff.1 hk).1
    have hu : us[k]? = some (us[k]'(by omega)) := List.getElem?_eq_getElem (by omega)
    refine ⟨_, ?_, (h2 k _ l hu hk).1⟩
    rw [Nat.zero_add]
    exact h1.cells (g := g) (by rw [hv]; rfl) k _ hu

/-- One line more. -/
theorem OwnL.push {w w' : World} {base : Nat} {v v' u : Value} {ls : List (List Tok)} {l : List Tok} {us : List Value} (hlen : us.length = ls.length)
    (h2 : ∀ (k : Nat) (u : Value) (l : List Tok), us[k]? = some u → ls[k]? = some l → Toks w u l ∧ ∀ g, u.ownBlock = some g → base ≤ g ∧ g < w.heap.size ∧ v.ownBlock ≠ some g)
    (ht : Toks w u l) (hu : ∀ g, u.ownBlock = some g → base ≤ g ∧ g < w.heap.size ∧ v.ownBlock ≠ some g)
    (hg : w.grownBy w' v.ownBlock) (hv : v'.ownBlock = v.ownBlock ∨ v'.ownBlock = some w.heap.size) (hown : OwnC w' base 37 1 v' (ls.length + 1) (us ++ [u])) : OwnL w' base v' (ls ++ [l]) := by
  have one : ∀ (x : Value) (y : List Tok), Toks w x y → (∀ g, x.ownBlock = some g → base ≤ g ∧ g < w.heap.size ∧ v.ownBlock ≠ some g) → Toks w' x y ∧ ∀ g, x.ownBlock = some g → base ≤ g ∧ g < w'.heap.size ∧ v'.ownBlock ≠ some g := by
    intro x y hx hb
    refine ⟨toks_block hx fun g hgx => hg.block g (hb g hgx).2.1 (fun e => (hb g hgx).2.2 e.symm), fun g hgx => ⟨(hb g hgx).1, Nat.lt_of_lt_of_le (hb g hgx).2.1 hg.size, ?_⟩⟩
    rcases hv with e | e
    · rw [e]; exact (hb g hgx).2.2
    · rw [e]; intro e2
      have := (hb g hgx).2.1
      injection e2 with e2
      omega
  refine ⟨us ++ [u], by simp only [List.length_append, List.length_singleton]; exact hown, fun k x y hx hy => ?_⟩
  rw [List.getElem?_append] at hx hy
  by_cases hk : k < ls.length
  · rw [if_pos (by omega)] at hx
    rw [if_pos hk] at hy
    obtain ⟨h3, h4⟩ := h2 k x y hx hy
    exact one x y h3 h4
  · rw [if_neg (by omega)] at hx
    rw [if_neg hk] at hy
    have hk0 : k - ls.length = 0 := by
      have := (List.getElem?_eq_some_iff.1 hy).1
      simpa using this
    rw [hlen, hk0] at hx
    rw [hk0] at hy
    simp at hx hy
    subst hx hy
    exact one _ _ ht hu

/-- What comes of a source. -/
def RetLines (r : LRes (List (List Tok))) (w : World) (e : Ending) (w' : World) : Prop :=
  ∃ v a b c, e = .returned (.tuple #[v, .agg #[.int .i64 a, .int .i64 b, .int .i64 c]]) ∧ Nx w w' ∧ ((∃ ls, r = .ok ls ∧ Lins w' v ls ∧ a = 0 ∧ b = 0 ∧ c = 0) ∨ (r = .bad a b c ∧ v = .slice none 0 0 ∧ 0 < c))

theorem toks_info : (Tryd.prog.info? 37).map (fun i => (i.zero, i.size, i.bytes)) = some (some (.slice none 0 0), 1, 24) := by kernel_rfl

theorem conv_cut (w : World) (g o c a i : Nat) (l : List UInt8) (hc : ∀ (k : Nat) (b : UInt8), l[k]? = some b → w.cell? ⟨g, o + k, none⟩ = some (.int .u8 b.toNat)) (hai : a ≤ i) (hil : i ≤ l.length) :
    (convert 70 9 (.slice (some ⟨g, o + a, none⟩) (i - a) (c - a))).run Tryd.prog w = .ok (.string (B ((l.take i).drop a))) w := by
  have hlen : ((l.take i).drop a).length = i - a := by rw [List.length_drop, List.length_take]; omega
  have h := run_convert_bytes_back (P := Tryd.prog) w 70 9 5 ⟨g, o + a, none⟩ (c - a) ((l.take i).drop a) Tryd.underlying70 Tryd.underlying5 Tryd.underlying9 (fun j hj => by
    rw [add_flat]
    have hg : ((l.take i).drop a)[j]? = some ((l.take i).drop a)[j] := List.getElem?_eq_getElem hj
    rw [List.getElem?_drop, List.getElem?_take_of_lt (by omega)] at hg
    rw [← hc (a + j) _ hg, Nat.add_assoc])
  rw [hlen] at h
  exact h

theorem conv_none (w : World) (A : Option Addr) : (convert 70 9 (.slice A 0 0)).run Tryd.prog w = .ok (.string (B [])) w := by
  cases A with
  | none => kernel_rfl
  | some a => exact run_convert_bytes_back (P := Tryd.prog) w 70 9 5 a 0 [] Tryd.underlying70 Tryd.underlying5 Tryd.underlying9 (fun j hj => by simp at hj)

/-- What holds at a round's head. -/
def SrcRel (l : List UInt8) (w wr : World) (V : LRes (List (List Tok))) (ov fv iv : Value) : Prop :=
  ∃ (i a : Nat) (ls : List (List Tok)), a ≤ i ∧ i ≤ l.length + 1 ∧ (i = l.length + 1 → a = i) ∧ iv = .int .i64 i ∧ fv = .int .i64 a ∧ ls.length ≤ a ∧ (∀ c ∈ (l.take i).drop a, c ≠ 10) ∧ OwnL wr (w.heap.size + 1) ov ls ∧ Has wr w.heap.size rf0 ∧ Nx w wr ∧
    LRes.pre ls (linesR (ls.length + 1) (restL l a)) = V

set_option maxHeartbeats 4000000 in
set_option maxRecDepth 100000 in
theorem lines_any (v : Value) (l : List UInt8) (w : World) (hB : Bys w v l) (hl : l.length ≤ 65536) : Calls Tryd.prog 43 #[v] w (RetLines (srcR l) w) := by
  obtain ⟨i0, hi, hz0, hz1, hz2⟩ := info_parts toks_info
  have HI := Lib.hid (And.intro hi (And.intro hz0 (And.intro hz1 hz2)))
  clear hi hz0 hz1 hz2
  obtain ⟨A, c, rfl, hc1, hc2, hA⟩ := hB.form
  have HA := Lib.hid hA
  clear hA
  have HV := Lib.hid (show LRes.pre [] (linesR (0 + 1) (restL l 0)) = srcR l by
    have h1 : restL l 0 = splitL l := by unfold restL; rw [if_pos (Nat.zero_le _), List.drop_zero]
    have h2 : srcR l = linesR 1 (splitL l) := by unfold srcR; rw [if_neg (by omega)]
    rw [pre_nil, h1, h2])
  generalize srcR l = V at *
  clear hB
  unfold maxLen at hc2
  have d0 : decide ((65536 : Int) < l.length) = false := decide_eq_false (by omega)
  go_enter Tryd.func43, Tryd.ntmps43
  go_wp2
  go_loopw [4, 5, 6] (fun ov fv iv wr => SrcRel l w wr V ov fv iv) (fun _ _ iv _ => l.length + 1 - (intOf iv).toNat)
  case atStart => exact ⟨0, 0, [], Nat.le_refl _, Nat.zero_le _, (fun h => by omega), rfl, rfl, Nat.le_refl _, (fun c h => by simp at h), OwnL.nil _ _, Has.new w rf0, (Nx.refl w).alloc _, HV.out⟩
  case round =>
    obtain ⟨i, a, ls, hai, hi1, hend, rfl, rfl, hla, hno, hown, hh, hnx, hV⟩ := hrel
    have HNX := Lib.hid hnx
    have HO := Lib.hid hown
    have HH := Lib.hid hh
    have HNO := Lib.hid hno
    have zb := HH.out.lt
    obtain ⟨Av, cv, rfl⟩ := hown.form
    clear hnx hown hh hno
    by_cases hi2 : i ≤ l.length
    · have step : (i < l.length ∧ ∃ x, l[i]? = some x ∧ x ≠ 10) ∨ (restL l a = (l.take i).drop a :: restL l (i + 1) ∧ ((i < l.length ∧ l[i]? = some 10) ∨ i = l.length)) := by
        by_cases hlt : i < l.length
        · obtain ⟨x, hx⟩ : ∃ x, l[i]? = some x := ⟨_, List.getElem?_eq_getElem hlt⟩
          by_cases h10 : x = 10
          · subst h10
            exact Or.inr ⟨restL_feed l a i hai hx HNO.out, Or.inl ⟨hlt, hx⟩⟩
          · exact Or.inl ⟨hlt, x, hx, h10⟩
        · obtain rfl : i = l.length := by omega
          refine Or.inr ⟨?_, Or.inr rfl⟩
          have h := HNO.out
          rw [List.take_length] at h ⊢
          exact restL_end l a hai h
      rcases step with ⟨hlt, x, hx, h10⟩ | ⟨hrest, hcase⟩
      · obtain ⟨g, o, rfl, hcells⟩ : ∃ g o, A = some ⟨g, o, none⟩ ∧ ∀ (k : Nat) (b : UInt8), l[k]? = some b → w.cell? ⟨g, o + k, none⟩ = some (.int .u8 b.toNat) := by
          rcases HA.out with ⟨h, _⟩ | h
          · subst h; cases hx
          · exact h
        have cx := HNX.out.cell (hcells i x hx)
        have b10 : ((x.toNat : Int) != 10) = true := by
          have := u8n x 10 (by omega) false (beq_eq_false_iff_ne.2 h10)
          simpa using this
        have HN2 := Lib.hid (nofeed_snoc l a i hai x hx h10 HNO.out)
        have HV2 := Lib.hid hV
        clear hV hcells hx h10 HV
        go_wp2
        go_roundw
        case rel => exact ⟨i + 1, a, ls, by omega, by omega, (fun h => by omega), by go_num, rfl, hla, HN2.out, HO.out, HH.out, HNX.out, HV2.out⟩
        case measure => simp [intOf]; omega
      · rw [hrest, linesR_cons] at hV
        rcases hcase with ⟨hlt, hx⟩ | hlen
        · obtain ⟨g, o, rfl, hcells⟩ : ∃ g o, A = some ⟨g, o, none⟩ ∧ ∀ (k : Nat) (b : UInt8), l[k]? = some b → w.cell? ⟨g, o + k, none⟩ = some (.int .u8 b.toNat) := by
            rcases HA.out with ⟨h, _⟩ | h
            · subst h; cases hx
            · exact h
          have cx := HNX.out.cell (hcells i 10 hx)
          have cx : wr.cell? ⟨g, o + i, none⟩ = some (.int .u8 10) := cx
          have hconv := conv_cut wr g o c a i l (fun k b hk => HNX.out.cell (hcells k b hk)) hai hi2
          have CL := line_any ((l.take i).drop a) ((ls.length + 1 : Nat) : Int) wr (by rw [List.length_drop, List.length_take]; omega)
          generalize (l.take i).drop a = s at *
          have CL := Lib.hid (show Calls Tryd.prog 57 #[.string (B s), .int .i64 ((ls.length : Int) + 1)] wr (RetLine (lineT ((ls.length + 1 : Nat) : Int) 0 s) wr) from by have := CL; rwa [Int.natCast_add] at this)
          clear HV
          have haI : (a : Int) ≤ i := by omega
          have hacI : (a : Int) ≤ c := by omega
          have hicI : (i : Int) ≤ c := by omega
          have hlI : (ls.length : Int) ≤ 65536 := by omega
          clear hrest hx hcells HNO
          go_wp2_with fail
          refine CL.out.mono ?_
          rintro e w2 hr
          obtain ⟨v2, fa, fb, fc, rfl, hn2, hres⟩ := hr
          have HX2 := Lib.hid (HNX.out.trans hn2)
          have HO2 := Lib.hid (HO.out.nx hn2)
          have HH2 := Lib.hid (HH.out.nx hn2)
          have zb2 := HH2.out.lt
          have HS2 := Lib.hid hn2.size
          clear hn2
          rcases hres with ⟨ts, hR, htok, rfl, rfl, rfl⟩ | ⟨hR, rfl, hc0⟩
          · rw [hR] at hV
            obtain ⟨A2, c2, rfl, _⟩ := htok.1.form
            have HV2 := Lib.hid hV
            have HT := Lib.hid htok
            clear hV hR htok
            obtain ⟨us, hus, husl, hus2⟩ := (HO2.out.nx (((Nx.refl w2).alloc (.cells #[.int .i64 0, .int .i64 0, .int .i64 0] 30)).alloc (.cells #[.slice A2 ts.length c2] 37))).parts
            have HU := Lib.hid hus
            have HU2 := Lib.hid hus2
            have HUL := Lib.hid husl
            have HHA := Lib.hid ((HH2.out.alloc (.cells #[.int .i64 0, .int .i64 0, .int .i64 0] 30)).alloc (.cells #[.slice A2 ts.length c2] 37))
            have HTA := Lib.hid (HT.out.1.nx (((Nx.refl w2).alloc (.cells #[.int .i64 0, .int .i64 0, .int .i64 0] 30)).alloc (.cells #[.slice A2 ts.length c2] 37)))
            have HTB := Lib.hid (fun g (hg : (Value.slice A2 ts.length c2).ownBlock = some g) => (show w.heap.size + 1 ≤ g ∧ g < w2.heap.size + 1 + 1 ∧ (Value.slice Av ls.length cv).ownBlock ≠ some g from by
              obtain ⟨h1, h2⟩ := HT.out.2 g hg
              refine ⟨by omega, by omega, fun e => ?_⟩
              have := (HO.out.lt g e).2
              omega))
            clear hus hus2 husl HT
            obtain ⟨hi, hz0, hz1, hz2⟩ := HI.out
            go_wp2_with (at_builtin; refine wpList_append_c _ rfl _ _ 22 rfl (w.heap.size + 1) 37 i0 (.slice none 0 0) 1 24 Tryd.underlying22 hi hz0 hz1 hz2 rfl (by decide) _ _ _ rfl HU.out (some ⟨w2.heap.size + 1, 0, none⟩) 1 1 [.slice A2 ts.length c2] rfl rfl (Or.inr ⟨_, rfl, ?c1⟩) ?c2 ?c3 ?c4 ?c5 ?_)
            case c1 =>
              have h6 := six_at (w2.alloc (.cells #[.int .i64 0, .int .i64 0, .int .i64 0] 30)) [.slice A2 ts.length c2] 37
              rw [show (w2.alloc (.cells #[.int .i64 0, .int .i64 0, .int .i64 0] 30)).heap.size = w2.heap.size + 1 by simp] at h6
              exact h6
            case c2 => simp [Value.oneCell']
            case c3 => unfold maxLen; omega
            case c4 => omega
            case c5 => have := HX2.out.size; simp; omega
            intro v3 w3 hown3 hgr3 hbl3
            have HX3 := Lib.hid (show Nx w w3 from Below.grown ((HX2.out.alloc _).alloc _) hgr3 (by have := HX2.out.size; simp; omega) (fun k hk => by have := (HU.out.lt k hk).1; omega))
            have HH3 := Lib.hid (HHA.out.keep_grown hgr3 (fun e => by have := (HU.out.lt _ e).1; omega))
            have HO3 := Lib.hid (OwnL.push HUL.out HU2.out HTA.out (by intro g hg; have := HTB.out g hg; simpa using this) hgr3 (by simpa using hbl3) hown3)
            clear hown3 hgr3 hbl3
            go_wp2
            go_roundw
            case rel => exact ⟨i + 1, i + 1, ls ++ [ts], Nat.le_refl _, by omega, (fun _ => rfl), by go_num, by go_num, by simp; omega, (fun c h => by rw [List.drop_eq_nil_of_le (by rw [List.length_take]; omega)] at h; cases h), HO3.out, HH3.out, HX3.out, by rw [← HV2.out]; show _ = LRes.pre ls (LRes.pre [ts] _); rw [pre_pre]; simp⟩
            case measure => simp [intOf]; omega
          · rw [hR] at hV
            have HV2 := Lib.hid (show LRes.bad fa fb fc = V from hV)
            clear hV hR
            have bc : decide (0 < fc) = true := decide_eq_true hc0
            have hh := HH2.out
            unfold rf0 at hh
            have r0 := hh.cell 0 _ rfl
            have r1 := hh.cell 1 _ rfl
            have r2 := hh.cell 2 _ rfl
            have f0 := hh.free 0
            have f1 := hh.free 1
            have f2 := hh.free 2
            have HC0 := Lib.hid hc0
            clear hh hc0
            go_wp2
            go_region
            all_goals go_wp2
            all_goals
              refine bodyPost_ret (v := .tuple #[.slice none 0 0, .agg #[.int .i64 fa, .int .i64 fb, .int .i64 fc]]) (by simp [results, Tryd.results43, go_sem, r0, r1, r2, f0, f1, f2, World.cell?_alloc_lt, zb2]) rfl ?_
              exact ⟨_, _, _, _, rfl, by repeat (with_reducible first | exact HX2.out | refine Nx.drew ?_ | refine Nx.setCell ?_ (Nat.le_refl _) _ | refine Nx.alloc ?_ _), Or.inr ⟨HV2.out.symm, rfl, HC0.out⟩⟩
        · have hltI : decide ((i : Int) < l.length) = false := decide_eq_false (by omega)
          have hge : l.length ≤ i := by omega
          clear hlen
          by_cases hac : a < c
          · obtain ⟨g, o, rfl, hcells⟩ : ∃ g o, A = some ⟨g, o, none⟩ ∧ ∀ (k : Nat) (b : UInt8), l[k]? = some b → w.cell? ⟨g, o + k, none⟩ = some (.int .u8 b.toNat) := by
              rcases HA.out with ⟨_, h⟩ | h
              · omega
              · exact h
            have hconv := conv_cut wr g o c a i l (fun k b hk => HNX.out.cell (hcells k b hk)) hai hi2
            have CL := line_any ((l.take i).drop a) ((ls.length + 1 : Nat) : Int) wr (by rw [List.length_drop, List.length_take]; omega)
            generalize (l.take i).drop a = s at *
            have CL := Lib.hid (show Calls Tryd.prog 57 #[.string (B s), .int .i64 ((ls.length : Int) + 1)] wr (RetLine (lineT ((ls.length + 1 : Nat) : Int) 0 s) wr) from by have := CL; rwa [Int.natCast_add] at this)
            clear HV
            have haI : (a : Int) ≤ i := by omega
            have hacI : (a : Int) ≤ c := by omega
            have hicI : (i : Int) ≤ c := by omega
            have hlI : (ls.length : Int) ≤ 65536 := by omega
            clear hrest hcells HNO
            go_wp2_with fail
            refine CL.out.mono ?_
            rintro e w2 hr
            obtain ⟨v2, fa, fb, fc, rfl, hn2, hres⟩ := hr
            have HX2 := Lib.hid (HNX.out.trans hn2)
            have HO2 := Lib.hid (HO.out.nx hn2)
            have HH2 := Lib.hid (HH.out.nx hn2)
            have zb2 := HH2.out.lt
            have HS2 := Lib.hid hn2.size
            clear hn2
            rcases hres with ⟨ts, hR, htok, rfl, rfl, rfl⟩ | ⟨hR, rfl, hc0⟩
            · rw [hR] at hV
              obtain ⟨A2, c2, rfl, _⟩ := htok.1.form
              have HV2 := Lib.hid hV
              have HT := Lib.hid htok
              clear hV hR htok
              obtain ⟨us, hus, husl, hus2⟩ := (HO2.out.nx (((Nx.refl w2).alloc (.cells #[.int .i64 0, .int .i64 0, .int .i64 0] 30)).alloc (.cells #[.slice A2 ts.length c2] 37))).parts
              have HU := Lib.hid hus
              have HU2 := Lib.hid hus2
              have HUL := Lib.hid husl
              have HHA := Lib.hid ((HH2.out.alloc (.cells #[.int .i64 0, .int .i64 0, .int .i64 0] 30)).alloc (.cells #[.slice A2 ts.length c2] 37))
              have HTA := Lib.hid (HT.out.1.nx (((Nx.refl w2).alloc (.cells #[.int .i64 0, .int .i64 0, .int .i64 0] 30)).alloc (.cells #[.slice A2 ts.length c2] 37)))
              have HTB := Lib.hid (fun g (hg : (Value.slice A2 ts.length c2).ownBlock = some g) => (show w.heap.size + 1 ≤ g ∧ g < w2.heap.size + 1 + 1 ∧ (Value.slice Av ls.length cv).ownBlock ≠ some g from by
                obtain ⟨h1, h2⟩ := HT.out.2 g hg
                refine ⟨by omega, by omega, fun e => ?_⟩
                have := (HO.out.lt g e).2
                omega))
              clear hus hus2 husl HT
              obtain ⟨hi, hz0, hz1, hz2⟩ := HI.out
              go_wp2_with (at_builtin; refine wpList_append_c _ rfl _ _ 22 rfl (w.heap.size + 1) 37 i0 (.slice none 0 0) 1 24 Tryd.underlying22 hi hz0 hz1 hz2 rfl (by decide) _ _ _ rfl HU.out (some ⟨w2.heap.size + 1, 0, none⟩) 1 1 [.slice A2 ts.length c2] rfl rfl (Or.inr ⟨_, rfl, ?c1⟩) ?c2 ?c3 ?c4 ?c5 ?_)
              case c1 =>
                have h6 := six_at (w2.alloc (.cells #[.int .i64 0, .int .i64 0, .int .i64 0] 30)) [.slice A2 ts.length c2] 37
                rw [show (w2.alloc (.cells #[.int .i64 0, .int .i64 0, .int .i64 0] 30)).heap.size = w2.heap.size + 1 by simp] at h6
                exact h6
              case c2 => simp [Value.oneCell']
              case c3 => unfold maxLen; omega
              case c4 => omega
              case c5 => have := HX2.out.size; simp; omega
              intro v3 w3 hown3 hgr3 hbl3
              have HX3 := Lib.hid (show Nx w w3 from Below.grown ((HX2.out.alloc _).alloc _) hgr3 (by have := HX2.out.size; simp; omega) (fun k hk => by have := (HU.out.lt k hk).1; omega))
              have HH3 := Lib.hid (HHA.out.keep_grown hgr3 (fun e => by have := (HU.out.lt _ e).1; omega))
              have HO3 := Lib.hid (OwnL.push HUL.out HU2.out HTA.out (by intro g hg; have := HTB.out g hg; simpa using this) hgr3 (by simpa using hbl3) hown3)
              clear hown3 hgr3 hbl3
              go_wp2
              go_roundw
              case rel => exact ⟨i + 1, i + 1, ls ++ [ts], Nat.le_refl _, by omega, (fun _ => rfl), by go_num, by go_num, by simp; omega, (fun c h => by rw [List.drop_eq_nil_of_le (by rw [List.length_take]; omega)] at h; cases h), HO3.out, HH3.out, HX3.out, by rw [← HV2.out]; show _ = LRes.pre ls (LRes.pre [ts] _); rw [pre_pre]; simp⟩
              case measure => simp [intOf]; omega
            · rw [hR] at hV
              have HV2 := Lib.hid (show LRes.bad fa fb fc = V from hV)
              clear hV hR
              have bc : decide (0 < fc) = true := decide_eq_true hc0
              have hh := HH2.out
              unfold rf0 at hh
              have r0 := hh.cell 0 _ rfl
              have r1 := hh.cell 1 _ rfl
              have r2 := hh.cell 2 _ rfl
              have f0 := hh.free 0
              have f1 := hh.free 1
              have f2 := hh.free 2
              have HC0 := Lib.hid hc0
              clear hh hc0
              go_wp2
              go_region
              all_goals go_wp2
              all_goals
                refine bodyPost_ret (v := .tuple #[.slice none 0 0, .agg #[.int .i64 fa, .int .i64 fb, .int .i64 fc]]) (by simp [results, Tryd.results43, go_sem, r0, r1, r2, f0, f1, f2, World.cell?_alloc_lt, zb2]) rfl ?_
                exact ⟨_, _, _, _, rfl, by repeat (with_reducible first | exact HX2.out | refine Nx.drew ?_ | refine Nx.setCell ?_ (Nat.le_refl _) _ | refine Nx.alloc ?_ _), Or.inr ⟨HV2.out.symm, rfl, HC0.out⟩⟩
          · have hconv := conv_none wr A
            have hs0 : (0 : Nat) = 0 := rfl
            have CL := line_any ((l.take i).drop a) ((ls.length + 1 : Nat) : Int) wr (by rw [List.length_drop, List.length_take]; omega)
            rw [List.drop_eq_nil_of_le (show (l.take i).length ≤ a by rw [List.length_take]; omega)] at CL hV
            generalize ([] : List UInt8) = s at *
            have CL := Lib.hid (show Calls Tryd.prog 57 #[.string (B s), .int .i64 ((ls.length : Int) + 1)] wr (RetLine (lineT ((ls.length + 1 : Nat) : Int) 0 s) wr) from by have := CL; rwa [Int.natCast_add] at this)
            clear HV
            have haI : (a : Int) ≤ i := by omega
            have hacI : (a : Int) ≤ c := by omega
            have hicI : (i : Int) ≤ c := by omega
            have hlI : (ls.length : Int) ≤ 65536 := by omega
            clear hrest hs0 HNO
            obtain rfl : a = i := by omega
            obtain rfl : a = c := by omega
            have d1 : decide ((a : Int) < a) = false := decide_eq_false (by omega)
            go_wp2_with fail
            refine CL.out.mono ?_
            rintro e w2 hr
            obtain ⟨v2, fa, fb, fc, rfl, hn2, hres⟩ := hr
            have HX2 := Lib.hid (HNX.out.trans hn2)
            have HO2 := Lib.hid (HO.out.nx hn2)
            have HH2 := Lib.hid (HH.out.nx hn2)
            have zb2 := HH2.out.lt
            have HS2 := Lib.hid hn2.size
            clear hn2
            rcases hres with ⟨ts, hR, htok, rfl, rfl, rfl⟩ | ⟨hR, rfl, hc0⟩
            · rw [hR] at hV
              obtain ⟨A2, c2, rfl, _⟩ := htok.1.form
              have HV2 := Lib.hid hV
              have HT := Lib.hid htok
              clear hV hR htok
              obtain ⟨us, hus, husl, hus2⟩ := (HO2.out.nx (((Nx.refl w2).alloc (.cells #[.int .i64 0, .int .i64 0, .int .i64 0] 30)).alloc (.cells #[.slice A2 ts.length c2] 37))).parts
              have HU := Lib.hid hus
              have HU2 := Lib.hid hus2
              have HUL := Lib.hid husl
              have HHA := Lib.hid ((HH2.out.alloc (.cells #[.int .i64 0, .int .i64 0, .int .i64 0] 30)).alloc (.cells #[.slice A2 ts.length c2] 37))
              have HTA := Lib.hid (HT.out.1.nx (((Nx.refl w2).alloc (.cells #[.int .i64 0, .int .i64 0, .int .i64 0] 30)).alloc (.cells #[.slice A2 ts.length c2] 37)))
              have HTB := Lib.hid (fun g (hg : (Value.slice A2 ts.length c2).ownBlock = some g) => (show w.heap.size + 1 ≤ g ∧ g < w2.heap.size + 1 + 1 ∧ (Value.slice Av ls.length cv).ownBlock ≠ some g from by
                obtain ⟨h1, h2⟩ := HT.out.2 g hg
                refine ⟨by omega, by omega, fun e => ?_⟩
                have := (HO.out.lt g e).2
                omega))
              clear hus hus2 husl HT
              obtain ⟨hi, hz0, hz1, hz2⟩ := HI.out
              go_wp2_with (at_builtin; refine wpList_append_c _ rfl _ _ 22 rfl (w.heap.size + 1) 37 i0 (.slice none 0 0) 1 24 Tryd.underlying22 hi hz0 hz1 hz2 rfl (by decide) _ _ _ rfl HU.out (some ⟨w2.heap.size + 1, 0, none⟩) 1 1 [.slice A2 ts.length c2] rfl rfl (Or.inr ⟨_, rfl, ?c1⟩) ?c2 ?c3 ?c4 ?c5 ?_)
              case c1 =>
                have h6 := six_at (w2.alloc (.cells #[.int .i64 0, .int .i64 0, .int .i64 0] 30)) [.slice A2 ts.length c2] 37
                rw [show (w2.alloc (.cells #[.int .i64 0, .int .i64 0, .int .i64 0] 30)).heap.size = w2.heap.size + 1 by simp] at h6
                exact h6
              case c2 => simp [Value.oneCell']
              case c3 => unfold maxLen; omega
              case c4 => omega
              case c5 => have := HX2.out.size; simp; omega
              intro v3 w3 hown3 hgr3 hbl3
              have HX3 := Lib.hid (show Nx w w3 from Below.grown ((HX2.out.alloc _).alloc _) hgr3 (by have := HX2.out.size; simp; omega) (fun k hk => by have := (HU.out.lt k hk).1; omega))
              have HH3 := Lib.hid (HHA.out.keep_grown hgr3 (fun e => by have := (HU.out.lt _ e).1; omega))
              have HO3 := Lib.hid (OwnL.push HUL.out HU2.out HTA.out (by intro g hg; have := HTB.out g hg; simpa using this) hgr3 (by simpa using hbl3) hown3)
              clear hown3 hgr3 hbl3
              go_wp2
              go_roundw
              case rel => exact ⟨a + 1, a + 1, ls ++ [ts], Nat.le_refl _, by omega, (fun _ => rfl), by go_num, by go_num, by simp; omega, (fun c h => by rw [List.drop_eq_nil_of_le (by rw [List.length_take]; omega)] at h; cases h), HO3.out, HH3.out, HX3.out, by rw [← HV2.out]; show _ = LRes.pre ls (LRes.pre [ts] _); rw [pre_pre]; simp⟩
              case measure => simp [intOf]; omega
            · rw [hR] at hV
              have HV2 := Lib.hid (show LRes.bad fa fb fc = V from hV)
              clear hV hR
              have bc : decide (0 < fc) = true := decide_eq_true hc0
              have hh := HH2.out
              unfold rf0 at hh
              have r0 := hh.cell 0 _ rfl
              have r1 := hh.cell 1 _ rfl
              have r2 := hh.cell 2 _ rfl
              have f0 := hh.free 0
              have f1 := hh.free 1
              have f2 := hh.free 2
              have HC0 := Lib.hid hc0
              clear hh hc0
              go_wp2
              go_region
              all_goals go_wp2
              all_goals
                refine bodyPost_ret (v := .tuple #[.slice none 0 0, .agg #[.int .i64 fa, .int .i64 fb, .int .i64 fc]]) (by simp [results, Tryd.results43, go_sem, r0, r1, r2, f0, f1, f2, World.cell?_alloc_lt, zb2]) rfl ?_
                exact ⟨_, _, _, _, rfl, by repeat (with_reducible first | exact HX2.out | refine Nx.drew ?_ | refine Nx.setCell ?_ (Nat.le_refl _) _ | refine Nx.alloc ?_ _), Or.inr ⟨HV2.out.symm, rfl, HC0.out⟩⟩
    · obtain rfl : i = l.length + 1 := by omega
      have ha := hend rfl
      subst ha
      rw [show restL l (l.length + 1) = [] by unfold restL; rw [if_neg (by omega)]] at hV
      have HV2 := Lib.hid (show LRes.ok (ls ++ []) = V from hV)
      have dl : decide (((l.length + 1 : Nat) : Int) ≤ l.length) = false := decide_eq_false (by omega)
      have hh := HH.out
      unfold rf0 at hh
      have r0 := hh.cell 0 _ rfl
      have r1 := hh.cell 1 _ rfl
      have r2 := hh.cell 2 _ rfl
      have f0 := hh.free 0
      have f1 := hh.free 1
      have f2 := hh.free 2
      clear hV hh HV hend
      go_wp2
      refine bodyPost_ret (v := .tuple #[.slice Av ls.length cv, .agg #[.int .i64 0, .int .i64 0, .int .i64 0]]) (by simp [results, Tryd.results43, go_sem, r0, r1, r2, f0, f1, f2]) rfl ?_
      exact ⟨_, 0, 0, 0, rfl, by repeat (with_reducible first | exact HNX.out | refine Nx.drew ?_ | refine Nx.setCell ?_ (Nat.le_refl _) _ | refine Nx.alloc ?_ _), Or.inl ⟨ls, by rw [← HV2.out, List.append_nil], by refine OwnL.lins (base := w.heap.size + 1) ?_; repeat (with_reducible first | exact HO.out | refine OwnL.set_ ?_ (Nat.lt_succ_self _) _), rfl, rfl, rfl⟩⟩

/-- A source that is too long. -/
theorem lines_long (v : Value) (l : List UInt8) (w : World) (hB : Bys w v l) (hl : 65536 < l.length) : Calls Tryd.prog 43 #[v] w (RetLines (srcR l) w) := by
  obtain ⟨A, c, rfl, hc1, hc2, hA⟩ := hB.form
  have HV := Lib.hid (show srcR l = .bad 1 1 12 by unfold srcR; rw [if_pos hl])
  generalize srcR l = V at *
  clear hB hA
  unfold maxLen at hc2
  have d0 : decide ((65536 : Int) < l.length) = true := decide_eq_true (by omega)
  go_enter Tryd.func43, Tryd.ntmps43
  go_wp2
  refine bodyPost_ret (v := .tuple #[.slice none 0 0, .agg #[.int .i64 1, .int .i64 1, .int .i64 12]]) (by simp [results, Tryd.results43, go_sem]) rfl ?_
  exact ⟨_, _, _, _, rfl, by repeat (with_reducible first | exact Nx.refl _ | refine Nx.drew ?_ | refine Nx.setCell ?_ (Nat.le_refl _) _ | refine Nx.alloc ?_ _), Or.inr ⟨HV.out, rfl, by decide⟩⟩

end Go.Proofs.YtbkgdepblaibkaaDoor
