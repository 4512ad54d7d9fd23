/- Parts of the proof, one behind the other. -/
import Derived.OwnWalk
import Derived.Laws.IdiomStrings
import Derived.Test.YtdgmdkkockbkjaaGreatDoorZkab
import Derived.Test.YtdgmdkkockbkjaaGreatDoorZkaf
/- Contracts of typecaseref10: Lines. -/
namespace Go.Proofs.YtdgmdkkockbkjaaGreatDoor
open Go.RowKit
set_option linter.unusedVariables false
set_option linter.unusedSimpArgs false

/-- Lines in memory of the call's own, each at a place of its own. -/
def OwnL (w : World) (base : Nat) (v : Value) (ls : List (List Tok)) : Prop :=
  ∃ us, OwnC w base 39 1 v ls.length us ∧ ∀ (k : Nat) (u : Value) (l : List Tok), us[k]? = some u → ls[k]? = some l → Toks w u l ∧ ∀ g, u.ownBlock = some g → base ≤ g ∧ g < w.heap.size ∧ v.ownBlock ≠ some g

theorem toks_kept {w w' : World} {u : Value} {l : List Tok} (h : Toks w u l) (hk : ∀ g, u.ownBlock = some g → ∀ o v, w.cell? ⟨g, o, none⟩ = some v → w'.cell? ⟨g, o, none⟩ = some v) : Toks w' u l := by
  rcases h with h | ⟨g, o, c, h1, h2, h3, h4⟩
  · exact Or.inl h
  · exact Or.inr ⟨g, o, c, h1, h2, h3, fun k t hkt j v hj => hk g (by rw [h1]; rfl) _ _ (h4 k t hkt j v hj)⟩

theorem toks_block {w w' : World} {u : Value} {l : List Tok} (h : Toks w u l) (hk : ∀ g, u.ownBlock = some g → w'.heap[g]? = w.heap[g]?) : Toks w' u l :=
  toks_kept h fun g hg o v hv => by rw [World.cell?_of_block (hk g hg)]; exact hv

theorem OwnL.parts {w : World} {base : Nat} {v : Value} {ls : List (List Tok)} (h : OwnL w base v ls) :
    ∃ us, OwnC w base 39 1 v ls.length us ∧ us.length = ls.length ∧ ∀ (k : Nat) (u : Value) (l : List Tok), us[k]? = some u → ls[k]? = some l → Toks w u l ∧ ∀ g, u.ownBlock = some g → base ≤ g ∧ g < w.heap.size ∧ v.ownBlock ≠ some g := by
  obtain ⟨us, h1, h2⟩ := h
  exact ⟨us, h1, by have := h1.1; omega, h2⟩

theorem OwnL.form {w : World} {base : Nat} {v : Value} {ls : List (List Tok)} (h : OwnL w base v ls) : ∃ A c, v = .slice A ls.length c := by
  obtain ⟨us, h1, _⟩ := h
  rcases h1.2 with ⟨hv, h0⟩ | ⟨g, cap, cur, hv, _⟩
  · exact ⟨none, 0, by rw [hv, h0]⟩
  · exact ⟨_, _, hv⟩

theorem OwnL.nil (w : World) (base : Nat) : OwnL w base (.slice none 0 0) [] := ⟨[], OwnC.nil _ _ _ _, fun k u l h => by cases h⟩

theorem OwnL.lt {w : World} {base : Nat} {v : Value} {ls : List (List Tok)} (h : OwnL w base v ls) : ∀ k, v.ownBlock = some k → base ≤ k ∧ k < w.heap.size := by
  obtain ⟨us, h1, _⟩ := h
  exact h1.lt

theorem OwnL.nx {w w' : World} {base : Nat} {v : Value} {ls : List (List Tok)} (h : OwnL w base v ls) (hn : Nx w w') : OwnL w' base v ls := by
  obtain ⟨us, h1, h2⟩ := h
  refine ⟨us, h1.nx hn, fun k u l hu hl => ?_⟩
  obtain ⟨h3, h4⟩ := h2 k u l hu hl
  exact ⟨h3.nx hn, fun g hg => ⟨(h4 g hg).1, Nat.lt_of_lt_of_le (h4 g hg).2.1 hn.size, (h4 g hg).2.2⟩⟩

theorem OwnL.set_ {w : World} {base : Nat} {v : Value} {ls : List (List Tok)} (h : OwnL w base v ls) {p : Addr} (hp : p.block < base) (x : Value) : OwnL (w.setCell p x) base v ls := by
  obtain ⟨us, h1, h2⟩ := h
  refine ⟨us, own_set h1 hp x, fun k u l hu hl => ?_⟩
  obtain ⟨h3, h4⟩ := h2 k u l hu hl
  exact ⟨toks_block h3 fun g hg => Below.heap_setCell w p x g (fun e => by have := (h4 g hg).1; omega), fun g hg => ⟨(h4 g hg).1, by simpa using (h4 g hg).2.1, (h4 g hg).2.2⟩⟩

theorem OwnL.lins {w : World} {base : Nat} {v : Value} {ls : List (List Tok)} (h : OwnL w base v ls) : Lins w v ls := by
  obtain ⟨us, h1, h2⟩ := h
  have hlen : us.length = ls.length := by have := h1.1; omega
  rcases h1.2 with ⟨hv, h0⟩ | ⟨g, cap, cur, hv, hb, hg, h3, h4, h5, h6⟩
  · exact Or.inl ⟨⟨none, by rw [hv]⟩, List.eq_nil_of_length_eq_zero h0⟩
  · refine Or.inr ⟨g, 0, cap, hv, h3, h4, fun k l hk => ?_⟩
    have hlt := (List.getElem?_eq_some_iff.1 hk).1
    have hu : us[k]? = some (us[k]'(by omega)) := List.getElem?_eq_getElem (by omega)
    refine ⟨_, ?_, (h2 k _ l hu hk).1⟩
    rw [Nat.zero_add]
    exact h1.cells (g := g) (by rw [hv]; rfl) k _ hu

/-- One line more. -/
theorem OwnL.push {w w' : World} {base : Nat} {v v' u : Value} {ls : List (List Tok)} {l : List Tok} {us : List Value} (hlen : us.length = ls.length)
    (h2 : ∀ (k : Nat) (u : Value) (l : List Tok), us[k]? = some u → ls[k]? = some l → Toks w u l ∧ ∀ g, u.ownBlock = some g → base ≤ g ∧ g < w.heap.size ∧ v.ownBlock ≠ some g)
    (ht : Toks w u l) (hu : ∀ g, u.ownBlock = some g → base ≤ g ∧ g < w.heap.size ∧ v.ownBlock ≠ some g)
    (hg : w.grownBy w' v.ownBlock) (hv : v'.ownBlock = v.ownBlock ∨ v'.ownBlock = some w.heap.size) (hown : OwnC w' base 39 1 v' (ls.length + 1) (us ++ [u])) : OwnL w' base v' (ls ++ [l]) := by
  have one : ∀ (x : Value) (y : List Tok), Toks w x y → (∀ g, x.ownBlock = some g → base ≤ g ∧ g < w.heap.size ∧ v.ownBlock ≠ some g) → Toks w' x y ∧ ∀ g, x.ownBlock = some g → base ≤ g ∧ g < w'.heap.size ∧ v'.ownBlock ≠ some g := by
    intro x y hx hb
    refine ⟨toks_block hx fun g hgx => hg.block g (hb g hgx).2.1 (fun e => (hb g hgx).2.2 e.symm), fun g hgx => ⟨(hb g hgx).1, Nat.lt_of_lt_of_le (hb g hgx).2.1 hg.size, ?_⟩⟩
    rcases hv with e | e
    · rw [e]; exact (hb g hgx).2.2
    · rw [e]; intro e2
      have := (hb g hgx).2.1
      injection e2 with e2
      omega
  refine ⟨us ++ [u], by simp only [List.length_append, List.length_singleton]; exact hown, fun k x y hx hy => ?_⟩
  rw [List.getElem?_append] at hx hy
  by_cases hk : k < ls.length
  · rw [if_pos (by omega)] at hx
    rw [if_pos hk] at hy
    obtain ⟨h3, h4⟩ := h2 k x y hx hy
    exact one x y h3 h4
  · rw [if_neg (by omega)] at hx
    rw [if_neg hk] at hy
    have hk0 : k - ls.length = 0 := by
      have := (List.getElem?_eq_some_iff.1 hy).1
      simpa using this
    rw [hlen, hk0] at hx
    rw [hk0] at hy
    simp at hx hy
    subst hx hy
    exact one _ _ ht hu

/-- What comes of a source. -/
def RetLines (r : LRes (List (List Tok))) (w : World) (e : Ending) (w' : World) : Prop :=
  ∃ v a b c, e = .returned (.tuple #[v, .agg #[.int .i64 a, .int .i64 b, .int .i64 c]]) ∧ Nx w w' ∧ ((∃ ls, r = .ok ls ∧ Lins w' v ls ∧ a = 0 ∧ b = 0 ∧ c = 0) ∨ (r = .bad a b c ∧ v = .slice none 0 0 ∧ 0 < c))

theorem toks_info : (Tryz.prog.info? 39).map (fun i => (i.zero, i.size, i.bytes)) = some (some (.slice none 0 0), 1, 24) := by kernel_rfl

theorem conv_cut (w : World) (g o c a i : Nat) (l : List UInt8) (hc : ∀ (k : Nat) (b : UInt8), l[k]? = some b → w.cell? ⟨g, o + k, none⟩ = some (.int .u8 b.toNat)) (hai : a ≤ i) (hil : i ≤ l.length) :
    (convert 32 9 (.slice (some ⟨g, o + a, none⟩) (i - a) (c - a))).run Tryz.prog w = .ok (.string (B ((l.take i).drop a))) w := by
  have hlen : ((l.take i).drop a).length = i - a := by rw [List.length_drop, List.length_take]; omega
  have h := run_convert_bytes_back (P := Tryz.prog) w 32 9 5 ⟨g, o + a, none⟩ (c - a) ((l.take i).drop a) Tryz.underlying32 Tryz.underlying5 Tryz.underlying9 (fun j hj => by
    rw [add_flat]
    have hg : ((l.take i).drop a)[j]? = some ((l.take i).drop a)[j] := List.getElem?_eq_getElem hj
    rw [List.getElem?_drop, List.getElem?_take_of_lt (by omega)] at hg
    rw [← hc (a + j) _ hg, Nat.add_assoc])
  rw [hlen] at h
  exact h

theorem conv_none (w : World) (A : Option Addr) : (convert 32 9 (.slice A 0 0)).run Tryz.prog w = .ok (.string (B [])) w := by
  cases A with
  | none => kernel_rfl
  | some a => exact run_convert_bytes_back (P := Tryz.prog) w 32 9 5 a 0 [] Tryz.underlying32 Tryz.underlying5 Tryz.underlying9 (fun j hj => by simp at hj)

/-- What holds at a round's head. -/
def SrcRel (l : List UInt8) (w wr : World) (V : LRes (List (List Tok))) (ov fv iv : Value) : Prop :=
  ∃ (i a : Nat) (ls : List (List Tok)), a ≤ i ∧ i ≤ l.length + 1 ∧ (i = l.length + 1 → a = i) ∧ iv = .int .i64 i ∧ fv = .int .i64 a ∧ ls.length ≤ a ∧ (∀ c ∈ (l.take i).drop a, c ≠ 10) ∧ OwnL wr (w.heap.size + 1) ov ls ∧ Has wr w.heap.size rf0 ∧ Nx w wr ∧
    LRes.pre ls (linesR (ls.length + 1) (restL l a)) = V

set_option maxHeartbeats 4000000 in
set_option maxRecDepth 100000 in
theorem lines_any (v : Value) (l : List UInt8) (w : World) (hB : Bys w v l) (hl : l.length ≤ 65536) : Calls Tryz.prog 6 #[v] w (RetLines (srcR l) w) := by
  obtain ⟨i0, hi, hz0, hz1, hz2⟩ := info_parts toks_info
  have HI := Lib.hid (And.intro hi (And.intro hz0 (And.intro hz1 hz2)))
  clear hi hz0 hz1 hz2
  obtain ⟨A, c, rfl, hc1, hc2, hA⟩ := hB.form
  have HA := Lib.hid hA
  clear hA
  have HV := Lib.hid (show LRes.pre [] (linesR (0 + 1) (restL l 0)) = srcR l by
    have h1 : restL l 0 = splitL l := by unfold restL; rw [if_pos (Nat.zero_le _), List.drop_zero]
    have h2 : srcR l = linesR 1 (splitL l) := by unfold srcR; rw [if_neg (by omega)]
    rw [pre_nil, h1, h2])
  generalize srcR l = V at *
  clear hB
  unfold maxLen at hc2
  have d0 : decide ((65536 : Int) < l.length) = false := decide_eq_false (by omega)
  go_enter Tryz.func6, Tryz.ntmps6
  go_wp2
  go_loopw [4, 5, 6] (fun ov fv iv wr => SrcRel l w wr V ov fv iv) (fun _ _ iv _ => l.length + 1 - (intOf iv).toNat)
  case atStart => exact ⟨0, 0, [], Nat.le_refl _, Nat.zero_le _, (fun h => by omega), rfl, rfl, Nat.le_refl _, (fun c h => by simp at h), OwnL.nil _ _, Has.new w rf0, (Nx.refl w).alloc _, HV.out⟩
  case round =>
    obtain ⟨i, a, ls, hai, hi1, hend, rfl, rfl, hla, hno, hown, hh, hnx, hV⟩ := hrel
    have HNX := Lib.hid hnx
    have HO := Lib.hid hown
    have HH := Lib.hid hh
    have HNO := Lib.hid hno
    have zb := HH.out.lt
    obtain ⟨Av, cv, rfl⟩ := hown.form
    clear hnx hown hh hno
    by_cases hi2 : i ≤ l.length
    · have step : (i < l.length ∧ ∃ x, l[i]? = some x ∧ x ≠ 10) ∨ (restL l a = (l.take i).drop a :: restL l (i + 1) ∧ ((i < l.length ∧ l[i]? = some 10) ∨ i = l.length)) := by
        by_cases hlt : i < l.length
        · obtain ⟨x, hx⟩ : ∃ x, l[i]? = some x := ⟨_, List.getElem?_eq_getElem hlt⟩
          by_cases h10 : x = 10
          · subst h10
            exact Or.inr ⟨restL_feed l a i hai hx HNO.out, Or.inl ⟨hlt, hx⟩⟩
          · exact Or.inl ⟨hlt, x, hx, h10⟩
        · obtain rfl : i = l.length := by omega
          refine Or.inr ⟨?_, Or.inr rfl⟩
          have h := HNO.out
          rw [List.take_length] at h ⊢
          exact restL_end l a hai h
      rcases step with ⟨hlt, x, hx, h10⟩ | ⟨hrest, hcase⟩
      · obtain ⟨g, o, rfl, hcells⟩ : ∃ g o, A = some ⟨g, o, none⟩ ∧ ∀ (k : Nat) (b : UInt8), l[k]? = some b → w.cell? ⟨g, o + k, none⟩ = some (.int .u8 b.toNat) := by
          rcases HA.out with ⟨h, _⟩ | h
          · subst h; cases hx
          · exact h
        have cx := HNX.out.cell (hcells i x hx)
        have b10 : ((x.toNat : Int) != 10) = true := by
          have := u8n x 10 (by omega) false (beq_eq_false_iff_ne.2 h10)
          simpa using this
        have HN2 := Lib.hid (nofeed_snoc l a i hai x hx h10 HNO.out)
        have HV2 := Lib.hid hV
        clear hV hcells hx h10 HV
        go_wp2
        go_roundw
        case rel => exact ⟨i + 1, a, ls, by omega, by omega, (fun h => by omega), by go_num, rfl, hla, HN2.out, HO.out, HH.out, HNX.out, HV2.out⟩
        case measure => simp [intOf]; omega
      · rw [hrest, linesR_cons] at hV
        rcases hcase with ⟨hlt, hx⟩ | hlen
        · obtain ⟨g, o, rfl, hcells⟩ : ∃ g o, A = some ⟨g, o, none⟩ ∧ ∀ (k : Nat) (b : UInt8), l[k]? = some b → w.cell? ⟨g, o + k, none⟩ = some (.int .u8 b.toNat) := by
            rcases HA.out with ⟨h, _⟩ | h
            · subst h; cases hx
            · exact h
          have cx := HNX.out.cell (hcells i 10 hx)
          have cx : wr.cell? ⟨g, o + i, none⟩ = some (.int .u8 10) := cx
          have hconv := conv_cut wr g o c a i l (fun k b hk => HNX.out.cell (hcells k b hk)) hai hi2
          have CL := line_any ((l.take i).drop a) ((ls.length + 1 : Nat) : Int) wr (by rw [List.length_drop, List.length_take]; omega)
          generalize (l.take i).drop a = s at *
          have CL := Lib.hid (show Calls Tryz.prog 17 #[.string (B s), .int .i64 ((ls.length : Int) + 1)] wr (RetLine (lineT ((ls.length + 1 : Nat) : Int) 0 s) wr) from by have := CL; rwa [Int.natCast_add] at this)
          clear HV
          have haI : (a : Int) ≤ i := by omega
          have hacI : (a : Int) ≤ c := by omega
          have hicI : (i : Int) ≤ c := by omega
          have hlI : (ls.length : Int) ≤ 65536 := by omega
          clear hrest hx hcells HNO
          go_wp2_with fail
          refine CL.out.mono ?_
          rintro e w2 hr
          obtain ⟨v2, fa, fb, fc, rfl, hn2, hres⟩ := hr
          have HX2 := Lib.hid (HNX.out.trans hn2)
          have HO2 := Lib.hid (HO.out.nx hn2)
          have HH2 := Lib.hid (HH.out.nx hn2)
          have zb2 := HH2.out.lt
          have HS2 := Lib.hid hn2.size
          clear hn2
          rcases hres with ⟨ts, hR, htok, rfl, rfl, rfl⟩ | ⟨hR, rfl, hc0⟩
          · rw [hR] at hV
            obtain ⟨A2, c2, rfl, _⟩ := htok.1.form
            have HV2 := Lib.hid hV
            have HT := Lib.hid htok
            clear hV hR htok
            obtain ⟨us, hus, husl, hus2⟩ := (HO2.out.nx (((Nx.refl w2).alloc (.cells #[.int .i64 0, .int .i64 0, .int .i64 0] 29)).alloc (.cells #[.slice A2 ts.length c2] 39))).parts
            have HU := Lib.hid hus
            have HU2 := Lib.hid hus2
            have HUL := Lib.hid husl
            have HHA := Lib.hid ((HH2.out.alloc (.cells #[.int .i64 0, .int .i64 0, .int .i64 0] 29)).alloc (.cells #[.slice A2 ts.length c2] 39))
            have HTA := Lib.hid (HT.out.1.nx (((Nx.refl w2).alloc (.cells #[.int .i64 0, .int .i64 0, .int .i64 0] 29)).alloc (.cells #[.slice A2 ts.length c2] 39)))
            have HTB := Lib.hid (fun g (hg : (Value.slice A2 ts.length c2).ownBlock = some g) => (show w.heap.size + 1 ≤ g ∧ g < w2.heap.size + 1 + 1 ∧ (Value.slice Av ls.length cv).ownBlock ≠ some g from by
              obtain ⟨h1, h2⟩ := HT.out.2 g hg
              refine ⟨by omega, by omega, fun e => ?_⟩
              have := (HO.out.lt g e).2
              omega))
            clear hus hus2 husl HT
            obtain ⟨hi, hz0, hz1, hz2⟩ := HI.out
            go_wp2_with (at_builtin; refine wpList_append_c _ rfl _ _ 27 rfl (w.heap.size + 1) 39 i0 (.slice none 0 0) 1 24 Tryz.underlying27 hi hz0 hz1 hz2 rfl (by decide) _ _ _ rfl HU.out (some ⟨w2.heap.size + 1, 0, none⟩) 1 1 [.slice A2 ts.length c2] rfl rfl (Or.inr ⟨_, rfl, ?c1⟩) ?c2 ?c3 ?c4 ?c5 ?_)
            case c1 =>
              have h6 := six_at (w2.alloc (.cells #[.int .i64 0, .int .i64 0, .int .i64 0] 29)) [.slice A2 ts.length c2] 39
              rw [show (w2.alloc (.cells #[.int .i64 0, .int .i64 0, .int .i64 0] 29)).heap.size = w2.heap.size + 1 by simp] at h6
              exact h6
            case c2 => simp [Value.oneCell']
            case c3 => unfold maxLen; omega
            case c4 => omega
            case c5 => have := HX2.out.size; simp; omega
            intro v3 w3 hown3 hgr3 hbl3
            have HX3 := Lib.hid (show Nx w w3 from Below.grown ((HX2.out.alloc _).alloc _) hgr3 (by have := HX2.out.size; simp; omega) (fun k hk => by have := (HU.out.lt k hk).1; omega))
            have HH3 := Lib.hid (HHA.out.keep_grown hgr3 (fun e => by have := (HU.out.lt _ e).1; omega))
            have HO3 := Lib.hid (OwnL.push HUL.out HU2.out HTA.out (by intro g hg; have := HTB.out g hg; simpa using this) hgr3 (by simpa using hbl3) hown3)
            clear hown3 hgr3 hbl3
            go_wp2
            go_roundw
            case rel => exact ⟨i + 1, i + 1, ls ++ [ts], Nat.le_refl _, by omega, (fun _ => rfl), by go_num, by go_num, by simp; omega, (fun c h => by rw [List.drop_eq_nil_of_le (by rw [List.length_take]; omega)] at h; cases h), HO3.out, HH3.out, HX3.out, by rw [← HV2.out]; show _ = LRes.pre ls (LRes.pre [ts] _); rw [pre_pre]; simp⟩
            case measure => simp [intOf]; omega
          · rw [hR] at hV
            have HV2 := Lib.hid (show LRes.bad fa fb fc = V from hV)
            clear hV hR
            have bc : decide (0 < fc) = true := decide_eq_true hc0
            have hh := HH2.out
            unfold rf0 at hh
            have r0 := hh.cell 0 _ rfl
            have r1 := hh.cell 1 _ rfl
            have r2 := hh.cell 2 _ rfl
            have f0 := hh.free 0
            have f1 := hh.free 1
            have f2 := hh.free 2
            have HC0 := Lib.hid hc0
            clear hh hc0
            go_wp2
            go_region
            all_goals go_wp2
            all_goals
              refine bodyPost_ret (v := .tuple #[.slice none 0 0, .agg #[.int .i64 fa, .int .i64 fb, .int .i64 fc]]) (by simp [results, Tryz.results6, go_sem, r0, r1, r2, f0, f1, f2, World.cell?_alloc_lt, zb2]) rfl ?_
              exact ⟨_, _, _, _, rfl, by repeat (with_reducible first | exact HX2.out | refine Nx.drew ?_ | refine Nx.setCell ?_ (Nat.le_refl _) _ | refine Nx.alloc ?_ _), Or.inr ⟨HV2.out.symm, rfl, HC0.out⟩⟩
        · have hltI : decide ((i : Int) < l.length) = false := decide_eq_false (by omega)
          have hge : l.length ≤ i := by omega
          clear hlen
          by_cases hac : a < c
          · obtain ⟨g, o, rfl, hcells⟩ : ∃ g o, A = some ⟨g, o, none⟩ ∧ ∀ (k : Nat) (b : UInt8), l[k]? = some b → w.cell? ⟨g, o + k, none⟩ = some (.int .u8 b.toNat) := by
              rcases HA.out with ⟨_, h⟩ | h
              · omega
              · exact h
            have hconv := conv_cut wr g o c a i l (fun k b hk => HNX.out.cell (hcells k b hk)) hai hi2
            have CL := line_any ((l.take i).drop a) ((ls.length + 1 : Nat) : Int) wr (by rw [List.length_drop, List.length_take]; omega)
            generalize (l.take i).drop a = s at *
            have CL := Lib.hid (show Calls Tryz.prog 17 #[.string (B s), .int .i64 ((ls.length : Int) + 1)] wr (RetLine (lineT ((ls.length + 1 : Nat) : Int) 0 s) wr) from by have := CL; rwa [Int.natCast_add] at this)
            clear HV
            have haI : (a : Int) ≤ i := by omega
            have hacI : (a : Int) ≤ c := by omega
            have hicI : (i : Int) ≤ c := by omega
            have hlI : (ls.length : Int) ≤ 65536 := by omega
            clear hrest hcells HNO
            go_wp2_with fail
            refine CL.out.mono ?_
            rintro e w2 hr
            obtain ⟨v2, fa, fb, fc, rfl, hn2, hres⟩ := hr
            have HX2 := Lib.hid (HNX.out.trans hn2)
            have HO2 := Lib.hid (HO.out.nx hn2)
            have HH2 := Lib.hid (HH.out.nx hn2)
            have zb2 := HH2.out.lt
            have HS2 := Lib.hid hn2.size
            clear hn2
            rcases hres with ⟨ts, hR, htok, rfl, rfl, rfl⟩ | ⟨hR, rfl, hc0⟩
            · rw [hR] at hV
              obtain ⟨A2, c2, rfl, _⟩ := htok.1.form
              have HV2 := Lib.hid hV
              have HT := Lib.hid htok
              clear hV hR htok
              obtain ⟨us, hus, husl, hus2⟩ := (HO2.out.nx (((Nx.refl w2).alloc (.cells #[.int .i64 0, .int .i64 0, .int .i64 0] 29)).alloc (.cells #[.slice A2 ts.length c2] 39))).parts
              have HU := Lib.hid hus
              have HU2 := Lib.hid hus2
              have HUL := Lib.hid husl
              have HHA := Lib.hid ((HH2.out.alloc (.cells #[.int .i64 0, .int .i64 0, .int .i64 0] 29)).alloc (.cells #[.slice A2 ts.length c2] 39))
              have HTA := Lib.hid (HT.out.1.nx (((Nx.refl w2).alloc (.cells #[.int .i64 0, .int .i64 0, .int .i64 0] 29)).alloc (.cells #[.slice A2 ts.length c2] 39)))
              have HTB := Lib.hid (fun g (hg : (Value.slice A2 ts.length c2).ownBlock = some g) => (show w.heap.size + 1 ≤ g ∧ g < w2.heap.size + 1 + 1 ∧ (Value.slice Av ls.length cv).ownBlock ≠ some g from by
                obtain ⟨h1, h2⟩ := HT.out.2 g hg
                refine ⟨by omega, by omega, fun e => ?_⟩
                have := (HO.out.lt g e).2
                omega))
              clear hus hus2 husl HT
              obtain ⟨hi, hz0, hz1, hz2⟩ := HI.out
              go_wp2_with (at_builtin; refine wpList_append_c _ rfl _ _ 27 rfl (w.heap.size + 1) 39 i0 (.slice none 0 0) 1 24 Tryz.underlying27 hi hz0 hz1 hz2 rfl (by decide) _ _ _ rfl HU.out (some ⟨w2.heap.size + 1, 0, none⟩) 1 1 [.slice A2 ts.length c2] rfl rfl (Or.inr ⟨_, rfl, ?c1⟩) ?c2 ?c3 ?c4 ?c5 ?_)
              case c1 =>
                have h6 := six_at (w2.alloc (.cells #[.int .i64 0, .int .i64 0, .int .i64 0] 29)) [.slice A2 ts.length c2] 39
                rw [show (w2.alloc (.cells #[.int .i64 0, .int .i64 0, .int .i64 0] 29)).heap.size = w2.heap.size + 1 by simp] at h6
                exact h6
              case c2 => simp [Value.oneCell']
              case c3 => unfold maxLen; omega
              case c4 => omega
              case c5 => have := HX2.out.size; simp; omega
              intro v3 w3 hown3 hgr3 hbl3
              have HX3 := Lib.hid (show Nx w w3 from Below.grown ((HX2.out.alloc _).alloc _) hgr3 (by have := HX2.out.size; simp; omega) (fun k hk => by have := (HU.out.lt k hk).1; omega))
              have HH3 := Lib.hid (HHA.out.keep_grown hgr3 (fun e => by have := (HU.out.lt _ e).1; omega))
              have HO3 := Lib.hid (OwnL.push HUL.out HU2.out HTA.out (by intro g hg; have := HTB.out g hg; simpa using this) hgr3 (by simpa using hbl3) hown3)
              clear hown3 hgr3 hbl3
              go_wp2
              go_roundw
              case rel => exact ⟨i + 1, i + 1, ls ++ [ts], Nat.le_refl _, by omega, (fun _ => rfl), by go_num, by go_num, by simp; omega, (fun c h => by rw [List.drop_eq_nil_of_le (by rw [List.length_take]; omega)] at h; cases h), HO3.out, HH3.out, HX3.out, by rw [← HV2.out]; show _ = LRes.pre ls (LRes.pre [ts] _); rw [pre_pre]; simp⟩
              case measure => simp [intOf]; omega
            · rw [hR] at hV
              have HV2 := Lib.hid (show LRes.bad fa fb fc = V from hV)
              clear hV hR
              have bc : decide (0 < fc) = true := decide_eq_true hc0
              have hh := HH2.out
              unfold rf0 at hh
              have r0 := hh.cell 0 _ rfl
              have r1 := hh.cell 1 _ rfl
              have r2 := hh.cell 2 _ rfl
              have f0 := hh.free 0
              have f1 := hh.free 1
              have f2 := hh.free 2
              have HC0 := Lib.hid hc0
              clear hh hc0
              go_wp2
              go_region
              all_goals go_wp2
              all_goals
                refine bodyPost_ret (v := .tuple #[.slice none 0 0, .agg #[.int .i64 fa, .int .i64 fb, .int .i64 fc]]) (by simp [results, Tryz.results6, go_sem, r0, r1, r2, f0, f1, f2, World.cell?_alloc_lt, zb2]) rfl ?_
                exact ⟨_, _, _, _, rfl, by repeat (with_reducible first | exact HX2.out | refine Nx.drew ?_ | refine Nx.setCell ?_ (Nat.le_refl _) _ | refine Nx.alloc ?_ _), Or.inr ⟨HV2.out.symm, rfl, HC0.out⟩⟩
          · have hconv := conv_none wr A
            have hs0 : (0 : Nat) = 0 := rfl
            have CL := line_any ((l.take i).drop a) ((ls.length + 1 : Nat) : Int) wr (by rw [List.length_drop, List.length_take]; omega)
            rw [List.drop_eq_nil_of_le (show (l.take i).length ≤ a by rw [List.length_take]; omega)] at CL hV
            generalize ([] : List UInt8) = s at *
            have CL := Lib.hid (show Calls Tryz.prog 17 #[.string (B s), .int .i64 ((ls.length : Int) + 1)] wr (RetLine (lineT ((ls.length + 1 : Nat) : Int) 0 s) wr) from by have := CL; rwa [Int.natCast_add] at this)
            clear HV
            have haI : (a : Int) ≤ i := by omega
            have hacI : (a : Int) ≤ c := by omega
            have hicI : (i : Int) ≤ c := by omega
            have hlI : (ls.length : Int) ≤ 65536 := by omega
            clear hrest hs0 HNO
            obtain rfl : a = i := by omega
            obtain rfl : a = c := by omega
            have d1 : decide ((a : Int) < a) = false := decide_eq_false (by omega)
            go_wp2_with fail
            refine CL.out.mono ?_
            rintro e w2 hr
            obtain ⟨v2, fa, fb, fc, rfl, hn2, hres⟩ := hr
            have HX2 := Lib.hid (HNX.out.trans hn2)
            have HO2 := Lib.hid (HO.out.nx hn2)
            have HH2 := Lib.hid (HH.out.nx hn2)
            have zb2 := HH2.out.lt
            have HS2 := Lib.hid hn2.size
            clear hn2
            rcases hres with ⟨ts, hR, htok, rfl, rfl, rfl⟩ | ⟨hR, rfl, hc0⟩
            · rw [hR] at hV
              obtain ⟨A2, c2, rfl, _⟩ := htok.1.form
              have HV2 := Lib.hid hV
              have HT := Lib.hid htok
              clear hV hR htok
              obtain ⟨us, hus, husl, hus2⟩ := (HO2.out.nx (((Nx.refl w2).alloc (.cells #[.int .i64 0, .int .i64 0, .int .i64 0] 29)).alloc (.cells #[.slice A2 ts.length c2] 39))).parts
              have HU := Lib.hid hus
              have HU2 := Lib.hid hus2
              have HUL := Lib.hid husl
              have HHA := Lib.hid ((HH2.out.alloc (.cells #[.int .i64 0, .int .i64 0, .int .i64 0] 29)).alloc (.cells #[.slice A2 ts.length c2] 39))
              have HTA := Lib.hid (HT.out.1.nx (((Nx.refl w2).alloc (.cells #[.int .i64 0, .int .i64 0, .int .i64 0] 29)).alloc (.cells #[.slice A2 ts.length c2] 39)))
              have HTB := Lib.hid (fun g (hg : (Value.slice A2 ts.length c2).ownBlock = some g) => (show w.heap.size + 1 ≤ g ∧ g < w2.heap.size + 1 + 1 ∧ (Value.slice Av ls.length cv).ownBlock ≠ some g from by
                obtain ⟨h1, h2⟩ := HT.out.2 g hg
                refine ⟨by omega, by omega, fun e => ?_⟩
                have := (HO.out.lt g e).2
                omega))
              clear hus hus2 husl HT
              obtain ⟨hi, hz0, hz1, hz2⟩ := HI.out
              go_wp2_with (at_builtin; refine wpList_append_c _ rfl _ _ 27 rfl (w.heap.size + 1) 39 i0 (.slice none 0 0) 1 24 Tryz.underlying27 hi hz0 hz1 hz2 rfl (by decide) _ _ _ rfl HU.out (some ⟨w2.heap.size + 1, 0, none⟩) 1 1 [.slice A2 ts.length c2] rfl rfl (Or.inr ⟨_, rfl, ?c1⟩) ?c2 ?c3 ?c4 ?c5 ?_)
              case c1 =>
                have h6 := six_at (w2.alloc (.cells #[.int .i64 0, .int .i64 0, .int .i64 0] 29)) [.slice A2 ts.length c2] 39
                rw [show (w2.alloc (.cells #[.int .i64 0, .int .i64 0, .int .i64 0] 29)).heap.size = w2.heap.size + 1 by simp] at h6
                exact h6
              case c2 => simp [Value.oneCell']
              case c3 => unfold maxLen; omega
              case c4 => omega
              case c5 => have := HX2.out.size; simp; omega
              intro v3 w3 hown3 hgr3 hbl3
              have HX3 := Lib.hid (show Nx w w3 from Below.grown ((HX2.out.alloc _).alloc _) hgr3 (by have := HX2.out.size; simp; omega) (fun k hk => by have := (HU.out.lt k hk).1; omega))
              have HH3 := Lib.hid (HHA.out.keep_grown hgr3 (fun e => by have := (HU.out.lt _ e).1; omega))
              have HO3 := Lib.hid (OwnL.push HUL.out HU2.out HTA.out (by intro g hg; have := HTB.out g hg; simpa using this) hgr3 (by simpa using hbl3) hown3)
              clear hown3 hgr3 hbl3
              go_wp2
              go_roundw
              case rel => exact ⟨a + 1, a + 1, ls ++ [ts], Nat.le_refl _, by omega, (fun _ => rfl), by go_num, by go_num, by simp; omega, (fun c h => by rw [List.drop_eq_nil_of_le (by rw [List.length_take]; omega)] at h; cases h), HO3.out, HH3.out, HX3.out, by rw [← HV2.out]; show _ = LRes.pre ls (LRes.pre [ts] _); rw [pre_pre]; simp⟩
              case measure => simp [intOf]; omega
            · rw [hR] at hV
              have HV2 := Lib.hid (show LRes.bad fa fb fc = V from hV)
              clear hV hR
              have bc : decide (0 < fc) = true := decide_eq_true hc0
              have hh := HH2.out
              unfold rf0 at hh
              have r0 := hh.cell 0 _ rfl
              have r1 := hh.cell 1 _ rfl
              have r2 := hh.cell 2 _ rfl
              have f0 := hh.free 0
              have f1 := hh.free 1
              have f2 := hh.free 2
              have HC0 := Lib.hid hc0
              clear hh hc0
              go_wp2
              go_region
              all_goals go_wp2
              all_goals
                refine bodyPost_ret (v := .tuple #[.slice none 0 0, .agg #[.int .i64 fa, .int .i64 fb, .int .i64 fc]]) (by simp [results, Tryz.results6, go_sem, r0, r1, r2, f0, f1, f2, World.cell?_alloc_lt, zb2]) rfl ?_
                exact ⟨_, _, _, _, rfl, by repeat (with_reducible first | exact HX2.out | refine Nx.drew ?_ | refine Nx.setCell ?_ (Nat.le_refl _) _ | refine Nx.alloc ?_ _), Or.inr ⟨HV2.out.symm, rfl, HC0.out⟩⟩
    · obtain rfl : i = l.length + 1 := by omega
      have ha := hend rfl
      subst ha
      rw [show restL l (l.length + 1) = [] by unfold restL; rw [if_neg (by omega)]] at hV
      have HV2 := Lib.hid (show LRes.ok (ls ++ []) = V from hV)
      have dl : decide (((l.length + 1 : Nat) : Int) ≤ l.length) = false := decide_eq_false (by omega)
      have hh := HH.out
      unfold rf0 at hh
      have r0 := hh.cell 0 _ rfl
      have r1 := hh.cell 1 _ rfl
      have r2 := hh.cell 2 _ rfl
      have f0 := hh.free 0
      have f1 := hh.free 1
      have f2 := hh.free 2
      clear hV hh HV hend
      go_wp2
      refine bodyPost_ret (v := .tuple #[.slice Av ls.length cv, .agg #[.int .i64 0, .int .i64 0, .int .i64 0]]) (by simp [results, Tryz.results6, go_sem, r0, r1, r2, f0, f1, f2]) rfl ?_
      exact ⟨_, 0, 0, 0, rfl, by repeat (with_reducible first | exact HNX.out | refine Nx.drew ?_ | refine Nx.setCell ?_ (Nat.le_refl _) _ | refine Nx.alloc ?_ _), Or.inl ⟨ls, by rw [← HV2.out, List.append_nil], by refine OwnL.lins (base := w.heap.size + 1) ?_; repeat (with_reducible first | exact HO.out | refine OwnL.set_ ?_ (Nat.lt_succ_self _) _), rfl, rfl, rfl⟩⟩

/-- A source that is too long. -/
theorem lines_long (v : Value) (l : List UInt8) (w : World) (hB : Bys w v l) (hl : 65536 < l.length) : Calls Tryz.prog 6 #[v] w (RetLines (srcR l) w) := by
  obtain ⟨A, c, rfl, hc1, hc2, hA⟩ := hB.form
  have HV := Lib.hid (show srcR l = .bad 1 1 12 by unfold srcR; rw [if_pos hl])
  generalize srcR l = V at *
  clear hB hA
  unfold maxLen at hc2
  have d0 : decide ((65536 : Int) < l.length) = true := decide_eq_true (by omega)
  go_enter Tryz.func6, Tryz.ntmps6
  go_wp2
  refine bodyPost_ret (v := .tuple #[.slice none 0 0, .agg #[.int .i64 1, .int .i64 1, .int .i64 12]]) (by simp [results, Tryz.results6, go_sem]) rfl ?_
  exact ⟨_, _, _, _, rfl, by repeat (with_reducible first | exact Nx.refl _ | refine Nx.drew ?_ | refine Nx.setCell ?_ (Nat.le_refl _) _ | refine Nx.alloc ?_ _), Or.inr ⟨HV.out, rfl, by decide⟩⟩

end Go.Proofs.YtdgmdkkockbkjaaGreatDoor

/- Contract of typecaseref11.Parse, at the tokens of a text. -/
namespace Go.Proofs.YtdgmdkkockbkjaaGreatDoor
open Go.RowKit
set_option linter.unusedVariables false
set_option linter.unusedSimpArgs false

/-- Nodes' cells. -/
def nodsC (ns : List Nod) : List Value := ns.flatMap nodC

theorem nodsC_len (ns : List Nod) : (nodsC ns).length = ns.length * 5 := by
  induction ns with
  | nil => rfl
  | cons t ts ih => show (nodC t ++ nodsC ts).length = _; rw [List.length_append, ih]; simp [nodC]; omega

theorem nodsC_snoc (ns : List Nod) (n : Nod) : nodsC (ns ++ [n]) = nodsC ns ++ nodC n := by unfold nodsC; simp

theorem nodsC_at (ns : List Nod) : ∀ (k : Nat) (n : Nod), ns[k]? = some n → ∀ j v, (nodC n)[j]? = some v → (nodsC ns)[k * 5 + j]? = some v := by
  induction ns with
  | nil => intro k t h; cases h
  | cons a ns ih =>
    intro k t h j v hj
    show (nodC a ++ nodsC ns)[k * 5 + j]? = some v
    cases k with
    | zero =>
      cases h
      rw [List.getElem?_append_left (by have := (List.getElem?_eq_some_iff.1 hj).1; omega), Nat.zero_mul, Nat.zero_add]
      exact hj
    | succ k =>
      rw [List.getElem?_append_right (by simp [nodC]; omega), show (k + 1) * 5 + j - (nodC a).length = k * 5 + j by simp [nodC]; omega]
      exact ih k t h j v hj

/-- Nodes from a place on. -/
def NodAt (w : World) (g o : Nat) (l : List Nod) : Prop := ∀ (k : Nat) (n : Nod), l[k]? = some n → w.rangeAt g (o + k * 5) (nodC n)

/-- The slice v holds these nodes. -/
def Nods (w : World) (v : Value) (l : List Nod) : Prop :=
  ((∃ A, v = .slice A 0 0) ∧ l = []) ∨ ∃ g o c, v = .slice (some ⟨g, o, none⟩) l.length c ∧ l.length ≤ c ∧ c ≤ maxLen ∧ NodAt w g o l

theorem Nods.nx {w w' : World} {v : Value} {l : List Nod} (h : Nods w v l) (hn : Nx w w') : Nods w' v l := by
  rcases h with h | ⟨g, o, c, h1, h2, h3, h4⟩
  · exact Or.inl h
  · exact Or.inr ⟨g, o, c, h1, h2, h3, fun k n hk j v hv => hn.cell (h4 k n hk j v hv)⟩

theorem Nods.kept {w w' : World} {u : Value} {l : List Nod} (h : Nods w u l) (hk : ∀ g, u.ownBlock = some g → w'.heap[g]? = w.heap[g]?) : Nods w' u l := by
  rcases h with h | ⟨g, o, c, h1, h2, h3, h4⟩
  · exact Or.inl h
  · exact Or.inr ⟨g, o, c, h1, h2, h3, fun k n hn j v hj => by
      have := h4 k n hn j v hj
      rw [World.cell?_of_block (hk g (by rw [h1]; rfl))]; exact this⟩

theorem Nods.form {w : World} {v : Value} {l : List Nod} (h : Nods w v l) : ∃ A c, v = .slice A l.length c ∧ l.length ≤ c ∧ c ≤ maxLen ∧ ((True ∧ l = [] ∧ c = 0) ∨ ∃ g o, A = some ⟨g, o, none⟩ ∧ NodAt w g o l) := by
  rcases h with ⟨⟨A, rfl⟩, rfl⟩ | ⟨g, o, c, h1, h2, h3, h4⟩
  · exact ⟨A, 0, rfl, Nat.le_refl _, Nat.zero_le _, Or.inl ⟨trivial, rfl, rfl⟩⟩
  · exact ⟨_, c, h1, h2, h3, Or.inr ⟨g, o, rfl, h4⟩⟩

theorem NodAt.at_ {w : World} {g o : Nat} {l : List Nod} (h : NodAt w g o l) (k : Nat) (n : Nod) (hk : l[k]? = some n) :
    w.cell? ⟨g, o + k * 5, none⟩ = some (.int .i64 n.kind) ∧ w.cell? ⟨g, o + k * 5 + 1, none⟩ = some (.int .i64 n.line) ∧ w.cell? ⟨g, o + k * 5 + 2, none⟩ = some (.int .i64 n.col) ∧ w.cell? ⟨g, o + k * 5 + 3, none⟩ = some (.int .u32 n.num) ∧ w.cell? ⟨g, o + k * 5 + 4, none⟩ = some (.string (B n.name)) :=
  ⟨h k n hk 0 _ rfl, h k n hk 1 _ rfl, h k n hk 2 _ rfl, h k n hk 3 _ rfl, h k n hk 4 _ rfl⟩

theorem own_nods {w : World} {base : Nat} {v : Value} {ts : List Nod} (h : OwnC w base 78 5 v ts.length (nodsC ts)) : Nods w v ts := by
  rcases h.2 with ⟨hv, h0⟩ | ⟨g, cap, cur, hv, hb, hg, h1, h2, h3, h4⟩
  · exact Or.inl ⟨⟨none, by rw [hv]⟩, List.eq_nil_of_length_eq_zero h0⟩
  · refine Or.inr ⟨g, 0, cap, hv, h1, h2, fun k t hk j u hu => ?_⟩
    have := h.cells (g := g) (by rw [hv]; rfl) (k * 5 + j) u (nodsC_at ts k t hk j u hu)
    rw [show 0 + k * 5 + j = k * 5 + j by omega]
    exact this

/-- What waits: nothing, or one. -/
def stC : Option (Nod × Int) → List Value
  | none => []
  | some p => waitC p.1 p.2 false

def stN : Option (Nod × Int) → Nat
  | none => 0
  | some _ => 1

/-- No mark that binds, nor one that closes. -/
def restP (ts : List Tok) : Prop := ts = [] ∨ ∃ t r, ts = t :: r ∧ t.kind = 7 ∧ (t.text = [40] ∨ t.text = [44])

/-- The rounds that are to come. -/
inductive Fut (fin : List Nod) (rest : List Tok) : Bool → List Tok → List Nod → Option (Nod × Int) → Prop where
  | num (t : Tok) (ts : List Tok) (out : List Nod) (st : Option (Nod × Int)) : t.kind = 5 → Fut fin rest false ts (out ++ [⟨1, t.line, t.col, t.num, []⟩]) st → Fut fin rest true (t :: ts) out st
  | dot (t : Tok) (ts : List Tok) (out : List Nod) (st : Option (Nod × Int)) : t.kind = 1 → t.text = [46] → Fut fin rest false ts (out ++ [⟨3, t.line, t.col, 0, []⟩]) st → Fut fin rest true (t :: ts) out st
  | neg (t : Tok) (ts : List Tok) (out : List Nod) : t.kind = 7 → t.text = [45] → Fut fin rest true ts out (some (⟨4, t.line, t.col, 0, []⟩, 7)) → Fut fin rest true (t :: ts) out none
  | op (t : Tok) (ts : List Tok) (out : List Nod) (m : Nat) : t.kind = 7 → t.text = mkL.getD m [] → m < 2 → Fut fin rest true ts out (some (⟨9 + m, t.line, t.col, 0, []⟩, 5)) → Fut fin rest false (t :: ts) out none
  | end0 : restP rest → Fut fin rest false rest fin none
  | end1 (n : Nod) (h : Int) (out : List Nod) : 0 ≤ h → restP rest → fin = out ++ [n] → Fut fin rest false rest out (some (n, h))

theorem Fut.inv {fin : List Nod} {rest ts : List Tok} {p : Bool} {out : List Nod} {st : Option (Nod × Int)} (h : Fut fin rest p ts out st) :
    (∃ t r, ts = t :: r ∧ p = true ∧ t.kind = 5 ∧ Fut fin rest false r (out ++ [⟨1, t.line, t.col, t.num, []⟩]) st) ∨
    (∃ t r, ts = t :: r ∧ p = true ∧ t.kind = 1 ∧ t.text = [46] ∧ Fut fin rest false r (out ++ [⟨3, t.line, t.col, 0, []⟩]) st) ∨
    (∃ t r, ts = t :: r ∧ p = true ∧ st = none ∧ t.kind = 7 ∧ t.text = [45] ∧ Fut fin rest true r out (some (⟨4, t.line, t.col, 0, []⟩, 7))) ∨
    (∃ (t : Tok) (r : List Tok) (m : Nat), ts = t :: r ∧ p = false ∧ st = none ∧ t.kind = 7 ∧ t.text = mkL.getD m [] ∧ m < 2 ∧ Fut fin rest true r out (some (⟨9 + m, t.line, t.col, 0, []⟩, 5))) ∨
    (p = false ∧ st = none ∧ ts = rest ∧ out = fin ∧ restP rest) ∨
    (∃ n h, p = false ∧ st = some (n, h) ∧ 0 ≤ h ∧ ts = rest ∧ fin = out ++ [n] ∧ restP rest) := by
  cases h with
  | num t r _ _ h1 h2 => exact Or.inl ⟨t, r, rfl, rfl, h1, h2⟩
  | dot t r _ _ h1 h2 h3 => exact Or.inr (Or.inl ⟨t, r, rfl, rfl, h1, h2, h3⟩)
  | neg t r _ h1 h2 h3 => exact Or.inr (Or.inr (Or.inl ⟨t, r, rfl, rfl, rfl, h1, h2, h3⟩))
  | op t r _ m h1 h2 h3 h4 => exact Or.inr (Or.inr (Or.inr (Or.inl ⟨t, r, m, rfl, rfl, rfl, h1, h2, h3, h4⟩)))
  | end0 h => exact Or.inr (Or.inr (Or.inr (Or.inr (Or.inl ⟨rfl, rfl, rfl, rfl, h⟩))))
  | end1 n h _ h1 h2 h3 => exact Or.inr (Or.inr (Or.inr (Or.inr (Or.inr ⟨n, h, rfl, rfl, h1, rfl, h3, h2⟩))))

/-- What comes of Parse: nodes in new memory, and what is behind. -/
def RetOut (fin : List Nod) (rest : List Tok) (w : World) (e : Ending) (w' : World) : Prop :=
  ∃ nv A c, e = .returned (.agg #[nv, .slice A rest.length c, .int .i64 0, .int .i64 0, .int .i64 0]) ∧ Nx w w' ∧ Nods w' nv fin ∧ ∀ g, nv.ownBlock = some g → w.heap.size ≤ g ∧ g < w'.heap.size

theorem node_info : (Tryz.prog.info? 78).map (fun i => (i.zero, i.size, i.bytes)) = some (some (.agg #[.int .i64 0, .int .i64 0, .int .i64 0, .int .u32 0, .string (B [])]), 5, 48) := by kernel_rfl

theorem wait_info : (Tryz.prog.info? 142).map (fun i => (i.zero, i.size, i.bytes)) = some (some (.agg #[.int .i64 0, .int .i64 0, .int .i64 0, .int .u32 0, .string (B []), .int .i64 0, .bool false]), 7, 64) := by kernel_rfl

/-- The result's cells, at first. -/
def po0 : Obj := .cells #[.slice none 0 0, .slice none 0 0, .int .i64 0, .int .i64 0, .int .i64 0] 105

/-- What holds at a round's head. -/
def ParRel (fin : List Nod) (rest : List Tok) (l : List Tok) (w wr : World) (ov sv pv iv : Value) : Prop :=
  ∃ (i : Nat) (p : Bool) (out : List Nod) (st : Option (Nod × Int)), i ≤ l.length ∧ iv = .int .i64 i ∧ pv = .bool p ∧ out.length ≤ i ∧ OwnC wr (w.heap.size + 1) 78 5 ov out.length (nodsC out) ∧
    OwnC wr (w.heap.size + 1) 142 7 sv (stN st) (stC st) ∧ (∀ x, ov.ownBlock = some x → sv.ownBlock = some x → False) ∧ Has wr w.heap.size po0 ∧ Nx w wr ∧ (p = false → 1 ≤ i) ∧ Fut fin rest p (l.drop i) out st

theorem drop_tok {l : List Tok} {i : Nat} {t : Tok} {r : List Tok} (h : l.drop i = t :: r) : i < l.length ∧ l[i]? = some t ∧ l.drop (i + 1) = r := by
  have hlt : i < l.length := by
    have := congrArg List.length h
    simp at this
    omega
  rw [List.drop_eq_getElem_cons hlt] at h
  injection h with h1 h2
  exact ⟨hlt, by rw [List.getElem?_eq_getElem hlt, h1], h2⟩

theorem OwnC.form {w : World} {base : Nat} {e : TypeId} {size : Nat} {v : Value} {n : Nat} {xs : List Value} (h : OwnC w base e size v n xs) : ∃ A c, v = .slice A n c := by
  rcases h.2 with ⟨hv, h0⟩ | ⟨g, cap, cur, hv, _⟩
  · exact ⟨none, 0, by rw [hv, h0]⟩
  · exact ⟨_, _, hv⟩

/-- One more behind: what stays. -/
theorem push_all {w w5 w3 : World} {e s n xs e' s' n' xs'} {v v' v3 : Value} {o : Obj} (hX : Nx w w5) (hO : OwnC w5 (w.heap.size + 1) e s v n xs) (hS : OwnC w5 (w.heap.size + 1) e' s' v' n' xs') (hD : ∀ x, v.ownBlock = some x → v'.ownBlock = some x → False) (hH : Has w5 w.heap.size o)
    (hg : w5.grownBy w3 v.ownBlock) {H : Nat} (hb : v3.ownBlock = v.ownBlock ∨ v3.ownBlock = some H) (he : w5.heap.size = H) : Nx w w3 ∧ Has w3 w.heap.size o ∧ OwnC w3 (w.heap.size + 1) e' s' v' n' xs' ∧ (∀ x, v3.ownBlock = some x → v'.ownBlock = some x → False) := by
  refine ⟨Below.grown hX hg hX.size (fun k hk => by have := (hO.lt k hk).1; omega), hH.keep_grown hg (fun e => by have := (hO.lt _ e).1; omega), hS.kept fun k hk hv => hg.block k hk (fun e => hD k e.symm hv), fun x hx hy => ?_⟩
  rcases hb with h | h
  · exact hD x (h ▸ hx) hy
  · have := (hS.lt x hy).2
    rw [h] at hx
    injection hx with hx
    omega

theorem at_flat (w : World) (g : Nat) (o : Nat) (cs : List Value) (h : ∀ (j : Nat) (v : Value), cs[j]? = some v → w.cell? ⟨g, o + j, none⟩ = some v) : ∀ (j : Nat) (v : Value), cs[j]? = some v → w.cell? ((⟨g, o, none⟩ : Addr).add j) = some v := by
  intro j v hj
  rw [add_flat]
  exact h j v hj

theorem new_flat {w : World} {g : Nat} {cs : List Value} {T : TypeId} (h : Has w g (.cells cs.toArray T)) : ∀ (j : Nat) (v : Value), cs[j]? = some v → w.cell? ((⟨g, 0, none⟩ : Addr).add j) = some v :=
  at_flat w g 0 cs fun j v hj => by rw [Nat.zero_add]; exact h.cell j v (by simpa using hj)

section
variable {P : Program} (w : World)

/-- Appending as one step of a region that draws its order. -/
theorem step_append_c {ops : Array Oper} {o : Oper} {a : Act} {K : Act → World → Prop} {Q : Exit → Act → World → Prop} {E : Prop} (hgd : o.guard = none) (s x : Operand) (t : TypeId)
    (ho : o.op = .call { callee := .builtin .append, args := #[s, x], argTypes := #[t, t] })
    (base : Nat) (e : TypeId) (i : TypeInfo) (z : Value) (size bytes : Nat) (ht : P.underlying t = some (.slice e)) (hi : P.info? e = some i) (hz : i.zero = some z)
    (hsize : i.size = size) (hby : i.bytes = bytes) (hzs : z.cells.size = size) (hsz : 0 < size)
    (v : Value) (n : Nat) (xs : List Value) (hs : a.eval s = v) (hown : OwnC w base e size v n xs)
    (A : Option Addr) (m c : Nat) (news : List Value) (hx : a.eval x = .slice A m c) (hl : news.length = m * size) (hA : (A = none ∧ m = 0 ∧ c = 0) ∨ ∃ ad, A = some ad ∧ ∀ (j : Nat) (u : Value), news[j]? = some u → w.cell? (ad.add j) = some u) (h1 : ∀ u ∈ news, u.oneCell' = true)
    (h63 : n + m ≤ maxLen) (hbytes : (n + m) * bytes ≤ 140737488355328) (hbase : base ≤ w.heap.size)
    (h : ∀ v' w', OwnC w' base e size v' (n + m) (xs ++ news) → w.grownBy w' v.ownBlock → (v'.ownBlock = v.ownBlock ∨ v'.ownBlock = some w.heap.size) → K (a.put o.dst v') w') :
    if Region.wanted o (yielded ops a.tmps) = true then Oper.wp P o a w K Q else E := by
  have hw : Region.wanted o (yielded ops a.tmps) = true := by simp [Region.wanted, hgd]
  rw [if_pos hw]
  obtain ⟨v', w', hr, h2, h3, h4⟩ := run_append_c (P := P) w base t o.type e i z size bytes ht hi hz hsize hby hzs hsz v n xs hown A m c news hl hA h1 h63 hbytes hbase
  unfold Oper.wp execOp
  simp only [ho, resolve, invoke, builtin, Sem.run_bind, Sem.run_pure, Result.andThen_ok, List.map_toArray, List.map_cons, List.map_nil, hs, hx, hr]
  exact h v' w' h2 h3 h4

end

end Go.Proofs.YtdgmdkkockbkjaaGreatDoor

/- Layer 23, plain: the nodes that the document makes of a number's tokens, and what they come to. -/
namespace Go.Proofs.YtdgmdkkockbkjaaGreatDoor
open Go.RowKit
set_option linter.unusedVariables false
set_option linter.unusedSimpArgs false

/-- What a node is, but for its place. -/
def nodK (n : Nod) : Int × Int × List UInt8 := (n.kind, n.num, n.name)

/-- A number's nodes. -/
def numN (v : Int) : List (Int × Int × List UInt8) := if v < 0 then [(1, (v.natAbs : Int), []), (4, 0, [])] else [(1, (v.natAbs : Int), [])]

/-- The nodes of a place, so far from here. -/
def hereN (v : Int) : List (Int × Int × List UInt8) := [(3, 0, []), (1, (v.natAbs : Int), []), (if v < 0 then 10 else 9, 0, [])]

/-- What may stand behind an expression. -/
def restK (ks : List (Int × List UInt8 × Int)) : Prop := ks = [] ∨ ∃ c r, ks = (7, [c], 0) :: r ∧ (c = 40 ∨ c = 44)

theorem map_inv {α β : Type} {f : α → β} {ts : List α} {k : β} {ks : List β} (h : ts.map f = k :: ks) : ∃ t r, ts = t :: r ∧ f t = k ∧ r.map f = ks := by
  cases ts with
  | nil => cases h
  | cons t r => injection h with h1 h2; exact ⟨t, r, rfl, h1, h2⟩

theorem keyT_inv {t : Tok} {a : Int} {b : List UInt8} {c : Int} (h : keyT t = (a, b, c)) : t.kind = a ∧ t.text = b ∧ t.num = c := by
  unfold keyT at h
  injection h with h1 h2
  injection h2 with h2 h3
  exact ⟨h1, h2, h3⟩

theorem rest_key {ts : List Tok} {ks : List (Int × List UInt8 × Int)} (h : ts.map keyT = ks) (hr : restK ks) : restP ts := by
  rcases hr with rfl | ⟨c, r, rfl, hc⟩
  · exact Or.inl (List.map_eq_nil_iff.1 h)
  · obtain ⟨t, ts', rfl, h1, h2⟩ := map_inv h
    obtain ⟨h3, h4, _⟩ := keyT_inv h1
    refine Or.inr ⟨t, ts', rfl, h3, ?_⟩
    rcases hc with rfl | rfl
    · exact Or.inl h4
    · exact Or.inr h4

theorem fut_num (v : Int) (ts : List Tok) (ks : List (Int × List UInt8 × Int)) (h : ts.map keyT = numK v ++ ks) (hr : restK ks) : ∃ ns : List Nod, ns.map nodK = numN v ∧ (ts.drop (numK v).length).map keyT = ks ∧ Fut ns (ts.drop (numK v).length) true ts [] none := by
  unfold numK numN at *
  split at h
  · rename_i hv
    rw [if_pos hv, if_pos hv]
    obtain ⟨t1, r1, rfl, k1, h⟩ := map_inv h
    obtain ⟨t2, r2, rfl, k2, h⟩ := map_inv h
    obtain ⟨a1, a2, a3⟩ := keyT_inv k1
    obtain ⟨b1, b2, b3⟩ := keyT_inv k2
    refine ⟨[⟨1, t2.line, t2.col, t2.num, []⟩, ⟨4, t1.line, t1.col, 0, []⟩], by simp [nodK, b3], h, ?_⟩
    exact Fut.neg _ _ _ a1 a2 (Fut.num _ _ _ _ b1 (Fut.end1 _ _ _ (by decide) (rest_key h hr) rfl))
  · rename_i hv
    rw [if_neg hv, if_neg hv]
    obtain ⟨t1, r1, rfl, k1, h⟩ := map_inv h
    obtain ⟨a1, a2, a3⟩ := keyT_inv k1
    refine ⟨[⟨1, t1.line, t1.col, t1.num, []⟩], by simp [nodK, a3], h, ?_⟩
    exact Fut.num _ _ _ _ a1 (Fut.end0 (rest_key h hr))

theorem fut_here (v : Int) (ts : List Tok) (ks : List (Int × List UInt8 × Int)) (h : ts.map keyT = opK (.here v) ++ ks) (hr : restK ks) : ∃ ns : List Nod, ns.map nodK = hereN v ∧ (ts.drop 3).map keyT = ks ∧ Fut ns (ts.drop 3) true ts [] none := by
  unfold opK at h
  obtain ⟨t1, r1, rfl, k1, h⟩ := map_inv h
  obtain ⟨t2, r2, rfl, k2, h⟩ := map_inv h
  obtain ⟨t3, r3, rfl, k3, h⟩ := map_inv h
  obtain ⟨a1, a2, a3⟩ := keyT_inv k1
  obtain ⟨b1, b2, b3⟩ := keyT_inv k2
  obtain ⟨c1, c2, c3⟩ := keyT_inv k3
  obtain ⟨m, hm, hm2, hm3⟩ : ∃ m : Nat, m < 2 ∧ t2.text = mkL.getD m [] ∧ ((9 + m : Nat) : Int) = if v < 0 then 10 else 9 := by
    by_cases hv : v < 0
    · rw [if_pos hv] at b2 ⊢; exact ⟨1, by omega, b2, rfl⟩
    · rw [if_neg hv] at b2 ⊢; exact ⟨0, by omega, b2, rfl⟩
  refine ⟨[⟨3, t1.line, t1.col, 0, []⟩, ⟨1, t3.line, t3.col, t3.num, []⟩, ⟨9 + m, t2.line, t2.col, 0, []⟩], ?_, h, ?_⟩
  · have e : (9 + (m : Int)) = if v < 0 then 10 else 9 := by rw [← hm3]; omega
    simp [nodK, c3, hereN, e]
  · exact Fut.dot _ _ _ _ a1 a2 (Fut.op _ _ _ m b1 hm2 hm (Fut.num _ _ _ _ c1 (Fut.end1 _ _ _ (by decide) (rest_key h hr) rfl)))

/-- The rounds of Value that are to come: E: early; p: the place; what comes of them. -/
inductive VFut (E : Bool) (p : Int) (r : Int × Bool) : List Nod → List (Int × Bool) → Prop where
  | nil : VFut E p r [] [r]
  | num (n : Nod) (ns : List Nod) (ps : List (Int × Bool)) : n.kind = 1 → VFut E p r ns (ps ++ [(n.num, false)]) → VFut E p r (n :: ns) ps
  | dot (n : Nod) (ns : List Nod) (ps : List (Int × Bool)) : n.kind = 3 → E = false → VFut E p r ns (ps ++ [(p, true)]) → VFut E p r (n :: ns) ps
  | neg (n : Nod) (ns : List Nod) (a : Int) : n.kind = 4 → VFut E p r ns [((0 - a) % 4294967296, false)] → VFut E p r (n :: ns) [(a, false)]
  | plus (n : Nod) (ns : List Nod) (a b : Int) (x : Bool) : n.kind = 9 → VFut E p r ns [((a + b) % 4294967296, x)] → VFut E p r (n :: ns) [(a, x), (b, false)]
  | minus (n : Nod) (ns : List Nod) (a b : Int) (x : Bool) : n.kind = 10 → VFut E p r ns [((a - b) % 4294967296, x)] → VFut E p r (n :: ns) [(a, x), (b, false)]

theorem VFut.inv {E : Bool} {p : Int} {r : Int × Bool} {ns : List Nod} {ps : List (Int × Bool)} (h : VFut E p r ns ps) :
    (ns = [] ∧ ps = [r]) ∨
    (∃ n m, ns = n :: m ∧ n.kind = 1 ∧ VFut E p r m (ps ++ [(n.num, false)])) ∨
    (∃ n m, ns = n :: m ∧ n.kind = 3 ∧ E = false ∧ VFut E p r m (ps ++ [(p, true)])) ∨
    (∃ n m a, ns = n :: m ∧ ps = [(a, false)] ∧ n.kind = 4 ∧ VFut E p r m [((0 - a) % 4294967296, false)]) ∨
    (∃ n m a b x, ns = n :: m ∧ ps = [(a, x), (b, false)] ∧ n.kind = 9 ∧ VFut E p r m [((a + b) % 4294967296, x)]) ∨
    (∃ n m a b x, ns = n :: m ∧ ps = [(a, x), (b, false)] ∧ n.kind = 10 ∧ VFut E p r m [((a - b) % 4294967296, x)]) := by
  cases h with
  | nil => exact Or.inl ⟨rfl, rfl⟩
  | num n m _ h1 h2 => exact Or.inr (Or.inl ⟨n, m, rfl, h1, h2⟩)
  | dot n m _ h1 h2 h3 => exact Or.inr (Or.inr (Or.inl ⟨n, m, rfl, h1, h2, h3⟩))
  | neg n m a h1 h2 => exact Or.inr (Or.inr (Or.inr (Or.inl ⟨n, m, a, rfl, rfl, h1, h2⟩)))
  | plus n m a b x h1 h2 => exact Or.inr (Or.inr (Or.inr (Or.inr (Or.inl ⟨n, m, a, b, x, rfl, rfl, h1, h2⟩))))
  | minus n m a b x h1 h2 => exact Or.inr (Or.inr (Or.inr (Or.inr (Or.inr ⟨n, m, a, b, x, rfl, rfl, h1, h2⟩))))

theorem nodK_inv {n : Nod} {a b : Int} {c : List UInt8} (h : nodK n = (a, b, c)) : n.kind = a ∧ n.num = b ∧ n.name = c := by
  unfold nodK at h
  injection h with h1 h2
  injection h2 with h2 h3
  exact ⟨h1, h2, h3⟩

theorem map_nil {α β : Type} {f : α → β} {ts : List α} (h : ts.map f = []) : ts = [] := List.map_eq_nil_iff.1 h

theorem vfut_num (E : Bool) (p v : Int) (ns : List Nod) (h : ns.map nodK = numN v) (h0 : -4294967296 < v) (h1 : v < 4294967296) : VFut E p (v % 4294967296, false) ns [] := by
  unfold numN at h
  split at h
  · obtain ⟨n1, r1, rfl, k1, h⟩ := map_inv h
    obtain ⟨n2, r2, rfl, k2, h⟩ := map_inv h
    obtain rfl := map_nil h
    obtain ⟨a1, a2, a3⟩ := nodK_inv k1
    obtain ⟨b1, b2, b3⟩ := nodK_inv k2
    refine VFut.num _ _ _ a1 (VFut.neg _ _ _ b1 ?_)
    rw [a2, show (0 - (v.natAbs : Int)) % 4294967296 = v % 4294967296 by omega]
    exact VFut.nil
  · obtain ⟨n1, r1, rfl, k1, h⟩ := map_inv h
    obtain rfl := map_nil h
    obtain ⟨a1, a2, a3⟩ := nodK_inv k1
    refine VFut.num _ _ _ a1 ?_
    rw [a2, show ((v.natAbs : Int)) = v % 4294967296 by omega]
    exact VFut.nil

theorem vfut_here (p v : Int) (ns : List Nod) (h : ns.map nodK = hereN v) : VFut false p ((p + v) % 4294967296, true) ns [] := by
  unfold hereN at h
  obtain ⟨n1, r1, rfl, k1, h⟩ := map_inv h
  obtain ⟨n2, r2, rfl, k2, h⟩ := map_inv h
  obtain ⟨n3, r3, rfl, k3, h⟩ := map_inv h
  obtain rfl := map_nil h
  obtain ⟨a1, a2, a3⟩ := nodK_inv k1
  obtain ⟨b1, b2, b3⟩ := nodK_inv k2
  obtain ⟨c1, c2, c3⟩ := nodK_inv k3
  refine VFut.dot _ _ _ a1 rfl (VFut.num _ _ _ b1 ?_)
  rw [b2]
  by_cases hv : v < 0
  · rw [if_pos hv] at c1
    refine VFut.minus _ _ _ _ _ c1 ?_
    rw [show p - (v.natAbs : Int) = p + v by omega]
    exact VFut.nil
  · rw [if_neg hv] at c1
    refine VFut.plus _ _ _ _ _ c1 ?_
    rw [show p + (v.natAbs : Int) = p + v by omega]
    exact VFut.nil

theorem numN_len (v : Int) {ns : List Nod} (h : ns.map nodK = numN v) : 1 ≤ ns.length ∧ ns.length ≤ 3 := by
  have := congrArg List.length h
  unfold numN at this
  split at this <;> simp at this <;> omega

theorem hereN_len (v : Int) {ns : List Nod} (h : ns.map nodK = hereN v) : 1 ≤ ns.length ∧ ns.length ≤ 3 := by
  have := congrArg List.length h
  unfold hereN at this
  simp at this
  omega

end Go.Proofs.YtdgmdkkockbkjaaGreatDoor

/- Contracts of typecaseref12: one, two, at the nodes of a text. -/
namespace Go.Proofs.YtdgmdkkockbkjaaGreatDoor
open Go.RowKit
set_option linter.unusedVariables false
set_option linter.unusedSimpArgs false

/-- What comes of one, or two: a part, and no code. -/
def RetPrt (a : Int) (x : Bool) (w : World) (e : Ending) (w' : World) : Prop := e = .returned (.tuple #[.agg #[.int .u32 a, .bool x], .int .i64 0]) ∧ Nx w w'

theorem one12_neg (a p : Int) (E : Bool) (w : World) : Calls Tryz.prog 26 #[.int .i64 4, .agg #[.int .u32 a, .bool false], .int .u32 p, .bool E] w (RetPrt ((0 - a) % 4294967296) false w) := by
  go_enter Tryz.func26, Tryz.ntmps26
  go_wp2
  refine bodyPost_ret (v := .tuple #[.agg #[.int .u32 ((0 - a) % 4294967296), .bool false], .int .i64 0]) (by simp [results, Tryz.results26, go_sem]) rfl ⟨rfl, ?_⟩
  repeat (with_reducible first | exact Nx.refl _ | refine Nx.setCell ?_ (Nat.le_refl _) _ | refine Nx.setCell ?_ (by simp) _ | refine Nx.alloc ?_ _)

theorem two12_plus (a b : Int) (x : Bool) (w : World) : Calls Tryz.prog 27 #[.int .i64 9, .agg #[.int .u32 a, .bool x], .agg #[.int .u32 b, .bool false]] w (RetPrt ((a + b) % 4294967296) x w) := by
  cases x
  all_goals
    go_enter Tryz.func27, Tryz.ntmps27
    go_wp2
    refine bodyPost_ret (v := .tuple #[.agg #[.int .u32 ((a + b) % 4294967296), .bool _], .int .i64 0]) (by simp [results, Tryz.results27, go_sem]) rfl ⟨rfl, ?_⟩
    repeat (with_reducible first | exact Nx.refl _ | refine Nx.setCell ?_ (Nat.le_refl _) _ | refine Nx.setCell ?_ (by simp) _ | refine Nx.alloc ?_ _)

theorem two12_minus (a b : Int) (x : Bool) (w : World) : Calls Tryz.prog 27 #[.int .i64 10, .agg #[.int .u32 a, .bool x], .agg #[.int .u32 b, .bool false]] w (RetPrt ((a - b) % 4294967296) x w) := by
  cases x
  all_goals
    go_enter Tryz.func27, Tryz.ntmps27
    go_wp2
    refine bodyPost_ret (v := .tuple #[.agg #[.int .u32 ((a - b) % 4294967296), .bool _], .int .i64 0]) (by simp [results, Tryz.results27, go_sem]) rfl ⟨rfl, ?_⟩
    repeat (with_reducible first | exact Nx.refl _ | refine Nx.setCell ?_ (Nat.le_refl _) _ | refine Nx.setCell ?_ (by simp) _ | refine Nx.alloc ?_ _)

end Go.Proofs.YtdgmdkkockbkjaaGreatDoor

