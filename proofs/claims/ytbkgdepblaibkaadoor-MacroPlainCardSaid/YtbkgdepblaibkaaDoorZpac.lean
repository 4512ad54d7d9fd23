/- Parts of the proof, one behind the other. -/
import Derived.Test.YtbkgdepblaibkaaDoorMadf
import Derived.Test.YtbkgdepblaibkaaDoorZpaa
/- Contracts of typecaseref14: Bind. -/
namespace Go.Proofs.YtbkgdepblaibkaaDoor
open Go.RowKit
set_option linter.unusedVariables false
set_option linter.unusedSimpArgs false

/-- What comes of handing, by the document. -/
def RetRBind (V : Option (List (List Tok))) (t : Tok) (w : World) (e : Ending) (w' : World) : Prop :=
  ∃ v a b c, e = .returned (.tuple #[v, .agg #[.int .i64 a, .int .i64 b, .int .i64 c]]) ∧ Nx w w' ∧ ((∃ vs, V = some vs ∧ Lins w' v vs ∧ a = 0 ∧ b = 0 ∧ c = 0) ∨ (V = none ∧ v = .slice none 0 0 ∧ a = t.line ∧ b = t.col ∧ c = 9))

/-- Lines in memory of the call's own, whose tokens lie where they lay in w. -/
def ShareL (w wr : World) (base : Nat) (v : Value) (ls : List (List Tok)) : Prop :=
  ∃ us, OwnC wr base 37 1 v ls.length us ∧ ∀ (k : Nat) (u : Value) (l : List Tok), us[k]? = some u → ls[k]? = some l → Toks w u l

theorem ShareL.nil (w wr : World) (base : Nat) : ShareL w wr base (.slice none 0 0) [] := ⟨[], OwnC.nil _ _ _ _, fun k u l h => by cases h⟩

theorem ShareL.lins {w wr : World} {base : Nat} {v : Value} {ls : List (List Tok)} (h : ShareL w wr base v ls) (hn : Nx w wr) : Lins wr v ls := by
  obtain ⟨us, h1, h2⟩ := h
  have hlen : us.length = ls.length := by have := h1.1; omega
  rcases h1.2 with ⟨hv, h0⟩ | ⟨g, cap, cur, hv, hb, hg, h3, h4, h5, h6⟩
  · exact Or.inl ⟨⟨none, by rw [hv]⟩, List.eq_nil_of_length_eq_zero h0⟩
  · refine Or.inr ⟨g, 0, cap, hv, h3, h4, fun k l hk => ?_⟩
    have hlt := (List.getElem?_eq_some_iff.1 hk).1
    have hu : us[k]? = some (us[k]'(by omega)) := List.getElem?_eq_getElem (by omega)
    refine ⟨_, ?_, (h2 k _ l hu hk).nx hn⟩
    rw [Nat.zero_add]
    exact h1.cells (g := g) (by rw [hv]; rfl) k _ hu

theorem ShareL.form {w wr : World} {base : Nat} {v : Value} {ls : List (List Tok)} (h : ShareL w wr base v ls) : ∃ A c, v = .slice A ls.length c := by
  obtain ⟨us, h1, _⟩ := h
  rcases h1.2 with ⟨hv, h0⟩ | ⟨g, cap, cur, hv, _⟩
  · exact ⟨none, 0, by rw [hv, h0]⟩
  · exact ⟨_, _, hv⟩

theorem ShareL.set_ {w wr : World} {base : Nat} {v : Value} {ls : List (List Tok)} (h : ShareL w wr base v ls) {p : Addr} (hp : p.block < base) (x : Value) : ShareL w (wr.setCell p x) base v ls := by
  obtain ⟨us, h1, h2⟩ := h
  exact ⟨us, own_set h1 hp x, h2⟩

theorem ShareL.nx {w wr w' : World} {base : Nat} {v : Value} {ls : List (List Tok)} (h : ShareL w wr base v ls) (hn : Nx wr w') : ShareL w w' base v ls := by
  obtain ⟨us, h1, h2⟩ := h
  exact ⟨us, h1.nx hn, h2⟩

theorem ShareL.push {w wr : World} {base : Nat} {v u : Value} {ls : List (List Tok)} {l : List Tok} {us : List Value} (hlen : us.length = ls.length) (h2 : ∀ (k : Nat) (u : Value) (l : List Tok), us[k]? = some u → ls[k]? = some l → Toks w u l)
    (ht : Toks w u l) (hown : OwnC wr base 37 1 v (ls.length + 1) (us ++ [u])) : ShareL w wr base v (ls ++ [l]) := by
  refine ⟨us ++ [u], by rw [List.length_append, List.length_singleton]; exact hown, fun k x y hx hy => ?_⟩
  rw [List.getElem?_append] at hx hy
  by_cases hk : k < ls.length
  · rw [if_pos (by omega)] at hx
    rw [if_pos hk] at hy
    exact h2 k x y hx hy
  · rw [if_neg (by omega)] at hx
    rw [if_neg hk] at hy
    have hk0 : k - ls.length = 0 := by
      have := (List.getElem?_eq_some_iff.1 hy).1
      simpa using this
    rw [hlen, hk0] at hx
    rw [hk0] at hy
    simp at hx hy
    subst hx hy
    exact ht

/-- What holds at a round's head. -/
def RBindRel (qs : List (PPar × Value)) (ls : List (List Tok)) (w W wr : World) (base : Nat) (V : Option (List (List Tok))) (ov iv : Value) : Prop :=
  ∃ (n : Nat) (vs : List (List Tok)), n ≤ qs.length ∧ iv = .int .i64 n ∧ Nx W wr ∧ vs.length = n ∧ ShareL w wr base ov vs ∧ catO vs (bindP ((qs.drop n).map (·.1)) (ls.drop n)) = V


set_option maxHeartbeats 4000000 in
set_option maxRecDepth 100000 in
theorem rbind_any (mn : List UInt8) (pv : Value) (qs : List (PPar × Value)) (lv : Value) (hlv : ∃ A n c, lv = Value.slice A n c) (t : Tok) (av : Value) (ls : List (List Tok)) (w : World) (hP : ParsQ w pv qs) (hL : Lins w av ls) (hq : qs.length ≤ 1000000) :
    Calls Tryd.prog 38 #[.agg #[.string (B mn), pv, lv], tokV t, av] w (RetRBind (bindP (qs.map (·.1)) ls) t w) := by
  obtain ⟨lA, ln, lc, rfl⟩ := hlv
  obtain ⟨i0, pi, hz0, hz1, hz2⟩ := info_parts toks_info
  have HI := Lib.hid (And.intro pi (And.intro hz0 (And.intro hz1 hz2)))
  clear pi hz0 hz1 hz2
  obtain ⟨A, c, rfl, hc1, hc2, hA⟩ := hP.1.form
  obtain ⟨A2, c2, rfl, hd1, hd2, hA2⟩ := hL.form
  have HP := Lib.hid hP
  have HL := Lib.hid hL
  have HPA := Lib.hid hA
  have HV := Lib.hid (show catO ([] : List (List Tok)) (bindP ((qs.drop 0).map (·.1)) (ls.drop 0)) = bindP (qs.map (·.1)) ls by rw [catO_nil]; rfl)
  have HM := Lib.hid (bindP_many (qs.map (·.1)) ls)
  rw [List.length_map] at HM
  generalize bindP (qs.map (·.1)) ls = V at *
  unfold maxLen at hd2
  have hc3 : c ≤ 9223372036854775807 := by unfold maxLen at hc2; omega
  clear hP hL hA hA2
  obtain ⟨W, hW⟩ : ∃ W, (((w.alloc (.cells #[.string (B mn), .slice A qs.length c, .slice lA ln lc] 49)).alloc (.cells #[.int .i64 t.kind, .int .i64 t.line, .int .i64 t.col, .string (B t.text), .int .u32 t.num, .int .i64 t.scope] 58)).alloc (.cells #[.int .i64 0, .int .i64 0, .int .i64 0] 30)).alloc (.cells #[.int .i64 t.line, .int .i64 t.col, .int .i64 9] 30) = W := ⟨_, rfl⟩
  have HWE := Lib.hid hW
  have hWs : W.heap.size = w.heap.size + 1 + 1 + 1 + 1 := by rw [← hW]; simp
  have HWN := Lib.hid (show Nx w W from hW ▸ ((((Nx.refl w).alloc _).alloc _).alloc _).alloc _)
  have HM0 := Lib.hid (show Has W w.heap.size (.cells #[.string (B mn), .slice A qs.length c, .slice lA ln lc] 49) from hW ▸ (((Has.new w _).alloc _).alloc _).alloc _)
  have HR0 := Lib.hid (show Has W (w.heap.size + 1 + 1) (.cells #[.int .i64 0, .int .i64 0, .int .i64 0] 30) from hW ▸ (Has.at_ _ _ (by simp)).alloc _)
  have HB0 := Lib.hid (show Has W (w.heap.size + 1 + 1 + 1) (.cells #[.int .i64 t.line, .int .i64 t.col, .int .i64 9] 30) from hW ▸ Has.at_ _ _ (by simp))
  have HZ := Lib.hid hWs
  clear hW hWs
  by_cases hmany : qs.length < ls.length
  · have hmI : decide ((qs.length : Int) < ls.length) = true := decide_eq_true (by omega)
    have HV2 := Lib.hid (HM.out hmany)
    clear HV HM
    go_enter Tryd.func38, Tryd.ntmps38
    go_wp2
    rw [HWE.out]
    have hr := HR0.out.nx (Nx.refl W)
    have r0 : W.cell? ⟨w.heap.size + 1 + 1, 0, none⟩ = some (.int .i64 0) := hr.cell 0 _ rfl
    have r1 : W.cell? ⟨w.heap.size + 1 + 1, 1, none⟩ = some (.int .i64 0) := hr.cell 1 _ rfl
    have r2 : W.cell? ⟨w.heap.size + 1 + 1, 2, none⟩ = some (.int .i64 0) := hr.cell 2 _ rfl
    have f0 := hr.free 0
    have f1 := hr.free 1
    have f2 := hr.free 2
    have zr := hr.lt
    have hb := HB0.out.nx (Nx.refl W)
    have b0 : W.cell? ⟨w.heap.size + 1 + 1 + 1, 0, none⟩ = some (.int .i64 t.line) := hb.cell 0 _ rfl
    have b1 : W.cell? ⟨w.heap.size + 1 + 1 + 1, 1, none⟩ = some (.int .i64 t.col) := hb.cell 1 _ rfl
    have b2 : W.cell? ⟨w.heap.size + 1 + 1 + 1, 2, none⟩ = some (.int .i64 9) := hb.cell 2 _ rfl
    have zb := hb.lt
    clear hr hb
    go_region
    all_goals go_wp2
    all_goals
      refine bodyPost_ret (v := .tuple #[.slice none 0 0, .agg #[.int .i64 t.line, .int .i64 t.col, .int .i64 9]]) (by simp [results, Tryd.results38, go_sem, r0, r1, r2, f0, f1, f2]) rfl ?_
      exact ⟨_, _, _, _, rfl, by repeat (with_reducible first | exact HWN.out | refine Nx.drew ?_ | refine Nx.setCell ?_ (by show w.heap.size ≤ w.heap.size + 1 + 1; omega) _), Or.inr ⟨HV2.out, rfl, rfl, rfl, rfl⟩⟩
  · have hmI : decide ((qs.length : Int) < ls.length) = false := decide_eq_false (by omega)
    go_enter Tryd.func38, Tryd.ntmps38
    go_wp2
    rw [HWE.out]
    go_loopw [8, 10] (fun ov iv wr => RBindRel qs ls w W wr (w.heap.size + 1 + 1 + 1 + 1) V ov iv) (fun _ iv _ => qs.length - (intOf iv).toNat)
    case atStart => exact ⟨0, [], Nat.zero_le _, rfl, Nx.refl W, rfl, ShareL.nil _ _ _, HV.out⟩
    case round =>
      obtain ⟨n, vs, hn, rfl, hnx, hvl, hO, hcat⟩ := hrel
      have HNX := Lib.hid hnx
      have HWX := Lib.hid (HWN.out.trans hnx)
      have HO := Lib.hid hO
      have HVL := Lib.hid hvl
      obtain ⟨Ao, co, rfl⟩ := hO.form
      have hm := HM0.out.nx hnx
      have m1 : wr.cell? ⟨w.heap.size, 1, none⟩ = some (.slice A qs.length c) := hm.cell 1 _ rfl
      have zm := hm.lt
      rw [hvl] at HO ⊢
      have hr := HR0.out.nx hnx
      have r0 : wr.cell? ⟨w.heap.size + 1 + 1, 0, none⟩ = some (.int .i64 0) := hr.cell 0 _ rfl
      have r1 : wr.cell? ⟨w.heap.size + 1 + 1, 1, none⟩ = some (.int .i64 0) := hr.cell 1 _ rfl
      have r2 : wr.cell? ⟨w.heap.size + 1 + 1, 2, none⟩ = some (.int .i64 0) := hr.cell 2 _ rfl
      have f0 := hr.free 0
      have f1 := hr.free 1
      have f2 := hr.free 2
      have zr := hr.lt
      have hb := HB0.out.nx hnx
      have b0 : wr.cell? ⟨w.heap.size + 1 + 1 + 1, 0, none⟩ = some (.int .i64 t.line) := hb.cell 0 _ rfl
      have b1 : wr.cell? ⟨w.heap.size + 1 + 1 + 1, 1, none⟩ = some (.int .i64 t.col) := hb.cell 1 _ rfl
      have b2 : wr.cell? ⟨w.heap.size + 1 + 1 + 1, 2, none⟩ = some (.int .i64 9) := hb.cell 2 _ rfl
      have zb := hb.lt
      clear hr hb
      clear hnx hO hvl hm
      by_cases hlt : n < qs.length
      · obtain ⟨⟨⟨nm, hs, df⟩, dv⟩, hq1⟩ : ∃ q, qs[n]? = some q := ⟨_, List.getElem?_eq_getElem hlt⟩
        obtain ⟨g, o, rfl, hPA⟩ : ∃ g o, A = some ⟨g, o, none⟩ ∧ ParAt w g o qs := by
          rcases HPA.out with ⟨_, h, _⟩ | h
          · subst h; cases hq1
          · exact h
        have HTD := Lib.hid (HP.out.2 _ (List.mem_of_getElem? hq1))
        obtain ⟨dA, dc, hdv, _⟩ := HTD.out.form
        dsimp only at hdv HTD
        subst hdv
        obtain ⟨a0, a1, a2⟩ := (hPA.nx HWX.out).at_ n _ hq1
        dsimp only at a0 a1 a2
        have y0 := block_lt a0
        have hdr : qs.drop n = (⟨nm, hs, df⟩, .slice dA df.length dc) :: qs.drop (n + 1) := by
          obtain ⟨_, hqe⟩ := List.getElem?_eq_some_iff.1 hq1
          rw [List.drop_eq_getElem_cons hlt, hqe]
        rw [hdr, List.map_cons, bindP_cons, drop_headD, drop_tail] at hcat
        dsimp only at hcat
        have HC := Lib.hid hcat
        have hq6 : qs.length ≤ 1000000 := hq
        have hnI0 : decide ((n : Int) < qs.length) = true := decide_eq_true (by omega)
        clear hPA hq1 hdr hcat HV HM
        have five : (n < ls.length ∧ (∃ a, ls[n]? = some a ∧ 0 < a.length)) ∨ (n < ls.length ∧ ls[n]? = some [] ∧ hs = true) ∨ (n < ls.length ∧ ls[n]? = some [] ∧ hs = false) ∨ (¬ n < ls.length ∧ hs = true) ∨ (¬ n < ls.length ∧ hs = false) := by
          by_cases h : n < ls.length
          · obtain ⟨a, ha⟩ : ∃ a, ls[n]? = some a := ⟨_, List.getElem?_eq_getElem h⟩
            cases a with
            | nil =>
              cases hs
              · exact Or.inr (Or.inr (Or.inl ⟨h, ha, rfl⟩))
              · exact Or.inr (Or.inl ⟨h, ha, rfl⟩)
            | cons x y => exact Or.inl ⟨h, _, ha, by simp⟩
          · cases hs
            · exact Or.inr (Or.inr (Or.inr (Or.inr ⟨h, rfl⟩)))
            · exact Or.inr (Or.inr (Or.inr (Or.inl ⟨h, rfl⟩)))
        rcases five with ⟨hnl, a, ha, hal⟩ | ⟨hnl, ha, rfl⟩ | ⟨hnl, ha, rfl⟩ | ⟨hnl, rfl⟩ | ⟨hnl, rfl⟩
        · skip
          obtain ⟨ga, oa, ca, x, he, _, hxc, hxt⟩ := line_at HL.out n a ha
          cases he
          obtain ⟨xA, xc, rfl, _⟩ := hxt.form
          have hxc := HWX.out.cell hxc
          have y1 := block_lt hxc
          have HXT := Lib.hid hxt
          have HGD := Lib.hid (show ls.getD n [] = a from by rw [List.getD_eq_getElem?_getD, ha]; rfl)
          have hnI : decide ((n : Int) < ls.length) = true := decide_eq_true (by omega)
          have HONE := Lib.hid (show onePar ⟨nm, hs, df⟩ (ls.getD n []) = some a from by unfold onePar; rw [HGD.out, if_pos (by intro h; rw [h] at hal; simp at hal)])
          have HCC := Lib.hid (show catO (vs ++ [a]) (bindP ((qs.drop (n + 1)).map (·.1)) (ls.drop (n + 1))) = V from by have h := HC.out; rw [HONE.out] at h; rw [← h, ← catO_cat])
          obtain ⟨us, hus, hus2⟩ := HO.out.nx ((Nx.refl wr).alloc (.cells #[.slice xA a.length xc] 37))
          rw [HVL.out] at hus
          have HU := Lib.hid hus
          have HU2 := Lib.hid hus2
          have HUL := Lib.hid (show us.length = n by have := hus.1; omega)
          have HTX := Lib.hid (HXT.out : Toks w (.slice xA a.length xc) a)
          obtain ⟨pi, hz0, hz1, hz2⟩ := HI.out
          clear hus hus2
          go_wp2_with (at_builtin; refine wpList_append_c _ rfl _ _ 22 rfl (w.heap.size + 1 + 1 + 1 + 1) 37 i0 (.slice none 0 0) 1 24 Tryd.underlying22 pi hz0 hz1 hz2 rfl (by decide) _ _ _ rfl HU.out (some ⟨wr.heap.size, 0, none⟩) 1 1 [.slice xA a.length xc] rfl rfl (Or.inr ⟨_, rfl, ?k1c1⟩) ?k1c2 ?k1c3 ?k1c4 ?k1c5 ?_)
          case k1c2 => simp [Value.oneCell']
          case k1c3 => unfold maxLen; omega
          case k1c4 => omega
          case k1c5 => have h1 := HNX.out.size; have h2 := HZ.out; simp; omega
          intro v3 w3 hown3 hgr3 hbl3
          have HX3 := Lib.hid (show Nx W w3 from Below.grown (HNX.out.alloc _) hgr3 (by have := HNX.out.size; simp; omega) (fun k hk => by have h1 := (HU.out.lt k hk).1; have h2 := HZ.out; omega))
          have HO3 := Lib.hid (ShareL.push (ls := vs) (l := a) (by rw [HVL.out]; exact HUL.out) HU2.out HTX.out (by rw [HVL.out]; exact hown3))
          clear hown3 hgr3 hbl3
          go_wp2
          go_roundw
          case rel => exact ⟨n + 1, vs ++ [a], by omega, by go_num, HX3.out, by rw [List.length_append, HVL.out]; rfl, HO3.out, HCC.out⟩
          case measure => simp [intOf]; omega
        · skip
          obtain ⟨ga, oa, ca, x, he, _, hxc, hxt⟩ := line_at HL.out n [] ha
          cases he
          obtain ⟨xA, xc, rfl, _⟩ := hxt.form
          have hxc := HWX.out.cell hxc
          have y1 := block_lt hxc
          have HXT := Lib.hid hxt
          have HGD := Lib.hid (show ls.getD n [] = [] from by rw [List.getD_eq_getElem?_getD, ha]; rfl)
          have hnI : decide ((n : Int) < ls.length) = true := decide_eq_true (by omega)
          have HONE := Lib.hid (show onePar ⟨nm, true, df⟩ (ls.getD n []) = some df from by unfold onePar; rw [HGD.out]; simp)
          have HCC := Lib.hid (show catO (vs ++ [df]) (bindP ((qs.drop (n + 1)).map (·.1)) (ls.drop (n + 1))) = V from by have h := HC.out; rw [HONE.out] at h; rw [← h, ← catO_cat])
          obtain ⟨us, hus, hus2⟩ := HO.out.nx ((Nx.refl wr).alloc (.cells #[.slice dA df.length dc] 37))
          rw [HVL.out] at hus
          have HU := Lib.hid hus
          have HU2 := Lib.hid hus2
          have HUL := Lib.hid (show us.length = n by have := hus.1; omega)
          have HTX := Lib.hid (HTD.out : Toks w (.slice dA df.length dc) df)
          obtain ⟨pi, hz0, hz1, hz2⟩ := HI.out
          clear hus hus2
          go_wp2_with (at_builtin; refine wpList_append_c _ rfl _ _ 22 rfl (w.heap.size + 1 + 1 + 1 + 1) 37 i0 (.slice none 0 0) 1 24 Tryd.underlying22 pi hz0 hz1 hz2 rfl (by decide) _ _ _ rfl HU.out (some ⟨wr.heap.size, 0, none⟩) 1 1 [.slice dA df.length dc] rfl rfl (Or.inr ⟨_, rfl, ?k2c1⟩) ?k2c2 ?k2c3 ?k2c4 ?k2c5 ?_)
          case k2c2 => simp [Value.oneCell']
          case k2c3 => unfold maxLen; omega
          case k2c4 => omega
          case k2c5 => have h1 := HNX.out.size; have h2 := HZ.out; simp; omega
          intro v3 w3 hown3 hgr3 hbl3
          have HX3 := Lib.hid (show Nx W w3 from Below.grown (HNX.out.alloc _) hgr3 (by have := HNX.out.size; simp; omega) (fun k hk => by have h1 := (HU.out.lt k hk).1; have h2 := HZ.out; omega))
          have HO3 := Lib.hid (ShareL.push (ls := vs) (l := df) (by rw [HVL.out]; exact HUL.out) HU2.out HTX.out (by rw [HVL.out]; exact hown3))
          clear hown3 hgr3 hbl3
          go_wp2
          go_roundw
          case rel => exact ⟨n + 1, vs ++ [df], by omega, by go_num, HX3.out, by rw [List.length_append, HVL.out]; rfl, HO3.out, HCC.out⟩
          case measure => simp [intOf]; omega
        · skip
          obtain ⟨ga, oa, ca, x, he, _, hxc, hxt⟩ := line_at HL.out n [] ha
          cases he
          obtain ⟨xA, xc, rfl, _⟩ := hxt.form
          have hxc := HWX.out.cell hxc
          have y1 := block_lt hxc
          have HXT := Lib.hid hxt
          have HGD := Lib.hid (show ls.getD n [] = [] from by rw [List.getD_eq_getElem?_getD, ha]; rfl)
          have hnI : decide ((n : Int) < ls.length) = true := decide_eq_true (by omega)
          have HONE := Lib.hid (show onePar ⟨nm, false, df⟩ (ls.getD n []) = none from by unfold onePar; rw [HGD.out]; simp)
          have HVN := Lib.hid (show V = none from by have h := HC.out; rw [HONE.out] at h; exact h.symm)
          go_wp2
          go_region
          all_goals go_wp2
          all_goals
            refine bodyPost_ret (v := .tuple #[.slice none 0 0, .agg #[.int .i64 t.line, .int .i64 t.col, .int .i64 9]]) (by simp [results, Tryd.results38, go_sem, r0, r1, r2, f0, f1, f2]) rfl ?_
            exact ⟨_, _, _, _, rfl, by repeat (with_reducible first | exact HWX.out | refine Nx.drew ?_ | refine Nx.setCell ?_ (by show w.heap.size ≤ w.heap.size + 1 + 1; omega) _), Or.inr ⟨HVN.out, rfl, rfl, rfl, rfl⟩⟩
        · skip
          have HGD := Lib.hid (show ls.getD n [] = [] from by rw [List.getD_eq_getElem?_getD, List.getElem?_eq_none (by omega)]; rfl)
          have hnI : decide ((n : Int) < ls.length) = false := decide_eq_false (by omega)
          have HONE := Lib.hid (show onePar ⟨nm, true, df⟩ (ls.getD n []) = some df from by unfold onePar; rw [HGD.out]; simp)
          have HCC := Lib.hid (show catO (vs ++ [df]) (bindP ((qs.drop (n + 1)).map (·.1)) (ls.drop (n + 1))) = V from by have h := HC.out; rw [HONE.out] at h; rw [← h, ← catO_cat])
          obtain ⟨us, hus, hus2⟩ := HO.out.nx ((Nx.refl wr).alloc (.cells #[.slice dA df.length dc] 37))
          rw [HVL.out] at hus
          have HU := Lib.hid hus
          have HU2 := Lib.hid hus2
          have HUL := Lib.hid (show us.length = n by have := hus.1; omega)
          have HTX := Lib.hid (HTD.out : Toks w (.slice dA df.length dc) df)
          obtain ⟨pi, hz0, hz1, hz2⟩ := HI.out
          clear hus hus2
          go_wp2_with (at_builtin; refine wpList_append_c _ rfl _ _ 22 rfl (w.heap.size + 1 + 1 + 1 + 1) 37 i0 (.slice none 0 0) 1 24 Tryd.underlying22 pi hz0 hz1 hz2 rfl (by decide) _ _ _ rfl HU.out (some ⟨wr.heap.size, 0, none⟩) 1 1 [.slice dA df.length dc] rfl rfl (Or.inr ⟨_, rfl, ?k3c1⟩) ?k3c2 ?k3c3 ?k3c4 ?k3c5 ?_)
          case k3c2 => simp [Value.oneCell']
          case k3c3 => unfold maxLen; omega
          case k3c4 => omega
          case k3c5 => have h1 := HNX.out.size; have h2 := HZ.out; simp; omega
          intro v3 w3 hown3 hgr3 hbl3
          have HX3 := Lib.hid (show Nx W w3 from Below.grown (HNX.out.alloc _) hgr3 (by have := HNX.out.size; simp; omega) (fun k hk => by have h1 := (HU.out.lt k hk).1; have h2 := HZ.out; omega))
          have HO3 := Lib.hid (ShareL.push (ls := vs) (l := df) (by rw [HVL.out]; exact HUL.out) HU2.out HTX.out (by rw [HVL.out]; exact hown3))
          clear hown3 hgr3 hbl3
          go_wp2
          go_roundw
          case rel => exact ⟨n + 1, vs ++ [df], by omega, by go_num, HX3.out, by rw [List.length_append, HVL.out]; rfl, HO3.out, HCC.out⟩
          case measure => simp [intOf]; omega
        · skip
          have HGD := Lib.hid (show ls.getD n [] = [] from by rw [List.getD_eq_getElem?_getD, List.getElem?_eq_none (by omega)]; rfl)
          have hnI : decide ((n : Int) < ls.length) = false := decide_eq_false (by omega)
          have HONE := Lib.hid (show onePar ⟨nm, false, df⟩ (ls.getD n []) = none from by unfold onePar; rw [HGD.out]; simp)
          have HVN := Lib.hid (show V = none from by have h := HC.out; rw [HONE.out] at h; exact h.symm)
          go_wp2
          go_region
          all_goals go_wp2
          all_goals
            refine bodyPost_ret (v := .tuple #[.slice none 0 0, .agg #[.int .i64 t.line, .int .i64 t.col, .int .i64 9]]) (by simp [results, Tryd.results38, go_sem, r0, r1, r2, f0, f1, f2]) rfl ?_
            exact ⟨_, _, _, _, rfl, by repeat (with_reducible first | exact HWX.out | refine Nx.drew ?_ | refine Nx.setCell ?_ (by show w.heap.size ≤ w.heap.size + 1 + 1; omega) _), Or.inr ⟨HVN.out, rfl, rfl, rfl, rfl⟩⟩
      · obtain rfl : n = qs.length := by omega
        have hnI0 : decide ((qs.length : Int) < qs.length) = false := decide_eq_false (by omega)
        have HVS := Lib.hid (show V = some vs from by
          rw [← hcat, List.drop_length, List.drop_eq_nil_of_le (by omega)]
          show some (vs ++ []) = _
          rw [List.append_nil])
        go_wp2
        refine bodyPost_ret (v := .tuple #[.slice Ao qs.length co, .agg #[.int .i64 0, .int .i64 0, .int .i64 0]]) (by simp [results, Tryd.results38, go_sem, r0, r1, r2, f0, f1, f2]) rfl ?_
        refine ⟨_, _, _, _, rfl, ?_, Or.inl ⟨vs, HVS.out, ShareL.lins (w := w) (base := w.heap.size + 1 + 1 + 1 + 1) ?_ ?_, rfl, rfl, rfl⟩⟩
        · repeat (with_reducible first | exact HWX.out | refine Nx.setCell ?_ (by show w.heap.size ≤ w.heap.size + 1 + 1; omega) _)
        · have h := HO.out
          rw [HVL.out.symm] at h
          rw [HVL.out.symm]
          repeat (with_reducible first | exact h | refine ShareL.set_ ?_ (by show w.heap.size + 1 + 1 < _; omega) _)
        · repeat (with_reducible first | exact HWX.out | refine Nx.setCell ?_ (by show w.heap.size ≤ w.heap.size + 1 + 1; omega) _)

end Go.Proofs.YtbkgdepblaibkaaDoor

/- Contracts of typecaseref11: Tokens, at the same tokens; of typecaseref14: Same, at the same macros. -/
namespace Go.Proofs.YtbkgdepblaibkaaDoor
open Go.RowKit
set_option linter.unusedVariables false
set_option linter.unusedSimpArgs false

set_option maxHeartbeats 2000000 in
set_option maxRecDepth 100000 in
theorem toks_any (v u : Value) (l : List Tok) (w : World) (h1 : Toks w v l) (h2 : Toks w u l) : Calls Tryd.prog 39 #[v, u] w fun e w' => e = .returned (.bool true) ∧ Nx w w' := by
  obtain ⟨B1, e1, rfl, hp1, hp2, hB1⟩ := h1.form
  have hlb : l.length ≤ 9223372036854775807 := by unfold maxLen at hp2; omega
  obtain ⟨B2, e2, rfl, _, _, hB2⟩ := h2.form
  have HB1 := Lib.hid hB1
  have HB2 := Lib.hid hB2
  have bl2 : ((l.length : Int) != l.length) = false := by simp
  clear h1 h2 hp1 hp2 hB1 hB2
  go_enter Tryd.func39, Tryd.ntmps39
  go_wp2
  go_loopw [5] (fun kv wr => ∃ k : Nat, k ≤ l.length ∧ kv = .int .i64 k ∧ Nx w wr) (fun kv _ => l.length - (intOf kv).toNat)
  case atStart => exact ⟨0, Nat.zero_le _, rfl, Nx.refl w⟩
  case round =>
    obtain ⟨k, hk, rfl, hnx⟩ := hrel
    have HNI := Lib.hid hnx
    clear hnx
    by_cases hkl : k < l.length
    · obtain ⟨⟨kd, ln, cl, tx, nm, sc⟩, ht⟩ : ∃ t, l[k]? = some t := ⟨_, List.getElem?_eq_getElem hkl⟩
      obtain ⟨p1, q1, rfl, hT1⟩ : ∃ g o, B1 = some ⟨g, o, none⟩ ∧ TokAt w g o l := by
        rcases HB1.out with ⟨_, h, _⟩ | h
        · subst h; cases ht
        · exact h
      obtain ⟨p2, q2, rfl, hT2⟩ : ∃ g o, B2 = some ⟨g, o, none⟩ ∧ TokAt w g o l := by
        rcases HB2.out with ⟨_, h, _⟩ | h
        · subst h; cases ht
        · exact h
      obtain ⟨a0, a1, a2, a3, a4, a5⟩ := (hT1.nx HNI.out).at_ k _ ht
      obtain ⟨b0, b1, b2, b3, b4, b5⟩ := (hT2.nx HNI.out).at_ k _ ht
      dsimp only at a0 a1 a2 a3 a4 a5 b0 b1 b2 b3 b4 b5
      have y1 := block_lt a0
      have y2 := block_lt b0
      have q := fun w => neq_tok kd ln cl tx nm sc w
      clear ht hT1 hT2
      go_wp2
      go_quiet (fail)
      go_wp2
      go_roundw
      case rel => exact ⟨k + 1, by omega, by go_num, HNI.out.drewN _⟩
      case measure => simp [intOf]; omega
    · obtain rfl : k = l.length := by omega
      go_wp2
      go_ret
      exact ⟨rfl, HNI.out⟩

set_option maxHeartbeats 4000000 in
set_option maxRecDepth 100000 in
theorem rsame_any (mn : List UInt8) (pv1 pv2 lv1 lv2 : Value) (qs ps : List (PPar × Value)) (ls : List (List Tok)) (w : World) (hP1 : ParsQ w pv1 qs) (hP2 : ParsQ w pv2 ps) (he : qs.map (·.1) = ps.map (·.1)) (hL1 : Lins w lv1 ls) (hL2 : Lins w lv2 ls) :
    Calls Tryd.prog 29 #[.agg #[.string (B mn), pv1, lv1], .agg #[.string (B mn), pv2, lv2]] w fun e w' => e = .returned (.bool true) ∧ Nx w w' := by
  have hlen : ps.length = qs.length := by have h := congrArg List.length he; rw [List.length_map, List.length_map] at h; omega
  obtain ⟨A1, c1, rfl, hc1, hc1', hA1⟩ := hP1.1.form
  obtain ⟨A2, c2, rfl, _, _, hA2⟩ := hP2.1.form
  obtain ⟨D1, d1, rfl, _⟩ := hL1.form
  obtain ⟨D2, d2, rfl, _⟩ := hL2.form
  have HP1 := Lib.hid hP1
  have HP2 := Lib.hid hP2
  have HL1 := Lib.hid hL1
  have HL2 := Lib.hid hL2
  have HA1 := Lib.hid hA1
  have HA2 := Lib.hid hA2
  have HEQ := Lib.hid he
  rw [hlen]
  have hn1 : qs.length ≤ 9223372036854775807 := by unfold maxLen at hc1'; omega
  have bl : ((qs.length : Int) != qs.length) = false := by simp
  obtain ⟨W, hW⟩ : ∃ W, (w.alloc (.cells #[.string (B mn), .slice A1 qs.length c1, .slice D1 ls.length d1] 49)).alloc (.cells #[.string (B mn), .slice A2 qs.length c2, .slice D2 ls.length d2] 49) = W := ⟨_, rfl⟩
  have HWE := Lib.hid hW
  have HWN := Lib.hid (show Nx w W from hW ▸ ((Nx.refl w).alloc _).alloc _)
  have HM1 := Lib.hid (show Has W w.heap.size (.cells #[.string (B mn), .slice A1 qs.length c1, .slice D1 ls.length d1] 49) from hW ▸ (Has.new w _).alloc _)
  have HM2 := Lib.hid (show Has W (w.heap.size + 1) (.cells #[.string (B mn), .slice A2 qs.length c2, .slice D2 ls.length d2] 49) from hW ▸ Has.at_ _ _ (by simp))
  clear hP1 hP2 he hlen hc1 hc1' hA1 hA2 hL1 hL2 hW
  go_enter Tryd.func29, Tryd.ntmps29
  go_wp2_with (go_at_call 31; rw [HWE.out]; refine (same_any _ _ ls _ (HL1.out.nx HWN.out) (HL2.out.nx HWN.out)).mono ?_; rintro e w1 ⟨rfl, hn1⟩)
  have H1 := Lib.hid (HWN.out.trans hn1)
  have K1 := Lib.hid hn1
  clear hn1
  go_loopw [5] (fun iv wr => ∃ i : Nat, i ≤ qs.length ∧ iv = .int .i64 i ∧ Nx w1 wr) (fun iv _ => qs.length - (intOf iv).toNat)
  case atStart => exact ⟨0, Nat.zero_le _, rfl, Nx.refl w1⟩
  case round =>
    obtain ⟨i, hi, rfl, hnx⟩ := hrel
    have HNX := Lib.hid hnx
    have HWX := Lib.hid (H1.out.trans hnx)
    have hm := HM1.out.nx (K1.out.trans hnx)
    have hn := HM2.out.nx (K1.out.trans hnx)
    have m1 : wr.cell? ⟨w.heap.size, 1, none⟩ = some (.slice A1 qs.length c1) := hm.cell 1 _ rfl
    have n1 : wr.cell? ⟨w.heap.size + 1, 1, none⟩ = some (.slice A2 qs.length c2) := hn.cell 1 _ rfl
    have zm := hm.lt
    have zn := hn.lt
    clear hnx hm hn
    by_cases hlt : i < qs.length
    · obtain ⟨⟨⟨nm, hs, df⟩, dv⟩, hq1⟩ : ∃ q, qs[i]? = some q := ⟨_, List.getElem?_eq_getElem hlt⟩
      obtain ⟨ev, hq2⟩ : ∃ ev, ps[i]? = some (⟨nm, hs, df⟩, ev) := by
        have h := congrArg (fun l => l[i]?) HEQ.out
        simp only [List.getElem?_map, hq1, Option.map_some] at h
        match hp : ps[i]?, h with
        | some ⟨p, ev⟩, h => simp at h; exact ⟨ev, by rw [h]⟩
      obtain ⟨g1, o1, rfl, hQ1⟩ : ∃ g o, A1 = some ⟨g, o, none⟩ ∧ ParAt w g o qs := by
        rcases HA1.out with ⟨_, h, _⟩ | h
        · subst h; cases hq1
        · exact h
      obtain ⟨g2, o2, rfl, hQ2⟩ : ∃ g o, A2 = some ⟨g, o, none⟩ ∧ ParAt w g o ps := by
        rcases HA2.out with ⟨_, h, _⟩ | h
        · subst h; cases hq2
        · exact h
      have HT1 := Lib.hid (HP1.out.2 _ (List.mem_of_getElem? hq1))
      have HT2 := Lib.hid (HP2.out.2 _ (List.mem_of_getElem? hq2))
      obtain ⟨a0, a1, a2⟩ := (hQ1.nx HWX.out).at_ i _ hq1
      obtain ⟨b0, b1, b2⟩ := (hQ2.nx HWX.out).at_ i _ hq2
      dsimp only at a0 a1 a2 b0 b1 b2 HT1 HT2
      have y1 := block_lt a0
      have y2 := block_lt b0
      have hiI : (i : Int) < qs.length := by omega
      have hi0 : (0 : Int) ≤ i := by omega
      have bh : (hs != hs) = false := by simp
      clear hQ1 hQ2 hq1 hq2
      go_wp2
      (refine wp_region_nx 43 (by kernel_rfl) (by kernel_rfl) ?_; simp only [List.take_succ_cons, List.take_zero, List.drop_succ_cons, List.drop_zero]; (repeat (refine wpQuiet_step (fun K hK => ?_); go_simp; first | (refine hK _ ?_; clear hK K) | (apply Exists.intro; refine ⟨fun w' hw' => ?_, hK _ ?_⟩; (first | (with_reducible rfl) | (go_at_call 39; with_reducible exact (toks_any _ _ df _ (HT1.out.nx (HWX.out.trans hw')) (HT2.out.nx (HWX.out.trans hw'))).mono fun _ _ h => ⟨h.1, hw'.trans h.2⟩) | (rw [hw'.cell m1]; exact ⟨rfl, rfl⟩) | (rw [hw'.cell n1]; exact ⟨rfl, rfl⟩) | (rw [hw'.cell a0]; exact ⟨rfl, rfl⟩) | (rw [hw'.cell a1]; exact ⟨rfl, rfl⟩) | (rw [hw'.cell a2]; exact ⟨rfl, rfl⟩) | (rw [hw'.cell b0]; exact ⟨rfl, rfl⟩) | (rw [hw'.cell b1]; exact ⟨rfl, rfl⟩) | (rw [hw'.cell b2]; exact ⟨rfl, rfl⟩) | (obtain ⟨hc, hf⟩ := nx_cells hw'; go_simp; with_reducible rfl) | (obtain ⟨hc, hf⟩ := nx_cells hw'; go_simp; rfl)); clear hK K))); refine wpQuiet_nil ?_; intro w9 hn9)
      have HN9 := Lib.hid (HNX.out.trans hn9)
      clear hn9 a0 a1 a2 b0 b1 b2 m1 n1
      go_wp2
      go_roundw
      case rel => exact ⟨i + 1, by omega, by go_num, HN9.out⟩
      case measure => simp [intOf]; omega
    · obtain rfl : i = qs.length := by omega
      go_wp2
      go_ret
      exact ⟨rfl, HWX.out⟩

end Go.Proofs.YtbkgdepblaibkaaDoor

/- Contracts of package macro: Fill, where no line has a Param token. -/
namespace Go.Proofs.YtbkgdepblaibkaaDoor
open Go.RowKit
set_option linter.unusedVariables false
set_option linter.unusedSimpArgs false

/-- A slice that is nil so far, with room for so many. -/
theorem make_cap (n : Nat) (hn : n ≤ 1000000) (W : World) : (Instr.makeSlice 22 (.int .i64 0) (.int .i64 (n : Int))).run Tryd.prog W = .ok (.slice (some ⟨W.heap.size, 0, none⟩) 0 n) (W.alloc (.cells (Array.replicate n (Value.slice none 0 0)) 37)) := by
  obtain ⟨i0, hi, hz0, hz1, hz2⟩ := info_parts toks_info
  have hr := run_make (P := Tryd.prog) W 22 37 i0 (.slice none 0 0) Tryd.underlying22 hi hz0 .i64 .i64 0 n (by omega) (by omega) (by rw [hz2]; omega) (by omega)
  rw [hz1, Int.toNat_natCast, Nat.mul_one, made_slices] at hr
  exact hr

theorem ownL_cap (W : World) (n base g : Nat) (hg : g = W.heap.size) (hn : n ≤ 1000000) (hb : base ≤ W.heap.size) : OwnL (W.alloc (.cells (Array.replicate n (Value.slice none 0 0)) 37)) base (.slice (some ⟨g, 0, none⟩) 0 n) [] := by
  subst hg
  exact ⟨[], OwnC.made W base 37 1 (Array.replicate n (Value.slice none 0 0)) n hb (by unfold maxLen; omega) (by simp), fun k u l hu => by cases hu⟩

/-- What holds at a round's head. -/
def FillRel (ms : List (List Tok)) (W wr : World) (ov iv : Value) : Prop := ∃ i : Nat, i ≤ ms.length ∧ iv = .int .i64 i ∧ Nx W wr ∧ OwnL wr W.heap.size ov (ms.take i)

def FillRow (l : List Tok) (wo wr : World) (ov iv : Value) : Prop := ∃ k : Nat, k ≤ l.length ∧ iv = .int .i64 k ∧ Nx wo wr ∧ OwnC wr wo.heap.size 58 6 ov k (toksC (l.take k))

set_option maxHeartbeats 4000000 in
set_option maxRecDepth 100000 in
theorem fill_any (mn : List UInt8) (pv : Value) (hpv : ∃ A n c, pv = Value.slice A n c) (lv : Value) (ms : List (List Tok)) (vv : Value) (hvv : ∃ A n c, vv = Value.slice A n c) (w : World) (hM : Lins w lv ms) (hml : ms.length ≤ 1000000) (hll : ∀ l ∈ ms, l.length ≤ 1000000) (hno : ∀ l ∈ ms, ∀ t ∈ l, t.kind ≠ 3) :
    Calls Tryd.prog 40 #[.agg #[.string (B mn), pv, lv], vv] w (RetParts ms w) := by
  obtain ⟨pA, pn, pc, rfl⟩ := hpv
  obtain ⟨vA, vn, vc, rfl⟩ := hvv
  obtain ⟨i0, hi, hz0, hz1, hz2⟩ := info_parts toks_info
  have HI := Lib.hid (And.intro hi (And.intro hz0 (And.intro hz1 hz2)))
  clear hi hz0 hz1 hz2
  obtain ⟨j0, hj, hj0, hj1, hj2⟩ := info_parts tok_info
  have HJ := Lib.hid (And.intro hj (And.intro hj0 (And.intro hj1 hj2)))
  clear hj hj0 hj1 hj2
  obtain ⟨A, c, rfl, hc1, hc2, hA⟩ := hM.form
  have HM := Lib.hid hM
  have HLL := Lib.hid hll
  have HNO := Lib.hid hno
  obtain ⟨W, hW⟩ : ∃ W, w.alloc (.cells #[.string (B mn), .slice pA pn pc, .slice A ms.length c] 44) = W := ⟨_, rfl⟩
  have HWE := Lib.hid hW
  have HWN := Lib.hid (show Nx w W from hW ▸ (Nx.refl w).alloc _)
  have hmk := make_cap ms.length hml
  have HO0 := Lib.hid (ownL_cap W ms.length W.heap.size (w.heap.size + 1) (by rw [← hW]; simp) hml (Nat.le_refl _))
  have hmlI : ms.length ≤ 1000000 := hml
  unfold maxLen at hc2
  clear hM hA hll hno hW hml
  go_enter Tryd.func40, Tryd.ntmps40
  go_wp2
  rw [HWE.out]
  go_loopw [5, 19] (fun ov iv wr => FillRel ms W wr ov iv) (fun _ iv _ => ms.length - (intOf iv).toNat)
  case atStart => exact ⟨0, Nat.zero_le _, rfl, (Nx.refl W).alloc _, HO0.out⟩
  case round =>
    obtain ⟨i, hi, rfl, hnx, hO⟩ := hrel
    obtain ⟨wo, rfl⟩ : ∃ wo : World, wo = wr := ⟨_, rfl⟩
    have HNX := Lib.hid hnx
    have HWX := Lib.hid (HWN.out.trans hnx)
    have HO := Lib.hid hO
    have htl : (ms.take i).length = i := by rw [List.length_take]; omega
    obtain ⟨Ao, co, he⟩ := hO.form
    rw [htl] at he
    subst he
    have HTL := Lib.hid htl
    clear hnx hO htl
    by_cases hlt : i < ms.length
    · obtain ⟨l, hl⟩ : ∃ l, ms[i]? = some l := ⟨_, List.getElem?_eq_getElem hlt⟩
      obtain ⟨g, o, cc, x, he, _, hxc, hxt⟩ := line_at HM.out i l hl
      cases he
      obtain ⟨xA, xc, rfl, hx1, hx2, hxA⟩ := hxt.form
      have hxc := HWX.out.cell hxc
      have y1 := block_lt hxc
      have HXT := Lib.hid hxt
      have HXA := Lib.hid hxA
      have HLI := Lib.hid hl
      have hl6 : l.length ≤ 1000000 := HLL.out l (List.mem_of_getElem? hl)
      have HNL := Lib.hid (HNO.out l (List.mem_of_getElem? hl))
      have hiI : decide ((i : Int) < ms.length) = true := decide_eq_true (by omega)
      have hi0 : (i : Int) < ms.length := by omega
      clear hxt hxA hl
      go_wp2
      clear hxc y1 hiI
      go_loopw [8, 25] (fun ov iv wr => FillRow l wo wr ov iv) (fun _ iv _ => l.length - (intOf iv).toNat)
      case atStart => exact ⟨0, Nat.zero_le _, rfl, Nx.refl wo, OwnC.nil _ _ _ _⟩
      case round =>
        obtain ⟨k, hk, rfl, hnx, hO⟩ := hrel
        have KX := Lib.hid hnx
        have HK := Lib.hid hO
        clear hnx hO
        by_cases hlk : k < l.length
        · obtain ⟨⟨kd, ln, cl, tx, nm, sc⟩, ht⟩ : ∃ t, l[k]? = some t := ⟨_, List.getElem?_eq_getElem hlk⟩
          obtain ⟨g1, o1, rfl, hTA⟩ : ∃ g o, xA = some ⟨g, o, none⟩ ∧ TokAt w g o l := by
            rcases HXA.out with ⟨_, h, _⟩ | h
            · subst h; cases ht
            · exact h
          obtain ⟨a0, a1, a2, a3, a4, a5⟩ := (hTA.nx (HWX.out.trans KX.out)).at_ k _ ht
          dsimp only at a0 a1 a2 a3 a4 a5
          have y0 := block_lt a0
          have b3 : (kd == 3) = false := beq_eq_false_iff_ne.2 (HNL.out _ (List.mem_of_getElem? ht))
          have HTS := Lib.hid (show toksC (l.take (k + 1)) = toksC (l.take k) ++ [.int .i64 kd, .int .i64 ln, .int .i64 cl, .string (B tx), .int .u32 nm, .int .i64 sc] from by rw [take_snoc' _ _ _ ht, toksC_snoc])
          have hA := Lib.hid ((HK.out.alloc (.cells #[.int .i64 kd, .int .i64 ln, .int .i64 cl, .string (B tx), .int .u32 nm, .int .i64 sc] 58)).alloc (.cells #[.int .i64 kd, .int .i64 ln, .int .i64 cl, .string (B tx), .int .u32 nm, .int .i64 sc] 58))
          have hkI : (k : Int) < l.length := by omega
          have hk6 : k ≤ 1000000 := by omega
          obtain ⟨hj, hj0, hj1, hj2⟩ := HJ.out
          clear hTA ht
          go_wp2_with (at_builtin; refine wpList_append_c _ rfl _ _ 37 rfl wo.heap.size 58 j0 (.agg #[.int .i64 0, .int .i64 0, .int .i64 0, .string (B []), .int .u32 0, .int .i64 0]) 6 56 Tryd.underlying37 hj hj0 hj1 hj2 rfl (by decide) _ _ _ rfl hA.out (some ⟨wr.heap.size + 1, 0, none⟩) 1 1 [.int .i64 kd, .int .i64 ln, .int .i64 cl, .string (B tx), .int .u32 nm, .int .i64 sc] rfl rfl (Or.inr ⟨_, rfl, ?c1⟩) ?c2 ?c3 ?c4 ?c5 ?_)
          try (case c1 =>
            have h6 := six_at (wr.alloc (.cells #[.int .i64 kd, .int .i64 ln, .int .i64 cl, .string (B tx), .int .u32 nm, .int .i64 sc] 58)) [.int .i64 kd, .int .i64 ln, .int .i64 cl, .string (B tx), .int .u32 nm, .int .i64 sc] 58
            rw [show (wr.alloc (.cells #[.int .i64 kd, .int .i64 ln, .int .i64 cl, .string (B tx), .int .u32 nm, .int .i64 sc] 58)).heap.size = wr.heap.size + 1 by simp] at h6
            exact h6)
          case c2 => simp [Value.oneCell']
          case c3 => unfold maxLen; omega
          case c4 => omega
          case c5 => have := KX.out.size; simp; omega
          intro v3 w3 hown3 hgr3 hbl3
          have KX3 := Lib.hid (show Nx wo w3 from Below.grown ((KX.out.alloc _).alloc _) hgr3 (by have := KX.out.size; simp; omega) (fun k hk => by have := (hA.out.lt k hk).1; omega))
          have HO3 := Lib.hid hown3
          clear hown3 hgr3 hbl3
          go_wp2
          go_roundw
          case rel => exact ⟨k + 1, by omega, by go_num, KX3.out, by rw [HTS.out]; exact HO3.out⟩
          case measure => simp [intOf]; omega
        · obtain rfl : k = l.length := by omega
          have hkI : decide ((l.length : Int) < l.length) = false := decide_eq_false (by omega)
          have HF := Lib.hid (own_fresh (Nat.le_refl _) (by have h := HK.out; rw [List.take_length] at h; exact h))
          obtain ⟨A2, c2, rfl, _⟩ := HF.out.1.form
          obtain ⟨us, hus, husl, hus2⟩ := ((HO.out.nx KX.out).nx ((Nx.refl wr).alloc (.cells #[.slice A2 l.length c2] 37))).parts
          rw [HTL.out] at hus husl
          have HU := Lib.hid hus
          have HU2 := Lib.hid hus2
          have HUL := Lib.hid husl
          have HTA := Lib.hid (HF.out.1.nx ((Nx.refl wr).alloc (.cells #[.slice A2 l.length c2] 37)))
          have HTB := Lib.hid (fun g (hg : (Value.slice A2 l.length c2).ownBlock = some g) => (show W.heap.size ≤ g ∧ g < wr.heap.size + 1 ∧ (Value.slice Ao i co).ownBlock ≠ some g from by
            obtain ⟨h1, h2⟩ := HF.out.2 g hg
            have s1 := HNX.out.size
            refine ⟨by omega, by omega, fun e => ?_⟩
            have := (HO.out.lt g e).2
            omega))
          clear hus hus2 husl HK
          obtain ⟨hi, hz0, hz1, hz2⟩ := HI.out
          go_wp2_with (at_builtin; refine wpList_append_c _ rfl _ _ 22 rfl W.heap.size 37 i0 (.slice none 0 0) 1 24 Tryd.underlying22 hi hz0 hz1 hz2 rfl (by decide) _ _ _ rfl HU.out (some ⟨wr.heap.size, 0, none⟩) 1 1 [.slice A2 l.length c2] rfl rfl (Or.inr ⟨_, rfl, ?d1⟩) ?d2 ?d3 ?d4 ?d5 ?_)
          try (case d1 => exact six_at wr [.slice A2 l.length c2] 37)
          case d2 => simp [Value.oneCell']
          case d3 => unfold maxLen; omega
          case d4 => omega
          case d5 => have := HNX.out.size; have := KX.out.size; simp; omega
          intro v3 w3 hown3 hgr3 hbl3
          have HX3 := Lib.hid (show Nx W w3 from Below.grown ((HNX.out.trans KX.out).alloc _) hgr3 (by have := HNX.out.size; have := KX.out.size; simp; omega) (fun k hk => (HU.out.lt k hk).1))
          have HO3 := Lib.hid (OwnL.push (by rw [HTL.out]; exact HUL.out) HU2.out HTA.out (by intro g hg; have := HTB.out g hg; simpa using this) hgr3 (by simpa using hbl3) (by rw [HTL.out]; exact hown3))
          clear hown3 hgr3 hbl3
          go_wp2
          go_roundw
          case rel => exact ⟨i + 1, by omega, by go_num, HX3.out, by rw [take_snoc' _ _ _ HLI.out]; exact HO3.out⟩
          case measure => simp [intOf]; omega
    · obtain rfl : i = ms.length := by omega
      have hiI : decide ((ms.length : Int) < ms.length) = false := decide_eq_false (by omega)
      go_wp2
      go_ret
      exact ⟨_, rfl, HWX.out, by have h := HO.out; rw [List.take_length] at h; exact h.lower HWN.out.size⟩

end Go.Proofs.YtbkgdepblaibkaaDoor

