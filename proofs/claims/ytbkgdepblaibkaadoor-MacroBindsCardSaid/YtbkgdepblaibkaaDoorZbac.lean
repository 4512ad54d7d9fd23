/- Parts of the proof, one behind the other. -/
import Derived.Test.YtbkgdepblaibkaaDoorMadf
import Derived.Test.YtbkgdepblaibkaaDoorArg
import Derived.Test.YtbkgdepblaibkaaDoorMade
import Derived.Test.YtbkgdepblaibkaaDoorZbaa
import Derived.Test.YtbkgdepblaibkaaDoorZbab
/- Contracts of typecaseref14: Bind. -/
namespace Go.Proofs.YtbkgdepblaibkaaDoor
open Go.RowKit
set_option linter.unusedVariables false
set_option linter.unusedSimpArgs false

/-- What comes of handing, by the document. -/
def RetRBind (V : Option (List (List Tok))) (t : Tok) (w : World) (e : Ending) (w' : World) : Prop :=
  ∃ v a b c, e = .returned (.tuple #[v, .agg #[.int .i64 a, .int .i64 b, .int .i64 c]]) ∧ Nx w w' ∧ ((∃ vs, V = some vs ∧ Lins w' v vs ∧ a = 0 ∧ b = 0 ∧ c = 0) ∨ (V = none ∧ v = .slice none 0 0 ∧ a = t.line ∧ b = t.col ∧ c = 9))

/-- Lines in memory of the call's own, whose tokens lie where they lay in w. -/
def ShareL (w wr : World) (base : Nat) (v : Value) (ls : List (List Tok)) : Prop :=
  ∃ us, OwnC wr base 37 1 v ls.length us ∧ ∀ (k : Nat) (u : Value) (l : List Tok), us[k]? = some u → ls[k]? = some l → Toks w u l

theorem ShareL.nil (w wr : World) (base : Nat) : ShareL w wr base (.slice none 0 0) [] := ⟨[], OwnC.nil _ _ _ _, fun k u l h => by cases h⟩

theorem ShareL.lins {w wr : World} {base : Nat} {v : Value} {ls : List (List Tok)} (h : ShareL w wr base v ls) (hn : Nx w wr) : Lins wr v ls := by
  obtain ⟨us, h1, h2⟩ := h
  have hlen : us.length = ls.length := by have := h1.1; omega
  rcases h1.2 with ⟨hv, h0⟩ | ⟨g, cap, cur, hv, hb, hg, h3, h4, h5, h6⟩
  · exact Or.inl ⟨⟨none, by rw [hv]⟩, List.eq_nil_of_length_eq_zero h0⟩
  · refine Or.inr ⟨g, 0, cap, hv, h3, h4, fun k l hk => ?_⟩
    have hlt := (List.getElem?_eq_some_iff.1 hk).1
    have hu : us[k]? = some (us[k]'(by omega)) := List.getElem?_eq_getElem (by omega)
    refine ⟨_, ?_, (h2 k _ l hu hk).nx hn⟩
    rw [Nat.zero_add]
    exact h1.cells (g := g) (by rw [hv]; rfl) k _ hu

theorem ShareL.form {w wr : World} {base : Nat} {v : Value} {ls : List (List Tok)} (h : ShareL w wr base v ls) : ∃ A c, v = .slice A ls.length c := by
  obtain ⟨us, h1, _⟩ := h
  rcases h1.2 with ⟨hv, h0⟩ | ⟨g, cap, cur, hv, _⟩
  · exact ⟨none, 0, by rw [hv, h0]⟩
  · exact ⟨_, _, hv⟩

theorem ShareL.set_ {w wr : World} {base : Nat} {v : Value} {ls : List (List Tok)} (h : ShareL w wr base v ls) {p : Addr} (hp : p.block < base) (x : Value) : ShareL w (wr.setCell p x) base v ls := by
  obtain ⟨us, h1, h2⟩ := h
  exact ⟨us, own_set h1 hp x, h2⟩

theorem ShareL.nx {w wr w' : World} {base : Nat} {v : Value} {ls : List (List Tok)} (h : ShareL w wr base v ls) (hn : Nx wr w') : ShareL w w' base v ls := by
  obtain ⟨us, h1, h2⟩ := h
  exact ⟨us, h1.nx hn, h2⟩

theorem ShareL.push {w wr : World} {base : Nat} {v u : Value} {ls : List (List Tok)} {l : List Tok} {us : List Value} (hlen : us.length = ls.length) (h2 : ∀ (k : Nat) (u : Value) (l : List Tok), us[k]? = some u → ls[k]? = some l → Toks w u l)
    (ht : Toks w u l) (hown : OwnC wr base 37 1 v (ls.length + 1) (us ++ [u])) : ShareL w wr base v (ls ++ [l]) := by
  refine ⟨us ++ [u], by rw [List.length_append, List.length_singleton]; exact hown, fun k x y hx hy => ?_⟩
  rw [List.getElem?_append] at hx hy
  by_cases hk : k < ls.length
  · rw [if_pos (by omega)] at hx
    rw [if_pos hk] at hy
    exact h2 k x y hx hy
  · rw [if_neg (by omega)] at hx
    rw [if_neg hk] at hy
    have hk0 : k - ls.length = 0 := by
      have := (List.getElem?_eq_some_iff.1 hy).1
      simpa using this
    rw [hlen, hk0] at hx
    rw [hk0] at hy
    simp at hx hy
    subst hx hy
    exact ht

/-- What holds at a round's head. -/
def RBindRel (qs : List (PPar × Value)) (ls : List (List Tok)) (w W wr : World) (base : Nat) (V : Option (List (List Tok))) (ov iv : Value) : Prop :=
  ∃ (n : Nat) (vs : List (List Tok)), n ≤ qs.length ∧ iv = .int .i64 n ∧ Nx W wr ∧ vs.length = n ∧ ShareL w wr base ov vs ∧ catO vs (bindP ((qs.drop n).map (·.1)) (ls.drop n)) = V


set_option maxHeartbeats 4000000 in
set_option maxRecDepth 100000 in
theorem rbind_any (mn : List UInt8) (pv : Value) (qs : List (PPar × Value)) (lv : Value) (hlv : ∃ A n c, lv = Value.slice A n c) (t : Tok) (av : Value) (ls : List (List Tok)) (w : World) (hP : ParsQ w pv qs) (hL : Lins w av ls) (hq : qs.length ≤ 1000000) :
    Calls Tryd.prog 38 #[.agg #[.string (B mn), pv, lv], tokV t, av] w (RetRBind (bindP (qs.map (·.1)) ls) t w) := by
  obtain ⟨lA, ln, lc, rfl⟩ := hlv
  obtain ⟨i0, pi, hz0, hz1, hz2⟩ := info_parts toks_info
  have HI := Lib.hid (And.intro pi (And.intro hz0 (And.intro hz1 hz2)))
  clear pi hz0 hz1 hz2
  obtain ⟨A, c, rfl, hc1, hc2, hA⟩ := hP.1.form
  obtain ⟨A2, c2, rfl, hd1, hd2, hA2⟩ := hL.form
  have HP := Lib.hid hP
  have HL := Lib.hid hL
  have HPA := Lib.hid hA
  have HV := Lib.hid (show catO ([] : List (List Tok)) (bindP ((qs.drop 0).map (·.1)) (ls.drop 0)) = bindP (qs.map (·.1)) ls by rw [catO_nil]; rfl)
  have HM := Lib.hid (bindP_many (qs.map (·.1)) ls)
  rw [List.length_map] at HM
  generalize bindP (qs.map (·.1)) ls = V at *
  unfold maxLen at hd2
  have hc3 : c ≤ 9223372036854775807 := by unfold maxLen at hc2; omega
  clear hP hL hA hA2
  obtain ⟨W, hW⟩ : ∃ W, (((w.alloc (.cells #[.string (B mn), .slice A qs.length c, .slice lA ln lc] 49)).alloc (.cells #[.int .i64 t.kind, .int .i64 t.line, .int .i64 t.col, .string (B t.text), .int .u32 t.num, .int .i64 t.scope] 58)).alloc (.cells #[.int .i64 0, .int .i64 0, .int .i64 0] 30)).alloc (.cells #[.int .i64 t.line, .int .i64 t.col, .int .i64 9] 30) = W := ⟨_, rfl⟩
  have HWE := Lib.hid hW
  have hWs : W.heap.size = w.heap.size + 1 + 1 + 1 + 1 := by rw [← hW]; simp
  have HWN := Lib.hid (show Nx w W from hW ▸ ((((Nx.refl w).alloc _).alloc _).alloc _).alloc _)
  have HM0 := Lib.hid (show Has W w.heap.size (.cells #[.string (B mn), .slice A qs.length c, .slice lA ln lc] 49) from hW ▸ (((Has.new w _).alloc _).alloc _).alloc _)
  have HR0 := Lib.hid (show Has W (w.heap.size + 1 + 1) (.cells #[.int .i64 0, .int .i64 0, .int .i64 0] 30) from hW ▸ (Has.at_ _ _ (by simp)).alloc _)
  have HB0 := Lib.hid (show Has W (w.heap.size + 1 + 1 + 1) (.cells #[.int .i64 t.line, .int .i64 t.col, .int .i64 9] 30) from hW ▸ Has.at_ _ _ (by simp))
  have HZ := Lib.hid hWs
  clear hW hWs
  by_cases hmany : qs.length < ls.length
  · have hmI : decide ((qs.length : Int) < ls.length) = true := decide_eq_true (by omega)
    have HV2 := Lib.hid (HM.out hmany)
    clear HV HM
    go_enter Tryd.func38, Tryd.ntmps38
    go_wp2
    rw [HWE.out]
    have hr := HR0.out.nx (Nx.refl W)
    have r0 : W.cell? ⟨w.heap.size + 1 + 1, 0, none⟩ = some (.int .i64 0) := hr.cell 0 _ rfl
    have r1 : W.cell? ⟨w.heap.size + 1 + 1, 1, none⟩ = some (.int .i64 0) := hr.cell 1 _ rfl
    have r2 : W.cell? ⟨w.heap.size + 1 + 1, 2, none⟩ = some (.int .i64 0) := hr.cell 2 _ rfl
    have f0 := hr.free 0
    have f1 := hr.free 1
    have f2 := hr.free 2
    have zr := hr.lt
    have hb := HB0.out.nx (Nx.refl W)
    have b0 : W.cell? ⟨w.heap.size + 1 + 1 + 1, 0, none⟩ = some (.int .i64 t.line) := hb.cell 0 _ rfl
    have b1 : W.cell? ⟨w.heap.size + 1 + 1 + 1, 1, none⟩ = some (.int .i64 t.col) := hb.cell 1 _ rfl
    have b2 : W.cell? ⟨w.heap.size + 1 + 1 + 1, 2, none⟩ = some (.int .i64 9) := hb.cell 2 _ rfl
    have zb := hb.lt
    clear hr hb
    go_region
    all_goals go_wp2
    all_goals
      refine bodyPost_ret (v := .tuple #[.slice none 0 0, .agg #[.int .i64 t.line, .int .i64 t.col, .int .i64 9]]) (by simp [results, Tryd.results38, go_sem, r0, r1, r2, f0, f1, f2]) rfl ?_
      exact ⟨_, _, _, _, rfl, by repeat (with_reducible first | exact HWN.out | refine Nx.drew ?_ | refine Nx.setCell ?_ (by show w.heap.size ≤ w.heap.size + 1 + 1; omega) _), Or.inr ⟨HV2.out, rfl, rfl, rfl, rfl⟩⟩
  · have hmI : decide ((qs.length : Int) < ls.length) = false := decide_eq_false (by omega)
    go_enter Tryd.func38, Tryd.ntmps38
    go_wp2
    rw [HWE.out]
    go_loopw [8, 10] (fun ov iv wr => RBindRel qs ls w W wr (w.heap.size + 1 + 1 + 1 + 1) V ov iv) (fun _ iv _ => qs.length - (intOf iv).toNat)
    case atStart => exact ⟨0, [], Nat.zero_le _, rfl, Nx.refl W, rfl, ShareL.nil _ _ _, HV.out⟩
    case round =>
      obtain ⟨n, vs, hn, rfl, hnx, hvl, hO, hcat⟩ := hrel
      have HNX := Lib.hid hnx
      have HWX := Lib.hid (HWN.out.trans hnx)
      have HO := Lib.hid hO
      have HVL := Lib.hid hvl
      obtain ⟨Ao, co, rfl⟩ := hO.form
      have hm := HM0.out.nx hnx
      have m1 : wr.cell? ⟨w.heap.size, 1, none⟩ = some (.slice A qs.length c) := hm.cell 1 _ rfl
      have zm := hm.lt
      rw [hvl] at HO ⊢
      have hr := HR0.out.nx hnx
      have r0 : wr.cell? ⟨w.heap.size + 1 + 1, 0, none⟩ = some (.int .i64 0) := hr.cell 0 _ rfl
      have r1 : wr.cell? ⟨w.heap.size + 1 + 1, 1, none⟩ = some (.int .i64 0) := hr.cell 1 _ rfl
      have r2 : wr.cell? ⟨w.heap.size + 1 + 1, 2, none⟩ = some (.int .i64 0) := hr.cell 2 _ rfl
      have f0 := hr.free 0
      have f1 := hr.free 1
      have f2 := hr.free 2
      have zr := hr.lt
      have hb := HB0.out.nx hnx
      have b0 : wr.cell? ⟨w.heap.size + 1 + 1 + 1, 0, none⟩ = some (.int .i64 t.line) := hb.cell 0 _ rfl
      have b1 : wr.cell? ⟨w.heap.size + 1 + 1 + 1, 1, none⟩ = some (.int .i64 t.col) := hb.cell 1 _ rfl
      have b2 : wr.cell? ⟨w.heap.size + 1 + 1 + 1, 2, none⟩ = some (.int .i64 9) := hb.cell 2 _ rfl
      have zb := hb.lt
      clear hr hb
      clear hnx hO hvl hm
      by_cases hlt : n < qs.length
      · obtain ⟨⟨⟨nm, hs, df⟩, dv⟩, hq1⟩ : ∃ q, qs[n]? = some q := ⟨_, List.getElem?_eq_getElem hlt⟩
        obtain ⟨g, o, rfl, hPA⟩ : ∃ g o, A = some ⟨g, o, none⟩ ∧ ParAt w g o qs := by
          rcases HPA.out with ⟨_, h, _⟩ | h
          · subst h; cases hq1
          · exact h
        have HTD := Lib.hid (HP.out.2 _ (List.mem_of_getElem? hq1))
        obtain ⟨dA, dc, hdv, _⟩ := HTD.out.form
        dsimp only at hdv HTD
        subst hdv
        obtain ⟨a0, a1, a2⟩ := (hPA.nx HWX.out).at_ n _ hq1
        dsimp only at a0 a1 a2
        have y0 := block_lt a0
        have hdr : qs.drop n = (⟨nm, hs, df⟩, .slice dA df.length dc) :: qs.drop (n + 1) := by
          obtain ⟨_, hqe⟩ := List.getElem?_eq_some_iff.1 hq1
          rw [List.drop_eq_getElem_cons hlt, hqe]
        rw [hdr, List.map_cons, bindP_cons, drop_headD, drop_tail] at hcat
        dsimp only at hcat
        have HC := Lib.hid hcat
        have hq6 : qs.length ≤ 1000000 := hq
        have hnI0 : decide ((n : Int) < qs.length) = true := decide_eq_true (by omega)
        clear hPA hq1 hdr hcat HV HM
        have five : (n < ls.length ∧ (∃ a, ls[n]? = some a ∧ 0 < a.length)) ∨ (n < ls.length ∧ ls[n]? = some [] ∧ hs = true) ∨ (n < ls.length ∧ ls[n]? = some [] ∧ hs = false) ∨ (¬ n < ls.length ∧ hs = true) ∨ (¬ n < ls.length ∧ hs = false) := by
          by_cases h : n < ls.length
          · obtain ⟨a, ha⟩ : ∃ a, ls[n]? = some a := ⟨_, List.getElem?_eq_getElem h⟩
            cases a with
            | nil =>
              cases hs
              · exact Or.inr (Or.inr (Or.inl ⟨h, ha, rfl⟩))
              · exact Or.inr (Or.inl ⟨h, ha, rfl⟩)
            | cons x y => exact Or.inl ⟨h, _, ha, by simp⟩
          · cases hs
            · exact Or.inr (Or.inr (Or.inr (Or.inr ⟨h, rfl⟩)))
            · exact Or.inr (Or.inr (Or.inr (Or.inl ⟨h, rfl⟩)))
        rcases five with ⟨hnl, a, ha, hal⟩ | ⟨hnl, ha, rfl⟩ | ⟨hnl, ha, rfl⟩ | ⟨hnl, rfl⟩ | ⟨hnl, rfl⟩
        · skip
          obtain ⟨ga, oa, ca, x, he, _, hxc, hxt⟩ := line_at HL.out n a ha
          cases he
          obtain ⟨xA, xc, rfl, _⟩ := hxt.form
          have hxc := HWX.out.cell hxc
          have y1 := block_lt hxc
          have HXT := Lib.hid hxt
          have HGD := Lib.hid (show ls.getD n [] = a from by rw [List.getD_eq_getElem?_getD, ha]; rfl)
          have hnI : decide ((n : Int) < ls.length) = true := decide_eq_true (by omega)
          have HONE := Lib.hid (show onePar ⟨nm, hs, df⟩ (ls.getD n []) = some a from by unfold onePar; rw [HGD.out, if_pos (by intro h; rw [h] at hal; simp at hal)])
          have HCC := Lib.hid (show catO (vs ++ [a]) (bindP ((qs.drop (n + 1)).map (·.1)) (ls.drop (n + 1))) = V from by have h := HC.out; rw [HONE.out] at h; rw [← h, ← catO_cat])
          obtain ⟨us, hus, hus2⟩ := HO.out.nx ((Nx.refl wr).alloc (.cells #[.slice xA a.length xc] 37))
          rw [HVL.out] at hus
          have HU := Lib.hid hus
          have HU2 := Lib.hid hus2
          have HUL := Lib.hid (show us.length = n by have := hus.1; omega)
          have HTX := Lib.hid (HXT.out : Toks w (.slice xA a.length xc) a)
          obtain ⟨pi, hz0, hz1, hz2⟩ := HI.out
          clear hus hus2
          go_wp2_with (at_builtin; refine wpList_append_c _ rfl _ _ 22 rfl (w.heap.size + 1 + 1 + 1 + 1) 37 i0 (.slice none 0 0) 1 24 Tryd.underlying22 pi hz0 hz1 hz2 rfl (by decide) _ _ _ rfl HU.out (some ⟨wr.heap.size, 0, none⟩) 1 1 [.slice xA a.length xc] rfl rfl (Or.inr ⟨_, rfl, ?k1c1⟩) ?k1c2 ?k1c3 ?k1c4 ?k1c5 ?_)
          case k1c2 => simp [Value.oneCell']
          case k1c3 => unfold maxLen; omega
          case k1c4 => omega
          case k1c5 => have h1 := HNX.out.size; have h2 := HZ.out; simp; omega
          intro v3 w3 hown3 hgr3 hbl3
          have HX3 := Lib.hid (show Nx W w3 from Below.grown (HNX.out.alloc _) hgr3 (by have := HNX.out.size; simp; omega) (fun k hk => by have h1 := (HU.out.lt k hk).1; have h2 := HZ.out; omega))
          have HO3 := Lib.hid (ShareL.push (ls := vs) (l := a) (by rw [HVL.out]; exact HUL.out) HU2.out HTX.out (by rw [HVL.out]; exact hown3))
          clear hown3 hgr3 hbl3
          go_wp2
          go_roundw
          case rel => exact ⟨n + 1, vs ++ [a], by omega, by go_num, HX3.out, by rw [List.length_append, HVL.out]; rfl, HO3.out, HCC.out⟩
          case measure => simp [intOf]; omega
        · skip
          obtain ⟨ga, oa, ca, x, he, _, hxc, hxt⟩ := line_at HL.out n [] ha
          cases he
          obtain ⟨xA, xc, rfl, _⟩ := hxt.form
          have hxc := HWX.out.cell hxc
          have y1 := block_lt hxc
          have HXT := Lib.hid hxt
          have HGD := Lib.hid (show ls.getD n [] = [] from by rw [List.getD_eq_getElem?_getD, ha]; rfl)
          have hnI : decide ((n : Int) < ls.length) = true := decide_eq_true (by omega)
          have HONE := Lib.hid (show onePar ⟨nm, true, df⟩ (ls.getD n []) = some df from by unfold onePar; rw [HGD.out]; simp)
          have HCC := Lib.hid (show catO (vs ++ [df]) (bindP ((qs.drop (n + 1)).map (·.1)) (ls.drop (n + 1))) = V from by have h := HC.out; rw [HONE.out] at h; rw [← h, ← catO_cat])
          obtain ⟨us, hus, hus2⟩ := HO.out.nx ((Nx.refl wr).alloc (.cells #[.slice dA df.length dc] 37))
          rw [HVL.out] at hus
          have HU := Lib.hid hus
          have HU2 := Lib.hid hus2
          have HUL := Lib.hid (show us.length = n by have := hus.1; omega)
          have HTX := Lib.hid (HTD.out : Toks w (.slice dA df.length dc) df)
          obtain ⟨pi, hz0, hz1, hz2⟩ := HI.out
          clear hus hus2
          go_wp2_with (at_builtin; refine wpList_append_c _ rfl _ _ 22 rfl (w.heap.size + 1 + 1 + 1 + 1) 37 i0 (.slice none 0 0) 1 24 Tryd.underlying22 pi hz0 hz1 hz2 rfl (by decide) _ _ _ rfl HU.out (some ⟨wr.heap.size, 0, none⟩) 1 1 [.slice dA df.length dc] rfl rfl (Or.inr ⟨_, rfl, ?k2c1⟩) ?k2c2 ?k2c3 ?k2c4 ?k2c5 ?_)
          case k2c2 => simp [Value.oneCell']
          case k2c3 => unfold maxLen; omega
          case k2c4 => omega
          case k2c5 => have h1 := HNX.out.size; have h2 := HZ.out; simp; omega
          intro v3 w3 hown3 hgr3 hbl3
          have HX3 := Lib.hid (show Nx W w3 from Below.grown (HNX.out.alloc _) hgr3 (by have := HNX.out.size; simp; omega) (fun k hk => by have h1 := (HU.out.lt k hk).1; have h2 := HZ.out; omega))
          have HO3 := Lib.hid (ShareL.push (ls := vs) (l := df) (by rw [HVL.out]; exact HUL.out) HU2.out HTX.out (by rw [HVL.out]; exact hown3))
          clear hown3 hgr3 hbl3
          go_wp2
          go_roundw
          case rel => exact ⟨n + 1, vs ++ [df], by omega, by go_num, HX3.out, by rw [List.length_append, HVL.out]; rfl, HO3.out, HCC.out⟩
          case measure => simp [intOf]; omega
        · skip
          obtain ⟨ga, oa, ca, x, he, _, hxc, hxt⟩ := line_at HL.out n [] ha
          cases he
          obtain ⟨xA, xc, rfl, _⟩ := hxt.form
          have hxc := HWX.out.cell hxc
          have y1 := block_lt hxc
          have HXT := Lib.hid hxt
          have HGD := Lib.hid (show ls.getD n [] = [] from by rw [List.getD_eq_getElem?_getD, ha]; rfl)
          have hnI : decide ((n : Int) < ls.length) = true := decide_eq_true (by omega)
          have HONE := Lib.hid (show onePar ⟨nm, false, df⟩ (ls.getD n []) = none from by unfold onePar; rw [HGD.out]; simp)
          have HVN := Lib.hid (show V = none from by have h := HC.out; rw [HONE.out] at h; exact h.symm)
          go_wp2
          go_region
          all_goals go_wp2
          all_goals
            refine bodyPost_ret (v := .tuple #[.slice none 0 0, .agg #[.int .i64 t.line, .int .i64 t.col, .int .i64 9]]) (by simp [results, Tryd.results38, go_sem, r0, r1, r2, f0, f1, f2]) rfl ?_
            exact ⟨_, _, _, _, rfl, by repeat (with_reducible first | exact HWX.out | refine Nx.drew ?_ | refine Nx.setCell ?_ (by show w.heap.size ≤ w.heap.size + 1 + 1; omega) _), Or.inr ⟨HVN.out, rfl, rfl, rfl, rfl⟩⟩
        · skip
          have HGD := Lib.hid (show ls.getD n [] = [] from by rw [List.getD_eq_getElem?_getD, List.getElem?_eq_none (by omega)]; rfl)
          have hnI : decide ((n : Int) < ls.length) = false := decide_eq_false (by omega)
          have HONE := Lib.hid (show onePar ⟨nm, true, df⟩ (ls.getD n []) = some df from by unfold onePar; rw [HGD.out]; simp)
          have HCC := Lib.hid (show catO (vs ++ [df]) (bindP ((qs.drop (n + 1)).map (·.1)) (ls.drop (n + 1))) = V from by have h := HC.out; rw [HONE.out] at h; rw [← h, ← catO_cat])
          obtain ⟨us, hus, hus2⟩ := HO.out.nx ((Nx.refl wr).alloc (.cells #[.slice dA df.length dc] 37))
          rw [HVL.out] at hus
          have HU := Lib.hid hus
          have HU2 := Lib.hid hus2
          have HUL := Lib.hid (show us.length = n by have := hus.1; omega)
          have HTX := Lib.hid (HTD.out : Toks w (.slice dA df.length dc) df)
          obtain ⟨pi, hz0, hz1, hz2⟩ := HI.out
          clear hus hus2
          go_wp2_with (at_builtin; refine wpList_append_c _ rfl _ _ 22 rfl (w.heap.size + 1 + 1 + 1 + 1) 37 i0 (.slice none 0 0) 1 24 Tryd.underlying22 pi hz0 hz1 hz2 rfl (by decide) _ _ _ rfl HU.out (some ⟨wr.heap.size, 0, none⟩) 1 1 [.slice dA df.length dc] rfl rfl (Or.inr ⟨_, rfl, ?k3c1⟩) ?k3c2 ?k3c3 ?k3c4 ?k3c5 ?_)
          case k3c2 => simp [Value.oneCell']
          case k3c3 => unfold maxLen; omega
          case k3c4 => omega
          case k3c5 => have h1 := HNX.out.size; have h2 := HZ.out; simp; omega
          intro v3 w3 hown3 hgr3 hbl3
          have HX3 := Lib.hid (show Nx W w3 from Below.grown (HNX.out.alloc _) hgr3 (by have := HNX.out.size; simp; omega) (fun k hk => by have h1 := (HU.out.lt k hk).1; have h2 := HZ.out; omega))
          have HO3 := Lib.hid (ShareL.push (ls := vs) (l := df) (by rw [HVL.out]; exact HUL.out) HU2.out HTX.out (by rw [HVL.out]; exact hown3))
          clear hown3 hgr3 hbl3
          go_wp2
          go_roundw
          case rel => exact ⟨n + 1, vs ++ [df], by omega, by go_num, HX3.out, by rw [List.length_append, HVL.out]; rfl, HO3.out, HCC.out⟩
          case measure => simp [intOf]; omega
        · skip
          have HGD := Lib.hid (show ls.getD n [] = [] from by rw [List.getD_eq_getElem?_getD, List.getElem?_eq_none (by omega)]; rfl)
          have hnI : decide ((n : Int) < ls.length) = false := decide_eq_false (by omega)
          have HONE := Lib.hid (show onePar ⟨nm, false, df⟩ (ls.getD n []) = none from by unfold onePar; rw [HGD.out]; simp)
          have HVN := Lib.hid (show V = none from by have h := HC.out; rw [HONE.out] at h; exact h.symm)
          go_wp2
          go_region
          all_goals go_wp2
          all_goals
            refine bodyPost_ret (v := .tuple #[.slice none 0 0, .agg #[.int .i64 t.line, .int .i64 t.col, .int .i64 9]]) (by simp [results, Tryd.results38, go_sem, r0, r1, r2, f0, f1, f2]) rfl ?_
            exact ⟨_, _, _, _, rfl, by repeat (with_reducible first | exact HWX.out | refine Nx.drew ?_ | refine Nx.setCell ?_ (by show w.heap.size ≤ w.heap.size + 1 + 1; omega) _), Or.inr ⟨HVN.out, rfl, rfl, rfl, rfl⟩⟩
      · obtain rfl : n = qs.length := by omega
        have hnI0 : decide ((qs.length : Int) < qs.length) = false := decide_eq_false (by omega)
        have HVS := Lib.hid (show V = some vs from by
          rw [← hcat, List.drop_length, List.drop_eq_nil_of_le (by omega)]
          show some (vs ++ []) = _
          rw [List.append_nil])
        go_wp2
        refine bodyPost_ret (v := .tuple #[.slice Ao qs.length co, .agg #[.int .i64 0, .int .i64 0, .int .i64 0]]) (by simp [results, Tryd.results38, go_sem, r0, r1, r2, f0, f1, f2]) rfl ?_
        refine ⟨_, _, _, _, rfl, ?_, Or.inl ⟨vs, HVS.out, ShareL.lins (w := w) (base := w.heap.size + 1 + 1 + 1 + 1) ?_ ?_, rfl, rfl, rfl⟩⟩
        · repeat (with_reducible first | exact HWX.out | refine Nx.setCell ?_ (by show w.heap.size ≤ w.heap.size + 1 + 1; omega) _)
        · have h := HO.out
          rw [HVL.out.symm] at h
          rw [HVL.out.symm]
          repeat (with_reducible first | exact h | refine ShareL.set_ ?_ (by show w.heap.size + 1 + 1 < _; omega) _)
        · repeat (with_reducible first | exact HWX.out | refine Nx.setCell ?_ (by show w.heap.size ≤ w.heap.size + 1 + 1; omega) _)

end Go.Proofs.YtbkgdepblaibkaaDoor

/- A macro of the document that is handed over by value: its parts. -/
namespace Go.Proofs.YtbkgdepblaibkaaDoor
open Go.RowKit Go.ChangeShapes Go.WideShapes Go.ChangeAt Go.Deep
set_option linter.unusedVariables false
set_option linter.unusedSimpArgs false
set_option maxRecDepth 100000

section
variable {H : Type} {enc : TypeId × Value → H} {w : World} {base : Nat} {held : Bool}

def partsD : DataW H → List (DataW H)
  | .agg ps => ps
  | _ => []

theorem c_par : Tryd.prog.cellsOf 96 = 3 := by kernel_rfl

theorem c_mac : Tryd.prog.cellsOf 49 = 3 := by kernel_rfl

theorem c_str : Tryd.prog.cellsOf 9 = 1 := by kernel_rfl

theorem c_bool : Tryd.prog.cellsOf 4 = 1 := by kernel_rfl

theorem c_pars : Tryd.prog.cellsOf 47 = 1 := by kernel_rfl

theorem c_lins : Tryd.prog.cellsOf 22 = 1 := by kernel_rfl

/-- A parameter's datum: its default is as long as its list. -/
def LenPar (d : DataW H) (q : PPar × Value) : Prop := ∃ d0 d1 d2, d = .agg [d0, d1, d2] ∧ lenD d2 = q.1.dflt.length

theorem open_par {fuel : Nat} {cs : List Value} {x : DataW H × List MemPlace} (h : DataW.trod enc Tryd.prog w base (fun _ => true) held fuel 96 cs = some x) :
    ∃ q : PPar × Value, cs = parQ q ∧ Toks w q.2 q.1.dflt ∧ (∀ t ∈ q.1.dflt, TokBd t) ∧ LenPar x.1 q := by
  obtain ⟨xs, n, _, rfl, hl, hlen, hg⟩ := DataW.trod_struct Tryd.underlying96 h
  rw [c_par] at hl
  match cs, hl with
  | [c0, c1, c2], _ =>
    match xs, hlen with
    | [y0, y1, y2], _ =>
      have g0 := hg 0 _ rfl
      have g1 := hg 1 _ rfl
      have g2 := hg 2 _ rfl
      simp [c_str, c_bool, c_toks] at g0 g1 g2
      obtain ⟨s, e0, _, _⟩ := DataW.trod_string Tryd.underlying9 g0
      obtain ⟨b, e1, _⟩ := DataW.trod_bool Tryd.underlying4 g1
      obtain ⟨l, h1, h2, h3⟩ := open_toks1 g2
      simp only [List.cons.injEq, and_true] at e0 e1
      subst e0 e1
      exact ⟨(⟨s.data.toList, b, l⟩, c2), rfl, h1, h2, _, _, _, rfl, h3⟩

theorem open_pars1 {fuel : Nat} {v : Value} {x : DataW H × List MemPlace} (h : DataW.trod enc Tryd.prog w base (fun _ => true) held fuel 47 [v] = some x) :
    ∃ qs, ParsQ w v qs ∧ (∀ q ∈ qs, ∀ t ∈ q.1.dflt, TokBd t) ∧ lenD x.1 = qs.length ∧ ∀ (i : Nat) (q : PPar × Value), qs[i]? = some q → ∃ e, (elemsD x.1)[i]? = some e ∧ LenPar e q := by
  rcases open_slice Tryd.underlying47 h with ⟨hv, rfl⟩ | ⟨a, len, cap, m, n, D, Pl, hv, hb, hl, hm, hmm, rfl, hi⟩
  · simp at hv
    subst hv
    exact ⟨[], ⟨Or.inl ⟨⟨none, rfl⟩, rfl⟩, fun q hq => by cases hq⟩, by simp, rfl, by simp⟩
  · simp at hv
    subst hv
    simp only [if_true] at hmm
    have hmm' := hmm.symm
    subst hmm'
    clear hmm
    rw [c_par] at hi
    have each : ∀ i, i < len → ∃ q : PPar × Value, Toks w q.2 q.1.dflt ∧ (∀ t ∈ q.1.dflt, TokBd t) ∧ LenPar (D i) q ∧ ∀ j u, (parQ q)[j]? = some u → w.cell? ((a.add (i * 3)).add j) = some u := by
      intro i hil
      obtain ⟨cs', hc, ht⟩ := hi i (by omega)
      obtain ⟨q, rfl, h1, h2, h3⟩ := open_par ht
      obtain ⟨_, _, hat⟩ := World.cells?_some hc
      exact ⟨q, h1, h2, h3, fun j u hj => by rw [hat j (List.getElem?_eq_some_iff.1 hj).1]; exact hj⟩
    obtain ⟨qs, hlen, hp⟩ := list_of each
    refine ⟨qs, ⟨?_, fun q hq => ?_⟩, fun q hq => ?_, by simp [lenD, hlen], fun i q hil => ?_⟩
    · rcases Nat.eq_zero_or_pos len with h0 | h0
      · subst h0
        have hnil : qs = [] := List.eq_nil_of_length_eq_zero hlen
        subst hnil
        rcases Nat.eq_zero_or_pos cap with hc0 | hc0
        · subst hc0; exact Or.inl ⟨⟨_, rfl⟩, rfl⟩
        · obtain ⟨cs', hc, _⟩ := hi 0 hc0
          obtain ⟨_, hcl, hat⟩ := World.cells?_some hc
          have h0 := hat 0 (by omega)
          rw [List.getElem?_eq_getElem (by omega)] at h0
          obtain ⟨b, o, spot⟩ := a
          have hs : spot = none := by simpa [Addr.add] using World.cell?_spot h0
          subst hs
          exact Or.inr ⟨b, o, cap, rfl, Nat.zero_le _, hm, fun k t hk => by cases hk⟩
      · obtain ⟨t0, ht0⟩ : ∃ t, qs[0]? = some t := ⟨_, List.getElem?_eq_getElem (by omega)⟩
        have h0 := (hp 0 t0 ht0).2.2.2 0 _ rfl
        obtain ⟨b, o, spot⟩ := a
        have hs : spot = none := by simpa [Addr.add] using World.cell?_spot h0
        subst hs
        refine Or.inr ⟨b, o, cap, by rw [hlen], by omega, hm, fun k t hk j u hu => ?_⟩
        have := (hp k t hk).2.2.2 j u hu
        rw [add_flat, add_flat] at this
        exact this
    · obtain ⟨k, hk⟩ := List.getElem?_of_mem hq
      exact (hp k q hk).1
    · obtain ⟨k, hk⟩ := List.getElem?_of_mem hq
      exact (hp k q hk).2.1
    · obtain ⟨_, _, h3, _⟩ := hp i q hil
      have hlt := (List.getElem?_eq_some_iff.1 hil).1
      exact ⟨D i, by show ((List.range len).map D)[i]? = _; rw [List.getElem?_map, List.getElem?_range (by omega)]; rfl, h3⟩

/-- What is known of a macro's datum. -/
def LenMac (d : DataW H) (qs : List (PPar × Value)) (ls : List (List Tok)) : Prop :=
  ∃ d0 d1 d2, d = .agg [d0, d1, d2] ∧ lenD d1 = qs.length ∧ (∀ (i : Nat) (q : PPar × Value), qs[i]? = some q → ∃ e, (elemsD d1)[i]? = some e ∧ LenPar e q) ∧ LensD d2 ls

theorem open_mac {r : Reach} {b0 : Nat} {v : Value} {d : DataW H} {p : List MemPlace} (hv : Value.okWide Tryd.prog w r b0 49 v) (h : DataW.Trod enc Tryd.prog w base (fun _ => true) held 49 v d p) :
    ∃ name pv qs lv ls, v = .agg #[.string (B name), pv, lv] ∧ ParsQ w pv qs ∧ Lins w lv ls ∧ (∀ q ∈ qs, ∀ t ∈ q.1.dflt, TokBd t) ∧ (∀ l ∈ ls, ∀ t ∈ l, TokBd t) ∧ LenMac d qs ls := by
  obtain ⟨cs, rfl, hsz⟩ := okWide_struct Tryd.underlying49 hv
  obtain ⟨l⟩ := cs
  match l, hsz.trans c_mac with
  | [c0, c1, c2], _ =>
    obtain ⟨fuel, hf⟩ := h
    obtain ⟨xs, n, _, hx, _, hlen, hg⟩ := DataW.trod_struct Tryd.underlying49 hf
    match xs, hlen with
    | [y0, y1, y2], _ =>
      have g0 := hg 0 _ rfl
      have g1 := hg 1 _ rfl
      have g2 := hg 2 _ rfl
      simp [Value.cells, c_str, c_pars, c_lins] at g0 g1 g2
      obtain ⟨s, e0, _, _⟩ := DataW.trod_string Tryd.underlying9 g0
      obtain ⟨qs, h1, h2, h3, h4⟩ := open_pars1 g1
      obtain ⟨ls, k1, k2, k3⟩ := open_lins1 g2
      simp only [List.cons.injEq, and_true] at e0
      subst e0
      injection hx with hx _
      exact ⟨s.data.toList, c1, qs, c2, ls, rfl, h1, k1, h2, k2, _, _, _, hx, h3, h4, k3⟩

theorem b_pars : Tryd.prog.bytesOf 96 = 48 := by kernel_rfl

theorem mac_small {d : DataW H} {qs : List (PPar × Value)} {ls : List (List Tok)} (h : (d.weights Tryd.prog 49).all (· ≤ reachBytes) = true) (hz : LenMac d qs ls) :
    qs.length ≤ 140737488351232 ∧ (∀ q ∈ qs, q.1.dflt.length ≤ 140737488351232) ∧ ls.length ≤ 140737488351232 ∧ ∀ l ∈ ls, l.length ≤ 140737488351232 := by
  obtain ⟨d0, d1, d2, rfl, h1, h2, h3⟩ := hz
  rw [DataW.weights, Tryd.underlying49] at h
  have w1 := weights_at 1 h rfl rfl
  have w2 := weights_at 2 h rfl rfl
  obtain ⟨k1, k2⟩ := weights_slice Tryd.underlying47 w1
  rw [b_pars, h1] at k1
  unfold reachBytes at k1
  have k3 := lins_small w2 h3
  refine ⟨by omega, fun q hq => ?_, k3.1, k3.2⟩
  obtain ⟨k, hk⟩ := List.getElem?_of_mem hq
  obtain ⟨e, he, e0, e1, e2, rfl, hlen⟩ := h2 k q hk
  have k4 := k2 _ (List.mem_of_getElem? he)
  rw [DataW.weights, Tryd.underlying96] at k4
  exact toks_small (weights_at 2 k4 rfl rfl) hlen

end

end Go.Proofs.YtbkgdepblaibkaaDoor

/- Package typecaselaw14: the walk of MacroBinds. -/
namespace Go.Proofs.YtbkgdepblaibkaaDoor
open Go.RowKit Go.ChangeShapes Go.WideShapes Go.ChangeAt Go.Deep
set_option linter.unusedVariables false
set_option linter.unusedSimpArgs false

section
variable {H : Type} {enc : TypeId × Value → H} {w : World} {base : Nat} {held : Bool}

theorem c_int : Tryd.prog.cellsOf 3 = 1 := by kernel_rfl

theorem c_u32 : Tryd.prog.cellsOf 56 = 1 := by kernel_rfl

set_option maxRecDepth 100000 in
theorem open_tokv {r : Reach} {b0 : Nat} {v : Value} {d : DataW H} {p : List MemPlace} (hv : Value.okWide Tryd.prog w r b0 58 v) (h : DataW.Trod enc Tryd.prog w base (fun _ => true) held 58 v d p) : ∃ t : Tok, v = tokV t ∧ TokBd t := by
  obtain ⟨cs, rfl, hsz⟩ := okWide_struct Tryd.underlying58 hv
  obtain ⟨l⟩ := cs
  match l, hsz.trans c_tok with
  | [c0, c1, c2, c3, c4, c5], _ =>
    obtain ⟨fuel, hf⟩ := h
    obtain ⟨xs, n, _, hx, _, hlen, hg⟩ := DataW.trod_struct Tryd.underlying58 hf
    match xs, hlen with
    | [y0, y1, y2, y3, y4, y5], _ =>
      have g0 := hg 0 _ rfl
      have g1 := hg 1 _ rfl
      have g2 := hg 2 _ rfl
      have g3 := hg 3 _ rfl
      have g4 := hg 4 _ rfl
      have g5 := hg 5 _ rfl
      simp [Value.cells, c_int, c_str, c_u32] at g0 g1 g2 g3 g4 g5
      obtain ⟨n0, e0, _, b0⟩ := DataW.trod_int (k := .i64) Tryd.underlying3 g0
      obtain ⟨n1, e1, _, b1⟩ := DataW.trod_int (k := .i64) Tryd.underlying3 g1
      obtain ⟨n2, e2, _, b2⟩ := DataW.trod_int (k := .i64) Tryd.underlying3 g2
      obtain ⟨s3, e3, _, b3⟩ := DataW.trod_string Tryd.underlying9 g3
      obtain ⟨n4, e4, _, b4⟩ := DataW.trod_int (k := .u32) Tryd.underlying56 g4
      obtain ⟨n5, e5, _, b5⟩ := DataW.trod_int (k := .i64) Tryd.underlying3 g5
      simp only [List.cons.injEq, and_true] at e0 e1 e2 e3 e4 e5
      subst e0 e1 e2 e3 e4 e5
      have q0 := bounds_i64 b0
      have q1 := bounds_i64 b1
      have q2 := bounds_i64 b2
      have q4 := bounds_u32 b4
      have q5 := bounds_i64 b5
      exact ⟨⟨n0, n1, n2, s3.data.toList, n4, n5⟩, rfl, q0, q1, q2, (by show s3.data.toList.length ≤ maxLen; rw [Array.length_toList]; exact b3), q4, q5⟩

end

set_option maxHeartbeats 4000000 in
set_option maxRecDepth 100000 in
theorem MacroBinds_walk (w0 : World) (hE : ErrT w0) (mn : List UInt8) (pv : Value) (qs : List (PPar × Value)) (lv : Value) (ms : List (List Tok)) (hP : ParsQ w0 pv qs) (hM : Lins w0 lv ms)
    (hS : qs.length ≤ 140737488351232 ∧ (∀ q ∈ qs, q.1.dflt.length ≤ 140737488351232) ∧ ms.length ≤ 140737488351232 ∧ ∀ l ∈ ms, l.length ≤ 140737488351232) (t : Tok) (hB : TokBd t)
    (v : Value) (ls : List (List Tok)) (hL : Lins w0 v ls) (hLb : ∀ l ∈ ls, ∀ t ∈ l, TokBd t) (hs : ls.length ≤ 140737488351232 ∧ ∀ l ∈ ls, l.length ≤ 140737488351232) :
    Calls Tryd.prog 8 #[.agg #[.string (B mn), pv, lv], tokV t, v] w0 fun e w' => e = .returned (.bool true) ∧ Nx w0 w' := by
  have HE := Lib.hid hE
  have HP := Lib.hid hP
  have HM := Lib.hid hM
  have HL := Lib.hid hL
  have HS := Lib.hid hS
  have HSL := Lib.hid hs
  obtain ⟨A, c, rfl, hc1, hc2, _⟩ := hP.1.form
  obtain ⟨A1, c1, rfl, _⟩ := hM.form
  obtain ⟨A2, c2, rfl, _⟩ := hL.form
  obtain ⟨W, hW⟩ : ∃ W, (w0.alloc (.cells #[.string (B mn), .slice A qs.length c, .slice A1 ms.length c1] 49)).alloc (.cells #[.int .i64 t.kind, .int .i64 t.line, .int .i64 t.col, .string (B t.text), .int .u32 t.num, .int .i64 t.scope] 58) = W := ⟨_, rfl⟩
  have HWE := Lib.hid hW
  have HWN := Lib.hid (show Nx w0 W from hW ▸ ((Nx.refl w0).alloc _).alloc _)
  have HM0 := Lib.hid (show Has W w0.heap.size (.cells #[.string (B mn), .slice A qs.length c, .slice A1 ms.length c1] 49) from hW ▸ (Has.new w0 _).alloc _)
  have HT0 := Lib.hid (show Has W (w0.heap.size + 1) (.cells #[.int .i64 t.kind, .int .i64 t.line, .int .i64 t.col, .string (B t.text), .int .u32 t.num, .int .i64 t.scope] 58) from hW ▸ Has.at_ _ _ (by simp))
  clear hE hP hM hL hS hs hLb hB hW
  go_enter Tryd.func8, Tryd.ntmps8
  go_wp2_with fail
  rw [HWE.out]
  refine (awakem_any _ (HE.out.nx HWN.out)).mono ?_
  rintro e w1 ⟨rfl, hn1⟩
  have H1 := Lib.hid (HWN.out.trans hn1)
  have K1 := Lib.hid hn1
  clear hn1
  have hm := HM0.out.nx K1.out
  have m0 : w1.cell? ⟨w0.heap.size, 0, none⟩ = some (.string (B mn)) := hm.cell 0 _ rfl
  have m1 : w1.cell? ⟨w0.heap.size, 1, none⟩ = some (.slice A qs.length c) := hm.cell 1 _ rfl
  have m2 : w1.cell? ⟨w0.heap.size, 2, none⟩ = some (.slice A1 ms.length c1) := hm.cell 2 _ rfl
  have zm := hm.lt
  clear hm
  go_wp2_with fail
  refine (small_any mn _ qs _ ms _ (HP.out.nx H1.out) (HM.out.nx H1.out) HS.out.1 HS.out.2.1 HS.out.2.2.1 HS.out.2.2.2).mono ?_
  rintro e w2 ⟨b, rfl, hb, hn2⟩
  have H2 := Lib.hid (H1.out.trans hn2)
  have K2 := Lib.hid (K1.out.trans hn2)
  clear hn2 m0 m1 m2 zm
  cases b
  · go_wp2
    go_ret
    exact ⟨rfl, H2.out⟩
  · have HSM := Lib.hid (hb rfl)
    clear hb
    have HLW := Lib.hid (HL.out.nx (H2.out.alloc (.cells #[.slice A2 ls.length c2] 22)))
    go_wp2_with fail
    refine (light_one _ _ _ ls _ (by simp) HLW.out HSL.out.1 HSL.out.2).mono ?_
    rintro e w3 ⟨b, rfl, hb, hn3⟩
    have H3 := Lib.hid ((H2.out.alloc _).trans hn3)
    have K3 := Lib.hid ((K2.out.alloc _).trans hn3)
    clear hn3 HLW
    cases b
    · go_wp2
      go_ret
      exact ⟨rfl, H3.out⟩
    · have HLI := Lib.hid (few_len (hb rfl))
      clear hb
      have hm := HM0.out.nx K3.out
      have m0 : w3.cell? ⟨w0.heap.size, 0, none⟩ = some (.string (B mn)) := hm.cell 0 _ rfl
      have m1 : w3.cell? ⟨w0.heap.size, 1, none⟩ = some (.slice A qs.length c) := hm.cell 1 _ rfl
      have m2 : w3.cell? ⟨w0.heap.size, 2, none⟩ = some (.slice A1 ms.length c1) := hm.cell 2 _ rfl
      have zm := hm.lt
      have ht := HT0.out.nx K3.out
      have t0 : w3.cell? ⟨w0.heap.size + 1, 0, none⟩ = some (.int .i64 t.kind) := ht.cell 0 _ rfl
      have t1 : w3.cell? ⟨w0.heap.size + 1, 1, none⟩ = some (.int .i64 t.line) := ht.cell 1 _ rfl
      have t2 : w3.cell? ⟨w0.heap.size + 1, 2, none⟩ = some (.int .i64 t.col) := ht.cell 2 _ rfl
      have t3 : w3.cell? ⟨w0.heap.size + 1, 3, none⟩ = some (.string (B t.text)) := ht.cell 3 _ rfl
      have t4 : w3.cell? ⟨w0.heap.size + 1, 4, none⟩ = some (.int .u32 t.num) := ht.cell 4 _ rfl
      have t5 : w3.cell? ⟨w0.heap.size + 1, 5, none⟩ = some (.int .i64 t.scope) := ht.cell 5 _ rfl
      have zt := ht.lt
      have hq6 : qs.length ≤ 1000000 := by have := HSM.out.1; omega
      have HQ6 := Lib.hid hq6
      have hd : ∀ q ∈ qs, q.1.dflt.length ≤ 100000000 := fun q hq => by have := HSM.out.2.1 q hq; omega
      have HD := Lib.hid hd
      have hl : ∀ l ∈ ls, l.length ≤ 100000000 := fun l hl => by have := HLI.out.2 l hl; omega
      have HLL := Lib.hid hl
      have NXX := Lib.hid (fun w' (h : Nx w3 w') => H3.out.trans h)
      clear hm ht hd hl hq6
      go_wp2
      go_region_with (first | (go_at_call 37; refine (ours_any mn _ qs _ ⟨_, _, _, rfl⟩ _ (HP.out.nx (NXX.out _ (by repeat (with_reducible first | exact Nx.refl _ | refine Nx.drew ?_ | refine Nx.alloc ?_ _)))) HQ6.out).mono ?_; rintro e w4 ⟨pv4, rfl, hn4, hP4⟩; have N4 : Nx w3 w4 := Nx.trans (by repeat (with_reducible first | exact Nx.refl _ | refine Nx.drew ?_ | refine Nx.alloc ?_ _)) hn4; have t0' := N4.cell t0; have t1' := N4.cell t1; have t2' := N4.cell t2; have t3' := N4.cell t3; have t4' := N4.cell t4; have t5' := N4.cell t5; have zt' := Nat.lt_of_lt_of_le zt N4.size) | (go_at_call 36; refine (bind_any mn _ qs _ ⟨_, _, _, rfl⟩ t _ ls _ hP4 (HL.out.nx (NXX.out _ N4)) HQ6.out HLL.out HD.out).mono ?_; rintro e w5 ⟨v5, ev5, rfl, hn5, hres5⟩))
      all_goals
        have N5 := Lib.hid (Nx.trans N4 (Nx.trans (by repeat (with_reducible first | exact Nx.refl _ | refine Nx.drew ?_ | refine Nx.alloc ?_ _)) hn5))
        have H5 := Lib.hid (H3.out.trans N5.out)
        have m0' := N5.out.cell m0
        have m1' := N5.out.cell m1
        have m2' := N5.out.cell m2
        have zm' := Nat.lt_of_lt_of_le zm N5.out.size
        have t0'' := N5.out.cell t0
        have t1'' := N5.out.cell t1
        have t2'' := N5.out.cell t2
        have t3'' := N5.out.cell t3
        have t4'' := N5.out.cell t4
        have t5'' := N5.out.cell t5
        have zt'' := Nat.lt_of_lt_of_le zt N5.out.size
        have HRES := Lib.hid hres5
        clear t0' t1' t2' t3' t4' t5' zt' hn4 hP4 N4 hn5 hres5 m0 m1 m2 zm t0 t1 t2 t3 t4 t5 zt
        go_wp2_with fail
        refine (rbind_any mn _ qs _ ⟨_, _, _, rfl⟩ t _ ls _ (HP.out.nx H5.out) (HL.out.nx H5.out) HQ6.out).mono ?_
        rintro e w6 ⟨v6, fa, fb, fc, rfl, hn6, hres6⟩
        have H6 := Lib.hid (H5.out.trans hn6)
        have HFA := Lib.hid (show ((∃ vs, Lins w6 v5 vs ∧ Lins w6 v6 vs ∧ ev5 = .nilIface ∧ fa = 0 ∧ fb = 0 ∧ fc = 0) ∨ (v5 = .slice none 0 0 ∧ v6 = .slice none 0 0 ∧ FaultIs w6 ev5 fa fb fc ∧ 1 ≤ fc ∧ fc ≤ 16)) from by
          rcases HRES.out with ⟨vs, h1, h2, h3⟩ | ⟨h1, h2, h3⟩
          · rcases hres6 with ⟨vs2, k1, k2, k3, k4, k5⟩ | ⟨k1, _⟩
            · rw [h1] at k1; cases k1
              exact Or.inl ⟨vs, h2.lins.nx hn6, k2, h3, k3, k4, k5⟩
            · rw [h1] at k1; cases k1
          · rcases hres6 with ⟨vs2, k1, _⟩ | ⟨k1, k2, k3, k4, k5⟩
            · rw [h1] at k1; cases k1
            · subst k3 k4 k5
              exact Or.inr ⟨h2, k2, h3.nx hn6, by decide, by decide⟩)
        have HS6 := Lib.hid (fun w (h : Nx w6 w) => (show Calls Tryd.prog 31 #[v5, v6] w (fun e w' => e = .returned (.bool true) ∧ Nx w w') from by
          rcases HFA.out with ⟨ls, h1, h2, _⟩ | ⟨h1, h2, _⟩
          · exact same_any v5 v6 ls w (h1.nx h) (h2.nx h)
          · subst h1 h2
            exact same_any _ _ [] w (Or.inl ⟨⟨none, rfl⟩, rfl⟩) (Or.inl ⟨⟨none, rfl⟩, rfl⟩)))
        have HF6 := Lib.hid (fun w (h : Nx w6 w) => (show Calls Tryd.prog 21 #[ev5] w (fun e w' => e = .returned (.agg #[.int .i64 fa, .int .i64 fb, .int .i64 fc]) ∧ Nx w w') from by
          rcases HFA.out with ⟨ls, _, _, h3, h4, h5, h6⟩ | ⟨_, _, h3, h4, h5⟩
          · subst h3 h4 h5 h6
            exact fault_nil w
          · exact fault_is ev5 fa fb fc w ((HE.out.nx H6.out).nx h) (h3.nx h) h4 h5))
        have q2 := fun w => eql_fl fa fb fc w
        clear hn6 hres6
        go_wp2
        (refine wp_region_nx 9 (by kernel_rfl) (by kernel_rfl) ?_; simp only [List.take_succ_cons, List.take_zero, List.drop_succ_cons, List.drop_zero]; (repeat (refine wpQuiet_step (fun K hK => ?_); go_simp; first | (refine hK _ ?_; clear hK K) | (apply Exists.intro; refine ⟨fun w' hw' => ?_, hK _ ?_⟩; (first | (with_reducible rfl) | (go_at_call 31; with_reducible exact (HS6.out _ (((Nx.refl w6).alloc _).trans hw')).mono fun _ _ h => ⟨h.1, hw'.trans h.2⟩) | (go_at_call 21; with_reducible exact (HF6.out _ (((Nx.refl w6).alloc _).trans hw')).mono fun _ _ h => ⟨h.1, hw'.trans h.2⟩) | (obtain ⟨hc, hf⟩ := nx_cells hw'; go_simp; with_reducible rfl) | (obtain ⟨hc, hf⟩ := nx_cells hw'; go_simp; rfl)); clear hK K))); refine wpQuiet_nil ?_; intro w9 hn9)
        have H9 := Lib.hid ((H6.out.alloc _).trans hn9)
        clear hn9
        go_wp2
        go_ret
        exact ⟨rfl, H9.out⟩

end Go.Proofs.YtbkgdepblaibkaaDoor

