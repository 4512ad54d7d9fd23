/- Contracts of package macro: Bind. -/
import Derived.Test.YtbkgdepblaibkaaDoorMade
import Derived.Laws.MakeOwn
import Derived.Test.YtbkgdepblaibkaaDoorBlkz
namespace Go.Proofs.YtbkgdepblaibkaaDoor
open Go.RowKit
set_option linter.unusedVariables false
set_option linter.unusedSimpArgs false

/-- What one parameter is handed. -/
def onePar (p : PPar) (a : List Tok) : Option (List Tok) := if a ≠ [] then some a else if p.has = true then some p.dflt else none

def catO (vs : List (List Tok)) : Option (List (List Tok)) → Option (List (List Tok))
  | none => none
  | some r => some (vs ++ r)

theorem bindP_cons (p : PPar) (ps : List PPar) (ls : List (List Tok)) : bindP (p :: ps) ls = match onePar p (ls.headD []) with
    | none => none
    | some v => catO [v] (bindP ps ls.tail) := by
  rw [bindP]
  unfold onePar
  split <;> rename_i h
  · rw [h]
  · rw [h]
    cases bindP ps ls.tail <;> rfl

theorem catO_cat (a b : List (List Tok)) (r : Option (List (List Tok))) : catO a (catO b r) = catO (a ++ b) r := by cases r <;> simp [catO]

theorem catO_nil (r : Option (List (List Tok))) : catO [] r = r := by cases r <;> rfl

theorem bindP_many : ∀ (ps : List PPar) (ls : List (List Tok)), ps.length < ls.length → bindP ps ls = none := by
  intro ps
  induction ps with
  | nil =>
    intro ls h
    cases ls with
    | nil => simp at h
    | cons a l => rfl
  | cons p ps ih =>
    intro ls h
    rw [bindP_cons]
    cases onePar p (ls.headD []) with
    | none => rfl
    | some v =>
      show catO [v] (bindP ps ls.tail) = none
      rw [ih ls.tail (by rw [List.length_tail]; simp only [List.length_cons] at h; omega)]; rfl

theorem drop_tail {α : Type} (l : List α) (n : Nat) : (l.drop n).tail = l.drop (n + 1) := by rw [List.tail_drop]

theorem drop_headD (l : List (List Tok)) (n : Nat) : (l.drop n).headD [] = l.getD n [] := by
  rw [List.headD_eq_head?_getD, List.head?_drop, List.getD_eq_getElem?_getD]

/-- A line is laid in. -/
theorem OwnL.store {w : World} {base gv n cv : Nat} {ls : List (List Tok)} (h : OwnL w base (.slice (some ⟨gv, 0, none⟩) n cv) ls) (k : Nat) (u : Value) (l : List Tok) (hk : k < ls.length) (hT : Toks w u l) (hu : ∀ g, u.ownBlock = some g → base ≤ g ∧ g < w.heap.size ∧ g ≠ gv) :
    OwnL (w.setCell ⟨gv, k, none⟩ u) base (.slice (some ⟨gv, 0, none⟩) n cv) (ls.set k l) := by
  obtain ⟨us, h1, h2⟩ := h
  have hn : n = ls.length := by
    rcases h1.2 with ⟨hv, _⟩ | ⟨_, _, _, hv, _⟩
    · cases hv
    · cases hv; rfl
  subst hn
  have hlen : us.length = ls.length := by have := h1.1; omega
  refine ⟨us.set k u, by rw [List.length_set]; exact h1.store k u (by omega), fun j x y hx hy => ?_⟩
  have away : ∀ (x : Value) (y : List Tok), Toks w x y → (∀ g, x.ownBlock = some g → g ≠ gv) → Toks (w.setCell ⟨gv, k, none⟩ u) x y := fun x y hx hne =>
    toks_block hx fun b hb => Below.heap_setCell w ⟨gv, k, none⟩ u b (hne b hb)
  rw [List.getElem?_set] at hx hy
  by_cases hjk : k = j
  · rw [if_pos hjk, if_pos (by omega)] at hx hy
    cases hx
    cases hy
    refine ⟨away _ _ hT fun g hg => (hu g hg).2.2, fun g hg => ⟨(hu g hg).1, by simpa using (hu g hg).2.1, fun e => (hu g hg).2.2 (by simpa [Value.ownBlock] using e.symm)⟩⟩
  · rw [if_neg hjk] at hx hy
    obtain ⟨h3, h4⟩ := h2 j x y hx hy
    have hne : ∀ g, x.ownBlock = some g → g ≠ gv := fun g hg e => (h4 g hg).2.2 (by rw [e]; rfl)
    exact ⟨away _ _ h3 hne, fun g hg => ⟨(h4 g hg).1, by simpa using (h4 g hg).2.1, (h4 g hg).2.2⟩⟩

theorem made_slices (n : Nat) : madeCells (Value.slice none 0 0).cells n = Array.replicate n (Value.slice none 0 0) := by
  unfold madeCells
  apply Array.ext
  · simp
  · intro i h1 h2
    have : i % 1 = 0 := Nat.mod_one i
    simp [Value.cells, this]

/-- So many slices that are nil. -/
theorem make_toks (n : Nat) (hn : n ≤ 1000000) (W : World) : (Instr.makeSlice 22 (.int .i64 (n : Int)) (.int .i64 (n : Int))).run Tryd.prog W = .ok (.slice (some ⟨W.heap.size, 0, none⟩) n n) (W.alloc (.cells (Array.replicate n (Value.slice none 0 0)) 37)) := by
  obtain ⟨i0, hi, hz0, hz1, hz2⟩ := info_parts toks_info
  have hr := run_make (P := Tryd.prog) W 22 37 i0 (.slice none 0 0) Tryd.underlying22 hi hz0 .i64 .i64 n n (by omega) (Int.le_refl _) (by rw [hz2]; omega) (by omega)
  rw [hz1, Int.toNat_natCast, Nat.mul_one, made_slices] at hr
  exact hr

theorem ownL_made (W : World) (n base : Nat) (hn : n ≤ 1000000) (hb : base ≤ W.heap.size) : OwnL (W.alloc (.cells (Array.replicate n (Value.slice none 0 0)) 37)) base (.slice (some ⟨W.heap.size, 0, none⟩) n n) (List.replicate n []) := by
  refine ⟨List.replicate n (.slice none 0 0), ?_, fun k u l hu hl => ?_⟩
  · have h := OwnC.new W base 37 1 (Array.replicate n (Value.slice none 0 0)) n hb (by unfold maxLen; omega) (by simp)
    rw [List.length_replicate]
    rw [Array.toList_replicate] at h
    exact h
  · have h1 := List.eq_of_mem_replicate (List.mem_of_getElem? hu)
    have h2 := List.eq_of_mem_replicate (List.mem_of_getElem? hl)
    subst h1 h2
    exact ⟨Toks.nil _, fun g hg => by cases hg⟩

/-- What comes of handing. -/
def RetBind (V : Option (List (List Tok))) (t : Tok) (w : World) (e : Ending) (w' : World) : Prop :=
  ∃ v ev, e = .returned (.tuple #[v, ev]) ∧ Nx w w' ∧ ((∃ vs, V = some vs ∧ OwnL w' w.heap.size v vs ∧ ev = .nilIface) ∨ (V = none ∧ v = .slice none 0 0 ∧ FaultIs w' ev t.line t.col 9))

theorem OwnL.lower {w : World} {base base' : Nat} {v : Value} {ls : List (List Tok)} (h : OwnL w base v ls) (hb : base' ≤ base) : OwnL w base' v ls := by
  obtain ⟨us, ⟨h0, h1⟩, h2⟩ := h
  refine ⟨us, ⟨h0, ?_⟩, fun k u l hu hl => ⟨(h2 k u l hu hl).1, fun g hg => ⟨Nat.le_trans hb ((h2 k u l hu hl).2 g hg).1, ((h2 k u l hu hl).2 g hg).2⟩⟩⟩
  rcases h1 with h1 | ⟨g, cap, cur, h3, h4, h5⟩
  · exact Or.inl h1
  · exact Or.inr ⟨g, cap, cur, h3, Nat.le_trans hb h4, h5⟩

/-- What holds at a round's head. -/
def BindRel (qs : List (PPar × Value)) (ls : List (List Tok)) (W wr : World) (gv : Nat) (V : Option (List (List Tok))) (iv : Value) : Prop :=
  ∃ (n : Nat) (vs : List (List Tok)), n ≤ qs.length ∧ iv = .int .i64 n ∧ Nx W wr ∧ vs.length = n ∧ OwnL wr gv (.slice (some ⟨gv, 0, none⟩) qs.length qs.length) (vs ++ List.replicate (qs.length - n) []) ∧ catO vs (bindP ((qs.drop n).map (·.1)) (ls.drop n)) = V

set_option maxHeartbeats 4000000 in
set_option maxRecDepth 100000 in
theorem bind_any (mn : List UInt8) (pv : Value) (qs : List (PPar × Value)) (lv : Value) (hlv : ∃ A n c, lv = Value.slice A n c) (t : Tok) (av : Value) (ls : List (List Tok)) (w : World) (hP : ParsQ w pv qs) (hL : Lins w av ls) (hq : qs.length ≤ 1000000) (hl : ∀ l ∈ ls, l.length ≤ 100000000) (hd : ∀ q ∈ qs, q.1.dflt.length ≤ 100000000) :
    Calls Tryd.prog 36 #[.agg #[.string (B mn), pv, lv], tokV t, av] w (RetBind (bindP (qs.map (·.1)) ls) t w) := by
  obtain ⟨lA, ln, lc, rfl⟩ := hlv
  obtain ⟨A, c, rfl, hc1, hc2, hA⟩ := hP.1.form
  obtain ⟨A2, c2, rfl, hd1, hd2, hA2⟩ := hL.form
  have HP := Lib.hid hP
  have HL := Lib.hid hL
  have HPA := Lib.hid hA
  have HLL := Lib.hid hl
  have HDL := Lib.hid hd
  have HV := Lib.hid (show catO ([] : List (List Tok)) (bindP ((qs.drop 0).map (·.1)) (ls.drop 0)) = bindP (qs.map (·.1)) ls by rw [catO_nil]; rfl)
  have HM := Lib.hid (bindP_many (qs.map (·.1)) ls)
  rw [List.length_map] at HM
  generalize bindP (qs.map (·.1)) ls = V at *
  unfold maxLen at hd2
  clear hP hL hA hA2 hl hd
  obtain ⟨W, hW⟩ : ∃ W, ((w.alloc (.cells #[.string (B mn), .slice A qs.length c, .slice lA ln lc] 44)).alloc (.cells #[.int .i64 t.kind, .int .i64 t.line, .int .i64 t.col, .string (B t.text), .int .u32 t.num, .int .i64 t.scope] 58)).alloc (.cells #[.int .i64 t.line, .int .i64 t.col, .iface 83 (.int .i64 9)] 85) = W := ⟨_, rfl⟩
  have HWE := Lib.hid hW
  have hWs : W.heap.size = w.heap.size + 1 + 1 + 1 := by rw [← hW]; simp
  have HWN := Lib.hid (show Nx w W from hW ▸ (((Nx.refl w).alloc _).alloc _).alloc _)
  have HF := Lib.hid (show FaultIs W (.iface 77 (.pointer (some ⟨w.heap.size + 1 + 1, 0, none⟩))) t.line t.col 9 from by
    rw [← hW]
    have h := FaultIs.new ((w.alloc (.cells #[.string (B mn), .slice A qs.length c, .slice lA ln lc] 44)).alloc (.cells #[.int .i64 t.kind, .int .i64 t.line, .int .i64 t.col, .string (B t.text), .int .u32 t.num, .int .i64 t.scope] 58)) t.line t.col 9 85
    rw [show ((w.alloc (.cells #[.string (B mn), .slice A qs.length c, .slice lA ln lc] 44)).alloc (.cells #[.int .i64 t.kind, .int .i64 t.line, .int .i64 t.col, .string (B t.text), .int .u32 t.num, .int .i64 t.scope] 58)).heap.size = w.heap.size + 1 + 1 by simp] at h
    exact h)
  by_cases hmany : qs.length < ls.length
  · have hmI : decide ((qs.length : Int) < ls.length) = true := decide_eq_true (by omega)
    have HV2 := Lib.hid (HM.out hmany)
    clear HV HM hW hWs
    go_enter Tryd.func36, Tryd.ntmps36
    go_wp2
    rw [HWE.out]
    go_ret2
    exact ⟨_, _, rfl, HWN.out, Or.inr ⟨HV2.out, rfl, HF.out⟩⟩
  · have hmI : decide ((qs.length : Int) < ls.length) = false := decide_eq_false (by omega)
    have hmk := make_toks qs.length hq
    have HM0 := Lib.hid (show Has W w.heap.size (.cells #[.string (B mn), .slice A qs.length c, .slice lA ln lc] 44) from hW ▸ ((Has.new w _).alloc _).alloc _)
    have HO0 := Lib.hid (ownL_made W qs.length (w.heap.size + 1 + 1 + 1) hq (by omega))
    rw [hWs] at HO0
    have HZ := Lib.hid hWs
    clear hW hWs
    go_enter Tryd.func36, Tryd.ntmps36
    go_wp2
    rw [HWE.out]
    go_loopw [34] (fun iv wr => BindRel qs ls W wr (w.heap.size + 1 + 1 + 1) V iv) (fun iv _ => qs.length - (intOf iv).toNat)
    case atStart => exact ⟨0, [], Nat.zero_le _, rfl, (Nx.refl W).alloc _, rfl, by simpa using HO0.out, HV.out⟩
    case round =>
      obtain ⟨n, vs, hn, rfl, hnx, hvl, hO, hcat⟩ := hrel
      have HNX := Lib.hid hnx
      have HWX := Lib.hid (HWN.out.trans hnx)
      have HO := Lib.hid hO
      have HVL := Lib.hid hvl
      clear hnx hO hvl
      by_cases hlt : n < qs.length
      · obtain ⟨⟨⟨nm, hs, df⟩, dv⟩, hq1⟩ : ∃ q, qs[n]? = some q := ⟨_, List.getElem?_eq_getElem hlt⟩
        obtain ⟨g, o, rfl, hPA⟩ : ∃ g o, A = some ⟨g, o, none⟩ ∧ ParAt w g o qs := by
          rcases HPA.out with ⟨_, h, _⟩ | h
          · subst h; cases hq1
          · exact h
        have HTD := Lib.hid (HP.out.2 _ (List.mem_of_getElem? hq1))
        have HDD := Lib.hid (HDL.out _ (List.mem_of_getElem? hq1))
        obtain ⟨dA, dc, hdv, _⟩ := HTD.out.form
        dsimp only at hdv HTD HDD
        subst hdv
        obtain ⟨a0, a1, a2⟩ := (hPA.nx HWX.out).at_ n _ hq1
        dsimp only at a0 a1 a2
        have y0 := block_lt a0
        have hdr : qs.drop n = (⟨nm, hs, df⟩, .slice dA df.length dc) :: qs.drop (n + 1) := by
          obtain ⟨_, hqe⟩ := List.getElem?_eq_some_iff.1 hq1
          rw [List.drop_eq_getElem_cons hlt, hqe]
        rw [hdr, List.map_cons, bindP_cons, drop_headD, drop_tail] at hcat
        dsimp only at hcat
        have HC := Lib.hid hcat
        obtain ⟨us, hus, husl, hus2⟩ := HO.out.parts
        have hOl : (vs ++ List.replicate (qs.length - n) ([] : List Tok)).length = qs.length := by rw [List.length_append, List.length_replicate, HVL.out]; omega
        rw [hOl] at hus husl
        have HUS := Lib.hid hus
        obtain ⟨ux, hux⟩ : ∃ u, us[n]? = some u := ⟨_, List.getElem?_eq_getElem (by omega)⟩
        have HUX := Lib.hid hux
        have hset : ∀ a : List Tok, (vs ++ List.replicate (qs.length - n) ([] : List Tok)).set n a = (vs ++ [a]) ++ List.replicate (qs.length - (n + 1)) [] := by
          intro a
          rw [List.set_append_right _ _ (by rw [HVL.out]; exact Nat.le_refl _), HVL.out, Nat.sub_self, show qs.length - n = (qs.length - (n + 1)) + 1 by omega, List.replicate_succ, List.set_cons_zero, List.append_assoc]; rfl
        have HSET := Lib.hid hset
        have hq6 : qs.length ≤ 1000000 := hq
        clear hPA hq1 hdr hcat hus husl hus2 hux hset hOl HV HM HO0
        have five : (n < ls.length ∧ (∃ a, ls[n]? = some a ∧ 0 < a.length)) ∨ (n < ls.length ∧ ls[n]? = some [] ∧ hs = true) ∨ (n < ls.length ∧ ls[n]? = some [] ∧ hs = false) ∨ (¬ n < ls.length ∧ hs = true) ∨ (¬ n < ls.length ∧ hs = false) := by
          by_cases h : n < ls.length
          · obtain ⟨a, ha⟩ : ∃ a, ls[n]? = some a := ⟨_, List.getElem?_eq_getElem h⟩
            cases a with
            | nil =>
              cases hs
              · exact Or.inr (Or.inr (Or.inl ⟨h, ha, rfl⟩))
              · exact Or.inr (Or.inl ⟨h, ha, rfl⟩)
            | cons x y => exact Or.inl ⟨h, _, ha, by simp⟩
          · cases hs
            · exact Or.inr (Or.inr (Or.inr (Or.inr ⟨h, rfl⟩)))
            · exact Or.inr (Or.inr (Or.inr (Or.inl ⟨h, rfl⟩)))
        rcases five with ⟨hnl, a, ha, hal⟩ | ⟨hnl, ha, rfl⟩ | ⟨hnl, ha, rfl⟩ | ⟨hnl, rfl⟩ | ⟨hnl, rfl⟩
        · skip
          obtain ⟨ga, oa, ca, x, he, _, hxc, hxt⟩ := line_at HL.out n a ha
          cases he
          obtain ⟨xA, xc, rfl, _⟩ := hxt.form
          have hxc := HWX.out.cell hxc
          have y1 := block_lt hxc
          have HXT := Lib.hid hxt
          have HGD := Lib.hid (show ls.getD n [] = a from by rw [List.getD_eq_getElem?_getD, ha]; rfl)
          have hnI : decide ((n : Int) < ls.length) = true := decide_eq_true (by omega)
          have HONE := Lib.hid (show onePar ⟨nm, hs, df⟩ (ls.getD n []) = some a from by unfold onePar; rw [HGD.out, if_pos (by intro h; rw [h] at hal; simp at hal)])
          have HCC := Lib.hid (show catO (vs ++ [a]) (bindP ((qs.drop (n + 1)).map (·.1)) (ls.drop (n + 1))) = V from by have h := HC.out; rw [HONE.out] at h; rw [← h, ← catO_cat])
          go_wp2_with fail
          refine (own_any _ a _ (HXT.out.nx (HWX.out.alloc _)) (HLL.out a (List.mem_of_getElem? ha))).mono ?_
          rintro e w2 ⟨A9, c9, rfl, hn2, hT2, hf2⟩
          have HN2 := Lib.hid (((Nx.refl wr).alloc _).trans hn2)
          have HT2 := Lib.hid hT2
          have HF2 := Lib.hid (fun b hb => (show w.heap.size + 1 + 1 + 1 ≤ b ∧ b < w2.heap.size ∧ b ≠ w.heap.size + 1 + 1 + 1 from by
            have h1 := hf2 b hb
            have h2 : w.heap.size + 1 + 1 + 1 < wr.heap.size := (HUS.out.lt _ rfl).2
            simp at h1
            omega))
          have e2 : w2.cell? ⟨w.heap.size + 1 + 1 + 1, n, none⟩ = some ux := (HUS.out.nx HN2.out).cells (g := w.heap.size + 1 + 1 + 1) rfl _ _ HUX.out
          have f2 := (HUS.out.nx HN2.out).free (g := w.heap.size + 1 + 1 + 1) rfl n
          have y2 := block_lt e2
          have hnq : (n : Int) < qs.length := by omega
          clear hn2 hT2 hf2 a0 a1 a2 y0 hxc y1
          go_wp2
          go_roundw
          case rel =>
            refine ⟨n + 1, vs ++ [a], by omega, by go_num, (HNX.out.trans HN2.out).setCell (p := ⟨w.heap.size + 1 + 1 + 1, n, none⟩) (by show W.heap.size ≤ _; rw [HZ.out]; exact Nat.le_refl _) _, by rw [List.length_append, HVL.out]; rfl, ?_, HCC.out⟩
            have h := OwnL.store (HO.out.nx HN2.out) n _ a (by rw [List.length_append, List.length_replicate, HVL.out]; omega) HT2.out HF2.out
            rw [HSET.out] at h
            exact h
          case measure => simp [intOf]; omega
        · skip
          obtain ⟨ga, oa, ca, x, he, _, hxc, hxt⟩ := line_at HL.out n [] ha
          cases he
          obtain ⟨xA, xc, rfl, _⟩ := hxt.form
          have hxc := HWX.out.cell hxc
          have y1 := block_lt hxc
          have HXT := Lib.hid hxt
          have HGD := Lib.hid (show ls.getD n [] = [] from by rw [List.getD_eq_getElem?_getD, ha]; rfl)
          have hnI : decide ((n : Int) < ls.length) = true := decide_eq_true (by omega)
          have HONE := Lib.hid (show onePar ⟨nm, true, df⟩ (ls.getD n []) = some df from by unfold onePar; rw [HGD.out]; simp)
          have HCC := Lib.hid (show catO (vs ++ [df]) (bindP ((qs.drop (n + 1)).map (·.1)) (ls.drop (n + 1))) = V from by have h := HC.out; rw [HONE.out] at h; rw [← h, ← catO_cat])
          go_wp2_with fail
          refine (own_any _ df _ (HTD.out.nx (HWX.out.alloc _)) (HDD.out)).mono ?_
          rintro e w2 ⟨A9, c9, rfl, hn2, hT2, hf2⟩
          have HN2 := Lib.hid (((Nx.refl wr).alloc _).trans hn2)
          have HT2 := Lib.hid hT2
          have HF2 := Lib.hid (fun b hb => (show w.heap.size + 1 + 1 + 1 ≤ b ∧ b < w2.heap.size ∧ b ≠ w.heap.size + 1 + 1 + 1 from by
            have h1 := hf2 b hb
            have h2 : w.heap.size + 1 + 1 + 1 < wr.heap.size := (HUS.out.lt _ rfl).2
            simp at h1
            omega))
          have e2 : w2.cell? ⟨w.heap.size + 1 + 1 + 1, n, none⟩ = some ux := (HUS.out.nx HN2.out).cells (g := w.heap.size + 1 + 1 + 1) rfl _ _ HUX.out
          have f2 := (HUS.out.nx HN2.out).free (g := w.heap.size + 1 + 1 + 1) rfl n
          have y2 := block_lt e2
          have hnq : (n : Int) < qs.length := by omega
          clear hn2 hT2 hf2 a0 a1 a2 y0 hxc y1
          go_wp2
          go_roundw
          case rel =>
            refine ⟨n + 1, vs ++ [df], by omega, by go_num, (HNX.out.trans HN2.out).setCell (p := ⟨w.heap.size + 1 + 1 + 1, n, none⟩) (by show W.heap.size ≤ _; rw [HZ.out]; exact Nat.le_refl _) _, by rw [List.length_append, HVL.out]; rfl, ?_, HCC.out⟩
            have h := OwnL.store (HO.out.nx HN2.out) n _ df (by rw [List.length_append, List.length_replicate, HVL.out]; omega) HT2.out HF2.out
            rw [HSET.out] at h
            exact h
          case measure => simp [intOf]; omega
        · skip
          obtain ⟨ga, oa, ca, x, he, _, hxc, hxt⟩ := line_at HL.out n [] ha
          cases he
          obtain ⟨xA, xc, rfl, _⟩ := hxt.form
          have hxc := HWX.out.cell hxc
          have y1 := block_lt hxc
          have HXT := Lib.hid hxt
          have HGD := Lib.hid (show ls.getD n [] = [] from by rw [List.getD_eq_getElem?_getD, ha]; rfl)
          have hnI : decide ((n : Int) < ls.length) = true := decide_eq_true (by omega)
          have HONE := Lib.hid (show onePar ⟨nm, false, df⟩ (ls.getD n []) = none from by unfold onePar; rw [HGD.out]; simp)
          have HVN := Lib.hid (show V = none from by have h := HC.out; rw [HONE.out] at h; exact h.symm)
          go_wp2
          go_ret2
          exact ⟨_, _, rfl, HWX.out.alloc _, Or.inr ⟨HVN.out, rfl, HF.out.nx (HNX.out.alloc _)⟩⟩
        · skip
          have HGD := Lib.hid (show ls.getD n [] = [] from by rw [List.getD_eq_getElem?_getD, List.getElem?_eq_none (by omega)]; rfl)
          have hnI : decide ((n : Int) < ls.length) = false := decide_eq_false (by omega)
          have HONE := Lib.hid (show onePar ⟨nm, true, df⟩ (ls.getD n []) = some df from by unfold onePar; rw [HGD.out]; simp)
          have HCC := Lib.hid (show catO (vs ++ [df]) (bindP ((qs.drop (n + 1)).map (·.1)) (ls.drop (n + 1))) = V from by have h := HC.out; rw [HONE.out] at h; rw [← h, ← catO_cat])
          go_wp2_with fail
          refine (own_any _ df _ (HTD.out.nx (HWX.out.alloc _)) (HDD.out)).mono ?_
          rintro e w2 ⟨A9, c9, rfl, hn2, hT2, hf2⟩
          have HN2 := Lib.hid (((Nx.refl wr).alloc _).trans hn2)
          have HT2 := Lib.hid hT2
          have HF2 := Lib.hid (fun b hb => (show w.heap.size + 1 + 1 + 1 ≤ b ∧ b < w2.heap.size ∧ b ≠ w.heap.size + 1 + 1 + 1 from by
            have h1 := hf2 b hb
            have h2 : w.heap.size + 1 + 1 + 1 < wr.heap.size := (HUS.out.lt _ rfl).2
            simp at h1
            omega))
          have e2 : w2.cell? ⟨w.heap.size + 1 + 1 + 1, n, none⟩ = some ux := (HUS.out.nx HN2.out).cells (g := w.heap.size + 1 + 1 + 1) rfl _ _ HUX.out
          have f2 := (HUS.out.nx HN2.out).free (g := w.heap.size + 1 + 1 + 1) rfl n
          have y2 := block_lt e2
          have hnq : (n : Int) < qs.length := by omega
          clear hn2 hT2 hf2 a0 a1 a2 y0
          go_wp2
          go_roundw
          case rel =>
            refine ⟨n + 1, vs ++ [df], by omega, by go_num, (HNX.out.trans HN2.out).setCell (p := ⟨w.heap.size + 1 + 1 + 1, n, none⟩) (by show W.heap.size ≤ _; rw [HZ.out]; exact Nat.le_refl _) _, by rw [List.length_append, HVL.out]; rfl, ?_, HCC.out⟩
            have h := OwnL.store (HO.out.nx HN2.out) n _ df (by rw [List.length_append, List.length_replicate, HVL.out]; omega) HT2.out HF2.out
            rw [HSET.out] at h
            exact h
          case measure => simp [intOf]; omega
        · skip
          have HGD := Lib.hid (show ls.getD n [] = [] from by rw [List.getD_eq_getElem?_getD, List.getElem?_eq_none (by omega)]; rfl)
          have hnI : decide ((n : Int) < ls.length) = false := decide_eq_false (by omega)
          have HONE := Lib.hid (show onePar ⟨nm, false, df⟩ (ls.getD n []) = none from by unfold onePar; rw [HGD.out]; simp)
          have HVN := Lib.hid (show V = none from by have h := HC.out; rw [HONE.out] at h; exact h.symm)
          go_wp2
          go_ret2
          exact ⟨_, _, rfl, HWX.out.alloc _, Or.inr ⟨HVN.out, rfl, HF.out.nx (HNX.out.alloc _)⟩⟩
      · obtain rfl : n = qs.length := by omega
        have HVS := Lib.hid (show V = some vs from by
          rw [← hcat, List.drop_length, List.drop_eq_nil_of_le (by omega)]
          show some (vs ++ []) = _
          rw [List.append_nil])
        have HO9 := Lib.hid (show OwnL wr w.heap.size (.slice (some ⟨w.heap.size + 1 + 1 + 1, 0, none⟩) qs.length qs.length) vs from by
          have h := HO.out
          rw [Nat.sub_self, List.replicate_zero, List.append_nil] at h
          exact h.lower (by omega))
        go_wp2
        go_ret2
        exact ⟨_, _, rfl, HWX.out, Or.inl ⟨vs, HVS.out, HO9.out, rfl⟩⟩

end Go.Proofs.YtbkgdepblaibkaaDoor
