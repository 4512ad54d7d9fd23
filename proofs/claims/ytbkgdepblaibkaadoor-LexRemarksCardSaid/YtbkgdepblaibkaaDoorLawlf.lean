/- Package typecaselaw10: the walk of LexRemarks. -/
import Derived.Test.YtbkgdepblaibkaaDoorLawlb
import Derived.Test.YtbkgdepblaibkaaDoorLxp
import Derived.Test.YtbkgdepblaibkaaDoorMark
import Derived.Test.YtbkgdepblaibkaaDoorLawle
import Derived.IntWalk
namespace Go.Proofs.YtbkgdepblaibkaaDoor
open Go.RowKit
set_option linter.unusedVariables false
set_option linter.unusedSimpArgs false

theorem strC_B (l : List UInt8) : Lib.strCells (B l) = bysC l := rfl

theorem okL_col (n : Int) (s : List UInt8) (ts : List Tok) : ∀ last : Nat, okL n s last ts → ∀ (k : Nat) (t : Tok), ts[k]? = some t → 0 ≤ t.col ∧ t.col ≤ s.length := by
  induction ts with
  | nil => intro last _ k t hk; cases hk
  | cons a ts ih =>
    intro last h k t hk
    obtain ⟨c, _, h2, _, h4, _, h6⟩ := h
    cases k with
    | zero => cases hk; omega
    | succ k => exact ih c h6 k t hk

theorem linesR_col (p : List (List UInt8)) (N : Nat) (hp : ∀ s ∈ p, s.length ≤ N) : ∀ (n : Nat) (ls : List (List Tok)), linesR n p = .ok ls → ∀ (k : Nat) (ts : List Tok), ls[k]? = some ts → ∀ (j : Nat) (t : Tok), ts[j]? = some t → 0 ≤ t.col ∧ t.col ≤ N := by
  induction p with
  | nil => intro n ls h k ts hk; rw [linesR] at h; cases h; cases hk
  | cons s r ih =>
    intro n ls h k ts hk j t hj
    rw [linesR_cons] at h
    cases h1 : lineT (n : Int) 0 s with
    | bad x y z => rw [h1] at h; cases h
    | ok t1 =>
      rw [h1] at h
      cases h2 : linesR (n + 1) r with
      | bad x y z => rw [h2] at h; cases h
      | ok lr =>
        rw [h2] at h
        have h3 : [t1] ++ lr = ls := LRes.ok.inj (show LRes.ok ([t1] ++ lr) = LRes.ok ls from h)
        subst h3
        cases k with
        | zero =>
          cases hk
          have := okL_col _ _ _ 0 (lineT_okL _ _ _ h1) j t hj
          have := hp s List.mem_cons_self
          omega
        | succ k => exact ih (fun s hs => hp s (List.mem_cons_of_mem _ hs)) (n + 1) lr h2 k ts hk j t hj

/-- No token stands further to the right than the source is long. -/
theorem src_toks_col (b : List UInt8) (hb : b.length ≤ 65536) (ls : List (List Tok)) (h : srcR b = .ok ls) (k : Nat) (ts : List Tok) (hk : ls[k]? = some ts) (j : Nat) (t : Tok) (hj : ts[j]? = some t) : 0 ≤ t.col ∧ t.col ≤ b.length := by
  have h1 : linesR 1 (splitL b) = .ok ls := by rw [← h]; unfold srcR; rw [if_neg (by omega)]
  exact linesR_col _ _ (splitL_mem b) 1 ls h1 k ts hk j t hj

/-- The bytes of a string, appended to. -/
theorem conv_mark (w : World) (base : Nat) (l : List UInt8) (hl : l.length ≤ 1000000) (hb : base ≤ w.heap.size) : ∃ v w', (convert 9 70 (.string (B l))).run Tryd.prog w = .ok v w' ∧ Nx w w' ∧ OwnK w' base 5 v l.length (bysC l) := by
  refine ⟨_, _, Lib.run_convert_string_bytes w 9 70 5 (B l) Tryd.underlying9 Tryd.underlying70 Tryd.underlying5, nx_bytes w _ _, ?_⟩
  have h := OwnK.conv w base 5 (B l) hb (by show l.length ≤ maxLen; unfold maxLen; omega)
  rw [strC_B] at h
  exact h

theorem blank_cut (k : Nat) (hk : k < 8) : (B [32, 32, 32, 32, 32, 32, 32, 32]).extract 0 k = B (List.replicate k 32) := by
  apply ByteArray.ext
  rw [ByteArray.data_extract]
  exact (show ∀ k, k < 8 → [32, 32, 32, 32, 32, 32, 32, 32].toArray.extract 0 k = (List.replicate k (32 : UInt8)).toArray by decide) k hk

theorem ownk_bys {w : World} {base : Nat} {v : Value} {l : List UInt8} (h : OwnK w base 5 v l.length (bysC l)) : Bys w v l := by
  have hc := h
  obtain ⟨h0, g, cap, cur, fz, rfl, hb, hg, hfz, h3, h4, h5, h6⟩ := h
  refine Or.inr ⟨g, 0, cap, rfl, h3, h4, fun k b hk => ?_⟩
  rw [Nat.zero_add]
  refine hc.cells (g := g) rfl k _ ?_
  unfold bysC
  rw [List.getElem?_map, hk]; rfl

theorem nofeed_next (l : List UInt8) (i : Nat) (x : UInt8) (hx : l[i]? = some x) (h10 : x ≠ 10) (h : ∀ c ∈ l.take i, c ≠ 10) : ∀ c ∈ l.take (i + 1), c ≠ 10 := by
  intro c hc
  rw [take_snoc' _ _ _ hx] at hc
  rcases List.mem_append.1 hc with h1 | h1
  · exact h c h1
  · simp at h1; subst h1; exact h10

set_option maxHeartbeats 4000000 in
set_option maxRecDepth 100000 in
theorem LexRemarks_walk (w0 : World) (hE : ErrT w0) (v : Value) (l : List UInt8) (hB : Bys w0 v l) (hs : l.length ≤ 140737488351232) (u : Value) (r : List UInt8) (hB2 : Bys w0 u r) (hs2 : r.length ≤ 140737488351232) (n : Int) (hn0 : 0 ≤ n) (hn1 : n ≤ 255) :
    Calls Tryd.prog 16 #[v, u, .int .u8 n] w0 fun e w' => e = .returned (.bool true) ∧ Nx w0 w' := by
  obtain ⟨i0, hi, hz0, hz1, hz2⟩ := info_parts byte_info
  have HI := Lib.hid (And.intro hi (And.intro hz0 (And.intro hz1 hz2)))
  clear hi hz0 hz1 hz2
  have HE := Lib.hid hE
  have HB := Lib.hid hB
  have HB2 := Lib.hid hB2
  obtain ⟨A, c, rfl, hc1, hc2, hA⟩ := hB.form
  obtain ⟨A2, c2, rfl, hd1, hd2, hA2⟩ := hB2.form
  have HA := Lib.hid hA
  have HA2 := Lib.hid hA2
  obtain ⟨_, _, he, _, _, hS⟩ := bys_src hB
  cases he
  obtain ⟨_, _, he, _, _, hS2⟩ := bys_src hB2
  cases he
  have HS := Lib.hid hS
  have HS2 := Lib.hid hS2
  clear hE hB hA hB2 hA2 hS hS2
  unfold maxLen at hc2 hd2
  obtain ⟨q, hq, hq9⟩ : ∃ q : Nat, n.tmod 9 = q ∧ q < 9 := ⟨(n % 9).toNat, by rw [Int.tmod_eq_emod_of_nonneg hn0]; omega, by omega⟩
  obtain ⟨k, hk, hk8⟩ : ∃ k : Nat, (q : Int).tmod 8 = k ∧ k < 8 := ⟨q % 8, by rw [Int.tmod_eq_emod_of_nonneg (by omega)]; omega, by omega⟩
  have HQ := Lib.hid (And.intro hq9 hk8)
  have three : decide ((1000 : Int) < l.length) = true ∨ (decide ((1000 : Int) < l.length) = false ∧ decide ((100 : Int) < r.length) = true) ∨ (decide ((1000 : Int) < l.length) = false ∧ decide ((100 : Int) < r.length) = false ∧ l.length ≤ 1000 ∧ r.length ≤ 100) := by
    by_cases k1 : 1000 < l.length
    · exact Or.inl (decide_eq_true (by omega))
    · by_cases k2 : 100 < r.length
      · exact Or.inr (Or.inl ⟨decide_eq_false (by omega), decide_eq_true (by omega)⟩)
      · exact Or.inr (Or.inr ⟨decide_eq_false (by omega), decide_eq_false (by omega), by omega, by omega⟩)
  rcases three with d1 | ⟨d1, d2⟩ | ⟨d1, d2, hl, hr⟩
  · go_enter Tryd.func16, Tryd.ntmps16
    go_wp2_with fail
    refine (awakel_any _ HE.out).mono ?_
    rintro e w1 ⟨rfl, hn1⟩
    have H1 := Lib.hid hn1
    clear hn1
    go_wp2
    go_ret
    exact ⟨rfl, H1.out⟩
  · go_enter Tryd.func16, Tryd.ntmps16
    go_wp2_with fail
    refine (awakel_any _ HE.out).mono ?_
    rintro e w1 ⟨rfl, hn1⟩
    have H1 := Lib.hid hn1
    clear hn1
    go_wp2
    go_ret
    exact ⟨rfl, H1.out⟩
  · go_enter Tryd.func16, Tryd.ntmps16
    go_wp2_with fail
    refine (awakel_any _ HE.out).mono ?_
    rintro e w1 ⟨rfl, hn1⟩
    have H1 := Lib.hid hn1
    clear hn1
    go_wp2
    go_loopw [7] (fun iv wr => ∃ i : Nat, i ≤ l.length ∧ iv = .int .i64 i ∧ (∀ c ∈ l.take i, c ≠ 10) ∧ Nx w1 wr) (fun iv _ => l.length - (intOf iv).toNat)
    case atStart => exact ⟨0, Nat.zero_le _, rfl, (fun c h => by simp at h), Nx.refl _⟩
    case round =>
      obtain ⟨i, hi1, rfl, hno, hnx⟩ := hrel
      have HNX := Lib.hid hnx
      have HNO := Lib.hid hno
      clear hnx hno
      by_cases hlt : i < l.length
      · obtain ⟨x, hx⟩ : ∃ x, l[i]? = some x := ⟨_, List.getElem?_eq_getElem hlt⟩
        obtain ⟨g, o, rfl, hcells⟩ : ∃ g o, A = some ⟨g, o, none⟩ ∧ ∀ (k : Nat) (b : UInt8), l[k]? = some b → w0.cell? ⟨g, o + k, none⟩ = some (.int .u8 b.toNat) := by
          rcases HA.out with ⟨_, h⟩ | h
          · omega
          · exact h
        have cx := (H1.out.trans HNX.out).cell (hcells i x hx)
        have hiI : decide ((i : Int) < l.length) = true := decide_eq_true (by omega)
        by_cases h10 : x = 10
        · subst h10
          have cx : wr.cell? ⟨g, o + i, none⟩ = some (.int .u8 10) := cx
          clear hcells hx
          go_wp2
          go_ret
          exact ⟨rfl, H1.out.trans HNX.out⟩
        · have b10 : ((x.toNat : Int) == 10) = false := u8n x 10 (by omega) false (beq_eq_false_iff_ne.2 h10)
          have HN2 := Lib.hid (nofeed_next l i x hx h10 HNO.out)
          clear hcells hx h10
          go_wp2
          go_roundw
          case rel => exact ⟨i + 1, by omega, by go_num, HN2.out, HNX.out⟩
          case measure => simp [intOf]; omega
      · obtain rfl : i = l.length := by omega
        have hiI : decide ((l.length : Int) < l.length) = false := decide_eq_false (by omega)
        have HNL := Lib.hid (show ∀ c ∈ l, c ≠ 10 from fun c hc => HNO.out c (by rw [List.take_length]; exact hc))
        obtain ⟨wa, rfl⟩ : ∃ wa : World, wa = wr := ⟨_, rfl⟩
        have HWA := Lib.hid (H1.out.trans HNX.out)
        clear HNO HNX
        go_wp2
        go_loopw [8] (fun iv wr => ∃ i : Nat, i ≤ r.length ∧ iv = .int .i64 i ∧ (∀ c ∈ r.take i, c ≠ 10) ∧ Nx wa wr) (fun iv _ => r.length - (intOf iv).toNat)
        case atStart => exact ⟨0, Nat.zero_le _, rfl, (fun c h => by simp at h), Nx.refl _⟩
        case round =>
          obtain ⟨i, hi1, rfl, hno, hnx⟩ := hrel
          have HNX := Lib.hid hnx
          have HNO := Lib.hid hno
          clear hnx hno
          by_cases hlt : i < r.length
          · obtain ⟨x, hx⟩ : ∃ x, r[i]? = some x := ⟨_, List.getElem?_eq_getElem hlt⟩
            obtain ⟨g, o, rfl, hcells⟩ : ∃ g o, A2 = some ⟨g, o, none⟩ ∧ ∀ (k : Nat) (b : UInt8), r[k]? = some b → w0.cell? ⟨g, o + k, none⟩ = some (.int .u8 b.toNat) := by
              rcases HA2.out with ⟨_, h⟩ | h
              · omega
              · exact h
            have cx := (HWA.out.trans HNX.out).cell (hcells i x hx)
            have hiI : decide ((i : Int) < r.length) = true := decide_eq_true (by omega)
            by_cases h10 : x = 10
            · subst h10
              have cx : wr.cell? ⟨g, o + i, none⟩ = some (.int .u8 10) := cx
              clear hcells hx
              go_wp2
              go_ret
              exact ⟨rfl, HWA.out.trans HNX.out⟩
            · have b10 : ((x.toNat : Int) == 10) = false := u8n x 10 (by omega) false (beq_eq_false_iff_ne.2 h10)
              have HN2 := Lib.hid (nofeed_next r i x hx h10 HNO.out)
              clear hcells hx h10
              go_wp2
              go_roundw
              case rel => exact ⟨i + 1, by omega, by go_num, HN2.out, HNX.out⟩
              case measure => simp [intOf]; omega
          · obtain rfl : i = r.length := by omega
            have hiI : decide ((r.length : Int) < r.length) = false := decide_eq_false (by omega)
            have HNR := Lib.hid (show ∀ c ∈ r, c ≠ 10 from fun c hc => HNO.out c (by rw [List.take_length]; exact hc))
            obtain ⟨wb, rfl⟩ : ∃ wb : World, wb = wr := ⟨_, rfl⟩
            have HWB := Lib.hid (HWA.out.trans HNX.out)
            clear HNO HNX
            go_wp2_with fail
            refine (llines_any _ l _ (HE.out.nx HWB.out) (HB.out.nx HWB.out) (by omega)).mono ?_
            rintro e w2 ⟨u1, e1, rfl, hn2, ⟨ls, hV, hL, rfl⟩ | ⟨fa, fb, fc, hV, rfl, hF, _⟩⟩
            · obtain ⟨ts, rfl⟩ := src_one l ls HNL.out (by omega) hV
              have HV := Lib.hid (src_remark k l r ts HNL.out HNR.out (by have := HQ.out; omega) hV)
              have HTL := Lib.hid (src_toks_len l (by omega) _ hV 0 ts rfl)
              have HCO := Lib.hid (src_toks_col l (by omega) _ hV 0 ts rfl)
              have H2 := Lib.hid (HWB.out.trans hn2)
              have HL := Lib.hid hL
              clear hn2 hV hL HNR HNL
              obtain ⟨A3, c3, rfl, _⟩ := HL.out.form
              obtain ⟨v3, w3, hr3, hn3, hO3⟩ := conv_mark w2 w2.heap.size (List.replicate k 32) (by rw [List.length_replicate]; have := HQ.out; omega) (Nat.le_refl _)
              have K3 := Lib.hid hn3
              have HO3 := Lib.hid hO3
              have hb := blank_cut k hk8
              clear hn3 hO3
              obtain ⟨hi, hz0, hz1, hz2⟩ := HI.out
              have hkI : (k : Int) ≤ 8 := by omega
              rw [List.length_replicate] at HO3
              have HT1 := Lib.hid (bysC_len l)
              have HT2 := Lib.hid (bysC_one l)
              have HT3 := Lib.hid (src_at HS.out (H2.out.trans K3.out))
              go_wp2_with (at_builtin; refine wpList_append_k _ rfl _ _ 70 rfl w2.heap.size 5 i0 Tryd.underlying70 hi hz0 hz1 hz2 _ _ _ rfl HO3.out A l.length c (bysC l) rfl HT1.out HT3.out HT2.out ?a1 ?a2 ?_)
              case a1 => omega
              case a2 => exact K3.out.size
              intro v4 w4 hO4 hgr4
              have K4 := Lib.hid (show Nx w2 w4 from Below.grown K3.out hgr4 K3.out.size (fun k hk => (HO3.out.lt k hk).1))
              have HO4 := Lib.hid hO4
              clear hO4 hgr4
              go_wp2_with (at_builtin; refine wpList_append_ks _ rfl _ _ 70 9 rfl w2.heap.size 5 i0 Tryd.underlying70 Tryd.underlying9 hi hz0 hz1 hz2 _ _ _ rfl HO4.out (B [32, 35]) rfl ?b1 ?b2 ?_)
              case b1 => show k + l.length + 2 ≤ _; omega
              case b2 => exact K4.out.size
              intro v5 w5 hO5 hgr5
              have K5 := Lib.hid (show Nx w2 w5 from Below.grown K4.out hgr5 K4.out.size (fun k hk => (HO4.out.lt k hk).1))
              have HO5 := Lib.hid (show OwnK w5 w2.heap.size 5 v5 (k + l.length + 2) (bysC (List.replicate k 32) ++ (bysC l ++ bysC [32, 35])) from hO5)
              have HT4 := Lib.hid (bysC_len r)
              have HT5 := Lib.hid (bysC_one r)
              have HT6 := Lib.hid (src_at HS2.out (H2.out.trans K5.out))
              clear hO5 hgr5
              go_wp2_with (at_builtin; refine wpList_append_k _ rfl _ _ 70 rfl w2.heap.size 5 i0 Tryd.underlying70 hi hz0 hz1 hz2 _ _ _ rfl HO5.out A2 r.length c2 (bysC r) rfl HT4.out HT6.out HT5.out ?d1 ?d2 ?_)
              case d1 => omega
              case d2 => exact K5.out.size
              intro v6 w6 hO6 hgr6
              have K6 := Lib.hid (show Nx w2 w6 from Below.grown K5.out hgr6 K5.out.size (fun k hk => (HO5.out.lt k hk).1))
              have HB6 := Lib.hid (show Bys w6 v6 (List.replicate k 32 ++ l ++ [32, 35] ++ r) from ownk_bys (base := w2.heap.size) (by
                have h := hO6
                have q1 : (List.replicate k (32 : UInt8) ++ l ++ [32, 35] ++ r).length = k + l.length + 2 + r.length := by simp; omega
                have q2 : bysC (List.replicate k (32 : UInt8) ++ l ++ [32, 35] ++ r) = bysC (List.replicate k 32) ++ (bysC l ++ (bysC [32, 35] ++ bysC r)) := by unfold bysC; simp
                rw [q1, q2]
                exact (by simpa using h)))
              have HBL := Lib.hid (show (List.replicate k 32 ++ l ++ [32, 35] ++ r).length ≤ 65536 by simp; omega)
              clear hO6 hgr6 HO5 HO4 HO3 HT1 HT2 HT3 HT4 HT5 HT6 hr3 hb
              go_wp2_with fail
              refine (llines_any _ _ _ (HE.out.nx (H2.out.trans K6.out)) HB6.out HBL.out).mono ?_
              rintro e w7 ⟨u2, e2, rfl, hn7, ⟨ks, hK, hL2, rfl⟩ | ⟨fa, fb, fc, hK, _⟩⟩
              rotate_left
              · rw [HV.out] at hK; cases hK
              · rw [HV.out] at hK
                cases hK
                have K7 := Lib.hid (K6.out.trans hn7)
                obtain ⟨g1, o1, d1, x1, he1, hx1, hc1', ht1⟩ := line_at (HL.out.nx K7.out) 0 ts rfl
                obtain ⟨g2, o2, d2', x2, he2, hx2, hc2', ht2⟩ := line_at hL2 0 (ts.map (shC k)) rfl
                cases he1
                cases he2
                obtain ⟨B1, f1, rfl, hp1, hp2, hB1⟩ := ht1.form
                obtain ⟨B2, f2, rfl, hq1, hq2, hB2⟩ := ht2.form
                rw [List.length_map] at hc2' hq1
                have HB1 := Lib.hid hB1
                have HB2 := Lib.hid hB2
                have htl : ts.length ≤ 1000 := by have := HTL.out; omega
                have bl2 : ((ts.length : Int) != ts.length) = false := by simp
                have z1 := block_lt hc1'
                have z2 := block_lt hc2'
                rw [Nat.add_zero] at hc1' hc2'
                clear hn7 hL2 ht1 ht2 hB1 hB2 HBL HB6
                go_wp2
                go_quiet (fail)
                go_wp2
                go_loopw [15] (fun iv wr => ∃ i : Nat, i ≤ ts.length ∧ iv = .int .i64 i ∧ Nx w7 wr) (fun iv _ => ts.length - (intOf iv).toNat)
                case atStart => exact ⟨0, Nat.zero_le _, rfl, (Nx.refl _).drewN _⟩
                case round =>
                  obtain ⟨i, hi1, rfl, hnx⟩ := hrel
                  have HNX := Lib.hid hnx
                  have k1 := HNX.out.cell hc1'
                  have k2 := HNX.out.cell hc2'
                  have y1 := block_lt k1
                  have y2 := block_lt k2
                  clear hnx
                  by_cases hlt : i < ts.length
                  · obtain ⟨⟨kd, ln, cl, tx, nm, sc⟩, ht⟩ : ∃ t, ts[i]? = some t := ⟨_, List.getElem?_eq_getElem hlt⟩
                    have ht2 : (ts.map (shC k))[i]? = some ⟨kd, ln, cl + k, tx, nm, sc⟩ := by rw [List.getElem?_map, ht]; rfl
                    have hcl := HCO.out i _ ht
                    dsimp only at hcl
                    obtain ⟨p1, q1, rfl, hT1⟩ : ∃ g o, B1 = some ⟨g, o, none⟩ ∧ TokAt w7 g o ts := by
                      rcases HB1.out with ⟨_, h, _⟩ | h
                      · subst h; cases ht
                      · exact h
                    obtain ⟨p2, q2, rfl, hT2⟩ : ∃ g o, B2 = some ⟨g, o, none⟩ ∧ TokAt w7 g o (ts.map (shC k)) := by
                      rcases HB2.out with ⟨_, h, _⟩ | h
                      · rw [h] at ht2; cases ht2
                      · exact h
                    obtain ⟨a0, a1, a2, a3, a4, a5⟩ := (hT1.nx HNX.out).at_ i _ ht
                    obtain ⟨b0, b1, b2, b3, b4, b5⟩ := (hT2.nx HNX.out).at_ i _ ht2
                    dsimp only at a0 a1 a2 a3 a4 a5 b0 b1 b2 b3 b4 b5
                    have x1 := block_lt a0
                    have x2 := block_lt b0
                    have q := fun w => neq_tok kd ln (cl + k) tx nm sc w
                    have q3 : IntKind.i64.wrap (cl + (k : Int)) = cl + k := IntWalk.i64_in _ (by omega)
                    have hiI : decide ((i : Int) < ts.length) = true := decide_eq_true (by omega)
                    clear ht hT1 hT2 ht2
                    go_wp2
                    go_quiet (fail)
                    go_wp2
                    go_roundw
                    case rel => exact ⟨i + 1, by omega, by go_num, by repeat (with_reducible first | exact HNX.out | refine Nx.drewN ?_ _ | refine Nx.setCell ?_ (Nat.le_refl _) _ | refine Nx.alloc ?_ _)⟩
                    case measure => simp [intOf]; omega
                  · obtain rfl : i = ts.length := by omega
                    have hiI : decide ((ts.length : Int) < ts.length) = false := decide_eq_false (by omega)
                    go_wp2
                    go_ret
                    exact ⟨rfl, (H2.out.trans K7.out).trans HNX.out⟩
            · have H2 := Lib.hid (HWB.out.trans hn2)
              obtain ⟨g, o, rfl, _⟩ := hF
              clear hn2 hV
              go_wp2
              go_ret
              exact ⟨rfl, H2.out⟩

end Go.Proofs.YtbkgdepblaibkaaDoor
