/- Package typecaselaw10: the walk of LexParts. -/
import Derived.Test.YtbkgdepblaibkaaDoorLawlb
import Derived.Test.YtbkgdepblaibkaaDoorLxm
import Derived.Test.YtbkgdepblaibkaaDoorLxr
import Derived.IntWalk
namespace Go.Proofs.YtbkgdepblaibkaaDoor
open Go.RowKit
set_option linter.unusedVariables false
set_option linter.unusedSimpArgs false

theorem splitL_mem (b : List UInt8) : ∀ s ∈ splitL b, s.length ≤ b.length := by
  induction b with
  | nil => intro s h; simp [splitL] at h; subst h; exact Nat.le_refl _
  | cons c b ih =>
    intro s h
    rw [splitL] at h
    split at h
    · rcases List.mem_cons.1 h with rfl | h
      · exact Nat.zero_le _
      · have := ih s h; simp only [List.length_cons]; omega
    · cases hs : splitL b with
      | nil => rw [hs] at h; simp at h; subst h; simp
      | cons a r =>
        rw [hs] at h ih
        rcases List.mem_cons.1 h with rfl | h
        · have := ih a List.mem_cons_self; simp only [List.length_cons]; omega
        · have := ih s (List.mem_cons_of_mem _ h); simp only [List.length_cons]; omega

theorem okL_len (n : Int) (s : List UInt8) (ts : List Tok) : ∀ last : Nat, last ≤ s.length → okL n s last ts → last + ts.length ≤ s.length := by
  induction ts with
  | nil => intro last h _; exact h
  | cons a ts ih =>
    intro last h0 h
    obtain ⟨c, _, _, h3, h4, _, h6⟩ := h
    have := ih c (by omega) h6
    simp only [List.length_cons]; omega

theorem linesR_mem (p : List (List UInt8)) (N : Nat) (hp : ∀ s ∈ p, s.length ≤ N) : ∀ (n : Nat) (ls : List (List Tok)), linesR n p = .ok ls → ∀ (k : Nat) (ts : List Tok), ls[k]? = some ts → ts.length ≤ N := by
  induction p with
  | nil => intro n ls h k ts hk; rw [linesR] at h; cases h; cases hk
  | cons s r ih =>
    intro n ls h k ts hk
    rw [linesR_cons] at h
    cases h1 : lineT (n : Int) 0 s with
    | bad x y z => rw [h1] at h; cases h
    | ok t1 =>
      rw [h1] at h
      cases h2 : linesR (n + 1) r with
      | bad x y z => rw [h2] at h; cases h
      | ok lr =>
        rw [h2] at h
        have h3 : [t1] ++ lr = ls := LRes.ok.inj (show LRes.ok ([t1] ++ lr) = LRes.ok ls from h)
        subst h3
        cases k with
        | zero =>
          cases hk
          have := okL_len _ _ _ 0 (Nat.zero_le _) (lineT_okL _ _ _ h1)
          have := hp s List.mem_cons_self
          omega
        | succ k => exact ih (fun s hs => hp s (List.mem_cons_of_mem _ hs)) (n + 1) lr h2 k ts hk

/-- A line has no more tokens than the source has bytes. -/
theorem src_toks_len (b : List UInt8) (hb : b.length ≤ 65536) (ls : List (List Tok)) (h : srcR b = .ok ls) (k : Nat) (ts : List Tok) (hk : ls[k]? = some ts) : ts.length ≤ b.length := by
  have h1 : linesR 1 (splitL b) = .ok ls := by rw [← h]; unfold srcR; rw [if_neg (by omega)]
  exact linesR_mem _ _ (splitL_mem b) 1 ls h1 k ts hk

/-- The three answers together. -/
theorem parts_three {l m : List UInt8} (hl : l.length ≤ 1000) (hm : m.length ≤ 1000) {w1 w2 w3 : World} {u1 e1 u2 e2 u3 e3 : Value} (h12 : Nx w1 w3) (h23 : Nx w2 w3)
    (r1 : (∃ ls, srcR l = .ok ls ∧ Lins w1 u1 ls ∧ e1 = .nilIface) ∨ (∃ a b c, srcR l = .bad a b c ∧ u1 = .slice none 0 0 ∧ FaultIs w1 e1 a b c ∧ 1 ≤ c ∧ c ≤ 16))
    (r2 : (∃ ls, srcR m = .ok ls ∧ Lins w2 u2 ls ∧ e2 = .nilIface) ∨ (∃ a b c, srcR m = .bad a b c ∧ u2 = .slice none 0 0 ∧ FaultIs w2 e2 a b c ∧ 1 ≤ c ∧ c ≤ 16))
    (r3 : (∃ ls, srcR (l ++ 10 :: m) = .ok ls ∧ Lins w3 u3 ls ∧ e3 = .nilIface) ∨ (∃ a b c, srcR (l ++ 10 :: m) = .bad a b c ∧ u3 = .slice none 0 0 ∧ FaultIs w3 e3 a b c ∧ 1 ≤ c ∧ c ≤ 16)) :
    (∃ a b c, FaultIs w3 e1 a b c ∧ FaultIs w3 e3 a b c ∧ 1 ≤ c ∧ c ≤ 16) ∨
    (∃ ls a b c, e1 = .nilIface ∧ Lins w3 u1 ls ∧ ls.length ≤ 1001 ∧ 1 ≤ a ∧ a ≤ 1002 ∧ FaultIs w3 e2 a b c ∧ FaultIs w3 e3 (a + ls.length) b c ∧ 1 ≤ c ∧ c ≤ 16) ∨
    (∃ ls ms, e1 = .nilIface ∧ e2 = .nilIface ∧ e3 = .nilIface ∧ Lins w3 u1 ls ∧ Lins w3 u2 ms ∧ Lins w3 u3 (ls ++ ms.map fun ts => ts.map (shT ls.length)) ∧ ls.length ≤ 1001 ∧ ms.length ≤ 1001 ∧
      ∀ (k : Nat) (ts : List Tok), ms[k]? = some ts → ts.length ≤ 1000 ∧ ∀ (j : Nat) (t : Tok), ts[j]? = some t → t.line = ((1 + k : Nat) : Int)) := by
  have hp := src_parts l m (by omega)
  rcases r1 with ⟨ls, h1, h2, rfl⟩ | ⟨a, b, c, h1, rfl, h2, h3, h4⟩
  · rw [h1] at hp
    have q1 := src_len l (by omega) ls h1
    rcases r2 with ⟨ms, k1, k2, rfl⟩ | ⟨a, b, c, k1, rfl, k2, k3, k4⟩
    · rw [k1] at hp
      have q2 := src_len m (by omega) ms k1
      rcases r3 with ⟨xs, m1, m2, rfl⟩ | ⟨a, b, c, m1, _⟩
      · rw [hp] at m1
        cases m1
        exact Or.inr (Or.inr ⟨ls, ms, rfl, rfl, rfl, h2.nx h12, k2.nx h23, m2, by omega, by omega, fun k ts hk => ⟨Nat.le_trans (src_toks_len m (by omega) ms k1 k ts hk) hm, fun j t hj => src_tok_line m (by omega) ms k1 k ts hk j t hj⟩⟩)
      · rw [hp] at m1; cases m1
    · rw [k1] at hp
      have q2 := src_bad m (by omega) a b c k1
      rcases r3 with ⟨xs, m1, _⟩ | ⟨a', b', c', m1, _, m2, m3, m4⟩
      · rw [hp] at m1; cases m1
      · rw [hp] at m1
        cases m1
        exact Or.inr (Or.inl ⟨ls, a, b, c, rfl, h2.nx h12, by omega, by omega, by omega, k2.nx h23, m2, k3, k4⟩)
  · rw [h1] at hp
    rcases r3 with ⟨xs, m1, _⟩ | ⟨a', b', c', m1, _, m2, m3, m4⟩
    · rw [hp] at m1; cases m1
    · rw [hp] at m1
      cases m1
      exact Or.inl ⟨a, b, c, h2.nx h12, m2, h3, h4⟩

theorem bysC_mid (l m : List UInt8) : bysC l ++ Value.int .u8 10 :: bysC m = bysC (l ++ 10 :: m) := by
  unfold bysC
  simp

theorem src_at {w w' : World} {A : Option Addr} {n c : Nat} {xs : List Value} (h : (A = none ∧ n = 0 ∧ c = 0) ∨ ∃ ad, A = some ad ∧ ∀ (j : Nat) (u : Value), xs[j]? = some u → w.cell? (ad.add j) = some u) (hn : Nx w w') :
    (A = none ∧ n = 0 ∧ c = 0) ∨ ∃ ad, A = some ad ∧ ∀ (j : Nat) (u : Value), xs[j]? = some u → w'.cell? (ad.add j) = some u := by
  rcases h with h | ⟨ad, h1, h2⟩
  · exact Or.inl h
  · exact Or.inr ⟨ad, h1, fun j u hj => hn.cell (h2 j u hj)⟩

set_option maxHeartbeats 4000000 in
set_option maxRecDepth 100000 in
theorem LexParts_walk (w0 : World) (hE : ErrT w0) (v : Value) (l : List UInt8) (hB : Bys w0 v l) (hs : l.length ≤ 140737488351232) (u : Value) (m : List UInt8) (hB2 : Bys w0 u m) (hs2 : m.length ≤ 140737488351232) :
    Calls Tryd.prog 13 #[v, u] w0 fun e w' => e = .returned (.bool true) ∧ Nx w0 w' := by
  obtain ⟨i0, hi, hz0, hz1, hz2⟩ := info_parts byte_info
  have HI := Lib.hid (And.intro hi (And.intro hz0 (And.intro hz1 hz2)))
  clear hi hz0 hz1 hz2
  have HE := Lib.hid hE
  have HB := Lib.hid hB
  have HB2 := Lib.hid hB2
  obtain ⟨A, c, rfl, hc1, hc2, hA⟩ := bys_src hB
  obtain ⟨A2, c2, rfl, hd1, hd2, hA2⟩ := bys_src hB2
  have HA := Lib.hid hA
  have HA2 := Lib.hid hA2
  clear hE hB hA hB2 hA2
  unfold maxLen at hc2 hd2
  have three : decide ((1000 : Int) < l.length) = true ∨ (decide ((1000 : Int) < l.length) = false ∧ decide ((1000 : Int) < m.length) = true) ∨ (decide ((1000 : Int) < l.length) = false ∧ decide ((1000 : Int) < m.length) = false ∧ l.length ≤ 1000 ∧ m.length ≤ 1000) := by
    by_cases k1 : 1000 < l.length
    · exact Or.inl (decide_eq_true (by omega))
    · by_cases k2 : 1000 < m.length
      · exact Or.inr (Or.inl ⟨decide_eq_false (by omega), decide_eq_true (by omega)⟩)
      · exact Or.inr (Or.inr ⟨decide_eq_false (by omega), decide_eq_false (by omega), by omega, by omega⟩)
  rcases three with d1 | ⟨d1, d2⟩ | ⟨d1, d2, hl, hm⟩
  · go_enter Tryd.func13, Tryd.ntmps13
    go_wp2_with fail
    refine (awakel_any _ HE.out).mono ?_
    rintro e w1 ⟨rfl, hn1⟩
    have H1 := Lib.hid hn1
    clear hn1
    go_wp2
    go_ret
    exact ⟨rfl, H1.out⟩
  · go_enter Tryd.func13, Tryd.ntmps13
    go_wp2_with fail
    refine (awakel_any _ HE.out).mono ?_
    rintro e w1 ⟨rfl, hn1⟩
    have H1 := Lib.hid hn1
    clear hn1
    go_wp2
    go_ret
    exact ⟨rfl, H1.out⟩
  · go_enter Tryd.func13, Tryd.ntmps13
    go_wp2_with fail
    refine (awakel_any _ HE.out).mono ?_
    rintro e w1 ⟨rfl, hn1⟩
    have H1 := Lib.hid hn1
    clear hn1
    go_wp2_with fail
    refine (llines_any _ l _ (HE.out.nx H1.out) (HB.out.nx H1.out) (by omega)).mono ?_
    rintro e w2 ⟨u1, e1, rfl, hn2, hR1⟩
    have H2 := Lib.hid (H1.out.trans hn2)
    have HR1 := Lib.hid hR1
    clear hn2 hR1
    go_wp2_with fail
    refine (llines_any _ m _ (HE.out.nx H2.out) (HB2.out.nx H2.out) (by omega)).mono ?_
    rintro e w3 ⟨u2, e2, rfl, hn3, hR2⟩
    have H3 := Lib.hid (H2.out.trans hn3)
    have K3 := Lib.hid hn3
    have HR2 := Lib.hid hR2
    clear hn3 hR2
    have HM0 := Lib.hid (OwnC.made w3 w0.heap.size 5 1 #[] 0 H3.out.size (by unfold maxLen; omega) (by simp))
    obtain ⟨hi, hz0, hz1, hz2⟩ := HI.out
    have HT1 := Lib.hid (show (bysC l).length = l.length * 1 by rw [bysC_len]; omega)
    have HT2 := Lib.hid (bysC_one l)
    have HT3 := Lib.hid (src_at HA.out (H3.out.alloc (.cells #[] 5)))
    go_wp2_with (at_builtin; refine wpList_append_c _ rfl _ _ 70 rfl w0.heap.size 5 i0 (.int .u8 0) 1 1 Tryd.underlying70 hi hz0 hz1 hz2 rfl (by decide) _ _ _ rfl HM0.out A l.length c (bysC l) rfl HT1.out HT3.out HT2.out ?k0c3 ?k0c4 ?k0c5 ?_)
    case k0c3 => unfold maxLen; omega
    case k0c4 => omega
    case k0c5 => have := H3.out.size; simp; omega
    intro v4 w4 hown4 hgr4 hbl4
    have hown4 : OwnC w4 w0.heap.size 5 1 v4 l.length (bysC l) := by first | exact hown4 | (have := hown4; simp at this ⊢; exact this)
    have H4 := Lib.hid (show Nx w0 w4 from Below.grown (H3.out.alloc _) hgr4 (by have := H3.out.size; simp; omega) (fun k hk => (HM0.out.lt k hk).1))
    have K4 := Lib.hid (show Nx w3 w4 from Below.grown ((Nx.refl w3).alloc _) hgr4 (by simp) (fun k hk => by have := (OwnC.made w3 w3.heap.size 5 1 #[] 0 (Nat.le_refl _) (by unfold maxLen; omega) (by simp)).lt k hk; omega))
    have HO4 := Lib.hid (hown4.alloc (.cells #[.int .u8 10] 5))
    have HO4L := Lib.hid (fun k (hk : v4.ownBlock = some k) => (show w3.heap.size ≤ k from by
      rcases hbl4 with e | e
      · rw [e] at hk; simp [Value.ownBlock] at hk; omega
      · rw [e] at hk; injection hk with hk; first | omega | (simp at hk; omega)))
    clear hown4 hgr4 hbl4
    go_wp2_with (at_builtin; refine wpList_append_c _ rfl _ _ 70 rfl w0.heap.size 5 i0 (.int .u8 0) 1 1 Tryd.underlying70 hi hz0 hz1 hz2 rfl (by decide) _ _ _ rfl HO4.out (some ⟨w4.heap.size, 0, none⟩) 1 1 [.int .u8 10] rfl rfl (Or.inr ⟨_, rfl, ?k1c1⟩) ?k1c2 ?k1c3 ?k1c4 ?k1c5 ?_)
    case k1c1 => exact six_at w4 [.int .u8 10] 5
    case k1c2 => simp [Value.oneCell']
    case k1c3 => unfold maxLen; omega
    case k1c4 => omega
    case k1c5 => have := H4.out.size; simp; omega
    intro v5 w5 hown5 hgr5 hbl5
    have hown5 : OwnC w5 w0.heap.size 5 1 v5 (l.length + 1) (bysC l ++ [Value.int .u8 10]) := hown5
    have H5 := Lib.hid (show Nx w0 w5 from Below.grown (H4.out.alloc _) hgr5 (by have := H4.out.size; simp; omega) (fun k hk => (HO4.out.lt k hk).1))
    have K5 := Lib.hid (show Nx w3 w5 from Below.grown (K4.out.alloc _) hgr5 (by have := K4.out.size; simp; omega) (fun k hk => HO4L.out k hk))
    have HT4 := Lib.hid (show (bysC m).length = m.length * 1 by rw [bysC_len]; omega)
    have HT5 := Lib.hid (bysC_one m)
    have HT6 := Lib.hid (src_at HA2.out H5.out)
    have HO5 := Lib.hid hown5
    have HO5L := Lib.hid (fun k (hk : v5.ownBlock = some k) => (show w3.heap.size ≤ k from by
      rcases hbl5 with e | e
      · exact HO4L.out k (e ▸ hk)
      · rw [e] at hk; injection hk with hk; have := K4.out.size; first | omega | (simp at hk; omega)))
    clear hown5 hgr5 hbl5
    go_wp2_with (at_builtin; refine wpList_append_c _ rfl _ _ 70 rfl w0.heap.size 5 i0 (.int .u8 0) 1 1 Tryd.underlying70 hi hz0 hz1 hz2 rfl (by decide) _ _ _ rfl HO5.out A2 m.length c2 (bysC m) rfl HT4.out HT6.out HT5.out ?k2c3 ?k2c4 ?k2c5 ?_)
    case k2c3 => unfold maxLen; omega
    case k2c4 => omega
    case k2c5 => have := H5.out.size; simp; omega
    intro v6 w6 hown6 hgr6 hbl6
    have H6 := Lib.hid (show Nx w0 w6 from Below.grown H5.out hgr6 H5.out.size (fun k hk => (HO5.out.lt k hk).1))
    have K6 := Lib.hid (show Nx w3 w6 from Below.grown K5.out hgr6 K5.out.size (fun k hk => HO5L.out k hk))
    have HB6 := Lib.hid (show Bys w6 v6 (l ++ 10 :: m) from own_bys (base := w0.heap.size) (by
      have h := hown6
      rw [bysC_mid, show l.length + 1 + m.length = (l ++ 10 :: m).length by simp; omega] at h
      exact h))
    clear hown6 hgr6 hbl6 HO5 HO5L HO4 HO4L HT1 HT2 HT3 HT4 HT5 HT6 HM0
    go_wp2_with fail
    refine (llines_any _ (l ++ 10 :: m) _ (HE.out.nx H6.out) HB6.out (by simp; omega)).mono ?_
    rintro e w7 ⟨u3, e3, rfl, hn7, hR3⟩
    have H7 := Lib.hid (H6.out.trans hn7)
    have K7 := Lib.hid (K6.out.trans hn7)
    have HX := parts_three hl hm (K3.out.trans K7.out) K7.out HR1.out HR2.out hR3
    clear hR3 HR1 HR2 hn7 HB6 K3 K6 K5 K4
    rcases HX with ⟨fa, fb, fc, hF1, hF3, hc, hc'⟩ | ⟨ls, fa, fb, fc, rfl, hL1, hln, ha1, ha2, hF2, hF3, hc, hc'⟩ | ⟨ls, ms, rfl, rfl, rfl, hL1, hL2, hL3, hln, hmn, hlines⟩
    · have HF1 := Lib.hid hF1
      have HF3 := Lib.hid hF3
      obtain ⟨g1, o1, rfl, _⟩ := hF1
      obtain ⟨g3, o3, rfl, _⟩ := hF3
      have q2 := fun w => eql_fl fa fb fc w
      go_wp2_with fail
      refine (fault_is _ fa fb fc _ (HE.out.nx H7.out) HF3.out hc hc').mono ?_
      rintro e w8 ⟨rfl, hn8⟩
      have H8 := Lib.hid (H7.out.trans hn8)
      have HF1 := Lib.hid (HF1.out.nx hn8)
      clear hn8
      go_wp2_with fail
      refine (fault_is _ fa fb fc _ (HE.out.nx H8.out) HF1.out hc hc').mono ?_
      rintro e w9 ⟨rfl, hn9⟩
      have H9 := Lib.hid (H8.out.trans hn9)
      clear hn9
      go_wp2
      go_ret
      exact ⟨rfl, H9.out⟩
    · have HF2 := Lib.hid hF2
      have HF3 := Lib.hid hF3
      obtain ⟨g2, o2, rfl, _⟩ := hF2
      obtain ⟨g3, o3, rfl, _⟩ := hF3
      obtain ⟨A1, c1, rfl, h1a, h1b, _⟩ := hL1.form
      have q2 := fun w => eql_fl (fa + ls.length) fb fc w
      have q3 : IntKind.i64.wrap (fa + (ls.length : Int)) = fa + ls.length := IntWalk.i64_in _ (by omega)
      clear hL1
      go_wp2_with fail
      refine (fault_is _ fa fb fc _ (HE.out.nx H7.out) HF2.out hc hc').mono ?_
      rintro e w8 ⟨rfl, hn8⟩
      have H8 := Lib.hid (H7.out.trans hn8)
      have HF3 := Lib.hid (HF3.out.nx hn8)
      clear hn8
      go_wp2
      (refine wp_region_nx 8 (by kernel_rfl) (by kernel_rfl) ?_; simp only [List.take_succ_cons, List.take_zero, List.drop_succ_cons, List.drop_zero]; (repeat (refine wpQuiet_step (fun K hK => ?_); go_simp; first | (refine hK _ ?_; clear hK K) | (apply Exists.intro; refine ⟨fun w' hw' => ?_, hK _ ?_⟩; (first | (with_reducible rfl) | (go_at_call 21; with_reducible exact ((fault_is _ (fa + ls.length) fb fc _ (HE.out.nx ((H8.out.alloc _).trans hw')) (HF3.out.nx (((Nx.refl w8).alloc _).trans hw')) hc hc')).mono fun _ _ h => ⟨h.1, hw'.trans h.2⟩) | (obtain ⟨hc, hf⟩ := nx_cells hw'; go_simp; with_reducible rfl) | (obtain ⟨hc, hf⟩ := nx_cells hw'; go_simp; rfl)); clear hK K))); refine wpQuiet_nil ?_; intro w9 hn9)
      have H9 := Lib.hid ((H8.out.alloc _).trans hn9)
      clear hn9
      go_wp2
      go_ret
      exact ⟨rfl, H9.out⟩
    · obtain ⟨A1, c1, us, rfl, h1a, h1b, hul, hut, husrc⟩ := linsv_cells hL1
      obtain ⟨A3, c3, rfl, h3a, h3b, _⟩ := hL3.form
      obtain ⟨A2', c2', rfl, h2a, h2b, _⟩ := hL2.form
      obtain ⟨j0, hj, hj0, hj1, hj2⟩ := info_parts toks_info
      have HJ := Lib.hid (And.intro hj (And.intro hj0 (And.intro hj1 hj2)))
      obtain ⟨t0, ht, ht0, ht1, ht2⟩ := info_parts tok_info
      have HTI := Lib.hid (And.intro ht (And.intro ht0 (And.intro ht1 ht2)))
      clear ht ht0 ht1 ht2 hi hz0 hz1 hz2
      rw [show (ls ++ ms.map fun ts => ts.map (shT ls.length)).length = ls.length + ms.length by simp] at hL3 h3a ⊢
      have HL2 := Lib.hid hL2
      have HL3 := Lib.hid hL3
      have HUT := Lib.hid hut
      have HUL := Lib.hid hul
      have HLI := Lib.hid hlines
      have HM0 := Lib.hid (OwnC.made w7 w7.heap.size 37 1 #[] 0 (Nat.le_refl _) (by unfold maxLen; omega) (by simp))
      have HT1 := Lib.hid (show us.length = ls.length * 1 by omega)
      have HT2 := Lib.hid (show ∀ x ∈ us, x.oneCell' = true from fun x hx => by
        obtain ⟨k, hk⟩ := List.getElem?_of_mem hx
        have hkl := (List.getElem?_eq_some_iff.1 hk).1
        exact toksv_one (hut k x _ hk (List.getElem?_eq_getElem (by omega))))
      have HT3 := Lib.hid (show (A1 = none ∧ ls.length = 0 ∧ c1 = 0) ∨ ∃ ad, A1 = some ad ∧ ∀ (j : Nat) (u : Value), us[j]? = some u → (w7.alloc (.cells #[] 37)).cell? (ad.add j) = some u from by
        rcases husrc with h | ⟨ad, h1, _, h2⟩
        · exact Or.inl h
        · exact Or.inr ⟨ad, h1, fun j u hj => ((Nx.refl w7).alloc _).cell (h2 j u hj)⟩)
      clear husrc hut hul hL1 hL2 hL3 hlines
      go_wp2_with (at_builtin; refine wpList_append_c _ rfl _ _ 22 rfl w7.heap.size 37 j0 (.slice none 0 0) 1 24 Tryd.underlying22 hj hj0 hj1 hj2 rfl (by decide) _ _ _ rfl HM0.out A1 ls.length c1 us rfl HT1.out HT3.out HT2.out ?k3c3 ?k3c4 ?k3c5 ?_)
      case k3c3 => unfold maxLen; omega
      case k3c4 => omega
      case k3c5 => simp
      intro v8 w8 hown8 hgr8 hbl8
      have hown8 : OwnC w8 w7.heap.size 37 1 v8 ls.length us := by first | exact hown8 | (have := hown8; simp at this ⊢; exact this)
      have K8 := Lib.hid (show Nx w7 w8 from Below.grown ((Nx.refl w7).alloc _) hgr8 (by simp) (fun k hk => (HM0.out.lt k hk).1))
      have HO8 := Lib.hid (show OwnM w8 w7.heap.size v8 ls from ⟨us, hown8, fun k x tl hx htl => ⟨(HUT.out k x tl hx htl).nx K8.out, fun h0 g hg => by
        have h1 := toks_lt (HUT.out k x tl hx htl) h0 g hg
        refine ⟨Nat.lt_of_lt_of_le h1 K8.out.size, fun e => ?_⟩
        have := (hown8.lt g e).1
        omega⟩⟩)
      have H8 := Lib.hid (H7.out.trans K8.out)
      obtain ⟨Aw, cw, rfl⟩ := HO8.out.form
      clear hown8 hgr8 hbl8 HT1 HT2 HT3 HM0 HUT HUL hj hj0 hj1 hj2
      have hlnI : (ls.length : Int) ≤ 1001 := by omega
      go_wp2
      go_loopw [12, 13] (fun wv iv wr => ∃ i : Nat, i ≤ ms.length ∧ iv = .int .i64 i ∧ OwnM wr w7.heap.size wv (ls ++ (ms.take i).map fun ts => ts.map (shT ls.length)) ∧ Nx w7 wr) (fun _ iv _ => ms.length - (intOf iv).toNat)
      case atStart => exact ⟨0, Nat.zero_le _, rfl, by rw [List.take_zero]; simpa using HO8.out, K8.out⟩
      case round =>
        obtain ⟨i, him, rfl, hO, hnx⟩ := hrel
        obtain ⟨wo, rfl⟩ : ∃ wo : World, wo = wr := ⟨_, rfl⟩
        have HO := Lib.hid hO
        have HNX := Lib.hid hnx
        obtain ⟨Av, cv, rfl⟩ := hO.form
        have hWL : (ls ++ (ms.take i).map fun ts => ts.map (shT ls.length)).length = ls.length + i := by simp; omega
        rw [hWL] at HO ⊢
        clear hO hnx
        by_cases hilt : i < ms.length
        · obtain ⟨ts, hts⟩ : ∃ ts, ms[i]? = some ts := ⟨_, List.getElem?_eq_getElem hilt⟩
          obtain ⟨gl, ol, cl2, x, he, _, hcell, hT⟩ := line_at HL2.out i ts hts
          cases he
          obtain ⟨B3, d3, rfl, h4a, h4b, hA3⟩ := hT.form
          have HCL := Lib.hid hcell
          have HT3 := Lib.hid hA3
          have HTS := Lib.hid hts
          have hiI : decide ((i : Int) < ms.length) = true := decide_eq_true (by omega)
          have hm9 : ms.length ≤ 9223372036854775807 := by omega
          clear hcell hT hA3 hts
          go_wp2
          go_loopw [14, 15] (fun lv kv wq => ∃ k : Nat, k ≤ ts.length ∧ kv = .int .i64 k ∧ OwnC wq wo.heap.size 58 6 lv k (toksC ((ts.take k).map (shT ls.length))) ∧ Nx wo wq) (fun _ kv _ => ts.length - (intOf kv).toNat)
          case atStart => exact ⟨0, Nat.zero_le _, rfl, OwnC.nil _ _ _ _, Nx.refl _⟩
          case round =>
            obtain ⟨k, hk, rfl, hQ, hnq⟩ := hrel
            have HQ := Lib.hid hQ
            have HNQ := Lib.hid hnq
            have HN7 := Lib.hid (HNX.out.trans hnq)
            have cl := HN7.out.cell HCL.out
            have zl := block_lt cl
            clear hQ hnq
            by_cases hkl : k < ts.length
            · obtain ⟨⟨kd, ln, cc, tx, nm, sc⟩, ht⟩ : ∃ t, ts[k]? = some t := ⟨_, List.getElem?_eq_getElem hkl⟩
              have hline := (HLI.out i ts HTS.out).2 k _ ht
              dsimp only at hline
              subst hline
              obtain ⟨g3, o3, rfl, hT3⟩ : ∃ g o, B3 = some ⟨g, o, none⟩ ∧ TokAt w7 g o ts := by
                rcases HT3.out with ⟨_, h, _⟩ | h
                · rw [h] at hkl; exact absurd hkl (by simp)
                · exact h
              obtain ⟨b0, b1, b2, b3, b4, b5⟩ := TokAt.at_ (hT3.nx HN7.out) k _ ht
              dsimp only at b0 b1 b2 b3 b4 b5
              have y0 := block_lt b0
              have hkI : decide ((k : Int) < ts.length) = true := decide_eq_true (by omega)
              have q3 : IntKind.i64.wrap (((1 + i : Nat) : Int) + ls.length) = ((1 + i : Nat) : Int) + ls.length := IntWalk.i64_in _ (by omega)
              have HTK := Lib.hid ht
              obtain ⟨ht, ht0, ht1, ht2⟩ := HTI.out
              have hA := Lib.hid ((HQ.out.alloc (.cells #[.int .i64 kd, .int .i64 (((1 + i : Nat) : Int) + ls.length), .int .i64 cc, .string (B tx), .int .u32 nm, .int .i64 sc] 58)).alloc (.cells #[.int .i64 kd, .int .i64 (((1 + i : Nat) : Int) + ls.length), .int .i64 cc, .string (B tx), .int .u32 nm, .int .i64 sc] 58))
              have hN2 := Lib.hid ((HNQ.out.alloc (.cells #[.int .i64 kd, .int .i64 (((1 + i : Nat) : Int) + ls.length), .int .i64 cc, .string (B tx), .int .u32 nm, .int .i64 sc] 58)).alloc (.cells #[.int .i64 kd, .int .i64 (((1 + i : Nat) : Int) + ls.length), .int .i64 cc, .string (B tx), .int .u32 nm, .int .i64 sc] 58))
              rw [show ((1 + i : Nat) : Int) = 1 + (i : Int) by omega] at *
              clear hT3
              have hk9 : ts.length ≤ 1000000 := by have := (HLI.out i ts HTS.out).1; omega
              go_wp2_with (at_builtin; refine wpList_append_c _ rfl _ _ 37 rfl wo.heap.size 58 t0 (.agg #[.int .i64 0, .int .i64 0, .int .i64 0, .string (B []), .int .u32 0, .int .i64 0]) 6 56 Tryd.underlying37 ht ht0 ht1 ht2 rfl (by decide) _ _ _ rfl hA.out (some ⟨wr.heap.size + 1, 0, none⟩) 1 1 [.int .i64 kd, .int .i64 (1 + (i : Int) + ls.length), .int .i64 cc, .string (B tx), .int .u32 nm, .int .i64 sc] rfl rfl (Or.inr ⟨_, rfl, ?k4c1⟩) ?k4c2 ?k4c3 ?k4c4 ?k4c5 ?_)
              case k4c2 => simp [Value.oneCell']
              case k4c3 => unfold maxLen; omega
              case k4c4 => omega
              case k4c5 => have := HNQ.out.size; simp; omega
              intro v3 w3 hown3 hgr3 hbl3
              have HX3 := Lib.hid (show Nx wo w3 from Below.grown hN2.out hgr3 (by have := HNQ.out.size; simp; omega) (fun k hk => (hA.out.lt k hk).1))
              have HO3 := Lib.hid hown3
              clear hown3 hgr3 hbl3
              go_wp2
              go_roundw
              case rel => exact ⟨k + 1, by omega, by go_num, by
                rw [take_snoc' _ _ _ HTK.out, List.map_append, List.map_singleton, toksC_snoc]
                have h := HO3.out
                simpa [shT] using h, HX3.out⟩
              case measure => simp [intOf]; omega
            · obtain rfl : k = ts.length := by omega
              have hkI : decide ((ts.length : Int) < ts.length) = false := decide_eq_false (by omega)
              have HTL := Lib.hid (show Toks wr u14 ((ts.map (shT ls.length))) ∧ ∀ g, u14.ownBlock = some g → wo.heap.size ≤ g ∧ g < wr.heap.size from own_fresh (Nat.le_refl _) (by
                have h := HQ.out
                rw [List.take_length] at h
                rw [List.length_map]
                exact h))
              obtain ⟨Ax, cx, rfl, _⟩ := HTL.out.1.form
              rw [List.length_map] at HTL ⊢
              obtain ⟨hj, hj0, hj1, hj2⟩ := HJ.out
              obtain ⟨vs, hvs, hvsl, hvs2⟩ := ((HO.out.nx HNQ.out).nx ((Nx.refl wr).alloc (.cells #[.slice Ax ts.length cx] 37))).parts
              have HU2 := Lib.hid hvs2
              have HUL := Lib.hid hvsl
              rw [hWL] at hvs
              have HU := Lib.hid hvs
              clear hvs hvs2 hvsl
              go_wp2_with (at_builtin; refine wpList_append_c _ rfl _ _ 22 rfl w7.heap.size 37 j0 (.slice none 0 0) 1 24 Tryd.underlying22 hj hj0 hj1 hj2 rfl (by decide) _ _ _ rfl HU.out (some ⟨wr.heap.size, 0, none⟩) 1 1 [.slice Ax ts.length cx] rfl rfl (Or.inr ⟨_, rfl, ?k5c1⟩) ?k5c2 ?k5c3 ?k5c4 ?k5c5 ?_)
              case k5c2 => simp [Value.oneCell']
              case k5c3 => unfold maxLen; omega
              case k5c4 => omega
              case k5c5 => have := HN7.out.size; simp; omega
              intro v3 w3 hown3 hgr3 hbl3
              have HX3 := Lib.hid (show Nx w7 w3 from Below.grown (HN7.out.alloc _) hgr3 (by have := HN7.out.size; simp; omega) (fun k hk => (HU.out.lt k hk).1))
              have HO3 := Lib.hid (OwnM.push (l := ts.map (shT ls.length)) HUL.out HU2.out (HTL.out.1.nx ((Nx.refl wr).alloc _)) (by
                intro _ g hg
                obtain ⟨h1, h2⟩ := HTL.out.2 g hg
                refine ⟨by simp; omega, fun e => ?_⟩
                have := (HO.out.lt g e).2
                omega) hgr3 (by simpa using hbl3) (by rw [hWL]; exact hown3))
              clear hown3 hgr3 hbl3
              go_wp2
              go_roundw
              case rel => exact ⟨i + 1, by omega, by go_num, by
                rw [take_snoc' _ _ _ HTS.out, List.map_append, List.map_singleton, ← List.append_assoc]
                exact HO3.out, HX3.out⟩
              case measure => simp [intOf]; omega
        · obtain rfl : i = ms.length := by omega
          have hiI : decide ((ms.length : Int) < ms.length) = false := decide_eq_false (by omega)
          have HLW := Lib.hid (show Lins wo (.slice Av (ls.length + ms.length) cv) (ls ++ ms.map fun ts => ts.map (shT ls.length)) from by
            have h := HO.out.lins
            rw [List.take_length] at h
            exact h)
          go_wp2_with fail
          refine (same_any _ _ _ _ (HL3.out.nx HNX.out) HLW.out).mono ?_
          rintro e w9 ⟨rfl, hn9⟩
          have H9 := Lib.hid ((H7.out.trans HNX.out).trans hn9)
          clear hn9
          go_wp2
          go_ret
          exact ⟨rfl, H9.out⟩

end Go.Proofs.YtbkgdepblaibkaaDoor
