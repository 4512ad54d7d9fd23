/- Arguments: slices of tokens, slices of those, slices of bytes, opened. -/
import Derived.Test.YtbkgdepblaibkaaDoorTok
import Derived.ProofKit
import Derived.OpenShut
import Derived.Deep.Slices
import Derived.Deep.Fields
import Derived.ChangeSame
import Derived.Deep.Strs
namespace Go.Proofs.YtbkgdepblaibkaaDoor
open Go.RowKit Go.ChangeShapes Go.WideShapes Go.Deep
set_option linter.unusedVariables false
set_option linter.unusedSimpArgs false
set_option maxRecDepth 100000

/-- A token's parts are in their bounds. -/
def TokBd (t : Tok) : Prop := (-9223372036854775808 ≤ t.kind ∧ t.kind ≤ 9223372036854775807) ∧ (-9223372036854775808 ≤ t.line ∧ t.line ≤ 9223372036854775807) ∧ (-9223372036854775808 ≤ t.col ∧ t.col ≤ 9223372036854775807) ∧ t.text.length ≤ maxLen ∧ (0 ≤ t.num ∧ t.num ≤ 4294967295) ∧ (-9223372036854775808 ≤ t.scope ∧ t.scope ≤ 9223372036854775807)

/-- The slice v holds these bytes. -/
def Bys (w : World) (v : Value) (l : List UInt8) : Prop :=
  ((∃ A, v = .slice A 0 0) ∧ l = []) ∨ ∃ g o c, v = .slice (some ⟨g, o, none⟩) l.length c ∧ l.length ≤ c ∧ c ≤ maxLen ∧ ∀ (k : Nat) (b : UInt8), l[k]? = some b → w.cell? ⟨g, o + k, none⟩ = some (.int .u8 b.toNat)

theorem Bys.nx {w w' : World} {v : Value} {l : List UInt8} (h : Bys w v l) (hn : Nx w w') : Bys w' v l := by
  rcases h with h | ⟨g, o, c, h1, h2, h3, h4⟩
  · exact Or.inl h
  · exact Or.inr ⟨g, o, c, h1, h2, h3, fun k b hk => hn.cell (h4 k b hk)⟩

theorem Bys.form {w : World} {v : Value} {l : List UInt8} (h : Bys w v l) : ∃ A c, v = .slice A l.length c ∧ l.length ≤ c ∧ c ≤ maxLen ∧ ((l = [] ∧ c = 0) ∨ ∃ g o, A = some ⟨g, o, none⟩ ∧ ∀ (k : Nat) (b : UInt8), l[k]? = some b → w.cell? ⟨g, o + k, none⟩ = some (.int .u8 b.toNat)) := by
  rcases h with ⟨⟨A, rfl⟩, rfl⟩ | ⟨g, o, c, h1, h2, h3, h4⟩
  · exact ⟨A, 0, rfl, Nat.le_refl _, Nat.zero_le _, Or.inl ⟨rfl, rfl⟩⟩
  · exact ⟨_, c, h1, h2, h3, Or.inr ⟨g, o, rfl, h4⟩⟩

/-- How many elements a datum has. -/
def lenD {H : Type} : DataW H → Nat
  | .slice e _ => e.length
  | _ => 0

def elemsD {H : Type} : DataW H → List (DataW H)
  | .slice e _ => e
  | _ => []

theorem list_of {α : Type} {n : Nat} {p : Nat → α → Prop} (h : ∀ i, i < n → ∃ x, p i x) : ∃ l : List α, l.length = n ∧ ∀ i x, l[i]? = some x → p i x := by
  induction n with
  | zero => exact ⟨[], rfl, fun i x hx => by cases hx⟩
  | succ n ih =>
    obtain ⟨l, hl, hp⟩ := ih (fun i hi => h i (by omega))
    obtain ⟨x, hx⟩ := h n (by omega)
    refine ⟨l ++ [x], by simp [hl], fun i y hy => ?_⟩
    rw [List.getElem?_append] at hy
    split at hy
    · exact hp i y hy
    · rename_i hn
      have : i = n := by
        have := (List.getElem?_eq_some_iff.1 hy).1
        simp at this
        omega
      subst this
      rw [hl] at hy
      simp at hy
      subst hy
      exact hx

section
variable {H : Type} {enc : TypeId × Value → H} {w : World} {base : Nat} {held : Bool}

theorem add_flat (b o k : Nat) : (⟨b, o, none⟩ : Addr).add k = ⟨b, o + k, none⟩ := by unfold Addr.add; split <;> simp_all

theorem text_B (s : ByteArray) : s = B s.data.toList := rfl

theorem field_at {P : Program} {sp : Nat → Bool} {t : TypeId} {fs : Array Field} {fuel : Nat} {cs : List Value} {x : DataW H × List MemPlace} (ht : P.underlying t = some (.struct fs)) (hone : oneCellFields P fs = true) (h : DataW.trod enc P w base sp held fuel t cs = some x) :
    cs.length = P.cellsOf t ∧ ∀ (i : Nat) (f : Field), fs[i]? = some f → ∃ y n, DataW.trod enc P w base sp held n f.type ((cs.drop i).take 1) = some y := by
  obtain ⟨xs, n, _, rfl, hl, hlen, hf⟩ := DataW.trod_struct ht h
  refine ⟨hl, fun i f hi => ?_⟩
  obtain ⟨o, k⟩ := hone_of hone i f hi
  have g := hf i f hi
  rw [o, k, List.getElem?_eq_getElem (by rw [hlen]; exact (Array.getElem?_eq_some_iff.1 hi).1)] at g
  exact ⟨_, n, g⟩

theorem open_tok {fuel : Nat} {cs : List Value} {x : DataW H × List MemPlace} (h : DataW.trod enc Tryd.prog w base (fun _ => true) held fuel 58 cs = some x) : ∃ t : Tok, cs = tokC t ∧ TokBd t := by
  obtain ⟨hl, hf⟩ := field_at Tryd.underlying58 (by kernel_rfl) h
  have h6 : cs.length = 6 := hl.trans (by kernel_rfl)
  match cs, h6 with
  | [c0, c1, c2, c3, c4, c5], _ =>
    obtain ⟨y0, m0, g0⟩ := hf 0 _ rfl
    obtain ⟨y1, m1, g1⟩ := hf 1 _ rfl
    obtain ⟨y2, m2, g2⟩ := hf 2 _ rfl
    obtain ⟨y3, m3, g3⟩ := hf 3 _ rfl
    obtain ⟨y4, m4, g4⟩ := hf 4 _ rfl
    obtain ⟨y5, m5, g5⟩ := hf 5 _ rfl
    obtain ⟨n0, e0, _, b0⟩ := DataW.trod_int (k := .i64) Tryd.underlying3 g0
    obtain ⟨n1, e1, _, b1⟩ := DataW.trod_int (k := .i64) Tryd.underlying3 g1
    obtain ⟨n2, e2, _, b2⟩ := DataW.trod_int (k := .i64) Tryd.underlying3 g2
    obtain ⟨s3, e3, _, b3⟩ := DataW.trod_string Tryd.underlying9 g3
    obtain ⟨n4, e4, _, b4⟩ := DataW.trod_int (k := .u32) Tryd.underlying56 g4
    obtain ⟨n5, e5, _, b5⟩ := DataW.trod_int (k := .i64) Tryd.underlying3 g5
    simp at e0 e1 e2 e3 e4 e5
    subst e0 e1 e2 e3 e4 e5
    have q0 := bounds_i64 b0
    have q1 := bounds_i64 b1
    have q2 := bounds_i64 b2
    have q4 := bounds_u32 b4
    have q5 := bounds_i64 b5
    exact ⟨⟨n0, n1, n2, s3.data.toList, n4, n5⟩, rfl, q0, q1, q2, (by show s3.data.toList.length ≤ maxLen; rw [Array.length_toList]; exact b3), q4, q5⟩

theorem c_tok : Tryd.prog.cellsOf 58 = 6 := by kernel_rfl

theorem c_toks : Tryd.prog.cellsOf 37 = 1 := by kernel_rfl

theorem c_byte : Tryd.prog.cellsOf 5 = 1 := by kernel_rfl

theorem open_toks1 {fuel : Nat} {v : Value} {x : DataW H × List MemPlace} (h : DataW.trod enc Tryd.prog w base (fun _ => true) held fuel 37 [v] = some x) : ∃ l, Toks w v l ∧ (∀ t ∈ l, TokBd t) ∧ lenD x.1 = l.length := by
  rcases open_slice Tryd.underlying37 h with ⟨hv, rfl⟩ | ⟨a, len, cap, m, n, D, Pl, hv, hb, hl, hm, hmm, rfl, hi⟩
  · simp at hv
    subst hv
    exact ⟨[], Toks.nil w, by simp, rfl⟩
  · simp at hv
    subst hv
    simp only [if_true] at hmm
    have hmm' := hmm.symm
    subst hmm'
    clear hmm
    rw [c_tok] at hi
    have each : ∀ i, i < len → ∃ t : Tok, TokBd t ∧ ∀ j u, (tokC t)[j]? = some u → w.cell? ((a.add (i * 6)).add j) = some u := by
      intro i hil
      obtain ⟨cs', hc, ht⟩ := hi i (by omega)
      obtain ⟨t, rfl, hbd⟩ := open_tok ht
      obtain ⟨_, _, hat⟩ := World.cells?_some hc
      exact ⟨t, hbd, fun j u hj => by rw [hat j (List.getElem?_eq_some_iff.1 hj).1]; exact hj⟩
    obtain ⟨l, hlen, hp⟩ := list_of each
    refine ⟨l, ?_, fun t ht => ?_, ?_⟩
    · rcases Nat.eq_zero_or_pos len with h0 | h0
      · subst h0
        have hnil : l = [] := List.eq_nil_of_length_eq_zero hlen
        subst hnil
        rcases Nat.eq_zero_or_pos cap with hc0 | hc0
        · subst hc0; exact Or.inl ⟨⟨_, rfl⟩, rfl⟩
        · obtain ⟨cs', hc, _⟩ := hi 0 hc0
          obtain ⟨_, hcl, hat⟩ := World.cells?_some hc
          have h0 := hat 0 (by omega)
          rw [List.getElem?_eq_getElem (by omega)] at h0
          obtain ⟨b, o, spot⟩ := a
          have hs : spot = none := by simpa [Addr.add] using World.cell?_spot h0
          subst hs
          exact Or.inr ⟨b, o, cap, rfl, Nat.zero_le _, hm, fun k t hk => by cases hk⟩
      · obtain ⟨t0, ht0⟩ : ∃ t, l[0]? = some t := ⟨_, List.getElem?_eq_getElem (by omega)⟩
        have h0 := (hp 0 t0 ht0).2 0 _ rfl
        obtain ⟨b, o, spot⟩ := a
        have hs : spot = none := by simpa [Addr.add] using World.cell?_spot h0
        subst hs
        refine Or.inr ⟨b, o, cap, by rw [hlen], by omega, hm, fun k t hk j u hu => ?_⟩
        have := (hp k t hk).2 j u hu
        rw [add_flat, add_flat] at this
        exact this
    · obtain ⟨k, hk⟩ := List.getElem?_of_mem ht
      exact (hp k t hk).1
    · simp [lenD, hlen]

theorem open_toks {r : Reach} {b0 : Nat} {v : Value} {d : DataW H} {p : List MemPlace} (hv : Value.okWide Tryd.prog w r b0 37 v) (h : DataW.Trod enc Tryd.prog w base (fun _ => true) held 37 v d p) : ∃ l, Toks w v l ∧ (∀ t ∈ l, TokBd t) ∧ lenD d = l.length := by
  obtain ⟨a0, len, cap, rfl⟩ := okWide_slice Tryd.underlying37 hv
  obtain ⟨fuel, hf⟩ := h
  exact open_toks1 hf

/-- Each element of a datum is as long as its list. -/
def LensD (d : DataW H) (ls : List (List Tok)) : Prop := lenD d = ls.length ∧ ∀ (i : Nat) (l : List Tok), ls[i]? = some l → ∃ e, (elemsD d)[i]? = some e ∧ lenD e = l.length

theorem open_lins1 {fuel : Nat} {v : Value} {x : DataW H × List MemPlace} (h : DataW.trod enc Tryd.prog w base (fun _ => true) held fuel 22 [v] = some x) : ∃ ls, Lins w v ls ∧ (∀ l ∈ ls, ∀ t ∈ l, TokBd t) ∧ LensD x.1 ls := by
  rcases open_slice Tryd.underlying22 h with ⟨hv, rfl⟩ | ⟨a, len, cap, m, n, D, Pl, hv, hb, hl, hm, hmm, rfl, hi⟩
  · simp at hv
    subst hv
    exact ⟨[], Or.inl ⟨⟨none, rfl⟩, rfl⟩, by simp, rfl, by simp⟩
  · simp at hv
    subst hv
    simp only [if_true] at hmm
    have hmm' := hmm.symm
    subst hmm'
    clear hmm
    rw [c_toks] at hi
    have each : ∀ i, i < len → ∃ l : List Tok, (∀ t ∈ l, TokBd t) ∧ lenD (D i) = l.length ∧ ∃ u, w.cell? (a.add i) = some u ∧ Toks w u l := by
      intro i hil
      obtain ⟨cs', hc, ht⟩ := hi i (by omega)
      obtain ⟨_, hcl, hat⟩ := World.cells?_some hc
      match cs', hcl with
      | [u], _ =>
        obtain ⟨l, h1, h2, h3⟩ := open_toks1 ht
        refine ⟨l, h2, h3, u, ?_, h1⟩
        have := hat 0 (by omega)
        rw [Go.Deep.add_add, Nat.mul_one, Nat.add_zero] at this
        exact this
    obtain ⟨ls, hlen, hp⟩ := list_of each
    refine ⟨ls, ?_, fun l hl t ht => ?_, ?_, fun i l hil => ?_⟩
    · rcases Nat.eq_zero_or_pos len with h0 | h0
      · subst h0
        have hnil : ls = [] := List.eq_nil_of_length_eq_zero hlen
        subst hnil
        rcases Nat.eq_zero_or_pos cap with hc0 | hc0
        · subst hc0; exact Or.inl ⟨⟨_, rfl⟩, rfl⟩
        · obtain ⟨cs', hc, _⟩ := hi 0 hc0
          obtain ⟨_, hcl, hat⟩ := World.cells?_some hc
          have h0 := hat 0 (by omega)
          rw [List.getElem?_eq_getElem (by omega)] at h0
          obtain ⟨b, o, spot⟩ := a
          have hs : spot = none := by simpa [Addr.add] using World.cell?_spot h0
          subst hs
          exact Or.inr ⟨b, o, cap, rfl, Nat.zero_le _, hm, fun k t hk => by cases hk⟩
      · obtain ⟨l0, hl0⟩ : ∃ l, ls[0]? = some l := ⟨_, List.getElem?_eq_getElem (by omega)⟩
        obtain ⟨_, _, u0, h0, _⟩ := hp 0 l0 hl0
        obtain ⟨b, o, spot⟩ := a
        have hs : spot = none := by simpa [Addr.add] using World.cell?_spot h0
        subst hs
        refine Or.inr ⟨b, o, cap, by rw [hlen], by omega, hm, fun k l hk => ?_⟩
        obtain ⟨_, _, u, h1, h2⟩ := hp k l hk
        rw [add_flat] at h1
        exact ⟨u, h1, h2⟩
    · obtain ⟨k, hk⟩ := List.getElem?_of_mem hl
      exact (hp k l hk).1 t ht
    · simp [lenD, hlen]
    · obtain ⟨_, h2, _⟩ := hp i l hil
      have hlt := (List.getElem?_eq_some_iff.1 hil).1
      exact ⟨D i, by show ((List.range len).map D)[i]? = _; rw [List.getElem?_map, List.getElem?_range (by omega)]; rfl, h2⟩

theorem open_lins {r : Reach} {b0 : Nat} {v : Value} {d : DataW H} {p : List MemPlace} (hv : Value.okWide Tryd.prog w r b0 22 v) (h : DataW.Trod enc Tryd.prog w base (fun _ => true) held 22 v d p) : ∃ ls, Lins w v ls ∧ (∀ l ∈ ls, ∀ t ∈ l, TokBd t) ∧ LensD d ls := by
  obtain ⟨a0, len, cap, rfl⟩ := okWide_slice Tryd.underlying22 hv
  obtain ⟨fuel, hf⟩ := h
  exact open_lins1 hf

theorem byte_of {n : Int} (h : (Lit.int .u8 n).wf = true) : ∃ b : UInt8, n = b.toNat := by
  have := bounds_u8 h
  exact ⟨UInt8.ofNat n.toNat, by rw [UInt8.toNat_ofNat']; omega⟩

theorem open_bys {r : Reach} {b0 : Nat} {v : Value} {d : DataW H} {p : List MemPlace} (hv : Value.okWide Tryd.prog w r b0 70 v) (h : DataW.Trod enc Tryd.prog w base (fun _ => true) held 70 v d p) : ∃ l, Bys w v l ∧ lenD d = l.length := by
  obtain ⟨a0, len0, cap0, rfl⟩ := okWide_slice Tryd.underlying70 hv
  obtain ⟨fuel, hf⟩ := h
  rcases open_slice Tryd.underlying70 hf with ⟨hv, hx⟩ | ⟨a, len, cap, m, n, D, Pl, hv, hb, hl, hm, hmm, hx, hi⟩
  · simp at hv hx
    obtain ⟨rfl, rfl, rfl⟩ := hv
    obtain ⟨rfl, rfl⟩ := hx
    exact ⟨[], Or.inl ⟨⟨none, rfl⟩, rfl⟩, rfl⟩
  · simp at hv hx
    obtain ⟨rfl, rfl, rfl⟩ := hv
    obtain ⟨rfl, rfl⟩ := hx
    simp only [if_true] at hmm
    have hmm' := hmm.symm
    subst hmm'
    clear hmm
    rw [c_byte] at hi
    have each : ∀ i, i < len0 → ∃ b : UInt8, w.cell? (a.add i) = some (.int .u8 b.toNat) := by
      intro i hil
      obtain ⟨cs', hc, ht⟩ := hi i (by omega)
      obtain ⟨_, hcl, hat⟩ := World.cells?_some hc
      obtain ⟨k, hk, _, hw⟩ := DataW.trod_int Tryd.underlying5 ht
      obtain ⟨b, rfl⟩ := byte_of hw
      subst hk
      have := hat 0 (by omega)
      rw [Go.Deep.add_add, Nat.mul_one, Nat.add_zero] at this
      exact ⟨b, this⟩
    obtain ⟨l, hlen, hp⟩ := list_of each
    refine ⟨l, ?_, ?_⟩
    · rcases Nat.eq_zero_or_pos len0 with h0 | h0
      · subst h0
        have hnil : l = [] := List.eq_nil_of_length_eq_zero hlen
        subst hnil
        rcases Nat.eq_zero_or_pos cap0 with hc0 | hc0
        · subst hc0; exact Or.inl ⟨⟨_, rfl⟩, rfl⟩
        · obtain ⟨cs', hc, _⟩ := hi 0 hc0
          obtain ⟨_, hcl, hat⟩ := World.cells?_some hc
          have h0 := hat 0 (by omega)
          rw [List.getElem?_eq_getElem (by omega)] at h0
          obtain ⟨b, o, spot⟩ := a
          have hs : spot = none := by simpa [Addr.add] using World.cell?_spot h0
          subst hs
          exact Or.inr ⟨b, o, cap0, rfl, Nat.zero_le _, hm, fun k t hk => by cases hk⟩
      · obtain ⟨l0, hl0⟩ : ∃ x, l[0]? = some x := ⟨_, List.getElem?_eq_getElem (by omega)⟩
        have h0 := hp 0 l0 hl0
        obtain ⟨b, o, spot⟩ := a
        have hs : spot = none := by simpa [Addr.add] using World.cell?_spot h0
        subst hs
        refine Or.inr ⟨b, o, cap0, by rw [hlen], by omega, hm, fun k x hk => ?_⟩
        have h1 := hp k x hk
        rw [add_flat] at h1
        exact h1
    · simp [lenD, hlen]

theorem weights_at {P : Program} {ts : List TypeId} {ds : List (DataW H)} (j : Nat) (h : (DataW.weightsEach P ts ds).all (· ≤ reachBytes) = true) {t : TypeId} {d : DataW H} (ht : ts[j]? = some t) (hd : ds[j]? = some d) : (d.weights P t).all (· ≤ reachBytes) = true := by
  induction ts generalizing ds j with
  | nil => cases ht
  | cons t0 ts ih =>
    cases ds with
    | nil => cases hd
    | cons d0 ds =>
      rw [DataW.weightsEach, List.all_append, Bool.and_eq_true] at h
      cases j with
      | zero => cases ht; cases hd; exact h.1
      | succ j => exact ih j h.2 ht hd

theorem weights_slice {P : Program} {t e : TypeId} {d : DataW H} (ht : P.underlying t = some (.slice e)) (h : (d.weights P t).all (· ≤ reachBytes) = true) : lenD d * P.bytesOf e ≤ reachBytes ∧ ∀ x ∈ elemsD d, (x.weights P e).all (· ≤ reachBytes) = true := by
  cases d with
  | slice es sp =>
    rw [DataW.weights, ht] at h
    simp only [List.all_cons, List.all_append, Bool.and_eq_true, decide_eq_true_eq] at h
    obtain ⟨h1, h2, _⟩ := h
    refine ⟨Nat.le_trans (Nat.mul_le_mul_right _ (by simp [lenD])) h1, fun x hx => ?_⟩
    have : ∀ (es : List (DataW H)), (DataW.weightsAll P e es).all (· ≤ reachBytes) = true → ∀ x ∈ es, (x.weights P e).all (· ≤ reachBytes) = true := by
      intro es
      induction es with
      | nil => intro _ x hx; cases hx
      | cons y es ih =>
        intro h x hx
        rw [DataW.weightsAll, List.all_append, Bool.and_eq_true] at h
        rcases List.mem_cons.1 hx with rfl | hx
        · exact h.1
        · exact ih h.2 x hx
    exact this es h2 x hx
  | _ => exact ⟨by simp [lenD], fun x hx => by cases hx⟩

theorem b_tok : Tryd.prog.bytesOf 58 = 56 := by kernel_rfl

theorem b_toks : Tryd.prog.bytesOf 37 = 24 := by kernel_rfl

theorem b_byte : Tryd.prog.bytesOf 5 = 1 := by kernel_rfl

theorem toks_small {d : DataW H} {l : List Tok} (h : (d.weights Tryd.prog 37).all (· ≤ reachBytes) = true) (hz : lenD d = l.length) : l.length ≤ 140737488351232 := by
  have := (weights_slice Tryd.underlying37 h).1
  rw [b_tok, hz] at this
  unfold reachBytes at this
  omega

theorem lins_small {d : DataW H} {ls : List (List Tok)} (h : (d.weights Tryd.prog 22).all (· ≤ reachBytes) = true) (hz : LensD d ls) : ls.length ≤ 140737488351232 ∧ ∀ l ∈ ls, l.length ≤ 140737488351232 := by
  obtain ⟨h1, h2⟩ := weights_slice Tryd.underlying22 h
  rw [b_toks, hz.1] at h1
  unfold reachBytes at h1
  refine ⟨by omega, fun l hl => ?_⟩
  obtain ⟨k, hk⟩ := List.getElem?_of_mem hl
  obtain ⟨e, he, hlen⟩ := hz.2 k l hk
  exact toks_small (h2 e (List.mem_of_getElem? he)) hlen

theorem bys_small {d : DataW H} {l : List UInt8} (h : (d.weights Tryd.prog 70).all (· ≤ reachBytes) = true) (hz : lenD d = l.length) : l.length ≤ 140737488351232 := by
  have := (weights_slice Tryd.underlying70 h).1
  rw [b_byte, hz] at this
  unfold reachBytes at this
  omega

end

end Go.Proofs.YtbkgdepblaibkaaDoor
