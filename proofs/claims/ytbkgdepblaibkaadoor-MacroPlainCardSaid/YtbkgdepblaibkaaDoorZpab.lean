/- Parts of the proof, one behind the other. -/
import Derived.Test.YtbkgdepblaibkaaDoorQuiet
import Derived.Test.YtbkgdepblaibkaaDoorMadf
import Derived.IntWalk
/- A region that draws its order: reads, and one operation that makes memory beside them; then the others in their one order. One walk in the order of the text serves every order. -/
namespace Go.Proofs.YtbkgdepblaibkaaDoor
open Go.RowKit
set_option linter.unusedVariables false

section
variable {P : Program} {ops : Array Oper} {md : Region.Mode}

/-- No world: what a read may not leave. -/
def noW : World → Prop := fun _ => False

/-- In each of two worlds operation o reads v. -/
def YieldsM (P : Program) (ops : Array Oper) (w0 w1 : World) (o : Oper) (v : Value) (a : Act) : Prop :=
  (Region.wanted o (yielded ops a.tmps) = true ∧ o.quietAt P a noW w0 v ∧ o.quietAt P a noW w1 v) ∨ (Region.wanted o (yielded ops a.tmps) = false ∧ v = undef)

/-- The operations, each a read in all worlds of C. -/
def wpRd (P : Program) (ops : Array Oper) (C : World → Prop) (Q : Act → Prop) : List Oper → Act → Prop
  | [], a => Q a
  | o :: rest, a => if Region.wanted o (yielded ops a.tmps) then ∃ v, (∀ w, C w → o.quietAt P a noW w v) ∧ wpRd P ops C Q rest (a.put o.dst v) else wpRd P ops C Q rest (a.put o.dst undef)

theorem wpRd_nil {C : World → Prop} {Q : Act → Prop} {a : Act} (h : Q a) : wpRd P ops C Q [] a := h

theorem wpRd_step {C : World → Prop} {Q : Act → Prop} {a : Act} {o : Oper} {rest : List Oper}
    (h : ∀ K : Act → Prop, (∀ a, wpRd P ops C Q rest a → K a) → if Region.wanted o (yielded ops a.tmps) then ∃ v, (∀ w, C w → o.quietAt P a noW w v) ∧ K (a.put o.dst v) else K (a.put o.dst undef)) : wpRd P ops C Q (o :: rest) a :=
  h _ fun _ h => h

/-- Operation i, from the world W to the world W'. -/
def opM (P : Program) (ops : Array Oper) (m : Nat) (w1 : World) (i : Nat) (K : Act → Prop) (a : Act) (W : World) : Prop :=
  match ops[i]? with
  | none => i ≠ m ∧ K a
  | some o => if i = m then Region.wanted o (yielded ops a.tmps) = true ∧ ∃ v, (execOp a.eval o).run P W = .ok (.value v) w1 ∧ K (a.put o.dst v)
    else if Region.wanted o (yielded ops a.tmps) then ∃ v, o.quietAt P a noW W v ∧ K (a.put o.dst v) else K (a.put o.dst undef)

theorem opM_mono {m : Nat} {w1 : World} {i : Nat} {K K' : Act → Prop} {a : Act} {W : World} (h : ∀ a, K a → K' a) (hh : opM P ops m w1 i K a W) : opM P ops m w1 i K' a W := by
  unfold opM at *
  split
  · rename_i ho; simp only [ho] at hh; exact ⟨hh.1, h _ hh.2⟩
  · rename_i o ho
    simp only [ho] at hh
    split
    · rename_i hm
      rw [if_pos hm] at hh
      obtain ⟨h1, v, h2, h3⟩ := hh
      exact ⟨h1, v, h2, h _ h3⟩
    · rename_i hm
      rw [if_neg hm] at hh
      split
      · rename_i hw
        rw [if_pos hw] at hh
        obtain ⟨v, h2, h3⟩ := hh
        exact ⟨v, h2, h _ h3⟩
      · rename_i hw
        rw [if_neg hw] at hh
        exact h _ hh

theorem quiet_no {o : Oper} {a : Act} {W : World} {v : Value} {K : Act → Prop} {K' : Act → World → Prop} {Q' : Exit → Act → World → Prop} (hq : o.quietAt P a noW W v) (hK : K (a.put o.dst v)) (h : ∀ a', K a' → K' a' W) : o.wp P a W K' Q' := by
  refine Oper.wp_of_quiet (C := fun w' => w' = W) (K := K) rfl (fun a' w' hw' hk => by subst hw'; exact h _ hk) ⟨v, fun w hw => ?_, hK⟩
  subst hw
  unfold Oper.quietAt at hq ⊢
  generalize (execOp a.eval o).run P w = r at hq ⊢
  cases r with
  | ok n w' =>
    cases n with
    | value u => exact hq
    | skip => exact hq
    | enter f args =>
      obtain ⟨e1, hc⟩ := hq
      exact ⟨e1, hc.mono fun e w'' ⟨he, hw''⟩ => hw''.elim⟩
    | _ => exact hq
  | halt x w' => exact hq

theorem wpOp_of_opM {m : Nat} {w1 : World} {i : Nat} {a : Act} {W W' : World} {K : Act → Prop} {K' : Act → World → Prop} {Q' : Exit → Act → World → Prop} (hW : W' = if i = m then w1 else W) (h : ∀ a', K a' → K' a' W') (hh : opM P ops m w1 i K a W) : wpOp P ops Q' i K' a W := by
  unfold opM at hh
  unfold wpOp
  split
  · rename_i ho
    simp only [ho] at hh
    rw [if_neg hh.1] at hW
    subst hW
    exact h _ hh.2
  · rename_i o ho
    simp only [ho] at hh
    by_cases hm : i = m
    · rw [if_pos hm] at hh hW
      obtain ⟨h1, v, h2, h3⟩ := hh
      subst hW
      rw [if_pos h1]
      refine .inl ?_
      unfold Oper.wp
      rw [h2]
      exact h _ h3
    · rw [if_neg hm] at hh hW
      subst hW
      split
      · rename_i hw
        rw [if_pos hw] at hh
        obtain ⟨v, h2, h3⟩ := hh
        exact .inl (quiet_no h2 h3 h)
      · rename_i hw
        rw [if_neg hw] at hh
        exact h _ hh

/-- The world, by whether the maker is listed. -/
def wldM (m : Nat) (w0 w1 : World) (listed : Array Bool) : World := if listed.getD m false = true then w1 else w0

/-- The head of the region, in whatever order. -/
def anyM (P : Program) (md : Region.Mode) (ops : Array Oper) (m : Nat) (w0 w1 : World) (L : Array Bool → Act → Prop) : Nat → Array Bool → Act → Prop
  | 0, listed, a => L listed a
  | f + 1, listed, a => Region.ready md ops listed ≠ [] ∧ ∀ i ∈ Region.ready md ops listed, i < m + 1 ∧ opM P ops m w1 i (anyM P md ops m w0 w1 L f (listed.setIfInBounds i true)) a (wldM m w0 w1 listed)

theorem wldM_set {m i : Nat} {w0 w1 : World} {listed : Array Bool} (hm : m < listed.size) : wldM m w0 w1 (listed.setIfInBounds i true) = if i = m then w1 else wldM m w0 w1 listed := by
  unfold wldM
  by_cases h : i = m
  · subst h
    rw [if_pos rfl, if_pos (by simp [hm])]
  · rw [if_neg h, getD_set_ne false h]

theorem any_of_headM {m g : Nat} {w0 w1 : World} {L : Array Bool → Act → Prop} {Q' : Exit → Act → World → Prop} (hm : m < ops.size) (hL : ∀ listed a, listed.size = ops.size → L listed a → wpAny P md ops Q' g listed a (wldM m w0 w1 listed)) :
    ∀ (f : Nat) (listed : Array Bool) (a : Act), listed.size = ops.size → anyM P md ops m w0 w1 L f listed a → wpAny P md ops Q' (f + g) listed a (wldM m w0 w1 listed) := by
  intro f
  induction f with
  | zero => intro listed a hs h; rw [Nat.zero_add]; exact hL _ _ hs h
  | succ f ih =>
    intro listed a hs h
    rw [show f + 1 + g = (f + g) + 1 by omega]
    exact ⟨fun h0 => absurd h0 h.1, fun i hi => wpOp_of_opM (wldM_set (by omega)) (fun a' h' => ih _ a' (by simp [hs]) h') (h.2 i hi).2⟩

theorem YieldsM.of_same {w0 w1 : World} {o : Oper} {v : Value} {a a' : Act} (hy : YieldsM P ops w0 w1 o v a) (he : execOp a'.eval o = execOp a.eval o)
    (hw : Region.wanted o (yielded ops a'.tmps) = Region.wanted o (yielded ops a.tmps)) : YieldsM P ops w0 w1 o v a' := by
  unfold YieldsM Oper.quietAt at *
  rw [he, hw]
  exact hy

theorem YieldsM.opM {m i : Nat} {w0 w1 W : World} {o : Oper} {v : Value} {a : Act} (hi : ops[i]? = some o) (him : i ≠ m) (hW : W = w0 ∨ W = w1) (hy : YieldsM P ops w0 w1 o v a) {K : Act → Prop} (h : K (a.put o.dst v)) : opM P ops m w1 i K a W := by
  unfold Go.Proofs.YtbkgdepblaibkaaDoor.opM
  simp only [hi]
  rw [if_neg him]
  rcases hy with ⟨hw, h0, h1⟩ | ⟨hw, rfl⟩
  · rw [if_pos hw]
    rcases hW with rfl | rfl
    · exact ⟨v, h0, h⟩
    · exact ⟨v, h1, h⟩
  · rw [if_neg (by rw [hw]; simp)]
    exact h

theorem opM_put {m j : Nat} {w0 w1 W : World} {oi oj : Oper} {v : Value} (hj : ops[j]? = some oj) (hap : oi.apart ops oj = true)
    (hsi : ∀ cs b, oi.op ≠ .select cs b) (hsj : ∀ cs b, oj.op ≠ .select cs b) {K : Act → Prop} {a : Act}
    (hy : YieldsM P ops w0 w1 oi v a) (h : opM P ops m w1 j K (a.put oi.dst v) W) :
    opM P ops m w1 j (fun a' => YieldsM P ops w0 w1 oi v a' ∧ K (a'.put oi.dst v)) a W := by
  obtain ⟨h1, h2, h3⟩ := Oper.apart_spec hap
  have keep : ∀ u, YieldsM P ops w0 w1 oi v (a.put oj.dst u) := fun u => hy.of_same (execOp_put oi hsi a oj.dst u h3) (wanted_put oi a oj.dst u h3)
  unfold opM at *
  simp only [hj] at *
  rw [wanted_put oj a oi.dst v h1] at h
  by_cases hjm : j = m
  · rw [if_pos hjm] at h ⊢
    obtain ⟨hw, u, hu, hn⟩ := h
    rw [execOp_put oj hsj a oi.dst v h1] at hu
    exact ⟨hw, u, hu, keep u, by rw [← Act.put_comm a v u h2]; exact hn⟩
  · rw [if_neg hjm] at h ⊢
    split
    · rename_i hw
      rw [if_pos hw] at h
      obtain ⟨u, hu, hn⟩ := h
      refine ⟨u, ?_, keep u, by rw [← Act.put_comm a v u h2]; exact hn⟩
      unfold Oper.quietAt at *
      rwa [execOp_put oj hsj a oi.dst v h1] at hu
    · rename_i hw
      rw [if_neg hw] at h
      exact ⟨keep _, by rw [← Act.put_comm a v undef h2]; exact h⟩

theorem anyM_first {m i : Nat} {w0 w1 : World} {oi : Oper} {v : Value} {L : Array Bool → Act → Prop} (hi : ops[i]? = some oi) (hsel : ∀ (j : Nat) (o : Oper) cs b, ops[j]? = some o → o.op ≠ .select cs b)
    (hs : Region.sinkB md ops (m + 1) = true) (hc : Region.chainB md ops (m + 1) = true) (hn : m + 1 < ops.size) (him : i < m)
    (hdone : ∀ listed a, L listed a → ∀ j ∈ Region.ready md ops listed, m + 1 ≤ j) :
    ∀ (f : Nat) (listed : Array Bool) (a : Act), HeadInv md ops (m + 1) listed →
      (∀ j oj, ops[j]? = some oj → j ≠ i → listed.getD j true = false → (∀ e ∈ oj.after, Region.binds md e = true → e.on ≠ i) → oi.apart ops oj = true) →
      i ∈ Region.ready md ops listed → YieldsM P ops w0 w1 oi v a →
      anyM P md ops m w0 w1 L f (listed.setIfInBounds i true) (a.put oi.dst v) → anyM P md ops m w0 w1 L (f + 1) listed a := by
  have two : ∀ listed, wldM m w0 w1 listed = w0 ∨ wldM m w0 w1 listed = w1 := fun listed => by unfold wldM; split <;> simp
  intro f
  induction f with
  | zero =>
    intro listed a inv _ hr hy H
    have hun := (mem_ready.1 hr).1
    refine ⟨fun h => (by rw [h] at hr; cases hr), fun j hj => ?_⟩
    have hjn : j < m + 1 := Nat.lt_of_not_le fun h => tail_waits hs hc hn inv _ i rfl (by omega) hun j h hj
    refine ⟨hjn, ?_⟩
    by_cases hji : j = i
    · subst hji; exact hy.opM hi (by omega) (two _) H
    · have := hdone _ _ H j (ready_mono hj hji); omega
  | succ f ih =>
    intro listed a inv hfree hr hy H
    have hun := (mem_ready.1 hr).1
    refine ⟨fun h => (by rw [h] at hr; cases hr), fun j hj => ?_⟩
    have hjn : j < m + 1 := Nat.lt_of_not_le fun h => tail_waits hs hc hn inv _ i rfl (by omega) hun j h hj
    refine ⟨hjn, ?_⟩
    by_cases hji : j = i
    · subst hji; exact hy.opM hi (by omega) (two _) H
    · have h1 := (H.2 j (ready_mono hj hji)).2
      rw [wldM_set (by rw [inv.size]; omega), if_neg (by omega)] at h1
      obtain ⟨hjun, oj, hoj, hall⟩ := mem_ready.1 hj
      have hnot : ∀ e ∈ oj.after, Region.binds md e = true → e.on ≠ i := fun e he hb heq => by
        have h2 := hall e he hb
        rw [heq, getD_both hun] at h2
        cases h2
      have h2 := opM_put hoj (hfree j oj hoj hji hjun hnot) (fun cs b => hsel i oi cs b hi) (fun cs b => hsel j oj cs b hoj) hy h1
      refine opM_mono (fun a' h3 => ih (listed.setIfInBounds j true) a' (inv.set hj hjn) (fun k ok hk hki hk1 hno => hfree k ok hk hki ?_ hno) (ready_mono hr (Ne.symm hji)) h3.1 ?_) h2
      · by_cases hjk : j = k
        · subst hjk; exact hjun
        · rw [getD_set_ne true hjk] at hk1; exact hk1
      · rw [Array.setIfInBounds_comm _ _ hji]; exact h3.2

/-- The maker, behind all reads. -/
def MakesM (P : Program) (ops : Array Oper) (m : Nat) (w0 w1 : World) (Lq : Act → Prop) (a : Act) : Prop :=
  ∃ o v, ops[m]? = some o ∧ Region.wanted o (yielded ops a.tmps) = true ∧ (execOp a.eval o).run P w0 = .ok (.value v) w1 ∧ Lq (a.put o.dst v)

theorem anyM_lex {m g : Nat} {w0 w1 : World} {C : World → Prop} (hC0 : C w0) (hC1 : C w1) {Lq : Act → Prop} (hsel : Region.noSelect ops = true) (hs : Region.sinkB md ops (m + 1) = true) (hc : Region.chainB md ops (m + 1) = true) (hn : m + 1 < ops.size) :
    ∀ (l : List Oper) (k : Nat) (listed : Array Bool) (a : Act), (∀ j, j < l.length → l[j]? = ops[k + j]?) → k + l.length = m → HeadInv md ops (m + 1) listed →
    (∀ j, j < k → listed.getD j false = true) → listed.getD m false = false →
    Region.lexHead md ops g (l.length + 1) k listed = true → wpRd P ops C (MakesM P ops m w0 w1 Lq) l a →
    anyM P md ops m w0 w1 (fun listed' a' => listed'.getD m false = true ∧ Region.seqB md ops g (m + 1) listed' = true ∧ Lq a') (l.length + 1) listed a := by
  intro l
  induction l with
  | nil =>
    intro k listed a _ hk inv hall hmn hB h
    have e : k = m := by simpa using hk
    subst e
    simp only [List.length_nil, Region.lexHead, Bool.and_eq_true] at hB
    obtain ⟨⟨hr, hf⟩, hB'⟩ := hB
    have hr' : k ∈ Region.ready md ops listed := by simpa using hr
    have hun := (mem_ready.1 hr').1
    refine ⟨fun h => (by rw [h] at hr'; cases hr'), fun j hj => ?_⟩
    have hjn : j < k + 1 := Nat.lt_of_not_le fun h => tail_waits hs hc hn inv _ k rfl (by omega) hun j h hj
    refine ⟨hjn, ?_⟩
    have hjk : j = k := by
      rcases Nat.lt_or_ge j k with h1 | h1
      · have h2 := (mem_ready.1 hj).1
        have h3 := hall j h1
        rw [getD_both h2] at h3
        cases h3
      · omega
    subst hjk
    obtain ⟨o, v, ho, hw, hrun, hL⟩ := h
    unfold opM
    simp only [ho, if_true]
    refine ⟨hw, v, ?_, ?_⟩
    · unfold wldM
      rw [hmn]
      exact hrun
    · exact ⟨by simp [inv.size, show j < ops.size by omega], hB', hL⟩
  | cons o l ih =>
    intro k listed a hl hk inv hall hmn hB h
    have h0 : ops[k]? = some o := by simpa using (hl 0 (by simp)).symm
    simp only [List.length_cons] at hB hk ⊢
    rw [Region.lexHead, Bool.and_eq_true, Bool.and_eq_true] at hB
    obtain ⟨⟨hr, hf⟩, hB'⟩ := hB
    have hkm : k < m := by omega
    have hr' : k ∈ Region.ready md ops listed := by simpa using hr
    have step : ∃ v, YieldsM P ops w0 w1 o v a ∧ wpRd P ops C (MakesM P ops m w0 w1 Lq) l (a.put o.dst v) := by
      rw [wpRd] at h
      split at h
      · rename_i hw
        obtain ⟨v, h1, h2⟩ := h
        exact ⟨v, Or.inl ⟨hw, h1 _ hC0, h1 _ hC1⟩, h2⟩
      · rename_i hw
        exact ⟨undef, Or.inr ⟨by simpa using hw, rfl⟩, h⟩
    obtain ⟨v, hy, hK⟩ := step
    refine anyM_first h0 (Region.noSelect_spec hsel) hs hc hn hkm (fun listed' a' hL => seqB_ready hL.2.1) (l.length + 1) listed a inv (Region.free_spec h0 hf) hr' hy
      (ih (k + 1) _ _ (fun j hj => by have := hl (j + 1) (by simp; omega); simpa [Nat.add_assoc, Nat.add_comm 1 j] using this) (by omega) (inv.set hr' (by omega)) (fun j hj => ?_) (by rw [getD_set_ne false (by omega)]; exact hmn) hB' hK)
    by_cases hjk : k = j
    · subst hjk; simp [inv.size, show k < ops.size by omega]
    · rw [getD_set_ne false hjk]; exact hall j (by omega)

/-- The region: m reads in worlds of C, then the maker, from the world w.drew to w1; the others in their one order. -/
theorem wp_region_mk {id : Nat} {Q : Exit → Act → World → Prop} {a : Act} {w : World} {l : List Oper} (m : Nat) (C : World → Prop) (w1 : World) (hm : P.follows .mixedOrders = true) (hB : Region.lexTailB .any l.toArray (m + 1) = true)
    (hC0 : C w.drew) (hC1 : C w1) (h : wpRd P l.toArray C (MakesM P l.toArray m w.drew w1 fun a' => wpList P l.toArray Q (l.drop (m + 1)) a' w1) (l.take m) a) : (Code.region id l.toArray true).wp P Q a w := by
  simp only [Region.lexTailB, Bool.and_eq_true, decide_eq_true_eq] at hB
  obtain ⟨⟨⟨⟨hsel, hn⟩, hs⟩, hc⟩, hlex⟩ := hB
  have hn' : m + 1 < l.length := by simpa using hn
  have htl : (l.take m).length = m := by simp; omega
  have hdl : (l.drop (m + 1)).length = l.toArray.size - (m + 1) := by simp
  have inv0 : HeadInv .any l.toArray (m + 1) (Array.replicate l.toArray.size false) :=
    ⟨by simp, fun j oj _ hl => (by rw [getD_replicate_false] at hl; cases hl), fun t _ ht => getD_in (by simpa using ht) (getD_replicate_false _ _)⟩
  have H := anyM_lex (md := .any) (g := l.toArray.size - (m + 1)) hC0 hC1 hsel hs hc hn (l.take m) 0 _ a (fun j hj => by
    have hj' : j < m := by rw [htl] at hj; exact hj
    simp [hj']) (by simpa using htl) inv0 (fun j hj => by omega) (getD_replicate_false _ _) (by rw [htl]; exact hlex) h
  refine wp_region_any hm ?_
  have := any_of_headM (Q' := Q) (g := l.toArray.size - (m + 1)) (by omega) (fun listed a' hsz hL => by
    have := wpAny_of_seq (md := .any) (Q' := Q) (l.drop (m + 1)) (m + 1) listed a' w1 (fun j => by simp [List.getElem?_drop]) (by rw [hdl]; exact hL.2.1) hL.2.2
    unfold wldM
    rw [if_pos hL.1]
    rwa [hdl] at this) _ _ _ (by simp) H
  rw [htl, show m + 1 + (l.toArray.size - (m + 1)) = l.toArray.size by omega] at this
  unfold wldM at this
  rw [getD_replicate_false] at this
  exact this

end

end Go.Proofs.YtbkgdepblaibkaaDoor

/- Contracts of typecaselaw14: Ours. -/
namespace Go.Proofs.YtbkgdepblaibkaaDoor
open Go.RowKit
set_option linter.unusedVariables false
set_option linter.unusedSimpArgs false

/-- Parameters' cells in the call's own memory. -/
def ParO (w : World) (base : Nat) (v : Value) (qs : List (PPar × Value)) : Prop := OwnC w base 88 3 v qs.length (parC qs)

theorem ParO.pars {w : World} {base : Nat} {v : Value} {qs : List (PPar × Value)} (h : ParO w base v qs) : Pars w v qs := by
  rcases h.2 with ⟨hv, h0⟩ | ⟨g, cap, cur, hv, hb, hg, h3, h4, h5, h6⟩
  · exact Or.inl ⟨⟨none, hv⟩, List.eq_nil_of_length_eq_zero h0⟩
  · refine Or.inr ⟨g, 0, cap, hv, h3, h4, fun k q hk j u hj => ?_⟩
    rw [Nat.zero_add]
    exact OwnC.cells h (g := g) (by rw [hv]; rfl) _ u (parC_at qs k q hk j u hj)

/-- What holds at a round's head. -/
def OursRel (qs : List (PPar × Value)) (mn : List UInt8) (lv : Value) (W wr : World) (iv : Value) : Prop :=
  ∃ (i : Nat) (pv : Value), i ≤ qs.length ∧ iv = .int .i64 i ∧ Nx W wr ∧ Has wr W.heap.size (.cells #[.string (B mn), pv, lv] 44) ∧ ParO wr (W.heap.size + 1) pv (qs.take i)

set_option maxHeartbeats 4000000 in
set_option maxRecDepth 100000 in
theorem ours_any (mn : List UInt8) (pv : Value) (qs : List (PPar × Value)) (lv : Value) (hlv : ∃ A n c, lv = Value.slice A n c) (w : World) (hP : ParsQ w pv qs) (hq : qs.length ≤ 1000000) :
    Calls Tryd.prog 37 #[.agg #[.string (B mn), pv, lv]] w fun e w' => ∃ pv', e = .returned (.agg #[.string (B mn), pv', lv]) ∧ Nx w w' ∧ ParsQ w' pv' qs := by
  obtain ⟨lA, ln, lc, rfl⟩ := hlv
  obtain ⟨i0, pi, hz0, hz1, hz2⟩ := info_parts par_info
  have HI := Lib.hid (And.intro pi (And.intro hz0 (And.intro hz1 hz2)))
  clear pi hz0 hz1 hz2
  obtain ⟨A, c, rfl, hc1, hc2, hA⟩ := hP.1.form
  have HP := Lib.hid hP
  have HPA := Lib.hid hA
  have hc3 : c ≤ 9223372036854775807 := by unfold maxLen at hc2; omega
  obtain ⟨W, hW⟩ : ∃ W, (w.alloc (.cells #[.string (B mn), .slice A qs.length c, .slice lA ln lc] 49)).alloc (.cells #[.string ({ data := #[] } : ByteArray), .slice none 0 0, .slice none 0 0] 44) = W := ⟨_, rfl⟩
  have HWE := Lib.hid hW
  have hs : W.heap.size = w.heap.size + 1 + 1 := by rw [← hW]; simp
  have HZ := Lib.hid hs
  have HWN := Lib.hid (show Nx w W from hW ▸ ((Nx.refl w).alloc _).alloc _)
  have HM0 := Lib.hid (show Has W w.heap.size (.cells #[.string (B mn), .slice A qs.length c, .slice lA ln lc] 49) from hW ▸ (Has.new w _).alloc _)
  have HR0 := Lib.hid (show Has W (w.heap.size + 1) (.cells #[.string ({ data := #[] } : ByteArray), .slice none 0 0, .slice none 0 0] 44) from hW ▸ Has.at_ _ _ (by simp))
  clear hP hA hW hs
  go_enter Tryd.func37, Tryd.ntmps37
  go_wp2
  rw [HWE.out]
  go_loopw [4] (fun iv wr => OursRel qs mn (.slice lA ln lc) W wr iv) (fun iv _ => qs.length - (intOf iv).toNat)
  case atStart => exact ⟨0, _, Nat.zero_le _, rfl, (Nx.refl W).alloc _, Has.new W _, OwnC.nil _ _ _ _⟩
  case round =>
    obtain ⟨i, ov, hi, rfl, hnx, hO, hown⟩ := hrel
    have HNX := Lib.hid hnx
    have HWX := Lib.hid (HWN.out.trans hnx)
    have HO := Lib.hid hO
    have HW := Lib.hid hown
    obtain ⟨Ao, co, rfl, _⟩ := hown.pars.form
    have htl : (qs.take i).length = i := by rw [List.length_take]; omega
    rw [htl] at HO HW
    have hm := HM0.out.nx HNX.out
    have m1 : wr.cell? ⟨w.heap.size, 1, none⟩ = some (.slice A qs.length c) := hm.cell 1 _ rfl
    have zm := hm.lt
    have ho := HO.out
    rw [HZ.out] at ho
    have o0 : wr.cell? ⟨w.heap.size + 1 + 1, 0, none⟩ = some (.string (B mn)) := ho.cell 0 _ rfl
    have o1 : wr.cell? ⟨w.heap.size + 1 + 1, 1, none⟩ = some (.slice Ao i co) := ho.cell 1 _ rfl
    have o2 : wr.cell? ⟨w.heap.size + 1 + 1, 2, none⟩ = some (.slice lA ln lc) := ho.cell 2 _ rfl
    have f1 := ho.free 1
    have zo := ho.lt
    clear hnx hO hown hm ho
    by_cases hlt : i < qs.length
    · obtain ⟨⟨⟨nm, hs, df⟩, dv⟩, hq1⟩ : ∃ q, qs[i]? = some q := ⟨_, List.getElem?_eq_getElem hlt⟩
      obtain ⟨g, o, rfl, hPA⟩ : ∃ g o, A = some ⟨g, o, none⟩ ∧ ParAt w g o qs := by
        rcases HPA.out with ⟨_, h, _⟩ | h
        · subst h; cases hq1
        · exact h
      have HTD := Lib.hid (HP.out.2 _ (List.mem_of_getElem? hq1))
      obtain ⟨dA, dc, hdv, _⟩ := HTD.out.form
      dsimp only at hdv HTD
      subst hdv
      obtain ⟨a0, a1, a2⟩ := (hPA.nx HWX.out).at_ i _ hq1
      dsimp only at a0 a1 a2
      have y0 := block_lt a0
      have HQ1 := Lib.hid hq1
      have hiI : (i : Int) < qs.length := by omega
      have hi0 : (0 : Int) ≤ i := by omega
      clear hPA hq1
      go_wp2
      (refine wp_region_mk 21 (Nx _) (wr.drew.alloc (.cells #[.string (B nm), .bool hs, .slice dA df.length dc] 88)) (by kernel_rfl) (by kernel_rfl) ((Nx.refl _).drew) (((Nx.refl _).drew).alloc _) ?_; simp only [List.take_succ_cons, List.take_zero, List.drop_succ_cons, List.drop_zero]; (repeat (refine wpRd_step (fun K hK => ?_); go_simp; first | (refine hK _ ?_; clear hK K) | (apply Exists.intro; refine ⟨fun w' hw' => ?_, hK _ ?_⟩; (first | (with_reducible rfl) | (rw [hw'.cell o1]; exact ⟨rfl, rfl⟩) | (rw [hw'.cell m1]; exact ⟨rfl, rfl⟩) | (rw [hw'.cell a0]; exact ⟨rfl, rfl⟩) | (rw [hw'.cell a1]; exact ⟨rfl, rfl⟩) | (rw [hw'.cell a2]; exact ⟨rfl, rfl⟩) | (obtain ⟨hc, hf⟩ := nx_cells hw'; go_simp; with_reducible rfl) | (obtain ⟨hc, hf⟩ := nx_cells hw'; go_simp; rfl)); clear hK K))); refine wpRd_nil ?_; refine ⟨_, ?_, rfl, ?_, ?_, ?_⟩; rotate_left; (first | rfl | simp [Region.wanted]); (go_simp; first | rfl | exact ⟨rfl, rfl⟩); show wpList _ _ _ _ _ _)
      obtain ⟨pi, hz0, hz1, hz2⟩ := HI.out
      have hA := Lib.hid (HW.out.nx (((Nx.refl wr).drew).alloc (.cells #[.string (B nm), .bool hs, .slice dA df.length dc] 88)))
      unfold ParO at hA
      rw [htl, HZ.out] at hA
      have hi6 : i ≤ 1000000 := by omega
      go_wp2_with (at_builtin; refine wpList_append_c _ rfl _ _ 42 rfl (w.heap.size + 1 + 1 + 1) 88 i0 _ 3 48 Tryd.underlying42 pi hz0 hz1 hz2 rfl (by decide) _ _ _ rfl hA.out (some ⟨wr.heap.size, 0, none⟩) 1 1 [.string (B nm), .bool hs, .slice dA df.length dc] rfl rfl (Or.inr ⟨_, rfl, ?c1⟩) ?c2 ?c3 ?c4 ?c5 ?_)
      case c1 => exact six_at wr.drew [.string (B nm), .bool hs, .slice dA df.length dc] 88
      case c2 => simp [Value.oneCell']
      case c3 => unfold maxLen; omega
      case c4 => omega
      case c5 => simp; omega
      intro v3 w3 hown3 hgr3 hbl3
      have HN3 := Lib.hid (show Nx W w3 from Below.grown ((HNX.out.drew).alloc _) hgr3 (by have := HNX.out.size; simp; omega) (fun k hk => by have := (hA.out.lt k hk).1; have := HZ.out; omega))
      have HO3 := Lib.hid (((HO.out.nx (Nx.refl wr).drew).alloc (.cells #[.string (B nm), .bool hs, .slice dA df.length dc] 88)).keep_grown hgr3 (fun e => by have := (hA.out.lt _ e).1; have := HZ.out; omega))
      have HW3 := Lib.hid (show ParO w3 (w.heap.size + 1 + 1 + 1) v3 (qs.take (i + 1)) from by
        unfold ParO
        rw [take_snoc' _ _ _ HQ1.out, parC_snoc, List.length_append, List.length_singleton, htl]
        exact hown3)
      obtain ⟨A3, c3, he3, _⟩ := HW3.out.pars.form
      rw [show (qs.take (i + 1)).length = i + 1 by rw [List.length_take]; omega] at he3
      subst he3
      have ho := HO3.out
      rw [HZ.out] at ho
      have o1 : w3.cell? ⟨w.heap.size + 1 + 1, 1, none⟩ = some (.slice Ao i co) := ho.cell 1 _ rfl
      have f1 := ho.free 1
      have zo := ho.lt
      clear hown3 hgr3 hbl3 ho hA pi hz0 hz1 hz2
      go_wp2
      go_roundw
      case rel =>
        refine ⟨i + 1, .slice A3 (i + 1) c3, by omega, by go_num, HN3.out.setCell (p := ⟨w.heap.size + 1 + 1, 1, none⟩) (by show W.heap.size ≤ _; rw [HZ.out]; exact Nat.le_refl _) _, ?_, ?_⟩
        · have h := HO3.out.put 1 (.slice A3 (i + 1) c3)
          rw [HZ.out] at h ⊢
          exact h
        · unfold ParO
          rw [HZ.out]
          exact own_set HW3.out (by show w.heap.size + 1 + 1 < _; omega) _
      case measure => simp [intOf]; omega
    · obtain rfl : i = qs.length := by omega
      have hiI : ¬ ((qs.length : Int) < qs.length) := by omega
      have hr := HR0.out.nx HNX.out
      have r0 : wr.cell? ⟨w.heap.size + 1, 0, none⟩ = some (.string ({ data := #[] } : ByteArray)) := hr.cell 0 _ rfl
      have r1 : wr.cell? ⟨w.heap.size + 1, 1, none⟩ = some (.slice none 0 0) := hr.cell 1 _ rfl
      have r2 : wr.cell? ⟨w.heap.size + 1, 2, none⟩ = some (.slice none 0 0) := hr.cell 2 _ rfl
      have g0 := hr.free 0
      have g1 := hr.free 1
      have g2 := hr.free 2
      have zr := hr.lt
      have HPS := Lib.hid (show Pars wr (.slice Ao qs.length co) qs from by have h := HW.out.pars; rwa [List.take_length] at h)
      have HWL := Lib.hid (show ParO wr (w.heap.size + 1 + 1 + 1) (.slice Ao qs.length co) qs from by have h := HW.out; rw [List.take_length, HZ.out] at h; exact h)
      clear hr HW
      go_wp2
      refine bodyPost_ret (v := .agg #[.string (B mn), .slice Ao qs.length co, .slice lA ln lc]) (by simp [results, Tryd.results37, go_sem, r0, r1, r2, g0, g1, g2]) rfl ?_
      refine ⟨_, rfl, by repeat (with_reducible first | exact HWX.out | refine Nx.setCell ?_ (by show w.heap.size ≤ w.heap.size + 1; omega) _), ?_, fun q hq => ?_⟩
      · refine ParO.pars (base := w.heap.size + 1 + 1 + 1) ?_
        have hw := HWL.out
        unfold ParO at hw ⊢
        repeat (with_reducible first | exact hw | refine own_set ?_ (by show w.heap.size + 1 < _; omega) _)
      · refine (HP.out.2 q hq).nx ?_
        repeat (with_reducible first | exact HWX.out | refine Nx.setCell ?_ (by show w.heap.size ≤ w.heap.size + 1; omega) _)

end Go.Proofs.YtbkgdepblaibkaaDoor

/- Contracts of typecaselaw14: light, small. -/
namespace Go.Proofs.YtbkgdepblaibkaaDoor
open Go.RowKit
set_option linter.unusedVariables false
set_option linter.unusedSimpArgs false

theorem sumL_le_take (p : List (List Tok)) (h : ∀ l ∈ p, l.length ≤ 140737488351232) (k : Nat) (l : List Tok) (hk : p[k]? = some l) : sumL (p.take (k + 1)) = sumL (p.take k) + l.length := by
  rw [take_snoc' _ _ _ hk, sumL_snoc]

/-- Few tokens. -/
def fewB (ls : List (List Tok)) (n : Nat) : Prop := ls.length + sumL ls ≤ n

theorem few_len {ls : List (List Tok)} {n : Nat} (h : fewB ls n) : ls.length ≤ n ∧ ∀ l ∈ ls, l.length ≤ n := by
  unfold fewB at h
  refine ⟨by omega, fun l hl => ?_⟩
  have : ∀ (ls : List (List Tok)) (l : List Tok), l ∈ ls → l.length ≤ sumL ls := by
    intro ls
    induction ls with
    | nil => intro l h; cases h
    | cons a r ih =>
      intro l h
      rw [sumL]
      rcases List.mem_cons.1 h with rfl | h
      · omega
      · have := ih l h; omega
  have := this ls l hl
  omega

/-- A truth value that says so much. -/
def RetB (S : Prop) (w : World) (e : Ending) (w' : World) : Prop := ∃ b, e = .returned (.bool b) ∧ (b = true → S) ∧ Nx w w'

set_option maxHeartbeats 4000000 in
set_option maxRecDepth 100000 in
theorem light_one (g o : Nat) (lv : Value) (ls : List (List Tok)) (w : World) (hc : w.cell? ⟨g, o, none⟩ = some lv) (hL : Lins w lv ls) (hl0 : ls.length ≤ 140737488351232) (hl : ∀ l ∈ ls, l.length ≤ 140737488351232) :
    Calls Tryd.prog 35 #[.slice (some ⟨g, o, none⟩) 1 1] w (RetB (fewB ls 600) w) := by
  obtain ⟨A, c, rfl, hc1, hc2, _⟩ := hL.form
  have HL := Lib.hid hL
  have HLL := Lib.hid hl
  have zc := block_lt hc
  clear hL hl hc1 hc2
  go_enter Tryd.func35, Tryd.ntmps35
  go_wp2
  go_loopw [3, 4] (fun nv iv wr => Nx w wr ∧ ((iv = .int .i64 0 ∧ nv = .int .i64 0) ∨ (iv = .int .i64 1 ∧ ∃ n : Nat, nv = .int .i64 n ∧ n ≤ 600000000000000 ∧ (n ≤ 600 → fewB ls 600)))) (fun _ iv _ => 2 - (intOf iv).toNat)
  case atStart => exact ⟨Nx.refl _, Or.inl ⟨rfl, rfl⟩⟩
  case round =>
    obtain ⟨hnx, hcase⟩ := hrel
    have HNX := Lib.hid hnx
    have cx := hnx.cell hc
    have zx := block_lt cx
    clear hnx
    rcases hcase with ⟨rfl, rfl⟩ | ⟨rfl, n, rfl, hn, hfew⟩
    · obtain ⟨wo, rfl⟩ : ∃ wo : World, wo = wr := ⟨_, rfl⟩
      go_wp2
      go_loopw [3, 5] (fun nv kv wr => ∃ (k n : Nat), k ≤ ls.length ∧ kv = .int .i64 k ∧ nv = .int .i64 n ∧ Nx w wr ∧ n = ls.length + sumL (ls.take k) ∧ n ≤ 600000000000000) (fun _ kv _ => ls.length - (intOf kv).toNat)
      case atStart => exact ⟨0, ls.length, Nat.zero_le _, rfl, by first | rfl | simp, HNX.out, by simp [sumL], by omega⟩
      case round =>
        obtain ⟨k, n, hk, rfl, rfl, hnx, hn, hnb⟩ := hrel
        have HNI := Lib.hid hnx
        have cx := hnx.cell hc
        have zx := block_lt cx
        have HN := Lib.hid hn
        clear hnx hn
        by_cases hlt : k < ls.length
        · have hkI : decide ((k : Int) < ls.length) = true := decide_eq_true (by omega)
          by_cases hn6 : n ≤ 600
          · have hnI : decide ((n : Int) ≤ 600) = true := decide_eq_true (by omega)
            obtain ⟨l, hl⟩ : ∃ l, ls[k]? = some l := ⟨_, List.getElem?_eq_getElem hlt⟩
            obtain ⟨ga, oa, ca, x, he, _, hxc, hxt⟩ := line_at HL.out k l hl
            cases he
            obtain ⟨xA, xc, rfl, _⟩ := hxt.form
            have hxc := HNI.out.cell hxc
            have y1 := block_lt hxc
            have hll := HLL.out l (List.mem_of_getElem? hl)
            have HS := Lib.hid (sumL_le_take ls HLL.out k l hl)
            clear hl hxt
            go_wp2
            go_roundw
            case rel => exact ⟨k + 1, n + l.length, by omega, by go_num, by go_num, HNI.out, by rw [HS.out]; have := HN.out; omega, by omega⟩
            case measure => simp [intOf]; omega
          · have hnI : decide ((n : Int) ≤ 600) = false := decide_eq_false (by omega)
            go_wp2
            go_roundw
            case rel => exact ⟨HNI.out, Or.inr ⟨by go_num, n, rfl, hnb, fun h => absurd h hn6⟩⟩
            case measure => simp [intOf]
        · obtain rfl : k = ls.length := by omega
          have hkI : decide ((ls.length : Int) < ls.length) = false := decide_eq_false (by omega)
          have HF := Lib.hid (show n ≤ 600 → fewB ls 600 from fun h => by unfold fewB; have := HN.out; rw [List.take_length] at this; omega)
          go_wp2
          go_roundw
          case rel => exact ⟨HNI.out, Or.inr ⟨by go_num, n, rfl, hnb, HF.out⟩⟩
          case measure => simp [intOf]
    · have HF := Lib.hid hfew
      clear hfew
      go_wp2
      go_ret
      exact ⟨_, rfl, fun h => HF.out (by
        have h2 : (n : Int) ≤ 600 := by simpa using h
        omega), HNX.out⟩

set_option maxHeartbeats 4000000 in
set_option maxRecDepth 100000 in
theorem small_any (mn : List UInt8) (pv : Value) (qs : List (PPar × Value)) (lv : Value) (ls : List (List Tok)) (w : World) (hP : ParsQ w pv qs) (hL : Lins w lv ls) (hq0 : qs.length ≤ 140737488351232) (hq : ∀ q ∈ qs, q.1.dflt.length ≤ 140737488351232) (hl0 : ls.length ≤ 140737488351232) (hl : ∀ l ∈ ls, l.length ≤ 140737488351232) :
    Calls Tryd.prog 34 #[.agg #[.string (B mn), pv, lv]] w (RetB (qs.length ≤ 100 ∧ (∀ q ∈ qs, q.1.dflt.length ≤ 100) ∧ fewB ls 600) w) := by
  obtain ⟨A, c, rfl, hc1, hc2, hA⟩ := hP.1.form
  obtain ⟨lA, lc, rfl, _⟩ := hL.form
  have HP := Lib.hid hP
  have HL := Lib.hid hL
  have HPA := Lib.hid hA
  have HQ := Lib.hid hq
  have HLL := Lib.hid hl
  have hc3 : c ≤ 9223372036854775807 := by unfold maxLen at hc2; omega
  have HM0 := Lib.hid (Has.new w (.cells #[.string (B mn), .slice A qs.length c, .slice lA ls.length lc] 49))
  have HWN := Lib.hid ((Nx.refl w).alloc (.cells #[.string (B mn), .slice A qs.length c, .slice lA ls.length lc] 49))
  obtain ⟨W, hW⟩ : ∃ W, w.alloc (.cells #[.string (B mn), .slice A qs.length c, .slice lA ls.length lc] 49) = W := ⟨_, rfl⟩
  have HWE := Lib.hid hW
  rw [hW] at HM0 HWN
  clear hP hL hA hq hl hW
  go_enter Tryd.func34, Tryd.ntmps34
  go_wp2
  rw [HWE.out]
  go_loopw [3, 4] (fun nv iv wr => ∃ (i n : Nat), i ≤ qs.length ∧ iv = .int .i64 i ∧ nv = .int .i64 n ∧ Nx W wr ∧ n ≤ 600000000000000 ∧ qs.length ≤ n ∧ (n ≤ 100 → ∀ q ∈ qs.take i, q.1.dflt.length ≤ 100)) (fun _ iv _ => qs.length - (intOf iv).toNat)
  case atStart => exact ⟨0, qs.length, Nat.zero_le _, rfl, rfl, Nx.refl _, by omega, Nat.le_refl _, fun _ q h => by simp at h⟩
  case round =>
    obtain ⟨i, n, hi, rfl, rfl, hnx, hn, hqn, hall⟩ := hrel
    have HNX := Lib.hid hnx
    have HWX := Lib.hid (HWN.out.trans hnx)
    have HALL := Lib.hid hall
    have hm := HM0.out.nx hnx
    have m1 : wr.cell? ⟨w.heap.size, 1, none⟩ = some (.slice A qs.length c) := hm.cell 1 _ rfl
    have m2 : wr.cell? ⟨w.heap.size, 2, none⟩ = some (.slice lA ls.length lc) := hm.cell 2 _ rfl
    have zm := hm.lt
    clear hnx hall hm
    by_cases hn1 : n ≤ 100
    · have hnI : decide ((n : Int) ≤ 100) = true := decide_eq_true (by omega)
      by_cases hlt : i < qs.length
      · have hiI : decide ((i : Int) < qs.length) = true := decide_eq_true (by omega)
        obtain ⟨⟨⟨nm, hs, df⟩, dv⟩, hq1⟩ : ∃ q, qs[i]? = some q := ⟨_, List.getElem?_eq_getElem hlt⟩
        obtain ⟨g, o, rfl, hPA⟩ : ∃ g o, A = some ⟨g, o, none⟩ ∧ ParAt w g o qs := by
          rcases HPA.out with ⟨_, h, _⟩ | h
          · subst h; cases hq1
          · exact h
        have HTD := Lib.hid (HP.out.2 _ (List.mem_of_getElem? hq1))
        obtain ⟨dA, dc, hdv, _⟩ := HTD.out.form
        dsimp only at hdv HTD
        subst hdv
        have hdl := HQ.out _ (List.mem_of_getElem? hq1)
        dsimp only at hdl
        obtain ⟨a0, a1, a2⟩ := (hPA.nx HWX.out).at_ i _ hq1
        dsimp only at a0 a1 a2
        have y0 := block_lt a0
        have HNEW := Lib.hid (show n + df.length ≤ 100 → ∀ q ∈ qs.take (i + 1), q.1.dflt.length ≤ 100 from fun h q hq2 => by
          rw [take_snoc' _ _ _ hq1] at hq2
          rcases List.mem_append.1 hq2 with h2 | h2
          · exact HALL.out hn1 q h2
          · simp at h2; subst h2; show df.length ≤ 100; omega)
        clear hPA hq1
        go_wp2
        go_roundw
        case rel => exact ⟨i + 1, n + df.length, by omega, by go_num, by go_num, HNX.out, by omega, by omega, HNEW.out⟩
        case measure => simp [intOf]; omega
      · obtain rfl : i = qs.length := by omega
        have hiI : decide ((qs.length : Int) < qs.length) = false := decide_eq_false (by omega)
        have HQA := Lib.hid (show ∀ q ∈ qs, q.1.dflt.length ≤ 100 from fun q hq2 => HALL.out hn1 q (by rw [List.take_length]; exact hq2))
        have HLW := Lib.hid (HL.out.nx (HWX.out.alloc (.cells #[.slice lA ls.length lc] 22)))
        go_wp2_with fail
        refine (light_one _ _ _ ls _ (by simp) HLW.out hl0 HLL.out).mono ?_
        rintro e w2 ⟨b, rfl, hb, hn2⟩
        have HB := Lib.hid hb
        have H2 := Lib.hid ((HWX.out.alloc _).trans hn2)
        clear hb hn2
        go_wp2
        go_ret
        exact ⟨_, rfl, fun h => ⟨by omega, HQA.out, HB.out (by simpa using h)⟩, H2.out⟩
    · have hnI : decide ((n : Int) ≤ 100) = false := decide_eq_false (by omega)
      by_cases hlt : i < qs.length
      · have hiI : decide ((i : Int) < qs.length) = true := decide_eq_true (by omega)
        go_wp2
        go_ret
        exact ⟨_, rfl, fun h => (by simp at h), HWX.out⟩
      · have hiI : decide ((i : Int) < qs.length) = false := decide_eq_false (by omega)
        go_wp2
        go_ret
        exact ⟨_, rfl, fun h => (by simp at h), HWX.out⟩

end Go.Proofs.YtbkgdepblaibkaaDoor

