/- Layer 23, plain: unlike instructions have unlike texts; what a text looks like. -/
import Derived.Test.YtdgmdkkockbkjaaDoorShwa
namespace Go.Proofs.YtdgmdkkockbkjaaDoor
open Go.RowKit
set_option linter.unusedVariables false
set_option linter.unusedSimpArgs false

theorem cut_eq (c : UInt8) : ∀ (a b x y : List UInt8), ¬ c ∈ a → ¬ c ∈ b → a ++ c :: x = b ++ c :: y → a = b ∧ x = y
  | [], [], x, y, _, _, h => ⟨rfl, by injection h⟩
  | [], b :: bs, x, y, _, hb, h => by
    have : c = b := by injection h
    exact absurd (this ▸ List.mem_cons_self) hb
  | a :: ar, [], x, y, ha, _, h => by
    have : a = c := by injection h
    exact absurd (this ▸ List.mem_cons_self) ha
  | a :: ar, b :: bs, x, y, ha, hb, h => by
    have h1 : a = b := by injection h
    have h2 : ar ++ c :: x = bs ++ c :: y := by injection h
    have := cut_eq c ar bs x y (fun e => ha (List.mem_cons_of_mem _ e)) (fun e => hb (List.mem_cons_of_mem _ e)) h2
    exact ⟨by rw [h1, this.1], this.2⟩

theorem cut_no (c : UInt8) (a b x : List UInt8) (hb : ¬ c ∈ b) (h : a ++ c :: x = b) : False := hb (by rw [← h]; simp)

theorem ops_inj : ∀ (k l : List (List UInt8)) (o p : List UInt8), (∀ a ∈ o :: k, ¬ (44 : UInt8) ∈ a) → (∀ a ∈ p :: l, ¬ (44 : UInt8) ∈ a) → o ++ tailJ k = p ++ tailJ l → o = p ∧ k = l
  | [], [], o, p, _, _, h => ⟨by simpa [tailJ] using h, rfl⟩
  | [], b :: l, o, p, ho, _, h => by
    exfalso
    refine cut_no 44 p o (32 :: (b ++ tailJ l)) (ho o List.mem_cons_self) ?_
    simp [tailJ] at h
    exact h.symm
  | a :: k, [], o, p, _, hp, h => by
    exfalso
    refine cut_no 44 o p (32 :: (a ++ tailJ k)) (hp p List.mem_cons_self) ?_
    simp [tailJ] at h
    exact h
  | a :: k, b :: l, o, p, ho, hp, h => by
    have h1 : o ++ 44 :: (32 :: (a ++ tailJ k)) = p ++ 44 :: (32 :: (b ++ tailJ l)) := by simpa [tailJ] using h
    obtain ⟨h2, h3⟩ := cut_eq 44 _ _ _ _ (ho o List.mem_cons_self) (hp p List.mem_cons_self) h1
    have h4 : a ++ tailJ k = b ++ tailJ l := by injection h3
    obtain ⟨h5, h6⟩ := ops_inj k l a b (fun x hx => ho x (List.mem_cons_of_mem _ hx)) (fun x hx => hp x (List.mem_cons_of_mem _ hx)) h4
    exact ⟨h2, by rw [h5, h6]⟩

theorem join_inj (s t : List UInt8) (k l : List (List UInt8)) (hs : ¬ (32 : UInt8) ∈ s) (ht : ¬ (32 : UInt8) ∈ t) (hk : ∀ a ∈ k, ¬ (44 : UInt8) ∈ a) (hl : ∀ a ∈ l, ¬ (44 : UInt8) ∈ a) (h : joinJ s k = joinJ t l) : s = t ∧ k = l := by
  cases k with
  | nil =>
    cases l with
    | nil => exact ⟨h, rfl⟩
    | cons p l => exact (cut_no 32 t s (p ++ tailJ l) hs (by simpa [joinJ] using h.symm)).elim
  | cons o k =>
    cases l with
    | nil => exact (cut_no 32 s t (o ++ tailJ k) ht (by simpa [joinJ] using h)).elim
    | cons p l =>
      have h1 : s ++ 32 :: (o ++ tailJ k) = t ++ 32 :: (p ++ tailJ l) := by simpa [joinJ] using h
      obtain ⟨h2, h3⟩ := cut_eq 32 _ _ _ _ hs ht h1
      obtain ⟨h4, h5⟩ := ops_inj k l o p hk hl h3
      exact ⟨h2, by rw [h4, h5]⟩

/-- What two operands of a letter have in common, if they look alike. -/
def fEq (c : UInt8) (i j : In5) : Prop :=
  if c = 100 then i.rd = j.rd else if c = 120 then i.rd = j.rd else if c = 115 then i.rs1 = j.rs1 else if c = 116 then i.rs2 = j.rs2
  else if c = 117 then i.imm % 4294967296 / 4096 = j.imm % 4294967296 / 4096 else if c = 109 then i.imm = j.imm ∧ i.rs1 = j.rs1 else i.imm = j.imm

/-- Its registers are registers. -/
def rgs (i : In5) : Prop := (0 ≤ i.rd ∧ i.rd ≤ 31) ∧ (0 ≤ i.rs1 ∧ i.rs1 ≤ 31) ∧ (0 ≤ i.rs2 ∧ i.rs2 ≤ 31)

theorem may_rgs (i : In5) (h : mayB i.op i.rd i.rs1 i.rs2 i.imm = true) : rgs i := by
  have hr : ∀ n b, regB n b = true → 0 ≤ n ∧ n ≤ 31 := by
    intro n b h
    unfold regB at h
    split at h
    · simpa using h
    · have : n = 0 := by simpa using h
      omega
  unfold mayB at h
  simp only [Bool.and_eq_true] at h
  exact ⟨hr _ _ h.2.1, hr _ _ h.2.2.1, hr _ _ h.2.2.2.1⟩

theorem opnd_inj (c : UInt8) (i j : In5) (hi : rgs i) (hj : rgs j) (h : opnd c i = opnd c j) : fEq c i j := by
  obtain ⟨⟨a1, a2⟩, ⟨a3, a4⟩, a5, a6⟩ := hi
  obtain ⟨⟨b1, b2⟩, ⟨b3, b4⟩, b5, b6⟩ := hj
  have n40 : ∀ n, ¬ (40 : UInt8) ∈ Lib.itoa n := by
    intro n hn
    rcases itoa_nu n _ hn with h | h
    · revert h; decide
    · revert h; decide
  have n43 : ∀ n x, Lib.itoa n = 43 :: x → False := by
    intro n x hn
    rcases itoa_nu n 43 (by rw [hn]; exact List.mem_cons_self) with h | h
    · revert h; decide
    · revert h; decide
  unfold opnd at h
  unfold fEq
  split at h
  · rename_i e; rw [if_pos e]; exact regNP_inj _ _ a1 a2 b1 b2 h
  rename_i e0; rw [if_neg e0]
  split at h
  · rename_i e; rw [if_pos e]; exact regNP_inj _ _ a1 a2 b1 b2 h
  rename_i e1; rw [if_neg e1]
  split at h
  · rename_i e; rw [if_pos e]; exact regNP_inj _ _ a3 a4 b3 b4 h
  rename_i e2; rw [if_neg e2]
  split at h
  · rename_i e; rw [if_pos e]; exact regNP_inj _ _ a5 a6 b5 b6 h
  rename_i e3; rw [if_neg e3]
  split at h
  · rename_i e; rw [if_pos e]; exact itoa_inj _ _ h
  rename_i e4; rw [if_neg e4]
  split at h
  · rename_i e; rw [if_pos e]
    obtain ⟨h1, h2⟩ := cut_eq 40 _ _ _ _ (n40 _) (n40 _) h
    have h2' : regNP i.rs1 ++ [41] = regNP j.rs1 ++ [41] := h2
    have h3 := (List.append_inj' h2' rfl).1
    exact ⟨itoa_inj _ _ h1, regNP_inj _ _ a3 a4 b3 b4 h3⟩
  rename_i e5; rw [if_neg e5]
  split at h
  · have h1 := List.append_cancel_left h
    split at h1 <;> split at h1
    · exact itoa_inj _ _ (List.append_cancel_left h1)
    · exact (n43 _ _ h1.symm).elim
    · exact (n43 _ _ h1).elim
    · exact itoa_inj _ _ h1
  · exact itoa_inj _ _ h

theorem in5_ext (i j : In5) (h1 : i.op = j.op) (h2 : i.rd = j.rd) (h3 : i.rs1 = j.rs1) (h4 : i.rs2 = j.rs2) (h5 : i.imm = j.imm) : i = j := by
  cases i; cases j; simp only at *; subst h1 h2 h3 h4 h5; rfl

theorem map_fEq (l : List UInt8) (i j : In5) (hi : rgs i) (hj : rgs j) (h : (l.map fun c => opnd c i) = l.map fun c => opnd c j) : ∀ c ∈ l, fEq c i j := by
  intro c hc
  exact opnd_inj c i j hi hj (List.map_inj_left.1 h c hc)

theorem apart_op (i j : In5) (bi : -2147483648 ≤ i.imm ∧ i.imm ≤ 2147483647) (bj : -2147483648 ≤ j.imm ∧ j.imm ≤ 2147483647) (ho : i.op = j.op)
    (hi : mayB i.op i.rd i.rs1 i.rs2 i.imm = true) (hj : mayB j.op j.rd j.rs1 j.rs2 j.imm = true) (h : ∀ c ∈ letF (formN i.op), fEq c i j) : i = j := by
  rw [← ho] at hj
  refine in5_ext i j ho ?_ ?_ ?_ ?_
  all_goals
    rcases formN_range i.op with hf | hf | hf | hf | hf | hf | hf | hf | hf | hf <;>
      simp [mayB, hf, needD, needS, needT, regB, numB] at hi hj <;> simp [hf, letF, fEq] at h <;> omega

set_option maxHeartbeats 4000000 in
theorem apart_row (n : Nat) (r : PR) (hr : rowsL[n]? = some r) (i j : In5) (bi : -2147483648 ≤ i.imm ∧ i.imm ≤ 2147483647) (bj : -2147483648 ≤ j.imm ∧ j.imm ≤ 2147483647)
    (hi : fitsB r i.op i.rd i.rs1 i.rs2 i.imm = true) (hj : fitsB r j.op j.rd j.rs1 j.rs2 j.imm = true) (h : ∀ c ∈ letSL.getD n [], fEq c i j) : i = j := by
  have hn : n < 27 := (List.getElem?_eq_some_iff.1 hr).1
  have fin : ∀ (op rd rs1 rs2 : Int), True := fun _ _ _ _ => trivial
  unfold fitsB at hi hj
  simp only [Bool.and_eq_true, beq_iff_eq, decide_eq_true_eq] at hi hj
  obtain ⟨i1, _, i3, i4, i5, i6, i7, i8, i9⟩ := hi
  obtain ⟨j1, _, j3, j4, j5, j6, j7, j8, j9⟩ := hj
  rcases (by omega : n = 0 ∨ n = 1 ∨ n = 2 ∨ n = 3 ∨ n = 4 ∨ n = 5 ∨ n = 6 ∨ n = 7 ∨ n = 8 ∨ n = 9 ∨ n = 10 ∨ n = 11 ∨ n = 12 ∨ n = 13 ∨ n = 14 ∨ n = 15 ∨ n = 16 ∨ n = 17 ∨ n = 18 ∨ n = 19 ∨ n = 20 ∨ n = 21 ∨ n = 22 ∨ n = 23 ∨ n = 24 ∨ n = 25 ∨ n = 26) with rfl | rfl | rfl | rfl | rfl | rfl | rfl | rfl | rfl | rfl | rfl | rfl | rfl | rfl | rfl | rfl | rfl | rfl | rfl | rfl | rfl | rfl | rfl | rfl | rfl | rfl | rfl
  all_goals
    cases hr
    simp [kindB] at i3 i4 i5 j3 j4 j5
    simp [letSL, fEq] at h
    simp only at i1 j1 i6 i7 i8 i9 j6 j7 j8 j9
    exact in5_ext i j (by omega) (by omega) (by omega) (by omega) (by omega)

theorem fitS_at (s : List UInt8) (op rd rs1 rs2 imm : Int) (h : fitS (B s) op rd rs1 rs2 imm = true) : ∃ (n : Nat) (r : PR), rowsL[n]? = some r ∧ r.name = s ∧ fitsB r op rd rs1 rs2 imm = true := by
  unfold fitS findR at h
  cases hf : findP (B s) with
  | none => rw [hf] at h; cases h
  | some r =>
    rw [hf] at h
    obtain ⟨e, n, hn⟩ := findP_at _ _ hf
    refine ⟨n, r, hn, ?_, by simpa using h⟩
    rw [e, ByteArray.toList_eq]

theorem row_unique (n m : Nat) (r q : PR) (hr : rowsL[n]? = some r) (hq : rowsL[m]? = some q) (h : r.name = q.name) : n = m ∧ r = q := by
  have h1 := (name_at n r hr).2
  have h2 := (name_at m q hq).2
  rw [h, h2] at h1
  subst h1
  rw [hr] at hq
  cases hq
  exact ⟨rfl, rfl⟩

theorem okT_may (i : In5) (s : List UInt8) (h : okT i s = true) : mayB i.op i.rd i.rs1 i.rs2 i.imm = true := by
  unfold okT at h
  simp only [Bool.and_eq_true] at h
  exact h.1

theorem may_op (i : In5) (h : mayB i.op i.rd i.rs1 i.rs2 i.imm = true) : 1 ≤ i.op ∧ i.op ≤ 48 := by
  rcases Int.lt_or_le i.op 1 with h1 | h1
  · have e := formN_far i.op (Or.inl h1)
    simp [mayB, e] at h
  · rcases Int.lt_or_le 48 i.op with h2 | h2
    · have e := formN_far i.op (Or.inr h2)
      simp [mayB, e] at h
    · exact ⟨h1, h2⟩

theorem nmT_opC (i : In5) (s : List UInt8) (h : okT i s = true) : (∀ c ∈ nmT i s, opC c = true) ∧ (nmT i s).length ≤ 10 := by
  obtain ⟨o1, o2⟩ := may_op i (okT_may i s h)
  unfold nmT
  split
  · unfold nameP
    rw [if_neg (by omega)]
    have := nmB_opC _ (List.mem_of_getElem? (nmB_at i.op.toNat (by omega)))
    exact ⟨this.1, by omega⟩
  · rename_i hs
    unfold okT at h
    simp only [Bool.and_eq_true, Bool.or_eq_true, beq_iff_eq] at h
    rcases h.2 with h2 | h2
    · exact absurd h2 hs
    · obtain ⟨n, r, hr, e, _⟩ := fitS_at _ _ _ _ _ _ h2
      have : s ∈ shB := by rw [← e, ← names_rows]; exact List.mem_map.2 ⟨r, List.mem_of_getElem? hr, rfl⟩
      have := shB_opC _ this
      exact ⟨this.1, this.2.1⟩

theorem nmB_inj : ∀ a < 49, ∀ b < 49, nmB.getD a [] = nmB.getD b [] → a = b := by decide +kernel

theorem nmB_ne : ∀ a < 49, 1 ≤ a → nmB.getD a [] ≠ [] := by decide

theorem text_apart (i j : In5) (s : List UInt8) (bi : -2147483648 ≤ i.imm ∧ i.imm ≤ 2147483647) (bj : -2147483648 ≤ j.imm ∧ j.imm ≤ 2147483647) (hs : textP i s ≠ []) (h : textP i s = textP j s) : i = j := by
  have o1 : okT i s = true := by
    unfold textP at hs
    split at hs
    · assumption
    · exact absurd rfl hs
  have o2 : okT j s = true := by
    rw [h] at hs
    unfold textP at hs
    split at hs
    · assumption
    · exact absurd rfl hs
  unfold textP at h
  rw [if_pos o1, if_pos o2] at h
  have k1 := opC_no _ (nmT_opC i s o1).1
  have k2 := opC_no _ (nmT_opC j s o2).1
  have k3 : ∀ i : In5, ∀ a ∈ opsT i s, ¬ (44 : UInt8) ∈ a := by
    intro i a ha
    obtain ⟨c, _, rfl⟩ := List.mem_map.1 ha
    exact (opC_no _ (opnd_opC c i)).2
  obtain ⟨h1, h2⟩ := join_inj _ _ _ _ k1.1 k2.1 (k3 i) (k3 j) h
  have m1 := okT_may i s o1
  have m2 := okT_may j s o2
  obtain ⟨p1, p2⟩ := may_op i m1
  obtain ⟨p3, p4⟩ := may_op j m2
  by_cases he : s = []
  · subst he
    have h3 : nameP i.op = nameP j.op := h1
    unfold nameP at h3
    rw [if_neg (by omega), if_neg (by omega)] at h3
    have := nmB_inj _ (by omega) _ (by omega) h3
    have ho : i.op = j.op := by omega
    have h4 : (letF (formN i.op)).map (fun c => opnd c i) = (letF (formN j.op)).map (fun c => opnd c j) := h2
    rw [← ho] at h4
    exact apart_op i j bi bj ho m1 m2 (map_fEq _ i j (may_rgs i m1) (may_rgs j m2) h4)
  · unfold okT at o1 o2
    simp only [Bool.and_eq_true, Bool.or_eq_true, beq_iff_eq] at o1 o2
    obtain ⟨n, r, hr, e, hf⟩ := fitS_at _ _ _ _ _ _ (o1.2.resolve_left he)
    obtain ⟨m, q, hq, e', hf'⟩ := fitS_at _ _ _ _ _ _ (o2.2.resolve_left he)
    obtain ⟨rfl, rfl⟩ := row_unique n m r q hr hq (e.trans e'.symm)
    have h4 : (letS s).map (fun c => opnd c i) = (letS s).map (fun c => opnd c j) := by
      unfold opsT lsT at h2
      rw [if_neg he, if_neg he] at h2
      exact h2
    have h5 : letS s = letSL.getD n [] := by unfold letS; rw [← e, (name_at n r hr).2]
    rw [h5] at h4
    exact apart_row n r hr i j bi bj hf hf' (map_fEq _ i j (may_rgs i m1) (may_rgs j m2) h4)

theorem text_short (i : In5) (s : List UInt8) (hs : s ∈ shB) (h : textP i s ≠ []) : textP i s ≠ textP i [] := by
  have hd := (shB_opC s hs).2.2
  have he : s ≠ [] := by rintro rfl; cases hd
  have o1 : okT i s = true := by
    unfold textP at h
    split at h
    · assumption
    · exact absurd rfl h
  have m1 := okT_may i s o1
  obtain ⟨p1, p2⟩ := may_op i m1
  have o2 : okT i [] = true := by unfold okT; rw [m1]; rfl
  intro h1
  unfold textP at h1
  rw [if_pos o1, if_pos o2] at h1
  have k1 := opC_no _ (nmT_opC i s o1).1
  have k2 := opC_no _ (nmT_opC i [] o2).1
  have k3 : ∀ s, ∀ a ∈ opsT i s, ¬ (44 : UInt8) ∈ a := by
    intro s a ha
    obtain ⟨c, _, rfl⟩ := List.mem_map.1 ha
    exact (opC_no _ (opnd_opC c i)).2
  have h2 := (join_inj _ _ _ _ k1.1 k2.1 (k3 s) (k3 []) h1).1
  have h3 : s = nameP i.op := by unfold nmT at h2; rw [if_neg he, if_pos rfl] at h2; exact h2
  unfold nameP at h3
  rw [if_neg (by omega)] at h3
  exact (nmB_opC _ (List.mem_of_getElem? (nmB_at i.op.toNat (by omega)))).2.2 (h3 ▸ hd)

theorem tailJ_mem : ∀ (l : List (List UInt8)), (∀ o ∈ l, ∀ c ∈ o, opC c = true) → (∀ c ∈ tailJ l, (opC c || c == 32 || c == 44) = true) ∧ (tailJ l).count 44 = l.length
  | [], _ => ⟨(fun c h => (List.not_mem_nil h).elim), rfl⟩
  | o :: l, h => by
    obtain ⟨h1, h2⟩ := tailJ_mem l (fun p hp => h p (List.mem_cons_of_mem _ hp))
    have ho := h o List.mem_cons_self
    have hc : o.count 44 = 0 := List.count_eq_zero.2 (opC_no o ho).2
    refine ⟨?_, ?_⟩
    · intro c hc
      simp only [tailJ, List.mem_append, List.mem_cons, List.not_mem_nil, or_false] at hc
      rcases hc with ((h | h) | h) | h
      · subst h; decide
      · subst h; decide
      · rw [ho c h]; rfl
      · exact h1 c h
    · simp [tailJ, List.count_cons, List.count_append, hc, h2]

theorem lsT_len (i : In5) (s : List UInt8) : (lsT i s).length ≤ 3 := by
  unfold lsT
  split
  · unfold letF
    repeat' split
    all_goals decide
  · unfold letS
    have h : ∀ l ∈ letSL, l.length ≤ 3 := by decide
    rw [List.getD_eq_getElem?_getD]
    cases he : letSL[shB.idxOf s]? with
    | none => exact Nat.zero_le _
    | some l => exact h l (List.mem_of_getElem? he)

theorem text_looks (i : In5) (s : List UInt8) (h : okT i s = true) : (∃ r, textP i s = nmT i s ++ r) ∧ (∀ c ∈ textP i s, (opC c || c == 32 || c == 44) = true) ∧ (textP i s).count 44 ≤ 2 := by
  have hn := (nmT_opC i s h).1
  have hl := lsT_len i s
  have hz : (nmT i s).count 44 = 0 := List.count_eq_zero.2 (opC_no _ hn).2
  have ho : ∀ o ∈ opsT i s, ∀ c ∈ o, opC c = true := by
    intro o ho
    obtain ⟨c, _, rfl⟩ := List.mem_map.1 ho
    exact opnd_opC c i
  have hlen : (opsT i s).length ≤ 3 := by unfold opsT; rw [List.length_map]; exact hl
  unfold textP
  rw [if_pos h]
  cases he : opsT i s with
  | nil =>
    refine ⟨⟨[], by simp [joinJ]⟩, ?_, ?_⟩
    · intro c hc
      rw [hn c hc]; rfl
    · show (nmT i s).count 44 ≤ 2
      omega
  | cons o r =>
    rw [he] at ho hlen
    obtain ⟨h1, h2⟩ := tailJ_mem r (fun p hp => ho p (List.mem_cons_of_mem _ hp))
    have h3 := ho o List.mem_cons_self
    have h4 : o.count 44 = 0 := List.count_eq_zero.2 (opC_no o h3).2
    refine ⟨⟨[32] ++ o ++ tailJ r, by simp [joinJ]⟩, ?_, ?_⟩
    · intro c hc
      simp only [joinJ, List.mem_append, List.mem_cons, List.not_mem_nil, or_false] at hc
      rcases hc with ((h | h) | h) | h
      · rw [hn c h]; rfl
      · subst h; decide
      · rw [h3 c h]; rfl
      · exact h1 c h
    · simp only [joinJ, List.count_append, h2, h4, hz]
      simp at hlen ⊢
      omega

end Go.Proofs.YtdgmdkkockbkjaaDoor
