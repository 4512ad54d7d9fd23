/- Parts of the proof, one behind the other. -/
import Derived.Test.YtdgmdkkockbkjaaGreatDoorRows
import Derived.Test.YtdgmdkkockbkjaaGreatDoorDec
import Derived.ProofKit
import Derived.OpenShut
import Derived.Lib.SmallJoins
import Derived.Test.YtdgmdkkockbkjaaGreatDoorShwa
import Derived.Test.YtdgmdkkockbkjaaGreatDoorFrame
/- An instruction that is handed over by value: its parts. -/
namespace Go.Proofs.YtdgmdkkockbkjaaGreatDoor
open Go.ChangeShapes Go.WideShapes Go.ChangeAt Go.RowKit Go.Joins
set_option linter.unusedVariables false
set_option linter.unusedSimpArgs false

theorem one_int : Tryz.prog.cellsOf 3 = 1 := by kernel_rfl

theorem one_i32 : Tryz.prog.cellsOf 21 = 1 := by kernel_rfl

theorem five_ins : Tryz.prog.cellsOf 23 = 5 := by kernel_rfl

set_option maxRecDepth 100000 in
theorem open_ins {H : Type} {enc : TypeId × Value → H} {W : World} {base b0 : Nat} {r : Reach} {spare : Nat → Bool} {held : Bool} {v : Value} {d : DataW H} {p : List MemPlace}
    (hv : Value.okWide Tryz.prog W r b0 23 v) (h : DataW.Trod enc Tryz.prog W base spare held 23 v d p) :
    ∃ i : In5, v = .agg #[.int .i64 i.op, .int .i64 i.rd, .int .i64 i.rs1, .int .i64 i.rs2, .int .i32 i.imm] ∧ -2147483648 ≤ i.imm ∧ i.imm ≤ 2147483647 := by
  obtain ⟨cs, rfl, hsz⟩ := okWide_struct Tryz.underlying23 hv
  obtain ⟨l⟩ := cs
  match l, hsz.trans five_ins with
  | [c0, c1, c2, c3, c4], _ =>
    obtain ⟨fuel, hf⟩ := h
    obtain ⟨xs, n, _, hx, _, hlen, hg⟩ := DataW.trod_struct Tryz.underlying23 hf
    match xs, hlen with
    | [y0, y1, y2, y3, y4], _ =>
      have g0 := hg 0 _ rfl
      have g1 := hg 1 _ rfl
      have g2 := hg 2 _ rfl
      have g3 := hg 3 _ rfl
      have g4 := hg 4 _ rfl
      simp [Value.cells, one_int, one_i32] at g0 g1 g2 g3 g4
      obtain ⟨a0, e0, _, _⟩ := DataW.trod_int Tryz.underlying3 g0
      obtain ⟨a1, e1, _, _⟩ := DataW.trod_int Tryz.underlying3 g1
      obtain ⟨a2, e2, _, _⟩ := DataW.trod_int Tryz.underlying3 g2
      obtain ⟨a3, e3, _, _⟩ := DataW.trod_int Tryz.underlying3 g3
      obtain ⟨a4, e4, _, w4⟩ := DataW.trod_int Tryz.underlying21 g4
      simp only [List.cons.injEq, and_true] at e0 e1 e2 e3 e4
      subst e0 e1 e2 e3 e4
      obtain ⟨b1, b2⟩ := bounds_i32 w4
      exact ⟨⟨a0, a1, a2, a3, a4⟩, rfl, b1, b2⟩

end Go.Proofs.YtdgmdkkockbkjaaGreatDoor

/- Layer 23, plain: unlike instructions have unlike texts; what a text looks like. -/
namespace Go.Proofs.YtdgmdkkockbkjaaGreatDoor
open Go.RowKit
set_option linter.unusedVariables false
set_option linter.unusedSimpArgs false

theorem cut_eq (c : UInt8) : ∀ (a b x y : List UInt8), ¬ c ∈ a → ¬ c ∈ b → a ++ c :: x = b ++ c :: y → a = b ∧ x = y
  | [], [], x, y, _, _, h => ⟨rfl, by injection h⟩
  | [], b :: bs, x, y, _, hb, h => by
    have : c = b := by injection h
    exact absurd (this ▸ List.mem_cons_self) hb
  | a :: ar, [], x, y, ha, _, h => by
    have : a = c := by injection h
    exact absurd (this ▸ List.mem_cons_self) ha
  | a :: ar, b :: bs, x, y, ha, hb, h => by
    have h1 : a = b := by injection h
    have h2 : ar ++ c :: x = bs ++ c :: y := by injection h
    have := cut_eq c ar bs x y (fun e => ha (List.mem_cons_of_mem _ e)) (fun e => hb (List.mem_cons_of_mem _ e)) h2
    exact ⟨by rw [h1, this.1], this.2⟩

theorem cut_no (c : UInt8) (a b x : List UInt8) (hb : ¬ c ∈ b) (h : a ++ c :: x = b) : False := hb (by rw [← h]; simp)

theorem ops_inj : ∀ (k l : List (List UInt8)) (o p : List UInt8), (∀ a ∈ o :: k, ¬ (44 : UInt8) ∈ a) → (∀ a ∈ p :: l, ¬ (44 : UInt8) ∈ a) → o ++ tailJ k = p ++ tailJ l → o = p ∧ k = l
  | [], [], o, p, _, _, h => ⟨by simpa [tailJ] using h, rfl⟩
  | [], b :: l, o, p, ho, _, h => by
    exfalso
    refine cut_no 44 p o (32 :: (b ++ tailJ l)) (ho o List.mem_cons_self) ?_
    simp [tailJ] at h
    exact h.symm
  | a :: k, [], o, p, _, hp, h => by
    exfalso
    refine cut_no 44 o p (32 :: (a ++ tailJ k)) (hp p List.mem_cons_self) ?_
    simp [tailJ] at h
    exact h
  | a :: k, b :: l, o, p, ho, hp, h => by
    have h1 : o ++ 44 :: (32 :: (a ++ tailJ k)) = p ++ 44 :: (32 :: (b ++ tailJ l)) := by simpa [tailJ] using h
    obtain ⟨h2, h3⟩ := cut_eq 44 _ _ _ _ (ho o List.mem_cons_self) (hp p List.mem_cons_self) h1
    have h4 : a ++ tailJ k = b ++ tailJ l := by injection h3
    obtain ⟨h5, h6⟩ := ops_inj k l a b (fun x hx => ho x (List.mem_cons_of_mem _ hx)) (fun x hx => hp x (List.mem_cons_of_mem _ hx)) h4
    exact ⟨h2, by rw [h5, h6]⟩

theorem join_inj (s t : List UInt8) (k l : List (List UInt8)) (hs : ¬ (32 : UInt8) ∈ s) (ht : ¬ (32 : UInt8) ∈ t) (hk : ∀ a ∈ k, ¬ (44 : UInt8) ∈ a) (hl : ∀ a ∈ l, ¬ (44 : UInt8) ∈ a) (h : joinJ s k = joinJ t l) : s = t ∧ k = l := by
  cases k with
  | nil =>
    cases l with
    | nil => exact ⟨h, rfl⟩
    | cons p l => exact (cut_no 32 t s (p ++ tailJ l) hs (by simpa [joinJ] using h.symm)).elim
  | cons o k =>
    cases l with
    | nil => exact (cut_no 32 s t (o ++ tailJ k) ht (by simpa [joinJ] using h)).elim
    | cons p l =>
      have h1 : s ++ 32 :: (o ++ tailJ k) = t ++ 32 :: (p ++ tailJ l) := by simpa [joinJ] using h
      obtain ⟨h2, h3⟩ := cut_eq 32 _ _ _ _ hs ht h1
      obtain ⟨h4, h5⟩ := ops_inj k l o p hk hl h3
      exact ⟨h2, by rw [h4, h5]⟩

/-- What two operands of a letter have in common, if they look alike. -/
def fEq (c : UInt8) (i j : In5) : Prop :=
  if c = 100 then i.rd = j.rd else if c = 120 then i.rd = j.rd else if c = 115 then i.rs1 = j.rs1 else if c = 116 then i.rs2 = j.rs2
  else if c = 117 then i.imm % 4294967296 / 4096 = j.imm % 4294967296 / 4096 else if c = 109 then i.imm = j.imm ∧ i.rs1 = j.rs1 else i.imm = j.imm

/-- Its registers are registers. -/
def rgs (i : In5) : Prop := (0 ≤ i.rd ∧ i.rd ≤ 31) ∧ (0 ≤ i.rs1 ∧ i.rs1 ≤ 31) ∧ (0 ≤ i.rs2 ∧ i.rs2 ≤ 31)

theorem may_rgs (i : In5) (h : mayB i.op i.rd i.rs1 i.rs2 i.imm = true) : rgs i := by
  have hr : ∀ n b, regB n b = true → 0 ≤ n ∧ n ≤ 31 := by
    intro n b h
    unfold regB at h
    split at h
    · simpa using h
    · have : n = 0 := by simpa using h
      omega
  unfold mayB at h
  simp only [Bool.and_eq_true] at h
  exact ⟨hr _ _ h.2.1, hr _ _ h.2.2.1, hr _ _ h.2.2.2.1⟩

theorem opnd_inj (c : UInt8) (i j : In5) (hi : rgs i) (hj : rgs j) (h : opnd c i = opnd c j) : fEq c i j := by
  obtain ⟨⟨a1, a2⟩, ⟨a3, a4⟩, a5, a6⟩ := hi
  obtain ⟨⟨b1, b2⟩, ⟨b3, b4⟩, b5, b6⟩ := hj
  have n40 : ∀ n, ¬ (40 : UInt8) ∈ Lib.itoa n := by
    intro n hn
    rcases itoa_nu n _ hn with h | h
    · revert h; decide
    · revert h; decide
  have n43 : ∀ n x, Lib.itoa n = 43 :: x → False := by
    intro n x hn
    rcases itoa_nu n 43 (by rw [hn]; exact List.mem_cons_self) with h | h
    · revert h; decide
    · revert h; decide
  unfold opnd at h
  unfold fEq
  split at h
  · rename_i e; rw [if_pos e]; exact regNP_inj _ _ a1 a2 b1 b2 h
  rename_i e0; rw [if_neg e0]
  split at h
  · rename_i e; rw [if_pos e]; exact regNP_inj _ _ a1 a2 b1 b2 h
  rename_i e1; rw [if_neg e1]
  split at h
  · rename_i e; rw [if_pos e]; exact regNP_inj _ _ a3 a4 b3 b4 h
  rename_i e2; rw [if_neg e2]
  split at h
  · rename_i e; rw [if_pos e]; exact regNP_inj _ _ a5 a6 b5 b6 h
  rename_i e3; rw [if_neg e3]
  split at h
  · rename_i e; rw [if_pos e]; exact itoa_inj _ _ h
  rename_i e4; rw [if_neg e4]
  split at h
  · rename_i e; rw [if_pos e]
    obtain ⟨h1, h2⟩ := cut_eq 40 _ _ _ _ (n40 _) (n40 _) h
    have h2' : regNP i.rs1 ++ [41] = regNP j.rs1 ++ [41] := h2
    have h3 := (List.append_inj' h2' rfl).1
    exact ⟨itoa_inj _ _ h1, regNP_inj _ _ a3 a4 b3 b4 h3⟩
  rename_i e5; rw [if_neg e5]
  split at h
  · have h1 := List.append_cancel_left h
    split at h1 <;> split at h1
    · exact itoa_inj _ _ (List.append_cancel_left h1)
    · exact (n43 _ _ h1.symm).elim
    · exact (n43 _ _ h1).elim
    · exact itoa_inj _ _ h1
  · exact itoa_inj _ _ h

theorem in5_ext (i j : In5) (h1 : i.op = j.op) (h2 : i.rd = j.rd) (h3 : i.rs1 = j.rs1) (h4 : i.rs2 = j.rs2) (h5 : i.imm = j.imm) : i = j := by
  cases i; cases j; simp only at *; subst h1 h2 h3 h4 h5; rfl

theorem map_fEq (l : List UInt8) (i j : In5) (hi : rgs i) (hj : rgs j) (h : (l.map fun c => opnd c i) = l.map fun c => opnd c j) : ∀ c ∈ l, fEq c i j := by
  intro c hc
  exact opnd_inj c i j hi hj (List.map_inj_left.1 h c hc)

theorem apart_op (i j : In5) (bi : -2147483648 ≤ i.imm ∧ i.imm ≤ 2147483647) (bj : -2147483648 ≤ j.imm ∧ j.imm ≤ 2147483647) (ho : i.op = j.op)
    (hi : mayB i.op i.rd i.rs1 i.rs2 i.imm = true) (hj : mayB j.op j.rd j.rs1 j.rs2 j.imm = true) (h : ∀ c ∈ letF (formN i.op), fEq c i j) : i = j := by
  rw [← ho] at hj
  refine in5_ext i j ho ?_ ?_ ?_ ?_
  all_goals
    rcases formN_range i.op with hf | hf | hf | hf | hf | hf | hf | hf | hf | hf <;>
      simp [mayB, hf, needD, needS, needT, regB, numB] at hi hj <;> simp [hf, letF, fEq] at h <;> omega

set_option maxHeartbeats 4000000 in
theorem apart_row (n : Nat) (r : PR) (hr : rowsL[n]? = some r) (i j : In5) (bi : -2147483648 ≤ i.imm ∧ i.imm ≤ 2147483647) (bj : -2147483648 ≤ j.imm ∧ j.imm ≤ 2147483647)
    (hi : fitsB r i.op i.rd i.rs1 i.rs2 i.imm = true) (hj : fitsB r j.op j.rd j.rs1 j.rs2 j.imm = true) (h : ∀ c ∈ letSL.getD n [], fEq c i j) : i = j := by
  have hn : n < 27 := (List.getElem?_eq_some_iff.1 hr).1
  have fin : ∀ (op rd rs1 rs2 : Int), True := fun _ _ _ _ => trivial
  unfold fitsB at hi hj
  simp only [Bool.and_eq_true, beq_iff_eq, decide_eq_true_eq] at hi hj
  obtain ⟨i1, _, i3, i4, i5, i6, i7, i8, i9⟩ := hi
  obtain ⟨j1, _, j3, j4, j5, j6, j7, j8, j9⟩ := hj
  rcases (by omega : n = 0 ∨ n = 1 ∨ n = 2 ∨ n = 3 ∨ n = 4 ∨ n = 5 ∨ n = 6 ∨ n = 7 ∨ n = 8 ∨ n = 9 ∨ n = 10 ∨ n = 11 ∨ n = 12 ∨ n = 13 ∨ n = 14 ∨ n = 15 ∨ n = 16 ∨ n = 17 ∨ n = 18 ∨ n = 19 ∨ n = 20 ∨ n = 21 ∨ n = 22 ∨ n = 23 ∨ n = 24 ∨ n = 25 ∨ n = 26) with rfl | rfl | rfl | rfl | rfl | rfl | rfl | rfl | rfl | rfl | rfl | rfl | rfl | rfl | rfl | rfl | rfl | rfl | rfl | rfl | rfl | rfl | rfl | rfl | rfl | rfl | rfl
  all_goals
    cases hr
    simp [kindB] at i3 i4 i5 j3 j4 j5
    simp [letSL, fEq] at h
    simp only at i1 j1 i6 i7 i8 i9 j6 j7 j8 j9
    exact in5_ext i j (by omega) (by omega) (by omega) (by omega) (by omega)

theorem fitS_at (s : List UInt8) (op rd rs1 rs2 imm : Int) (h : fitS (B s) op rd rs1 rs2 imm = true) : ∃ (n : Nat) (r : PR), rowsL[n]? = some r ∧ r.name = s ∧ fitsB r op rd rs1 rs2 imm = true := by
  unfold fitS findR at h
  cases hf : findP (B s) with
  | none => rw [hf] at h; cases h
  | some r =>
    rw [hf] at h
    obtain ⟨e, n, hn⟩ := findP_at _ _ hf
    refine ⟨n, r, hn, ?_, by simpa using h⟩
    rw [e, ByteArray.toList_eq]

theorem row_unique (n m : Nat) (r q : PR) (hr : rowsL[n]? = some r) (hq : rowsL[m]? = some q) (h : r.name = q.name) : n = m ∧ r = q := by
  have h1 := (name_at n r hr).2
  have h2 := (name_at m q hq).2
  rw [h, h2] at h1
  subst h1
  rw [hr] at hq
  cases hq
  exact ⟨rfl, rfl⟩

theorem okT_may (i : In5) (s : List UInt8) (h : okT i s = true) : mayB i.op i.rd i.rs1 i.rs2 i.imm = true := by
  unfold okT at h
  simp only [Bool.and_eq_true] at h
  exact h.1

theorem may_op (i : In5) (h : mayB i.op i.rd i.rs1 i.rs2 i.imm = true) : 1 ≤ i.op ∧ i.op ≤ 48 := by
  rcases Int.lt_or_le i.op 1 with h1 | h1
  · have e := formN_far i.op (Or.inl h1)
    simp [mayB, e] at h
  · rcases Int.lt_or_le 48 i.op with h2 | h2
    · have e := formN_far i.op (Or.inr h2)
      simp [mayB, e] at h
    · exact ⟨h1, h2⟩

theorem nmT_opC (i : In5) (s : List UInt8) (h : okT i s = true) : (∀ c ∈ nmT i s, opC c = true) ∧ (nmT i s).length ≤ 10 := by
  obtain ⟨o1, o2⟩ := may_op i (okT_may i s h)
  unfold nmT
  split
  · unfold nameP
    rw [if_neg (by omega)]
    have := nmB_opC _ (List.mem_of_getElem? (nmB_at i.op.toNat (by omega)))
    exact ⟨this.1, by omega⟩
  · rename_i hs
    unfold okT at h
    simp only [Bool.and_eq_true, Bool.or_eq_true, beq_iff_eq] at h
    rcases h.2 with h2 | h2
    · exact absurd h2 hs
    · obtain ⟨n, r, hr, e, _⟩ := fitS_at _ _ _ _ _ _ h2
      have : s ∈ shB := by rw [← e, ← names_rows]; exact List.mem_map.2 ⟨r, List.mem_of_getElem? hr, rfl⟩
      have := shB_opC _ this
      exact ⟨this.1, this.2.1⟩

theorem nmB_inj : ∀ a < 49, ∀ b < 49, nmB.getD a [] = nmB.getD b [] → a = b := by decide +kernel

theorem nmB_ne : ∀ a < 49, 1 ≤ a → nmB.getD a [] ≠ [] := by decide

theorem text_apart (i j : In5) (s : List UInt8) (bi : -2147483648 ≤ i.imm ∧ i.imm ≤ 2147483647) (bj : -2147483648 ≤ j.imm ∧ j.imm ≤ 2147483647) (hs : textP i s ≠ []) (h : textP i s = textP j s) : i = j := by
  have o1 : okT i s = true := by
    unfold textP at hs
    split at hs
    · assumption
    · exact absurd rfl hs
  have o2 : okT j s = true := by
    rw [h] at hs
    unfold textP at hs
    split at hs
    · assumption
    · exact absurd rfl hs
  unfold textP at h
  rw [if_pos o1, if_pos o2] at h
  have k1 := opC_no _ (nmT_opC i s o1).1
  have k2 := opC_no _ (nmT_opC j s o2).1
  have k3 : ∀ i : In5, ∀ a ∈ opsT i s, ¬ (44 : UInt8) ∈ a := by
    intro i a ha
    obtain ⟨c, _, rfl⟩ := List.mem_map.1 ha
    exact (opC_no _ (opnd_opC c i)).2
  obtain ⟨h1, h2⟩ := join_inj _ _ _ _ k1.1 k2.1 (k3 i) (k3 j) h
  have m1 := okT_may i s o1
  have m2 := okT_may j s o2
  obtain ⟨p1, p2⟩ := may_op i m1
  obtain ⟨p3, p4⟩ := may_op j m2
  by_cases he : s = []
  · subst he
    have h3 : nameP i.op = nameP j.op := h1
    unfold nameP at h3
    rw [if_neg (by omega), if_neg (by omega)] at h3
    have := nmB_inj _ (by omega) _ (by omega) h3
    have ho : i.op = j.op := by omega
    have h4 : (letF (formN i.op)).map (fun c => opnd c i) = (letF (formN j.op)).map (fun c => opnd c j) := h2
    rw [← ho] at h4
    exact apart_op i j bi bj ho m1 m2 (map_fEq _ i j (may_rgs i m1) (may_rgs j m2) h4)
  · unfold okT at o1 o2
    simp only [Bool.and_eq_true, Bool.or_eq_true, beq_iff_eq] at o1 o2
    obtain ⟨n, r, hr, e, hf⟩ := fitS_at _ _ _ _ _ _ (o1.2.resolve_left he)
    obtain ⟨m, q, hq, e', hf'⟩ := fitS_at _ _ _ _ _ _ (o2.2.resolve_left he)
    obtain ⟨rfl, rfl⟩ := row_unique n m r q hr hq (e.trans e'.symm)
    have h4 : (letS s).map (fun c => opnd c i) = (letS s).map (fun c => opnd c j) := by
      unfold opsT lsT at h2
      rw [if_neg he, if_neg he] at h2
      exact h2
    have h5 : letS s = letSL.getD n [] := by unfold letS; rw [← e, (name_at n r hr).2]
    rw [h5] at h4
    exact apart_row n r hr i j bi bj hf hf' (map_fEq _ i j (may_rgs i m1) (may_rgs j m2) h4)

theorem text_short (i : In5) (s : List UInt8) (hs : s ∈ shB) (h : textP i s ≠ []) : textP i s ≠ textP i [] := by
  have hd := (shB_opC s hs).2.2
  have he : s ≠ [] := by rintro rfl; cases hd
  have o1 : okT i s = true := by
    unfold textP at h
    split at h
    · assumption
    · exact absurd rfl h
  have m1 := okT_may i s o1
  obtain ⟨p1, p2⟩ := may_op i m1
  have o2 : okT i [] = true := by unfold okT; rw [m1]; rfl
  intro h1
  unfold textP at h1
  rw [if_pos o1, if_pos o2] at h1
  have k1 := opC_no _ (nmT_opC i s o1).1
  have k2 := opC_no _ (nmT_opC i [] o2).1
  have k3 : ∀ s, ∀ a ∈ opsT i s, ¬ (44 : UInt8) ∈ a := by
    intro s a ha
    obtain ⟨c, _, rfl⟩ := List.mem_map.1 ha
    exact (opC_no _ (opnd_opC c i)).2
  have h2 := (join_inj _ _ _ _ k1.1 k2.1 (k3 s) (k3 []) h1).1
  have h3 : s = nameP i.op := by unfold nmT at h2; rw [if_neg he, if_pos rfl] at h2; exact h2
  unfold nameP at h3
  rw [if_neg (by omega)] at h3
  exact (nmB_opC _ (List.mem_of_getElem? (nmB_at i.op.toNat (by omega)))).2.2 (h3 ▸ hd)

theorem tailJ_mem : ∀ (l : List (List UInt8)), (∀ o ∈ l, ∀ c ∈ o, opC c = true) → (∀ c ∈ tailJ l, (opC c || c == 32 || c == 44) = true) ∧ (tailJ l).count 44 = l.length
  | [], _ => ⟨(fun c h => (List.not_mem_nil h).elim), rfl⟩
  | o :: l, h => by
    obtain ⟨h1, h2⟩ := tailJ_mem l (fun p hp => h p (List.mem_cons_of_mem _ hp))
    have ho := h o List.mem_cons_self
    have hc : o.count 44 = 0 := List.count_eq_zero.2 (opC_no o ho).2
    refine ⟨?_, ?_⟩
    · intro c hc
      simp only [tailJ, List.mem_append, List.mem_cons, List.not_mem_nil, or_false] at hc
      rcases hc with ((h | h) | h) | h
      · subst h; decide
      · subst h; decide
      · rw [ho c h]; rfl
      · exact h1 c h
    · simp [tailJ, List.count_cons, List.count_append, hc, h2]

theorem lsT_len (i : In5) (s : List UInt8) : (lsT i s).length ≤ 3 := by
  unfold lsT
  split
  · unfold letF
    repeat' split
    all_goals decide
  · unfold letS
    have h : ∀ l ∈ letSL, l.length ≤ 3 := by decide
    rw [List.getD_eq_getElem?_getD]
    cases he : letSL[shB.idxOf s]? with
    | none => exact Nat.zero_le _
    | some l => exact h l (List.mem_of_getElem? he)

theorem text_looks (i : In5) (s : List UInt8) (h : okT i s = true) : (∃ r, textP i s = nmT i s ++ r) ∧ (∀ c ∈ textP i s, (opC c || c == 32 || c == 44) = true) ∧ (textP i s).count 44 ≤ 2 := by
  have hn := (nmT_opC i s h).1
  have hl := lsT_len i s
  have hz : (nmT i s).count 44 = 0 := List.count_eq_zero.2 (opC_no _ hn).2
  have ho : ∀ o ∈ opsT i s, ∀ c ∈ o, opC c = true := by
    intro o ho
    obtain ⟨c, _, rfl⟩ := List.mem_map.1 ho
    exact opnd_opC c i
  have hlen : (opsT i s).length ≤ 3 := by unfold opsT; rw [List.length_map]; exact hl
  unfold textP
  rw [if_pos h]
  cases he : opsT i s with
  | nil =>
    refine ⟨⟨[], by simp [joinJ]⟩, ?_, ?_⟩
    · intro c hc
      rw [hn c hc]; rfl
    · show (nmT i s).count 44 ≤ 2
      omega
  | cons o r =>
    rw [he] at ho hlen
    obtain ⟨h1, h2⟩ := tailJ_mem r (fun p hp => ho p (List.mem_cons_of_mem _ hp))
    have h3 := ho o List.mem_cons_self
    have h4 : o.count 44 = 0 := List.count_eq_zero.2 (opC_no o h3).2
    refine ⟨⟨[32] ++ o ++ tailJ r, by simp [joinJ]⟩, ?_, ?_⟩
    · intro c hc
      simp only [joinJ, List.mem_append, List.mem_cons, List.not_mem_nil, or_false] at hc
      rcases hc with ((h | h) | h) | h
      · rw [hn c h]; rfl
      · subst h; decide
      · rw [h3 c h]; rfl
      · exact h1 c h
    · simp only [joinJ, List.count_append, h2, h4, hz]
      simp at hlen ⊢
      omega

end Go.Proofs.YtdgmdkkockbkjaaGreatDoor

/- Plain: lines of tokens; where a block of lines ends, by the program's way and by the document's. -/
namespace Go.Proofs.YtdgmdkkockbkjaaGreatDoor
open Go.RowKit
set_option linter.unusedVariables false
set_option linter.unusedSimpArgs false

/-- A token: its kind, its place, its text, its number, its scope. -/
structure Tok where
  kind : Int
  line : Int
  col : Int
  text : List UInt8
  num : Int
  scope : Int

/-- The words that begin, part and end blocks, by their numbers. -/
def kwN (s : List UInt8) : Nat :=
  if s = [46, 109, 97, 99, 114, 111] then 1 else if s = [46, 101, 110, 100, 109] then 2 else if s = [46, 114, 101, 112, 116] then 3 else if s = [46, 101, 110, 100, 114] then 4
  else if s = [46, 105, 102] then 5 else if s = [46, 101, 108, 115, 101] then 6 else if s = [46, 101, 110, 100, 105, 102] then 7 else 0

/-- A line's kind. -/
def kindP : List Tok → Nat
  | [] => 0
  | t :: _ => if t.kind = 1 then kwN t.text else 0

theorem kwN_le (s : List UInt8) : kwN s ≤ 7 := by
  unfold kwN
  repeat' split
  all_goals omega

theorem kindP_le (l : List Tok) : kindP l ≤ 7 := by
  cases l with
  | nil => exact Nat.zero_le _
  | cons t l =>
    show (if t.kind = 1 then kwN t.text else 0) ≤ 7
    by_cases h : t.kind = 1
    · rw [if_pos h]; exact kwN_le _
    · rw [if_neg h]; omega

/-- How many tokens the labels at a line's beginning are. -/
def labelsP : List Tok → Nat
  | a :: b :: l => if (a.kind = 1 ∨ a.kind = 2) ∧ b.kind = 7 ∧ b.text = [58] then 2 + labelsP l else 0
  | _ => 0

def begB (k : Nat) : Bool := k == 1 || k == 3 || k == 5

/-- The kind of block that a line ends, or halves. -/
def ofN (k : Nat) : Nat := if k = 2 then 1 else if k = 4 then 3 else if k = 6 ∨ k = 7 then 5 else 0

/-- What comes of it: the end, and the other half; or a place. -/
inductive BRes where
  | ok (e o : Int)
  | bad (line col : Int)

def badAt : List Tok → BRes
  | [] => .bad 0 0
  | t :: _ => .bad t.line t.col

/-- The program's way: the blocks that are open, the last one first. -/
def goP (fail : BRes) : List (Nat × Bool) → Int → Nat → List (List Tok) → BRes
  | _, _, _, [] => fail
  | st, other, n, l :: ls =>
    if begB (kindP l) = true then goP fail ((kindP l, false) :: st) other (n + 1) ls
    else if ofN (kindP l) = 0 then goP fail st other (n + 1) ls
    else match st with
      | [] => fail
      | (k, half) :: rest =>
        if k ≠ ofN (kindP l) ∨ (kindP l = 6 ∧ half = true) then badAt l
        else if kindP l = 6 then goP fail ((k, true) :: rest) (if rest = [] then (n : Int) else other) (n + 1) ls
        else if rest = [] then .ok n other
        else goP fail rest other (n + 1) ls

def endP (ls : List (List Tok)) (at_ : Int) : BRes :=
  if at_ < 0 ∨ (ls.length : Int) ≤ at_ then .bad 0 0
  else if begB (kindP (ls.getD at_.toNat [])) = true then goP (badAt (ls.getD at_.toNat [])) [(kindP (ls.getD at_.toNat []), false)] (-1) (at_.toNat + 1) (ls.drop (at_.toNat + 1))
  else badAt (ls.getD at_.toNat [])

/-- The document's way: kinds and other halves. -/
def goR (fail : BRes) : List (Nat × Int) → Nat → List (List Tok) → BRes
  | _, _, [] => fail
  | st, n, l :: ls =>
    if begB (kindP l) = true then goR fail ((kindP l, -1) :: st) (n + 1) ls
    else if kindP l = 0 then goR fail st (n + 1) ls
    else match st with
      | [] => fail
      | (k, els) :: rest =>
        if kindP l = 6 then (if k ≠ 5 ∨ 0 ≤ els then badAt l else goR fail ((k, (n : Int)) :: rest) (n + 1) ls)
        else if (kindP l = 2 ∧ k ≠ 1) ∨ (kindP l = 4 ∧ k ≠ 3) ∨ (kindP l = 7 ∧ k ≠ 5) then badAt l
        else if rest = [] then .ok n els
        else goR fail rest (n + 1) ls

def endR (ls : List (List Tok)) (at_ : Int) : BRes :=
  if at_ < 0 ∨ (ls.length : Int) ≤ at_ then .bad 0 0
  else if begB (kindP (ls.getD at_.toNat [])) = true then goR (badAt (ls.getD at_.toNat [])) [(kindP (ls.getD at_.toNat []), -1)] (at_.toNat + 1) (ls.drop (at_.toNat + 1))
  else badAt (ls.getD at_.toNat [])

/-- The two ways' stacks. -/
def Alk : List (Nat × Bool) → Int → List (Nat × Int) → Prop
  | [], _, [] => True
  | [(k, h)], o, [(k', e)] => k = k' ∧ h = decide (0 ≤ e) ∧ o = e
  | (k, h) :: (a :: st), o, (k', e) :: (b :: st') => k = k' ∧ h = decide (0 ≤ e) ∧ Alk (a :: st) o (b :: st')
  | _, _, _ => False

theorem Alk.push {st : List (Nat × Bool)} {o : Int} {st' : List (Nat × Int)} (h : Alk st o st') (hne : st ≠ []) (k : Nat) : Alk ((k, false) :: st) o ((k, -1) :: st') := by
  cases st with
  | nil => exact absurd rfl hne
  | cons a st =>
    cases st' with
    | nil => cases st <;> cases a <;> exact h.elim
    | cons b st' => exact ⟨rfl, by decide, h⟩

theorem Alk.top {k : Nat} {h : Bool} {st : List (Nat × Bool)} {o : Int} {st' : List (Nat × Int)} (hA : Alk ((k, h) :: st) o st') : ∃ e r', st' = (k, e) :: r' ∧ h = decide (0 ≤ e) ∧ ((st = [] ∧ r' = [] ∧ o = e) ∨ (st ≠ [] ∧ r' ≠ [] ∧ Alk st o r')) := by
  cases st with
  | nil =>
    match st', hA with
    | [(k', e)], hA => obtain ⟨rfl, h2, h3⟩ := hA; exact ⟨e, [], rfl, h2, Or.inl ⟨rfl, rfl, h3⟩⟩
  | cons a st =>
    match st', hA with
    | (k', e) :: (b :: r'), hA => obtain ⟨rfl, h2, h3⟩ := hA; exact ⟨e, b :: r', rfl, h2, Or.inr ⟨by simp, by simp, h3⟩⟩

theorem go_alike (fail : BRes) (ls : List (List Tok)) : ∀ (st : List (Nat × Bool)) (o : Int) (st' : List (Nat × Int)) (n : Nat), st ≠ [] → Alk st o st' → goP fail st o n ls = goR fail st' n ls := by
  induction ls with
  | nil => intro st o st' n _ _; cases st <;> cases st' <;> rfl
  | cons l ls ih =>
    intro st o st' n hne hA
    have hk := kindP_le l
    obtain ⟨⟨k, h⟩, rest, rfl⟩ : ∃ a r, st = a :: r := by cases st with | nil => exact absurd rfl hne | cons a r => exact ⟨a, r, rfl⟩
    obtain ⟨e, r', rfl, hh, hrest⟩ := hA.top
    unfold goP goR
    generalize kindP l = q at *
    by_cases hb : begB q = true
    · rw [if_pos hb, if_pos hb]
      exact ih _ _ _ _ (by simp) (hA.push (by simp) q)
    · rw [if_neg hb, if_neg hb]
      have hq : q = 0 ∨ q = 2 ∨ q = 4 ∨ q = 6 ∨ q = 7 := by
        have : ¬ (q = 1 ∨ q = 3 ∨ q = 5) := fun hc => hb (by rcases hc with rfl | rfl | rfl <;> rfl)
        omega
      rcases hq with rfl | rfl | rfl | rfl | rfl
      · rw [if_pos rfl, if_pos (show ofN 0 = 0 from rfl)]
        exact ih _ _ _ _ (by simp) hA
      · rw [if_neg (show ¬ ofN 2 = 0 by decide), if_neg (show ¬ (2 : Nat) = 0 by decide)]
        dsimp only
        rw [if_neg (show ¬ (2 : Nat) = 6 by decide), if_neg (show ¬ (2 : Nat) = 6 by decide)]
        by_cases hc : k = 1
        · subst hc
          rw [if_neg (show ¬ ((1 : Nat) ≠ ofN 2 ∨ ((2 : Nat) = 6 ∧ h = true)) by simp [ofN]), if_neg (show ¬ (((2 : Nat) = 2 ∧ (1 : Nat) ≠ 1) ∨ ((2 : Nat) = 4 ∧ (1 : Nat) ≠ 3) ∨ ((2 : Nat) = 7 ∧ (1 : Nat) ≠ 5)) by simp)]
          rcases hrest with ⟨rfl, rfl, rfl⟩ | ⟨h1, h2, h3⟩
          · rw [if_pos rfl, if_pos rfl]
          · rw [if_neg h1, if_neg h2]; exact ih _ _ _ _ h1 h3
        · rw [if_pos (Or.inl (by simpa [ofN] using hc)), if_pos (Or.inl ⟨rfl, hc⟩)]
      · rw [if_neg (show ¬ ofN 4 = 0 by decide), if_neg (show ¬ (4 : Nat) = 0 by decide)]
        dsimp only
        rw [if_neg (show ¬ (4 : Nat) = 6 by decide), if_neg (show ¬ (4 : Nat) = 6 by decide)]
        by_cases hc : k = 3
        · subst hc
          rw [if_neg (show ¬ ((3 : Nat) ≠ ofN 4 ∨ ((4 : Nat) = 6 ∧ h = true)) by simp [ofN]), if_neg (show ¬ (((4 : Nat) = 2 ∧ (3 : Nat) ≠ 1) ∨ ((4 : Nat) = 4 ∧ (3 : Nat) ≠ 3) ∨ ((4 : Nat) = 7 ∧ (3 : Nat) ≠ 5)) by simp)]
          rcases hrest with ⟨rfl, rfl, rfl⟩ | ⟨h1, h2, h3⟩
          · rw [if_pos rfl, if_pos rfl]
          · rw [if_neg h1, if_neg h2]; exact ih _ _ _ _ h1 h3
        · rw [if_pos (Or.inl (by simpa [ofN] using hc)), if_pos (Or.inr (Or.inl ⟨rfl, hc⟩))]
      · rw [if_neg (show ¬ ofN 6 = 0 by decide), if_neg (show ¬ (6 : Nat) = 0 by decide)]
        dsimp only
        rw [if_pos rfl, if_pos rfl]
        by_cases hc : k = 5
        · subst hc
          by_cases h0 : 0 ≤ e
          · rw [if_pos (show (5 : Nat) ≠ ofN 6 ∨ ((6 : Nat) = 6 ∧ h = true) from Or.inr ⟨rfl, by rw [hh]; simpa using h0⟩), if_pos (show (5 : Nat) ≠ 5 ∨ 0 ≤ e from Or.inr h0)]
          · rw [if_neg (show ¬ ((5 : Nat) ≠ ofN 6 ∨ ((6 : Nat) = 6 ∧ h = true)) by simp [ofN, hh]; omega), if_neg (show ¬ ((5 : Nat) ≠ 5 ∨ 0 ≤ e) by simp; omega)]
            refine ih _ _ _ _ (by simp) ?_
            rcases hrest with ⟨rfl, rfl, rfl⟩ | ⟨h1, h2, h3⟩
            · rw [if_pos rfl]; exact ⟨rfl, by simp, rfl⟩
            · rw [if_neg h1]
              cases rest with
              | nil => exact absurd rfl h1
              | cons a rest => cases r' with
                | nil => exact absurd rfl h2
                | cons b r' => exact ⟨rfl, by simp, h3⟩
        · rw [if_pos (Or.inl (by simpa [ofN] using hc)), if_pos (Or.inl hc)]
      · rw [if_neg (show ¬ ofN 7 = 0 by decide), if_neg (show ¬ (7 : Nat) = 0 by decide)]
        dsimp only
        rw [if_neg (show ¬ (7 : Nat) = 6 by decide), if_neg (show ¬ (7 : Nat) = 6 by decide)]
        by_cases hc : k = 5
        · subst hc
          rw [if_neg (show ¬ ((5 : Nat) ≠ ofN 7 ∨ ((7 : Nat) = 6 ∧ h = true)) by simp [ofN]), if_neg (show ¬ (((7 : Nat) = 2 ∧ (5 : Nat) ≠ 1) ∨ ((7 : Nat) = 4 ∧ (5 : Nat) ≠ 3) ∨ ((7 : Nat) = 7 ∧ (5 : Nat) ≠ 5)) by simp)]
          rcases hrest with ⟨rfl, rfl, rfl⟩ | ⟨h1, h2, h3⟩
          · rw [if_pos rfl, if_pos rfl]
          · rw [if_neg h1, if_neg h2]; exact ih _ _ _ _ h1 h3
        · rw [if_pos (Or.inl (by simpa [ofN] using hc)), if_pos (Or.inr (Or.inr ⟨rfl, hc⟩))]

theorem end_alike (ls : List (List Tok)) (at_ : Int) : endP ls at_ = endR ls at_ := by
  unfold endP endR
  split
  · rfl
  · split
    · exact go_alike _ _ _ _ _ _ (by simp) ⟨rfl, rfl, rfl⟩
    · rfl

def BRes.isOk : BRes → Bool
  | .ok _ _ => true
  | .bad _ _ => false

theorem badAt_ok (l : List Tok) : (badAt l).isOk = false := by cases l <;> rfl

/-- What comes of one line. -/
theorem goP_cons (fail : BRes) (st : List (Nat × Bool)) (o : Int) (n : Nat) (l : List Tok) (hne : st ≠ []) :
    (∃ st2 o2, st2 ≠ [] ∧ (o2 = o ∨ o2 = n) ∧ ∀ f ls, goP f st o n (l :: ls) = goP f st2 o2 (n + 1) ls) ∨ (∃ a b, ∀ f ls, goP f st o n (l :: ls) = .bad a b) ∨ (∀ f ls, goP f st o n (l :: ls) = .ok n o) := by
  obtain ⟨⟨k, h⟩, rest, rfl⟩ : ∃ a r, st = a :: r := by cases st with | nil => exact absurd rfl hne | cons a r => exact ⟨a, r, rfl⟩
  by_cases hb : begB (kindP l) = true
  · left
    refine ⟨(kindP l, false) :: (k, h) :: rest, o, by simp, Or.inl rfl, fun f ls => ?_⟩
    rw [goP, if_pos hb]
  · by_cases h0 : ofN (kindP l) = 0
    · left
      refine ⟨(k, h) :: rest, o, by simp, Or.inl rfl, fun f ls => ?_⟩
      rw [goP, if_neg hb, if_pos h0]
    · by_cases h1 : k ≠ ofN (kindP l) ∨ (kindP l = 6 ∧ h = true)
      · right; left
        cases l with
        | nil => exact absurd rfl h0
        | cons t l =>
          refine ⟨t.line, t.col, fun f ls => ?_⟩
          rw [goP, if_neg hb, if_neg h0]
          rw [if_pos h1]
          rfl
      · by_cases h6 : kindP l = 6
        · left
          refine ⟨(k, true) :: rest, if rest = [] then (n : Int) else o, by simp, by split <;> simp, fun f ls => ?_⟩
          rw [goP, if_neg hb, if_neg h0]
          rw [if_neg h1, if_pos h6]
        · by_cases hr : rest = []
          · right; right
            intro f ls
            rw [goP, if_neg hb, if_neg h0]
            rw [if_neg h1, if_neg h6, if_pos hr]
          · left
            refine ⟨rest, o, hr, Or.inl rfl, fun f ls => ?_⟩
            rw [goP, if_neg hb, if_neg h0]
            rw [if_neg h1, if_neg h6, if_neg hr]

theorem go_front (fail : BRes) (hf : fail.isOk = false) (ls : List (List Tok)) : ∀ (st : List (Nat × Bool)) (o : Int) (n : Nat) (e x : Int), st ≠ [] → goP fail st o n ls = .ok e x →
    ∃ j : Nat, j < ls.length ∧ e = ((n + j : Nat) : Int) ∧ (x = o ∨ ((n : Int) ≤ x ∧ x < e)) ∧ ∀ f more, goP f st o n (ls.take (j + 1) ++ more) = .ok e x := by
  induction ls with
  | nil => intro st o n e x _ h; rw [show goP fail st o n [] = fail by cases st <;> rfl] at h; rw [h] at hf; cases hf
  | cons l ls ih =>
    intro st o n e x hne h
    rcases goP_cons fail st o n l hne with ⟨st2, o2, h2, ho, hg⟩ | ⟨a, b, hg⟩ | hg
    · rw [hg] at h
      obtain ⟨j, hj, he, hx, hm⟩ := ih st2 o2 (n + 1) e x h2 h
      refine ⟨j + 1, by simpa using hj, by rw [he]; congr 1; omega, ?_, fun f more => ?_⟩
      · rcases hx with hx | ⟨h3, h4⟩
        · rcases ho with ho | ho
          · left; rw [hx, ho]
          · right; rw [hx, ho, he]; exact ⟨by omega, by omega⟩
        · right; exact ⟨by omega, h4⟩
      · rw [List.take_succ_cons, List.cons_append, hg]
        exact hm f more
    · rw [hg] at h; cases h
    · rw [hg] at h
      cases h
      exact ⟨0, by simp, by simp, Or.inl rfl, fun f more => by rw [List.take_succ_cons, List.take_zero, List.cons_append, hg]⟩

/-- A block that ends, further out goes on behind it. -/
theorem go_inner (fail2 : BRes) (hf : fail2.isOk = false) (ls : List (List Tok)) : ∀ (s1 : List (Nat × Bool)) (o1 : Int) (n : Nat) (k x : Int), s1 ≠ [] → goP fail2 s1 o1 n ls = .ok k x →
    ∀ (fail : BRes) (st : List (Nat × Bool)) (o : Int), st ≠ [] → ∃ (j : Nat) (o2 : Int), k = ((n + j : Nat) : Int) ∧ goP fail (s1 ++ st) o n ls = goP fail st o2 (n + j + 1) (ls.drop (j + 1)) := by
  induction ls with
  | nil => intro s1 o1 n k x _ h; rw [show goP fail2 s1 o1 n [] = fail2 by cases s1 <;> rfl] at h; rw [h] at hf; cases hf
  | cons l ls ih =>
    intro s1 o1 n k x hne h fail st o hst
    obtain ⟨⟨q, hq⟩, rest, rfl⟩ : ∃ a r, s1 = a :: r := by cases s1 with | nil => exact absurd rfl hne | cons a r => exact ⟨a, r, rfl⟩
    rw [List.cons_append]
    have step : ∀ s2 o2 o3, s2 ≠ [] → goP fail2 s2 o2 (n + 1) ls = .ok k x → goP fail ((q, hq) :: (rest ++ st)) o n (l :: ls) = goP fail (s2 ++ st) o3 (n + 1) ls →
        ∃ (j : Nat) (o2 : Int), k = ((n + j : Nat) : Int) ∧ goP fail ((q, hq) :: (rest ++ st)) o n (l :: ls) = goP fail st o2 (n + j + 1) ((l :: ls).drop (j + 1)) := by
      intro s2 o2 o3 h2 h3 h4
      obtain ⟨j, o4, e1, e2⟩ := ih s2 o2 (n + 1) k x h2 h3 fail st o3 hst
      refine ⟨j + 1, o4, by rw [e1]; congr 1; omega, ?_⟩
      rw [h4, e2, List.drop_succ_cons, show n + 1 + j + 1 = n + (j + 1) + 1 by omega]
    rw [goP] at h
    by_cases hb : begB (kindP l) = true
    · rw [if_pos hb] at h
      exact step _ _ o (by simp) h (by rw [goP, if_pos hb]; rfl)
    · rw [if_neg hb] at h
      by_cases h0 : ofN (kindP l) = 0
      · rw [if_pos h0] at h
        exact step _ _ o (by simp) h (by rw [goP, if_neg hb, if_pos h0]; rfl)
      · rw [if_neg h0] at h
        by_cases h1 : q ≠ ofN (kindP l) ∨ (kindP l = 6 ∧ hq = true)
        · rw [if_pos h1] at h
          have := badAt_ok l
          rw [h] at this; cases this
        · rw [if_neg h1] at h
          by_cases h6 : kindP l = 6
          · rw [if_pos h6] at h
            refine step _ _ (if rest ++ st = [] then (n : Int) else o) (by simp) h ?_
            rw [goP, if_neg hb, if_neg h0]
            rw [if_neg h1, if_pos h6]
            rfl
          · rw [if_neg h6] at h
            by_cases hr : rest = []
            · rw [if_pos hr] at h
              cases h
              refine ⟨0, o, by simp, ?_⟩
              subst hr
              rw [goP, if_neg hb, if_neg h0]
              rw [if_neg h1, if_neg h6, List.nil_append, if_neg hst]
              rfl
            · rw [if_neg hr] at h
              refine step _ _ o hr h ?_
              rw [goP, if_neg hb, if_neg h0]
              rw [if_neg h1, if_neg h6, if_neg (by simp [hr])]

/-- On the way to the end some blocks are open. -/
theorem go_at (fail : BRes) (hf : fail.isOk = false) (ls : List (List Tok)) : ∀ (st : List (Nat × Bool)) (o : Int) (n : Nat) (e x : Int) (j : Nat), st ≠ [] → goP fail st o n ls = .ok e x → ((n + j : Nat) : Int) < e →
    ∃ st2 o2, st2 ≠ [] ∧ goP fail st2 o2 (n + j) (ls.drop j) = .ok e x := by
  induction ls with
  | nil => intro st o n e x j _ h; rw [show goP fail st o n [] = fail by cases st <;> rfl] at h; rw [h] at hf; cases hf
  | cons l ls ih =>
    intro st o n e x j hne h hlt
    cases j with
    | zero => exact ⟨st, o, hne, h⟩
    | succ j =>
      rcases goP_cons fail st o n l hne with ⟨st2, o2, h2, ho, hg⟩ | ⟨a, b, hg⟩ | hg
      · rw [hg] at h
        rw [List.drop_succ_cons, show n + (j + 1) = n + 1 + j by omega]
        exact ih st2 o2 (n + 1) e x j h2 h (by rw [show n + 1 + j = n + (j + 1) by omega]; exact hlt)
      · rw [hg] at h; cases h
      · rw [hg] at h; cases h; exfalso; omega

/-- An end, from where the block begins. -/
theorem endP_ok (ls : List (List Tok)) (at_ e x : Int) (h : endP ls at_ = .ok e x) :
    ∃ a : Nat, at_ = a ∧ a < ls.length ∧ begB (kindP (ls.getD a [])) = true ∧ goP (badAt (ls.getD a [])) [(kindP (ls.getD a []), false)] (-1) (a + 1) (ls.drop (a + 1)) = .ok e x := by
  unfold endP at h
  by_cases h1 : at_ < 0 ∨ (ls.length : Int) ≤ at_
  · rw [if_pos h1] at h; cases h
  · rw [if_neg h1] at h
    by_cases h2 : begB (kindP (ls.getD at_.toNat [])) = true
    · rw [if_pos h2] at h
      exact ⟨at_.toNat, by omega, by omega, h2, h⟩
    · rw [if_neg h2] at h
      have := badAt_ok (ls.getD at_.toNat [])
      rw [h] at this; cases this

theorem endP_behind (ls more : List (List Tok)) (at_ e x : Int) (h : endP ls at_ = .ok e x) :
    0 ≤ e ∧ e < ls.length ∧ endP (ls.take (e.toNat + 1) ++ more) at_ = .ok e x := by
  obtain ⟨a, rfl, ha, hb, hg⟩ := endP_ok ls at_ e x h
  obtain ⟨j, hj, he, _, hm⟩ := go_front _ (badAt_ok _) _ _ _ _ _ _ (by simp) hg
  rw [List.length_drop] at hj
  have het : e.toNat = a + 1 + j := by omega
  refine ⟨by omega, by omega, ?_⟩
  have hlen : (ls.take (e.toNat + 1)).length = a + 1 + j + 1 := by rw [List.length_take, het]; omega
  have hgd : (ls.take (e.toNat + 1) ++ more).getD a [] = ls.getD a [] := by
    rw [List.getD_eq_getElem?_getD, List.getD_eq_getElem?_getD, List.getElem?_append_left (by omega), List.getElem?_take_of_lt (by omega)]
  have hdr : (ls.take (e.toNat + 1) ++ more).drop (a + 1) = (ls.drop (a + 1)).take (j + 1) ++ more := by
    rw [List.drop_append_of_le_length (by omega), List.drop_take, show e.toNat + 1 - (a + 1) = j + 1 by omega]
  unfold endP
  rw [if_neg (by rw [List.length_append, hlen]; omega)]
  rw [show ((a : Int)).toNat = a by simp, hgd, if_pos hb, hdr]
  exact hm _ more

theorem endP_within (ls : List (List Tok)) (a b e x k y : Int) (h : endP ls a = .ok e x) (hk : endP ls b = .ok k y) (hab : a < b) (hbe : b < e) : k < e := by
  obtain ⟨a, rfl, ha, hb, hg⟩ := endP_ok ls a e x h
  obtain ⟨b, rfl, hb1, hb2, hg2⟩ := endP_ok ls b k y hk
  obtain ⟨st, o, hst, hat⟩ := go_at _ (badAt_ok _) _ _ _ _ _ _ (b - (a + 1)) (by simp) hg (by omega)
  rw [List.drop_drop, show a + 1 + (b - (a + 1)) = b by omega] at hat
  have hd : ls.drop b = ls.getD b [] :: ls.drop (b + 1) := by
    rw [List.drop_eq_getElem_cons hb1]
    congr 1
    rw [List.getD_eq_getElem?_getD, List.getElem?_eq_getElem hb1]; rfl
  obtain ⟨⟨q, hq⟩, rest, rfl⟩ : ∃ a r, st = a :: r := by cases st with | nil => exact absurd rfl hst | cons a r => exact ⟨a, r, rfl⟩
  rw [hd, goP, if_pos hb2] at hat
  obtain ⟨j, o2, ek, e2⟩ := go_inner _ (badAt_ok _) _ _ _ _ _ _ (by simp) hg2 (badAt (ls.getD a [])) ((q, hq) :: rest) o hst
  rw [List.cons_append, List.nil_append] at e2
  rw [e2] at hat
  obtain ⟨j2, _, e3, _, _⟩ := go_front _ (badAt_ok _) _ _ _ _ _ _ hst hat
  omega

theorem endP_bounds (ls : List (List Tok)) (a e x : Int) (h : endP ls a = .ok e x) : a < e ∧ e < ls.length ∧ (x = -1 ∨ (a < x ∧ x < e)) := by
  obtain ⟨a, rfl, ha, hb, hg⟩ := endP_ok ls a e x h
  obtain ⟨j, hj, he, hx, _⟩ := go_front _ (badAt_ok _) _ _ _ _ _ _ (by simp) hg
  rw [List.length_drop] at hj
  refine ⟨by omega, by omega, ?_⟩
  rcases hx with hx | ⟨h1, h2⟩
  · exact Or.inl hx
  · exact Or.inr ⟨by omega, h2⟩

end Go.Proofs.YtdgmdkkockbkjaaGreatDoor

/- Plain: what the document reads in a source: its tokens, its lines. -/
namespace Go.Proofs.YtdgmdkkockbkjaaGreatDoor
open Go.RowKit
set_option linter.unusedVariables false
set_option linter.unusedSimpArgs false

/-- Letters and the low line; digits; those of base sixteen; what may stand in a name. -/
def letN : List UInt8 := [97, 98, 99, 100, 101, 102, 103, 104, 105, 106, 107, 108, 109, 110, 111, 112, 113, 114, 115, 116, 117, 118, 119, 120, 121, 122, 65, 66, 67, 68, 69, 70, 71, 72, 73, 74, 75, 76, 77, 78, 79, 80, 81, 82, 83, 84, 85, 86, 87, 88, 89, 90, 95]

def digN : List UInt8 := [48, 49, 50, 51, 52, 53, 54, 55, 56, 57]

def hexN : List UInt8 := [48, 49, 50, 51, 52, 53, 54, 55, 56, 57, 97, 98, 99, 100, 101, 102, 65, 66, 67, 68, 69, 70]

def goN : List UInt8 := letN ++ digN ++ [46, 36]

/-- How many of the bytes at the beginning are among some. -/
def whileN (set : List UInt8) : List UInt8 → Nat
  | [] => 0
  | c :: l => if set.contains c = true then 1 + whileN set l else 0

theorem whileN_le (set l : List UInt8) : whileN set l ≤ l.length := by
  induction l with
  | nil => exact Nat.le_refl _
  | cons c l ih => unfold whileN; split <;> simp only [List.length_cons] <;> omega

/-- A digit's value. -/
def digV (c : UInt8) : Nat := if 97 ≤ c.toNat then c.toNat - 97 + 10 else if 65 ≤ c.toNat then c.toNat - 65 + 10 else (c.toNat + 208) % 256

def numFrom (s : List UInt8) : Nat := if s.take 2 = [48, 98] then 2 else if s.take 2 = [48, 120] then 2 else 0

def numBase (s : List UInt8) : Nat := if s.take 2 = [48, 98] then 2 else if s.take 2 = [48, 120] then 16 else 10

def numSet (s : List UInt8) : List UInt8 := if s.take 2 = [48, 98] then [48, 49] else if s.take 2 = [48, 120] then hexN else digN

/-- The value of some digits; none, if it is too great. -/
def valU (base : Nat) : List UInt8 → Nat → Option Nat
  | [], v => some v
  | c :: l, v => if 4294967296 ≤ v * base + digV c then none else valU base l (v * base + digV c)

/-- A number at the beginning: its value, and how long it is; 0: there is none. -/
def numR (s : List UInt8) : Nat × Nat :=
  if whileN (numSet s) (s.drop (numFrom s)) = 0 ∨ (numFrom s + whileN (numSet s) (s.drop (numFrom s)) < s.length ∧ goN.contains (s.getD (numFrom s + whileN (numSet s) (s.drop (numFrom s))) 0) = true) then (0, 0)
  else match valU (numBase s) ((s.drop (numFrom s)).take (whileN (numSet s) (s.drop (numFrom s)))) 0 with
    | none => (0, 0)
    | some v => (v, numFrom s + whileN (numSet s) (s.drop (numFrom s)))

def escTab (c : UInt8) : Option UInt8 :=
  if c = 110 then some 10 else if c = 116 then some 9 else if c = 114 then some 13 else if c = 48 then some 0 else if c = 92 then some 92 else if c = 39 then some 39 else if c = 34 then some 34 else none

/-- An escape at the beginning: its byte, and how long it is; 0: there is none. -/
def escR : List UInt8 → UInt8 × Nat
  | 92 :: c :: l => match escTab c with
    | some b => (b, 2)
    | none => if c = 120 then (match l with
      | a :: b :: _ => if hexN.contains a = true ∧ hexN.contains b = true then (UInt8.ofNat (digV a * 16 + digV b), 4) else (0, 0)
      | _ => (0, 0)) else (0, 0)
  | _ => (0, 0)

/-- A byte within quotes, and how long it is. -/
def quoR (q : UInt8) : List UInt8 → UInt8 × Nat
  | [] => (0, 0)
  | c :: l => if c = q then (0, 0) else if c = 92 then escR (c :: l) else if 32 ≤ c.toNat ∨ (c = 9 ∧ q = 34) then (c, 1) else (0, 0)

/-- The bytes of a text, and how long they are. -/
def txtR : Nat → List UInt8 → List UInt8 × Nat
  | 0, _ => ([], 0)
  | f + 1, s => if (quoR 34 s).2 = 0 then ([], 0) else ((quoR 34 s).1 :: (txtR f (s.drop (quoR 34 s).2)).1, (quoR 34 s).2 + (txtR f (s.drop (quoR 34 s).2)).2)

/-- A text at the beginning. -/
def textR (s : List UInt8) : List UInt8 × Nat :=
  if 1 + (txtR s.length (s.drop 1)).2 < s.length ∧ s.getD (1 + (txtR s.length (s.drop 1)).2) 0 = 34 then ((txtR s.length (s.drop 1)).1, 1 + (txtR s.length (s.drop 1)).2 + 1) else ([], 0)

def tok0 : Tok := ⟨0, 0, 0, [], 0, 0⟩

def tokN (k : Int) (s : List UInt8) : Tok := ⟨k, 0, 0, s, 0, 0⟩

def tokU (v : Nat) : Tok := ⟨5, 0, 0, [], v, 0⟩

/-- The marks of one byte. -/
def markN : List UInt8 := [44, 58, 40, 41, 43, 45, 42, 47, 38, 124, 94, 126, 61]

/-- The token at the beginning, and how long it is; or 0, and a code. -/
def tokR (s : List UInt8) : Tok × Nat × Nat :=
  if (letN ++ [46]).contains (s.getD 0 0) = true then (tokN 1 (s.take (whileN goN s)), whileN goN s, 0)
  else if digN.contains (s.getD 0 0) = true then (tokU (numR s).1, (numR s).2, 3)
  else if s.getD 0 0 = 39 then
    (if 0 < (quoR 39 (s.drop 1)).2 ∧ (quoR 39 (s.drop 1)).2 < (s.drop 1).length ∧ (s.drop 1).getD (quoR 39 (s.drop 1)).2 0 = 39 then (tokU (quoR 39 (s.drop 1)).1.toNat, (quoR 39 (s.drop 1)).2 + 2, 0) else (tok0, 0, 3))
  else if s.getD 0 0 = 34 then (tokN 6 (textR s).1, (textR s).2, 4)
  else if s.getD 0 0 = 37 ∧ ((s.drop 1).take (whileN (letN ++ digN) (s.drop 1)) = [104, 105] ∨ (s.drop 1).take (whileN (letN ++ digN) (s.drop 1)) = [108, 111] ∨ (s.drop 1).take (whileN (letN ++ digN) (s.drop 1)) = [112, 99, 114, 101, 108]) then
    (tokN 4 ((s.drop 1).take (whileN (letN ++ digN) (s.drop 1))), whileN (letN ++ digN) (s.drop 1) + 1, 0)
  else if (s.getD 0 0 = 64 ∨ s.getD 0 0 = 92) ∧ 0 < whileN (letN ++ digN) (s.drop 1) ∧ letN.contains ((s.drop 1).getD 0 0) = true then
    (tokN (if s.getD 0 0 = 92 then 3 else 2) ((s.drop 1).take (whileN (letN ++ digN) (s.drop 1))), whileN (letN ++ digN) (s.drop 1) + 1, 0)
  else if s.take 2 = [60, 60] ∨ s.take 2 = [62, 62] then (tokN 7 (s.take 2), 2, 0)
  else if markN.contains (s.getD 0 0) = true then (tokN 7 (s.take 1), 1, 0)
  else (tok0, 0, 2)

/-- What comes of a line, or of lines: the tokens; or a place, and a code. -/
inductive LRes (α : Type) where
  | ok (l : α)
  | bad (line col code : Int)

def placeT (t : Tok) (line col : Int) : Tok := { t with line := line, col := col }

def blankN : List UInt8 := [32, 9, 13]

/-- A line's tokens, from the place i on. -/
def lineR (number : Int) : Nat → Nat → List UInt8 → LRes (List Tok)
  | 0, _, _ => .ok []
  | f + 1, i, s =>
    if s = [] then .ok []
    else if blankN.contains (s.getD 0 0) = true then lineR number f (i + 1) (s.drop 1)
    else if s.getD 0 0 = 35 then .ok []
    else if (tokR s).2.1 = 0 then .bad number ((i + 1 : Nat) : Int) (tokR s).2.2
    else match lineR number f (i + (tokR s).2.1) (s.drop (tokR s).2.1) with
      | .bad a b c => .bad a b c
      | .ok ts => .ok (placeT (tokR s).1 number ((i + 1 : Nat) : Int) :: ts)

/-- What is between line feeds. -/
def splitL : List UInt8 → List (List UInt8)
  | [] => [[]]
  | c :: l => if c = 10 then [] :: splitL l else match splitL l with
    | [] => [[c]]
    | a :: r => (c :: a) :: r

/-- The lines' tokens, from some number on. -/
def linesR : Nat → List (List UInt8) → LRes (List (List Tok))
  | _, [] => .ok []
  | n, s :: r => match lineR n s.length 0 s with
    | .bad a b c => .bad a b c
    | .ok ts => match linesR (n + 1) r with
      | .bad a b c => .bad a b c
      | .ok ls => .ok (ts :: ls)

/-- A source's lines. -/
def srcR (s : List UInt8) : LRes (List (List Tok)) := if 65536 < s.length then .bad 1 1 12 else linesR 1 (splitL s)

end Go.Proofs.YtdgmdkkockbkjaaGreatDoor

