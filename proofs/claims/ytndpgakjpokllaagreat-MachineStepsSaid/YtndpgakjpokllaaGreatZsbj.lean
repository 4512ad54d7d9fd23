/- Parts of the proof, one behind the other. -/
import Derived.BigQuiet
import Derived.Test.YtndpgakjpokllaaGreatZsbi
/- typecaseref02: a memory is a list of cells: plain. -/
namespace Go.Proofs.YtndpgakjpokllaaGreat
open Go.RowKit Go.Maps
set_option linter.unusedVariables false
set_option linter.unusedSimpArgs false

/-- The byte of the first cell at an address. -/
def atL : List (Int × Int) → Int → Int
  | [], _ => 0
  | x :: l, a => if x.1 = a then x.2 else atL l a

/-- A byte is put. -/
def putL : List (Int × Int) → Int → Int → List (Int × Int)
  | [], a, v => [(a, v)]
  | x :: l, a, v => if x.1 = a then (a, v) :: l else x :: putL l a v

theorem atL_put (a v : Int) : ∀ l : List (Int × Int), atL (putL l a v) = updM (atL l) a v
  | [] => by
    funext b
    simp only [putL, atL, updM]
    by_cases h : b = a
    · rw [if_pos h, if_pos h.symm]
    · rw [if_neg h, if_neg (fun e => h e.symm)]
  | x :: l => by
    funext b
    have ih := congrFun (atL_put a v l) b
    simp only [updM] at ih ⊢
    unfold putL
    by_cases hx : x.1 = a
    · rw [if_pos hx]
      simp only [atL]
      by_cases h : b = a
      · rw [if_pos h, if_pos h.symm]
      · rw [if_neg h, if_neg (fun e => h e.symm), if_neg (fun e => h (by rw [← e, hx]))]
    · rw [if_neg hx]
      simp only [atL]
      by_cases h : x.1 = b
      · rw [if_pos h, if_neg (fun e => hx (by rw [h, e])), if_pos h]
      · rw [if_neg h, if_neg h]
        exact ih

theorem putL_length (a v : Int) : ∀ l : List (Int × Int), (putL l a v).length ≤ l.length + 1
  | [] => by simp [putL]
  | x :: l => by
    unfold putL
    split
    · simp
    · simpa using putL_length a v l

theorem putL_miss (a v : Int) : ∀ l : List (Int × Int), (∀ y ∈ l, y.1 ≠ a) → putL l a v = l ++ [(a, v)]
  | [], _ => rfl
  | x :: l, h => by
    unfold putL
    rw [if_neg (h x List.mem_cons_self), putL_miss a v l fun y hy => h y (List.mem_cons_of_mem _ hy)]
    rfl

theorem putL_hit (a v : Int) : ∀ (l : List (Int × Int)) (i : Nat) (x : Int × Int), l[i]? = some x → x.1 = a → (∀ j, j < i → ∀ y, l[j]? = some y → y.1 ≠ a) → putL l a v = l.set i (a, v)
  | [], i, x, h, _, _ => by cases h
  | z :: l, 0, x, h, hx, _ => by
    simp at h
    subst h
    unfold putL
    rw [if_pos hx]
    rfl
  | z :: l, i + 1, x, h, hx, hj => by
    unfold putL
    rw [if_neg (hj 0 (by omega) z rfl), putL_hit a v l i x (by simpa using h) hx fun j hji y hy => hj (j + 1) (by omega) y (by simpa using hy)]
    rfl

theorem putL_cells {l : List (Int × Int)} (h : IsCells l) {a v : Int} (h0 : 0 ≤ a) (h1 : a < 4294967296) (v0 : 0 ≤ v) (v1 : v < 256) : IsCells (putL l a v) := by
  induction l with
  | nil =>
    intro x hx
    simp [putL] at hx
    subst hx
    exact ⟨h0, h1, v0, v1⟩
  | cons y l ih =>
    unfold putL
    split
    · intro x hx
      rcases List.mem_cons.1 hx with rfl | hx
      · exact ⟨h0, h1, v0, v1⟩
      · exact h x (List.mem_cons_of_mem _ hx)
    · intro x hx
      rcases List.mem_cons.1 hx with rfl | hx
      · exact h _ List.mem_cons_self
      · exact ih (fun z hz => h z (List.mem_cons_of_mem _ hz)) x hx

theorem putL_key (a v : Int) : ∀ (l : List (Int × Int)) (b : Int), b ∈ (putL l a v).map Prod.fst → b = a ∨ b ∈ l.map Prod.fst
  | [], b, h => by simp [putL] at h; exact .inl h
  | x :: l, b, h => by
    unfold putL at h
    split at h
    · rw [List.map_cons] at h
      rcases List.mem_cons.1 h with h | h
      · exact .inl h
      · exact .inr (List.mem_cons_of_mem _ h)
    · rw [List.map_cons] at h
      rcases List.mem_cons.1 h with h | h
      · exact .inr (by rw [h]; exact List.mem_cons_self)
      · rcases putL_key a v l b h with h | h
        · exact .inl h
        · exact .inr (List.mem_cons_of_mem _ h)

theorem putL_nodup (a v : Int) : ∀ l : List (Int × Int), (l.map Prod.fst).Nodup → ((putL l a v).map Prod.fst).Nodup
  | [], _ => by simp [putL]
  | x :: l, h => by
    obtain ⟨h1, h2⟩ := List.nodup_cons.1 h
    unfold putL
    split
    · rename_i hx
      rw [List.map_cons]
      exact List.nodup_cons.2 ⟨by rw [← hx]; exact h1, h2⟩
    · rename_i hx
      rw [List.map_cons]
      refine List.nodup_cons.2 ⟨fun hm => ?_, putL_nodup a v l h2⟩
      rcases putL_key a v l _ hm with e | e
      · exact hx e
      · exact h1 e

theorem cellC_set (l : List (Int × Int)) : ∀ (i : Nat) (x : Int × Int) (v : Int), l[i]? = some x → (l.flatMap cellC).set (i * 2 + 1) (.int .u8 v) = (l.set i (x.1, v)).flatMap cellC := by
  induction l with
  | nil => intro i x v h; cases h
  | cons y l ih =>
    intro i x v h
    cases i with
    | zero =>
      simp at h
      subst h
      simp [cellC]
    | succ i =>
      have := ih i x v (by simpa using h)
      rw [List.set_cons_succ, List.flatMap_cons, List.flatMap_cons, ← this]
      have e : (i + 1) * 2 + 1 = (i * 2 + 1) + 2 := by omega
      rw [e]
      simp [cellC]

/-- The reference's memory: its list's slice in block qm, the list in a block of its own. -/
def RefAt (w : World) (base qm n : Nat) (M : Int → Int) : Prop :=
  ∃ v l, Has w qm (.cells #[v] 83) ∧ base ≤ qm ∧ OwnC w base 43 2 v l.length (l.flatMap cellC) ∧ v.ownBlock ≠ some qm ∧ l.length ≤ n ∧ M = atL l ∧ (l.map Prod.fst).Nodup ∧ IsCells l

theorem RefAt.kept {w w' : World} {base qm n : Nat} {M : Int → Int} (h : RefAt w base qm n M) (hb : ∀ k, k < w.heap.size → base ≤ k → w'.heap[k]? = w.heap[k]?) : RefAt w' base qm n M := by
  obtain ⟨v, l, h1, h2, h3, h4⟩ := h
  exact ⟨v, l, (hb qm h1.lt h2).trans h1, h2, h3.kept fun k hk hv => hb k hk (h3.lt k hv).1, h4⟩

theorem RefAt.nx {w w' : World} {base qm n : Nat} {M : Int → Int} (h : RefAt w base qm n M) (hn : Nx w w') : RefAt w' base qm n M := h.kept fun k hk _ => Below.block hn k hk

theorem RefAt.mono {w : World} {base qm n n' : Nat} {M : Int → Int} (h : RefAt w base qm n M) (hn : n ≤ n') : RefAt w base qm n' M := by
  obtain ⟨v, l, h1, h2, h3, h4, h5, h6⟩ := h
  exact ⟨v, l, h1, h2, h3, h4, Nat.le_trans h5 hn, h6⟩

theorem atL_bytes {l : List (Int × Int)} (h : IsCells l) (a : Int) : 0 ≤ atL l a ∧ atL l a < 256 := by
  induction l with
  | nil => simp [atL]
  | cons x l ih =>
    unfold atL
    split
    · exact (h x List.mem_cons_self).2.2
    · exact ih fun y hy => h y (List.mem_cons_of_mem _ hy)

theorem atL_at : ∀ (l : List (Int × Int)) (i : Nat) (x : Int × Int), l[i]? = some x → (∀ j, j < i → ∀ y, l[j]? = some y → y.1 ≠ x.1) → atL l x.1 = x.2
  | [], i, x, h, _ => by cases h
  | z :: l, 0, x, h, _ => by
    simp at h
    subst h
    simp [atL]
  | z :: l, i + 1, x, h, hj => by
    unfold atL
    rw [if_neg (hj 0 (by omega) z rfl)]
    exact atL_at l i x (by simpa using h) fun j hji y hy => hj (j + 1) (by omega) y (by simpa using hy)

theorem atL_none : ∀ (l : List (Int × Int)) (a : Int), (∀ y ∈ l, y.1 ≠ a) → atL l a = 0
  | [], _, _ => rfl
  | x :: l, a, h => by
    unfold atL
    rw [if_neg (h x List.mem_cons_self)]
    exact atL_none l a fun y hy => h y (List.mem_cons_of_mem _ hy)

theorem RefAt.bytes {w : World} {base qm n : Nat} {M : Int → Int} (h : RefAt w base qm n M) : Bytes M := by
  obtain ⟨v, l, _, _, _, _, _, rfl, _, h⟩ := h
  exact fun a _ _ => atL_bytes h a

end Go.Proofs.YtndpgakjpokllaaGreat

/- typecaseref02: At, Put. -/
namespace Go.Proofs.YtndpgakjpokllaaGreat
open Go.RowKit Go.Maps
set_option linter.unusedVariables false
set_option linter.unusedSimpArgs false

/-- An own row's form, and the cells of its elements. -/
theorem rowC {w : World} {base : Nat} {v : Value} {l : List (Int × Int)} (h : OwnC w base 43 2 v l.length (l.flatMap cellC)) : ∃ A c, v = .slice A l.length c ∧ l.length ≤ c ∧ c ≤ maxLen ∧
    ∀ (k : Nat) (x : Int × Int), l[k]? = some x → ∃ g, A = some ⟨g, 0, none⟩ ∧ base ≤ g ∧ w.cell? ⟨g, k * 2, none⟩ = some (.int .u32 x.1) ∧ w.cell? ⟨g, k * 2 + 1, none⟩ = some (.int .u8 x.2) ∧ ∀ j, w.frozen? ⟨g, j, none⟩ = false := by
  rcases h.2 with ⟨rfl, h0⟩ | ⟨g, cap, cur, rfl, hb, hg, h1, h2, h3, h4⟩
  · have : l = [] := List.eq_nil_of_length_eq_zero h0
    subst this
    exact ⟨none, 0, rfl, Nat.le_refl _, Nat.zero_le _, fun k x hx => by cases hx⟩
  · refine ⟨_, cap, rfl, h1, h2, fun k x hx => ?_⟩
    obtain ⟨e1, e2⟩ := cellC_at l k x hx
    exact ⟨g, rfl, hb, h.cells rfl _ _ e1, h.cells rfl _ _ e2, fun j => h.free rfl j⟩

set_option maxHeartbeats 1000000 in
theorem at_ref (base qm n : Nat) (M : Int → Int) (a : Int) (hn : n ≤ 100000) (w : World) (h : RefAt w base qm n M) :
    Calls Tryz.prog 45 #[.pointer (some ⟨qm, 0, none⟩), .int .u32 a] w fun e w' => e = .returned (.int .u8 (M a)) ∧ w' = w := by
  obtain ⟨v, l, hq, hbq, ho, hne, hl, rfl, hnd, hcs⟩ := h
  obtain ⟨A, c, rfl, hc1, hc2, hcell⟩ := rowC ho
  have q0 := hq.cell 0 _ rfl
  have HC := Lib.hid hcell
  have hll : l.length ≤ 100000 := by omega
  clear hcell hcs hnd ho hq hl hn
  go_enter Tryz.func45, Tryz.ntmps45
  go_wp2_with fail
  go_loopw [5] (fun iv wr => ∃ i : Nat, i ≤ l.length ∧ iv = .int .i64 i ∧ wr = w ∧ Hid (∀ j, j < i → ∀ y, l[j]? = some y → y.1 ≠ a)) (fun iv _ => l.length - (RowKit.intOf iv).toNat)
  case atStart => exact ⟨0, Nat.zero_le _, rfl, rfl, Lib.hid fun j hj => by omega⟩
  case round =>
    obtain ⟨i, hiL, rfl, rfl, hno⟩ := hrel
    by_cases hil : i < l.length
    · have hilI : (i : Int) < l.length := by omega
      obtain ⟨⟨x, y⟩, hx⟩ : ∃ x, l[i]? = some x := ⟨_, List.getElem?_eq_getElem hil⟩
      obtain ⟨g, rfl, hb, c0, c1, _⟩ := HC.out i _ hx
      dsimp only at c0 c1
      have g0 := block_lt c0
      have HX := Lib.hid hx
      clear hx
      by_cases hxa : x = a
      · have hxb : (x == a) = true := by rw [beq_iff_eq]; exact hxa
        have HXA := Lib.hid hxa
        clear hxa
        go_wp2_with fail
        go_ret
        refine ⟨?_, rfl⟩
        have e := atL_at l i (x, y) HX.out (fun j hj z hz => by rw [show (x, y).1 = a from HXA.out]; exact hno.out j hj z hz)
        have e2 : atL l a = y := by rw [← HXA.out]; exact e
        rw [e2]
        rfl
      · have hxb : (x == a) = false := by rw [beq_eq_false_iff_ne]; exact hxa
        have HXA := Lib.hid hxa
        clear hxa
        go_wp2_with fail
        go_roundw
        case rel => exact ⟨_, hil, by first | rfl | go_num, by first | rfl | trivial, Lib.hid fun j hj z hz => by
            rcases Nat.lt_succ_iff_lt_or_eq.1 hj with h | h
            · exact hno.out j h z hz
            · subst h
              have := hz.symm.trans HX.out
              simp at this
              subst this
              exact HXA.out⟩
        case measure => simp [RowKit.intOf]; omega
    · obtain rfl : i = l.length := by omega
      go_wp2_with fail
      go_ret
      refine ⟨?_, rfl⟩
      have e2 := atL_none l a fun y hy => by
        obtain ⟨j, hj, e⟩ := List.getElem_of_mem hy
        exact hno.out j hj y (by rw [← e]; exact List.getElem?_eq_getElem hj)
      rw [e2]
      rfl

/-- Blocks that hold no cells of a memory's list stay, but for the memory's own. -/
def FarR (qm : Nat) (w w' : World) : Prop := ∀ k o, Has w k o → k ≠ qm → (∀ cur fz, o ≠ .cells cur 43 fz) → Has w' k o

theorem FarR.refl (qm : Nat) (w : World) : FarR qm w w := fun _ _ h _ _ => h

theorem FarR.trans {qm : Nat} {a b c : World} (h : FarR qm a b) (k : FarR qm b c) : FarR qm a c := fun j o h1 h2 h3 => k j o (h j o h1 h2 h3) h2 h3

theorem own_type {w : World} {base : Nat} {e : TypeId} {size : Nat} {v : Value} {n : Nat} {xs : List Value} (h : OwnC w base e size v n xs) {g : Nat} (hg : v.ownBlock = some g) : ∃ cur, Has w g (.cells cur e) := by
  rcases h.2 with ⟨rfl, _⟩ | ⟨g', cap, cur, rfl, _, hgg, _⟩
  · simp [Value.ownBlock] at hg
  · simp [Value.ownBlock] at hg
    subst hg
    exact ⟨cur, hgg⟩

theorem own_ne {w : World} {base : Nat} {e : TypeId} {size : Nat} {v : Value} {n : Nat} {xs : List Value} (h : OwnC w base e size v n xs) {k : Nat} {o : Obj} (hk : Has w k o) (ho : ∀ cur fz, o ≠ .cells cur e fz) : v.ownBlock ≠ some k := fun hg => by
  obtain ⟨cur, hc⟩ := own_type h hg
  exact ho cur _ (Option.some.inj (hk.symm.trans hc))

/-- What comes of laying into the reference's memory. -/
def RetPut (base qm n : Nat) (M : Int → Int) (w : World) (e : Ending) (w' : World) : Prop := e = .returned (.tuple #[]) ∧ RefAt w' base qm n M ∧ Below base w w' ∧ FarR qm w w'

set_option maxHeartbeats 2000000 in
set_option maxRecDepth 100000 in
theorem put_ref (base qm n : Nat) (M : Int → Int) (a v : Int) (hn : n < 100000) (h0 : 0 ≤ a) (h1 : a < 4294967296) (v0 : 0 ≤ v) (v1 : v < 256) (w : World) (h : RefAt w base qm n M) :
    Calls Tryz.prog 40 #[.pointer (some ⟨qm, 0, none⟩), .int .u32 a, .int .u8 v] w (RetPut base qm (n + 1) (updM M a v) w) := by
  obtain ⟨u, l, hq, hbq, ho, hne, hl, rfl, hnd, hcs⟩ := h
  obtain ⟨A, c, rfl, hc1, hc2, hcell⟩ := rowC ho
  have q0 := hq.cell 0 _ rfl
  have qf := hq.free 0
  have HC := Lib.hid hcell
  have HO := Lib.hid ho
  have HQ := Lib.hid hq
  have HND := Lib.hid (putL_nodup a v l hnd)
  have HCS := Lib.hid (putL_cells hcs h0 h1 v0 v1)
  have HL := Lib.hid (putL_length a v l)
  have HAT := Lib.hid (atL_put a v l)
  have HNE := Lib.hid hne
  obtain ⟨i0, hi, hz0, hz1, hz2⟩ := info_parts infoCell
  have hll : l.length < 100000 := by omega
  have hmax : (100000 : Nat) ≤ maxLen := by decide
  have hbw : base ≤ w.heap.size := Nat.le_of_lt (Nat.lt_of_le_of_lt hbq hq.lt)
  clear hcell ho hq hnd hcs hne
  go_enter Tryz.func40, Tryz.ntmps40
  go_wp2_with fail
  go_loopw [6] (fun iv wr => ∃ i : Nat, i ≤ l.length ∧ iv = .int .i64 i ∧ wr = w ∧ Hid (∀ j, j < i → ∀ y, l[j]? = some y → y.1 ≠ a)) (fun iv _ => l.length - (RowKit.intOf iv).toNat)
  case atStart => exact ⟨0, Nat.zero_le _, rfl, rfl, Lib.hid fun j hj => by omega⟩
  case round =>
    obtain ⟨i, hiL, rfl, rfl, hno⟩ := hrel
    by_cases hil : i < l.length
    · have hilI : (i : Int) < l.length := by omega
      obtain ⟨⟨x, y⟩, hx⟩ : ∃ x, l[i]? = some x := ⟨_, List.getElem?_eq_getElem hil⟩
      obtain ⟨g, rfl, hb, c0, c1, hf⟩ := HC.out i _ hx
      have f1 := hf (i * 2 + 1)
      dsimp only at c0 c1
      have g0 := block_lt c0
      have HX := Lib.hid hx
      clear hx hf
      by_cases hxa : x = a
      · have hxb : (x == a) = true := by rw [beq_iff_eq]; exact hxa
        have HXA := Lib.hid hxa
        have HE := Lib.hid (putL_hit a v l i (x, y) HX.out hxa hno.out)
        clear hxa
        go_wp2_with fail
        refine bodyPost_ret (results_none rfl _ _ _) rfl ?_
        have hgq : qm ≠ g := fun e => HNE.out (by rw [e]; rfl)
        refine ⟨rfl, ⟨_, putL l a v, (HQ.out.far (p := ⟨g, i * 2 + 1, none⟩) hgq (.int .u8 v)), hbq, ?_, HNE.out, ?_, HAT.out.symm, HND.out, HCS.out⟩, (Below.refl _ _).setCell hb _, fun k o hk _ ho => hk.far (p := ⟨g, i * 2 + 1, none⟩) (fun e => own_ne HO.out hk ho (by rw [e]; rfl)) _⟩
        · have h2 := HO.out.store (i * 2 + 1) (.int .u8 v) (by omega)
          rw [cellC_set l i (x, y) v HX.out] at h2
          rw [HE.out, List.length_set]
          rw [show a = (x, y).1 from HXA.out.symm]
          exact h2
        · rw [HE.out, List.length_set]; omega
      · have hxb : (x == a) = false := by rw [beq_eq_false_iff_ne]; exact hxa
        have HXA := Lib.hid hxa
        clear hxa
        go_wp2_with fail
        go_roundw
        case rel => exact ⟨_, hil, by first | rfl | go_num, by first | rfl | trivial, Lib.hid fun j hj z hz => by
            rcases Nat.lt_succ_iff_lt_or_eq.1 hj with h | h
            · exact hno.out j h z hz
            · subst h
              have := hz.symm.trans HX.out
              simp at this
              subst this
              exact HXA.out⟩
        case measure => simp [RowKit.intOf]; omega
    · obtain rfl : i = l.length := by omega
      have HE := Lib.hid (putL_miss a v l fun y hy => by
        obtain ⟨j, hj, e⟩ := List.getElem_of_mem hy
        exact hno.out j hj y (by rw [← e]; exact List.getElem?_eq_getElem hj))
      clear hno
      go_wp2_with (at_builtin; refine wpList_append_c _ rfl _ _ 24 rfl base 43 i0 (.agg #[.int .u32 0, .int .u8 0]) 2 8 Tryz.underlying24 hi hz0 hz1 hz2 rfl (by decide) _ _ _ rfl (HO.out.alloc _) (some ⟨wr.heap.size, 0, none⟩) 1 1 [.int .u32 a, .int .u8 v] rfl rfl (Or.inr ⟨_, rfl, ?c1⟩) ?c2 ?c3 ?c4 ?c5 ?_)
      case c1 => exact cell_two_new _ _ _ _
      case c2 => intro u hu; simp at hu; rcases hu with rfl | rfl <;> rfl
      case c3 => have := hmax; omega
      case c4 => omega
      case c5 => simp; omega
      intro v' w3 hO3 hg3 hv3
      obtain ⟨g', cap', rfl, _, _, _⟩ := hO3.some (by omega)
      have hq3 : Has w3 qm (.cells #[.slice A l.length c] 83) := (hg3.block qm (by have := HQ.out.lt; simp; omega) (fun e => HNE.out e.symm)).trans (HQ.out.alloc _)
      have HB3 := Lib.hid (show Below base wr w3 from Below.grown ((Below.refl base wr).alloc hbw _) hg3 (by simp; omega) (fun j hj => (HO.out.lt j hj).1))
      have HV3 := Lib.hid (show (Value.slice (some ⟨g', 0, none⟩) (l.length + 1) cap').ownBlock ≠ some qm by
        rcases hv3 with e | e
        · rw [e]; exact HNE.out
        · rw [e]
          have := HQ.out.lt
          simp
          omega)
      have HF3 := Lib.hid (show FarR qm wr w3 from fun k o hk _ ho => (hg3.block k (by have := hk.lt; simp; omega) (fun e => own_ne HO.out hk ho e.symm)).trans (hk.alloc _))
      have q3 := hq3.cell 0 _ rfl
      have f3 := hq3.free 0
      have HQ3 := Lib.hid (hq3.put 0 (.slice (some ⟨g', 0, none⟩) (l.length + 1) cap'))
      have HO3 := Lib.hid hO3
      have hz3 := hq3.lt
      clear hO3 hg3 hv3 hq3
      go_wp2_with fail
      go_end0
      refine ⟨rfl, ⟨_, putL l a v, HQ3.out, hbq, ?_, HV3.out, ?_, HAT.out.symm, HND.out, HCS.out⟩, HB3.out.setCell hbq _, fun k o hk hq ho => (HF3.out k o hk hq ho).far (p := ⟨qm, 0, none⟩) hq _⟩
      · rw [HE.out, List.length_append, List.flatMap_append]
        refine HO3.out.kept fun k hk hv => ?_
        exact Below.heap_setCell w3 ⟨qm, 0, none⟩ _ k (fun e => HV3.out (by rw [hv, e]))
      · rw [HE.out, List.length_append]
        simp
        omega

end Go.Proofs.YtndpgakjpokllaaGreat

/- typecaseref02: Held, Load, Store, New. -/
namespace Go.Proofs.YtndpgakjpokllaaGreat
open Go.RowKit Go.Maps
set_option linter.unusedVariables false
set_option linter.unusedSimpArgs false

theorem held_any (k : Nat) (hk : k ≤ 4) (w : World) : Calls Tryz.prog 44 #[.int .i64 k] w fun e w' => e = .returned (.int .i64 k) ∧ w' = w := by
  have h1 : (0 : Int) ≤ k := by omega
  have h2 : (k : Int) ≤ 4 := by omega
  go_enter Tryz.func44, Tryz.ntmps44
  go_wp2_with fail
  go_ret
  exact ⟨rfl, rfl⟩

/-- Bytes from the m-th on are a number. -/
def fromM (M : Int → Int) (a : Int) : Nat → Nat → Int
  | _, 0 => 0
  | m, c + 1 => M ((a + m) % 4294967296) + 256 * fromM M a (m + 1) c

theorem fromM_bounds {M : Int → Int} (h : Bytes M) (a : Int) : ∀ c m, 0 ≤ fromM M a m c ∧ fromM M a m c < 256 ^ c
  | 0, m => by simp [fromM]
  | c + 1, m => by
    obtain ⟨h1, h2⟩ := fromM_bounds h a c (m + 1)
    obtain ⟨h3, h4⟩ := h ((a + m) % 4294967296) (by omega) (by omega)
    unfold fromM
    rw [Int.pow_succ]
    omega

theorem fromM_load (M : Int → Int) (a : Int) (k : Nat) (hk : k ≤ 4) : fromM M a 0 k = loadM M a k := by
  obtain rfl | rfl | rfl | rfl | rfl : k = 0 ∨ k = 1 ∨ k = 2 ∨ k = 3 ∨ k = 4 := by omega
  all_goals simp [fromM, loadM]
  all_goals omega

set_option maxHeartbeats 1000000 in
theorem load_ref (base qm n : Nat) (M : Int → Int) (a : Int) (k : Nat) (hk : k ≤ 4) (hn : n ≤ 100000) (h0 : 0 ≤ a) (h1 : a < 4294967296) (w : World) (h : RefAt w base qm n M) :
    Calls Tryz.prog 24 #[.pointer (some ⟨qm, 0, none⟩), .int .u32 a, .int .i64 k] w fun e w' => e = .returned (.int .u32 (loadM M a k)) ∧ w' = w := by
  have H := Lib.hid h
  have HB := Lib.hid h.bytes
  clear h
  go_enter Tryz.func24, Tryz.ntmps24
  go_wp2_with (go_at_call 44; refine (held_any k hk _).mono ?_; rintro e w' ⟨rfl, hw⟩; rw [hw]; clear hw)
  go_loopw [7, 8] (fun vv iv wr => ∃ m : Nat, m ≤ k ∧ vv = .int .u32 (fromM M a m (k - m)) ∧ iv = .int .i64 ((m : Int) - 1) ∧ wr = w) (fun _ iv _ => (RowKit.intOf iv + 1).toNat)
  case atStart => exact ⟨k, Nat.le_refl _, by rw [Nat.sub_self]; rfl, rfl, rfl⟩
  case round =>
    obtain ⟨m, hm, rfl, rfl, hwr⟩ := hrel
    rw [hwr]
    clear hwr
    cases m with
    | zero =>
      go_wp2_with fail
      go_ret
      rw [← fromM_load M a k hk]
      exact ⟨rfl, rfl⟩
    | succ m =>
      obtain ⟨b1, b2⟩ := fromM_bounds HB.out a (k - (m + 1)) (m + 1)
      obtain ⟨b3, b4⟩ := HB.out ((a + m) % 4294967296) (by omega) (by omega)
      have b5 : fromM M a (m + 1) (k - (m + 1)) < 16777216 := by
        have : k - (m + 1) ≤ 3 := by omega
        obtain h2 | h2 | h2 | h2 : k - (m + 1) = 0 ∨ k - (m + 1) = 1 ∨ k - (m + 1) = 2 ∨ k - (m + 1) = 3 := by omega
        all_goals
          rw [h2] at b2 ⊢
          omega
      have HE := Lib.hid (show fromM M a m (k - m) = M ((a + m) % 4294967296) + 256 * fromM M a (m + 1) (k - (m + 1)) by
        rw [show k - m = (k - (m + 1)) + 1 by omega]
        rfl)
      obtain ⟨V, hV⟩ : ∃ x, fromM M a (m + 1) (k - (m + 1)) = x := ⟨_, rfl⟩
      rw [hV] at b1 b5 HE
      rw [hV]
      obtain ⟨C, hC⟩ : ∃ x, M ((a + m) % 4294967296) = x := ⟨_, rfl⟩
      have CC := Lib.hid (at_ref base qm n M ((a + m) % 4294967296) hn w H.out)
      rw [hC] at b3 b4 HE CC
      clear b2 hV hC
      have hm3 : (m : Int) ≤ 3 := by omega
      have hm0 : (0 : Int) ≤ m := by omega
      go_wp2_with (go_at_call 45; refine CC.out.mono ?_; rintro e w' ⟨rfl, hw⟩; rw [hw]; clear hw)
      go_roundw
      case rel => exact ⟨m, by omega, by rw [HE.out]; congr 1; omega, by first | rfl | (congr 1; omega), by first | rfl | trivial⟩
      case measure => simp [RowKit.intOf]

set_option maxHeartbeats 1000000 in
theorem store_ref (base qm n : Nat) (M : Int → Int) (a v : Int) (k : Nat) (hn : n + k ≤ 100000) (hk : k ≤ 4) (h0 : 0 ≤ a) (h1 : a < 4294967296) (v0 : 0 ≤ v) (v1 : v < 4294967296) (w : World) (h : RefAt w base qm n M) :
    Calls Tryz.prog 36 #[.pointer (some ⟨qm, 0, none⟩), .int .u32 a, .int .i64 k, .int .u32 v] w (RetPut base qm (n + k) (storeM M a v k) w) := by
  have H := Lib.hid h
  clear h
  go_enter Tryz.func36, Tryz.ntmps36
  go_wp2_with fail
  go_loopw [3, 8] (fun vv iv wr => ∃ i : Nat, i ≤ k ∧ vv = .int .u32 (v / 256 ^ i) ∧ iv = .int .i64 i ∧ RefAt wr base qm (n + i) (storeM M a v i) ∧ Below base w wr ∧ FarR qm w wr) (fun _ iv _ => k - (RowKit.intOf iv).toNat)
  case atStart => exact ⟨0, Nat.zero_le _, by simp, rfl, H.out, Below.refl _ _, FarR.refl _ _⟩
  case round =>
    obtain ⟨i, hi, rfl, rfl, hm, hg, hf⟩ := hrel
    have HM := Lib.hid hm
    have HG := Lib.hid hg
    have HF := Lib.hid hf
    clear hm hg hf
    by_cases hik : i < k
    · have hikI : (i : Int) < k := by omega
      have hi0 : (0 : Int) ≤ i := by omega
      have hi3 : (i : Int) ≤ 3 := by omega
      obtain ⟨V, hV⟩ : ∃ x, v / 256 ^ i = x := ⟨_, rfl⟩
      have hp : (0 : Int) < 256 ^ i := Int.pow_pos (by decide)
      have V0 : 0 ≤ V := by rw [← hV]; exact Int.ediv_nonneg v0 (Int.le_of_lt hp)
      have V1 : V < 4294967296 := by
        have := Int.ediv_le_self (256 ^ i) v0
        omega
      have HV2 := Lib.hid (show v / 256 ^ (i + 1) = V / 256 by rw [Int.pow_succ, ← Int.ediv_ediv_of_nonneg (Int.le_of_lt hp), hV])
      have C := Lib.hid (put_ref base qm (n + i) (storeM M a v i) ((a + i) % 4294967296) (v / 256 ^ i % 256) (by omega) (by omega) (by omega) (by omega) (by omega) wr HM.out)
      rw [hV] at C
      rw [hV]
      have HE := Lib.hid (show storeM M a v (i + 1) = updM (storeM M a v i) ((a + i) % 4294967296) (V % 256) by rw [← hV]; rfl)
      clear hV hp
      go_wp2_with (first | (go_at_call 44; refine (held_any k hk _).mono ?_; rintro e w' ⟨rfl, hw⟩; rw [hw]; clear hw) | (go_at_call 40; refine C.out.mono ?_; rintro e w2 ⟨rfl, hm2, hg2, hf2⟩))
      go_roundw
      case rel => exact ⟨i + 1, hik, by rw [HV2.out], by first | rfl | go_num, by rw [HE.out]; exact hm2, HG.out.trans hg2, HF.out.trans hf2⟩
      case measure => simp [RowKit.intOf]; omega
    · obtain rfl : i = k := by omega
      go_wp2_with (go_at_call 44; refine (held_any i hk _).mono ?_; rintro e w' ⟨rfl, hw⟩; rw [hw]; clear hw)
      go_end0
      exact ⟨rfl, HM.out, HG.out, HF.out⟩

/-- A new memory. -/
def RetRef (n : Nat) (M : Int → Int) (w : World) (e : Ending) (w' : World) : Prop := ∃ qm, e = .returned (.pointer (some ⟨qm, 0, none⟩)) ∧ RefAt w' w.heap.size qm n M ∧ Nx w w'

theorem RefAt.made (w : World) : RefAt (w.alloc (.cells #[.slice none 0 0] 83)) w.heap.size w.heap.size 0 (fun _ => 0) :=
  ⟨.slice none 0 0, [], Has.new w _, Nat.le_refl _, OwnC.nil _ _ _ _, by simp [Value.ownBlock], Nat.le_refl _, rfl, List.nodup_nil, fun x hx => by cases hx⟩

set_option maxHeartbeats 2000000 in
theorem new_ref (v : Value) (L : List (Int × Int)) (hL : IsCells L) (hn : L.length ≤ 100000) (w : World) (h : CellsAt w v L) : Calls Tryz.prog 19 #[v] w (RetRef L.length (memOf L) w) := by
  obtain ⟨A, c, rfl, hc1, hc2, hcell⟩ := h.form
  have HC := Lib.hid hcell
  clear h hcell
  go_enter Tryz.func19, Tryz.ntmps19
  go_wp2_with fail
  go_loopw [4] (fun iv wr => ∃ i : Nat, i ≤ L.length ∧ iv = .int .i64 i ∧ RefAt wr w.heap.size w.heap.size i (memOf (L.take i)) ∧ Nx w wr) (fun iv _ => L.length - (RowKit.intOf iv).toNat)
  case atStart => exact ⟨0, Nat.zero_le _, rfl, RefAt.made w, (Nx.refl w).alloc _⟩
  case round =>
    obtain ⟨i, hi, rfl, hm, hnx⟩ := hrel
    have HM := Lib.hid hm
    have HNX := Lib.hid hnx
    clear hm hnx
    by_cases hil : i < L.length
    · obtain ⟨⟨x, y⟩, hx⟩ : ∃ x, L[i]? = some x := ⟨_, List.getElem?_eq_getElem hil⟩
      have hilI : (i : Int) < L.length := by omega
      obtain ⟨x0, x1, y0, y1⟩ := hL _ (List.mem_of_getElem? hx)
      obtain ⟨g, o, rfl, c0, c1⟩ := HC.out i _ hx
      dsimp only at x0 x1 y0 y1 c0 c1
      have c0 := HNX.out.cell c0
      have c1 := HNX.out.cell c1
      have g0 := block_lt c0
      have HE := Lib.hid (memOf_snoc L i _ hx)
      clear hx
      obtain ⟨wo, hwo⟩ : ∃ x, x = wr := ⟨_, rfl⟩
      subst hwo
      have C := Lib.hid (fun (wx : World) (hwx : Nx wo wx) => put_ref w.heap.size w.heap.size i (memOf (L.take i)) x y (by omega) x0 x1 y0 y1 wx (HM.out.nx hwx))
      go_upto_region 5 with fail
      go_region_with (go_at_call 40; refine (C.out _ ((Nx.refl _).drew)).mono ?_; rintro e w2 ⟨rfl, hm2, hb2, _⟩)
      all_goals
        go_wp2_with fail
        go_roundw
        case rel => exact ⟨i + 1, hil, by first | rfl | go_num, by rw [HE.out]; exact hm2, Below.trans (Below.drew HNX.out) hb2⟩
        case measure => simp [RowKit.intOf]; omega
    · obtain rfl : i = L.length := by omega
      go_wp2_with fail
      go_ret
      refine ⟨w.heap.size, rfl, ?_, HNX.out⟩
      have := HM.out
      rwa [List.take_length] at this

end Go.Proofs.YtndpgakjpokllaaGreat

/- typecaseref02: Same; what Cells sorts, plain. -/
namespace Go.Proofs.YtndpgakjpokllaaGreat
open Go.RowKit Go.Maps
set_option linter.unusedVariables false
set_option linter.unusedSimpArgs false

theorem neq_cell (a b : Int) (w : World) : (binOp .neq 43 (.agg #[.int .u32 a, .int .u8 b]) (.agg #[.int .u32 a, .int .u8 b])).run Tryz.prog w = .ok (.bool false) w := by
  simp [go_sem]

set_option maxHeartbeats 1000000 in
set_option maxRecDepth 100000 in
theorem same_ref (v u : Value) (L : List (Int × Int)) (hL : L.length ≤ 100000) (w : World) (h1 : CellsAt w v L) (h2 : CellsAt w u L) :
    Calls Tryz.prog 20 #[v, u] w fun e w' => e = .returned (.bool true) ∧ Nx w w' := by
  obtain ⟨A1, d1, rfl, _, _, hc1⟩ := h1.form
  obtain ⟨A2, d2, rfl, _, _, hc2⟩ := h2.form
  have HC1 := Lib.hid hc1
  have HC2 := Lib.hid hc2
  have bl : ((L.length : Int) != L.length) = false := by simp
  clear h1 h2 hc1 hc2
  go_enter Tryz.func20, Tryz.ntmps20
  go_wp2_with fail
  go_loopw [5] (fun iv wr => ∃ i : Nat, i ≤ L.length ∧ iv = .int .i64 i ∧ Nx w wr) (fun iv _ => L.length - (RowKit.intOf iv).toNat)
  case atStart => exact ⟨0, Nat.zero_le _, rfl, Nx.refl w⟩
  case round =>
    obtain ⟨i, hi, rfl, hnx⟩ := hrel
    have HNX := Lib.hid hnx
    clear hnx
    by_cases hlt : i < L.length
    · have hilI : (i : Int) < L.length := by omega
      obtain ⟨⟨x, y⟩, hx⟩ : ∃ x, L[i]? = some x := ⟨_, List.getElem?_eq_getElem hlt⟩
      obtain ⟨g1, o1, rfl, a1, b1⟩ := HC1.out i _ hx
      obtain ⟨g2, o2, rfl, a2, b2⟩ := HC2.out i _ hx
      dsimp only at a1 b1 a2 b2
      have a1 := HNX.out.cell a1
      have b1 := HNX.out.cell b1
      have a2 := HNX.out.cell a2
      have b2 := HNX.out.cell b2
      have z1 := block_lt a1
      have z2 := block_lt a2
      have q := fun w => neq_cell x y w
      clear hx
      go_wp2_with fail
      go_quiet (fail)
      go_wp2_with fail
      go_roundw
      case rel => exact ⟨i + 1, by omega, by go_num, HNX.out.drewN _⟩
      case measure => simp [RowKit.intOf]; omega
    · obtain rfl : i = L.length := by omega
      go_wp2_with fail
      go_ret
      exact ⟨rfl, HNX.out⟩

/-- Rising addresses. -/
def Rise (out : List (Int × Int)) : Prop := out.Pairwise fun x y => x.1 < y.1

/-- What is sorted so far. -/
def SortedTo (l : List (Int × Int)) (i : Nat) (out : List (Int × Int)) : Prop := Rise out ∧ ∀ y, y ∈ out ↔ y ∈ l.take i ∧ y.2 ≠ 0

theorem SortedTo.start (l : List (Int × Int)) : SortedTo l 0 [] := ⟨List.Pairwise.nil, fun y => by simp⟩

theorem SortedTo.skip {l : List (Int × Int)} {i : Nat} {out : List (Int × Int)} (h : SortedTo l i out) {x : Int × Int} (hx : l[i]? = some x) (h0 : x.2 = 0) : SortedTo l (i + 1) out := by
  refine ⟨h.1, fun y => ?_⟩
  rw [h.2 y, take_snoc' l i x hx, List.mem_append, List.mem_singleton]
  constructor
  · exact fun k => ⟨.inl k.1, k.2⟩
  · rintro ⟨k | k, k2⟩
    · exact ⟨k, k2⟩
    · subst k; exact absurd h0 k2

theorem SortedTo.put {l : List (Int × Int)} {i : Nat} {out : List (Int × Int)} (h : SortedTo l i out) (hnd : (l.map Prod.fst).Nodup) {x : Int × Int} (hx : l[i]? = some x) (h0 : x.2 ≠ 0) {k : Nat} (hk : k ≤ out.length)
    (ha : ∀ j y, out[j]? = some y → k ≤ j → x.1 < y.1) (hb : k = 0 ∨ ∃ y, out[k - 1]? = some y ∧ y.1 ≤ x.1) : SortedTo l (i + 1) (out.take k ++ x :: out.drop k) := by
  have hnew : ∀ y ∈ out, y.1 ≠ x.1 := fun y hy e => by
    have h1 := ((h.2 y).1 hy).1
    have h2 : l = l.take i ++ x :: l.drop (i + 1) := by
      obtain ⟨hi, e⟩ := List.getElem?_eq_some_iff.1 hx
      rw [← e, List.getElem_cons_drop, List.take_append_drop]
    rw [h2, List.map_append, List.map_cons] at hnd
    have h3 := (List.nodup_append.1 hnd).2.2 y.1 (List.mem_map_of_mem h1) x.1 List.mem_cons_self
    exact h3 e
  have hsm : ∀ y ∈ out.take k, y.1 < x.1 := fun y hy => by
    obtain ⟨j, hj, e⟩ := List.getElem_of_mem hy
    rw [List.length_take] at hj
    rw [List.getElem_take] at e
    rcases hb with rfl | ⟨z, hz, hzx⟩
    · omega
    · have hz2 := hnew z (List.mem_of_getElem? hz)
      have hjo : j < out.length := by omega
      rcases Nat.lt_or_ge j (k - 1) with h3 | h3
      · have := List.pairwise_iff_getElem.1 h.1 j (k - 1) hjo (by omega) h3
        rw [e] at this
        obtain ⟨hk1, e2⟩ := List.getElem?_eq_some_iff.1 hz
        rw [e2] at this
        omega
      · obtain rfl : j = k - 1 := by omega
        obtain ⟨hk1, e2⟩ := List.getElem?_eq_some_iff.1 hz
        rw [e] at e2
        subst e2
        omega
  have hgr : ∀ y ∈ out.drop k, x.1 < y.1 := fun y hy => by
    obtain ⟨j, hj, e⟩ := List.getElem_of_mem hy
    rw [List.length_drop] at hj
    rw [List.getElem_drop] at e
    exact ha (k + j) y (by rw [← e]; exact List.getElem?_eq_getElem (by omega)) (by omega)
  refine ⟨?_, fun y => ?_⟩
  · refine List.pairwise_append.2 ⟨h.1.sublist (List.take_sublist _ _), List.pairwise_cons.2 ⟨hgr, h.1.sublist (List.drop_sublist _ _)⟩, fun a hat b hbt => ?_⟩
    rcases List.mem_cons.1 hbt with e | hbt
    · rw [e]; exact hsm a hat
    · have := hsm a hat
      have := hgr b hbt
      omega
  · have hm : y ∈ out.take k ++ x :: out.drop k ↔ y ∈ out ∨ y = x := by
      conv => rhs; rw [← List.take_append_drop k out]
      simp only [List.mem_append, List.mem_cons]
      constructor
      · rintro (h | h | h)
        · exact .inl (.inl h)
        · exact .inr h
        · exact .inl (.inr h)
      · rintro ((h | h) | h)
        · exact .inl h
        · exact .inr (.inr h)
        · exact .inr (.inl h)
    rw [hm, h.2 y, take_snoc' l i x hx, List.mem_append, List.mem_singleton]
    constructor
    · rintro (⟨h1, h2⟩ | rfl)
      · exact ⟨.inl h1, h2⟩
      · exact ⟨.inr rfl, h0⟩
    · rintro ⟨h1 | rfl, h2⟩
      · exact .inl ⟨h1, h2⟩
      · exact .inr rfl

theorem atL_mem : ∀ (l : List (Int × Int)), (l.map Prod.fst).Nodup → ∀ x ∈ l, atL l x.1 = x.2
  | z :: l, h, x, hx => by
    obtain ⟨h1, h2⟩ := List.nodup_cons.1 h
    unfold atL
    rcases List.mem_cons.1 hx with rfl | hx
    · rw [if_pos rfl]
    · rw [if_neg (fun e => h1 (by rw [e]; exact List.mem_map_of_mem hx))]
      exact atL_mem l h2 x hx

theorem atL_ne : ∀ (l : List (Int × Int)) (a : Int), atL l a ≠ 0 → (a, atL l a) ∈ l
  | [], a, h => absurd rfl h
  | z :: l, a, h => by
    by_cases hz : z.1 = a
    · have e : atL (z :: l) a = z.2 := by rw [atL, if_pos hz]
      rw [e]
      subst hz
      exact List.mem_cons_self
    · have e : atL (z :: l) a = atL l a := by rw [atL, if_neg hz]
      rw [e] at h ⊢
      exact List.mem_cons_of_mem _ (atL_ne l a h)

theorem SortedTo.cells {l : List (Int × Int)} {out : List (Int × Int)} (h : SortedTo l l.length out) (hnd : (l.map Prod.fst).Nodup) (hc : IsCells l) : CellsOf (atL l) out := by
  rw [SortedTo, List.take_length] at h
  obtain ⟨h1, h2⟩ := h
  refine ⟨out.map Prod.fst, ⟨?_, fun a => ?_, fun a ha => ?_⟩, ?_⟩
  · rw [List.pairwise_map]
    exact h1
  · constructor
    · intro ha
      obtain ⟨x, hx, rfl⟩ := List.mem_map.1 ha
      obtain ⟨h3, h4⟩ := (h2 x).1 hx
      rw [atL_mem l hnd x h3]
      exact h4
    · intro ha
      exact List.mem_map.2 ⟨(a, atL l a), (h2 _).2 ⟨atL_ne l a ha, ha⟩, rfl⟩
  · obtain ⟨x, hx, rfl⟩ := List.mem_map.1 ha
    have := hc x ((h2 x).1 hx).1
    exact ⟨this.1, this.2.1⟩
  · rw [List.map_map]
    conv => lhs; rw [← List.map_id out]
    refine List.map_congr_left fun x hx => ?_
    rw [Function.comp_apply, atL_mem l hnd x ((h2 x).1 hx).1]
    rfl

end Go.Proofs.YtndpgakjpokllaaGreat

