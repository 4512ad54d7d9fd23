/- Contracts of package typecaseref04: lists of bits, and the numbers of a word. -/
import Derived.Test.YtdgmdkkockbkjaaGreatDoorRefcb
import Derived.OwnWalk
namespace Go.Proofs.YtdgmdkkockbkjaaGreatDoor
open Go.RowKit
set_option linter.unusedVariables false

/-- The bits from a to b, downwards. -/
def dl (a b : Int) : List Int := (List.range (a - b + 1).toNat).map fun (k : Nat) => a - k

theorem int_info : (Tryz.prog.info? 3).map (fun i => (i.zero, i.size, i.bytes)) = some (some (.int .i64 0), 1, 8) := by kernel_rfl

theorem dl_take (a b : Int) (k : Nat) (h : k < (a - b + 1).toNat) : (dl a b).take (k + 1) = (dl a b).take k ++ [a - k] := by
  unfold dl
  rw [← List.map_take, ← List.map_take, List.take_range, List.take_range, Nat.min_eq_left (by omega), Nat.min_eq_left (by omega), List.range_succ]
  simp

theorem dl_len (a b : Int) : (dl a b).length = (a - b + 1).toNat := by simp [dl]

theorem Nx.grown {a w w' : World} {row : Option Nat} (h : Nx a w) (hg : w.grownBy w' row) (hr : ∀ k, row = some k → a.heap.size ≤ k) : Nx a w' := Below.grown h hg h.size hr

theorem own_block {w : World} {base : Nat} {e : TypeId} {size n : Nat} {v : Value} {xs : List Value} (h : w.ownsRow base e size v n xs) : ∀ k, v.ownBlock = some k → base ≤ k := by
  intro k hk
  rcases h.2 with ⟨rfl, _⟩ | ⟨g, cap, cur, rfl, hb, _⟩
  · simp [Value.ownBlock] at hk
  · simp [Value.ownBlock] at hk; omega

/-- The block g holds these ints, one a cell. -/
def Ints (w : World) (g : Nat) (l : List Int) : Prop := ∀ j x, l[j]? = some x → w.cell? ⟨g, j, none⟩ = some (.int .i64 x)

theorem Ints.keep {w w' : World} {g : Nat} {l : List Int} (h : Ints w g l) (hn : Nx w w') : Ints w' g l := fun j s hs => hn.cell (h j s hs)

theorem add0 (g j : Nat) : (⟨g, 0, none⟩ : Addr).add j = ⟨g, j, none⟩ := by
  unfold Addr.add; split
  · rename_i h; rw [h]
  · simp

theorem Ints.of_own {w : World} {base g cap : Nat} {e : TypeId} {l : List Int} (h : w.ownsRow base e 1 (.slice (some ⟨g, 0, none⟩) l.length cap) l.length (l.map (Value.int .i64))) : Ints w g l := by
  intro j x hx
  have := h.cells (g := g) rfl j (.int .i64 x) (by simp [hx])
  rw [add0] at this
  exact this

/-- The number of bits of a word, told from the highest on; below 0: a nought. -/
def hor (x : Int) : Int → List Int → Int
  | v, [] => v
  | v, i :: t => hor x (if 0 ≤ i then (2 * v % 4294967296 + fld x i.toNat 1) % 4294967296 else 2 * v % 4294967296) t

theorem hor_snoc (x v : Int) (l : List Int) (i : Int) : hor x v (l ++ [i]) = if 0 ≤ i then (2 * hor x v l % 4294967296 + fld x i.toNat 1) % 4294967296 else 2 * hor x v l % 4294967296 := by
  induction l generalizing v with
  | nil => rfl
  | cons a t ih => exact ih _

theorem hor_bd (x v : Int) (l : List Int) (h : 0 ≤ v ∧ v < 4294967296) : 0 ≤ hor x v l ∧ hor x v l < 4294967296 := by
  induction l generalizing v with
  | nil => exact h
  | cons a t ih => exact ih _ (by split <;> omega)

/-- A new slice of n ints, not nil, comes back. -/
def RetRow (w : World) (n : Nat) (l : List Int) (e : Ending) (w' : World) : Prop :=
  ∃ g cap, e = .returned (.slice (some ⟨g, 0, none⟩) n cap) ∧ w'.ownsRow w.heap.size 3 1 (.slice (some ⟨g, 0, none⟩) n cap) n (l.map (Value.int .i64)) ∧ Nx w w'

/-- What a new block holds is owned. -/
theorem own_new (w : World) (base n : Nat) (l : List Int) (hn : l.length = n) (hb : base ≤ w.heap.size) (hm : n ≤ 1000) :
    (w.alloc (.cells (l.map (Value.int .i64)).toArray 3)).ownsRow base 3 1 (.slice (some ⟨w.heap.size, 0, none⟩) n n) n (l.map (Value.int .i64)) := by
  subst hn
  refine ⟨by simp, .inr ⟨w.heap.size, _, (l.map (Value.int .i64)).toArray, rfl, hb, ?_, Nat.le_refl _, by unfold maxLen; omega, by simp, by simp [List.take_of_length_le]⟩⟩
  exact heap_alloc_new w _

/-- An owned row is kept where old blocks are. -/
theorem own_nx {w w' : World} {base n : Nat} {e : TypeId} {v : Value} {xs : List Value} (h : w.ownsRow base e 1 v n xs) (hn : Nx w w') : w'.ownsRow base e 1 v n xs := by
  obtain ⟨h1, h2⟩ := h
  refine ⟨h1, ?_⟩
  rcases h2 with h2 | ⟨g, cap, cur, hv, hb, hh, hc⟩
  · exact .inl h2
  · refine .inr ⟨g, cap, cur, hv, hb, ?_, hc⟩
    have hg : g < w.heap.size := by
      rcases Nat.lt_or_ge g w.heap.size with h | h
      · exact h
      · rw [Array.getElem?_eq_none h] at hh; cases hh
    rw [Below.block hn g hg]; exact hh

theorem news_of {w : World} {g : Nat} {l : List Int} (h : Ints w g l) : ∀ j u, (l.map (Value.int .i64))[j]? = some u → w.cell? ((⟨g, 0, none⟩ : Addr).add j) = some u := by
  intro j u hu
  rw [List.getElem?_map] at hu
  cases hx : l[j]? with
  | none => rw [hx] at hu; cases hu
  | some x => rw [hx] at hu; cases hu; rw [add0]; exact h j x hx

theorem one_cells (l : List Int) : ∀ u ∈ l.map (Value.int .i64), u.oneCell' = true := by
  intro u hu
  obtain ⟨x, _, rfl⟩ := List.mem_map.1 hu
  rfl

theorem own_row {w : World} {base n g cap : Nat} {e : TypeId} {l : List Int} (h : w.ownsRow base e 1 (.slice (some ⟨g, 0, none⟩) n cap) n (l.map (Value.int .i64))) (hn : l.length = n) : Ints w g l := by
  subst hn; exact Ints.of_own h

/-- append of one row of ints to another one, which is the call's own. -/
theorem wp_append_row {ops : Array Oper} {rest : List Oper} {o : Oper} {a : Act} {w : World} {Q : Exit → Act → World → Prop} (hgd : o.guard = none) (s x : Operand)
    (ho : o.op = .call { callee := .builtin .append, args := #[s, x], argTypes := #[162, 162] })
    (base g1 n1 c1 g2 n2 c2 n3 : Nat) (l1 l2 : List Int) (hs : a.eval s = .slice (some ⟨g1, 0, none⟩) n1 c1) (hx : a.eval x = .slice (some ⟨g2, 0, none⟩) n2 c2)
    (hown : w.ownsRow base 3 1 (.slice (some ⟨g1, 0, none⟩) n1 c1) n1 (l1.map (Value.int .i64))) (hl2 : l2.length = n2) (hi : Ints w g2 l2) (hn3 : n1 + n2 = n3) (hp : 0 < n3) (hsm : n3 ≤ 1000) (hbase : base ≤ w.heap.size)
    (h : ∀ g c w', w'.ownsRow base 3 1 (.slice (some ⟨g, 0, none⟩) n3 c) n3 ((l1 ++ l2).map (Value.int .i64)) → w.grownBy w' (some g1) → wpList Tryz.prog ops Q rest (a.put o.dst (.slice (some ⟨g, 0, none⟩) n3 c)) w') :
    wpList Tryz.prog ops Q (o :: rest) a w := by
  obtain ⟨i0, hi0, hz0, hz1, hz2⟩ := info_parts int_info
  refine wpList_append_own w hgd s x 162 ho base 3 i0 (.int .i64 0) 1 8 Tryz.underlying162 hi0 hz0 hz1 hz2 rfl (by decide) _ n1 _ hs hown ⟨g2, 0, none⟩ n2 c2 (l2.map (Value.int .i64)) hx (by simp [hl2]) (news_of hi) (one_cells l2) (by unfold maxLen; omega) (by omega) hbase ?_
  intro v' w' ho' hg _
  rw [hn3, ← List.map_append] at ho'
  rcases ho'.2 with ⟨_, h0⟩ | ⟨g, cap, cur, hv, _⟩
  · omega
  · rw [hv] at ho' ⊢
    exact h g cap w' ho' hg

end Go.Proofs.YtdgmdkkockbkjaaGreatDoor
