/- Parts of the proof, one behind the other. -/
import Derived.OwnWalk
import Derived.Test.YtndpgakjpokllaaGreatZsab
import Derived.Test.YtndpgakjpokllaaGreatZsah
/- Contracts of package typecaseref04: lists of bits, and the numbers of a word. -/
namespace Go.Proofs.YtndpgakjpokllaaGreat
open Go.RowKit
set_option linter.unusedVariables false
set_option maxRecDepth 100000

/-- A new slice of these ints comes back. -/
def RetInts (w : World) (l : List Int) (e : Ending) (w' : World) : Prop := ∃ v, e = .returned v ∧ w'.ownsRow w.heap.size 3 1 v l.length (l.map (Value.int .i64)) ∧ Nx w w'

/-- The bits from a to b, downwards. -/
def dl (a b : Int) : List Int := (List.range (a - b + 1).toNat).map fun (k : Nat) => a - k

theorem int_info : (Tryz.prog.info? 3).map (fun i => (i.zero, i.size, i.bytes)) = some (some (.int .i64 0), 1, 8) := by kernel_rfl

theorem dl_take (a b : Int) (k : Nat) (h : k < (a - b + 1).toNat) : (dl a b).take (k + 1) = (dl a b).take k ++ [a - k] := by
  unfold dl
  rw [← List.map_take, ← List.map_take, List.take_range, List.take_range, Nat.min_eq_left (by omega), Nat.min_eq_left (by omega), List.range_succ]
  simp

theorem dl_len (a b : Int) : (dl a b).length = (a - b + 1).toNat := by simp [dl]

theorem Nx.grown {a w w' : World} {row : Option Nat} (h : Nx a w) (hg : w.grownBy w' row) (hr : ∀ k, row = some k → a.heap.size ≤ k) : Nx a w' := Below.grown h hg h.size hr

theorem own_block {w : World} {base : Nat} {e : TypeId} {size n : Nat} {v : Value} {xs : List Value} (h : w.ownsRow base e size v n xs) : ∀ k, v.ownBlock = some k → base ≤ k := by
  intro k hk
  rcases h.2 with ⟨rfl, _⟩ | ⟨g, cap, cur, rfl, hb, _⟩
  · simp [Value.ownBlock] at hk
  · simp [Value.ownBlock] at hk; omega

set_option maxHeartbeats 1000000 in
theorem down_any (a b : Int) (w : World) (hb : 0 ≤ b) (ha : a ≤ 31) (hab : b ≤ a + 1) : Calls Tryz.prog 84 #[.int .i64 a, .int .i64 b] w (RetInts w (dl a b)) := by
  obtain ⟨i0, hi, hz0, hz1, hz2⟩ := info_parts int_info
  go_enter Tryz.func84, Tryz.ntmps84
  go_wp2
  go_loopw [5, 6] (fun v i wr => ∃ k : Nat, (k : Int) ≤ a - b + 1 ∧ i = .int .i64 (a - k) ∧ wr.ownsRow w.heap.size 3 1 v k (((dl a b).take k).map (Value.int .i64)) ∧ Nx w wr) (fun _ i _ => (Go.RowKit.intOf i - b + 1).toNat)
  case atStart => exact ⟨0, by omega, by simp, ⟨by simp, .inl ⟨rfl, rfl⟩⟩, Nx.refl _⟩
  case round =>
    obtain ⟨k, hk, rfl, hown, hnx⟩ := hrel
    by_cases hlt : (k : Int) < a - b + 1
    · have HT := Lib.hid (dl_take a b k (by omega))
      have hsz := hnx.size
      go_wp2_with (at_builtin; refine wpList_append_own _ rfl _ _ 117 rfl w.heap.size 3 i0 (.int .i64 0) 1 8 Tryz.underlying117 hi hz0 hz1 hz2 rfl (by decide) _ _ _ rfl (hown.alloc _) ⟨wr.heap.size, 0, none⟩ 1 1 [.int .i64 (a - k)] rfl rfl ?c1 ?c2 ?c3 ?c4 ?c5 ?_)
      case c1 => exact cell_one_new _ _ _
      case c2 => simp [Value.oneCell']
      case c3 => unfold maxLen; omega
      case c4 => omega
      case c5 => simp; omega
      intro v2 w2 hown2 hg2 _
      have hn2 : Nx w w2 := (hnx.alloc _).grown hg2 (own_block hown)
      have H2 := Lib.hid (show w2.ownsRow w.heap.size 3 1 v2 (k + 1) (((dl a b).take (k + 1)).map (Value.int .i64)) by rw [HT.out, List.map_append, List.map_take]; exact hown2)
      clear hown2 hg2 hown
      go_wp2
      go_roundw
      case rel => exact ⟨k + 1, by omega, congrArg _ (by omega), H2.out, hn2⟩
      case measure => simp [Go.RowKit.intOf]; omega
    · have e : k = (dl a b).length := by rw [dl_len]; omega
      have H2 := Lib.hid (show wr.ownsRow w.heap.size 3 1 u5 (dl a b).length ((dl a b).map (Value.int .i64)) by rw [← e]; rw [e, List.take_length, ← e] at hown; exact hown)
      clear e hown
      go_wp2
      go_ret
      exact ⟨u5, rfl, H2.out, hnx⟩

/-- The block g holds these ints, one a cell. -/
def Ints (w : World) (g : Nat) (l : List Int) : Prop := ∀ j x, l[j]? = some x → w.cell? ⟨g, j, none⟩ = some (.int .i64 x)

theorem Ints.keep {w w' : World} {g : Nat} {l : List Int} (h : Ints w g l) (hn : Nx w w') : Ints w' g l := fun j s hs => hn.cell (h j s hs)

theorem add0 (g j : Nat) : (⟨g, 0, none⟩ : Addr).add j = ⟨g, j, none⟩ := by
  unfold Addr.add; split
  · rename_i h; rw [h]
  · simp

theorem Ints.of_own {w : World} {base g cap : Nat} {e : TypeId} {l : List Int} (h : w.ownsRow base e 1 (.slice (some ⟨g, 0, none⟩) l.length cap) l.length (l.map (Value.int .i64))) : Ints w g l := by
  intro j x hx
  have := h.cells (g := g) rfl j (.int .i64 x) (by simp [hx])
  rw [add0] at this
  exact this

/-- The number of bits of a word, told from the highest on; below 0: a nought. -/
def hor (x : Int) : Int → List Int → Int
  | v, [] => v
  | v, i :: t => hor x (if 0 ≤ i then (2 * v % 4294967296 + fld x i.toNat 1) % 4294967296 else 2 * v % 4294967296) t

theorem hor_snoc (x v : Int) (l : List Int) (i : Int) : hor x v (l ++ [i]) = if 0 ≤ i then (2 * hor x v l % 4294967296 + fld x i.toNat 1) % 4294967296 else 2 * hor x v l % 4294967296 := by
  induction l generalizing v with
  | nil => rfl
  | cons a t ih => exact ih _

theorem hor_bd (x v : Int) (l : List Int) (h : 0 ≤ v ∧ v < 4294967296) : 0 ≤ hor x v l ∧ hor x v l < 4294967296 := by
  induction l generalizing v with
  | nil => exact h
  | cons a t ih => exact ih _ (by split <;> omega)

set_option maxHeartbeats 1000000 in
theorem bits_any (x : Int) (g n c : Nat) (l : List Int) (hn : l.length = n) (w : World) (hx : 0 ≤ x) (hx' : x < 4294967296) (hl : l.length ≤ 1000) (hi : Ints w g l) :
    Calls Tryz.prog 81 #[.int .u32 x, .slice (some ⟨g, 0, none⟩) n c] w fun e w' => e = .returned (.int .i32 (sgn (hor x 0 l) (cl n))) ∧ w = w' := by
  subst hn
  have HI := Lib.hid hi
  clear hi
  go_enter Tryz.func81, Tryz.ntmps81
  go_wp2
  go_loop [5, 6] (fun v i => ∃ k : Nat, k ≤ l.length ∧ i = .int .i64 k ∧ v = .int .u32 (hor x 0 (l.take k))) (fun _ i => l.length - (Go.RowKit.intOf i).toNat)
  case atStart => exact ⟨0, by omega, rfl, rfl⟩
  case round =>
    obtain ⟨k, hk, rfl, rfl⟩ := hrel
    obtain ⟨b1, b2⟩ := hor_bd x 0 (l.take k) (by omega)
    by_cases hlt : k < l.length
    · have hg : l[k]? = some l[k] := List.getElem?_eq_getElem hlt
      have hc := HI.out k _ hg
      have HS := Lib.hid (show hor x 0 (l.take (k + 1)) = _ by rw [take_snoc' l k _ hg, hor_snoc])
      clear hg
      generalize l[k] = i at *
      have f1 := fld_nonneg x i.toNat 1
      have f2 := fld_u32 x i.toNat 1 (by omega)
      by_cases h0 : 0 ≤ i
      · go_wp2_with (go_at_call 72; refine (rbit_any _ _ _ hx hx').mono ?_; rintro e w' ⟨rfl, rfl⟩)
        go_round
        case rel => exact ⟨k + 1, by omega, by go_num, congrArg _ (by rw [HS.out, if_pos h0])⟩
        case measure => simp [Go.RowKit.intOf]; omega
      · have h0' : decide (0 ≤ i) = false := by simpa using h0
        go_wp2
        go_round
        case rel => exact ⟨k + 1, by omega, by go_num, congrArg _ (by rw [HS.out, if_neg (by omega)])⟩
        case measure => simp [Go.RowKit.intOf]; omega
    · have e : k = l.length := by omega
      have HE := Lib.hid e
      clear e
      go_wp2_with (go_at_call 37; refine (rsign_any _ _ _ (by omega) (by omega)).mono ?_; rintro e w' ⟨rfl, rfl⟩)
      go_ret
      exact ⟨ret_i32 (by rw [HE.out, List.take_length]), rfl⟩

/-- A new slice of n ints, not nil, comes back. -/
def RetRow (w : World) (n : Nat) (l : List Int) (e : Ending) (w' : World) : Prop :=
  ∃ g cap, e = .returned (.slice (some ⟨g, 0, none⟩) n cap) ∧ w'.ownsRow w.heap.size 3 1 (.slice (some ⟨g, 0, none⟩) n cap) n (l.map (Value.int .i64)) ∧ Nx w w'

theorem down_row (a b : Int) (n : Nat) (l : List Int) (hl : dl a b = l) (hn : l.length = n) (hn0 : 0 < n) (w : World) (hb : 0 ≤ b) (ha : a ≤ 31) (hab : b ≤ a + 1) :
    Calls Tryz.prog 84 #[.int .i64 a, .int .i64 b] w (RetRow w n l) := by
  refine (down_any a b w hb ha hab).mono ?_
  rintro e w' ⟨v, rfl, ho, hx⟩
  rw [hl, hn] at ho
  rcases ho.2 with ⟨_, h0⟩ | ⟨g, cap, cur, hv, _⟩
  · omega
  · exact ⟨g, cap, by rw [hv], by rw [← hv]; exact ho, hx⟩

/-- What a new block holds is owned. -/
theorem own_new (w : World) (base n : Nat) (l : List Int) (hn : l.length = n) (hb : base ≤ w.heap.size) (hm : n ≤ 1000) :
    (w.alloc (.cells (l.map (Value.int .i64)).toArray 3)).ownsRow base 3 1 (.slice (some ⟨w.heap.size, 0, none⟩) n n) n (l.map (Value.int .i64)) := by
  subst hn
  refine ⟨by simp, .inr ⟨w.heap.size, _, (l.map (Value.int .i64)).toArray, rfl, hb, ?_, Nat.le_refl _, by unfold maxLen; omega, by simp, by simp [List.take_of_length_le]⟩⟩
  exact heap_alloc_new w _

/-- An owned row is kept where old blocks are. -/
theorem own_nx {w w' : World} {base n : Nat} {e : TypeId} {v : Value} {xs : List Value} (h : w.ownsRow base e 1 v n xs) (hn : Nx w w') : w'.ownsRow base e 1 v n xs := by
  obtain ⟨h1, h2⟩ := h
  refine ⟨h1, ?_⟩
  rcases h2 with h2 | ⟨g, cap, cur, hv, hb, hh, hc⟩
  · exact .inl h2
  · refine .inr ⟨g, cap, cur, hv, hb, ?_, hc⟩
    have hg : g < w.heap.size := by
      rcases Nat.lt_or_ge g w.heap.size with h | h
      · exact h
      · rw [Array.getElem?_eq_none h] at hh; cases hh
    rw [Below.block hn g hg]; exact hh

theorem news_of {w : World} {g : Nat} {l : List Int} (h : Ints w g l) : ∀ j u, (l.map (Value.int .i64))[j]? = some u → w.cell? ((⟨g, 0, none⟩ : Addr).add j) = some u := by
  intro j u hu
  rw [List.getElem?_map] at hu
  cases hx : l[j]? with
  | none => rw [hx] at hu; cases hu
  | some x => rw [hx] at hu; cases hu; rw [add0]; exact h j x hx

theorem one_cells (l : List Int) : ∀ u ∈ l.map (Value.int .i64), u.oneCell' = true := by
  intro u hu
  obtain ⟨x, _, rfl⟩ := List.mem_map.1 hu
  rfl

theorem own_row {w : World} {base n g cap : Nat} {e : TypeId} {l : List Int} (h : w.ownsRow base e 1 (.slice (some ⟨g, 0, none⟩) n cap) n (l.map (Value.int .i64))) (hn : l.length = n) : Ints w g l := by
  subst hn; exact Ints.of_own h

/-- append of one row of ints to another one, which is the call's own. -/
theorem wp_append_row {ops : Array Oper} {rest : List Oper} {o : Oper} {a : Act} {w : World} {Q : Exit → Act → World → Prop} (hgd : o.guard = none) (s x : Operand)
    (ho : o.op = .call { callee := .builtin .append, args := #[s, x], argTypes := #[117, 117] })
    (base g1 n1 c1 g2 n2 c2 n3 : Nat) (l1 l2 : List Int) (hs : a.eval s = .slice (some ⟨g1, 0, none⟩) n1 c1) (hx : a.eval x = .slice (some ⟨g2, 0, none⟩) n2 c2)
    (hown : w.ownsRow base 3 1 (.slice (some ⟨g1, 0, none⟩) n1 c1) n1 (l1.map (Value.int .i64))) (hl2 : l2.length = n2) (hi : Ints w g2 l2) (hn3 : n1 + n2 = n3) (hp : 0 < n3) (hsm : n3 ≤ 1000) (hbase : base ≤ w.heap.size)
    (h : ∀ g c w', w'.ownsRow base 3 1 (.slice (some ⟨g, 0, none⟩) n3 c) n3 ((l1 ++ l2).map (Value.int .i64)) → w.grownBy w' (some g1) → wpList Tryz.prog ops Q rest (a.put o.dst (.slice (some ⟨g, 0, none⟩) n3 c)) w') :
    wpList Tryz.prog ops Q (o :: rest) a w := by
  obtain ⟨i0, hi0, hz0, hz1, hz2⟩ := info_parts int_info
  refine wpList_append_own w hgd s x 117 ho base 3 i0 (.int .i64 0) 1 8 Tryz.underlying117 hi0 hz0 hz1 hz2 rfl (by decide) _ n1 _ hs hown ⟨g2, 0, none⟩ n2 c2 (l2.map (Value.int .i64)) hx (by simp [hl2]) (news_of hi) (one_cells l2) (by unfold maxLen; omega) (by omega) hbase ?_
  intro v' w' ho' hg _
  rw [hn3, ← List.map_append] at ho'
  rcases ho'.2 with ⟨_, h0⟩ | ⟨g, cap, cur, hv, _⟩
  · omega
  · rw [hv] at ho' ⊢
    exact h g cap w' ho' hg

end Go.Proofs.YtndpgakjpokllaaGreat

/- Contracts of package typecaseref04: the numbers of a word. -/
namespace Go.Proofs.YtndpgakjpokllaaGreat
open Go.RowKit
set_option linter.unusedVariables false

def rimmI (x : Int) : Int := sgn (hor x 0 [31, 30, 29, 28, 27, 26, 25, 24, 23, 22, 21, 20]) 12

set_option maxHeartbeats 1000000 in
theorem rimmI_any (x : Int) (w : World) (hx : 0 ≤ x) (hx' : x < 4294967296) : Calls Tryz.prog 55 #[.int .u32 x] w fun e w' => e = .returned (.int .i32 (rimmI x)) ∧ Nx w w' := by
  go_enter Tryz.func55, Tryz.ntmps55
  go_wp2_with fail
  refine (down_row 31 20 12 [31, 30, 29, 28, 27, 26, 25, 24, 23, 22, 21, 20] rfl rfl (by omega) _ (by omega) (by omega) (by omega)).mono ?_
  rintro e w1 ⟨gA, cA, rfl, oA, n1⟩
  have OA := Lib.hid oA
  clear oA
  have II := Lib.hid (own_row OA.out rfl)
  go_wp2_with fail
  refine (bits_any x gA 12 cA [31, 30, 29, 28, 27, 26, 25, 24, 23, 22, 21, 20] rfl w1 hx hx' (by decide) II.out).mono ?_
  rintro e w99 ⟨rfl, rfl⟩
  go_wp2
  go_ret
  exact ⟨ret_i32 rfl, n1⟩

def rimmS (x : Int) : Int := sgn (hor x 0 ([31, 30, 29, 28, 27, 26, 25] ++ [11, 10, 9, 8, 7])) 12

set_option maxHeartbeats 1000000 in
theorem rimmS_any (x : Int) (w : World) (hx : 0 ≤ x) (hx' : x < 4294967296) : Calls Tryz.prog 56 #[.int .u32 x] w fun e w' => e = .returned (.int .i32 (rimmS x)) ∧ Nx w w' := by
  go_enter Tryz.func56, Tryz.ntmps56
  go_wp2_with fail
  refine (down_row 31 25 7 [31, 30, 29, 28, 27, 26, 25] rfl rfl (by omega) _ (by omega) (by omega) (by omega)).mono ?_
  rintro e w1 ⟨gA, cA, rfl, oA, n1⟩
  have OA := Lib.hid oA
  clear oA
  go_wp2_with fail
  refine (down_row 11 7 5 [11, 10, 9, 8, 7] rfl rfl (by omega) _ (by omega) (by omega) (by omega)).mono ?_
  rintro e w2 ⟨gD, cD, rfl, oD, n2⟩
  have OD := Lib.hid oD
  clear oD
  have tok3 : True := trivial
  go_wp2_with (first | (at_builtin; have _t := tok3; have P3 := Lib.hid (own_nx OA.out n2); have I3 := Lib.hid ((own_row OD.out rfl).keep (Nx.refl w2)); refine wp_append_row rfl _ _ rfl w.heap.size (gA) 7 cA (gD) 5 cD 12 _ _ rfl rfl P3.out rfl I3.out rfl (by omega) (by omega) (Nx.size (n1.trans n2)) ?_; intro gR cR w3 oR gr3; have OR := Lib.hid oR; have n3 : Nx w w3 := Nx.grown (n1.trans n2) gr3 (fun k hk => by have e := Option.some.inj hk; subst e; exact own_block P3.out _ rfl); clear oR gr3; clear tok3))
  have II := Lib.hid (own_row OR.out rfl)
  go_wp2_with fail
  refine (bits_any x gR 12 cR ([31, 30, 29, 28, 27, 26, 25] ++ [11, 10, 9, 8, 7]) rfl w3 hx hx' (by decide) II.out).mono ?_
  rintro e w99 ⟨rfl, rfl⟩
  go_wp2
  go_ret
  exact ⟨ret_i32 rfl, n3⟩

def rimmB (x : Int) : Int := sgn (hor x 0 (([31, 7] ++ [30, 29, 28, 27, 26, 25]) ++ ([11, 10, 9, 8] ++ [-1]))) 13

set_option maxHeartbeats 1000000 in
theorem rimmB_any (x : Int) (w : World) (hx : 0 ≤ x) (hx' : x < 4294967296) : Calls Tryz.prog 54 #[.int .u32 x] w fun e w' => e = .returned (.int .i32 (rimmB x)) ∧ Nx w w' := by
  go_enter Tryz.func54, Tryz.ntmps54
  have OA := Lib.hid (own_new w w.heap.size 2 [31, 7] rfl (Nat.le_refl _) (by omega))
  have n1 : Nx w (w.alloc (.cells #[.int .i64 31, .int .i64 7] 3)) := (Nx.refl _).alloc _
  go_wp2_with fail
  refine (down_row 30 25 6 [30, 29, 28, 27, 26, 25] rfl rfl (by omega) _ (by omega) (by omega) (by omega)).mono ?_
  rintro e w2 ⟨gD, cD, rfl, oD, n2⟩
  have OD := Lib.hid oD
  clear oD
  have tok3 : True := trivial
  go_wp2_with (first | (at_builtin; have _t := tok3; have P3 := Lib.hid (own_nx OA.out n2); have I3 := Lib.hid ((own_row OD.out rfl).keep (Nx.refl w2)); refine wp_append_row rfl _ _ rfl w.heap.size (w.heap.size) 2 2 (gD) 6 cD 8 _ _ rfl rfl P3.out rfl I3.out rfl (by omega) (by omega) (Nx.size (n1.trans n2)) ?_; intro gR cR w3 oR gr3; have OR := Lib.hid oR; have n3 : Nx w w3 := Nx.grown (n1.trans n2) gr3 (fun k hk => by have e := Option.some.inj hk; subst e; exact own_block P3.out _ rfl); clear oR gr3; clear tok3))
  go_wp2_with fail
  refine (down_row 11 8 4 [11, 10, 9, 8] rfl rfl (by omega) _ (by omega) (by omega) (by omega)).mono ?_
  rintro e w4 ⟨gE, cE, rfl, oE, n4⟩
  have OE := Lib.hid oE
  clear oE
  have tok6 : True := trivial
  have tok7 : True := trivial
  go_wp2_with (first | (at_builtin; have _t := tok6; have OF := Lib.hid (own_new w4 w4.heap.size 1 [-1] rfl (Nat.le_refl _) (by omega)); have n5 : Nx w4 (w4.alloc (.cells #[.int .i64 (-1)] 3)) := (Nx.refl _).alloc _; have P6 := Lib.hid (own_nx OE.out n5); have I6 := Lib.hid ((own_row OF.out rfl).keep (Nx.refl (w4.alloc (.cells #[.int .i64 (-1)] 3)))); refine wp_append_row rfl _ _ rfl w3.heap.size (gE) 4 cE (w4.heap.size) 1 1 5 _ _ rfl rfl P6.out rfl I6.out rfl (by omega) (by omega) (Nx.size (n4.trans n5)) ?_; intro gS cS w6 oS gr6; have OS := Lib.hid oS; have n6 : Nx w3 w6 := Nx.grown (n4.trans n5) gr6 (fun k hk => by have e := Option.some.inj hk; subst e; exact own_block P6.out _ rfl); clear oS gr6; clear tok6) | (at_builtin; have _t := tok7; have P7 := Lib.hid (own_nx OR.out n6); have I7 := Lib.hid ((own_row OS.out rfl).keep (Nx.refl w6)); refine wp_append_row rfl _ _ rfl w.heap.size (gR) 8 cR (gS) 5 cS 13 _ _ rfl rfl P7.out rfl I7.out rfl (by omega) (by omega) (Nx.size (n3.trans n6)) ?_; intro gT cT w7 oT gr7; have OT := Lib.hid oT; have n7 : Nx w w7 := Nx.grown (n3.trans n6) gr7 (fun k hk => by have e := Option.some.inj hk; subst e; exact own_block P7.out _ rfl); clear oT gr7; clear tok7))
  have II := Lib.hid (own_row OT.out rfl)
  go_wp2_with fail
  refine (bits_any x gT 13 cT (([31, 7] ++ [30, 29, 28, 27, 26, 25]) ++ ([11, 10, 9, 8] ++ [-1])) rfl w7 hx hx' (by decide) II.out).mono ?_
  rintro e w99 ⟨rfl, rfl⟩
  go_wp2
  go_ret
  exact ⟨ret_i32 rfl, n7⟩

def rimmU (x : Int) : Int := sgn (hor x 0 ([31, 30, 29, 28, 27, 26, 25, 24, 23, 22, 21, 20, 19, 18, 17, 16, 15, 14, 13, 12] ++ [-1, -1, -1, -1, -1, -1, -1, -1, -1, -1, -1, -1])) 32

set_option maxHeartbeats 1000000 in
theorem rimmU_any (x : Int) (w : World) (hx : 0 ≤ x) (hx' : x < 4294967296) : Calls Tryz.prog 52 #[.int .u32 x] w fun e w' => e = .returned (.int .i32 (rimmU x)) ∧ Nx w w' := by
  go_enter Tryz.func52, Tryz.ntmps52
  go_wp2_with fail
  refine (down_row 31 12 20 [31, 30, 29, 28, 27, 26, 25, 24, 23, 22, 21, 20, 19, 18, 17, 16, 15, 14, 13, 12] rfl rfl (by omega) _ (by omega) (by omega) (by omega)).mono ?_
  rintro e w1 ⟨gA, cA, rfl, oA, n1⟩
  have OA := Lib.hid oA
  clear oA
  have tok3 : True := trivial
  go_wp2_with (first | (at_builtin; have _t := tok3; have OF := Lib.hid (own_new w1 w1.heap.size 12 [-1, -1, -1, -1, -1, -1, -1, -1, -1, -1, -1, -1] rfl (Nat.le_refl _) (by omega)); have n2 : Nx w1 (w1.alloc (.cells #[.int .i64 (-1), .int .i64 (-1), .int .i64 (-1), .int .i64 (-1), .int .i64 (-1), .int .i64 (-1), .int .i64 (-1), .int .i64 (-1), .int .i64 (-1), .int .i64 (-1), .int .i64 (-1), .int .i64 (-1)] 3)) := (Nx.refl _).alloc _; have P3 := Lib.hid (own_nx OA.out n2); have I3 := Lib.hid ((own_row OF.out rfl).keep (Nx.refl (w1.alloc (.cells #[.int .i64 (-1), .int .i64 (-1), .int .i64 (-1), .int .i64 (-1), .int .i64 (-1), .int .i64 (-1), .int .i64 (-1), .int .i64 (-1), .int .i64 (-1), .int .i64 (-1), .int .i64 (-1), .int .i64 (-1)] 3)))); refine wp_append_row rfl _ _ rfl w.heap.size (gA) 20 cA (w1.heap.size) 12 12 32 _ _ rfl rfl P3.out rfl I3.out rfl (by omega) (by omega) (Nx.size (n1.trans n2)) ?_; intro gR cR w3 oR gr3; have OR := Lib.hid oR; have n3 : Nx w w3 := Nx.grown (n1.trans n2) gr3 (fun k hk => by have e := Option.some.inj hk; subst e; exact own_block P3.out _ rfl); clear oR gr3; clear tok3))
  have II := Lib.hid (own_row OR.out rfl)
  go_wp2_with fail
  refine (bits_any x gR 32 cR ([31, 30, 29, 28, 27, 26, 25, 24, 23, 22, 21, 20, 19, 18, 17, 16, 15, 14, 13, 12] ++ [-1, -1, -1, -1, -1, -1, -1, -1, -1, -1, -1, -1]) rfl w3 hx hx' (by decide) II.out).mono ?_
  rintro e w99 ⟨rfl, rfl⟩
  go_wp2
  go_ret
  exact ⟨ret_i32 rfl, n3⟩

def rimmJ (x : Int) : Int := sgn (hor x 0 ((([31] ++ [19, 18, 17, 16, 15, 14, 13, 12]) ++ [20]) ++ ([30, 29, 28, 27, 26, 25, 24, 23, 22, 21] ++ [-1]))) 21

set_option maxHeartbeats 1000000 in
theorem rimmJ_any (x : Int) (w : World) (hx : 0 ≤ x) (hx' : x < 4294967296) : Calls Tryz.prog 53 #[.int .u32 x] w fun e w' => e = .returned (.int .i32 (rimmJ x)) ∧ Nx w w' := by
  go_enter Tryz.func53, Tryz.ntmps53
  have OA := Lib.hid (own_new w w.heap.size 1 [31] rfl (Nat.le_refl _) (by omega))
  have n1 : Nx w (w.alloc (.cells #[.int .i64 31] 3)) := (Nx.refl _).alloc _
  go_wp2_with fail
  refine (down_row 19 12 8 [19, 18, 17, 16, 15, 14, 13, 12] rfl rfl (by omega) _ (by omega) (by omega) (by omega)).mono ?_
  rintro e w2 ⟨gD, cD, rfl, oD, n2⟩
  have OD := Lib.hid oD
  clear oD
  have tok3 : True := trivial
  have tok5 : True := trivial
  go_wp2_with (first | (at_builtin; have _t := tok3; have P3 := Lib.hid (own_nx OA.out n2); have I3 := Lib.hid ((own_row OD.out rfl).keep (Nx.refl w2)); refine wp_append_row rfl _ _ rfl w.heap.size (w.heap.size) 1 1 (gD) 8 cD 9 _ _ rfl rfl P3.out rfl I3.out rfl (by omega) (by omega) (Nx.size (n1.trans n2)) ?_; intro gR cR w3 oR gr3; have OR := Lib.hid oR; have n3 : Nx w w3 := Nx.grown (n1.trans n2) gr3 (fun k hk => by have e := Option.some.inj hk; subst e; exact own_block P3.out _ rfl); clear oR gr3; clear tok3) | (at_builtin; have _t := tok5; have OF := Lib.hid (own_new w3 w3.heap.size 1 [20] rfl (Nat.le_refl _) (by omega)); have n4 : Nx w3 (w3.alloc (.cells #[.int .i64 20] 3)) := (Nx.refl _).alloc _; have P5 := Lib.hid (own_nx OR.out n4); have I5 := Lib.hid ((own_row OF.out rfl).keep (Nx.refl (w3.alloc (.cells #[.int .i64 20] 3)))); refine wp_append_row rfl _ _ rfl w.heap.size (gR) 9 cR (w3.heap.size) 1 1 10 _ _ rfl rfl P5.out rfl I5.out rfl (by omega) (by omega) (Nx.size (n3.trans n4)) ?_; intro gS cS w5 oS gr5; have OS := Lib.hid oS; have n5 : Nx w w5 := Nx.grown (n3.trans n4) gr5 (fun k hk => by have e := Option.some.inj hk; subst e; exact own_block P5.out _ rfl); clear oS gr5; clear tok5))
  go_wp2_with fail
  refine (down_row 30 21 10 [30, 29, 28, 27, 26, 25, 24, 23, 22, 21] rfl rfl (by omega) _ (by omega) (by omega) (by omega)).mono ?_
  rintro e w6 ⟨gE, cE, rfl, oE, n6⟩
  have OE := Lib.hid oE
  clear oE
  have tok8 : True := trivial
  have tok9 : True := trivial
  go_wp2_with (first | (at_builtin; have _t := tok8; have OH := Lib.hid (own_new w6 w6.heap.size 1 [-1] rfl (Nat.le_refl _) (by omega)); have n7 : Nx w6 (w6.alloc (.cells #[.int .i64 (-1)] 3)) := (Nx.refl _).alloc _; have P8 := Lib.hid (own_nx OE.out n7); have I8 := Lib.hid ((own_row OH.out rfl).keep (Nx.refl (w6.alloc (.cells #[.int .i64 (-1)] 3)))); refine wp_append_row rfl _ _ rfl w5.heap.size (gE) 10 cE (w6.heap.size) 1 1 11 _ _ rfl rfl P8.out rfl I8.out rfl (by omega) (by omega) (Nx.size (n6.trans n7)) ?_; intro gU cU w8 oU gr8; have OU := Lib.hid oU; have n8 : Nx w5 w8 := Nx.grown (n6.trans n7) gr8 (fun k hk => by have e := Option.some.inj hk; subst e; exact own_block P8.out _ rfl); clear oU gr8; clear tok8) | (at_builtin; have _t := tok9; have P9 := Lib.hid (own_nx OS.out n8); have I9 := Lib.hid ((own_row OU.out rfl).keep (Nx.refl w8)); refine wp_append_row rfl _ _ rfl w.heap.size (gS) 10 cS (gU) 11 cU 21 _ _ rfl rfl P9.out rfl I9.out rfl (by omega) (by omega) (Nx.size (n5.trans n8)) ?_; intro gT cT w9 oT gr9; have OT := Lib.hid oT; have n9 : Nx w w9 := Nx.grown (n5.trans n8) gr9 (fun k hk => by have e := Option.some.inj hk; subst e; exact own_block P9.out _ rfl); clear oT gr9; clear tok9))
  have II := Lib.hid (own_row OT.out rfl)
  go_wp2_with fail
  refine (bits_any x gT 21 cT ((([31] ++ [19, 18, 17, 16, 15, 14, 13, 12]) ++ [20]) ++ ([30, 29, 28, 27, 26, 25, 24, 23, 22, 21] ++ [-1])) rfl w9 hx hx' (by decide) II.out).mono ?_
  rintro e w99 ⟨rfl, rfl⟩
  go_wp2
  go_ret
  exact ⟨ret_i32 rfl, n9⟩

end Go.Proofs.YtndpgakjpokllaaGreat

/- Contracts of package typecaseref04: a word's operation. -/
namespace Go.Proofs.YtndpgakjpokllaaGreat
open Go.RowKit
set_option linter.unusedVariables false

/-- The operation of a name; 0: there is none. -/
def idxN (s : List UInt8) : Int :=
  match (List.range 49).find? (fun i => decide (1 ≤ i) && (nmB.getD i [] == s)) with
  | some i => i
  | none => 0

theorem idx_found (s : List UInt8) (i : Nat) (h1 : 1 ≤ i) (h2 : i ≤ 48) (h : nmB.getD i [] = s) : idxN s = i := by
  subst h
  have h3 : ∀ i : Fin 49, 1 ≤ i.val → idxN (nmB.getD i.val []) = (i.val : Int) := by decide +kernel
  exact h3 ⟨i, by omega⟩ h1

theorem idx_none (s : List UInt8) (h : ∀ i, 1 ≤ i → i ≤ 48 → ¬ nmB.getD i [] = s) : idxN s = 0 := by
  unfold idxN
  have : (List.range 49).find? (fun i => decide (1 ≤ i) && (nmB.getD i [] == s)) = none := by
    rw [List.find?_eq_none]
    intro i hi
    rw [List.mem_range] at hi
    by_cases h1 : 1 ≤ i
    · have := h i h1 (by omega)
      simp only [h1, decide_true, Bool.true_and, beq_iff_eq]
      exact this
    · simp [h1]
  rw [this]

/-- The operation whose name stands at a place of a list. -/
def atN (l : List (List UInt8)) (k : Nat) : Int := if l.length ≤ k ∨ l.getD k [] = [] then 0 else idxN (l.getD k [])

theorem nm_len : nmB.length = 49 := rfl

set_option maxHeartbeats 2000000 in
theorem at_any (l : List (List UInt8)) (g n : Nat) (hn : l.length = n) (k : Int) (w : World) (hk : 0 ≤ k) (hk' : k < 4294967296) (hn' : n ≤ 100) (hs : Strs w g l) :
    Calls Tryz.prog 83 #[.slice (some ⟨g, 0, none⟩) n n, .int .u32 k] w fun e w' => e = .returned (.int .i64 (atN l k.toNat)) ∧ Nx w w' := by
  obtain ⟨k, rfl⟩ := Int.eq_ofNat_of_zero_le hk
  rw [Int.toNat_natCast]
  by_cases h1 : n ≤ k
  · have HE := Lib.hid (show atN l k = 0 by unfold atN; rw [if_pos (by omega)])
    clear hs
    go_enter Tryz.func83, Tryz.ntmps83
    go_wp2
    go_ret
    exact ⟨ret_i64 HE.out.symm, Nx.refl _⟩
  have hg := getq l k [] (by omega)
  have hc := hs k _ hg
  have d1 : decide (n ≤ k) = false := by simpa using h1
  have d2 : decide ((n : Int) ≤ (k : Int)) = false := by simp; omega
  have HA : Hid (atN l k = if l.getD k [] = [] then 0 else idxN (l.getD k [])) := by
    unfold atN
    by_cases e : l.getD k [] = []
    · rw [if_pos (Or.inr e), if_pos e]; exact rfl
    · rw [if_neg (by intro c; rcases c with c | c; omega; exact e c), if_neg e]; exact rfl
  clear hs hg
  generalize l.getD k [] = s at *
  by_cases h2 : s = []
  · subst h2
    have HE := Lib.hid (HA.out.trans (if_pos rfl))
    clear HA
    go_enter Tryz.func83, Tryz.ntmps83
    go_wp2
    go_ret
    exact ⟨ret_i64 HE.out.symm, Nx.refl _⟩
  have h3 : (s == []) = false := by simpa using h2
  have h4 : s.isEmpty = false := by simpa using h2
  have HE := Lib.hid (HA.out.trans (if_neg h2))
  clear HA
  have HNE := Lib.hid h2
  clear h2
  go_enter Tryz.func83, Tryz.ntmps83
  go_wp2_with fail
  refine (names_any _).mono ?_
  rintro e w1 ⟨rfl, hs1, hn1⟩
  have HS := Lib.hid hs1
  have hc1 := hn1.cell hc
  clear hs1 hc
  go_wp2
  clear h3 h4 d1 d2 hk'
  go_loopw [6] (fun i wr => ∃ m : Nat, 1 ≤ m ∧ m ≤ 49 ∧ i = .int .i64 m ∧ Nx w1 wr ∧ Hid (∀ j, 1 ≤ j → j < m → ¬ nmB.getD j [] = s)) (fun i _ => 49 - (Go.RowKit.intOf i).toNat)
  case atStart => exact ⟨1, by omega, by omega, rfl, Nx.refl _, Lib.hid (fun j h1 h2 => by omega)⟩
  case round =>
    obtain ⟨m, hm1, hm2, rfl, hnx, hno⟩ := hrel
    by_cases hlt : m < 49
    · have hgm := getq nmB m [] (by rw [nm_len]; exact hlt)
      have hcm := hnx.cell (HS.out m _ hgm)
      have hck := hnx.cell hc1
      clear hgm
      have FO := Lib.hid (fun h => idx_found s m hm1 (by omega) h)
      by_cases e : nmB.getD m [] = s
      · have FO2 := Lib.hid (FO.out e)
        have e2 : (nmB.getD m [] == s) = true := by simpa using e
        clear FO e
        generalize nmB.getD m [] = z at *
        go_wp2
        go_quiet (fail)
        go_wp2
        go_ret
        exact ⟨ret_i64 (by rw [HE.out, FO2.out]), (hn1.trans hnx).drewN _⟩
      · have e2 : (nmB.getD m [] == s) = false := by simpa using e
        have EN := Lib.hid e
        clear FO e
        generalize nmB.getD m [] = z at hcm e2
        go_wp2
        go_quiet (fail)
        go_wp2
        go_roundw
        case rel =>
          refine ⟨m + 1, by omega, by omega, by go_num, hnx.drewN _, Lib.hid (fun j h1 h2 => ?_)⟩
          by_cases ej : j = m
          · subst ej; exact EN.out
          · exact hno.out j h1 (by omega)
        case measure => simp [Go.RowKit.intOf]; omega
    · have HR := Lib.hid (idx_none s (fun i a b => hno.out i a (by omega)))
      go_wp2
      go_ret
      exact ⟨ret_i64 (by rw [HE.out, HR.out]), hn1.trans hnx⟩

end Go.Proofs.YtndpgakjpokllaaGreat

/- Plain: the document's numbers of a word are the plain ones. -/
namespace Go.Proofs.YtndpgakjpokllaaGreat
open Go.RowKit
set_option linter.unusedVariables false

def dnl (b : Nat) : Nat → List Int
  | 0 => []
  | n + 1 => ((b + n : Nat) : Int) :: dnl b n

theorem hor_append (x v : Int) (l m : List Int) : hor x v (l ++ m) = hor x (hor x v l) m := by
  induction l generalizing v with
  | nil => rfl
  | cons a t ih => exact ih _

theorem hor_dnl (x : Int) (b n : Nat) (v : Int) (hv : 0 ≤ v) (h : (v + 1) * 2 ^ n ≤ 4294967296) : hor x v (dnl b n) = v * 2 ^ n + fld x b n := by
  induction n generalizing v with
  | zero => simp [dnl, hor, fld]
  | succ n ih =>
    have hp := pow_pos' n
    have hb := bit01 x (b + n)
    have e1 : (v + 1) * 2 ^ (n + 1) = (2 * v + 2) * 2 ^ n := by rw [Int.pow_succ, Int.mul_comm (2 ^ n) 2, ← Int.mul_assoc]; congr 1; omega
    rw [e1] at h
    have h2 : 2 * v + 2 ≤ (2 * v + 2) * 2 ^ n := by
      have := Int.mul_le_mul_of_nonneg_left (show (1 : Int) ≤ 2 ^ n by omega) (show 0 ≤ 2 * v + 2 by omega)
      rwa [Int.mul_one] at this
    have e2 : (2 * v % 4294967296 + fld x (b + n) 1) % 4294967296 = 2 * v + fld x (b + n) 1 := by omega
    simp only [dnl, hor]
    rw [if_pos (by omega), Int.toNat_natCast, e2, ih _ (by omega) ?_]
    · rw [fld_step x b n, Int.add_mul, Int.pow_succ, Int.mul_comm (fld x (b + n) 1), Int.mul_comm 2 v, Int.mul_assoc, Int.mul_comm 2]; omega
    · refine Int.le_trans (Int.mul_le_mul_of_nonneg_right ?_ (Int.le_of_lt hp)) h
      omega

theorem hor_neg (x v : Int) (l : List Int) (hv : 0 ≤ v) (hv' : 2 * v < 4294967296) : hor x v (-1 :: l) = hor x (2 * v) l := by
  simp only [hor]
  rw [if_neg (by omega), Int.emod_eq_of_lt (by omega) hv']

theorem rimmI_eq (x : Int) : rimmI x = jI x := by
  unfold rimmI jI
  have e : ([31, 30, 29, 28, 27, 26, 25, 24, 23, 22, 21, 20] : List Int) = dnl 20 12 := rfl
  rw [e, hor_dnl x 20 12 0 (by omega) (by decide)]
  congr 1; unfold vI; simp [fld]

theorem rimmS_eq (x : Int) : rimmS x = jS x := by
  unfold rimmS jS
  have e : ([31, 30, 29, 28, 27, 26, 25] : List Int) = dnl 25 7 := rfl
  have e2 : ([11, 10, 9, 8, 7] : List Int) = dnl 7 5 := rfl
  have h1 := fld_nonneg x 25 7
  have h2 : fld x 25 7 < 128 := fld_lt x 25 7
  rw [hor_append, e, hor_dnl x 25 7 0 (by omega) (by decide), e2, hor_dnl x 7 5 _ (by omega) (by simp; omega)]
  congr 1; unfold vS; simp [fld]

theorem rimmU_eq (x : Int) : rimmU x = jU x := by
  unfold rimmU jU
  have e : ([31, 30, 29, 28, 27, 26, 25, 24, 23, 22, 21, 20, 19, 18, 17, 16, 15, 14, 13, 12] : List Int) = dnl 12 20 := rfl
  have h1 := fld_nonneg x 12 20
  have h2 : fld x 12 20 < 1048576 := fld_lt x 12 20
  rw [hor_append, e, hor_dnl x 12 20 0 (by omega) (by decide)]
  simp only [Int.zero_mul, Int.zero_add]
  rw [hor_neg _ _ _ (by omega) (by omega), hor_neg _ _ _ (by omega) (by omega), hor_neg _ _ _ (by omega) (by omega), hor_neg _ _ _ (by omega) (by omega), hor_neg _ _ _ (by omega) (by omega), hor_neg _ _ _ (by omega) (by omega), hor_neg _ _ _ (by omega) (by omega), hor_neg _ _ _ (by omega) (by omega), hor_neg _ _ _ (by omega) (by omega), hor_neg _ _ _ (by omega) (by omega), hor_neg _ _ _ (by omega) (by omega), hor_neg _ _ _ (by omega) (by omega)]
  simp only [hor]
  congr 1; unfold vU; simp [fld]; omega

theorem rimmB_eq (x : Int) : rimmB x = jB x := by
  unfold rimmB jB
  have e : ([31, 7] : List Int) = dnl 31 1 ++ dnl 7 1 := rfl
  have e2 : ([30, 29, 28, 27, 26, 25] : List Int) = dnl 25 6 := rfl
  have e3 : ([11, 10, 9, 8] : List Int) = dnl 8 4 := rfl
  have a1 := fld_nonneg x 31 1
  have a2 : fld x 31 1 < 2 := fld_lt x 31 1
  have b1 := fld_nonneg x 7 1
  have b2 : fld x 7 1 < 2 := fld_lt x 7 1
  have c1 := fld_nonneg x 25 6
  have c2 : fld x 25 6 < 64 := fld_lt x 25 6
  have d1 := fld_nonneg x 8 4
  have d2 : fld x 8 4 < 16 := fld_lt x 8 4
  rw [e, e2, e3, hor_append, hor_append, hor_append, hor_append, hor_dnl x 31 1 0 (by omega) (by decide)]
  simp only [Int.zero_mul, Int.zero_add]
  rw [hor_dnl x 7 1 _ (by omega) (by simp; omega), hor_dnl x 25 6 _ (by simp; omega) (by simp; omega), hor_dnl x 8 4 _ (by simp; omega) (by simp; omega), hor_neg _ _ _ (by simp; omega) (by simp; omega)]
  simp only [hor]
  congr 1; unfold vB; simp [fld]; omega

theorem rimmJ_eq (x : Int) : rimmJ x = jJ x := by
  unfold rimmJ jJ
  have e : ([31] : List Int) = dnl 31 1 := rfl
  have e2 : ([19, 18, 17, 16, 15, 14, 13, 12] : List Int) = dnl 12 8 := rfl
  have e3 : ([20] : List Int) = dnl 20 1 := rfl
  have e4 : ([30, 29, 28, 27, 26, 25, 24, 23, 22, 21] : List Int) = dnl 21 10 := rfl
  have a1 := fld_nonneg x 31 1
  have a2 : fld x 31 1 < 2 := fld_lt x 31 1
  have b1 := fld_nonneg x 12 8
  have b2 : fld x 12 8 < 256 := fld_lt x 12 8
  have c1 := fld_nonneg x 20 1
  have c2 : fld x 20 1 < 2 := fld_lt x 20 1
  have d1 := fld_nonneg x 21 10
  have d2 : fld x 21 10 < 1024 := fld_lt x 21 10
  rw [e, e2, e3, e4, hor_append, hor_append, hor_append, hor_append, hor_dnl x 31 1 0 (by omega) (by decide)]
  simp only [Int.zero_mul, Int.zero_add]
  rw [hor_dnl x 12 8 _ (by omega) (by simp; omega), hor_dnl x 20 1 _ (by simp; omega) (by simp; omega), hor_dnl x 21 10 _ (by simp; omega) (by simp; omega), hor_neg _ _ _ (by simp; omega) (by simp; omega)]
  simp only [hor]
  congr 1; unfold vJ; simp [fld]; omega

end Go.Proofs.YtndpgakjpokllaaGreat

/- Contracts of package typecaseref04: a word's operation, its instruction. -/
namespace Go.Proofs.YtndpgakjpokllaaGreat
open Go.RowKit
set_option linter.unusedVariables false

theorem fld123 (x : Int) : fld x 12 3 = x / 4096 % 8 := by simp [fld]

theorem fld257 (x : Int) : fld x 25 7 = x / 33554432 % 128 := by simp [fld]

/-- Of a list of names: by each of the eight, the operation. -/
theorem at8 (l : List (List UInt8)) (F : Int → Int) (h : ∀ k : Fin 8, atN l k.val = F k.val) (f : Int) (h0 : 0 ≤ f) (h8 : f < 8) : atN l f.toNat = F f := by
  obtain ⟨n, rfl⟩ := Int.eq_ofNat_of_zero_le h0
  rw [Int.toNat_natCast]
  exact h ⟨n, by omega⟩

set_option maxHeartbeats 1000000 in
theorem rop_55 (x : Int) (w : World) (hx : 0 ≤ x) (hx' : x < 4294967296) (ho : x % 128 = 55) :
    Calls Tryz.prog 49 #[.int .u32 x] w fun e w' => e = .returned (.int .i64 (decP x).op) ∧ Nx w w' := by
  have f1 := fld_nonneg x 12 3
  have f2 : fld x 12 3 < 8 := fld_lt x 12 3
  have g1 := fld_nonneg x 25 7
  have g2 : fld x 25 7 < 128 := fld_lt x 25 7
  have HR : Hid (1 = (decP x).op) := by
    show _ = _
    unfold decP; simp [ho]
  go_enter Tryz.func49, Tryz.ntmps49
  go_wp2_with (first | (go_at_call 51; refine (rfield_in _ _ _ _ hx hx' (by omega) (by omega) (by omega) (by omega)).mono ?_; rintro e w' ⟨rfl, rfl⟩))
  go_ret
  exact ⟨ret_i64 HR.out, Nx.refl _⟩

set_option maxHeartbeats 1000000 in
theorem rop_23 (x : Int) (w : World) (hx : 0 ≤ x) (hx' : x < 4294967296) (ho : x % 128 = 23) :
    Calls Tryz.prog 49 #[.int .u32 x] w fun e w' => e = .returned (.int .i64 (decP x).op) ∧ Nx w w' := by
  have f1 := fld_nonneg x 12 3
  have f2 : fld x 12 3 < 8 := fld_lt x 12 3
  have g1 := fld_nonneg x 25 7
  have g2 : fld x 25 7 < 128 := fld_lt x 25 7
  have HR : Hid (2 = (decP x).op) := by
    show _ = _
    unfold decP; simp [ho]
  go_enter Tryz.func49, Tryz.ntmps49
  go_wp2_with (first | (go_at_call 51; refine (rfield_in _ _ _ _ hx hx' (by omega) (by omega) (by omega) (by omega)).mono ?_; rintro e w' ⟨rfl, rfl⟩))
  go_ret
  exact ⟨ret_i64 HR.out, Nx.refl _⟩

set_option maxHeartbeats 1000000 in
theorem rop_111 (x : Int) (w : World) (hx : 0 ≤ x) (hx' : x < 4294967296) (ho : x % 128 = 111) :
    Calls Tryz.prog 49 #[.int .u32 x] w fun e w' => e = .returned (.int .i64 (decP x).op) ∧ Nx w w' := by
  have f1 := fld_nonneg x 12 3
  have f2 : fld x 12 3 < 8 := fld_lt x 12 3
  have g1 := fld_nonneg x 25 7
  have g2 : fld x 25 7 < 128 := fld_lt x 25 7
  have HR : Hid (3 = (decP x).op) := by
    show _ = _
    unfold decP; simp [ho]
  go_enter Tryz.func49, Tryz.ntmps49
  go_wp2_with (first | (go_at_call 51; refine (rfield_in _ _ _ _ hx hx' (by omega) (by omega) (by omega) (by omega)).mono ?_; rintro e w' ⟨rfl, rfl⟩))
  go_ret
  exact ⟨ret_i64 HR.out, Nx.refl _⟩

set_option maxHeartbeats 1000000 in
theorem rop_103 (x : Int) (w : World) (hx : 0 ≤ x) (hx' : x < 4294967296) (ho : x % 128 = 103) :
    Calls Tryz.prog 49 #[.int .u32 x] w fun e w' => e = .returned (.int .i64 (decP x).op) ∧ Nx w w' := by
  have f1 := fld_nonneg x 12 3
  have f2 : fld x 12 3 < 8 := fld_lt x 12 3
  have g1 := fld_nonneg x 25 7
  have g2 : fld x 25 7 < 128 := fld_lt x 25 7
  have HR : Hid (atN [[106, 97, 108, 114]] (fld x 12 3).toNat = (decP x).op) := by
    show _ = _
    rw [at8 _ (fun f => nuOp 103 f) (by decide +kernel) _ f1 f2, fld123]
    unfold decP; simp [ho]
  have HS := fun (w : World) => Lib.hid (Strs.new w [[106, 97, 108, 114]] 9)
  go_enter Tryz.func49, Tryz.ntmps49
  go_wp2_with (first | (go_at_call 51; refine (rfield_in _ _ _ _ hx hx' (by omega) (by omega) (by omega) (by omega)).mono ?_; rintro e w' ⟨rfl, rfl⟩) | (go_at_call 83; refine (at_any [[106, 97, 108, 114]] _ 1 rfl _ _ (by omega) (by omega) (by omega) (HS _).out).mono ?_; rintro e w' ⟨rfl, hn⟩))
  go_ret
  exact ⟨ret_i64 HR.out, ((Nx.refl _).alloc _).trans hn⟩

set_option maxHeartbeats 1000000 in
theorem rop_99 (x : Int) (w : World) (hx : 0 ≤ x) (hx' : x < 4294967296) (ho : x % 128 = 99) :
    Calls Tryz.prog 49 #[.int .u32 x] w fun e w' => e = .returned (.int .i64 (decP x).op) ∧ Nx w w' := by
  have f1 := fld_nonneg x 12 3
  have f2 : fld x 12 3 < 8 := fld_lt x 12 3
  have g1 := fld_nonneg x 25 7
  have g2 : fld x 25 7 < 128 := fld_lt x 25 7
  have HR : Hid (atN [[98, 101, 113], [98, 110, 101], [], [], [98, 108, 116], [98, 103, 101], [98, 108, 116, 117], [98, 103, 101, 117]] (fld x 12 3).toNat = (decP x).op) := by
    show _ = _
    rw [at8 _ (fun f => brOp f) (by decide +kernel) _ f1 f2, fld123]
    unfold decP; simp [ho]
  have HS := fun (w : World) => Lib.hid (Strs.new w [[98, 101, 113], [98, 110, 101], [], [], [98, 108, 116], [98, 103, 101], [98, 108, 116, 117], [98, 103, 101, 117]] 9)
  go_enter Tryz.func49, Tryz.ntmps49
  go_wp2_with (first | (go_at_call 51; refine (rfield_in _ _ _ _ hx hx' (by omega) (by omega) (by omega) (by omega)).mono ?_; rintro e w' ⟨rfl, rfl⟩) | (go_at_call 83; refine (at_any [[98, 101, 113], [98, 110, 101], [], [], [98, 108, 116], [98, 103, 101], [98, 108, 116, 117], [98, 103, 101, 117]] _ 8 rfl _ _ (by omega) (by omega) (by omega) (HS _).out).mono ?_; rintro e w' ⟨rfl, hn⟩))
  go_ret
  exact ⟨ret_i64 HR.out, ((Nx.refl _).alloc _).trans hn⟩

set_option maxHeartbeats 1000000 in
theorem rop_3 (x : Int) (w : World) (hx : 0 ≤ x) (hx' : x < 4294967296) (ho : x % 128 = 3) :
    Calls Tryz.prog 49 #[.int .u32 x] w fun e w' => e = .returned (.int .i64 (decP x).op) ∧ Nx w w' := by
  have f1 := fld_nonneg x 12 3
  have f2 : fld x 12 3 < 8 := fld_lt x 12 3
  have g1 := fld_nonneg x 25 7
  have g2 : fld x 25 7 < 128 := fld_lt x 25 7
  have HR : Hid (atN [[108, 98], [108, 104], [108, 119], [], [108, 98, 117], [108, 104, 117]] (fld x 12 3).toNat = (decP x).op) := by
    show _ = _
    rw [at8 _ (fun f => nuOp 3 f) (by decide +kernel) _ f1 f2, fld123]
    unfold decP; simp [ho]
  have HS := fun (w : World) => Lib.hid (Strs.new w [[108, 98], [108, 104], [108, 119], [], [108, 98, 117], [108, 104, 117]] 9)
  go_enter Tryz.func49, Tryz.ntmps49
  go_wp2_with (first | (go_at_call 51; refine (rfield_in _ _ _ _ hx hx' (by omega) (by omega) (by omega) (by omega)).mono ?_; rintro e w' ⟨rfl, rfl⟩) | (go_at_call 83; refine (at_any [[108, 98], [108, 104], [108, 119], [], [108, 98, 117], [108, 104, 117]] _ 6 rfl _ _ (by omega) (by omega) (by omega) (HS _).out).mono ?_; rintro e w' ⟨rfl, hn⟩))
  go_ret
  exact ⟨ret_i64 HR.out, ((Nx.refl _).alloc _).trans hn⟩

set_option maxHeartbeats 1000000 in
theorem rop_35 (x : Int) (w : World) (hx : 0 ≤ x) (hx' : x < 4294967296) (ho : x % 128 = 35) :
    Calls Tryz.prog 49 #[.int .u32 x] w fun e w' => e = .returned (.int .i64 (decP x).op) ∧ Nx w w' := by
  have f1 := fld_nonneg x 12 3
  have f2 : fld x 12 3 < 8 := fld_lt x 12 3
  have g1 := fld_nonneg x 25 7
  have g2 : fld x 25 7 < 128 := fld_lt x 25 7
  have HR : Hid (atN [[115, 98], [115, 104], [115, 119]] (fld x 12 3).toNat = (decP x).op) := by
    show _ = _
    rw [at8 _ (fun f => stOp f) (by decide +kernel) _ f1 f2, fld123]
    unfold decP; simp [ho]
  have HS := fun (w : World) => Lib.hid (Strs.new w [[115, 98], [115, 104], [115, 119]] 9)
  go_enter Tryz.func49, Tryz.ntmps49
  go_wp2_with (first | (go_at_call 51; refine (rfield_in _ _ _ _ hx hx' (by omega) (by omega) (by omega) (by omega)).mono ?_; rintro e w' ⟨rfl, rfl⟩) | (go_at_call 83; refine (at_any [[115, 98], [115, 104], [115, 119]] _ 3 rfl _ _ (by omega) (by omega) (by omega) (HS _).out).mono ?_; rintro e w' ⟨rfl, hn⟩))
  go_ret
  exact ⟨ret_i64 HR.out, ((Nx.refl _).alloc _).trans hn⟩

set_option maxHeartbeats 1000000 in
theorem rop_15 (x : Int) (w : World) (hx : 0 ≤ x) (hx' : x < 4294967296) (ho : x % 128 = 15) :
    Calls Tryz.prog 49 #[.int .u32 x] w fun e w' => e = .returned (.int .i64 (decP x).op) ∧ Nx w w' := by
  have f1 := fld_nonneg x 12 3
  have f2 : fld x 12 3 < 8 := fld_lt x 12 3
  have g1 := fld_nonneg x 25 7
  have g2 : fld x 25 7 < 128 := fld_lt x 25 7
  have HR : Hid (atN [[102, 101, 110, 99, 101]] (fld x 12 3).toNat = (decP x).op) := by
    show _ = _
    rw [at8 _ (fun f => if f = 0 then 38 else 0) (by decide +kernel) _ f1 f2, fld123]
    have h1 : ¬ x = 115 := by omega
    have h2 : ¬ x = 1048691 := by omega
    unfold decP baOp; simp [ho, h1, h2]
  have HS := fun (w : World) => Lib.hid (Strs.new w [[102, 101, 110, 99, 101]] 9)
  go_enter Tryz.func49, Tryz.ntmps49
  go_wp2_with (first | (go_at_call 51; refine (rfield_in _ _ _ _ hx hx' (by omega) (by omega) (by omega) (by omega)).mono ?_; rintro e w' ⟨rfl, rfl⟩) | (go_at_call 83; refine (at_any [[102, 101, 110, 99, 101]] _ 1 rfl _ _ (by omega) (by omega) (by omega) (HS _).out).mono ?_; rintro e w' ⟨rfl, hn⟩))
  go_ret
  exact ⟨ret_i64 HR.out, ((Nx.refl _).alloc _).trans hn⟩

set_option maxHeartbeats 1000000 in
theorem rop_19a (x : Int) (w : World) (hx : 0 ≤ x) (hx' : x < 4294967296) (ho : x % 128 = 19) (hf : fld x 12 3 = 1) (hg : ¬ fld x 25 7 = 0) :
    Calls Tryz.prog 49 #[.int .u32 x] w fun e w' => e = .returned (.int .i64 (decP x).op) ∧ Nx w w' := by
  have f1 := fld_nonneg x 12 3
  have f2 : fld x 12 3 < 8 := fld_lt x 12 3
  have g1 := fld_nonneg x 25 7
  have g2 : fld x 25 7 < 128 := fld_lt x 25 7
  have HR : Hid (0 = (decP x).op) := by
    show _ = _
    rw [fld123] at hf; rw [fld257] at hg
    unfold decP shOp; simp [ho, hf, hg]
  have hg' : (fld x 25 7 != 0) = true := by rw [bne_iff_ne]; exact hg
  go_enter Tryz.func49, Tryz.ntmps49
  go_wp2_with (first | (go_at_call 51; refine (rfield_in _ _ _ _ hx hx' (by omega) (by omega) (by omega) (by omega)).mono ?_; rintro e w' ⟨rfl, rfl⟩))
  go_ret
  exact ⟨ret_i64 HR.out, Nx.refl _⟩

set_option maxHeartbeats 1000000 in
theorem rop_19b (x : Int) (w : World) (hx : 0 ≤ x) (hx' : x < 4294967296) (ho : x % 128 = 19) (hf : fld x 12 3 = 5) (hg : ¬ fld x 25 7 = 0) (hg2 : ¬ fld x 25 7 = 32) :
    Calls Tryz.prog 49 #[.int .u32 x] w fun e w' => e = .returned (.int .i64 (decP x).op) ∧ Nx w w' := by
  have f1 := fld_nonneg x 12 3
  have f2 : fld x 12 3 < 8 := fld_lt x 12 3
  have g1 := fld_nonneg x 25 7
  have g2 : fld x 25 7 < 128 := fld_lt x 25 7
  have HR : Hid (0 = (decP x).op) := by
    show _ = _
    rw [fld123] at hf; rw [fld257] at hg hg2
    unfold decP shOp; simp [ho, hf, hg, hg2]
  have hg' : (fld x 25 7 != 0) = true := by rw [bne_iff_ne]; exact hg
  have hg2' : (fld x 25 7 != 32) = true := by rw [bne_iff_ne]; exact hg2
  go_enter Tryz.func49, Tryz.ntmps49
  go_wp2_with (first | (go_at_call 51; refine (rfield_in _ _ _ _ hx hx' (by omega) (by omega) (by omega) (by omega)).mono ?_; rintro e w' ⟨rfl, rfl⟩))
  go_ret
  exact ⟨ret_i64 HR.out, Nx.refl _⟩

set_option maxHeartbeats 1000000 in
theorem rop_19c (x : Int) (w : World) (hx : 0 ≤ x) (hx' : x < 4294967296) (ho : x % 128 = 19) (hf : fld x 12 3 = 5) (hg : fld x 25 7 = 32) :
    Calls Tryz.prog 49 #[.int .u32 x] w fun e w' => e = .returned (.int .i64 (decP x).op) ∧ Nx w w' := by
  have f1 := fld_nonneg x 12 3
  have f2 : fld x 12 3 < 8 := fld_lt x 12 3
  have g1 := fld_nonneg x 25 7
  have g2 : fld x 25 7 < 128 := fld_lt x 25 7
  have HR : Hid (atN [[115, 114, 97, 105]] 0 = (decP x).op) := by
    show _ = _
    rw [fld123] at hf; rw [fld257] at hg
    unfold decP; simp [ho, hf, hg]; decide +kernel
  have HS := fun (w : World) => Lib.hid (Strs.new w [[115, 114, 97, 105]] 9)
  go_enter Tryz.func49, Tryz.ntmps49
  go_wp2_with (first | (go_at_call 51; refine (rfield_in _ _ _ _ hx hx' (by omega) (by omega) (by omega) (by omega)).mono ?_; rintro e w' ⟨rfl, rfl⟩) | (go_at_call 83; refine (at_any [[115, 114, 97, 105]] _ 1 rfl _ _ (by omega) (by omega) (by omega) (HS _).out).mono ?_; rintro e w' ⟨rfl, hn⟩))
  go_ret
  exact ⟨ret_i64 HR.out, ((Nx.refl _).alloc _).trans hn⟩

set_option maxHeartbeats 1000000 in
theorem rop_19d (x : Int) (w : World) (hx : 0 ≤ x) (hx' : x < 4294967296) (ho : x % 128 = 19) (hf : fld x 12 3 = 1) (hg : fld x 25 7 = 0) :
    Calls Tryz.prog 49 #[.int .u32 x] w fun e w' => e = .returned (.int .i64 (decP x).op) ∧ Nx w w' := by
  have f1 := fld_nonneg x 12 3
  have f2 : fld x 12 3 < 8 := fld_lt x 12 3
  have g1 := fld_nonneg x 25 7
  have g2 : fld x 25 7 < 128 := fld_lt x 25 7
  have HR : Hid (atN [[97, 100, 100, 105], [115, 108, 108, 105], [115, 108, 116, 105], [115, 108, 116, 105, 117], [120, 111, 114, 105], [115, 114, 108, 105], [111, 114, 105], [97, 110, 100, 105]] 1 = (decP x).op) := by
    show _ = _
    rw [fld123] at hf; rw [fld257] at hg
    unfold decP; simp [ho, hf, hg]; decide +kernel
  have HS := fun (w : World) => Lib.hid (Strs.new w [[97, 100, 100, 105], [115, 108, 108, 105], [115, 108, 116, 105], [115, 108, 116, 105, 117], [120, 111, 114, 105], [115, 114, 108, 105], [111, 114, 105], [97, 110, 100, 105]] 9)
  go_enter Tryz.func49, Tryz.ntmps49
  go_wp2_with (first | (go_at_call 51; refine (rfield_in _ _ _ _ hx hx' (by omega) (by omega) (by omega) (by omega)).mono ?_; rintro e w' ⟨rfl, rfl⟩) | (go_at_call 83; refine (at_any [[97, 100, 100, 105], [115, 108, 108, 105], [115, 108, 116, 105], [115, 108, 116, 105, 117], [120, 111, 114, 105], [115, 114, 108, 105], [111, 114, 105], [97, 110, 100, 105]] _ 8 rfl _ _ (by omega) (by omega) (by omega) (HS _).out).mono ?_; rintro e w' ⟨rfl, hn⟩))
  go_ret
  exact ⟨ret_i64 HR.out, ((Nx.refl _).alloc _).trans hn⟩

set_option maxHeartbeats 1000000 in
theorem rop_19e (x : Int) (w : World) (hx : 0 ≤ x) (hx' : x < 4294967296) (ho : x % 128 = 19) (hf : fld x 12 3 = 5) (hg : fld x 25 7 = 0) :
    Calls Tryz.prog 49 #[.int .u32 x] w fun e w' => e = .returned (.int .i64 (decP x).op) ∧ Nx w w' := by
  have f1 := fld_nonneg x 12 3
  have f2 : fld x 12 3 < 8 := fld_lt x 12 3
  have g1 := fld_nonneg x 25 7
  have g2 : fld x 25 7 < 128 := fld_lt x 25 7
  have HR : Hid (atN [[97, 100, 100, 105], [115, 108, 108, 105], [115, 108, 116, 105], [115, 108, 116, 105, 117], [120, 111, 114, 105], [115, 114, 108, 105], [111, 114, 105], [97, 110, 100, 105]] 5 = (decP x).op) := by
    show _ = _
    rw [fld123] at hf; rw [fld257] at hg
    unfold decP; simp [ho, hf, hg]; decide +kernel
  have HS := fun (w : World) => Lib.hid (Strs.new w [[97, 100, 100, 105], [115, 108, 108, 105], [115, 108, 116, 105], [115, 108, 116, 105, 117], [120, 111, 114, 105], [115, 114, 108, 105], [111, 114, 105], [97, 110, 100, 105]] 9)
  go_enter Tryz.func49, Tryz.ntmps49
  go_wp2_with (first | (go_at_call 51; refine (rfield_in _ _ _ _ hx hx' (by omega) (by omega) (by omega) (by omega)).mono ?_; rintro e w' ⟨rfl, rfl⟩) | (go_at_call 83; refine (at_any [[97, 100, 100, 105], [115, 108, 108, 105], [115, 108, 116, 105], [115, 108, 116, 105, 117], [120, 111, 114, 105], [115, 114, 108, 105], [111, 114, 105], [97, 110, 100, 105]] _ 8 rfl _ _ (by omega) (by omega) (by omega) (HS _).out).mono ?_; rintro e w' ⟨rfl, hn⟩))
  go_ret
  exact ⟨ret_i64 HR.out, ((Nx.refl _).alloc _).trans hn⟩

set_option maxHeartbeats 1000000 in
theorem rop_19f (x : Int) (w : World) (hx : 0 ≤ x) (hx' : x < 4294967296) (ho : x % 128 = 19) (hf : ¬ fld x 12 3 = 1) (hf5 : ¬ fld x 12 3 = 5) :
    Calls Tryz.prog 49 #[.int .u32 x] w fun e w' => e = .returned (.int .i64 (decP x).op) ∧ Nx w w' := by
  have f1 := fld_nonneg x 12 3
  have f2 : fld x 12 3 < 8 := fld_lt x 12 3
  have g1 := fld_nonneg x 25 7
  have g2 : fld x 25 7 < 128 := fld_lt x 25 7
  have HR : Hid (atN [[97, 100, 100, 105], [115, 108, 108, 105], [115, 108, 116, 105], [115, 108, 116, 105, 117], [120, 111, 114, 105], [115, 114, 108, 105], [111, 114, 105], [97, 110, 100, 105]] (fld x 12 3).toNat = (decP x).op) := by
    show _ = _
    rw [at8 _ (fun f => if f = 1 then 25 else if f = 5 then 26 else nuOp 19 f) (by decide +kernel) _ f1 f2, fld123]
    rw [fld123] at hf hf5
    unfold decP; simp [ho, hf, hf5]
  have hf' : (fld x 12 3 == 1) = false := beq_eq_false_iff_ne.2 hf
  have hf5' : (fld x 12 3 == 5) = false := beq_eq_false_iff_ne.2 hf5
  have HS := fun (w : World) => Lib.hid (Strs.new w [[97, 100, 100, 105], [115, 108, 108, 105], [115, 108, 116, 105], [115, 108, 116, 105, 117], [120, 111, 114, 105], [115, 114, 108, 105], [111, 114, 105], [97, 110, 100, 105]] 9)
  go_enter Tryz.func49, Tryz.ntmps49
  go_wp2_with (first | (go_at_call 51; refine (rfield_in _ _ _ _ hx hx' (by omega) (by omega) (by omega) (by omega)).mono ?_; rintro e w' ⟨rfl, rfl⟩) | (go_at_call 83; refine (at_any [[97, 100, 100, 105], [115, 108, 108, 105], [115, 108, 116, 105], [115, 108, 116, 105, 117], [120, 111, 114, 105], [115, 114, 108, 105], [111, 114, 105], [97, 110, 100, 105]] _ 8 rfl _ _ (by omega) (by omega) (by omega) (HS _).out).mono ?_; rintro e w' ⟨rfl, hn⟩))
  go_ret
  exact ⟨ret_i64 HR.out, ((Nx.refl _).alloc _).trans hn⟩

set_option maxHeartbeats 1000000 in
theorem rop_51a (x : Int) (w : World) (hx : 0 ≤ x) (hx' : x < 4294967296) (ho : x % 128 = 51) (hg : fld x 25 7 = 0) :
    Calls Tryz.prog 49 #[.int .u32 x] w fun e w' => e = .returned (.int .i64 (decP x).op) ∧ Nx w w' := by
  have f1 := fld_nonneg x 12 3
  have f2 : fld x 12 3 < 8 := fld_lt x 12 3
  have g1 := fld_nonneg x 25 7
  have g2 : fld x 25 7 < 128 := fld_lt x 25 7
  have HR : Hid (atN [[97, 100, 100], [115, 108, 108], [115, 108, 116], [115, 108, 116, 117], [120, 111, 114], [115, 114, 108], [111, 114], [97, 110, 100]] (fld x 12 3).toNat = (decP x).op) := by
    show _ = _
    rw [at8 _ (fun f => plOp f) (by decide +kernel) _ f1 f2, fld123]
    rw [fld257] at hg
    unfold decP rgOp; simp [ho, hg]
  have HS := fun (w : World) => Lib.hid (Strs.new w [[97, 100, 100], [115, 108, 108], [115, 108, 116], [115, 108, 116, 117], [120, 111, 114], [115, 114, 108], [111, 114], [97, 110, 100]] 9)
  go_enter Tryz.func49, Tryz.ntmps49
  go_wp2_with (first | (go_at_call 51; refine (rfield_in _ _ _ _ hx hx' (by omega) (by omega) (by omega) (by omega)).mono ?_; rintro e w' ⟨rfl, rfl⟩) | (go_at_call 83; refine (at_any [[97, 100, 100], [115, 108, 108], [115, 108, 116], [115, 108, 116, 117], [120, 111, 114], [115, 114, 108], [111, 114], [97, 110, 100]] _ 8 rfl _ _ (by omega) (by omega) (by omega) (HS _).out).mono ?_; rintro e w' ⟨rfl, hn⟩))
  go_ret
  exact ⟨ret_i64 HR.out, ((Nx.refl _).alloc _).trans hn⟩

set_option maxHeartbeats 1000000 in
theorem rop_51b (x : Int) (w : World) (hx : 0 ≤ x) (hx' : x < 4294967296) (ho : x % 128 = 51) (hg : fld x 25 7 = 32) :
    Calls Tryz.prog 49 #[.int .u32 x] w fun e w' => e = .returned (.int .i64 (decP x).op) ∧ Nx w w' := by
  have f1 := fld_nonneg x 12 3
  have f2 : fld x 12 3 < 8 := fld_lt x 12 3
  have g1 := fld_nonneg x 25 7
  have g2 : fld x 25 7 < 128 := fld_lt x 25 7
  have HR : Hid (atN [[115, 117, 98], [], [], [], [], [115, 114, 97]] (fld x 12 3).toNat = (decP x).op) := by
    show _ = _
    rw [at8 _ (fun f => rgOp f 32) (by decide +kernel) _ f1 f2, fld123]
    rw [fld257] at hg
    unfold decP; simp [ho, hg]
  have HS := fun (w : World) => Lib.hid (Strs.new w [[115, 117, 98], [], [], [], [], [115, 114, 97]] 9)
  go_enter Tryz.func49, Tryz.ntmps49
  go_wp2_with (first | (go_at_call 51; refine (rfield_in _ _ _ _ hx hx' (by omega) (by omega) (by omega) (by omega)).mono ?_; rintro e w' ⟨rfl, rfl⟩) | (go_at_call 83; refine (at_any [[115, 117, 98], [], [], [], [], [115, 114, 97]] _ 6 rfl _ _ (by omega) (by omega) (by omega) (HS _).out).mono ?_; rintro e w' ⟨rfl, hn⟩))
  go_ret
  exact ⟨ret_i64 HR.out, ((Nx.refl _).alloc _).trans hn⟩

set_option maxHeartbeats 1000000 in
theorem rop_51c (x : Int) (w : World) (hx : 0 ≤ x) (hx' : x < 4294967296) (ho : x % 128 = 51) (hg : fld x 25 7 = 1) :
    Calls Tryz.prog 49 #[.int .u32 x] w fun e w' => e = .returned (.int .i64 (decP x).op) ∧ Nx w w' := by
  have f1 := fld_nonneg x 12 3
  have f2 : fld x 12 3 < 8 := fld_lt x 12 3
  have g1 := fld_nonneg x 25 7
  have g2 : fld x 25 7 < 128 := fld_lt x 25 7
  have HR : Hid (atN [[109, 117, 108], [109, 117, 108, 104], [109, 117, 108, 104, 115, 117], [109, 117, 108, 104, 117], [100, 105, 118], [100, 105, 118, 117], [114, 101, 109], [114, 101, 109, 117]] (fld x 12 3).toNat = (decP x).op) := by
    show _ = _
    rw [at8 _ (fun f => rgOp f 1) (by decide +kernel) _ f1 f2, fld123]
    rw [fld257] at hg
    unfold decP; simp [ho, hg]
  have HS := fun (w : World) => Lib.hid (Strs.new w [[109, 117, 108], [109, 117, 108, 104], [109, 117, 108, 104, 115, 117], [109, 117, 108, 104, 117], [100, 105, 118], [100, 105, 118, 117], [114, 101, 109], [114, 101, 109, 117]] 9)
  go_enter Tryz.func49, Tryz.ntmps49
  go_wp2_with (first | (go_at_call 51; refine (rfield_in _ _ _ _ hx hx' (by omega) (by omega) (by omega) (by omega)).mono ?_; rintro e w' ⟨rfl, rfl⟩) | (go_at_call 83; refine (at_any [[109, 117, 108], [109, 117, 108, 104], [109, 117, 108, 104, 115, 117], [109, 117, 108, 104, 117], [100, 105, 118], [100, 105, 118, 117], [114, 101, 109], [114, 101, 109, 117]] _ 8 rfl _ _ (by omega) (by omega) (by omega) (HS _).out).mono ?_; rintro e w' ⟨rfl, hn⟩))
  go_ret
  exact ⟨ret_i64 HR.out, ((Nx.refl _).alloc _).trans hn⟩

set_option maxHeartbeats 1000000 in
theorem rop_51d (x : Int) (w : World) (hx : 0 ≤ x) (hx' : x < 4294967296) (ho : x % 128 = 51) (hg : ¬ fld x 25 7 = 0) (hg1 : ¬ fld x 25 7 = 1) (hg2 : ¬ fld x 25 7 = 32) :
    Calls Tryz.prog 49 #[.int .u32 x] w fun e w' => e = .returned (.int .i64 (decP x).op) ∧ Nx w w' := by
  have f1 := fld_nonneg x 12 3
  have f2 : fld x 12 3 < 8 := fld_lt x 12 3
  have g1 := fld_nonneg x 25 7
  have g2 : fld x 25 7 < 128 := fld_lt x 25 7
  have HR : Hid (0 = (decP x).op) := by
    show _ = _
    rw [fld257] at hg hg1 hg2
    unfold decP rgOp; simp [ho, hg, hg1, hg2]
  have hg' : (fld x 25 7 == 0) = false := beq_eq_false_iff_ne.2 hg
  have hg1' : (fld x 25 7 == 1) = false := beq_eq_false_iff_ne.2 hg1
  have hg2' : (fld x 25 7 == 32) = false := beq_eq_false_iff_ne.2 hg2
  go_enter Tryz.func49, Tryz.ntmps49
  go_wp2_with (first | (go_at_call 51; refine (rfield_in _ _ _ _ hx hx' (by omega) (by omega) (by omega) (by omega)).mono ?_; rintro e w' ⟨rfl, rfl⟩))
  go_ret
  exact ⟨ret_i64 HR.out, Nx.refl _⟩

set_option maxHeartbeats 1000000 in
theorem rop_115c (x : Int) (w : World) (hx : 0 ≤ x) (hx' : x < 4294967296) (ho : x % 128 = 115) (h1 : ¬ x = 115) (h2 : ¬ x = 1048691) :
    Calls Tryz.prog 49 #[.int .u32 x] w fun e w' => e = .returned (.int .i64 (decP x).op) ∧ Nx w w' := by
  have f1 := fld_nonneg x 12 3
  have f2 : fld x 12 3 < 8 := fld_lt x 12 3
  have g1 := fld_nonneg x 25 7
  have g2 : fld x 25 7 < 128 := fld_lt x 25 7
  have HR : Hid (0 = (decP x).op) := by
    show _ = _
    unfold decP baOp; simp [ho, h1, h2]
  have h1' : (x == 115) = false := beq_eq_false_iff_ne.2 h1
  have h2' : (x == 1048691) = false := beq_eq_false_iff_ne.2 h2
  go_enter Tryz.func49, Tryz.ntmps49
  go_wp2_with (first | (go_at_call 51; refine (rfield_in _ _ _ _ hx hx' (by omega) (by omega) (by omega) (by omega)).mono ?_; rintro e w' ⟨rfl, rfl⟩))
  go_ret
  exact ⟨ret_i64 HR.out, Nx.refl _⟩

set_option maxHeartbeats 1000000 in
theorem rop_115a (x : Int) (w : World) (hx : 0 ≤ x) (hx' : x < 4294967296) (ho : x = 115) :
    Calls Tryz.prog 49 #[.int .u32 x] w fun e w' => e = .returned (.int .i64 (decP x).op) ∧ Nx w w' := by
  have f1 := fld_nonneg x 12 3
  have f2 : fld x 12 3 < 8 := fld_lt x 12 3
  have g1 := fld_nonneg x 25 7
  have g2 : fld x 25 7 < 128 := fld_lt x 25 7
  have HR : Hid (atN [[101, 99, 97, 108, 108]] 0 = (decP x).op) := by
    show _ = _
    rw [ho]; decide +kernel
  subst ho
  have HS := fun (w : World) => Lib.hid (Strs.new w [[101, 99, 97, 108, 108]] 9)
  go_enter Tryz.func49, Tryz.ntmps49
  go_wp2_with (first | (go_at_call 51; refine (rfield_in _ _ _ _ hx hx' (by omega) (by omega) (by omega) (by omega)).mono ?_; rintro e w' ⟨rfl, rfl⟩) | (go_at_call 83; refine (at_any [[101, 99, 97, 108, 108]] _ 1 rfl _ _ (by omega) (by omega) (by omega) (HS _).out).mono ?_; rintro e w' ⟨rfl, hn⟩))
  go_ret
  exact ⟨ret_i64 HR.out, ((Nx.refl _).alloc _).trans hn⟩

set_option maxHeartbeats 1000000 in
theorem rop_115b (x : Int) (w : World) (hx : 0 ≤ x) (hx' : x < 4294967296) (ho : x = 1048691) :
    Calls Tryz.prog 49 #[.int .u32 x] w fun e w' => e = .returned (.int .i64 (decP x).op) ∧ Nx w w' := by
  have f1 := fld_nonneg x 12 3
  have f2 : fld x 12 3 < 8 := fld_lt x 12 3
  have g1 := fld_nonneg x 25 7
  have g2 : fld x 25 7 < 128 := fld_lt x 25 7
  have HR : Hid (atN [[101, 98, 114, 101, 97, 107]] 0 = (decP x).op) := by
    show _ = _
    rw [ho]; decide +kernel
  subst ho
  have HS := fun (w : World) => Lib.hid (Strs.new w [[101, 98, 114, 101, 97, 107]] 9)
  go_enter Tryz.func49, Tryz.ntmps49
  go_wp2_with (first | (go_at_call 51; refine (rfield_in _ _ _ _ hx hx' (by omega) (by omega) (by omega) (by omega)).mono ?_; rintro e w' ⟨rfl, rfl⟩) | (go_at_call 83; refine (at_any [[101, 98, 114, 101, 97, 107]] _ 1 rfl _ _ (by omega) (by omega) (by omega) (HS _).out).mono ?_; rintro e w' ⟨rfl, hn⟩))
  go_ret
  exact ⟨ret_i64 HR.out, ((Nx.refl _).alloc _).trans hn⟩

def known7 (x : Int) : Bool := x % 128 == 55 || x % 128 == 23 || x % 128 == 111 || x % 128 == 103 || x % 128 == 99 || x % 128 == 3 || x % 128 == 35 || x % 128 == 19 || x % 128 == 51 || x % 128 == 15 || x % 128 == 115

set_option maxHeartbeats 1000000 in
theorem rop_none (x : Int) (w : World) (hx : 0 ≤ x) (hx' : x < 4294967296) (ho : known7 x = false) :
    Calls Tryz.prog 49 #[.int .u32 x] w fun e w' => e = .returned (.int .i64 (decP x).op) ∧ Nx w w' := by
  simp only [known7, Bool.or_eq_false_iff] at ho
  obtain ⟨⟨⟨⟨⟨⟨⟨⟨⟨⟨h1, h2⟩, h3⟩, h4⟩, h5⟩, h6⟩, h7⟩, h8⟩, h9⟩, h10⟩, h11⟩ := ho
  have HR : Hid (0 = (decP x).op) := by
    show _ = _
    rw [beq_eq_false_iff_ne] at h1 h2 h3 h4 h5 h6 h7 h8 h9 h10 h11
    unfold decP; simp [h1, h2, h3, h4, h5, h6, h7, h8, h9, h10, h11, none5]
  go_enter Tryz.func49, Tryz.ntmps49
  go_wp2_with (first | (go_at_call 51; refine (rfield_in _ _ _ _ hx hx' (by omega) (by omega) (by omega) (by omega)).mono ?_; rintro e w' ⟨rfl, rfl⟩))
  go_ret
  exact ⟨ret_i64 HR.out, Nx.refl _⟩

theorem rop_any (x : Int) (w : World) (hx : 0 ≤ x) (hx' : x < 4294967296) :
    Calls Tryz.prog 49 #[.int .u32 x] w fun e w' => e = .returned (.int .i64 (decP x).op) ∧ Nx w w' := by
  by_cases h1 : x % 128 = 55
  · exact rop_55 x w hx hx' h1
  by_cases h2 : x % 128 = 23
  · exact rop_23 x w hx hx' h2
  by_cases h3 : x % 128 = 111
  · exact rop_111 x w hx hx' h3
  by_cases h4 : x % 128 = 103
  · exact rop_103 x w hx hx' h4
  by_cases h5 : x % 128 = 99
  · exact rop_99 x w hx hx' h5
  by_cases h6 : x % 128 = 3
  · exact rop_3 x w hx hx' h6
  by_cases h7 : x % 128 = 35
  · exact rop_35 x w hx hx' h7
  by_cases h8 : x % 128 = 19
  · by_cases f1 : fld x 12 3 = 1
    · by_cases g0 : fld x 25 7 = 0
      · exact rop_19d x w hx hx' h8 f1 g0
      · exact rop_19a x w hx hx' h8 f1 g0
    · by_cases f5 : fld x 12 3 = 5
      · by_cases g0 : fld x 25 7 = 0
        · exact rop_19e x w hx hx' h8 f5 g0
        · by_cases g1 : fld x 25 7 = 32
          · exact rop_19c x w hx hx' h8 f5 g1
          · exact rop_19b x w hx hx' h8 f5 g0 g1
      · exact rop_19f x w hx hx' h8 f1 f5
  by_cases h9 : x % 128 = 51
  · by_cases g0 : fld x 25 7 = 0
    · exact rop_51a x w hx hx' h9 g0
    · by_cases g1 : fld x 25 7 = 1
      · exact rop_51c x w hx hx' h9 g1
      · by_cases g2 : fld x 25 7 = 32
        · exact rop_51b x w hx hx' h9 g2
        · exact rop_51d x w hx hx' h9 g0 g1 g2
  by_cases h10 : x % 128 = 15
  · exact rop_15 x w hx hx' h10
  by_cases h11 : x % 128 = 115
  · by_cases a : x = 115
    · exact rop_115a x w hx hx' a
    · by_cases b : x = 1048691
      · exact rop_115b x w hx hx' b
      · exact rop_115c x w hx hx' h11 a b
  exact rop_none x w hx hx' (by simp [known7, h1, h2, h3, h4, h5, h6, h7, h8, h9, h10, h11])

end Go.Proofs.YtndpgakjpokllaaGreat

/- Contracts of package typecaseref04: a word's instruction. -/
namespace Go.Proofs.YtndpgakjpokllaaGreat
open Go.RowKit
set_option linter.unusedVariables false

/-- The number of a form. -/
def immF (f x : Int) : Int := if f = 1 then jU x else if f = 2 then jJ x else if f = 3 then jB x else if f = 4 ∨ f = 6 then jI x else if f = 5 then jS x else if f = 7 then x / 1048576 % 32 else 0

/-- What a form has of a word. -/
def partsF (f op x : Int) : In5 := ⟨op, if needD f = true then x / 128 % 32 else 0, if needS f = true then x / 32768 % 32 else 0, if needT f = true then x / 1048576 % 32 else 0, immF f x⟩

theorem dec_parts (x : Int) (h0 : (decP x).op ≠ 0) : decP x = partsF (formN (decP x).op) (decP x).op x := by
  unfold decP at *
  have hf := f8 (x / 4096 % 8) (by omega) (by omega)
  by_cases h1 : x % 128 = 55
  · rw [if_pos h1]; rfl
  rw [if_neg h1] at h0 ⊢
  by_cases h2 : x % 128 = 23
  · rw [if_pos h2]; rfl
  rw [if_neg h2] at h0 ⊢
  by_cases h3 : x % 128 = 111
  · rw [if_pos h3]; rfl
  rw [if_neg h3] at h0 ⊢
  by_cases h4 : x % 128 = 99
  · rw [if_pos h4] at h0 ⊢
    rcases hf with f | f | f | f | f | f | f | f <;> rw [f] at h0 ⊢ <;> first | exact absurd rfl h0 | rfl
  rw [if_neg h4] at h0 ⊢
  by_cases h5 : x % 128 = 35
  · rw [if_pos h5] at h0 ⊢
    rcases hf with f | f | f | f | f | f | f | f <;> rw [f] at h0 ⊢ <;> first | exact absurd rfl h0 | rfl
  rw [if_neg h5] at h0 ⊢
  by_cases h6 : x % 128 = 19
  · rw [if_pos h6] at h0 ⊢
    by_cases h7 : x / 4096 % 8 = 1 ∨ x / 4096 % 8 = 5
    · rw [if_pos h7] at h0 ⊢
      rcases h7 with f | f
      all_goals
        rw [f] at h0 ⊢
        by_cases g0 : x / 33554432 % 128 = 0
        · rw [g0] at h0 ⊢; rfl
        · by_cases g1 : x / 33554432 % 128 = 32
          · rw [g1] at h0 ⊢
            first | exact absurd rfl h0 | rfl
          · exact absurd (by simp [shOp, g0, g1]) h0
    · rw [if_neg h7] at h0 ⊢
      rcases hf with f | f | f | f | f | f | f | f
      all_goals
        rw [f] at h0 h7 ⊢
        first | exact absurd rfl h0 | exact absurd (Or.inl rfl) h7 | exact absurd (Or.inr rfl) h7 | rfl
  rw [if_neg h6] at h0 ⊢
  by_cases h7 : x % 128 = 103
  · rw [if_pos h7] at h0 ⊢
    rcases hf with f | f | f | f | f | f | f | f <;> rw [f] at h0 ⊢ <;> first | exact absurd rfl h0 | rfl
  rw [if_neg h7] at h0 ⊢
  by_cases h8 : x % 128 = 3
  · rw [if_pos h8] at h0 ⊢
    rcases hf with f | f | f | f | f | f | f | f <;> rw [f] at h0 ⊢ <;> first | exact absurd rfl h0 | rfl
  rw [if_neg h8] at h0 ⊢
  by_cases h9 : x % 128 = 51
  · rw [if_pos h9] at h0 ⊢
    by_cases g0 : x / 33554432 % 128 = 0
    · rw [g0] at h0 ⊢
      rcases hf with f | f | f | f | f | f | f | f <;> rw [f] at h0 ⊢ <;> first | exact absurd rfl h0 | rfl
    · by_cases g1 : x / 33554432 % 128 = 1
      · rw [g1] at h0 ⊢
        rcases hf with f | f | f | f | f | f | f | f <;> rw [f] at h0 ⊢ <;> first | exact absurd rfl h0 | rfl
      · by_cases g2 : x / 33554432 % 128 = 32
        · rw [g2] at h0 ⊢
          rcases hf with f | f | f | f | f | f | f | f <;> rw [f] at h0 ⊢ <;> first | exact absurd rfl h0 | rfl
        · exact absurd (by simp [rgOp, g0, g1, g2]) h0
  rw [if_neg h9] at h0 ⊢
  by_cases h10 : x % 128 = 15 ∨ x % 128 = 115
  · rw [if_pos h10] at h0 ⊢
    by_cases b1 : x % 128 = 15 ∧ x / 4096 % 8 = 0
    · have e : baOp x (x % 128) (x / 4096 % 8) = 38 := by simp [baOp, b1]
      rw [e]; rfl
    · by_cases b2 : x = 115
      · subst b2; rfl
      · by_cases b3 : x = 1048691
        · subst b3; rfl
        · exact absurd (by simp only [baOp]; rw [if_neg b1, if_neg b2, if_neg b3]) h0
  rw [if_neg h10] at h0
  exact absurd rfl h0

/-- What Decode hands back: the instruction, or nothing. -/
def decJ (x : Int) : In5 := if (decP x).op = 0 then none5 else decP x

set_option maxHeartbeats 1000000 in
theorem rdecode_0 (x : Int) (w : World) (hx : 0 ≤ x) (hx' : x < 4294967296) (h0 : (decP x).op = 0) :
    Calls Tryz.prog 26 #[.int .u32 x] w fun e w' => e = .returned (.tuple #[.agg #[.int .i64 0, .int .i64 0, .int .i64 0, .int .i64 0, .int .i32 0], .bool false]) ∧ Nx w w' := by
  have hz0 : formN 0 = 0 := rfl
  go_enter Tryz.func26, Tryz.ntmps26
  go_wp2_with fail
  refine (rop_any _ _ hx hx').mono ?_
  rintro e w1 ⟨rfl, hn1⟩
  go_wp2_with fail
  refine (form_any _ _).mono ?_
  rintro e w2 ⟨rfl, hn2⟩
  have hn3 := hn1.trans (((Nx.refl w1).alloc _).trans hn2)
  obtain ⟨c0, c1, c2, c3, c4, z0, z1, z2, z3, z4, hz⟩ := five_cells hn3
  have hb := Lib.hid (((Nx.refl w).alloc _).trans hn3)
  go_wp2
  refine bodyPost_ret (v := .tuple #[.agg #[.int .i64 0, .int .i64 0, .int .i64 0, .int .i64 0, .int .i32 0], .bool false]) (by simp [results, Tryz.results26, go_sem, c0, c1, c2, c3, c4]) rfl ⟨rfl, ?_⟩
  repeat (with_reducible first | refine Nx.alloc ?_ _ | refine Nx.setCell ?_ (Nat.le_refl _) _)
  exact hb.out

set_option maxHeartbeats 4000000 in
theorem rdecode_1 (x : Int) (w : World) (hx : 0 ≤ x) (hx' : x < 4294967296) (hf : formN (decP x).op = 1) :
    Calls Tryz.prog 26 #[.int .u32 x] w fun e w' => e = .returned (.tuple #[.agg #[.int .i64 (decP x).op, .int .i64 (fld x 7 5), .int .i64 0, .int .i64 0, .int .i32 (rimmU x)], .bool true]) ∧ Nx w w' := by
  have a7 := fld_nonneg x 7 5
  have b7 : fld x 7 5 < 32 := fld_lt x 7 5
  go_enter Tryz.func26, Tryz.ntmps26
  go_wp2_with fail
  refine (rop_any _ _ hx hx').mono ?_
  rintro e w1 ⟨rfl, hn1⟩
  go_wp2_with fail
  refine (form_any _ _).mono ?_
  rintro e w2 ⟨rfl, hn2⟩
  have hn3 := hn1.trans (((Nx.refl w1).alloc _).trans hn2)
  obtain ⟨c0, c1, c2, c3, c4, z0, z1, z2, z3, z4, hz⟩ := five_cells hn3
  obtain ⟨d0, d1, d2, d3, d4, y0, y1, y2, y3, y4, hy⟩ := five_cells hn2
  have hw1 : w.heap.size < w1.heap.size := (five_in hn1).2.2.2.2.2
  have hb := Lib.hid (((Nx.refl w).alloc _).trans hn3)
  go_wp2_with (first | (go_at_call 51; refine (rfield_in _ _ _ _ hx hx' (by omega) (by omega) (by omega) (by omega)).mono ?_; rintro e w' ⟨rfl, rfl⟩) | (go_at_call 52; refine (rimmU_any _ _ hx hx').mono ?_; rintro e w3 ⟨rfl, hn4⟩; obtain ⟨r1, r2⟩ := nx_cells hn4; have hs4 := hn4.size))
  refine bodyPost_ret (v := .tuple #[.agg #[.int .i64 (decP x).op, .int .i64 (fld x 7 5), .int .i64 0, .int .i64 0, .int .i32 (rimmU x)], .bool true]) (by simp [results, Tryz.results26, go_sem, c0, c1, c2, c3, c4, r1, hz]) rfl ⟨rfl, ?_⟩
  repeat (with_reducible first | refine Nx.setCell ?_ (Nat.le_refl _) _ | refine Nx.setCell ?_ (Nat.le_of_lt hw1) _)
  refine Nx.trans ?_ hn4
  repeat (with_reducible first | refine Nx.setCell ?_ (Nat.le_refl _) _ | refine Nx.setCell ?_ (Nat.le_of_lt hw1) _)
  exact hb.out

set_option maxHeartbeats 4000000 in
theorem rdecode_2 (x : Int) (w : World) (hx : 0 ≤ x) (hx' : x < 4294967296) (hf : formN (decP x).op = 2) :
    Calls Tryz.prog 26 #[.int .u32 x] w fun e w' => e = .returned (.tuple #[.agg #[.int .i64 (decP x).op, .int .i64 (fld x 7 5), .int .i64 0, .int .i64 0, .int .i32 (rimmJ x)], .bool true]) ∧ Nx w w' := by
  have a7 := fld_nonneg x 7 5
  have b7 : fld x 7 5 < 32 := fld_lt x 7 5
  go_enter Tryz.func26, Tryz.ntmps26
  go_wp2_with fail
  refine (rop_any _ _ hx hx').mono ?_
  rintro e w1 ⟨rfl, hn1⟩
  go_wp2_with fail
  refine (form_any _ _).mono ?_
  rintro e w2 ⟨rfl, hn2⟩
  have hn3 := hn1.trans (((Nx.refl w1).alloc _).trans hn2)
  obtain ⟨c0, c1, c2, c3, c4, z0, z1, z2, z3, z4, hz⟩ := five_cells hn3
  obtain ⟨d0, d1, d2, d3, d4, y0, y1, y2, y3, y4, hy⟩ := five_cells hn2
  have hw1 : w.heap.size < w1.heap.size := (five_in hn1).2.2.2.2.2
  have hb := Lib.hid (((Nx.refl w).alloc _).trans hn3)
  go_wp2_with (first | (go_at_call 51; refine (rfield_in _ _ _ _ hx hx' (by omega) (by omega) (by omega) (by omega)).mono ?_; rintro e w' ⟨rfl, rfl⟩) | (go_at_call 53; refine (rimmJ_any _ _ hx hx').mono ?_; rintro e w3 ⟨rfl, hn4⟩; obtain ⟨r1, r2⟩ := nx_cells hn4; have hs4 := hn4.size))
  refine bodyPost_ret (v := .tuple #[.agg #[.int .i64 (decP x).op, .int .i64 (fld x 7 5), .int .i64 0, .int .i64 0, .int .i32 (rimmJ x)], .bool true]) (by simp [results, Tryz.results26, go_sem, c0, c1, c2, c3, c4, r1, hz]) rfl ⟨rfl, ?_⟩
  repeat (with_reducible first | refine Nx.setCell ?_ (Nat.le_refl _) _ | refine Nx.setCell ?_ (Nat.le_of_lt hw1) _)
  refine Nx.trans ?_ hn4
  repeat (with_reducible first | refine Nx.setCell ?_ (Nat.le_refl _) _ | refine Nx.setCell ?_ (Nat.le_of_lt hw1) _)
  exact hb.out

set_option maxHeartbeats 4000000 in
theorem rdecode_3 (x : Int) (w : World) (hx : 0 ≤ x) (hx' : x < 4294967296) (hf : formN (decP x).op = 3) :
    Calls Tryz.prog 26 #[.int .u32 x] w fun e w' => e = .returned (.tuple #[.agg #[.int .i64 (decP x).op, .int .i64 0, .int .i64 (fld x 15 5), .int .i64 (fld x 20 5), .int .i32 (rimmB x)], .bool true]) ∧ Nx w w' := by
  have a15 := fld_nonneg x 15 5
  have b15 : fld x 15 5 < 32 := fld_lt x 15 5
  have a20 := fld_nonneg x 20 5
  have b20 : fld x 20 5 < 32 := fld_lt x 20 5
  go_enter Tryz.func26, Tryz.ntmps26
  go_wp2_with fail
  refine (rop_any _ _ hx hx').mono ?_
  rintro e w1 ⟨rfl, hn1⟩
  go_wp2_with fail
  refine (form_any _ _).mono ?_
  rintro e w2 ⟨rfl, hn2⟩
  have hn3 := hn1.trans (((Nx.refl w1).alloc _).trans hn2)
  obtain ⟨c0, c1, c2, c3, c4, z0, z1, z2, z3, z4, hz⟩ := five_cells hn3
  obtain ⟨d0, d1, d2, d3, d4, y0, y1, y2, y3, y4, hy⟩ := five_cells hn2
  have hw1 : w.heap.size < w1.heap.size := (five_in hn1).2.2.2.2.2
  have hb := Lib.hid (((Nx.refl w).alloc _).trans hn3)
  go_wp2_with (first | (go_at_call 51; refine (rfield_in _ _ _ _ hx hx' (by omega) (by omega) (by omega) (by omega)).mono ?_; rintro e w' ⟨rfl, rfl⟩) | (go_at_call 54; refine (rimmB_any _ _ hx hx').mono ?_; rintro e w3 ⟨rfl, hn4⟩; obtain ⟨r1, r2⟩ := nx_cells hn4; have hs4 := hn4.size))
  refine bodyPost_ret (v := .tuple #[.agg #[.int .i64 (decP x).op, .int .i64 0, .int .i64 (fld x 15 5), .int .i64 (fld x 20 5), .int .i32 (rimmB x)], .bool true]) (by simp [results, Tryz.results26, go_sem, c0, c1, c2, c3, c4, r1, hz]) rfl ⟨rfl, ?_⟩
  repeat (with_reducible first | refine Nx.setCell ?_ (Nat.le_refl _) _ | refine Nx.setCell ?_ (Nat.le_of_lt hw1) _)
  refine Nx.trans ?_ hn4
  repeat (with_reducible first | refine Nx.setCell ?_ (Nat.le_refl _) _ | refine Nx.setCell ?_ (Nat.le_of_lt hw1) _)
  exact hb.out

set_option maxHeartbeats 4000000 in
theorem rdecode_4 (x : Int) (w : World) (hx : 0 ≤ x) (hx' : x < 4294967296) (hf : formN (decP x).op = 4) :
    Calls Tryz.prog 26 #[.int .u32 x] w fun e w' => e = .returned (.tuple #[.agg #[.int .i64 (decP x).op, .int .i64 (fld x 7 5), .int .i64 (fld x 15 5), .int .i64 0, .int .i32 (rimmI x)], .bool true]) ∧ Nx w w' := by
  have a7 := fld_nonneg x 7 5
  have b7 : fld x 7 5 < 32 := fld_lt x 7 5
  have a15 := fld_nonneg x 15 5
  have b15 : fld x 15 5 < 32 := fld_lt x 15 5
  go_enter Tryz.func26, Tryz.ntmps26
  go_wp2_with fail
  refine (rop_any _ _ hx hx').mono ?_
  rintro e w1 ⟨rfl, hn1⟩
  go_wp2_with fail
  refine (form_any _ _).mono ?_
  rintro e w2 ⟨rfl, hn2⟩
  have hn3 := hn1.trans (((Nx.refl w1).alloc _).trans hn2)
  obtain ⟨c0, c1, c2, c3, c4, z0, z1, z2, z3, z4, hz⟩ := five_cells hn3
  obtain ⟨d0, d1, d2, d3, d4, y0, y1, y2, y3, y4, hy⟩ := five_cells hn2
  have hw1 : w.heap.size < w1.heap.size := (five_in hn1).2.2.2.2.2
  have hb := Lib.hid (((Nx.refl w).alloc _).trans hn3)
  go_wp2_with (first | (go_at_call 51; refine (rfield_in _ _ _ _ hx hx' (by omega) (by omega) (by omega) (by omega)).mono ?_; rintro e w' ⟨rfl, rfl⟩) | (go_at_call 55; refine (rimmI_any _ _ hx hx').mono ?_; rintro e w3 ⟨rfl, hn4⟩; obtain ⟨r1, r2⟩ := nx_cells hn4; have hs4 := hn4.size))
  refine bodyPost_ret (v := .tuple #[.agg #[.int .i64 (decP x).op, .int .i64 (fld x 7 5), .int .i64 (fld x 15 5), .int .i64 0, .int .i32 (rimmI x)], .bool true]) (by simp [results, Tryz.results26, go_sem, c0, c1, c2, c3, c4, r1, hz]) rfl ⟨rfl, ?_⟩
  repeat (with_reducible first | refine Nx.setCell ?_ (Nat.le_refl _) _ | refine Nx.setCell ?_ (Nat.le_of_lt hw1) _)
  refine Nx.trans ?_ hn4
  repeat (with_reducible first | refine Nx.setCell ?_ (Nat.le_refl _) _ | refine Nx.setCell ?_ (Nat.le_of_lt hw1) _)
  exact hb.out

set_option maxHeartbeats 4000000 in
theorem rdecode_5 (x : Int) (w : World) (hx : 0 ≤ x) (hx' : x < 4294967296) (hf : formN (decP x).op = 5) :
    Calls Tryz.prog 26 #[.int .u32 x] w fun e w' => e = .returned (.tuple #[.agg #[.int .i64 (decP x).op, .int .i64 0, .int .i64 (fld x 15 5), .int .i64 (fld x 20 5), .int .i32 (rimmS x)], .bool true]) ∧ Nx w w' := by
  have a15 := fld_nonneg x 15 5
  have b15 : fld x 15 5 < 32 := fld_lt x 15 5
  have a20 := fld_nonneg x 20 5
  have b20 : fld x 20 5 < 32 := fld_lt x 20 5
  go_enter Tryz.func26, Tryz.ntmps26
  go_wp2_with fail
  refine (rop_any _ _ hx hx').mono ?_
  rintro e w1 ⟨rfl, hn1⟩
  go_wp2_with fail
  refine (form_any _ _).mono ?_
  rintro e w2 ⟨rfl, hn2⟩
  have hn3 := hn1.trans (((Nx.refl w1).alloc _).trans hn2)
  obtain ⟨c0, c1, c2, c3, c4, z0, z1, z2, z3, z4, hz⟩ := five_cells hn3
  obtain ⟨d0, d1, d2, d3, d4, y0, y1, y2, y3, y4, hy⟩ := five_cells hn2
  have hw1 : w.heap.size < w1.heap.size := (five_in hn1).2.2.2.2.2
  have hb := Lib.hid (((Nx.refl w).alloc _).trans hn3)
  go_wp2_with (first | (go_at_call 51; refine (rfield_in _ _ _ _ hx hx' (by omega) (by omega) (by omega) (by omega)).mono ?_; rintro e w' ⟨rfl, rfl⟩) | (go_at_call 56; refine (rimmS_any _ _ hx hx').mono ?_; rintro e w3 ⟨rfl, hn4⟩; obtain ⟨r1, r2⟩ := nx_cells hn4; have hs4 := hn4.size))
  refine bodyPost_ret (v := .tuple #[.agg #[.int .i64 (decP x).op, .int .i64 0, .int .i64 (fld x 15 5), .int .i64 (fld x 20 5), .int .i32 (rimmS x)], .bool true]) (by simp [results, Tryz.results26, go_sem, c0, c1, c2, c3, c4, r1, hz]) rfl ⟨rfl, ?_⟩
  repeat (with_reducible first | refine Nx.setCell ?_ (Nat.le_refl _) _ | refine Nx.setCell ?_ (Nat.le_of_lt hw1) _)
  refine Nx.trans ?_ hn4
  repeat (with_reducible first | refine Nx.setCell ?_ (Nat.le_refl _) _ | refine Nx.setCell ?_ (Nat.le_of_lt hw1) _)
  exact hb.out

set_option maxHeartbeats 4000000 in
theorem rdecode_6 (x : Int) (w : World) (hx : 0 ≤ x) (hx' : x < 4294967296) (hf : formN (decP x).op = 6) :
    Calls Tryz.prog 26 #[.int .u32 x] w fun e w' => e = .returned (.tuple #[.agg #[.int .i64 (decP x).op, .int .i64 (fld x 7 5), .int .i64 (fld x 15 5), .int .i64 0, .int .i32 (rimmI x)], .bool true]) ∧ Nx w w' := by
  have a7 := fld_nonneg x 7 5
  have b7 : fld x 7 5 < 32 := fld_lt x 7 5
  have a15 := fld_nonneg x 15 5
  have b15 : fld x 15 5 < 32 := fld_lt x 15 5
  go_enter Tryz.func26, Tryz.ntmps26
  go_wp2_with fail
  refine (rop_any _ _ hx hx').mono ?_
  rintro e w1 ⟨rfl, hn1⟩
  go_wp2_with fail
  refine (form_any _ _).mono ?_
  rintro e w2 ⟨rfl, hn2⟩
  have hn3 := hn1.trans (((Nx.refl w1).alloc _).trans hn2)
  obtain ⟨c0, c1, c2, c3, c4, z0, z1, z2, z3, z4, hz⟩ := five_cells hn3
  obtain ⟨d0, d1, d2, d3, d4, y0, y1, y2, y3, y4, hy⟩ := five_cells hn2
  have hw1 : w.heap.size < w1.heap.size := (five_in hn1).2.2.2.2.2
  have hb := Lib.hid (((Nx.refl w).alloc _).trans hn3)
  go_wp2_with (first | (go_at_call 51; refine (rfield_in _ _ _ _ hx hx' (by omega) (by omega) (by omega) (by omega)).mono ?_; rintro e w' ⟨rfl, rfl⟩) | (go_at_call 55; refine (rimmI_any _ _ hx hx').mono ?_; rintro e w3 ⟨rfl, hn4⟩; obtain ⟨r1, r2⟩ := nx_cells hn4; have hs4 := hn4.size))
  refine bodyPost_ret (v := .tuple #[.agg #[.int .i64 (decP x).op, .int .i64 (fld x 7 5), .int .i64 (fld x 15 5), .int .i64 0, .int .i32 (rimmI x)], .bool true]) (by simp [results, Tryz.results26, go_sem, c0, c1, c2, c3, c4, r1, hz]) rfl ⟨rfl, ?_⟩
  repeat (with_reducible first | refine Nx.setCell ?_ (Nat.le_refl _) _ | refine Nx.setCell ?_ (Nat.le_of_lt hw1) _)
  refine Nx.trans ?_ hn4
  repeat (with_reducible first | refine Nx.setCell ?_ (Nat.le_refl _) _ | refine Nx.setCell ?_ (Nat.le_of_lt hw1) _)
  exact hb.out

set_option maxHeartbeats 4000000 in
theorem rdecode_7 (x : Int) (w : World) (hx : 0 ≤ x) (hx' : x < 4294967296) (hf : formN (decP x).op = 7) :
    Calls Tryz.prog 26 #[.int .u32 x] w fun e w' => e = .returned (.tuple #[.agg #[.int .i64 (decP x).op, .int .i64 (fld x 7 5), .int .i64 (fld x 15 5), .int .i64 0, .int .i32 (fld x 20 5)], .bool true]) ∧ Nx w w' := by
  have a7 := fld_nonneg x 7 5
  have b7 : fld x 7 5 < 32 := fld_lt x 7 5
  have a15 := fld_nonneg x 15 5
  have b15 : fld x 15 5 < 32 := fld_lt x 15 5
  have a20 := fld_nonneg x 20 5
  have b20 : fld x 20 5 < 32 := fld_lt x 20 5
  go_enter Tryz.func26, Tryz.ntmps26
  go_wp2_with fail
  refine (rop_any _ _ hx hx').mono ?_
  rintro e w1 ⟨rfl, hn1⟩
  go_wp2_with fail
  refine (form_any _ _).mono ?_
  rintro e w2 ⟨rfl, hn2⟩
  have hn3 := hn1.trans (((Nx.refl w1).alloc _).trans hn2)
  obtain ⟨c0, c1, c2, c3, c4, z0, z1, z2, z3, z4, hz⟩ := five_cells hn3
  obtain ⟨d0, d1, d2, d3, d4, y0, y1, y2, y3, y4, hy⟩ := five_cells hn2
  have hw1 : w.heap.size < w1.heap.size := (five_in hn1).2.2.2.2.2
  have hb := Lib.hid (((Nx.refl w).alloc _).trans hn3)
  go_wp2_with (first | (go_at_call 51; refine (rfield_in _ _ _ _ hx hx' (by omega) (by omega) (by omega) (by omega)).mono ?_; rintro e w' ⟨rfl, rfl⟩))
  refine bodyPost_ret (v := .tuple #[.agg #[.int .i64 (decP x).op, .int .i64 (fld x 7 5), .int .i64 (fld x 15 5), .int .i64 0, .int .i32 (fld x 20 5)], .bool true]) (by simp [results, Tryz.results26, go_sem, c0, c1, c2, c3, c4]) rfl ⟨rfl, ?_⟩
  repeat (with_reducible first | refine Nx.setCell ?_ (Nat.le_refl _) _ | refine Nx.setCell ?_ (Nat.le_of_lt hw1) _)
  exact hb.out

set_option maxHeartbeats 4000000 in
theorem rdecode_8 (x : Int) (w : World) (hx : 0 ≤ x) (hx' : x < 4294967296) (hf : formN (decP x).op = 8) :
    Calls Tryz.prog 26 #[.int .u32 x] w fun e w' => e = .returned (.tuple #[.agg #[.int .i64 (decP x).op, .int .i64 (fld x 7 5), .int .i64 (fld x 15 5), .int .i64 (fld x 20 5), .int .i32 0], .bool true]) ∧ Nx w w' := by
  have a7 := fld_nonneg x 7 5
  have b7 : fld x 7 5 < 32 := fld_lt x 7 5
  have a15 := fld_nonneg x 15 5
  have b15 : fld x 15 5 < 32 := fld_lt x 15 5
  have a20 := fld_nonneg x 20 5
  have b20 : fld x 20 5 < 32 := fld_lt x 20 5
  go_enter Tryz.func26, Tryz.ntmps26
  go_wp2_with fail
  refine (rop_any _ _ hx hx').mono ?_
  rintro e w1 ⟨rfl, hn1⟩
  go_wp2_with fail
  refine (form_any _ _).mono ?_
  rintro e w2 ⟨rfl, hn2⟩
  have hn3 := hn1.trans (((Nx.refl w1).alloc _).trans hn2)
  obtain ⟨c0, c1, c2, c3, c4, z0, z1, z2, z3, z4, hz⟩ := five_cells hn3
  obtain ⟨d0, d1, d2, d3, d4, y0, y1, y2, y3, y4, hy⟩ := five_cells hn2
  have hw1 : w.heap.size < w1.heap.size := (five_in hn1).2.2.2.2.2
  have hb := Lib.hid (((Nx.refl w).alloc _).trans hn3)
  go_wp2_with (first | (go_at_call 51; refine (rfield_in _ _ _ _ hx hx' (by omega) (by omega) (by omega) (by omega)).mono ?_; rintro e w' ⟨rfl, rfl⟩))
  refine bodyPost_ret (v := .tuple #[.agg #[.int .i64 (decP x).op, .int .i64 (fld x 7 5), .int .i64 (fld x 15 5), .int .i64 (fld x 20 5), .int .i32 0], .bool true]) (by simp [results, Tryz.results26, go_sem, c0, c1, c2, c3, c4]) rfl ⟨rfl, ?_⟩
  repeat (with_reducible first | refine Nx.setCell ?_ (Nat.le_refl _) _ | refine Nx.setCell ?_ (Nat.le_of_lt hw1) _)
  exact hb.out

set_option maxHeartbeats 4000000 in
theorem rdecode_9 (x : Int) (w : World) (hx : 0 ≤ x) (hx' : x < 4294967296) (hf : formN (decP x).op = 9) :
    Calls Tryz.prog 26 #[.int .u32 x] w fun e w' => e = .returned (.tuple #[.agg #[.int .i64 (decP x).op, .int .i64 0, .int .i64 0, .int .i64 0, .int .i32 0], .bool true]) ∧ Nx w w' := by
  go_enter Tryz.func26, Tryz.ntmps26
  go_wp2_with fail
  refine (rop_any _ _ hx hx').mono ?_
  rintro e w1 ⟨rfl, hn1⟩
  go_wp2_with fail
  refine (form_any _ _).mono ?_
  rintro e w2 ⟨rfl, hn2⟩
  have hn3 := hn1.trans (((Nx.refl w1).alloc _).trans hn2)
  obtain ⟨c0, c1, c2, c3, c4, z0, z1, z2, z3, z4, hz⟩ := five_cells hn3
  obtain ⟨d0, d1, d2, d3, d4, y0, y1, y2, y3, y4, hy⟩ := five_cells hn2
  have hw1 : w.heap.size < w1.heap.size := (five_in hn1).2.2.2.2.2
  have hb := Lib.hid (((Nx.refl w).alloc _).trans hn3)
  go_wp2_with (first | (go_at_call 51; refine (rfield_in _ _ _ _ hx hx' (by omega) (by omega) (by omega) (by omega)).mono ?_; rintro e w' ⟨rfl, rfl⟩))
  refine bodyPost_ret (v := .tuple #[.agg #[.int .i64 (decP x).op, .int .i64 0, .int .i64 0, .int .i64 0, .int .i32 0], .bool true]) (by simp [results, Tryz.results26, go_sem, c0, c1, c2, c3, c4]) rfl ⟨rfl, ?_⟩
  repeat (with_reducible first | refine Nx.setCell ?_ (Nat.le_refl _) _ | refine Nx.setCell ?_ (Nat.le_of_lt hw1) _)
  exact hb.out

theorem op_br (f : Int) : 0 ≤ brOp f ∧ brOp f ≤ 48 := by
  unfold brOp
  repeat' split
  all_goals omega

theorem op_st (f : Int) : 0 ≤ stOp f ∧ stOp f ≤ 48 := by
  unfold stOp
  repeat' split
  all_goals omega

theorem op_sh (f g : Int) : 0 ≤ shOp f g ∧ shOp f g ≤ 48 := by
  unfold shOp
  repeat' split
  all_goals omega

theorem op_nu (o f : Int) : 0 ≤ nuOp o f ∧ nuOp o f ≤ 48 := by
  unfold nuOp reOp ldOp
  repeat' split
  all_goals omega

theorem op_rg (f g : Int) (h : 0 ≤ f) (h' : f < 8) : 0 ≤ rgOp f g ∧ rgOp f g ≤ 48 := by
  unfold rgOp plOp
  repeat' split
  all_goals omega

theorem op_ba (x o f : Int) : 0 ≤ baOp x o f ∧ baOp x o f ≤ 48 := by
  unfold baOp
  repeat' split
  all_goals omega

theorem dec_range (x : Int) : 0 ≤ (decP x).op ∧ (decP x).op ≤ 48 := by
  unfold decP
  by_cases h1 : x % 128 = 55
  · rw [if_pos h1]; dsimp only; omega
  rw [if_neg h1]
  by_cases h2 : x % 128 = 23
  · rw [if_pos h2]; dsimp only; omega
  rw [if_neg h2]
  by_cases h3 : x % 128 = 111
  · rw [if_pos h3]; dsimp only; omega
  rw [if_neg h3]
  by_cases h4 : x % 128 = 99
  · rw [if_pos h4]; exact op_br _
  rw [if_neg h4]
  by_cases h5 : x % 128 = 35
  · rw [if_pos h5]; exact op_st _
  rw [if_neg h5]
  by_cases h6 : x % 128 = 19
  · rw [if_pos h6]
    by_cases h7 : x / 4096 % 8 = 1 ∨ x / 4096 % 8 = 5
    · rw [if_pos h7]; exact op_sh _ _
    · rw [if_neg h7]; exact op_nu 19 (x / 4096 % 8)
  rw [if_neg h6]
  by_cases h7 : x % 128 = 103
  · rw [if_pos h7]; exact op_nu 103 (x / 4096 % 8)
  rw [if_neg h7]
  by_cases h8 : x % 128 = 3
  · rw [if_pos h8]; exact op_nu 3 (x / 4096 % 8)
  rw [if_neg h8]
  by_cases h9 : x % 128 = 51
  · rw [if_pos h9]; exact op_rg _ _ (by omega) (by omega)
  rw [if_neg h9]
  by_cases h10 : x % 128 = 15 ∨ x % 128 = 115
  · rw [if_pos h10]; exact op_ba _ _ _
  rw [if_neg h10]; decide

theorem fld75 (x : Int) : fld x 7 5 = x / 128 % 32 := by simp [fld]

theorem fld155 (x : Int) : fld x 15 5 = x / 32768 % 32 := by simp [fld]

theorem fld205 (x : Int) : fld x 20 5 = x / 1048576 % 32 := by simp [fld]

theorem formN_zero (x : Int) (h : formN (decP x).op = 0) : (decP x).op = 0 := by
  apply Classical.byContradiction
  intro h0
  have e := dec_parts x h0
  have : ∀ op : Int, formN op = 0 → op = 0 ∨ op < 1 ∨ 48 < op := by
    intro op ho
    apply Classical.byContradiction
    intro hc
    obtain ⟨n, rfl⟩ := Int.eq_ofNat_of_zero_le (show 0 ≤ op by omega)
    have h3 : ∀ n : Fin 49, 1 ≤ n.val → ¬ formN n.val = 0 := by decide
    exact h3 ⟨n, by omega⟩ (by show 1 ≤ n; omega) ho
  have hr := dec_range x
  rcases this _ h with h1 | h1 | h1 <;> omega

theorem rdecode_any (x : Int) (w : World) (hx : 0 ≤ x) (hx' : x < 4294967296) :
    Calls Tryz.prog 26 #[.int .u32 x] w fun e w' => e = .returned (.tuple #[.agg #[.int .i64 (decJ x).op, .int .i64 (decJ x).rd, .int .i64 (decJ x).rs1, .int .i64 (decJ x).rs2, .int .i32 (decJ x).imm], .bool (!((decP x).op == 0))]) ∧ Nx w w' := by
  by_cases h0 : (decP x).op = 0
  · have e1 : decJ x = none5 := by unfold decJ; rw [if_pos h0]
    have e2 : ((decP x).op == 0) = true := by rw [beq_iff_eq]; exact h0
    rw [e1, e2]
    exact rdecode_0 x w hx hx' h0
  · have e1 : decJ x = decP x := by unfold decJ; rw [if_neg h0]
    have e2 : ((decP x).op == 0) = false := beq_eq_false_iff_ne.2 h0
    have e3 := dec_parts x h0
    rw [e1, e2]
    have k := fun (i : In5) (h : decP x = i) => h
    rcases formN_range (decP x).op with hf | hf | hf | hf | hf | hf | hf | hf | hf | hf
    · exact absurd (formN_zero x hf) h0
    · have h := rdecode_1 x w hx hx' hf
      rw [hf] at e3
      simp only [fld75, rimmU_eq] at h
      have q1 : (decP x).rd = _ := congrArg In5.rd e3
      have q2 : (decP x).rs1 = _ := congrArg In5.rs1 e3
      have q3 : (decP x).rs2 = _ := congrArg In5.rs2 e3
      have q4 : (decP x).imm = _ := congrArg In5.imm e3
      rw [q1, q2, q3, q4]
      exact h
    · have h := rdecode_2 x w hx hx' hf
      rw [hf] at e3
      simp only [fld75, rimmJ_eq] at h
      have q1 : (decP x).rd = _ := congrArg In5.rd e3
      have q2 : (decP x).rs1 = _ := congrArg In5.rs1 e3
      have q3 : (decP x).rs2 = _ := congrArg In5.rs2 e3
      have q4 : (decP x).imm = _ := congrArg In5.imm e3
      rw [q1, q2, q3, q4]
      exact h
    · have h := rdecode_3 x w hx hx' hf
      rw [hf] at e3
      simp only [fld155, fld205, rimmB_eq] at h
      have q1 : (decP x).rd = _ := congrArg In5.rd e3
      have q2 : (decP x).rs1 = _ := congrArg In5.rs1 e3
      have q3 : (decP x).rs2 = _ := congrArg In5.rs2 e3
      have q4 : (decP x).imm = _ := congrArg In5.imm e3
      rw [q1, q2, q3, q4]
      exact h
    · have h := rdecode_4 x w hx hx' hf
      rw [hf] at e3
      simp only [fld75, fld155, rimmI_eq] at h
      have q1 : (decP x).rd = _ := congrArg In5.rd e3
      have q2 : (decP x).rs1 = _ := congrArg In5.rs1 e3
      have q3 : (decP x).rs2 = _ := congrArg In5.rs2 e3
      have q4 : (decP x).imm = _ := congrArg In5.imm e3
      rw [q1, q2, q3, q4]
      exact h
    · have h := rdecode_5 x w hx hx' hf
      rw [hf] at e3
      simp only [fld155, fld205, rimmS_eq] at h
      have q1 : (decP x).rd = _ := congrArg In5.rd e3
      have q2 : (decP x).rs1 = _ := congrArg In5.rs1 e3
      have q3 : (decP x).rs2 = _ := congrArg In5.rs2 e3
      have q4 : (decP x).imm = _ := congrArg In5.imm e3
      rw [q1, q2, q3, q4]
      exact h
    · have h := rdecode_6 x w hx hx' hf
      rw [hf] at e3
      simp only [fld75, fld155, rimmI_eq] at h
      have q1 : (decP x).rd = _ := congrArg In5.rd e3
      have q2 : (decP x).rs1 = _ := congrArg In5.rs1 e3
      have q3 : (decP x).rs2 = _ := congrArg In5.rs2 e3
      have q4 : (decP x).imm = _ := congrArg In5.imm e3
      rw [q1, q2, q3, q4]
      exact h
    · have h := rdecode_7 x w hx hx' hf
      rw [hf] at e3
      simp only [fld75, fld155, fld205] at h
      have q1 : (decP x).rd = _ := congrArg In5.rd e3
      have q2 : (decP x).rs1 = _ := congrArg In5.rs1 e3
      have q3 : (decP x).rs2 = _ := congrArg In5.rs2 e3
      have q4 : (decP x).imm = _ := congrArg In5.imm e3
      rw [q1, q2, q3, q4]
      exact h
    · have h := rdecode_8 x w hx hx' hf
      rw [hf] at e3
      simp only [fld75, fld155, fld205] at h
      have q1 : (decP x).rd = _ := congrArg In5.rd e3
      have q2 : (decP x).rs1 = _ := congrArg In5.rs1 e3
      have q3 : (decP x).rs2 = _ := congrArg In5.rs2 e3
      have q4 : (decP x).imm = _ := congrArg In5.imm e3
      rw [q1, q2, q3, q4]
      exact h
    · have h := rdecode_9 x w hx hx' hf
      rw [hf] at e3
      have q1 : (decP x).rd = _ := congrArg In5.rd e3
      have q2 : (decP x).rs1 = _ := congrArg In5.rs1 e3
      have q3 : (decP x).rs2 = _ := congrArg In5.rs2 e3
      have q4 : (decP x).imm = _ := congrArg In5.imm e3
      rw [q1, q2, q3, q4]
      exact h

end Go.Proofs.YtndpgakjpokllaaGreat

