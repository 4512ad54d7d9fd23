/- Parts of the proof, one behind the other. -/
import Derived.OwnWalk
import Derived.Test.YtppnmaklggkogaaZaa
import Derived.Test.YtppnmaklggkogaaZae
/- Contracts of package typecaseref03: Form, and what may be. -/
namespace Go.Proofs.Ytppnmaklggkogaa
open Go.RowKit
set_option linter.unusedVariables false

theorem formN_out (op : Int) (h : op < 1 ∨ 48 < op) : formN op = 0 := by
  unfold formN
  rcases h with h | h
  · have : op.toNat = 0 := by omega
    rw [this]; rfl
  · have : formsL.length ≤ op.toNat := by have : formsL.length = 49 := rfl
                                          omega
    rw [List.getD_eq_getElem?_getD, List.getElem?_eq_none this]; rfl

theorem getq {α : Type} (l : List α) (m : Nat) (d : α) (h : m < l.length) : l[m]? = some (l.getD m d) := by
  rw [List.getD_eq_getElem?_getD, List.getElem?_eq_getElem h]; rfl

set_option maxHeartbeats 2000000 in
theorem form_any (op : Int) (w : World) : Calls Try.prog 41 #[.int .i64 op] w fun e w' => e = .returned (.int .i64 (formN op)) ∧ Nx w w' := by
  by_cases h : op < 1 ∨ 48 < op
  · have he := Lib.hid (formN_out op h)
    rcases h with h | h
    · go_enter Try.func41, Try.ntmps41
      go_wp2
      go_ret
      exact ⟨ret_i64 he.out.symm, Nx.refl _⟩
    · have h' : ¬ op < 1 := by omega
      go_enter Try.func41, Try.ntmps41
      go_wp2
      go_ret
      exact ⟨ret_i64 he.out.symm, Nx.refl _⟩
  obtain ⟨n, rfl⟩ := Int.eq_ofNat_of_zero_le (show 0 ≤ op by omega)
  have h1 : 1 ≤ n := by omega
  have h2 : n ≤ 48 := by omega
  have d1 : decide ((n : Int) < 1) = false := by simp; omega
  have d2 : decide (48 < (n : Int)) = false := by simp; omega
  clear h
  have FF := Lib.hid (fun k i hk hi => find_form n k i h2 h1 hk hi)
  have FN := Lib.hid (find_none n h2 h1)
  have hget : nmB[n]? = some (nmB.getD n []) := by
    have : n < nmB.length := by have : nmB.length = 49 := rfl
                                omega
    rw [List.getD_eq_getElem?_getD, List.getElem?_eq_getElem this]; rfl
  have HG := Lib.hid hget
  clear hget
  generalize nmB.getD n [] = nm at *
  go_enter Try.func41, Try.ntmps41
  go_wp2_with fail
  refine (names_any _).mono ?_
  rintro e w1 ⟨rfl, hs, hn⟩
  have hc := hs n nm HG.out
  clear hs
  go_wp2
  generalize hW : World.alloc (World.alloc (World.alloc _ _) _) _ = W
  have rows : ∀ k, k < 9 → ∃ A, W.cell? ⟨w1.heap.size + 1 + 1 + 1 + 1 + 1 + 1 + 1 + 1, k, none⟩ = some (.slice A (llN k) (llN k)) ∧ (0 < llN k → ∃ g, A = some ⟨g, 0, none⟩ ∧ Strs W g (llB.getD k [])) := fun k hk => by
    subst hW; exact llW_rows w1 k hk
  have hnW : Nx w1 W := by subst hW; exact llW_nx w1
  have hnW2 := Lib.hid (hn.trans hnW)
  have ROWS := Lib.hid rows
  clear rows hW hn hnW hc HG
  generalize w1.heap.size + 1 + 1 + 1 + 1 + 1 + 1 + 1 + 1 = G at *
  go_loop [5, 6] (fun f i => ∃ k : Nat, k ≤ 9 ∧ f = .int .i64 k ∧ Hid (∀ j i, j < k → i < llN j → ¬ (llB.getD j [])[i]? = some nm)) (fun f _ => 9 - (intOf f).toNat)
  case atStart => exact ⟨0, by omega, rfl, Lib.hid (fun j i hj => absurd hj (by omega))⟩
  case round =>
    obtain ⟨k, hk, rfl, hno⟩ := hrel
    by_cases hlt : k < 9
    · obtain ⟨A, hA, hA2⟩ := ROWS.out k hlt
      have HA2 := Lib.hid hA2
      have hlen : llN k ≤ 6 := by
        have h3 : ∀ k : Fin 9, llN k.val ≤ 6 := by decide
        exact h3 ⟨k, hlt⟩
      have HK := Lib.hid (show (llB.getD k []).length = llN k from rfl)
      clear hA2
      generalize llN k = len at *
      go_wp2
      go_loop [6] (fun i => ∃ m : Nat, m ≤ len ∧ i = .int .i64 m ∧ Hid (∀ i, i < m → ¬ (llB.getD k [])[i]? = some nm)) (fun i => len - (intOf i).toNat)
      case atStart => exact ⟨0, by omega, rfl, Lib.hid (fun i hi => absurd hi (by omega))⟩
      case round =>
        obtain ⟨m, hm, rfl, hno2⟩ := hrel
        by_cases hlt2 : m < len
        · obtain ⟨g, hgA, hs⟩ := HA2.out (by omega)
          subst hgA
          have hgm : (llB.getD k [])[m]? = some ((llB.getD k []).getD m []) := by
            exact getq _ m [] (by rw [HK.out]; exact hlt2)
          have hcell := hs m _ hgm
          have HGM := Lib.hid hgm
          clear hs hgm
          generalize (llB.getD k []).getD m [] = s at *
          by_cases hsn : s = nm
          · have hb : (s == nm) = true := by rw [hsn]; simp
            have HR := Lib.hid (FF.out k m hlt (by rw [← hsn]; exact HGM.out))
            clear hsn
            go_wp2
            go_ret
            exact ⟨ret_i64 HR.out, hnW2.out⟩
          · have hb : (s == nm) = false := by simpa using hsn
            have HNE := Lib.hid hsn
            clear hsn
            go_wp2
            go_round
            case rel =>
              refine ⟨m + 1, by omega, by go_num, Lib.hid (fun i hi => ?_)⟩
              by_cases e : i = m
              · subst e; rw [HGM.out]; exact fun c => HNE.out (Option.some.inj c)
              · exact hno2.out i (by omega)
            case measure => simp [intOf]; omega
        · have hml : m = len := by omega
          have HML := Lib.hid hml
          clear hml
          go_wp2
          go_round
          case rel =>
            refine ⟨k + 1, by omega, by go_num, Lib.hid (fun j i hj hi => ?_)⟩
            by_cases e : j = k
            · subst e; exact hno2.out i (by rw [HML.out, ← HK.out]; exact hi)
            · exact hno.out j i (by omega) hi
          case measure => simp [intOf]; omega
    · have hk9 : k = 9 := by omega
      have HR := Lib.hid (FN.out (fun j i hj hi => hno.out j i (by omega) hi))
      clear hk9
      go_wp2
      go_ret
      exact ⟨ret_i64 HR.out, hnW2.out⟩

set_option maxHeartbeats 400000 in
theorem rreg_any (n : Int) (b : Bool) (w : World) : Calls Try.prog 42 #[.int .i64 n, .bool b] w fun e w' => e = .returned (.bool (regB n b)) ∧ w = w' := by
  cases b
  · go_enter Try.func42, Try.ntmps42
    go_wp2
    go_ret
    exact ⟨rfl, rfl⟩
  · go_enter Try.func42, Try.ntmps42
    go_wp2
    all_goals
      go_ret
      exact ⟨ret_bool (by first | (simp_all [regB]; done) | (simp [regB]; omega)), rfl⟩

set_option maxHeartbeats 400000 in
theorem rfits_any (v n : Int) (w : World) (hv : -2147483648 ≤ v) (hv' : v ≤ 2147483647) (hn : 0 ≤ n) (hn' : n ≤ 32) : Calls Try.prog 54 #[.int .i32 v, .int .i64 n] w fun e w' => e = .returned (.bool (fitB v n.toNat)) ∧ w = w' := by
  go_enter Try.func54, Try.ntmps54
  go_wp2_with (go_at_call 57; refine (rsign_in _ _ _ (by omega) (by omega) (by omega) (by omega)).mono ?_; rintro e w' ⟨rfl, rfl⟩)
  go_ret
  exact ⟨rfl, rfl⟩

theorem mod_mod_4096 (v : Int) : v % 4294967296 % 4096 = v % 4096 := by omega

theorem mod_mod_2 (v : Int) : v % 4294967296 % 2 = v % 2 := by omega

set_option maxHeartbeats 1000000 in
theorem rnumber_any (f v : Int) (w : World) (hv : -2147483648 ≤ v) (hv' : v ≤ 2147483647) (hf : 0 ≤ f) (hf' : f ≤ 9) : Calls Try.prog 43 #[.int .i64 f, .int .i32 v] w fun e w' => e = .returned (.bool (numB f v)) ∧ w = w' := by
  have m1 := mod_mod_4096 v
  have m2 := mod_mod_2 v
  rcases (by omega : f = 0 ∨ f = 1 ∨ f = 2 ∨ f = 3 ∨ f = 4 ∨ f = 5 ∨ f = 6 ∨ f = 7 ∨ f = 8 ∨ f = 9) with rfl | rfl | rfl | rfl | rfl | rfl | rfl | rfl | rfl | rfl
  all_goals
    go_enter Try.func43, Try.ntmps43
    go_wp2_with (go_at_call 54; refine (rfits_any _ _ _ (by omega) (by omega) (by omega) (by omega)).mono ?_; rintro e w' ⟨rfl, rfl⟩)
  all_goals
    go_ret
    first
      | exact ⟨rfl, rfl⟩
      | (refine ⟨ret_bool ?_, rfl⟩; simp_all [numB]; done)
      | (refine ⟨ret_bool ?_, rfl⟩; simp only [numB]; rw [Bool.eq_iff_iff]; simp; omega)

set_option maxHeartbeats 2000000 in
theorem rmay_any (op rd rs1 rs2 imm : Int) (w : World) (hv : -2147483648 ≤ imm) (hv' : imm ≤ 2147483647) :
    Calls Try.prog 27 #[.agg #[.int .i64 op, .int .i64 rd, .int .i64 rs1, .int .i64 rs2, .int .i32 imm]] w fun e w' => e = .returned (.bool (mayB op rd rs1 rs2 imm)) ∧ Nx w w' := by
  have hM := Lib.hid (show mayB op rd rs1 rs2 imm = (!(formN op == 0) && (regB rd (needD (formN op)) && (regB rs1 (needS (formN op)) && (regB rs2 (needT (formN op)) && numB (formN op) imm)))) from rfl)
  rcases formN_range op with hf | hf | hf | hf | hf | hf | hf | hf | hf | hf
  all_goals
    have h1 := hM.out
    rw [hf] at h1
    have HM := Lib.hid h1
    clear h1 hM
    go_enter Try.func27, Try.ntmps27
    go_wp2_with fail
    refine (form_any _ _).mono ?_
    rintro e w1 ⟨rfl, hn⟩
    obtain ⟨c0, c1, c2, c3, c4, hz⟩ := five_in hn
    have hb := Lib.hid (((Nx.refl w).alloc _).trans hn)
    clear hn
    go_wp2_with (first | (go_at_call 42; refine (rreg_any _ _ _).mono ?_; rintro e w' ⟨rfl, rfl⟩) | (go_at_call 43; refine (rnumber_any _ _ _ hv hv' (by omega) (by omega)).mono ?_; rintro e w' ⟨rfl, rfl⟩))
  all_goals
    go_ret
    refine ⟨ret_bool ?_, hb.out⟩
    rw [HM.out]
    first | rfl | (simp_all [needD, needS, needT]; done)

end Go.Proofs.Ytppnmaklggkogaa

/- Contracts of package typecaseref04: lists of bits, and the numbers of a word. -/
namespace Go.Proofs.Ytppnmaklggkogaa
open Go.RowKit
set_option linter.unusedVariables false

/-- The bits from a to b, downwards. -/
def dl (a b : Int) : List Int := (List.range (a - b + 1).toNat).map fun (k : Nat) => a - k

theorem int_info : (Try.prog.info? 3).map (fun i => (i.zero, i.size, i.bytes)) = some (some (.int .i64 0), 1, 8) := by kernel_rfl

theorem dl_take (a b : Int) (k : Nat) (h : k < (a - b + 1).toNat) : (dl a b).take (k + 1) = (dl a b).take k ++ [a - k] := by
  unfold dl
  rw [← List.map_take, ← List.map_take, List.take_range, List.take_range, Nat.min_eq_left (by omega), Nat.min_eq_left (by omega), List.range_succ]
  simp

theorem dl_len (a b : Int) : (dl a b).length = (a - b + 1).toNat := by simp [dl]

theorem Nx.grown {a w w' : World} {row : Option Nat} (h : Nx a w) (hg : w.grownBy w' row) (hr : ∀ k, row = some k → a.heap.size ≤ k) : Nx a w' := Below.grown h hg h.size hr

theorem own_block {w : World} {base : Nat} {e : TypeId} {size n : Nat} {v : Value} {xs : List Value} (h : w.ownsRow base e size v n xs) : ∀ k, v.ownBlock = some k → base ≤ k := by
  intro k hk
  rcases h.2 with ⟨rfl, _⟩ | ⟨g, cap, cur, rfl, hb, _⟩
  · simp [Value.ownBlock] at hk
  · simp [Value.ownBlock] at hk; omega

/-- The block g holds these ints, one a cell. -/
def Ints (w : World) (g : Nat) (l : List Int) : Prop := ∀ j x, l[j]? = some x → w.cell? ⟨g, j, none⟩ = some (.int .i64 x)

theorem Ints.keep {w w' : World} {g : Nat} {l : List Int} (h : Ints w g l) (hn : Nx w w') : Ints w' g l := fun j s hs => hn.cell (h j s hs)

theorem add0 (g j : Nat) : (⟨g, 0, none⟩ : Addr).add j = ⟨g, j, none⟩ := by
  unfold Addr.add; split
  · rename_i h; rw [h]
  · simp

theorem Ints.of_own {w : World} {base g cap : Nat} {e : TypeId} {l : List Int} (h : w.ownsRow base e 1 (.slice (some ⟨g, 0, none⟩) l.length cap) l.length (l.map (Value.int .i64))) : Ints w g l := by
  intro j x hx
  have := h.cells (g := g) rfl j (.int .i64 x) (by simp [hx])
  rw [add0] at this
  exact this

/-- The number of bits of a word, told from the highest on; below 0: a nought. -/
def hor (x : Int) : Int → List Int → Int
  | v, [] => v
  | v, i :: t => hor x (if 0 ≤ i then (2 * v % 4294967296 + fld x i.toNat 1) % 4294967296 else 2 * v % 4294967296) t

theorem hor_snoc (x v : Int) (l : List Int) (i : Int) : hor x v (l ++ [i]) = if 0 ≤ i then (2 * hor x v l % 4294967296 + fld x i.toNat 1) % 4294967296 else 2 * hor x v l % 4294967296 := by
  induction l generalizing v with
  | nil => rfl
  | cons a t ih => exact ih _

theorem hor_bd (x v : Int) (l : List Int) (h : 0 ≤ v ∧ v < 4294967296) : 0 ≤ hor x v l ∧ hor x v l < 4294967296 := by
  induction l generalizing v with
  | nil => exact h
  | cons a t ih => exact ih _ (by split <;> omega)

set_option maxHeartbeats 1000000 in
theorem bits_any (x : Int) (g n c : Nat) (l : List Int) (hn : l.length = n) (w : World) (hx : 0 ≤ x) (hx' : x < 4294967296) (hl : l.length ≤ 1000) (hi : Ints w g l) :
    Calls Try.prog 48 #[.int .u32 x, .slice (some ⟨g, 0, none⟩) n c] w fun e w' => e = .returned (.int .i32 (sgn (hor x 0 l) (cl n))) ∧ w = w' := by
  subst hn
  have HI := Lib.hid hi
  clear hi
  go_enter Try.func48, Try.ntmps48
  go_wp2
  go_loop [5, 6] (fun v i => ∃ k : Nat, k ≤ l.length ∧ i = .int .i64 k ∧ v = .int .u32 (hor x 0 (l.take k))) (fun _ i => l.length - (intOf i).toNat)
  case atStart => exact ⟨0, by omega, rfl, rfl⟩
  case round =>
    obtain ⟨k, hk, rfl, rfl⟩ := hrel
    obtain ⟨b1, b2⟩ := hor_bd x 0 (l.take k) (by omega)
    by_cases hlt : k < l.length
    · have hg : l[k]? = some l[k] := List.getElem?_eq_getElem hlt
      have hc := HI.out k _ hg
      have HS := Lib.hid (show hor x 0 (l.take (k + 1)) = _ by rw [take_snoc' l k _ hg, hor_snoc])
      clear hg
      generalize l[k] = i at *
      have f1 := fld_nonneg x i.toNat 1
      have f2 := fld_u32 x i.toNat 1 (by omega)
      by_cases h0 : 0 ≤ i
      · go_wp2_with (go_at_call 56; refine (rbit_any _ _ _ hx hx').mono ?_; rintro e w' ⟨rfl, rfl⟩)
        go_round
        case rel => exact ⟨k + 1, by omega, by go_num, congrArg _ (by rw [HS.out, if_pos h0])⟩
        case measure => simp [intOf]; omega
      · have h0' : decide (0 ≤ i) = false := by simpa using h0
        go_wp2
        go_round
        case rel => exact ⟨k + 1, by omega, by go_num, congrArg _ (by rw [HS.out, if_neg (by omega)])⟩
        case measure => simp [intOf]; omega
    · have e : k = l.length := by omega
      have HE := Lib.hid e
      clear e
      go_wp2_with (go_at_call 57; refine (rsign_any _ _ _ (by omega) (by omega)).mono ?_; rintro e w' ⟨rfl, rfl⟩)
      go_ret
      exact ⟨ret_i32 (by rw [HE.out, List.take_length]), rfl⟩

/-- A new slice of n ints, not nil, comes back. -/
def RetRow (w : World) (n : Nat) (l : List Int) (e : Ending) (w' : World) : Prop :=
  ∃ g cap, e = .returned (.slice (some ⟨g, 0, none⟩) n cap) ∧ w'.ownsRow w.heap.size 3 1 (.slice (some ⟨g, 0, none⟩) n cap) n (l.map (Value.int .i64)) ∧ Nx w w'

/-- What a new block holds is owned. -/
theorem own_new (w : World) (base n : Nat) (l : List Int) (hn : l.length = n) (hb : base ≤ w.heap.size) (hm : n ≤ 1000) :
    (w.alloc (.cells (l.map (Value.int .i64)).toArray 3)).ownsRow base 3 1 (.slice (some ⟨w.heap.size, 0, none⟩) n n) n (l.map (Value.int .i64)) := by
  subst hn
  refine ⟨by simp, .inr ⟨w.heap.size, _, (l.map (Value.int .i64)).toArray, rfl, hb, ?_, Nat.le_refl _, by unfold maxLen; omega, by simp, by simp [List.take_of_length_le]⟩⟩
  exact heap_alloc_new w _

/-- An owned row is kept where old blocks are. -/
theorem own_nx {w w' : World} {base n : Nat} {e : TypeId} {v : Value} {xs : List Value} (h : w.ownsRow base e 1 v n xs) (hn : Nx w w') : w'.ownsRow base e 1 v n xs := by
  obtain ⟨h1, h2⟩ := h
  refine ⟨h1, ?_⟩
  rcases h2 with h2 | ⟨g, cap, cur, hv, hb, hh, hc⟩
  · exact .inl h2
  · refine .inr ⟨g, cap, cur, hv, hb, ?_, hc⟩
    have hg : g < w.heap.size := by
      rcases Nat.lt_or_ge g w.heap.size with h | h
      · exact h
      · rw [Array.getElem?_eq_none h] at hh; cases hh
    rw [Below.block hn g hg]; exact hh

theorem news_of {w : World} {g : Nat} {l : List Int} (h : Ints w g l) : ∀ j u, (l.map (Value.int .i64))[j]? = some u → w.cell? ((⟨g, 0, none⟩ : Addr).add j) = some u := by
  intro j u hu
  rw [List.getElem?_map] at hu
  cases hx : l[j]? with
  | none => rw [hx] at hu; cases hu
  | some x => rw [hx] at hu; cases hu; rw [add0]; exact h j x hx

theorem one_cells (l : List Int) : ∀ u ∈ l.map (Value.int .i64), u.oneCell' = true := by
  intro u hu
  obtain ⟨x, _, rfl⟩ := List.mem_map.1 hu
  rfl

theorem own_row {w : World} {base n g cap : Nat} {e : TypeId} {l : List Int} (h : w.ownsRow base e 1 (.slice (some ⟨g, 0, none⟩) n cap) n (l.map (Value.int .i64))) (hn : l.length = n) : Ints w g l := by
  subst hn; exact Ints.of_own h

/-- append of one row of ints to another one, which is the call's own. -/
theorem wp_append_row {ops : Array Oper} {rest : List Oper} {o : Oper} {a : Act} {w : World} {Q : Exit → Act → World → Prop} (hgd : o.guard = none) (s x : Operand)
    (ho : o.op = .call { callee := .builtin .append, args := #[s, x], argTypes := #[52, 52] })
    (base g1 n1 c1 g2 n2 c2 n3 : Nat) (l1 l2 : List Int) (hs : a.eval s = .slice (some ⟨g1, 0, none⟩) n1 c1) (hx : a.eval x = .slice (some ⟨g2, 0, none⟩) n2 c2)
    (hown : w.ownsRow base 3 1 (.slice (some ⟨g1, 0, none⟩) n1 c1) n1 (l1.map (Value.int .i64))) (hl2 : l2.length = n2) (hi : Ints w g2 l2) (hn3 : n1 + n2 = n3) (hp : 0 < n3) (hsm : n3 ≤ 1000) (hbase : base ≤ w.heap.size)
    (h : ∀ g c w', w'.ownsRow base 3 1 (.slice (some ⟨g, 0, none⟩) n3 c) n3 ((l1 ++ l2).map (Value.int .i64)) → w.grownBy w' (some g1) → wpList Try.prog ops Q rest (a.put o.dst (.slice (some ⟨g, 0, none⟩) n3 c)) w') :
    wpList Try.prog ops Q (o :: rest) a w := by
  obtain ⟨i0, hi0, hz0, hz1, hz2⟩ := info_parts int_info
  refine wpList_append_own w hgd s x 52 ho base 3 i0 (.int .i64 0) 1 8 Try.underlying52 hi0 hz0 hz1 hz2 rfl (by decide) _ n1 _ hs hown ⟨g2, 0, none⟩ n2 c2 (l2.map (Value.int .i64)) hx (by simp [hl2]) (news_of hi) (one_cells l2) (by unfold maxLen; omega) (by omega) hbase ?_
  intro v' w' ho' hg _
  rw [hn3, ← List.map_append] at ho'
  rcases ho'.2 with ⟨_, h0⟩ | ⟨g, cap, cur, hv, _⟩
  · omega
  · rw [hv] at ho' ⊢
    exact h g cap w' ho' hg

end Go.Proofs.Ytppnmaklggkogaa

/- Contracts of package typecaseref05: fields, lists of bits, their numbers. -/
namespace Go.Proofs.Ytppnmaklggkogaa
open Go.RowKit
set_option linter.unusedVariables false
set_option linter.unusedSimpArgs false

set_option maxHeartbeats 400000 in
theorem efield_any (x a b : Int) (n : Nat) (w : World) (hx : 0 ≤ x) (hx' : x < 65536) (hb : 0 ≤ b) (hb' : b ≤ 31) (ha : b ≤ a) (ha' : a ≤ 31) (hn : (a - b + 1).toNat = n) :
    Calls Try.prog 46 #[.int .u32 x, .int .i64 a, .int .i64 b] w fun e w' => e = .returned (.int .i64 (fld x b.toNat n)) ∧ w = w' := by
  subst hn
  have f0 := fld_nonneg x b.toNat (a - b + 1).toNat
  have f1 := fld_u32 x b.toNat (a - b + 1).toNat (by omega)
  go_enter Try.func46, Try.ntmps46
  go_wp2_with (go_at_call 55; refine (rfield_in _ _ _ _ (by omega) (by omega) (by omega) (by omega) (by omega) (by omega)).mono ?_; rintro e w' ⟨rfl, rfl⟩)
  go_ret
  exact ⟨rfl, rfl⟩

set_option maxHeartbeats 400000 in
theorem efew_any (x l : Int) (w : World) (hx : 0 ≤ x) (hx' : x < 65536) (hb : 0 ≤ l) (hb' : l ≤ 20) :
    Calls Try.prog 47 #[.int .u32 x, .int .i64 l] w fun e w' => e = .returned (.int .i64 (8 + fld x l.toNat 3)) ∧ w = w' := by
  have f0 := fld_nonneg x l.toNat 3
  have f1 : fld x l.toNat 3 < 8 := fld_lt x l.toNat 3
  go_enter Try.func47, Try.ntmps47
  go_wp2_with (go_at_call 46; refine (efield_any _ _ _ 3 _ hx hx' (by omega) (by omega) (by omega) (by omega) (by omega)).mono ?_; rintro e w' ⟨rfl, rfl⟩)
  go_ret
  exact ⟨rfl, rfl⟩

set_option maxHeartbeats 1000000 in
theorem elist_any (nn : Int) (l : List Int) (g n c m : Nat) (w : World) (h0 : 0 ≤ nn) (h1 : nn ≤ 100) (hn : l.length = n) (hl : n ≤ 100) (hp : 0 < n) (hm : n + nn.toNat = m) (hi : Ints w g l) :
    Calls Try.prog 45 #[.int .i64 nn, .slice (some ⟨g, 0, none⟩) n c] w (RetRow w m (l ++ List.replicate nn.toNat (-1))) := by
  subst hm
  have HI := Lib.hid hi
  clear hi
  go_enter Try.func45, Try.ntmps45
  have OA := Lib.hid (own_new w w.heap.size 0 [] rfl (Nat.le_refl _) (by omega))
  have n1 : Nx w (w.alloc (.cells #[] 3)) := (Nx.refl _).alloc _
  have I1 := Lib.hid (HI.out.keep n1)
  have tok : True := trivial
  go_wp2_with (at_builtin; have _t := tok; refine wp_append_row rfl _ _ rfl w.heap.size w.heap.size 0 0 g n c n [] l rfl rfl OA.out hn I1.out (Nat.zero_add n) hp (by omega) n1.size ?_; intro gR cR w3 oR gr3; have OR := Lib.hid oR; have n3 : Nx w w3 := Nx.grown n1 gr3 (fun k hk => by have e := Option.some.inj hk; subst e; exact Nat.le_refl _); clear oR gr3; clear tok)
  clear OA n1 I1
  go_loopw [5, 6] (fun v i wr => ∃ k g' c' : Nat, (k : Int) ≤ nn ∧ i = .int .i64 k ∧ v = .slice (some ⟨g', 0, none⟩) (n + k) c' ∧ Hid (wr.ownsRow w.heap.size 3 1 v (n + k) ((l ++ List.replicate k (-1)).map (Value.int .i64))) ∧ Nx w wr) (fun _ i _ => (nn - intOf i).toNat)
  case atStart => exact ⟨0, gR, cR, by omega, rfl, rfl, Lib.hid (by simpa using OR.out), n3⟩
  case round =>
    clear OR n3
    obtain ⟨k, g', c', hk, rfl, rfl, hown, hnx⟩ := hrel
    by_cases hlt : (k : Int) < nn
    · have O2 := Lib.hid (own_nx hown.out ((Nx.refl wr).alloc (.cells #[.int .i64 (-1)] 3)))
      have J2 : Ints (wr.alloc (.cells #[.int .i64 (-1)] 3)) wr.heap.size [-1] := by
        intro j x hx
        cases j with
        | zero => have e : -1 = x := by simpa using hx
                  subst e; simp
        | succ j => simp at hx
      have I2 := Lib.hid J2
      clear J2
      have HT := Lib.hid (show (l ++ List.replicate k (-1)) ++ [-1] = l ++ List.replicate (k + 1) (-1) by rw [List.append_assoc, List.replicate_succ'])
      go_wp2_with (at_builtin; refine wp_append_row rfl _ _ rfl w.heap.size g' (n + k) c' wr.heap.size 1 1 (n + (k + 1)) _ [-1] rfl rfl O2.out rfl I2.out (by omega) (by omega) (by omega) (hnx.alloc _).size ?_; intro gR cR w3 oR gr3; rw [HT.out] at oR; have OR := Lib.hid oR; have n3 : Nx w w3 := Nx.grown (hnx.alloc _) gr3 (fun k hk => by have e := Option.some.inj hk; subst e; exact own_block hown.out _ rfl); clear oR gr3)
      go_roundw
      case rel => exact ⟨k + 1, gR, cR, by omega, by go_num, rfl, OR, n3⟩
      case measure => simp [intOf]; omega
    · have e : nn.toNat = k := by omega
      have HE := Lib.hid e
      clear e
      go_wp2
      go_ret
      rw [HE.out]
      exact ⟨g', c', rfl, hown.out, hnx⟩

set_option maxHeartbeats 1000000 in
theorem eplain_any (x : Int) (l : List Int) (g n c : Nat) (w : World) (hx : 0 ≤ x) (hx' : x < 65536) (hn : l.length = n) (hl : n ≤ 100) (hi : Ints w g l) :
    Calls Try.prog 44 #[.int .u32 x, .slice (some ⟨g, 0, none⟩) n c] w fun e w' => e = .returned (.int .i32 (sgn (hor x 0 (-1 :: l)) (cl (1 + n : Nat)))) ∧ Nx w w' := by
  have HI := Lib.hid hi
  clear hi
  go_enter Try.func44, Try.ntmps44
  have OA := Lib.hid (own_new w w.heap.size 1 [-1] rfl (Nat.le_refl _) (by omega))
  have n1 : Nx w (w.alloc (.cells #[.int .i64 (-1)] 3)) := (Nx.refl _).alloc _
  have I1 := Lib.hid (HI.out.keep n1)
  have tok : True := trivial
  go_wp2_with (at_builtin; have _t := tok; refine wp_append_row rfl _ _ rfl w.heap.size w.heap.size 1 1 g n c (1 + n) [-1] l rfl rfl OA.out hn I1.out rfl (by omega) (by omega) n1.size ?_; intro gR cR w3 oR gr3; have OR := Lib.hid oR; have n3 : Nx w w3 := Nx.grown n1 gr3 (fun k hk => by have e := Option.some.inj hk; subst e; exact Nat.le_refl _); clear oR gr3; clear tok)
  have II := Lib.hid (own_row OR.out (by simp; omega))
  refine (bits_any x gR (1 + n) cR ([-1] ++ l) (by simp; omega) w3 hx (by omega) (by simp; omega) II.out).mono ?_
  rintro e w99 ⟨rfl, rfl⟩
  go_wp2
  go_ret
  exact ⟨ret_i32 rfl, n3⟩

end Go.Proofs.Ytppnmaklggkogaa

