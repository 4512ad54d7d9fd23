/- Contract of show.Text. -/
import Derived.Test.YtdgmdkkockbkjaaDoorShwb
import Derived.Test.YtdgmdkkockbkjaaDoorShwd
import Derived.Test.YtdgmdkkockbkjaaDoorPressc
import Derived.Test.YtdgmdkkockbkjaaDoorRefd
namespace Go.Proofs.YtdgmdkkockbkjaaDoor
open Go.RowKit
set_option linter.unusedVariables false
set_option linter.unusedSimpArgs false

theorem letSL_C : ∀ l ∈ letSL, ∀ c ∈ l, letC c := by unfold letC; decide

theorem lsT_C (i : In5) (s : List UInt8) : ∀ c ∈ lsT i s, letC c := by
  intro c hc
  unfold lsT at hc
  split at hc
  · have h : ∀ f, ∀ c ∈ letF f, letC c := by
      intro f c hc
      unfold letF at hc
      unfold letC
      repeat' split at hc
      all_goals simp at hc
      all_goals first
        | (rcases hc with h | h | h <;> simp [h])
        | (rcases hc with h | h <;> simp [h])
    exact h _ c hc
  · unfold letS at hc
    rw [List.getD_eq_getElem?_getD] at hc
    cases he : letSL[shB.idxOf s]? with
    | none => rw [he] at hc; cases hc
    | some l => rw [he] at hc; exact letSL_C l (List.mem_of_getElem? he) c hc

theorem letC_lt (c : UInt8) (h : letC c) : c.toNat < 128 := by
  rcases h with rfl | rfl | rfl | rfl | rfl | rfl | rfl | rfl <;> decide

theorem iter_next2 (P : Program) (w : World) (g : Nat) (l : List UInt8) (k : Nat) (c : UInt8) (h : Has w g (.stringIter (⟨l.toArray⟩ : ByteArray) k)) (hc : l[k]? = some c) (ha : c.toNat < 128) :
    ∃ w2, (∀ ty, (Instr.next (.pointer (some ⟨g, 0, none⟩)) true ty).run P w = .ok (.tuple #[.bool true, .int .i64 k, .int .i32 c.toNat]) w2) ∧ Has w2 g (.stringIter (⟨l.toArray⟩ : ByteArray) (k + 1)) ∧
      (∀ a, Nx a w → a.heap.size ≤ g → Nx a w2) ∧ (∀ base e size v n xs, g < base → w.ownsRow base e size v n xs → w2.ownsRow base e size v n xs) := by
  obtain ⟨hk, e⟩ := List.getElem?_eq_some_iff.1 hc
  have hk' : k < (⟨l.toArray⟩ : ByteArray).size := hk
  have e2 : (⟨l.toArray⟩ : ByteArray)[k] = c := e
  refine ⟨w.iterAt g ⟨l.toArray⟩ (k + 1), fun ty => ?_, Lib.iterAt_heap w g _ k _ h, fun a hn ha => nx_iterAt hn ha _ _, fun base e size v n xs hb ho => ownsRow_iterAt ho hb _ _⟩
  rw [Lib.run_next_ascii_at w g _ k ty h hk' (by rw [e2]; exact ha), e2]

theorem one_new1 (w : World) (x : Value) (T : TypeId) : ∀ (j : Nat) (u : Value), [x][j]? = some u → (w.alloc (.cells #[x] T)).cell? ((⟨w.heap.size, 0, none⟩ : Addr).add j) = some u := by
  intro j u h
  rw [add0]
  have hj : j = 0 := by have := (List.getElem?_eq_some_iff.1 h).1; simp at this; exact this
  subst hj
  have : x = u := by simpa using h
  subst this
  exact (Has.new w (.cells #[x] T)).cell 0 _ rfl

theorem RowS.of_own {w : World} {base : Nat} {e : TypeId} {v : Value} {n : Nat} {l : List (List UInt8)} (h : w.ownsRow base e 1 v n (l.map fun s => Value.string (B s))) (hn : l.length = n) : RowS w v l := by
  subst hn
  have h1 := h
  rcases h.2 with ⟨e, h0⟩ | ⟨g, cap, cur, e, _⟩
  · exact ⟨none, 0, by rw [e, h0], Or.inl (List.eq_nil_of_length_eq_zero h0)⟩
  · subst e
    exact ⟨_, cap, rfl, Or.inr ⟨g, rfl, Strs.of_own h1⟩⟩

/-- What the loop over the letters has collected. -/
def opsV (i : In5) (l : List UInt8) (k : Nat) : List Value := ((l.map fun c => opnd c i).take k).map fun s => Value.string (B s)

theorem ops_take (i : In5) (l : List UInt8) (k : Nat) (c : UInt8) (h : l[k]? = some c) : opsV i l k ++ [Value.string (B (opnd c i))] = opsV i l (k + 1) := by
  unfold opsV
  rw [take_snoc' _ k (opnd c i) (by rw [List.getElem?_map, h]; rfl), List.map_append]
  rfl

theorem opsV_all (i : In5) (l : List UInt8) : opsV i l l.length = (l.map fun c => opnd c i).map fun s => Value.string (B s) := by
  unfold opsV
  rw [List.take_of_length_le (by simp)]

set_option maxHeartbeats 4000000 in
theorem shText_no (i : In5) (s : List UInt8) (w : World) (h0 : -2147483648 ≤ i.imm) (h1 : i.imm ≤ 2147483647) (hm : mayB i.op i.rd i.rs1 i.rs2 i.imm = false) :
    Calls Tryd.prog 7 #[.agg #[.int .i64 i.op, .int .i64 i.rd, .int .i64 i.rs1, .int .i64 i.rs2, .int .i32 i.imm], .string (B s)] w fun e w' => e = .returned (.string (B (textP i s))) ∧ Nx w w' := by
  have HV := Lib.hid (show textP i s = [] by unfold textP okT; rw [hm]; rfl)
  obtain ⟨op, rd, rs1, rs2, imm⟩ := i
  dsimp only at *
  go_enter Tryd.func7, Tryd.ntmps7
  go_wp2_with fail
  refine (may_any op rd rs1 rs2 imm _ h0 h1).mono ?_
  rintro e w2 ⟨rfl, hn2⟩
  rw [hm]
  obtain ⟨c0, c1, c2, c3, c4, hz⟩ := five_in hn2
  have H2 := Lib.hid (((Nx.refl w).alloc _).trans hn2)
  clear hn2
  go_wp2
  go_ret
  refine ⟨?_, H2.out⟩
  rw [HV.out]
  rfl

set_option maxHeartbeats 4000000 in
theorem shText_unfit (i : In5) (s : List UInt8) (w : World) (h0 : -2147483648 ≤ i.imm) (h1 : i.imm ≤ 2147483647) (hm : mayB i.op i.rd i.rs1 i.rs2 i.imm = true) (hs : s ≠ []) (hf : fitS (B s) i.op i.rd i.rs1 i.rs2 i.imm = false) (hN : NamesAt w) :
    Calls Tryd.prog 7 #[.agg #[.int .i64 i.op, .int .i64 i.rd, .int .i64 i.rs1, .int .i64 i.rs2, .int .i32 i.imm], .string (B s)] w fun e w' => e = .returned (.string (B (textP i s))) ∧ Nx w w' := by
  have HV := Lib.hid (show textP i s = [] by unfold textP okT; rw [hm, hf]; simp [hs])
  obtain ⟨op, rd, rs1, rs2, imm⟩ := i
  dsimp only at *
  have HN := Lib.hid hN
  have hne : (s == []) = false := by rw [beq_eq_false_iff_ne]; exact hs
  clear hN hs
  go_enter Tryd.func7, Tryd.ntmps7
  go_wp2_with fail
  refine (may_any op rd rs1 rs2 imm _ h0 h1).mono ?_
  rintro e w2 ⟨rfl, hn2⟩
  rw [hm]
  obtain ⟨c0, c1, c2, c3, c4, hz⟩ := five_in hn2
  have H2 := Lib.hid (((Nx.refl w).alloc _).trans hn2)
  clear hn2
  go_wp2_with fail
  (refine wp_region_nx 6 (by kernel_rfl) (by kernel_rfl) ?_; simp only [List.take_succ_cons, List.take_zero, List.drop_succ_cons, List.drop_zero]; (repeat (refine wpQuiet_step (fun K hK => ?_); go_simp; first | (refine hK _ ?_; clear hK K) | (apply Exists.intro; refine ⟨fun w' hw' => ?_, hK _ ?_⟩; (first | rfl | (obtain ⟨hc, hf⟩ := nx_cells hw'; go_simp; rfl) | (go_at_call 12; exact (name_any op _ (HN.out.keep (H2.out.trans hw'))).mono fun _ _ h => ⟨h.1, hw'.trans (Nx.of_eq h.2)⟩) | (go_at_call 13; exact (letters_any op _).mono fun _ _ h => ⟨h.1, hw'.trans (Nx.of_eq h.2)⟩)); clear hK K))); refine wpQuiet_nil ?_; intro w3 hn3)
  have H3 := Lib.hid (H2.out.trans hn3)
  have d0 := hn3.cell c0
  have d1 := hn3.cell c1
  have d2 := hn3.cell c2
  have d3 := hn3.cell c3
  have d4 := hn3.cell c4
  have hz3 := Nat.lt_of_lt_of_le hz hn3.size
  clear c0 c1 c2 c3 c4 hn3 hz
  go_wp2_with fail
  refine (pFits_any (B s) op rd rs1 rs2 imm _ h0 h1).mono ?_
  rintro e w4 ⟨rfl, hn4⟩
  rw [hf]
  have H4 := Lib.hid (H3.out.trans hn4)
  clear hn4
  go_wp2
  go_ret
  refine ⟨?_, H4.out⟩
  rw [HV.out]
  rfl

set_option maxHeartbeats 4000000 in
theorem shText_plain (i : In5) (s : List UInt8) (w : World) (h0 : -2147483648 ≤ i.imm) (h1 : i.imm ≤ 2147483647) (hm : mayB i.op i.rd i.rs1 i.rs2 i.imm = true) (hs : s = []) (hN : NamesAt w) (hT : Tab w) :
    Calls Tryd.prog 7 #[.agg #[.int .i64 i.op, .int .i64 i.rd, .int .i64 i.rs1, .int .i64 i.rs2, .int .i32 i.imm], .string (B s)] w fun e w' => e = .returned (.string (B (textP i s))) ∧ Nx w w' := by
  subst hs
  have HV := Lib.hid (show textP i [] = joinJ (nameP i.op) ((letF (formN i.op)).map fun c => opnd c i) by unfold textP okT; rw [hm]; rfl)
  have HL := Lib.hid (And.intro (lsT_len i []) (lsT_C i []))
  have HNM := Lib.hid (nmT_opC i [] (by unfold okT; rw [hm]; rfl)).2
  have el : lsT i [] = letF (formN i.op) := rfl
  have en : nmT i [] = nameP i.op := rfl
  rw [el] at HL
  rw [en] at HNM
  clear el en
  obtain ⟨op, rd, rs1, rs2, imm⟩ := i
  dsimp only at *
  have HN := Lib.hid hN
  have HTB := Lib.hid hT
  clear hN hT
  go_enter Tryd.func7, Tryd.ntmps7
  go_wp2_with fail
  refine (may_any op rd rs1 rs2 imm _ h0 h1).mono ?_
  rintro e w2 ⟨rfl, hn2⟩
  rw [hm]
  obtain ⟨c0, c1, c2, c3, c4, hz⟩ := five_in hn2
  have H2 := Lib.hid (((Nx.refl w).alloc _).trans hn2)
  clear hn2
  go_wp2_with fail
  (refine wp_region_nx 6 (by kernel_rfl) (by kernel_rfl) ?_; simp only [List.take_succ_cons, List.take_zero, List.drop_succ_cons, List.drop_zero]; (repeat (refine wpQuiet_step (fun K hK => ?_); go_simp; first | (refine hK _ ?_; clear hK K) | (apply Exists.intro; refine ⟨fun w' hw' => ?_, hK _ ?_⟩; (first | rfl | (obtain ⟨hc, hf⟩ := nx_cells hw'; go_simp; rfl) | (go_at_call 12; exact (name_any op _ (HN.out.keep (H2.out.trans hw'))).mono fun _ _ h => ⟨h.1, hw'.trans (Nx.of_eq h.2)⟩) | (go_at_call 13; exact (letters_any op _).mono fun _ _ h => ⟨h.1, hw'.trans (Nx.of_eq h.2)⟩)); clear hK K))); refine wpQuiet_nil ?_; intro w3 hn3)
  have H3 := Lib.hid (H2.out.trans hn3)
  have d0 := hn3.cell c0
  have d1 := hn3.cell c1
  have d2 := hn3.cell c2
  have d3 := hn3.cell c3
  have d4 := hn3.cell c4
  have hz3 := Nat.lt_of_lt_of_le hz hn3.size
  clear c0 c1 c2 c3 c4 hn3 hz
  generalize letF (formN op) = l at *
  generalize nameP op = nm at *
  have hzW := hz3
  obtain ⟨i0, hi, hz0, hz1, hz2⟩ := info_parts str_info
  have HO := Lib.hid (And.intro h0 h1)
  go_wp2
  go_loopw [7, 9] (fun v _ wr => ∃ k : Nat, k ≤ l.length ∧ wr.ownsRow (w3.heap.size + 1) 9 1 v k (opsV ⟨op, rd, rs1, rs2, imm⟩ l k) ∧ Has wr w3.heap.size (.stringIter (B l) k) ∧ Nx w3 wr) (fun _ _ wr => l.length - wr.iterPos w3.heap.size)
  case atStart =>
    refine ⟨0, Nat.zero_le _, ⟨by simp [opsV], .inl ⟨rfl, rfl⟩⟩, ?_, ?_⟩
    · exact Has.new w3 _
    · exact (Nx.refl w3).alloc _
  case round =>
    obtain ⟨k, hk, hown, hit, hn⟩ := hrel
    have HM := Lib.hid hit.pos
    by_cases hlt : k < l.length
    · obtain ⟨c, hc⟩ : ∃ c, l[k]? = some c := ⟨_, List.getElem?_eq_getElem hlt⟩
      have HC := Lib.hid (HL.out.2 c (List.mem_of_getElem? hc))
      obtain ⟨w5, hnx, g2, gn, go⟩ := iter_next2 Tryd.prog wr _ l k c hit hc (letC_lt c HC.out)
      have hn5 := gn w3 hn (Nat.le_refl _)
      have e0 := hn5.cell d0
      have e1 := hn5.cell d1
      have e2 := hn5.cell d2
      have e3 := hn5.cell d3
      have e4 := hn5.cell d4
      have HO5 := Lib.hid (go _ _ _ _ _ _ (Nat.lt_succ_self _) hown)
      have G2 := Lib.hid g2
      have HN5 := Lib.hid hn5
      have HT := Lib.hid (ops_take ⟨op, rd, rs1, rs2, imm⟩ l k c hc)
      have hz5 := Nat.lt_of_lt_of_le hzW hn5.size
      clear g2 gn go hown hit hn hn5
      go_wp2_with fail
      refine (operand_any c HC.out op rd rs1 rs2 imm _ HO.out.1 HO.out.2 (HN.out.keep (H3.out.trans HN5.out)) (HTB.out.nx (H3.out.trans HN5.out))).mono ?_
      rintro e w6 ⟨rfl, hn6⟩
      have G6 := Lib.hid (G2.out.nx hn6)
      have hown6 := own_nx HO5.out hn6
      have HN6 := Lib.hid (HN5.out.trans hn6)
      have hg6 := G6.out.lt
      clear hn6 HO5 G2
      go_wp2_with (at_builtin; refine wpList_append_own _ rfl _ _ 27 rfl (w3.heap.size + 1) 9 i0 (.string (B [])) 1 16 Tryd.underlying27 hi hz0 hz1 hz2 rfl (by decide) _ _ _ rfl (hown6.alloc _) ⟨w6.heap.size, 0, none⟩ 1 1 [.string (B (opnd c ⟨op, rd, rs1, rs2, imm⟩))] rfl rfl ?c1 ?c2 ?c3 ?c4 ?c5 ?_)
      case c1 => exact one_new1 _ _ _
      case c2 => simp [Value.oneCell']
      case c3 => have := HL.out.1; unfold maxLen; omega
      case c4 => have := HL.out.1; omega
      case c5 => simp; omega
      intro v2 w7 hown7 hg7 _
      have hn7 : Nx w3 w7 := Nx.grown ((HN6.out).alloc _) hg7 (fun j hj => by have := own_block hown6 j hj; omega)
      have hb7 : Below (w3.heap.size + 1) (w6.alloc (.cells #[.string (B (opnd c ⟨op, rd, rs1, rs2, imm⟩))] 9)) w7 := Below.grown (Below.refl _ _) hg7 (by simp; omega) (own_block hown6)
      have G7 := Lib.hid (show Has w7 w3.heap.size (.stringIter (B l) (k + 1)) from (hb7.block _ (Nat.lt_succ_self _)).trans (G6.out.alloc _))
      have HO7 := Lib.hid hown7
      have HN7 := Lib.hid hn7
      clear hown7 hg7 hown6 hn7 hb7 G6
      go_wp2
      go_roundw
      case rel => exact ⟨k + 1, by omega, by rw [← HT.out]; exact HO7.out, G7.out, HN7.out⟩
      case measure => rw [HM.out, G7.out.pos]; omega
    · obtain rfl : k = l.length := by omega
      have hnx := iter_end Tryd.prog wr _ l _ hit (Nat.le_refl _)
      have HR := Lib.hid (show RowS wr u7 (l.map fun c => opnd c ⟨op, rd, rs1, rs2, imm⟩) from RowS.of_own (n := l.length) (opsV_all _ _ ▸ hown) (by simp))
      have HNr := Lib.hid (H3.out.trans hn)
      clear hit hown hn HM
      go_wp2_with fail
      refine (join_any nm _ _ (by rw [List.length_map]; exact HL.out.1) (by have := HNM.out; omega) (fun o ho => by obtain ⟨c, _, rfl⟩ := List.mem_map.1 ho; exact opnd_len c _ HO.out.1 HO.out.2) _ HR.out).mono ?_
      rintro e w8 ⟨rfl, rfl⟩
      go_wp2
      go_ret
      refine ⟨?_, HNr.out⟩
      rw [HV.out]
      rfl

set_option maxHeartbeats 4000000 in
theorem shText_short (i : In5) (s : List UInt8) (w : World) (h0 : -2147483648 ≤ i.imm) (h1 : i.imm ≤ 2147483647) (hm : mayB i.op i.rd i.rs1 i.rs2 i.imm = true) (hs : s ≠ []) (hf : fitS (B s) i.op i.rd i.rs1 i.rs2 i.imm = true) (hN : NamesAt w) (hT : Tab w) :
    Calls Tryd.prog 7 #[.agg #[.int .i64 i.op, .int .i64 i.rd, .int .i64 i.rs1, .int .i64 i.rs2, .int .i32 i.imm], .string (B s)] w fun e w' => e = .returned (.string (B (textP i s))) ∧ Nx w w' := by
  obtain ⟨n, r, hr, er, _⟩ := fitS_at _ _ _ _ _ _ hf
  obtain ⟨es, ei⟩ := name_at n r hr
  have hn27 : n < 27 := (List.getElem?_eq_some_iff.1 hr).1
  have eL : letS s = letSL.getD n [] := by unfold letS; rw [← er, ei]
  have esB : s = shB.getD n [] := er.symm.trans es
  have HV := Lib.hid (show textP i s = joinJ s ((letSL.getD n []).map fun c => opnd c i) by unfold textP okT opsT nmT lsT; rw [hm, hf, if_neg hs, if_neg hs, eL]; simp)
  have HL := Lib.hid (And.intro (lsT_len i s) (lsT_C i s))
  have HNM := Lib.hid (nmT_opC i s (by unfold okT; rw [hm, hf]; simp)).2
  have el : lsT i s = letSL.getD n [] := by unfold lsT; rw [if_neg hs, eL]
  have en : nmT i s = s := by unfold nmT; rw [if_neg hs]
  rw [el] at HL
  rw [en] at HNM
  have CL := Lib.hid (fun w => shortLetters_any n hn27 w)
  rw [← esB] at CL
  clear el en eL esB es er ei hr
  obtain ⟨op, rd, rs1, rs2, imm⟩ := i
  dsimp only at *
  have HN := Lib.hid hN
  have HTB := Lib.hid hT
  have hne : (s == []) = false := by rw [beq_eq_false_iff_ne]; exact hs
  clear hN hT hs
  go_enter Tryd.func7, Tryd.ntmps7
  go_wp2_with fail
  refine (may_any op rd rs1 rs2 imm _ h0 h1).mono ?_
  rintro e w2 ⟨rfl, hn2⟩
  rw [hm]
  obtain ⟨c0, c1, c2, c3, c4, hz⟩ := five_in hn2
  have H2 := Lib.hid (((Nx.refl w).alloc _).trans hn2)
  clear hn2
  go_wp2_with fail
  (refine wp_region_nx 6 (by kernel_rfl) (by kernel_rfl) ?_; simp only [List.take_succ_cons, List.take_zero, List.drop_succ_cons, List.drop_zero]; (repeat (refine wpQuiet_step (fun K hK => ?_); go_simp; first | (refine hK _ ?_; clear hK K) | (apply Exists.intro; refine ⟨fun w' hw' => ?_, hK _ ?_⟩; (first | rfl | (obtain ⟨hc, hf⟩ := nx_cells hw'; go_simp; rfl) | (go_at_call 12; exact (name_any op _ (HN.out.keep (H2.out.trans hw'))).mono fun _ _ h => ⟨h.1, hw'.trans (Nx.of_eq h.2)⟩) | (go_at_call 13; exact (letters_any op _).mono fun _ _ h => ⟨h.1, hw'.trans (Nx.of_eq h.2)⟩)); clear hK K))); refine wpQuiet_nil ?_; intro w3 hn3)
  have H3 := Lib.hid (H2.out.trans hn3)
  have d0 := hn3.cell c0
  have d1 := hn3.cell c1
  have d2 := hn3.cell c2
  have d3 := hn3.cell c3
  have d4 := hn3.cell c4
  have hz3 := Nat.lt_of_lt_of_le hz hn3.size
  clear c0 c1 c2 c3 c4 hn3 hz
  go_wp2_with fail
  refine (pFits_any (B s) op rd rs1 rs2 imm _ h0 h1).mono ?_
  rintro e w4 ⟨rfl, hn4⟩
  rw [hf]
  have H4 := Lib.hid (H3.out.trans hn4)
  replace d0 := hn4.cell d0
  replace d1 := hn4.cell d1
  replace d2 := hn4.cell d2
  replace d3 := hn4.cell d3
  replace d4 := hn4.cell d4
  have hzW := Nat.lt_of_lt_of_le hz3 hn4.size
  clear hn4 hz3
  generalize letSL.getD n [] = l at *
  go_wp2_with fail
  refine (CL.out _).mono ?_
  rintro e w5 ⟨rfl, rfl⟩
  obtain ⟨i0, hi, hz0, hz1, hz2⟩ := info_parts str_info
  have HO := Lib.hid (And.intro h0 h1)
  go_wp2
  go_loopw [7, 9] (fun v _ wr => ∃ k : Nat, k ≤ l.length ∧ wr.ownsRow (w4.heap.size + 1) 9 1 v k (opsV ⟨op, rd, rs1, rs2, imm⟩ l k) ∧ Has wr w4.heap.size (.stringIter (B l) k) ∧ Nx w4 wr) (fun _ _ wr => l.length - wr.iterPos w4.heap.size)
  case atStart =>
    refine ⟨0, Nat.zero_le _, ⟨by simp [opsV], .inl ⟨rfl, rfl⟩⟩, ?_, ?_⟩
    · exact Has.new w4 _
    · exact (Nx.refl w4).alloc _
  case round =>
    obtain ⟨k, hk, hown, hit, hn⟩ := hrel
    have HM := Lib.hid hit.pos
    by_cases hlt : k < l.length
    · obtain ⟨c, hc⟩ : ∃ c, l[k]? = some c := ⟨_, List.getElem?_eq_getElem hlt⟩
      have HC := Lib.hid (HL.out.2 c (List.mem_of_getElem? hc))
      obtain ⟨w5, hnx, g2, gn, go⟩ := iter_next2 Tryd.prog wr _ l k c hit hc (letC_lt c HC.out)
      have hn5 := gn w4 hn (Nat.le_refl _)
      have e0 := hn5.cell d0
      have e1 := hn5.cell d1
      have e2 := hn5.cell d2
      have e3 := hn5.cell d3
      have e4 := hn5.cell d4
      have HO5 := Lib.hid (go _ _ _ _ _ _ (Nat.lt_succ_self _) hown)
      have G2 := Lib.hid g2
      have HN5 := Lib.hid hn5
      have HT := Lib.hid (ops_take ⟨op, rd, rs1, rs2, imm⟩ l k c hc)
      have hz5 := Nat.lt_of_lt_of_le hzW hn5.size
      clear g2 gn go hown hit hn hn5
      go_wp2_with fail
      refine (operand_any c HC.out op rd rs1 rs2 imm _ HO.out.1 HO.out.2 (HN.out.keep (H4.out.trans HN5.out)) (HTB.out.nx (H4.out.trans HN5.out))).mono ?_
      rintro e w6 ⟨rfl, hn6⟩
      have G6 := Lib.hid (G2.out.nx hn6)
      have hown6 := own_nx HO5.out hn6
      have HN6 := Lib.hid (HN5.out.trans hn6)
      have hg6 := G6.out.lt
      clear hn6 HO5 G2
      go_wp2_with (at_builtin; refine wpList_append_own _ rfl _ _ 27 rfl (w4.heap.size + 1) 9 i0 (.string (B [])) 1 16 Tryd.underlying27 hi hz0 hz1 hz2 rfl (by decide) _ _ _ rfl (hown6.alloc _) ⟨w6.heap.size, 0, none⟩ 1 1 [.string (B (opnd c ⟨op, rd, rs1, rs2, imm⟩))] rfl rfl ?c1 ?c2 ?c3 ?c4 ?c5 ?_)
      case c1 => exact one_new1 _ _ _
      case c2 => simp [Value.oneCell']
      case c3 => have := HL.out.1; unfold maxLen; omega
      case c4 => have := HL.out.1; omega
      case c5 => simp; omega
      intro v2 w7 hown7 hg7 _
      have hn7 : Nx w4 w7 := Nx.grown ((HN6.out).alloc _) hg7 (fun j hj => by have := own_block hown6 j hj; omega)
      have hb7 : Below (w4.heap.size + 1) (w6.alloc (.cells #[.string (B (opnd c ⟨op, rd, rs1, rs2, imm⟩))] 9)) w7 := Below.grown (Below.refl _ _) hg7 (by simp; omega) (own_block hown6)
      have G7 := Lib.hid (show Has w7 w4.heap.size (.stringIter (B l) (k + 1)) from (hb7.block _ (Nat.lt_succ_self _)).trans (G6.out.alloc _))
      have HO7 := Lib.hid hown7
      have HN7 := Lib.hid hn7
      clear hown7 hg7 hown6 hn7 hb7 G6
      go_wp2
      go_roundw
      case rel => exact ⟨k + 1, by omega, by rw [← HT.out]; exact HO7.out, G7.out, HN7.out⟩
      case measure => rw [HM.out, G7.out.pos]; omega
    · obtain rfl : k = l.length := by omega
      have hnx := iter_end Tryd.prog wr _ l _ hit (Nat.le_refl _)
      have HR := Lib.hid (show RowS wr u7 (l.map fun c => opnd c ⟨op, rd, rs1, rs2, imm⟩) from RowS.of_own (n := l.length) (opsV_all _ _ ▸ hown) (by simp))
      have HNr := Lib.hid (H4.out.trans hn)
      clear hit hown hn HM
      go_wp2_with fail
      refine (join_any s _ _ (by rw [List.length_map]; exact HL.out.1) (by have := HNM.out; omega) (fun o ho => by obtain ⟨c, _, rfl⟩ := List.mem_map.1 ho; exact opnd_len c _ HO.out.1 HO.out.2) _ HR.out).mono ?_
      rintro e w8 ⟨rfl, rfl⟩
      go_wp2
      go_ret
      refine ⟨?_, HNr.out⟩
      rw [HV.out]
      rfl

set_option maxHeartbeats 4000000 in
theorem shText_any (i : In5) (s : List UInt8) (w : World) (h0 : -2147483648 ≤ i.imm) (h1 : i.imm ≤ 2147483647) (hN : NamesAt w) (hT : Tab w) :
    Calls Tryd.prog 7 #[.agg #[.int .i64 i.op, .int .i64 i.rd, .int .i64 i.rs1, .int .i64 i.rs2, .int .i32 i.imm], .string (B s)] w fun e w' => e = .returned (.string (B (textP i s))) ∧ Nx w w' := by
  cases hm : mayB i.op i.rd i.rs1 i.rs2 i.imm with
  | false => exact shText_no i s w h0 h1 hm
  | true =>
    by_cases hs : s = []
    · exact shText_plain i s w h0 h1 hm hs hN hT
    · cases hf : fitS (B s) i.op i.rd i.rs1 i.rs2 i.imm with
      | false => exact shText_unfit i s w h0 h1 hm hs hf hN
      | true => exact shText_short i s w h0 h1 hm hs hf hN hT

end Go.Proofs.YtdgmdkkockbkjaaDoor
