/- Parts of the proof, one behind the other. -/
import Derived.Test.YtdgmdkkockbkjaaGreatDoorPressc
import Derived.Test.YtdgmdkkockbkjaaGreatDoorRefd
import Derived.Test.YtdgmdkkockbkjaaGreatDoorRefcb
import Derived.Test.YtdgmdkkockbkjaaGreatDoorZkaa
import Derived.Test.YtdgmdkkockbkjaaGreatDoorZkaf
import Derived.Test.YtdgmdkkockbkjaaGreatDoorZkaj
/- Contract of show.Text. -/
namespace Go.Proofs.YtdgmdkkockbkjaaGreatDoor
open Go.RowKit
set_option linter.unusedVariables false
set_option linter.unusedSimpArgs false

theorem letSL_C : ∀ l ∈ letSL, ∀ c ∈ l, letC c := by unfold letC; decide

theorem lsT_C (i : In5) (s : List UInt8) : ∀ c ∈ lsT i s, letC c := by
  intro c hc
  unfold lsT at hc
  split at hc
  · have h : ∀ f, ∀ c ∈ letF f, letC c := by
      intro f c hc
      unfold letF at hc
      unfold letC
      repeat' split at hc
      all_goals simp at hc
      all_goals first
        | (rcases hc with h | h | h <;> simp [h])
        | (rcases hc with h | h <;> simp [h])
    exact h _ c hc
  · unfold letS at hc
    rw [List.getD_eq_getElem?_getD] at hc
    cases he : letSL[shB.idxOf s]? with
    | none => rw [he] at hc; cases hc
    | some l => rw [he] at hc; exact letSL_C l (List.mem_of_getElem? he) c hc

theorem letC_lt (c : UInt8) (h : letC c) : c.toNat < 128 := by
  rcases h with rfl | rfl | rfl | rfl | rfl | rfl | rfl | rfl <;> decide

theorem iter_next2 (P : Program) (w : World) (g : Nat) (l : List UInt8) (k : Nat) (c : UInt8) (h : Has w g (.stringIter (⟨l.toArray⟩ : ByteArray) k)) (hc : l[k]? = some c) (ha : c.toNat < 128) :
    ∃ w2, (∀ ty, (Instr.next (.pointer (some ⟨g, 0, none⟩)) true ty).run P w = .ok (.tuple #[.bool true, .int .i64 k, .int .i32 c.toNat]) w2) ∧ Has w2 g (.stringIter (⟨l.toArray⟩ : ByteArray) (k + 1)) ∧
      (∀ a, Nx a w → a.heap.size ≤ g → Nx a w2) ∧ (∀ base e size v n xs, g < base → w.ownsRow base e size v n xs → w2.ownsRow base e size v n xs) := by
  obtain ⟨hk, e⟩ := List.getElem?_eq_some_iff.1 hc
  have hk' : k < (⟨l.toArray⟩ : ByteArray).size := hk
  have e2 : (⟨l.toArray⟩ : ByteArray)[k] = c := e
  refine ⟨w.iterAt g ⟨l.toArray⟩ (k + 1), fun ty => ?_, Lib.iterAt_heap w g _ k _ h, fun a hn ha => nx_iterAt hn ha _ _, fun base e size v n xs hb ho => ownsRow_iterAt ho hb _ _⟩
  rw [Lib.run_next_ascii_at w g _ k ty h hk' (by rw [e2]; exact ha), e2]

theorem one_new1 (w : World) (x : Value) (T : TypeId) : ∀ (j : Nat) (u : Value), [x][j]? = some u → (w.alloc (.cells #[x] T)).cell? ((⟨w.heap.size, 0, none⟩ : Addr).add j) = some u := by
  intro j u h
  rw [add0]
  have hj : j = 0 := by have := (List.getElem?_eq_some_iff.1 h).1; simp at this; exact this
  subst hj
  have : x = u := by simpa using h
  subst this
  exact (Has.new w (.cells #[x] T)).cell 0 _ rfl

theorem RowS.of_own {w : World} {base : Nat} {e : TypeId} {v : Value} {n : Nat} {l : List (List UInt8)} (h : w.ownsRow base e 1 v n (l.map fun s => Value.string (B s))) (hn : l.length = n) : RowS w v l := by
  subst hn
  have h1 := h
  rcases h.2 with ⟨e, h0⟩ | ⟨g, cap, cur, e, _⟩
  · exact ⟨none, 0, by rw [e, h0], Or.inl (List.eq_nil_of_length_eq_zero h0)⟩
  · subst e
    exact ⟨_, cap, rfl, Or.inr ⟨g, rfl, Strs.of_own h1⟩⟩

/-- What the loop over the letters has collected. -/
def opsV (i : In5) (l : List UInt8) (k : Nat) : List Value := ((l.map fun c => opnd c i).take k).map fun s => Value.string (B s)

theorem ops_take (i : In5) (l : List UInt8) (k : Nat) (c : UInt8) (h : l[k]? = some c) : opsV i l k ++ [Value.string (B (opnd c i))] = opsV i l (k + 1) := by
  unfold opsV
  rw [take_snoc' _ k (opnd c i) (by rw [List.getElem?_map, h]; rfl), List.map_append]
  rfl

theorem opsV_all (i : In5) (l : List UInt8) : opsV i l l.length = (l.map fun c => opnd c i).map fun s => Value.string (B s) := by
  unfold opsV
  rw [List.take_of_length_le (by simp)]

set_option maxHeartbeats 4000000 in
theorem shText_no (i : In5) (s : List UInt8) (w : World) (h0 : -2147483648 ≤ i.imm) (h1 : i.imm ≤ 2147483647) (hm : mayB i.op i.rd i.rs1 i.rs2 i.imm = false) :
    Calls Tryz.prog 5 #[.agg #[.int .i64 i.op, .int .i64 i.rd, .int .i64 i.rs1, .int .i64 i.rs2, .int .i32 i.imm], .string (B s)] w fun e w' => e = .returned (.string (B (textP i s))) ∧ Nx w w' := by
  have HV := Lib.hid (show textP i s = [] by unfold textP okT; rw [hm]; rfl)
  obtain ⟨op, rd, rs1, rs2, imm⟩ := i
  dsimp only at *
  go_enter Tryz.func5, Tryz.ntmps5
  go_wp2_with fail
  refine (may_any op rd rs1 rs2 imm _ h0 h1).mono ?_
  rintro e w2 ⟨rfl, hn2⟩
  rw [hm]
  obtain ⟨c0, c1, c2, c3, c4, hz⟩ := five_in hn2
  have H2 := Lib.hid (((Nx.refl w).alloc _).trans hn2)
  clear hn2
  go_wp2
  go_ret
  refine ⟨?_, H2.out⟩
  rw [HV.out]
  rfl

set_option maxHeartbeats 4000000 in
theorem shText_unfit (i : In5) (s : List UInt8) (w : World) (h0 : -2147483648 ≤ i.imm) (h1 : i.imm ≤ 2147483647) (hm : mayB i.op i.rd i.rs1 i.rs2 i.imm = true) (hs : s ≠ []) (hf : fitS (B s) i.op i.rd i.rs1 i.rs2 i.imm = false) (hN : NamesAt w) :
    Calls Tryz.prog 5 #[.agg #[.int .i64 i.op, .int .i64 i.rd, .int .i64 i.rs1, .int .i64 i.rs2, .int .i32 i.imm], .string (B s)] w fun e w' => e = .returned (.string (B (textP i s))) ∧ Nx w w' := by
  have HV := Lib.hid (show textP i s = [] by unfold textP okT; rw [hm, hf]; simp [hs])
  obtain ⟨op, rd, rs1, rs2, imm⟩ := i
  dsimp only at *
  have HN := Lib.hid hN
  have hne : (s == []) = false := by rw [beq_eq_false_iff_ne]; exact hs
  clear hN hs
  go_enter Tryz.func5, Tryz.ntmps5
  go_wp2_with fail
  refine (may_any op rd rs1 rs2 imm _ h0 h1).mono ?_
  rintro e w2 ⟨rfl, hn2⟩
  rw [hm]
  obtain ⟨c0, c1, c2, c3, c4, hz⟩ := five_in hn2
  have H2 := Lib.hid (((Nx.refl w).alloc _).trans hn2)
  clear hn2
  go_wp2_with fail
  (refine wp_region_nx 6 (by kernel_rfl) (by kernel_rfl) ?_; simp only [List.take_succ_cons, List.take_zero, List.drop_succ_cons, List.drop_zero]; (repeat (refine wpQuiet_step (fun K hK => ?_); go_simp; first | (refine hK _ ?_; clear hK K) | (apply Exists.intro; refine ⟨fun w' hw' => ?_, hK _ ?_⟩; (first | rfl | (obtain ⟨hc, hf⟩ := nx_cells hw'; go_simp; rfl) | (go_at_call 11; exact (name_any op _ (HN.out.keep (H2.out.trans hw'))).mono fun _ _ h => ⟨h.1, hw'.trans (Nx.of_eq h.2)⟩) | (go_at_call 12; exact (letters_any op _).mono fun _ _ h => ⟨h.1, hw'.trans (Nx.of_eq h.2)⟩)); clear hK K))); refine wpQuiet_nil ?_; intro w3 hn3)
  have H3 := Lib.hid (H2.out.trans hn3)
  have d0 := hn3.cell c0
  have d1 := hn3.cell c1
  have d2 := hn3.cell c2
  have d3 := hn3.cell c3
  have d4 := hn3.cell c4
  have hz3 := Nat.lt_of_lt_of_le hz hn3.size
  clear c0 c1 c2 c3 c4 hn3 hz
  go_wp2_with fail
  refine (pFits_any (B s) op rd rs1 rs2 imm _ h0 h1).mono ?_
  rintro e w4 ⟨rfl, hn4⟩
  rw [hf]
  have H4 := Lib.hid (H3.out.trans hn4)
  clear hn4
  go_wp2
  go_ret
  refine ⟨?_, H4.out⟩
  rw [HV.out]
  rfl

set_option maxHeartbeats 4000000 in
theorem shText_plain (i : In5) (s : List UInt8) (w : World) (h0 : -2147483648 ≤ i.imm) (h1 : i.imm ≤ 2147483647) (hm : mayB i.op i.rd i.rs1 i.rs2 i.imm = true) (hs : s = []) (hN : NamesAt w) (hT : Tab w) :
    Calls Tryz.prog 5 #[.agg #[.int .i64 i.op, .int .i64 i.rd, .int .i64 i.rs1, .int .i64 i.rs2, .int .i32 i.imm], .string (B s)] w fun e w' => e = .returned (.string (B (textP i s))) ∧ Nx w w' := by
  subst hs
  have HV := Lib.hid (show textP i [] = joinJ (nameP i.op) ((letF (formN i.op)).map fun c => opnd c i) by unfold textP okT; rw [hm]; rfl)
  have HL := Lib.hid (And.intro (lsT_len i []) (lsT_C i []))
  have HNM := Lib.hid (nmT_opC i [] (by unfold okT; rw [hm]; rfl)).2
  have el : lsT i [] = letF (formN i.op) := rfl
  have en : nmT i [] = nameP i.op := rfl
  rw [el] at HL
  rw [en] at HNM
  clear el en
  obtain ⟨op, rd, rs1, rs2, imm⟩ := i
  dsimp only at *
  have HN := Lib.hid hN
  have HTB := Lib.hid hT
  clear hN hT
  go_enter Tryz.func5, Tryz.ntmps5
  go_wp2_with fail
  refine (may_any op rd rs1 rs2 imm _ h0 h1).mono ?_
  rintro e w2 ⟨rfl, hn2⟩
  rw [hm]
  obtain ⟨c0, c1, c2, c3, c4, hz⟩ := five_in hn2
  have H2 := Lib.hid (((Nx.refl w).alloc _).trans hn2)
  clear hn2
  go_wp2_with fail
  (refine wp_region_nx 6 (by kernel_rfl) (by kernel_rfl) ?_; simp only [List.take_succ_cons, List.take_zero, List.drop_succ_cons, List.drop_zero]; (repeat (refine wpQuiet_step (fun K hK => ?_); go_simp; first | (refine hK _ ?_; clear hK K) | (apply Exists.intro; refine ⟨fun w' hw' => ?_, hK _ ?_⟩; (first | rfl | (obtain ⟨hc, hf⟩ := nx_cells hw'; go_simp; rfl) | (go_at_call 11; exact (name_any op _ (HN.out.keep (H2.out.trans hw'))).mono fun _ _ h => ⟨h.1, hw'.trans (Nx.of_eq h.2)⟩) | (go_at_call 12; exact (letters_any op _).mono fun _ _ h => ⟨h.1, hw'.trans (Nx.of_eq h.2)⟩)); clear hK K))); refine wpQuiet_nil ?_; intro w3 hn3)
  have H3 := Lib.hid (H2.out.trans hn3)
  have d0 := hn3.cell c0
  have d1 := hn3.cell c1
  have d2 := hn3.cell c2
  have d3 := hn3.cell c3
  have d4 := hn3.cell c4
  have hz3 := Nat.lt_of_lt_of_le hz hn3.size
  clear c0 c1 c2 c3 c4 hn3 hz
  generalize letF (formN op) = l at *
  generalize nameP op = nm at *
  have hzW := hz3
  obtain ⟨i0, hi, hz0, hz1, hz2⟩ := info_parts str_info
  have HO := Lib.hid (And.intro h0 h1)
  go_wp2
  go_loopw [7, 9] (fun v _ wr => ∃ k : Nat, k ≤ l.length ∧ wr.ownsRow (w3.heap.size + 1) 9 1 v k (opsV ⟨op, rd, rs1, rs2, imm⟩ l k) ∧ Has wr w3.heap.size (.stringIter (B l) k) ∧ Nx w3 wr) (fun _ _ wr => l.length - wr.iterPos w3.heap.size)
  case atStart =>
    refine ⟨0, Nat.zero_le _, ⟨by simp [opsV], .inl ⟨rfl, rfl⟩⟩, ?_, ?_⟩
    · exact Has.new w3 _
    · exact (Nx.refl w3).alloc _
  case round =>
    obtain ⟨k, hk, hown, hit, hn⟩ := hrel
    have HM := Lib.hid hit.pos
    by_cases hlt : k < l.length
    · obtain ⟨c, hc⟩ : ∃ c, l[k]? = some c := ⟨_, List.getElem?_eq_getElem hlt⟩
      have HC := Lib.hid (HL.out.2 c (List.mem_of_getElem? hc))
      obtain ⟨w5, hnx, g2, gn, go⟩ := iter_next2 Tryz.prog wr _ l k c hit hc (letC_lt c HC.out)
      have hn5 := gn w3 hn (Nat.le_refl _)
      have e0 := hn5.cell d0
      have e1 := hn5.cell d1
      have e2 := hn5.cell d2
      have e3 := hn5.cell d3
      have e4 := hn5.cell d4
      have HO5 := Lib.hid (go _ _ _ _ _ _ (Nat.lt_succ_self _) hown)
      have G2 := Lib.hid g2
      have HN5 := Lib.hid hn5
      have HT := Lib.hid (ops_take ⟨op, rd, rs1, rs2, imm⟩ l k c hc)
      have hz5 := Nat.lt_of_lt_of_le hzW hn5.size
      clear g2 gn go hown hit hn hn5
      go_wp2_with fail
      refine (operand_any c HC.out op rd rs1 rs2 imm _ HO.out.1 HO.out.2 (HN.out.keep (H3.out.trans HN5.out)) (HTB.out.nx (H3.out.trans HN5.out))).mono ?_
      rintro e w6 ⟨rfl, hn6⟩
      have G6 := Lib.hid (G2.out.nx hn6)
      have hown6 := own_nx HO5.out hn6
      have HN6 := Lib.hid (HN5.out.trans hn6)
      have hg6 := G6.out.lt
      clear hn6 HO5 G2
      go_wp2_with (at_builtin; refine wpList_append_own _ rfl _ _ 57 rfl (w3.heap.size + 1) 9 i0 (.string (B [])) 1 16 Tryz.underlying57 hi hz0 hz1 hz2 rfl (by decide) _ _ _ rfl (hown6.alloc _) ⟨w6.heap.size, 0, none⟩ 1 1 [.string (B (opnd c ⟨op, rd, rs1, rs2, imm⟩))] rfl rfl ?c1 ?c2 ?c3 ?c4 ?c5 ?_)
      case c1 => exact one_new1 _ _ _
      case c2 => simp [Value.oneCell']
      case c3 => have := HL.out.1; unfold maxLen; omega
      case c4 => have := HL.out.1; omega
      case c5 => simp; omega
      intro v2 w7 hown7 hg7 _
      have hn7 : Nx w3 w7 := Nx.grown ((HN6.out).alloc _) hg7 (fun j hj => by have := own_block hown6 j hj; omega)
      have hb7 : Below (w3.heap.size + 1) (w6.alloc (.cells #[.string (B (opnd c ⟨op, rd, rs1, rs2, imm⟩))] 9)) w7 := Below.grown (Below.refl _ _) hg7 (by simp; omega) (own_block hown6)
      have G7 := Lib.hid (show Has w7 w3.heap.size (.stringIter (B l) (k + 1)) from (hb7.block _ (Nat.lt_succ_self _)).trans (G6.out.alloc _))
      have HO7 := Lib.hid hown7
      have HN7 := Lib.hid hn7
      clear hown7 hg7 hown6 hn7 hb7 G6
      go_wp2
      go_roundw
      case rel => exact ⟨k + 1, by omega, by rw [← HT.out]; exact HO7.out, G7.out, HN7.out⟩
      case measure => rw [HM.out, G7.out.pos]; omega
    · obtain rfl : k = l.length := by omega
      have hnx := iter_end Tryz.prog wr _ l _ hit (Nat.le_refl _)
      have HR := Lib.hid (show RowS wr u7 (l.map fun c => opnd c ⟨op, rd, rs1, rs2, imm⟩) from RowS.of_own (n := l.length) (opsV_all _ _ ▸ hown) (by simp))
      have HNr := Lib.hid (H3.out.trans hn)
      clear hit hown hn HM
      go_wp2_with fail
      refine (join_any nm _ _ (by rw [List.length_map]; exact HL.out.1) (by have := HNM.out; omega) (fun o ho => by obtain ⟨c, _, rfl⟩ := List.mem_map.1 ho; exact opnd_len c _ HO.out.1 HO.out.2) _ HR.out).mono ?_
      rintro e w8 ⟨rfl, rfl⟩
      go_wp2
      go_ret
      refine ⟨?_, HNr.out⟩
      rw [HV.out]
      rfl

set_option maxHeartbeats 4000000 in
theorem shText_short (i : In5) (s : List UInt8) (w : World) (h0 : -2147483648 ≤ i.imm) (h1 : i.imm ≤ 2147483647) (hm : mayB i.op i.rd i.rs1 i.rs2 i.imm = true) (hs : s ≠ []) (hf : fitS (B s) i.op i.rd i.rs1 i.rs2 i.imm = true) (hN : NamesAt w) (hT : Tab w) :
    Calls Tryz.prog 5 #[.agg #[.int .i64 i.op, .int .i64 i.rd, .int .i64 i.rs1, .int .i64 i.rs2, .int .i32 i.imm], .string (B s)] w fun e w' => e = .returned (.string (B (textP i s))) ∧ Nx w w' := by
  obtain ⟨n, r, hr, er, _⟩ := fitS_at _ _ _ _ _ _ hf
  obtain ⟨es, ei⟩ := name_at n r hr
  have hn27 : n < 27 := (List.getElem?_eq_some_iff.1 hr).1
  have eL : letS s = letSL.getD n [] := by unfold letS; rw [← er, ei]
  have esB : s = shB.getD n [] := er.symm.trans es
  have HV := Lib.hid (show textP i s = joinJ s ((letSL.getD n []).map fun c => opnd c i) by unfold textP okT opsT nmT lsT; rw [hm, hf, if_neg hs, if_neg hs, eL]; simp)
  have HL := Lib.hid (And.intro (lsT_len i s) (lsT_C i s))
  have HNM := Lib.hid (nmT_opC i s (by unfold okT; rw [hm, hf]; simp)).2
  have el : lsT i s = letSL.getD n [] := by unfold lsT; rw [if_neg hs, eL]
  have en : nmT i s = s := by unfold nmT; rw [if_neg hs]
  rw [el] at HL
  rw [en] at HNM
  have CL := Lib.hid (fun w => shortLetters_any n hn27 w)
  rw [← esB] at CL
  clear el en eL esB es er ei hr
  obtain ⟨op, rd, rs1, rs2, imm⟩ := i
  dsimp only at *
  have HN := Lib.hid hN
  have HTB := Lib.hid hT
  have hne : (s == []) = false := by rw [beq_eq_false_iff_ne]; exact hs
  clear hN hT hs
  go_enter Tryz.func5, Tryz.ntmps5
  go_wp2_with fail
  refine (may_any op rd rs1 rs2 imm _ h0 h1).mono ?_
  rintro e w2 ⟨rfl, hn2⟩
  rw [hm]
  obtain ⟨c0, c1, c2, c3, c4, hz⟩ := five_in hn2
  have H2 := Lib.hid (((Nx.refl w).alloc _).trans hn2)
  clear hn2
  go_wp2_with fail
  (refine wp_region_nx 6 (by kernel_rfl) (by kernel_rfl) ?_; simp only [List.take_succ_cons, List.take_zero, List.drop_succ_cons, List.drop_zero]; (repeat (refine wpQuiet_step (fun K hK => ?_); go_simp; first | (refine hK _ ?_; clear hK K) | (apply Exists.intro; refine ⟨fun w' hw' => ?_, hK _ ?_⟩; (first | rfl | (obtain ⟨hc, hf⟩ := nx_cells hw'; go_simp; rfl) | (go_at_call 11; exact (name_any op _ (HN.out.keep (H2.out.trans hw'))).mono fun _ _ h => ⟨h.1, hw'.trans (Nx.of_eq h.2)⟩) | (go_at_call 12; exact (letters_any op _).mono fun _ _ h => ⟨h.1, hw'.trans (Nx.of_eq h.2)⟩)); clear hK K))); refine wpQuiet_nil ?_; intro w3 hn3)
  have H3 := Lib.hid (H2.out.trans hn3)
  have d0 := hn3.cell c0
  have d1 := hn3.cell c1
  have d2 := hn3.cell c2
  have d3 := hn3.cell c3
  have d4 := hn3.cell c4
  have hz3 := Nat.lt_of_lt_of_le hz hn3.size
  clear c0 c1 c2 c3 c4 hn3 hz
  go_wp2_with fail
  refine (pFits_any (B s) op rd rs1 rs2 imm _ h0 h1).mono ?_
  rintro e w4 ⟨rfl, hn4⟩
  rw [hf]
  have H4 := Lib.hid (H3.out.trans hn4)
  replace d0 := hn4.cell d0
  replace d1 := hn4.cell d1
  replace d2 := hn4.cell d2
  replace d3 := hn4.cell d3
  replace d4 := hn4.cell d4
  have hzW := Nat.lt_of_lt_of_le hz3 hn4.size
  clear hn4 hz3
  generalize letSL.getD n [] = l at *
  go_wp2_with fail
  refine (CL.out _).mono ?_
  rintro e w5 ⟨rfl, rfl⟩
  obtain ⟨i0, hi, hz0, hz1, hz2⟩ := info_parts str_info
  have HO := Lib.hid (And.intro h0 h1)
  go_wp2
  go_loopw [7, 9] (fun v _ wr => ∃ k : Nat, k ≤ l.length ∧ wr.ownsRow (w4.heap.size + 1) 9 1 v k (opsV ⟨op, rd, rs1, rs2, imm⟩ l k) ∧ Has wr w4.heap.size (.stringIter (B l) k) ∧ Nx w4 wr) (fun _ _ wr => l.length - wr.iterPos w4.heap.size)
  case atStart =>
    refine ⟨0, Nat.zero_le _, ⟨by simp [opsV], .inl ⟨rfl, rfl⟩⟩, ?_, ?_⟩
    · exact Has.new w4 _
    · exact (Nx.refl w4).alloc _
  case round =>
    obtain ⟨k, hk, hown, hit, hn⟩ := hrel
    have HM := Lib.hid hit.pos
    by_cases hlt : k < l.length
    · obtain ⟨c, hc⟩ : ∃ c, l[k]? = some c := ⟨_, List.getElem?_eq_getElem hlt⟩
      have HC := Lib.hid (HL.out.2 c (List.mem_of_getElem? hc))
      obtain ⟨w5, hnx, g2, gn, go⟩ := iter_next2 Tryz.prog wr _ l k c hit hc (letC_lt c HC.out)
      have hn5 := gn w4 hn (Nat.le_refl _)
      have e0 := hn5.cell d0
      have e1 := hn5.cell d1
      have e2 := hn5.cell d2
      have e3 := hn5.cell d3
      have e4 := hn5.cell d4
      have HO5 := Lib.hid (go _ _ _ _ _ _ (Nat.lt_succ_self _) hown)
      have G2 := Lib.hid g2
      have HN5 := Lib.hid hn5
      have HT := Lib.hid (ops_take ⟨op, rd, rs1, rs2, imm⟩ l k c hc)
      have hz5 := Nat.lt_of_lt_of_le hzW hn5.size
      clear g2 gn go hown hit hn hn5
      go_wp2_with fail
      refine (operand_any c HC.out op rd rs1 rs2 imm _ HO.out.1 HO.out.2 (HN.out.keep (H4.out.trans HN5.out)) (HTB.out.nx (H4.out.trans HN5.out))).mono ?_
      rintro e w6 ⟨rfl, hn6⟩
      have G6 := Lib.hid (G2.out.nx hn6)
      have hown6 := own_nx HO5.out hn6
      have HN6 := Lib.hid (HN5.out.trans hn6)
      have hg6 := G6.out.lt
      clear hn6 HO5 G2
      go_wp2_with (at_builtin; refine wpList_append_own _ rfl _ _ 57 rfl (w4.heap.size + 1) 9 i0 (.string (B [])) 1 16 Tryz.underlying57 hi hz0 hz1 hz2 rfl (by decide) _ _ _ rfl (hown6.alloc _) ⟨w6.heap.size, 0, none⟩ 1 1 [.string (B (opnd c ⟨op, rd, rs1, rs2, imm⟩))] rfl rfl ?c1 ?c2 ?c3 ?c4 ?c5 ?_)
      case c1 => exact one_new1 _ _ _
      case c2 => simp [Value.oneCell']
      case c3 => have := HL.out.1; unfold maxLen; omega
      case c4 => have := HL.out.1; omega
      case c5 => simp; omega
      intro v2 w7 hown7 hg7 _
      have hn7 : Nx w4 w7 := Nx.grown ((HN6.out).alloc _) hg7 (fun j hj => by have := own_block hown6 j hj; omega)
      have hb7 : Below (w4.heap.size + 1) (w6.alloc (.cells #[.string (B (opnd c ⟨op, rd, rs1, rs2, imm⟩))] 9)) w7 := Below.grown (Below.refl _ _) hg7 (by simp; omega) (own_block hown6)
      have G7 := Lib.hid (show Has w7 w4.heap.size (.stringIter (B l) (k + 1)) from (hb7.block _ (Nat.lt_succ_self _)).trans (G6.out.alloc _))
      have HO7 := Lib.hid hown7
      have HN7 := Lib.hid hn7
      clear hown7 hg7 hown6 hn7 hb7 G6
      go_wp2
      go_roundw
      case rel => exact ⟨k + 1, by omega, by rw [← HT.out]; exact HO7.out, G7.out, HN7.out⟩
      case measure => rw [HM.out, G7.out.pos]; omega
    · obtain rfl : k = l.length := by omega
      have hnx := iter_end Tryz.prog wr _ l _ hit (Nat.le_refl _)
      have HR := Lib.hid (show RowS wr u7 (l.map fun c => opnd c ⟨op, rd, rs1, rs2, imm⟩) from RowS.of_own (n := l.length) (opsV_all _ _ ▸ hown) (by simp))
      have HNr := Lib.hid (H4.out.trans hn)
      clear hit hown hn HM
      go_wp2_with fail
      refine (join_any s _ _ (by rw [List.length_map]; exact HL.out.1) (by have := HNM.out; omega) (fun o ho => by obtain ⟨c, _, rfl⟩ := List.mem_map.1 ho; exact opnd_len c _ HO.out.1 HO.out.2) _ HR.out).mono ?_
      rintro e w8 ⟨rfl, rfl⟩
      go_wp2
      go_ret
      refine ⟨?_, HNr.out⟩
      rw [HV.out]
      rfl

set_option maxHeartbeats 4000000 in
theorem shText_any (i : In5) (s : List UInt8) (w : World) (h0 : -2147483648 ≤ i.imm) (h1 : i.imm ≤ 2147483647) (hN : NamesAt w) (hT : Tab w) :
    Calls Tryz.prog 5 #[.agg #[.int .i64 i.op, .int .i64 i.rd, .int .i64 i.rs1, .int .i64 i.rs2, .int .i32 i.imm], .string (B s)] w fun e w' => e = .returned (.string (B (textP i s))) ∧ Nx w w' := by
  cases hm : mayB i.op i.rd i.rs1 i.rs2 i.imm with
  | false => exact shText_no i s w h0 h1 hm
  | true =>
    by_cases hs : s = []
    · exact shText_plain i s w h0 h1 hm hs hN hT
    · cases hf : fitS (B s) i.op i.rd i.rs1 i.rs2 i.imm with
      | false => exact shText_unfit i s w h0 h1 hm hs hf hN
      | true => exact shText_short i s w h0 h1 hm hs hf hN hT

end Go.Proofs.YtdgmdkkockbkjaaGreatDoor

/- Contracts of typecaseref11.Digits, typecaseref17.op, typecaseref17.in. -/
namespace Go.Proofs.YtdgmdkkockbkjaaGreatDoor
open Go.RowKit
set_option linter.unusedVariables false
set_option linter.unusedSimpArgs false

/-- Is a text one of them? -/
def inB (s : List UInt8) (l : List (List UInt8)) : Bool := l.contains s

theorem in17_any (s : List UInt8) (v : Value) (l : List (List UInt8)) (hl : l.length ≤ 1000) (w : World) (hR : RowS w v l) : Calls Tryz.prog 43 #[.string (B s), v] w fun e w' => e = .returned (.bool (inB s l)) ∧ w = w' := by
  obtain ⟨A, c, rfl, hA⟩ := hR
  have HA := Lib.hid hA
  have HT := Lib.hid (fun (h : ∃ k, l[k]? = some s) => (show inB s l = true from by obtain ⟨k, hk⟩ := h; unfold inB; simp; exact List.mem_of_getElem? hk))
  have HF := Lib.hid (fun (h : ∀ k, k < l.length → ¬ l[k]? = some s) => (show inB s l = false from by
    unfold inB
    cases hc : l.contains s with
    | false => rfl
    | true =>
      exfalso
      have : s ∈ l := by simpa using hc
      obtain ⟨k, hk, e⟩ := List.getElem_of_mem this
      exact h k hk (by rw [List.getElem?_eq_getElem hk, e])))
  clear hA
  go_enter Tryz.func43, Tryz.ntmps43
  go_wp2
  go_loop [5] (fun i => ∃ k : Nat, k ≤ l.length ∧ i = .int .i64 k ∧ Hid (∀ j, j < k → ¬ l[j]? = some s)) (fun i => l.length - (intOf i).toNat)
  case atStart => exact ⟨0, Nat.zero_le _, rfl, Lib.hid (fun j h => by omega)⟩
  case round =>
    obtain ⟨k, hk, rfl, HL⟩ := hrel
    by_cases hlt : k < l.length
    · obtain ⟨x, hx⟩ : ∃ x, l[k]? = some x := ⟨_, List.getElem?_eq_getElem hlt⟩
      obtain ⟨g, rfl, hg⟩ : ∃ g, A = some ⟨g, 0, none⟩ ∧ Strs w g l := by
        rcases HA.out with h | h
        · rw [h] at hlt; simp at hlt
        · exact h
      have hc := hg k x hx
      have HX := Lib.hid hx
      have d0 : decide ((k : Int) < l.length) = true := decide_eq_true (by omega)
      clear hg hx
      by_cases he : x = s
      · have bx : (x == s) = true := by simpa using he
        have HV := Lib.hid (HT.out ⟨k, by rw [HX.out, he]⟩)
        clear he
        go_wp2
        go_ret
        exact ⟨by rw [HV.out]; rfl, rfl⟩
      · have bx : (x == s) = false := by simpa using he
        have HL2 := Lib.hid (show ∀ j, j < k + 1 → ¬ l[j]? = some s from fun j h => by
          by_cases e : j = k
          · rw [e, HX.out]; exact fun h => he (Option.some.inj h)
          · exact HL.out j (by omega))
        clear he
        go_wp2
        go_round
        case rel => exact ⟨k + 1, by omega, by go_num, HL2⟩
        case measure => simp [intOf]; omega
    · obtain rfl : k = l.length := by omega
      have HV := Lib.hid (HF.out (fun j h => HL.out j h))
      go_wp2
      go_ret
      exact ⟨by rw [HV.out]; rfl, rfl⟩

theorem op17_any (s : List UInt8) (w : World) : Calls Tryz.prog 68 #[.string (B s)] w fun e w' => e = .returned (.int .i64 (opP s : Nat)) ∧ Nx w w' := by
  have HF := Lib.hid (op_found s)
  have HO := Lib.hid (op_none s)
  go_enter Tryz.func68, Tryz.ntmps68
  go_wp2_with fail
  refine (names_any _).mono ?_
  rintro e w2 ⟨rfl, hS, hn2⟩
  have HN := Lib.hid hS
  have H2 := Lib.hid hn2
  have hz2 : w.heap.size ≤ w2.heap.size := hn2.size
  clear hS hn2
  go_wp2
  go_loop [4] (fun i => ∃ k : Nat, 1 ≤ k ∧ k ≤ 49 ∧ i = .int .i64 k ∧ Hid (∀ j, 1 ≤ j → j < k → ¬ nmB.getD j [] = s)) (fun i => 49 - (intOf i).toNat)
  case atStart => exact ⟨1, by omega, by omega, rfl, Lib.hid (fun j h1 h2 => by omega)⟩
  case round =>
    obtain ⟨k, hk1, hk2, rfl, HL⟩ := hrel
    by_cases hlt : k < 49
    · have hc := HN.out k _ (nmB_at k hlt)
      have HF2 := Lib.hid (HF.out k hk1 (by omega))
      have HL2 := Lib.hid (fun (hne : ¬ nmB.getD k [] = s) => (fun j h1 (h2 : j < k + 1) => by
        by_cases e : j = k
        · rw [e]; exact hne
        · exact HL.out j h1 (by omega) : ∀ j, 1 ≤ j → j < k + 1 → ¬ nmB.getD j [] = s))
      generalize nmB.getD k [] = x at *
      by_cases hx : x = s
      · have bx : (x == s) = true := by simpa using hx
        have HV := Lib.hid (HF2.out hx)
        clear hx
        go_wp2
        go_ret
        exact ⟨by rw [HV.out]; rfl, H2.out⟩
      · have bx : (x == s) = false := by simpa using hx
        have HL3 := HL2.out hx
        have HL4 := Lib.hid HL3
        clear hx HL3
        go_wp2
        go_round
        case rel => exact ⟨k + 1, by omega, by omega, by go_num, HL4⟩
        case measure => simp [intOf]; omega
    · obtain rfl : k = 49 := by omega
      have HV := Lib.hid (HO.out (fun j h1 h2 => HL.out j h1 (by omega)))
      go_wp2
      go_ret
      exact ⟨by rw [HV.out]; rfl, H2.out⟩

theorem dec_step (u : Nat) (h : ¬ u < 10) : Lib.decDigits u = Lib.decDigits (u / 10) ++ [UInt8.ofNat (48 + u % 10)] := by
  rw [Lib.decDigits, dif_neg h]

/-- Digits, of a number below 0. -/
theorem digits_neg (m : Nat) (hm : m ≤ 4294967296) (h0 : 0 < m) (w : World) :
    Calls Tryz.prog 39 #[.int .i64 (-(m : Int))] w fun e w' => e = .returned (.string (B (Lib.itoa (-(m : Int))))) ∧ w = w' := by
  have HV := Lib.hid (show [45] ++ Lib.decDigits m = Lib.itoa (-(m : Int)) by
    unfold Lib.itoa
    rw [if_pos (by omega)]
    simp)
  have HD := Lib.hid dig_one
  have HS := Lib.hid dec_step
  have HL := Lib.hid (show (Lib.decDigits m).length ≤ 11 by have := itoa_len m (by omega) (by omega); unfold Lib.itoa at this; rw [if_neg (by omega)] at this; simpa using this)
  have d0 : decide (0 ≤ -(m : Int)) = false := decide_eq_false (by omega)
  go_enter Tryz.func39, Tryz.ntmps39
  go_wp2
  go_loop [0, 4] (fun i v => ∃ (k : Nat) (t : List UInt8), i = .int .i64 (-(k : Int)) ∧ v = .string (B t) ∧ Hid (k ≤ m ∧ (∀ l, l = Lib.decDigits k → l ++ t = Lib.decDigits m))) (fun i _ => (-(intOf i)).toNat)
  case atStart => exact ⟨m, [], rfl, rfl, Lib.hid ⟨Nat.le_refl _, fun l e => by rw [e]; simp⟩⟩
  case round =>
    obtain ⟨k, t, rfl, rfl, HK⟩ := hrel
    have hk := HK.out.1
    have hkm : k ≤ 4294967296 := by omega
    have ht := congrArg List.length (HK.out.2 _ rfl)
    have hl := HL.out
    rw [List.length_append] at ht
    have htl : t.length ≤ 11 := by omega
    have hqm : k / 10 ≤ m := by omega
    clear ht hl hk
    obtain ⟨r, hr⟩ : ∃ r, k % 10 = r := ⟨_, rfl⟩
    obtain ⟨q, hq⟩ : ∃ q, k / 10 = q := ⟨_, rfl⟩
    have hr9 : r < 10 := by omega
    have h1 := dig_one r hr9
    have hrI : (k : Int) % 10 = r := by omega
    have hqI : (k : Int) / 10 = q := by omega
    have HR := Lib.hid hr
    have HQ := Lib.hid hq
    have HQM := Lib.hid (hq ▸ hqm)
    have a1 := app_B [UInt8.ofNat (48 + r)] t
    have z1 : [UInt8.ofNat (48 + r)].length = 1 := rfl
    obtain ⟨d, hd⟩ : ∃ d, [UInt8.ofNat (48 + r)] = d := ⟨_, rfl⟩
    rw [hd] at h1 a1 z1
    have HDD := Lib.hid hd
    have s1 : (B d).size + (B t).size ≤ 9223372036854775807 := by show d.length + t.length ≤ _; omega
    have s2 : ¬ 9223372036854775807 < 1 + (d ++ t).length := by simp; omega
    clear hd hr hq hqm
    by_cases hz : q = 0
    · subst hz
      have a2 := app_B [45] (d ++ t)
      have HF := Lib.hid (show [45] ++ (d ++ t) = [45] ++ Lib.decDigits m by
        rw [← HDD.out, ← HR.out]
        refine congrArg _ (HK.out.2 _ ?_)
        have hk9 : k < 10 := by have := HQ.out; omega
        rw [Lib.decDigits_one hk9, Nat.mod_eq_of_lt hk9])
      have hk9 : k < 10 := by have := HQ.out; omega
      generalize d ++ t = x at *
      clear htl z1 hk9 hkm
      go_wp2
      go_ret
      refine ⟨?_, rfl⟩
      rw [← HV.out, ← HF.out]
      rfl
    · have e0 : ((-(q : Int)) == 0) = false := by rw [beq_eq_false_iff_ne]; omega
      have HN := Lib.hid (show q ≤ m ∧ ∀ l, l = Lib.decDigits q → l ++ (d ++ t) = Lib.decDigits m from ⟨HQM.out, fun l e => by
        rw [e, ← List.append_assoc]
        refine HK.out.2 _ ?_
        rw [HS.out k (by have := HQ.out; omega), HQ.out, HR.out, HDD.out]⟩)
      have hlt : q < k := by have := HQ.out; omega
      generalize d ++ t = x at *
      go_wp2
      go_round
      case rel => exact ⟨q, x, rfl, rfl, HN⟩
      case measure => simp [intOf]; omega

/-- Digits, of a number from 0 on. -/
theorem digits_pos (m : Nat) (hm : m ≤ 4294967296) (w : World) :
    Calls Tryz.prog 39 #[.int .i64 m] w fun e w' => e = .returned (.string (B (Lib.itoa m))) ∧ w = w' := by
  have HV := Lib.hid (show [] ++ Lib.decDigits m = Lib.itoa m by
    unfold Lib.itoa
    rw [if_neg (by omega)]
    simp)
  have HD := Lib.hid dig_one
  have HS := Lib.hid dec_step
  have HL := Lib.hid (show (Lib.decDigits m).length ≤ 11 by have := itoa_len m (by omega) (by omega); unfold Lib.itoa at this; rw [if_neg (by omega)] at this; simpa using this)
  go_enter Tryz.func39, Tryz.ntmps39
  go_wp2
  go_loop [0, 4] (fun i v => ∃ (k : Nat) (t : List UInt8), i = .int .i64 (-(k : Int)) ∧ v = .string (B t) ∧ Hid (k ≤ m ∧ (∀ l, l = Lib.decDigits k → l ++ t = Lib.decDigits m))) (fun i _ => (-(intOf i)).toNat)
  case atStart => exact ⟨m, [], rfl, rfl, Lib.hid ⟨Nat.le_refl _, fun l e => by rw [e]; simp⟩⟩
  case round =>
    obtain ⟨k, t, rfl, rfl, HK⟩ := hrel
    have hk := HK.out.1
    have hkm : k ≤ 4294967296 := by omega
    have ht := congrArg List.length (HK.out.2 _ rfl)
    have hl := HL.out
    rw [List.length_append] at ht
    have htl : t.length ≤ 11 := by omega
    have hqm : k / 10 ≤ m := by omega
    clear ht hl hk
    obtain ⟨r, hr⟩ : ∃ r, k % 10 = r := ⟨_, rfl⟩
    obtain ⟨q, hq⟩ : ∃ q, k / 10 = q := ⟨_, rfl⟩
    have hr9 : r < 10 := by omega
    have h1 := dig_one r hr9
    have hrI : (k : Int) % 10 = r := by omega
    have hqI : (k : Int) / 10 = q := by omega
    have HR := Lib.hid hr
    have HQ := Lib.hid hq
    have HQM := Lib.hid (hq ▸ hqm)
    have a1 := app_B [UInt8.ofNat (48 + r)] t
    have z1 : [UInt8.ofNat (48 + r)].length = 1 := rfl
    obtain ⟨d, hd⟩ : ∃ d, [UInt8.ofNat (48 + r)] = d := ⟨_, rfl⟩
    rw [hd] at h1 a1 z1
    have HDD := Lib.hid hd
    have s1 : (B d).size + (B t).size ≤ 9223372036854775807 := by show d.length + t.length ≤ _; omega
    have s2 : ¬ 9223372036854775807 < (d ++ t).length := by simp; omega
    clear hd hr hq hqm
    by_cases hz : q = 0
    · subst hz
      have a2 := app_B [] (d ++ t)
      have HF := Lib.hid (show [] ++ (d ++ t) = [] ++ Lib.decDigits m by
        rw [← HDD.out, ← HR.out]
        refine congrArg _ (HK.out.2 _ ?_)
        have hk9 : k < 10 := by have := HQ.out; omega
        rw [Lib.decDigits_one hk9, Nat.mod_eq_of_lt hk9])
      have hk9 : k < 10 := by have := HQ.out; omega
      generalize d ++ t = x at *
      clear htl z1 hk9 hkm
      go_wp2
      go_ret
      refine ⟨?_, rfl⟩
      rw [← HV.out, ← HF.out]
      rfl
    · have e0 : ((-(q : Int)) == 0) = false := by rw [beq_eq_false_iff_ne]; omega
      have HN := Lib.hid (show q ≤ m ∧ ∀ l, l = Lib.decDigits q → l ++ (d ++ t) = Lib.decDigits m from ⟨HQM.out, fun l e => by
        rw [e, ← List.append_assoc]
        refine HK.out.2 _ ?_
        rw [HS.out k (by have := HQ.out; omega), HQ.out, HR.out, HDD.out]⟩)
      have hlt : q < k := by have := HQ.out; omega
      generalize d ++ t = x at *
      go_wp2
      go_round
      case rel => exact ⟨q, x, rfl, rfl, HN⟩
      case measure => simp [intOf]; omega

theorem digits_any (n : Int) (h0 : -4294967296 ≤ n) (h1 : n ≤ 4294967296) (w : World) :
    Calls Tryz.prog 39 #[.int .i64 n] w fun e w' => e = .returned (.string (B (Lib.itoa n))) ∧ w = w' := by
  by_cases h : 0 ≤ n
  · obtain ⟨m, rfl⟩ : ∃ m : Nat, n = m := ⟨n.toNat, by omega⟩
    exact digits_pos m (by omega) w
  · obtain ⟨m, rfl⟩ : ∃ m : Nat, n = -(m : Int) := ⟨(-n).toNat, by omega⟩
    exact digits_neg m (by omega) (by omega) w

end Go.Proofs.YtdgmdkkockbkjaaGreatDoor

/- Contract of typecaseref17.Letters, at the names of operations and of shorts. -/
namespace Go.Proofs.YtdgmdkkockbkjaaGreatDoor
open Go.RowKit
set_option linter.unusedVariables false
set_option linter.unusedSimpArgs false

/-- What Letters says of so many operands. -/
def lqP (L : List UInt8) (n : Nat) : List UInt8 := if L.length = n then L else [63]

/-- The list with which it begins. -/
def lqL : List (List UInt8) := [[], [100, 117], [100, 106], [115, 116, 106], [100, 109], [116, 109], [100, 115, 105], [100, 115, 105], [100, 115, 116], []]

theorem lqL_at (f : Nat) (hf : f < 10) : lqL[f]? = some (letF f) := by
  rcases (by omega : f = 0 ∨ f = 1 ∨ f = 2 ∨ f = 3 ∨ f = 4 ∨ f = 5 ∨ f = 6 ∨ f = 7 ∨ f = 8 ∨ f = 9) with rfl | rfl | rfl | rfl | rfl | rfl | rfl | rfl | rfl | rfl <;> rfl

theorem letF_len (f : Int) : (letF f).length ≤ 3 := by
  unfold letF
  repeat' split
  all_goals decide

def RetLq (L : List UInt8) (n : Nat) (w : World) (e : Ending) (w' : World) : Prop := e = .returned (.tuple #[.string (B (lqP L n)), .bool true]) ∧ Nx w w'

theorem ret_lq_yes {L : List UInt8} {n : Nat} {w w' : World} (h : L.length = n) (hn : Nx w w') : RetLq L n w (.returned (.tuple #[.string (B L), .bool true])) w' := by
  refine ⟨?_, hn⟩; unfold lqP; rw [if_pos h]

theorem ret_lq_no {L : List UInt8} {n : Nat} {w w' : World} (h : ¬ L.length = n) (hn : Nx w w') : RetLq L n w (.returned (.tuple #[.string (B [63]), .bool true])) w' := by
  refine ⟨?_, hn⟩; unfold lqP; rw [if_neg h]

theorem in17n_any (s : List UInt8) (v : Value) (l : List (List UInt8)) (hl : l.length ≤ 1000) (b : Bool) (hb : inB s l = b) (w : World) (hR : RowS w v l) : Calls Tryz.prog 43 #[.string (B s), v] w fun e w' => e = .returned (.bool b) ∧ Nx w w' :=
  (in17_any s v l hl w hR).mono fun e w' ⟨h, hw⟩ => ⟨by rw [h, hb], Nx.of_eq hw⟩

set_option maxHeartbeats 4000000 in
theorem letters17_op (k : Nat) (s : List UInt8) (hk1 : 1 ≤ k) (hk2 : k ≤ 48) (hs : nmB.getD k [] = s) (n : Nat) (hg : n = 1 → (s == [106, 97, 108]) = false ∧ (s == [106, 97, 108, 114]) = false) (w : World) :
    Calls Tryz.prog 42 #[.string (B s), .int .i64 n] w (RetLq (letF (formN k)) n w) := by
  have ho := op_found s k hk1 hk2 hs
  have CO := Lib.hid (fun w => op17_any s w)
  rw [ho] at CO
  clear ho hs
  have dk : decide ((0 : Int) < k) = true := decide_eq_true (by omega)
  obtain ⟨f, hf, hf10⟩ : ∃ f : Nat, formN k = f ∧ f < 10 := by
    rcases formN_range k with h | h | h | h | h | h | h | h | h | h
    · exact ⟨0, h, by decide⟩
    · exact ⟨1, h, by decide⟩
    · exact ⟨2, h, by decide⟩
    · exact ⟨3, h, by decide⟩
    · exact ⟨4, h, by decide⟩
    · exact ⟨5, h, by decide⟩
    · exact ⟨6, h, by decide⟩
    · exact ⟨7, h, by decide⟩
    · exact ⟨8, h, by decide⟩
    · exact ⟨9, h, by decide⟩
  have CF := Lib.hid (fun w => form_any k w)
  rw [hf] at CF ⊢
  have hL := lqL_at f hf10
  have h3 := letF_len f
  obtain ⟨L, hLL⟩ : ∃ L, letF f = L := ⟨_, rfl⟩
  rw [hLL] at hL h3 ⊢
  have HS := Lib.hid ((Strs.new w lqL 9) f L hL)
  have hfI : (f : Int) < 10 := by omega
  have go : ∀ bj br : Bool, ((s == [106, 97, 108]) = bj ∧ (s == [106, 97, 108, 114]) = br ∧ (((n : Int) == 1) = false ∨ (bj = false ∧ br = false))) → Calls Tryz.prog 42 #[.string (B s), .int .i64 n] w (RetLq L n w) := by
    intro bj br hb
    clear hL hLL hf hg
    have walk : ∀ _ : (s == [106, 97, 108]) = bj ∧ (s == [106, 97, 108, 114]) = br ∧ (((n : Int) == 1) = false ∨ (bj = false ∧ br = false)), True := fun _ => trivial
    rcases hb with ⟨b1, b2, h | ⟨rfl, rfl⟩⟩
    · cases bj <;> cases br
      all_goals
        go_enter Tryz.func42, Tryz.ntmps42
        go_wp2_with fail
        refine (CO.out _).mono ?_
        rintro e w2 ⟨rfl, hn2⟩
        have c2 := hn2.cell HS.out
        have hz2 := hn2.size
        have hz2' : w.heap.size < w2.heap.size := by rw [World.size_alloc] at hz2; omega
        have H2 := Lib.hid (((Nx.refl w).alloc _).trans hn2)
        clear hn2 hz2
        go_wp2_with fail
        refine (CO.out _).mono ?_
        rintro e w3 ⟨rfl, hn3⟩
        have c3 := hn3.cell c2
        have H3 := Lib.hid (H2.out.trans hn3)
        have hz3' := Nat.lt_of_lt_of_le hz2' hn3.size
        clear hn3 c2
        go_wp2_with fail
        refine (CF.out _).mono ?_
        rintro e w4 ⟨rfl, hn4⟩
        have c4 := hn4.cell c3
        have H4 := Lib.hid (H3.out.trans hn4)
        have hz4' := Nat.lt_of_lt_of_le hz3' hn4.size
        clear hn4 c3
        by_cases hn : L.length = n
        · have en : ((L.length : Int) == n) = true := by rw [beq_iff_eq]; omega
          go_wp2
          go_ret2
          exact ret_lq_yes hn H4.out
        · have en : ((L.length : Int) == n) = false := by rw [beq_eq_false_iff_ne]; omega
          go_wp2
          go_ret2
          exact ret_lq_no hn H4.out
    · go_enter Tryz.func42, Tryz.ntmps42
      go_wp2_with fail
      refine (CO.out _).mono ?_
      rintro e w2 ⟨rfl, hn2⟩
      have c2 := hn2.cell HS.out
      have hz2 := hn2.size
      have hz2' : w.heap.size < w2.heap.size := by rw [World.size_alloc] at hz2; omega
      have H2 := Lib.hid (((Nx.refl w).alloc _).trans hn2)
      clear hn2 hz2
      go_wp2_with fail
      refine (CO.out _).mono ?_
      rintro e w3 ⟨rfl, hn3⟩
      have c3 := hn3.cell c2
      have H3 := Lib.hid (H2.out.trans hn3)
      have hz3' := Nat.lt_of_lt_of_le hz2' hn3.size
      clear hn3 c2
      go_wp2_with fail
      refine (CF.out _).mono ?_
      rintro e w4 ⟨rfl, hn4⟩
      have c4 := hn4.cell c3
      have H4 := Lib.hid (H3.out.trans hn4)
      have hz4' := Nat.lt_of_lt_of_le hz3' hn4.size
      clear hn4 c3
      by_cases hn : L.length = n
      · have en : ((L.length : Int) == n) = true := by rw [beq_iff_eq]; omega
        go_wp2
        go_ret2
        exact ret_lq_yes hn H4.out
      · have en : ((L.length : Int) == n) = false := by rw [beq_eq_false_iff_ne]; omega
        go_wp2
        go_ret2
        exact ret_lq_no hn H4.out
  by_cases h1 : n = 1
  · obtain ⟨a, b⟩ := hg h1
    exact go false false ⟨a, b, Or.inr ⟨rfl, rfl⟩⟩
  · exact go _ _ ⟨rfl, rfl, Or.inl (by rw [beq_eq_false_iff_ne]; omega)⟩

set_option maxHeartbeats 4000000 in
theorem letters17_s0 (s : List UInt8) (n : Nat) (j1 : (s == [106, 97, 108]) = false) (j2 : (s == [106, 97, 108, 114]) = false) (ho : opP s = 0) (b0 : inB s [[99, 46, 97, 100, 100, 105, 52, 115, 112, 110]] = true) (w : World) :
    Calls Tryz.prog 42 #[.string (B s), .int .i64 n] w (RetLq [100, 115, 105] n w) := by
  have CO := Lib.hid (fun w => op17_any s w)
  rw [ho] at CO
  clear ho
  have B0 := Lib.hid b0
  clear b0
  go_enter Tryz.func42, Tryz.ntmps42
  go_wp2_with fail
  refine (CO.out _).mono ?_
  rintro e w0 ⟨rfl, hn0⟩
  have H0 := Lib.hid (((Nx.refl w).alloc _).trans hn0)
  clear hn0
  go_wp2_with fail
  refine (in17n_any s _ [[99, 46, 97, 100, 100, 105, 52, 115, 112, 110]] (by decide) _ B0.out _ ⟨_, _, rfl, Or.inr ⟨_, rfl, Strs.new _ [[99, 46, 97, 100, 100, 105, 52, 115, 112, 110]] 9⟩⟩).mono ?_
  rintro e x0 ⟨rfl, hn1⟩
  have H0x := Lib.hid (H0.out.trans (((Nx.refl _).alloc _).trans hn1))
  clear hn1
  by_cases hn : 3 = n
  · have en : ((3 : Int) == n) = true := by rw [beq_iff_eq]; omega
    go_wp2
    go_ret2
    exact ret_lq_yes hn H0x.out
  · have en : ((3 : Int) == n) = false := by rw [beq_eq_false_iff_ne]; omega
    go_wp2
    go_ret2
    exact ret_lq_no hn H0x.out

set_option maxHeartbeats 4000000 in
theorem letters17_s1 (s : List UInt8) (n : Nat) (j1 : (s == [106, 97, 108]) = false) (j2 : (s == [106, 97, 108, 114]) = false) (ho : opP s = 0) (b0 : inB s [[99, 46, 97, 100, 100, 105, 52, 115, 112, 110]] = false) (b1 : inB s [[99, 46, 108, 119], [99, 46, 108, 119, 115, 112]] = true) (w : World) :
    Calls Tryz.prog 42 #[.string (B s), .int .i64 n] w (RetLq [100, 109] n w) := by
  have CO := Lib.hid (fun w => op17_any s w)
  rw [ho] at CO
  clear ho
  have B0 := Lib.hid b0
  clear b0
  have B1 := Lib.hid b1
  clear b1
  go_enter Tryz.func42, Tryz.ntmps42
  go_wp2_with fail
  refine (CO.out _).mono ?_
  rintro e w0 ⟨rfl, hn0⟩
  have H0 := Lib.hid (((Nx.refl w).alloc _).trans hn0)
  clear hn0
  go_wp2_with fail
  refine (in17n_any s _ [[99, 46, 97, 100, 100, 105, 52, 115, 112, 110]] (by decide) _ B0.out _ ⟨_, _, rfl, Or.inr ⟨_, rfl, Strs.new _ [[99, 46, 97, 100, 100, 105, 52, 115, 112, 110]] 9⟩⟩).mono ?_
  rintro e x0 ⟨rfl, hn1⟩
  have H0x := Lib.hid (H0.out.trans (((Nx.refl _).alloc _).trans hn1))
  clear hn1
  go_wp2_with fail
  refine (in17n_any s _ [[99, 46, 108, 119], [99, 46, 108, 119, 115, 112]] (by decide) _ B1.out _ ⟨_, _, rfl, Or.inr ⟨_, rfl, Strs.new _ [[99, 46, 108, 119], [99, 46, 108, 119, 115, 112]] 9⟩⟩).mono ?_
  rintro e x1 ⟨rfl, hn2⟩
  have H1x := Lib.hid (H0x.out.trans (((Nx.refl _).alloc _).trans hn2))
  clear hn2
  by_cases hn : 2 = n
  · have en : ((2 : Int) == n) = true := by rw [beq_iff_eq]; omega
    go_wp2
    go_ret2
    exact ret_lq_yes hn H1x.out
  · have en : ((2 : Int) == n) = false := by rw [beq_eq_false_iff_ne]; omega
    go_wp2
    go_ret2
    exact ret_lq_no hn H1x.out

set_option maxHeartbeats 4000000 in
theorem letters17_s2 (s : List UInt8) (n : Nat) (j1 : (s == [106, 97, 108]) = false) (j2 : (s == [106, 97, 108, 114]) = false) (ho : opP s = 0) (b0 : inB s [[99, 46, 97, 100, 100, 105, 52, 115, 112, 110]] = false) (b1 : inB s [[99, 46, 108, 119], [99, 46, 108, 119, 115, 112]] = false) (b2 : inB s [[99, 46, 115, 119], [99, 46, 115, 119, 115, 112]] = true) (w : World) :
    Calls Tryz.prog 42 #[.string (B s), .int .i64 n] w (RetLq [116, 109] n w) := by
  have CO := Lib.hid (fun w => op17_any s w)
  rw [ho] at CO
  clear ho
  have B0 := Lib.hid b0
  clear b0
  have B1 := Lib.hid b1
  clear b1
  have B2 := Lib.hid b2
  clear b2
  go_enter Tryz.func42, Tryz.ntmps42
  go_wp2_with fail
  refine (CO.out _).mono ?_
  rintro e w0 ⟨rfl, hn0⟩
  have H0 := Lib.hid (((Nx.refl w).alloc _).trans hn0)
  clear hn0
  go_wp2_with fail
  refine (in17n_any s _ [[99, 46, 97, 100, 100, 105, 52, 115, 112, 110]] (by decide) _ B0.out _ ⟨_, _, rfl, Or.inr ⟨_, rfl, Strs.new _ [[99, 46, 97, 100, 100, 105, 52, 115, 112, 110]] 9⟩⟩).mono ?_
  rintro e x0 ⟨rfl, hn1⟩
  have H0x := Lib.hid (H0.out.trans (((Nx.refl _).alloc _).trans hn1))
  clear hn1
  go_wp2_with fail
  refine (in17n_any s _ [[99, 46, 108, 119], [99, 46, 108, 119, 115, 112]] (by decide) _ B1.out _ ⟨_, _, rfl, Or.inr ⟨_, rfl, Strs.new _ [[99, 46, 108, 119], [99, 46, 108, 119, 115, 112]] 9⟩⟩).mono ?_
  rintro e x1 ⟨rfl, hn2⟩
  have H1x := Lib.hid (H0x.out.trans (((Nx.refl _).alloc _).trans hn2))
  clear hn2
  go_wp2_with fail
  refine (in17n_any s _ [[99, 46, 115, 119], [99, 46, 115, 119, 115, 112]] (by decide) _ B2.out _ ⟨_, _, rfl, Or.inr ⟨_, rfl, Strs.new _ [[99, 46, 115, 119], [99, 46, 115, 119, 115, 112]] 9⟩⟩).mono ?_
  rintro e x2 ⟨rfl, hn3⟩
  have H2x := Lib.hid (H1x.out.trans (((Nx.refl _).alloc _).trans hn3))
  clear hn3
  by_cases hn : 2 = n
  · have en : ((2 : Int) == n) = true := by rw [beq_iff_eq]; omega
    go_wp2
    go_ret2
    exact ret_lq_yes hn H2x.out
  · have en : ((2 : Int) == n) = false := by rw [beq_eq_false_iff_ne]; omega
    go_wp2
    go_ret2
    exact ret_lq_no hn H2x.out

set_option maxHeartbeats 4000000 in
theorem letters17_s3 (s : List UInt8) (n : Nat) (j1 : (s == [106, 97, 108]) = false) (j2 : (s == [106, 97, 108, 114]) = false) (ho : opP s = 0) (b0 : inB s [[99, 46, 97, 100, 100, 105, 52, 115, 112, 110]] = false) (b1 : inB s [[99, 46, 108, 119], [99, 46, 108, 119, 115, 112]] = false) (b2 : inB s [[99, 46, 115, 119], [99, 46, 115, 119, 115, 112]] = false) (b3 : inB s [[99, 46, 110, 111, 112], [99, 46, 101, 98, 114, 101, 97, 107], [110, 111, 112], [114, 101, 116]] = true) (w : World) :
    Calls Tryz.prog 42 #[.string (B s), .int .i64 n] w (RetLq [] n w) := by
  have CO := Lib.hid (fun w => op17_any s w)
  rw [ho] at CO
  clear ho
  have B0 := Lib.hid b0
  clear b0
  have B1 := Lib.hid b1
  clear b1
  have B2 := Lib.hid b2
  clear b2
  have B3 := Lib.hid b3
  clear b3
  go_enter Tryz.func42, Tryz.ntmps42
  go_wp2_with fail
  refine (CO.out _).mono ?_
  rintro e w0 ⟨rfl, hn0⟩
  have H0 := Lib.hid (((Nx.refl w).alloc _).trans hn0)
  clear hn0
  go_wp2_with fail
  refine (in17n_any s _ [[99, 46, 97, 100, 100, 105, 52, 115, 112, 110]] (by decide) _ B0.out _ ⟨_, _, rfl, Or.inr ⟨_, rfl, Strs.new _ [[99, 46, 97, 100, 100, 105, 52, 115, 112, 110]] 9⟩⟩).mono ?_
  rintro e x0 ⟨rfl, hn1⟩
  have H0x := Lib.hid (H0.out.trans (((Nx.refl _).alloc _).trans hn1))
  clear hn1
  go_wp2_with fail
  refine (in17n_any s _ [[99, 46, 108, 119], [99, 46, 108, 119, 115, 112]] (by decide) _ B1.out _ ⟨_, _, rfl, Or.inr ⟨_, rfl, Strs.new _ [[99, 46, 108, 119], [99, 46, 108, 119, 115, 112]] 9⟩⟩).mono ?_
  rintro e x1 ⟨rfl, hn2⟩
  have H1x := Lib.hid (H0x.out.trans (((Nx.refl _).alloc _).trans hn2))
  clear hn2
  go_wp2_with fail
  refine (in17n_any s _ [[99, 46, 115, 119], [99, 46, 115, 119, 115, 112]] (by decide) _ B2.out _ ⟨_, _, rfl, Or.inr ⟨_, rfl, Strs.new _ [[99, 46, 115, 119], [99, 46, 115, 119, 115, 112]] 9⟩⟩).mono ?_
  rintro e x2 ⟨rfl, hn3⟩
  have H2x := Lib.hid (H1x.out.trans (((Nx.refl _).alloc _).trans hn3))
  clear hn3
  go_wp2_with fail
  refine (in17n_any s _ [[99, 46, 110, 111, 112], [99, 46, 101, 98, 114, 101, 97, 107], [110, 111, 112], [114, 101, 116]] (by decide) _ B3.out _ ⟨_, _, rfl, Or.inr ⟨_, rfl, Strs.new _ [[99, 46, 110, 111, 112], [99, 46, 101, 98, 114, 101, 97, 107], [110, 111, 112], [114, 101, 116]] 9⟩⟩).mono ?_
  rintro e x3 ⟨rfl, hn4⟩
  have H3x := Lib.hid (H2x.out.trans (((Nx.refl _).alloc _).trans hn4))
  clear hn4
  by_cases hn : 0 = n
  · have en : ((0 : Int) == n) = true := by rw [beq_iff_eq]; omega
    go_wp2
    go_ret2
    exact ret_lq_yes hn H3x.out
  · have en : ((0 : Int) == n) = false := by rw [beq_eq_false_iff_ne]; omega
    go_wp2
    go_ret2
    exact ret_lq_no hn H3x.out

set_option maxHeartbeats 4000000 in
theorem letters17_s4 (s : List UInt8) (n : Nat) (j1 : (s == [106, 97, 108]) = false) (j2 : (s == [106, 97, 108, 114]) = false) (ho : opP s = 0) (b0 : inB s [[99, 46, 97, 100, 100, 105, 52, 115, 112, 110]] = false) (b1 : inB s [[99, 46, 108, 119], [99, 46, 108, 119, 115, 112]] = false) (b2 : inB s [[99, 46, 115, 119], [99, 46, 115, 119, 115, 112]] = false) (b3 : inB s [[99, 46, 110, 111, 112], [99, 46, 101, 98, 114, 101, 97, 107], [110, 111, 112], [114, 101, 116]] = false) (b4 : inB s [[99, 46, 97, 100, 100, 105], [99, 46, 97, 100, 100, 105, 49, 54, 115, 112], [99, 46, 115, 114, 108, 105], [99, 46, 115, 114, 97, 105], [99, 46, 97, 110, 100, 105], [99, 46, 115, 108, 108, 105]] = true) (w : World) :
    Calls Tryz.prog 42 #[.string (B s), .int .i64 n] w (RetLq [120, 105] n w) := by
  have CO := Lib.hid (fun w => op17_any s w)
  rw [ho] at CO
  clear ho
  have B0 := Lib.hid b0
  clear b0
  have B1 := Lib.hid b1
  clear b1
  have B2 := Lib.hid b2
  clear b2
  have B3 := Lib.hid b3
  clear b3
  have B4 := Lib.hid b4
  clear b4
  go_enter Tryz.func42, Tryz.ntmps42
  go_wp2_with fail
  refine (CO.out _).mono ?_
  rintro e w0 ⟨rfl, hn0⟩
  have H0 := Lib.hid (((Nx.refl w).alloc _).trans hn0)
  clear hn0
  go_wp2_with fail
  refine (in17n_any s _ [[99, 46, 97, 100, 100, 105, 52, 115, 112, 110]] (by decide) _ B0.out _ ⟨_, _, rfl, Or.inr ⟨_, rfl, Strs.new _ [[99, 46, 97, 100, 100, 105, 52, 115, 112, 110]] 9⟩⟩).mono ?_
  rintro e x0 ⟨rfl, hn1⟩
  have H0x := Lib.hid (H0.out.trans (((Nx.refl _).alloc _).trans hn1))
  clear hn1
  go_wp2_with fail
  refine (in17n_any s _ [[99, 46, 108, 119], [99, 46, 108, 119, 115, 112]] (by decide) _ B1.out _ ⟨_, _, rfl, Or.inr ⟨_, rfl, Strs.new _ [[99, 46, 108, 119], [99, 46, 108, 119, 115, 112]] 9⟩⟩).mono ?_
  rintro e x1 ⟨rfl, hn2⟩
  have H1x := Lib.hid (H0x.out.trans (((Nx.refl _).alloc _).trans hn2))
  clear hn2
  go_wp2_with fail
  refine (in17n_any s _ [[99, 46, 115, 119], [99, 46, 115, 119, 115, 112]] (by decide) _ B2.out _ ⟨_, _, rfl, Or.inr ⟨_, rfl, Strs.new _ [[99, 46, 115, 119], [99, 46, 115, 119, 115, 112]] 9⟩⟩).mono ?_
  rintro e x2 ⟨rfl, hn3⟩
  have H2x := Lib.hid (H1x.out.trans (((Nx.refl _).alloc _).trans hn3))
  clear hn3
  go_wp2_with fail
  refine (in17n_any s _ [[99, 46, 110, 111, 112], [99, 46, 101, 98, 114, 101, 97, 107], [110, 111, 112], [114, 101, 116]] (by decide) _ B3.out _ ⟨_, _, rfl, Or.inr ⟨_, rfl, Strs.new _ [[99, 46, 110, 111, 112], [99, 46, 101, 98, 114, 101, 97, 107], [110, 111, 112], [114, 101, 116]] 9⟩⟩).mono ?_
  rintro e x3 ⟨rfl, hn4⟩
  have H3x := Lib.hid (H2x.out.trans (((Nx.refl _).alloc _).trans hn4))
  clear hn4
  go_wp2_with fail
  refine (in17n_any s _ [[99, 46, 97, 100, 100, 105], [99, 46, 97, 100, 100, 105, 49, 54, 115, 112], [99, 46, 115, 114, 108, 105], [99, 46, 115, 114, 97, 105], [99, 46, 97, 110, 100, 105], [99, 46, 115, 108, 108, 105]] (by decide) _ B4.out _ ⟨_, _, rfl, Or.inr ⟨_, rfl, Strs.new _ [[99, 46, 97, 100, 100, 105], [99, 46, 97, 100, 100, 105, 49, 54, 115, 112], [99, 46, 115, 114, 108, 105], [99, 46, 115, 114, 97, 105], [99, 46, 97, 110, 100, 105], [99, 46, 115, 108, 108, 105]] 9⟩⟩).mono ?_
  rintro e x4 ⟨rfl, hn5⟩
  have H4x := Lib.hid (H3x.out.trans (((Nx.refl _).alloc _).trans hn5))
  clear hn5
  by_cases hn : 2 = n
  · have en : ((2 : Int) == n) = true := by rw [beq_iff_eq]; omega
    go_wp2
    go_ret2
    exact ret_lq_yes hn H4x.out
  · have en : ((2 : Int) == n) = false := by rw [beq_eq_false_iff_ne]; omega
    go_wp2
    go_ret2
    exact ret_lq_no hn H4x.out

set_option maxHeartbeats 4000000 in
theorem letters17_s5 (s : List UInt8) (n : Nat) (j1 : (s == [106, 97, 108]) = false) (j2 : (s == [106, 97, 108, 114]) = false) (ho : opP s = 0) (b0 : inB s [[99, 46, 97, 100, 100, 105, 52, 115, 112, 110]] = false) (b1 : inB s [[99, 46, 108, 119], [99, 46, 108, 119, 115, 112]] = false) (b2 : inB s [[99, 46, 115, 119], [99, 46, 115, 119, 115, 112]] = false) (b3 : inB s [[99, 46, 110, 111, 112], [99, 46, 101, 98, 114, 101, 97, 107], [110, 111, 112], [114, 101, 116]] = false) (b4 : inB s [[99, 46, 97, 100, 100, 105], [99, 46, 97, 100, 100, 105, 49, 54, 115, 112], [99, 46, 115, 114, 108, 105], [99, 46, 115, 114, 97, 105], [99, 46, 97, 110, 100, 105], [99, 46, 115, 108, 108, 105]] = false) (b5 : (s == [99, 46, 108, 105]) = true) (w : World) :
    Calls Tryz.prog 42 #[.string (B s), .int .i64 n] w (RetLq [100, 105] n w) := by
  have CO := Lib.hid (fun w => op17_any s w)
  rw [ho] at CO
  clear ho
  have B0 := Lib.hid b0
  clear b0
  have B1 := Lib.hid b1
  clear b1
  have B2 := Lib.hid b2
  clear b2
  have B3 := Lib.hid b3
  clear b3
  have B4 := Lib.hid b4
  clear b4
  go_enter Tryz.func42, Tryz.ntmps42
  go_wp2_with fail
  refine (CO.out _).mono ?_
  rintro e w0 ⟨rfl, hn0⟩
  have H0 := Lib.hid (((Nx.refl w).alloc _).trans hn0)
  clear hn0
  go_wp2_with fail
  refine (in17n_any s _ [[99, 46, 97, 100, 100, 105, 52, 115, 112, 110]] (by decide) _ B0.out _ ⟨_, _, rfl, Or.inr ⟨_, rfl, Strs.new _ [[99, 46, 97, 100, 100, 105, 52, 115, 112, 110]] 9⟩⟩).mono ?_
  rintro e x0 ⟨rfl, hn1⟩
  have H0x := Lib.hid (H0.out.trans (((Nx.refl _).alloc _).trans hn1))
  clear hn1
  go_wp2_with fail
  refine (in17n_any s _ [[99, 46, 108, 119], [99, 46, 108, 119, 115, 112]] (by decide) _ B1.out _ ⟨_, _, rfl, Or.inr ⟨_, rfl, Strs.new _ [[99, 46, 108, 119], [99, 46, 108, 119, 115, 112]] 9⟩⟩).mono ?_
  rintro e x1 ⟨rfl, hn2⟩
  have H1x := Lib.hid (H0x.out.trans (((Nx.refl _).alloc _).trans hn2))
  clear hn2
  go_wp2_with fail
  refine (in17n_any s _ [[99, 46, 115, 119], [99, 46, 115, 119, 115, 112]] (by decide) _ B2.out _ ⟨_, _, rfl, Or.inr ⟨_, rfl, Strs.new _ [[99, 46, 115, 119], [99, 46, 115, 119, 115, 112]] 9⟩⟩).mono ?_
  rintro e x2 ⟨rfl, hn3⟩
  have H2x := Lib.hid (H1x.out.trans (((Nx.refl _).alloc _).trans hn3))
  clear hn3
  go_wp2_with fail
  refine (in17n_any s _ [[99, 46, 110, 111, 112], [99, 46, 101, 98, 114, 101, 97, 107], [110, 111, 112], [114, 101, 116]] (by decide) _ B3.out _ ⟨_, _, rfl, Or.inr ⟨_, rfl, Strs.new _ [[99, 46, 110, 111, 112], [99, 46, 101, 98, 114, 101, 97, 107], [110, 111, 112], [114, 101, 116]] 9⟩⟩).mono ?_
  rintro e x3 ⟨rfl, hn4⟩
  have H3x := Lib.hid (H2x.out.trans (((Nx.refl _).alloc _).trans hn4))
  clear hn4
  go_wp2_with fail
  refine (in17n_any s _ [[99, 46, 97, 100, 100, 105], [99, 46, 97, 100, 100, 105, 49, 54, 115, 112], [99, 46, 115, 114, 108, 105], [99, 46, 115, 114, 97, 105], [99, 46, 97, 110, 100, 105], [99, 46, 115, 108, 108, 105]] (by decide) _ B4.out _ ⟨_, _, rfl, Or.inr ⟨_, rfl, Strs.new _ [[99, 46, 97, 100, 100, 105], [99, 46, 97, 100, 100, 105, 49, 54, 115, 112], [99, 46, 115, 114, 108, 105], [99, 46, 115, 114, 97, 105], [99, 46, 97, 110, 100, 105], [99, 46, 115, 108, 108, 105]] 9⟩⟩).mono ?_
  rintro e x4 ⟨rfl, hn5⟩
  have H4x := Lib.hid (H3x.out.trans (((Nx.refl _).alloc _).trans hn5))
  clear hn5
  by_cases hn : 2 = n
  · have en : ((2 : Int) == n) = true := by rw [beq_iff_eq]; omega
    go_wp2
    go_ret2
    exact ret_lq_yes hn H4x.out
  · have en : ((2 : Int) == n) = false := by rw [beq_eq_false_iff_ne]; omega
    go_wp2
    go_ret2
    exact ret_lq_no hn H4x.out

set_option maxHeartbeats 4000000 in
theorem letters17_s6 (s : List UInt8) (n : Nat) (j1 : (s == [106, 97, 108]) = false) (j2 : (s == [106, 97, 108, 114]) = false) (ho : opP s = 0) (b0 : inB s [[99, 46, 97, 100, 100, 105, 52, 115, 112, 110]] = false) (b1 : inB s [[99, 46, 108, 119], [99, 46, 108, 119, 115, 112]] = false) (b2 : inB s [[99, 46, 115, 119], [99, 46, 115, 119, 115, 112]] = false) (b3 : inB s [[99, 46, 110, 111, 112], [99, 46, 101, 98, 114, 101, 97, 107], [110, 111, 112], [114, 101, 116]] = false) (b4 : inB s [[99, 46, 97, 100, 100, 105], [99, 46, 97, 100, 100, 105, 49, 54, 115, 112], [99, 46, 115, 114, 108, 105], [99, 46, 115, 114, 97, 105], [99, 46, 97, 110, 100, 105], [99, 46, 115, 108, 108, 105]] = false) (b5 : (s == [99, 46, 108, 105]) = false) (b6 : (s == [99, 46, 108, 117, 105]) = true) (w : World) :
    Calls Tryz.prog 42 #[.string (B s), .int .i64 n] w (RetLq [100, 117] n w) := by
  have CO := Lib.hid (fun w => op17_any s w)
  rw [ho] at CO
  clear ho
  have B0 := Lib.hid b0
  clear b0
  have B1 := Lib.hid b1
  clear b1
  have B2 := Lib.hid b2
  clear b2
  have B3 := Lib.hid b3
  clear b3
  have B4 := Lib.hid b4
  clear b4
  go_enter Tryz.func42, Tryz.ntmps42
  go_wp2_with fail
  refine (CO.out _).mono ?_
  rintro e w0 ⟨rfl, hn0⟩
  have H0 := Lib.hid (((Nx.refl w).alloc _).trans hn0)
  clear hn0
  go_wp2_with fail
  refine (in17n_any s _ [[99, 46, 97, 100, 100, 105, 52, 115, 112, 110]] (by decide) _ B0.out _ ⟨_, _, rfl, Or.inr ⟨_, rfl, Strs.new _ [[99, 46, 97, 100, 100, 105, 52, 115, 112, 110]] 9⟩⟩).mono ?_
  rintro e x0 ⟨rfl, hn1⟩
  have H0x := Lib.hid (H0.out.trans (((Nx.refl _).alloc _).trans hn1))
  clear hn1
  go_wp2_with fail
  refine (in17n_any s _ [[99, 46, 108, 119], [99, 46, 108, 119, 115, 112]] (by decide) _ B1.out _ ⟨_, _, rfl, Or.inr ⟨_, rfl, Strs.new _ [[99, 46, 108, 119], [99, 46, 108, 119, 115, 112]] 9⟩⟩).mono ?_
  rintro e x1 ⟨rfl, hn2⟩
  have H1x := Lib.hid (H0x.out.trans (((Nx.refl _).alloc _).trans hn2))
  clear hn2
  go_wp2_with fail
  refine (in17n_any s _ [[99, 46, 115, 119], [99, 46, 115, 119, 115, 112]] (by decide) _ B2.out _ ⟨_, _, rfl, Or.inr ⟨_, rfl, Strs.new _ [[99, 46, 115, 119], [99, 46, 115, 119, 115, 112]] 9⟩⟩).mono ?_
  rintro e x2 ⟨rfl, hn3⟩
  have H2x := Lib.hid (H1x.out.trans (((Nx.refl _).alloc _).trans hn3))
  clear hn3
  go_wp2_with fail
  refine (in17n_any s _ [[99, 46, 110, 111, 112], [99, 46, 101, 98, 114, 101, 97, 107], [110, 111, 112], [114, 101, 116]] (by decide) _ B3.out _ ⟨_, _, rfl, Or.inr ⟨_, rfl, Strs.new _ [[99, 46, 110, 111, 112], [99, 46, 101, 98, 114, 101, 97, 107], [110, 111, 112], [114, 101, 116]] 9⟩⟩).mono ?_
  rintro e x3 ⟨rfl, hn4⟩
  have H3x := Lib.hid (H2x.out.trans (((Nx.refl _).alloc _).trans hn4))
  clear hn4
  go_wp2_with fail
  refine (in17n_any s _ [[99, 46, 97, 100, 100, 105], [99, 46, 97, 100, 100, 105, 49, 54, 115, 112], [99, 46, 115, 114, 108, 105], [99, 46, 115, 114, 97, 105], [99, 46, 97, 110, 100, 105], [99, 46, 115, 108, 108, 105]] (by decide) _ B4.out _ ⟨_, _, rfl, Or.inr ⟨_, rfl, Strs.new _ [[99, 46, 97, 100, 100, 105], [99, 46, 97, 100, 100, 105, 49, 54, 115, 112], [99, 46, 115, 114, 108, 105], [99, 46, 115, 114, 97, 105], [99, 46, 97, 110, 100, 105], [99, 46, 115, 108, 108, 105]] 9⟩⟩).mono ?_
  rintro e x4 ⟨rfl, hn5⟩
  have H4x := Lib.hid (H3x.out.trans (((Nx.refl _).alloc _).trans hn5))
  clear hn5
  by_cases hn : 2 = n
  · have en : ((2 : Int) == n) = true := by rw [beq_iff_eq]; omega
    go_wp2
    go_ret2
    exact ret_lq_yes hn H4x.out
  · have en : ((2 : Int) == n) = false := by rw [beq_eq_false_iff_ne]; omega
    go_wp2
    go_ret2
    exact ret_lq_no hn H4x.out

set_option maxHeartbeats 4000000 in
theorem letters17_s7 (s : List UInt8) (n : Nat) (j1 : (s == [106, 97, 108]) = false) (j2 : (s == [106, 97, 108, 114]) = false) (ho : opP s = 0) (b0 : inB s [[99, 46, 97, 100, 100, 105, 52, 115, 112, 110]] = false) (b1 : inB s [[99, 46, 108, 119], [99, 46, 108, 119, 115, 112]] = false) (b2 : inB s [[99, 46, 115, 119], [99, 46, 115, 119, 115, 112]] = false) (b3 : inB s [[99, 46, 110, 111, 112], [99, 46, 101, 98, 114, 101, 97, 107], [110, 111, 112], [114, 101, 116]] = false) (b4 : inB s [[99, 46, 97, 100, 100, 105], [99, 46, 97, 100, 100, 105, 49, 54, 115, 112], [99, 46, 115, 114, 108, 105], [99, 46, 115, 114, 97, 105], [99, 46, 97, 110, 100, 105], [99, 46, 115, 108, 108, 105]] = false) (b5 : (s == [99, 46, 108, 105]) = false) (b6 : (s == [99, 46, 108, 117, 105]) = false) (b7 : inB s [[99, 46, 115, 117, 98], [99, 46, 120, 111, 114], [99, 46, 111, 114], [99, 46, 97, 110, 100], [99, 46, 97, 100, 100]] = true) (w : World) :
    Calls Tryz.prog 42 #[.string (B s), .int .i64 n] w (RetLq [120, 116] n w) := by
  have CO := Lib.hid (fun w => op17_any s w)
  rw [ho] at CO
  clear ho
  have B0 := Lib.hid b0
  clear b0
  have B1 := Lib.hid b1
  clear b1
  have B2 := Lib.hid b2
  clear b2
  have B3 := Lib.hid b3
  clear b3
  have B4 := Lib.hid b4
  clear b4
  have B7 := Lib.hid b7
  clear b7
  go_enter Tryz.func42, Tryz.ntmps42
  go_wp2_with fail
  refine (CO.out _).mono ?_
  rintro e w0 ⟨rfl, hn0⟩
  have H0 := Lib.hid (((Nx.refl w).alloc _).trans hn0)
  clear hn0
  go_wp2_with fail
  refine (in17n_any s _ [[99, 46, 97, 100, 100, 105, 52, 115, 112, 110]] (by decide) _ B0.out _ ⟨_, _, rfl, Or.inr ⟨_, rfl, Strs.new _ [[99, 46, 97, 100, 100, 105, 52, 115, 112, 110]] 9⟩⟩).mono ?_
  rintro e x0 ⟨rfl, hn1⟩
  have H0x := Lib.hid (H0.out.trans (((Nx.refl _).alloc _).trans hn1))
  clear hn1
  go_wp2_with fail
  refine (in17n_any s _ [[99, 46, 108, 119], [99, 46, 108, 119, 115, 112]] (by decide) _ B1.out _ ⟨_, _, rfl, Or.inr ⟨_, rfl, Strs.new _ [[99, 46, 108, 119], [99, 46, 108, 119, 115, 112]] 9⟩⟩).mono ?_
  rintro e x1 ⟨rfl, hn2⟩
  have H1x := Lib.hid (H0x.out.trans (((Nx.refl _).alloc _).trans hn2))
  clear hn2
  go_wp2_with fail
  refine (in17n_any s _ [[99, 46, 115, 119], [99, 46, 115, 119, 115, 112]] (by decide) _ B2.out _ ⟨_, _, rfl, Or.inr ⟨_, rfl, Strs.new _ [[99, 46, 115, 119], [99, 46, 115, 119, 115, 112]] 9⟩⟩).mono ?_
  rintro e x2 ⟨rfl, hn3⟩
  have H2x := Lib.hid (H1x.out.trans (((Nx.refl _).alloc _).trans hn3))
  clear hn3
  go_wp2_with fail
  refine (in17n_any s _ [[99, 46, 110, 111, 112], [99, 46, 101, 98, 114, 101, 97, 107], [110, 111, 112], [114, 101, 116]] (by decide) _ B3.out _ ⟨_, _, rfl, Or.inr ⟨_, rfl, Strs.new _ [[99, 46, 110, 111, 112], [99, 46, 101, 98, 114, 101, 97, 107], [110, 111, 112], [114, 101, 116]] 9⟩⟩).mono ?_
  rintro e x3 ⟨rfl, hn4⟩
  have H3x := Lib.hid (H2x.out.trans (((Nx.refl _).alloc _).trans hn4))
  clear hn4
  go_wp2_with fail
  refine (in17n_any s _ [[99, 46, 97, 100, 100, 105], [99, 46, 97, 100, 100, 105, 49, 54, 115, 112], [99, 46, 115, 114, 108, 105], [99, 46, 115, 114, 97, 105], [99, 46, 97, 110, 100, 105], [99, 46, 115, 108, 108, 105]] (by decide) _ B4.out _ ⟨_, _, rfl, Or.inr ⟨_, rfl, Strs.new _ [[99, 46, 97, 100, 100, 105], [99, 46, 97, 100, 100, 105, 49, 54, 115, 112], [99, 46, 115, 114, 108, 105], [99, 46, 115, 114, 97, 105], [99, 46, 97, 110, 100, 105], [99, 46, 115, 108, 108, 105]] 9⟩⟩).mono ?_
  rintro e x4 ⟨rfl, hn5⟩
  have H4x := Lib.hid (H3x.out.trans (((Nx.refl _).alloc _).trans hn5))
  clear hn5
  go_wp2_with fail
  refine (in17n_any s _ [[99, 46, 115, 117, 98], [99, 46, 120, 111, 114], [99, 46, 111, 114], [99, 46, 97, 110, 100], [99, 46, 97, 100, 100]] (by decide) _ B7.out _ ⟨_, _, rfl, Or.inr ⟨_, rfl, Strs.new _ [[99, 46, 115, 117, 98], [99, 46, 120, 111, 114], [99, 46, 111, 114], [99, 46, 97, 110, 100], [99, 46, 97, 100, 100]] 9⟩⟩).mono ?_
  rintro e x7 ⟨rfl, hn8⟩
  have H7x := Lib.hid (H4x.out.trans (((Nx.refl _).alloc _).trans hn8))
  clear hn8
  by_cases hn : 2 = n
  · have en : ((2 : Int) == n) = true := by rw [beq_iff_eq]; omega
    go_wp2
    go_ret2
    exact ret_lq_yes hn H7x.out
  · have en : ((2 : Int) == n) = false := by rw [beq_eq_false_iff_ne]; omega
    go_wp2
    go_ret2
    exact ret_lq_no hn H7x.out

set_option maxHeartbeats 4000000 in
theorem letters17_s8 (s : List UInt8) (n : Nat) (j1 : (s == [106, 97, 108]) = false) (j2 : (s == [106, 97, 108, 114]) = false) (ho : opP s = 0) (b0 : inB s [[99, 46, 97, 100, 100, 105, 52, 115, 112, 110]] = false) (b1 : inB s [[99, 46, 108, 119], [99, 46, 108, 119, 115, 112]] = false) (b2 : inB s [[99, 46, 115, 119], [99, 46, 115, 119, 115, 112]] = false) (b3 : inB s [[99, 46, 110, 111, 112], [99, 46, 101, 98, 114, 101, 97, 107], [110, 111, 112], [114, 101, 116]] = false) (b4 : inB s [[99, 46, 97, 100, 100, 105], [99, 46, 97, 100, 100, 105, 49, 54, 115, 112], [99, 46, 115, 114, 108, 105], [99, 46, 115, 114, 97, 105], [99, 46, 97, 110, 100, 105], [99, 46, 115, 108, 108, 105]] = false) (b5 : (s == [99, 46, 108, 105]) = false) (b6 : (s == [99, 46, 108, 117, 105]) = false) (b7 : inB s [[99, 46, 115, 117, 98], [99, 46, 120, 111, 114], [99, 46, 111, 114], [99, 46, 97, 110, 100], [99, 46, 97, 100, 100]] = false) (b8 : inB s [[99, 46, 109, 118], [109, 118], [110, 101, 103], [115, 110, 101, 122]] = true) (w : World) :
    Calls Tryz.prog 42 #[.string (B s), .int .i64 n] w (RetLq [100, 116] n w) := by
  have CO := Lib.hid (fun w => op17_any s w)
  rw [ho] at CO
  clear ho
  have B0 := Lib.hid b0
  clear b0
  have B1 := Lib.hid b1
  clear b1
  have B2 := Lib.hid b2
  clear b2
  have B3 := Lib.hid b3
  clear b3
  have B4 := Lib.hid b4
  clear b4
  have B7 := Lib.hid b7
  clear b7
  have B8 := Lib.hid b8
  clear b8
  go_enter Tryz.func42, Tryz.ntmps42
  go_wp2_with fail
  refine (CO.out _).mono ?_
  rintro e w0 ⟨rfl, hn0⟩
  have H0 := Lib.hid (((Nx.refl w).alloc _).trans hn0)
  clear hn0
  go_wp2_with fail
  refine (in17n_any s _ [[99, 46, 97, 100, 100, 105, 52, 115, 112, 110]] (by decide) _ B0.out _ ⟨_, _, rfl, Or.inr ⟨_, rfl, Strs.new _ [[99, 46, 97, 100, 100, 105, 52, 115, 112, 110]] 9⟩⟩).mono ?_
  rintro e x0 ⟨rfl, hn1⟩
  have H0x := Lib.hid (H0.out.trans (((Nx.refl _).alloc _).trans hn1))
  clear hn1
  go_wp2_with fail
  refine (in17n_any s _ [[99, 46, 108, 119], [99, 46, 108, 119, 115, 112]] (by decide) _ B1.out _ ⟨_, _, rfl, Or.inr ⟨_, rfl, Strs.new _ [[99, 46, 108, 119], [99, 46, 108, 119, 115, 112]] 9⟩⟩).mono ?_
  rintro e x1 ⟨rfl, hn2⟩
  have H1x := Lib.hid (H0x.out.trans (((Nx.refl _).alloc _).trans hn2))
  clear hn2
  go_wp2_with fail
  refine (in17n_any s _ [[99, 46, 115, 119], [99, 46, 115, 119, 115, 112]] (by decide) _ B2.out _ ⟨_, _, rfl, Or.inr ⟨_, rfl, Strs.new _ [[99, 46, 115, 119], [99, 46, 115, 119, 115, 112]] 9⟩⟩).mono ?_
  rintro e x2 ⟨rfl, hn3⟩
  have H2x := Lib.hid (H1x.out.trans (((Nx.refl _).alloc _).trans hn3))
  clear hn3
  go_wp2_with fail
  refine (in17n_any s _ [[99, 46, 110, 111, 112], [99, 46, 101, 98, 114, 101, 97, 107], [110, 111, 112], [114, 101, 116]] (by decide) _ B3.out _ ⟨_, _, rfl, Or.inr ⟨_, rfl, Strs.new _ [[99, 46, 110, 111, 112], [99, 46, 101, 98, 114, 101, 97, 107], [110, 111, 112], [114, 101, 116]] 9⟩⟩).mono ?_
  rintro e x3 ⟨rfl, hn4⟩
  have H3x := Lib.hid (H2x.out.trans (((Nx.refl _).alloc _).trans hn4))
  clear hn4
  go_wp2_with fail
  refine (in17n_any s _ [[99, 46, 97, 100, 100, 105], [99, 46, 97, 100, 100, 105, 49, 54, 115, 112], [99, 46, 115, 114, 108, 105], [99, 46, 115, 114, 97, 105], [99, 46, 97, 110, 100, 105], [99, 46, 115, 108, 108, 105]] (by decide) _ B4.out _ ⟨_, _, rfl, Or.inr ⟨_, rfl, Strs.new _ [[99, 46, 97, 100, 100, 105], [99, 46, 97, 100, 100, 105, 49, 54, 115, 112], [99, 46, 115, 114, 108, 105], [99, 46, 115, 114, 97, 105], [99, 46, 97, 110, 100, 105], [99, 46, 115, 108, 108, 105]] 9⟩⟩).mono ?_
  rintro e x4 ⟨rfl, hn5⟩
  have H4x := Lib.hid (H3x.out.trans (((Nx.refl _).alloc _).trans hn5))
  clear hn5
  go_wp2_with fail
  refine (in17n_any s _ [[99, 46, 115, 117, 98], [99, 46, 120, 111, 114], [99, 46, 111, 114], [99, 46, 97, 110, 100], [99, 46, 97, 100, 100]] (by decide) _ B7.out _ ⟨_, _, rfl, Or.inr ⟨_, rfl, Strs.new _ [[99, 46, 115, 117, 98], [99, 46, 120, 111, 114], [99, 46, 111, 114], [99, 46, 97, 110, 100], [99, 46, 97, 100, 100]] 9⟩⟩).mono ?_
  rintro e x7 ⟨rfl, hn8⟩
  have H7x := Lib.hid (H4x.out.trans (((Nx.refl _).alloc _).trans hn8))
  clear hn8
  go_wp2_with fail
  refine (in17n_any s _ [[99, 46, 109, 118], [109, 118], [110, 101, 103], [115, 110, 101, 122]] (by decide) _ B8.out _ ⟨_, _, rfl, Or.inr ⟨_, rfl, Strs.new _ [[99, 46, 109, 118], [109, 118], [110, 101, 103], [115, 110, 101, 122]] 9⟩⟩).mono ?_
  rintro e x8 ⟨rfl, hn9⟩
  have H8x := Lib.hid (H7x.out.trans (((Nx.refl _).alloc _).trans hn9))
  clear hn9
  by_cases hn : 2 = n
  · have en : ((2 : Int) == n) = true := by rw [beq_iff_eq]; omega
    go_wp2
    go_ret2
    exact ret_lq_yes hn H8x.out
  · have en : ((2 : Int) == n) = false := by rw [beq_eq_false_iff_ne]; omega
    go_wp2
    go_ret2
    exact ret_lq_no hn H8x.out

set_option maxHeartbeats 4000000 in
theorem letters17_s10 (s : List UInt8) (n : Nat) (j1 : (s == [106, 97, 108]) = false) (j2 : (s == [106, 97, 108, 114]) = false) (ho : opP s = 0) (b0 : inB s [[99, 46, 97, 100, 100, 105, 52, 115, 112, 110]] = false) (b1 : inB s [[99, 46, 108, 119], [99, 46, 108, 119, 115, 112]] = false) (b2 : inB s [[99, 46, 115, 119], [99, 46, 115, 119, 115, 112]] = false) (b3 : inB s [[99, 46, 110, 111, 112], [99, 46, 101, 98, 114, 101, 97, 107], [110, 111, 112], [114, 101, 116]] = false) (b4 : inB s [[99, 46, 97, 100, 100, 105], [99, 46, 97, 100, 100, 105, 49, 54, 115, 112], [99, 46, 115, 114, 108, 105], [99, 46, 115, 114, 97, 105], [99, 46, 97, 110, 100, 105], [99, 46, 115, 108, 108, 105]] = false) (b5 : (s == [99, 46, 108, 105]) = false) (b6 : (s == [99, 46, 108, 117, 105]) = false) (b7 : inB s [[99, 46, 115, 117, 98], [99, 46, 120, 111, 114], [99, 46, 111, 114], [99, 46, 97, 110, 100], [99, 46, 97, 100, 100]] = false) (b8 : inB s [[99, 46, 109, 118], [109, 118], [110, 101, 103], [115, 110, 101, 122]] = false) (b9 : inB s [[110, 111, 116], [115, 101, 113, 122]] = false) (b10 : inB s [[99, 46, 106, 97, 108], [99, 46, 106], [106]] = true) (w : World) :
    Calls Tryz.prog 42 #[.string (B s), .int .i64 n] w (RetLq [106] n w) := by
  have CO := Lib.hid (fun w => op17_any s w)
  rw [ho] at CO
  clear ho
  have B0 := Lib.hid b0
  clear b0
  have B1 := Lib.hid b1
  clear b1
  have B2 := Lib.hid b2
  clear b2
  have B3 := Lib.hid b3
  clear b3
  have B4 := Lib.hid b4
  clear b4
  have B7 := Lib.hid b7
  clear b7
  have B8 := Lib.hid b8
  clear b8
  have B9 := Lib.hid b9
  clear b9
  have B10 := Lib.hid b10
  clear b10
  go_enter Tryz.func42, Tryz.ntmps42
  go_wp2_with fail
  refine (CO.out _).mono ?_
  rintro e w0 ⟨rfl, hn0⟩
  have H0 := Lib.hid (((Nx.refl w).alloc _).trans hn0)
  clear hn0
  go_wp2_with fail
  refine (in17n_any s _ [[99, 46, 97, 100, 100, 105, 52, 115, 112, 110]] (by decide) _ B0.out _ ⟨_, _, rfl, Or.inr ⟨_, rfl, Strs.new _ [[99, 46, 97, 100, 100, 105, 52, 115, 112, 110]] 9⟩⟩).mono ?_
  rintro e x0 ⟨rfl, hn1⟩
  have H0x := Lib.hid (H0.out.trans (((Nx.refl _).alloc _).trans hn1))
  clear hn1
  go_wp2_with fail
  refine (in17n_any s _ [[99, 46, 108, 119], [99, 46, 108, 119, 115, 112]] (by decide) _ B1.out _ ⟨_, _, rfl, Or.inr ⟨_, rfl, Strs.new _ [[99, 46, 108, 119], [99, 46, 108, 119, 115, 112]] 9⟩⟩).mono ?_
  rintro e x1 ⟨rfl, hn2⟩
  have H1x := Lib.hid (H0x.out.trans (((Nx.refl _).alloc _).trans hn2))
  clear hn2
  go_wp2_with fail
  refine (in17n_any s _ [[99, 46, 115, 119], [99, 46, 115, 119, 115, 112]] (by decide) _ B2.out _ ⟨_, _, rfl, Or.inr ⟨_, rfl, Strs.new _ [[99, 46, 115, 119], [99, 46, 115, 119, 115, 112]] 9⟩⟩).mono ?_
  rintro e x2 ⟨rfl, hn3⟩
  have H2x := Lib.hid (H1x.out.trans (((Nx.refl _).alloc _).trans hn3))
  clear hn3
  go_wp2_with fail
  refine (in17n_any s _ [[99, 46, 110, 111, 112], [99, 46, 101, 98, 114, 101, 97, 107], [110, 111, 112], [114, 101, 116]] (by decide) _ B3.out _ ⟨_, _, rfl, Or.inr ⟨_, rfl, Strs.new _ [[99, 46, 110, 111, 112], [99, 46, 101, 98, 114, 101, 97, 107], [110, 111, 112], [114, 101, 116]] 9⟩⟩).mono ?_
  rintro e x3 ⟨rfl, hn4⟩
  have H3x := Lib.hid (H2x.out.trans (((Nx.refl _).alloc _).trans hn4))
  clear hn4
  go_wp2_with fail
  refine (in17n_any s _ [[99, 46, 97, 100, 100, 105], [99, 46, 97, 100, 100, 105, 49, 54, 115, 112], [99, 46, 115, 114, 108, 105], [99, 46, 115, 114, 97, 105], [99, 46, 97, 110, 100, 105], [99, 46, 115, 108, 108, 105]] (by decide) _ B4.out _ ⟨_, _, rfl, Or.inr ⟨_, rfl, Strs.new _ [[99, 46, 97, 100, 100, 105], [99, 46, 97, 100, 100, 105, 49, 54, 115, 112], [99, 46, 115, 114, 108, 105], [99, 46, 115, 114, 97, 105], [99, 46, 97, 110, 100, 105], [99, 46, 115, 108, 108, 105]] 9⟩⟩).mono ?_
  rintro e x4 ⟨rfl, hn5⟩
  have H4x := Lib.hid (H3x.out.trans (((Nx.refl _).alloc _).trans hn5))
  clear hn5
  go_wp2_with fail
  refine (in17n_any s _ [[99, 46, 115, 117, 98], [99, 46, 120, 111, 114], [99, 46, 111, 114], [99, 46, 97, 110, 100], [99, 46, 97, 100, 100]] (by decide) _ B7.out _ ⟨_, _, rfl, Or.inr ⟨_, rfl, Strs.new _ [[99, 46, 115, 117, 98], [99, 46, 120, 111, 114], [99, 46, 111, 114], [99, 46, 97, 110, 100], [99, 46, 97, 100, 100]] 9⟩⟩).mono ?_
  rintro e x7 ⟨rfl, hn8⟩
  have H7x := Lib.hid (H4x.out.trans (((Nx.refl _).alloc _).trans hn8))
  clear hn8
  go_wp2_with fail
  refine (in17n_any s _ [[99, 46, 109, 118], [109, 118], [110, 101, 103], [115, 110, 101, 122]] (by decide) _ B8.out _ ⟨_, _, rfl, Or.inr ⟨_, rfl, Strs.new _ [[99, 46, 109, 118], [109, 118], [110, 101, 103], [115, 110, 101, 122]] 9⟩⟩).mono ?_
  rintro e x8 ⟨rfl, hn9⟩
  have H8x := Lib.hid (H7x.out.trans (((Nx.refl _).alloc _).trans hn9))
  clear hn9
  go_wp2_with fail
  refine (in17n_any s _ [[110, 111, 116], [115, 101, 113, 122]] (by decide) _ B9.out _ ⟨_, _, rfl, Or.inr ⟨_, rfl, Strs.new _ [[110, 111, 116], [115, 101, 113, 122]] 9⟩⟩).mono ?_
  rintro e x9 ⟨rfl, hn10⟩
  have H9x := Lib.hid (H8x.out.trans (((Nx.refl _).alloc _).trans hn10))
  clear hn10
  go_wp2_with fail
  refine (in17n_any s _ [[99, 46, 106, 97, 108], [99, 46, 106], [106]] (by decide) _ B10.out _ ⟨_, _, rfl, Or.inr ⟨_, rfl, Strs.new _ [[99, 46, 106, 97, 108], [99, 46, 106], [106]] 9⟩⟩).mono ?_
  rintro e x10 ⟨rfl, hn11⟩
  have H10x := Lib.hid (H9x.out.trans (((Nx.refl _).alloc _).trans hn11))
  clear hn11
  by_cases hn : 1 = n
  · have en : ((1 : Int) == n) = true := by rw [beq_iff_eq]; omega
    go_wp2
    go_ret2
    exact ret_lq_yes hn H10x.out
  · have en : ((1 : Int) == n) = false := by rw [beq_eq_false_iff_ne]; omega
    go_wp2
    go_ret2
    exact ret_lq_no hn H10x.out

set_option maxHeartbeats 4000000 in
theorem letters17_s11 (s : List UInt8) (n : Nat) (j1 : (s == [106, 97, 108]) = false) (j2 : (s == [106, 97, 108, 114]) = false) (ho : opP s = 0) (b0 : inB s [[99, 46, 97, 100, 100, 105, 52, 115, 112, 110]] = false) (b1 : inB s [[99, 46, 108, 119], [99, 46, 108, 119, 115, 112]] = false) (b2 : inB s [[99, 46, 115, 119], [99, 46, 115, 119, 115, 112]] = false) (b3 : inB s [[99, 46, 110, 111, 112], [99, 46, 101, 98, 114, 101, 97, 107], [110, 111, 112], [114, 101, 116]] = false) (b4 : inB s [[99, 46, 97, 100, 100, 105], [99, 46, 97, 100, 100, 105, 49, 54, 115, 112], [99, 46, 115, 114, 108, 105], [99, 46, 115, 114, 97, 105], [99, 46, 97, 110, 100, 105], [99, 46, 115, 108, 108, 105]] = false) (b5 : (s == [99, 46, 108, 105]) = false) (b6 : (s == [99, 46, 108, 117, 105]) = false) (b7 : inB s [[99, 46, 115, 117, 98], [99, 46, 120, 111, 114], [99, 46, 111, 114], [99, 46, 97, 110, 100], [99, 46, 97, 100, 100]] = false) (b8 : inB s [[99, 46, 109, 118], [109, 118], [110, 101, 103], [115, 110, 101, 122]] = false) (b9 : inB s [[110, 111, 116], [115, 101, 113, 122]] = false) (b10 : inB s [[99, 46, 106, 97, 108], [99, 46, 106], [106]] = false) (b11 : inB s [[99, 46, 98, 101, 113, 122], [99, 46, 98, 110, 101, 122], [98, 101, 113, 122], [98, 110, 101, 122], [98, 103, 101, 122], [98, 108, 116, 122]] = true) (w : World) :
    Calls Tryz.prog 42 #[.string (B s), .int .i64 n] w (RetLq [115, 106] n w) := by
  have CO := Lib.hid (fun w => op17_any s w)
  rw [ho] at CO
  clear ho
  have B0 := Lib.hid b0
  clear b0
  have B1 := Lib.hid b1
  clear b1
  have B2 := Lib.hid b2
  clear b2
  have B3 := Lib.hid b3
  clear b3
  have B4 := Lib.hid b4
  clear b4
  have B7 := Lib.hid b7
  clear b7
  have B8 := Lib.hid b8
  clear b8
  have B9 := Lib.hid b9
  clear b9
  have B10 := Lib.hid b10
  clear b10
  have B11 := Lib.hid b11
  clear b11
  go_enter Tryz.func42, Tryz.ntmps42
  go_wp2_with fail
  refine (CO.out _).mono ?_
  rintro e w0 ⟨rfl, hn0⟩
  have H0 := Lib.hid (((Nx.refl w).alloc _).trans hn0)
  clear hn0
  go_wp2_with fail
  refine (in17n_any s _ [[99, 46, 97, 100, 100, 105, 52, 115, 112, 110]] (by decide) _ B0.out _ ⟨_, _, rfl, Or.inr ⟨_, rfl, Strs.new _ [[99, 46, 97, 100, 100, 105, 52, 115, 112, 110]] 9⟩⟩).mono ?_
  rintro e x0 ⟨rfl, hn1⟩
  have H0x := Lib.hid (H0.out.trans (((Nx.refl _).alloc _).trans hn1))
  clear hn1
  go_wp2_with fail
  refine (in17n_any s _ [[99, 46, 108, 119], [99, 46, 108, 119, 115, 112]] (by decide) _ B1.out _ ⟨_, _, rfl, Or.inr ⟨_, rfl, Strs.new _ [[99, 46, 108, 119], [99, 46, 108, 119, 115, 112]] 9⟩⟩).mono ?_
  rintro e x1 ⟨rfl, hn2⟩
  have H1x := Lib.hid (H0x.out.trans (((Nx.refl _).alloc _).trans hn2))
  clear hn2
  go_wp2_with fail
  refine (in17n_any s _ [[99, 46, 115, 119], [99, 46, 115, 119, 115, 112]] (by decide) _ B2.out _ ⟨_, _, rfl, Or.inr ⟨_, rfl, Strs.new _ [[99, 46, 115, 119], [99, 46, 115, 119, 115, 112]] 9⟩⟩).mono ?_
  rintro e x2 ⟨rfl, hn3⟩
  have H2x := Lib.hid (H1x.out.trans (((Nx.refl _).alloc _).trans hn3))
  clear hn3
  go_wp2_with fail
  refine (in17n_any s _ [[99, 46, 110, 111, 112], [99, 46, 101, 98, 114, 101, 97, 107], [110, 111, 112], [114, 101, 116]] (by decide) _ B3.out _ ⟨_, _, rfl, Or.inr ⟨_, rfl, Strs.new _ [[99, 46, 110, 111, 112], [99, 46, 101, 98, 114, 101, 97, 107], [110, 111, 112], [114, 101, 116]] 9⟩⟩).mono ?_
  rintro e x3 ⟨rfl, hn4⟩
  have H3x := Lib.hid (H2x.out.trans (((Nx.refl _).alloc _).trans hn4))
  clear hn4
  go_wp2_with fail
  refine (in17n_any s _ [[99, 46, 97, 100, 100, 105], [99, 46, 97, 100, 100, 105, 49, 54, 115, 112], [99, 46, 115, 114, 108, 105], [99, 46, 115, 114, 97, 105], [99, 46, 97, 110, 100, 105], [99, 46, 115, 108, 108, 105]] (by decide) _ B4.out _ ⟨_, _, rfl, Or.inr ⟨_, rfl, Strs.new _ [[99, 46, 97, 100, 100, 105], [99, 46, 97, 100, 100, 105, 49, 54, 115, 112], [99, 46, 115, 114, 108, 105], [99, 46, 115, 114, 97, 105], [99, 46, 97, 110, 100, 105], [99, 46, 115, 108, 108, 105]] 9⟩⟩).mono ?_
  rintro e x4 ⟨rfl, hn5⟩
  have H4x := Lib.hid (H3x.out.trans (((Nx.refl _).alloc _).trans hn5))
  clear hn5
  go_wp2_with fail
  refine (in17n_any s _ [[99, 46, 115, 117, 98], [99, 46, 120, 111, 114], [99, 46, 111, 114], [99, 46, 97, 110, 100], [99, 46, 97, 100, 100]] (by decide) _ B7.out _ ⟨_, _, rfl, Or.inr ⟨_, rfl, Strs.new _ [[99, 46, 115, 117, 98], [99, 46, 120, 111, 114], [99, 46, 111, 114], [99, 46, 97, 110, 100], [99, 46, 97, 100, 100]] 9⟩⟩).mono ?_
  rintro e x7 ⟨rfl, hn8⟩
  have H7x := Lib.hid (H4x.out.trans (((Nx.refl _).alloc _).trans hn8))
  clear hn8
  go_wp2_with fail
  refine (in17n_any s _ [[99, 46, 109, 118], [109, 118], [110, 101, 103], [115, 110, 101, 122]] (by decide) _ B8.out _ ⟨_, _, rfl, Or.inr ⟨_, rfl, Strs.new _ [[99, 46, 109, 118], [109, 118], [110, 101, 103], [115, 110, 101, 122]] 9⟩⟩).mono ?_
  rintro e x8 ⟨rfl, hn9⟩
  have H8x := Lib.hid (H7x.out.trans (((Nx.refl _).alloc _).trans hn9))
  clear hn9
  go_wp2_with fail
  refine (in17n_any s _ [[110, 111, 116], [115, 101, 113, 122]] (by decide) _ B9.out _ ⟨_, _, rfl, Or.inr ⟨_, rfl, Strs.new _ [[110, 111, 116], [115, 101, 113, 122]] 9⟩⟩).mono ?_
  rintro e x9 ⟨rfl, hn10⟩
  have H9x := Lib.hid (H8x.out.trans (((Nx.refl _).alloc _).trans hn10))
  clear hn10
  go_wp2_with fail
  refine (in17n_any s _ [[99, 46, 106, 97, 108], [99, 46, 106], [106]] (by decide) _ B10.out _ ⟨_, _, rfl, Or.inr ⟨_, rfl, Strs.new _ [[99, 46, 106, 97, 108], [99, 46, 106], [106]] 9⟩⟩).mono ?_
  rintro e x10 ⟨rfl, hn11⟩
  have H10x := Lib.hid (H9x.out.trans (((Nx.refl _).alloc _).trans hn11))
  clear hn11
  go_wp2_with fail
  refine (in17n_any s _ [[99, 46, 98, 101, 113, 122], [99, 46, 98, 110, 101, 122], [98, 101, 113, 122], [98, 110, 101, 122], [98, 103, 101, 122], [98, 108, 116, 122]] (by decide) _ B11.out _ ⟨_, _, rfl, Or.inr ⟨_, rfl, Strs.new _ [[99, 46, 98, 101, 113, 122], [99, 46, 98, 110, 101, 122], [98, 101, 113, 122], [98, 110, 101, 122], [98, 103, 101, 122], [98, 108, 116, 122]] 9⟩⟩).mono ?_
  rintro e x11 ⟨rfl, hn12⟩
  have H11x := Lib.hid (H10x.out.trans (((Nx.refl _).alloc _).trans hn12))
  clear hn12
  by_cases hn : 2 = n
  · have en : ((2 : Int) == n) = true := by rw [beq_iff_eq]; omega
    go_wp2
    go_ret2
    exact ret_lq_yes hn H11x.out
  · have en : ((2 : Int) == n) = false := by rw [beq_eq_false_iff_ne]; omega
    go_wp2
    go_ret2
    exact ret_lq_no hn H11x.out

set_option maxHeartbeats 4000000 in
theorem letters17_s14 (s : List UInt8) (n : Nat) (j1 : (s == [106, 97, 108]) = false) (j2 : (s == [106, 97, 108, 114]) = false) (ho : opP s = 0) (b0 : inB s [[99, 46, 97, 100, 100, 105, 52, 115, 112, 110]] = false) (b1 : inB s [[99, 46, 108, 119], [99, 46, 108, 119, 115, 112]] = false) (b2 : inB s [[99, 46, 115, 119], [99, 46, 115, 119, 115, 112]] = false) (b3 : inB s [[99, 46, 110, 111, 112], [99, 46, 101, 98, 114, 101, 97, 107], [110, 111, 112], [114, 101, 116]] = false) (b4 : inB s [[99, 46, 97, 100, 100, 105], [99, 46, 97, 100, 100, 105, 49, 54, 115, 112], [99, 46, 115, 114, 108, 105], [99, 46, 115, 114, 97, 105], [99, 46, 97, 110, 100, 105], [99, 46, 115, 108, 108, 105]] = false) (b5 : (s == [99, 46, 108, 105]) = false) (b6 : (s == [99, 46, 108, 117, 105]) = false) (b7 : inB s [[99, 46, 115, 117, 98], [99, 46, 120, 111, 114], [99, 46, 111, 114], [99, 46, 97, 110, 100], [99, 46, 97, 100, 100]] = false) (b8 : inB s [[99, 46, 109, 118], [109, 118], [110, 101, 103], [115, 110, 101, 122]] = false) (b9 : inB s [[110, 111, 116], [115, 101, 113, 122]] = false) (b10 : inB s [[99, 46, 106, 97, 108], [99, 46, 106], [106]] = false) (b11 : inB s [[99, 46, 98, 101, 113, 122], [99, 46, 98, 110, 101, 122], [98, 101, 113, 122], [98, 110, 101, 122], [98, 103, 101, 122], [98, 108, 116, 122]] = false) (b12 : inB s [[98, 108, 101, 122], [98, 103, 116, 122]] = false) (b13 : inB s [[98, 103, 116], [98, 108, 101], [98, 103, 116, 117], [98, 108, 101, 117]] = false) (b14 : inB s [[99, 46, 106, 114], [99, 46, 106, 97, 108, 114], [106, 114]] = true) (w : World) :
    Calls Tryz.prog 42 #[.string (B s), .int .i64 n] w (RetLq [115] n w) := by
  have CO := Lib.hid (fun w => op17_any s w)
  rw [ho] at CO
  clear ho
  have B0 := Lib.hid b0
  clear b0
  have B1 := Lib.hid b1
  clear b1
  have B2 := Lib.hid b2
  clear b2
  have B3 := Lib.hid b3
  clear b3
  have B4 := Lib.hid b4
  clear b4
  have B7 := Lib.hid b7
  clear b7
  have B8 := Lib.hid b8
  clear b8
  have B9 := Lib.hid b9
  clear b9
  have B10 := Lib.hid b10
  clear b10
  have B11 := Lib.hid b11
  clear b11
  have B12 := Lib.hid b12
  clear b12
  have B13 := Lib.hid b13
  clear b13
  have B14 := Lib.hid b14
  clear b14
  go_enter Tryz.func42, Tryz.ntmps42
  go_wp2_with fail
  refine (CO.out _).mono ?_
  rintro e w0 ⟨rfl, hn0⟩
  have H0 := Lib.hid (((Nx.refl w).alloc _).trans hn0)
  clear hn0
  go_wp2_with fail
  refine (in17n_any s _ [[99, 46, 97, 100, 100, 105, 52, 115, 112, 110]] (by decide) _ B0.out _ ⟨_, _, rfl, Or.inr ⟨_, rfl, Strs.new _ [[99, 46, 97, 100, 100, 105, 52, 115, 112, 110]] 9⟩⟩).mono ?_
  rintro e x0 ⟨rfl, hn1⟩
  have H0x := Lib.hid (H0.out.trans (((Nx.refl _).alloc _).trans hn1))
  clear hn1
  go_wp2_with fail
  refine (in17n_any s _ [[99, 46, 108, 119], [99, 46, 108, 119, 115, 112]] (by decide) _ B1.out _ ⟨_, _, rfl, Or.inr ⟨_, rfl, Strs.new _ [[99, 46, 108, 119], [99, 46, 108, 119, 115, 112]] 9⟩⟩).mono ?_
  rintro e x1 ⟨rfl, hn2⟩
  have H1x := Lib.hid (H0x.out.trans (((Nx.refl _).alloc _).trans hn2))
  clear hn2
  go_wp2_with fail
  refine (in17n_any s _ [[99, 46, 115, 119], [99, 46, 115, 119, 115, 112]] (by decide) _ B2.out _ ⟨_, _, rfl, Or.inr ⟨_, rfl, Strs.new _ [[99, 46, 115, 119], [99, 46, 115, 119, 115, 112]] 9⟩⟩).mono ?_
  rintro e x2 ⟨rfl, hn3⟩
  have H2x := Lib.hid (H1x.out.trans (((Nx.refl _).alloc _).trans hn3))
  clear hn3
  go_wp2_with fail
  refine (in17n_any s _ [[99, 46, 110, 111, 112], [99, 46, 101, 98, 114, 101, 97, 107], [110, 111, 112], [114, 101, 116]] (by decide) _ B3.out _ ⟨_, _, rfl, Or.inr ⟨_, rfl, Strs.new _ [[99, 46, 110, 111, 112], [99, 46, 101, 98, 114, 101, 97, 107], [110, 111, 112], [114, 101, 116]] 9⟩⟩).mono ?_
  rintro e x3 ⟨rfl, hn4⟩
  have H3x := Lib.hid (H2x.out.trans (((Nx.refl _).alloc _).trans hn4))
  clear hn4
  go_wp2_with fail
  refine (in17n_any s _ [[99, 46, 97, 100, 100, 105], [99, 46, 97, 100, 100, 105, 49, 54, 115, 112], [99, 46, 115, 114, 108, 105], [99, 46, 115, 114, 97, 105], [99, 46, 97, 110, 100, 105], [99, 46, 115, 108, 108, 105]] (by decide) _ B4.out _ ⟨_, _, rfl, Or.inr ⟨_, rfl, Strs.new _ [[99, 46, 97, 100, 100, 105], [99, 46, 97, 100, 100, 105, 49, 54, 115, 112], [99, 46, 115, 114, 108, 105], [99, 46, 115, 114, 97, 105], [99, 46, 97, 110, 100, 105], [99, 46, 115, 108, 108, 105]] 9⟩⟩).mono ?_
  rintro e x4 ⟨rfl, hn5⟩
  have H4x := Lib.hid (H3x.out.trans (((Nx.refl _).alloc _).trans hn5))
  clear hn5
  go_wp2_with fail
  refine (in17n_any s _ [[99, 46, 115, 117, 98], [99, 46, 120, 111, 114], [99, 46, 111, 114], [99, 46, 97, 110, 100], [99, 46, 97, 100, 100]] (by decide) _ B7.out _ ⟨_, _, rfl, Or.inr ⟨_, rfl, Strs.new _ [[99, 46, 115, 117, 98], [99, 46, 120, 111, 114], [99, 46, 111, 114], [99, 46, 97, 110, 100], [99, 46, 97, 100, 100]] 9⟩⟩).mono ?_
  rintro e x7 ⟨rfl, hn8⟩
  have H7x := Lib.hid (H4x.out.trans (((Nx.refl _).alloc _).trans hn8))
  clear hn8
  go_wp2_with fail
  refine (in17n_any s _ [[99, 46, 109, 118], [109, 118], [110, 101, 103], [115, 110, 101, 122]] (by decide) _ B8.out _ ⟨_, _, rfl, Or.inr ⟨_, rfl, Strs.new _ [[99, 46, 109, 118], [109, 118], [110, 101, 103], [115, 110, 101, 122]] 9⟩⟩).mono ?_
  rintro e x8 ⟨rfl, hn9⟩
  have H8x := Lib.hid (H7x.out.trans (((Nx.refl _).alloc _).trans hn9))
  clear hn9
  go_wp2_with fail
  refine (in17n_any s _ [[110, 111, 116], [115, 101, 113, 122]] (by decide) _ B9.out _ ⟨_, _, rfl, Or.inr ⟨_, rfl, Strs.new _ [[110, 111, 116], [115, 101, 113, 122]] 9⟩⟩).mono ?_
  rintro e x9 ⟨rfl, hn10⟩
  have H9x := Lib.hid (H8x.out.trans (((Nx.refl _).alloc _).trans hn10))
  clear hn10
  go_wp2_with fail
  refine (in17n_any s _ [[99, 46, 106, 97, 108], [99, 46, 106], [106]] (by decide) _ B10.out _ ⟨_, _, rfl, Or.inr ⟨_, rfl, Strs.new _ [[99, 46, 106, 97, 108], [99, 46, 106], [106]] 9⟩⟩).mono ?_
  rintro e x10 ⟨rfl, hn11⟩
  have H10x := Lib.hid (H9x.out.trans (((Nx.refl _).alloc _).trans hn11))
  clear hn11
  go_wp2_with fail
  refine (in17n_any s _ [[99, 46, 98, 101, 113, 122], [99, 46, 98, 110, 101, 122], [98, 101, 113, 122], [98, 110, 101, 122], [98, 103, 101, 122], [98, 108, 116, 122]] (by decide) _ B11.out _ ⟨_, _, rfl, Or.inr ⟨_, rfl, Strs.new _ [[99, 46, 98, 101, 113, 122], [99, 46, 98, 110, 101, 122], [98, 101, 113, 122], [98, 110, 101, 122], [98, 103, 101, 122], [98, 108, 116, 122]] 9⟩⟩).mono ?_
  rintro e x11 ⟨rfl, hn12⟩
  have H11x := Lib.hid (H10x.out.trans (((Nx.refl _).alloc _).trans hn12))
  clear hn12
  go_wp2_with fail
  refine (in17n_any s _ [[98, 108, 101, 122], [98, 103, 116, 122]] (by decide) _ B12.out _ ⟨_, _, rfl, Or.inr ⟨_, rfl, Strs.new _ [[98, 108, 101, 122], [98, 103, 116, 122]] 9⟩⟩).mono ?_
  rintro e x12 ⟨rfl, hn13⟩
  have H12x := Lib.hid (H11x.out.trans (((Nx.refl _).alloc _).trans hn13))
  clear hn13
  go_wp2_with fail
  refine (in17n_any s _ [[98, 103, 116], [98, 108, 101], [98, 103, 116, 117], [98, 108, 101, 117]] (by decide) _ B13.out _ ⟨_, _, rfl, Or.inr ⟨_, rfl, Strs.new _ [[98, 103, 116], [98, 108, 101], [98, 103, 116, 117], [98, 108, 101, 117]] 9⟩⟩).mono ?_
  rintro e x13 ⟨rfl, hn14⟩
  have H13x := Lib.hid (H12x.out.trans (((Nx.refl _).alloc _).trans hn14))
  clear hn14
  go_wp2_with fail
  refine (in17n_any s _ [[99, 46, 106, 114], [99, 46, 106, 97, 108, 114], [106, 114]] (by decide) _ B14.out _ ⟨_, _, rfl, Or.inr ⟨_, rfl, Strs.new _ [[99, 46, 106, 114], [99, 46, 106, 97, 108, 114], [106, 114]] 9⟩⟩).mono ?_
  rintro e x14 ⟨rfl, hn15⟩
  have H14x := Lib.hid (H13x.out.trans (((Nx.refl _).alloc _).trans hn15))
  clear hn15
  by_cases hn : 1 = n
  · have en : ((1 : Int) == n) = true := by rw [beq_iff_eq]; omega
    go_wp2
    go_ret2
    exact ret_lq_yes hn H14x.out
  · have en : ((1 : Int) == n) = false := by rw [beq_eq_false_iff_ne]; omega
    go_wp2
    go_ret2
    exact ret_lq_no hn H14x.out

theorem letters17_sh (m : Nat) (hm : m < 27) (n : Nat) (w : World) :
    Calls Tryz.prog 42 #[.string (B (shB.getD m [])), .int .i64 n] w (RetLq (letSL.getD m []) n w) := by
  have ho : ∀ m < 27, opP (shB.getD m []) = 0 := by decide +kernel
  have h := ho m hm
  rcases (by omega : m = 0 ∨ m = 1 ∨ m = 2 ∨ m = 3 ∨ m = 4 ∨ m = 5 ∨ m = 6 ∨ m = 7 ∨ m = 8 ∨ m = 9 ∨ m = 10 ∨ m = 11 ∨ m = 12 ∨ m = 13 ∨ m = 14 ∨ m = 15 ∨ m = 16 ∨ m = 17 ∨ m = 18 ∨ m = 19 ∨ m = 20 ∨ m = 21 ∨ m = 22 ∨ m = 23 ∨ m = 24 ∨ m = 25 ∨ m = 26) with rfl | rfl | rfl | rfl | rfl | rfl | rfl | rfl | rfl | rfl | rfl | rfl | rfl | rfl | rfl | rfl | rfl | rfl | rfl | rfl | rfl | rfl | rfl | rfl | rfl | rfl | rfl
  · exact letters17_s0 _ n (by decide) (by decide) h (by decide) w
  · exact letters17_s1 _ n (by decide) (by decide) h (by decide) (by decide) w
  · exact letters17_s2 _ n (by decide) (by decide) h (by decide) (by decide) (by decide) w
  · exact letters17_s3 _ n (by decide) (by decide) h (by decide) (by decide) (by decide) (by decide) w
  · exact letters17_s4 _ n (by decide) (by decide) h (by decide) (by decide) (by decide) (by decide) (by decide) w
  · exact letters17_s10 _ n (by decide) (by decide) h (by decide) (by decide) (by decide) (by decide) (by decide) (by decide) (by decide) (by decide) (by decide) (by decide) (by decide) w
  · exact letters17_s5 _ n (by decide) (by decide) h (by decide) (by decide) (by decide) (by decide) (by decide) (by decide) w
  · exact letters17_s4 _ n (by decide) (by decide) h (by decide) (by decide) (by decide) (by decide) (by decide) w
  · exact letters17_s6 _ n (by decide) (by decide) h (by decide) (by decide) (by decide) (by decide) (by decide) (by decide) (by decide) w
  · exact letters17_s4 _ n (by decide) (by decide) h (by decide) (by decide) (by decide) (by decide) (by decide) w
  · exact letters17_s4 _ n (by decide) (by decide) h (by decide) (by decide) (by decide) (by decide) (by decide) w
  · exact letters17_s4 _ n (by decide) (by decide) h (by decide) (by decide) (by decide) (by decide) (by decide) w
  · exact letters17_s7 _ n (by decide) (by decide) h (by decide) (by decide) (by decide) (by decide) (by decide) (by decide) (by decide) (by decide) w
  · exact letters17_s7 _ n (by decide) (by decide) h (by decide) (by decide) (by decide) (by decide) (by decide) (by decide) (by decide) (by decide) w
  · exact letters17_s7 _ n (by decide) (by decide) h (by decide) (by decide) (by decide) (by decide) (by decide) (by decide) (by decide) (by decide) w
  · exact letters17_s7 _ n (by decide) (by decide) h (by decide) (by decide) (by decide) (by decide) (by decide) (by decide) (by decide) (by decide) w
  · exact letters17_s10 _ n (by decide) (by decide) h (by decide) (by decide) (by decide) (by decide) (by decide) (by decide) (by decide) (by decide) (by decide) (by decide) (by decide) w
  · exact letters17_s11 _ n (by decide) (by decide) h (by decide) (by decide) (by decide) (by decide) (by decide) (by decide) (by decide) (by decide) (by decide) (by decide) (by decide) (by decide) w
  · exact letters17_s11 _ n (by decide) (by decide) h (by decide) (by decide) (by decide) (by decide) (by decide) (by decide) (by decide) (by decide) (by decide) (by decide) (by decide) (by decide) w
  · exact letters17_s4 _ n (by decide) (by decide) h (by decide) (by decide) (by decide) (by decide) (by decide) w
  · exact letters17_s1 _ n (by decide) (by decide) h (by decide) (by decide) w
  · exact letters17_s14 _ n (by decide) (by decide) h (by decide) (by decide) (by decide) (by decide) (by decide) (by decide) (by decide) (by decide) (by decide) (by decide) (by decide) (by decide) (by decide) (by decide) (by decide) w
  · exact letters17_s8 _ n (by decide) (by decide) h (by decide) (by decide) (by decide) (by decide) (by decide) (by decide) (by decide) (by decide) (by decide) w
  · exact letters17_s3 _ n (by decide) (by decide) h (by decide) (by decide) (by decide) (by decide) w
  · exact letters17_s14 _ n (by decide) (by decide) h (by decide) (by decide) (by decide) (by decide) (by decide) (by decide) (by decide) (by decide) (by decide) (by decide) (by decide) (by decide) (by decide) (by decide) (by decide) w
  · exact letters17_s7 _ n (by decide) (by decide) h (by decide) (by decide) (by decide) (by decide) (by decide) (by decide) (by decide) (by decide) w
  · exact letters17_s2 _ n (by decide) (by decide) h (by decide) (by decide) (by decide) w

end Go.Proofs.YtdgmdkkockbkjaaGreatDoor

/- Contract of typecaseref17.ins, at the names of operations and of shorts. -/
namespace Go.Proofs.YtdgmdkkockbkjaaGreatDoor
open Go.RowKit
set_option linter.unusedVariables false
set_option linter.unusedSimpArgs false

def RetIns (op rd : Int) (w : World) (e : Ending) (w' : World) : Prop := e = .returned (.agg #[.int .i64 op, .int .i64 rd, .int .i64 0, .int .i64 0, .int .i32 0]) ∧ Nx w w'

theorem op17_at (s : List UInt8) (k : Nat) (h : opP s = k) (w : World) : Calls Tryz.prog 68 #[.string (B s)] w fun e w' => e = .returned (.int .i64 k) ∧ Nx w w' := h ▸ op17_any s w

set_option maxHeartbeats 4000000 in
theorem ins17_h0 (s : List UInt8) (j0 : (s == [99, 46, 97, 100, 100, 105, 52, 115, 112, 110]) = true) (w : World) : Calls Tryz.prog 45 #[.string (B s)] w (RetIns 19 0 w) := by
  go_enter Tryz.func45, Tryz.ntmps45
  go_wp2_with fail
  refine (op17_at [97, 100, 100, 105] 19 (by decide +kernel) _).mono ?_
  rintro e w2 ⟨rfl, hn2⟩
  obtain ⟨c0, c1, c2, c3, c4, f0, f1, f2, f3, f4, hz⟩ := five_cells hn2
  have H2 := Lib.hid (((Nx.refl w).alloc _).trans hn2)
  clear hn2
  go_wp2
  refine bodyPost_ret (v := .agg #[.int .i64 19, .int .i64 0, .int .i64 0, .int .i64 0, .int .i32 0]) (by simp [results, Tryz.results45, go_sem, c0, c1, c2, c3, c4, f0, f1, f2, f3, f4, hz]) rfl ⟨rfl, ?_⟩
  repeat (with_reducible first | exact H2.out | refine Nx.setCell ?_ (Nat.le_refl _) _ | refine Nx.alloc ?_ _)

set_option maxHeartbeats 4000000 in
theorem ins17_h6 (s : List UInt8) (j0 : (s == [99, 46, 97, 100, 100, 105, 52, 115, 112, 110]) = false) (j1 : (s == [99, 46, 110, 111, 112]) = false) (j2 : (s == [99, 46, 97, 100, 100, 105]) = false) (j3 : (s == [99, 46, 97, 100, 100, 105, 49, 54, 115, 112]) = false) (j4 : (s == [99, 46, 108, 105]) = false) (j5 : (s == [110, 111, 112]) = false) (j6 : (s == [99, 46, 108, 119]) = true) (w : World) : Calls Tryz.prog 45 #[.string (B s)] w (RetIns 13 0 w) := by
  go_enter Tryz.func45, Tryz.ntmps45
  go_wp2_with fail
  refine (op17_at [108, 119] 13 (by decide +kernel) _).mono ?_
  rintro e w2 ⟨rfl, hn2⟩
  obtain ⟨c0, c1, c2, c3, c4, f0, f1, f2, f3, f4, hz⟩ := five_cells hn2
  have H2 := Lib.hid (((Nx.refl w).alloc _).trans hn2)
  clear hn2
  go_wp2
  refine bodyPost_ret (v := .agg #[.int .i64 13, .int .i64 0, .int .i64 0, .int .i64 0, .int .i32 0]) (by simp [results, Tryz.results45, go_sem, c0, c1, c2, c3, c4, f0, f1, f2, f3, f4, hz]) rfl ⟨rfl, ?_⟩
  repeat (with_reducible first | exact H2.out | refine Nx.setCell ?_ (Nat.le_refl _) _ | refine Nx.alloc ?_ _)

set_option maxHeartbeats 4000000 in
theorem ins17_h8 (s : List UInt8) (j0 : (s == [99, 46, 97, 100, 100, 105, 52, 115, 112, 110]) = false) (j1 : (s == [99, 46, 110, 111, 112]) = false) (j2 : (s == [99, 46, 97, 100, 100, 105]) = false) (j3 : (s == [99, 46, 97, 100, 100, 105, 49, 54, 115, 112]) = false) (j4 : (s == [99, 46, 108, 105]) = false) (j5 : (s == [110, 111, 112]) = false) (j6 : (s == [99, 46, 108, 119]) = false) (j7 : (s == [99, 46, 108, 119, 115, 112]) = false) (j8 : (s == [99, 46, 115, 119]) = true) (w : World) : Calls Tryz.prog 45 #[.string (B s)] w (RetIns 18 0 w) := by
  go_enter Tryz.func45, Tryz.ntmps45
  go_wp2_with fail
  refine (op17_at [115, 119] 18 (by decide +kernel) _).mono ?_
  rintro e w2 ⟨rfl, hn2⟩
  obtain ⟨c0, c1, c2, c3, c4, f0, f1, f2, f3, f4, hz⟩ := five_cells hn2
  have H2 := Lib.hid (((Nx.refl w).alloc _).trans hn2)
  clear hn2
  go_wp2
  refine bodyPost_ret (v := .agg #[.int .i64 18, .int .i64 0, .int .i64 0, .int .i64 0, .int .i32 0]) (by simp [results, Tryz.results45, go_sem, c0, c1, c2, c3, c4, f0, f1, f2, f3, f4, hz]) rfl ⟨rfl, ?_⟩
  repeat (with_reducible first | exact H2.out | refine Nx.setCell ?_ (Nat.le_refl _) _ | refine Nx.alloc ?_ _)

set_option maxHeartbeats 4000000 in
theorem ins17_h1 (s : List UInt8) (j0 : (s == [99, 46, 97, 100, 100, 105, 52, 115, 112, 110]) = false) (j1 : (s == [99, 46, 110, 111, 112]) = true) (w : World) : Calls Tryz.prog 45 #[.string (B s)] w (RetIns 19 0 w) := by
  go_enter Tryz.func45, Tryz.ntmps45
  go_wp2_with fail
  refine (op17_at [97, 100, 100, 105] 19 (by decide +kernel) _).mono ?_
  rintro e w2 ⟨rfl, hn2⟩
  obtain ⟨c0, c1, c2, c3, c4, f0, f1, f2, f3, f4, hz⟩ := five_cells hn2
  have H2 := Lib.hid (((Nx.refl w).alloc _).trans hn2)
  clear hn2
  go_wp2
  refine bodyPost_ret (v := .agg #[.int .i64 19, .int .i64 0, .int .i64 0, .int .i64 0, .int .i32 0]) (by simp [results, Tryz.results45, go_sem, c0, c1, c2, c3, c4, f0, f1, f2, f3, f4, hz]) rfl ⟨rfl, ?_⟩
  repeat (with_reducible first | exact H2.out | refine Nx.setCell ?_ (Nat.le_refl _) _ | refine Nx.alloc ?_ _)

set_option maxHeartbeats 4000000 in
theorem ins17_h2 (s : List UInt8) (j0 : (s == [99, 46, 97, 100, 100, 105, 52, 115, 112, 110]) = false) (j1 : (s == [99, 46, 110, 111, 112]) = false) (j2 : (s == [99, 46, 97, 100, 100, 105]) = true) (w : World) : Calls Tryz.prog 45 #[.string (B s)] w (RetIns 19 0 w) := by
  go_enter Tryz.func45, Tryz.ntmps45
  go_wp2_with fail
  refine (op17_at [97, 100, 100, 105] 19 (by decide +kernel) _).mono ?_
  rintro e w2 ⟨rfl, hn2⟩
  obtain ⟨c0, c1, c2, c3, c4, f0, f1, f2, f3, f4, hz⟩ := five_cells hn2
  have H2 := Lib.hid (((Nx.refl w).alloc _).trans hn2)
  clear hn2
  go_wp2
  refine bodyPost_ret (v := .agg #[.int .i64 19, .int .i64 0, .int .i64 0, .int .i64 0, .int .i32 0]) (by simp [results, Tryz.results45, go_sem, c0, c1, c2, c3, c4, f0, f1, f2, f3, f4, hz]) rfl ⟨rfl, ?_⟩
  repeat (with_reducible first | exact H2.out | refine Nx.setCell ?_ (Nat.le_refl _) _ | refine Nx.alloc ?_ _)

set_option maxHeartbeats 4000000 in
theorem ins17_h12 (s : List UInt8) (j0 : (s == [99, 46, 97, 100, 100, 105, 52, 115, 112, 110]) = false) (j1 : (s == [99, 46, 110, 111, 112]) = false) (j2 : (s == [99, 46, 97, 100, 100, 105]) = false) (j3 : (s == [99, 46, 97, 100, 100, 105, 49, 54, 115, 112]) = false) (j4 : (s == [99, 46, 108, 105]) = false) (j5 : (s == [110, 111, 112]) = false) (j6 : (s == [99, 46, 108, 119]) = false) (j7 : (s == [99, 46, 108, 119, 115, 112]) = false) (j8 : (s == [99, 46, 115, 119]) = false) (j9 : (s == [99, 46, 115, 119, 115, 112]) = false) (j10 : (s == [99, 46, 109, 118]) = false) (j11 : (s == [109, 118]) = false) (j12 : (s == [99, 46, 106, 97, 108]) = true) (w : World) : Calls Tryz.prog 45 #[.string (B s)] w (RetIns 3 1 w) := by
  go_enter Tryz.func45, Tryz.ntmps45
  go_wp2_with fail
  refine (op17_at [106, 97, 108] 3 (by decide +kernel) _).mono ?_
  rintro e w2 ⟨rfl, hn2⟩
  obtain ⟨c0, c1, c2, c3, c4, f0, f1, f2, f3, f4, hz⟩ := five_cells hn2
  have H2 := Lib.hid (((Nx.refl w).alloc _).trans hn2)
  clear hn2
  go_wp2
  refine bodyPost_ret (v := .agg #[.int .i64 3, .int .i64 1, .int .i64 0, .int .i64 0, .int .i32 0]) (by simp [results, Tryz.results45, go_sem, c0, c1, c2, c3, c4, f0, f1, f2, f3, f4, hz]) rfl ⟨rfl, ?_⟩
  repeat (with_reducible first | exact H2.out | refine Nx.setCell ?_ (Nat.le_refl _) _ | refine Nx.alloc ?_ _)

set_option maxHeartbeats 4000000 in
theorem ins17_h4 (s : List UInt8) (j0 : (s == [99, 46, 97, 100, 100, 105, 52, 115, 112, 110]) = false) (j1 : (s == [99, 46, 110, 111, 112]) = false) (j2 : (s == [99, 46, 97, 100, 100, 105]) = false) (j3 : (s == [99, 46, 97, 100, 100, 105, 49, 54, 115, 112]) = false) (j4 : (s == [99, 46, 108, 105]) = true) (w : World) : Calls Tryz.prog 45 #[.string (B s)] w (RetIns 19 0 w) := by
  go_enter Tryz.func45, Tryz.ntmps45
  go_wp2_with fail
  refine (op17_at [97, 100, 100, 105] 19 (by decide +kernel) _).mono ?_
  rintro e w2 ⟨rfl, hn2⟩
  obtain ⟨c0, c1, c2, c3, c4, f0, f1, f2, f3, f4, hz⟩ := five_cells hn2
  have H2 := Lib.hid (((Nx.refl w).alloc _).trans hn2)
  clear hn2
  go_wp2
  refine bodyPost_ret (v := .agg #[.int .i64 19, .int .i64 0, .int .i64 0, .int .i64 0, .int .i32 0]) (by simp [results, Tryz.results45, go_sem, c0, c1, c2, c3, c4, f0, f1, f2, f3, f4, hz]) rfl ⟨rfl, ?_⟩
  repeat (with_reducible first | exact H2.out | refine Nx.setCell ?_ (Nat.le_refl _) _ | refine Nx.alloc ?_ _)

set_option maxHeartbeats 4000000 in
theorem ins17_h3 (s : List UInt8) (j0 : (s == [99, 46, 97, 100, 100, 105, 52, 115, 112, 110]) = false) (j1 : (s == [99, 46, 110, 111, 112]) = false) (j2 : (s == [99, 46, 97, 100, 100, 105]) = false) (j3 : (s == [99, 46, 97, 100, 100, 105, 49, 54, 115, 112]) = true) (w : World) : Calls Tryz.prog 45 #[.string (B s)] w (RetIns 19 0 w) := by
  go_enter Tryz.func45, Tryz.ntmps45
  go_wp2_with fail
  refine (op17_at [97, 100, 100, 105] 19 (by decide +kernel) _).mono ?_
  rintro e w2 ⟨rfl, hn2⟩
  obtain ⟨c0, c1, c2, c3, c4, f0, f1, f2, f3, f4, hz⟩ := five_cells hn2
  have H2 := Lib.hid (((Nx.refl w).alloc _).trans hn2)
  clear hn2
  go_wp2
  refine bodyPost_ret (v := .agg #[.int .i64 19, .int .i64 0, .int .i64 0, .int .i64 0, .int .i32 0]) (by simp [results, Tryz.results45, go_sem, c0, c1, c2, c3, c4, f0, f1, f2, f3, f4, hz]) rfl ⟨rfl, ?_⟩
  repeat (with_reducible first | exact H2.out | refine Nx.setCell ?_ (Nat.le_refl _) _ | refine Nx.alloc ?_ _)

set_option maxHeartbeats 4000000 in
theorem ins17_h13 (s : List UInt8) (j0 : (s == [99, 46, 97, 100, 100, 105, 52, 115, 112, 110]) = false) (j1 : (s == [99, 46, 110, 111, 112]) = false) (j2 : (s == [99, 46, 97, 100, 100, 105]) = false) (j3 : (s == [99, 46, 97, 100, 100, 105, 49, 54, 115, 112]) = false) (j4 : (s == [99, 46, 108, 105]) = false) (j5 : (s == [110, 111, 112]) = false) (j6 : (s == [99, 46, 108, 119]) = false) (j7 : (s == [99, 46, 108, 119, 115, 112]) = false) (j8 : (s == [99, 46, 115, 119]) = false) (j9 : (s == [99, 46, 115, 119, 115, 112]) = false) (j10 : (s == [99, 46, 109, 118]) = false) (j11 : (s == [109, 118]) = false) (j12 : (s == [99, 46, 106, 97, 108]) = false) (j13 : (s == [99, 46, 106]) = true) (w : World) : Calls Tryz.prog 45 #[.string (B s)] w (RetIns 3 0 w) := by
  go_enter Tryz.func45, Tryz.ntmps45
  go_wp2_with fail
  refine (op17_at [106, 97, 108] 3 (by decide +kernel) _).mono ?_
  rintro e w2 ⟨rfl, hn2⟩
  obtain ⟨c0, c1, c2, c3, c4, f0, f1, f2, f3, f4, hz⟩ := five_cells hn2
  have H2 := Lib.hid (((Nx.refl w).alloc _).trans hn2)
  clear hn2
  go_wp2
  refine bodyPost_ret (v := .agg #[.int .i64 3, .int .i64 0, .int .i64 0, .int .i64 0, .int .i32 0]) (by simp [results, Tryz.results45, go_sem, c0, c1, c2, c3, c4, f0, f1, f2, f3, f4, hz]) rfl ⟨rfl, ?_⟩
  repeat (with_reducible first | exact H2.out | refine Nx.setCell ?_ (Nat.le_refl _) _ | refine Nx.alloc ?_ _)

set_option maxHeartbeats 4000000 in
theorem ins17_h15 (s : List UInt8) (j0 : (s == [99, 46, 97, 100, 100, 105, 52, 115, 112, 110]) = false) (j1 : (s == [99, 46, 110, 111, 112]) = false) (j2 : (s == [99, 46, 97, 100, 100, 105]) = false) (j3 : (s == [99, 46, 97, 100, 100, 105, 49, 54, 115, 112]) = false) (j4 : (s == [99, 46, 108, 105]) = false) (j5 : (s == [110, 111, 112]) = false) (j6 : (s == [99, 46, 108, 119]) = false) (j7 : (s == [99, 46, 108, 119, 115, 112]) = false) (j8 : (s == [99, 46, 115, 119]) = false) (j9 : (s == [99, 46, 115, 119, 115, 112]) = false) (j10 : (s == [99, 46, 109, 118]) = false) (j11 : (s == [109, 118]) = false) (j12 : (s == [99, 46, 106, 97, 108]) = false) (j13 : (s == [99, 46, 106]) = false) (j14 : (s == [106]) = false) (j15 : (s == [99, 46, 98, 101, 113, 122]) = true) (w : World) : Calls Tryz.prog 45 #[.string (B s)] w (RetIns 5 0 w) := by
  go_enter Tryz.func45, Tryz.ntmps45
  go_wp2_with fail
  refine (op17_at [98, 101, 113] 5 (by decide +kernel) _).mono ?_
  rintro e w2 ⟨rfl, hn2⟩
  obtain ⟨c0, c1, c2, c3, c4, f0, f1, f2, f3, f4, hz⟩ := five_cells hn2
  have H2 := Lib.hid (((Nx.refl w).alloc _).trans hn2)
  clear hn2
  go_wp2
  refine bodyPost_ret (v := .agg #[.int .i64 5, .int .i64 0, .int .i64 0, .int .i64 0, .int .i32 0]) (by simp [results, Tryz.results45, go_sem, c0, c1, c2, c3, c4, f0, f1, f2, f3, f4, hz]) rfl ⟨rfl, ?_⟩
  repeat (with_reducible first | exact H2.out | refine Nx.setCell ?_ (Nat.le_refl _) _ | refine Nx.alloc ?_ _)

set_option maxHeartbeats 4000000 in
theorem ins17_h17 (s : List UInt8) (j0 : (s == [99, 46, 97, 100, 100, 105, 52, 115, 112, 110]) = false) (j1 : (s == [99, 46, 110, 111, 112]) = false) (j2 : (s == [99, 46, 97, 100, 100, 105]) = false) (j3 : (s == [99, 46, 97, 100, 100, 105, 49, 54, 115, 112]) = false) (j4 : (s == [99, 46, 108, 105]) = false) (j5 : (s == [110, 111, 112]) = false) (j6 : (s == [99, 46, 108, 119]) = false) (j7 : (s == [99, 46, 108, 119, 115, 112]) = false) (j8 : (s == [99, 46, 115, 119]) = false) (j9 : (s == [99, 46, 115, 119, 115, 112]) = false) (j10 : (s == [99, 46, 109, 118]) = false) (j11 : (s == [109, 118]) = false) (j12 : (s == [99, 46, 106, 97, 108]) = false) (j13 : (s == [99, 46, 106]) = false) (j14 : (s == [106]) = false) (j15 : (s == [99, 46, 98, 101, 113, 122]) = false) (j16 : (s == [98, 101, 113, 122]) = false) (j17 : (s == [99, 46, 98, 110, 101, 122]) = true) (w : World) : Calls Tryz.prog 45 #[.string (B s)] w (RetIns 6 0 w) := by
  go_enter Tryz.func45, Tryz.ntmps45
  go_wp2_with fail
  refine (op17_at [98, 110, 101] 6 (by decide +kernel) _).mono ?_
  rintro e w2 ⟨rfl, hn2⟩
  obtain ⟨c0, c1, c2, c3, c4, f0, f1, f2, f3, f4, hz⟩ := five_cells hn2
  have H2 := Lib.hid (((Nx.refl w).alloc _).trans hn2)
  clear hn2
  go_wp2
  refine bodyPost_ret (v := .agg #[.int .i64 6, .int .i64 0, .int .i64 0, .int .i64 0, .int .i32 0]) (by simp [results, Tryz.results45, go_sem, c0, c1, c2, c3, c4, f0, f1, f2, f3, f4, hz]) rfl ⟨rfl, ?_⟩
  repeat (with_reducible first | exact H2.out | refine Nx.setCell ?_ (Nat.le_refl _) _ | refine Nx.alloc ?_ _)

set_option maxHeartbeats 4000000 in
theorem ins17_h7 (s : List UInt8) (j0 : (s == [99, 46, 97, 100, 100, 105, 52, 115, 112, 110]) = false) (j1 : (s == [99, 46, 110, 111, 112]) = false) (j2 : (s == [99, 46, 97, 100, 100, 105]) = false) (j3 : (s == [99, 46, 97, 100, 100, 105, 49, 54, 115, 112]) = false) (j4 : (s == [99, 46, 108, 105]) = false) (j5 : (s == [110, 111, 112]) = false) (j6 : (s == [99, 46, 108, 119]) = false) (j7 : (s == [99, 46, 108, 119, 115, 112]) = true) (w : World) : Calls Tryz.prog 45 #[.string (B s)] w (RetIns 13 0 w) := by
  go_enter Tryz.func45, Tryz.ntmps45
  go_wp2_with fail
  refine (op17_at [108, 119] 13 (by decide +kernel) _).mono ?_
  rintro e w2 ⟨rfl, hn2⟩
  obtain ⟨c0, c1, c2, c3, c4, f0, f1, f2, f3, f4, hz⟩ := five_cells hn2
  have H2 := Lib.hid (((Nx.refl w).alloc _).trans hn2)
  clear hn2
  go_wp2
  refine bodyPost_ret (v := .agg #[.int .i64 13, .int .i64 0, .int .i64 0, .int .i64 0, .int .i32 0]) (by simp [results, Tryz.results45, go_sem, c0, c1, c2, c3, c4, f0, f1, f2, f3, f4, hz]) rfl ⟨rfl, ?_⟩
  repeat (with_reducible first | exact H2.out | refine Nx.setCell ?_ (Nat.le_refl _) _ | refine Nx.alloc ?_ _)

set_option maxHeartbeats 4000000 in
theorem ins17_h19 (s : List UInt8) (j0 : (s == [99, 46, 97, 100, 100, 105, 52, 115, 112, 110]) = false) (j1 : (s == [99, 46, 110, 111, 112]) = false) (j2 : (s == [99, 46, 97, 100, 100, 105]) = false) (j3 : (s == [99, 46, 97, 100, 100, 105, 49, 54, 115, 112]) = false) (j4 : (s == [99, 46, 108, 105]) = false) (j5 : (s == [110, 111, 112]) = false) (j6 : (s == [99, 46, 108, 119]) = false) (j7 : (s == [99, 46, 108, 119, 115, 112]) = false) (j8 : (s == [99, 46, 115, 119]) = false) (j9 : (s == [99, 46, 115, 119, 115, 112]) = false) (j10 : (s == [99, 46, 109, 118]) = false) (j11 : (s == [109, 118]) = false) (j12 : (s == [99, 46, 106, 97, 108]) = false) (j13 : (s == [99, 46, 106]) = false) (j14 : (s == [106]) = false) (j15 : (s == [99, 46, 98, 101, 113, 122]) = false) (j16 : (s == [98, 101, 113, 122]) = false) (j17 : (s == [99, 46, 98, 110, 101, 122]) = false) (j18 : (s == [98, 110, 101, 122]) = false) (j19 : (s == [99, 46, 106, 114]) = true) (w : World) : Calls Tryz.prog 45 #[.string (B s)] w (RetIns 4 0 w) := by
  go_enter Tryz.func45, Tryz.ntmps45
  go_wp2_with fail
  refine (op17_at [106, 97, 108, 114] 4 (by decide +kernel) _).mono ?_
  rintro e w2 ⟨rfl, hn2⟩
  obtain ⟨c0, c1, c2, c3, c4, f0, f1, f2, f3, f4, hz⟩ := five_cells hn2
  have H2 := Lib.hid (((Nx.refl w).alloc _).trans hn2)
  clear hn2
  go_wp2
  refine bodyPost_ret (v := .agg #[.int .i64 4, .int .i64 0, .int .i64 0, .int .i64 0, .int .i32 0]) (by simp [results, Tryz.results45, go_sem, c0, c1, c2, c3, c4, f0, f1, f2, f3, f4, hz]) rfl ⟨rfl, ?_⟩
  repeat (with_reducible first | exact H2.out | refine Nx.setCell ?_ (Nat.le_refl _) _ | refine Nx.alloc ?_ _)

set_option maxHeartbeats 4000000 in
theorem ins17_h10 (s : List UInt8) (j0 : (s == [99, 46, 97, 100, 100, 105, 52, 115, 112, 110]) = false) (j1 : (s == [99, 46, 110, 111, 112]) = false) (j2 : (s == [99, 46, 97, 100, 100, 105]) = false) (j3 : (s == [99, 46, 97, 100, 100, 105, 49, 54, 115, 112]) = false) (j4 : (s == [99, 46, 108, 105]) = false) (j5 : (s == [110, 111, 112]) = false) (j6 : (s == [99, 46, 108, 119]) = false) (j7 : (s == [99, 46, 108, 119, 115, 112]) = false) (j8 : (s == [99, 46, 115, 119]) = false) (j9 : (s == [99, 46, 115, 119, 115, 112]) = false) (j10 : (s == [99, 46, 109, 118]) = true) (w : World) : Calls Tryz.prog 45 #[.string (B s)] w (RetIns 28 0 w) := by
  go_enter Tryz.func45, Tryz.ntmps45
  go_wp2_with fail
  refine (op17_at [97, 100, 100] 28 (by decide +kernel) _).mono ?_
  rintro e w2 ⟨rfl, hn2⟩
  obtain ⟨c0, c1, c2, c3, c4, f0, f1, f2, f3, f4, hz⟩ := five_cells hn2
  have H2 := Lib.hid (((Nx.refl w).alloc _).trans hn2)
  clear hn2
  go_wp2
  refine bodyPost_ret (v := .agg #[.int .i64 28, .int .i64 0, .int .i64 0, .int .i64 0, .int .i32 0]) (by simp [results, Tryz.results45, go_sem, c0, c1, c2, c3, c4, f0, f1, f2, f3, f4, hz]) rfl ⟨rfl, ?_⟩
  repeat (with_reducible first | exact H2.out | refine Nx.setCell ?_ (Nat.le_refl _) _ | refine Nx.alloc ?_ _)

set_option maxHeartbeats 4000000 in
theorem ins17_h21 (s : List UInt8) (j0 : (s == [99, 46, 97, 100, 100, 105, 52, 115, 112, 110]) = false) (j1 : (s == [99, 46, 110, 111, 112]) = false) (j2 : (s == [99, 46, 97, 100, 100, 105]) = false) (j3 : (s == [99, 46, 97, 100, 100, 105, 49, 54, 115, 112]) = false) (j4 : (s == [99, 46, 108, 105]) = false) (j5 : (s == [110, 111, 112]) = false) (j6 : (s == [99, 46, 108, 119]) = false) (j7 : (s == [99, 46, 108, 119, 115, 112]) = false) (j8 : (s == [99, 46, 115, 119]) = false) (j9 : (s == [99, 46, 115, 119, 115, 112]) = false) (j10 : (s == [99, 46, 109, 118]) = false) (j11 : (s == [109, 118]) = false) (j12 : (s == [99, 46, 106, 97, 108]) = false) (j13 : (s == [99, 46, 106]) = false) (j14 : (s == [106]) = false) (j15 : (s == [99, 46, 98, 101, 113, 122]) = false) (j16 : (s == [98, 101, 113, 122]) = false) (j17 : (s == [99, 46, 98, 110, 101, 122]) = false) (j18 : (s == [98, 110, 101, 122]) = false) (j19 : (s == [99, 46, 106, 114]) = false) (j20 : (s == [106, 114]) = false) (j21 : (s == [99, 46, 106, 97, 108, 114]) = true) (w : World) : Calls Tryz.prog 45 #[.string (B s)] w (RetIns 4 1 w) := by
  go_enter Tryz.func45, Tryz.ntmps45
  go_wp2_with fail
  refine (op17_at [106, 97, 108, 114] 4 (by decide +kernel) _).mono ?_
  rintro e w2 ⟨rfl, hn2⟩
  obtain ⟨c0, c1, c2, c3, c4, f0, f1, f2, f3, f4, hz⟩ := five_cells hn2
  have H2 := Lib.hid (((Nx.refl w).alloc _).trans hn2)
  clear hn2
  go_wp2
  refine bodyPost_ret (v := .agg #[.int .i64 4, .int .i64 1, .int .i64 0, .int .i64 0, .int .i32 0]) (by simp [results, Tryz.results45, go_sem, c0, c1, c2, c3, c4, f0, f1, f2, f3, f4, hz]) rfl ⟨rfl, ?_⟩
  repeat (with_reducible first | exact H2.out | refine Nx.setCell ?_ (Nat.le_refl _) _ | refine Nx.alloc ?_ _)

set_option maxHeartbeats 4000000 in
theorem ins17_h9 (s : List UInt8) (j0 : (s == [99, 46, 97, 100, 100, 105, 52, 115, 112, 110]) = false) (j1 : (s == [99, 46, 110, 111, 112]) = false) (j2 : (s == [99, 46, 97, 100, 100, 105]) = false) (j3 : (s == [99, 46, 97, 100, 100, 105, 49, 54, 115, 112]) = false) (j4 : (s == [99, 46, 108, 105]) = false) (j5 : (s == [110, 111, 112]) = false) (j6 : (s == [99, 46, 108, 119]) = false) (j7 : (s == [99, 46, 108, 119, 115, 112]) = false) (j8 : (s == [99, 46, 115, 119]) = false) (j9 : (s == [99, 46, 115, 119, 115, 112]) = true) (w : World) : Calls Tryz.prog 45 #[.string (B s)] w (RetIns 18 0 w) := by
  go_enter Tryz.func45, Tryz.ntmps45
  go_wp2_with fail
  refine (op17_at [115, 119] 18 (by decide +kernel) _).mono ?_
  rintro e w2 ⟨rfl, hn2⟩
  obtain ⟨c0, c1, c2, c3, c4, f0, f1, f2, f3, f4, hz⟩ := five_cells hn2
  have H2 := Lib.hid (((Nx.refl w).alloc _).trans hn2)
  clear hn2
  go_wp2
  refine bodyPost_ret (v := .agg #[.int .i64 18, .int .i64 0, .int .i64 0, .int .i64 0, .int .i32 0]) (by simp [results, Tryz.results45, go_sem, c0, c1, c2, c3, c4, f0, f1, f2, f3, f4, hz]) rfl ⟨rfl, ?_⟩
  repeat (with_reducible first | exact H2.out | refine Nx.setCell ?_ (Nat.le_refl _) _ | refine Nx.alloc ?_ _)

set_option maxHeartbeats 4000000 in
theorem ins17_op0 (s : List UInt8) (k : Nat) (hk : 0 < k) (ho : opP s = k) (j0 : (s == [99, 46, 97, 100, 100, 105, 52, 115, 112, 110]) = false) (j1 : (s == [99, 46, 110, 111, 112]) = false) (j2 : (s == [99, 46, 97, 100, 100, 105]) = false) (j3 : (s == [99, 46, 97, 100, 100, 105, 49, 54, 115, 112]) = false) (j4 : (s == [99, 46, 108, 105]) = false) (j5 : (s == [110, 111, 112]) = false) (j6 : (s == [99, 46, 108, 119]) = false) (j7 : (s == [99, 46, 108, 119, 115, 112]) = false) (j8 : (s == [99, 46, 115, 119]) = false) (j9 : (s == [99, 46, 115, 119, 115, 112]) = false) (j10 : (s == [99, 46, 109, 118]) = false) (j11 : (s == [109, 118]) = false) (j12 : (s == [99, 46, 106, 97, 108]) = false) (j13 : (s == [99, 46, 106]) = false) (j14 : (s == [106]) = false) (j15 : (s == [99, 46, 98, 101, 113, 122]) = false) (j16 : (s == [98, 101, 113, 122]) = false) (j17 : (s == [99, 46, 98, 110, 101, 122]) = false) (j18 : (s == [98, 110, 101, 122]) = false) (j19 : (s == [99, 46, 106, 114]) = false) (j20 : (s == [106, 114]) = false) (j21 : (s == [99, 46, 106, 97, 108, 114]) = false) (j22 : (s == [114, 101, 116]) = false) (j23 : (s == [110, 111, 116]) = false) (j24 : (s == [110, 101, 103]) = false) (j25 : (s == [115, 101, 113, 122]) = false) (j26 : (s == [115, 110, 101, 122]) = false) (j27 : (s == [98, 103, 101, 122]) = false) (j28 : (s == [98, 108, 101, 122]) = false) (j29 : (s == [98, 108, 101]) = false) (j30 : (s == [98, 108, 116, 122]) = false) (j31 : (s == [98, 103, 116, 122]) = false) (j32 : (s == [98, 103, 116]) = false) (j33 : (s == [98, 103, 116, 117]) = false) (j34 : (s == [98, 108, 101, 117]) = false) (w : World) : Calls Tryz.prog 45 #[.string (B s)] w (RetIns k 0 w) := by
  have CO := Lib.hid (fun w => op17_at s k ho w)
  have dk : decide ((0 : Int) < k) = true := decide_eq_true (by omega)
  clear ho
  go_enter Tryz.func45, Tryz.ntmps45
  go_wp2_with fail
  refine (CO.out _).mono ?_
  rintro e w2 ⟨rfl, hn2⟩
  have H2 := Lib.hid hn2
  clear hn2
  go_wp2_with fail
  refine (CO.out _).mono ?_
  rintro e w3 ⟨rfl, hn3⟩
  obtain ⟨c0, c1, c2, c3, c4, f0, f1, f2, f3, f4, hz⟩ := five_cells (H2.out.trans hn3)
  have H3 := Lib.hid (((Nx.refl w).alloc _).trans (H2.out.trans hn3))
  clear hn3
  go_wp2
  refine bodyPost_ret (v := .agg #[.int .i64 k, .int .i64 0, .int .i64 0, .int .i64 0, .int .i32 0]) (by simp [results, Tryz.results45, go_sem, c0, c1, c2, c3, c4, f0, f1, f2, f3, f4, hz]) rfl ⟨rfl, ?_⟩
  repeat (with_reducible first | exact H3.out | refine Nx.setCell ?_ (Nat.le_refl _) _ | refine Nx.alloc ?_ _)

set_option maxHeartbeats 4000000 in
theorem ins17_sh0 (s t : List UInt8) (k : Nat) (hs : s.drop 2 = t) (hl : 2 ≤ s.length) (hl2 : s.length ≤ 100) (ho : opP s = 0) (ho2 : opP t = k) (j0 : (s == [99, 46, 97, 100, 100, 105, 52, 115, 112, 110]) = false) (j1 : (s == [99, 46, 110, 111, 112]) = false) (j2 : (s == [99, 46, 97, 100, 100, 105]) = false) (j3 : (s == [99, 46, 97, 100, 100, 105, 49, 54, 115, 112]) = false) (j4 : (s == [99, 46, 108, 105]) = false) (j5 : (s == [110, 111, 112]) = false) (j6 : (s == [99, 46, 108, 119]) = false) (j7 : (s == [99, 46, 108, 119, 115, 112]) = false) (j8 : (s == [99, 46, 115, 119]) = false) (j9 : (s == [99, 46, 115, 119, 115, 112]) = false) (j10 : (s == [99, 46, 109, 118]) = false) (j11 : (s == [109, 118]) = false) (j12 : (s == [99, 46, 106, 97, 108]) = false) (j13 : (s == [99, 46, 106]) = false) (j14 : (s == [106]) = false) (j15 : (s == [99, 46, 98, 101, 113, 122]) = false) (j16 : (s == [98, 101, 113, 122]) = false) (j17 : (s == [99, 46, 98, 110, 101, 122]) = false) (j18 : (s == [98, 110, 101, 122]) = false) (j19 : (s == [99, 46, 106, 114]) = false) (j20 : (s == [106, 114]) = false) (j21 : (s == [99, 46, 106, 97, 108, 114]) = false) (j22 : (s == [114, 101, 116]) = false) (j23 : (s == [110, 111, 116]) = false) (j24 : (s == [110, 101, 103]) = false) (j25 : (s == [115, 101, 113, 122]) = false) (j26 : (s == [115, 110, 101, 122]) = false) (j27 : (s == [98, 103, 101, 122]) = false) (j28 : (s == [98, 108, 101, 122]) = false) (j29 : (s == [98, 108, 101]) = false) (j30 : (s == [98, 108, 116, 122]) = false) (j31 : (s == [98, 103, 116, 122]) = false) (j32 : (s == [98, 103, 116]) = false) (j33 : (s == [98, 103, 116, 117]) = false) (j34 : (s == [98, 108, 101, 117]) = false) (w : World) : Calls Tryz.prog 45 #[.string (B s)] w (RetIns k 0 w) := by
  have CO := Lib.hid (fun w => op17_at s 0 ho w)
  have CP := Lib.hid (fun w => op17_at t k ho2 w)
  have HE := Lib.hid (show (B s).extract 2 s.length = B t by rw [ext_drop s 2 hl, hs])
  have hlI : (2 : Int) ≤ s.length := by omega
  clear ho ho2 hs
  go_enter Tryz.func45, Tryz.ntmps45
  go_wp2_with fail
  refine (CO.out _).mono ?_
  rintro e w2 ⟨rfl, hn2⟩
  have H2 := Lib.hid hn2
  clear hn2
  go_wp2_with fail
  rw [HE.out]
  refine (CP.out _).mono ?_
  rintro e w3 ⟨rfl, hn3⟩
  obtain ⟨c0, c1, c2, c3, c4, f0, f1, f2, f3, f4, hz⟩ := five_cells (H2.out.trans hn3)
  have H3 := Lib.hid (((Nx.refl w).alloc _).trans (H2.out.trans hn3))
  clear hn3
  go_wp2
  refine bodyPost_ret (v := .agg #[.int .i64 k, .int .i64 0, .int .i64 0, .int .i64 0, .int .i32 0]) (by simp [results, Tryz.results45, go_sem, c0, c1, c2, c3, c4, f0, f1, f2, f3, f4, hz]) rfl ⟨rfl, ?_⟩
  repeat (with_reducible first | exact H3.out | refine Nx.setCell ?_ (Nat.le_refl _) _ | refine Nx.alloc ?_ _)

theorem op_apart : ∀ a ∈ nmB, (a == [99, 46, 97, 100, 100, 105, 52, 115, 112, 110]) = false ∧ (a == [99, 46, 110, 111, 112]) = false ∧ (a == [99, 46, 97, 100, 100, 105]) = false ∧ (a == [99, 46, 97, 100, 100, 105, 49, 54, 115, 112]) = false ∧ (a == [99, 46, 108, 105]) = false ∧ (a == [110, 111, 112]) = false ∧ (a == [99, 46, 108, 119]) = false ∧ (a == [99, 46, 108, 119, 115, 112]) = false ∧ (a == [99, 46, 115, 119]) = false ∧ (a == [99, 46, 115, 119, 115, 112]) = false ∧ (a == [99, 46, 109, 118]) = false ∧ (a == [109, 118]) = false ∧ (a == [99, 46, 106, 97, 108]) = false ∧ (a == [99, 46, 106]) = false ∧ (a == [106]) = false ∧ (a == [99, 46, 98, 101, 113, 122]) = false ∧ (a == [98, 101, 113, 122]) = false ∧ (a == [99, 46, 98, 110, 101, 122]) = false ∧ (a == [98, 110, 101, 122]) = false ∧ (a == [99, 46, 106, 114]) = false ∧ (a == [106, 114]) = false ∧ (a == [99, 46, 106, 97, 108, 114]) = false ∧ (a == [114, 101, 116]) = false ∧ (a == [110, 111, 116]) = false ∧ (a == [110, 101, 103]) = false ∧ (a == [115, 101, 113, 122]) = false ∧ (a == [115, 110, 101, 122]) = false ∧ (a == [98, 103, 101, 122]) = false ∧ (a == [98, 108, 101, 122]) = false ∧ (a == [98, 108, 101]) = false ∧ (a == [98, 108, 116, 122]) = false ∧ (a == [98, 103, 116, 122]) = false ∧ (a == [98, 103, 116]) = false ∧ (a == [98, 103, 116, 117]) = false ∧ (a == [98, 108, 101, 117]) = false := by decide

theorem ins17_op (k : Nat) (s : List UInt8) (hk1 : 1 ≤ k) (hk2 : k ≤ 48) (hs : nmB.getD k [] = s) (w : World) : Calls Tryz.prog 45 #[.string (B s)] w (RetIns k 0 w) := by
  have ho := op_found s k hk1 hk2 hs
  have hm : s ∈ nmB := hs ▸ List.mem_of_getElem? (nmB_at k (by omega))
  obtain ⟨j0, j1, j2, j3, j4, j5, j6, j7, j8, j9, j10, j11, j12, j13, j14, j15, j16, j17, j18, j19, j20, j21, j22, j23, j24, j25, j26, j27, j28, j29, j30, j31, j32, j33, j34⟩ := op_apart s hm
  exact ins17_op0 s k (by omega) ho j0 j1 j2 j3 j4 j5 j6 j7 j8 j9 j10 j11 j12 j13 j14 j15 j16 j17 j18 j19 j20 j21 j22 j23 j24 j25 j26 j27 j28 j29 j30 j31 j32 j33 j34 w

/-- The operations of the shorts, and what they begin with. -/
def insOp : List (Nat × Int) := [(19, 0), (13, 0), (18, 0), (19, 0), (19, 0), (3, 1), (19, 0), (19, 0), (1, 0), (26, 0), (27, 0), (24, 0), (29, 0), (33, 0), (36, 0), (37, 0), (3, 0), (5, 0), (6, 0), (25, 0), (13, 0), (4, 0), (28, 0), (40, 0), (4, 1), (28, 0), (18, 0)]

theorem ins17_sh (m : Nat) (hm : m < 27) (w : World) : Calls Tryz.prog 45 #[.string (B (shB.getD m []))] w (RetIns (insOp.getD m (0, 0)).1 (insOp.getD m (0, 0)).2 w) := by
  have ho : ∀ m < 27, opP (shB.getD m []) = 0 := by decide +kernel
  have h := ho m hm
  rcases (by omega : m = 0 ∨ m = 1 ∨ m = 2 ∨ m = 3 ∨ m = 4 ∨ m = 5 ∨ m = 6 ∨ m = 7 ∨ m = 8 ∨ m = 9 ∨ m = 10 ∨ m = 11 ∨ m = 12 ∨ m = 13 ∨ m = 14 ∨ m = 15 ∨ m = 16 ∨ m = 17 ∨ m = 18 ∨ m = 19 ∨ m = 20 ∨ m = 21 ∨ m = 22 ∨ m = 23 ∨ m = 24 ∨ m = 25 ∨ m = 26) with rfl | rfl | rfl | rfl | rfl | rfl | rfl | rfl | rfl | rfl | rfl | rfl | rfl | rfl | rfl | rfl | rfl | rfl | rfl | rfl | rfl | rfl | rfl | rfl | rfl | rfl | rfl
  · exact ins17_h0 _ (by decide) w
  · exact ins17_h6 _ (by decide) (by decide) (by decide) (by decide) (by decide) (by decide) (by decide) w
  · exact ins17_h8 _ (by decide) (by decide) (by decide) (by decide) (by decide) (by decide) (by decide) (by decide) (by decide) w
  · exact ins17_h1 _ (by decide) (by decide) w
  · exact ins17_h2 _ (by decide) (by decide) (by decide) w
  · exact ins17_h12 _ (by decide) (by decide) (by decide) (by decide) (by decide) (by decide) (by decide) (by decide) (by decide) (by decide) (by decide) (by decide) (by decide) w
  · exact ins17_h4 _ (by decide) (by decide) (by decide) (by decide) (by decide) w
  · exact ins17_h3 _ (by decide) (by decide) (by decide) (by decide) w
  · exact ins17_sh0 _ _ _ rfl (by decide) (by decide) h (by decide +kernel) (by decide) (by decide) (by decide) (by decide) (by decide) (by decide) (by decide) (by decide) (by decide) (by decide) (by decide) (by decide) (by decide) (by decide) (by decide) (by decide) (by decide) (by decide) (by decide) (by decide) (by decide) (by decide) (by decide) (by decide) (by decide) (by decide) (by decide) (by decide) (by decide) (by decide) (by decide) (by decide) (by decide) (by decide) (by decide) w
  · exact ins17_sh0 _ _ _ rfl (by decide) (by decide) h (by decide +kernel) (by decide) (by decide) (by decide) (by decide) (by decide) (by decide) (by decide) (by decide) (by decide) (by decide) (by decide) (by decide) (by decide) (by decide) (by decide) (by decide) (by decide) (by decide) (by decide) (by decide) (by decide) (by decide) (by decide) (by decide) (by decide) (by decide) (by decide) (by decide) (by decide) (by decide) (by decide) (by decide) (by decide) (by decide) (by decide) w
  · exact ins17_sh0 _ _ _ rfl (by decide) (by decide) h (by decide +kernel) (by decide) (by decide) (by decide) (by decide) (by decide) (by decide) (by decide) (by decide) (by decide) (by decide) (by decide) (by decide) (by decide) (by decide) (by decide) (by decide) (by decide) (by decide) (by decide) (by decide) (by decide) (by decide) (by decide) (by decide) (by decide) (by decide) (by decide) (by decide) (by decide) (by decide) (by decide) (by decide) (by decide) (by decide) (by decide) w
  · exact ins17_sh0 _ _ _ rfl (by decide) (by decide) h (by decide +kernel) (by decide) (by decide) (by decide) (by decide) (by decide) (by decide) (by decide) (by decide) (by decide) (by decide) (by decide) (by decide) (by decide) (by decide) (by decide) (by decide) (by decide) (by decide) (by decide) (by decide) (by decide) (by decide) (by decide) (by decide) (by decide) (by decide) (by decide) (by decide) (by decide) (by decide) (by decide) (by decide) (by decide) (by decide) (by decide) w
  · exact ins17_sh0 _ _ _ rfl (by decide) (by decide) h (by decide +kernel) (by decide) (by decide) (by decide) (by decide) (by decide) (by decide) (by decide) (by decide) (by decide) (by decide) (by decide) (by decide) (by decide) (by decide) (by decide) (by decide) (by decide) (by decide) (by decide) (by decide) (by decide) (by decide) (by decide) (by decide) (by decide) (by decide) (by decide) (by decide) (by decide) (by decide) (by decide) (by decide) (by decide) (by decide) (by decide) w
  · exact ins17_sh0 _ _ _ rfl (by decide) (by decide) h (by decide +kernel) (by decide) (by decide) (by decide) (by decide) (by decide) (by decide) (by decide) (by decide) (by decide) (by decide) (by decide) (by decide) (by decide) (by decide) (by decide) (by decide) (by decide) (by decide) (by decide) (by decide) (by decide) (by decide) (by decide) (by decide) (by decide) (by decide) (by decide) (by decide) (by decide) (by decide) (by decide) (by decide) (by decide) (by decide) (by decide) w
  · exact ins17_sh0 _ _ _ rfl (by decide) (by decide) h (by decide +kernel) (by decide) (by decide) (by decide) (by decide) (by decide) (by decide) (by decide) (by decide) (by decide) (by decide) (by decide) (by decide) (by decide) (by decide) (by decide) (by decide) (by decide) (by decide) (by decide) (by decide) (by decide) (by decide) (by decide) (by decide) (by decide) (by decide) (by decide) (by decide) (by decide) (by decide) (by decide) (by decide) (by decide) (by decide) (by decide) w
  · exact ins17_sh0 _ _ _ rfl (by decide) (by decide) h (by decide +kernel) (by decide) (by decide) (by decide) (by decide) (by decide) (by decide) (by decide) (by decide) (by decide) (by decide) (by decide) (by decide) (by decide) (by decide) (by decide) (by decide) (by decide) (by decide) (by decide) (by decide) (by decide) (by decide) (by decide) (by decide) (by decide) (by decide) (by decide) (by decide) (by decide) (by decide) (by decide) (by decide) (by decide) (by decide) (by decide) w
  · exact ins17_h13 _ (by decide) (by decide) (by decide) (by decide) (by decide) (by decide) (by decide) (by decide) (by decide) (by decide) (by decide) (by decide) (by decide) (by decide) w
  · exact ins17_h15 _ (by decide) (by decide) (by decide) (by decide) (by decide) (by decide) (by decide) (by decide) (by decide) (by decide) (by decide) (by decide) (by decide) (by decide) (by decide) (by decide) w
  · exact ins17_h17 _ (by decide) (by decide) (by decide) (by decide) (by decide) (by decide) (by decide) (by decide) (by decide) (by decide) (by decide) (by decide) (by decide) (by decide) (by decide) (by decide) (by decide) (by decide) w
  · exact ins17_sh0 _ _ _ rfl (by decide) (by decide) h (by decide +kernel) (by decide) (by decide) (by decide) (by decide) (by decide) (by decide) (by decide) (by decide) (by decide) (by decide) (by decide) (by decide) (by decide) (by decide) (by decide) (by decide) (by decide) (by decide) (by decide) (by decide) (by decide) (by decide) (by decide) (by decide) (by decide) (by decide) (by decide) (by decide) (by decide) (by decide) (by decide) (by decide) (by decide) (by decide) (by decide) w
  · exact ins17_h7 _ (by decide) (by decide) (by decide) (by decide) (by decide) (by decide) (by decide) (by decide) w
  · exact ins17_h19 _ (by decide) (by decide) (by decide) (by decide) (by decide) (by decide) (by decide) (by decide) (by decide) (by decide) (by decide) (by decide) (by decide) (by decide) (by decide) (by decide) (by decide) (by decide) (by decide) (by decide) w
  · exact ins17_h10 _ (by decide) (by decide) (by decide) (by decide) (by decide) (by decide) (by decide) (by decide) (by decide) (by decide) (by decide) w
  · exact ins17_sh0 _ _ _ rfl (by decide) (by decide) h (by decide +kernel) (by decide) (by decide) (by decide) (by decide) (by decide) (by decide) (by decide) (by decide) (by decide) (by decide) (by decide) (by decide) (by decide) (by decide) (by decide) (by decide) (by decide) (by decide) (by decide) (by decide) (by decide) (by decide) (by decide) (by decide) (by decide) (by decide) (by decide) (by decide) (by decide) (by decide) (by decide) (by decide) (by decide) (by decide) (by decide) w
  · exact ins17_h21 _ (by decide) (by decide) (by decide) (by decide) (by decide) (by decide) (by decide) (by decide) (by decide) (by decide) (by decide) (by decide) (by decide) (by decide) (by decide) (by decide) (by decide) (by decide) (by decide) (by decide) (by decide) (by decide) w
  · exact ins17_sh0 _ _ _ rfl (by decide) (by decide) h (by decide +kernel) (by decide) (by decide) (by decide) (by decide) (by decide) (by decide) (by decide) (by decide) (by decide) (by decide) (by decide) (by decide) (by decide) (by decide) (by decide) (by decide) (by decide) (by decide) (by decide) (by decide) (by decide) (by decide) (by decide) (by decide) (by decide) (by decide) (by decide) (by decide) (by decide) (by decide) (by decide) (by decide) (by decide) (by decide) (by decide) w
  · exact ins17_h9 _ (by decide) (by decide) (by decide) (by decide) (by decide) (by decide) (by decide) (by decide) (by decide) (by decide) w

end Go.Proofs.YtdgmdkkockbkjaaGreatDoor

