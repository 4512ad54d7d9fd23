/- Parts of the proof, one behind the other. -/
import Derived.BigQuiet
import Derived.Test.YtndpgakjpokllaaGreatZtba
import Derived.Test.YtndpgakjpokllaaGreatZtbc
/- law07: states in memory. -/
namespace Go.Proofs.YtndpgakjpokllaaGreat
open Go.RowKit
set_option linter.unusedVariables false
set_option linter.unusedSimpArgs false
set_option maxRecDepth 100000

/-- A state's cells. -/
def StAt (w : World) (g : Nat) (rg : List Int) (pc : Int) (v : Value) : Prop := g < w.heap.size ∧ w.rangeAt g 0 (machC rg pc v).toList

theorem StAt.cell {w : World} {g : Nat} {rg : List Int} {pc : Int} {v : Value} (h : StAt w g rg pc v) (j : Nat) (x : Value) (hx : (machC rg pc v)[j]? = some x) : w.cell? ⟨g, j, none⟩ = some x := by
  have := h.2 j x (by rw [Array.getElem?_toList]; exact hx)
  rwa [Nat.zero_add] at this

theorem StAt.kept {w w' : World} {g : Nat} {rg : List Int} {pc : Int} {v : Value} (h : StAt w g rg pc v) (hb : w'.heap[g]? = w.heap[g]?) (hs : w.heap.size ≤ w'.heap.size) : StAt w' g rg pc v :=
  ⟨Nat.lt_of_lt_of_le h.1 hs, fun j x hx => (World.cell?_of_block (w := w) hb).trans (h.2 j x hx)⟩

theorem StAt.nx {w w' : World} {g : Nat} {rg : List Int} {pc : Int} {v : Value} (h : StAt w g rg pc v) (hn : Nx w w') : StAt w' g rg pc v := h.kept (Below.block hn g h.1) hn.size

theorem StAt.chg {w w' : World} {g p b : Nat} {rg : List Int} {pc : Int} {v : Value} (h : StAt w g rg pc v) (hc : Chg p b w w') (hp : g ≠ p) (hb : g ≠ b) : StAt w' g rg pc v := h.kept (hc.block g h.1 hp hb) hc.size

theorem machC_one (rg : List Int) (pc : Int) (v : Value) (hv : v.oneCell' = true) : (machC rg pc v).all (·.oneCell') = true := by
  refine all_oneCell_toArray fun x hx => ?_
  rcases List.mem_append.1 hx with hx | hx
  · obtain ⟨y, _, rfl⟩ := List.mem_map.1 hx
    rfl
  · simp at hx
    rcases hx with rfl | rfl
    · rfl
    · exact hv

/-- No byte lies in a machine's cells. -/
theorem machC_nobyte (rg : List Int) (pc : Int) (q : Option Addr) (j : Nat) (y : Int) : (machC rg pc (.pointer q))[j]? ≠ some (.int .u8 y) := fun hx => by
  have hm := Array.mem_of_getElem? hx
  unfold machC at hm
  rw [List.mem_toArray] at hm
  rcases List.mem_append.1 hm with hm | hm
  · obtain ⟨z, _, hz⟩ := List.mem_map.1 hm
    injection hz with h1 h2
    cases h1
  · simp at hm

/-- A list of cells is not the machine's. -/
theorem MachAt.cells_chg {w w' : World} {p pm b n : Nat} {s : MSt} (h : MachAt w p pm b n s) (hc : Chg p b w w') {v : Value} {L : List (Int × Int)} (hv : CellsAt w v L) : CellsAt w' v L := by
  rcases hv with hv | ⟨g, o, c, h1, h2, h3, h4⟩
  · exact .inl hv
  · refine .inr ⟨g, o, c, h1, h2, h3, fun k x hx => ?_⟩
    have hk := h4 k x hx
    have hg : g < w.heap.size := block_lt hk.1
    have hp : g ≠ p := fun e => by
      subst e
      have h5 := hk.2
      rw [cell_of_row _ _ _ _ _ _ h.has] at h5
      exact machC_nobyte _ _ _ _ _ h5
    have hb : g ≠ b := fun e => by
      subst e
      obtain ⟨D, ⟨es, clock, hb, _⟩, _⟩ := h.mem.2
      have h5 := hk.2
      simp [World.cell?, hb] at h5
    exact ⟨(World.cell?_of_block (w := w) (hc.block g hg hp hb)).trans hk.1, (World.cell?_of_block (w := w) (hc.block g hg hp hb)).trans hk.2⟩

/-- What is laid is a state. -/
theorem StAt.laid {w4 : World} {rg : List Int} {pc : Int} {v : Value} (h : rg.length = 32) (Z : Array Value) (hZ : Z.size = 34) : StAt ((w4.alloc (.cells Z 26)).setCells w4.heap.size 0 (machC rg pc v).toList) w4.heap.size rg pc v := by
  refine ⟨?_, World.rangeAt_setCells_same _ w4.heap.size 0 _ ?_⟩
  · have := (nx_setCells (a := w4) w4.heap.size (Nat.le_refl _) (machC rg pc v).toList 0 _ ((Nx.refl w4).alloc (.cells Z 26)))
    have h2 := World.rangeAt_setCells_same (w4.alloc (.cells Z 26)) w4.heap.size 0 (machC rg pc v).toList (by rw [Array.length_toList, machC_size h]; exact st_there w4 Z 26 hZ (Nx.refl _))
    exact block_lt (h2 32 (.int .u32 pc) (by rw [Array.getElem?_toList]; exact machC_pc h pc v))
  · rw [Array.length_toList, machC_size h]
    exact st_there w4 Z 26 hZ (Nx.refl _)

end Go.Proofs.YtndpgakjpokllaaGreat

/- law07: MachineLittle. -/
namespace Go.Proofs.YtndpgakjpokllaaGreat
open Go.RowKit
set_option linter.unusedVariables false
set_option linter.unusedSimpArgs false
set_option maxRecDepth 100000

/-- Behind what makes the machine. -/
def LitA (W : World) (n : Nat) (s : MSt) (mv : Value) (wx : World) : Prop := ∃ p pm b, mv = .pointer (some ⟨p, 0, none⟩) ∧ W.heap.size ≤ p ∧ W.heap.size ≤ b ∧ MachAt wx p pm b n s ∧ Nx W wx

/-- Behind a state that is laid. -/
def LitB (w0 : World) (s : MSt) (gv : Value) (wx : World) : Prop := ∃ g u L, gv = .pointer (some ⟨g, 0, none⟩) ∧ StAt wx g s.rg s.pc u ∧ CellsOf s.M L ∧ L.length ≤ 100000 ∧ CellsAt wx u L ∧ Nx w0 wx ∧ w0.heap.size ≤ g

set_option maxHeartbeats 8000000 in
theorem MachineLittle_walk (rg : List Int) (pc : Int) (v : Value) (L : List (Int × Int)) (hr : GoodR rg) (p0 : 0 ≤ pc) (p1 : pc < 4294967296) (hL : IsCells L) (w : World) (h : CellsAt w v L) :
    Calls Tryz.prog 4 #[.agg (machC rg pc v)] w fun e w' => e = .returned (.bool true) ∧ Nx w w' := by
  have hlen := hr.1
  obtain ⟨CS, hCS⟩ : ∃ x : List Value, rg.map (Value.int .u32) ++ [.int .u32 pc, v] = x := ⟨_, rfl⟩
  have hcs : machC rg pc v = CS.toArray := by rw [← hCS]; rfl
  have hcl : CS.length = 34 := by rw [← hCS]; simp [hlen]
  have i26 : (Tryz.prog.info? 26).map (·.size) = some CS.length := by rw [hcl]; exact st_info
  obtain ⟨W, hW⟩ : ∃ x, w.alloc (.cells (machC rg pc v) 26) = x := ⟨_, rfl⟩
  have hnW : Nx w W := by rw [← hW]; exact (Nx.refl w).alloc _
  have HW := Lib.hid hW
  have HNW := Lib.hid hnW
  have HA : Hid (Has W w.heap.size (.cells CS.toArray 26)) := Lib.hid (by rw [← hW, ← hcs]; exact Has.new _ _)
  have HB := Lib.hid (fun w' (hn : Nx W w') => st_box (w := w) (rg := rg) (pc := pc) (v := v) hlen (w' := w') (by rw [hW]; exact hn))
  have CA := Lib.hid awake_any
  obtain ⟨A, c, rfl, hlc, hcm, _⟩ := h.form
  obtain ⟨s, hs⟩ : ∃ x : MSt, ⟨rg.set 0 0, pc, memOf L⟩ = x := ⟨_, rfl⟩
  have hs0 : s.rg.getD 0 0 = 0 := by
    rw [← hs]
    match rg, hlen with
    | z :: l, _ => rfl
  have C1 := Lib.hid (fun (hn : L.length ≤ 300) w' (hw : Nx W w') => new_mach rg pc _ L hr p0 p1 hL (by omega) w' (h.nx (hnW.trans hw)))
  rw [hs, hcs] at C1
  rw [hcs] at HW ⊢
  have HS0 := Lib.hid hs0
  clear h hr hL hnW hW hs hcs hCS hcl hs0
  rcases Nat.lt_or_ge 300 L.length with hbig | hbig
  · have hbI : (300 : Int) < (L.length : Int) := by omega
    go_enter Tryz.func4, Tryz.ntmps4
    go_upto_region 1 with fail
    rw [HW.out]
    go_wp2_with (go_at_call 7; refine (CA.out _).mono ?_; rintro e w1 ⟨rfl, hn1⟩; have HN1 := Lib.hid hn1; have c33 := HB.out _ hn1; clear hn1)
    go_ret
    exact ⟨rfl, HNW.out.trans HN1.out⟩
  have hbI : (L.length : Int) ≤ 300 := by omega
  go_enter Tryz.func4, Tryz.ntmps4
  go_upto_region 1 with fail
  rw [HW.out]
  go_cut [13] from 12 to 13 (fun v wx => v = .bool false ∧ Nx W wx)
  case first =>
    go_wp2_with (go_at_call 7; refine (CA.out _).mono ?_; rintro e w1 ⟨rfl, hn1⟩; have HN1 := Lib.hid hn1; clear hn1)
    go_meet
    case rel => exact ⟨rfl, HN1.out⟩
  obtain ⟨rfl, hcut⟩ := hcut
  obtain ⟨w1, hw1⟩ : ∃ x, x = wc := ⟨_, rfl⟩
  subst hw1
  have HN1 := Lib.hid hcut
  have c33 := HB.out _ hcut
  clear hcut HB CA
  go_upto_region 5 with fail
  go_cut [3] from 18 to 19 (fun mv wx => LitA W L.length s mv wx)
  case first =>
    refine wp_region_lit ?_
    refine wpList_load_mid rfl _ _ rfl w.heap.size 0 rfl CS _ (range_all (HA.out.nx HN1.out)) Tryz.underlying26 rfl i26 ?_
    try simp only [Act.put, List.setIfInBounds_toArray, List.set_cons_zero, List.set_cons_succ]
    refine wpList_plain rfl fun K hK => ?_
    go_simp
    refine (C1.out hbig _ HN1.out).mono ?_
    rintro e w2 ⟨p, pm, b, rfl, hp, hb, hm, hn2⟩
    have HP := Lib.hid (Nat.le_trans HN1.out.size hp)
    have HBb := Lib.hid (Nat.le_trans HN1.out.size hb)
    have HM := Lib.hid hm
    have HN3 := Lib.hid (HN1.out.trans hn2)
    clear hp hb hm hn2
    refine hK _ _ ?_
    clear hK K
    try simp only [Act.put, List.setIfInBounds_toArray, List.set_cons_zero, List.set_cons_succ]
    refine wpList_plain rfl fun K hK => ?_
    go_simp
    refine hK _ _ ?_
    clear hK K
    try simp only [Act.put, List.setIfInBounds_toArray, List.set_cons_zero, List.set_cons_succ]
    refine wpList_nil ?_
    go_wp2_with fail
    go_meet
    case rel => exact ⟨p, pm, b, rfl, HP.out, HBb.out, HM.out, HN3.out⟩
  obtain ⟨p, pm, b, rfl, hp, hb, hm, hn3⟩ := hcut
  obtain ⟨w3, hw3⟩ : ∃ x, x = wc := ⟨_, rfl⟩
  subst hw3
  have HP := Lib.hid hp
  have HBb := Lib.hid hb
  have HM := Lib.hid hm
  have HN3 := Lib.hid hn3
  clear hp hb hm hn3 C1 HN1 HA c33
  go_upto_region 8 with fail
  have CT := Lib.hid (state_mach p pm b (L.length) s (by omega) w3 HM.out)
  have hlS := HM.out.len
  go_cut [4] from 22 to 23 (fun gv wx => LitB w3 s gv wx)
  case first =>
    refine wp_region_lit ?_
    refine wpList_plain rfl fun K hK => ?_
    go_simp
    refine hK _ _ ?_
    clear hK K
    try simp only [Act.put, List.setIfInBounds_toArray, List.set_cons_zero, List.set_cons_succ]
    refine wpList_plain rfl fun K hK => ?_
    go_simp
    refine CT.out.mono ?_
    rintro e wt ⟨u, Lu, rfl, hLu, hlu, hu, hnt⟩
    obtain ⟨A', c', rfl, _⟩ := hu.form
    have HLu := Lib.hid hLu
    have HU := Lib.hid hu
    have HNt := Lib.hid hnt
    clear hLu hu hnt
    refine hK _ _ ?_
    clear hK K
    try simp only [Act.put, List.setIfInBounds_toArray, List.set_cons_zero, List.set_cons_succ]
    refine wpList_plain rfl fun K hK => ?_
    go_simp
    refine hK _ _ ?_
    clear hK K
    try simp only [Act.put, List.setIfInBounds_toArray, List.set_cons_zero, List.set_cons_succ]
    refine wpList_store_mid (cells := machC s.rg s.pc (.slice A' Lu.length c')) rfl _ _ _ rfl wt.heap.size 0 rfl rfl (by rw [machC_size hlS]; exact st_there wt _ 26 rfl (Nx.refl _)) (by rw [machC_size hlS]; exact st_info) (machC_one _ _ _ rfl) ?_
    try simp only [Act.put, List.setIfInBounds_toArray, List.set_cons_zero, List.set_cons_succ]
    refine wpList_nil ?_
    go_wp2_with fail
    go_meet
    case rel => exact ⟨wt.heap.size, _, Lu, rfl, StAt.laid hlS _ rfl, HLu.out, hlu, cells_far (HU.out.nx ((Nx.refl _).alloc _)) _ (fun j y => st_nobyte wt (Nx.refl _) j y) _ _, HNt.out.trans (nx_setCells _ (Nat.le_refl _) _ _ _ ((Nx.refl wt).alloc _)), HNt.out.size⟩
  obtain ⟨ga, ua, La, rfl, hsa, hLa, hla, hua, hn4, hga⟩ := hcut
  obtain ⟨w4, hw4⟩ : ∃ x, x = wc := ⟨_, rfl⟩
  subst hw4
  have hRA := hlS
  have HSA := Lib.hid hsa
  have HLA := Lib.hid hLa
  have HUA := Lib.hid hua
  have HM4 := Lib.hid (HM.out.nx hn4)
  have HN4 := Lib.hid (HN3.out.trans hn4)
  have hgp : ga ≠ p := by have := HM.out.has.lt; omega
  have hgb : ga ≠ b := by have := HM.out.mem.2.lt; omega
  clear hsa hLa hua hn4 hga HM HN3
  have CS := Lib.hid (step_any p pm b L.length s (by omega) w4 HM4.out)
  obtain ⟨O, hO⟩ : ∃ x, stepO s.M s.pc = x := ⟨_, rfl⟩
  obtain ⟨S2, hS2⟩ : ∃ x, stepP s = x := ⟨_, rfl⟩
  have HO := Lib.hid hO
  have HS2 := Lib.hid hS2
  rw [hO, hS2] at CS
  clear hO hS2
  go_upto_region 9 with fail
  go_cut [5] from 24 to 25 (fun ov wx => ov = .int .i64 O ∧ MachAt wx p pm b (L.length + 4) S2 ∧ StAt wx ga s.rg s.pc ua ∧ CellsAt wx ua La ∧ Nx W wx)
  case first =>
    go_wp2_with (go_at_call 14; refine CS.out.mono ?_; rintro e w5 ⟨rfl, hm5, hc5⟩; have HM5 := Lib.hid hm5; have HC5 := Lib.hid hc5; clear hm5 hc5)
    go_meet
    case rel => exact ⟨rfl, HM5.out, HSA.out.chg HC5.out hgp hgb, HM4.out.cells_chg HC5.out HUA.out, Chg.nx HC5.out HN4.out HP.out HBb.out⟩
  obtain ⟨rfl, hm5, hs5, hu5, hn5⟩ := hcut
  obtain ⟨w5, hw5⟩ : ∃ x, x = wc := ⟨_, rfl⟩
  subst hw5
  have HM := Lib.hid hm5
  have HSA5 := Lib.hid hs5
  have HUA5 := Lib.hid hu5
  have HN5 := Lib.hid hn5
  clear hm5 hs5 hu5 hn5 CS HM4 HN4 HSA HUA
  go_upto_region 10 with fail
  have CT := Lib.hid (state_mach p pm b (L.length + 4) S2 (by omega) w5 HM.out)
  have hlS := HM.out.len
  go_cut [6] from 26 to 27 (fun gv wx => LitB w5 S2 gv wx)
  case first =>
    refine wp_region_lit ?_
    refine wpList_plain rfl fun K hK => ?_
    go_simp
    refine hK _ _ ?_
    clear hK K
    try simp only [Act.put, List.setIfInBounds_toArray, List.set_cons_zero, List.set_cons_succ]
    refine wpList_plain rfl fun K hK => ?_
    go_simp
    refine CT.out.mono ?_
    rintro e wt ⟨u, Lu, rfl, hLu, hlu, hu, hnt⟩
    obtain ⟨A', c', rfl, _⟩ := hu.form
    have HLu := Lib.hid hLu
    have HU := Lib.hid hu
    have HNt := Lib.hid hnt
    clear hLu hu hnt
    refine hK _ _ ?_
    clear hK K
    try simp only [Act.put, List.setIfInBounds_toArray, List.set_cons_zero, List.set_cons_succ]
    refine wpList_plain rfl fun K hK => ?_
    go_simp
    refine hK _ _ ?_
    clear hK K
    try simp only [Act.put, List.setIfInBounds_toArray, List.set_cons_zero, List.set_cons_succ]
    refine wpList_store_mid (cells := machC S2.rg S2.pc (.slice A' Lu.length c')) rfl _ _ _ rfl wt.heap.size 0 rfl rfl (by rw [machC_size hlS]; exact st_there wt _ 26 rfl (Nx.refl _)) (by rw [machC_size hlS]; exact st_info) (machC_one _ _ _ rfl) ?_
    try simp only [Act.put, List.setIfInBounds_toArray, List.set_cons_zero, List.set_cons_succ]
    refine wpList_nil ?_
    go_wp2_with fail
    go_meet
    case rel => exact ⟨wt.heap.size, _, Lu, rfl, StAt.laid hlS _ rfl, HLu.out, hlu, cells_far (HU.out.nx ((Nx.refl _).alloc _)) _ (fun j y => st_nobyte wt (Nx.refl _) j y) _ _, HNt.out.trans (nx_setCells _ (Nat.le_refl _) _ _ _ ((Nx.refl wt).alloc _)), HNt.out.size⟩
  obtain ⟨gb, ub, Lb, rfl, hsb, hLb, hlb, hub, hn6, hgb6⟩ := hcut
  obtain ⟨w6, hw6⟩ : ∃ x, x = wc := ⟨_, rfl⟩
  subst hw6
  have HSA := Lib.hid (HSA5.out.nx hn6)
  have HUA := Lib.hid (HUA5.out.nx hn6)
  have HSB := Lib.hid hsb
  have HLB := Lib.hid hLb
  have HUB := Lib.hid hub
  have HN6 := Lib.hid (HN5.out.trans hn6)
  have hRB : S2.rg.length = 32 := HM.out.len
  clear hsb hLb hub hn6 hgb6 HM HN5 HSA5 HUA5 hgp hgb
  have hRB2 := hRB
  obtain ⟨RA, hRAe⟩ : ∃ x, s.rg = x := ⟨_, rfl⟩
  obtain ⟨RB, hRBe⟩ : ∃ x, S2.rg = x := ⟨_, rfl⟩
  obtain ⟨PA, hPA⟩ : ∃ x, s.pc = x := ⟨_, rfl⟩
  obtain ⟨PB, hPB⟩ : ∃ x, S2.pc = x := ⟨_, rfl⟩
  have HFIN : Hid ((O ≠ 0 → cntR RA RB 32 = 0 ∧ (dk La Lb).length = 0 ∧ PA = PB) ∧ (O = 0 → cntR RA RB 32 ≤ 1 ∧ (dk La Lb).length ≤ 4 ∧ (cntR RA RB 32 = 0 ∨ (dk La Lb).length = 0) ∧ RB.getD 0 0 = 0)) := Lib.hid (by
    have h1 := HLA.out
    have h2 := HLB.out
    rw [← HS2.out] at h2
    rw [← hRAe, ← hRBe, ← hPA, ← hPB, ← HS2.out, ← HO.out]
    refine ⟨fun hne => ?_, fun h0 => ?_⟩
    · rw [stepP_trap hne] at h2 ⊢
      exact ⟨cntR_self _ _, dk_same h1 h2, rfl⟩
    · obtain ⟨q1, q2, q3⟩ := stepP_little h0 La Lb h1 h2
      exact ⟨q1, q2, q3, stepP_zero HS0.out⟩)
  rw [hRAe, hPA] at HSA
  rw [hRBe, hPB] at HSB
  rw [hRAe] at hRA
  rw [hRBe] at hRB
  clear hRAe hRBe hPA hPB hRB2 HS2 HO HS0 HLA HLB
  go_upto_region 13 with fail
  go_loopw [7, 8] (fun cv iv wr => ∃ i : Nat, i ≤ 32 ∧ cv = .int .i64 (cntR RA RB i : Nat) ∧ iv = .int .i64 i ∧ Nx w6 wr) (fun _ iv _ => 32 - (RowKit.intOf iv).toNat)
  case atStart => exact ⟨0, Nat.zero_le _, rfl, rfl, Nx.refl _⟩
  case round =>
    obtain ⟨i, hi, rfl, rfl, hnx⟩ := hrel
    have HNX := Lib.hid hnx
    clear hnx
    by_cases hlt : i < 32
    · have hilI : (i : Int) < 32 := by omega
      have ca := (HSA.out.nx HNX.out).cell i _ (machC_reg hRA PA ua i hlt)
      have cb := (HSB.out.nx HNX.out).cell i _ (machC_reg hRB PB ub i hlt)
      have za := (HSA.out.nx HNX.out).1
      have zb := (HSB.out.nx HNX.out).1
      have hcn : (cntR RA RB i : Int) ≤ 32 := by have := cntR_le RA RB i; omega
      have hstep : cntR RA RB (i + 1) = cntR RA RB i + if RA.getD i 0 = RB.getD i 0 then 0 else 1 := rfl
      obtain ⟨x, hx⟩ : ∃ x, RA.getD i 0 = x := ⟨_, rfl⟩
      obtain ⟨y, hy⟩ : ∃ x, RB.getD i 0 = x := ⟨_, rfl⟩
      obtain ⟨N, hN⟩ : ∃ x, cntR RA RB i = x := ⟨_, rfl⟩
      obtain ⟨N', hN'⟩ : ∃ x, cntR RA RB (i + 1) = x := ⟨_, rfl⟩
      rw [hx] at ca hstep
      rw [hy] at cb hstep
      rw [hN] at hcn hstep
      rw [hN'] at hstep
      rw [hN]
      have HN' := Lib.hid hN'
      clear hx hy hN hN' hi
      by_cases hxy : x = y
      · subst hxy
        rw [if_pos rfl, Nat.add_zero] at hstep
        subst hstep
        have hb : (x != x) = false := by simp
        go_wp2_with fail
        go_quiet (fail)
        go_wp2_with fail
        go_roundw
        case rel => exact ⟨i + 1, hlt, by rw [HN'.out], by go_num, HNX.out.drewN _⟩
        case measure => simp [RowKit.intOf]; omega
      · rw [if_neg hxy] at hstep
        have HST := Lib.hid hstep
        have hb : (x != y) = true := by rw [bne_iff_ne]; exact hxy
        clear hstep hxy
        go_wp2_with fail
        go_quiet (fail)
        go_wp2_with fail
        go_roundw
        case rel => exact ⟨i + 1, hlt, by rw [HN'.out, HST.out]; go_num, by go_num, HNX.out.drewN _⟩
        case measure => simp [RowKit.intOf]; omega
    · obtain rfl : i = 32 := by omega
      obtain ⟨w7, hw7⟩ : ∃ x, x = wr := ⟨_, rfl⟩
      subst hw7
      have HSA7 := Lib.hid (HSA.out.nx HNX.out)
      have HSB7 := Lib.hid (HSB.out.nx HNX.out)
      have HUA7 := Lib.hid (HUA.out.nx HNX.out)
      have HUB7 := Lib.hid (HUB.out.nx HNX.out)
      have HN7 := Lib.hid (HN6.out.trans HNX.out)
      clear HSA HSB HUA HUB HN6 HNX hi hlt
      obtain ⟨R, hR⟩ : ∃ x, cntR RA RB 32 = x := ⟨_, rfl⟩
      rw [hR] at HFIN ⊢
      clear hR
      obtain ⟨Aa, ca, rfl, hla1, hla2, hca⟩ := HUA7.out.form
      obtain ⟨Ab, cb, rfl, hlb1, hlb2, hcb⟩ := HUB7.out.form
      have HCA := Lib.hid hca
      have HCB := Lib.hid hcb
      clear hca hcb HUA7 HUB7
      obtain ⟨T, hT⟩ : ∃ x, (dk La Lb).length = x := ⟨_, rfl⟩
      have hTle : T ≤ La.length + Lb.length := by rw [← hT]; exact dk_le _ La Lb (Nat.le_refl _)
      have HT := Lib.hid hT
      rw [hT] at HFIN
      clear hT
      go_upto_region 19 with fail
      go_loopw [9, 10, 11] (fun nv iv kv wr => ∃ (n i k : Nat), i ≤ La.length ∧ k ≤ Lb.length ∧ nv = .int .i64 n ∧ iv = .int .i64 i ∧ kv = .int .i64 k ∧ n ≤ i + k ∧ Hid (n + (dk (La.drop i) (Lb.drop k)).length = T) ∧ Nx w7 wr) (fun _ iv kv _ => (La.length - (RowKit.intOf iv).toNat) + (Lb.length - (RowKit.intOf kv).toNat))
      case atStart => exact ⟨0, 0, 0, Nat.zero_le _, Nat.zero_le _, rfl, rfl, rfl, Nat.zero_le _, Lib.hid (by rw [← HT.out]; simp), Nx.refl _⟩
      case round =>
        obtain ⟨n, i, k, hi, hk, rfl, rfl, rfl, hnn, hD, hnx⟩ := hrel
        have HNX := Lib.hid hnx
        have cA := (HSA7.out.nx hnx).cell 33 _ (machC_ptr hRA PA _)
        have cB := (HSB7.out.nx hnx).cell 33 _ (machC_ptr hRB PB _)
        have zA := (HSA7.out.nx hnx).1
        have zB := (HSB7.out.nx hnx).1
        clear hnx
        have hnI : (n : Int) ≤ 200000 := by omega
        by_cases hil : i < La.length
        · have hiI : (i : Int) < (La.length : Int) := by omega
          obtain ⟨⟨x1, x2⟩, hx⟩ : ∃ x, La[i]? = some x := ⟨_, List.getElem?_eq_getElem hil⟩
          obtain ⟨g1, o1, rfl, a1, a2⟩ := HCA.out i _ hx
          dsimp only at a1 a2
          have a1 := HNX.out.cell a1
          have a2 := HNX.out.cell a2
          have z1 := block_lt a1
          by_cases hkl : k < Lb.length
          · have hkI : (k : Int) < (Lb.length : Int) := by omega
            obtain ⟨⟨y1, y2⟩, hy⟩ : ∃ x, Lb[k]? = some x := ⟨_, List.getElem?_eq_getElem hkl⟩
            obtain ⟨g2, o2, rfl, b1, b2⟩ := HCB.out k _ hy
            dsimp only at b1 b2
            have b1 := HNX.out.cell b1
            have b2 := HNX.out.cell b2
            have z2 := block_lt b1
            have hkb : ((k : Int) == (Lb.length : Int)) = false := by rw [beq_eq_false_iff_ne]; omega
            rcases Int.lt_trichotomy x1 y1 with hxy | hxy | hxy
            · have HD := Lib.hid (show n + 1 + (dk (La.drop (i + 1)) (Lb.drop k)).length = T by have := dk_lt hx hy hxy; have := hD.out; omega)
              have e1 : (x1 == y1) = false := by rw [beq_eq_false_iff_ne]; omega
              have e2 : decide (x1 < y1) = true := decide_eq_true hxy
              clear hD hx hy hxy
              go_wp2_with fail
              all_goals go_quiet (fail)
              all_goals go_wp2_with fail
              repeat (go_quiet (fail); go_wp2_with fail)
              go_roundw
              case rel => first | exact ⟨n + 1, i + 1, k, hil, hk, by go_num, by go_num, by first | rfl | go_num, by omega, HD, (by repeat (first | exact HNX.out | refine Nx.drewN ?_ _))⟩ | ((repeat apply Exists.intro); exact ⟨⟨n + 1, i + 1, k, hil, hk, by go_num, by go_num, by first | rfl | go_num, by omega, HD, (by repeat (first | exact HNX.out | refine Nx.drewN ?_ _))⟩, rfl⟩)
              case measure => simp [RowKit.intOf]; omega
            · subst hxy
              have e1 : (x1 == x1) = true := by simp
              by_cases hb : x2 = y2
              · have HD := Lib.hid (show n + (dk (La.drop (i + 1)) (Lb.drop (k + 1))).length = T by have := dk_eq hx hy rfl; rw [if_pos hb] at this; have := hD.out; omega)
                subst hb
                have e2 : (x2 != x2) = false := by simp
                clear hD hx hy
                go_wp2_with fail
                all_goals go_quiet (fail)
                all_goals go_wp2_with fail
                repeat (go_quiet (fail); go_wp2_with fail)
                go_roundw
                case rel => first | exact ⟨n, i + 1, k + 1, hil, hkl, by first | rfl | go_num, by go_num, by go_num, by omega, HD, (by repeat (first | exact HNX.out | refine Nx.drewN ?_ _))⟩ | ((repeat apply Exists.intro); exact ⟨⟨n, i + 1, k + 1, hil, hkl, by first | rfl | go_num, by go_num, by go_num, by omega, HD, (by repeat (first | exact HNX.out | refine Nx.drewN ?_ _))⟩, rfl⟩)
                case measure => simp [RowKit.intOf]; omega
              · have HD := Lib.hid (show n + 1 + (dk (La.drop (i + 1)) (Lb.drop (k + 1))).length = T by have := dk_eq hx hy rfl; rw [if_neg hb] at this; have := hD.out; omega)
                have e2 : (x2 != y2) = true := by rw [bne_iff_ne]; exact hb
                clear hD hx hy hb
                go_wp2_with fail
                all_goals go_quiet (fail)
                all_goals go_wp2_with fail
                repeat (go_quiet (fail); go_wp2_with fail)
                go_roundw
                case rel => first | exact ⟨n + 1, i + 1, k + 1, hil, hkl, by go_num, by go_num, by go_num, by omega, HD, (by repeat (first | exact HNX.out | refine Nx.drewN ?_ _))⟩ | ((repeat apply Exists.intro); exact ⟨⟨n + 1, i + 1, k + 1, hil, hkl, by go_num, by go_num, by go_num, by omega, HD, (by repeat (first | exact HNX.out | refine Nx.drewN ?_ _))⟩, rfl⟩)
                case measure => simp [RowKit.intOf]; omega
            · have HD := Lib.hid (show n + 1 + (dk (La.drop i) (Lb.drop (k + 1))).length = T by have := dk_gt hx hy hxy; have := hD.out; omega)
              have e1 : (x1 == y1) = false := by rw [beq_eq_false_iff_ne]; omega
              have e2 : decide (x1 < y1) = false := decide_eq_false (by omega)
              clear hD hx hy hxy
              go_wp2_with fail
              all_goals go_quiet (fail)
              all_goals go_wp2_with fail
              repeat (go_quiet (fail); go_wp2_with fail)
              go_roundw
              case rel => first | exact ⟨n + 1, i, k + 1, hi, hkl, by go_num, by first | rfl | go_num, by go_num, by omega, HD, (by repeat (first | exact HNX.out | refine Nx.drewN ?_ _))⟩ | ((repeat apply Exists.intro); exact ⟨⟨n + 1, i, k + 1, hi, hkl, by go_num, by first | rfl | go_num, by go_num, by omega, HD, (by repeat (first | exact HNX.out | refine Nx.drewN ?_ _))⟩, rfl⟩)
              case measure => simp [RowKit.intOf]; omega
          · obtain rfl : k = Lb.length := by omega
            have HD := Lib.hid (show n + 1 + (dk (La.drop (i + 1)) (Lb.drop Lb.length)).length = T by have := dk_left (B := Lb) hx (Nat.le_refl _); have := hD.out; omega)
            clear hD hx hkl
            go_wp2_with fail
            all_goals go_quiet (fail)
            all_goals go_wp2_with fail
            repeat (go_quiet (fail); go_wp2_with fail)
            go_roundw
            case rel => first | exact ⟨n + 1, i + 1, Lb.length, hil, Nat.le_refl _, by go_num, by go_num, by first | rfl | go_num, by omega, HD, (by repeat (first | exact HNX.out | refine Nx.drewN ?_ _))⟩ | ((repeat apply Exists.intro); exact ⟨⟨n + 1, i + 1, Lb.length, hil, Nat.le_refl _, by go_num, by go_num, by first | rfl | go_num, by omega, HD, (by repeat (first | exact HNX.out | refine Nx.drewN ?_ _))⟩, rfl⟩)
            case measure => simp [RowKit.intOf]; omega
        · obtain rfl : i = La.length := by omega
          by_cases hkl : k < Lb.length
          · have hkI : (k : Int) < (Lb.length : Int) := by omega
            have hkb : ((k : Int) == (Lb.length : Int)) = false := by rw [beq_eq_false_iff_ne]; omega
            obtain ⟨⟨y1, y2⟩, hy⟩ : ∃ x, Lb[k]? = some x := ⟨_, List.getElem?_eq_getElem hkl⟩
            have HD := Lib.hid (show n + 1 + (dk (La.drop La.length) (Lb.drop (k + 1))).length = T by have := dk_right (A := La) hy (Nat.le_refl _); have := hD.out; omega)
            clear hD hy hil
            go_wp2_with fail
            all_goals go_quiet (fail)
            all_goals go_wp2_with fail
            repeat (go_quiet (fail); go_wp2_with fail)
            go_roundw
            case rel => first | exact ⟨n + 1, La.length, k + 1, Nat.le_refl _, hkl, by go_num, by first | rfl | go_num, by go_num, by omega, HD, (by repeat (first | exact HNX.out | refine Nx.drewN ?_ _))⟩ | ((repeat apply Exists.intro); exact ⟨⟨n + 1, La.length, k + 1, Nat.le_refl _, hkl, by go_num, by first | rfl | go_num, by go_num, by omega, HD, (by repeat (first | exact HNX.out | refine Nx.drewN ?_ _))⟩, rfl⟩)
            case measure => simp [RowKit.intOf]; omega
          · obtain rfl : k = Lb.length := by omega
            have hnT : n = T := by have := dk_end (A := La) (B := Lb) (Nat.le_refl _) (Nat.le_refl _); have := hD.out; omega
            subst hnT
            have cpa := (HSA7.out.nx HNX.out).cell 32 _ (machC_pc hRA PA _)
            have cpb := (HSB7.out.nx HNX.out).cell 32 _ (machC_pc hRB PB _)
            have cz := (HSB7.out.nx HNX.out).cell 0 _ (machC_reg hRB PB _ 0 (by omega))
            clear hD hil hkl
            by_cases ho : O = 0
            · obtain ⟨q1, q2, q3, q4⟩ := HFIN.out.2 ho
              rw [q4] at cz
              have hob : (O != 0) = false := by rw [ho]; rfl
              have q1I : (R : Int) ≤ 1 := by omega
              have q2I : (n : Int) ≤ 4 := by omega
              clear HFIN ho q1 q2 q4
              rcases q3 with rfl | rfl
              · go_wp2_with fail
                all_goals
                  go_ret
                  exact ⟨rfl, HNW.out.trans (HN7.out.trans HNX.out)⟩
              · go_wp2_with fail
                all_goals
                  go_ret
                  exact ⟨rfl, HNW.out.trans (HN7.out.trans HNX.out)⟩
            · obtain ⟨q1, q2, q3⟩ := HFIN.out.1 ho
              subst q1
              subst q2
              subst q3
              have hob : (O != 0) = true := by rw [bne_iff_ne]; exact ho
              clear HFIN ho
              go_wp2_with fail
              go_ret
              exact ⟨rfl, HNW.out.trans (HN7.out.trans HNX.out)⟩

end Go.Proofs.YtndpgakjpokllaaGreat

