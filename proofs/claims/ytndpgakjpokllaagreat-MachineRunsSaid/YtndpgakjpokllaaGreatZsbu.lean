/- Parts of the proof, one behind the other. -/
import Derived.Test.YtndpgakjpokllaaGreatZsbp
import Derived.Test.YtndpgakjpokllaaGreatZsbs
/- law07: MachineRuns. -/
namespace Go.Proofs.YtndpgakjpokllaaGreat
open Go.RowKit
set_option linter.unusedVariables false
set_option linter.unusedSimpArgs false
set_option maxRecDepth 100000

set_option maxHeartbeats 8000000 in
theorem MachineRuns_go (rg : List Int) (pc : Int) (v : Value) (L : List (Int × Int)) (most : Int) (K0 : Nat) (r : Nat × Int × MSt) (hr : GoodR rg) (p0 : 0 ≤ pc) (p1 : pc < 4294967296) (hL : IsCells L) (m0 : -9223372036854775808 ≤ most) (m1 : most ≤ 9223372036854775807)
    (hK0 : K0 = (max most 0).toNat) (hrr : runP K0 ⟨rg.set 0 0, pc, memOf L⟩ = r) (w : World) (h : CellsAt w v L) :
    Calls Tryz.prog 5 #[.agg (machC rg pc v), .int .i64 most] w fun e w' => e = .returned (.bool true) ∧ Nx w w' := by
  have hlen := hr.1
  obtain ⟨CS, hCS⟩ : ∃ x : List Value, rg.map (Value.int .u32) ++ [.int .u32 pc, v] = x := ⟨_, rfl⟩
  have hcs : machC rg pc v = CS.toArray := by rw [← hCS]; rfl
  have hcl : CS.length = 34 := by rw [← hCS]; simp [hlen]
  have i26 : (Tryz.prog.info? 26).map (·.size) = some CS.length := by rw [hcl]; exact st_info
  obtain ⟨W, hW⟩ : ∃ x, w.alloc (.cells (machC rg pc v) 26) = x := ⟨_, rfl⟩
  have hnW : Nx w W := by rw [← hW]; exact (Nx.refl w).alloc _
  have HW := Lib.hid hW
  have HNW := Lib.hid hnW
  have HA : Hid (Has W w.heap.size (.cells CS.toArray 26)) := Lib.hid (by rw [← hW, ← hcs]; exact Has.new _ _)
  have HB := Lib.hid (fun w' (hn : Nx W w') => st_box (w := w) (rg := rg) (pc := pc) (v := v) hlen (w' := w') (by rw [hW]; exact hn))
  have CA := Lib.hid awake_any
  obtain ⟨A, c, rfl, hlc, hcm, _⟩ := h.form
  obtain ⟨s, hs⟩ : ∃ x : MSt, ⟨rg.set 0 0, pc, memOf L⟩ = x := ⟨_, rfl⟩
  have C1 := Lib.hid (fun (hn : L.length ≤ 300) w' (hw : Nx W w') => new_mach rg pc _ L hr p0 p1 hL (by omega) w' (h.nx (hnW.trans hw)))
  have C2 := Lib.hid (fun (hn : L.length ≤ 300) w' (hw : Nx W w') => new_sev rg pc _ L hr p0 p1 hL (by omega) w' (h.nx (hnW.trans hw)))
  rw [hs] at hrr
  rw [hs, hcs] at C1 C2
  rw [hcs] at HW ⊢
  have HRR := Lib.hid hrr
  have HK := Lib.hid hK0
  clear h hr hL hnW hW hs hcs hCS hcl hrr hK0
  rcases Nat.lt_or_ge 300 L.length with hbig | hbig
  · have hbI : (300 : Int) < (L.length : Int) := by omega
    go_enter Tryz.func5, Tryz.ntmps5
    go_upto_region 1 with fail
    rw [HW.out]
    go_wp2_with (go_at_call 7; refine (CA.out _).mono ?_; rintro e w1 ⟨rfl, hn1⟩; have HN1 := Lib.hid hn1; have c33 := HB.out _ hn1; clear hn1)
    go_ret
    exact ⟨rfl, HNW.out.trans HN1.out⟩
  have hbI : (L.length : Int) ≤ 300 := by omega
  rcases Int.lt_or_le 200 most with hmost | hmost
  · go_enter Tryz.func5, Tryz.ntmps5
    go_upto_region 1 with fail
    rw [HW.out]
    go_wp2_with (go_at_call 7; refine (CA.out _).mono ?_; rintro e w1 ⟨rfl, hn1⟩; have HN1 := Lib.hid hn1; have c33 := HB.out _ hn1; clear hn1)
    go_ret
    exact ⟨rfl, HNW.out.trans HN1.out⟩
  have hK2 : K0 ≤ 200 := by have := HK.out; omega
  go_enter Tryz.func5, Tryz.ntmps5
  go_upto_region 1 with fail
  rw [HW.out]
  go_cut [12] from 11 to 12 (fun v wx => v = .bool false ∧ Nx W wx)
  case first =>
    go_wp2_with (go_at_call 7; refine (CA.out _).mono ?_; rintro e w1 ⟨rfl, hn1⟩; have HN1 := Lib.hid hn1; clear hn1)
    go_meet
    case rel => exact ⟨rfl, HN1.out⟩
  obtain ⟨rfl, hcut⟩ := hcut
  obtain ⟨w1, hw1⟩ : ∃ x, x = wc := ⟨_, rfl⟩
  subst hw1
  have HN1 := Lib.hid hcut
  have c33 := HB.out _ hcut
  clear hcut HB CA
  go_upto_region 5 with fail
  go_cut [5, 6] from 21 to 24 (fun mv rv wx => Both W mv rv L.length s wx)
  case first =>
    refine wp_region_held_drew (S := fun w' => Has w' w.heap.size (.cells CS.toArray 26) ∧ Nx W w') (by kernel_rfl) ⟨(HA.out.nx HN1.out).nx ((Nx.refl _).drew), HN1.out.drew⟩ (fun hHeld => ?_)
    refine wpAnyH_take (i := 0) (oi := { dst := some 21, op := Op.load 26 (Operand.tmp 2), type := 26, pos := "law.go:55", after := #[], guard := none }) (v := .agg CS.toArray) rfl (by kernel_rfl) (by kernel_rfl) (by kernel_rfl) (fun _ _ _ h => h) (yieldsIf_load_mid (by rfl) _ _ rfl w.heap.size 0 rfl CS _ (fun w hSw => range_all hSw.1) Tryz.underlying26 rfl i26) (by assumption) ?_
    try simp only [Act.put, List.setIfInBounds_toArray, List.set_cons_zero, List.set_cons_succ]
    refine wpAnyH_take (i := 2) (oi := { dst := some 23, op := Op.load 26 (Operand.tmp 2), type := 26, pos := "law.go:55", after := #[], guard := none }) (v := .agg CS.toArray) rfl (by kernel_rfl) (by kernel_rfl) (by kernel_rfl) (fun _ _ _ h => h) (yieldsIf_load_mid (by rfl) _ _ rfl w.heap.size 0 rfl CS _ (fun w hSw => range_all hSw.1) Tryz.underlying26 rfl i26) (by assumption) ?_
    try simp only [Act.put, List.setIfInBounds_toArray, List.set_cons_zero, List.set_cons_succ]
    have HN2 := Lib.hid hHeld.2
    clear hHeld
    refine wpAnyH_ready (rs := [1]) (by kernel_rfl) (by simp) ?_
    refine AllReadyH.cons (o := { dst := some 22, op := Op.call { callee := Callee.value (Operand.func 8), args := #[Operand.tmp 21], argTypes := #[26] }, type := 28, pos := "law.go:55", after := #[{ on := 0, ground := Ground.data }], guard := none }) rfl (fun K hK => ?_) AllReadyH.nil
    go_simp
    refine (C1.out hbig _ HN2.out).mono ?_
    rintro e w2 ⟨p, pm, b, rfl, hp, hb, hm, hn2⟩
    have HP := Lib.hid (Nat.le_trans HN2.out.size hp)
    have HBb := Lib.hid (Nat.le_trans HN2.out.size hb)
    have HM := Lib.hid hm
    have HN3 := Lib.hid (HN2.out.trans hn2)
    clear hp hb hm hn2
    refine hK.out _ _ ⟨HA.out.nx HN3.out, HN3.out⟩ (fun hHeld => ?_)
    clear hK K
    try simp only [Act.put, List.setIfInBounds_toArray, List.set_cons_zero, List.set_cons_succ]
    refine wpAnyH_ready (rs := [3]) (by kernel_rfl) (by simp) ?_
    refine AllReadyH.cons (o := { dst := some 24, op := Op.call { callee := Callee.value (Operand.func 9), args := #[Operand.tmp 23], argTypes := #[26] }, type := 30, pos := "law.go:55", after := #[{ on := 2, ground := Ground.data }, { on := 1, ground := Ground.chain }], guard := none }) rfl (fun K hK => ?_) AllReadyH.nil
    go_simp
    refine (C2.out hbig _ HN3.out).mono ?_
    rintro e w3 ⟨base, q, qm, rfl, hbq, hm, hn2⟩
    have HBQ := Lib.hid hbq
    have HR7 := Lib.hid hm
    have HM3 := Lib.hid (HM.out.nx hn2)
    have HN5 := Lib.hid (HN3.out.trans hn2)
    clear hbq hm hn2 hHeld
    refine hK.out _ _ ⟨HA.out.nx HN5.out, HN5.out⟩ (fun hHeld => ?_)
    clear hK K
    try simp only [Act.put, List.setIfInBounds_toArray, List.set_cons_zero, List.set_cons_succ]
    refine wpAnyH_take (i := 4) (oi := { dst := some 5, op := Op.assign (Operand.tmp 22), type := 28, pos := "law.go:55", after := #[{ on := 1, ground := Ground.data }, { on := 3, ground := Ground.chain }, { on := 0, ground := Ground.phase }, { on := 1, ground := Ground.phase }, { on := 2, ground := Ground.textOnly Departure.lateStores }, { on := 3, ground := Ground.textOnly Departure.lateStoresUnsure }], guard := none }) (v := ?v4) rfl (by kernel_rfl) (by kernel_rfl) (by kernel_rfl) (fun _ _ _ h => h) (Or.inl ⟨by rfl, ?y4⟩) (by assumption) ?z4
    case y4 => intro w hSw; go_simp; all_goals with_reducible rfl
    try simp only [Act.put, List.setIfInBounds_toArray, List.set_cons_zero, List.set_cons_succ]
    refine wpAnyH_take (i := 5) (oi := { dst := some 6, op := Op.assign (Operand.tmp 24), type := 30, pos := "law.go:55", after := #[{ on := 3, ground := Ground.data }, { on := 4, ground := Ground.chain }, { on := 0, ground := Ground.phase }, { on := 1, ground := Ground.phase }, { on := 2, ground := Ground.phase }, { on := 3, ground := Ground.phase }, { on := 4, ground := Ground.phase }], guard := none }) (v := ?v5) rfl (by kernel_rfl) (by kernel_rfl) (by kernel_rfl) (fun _ _ _ h => h) (Or.inl ⟨by rfl, ?y5⟩) (by assumption) ?z5
    case y5 => intro w hSw; go_simp; all_goals with_reducible rfl
    try simp only [Act.put, List.setIfInBounds_toArray, List.set_cons_zero, List.set_cons_succ]
    clear hHeld
    refine wpAnyH_done (by kernel_rfl) ?_ _
    go_wp2_with fail
    go_meet
    case rel => exact ⟨p, pm, b, base, q, qm, rfl, rfl, HP.out, HBb.out, Nat.lt_of_lt_of_le HM.out.has.lt HBQ.out, Nat.lt_of_lt_of_le HM.out.pm_lt HBQ.out, Nat.lt_of_lt_of_le HM.out.mem.2.lt HBQ.out, HM3.out, HR7.out, HN5.out⟩
  obtain ⟨p, pm, b, base, q, qm, rfl, rfl, hp, hb, hpb, hpmb, hbb, hm, hr7, hn3⟩ := hcut
  obtain ⟨w3, hw3⟩ : ∃ x, x = wc := ⟨_, rfl⟩
  subst hw3
  have HP := Lib.hid hp
  have HBb := Lib.hid hb
  have HPB := Lib.hid (And.intro hpb (And.intro hpmb hbb))
  have HM := Lib.hid hm
  have HR7 := Lib.hid hr7
  have HN3 := Lib.hid hn3
  clear hp hb hpb hpmb hbb hm hr7 hn3 C1 C2 HN1 HA c33
  have CR := Lib.hid (run_mach p pm b L.length K0 most s HK.out hmost (by omega) w3 HM.out)
  unfold RetRun at CR
  rw [HRR.out] at CR
  go_upto_region 8 with fail
  go_cut [7, 8] from 27 to 32 (fun nv ov wx => nv = .int .i64 (r.1 : Nat) ∧ ov = .int .i64 r.2.1 ∧ MachAt wx p pm b (L.length + 4 * K0) r.2.2 ∧ Ref7At wx base q qm L.length s ∧ Nx W wx)
  case first =>
    go_wp2_with (go_at_call 16; refine CR.out.mono ?_; rintro e w4 ⟨rfl, hm4, hc4⟩; have HM4 := Lib.hid hm4; have HC4 := Lib.hid hc4; clear hm4 hc4)
    go_meet
    case rel => exact ⟨rfl, rfl, HM4.out, HR7.out.chg HC4.out HPB.out.1 HPB.out.2.2, Chg.nx HC4.out HN3.out HP.out HBb.out⟩
  obtain ⟨rfl, rfl, hm4, hr4, hn4⟩ := hcut
  obtain ⟨w4, hw4⟩ : ∃ x, x = wc := ⟨_, rfl⟩
  subst hw4
  have HM4 := Lib.hid hm4
  have HR4 := Lib.hid hr4
  have HN4 := Lib.hid hn4
  clear hm4 hr4 hn4 CR
  have CR := Lib.hid (run_sev base q qm L.length K0 most s HK.out hmost (by omega) w4 HR4.out)
  unfold RetRun7 at CR
  rw [HRR.out] at CR
  go_upto_region 9 with fail
  go_cut [9, 10] from 33 to 38 (fun nv ov wx => nv = .int .i64 (r.1 : Nat) ∧ ov = .int .i64 r.2.1 ∧ MachAt wx p pm b (L.length + 4 * K0) r.2.2 ∧ Ref7At wx base q qm (L.length + 4 * K0) r.2.2 ∧ Nx W wx)
  case first =>
    go_wp2_with (go_at_call 17; refine CR.out.mono ?_; rintro e w5 ⟨rfl, hm5, hc5⟩; have HM5 := Lib.hid hm5; have HC5 := Lib.hid hc5; clear hm5 hc5)
    go_meet
    case rel => exact ⟨rfl, rfl, HM4.out.below HC5.out HPB.out.1 HPB.out.2.1 HPB.out.2.2, HM5.out, Below.trans HN4.out (Below.mono HC5.out (Nat.le_trans HP.out (Nat.le_of_lt HPB.out.1)))⟩
  obtain ⟨rfl, rfl, hm5, hr5, hn5⟩ := hcut
  obtain ⟨w5, hw5⟩ : ∃ x, x = wc := ⟨_, rfl⟩
  subst hw5
  have HM5 := Lib.hid hm5
  have HR5 := Lib.hid hr5
  have HN5 := Lib.hid hn5
  clear hm5 hr5 hn5 CR HM HR7 HM4 HR4 HN4 HN3
  obtain ⟨S2, hS2⟩ : ∃ x, r.2.2 = x := ⟨_, rfl⟩
  have CT := Lib.hid (state_mach p pm b (L.length + 4 * K0) r.2.2 (by omega) w5 HM5.out)
  rw [hS2] at HR5 CT
  clear hS2 HM5
  go_wp2_with (first
    | (go_at_call 11; refine CT.out.mono ?_; rintro e w6 ⟨u, L2, rfl, hL2, hl2, hu, hn6⟩; have CM := Lib.hid (same_sev base q qm (L.length + 4 * K0) S2 u L2 (by omega) hL2 hl2 w6 (HR5.out.nx hn6) hu); have HN6 := Lib.hid hn6; clear hL2 hl2 hu hn6)
    | (go_at_call 10; refine CM.out.mono ?_; rintro e w7 ⟨rfl, hn7⟩; have HN7 := Lib.hid hn7; clear hn7))
  go_ret
  exact ⟨rfl, HNW.out.trans (HN5.out.trans (HN6.out.trans HN7.out))⟩

theorem MachineRuns_walk (rg : List Int) (pc : Int) (v : Value) (L : List (Int × Int)) (most : Int) (hr : GoodR rg) (p0 : 0 ≤ pc) (p1 : pc < 4294967296) (hL : IsCells L) (m0 : -9223372036854775808 ≤ most) (m1 : most ≤ 9223372036854775807) (w : World) (h : CellsAt w v L) :
    Calls Tryz.prog 5 #[.agg (machC rg pc v), .int .i64 most] w fun e w' => e = .returned (.bool true) ∧ Nx w w' :=
  MachineRuns_go rg pc v L most _ _ hr p0 p1 hL m0 m1 rfl rfl w h

end Go.Proofs.YtndpgakjpokllaaGreat

