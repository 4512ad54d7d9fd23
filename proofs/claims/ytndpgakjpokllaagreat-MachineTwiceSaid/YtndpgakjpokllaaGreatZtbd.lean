/- Parts of the proof, one behind the other. -/
import Derived.Test.YtndpgakjpokllaaGreatZtaz
import Derived.Test.YtndpgakjpokllaaGreatZtba
/- law07: MachineTwice. -/
namespace Go.Proofs.YtndpgakjpokllaaGreat
open Go.RowKit
set_option linter.unusedVariables false
set_option linter.unusedSimpArgs false
set_option maxRecDepth 100000

theorem MachAt.pm_far {w : World} {p pm b n : Nat} {s : MSt} {p2 pm2 b2 n2 : Nat} {s2 : MSt} (h : MachAt w p pm b n s) (k : MachAt w p2 pm2 b2 n2 s2) : pm2 ≠ p ∧ pm2 ≠ b := by
  have hc := k.mem.1
  refine ⟨?_, ?_⟩
  · rintro rfl
    rw [h.reg 0 (by omega)] at hc
    injection hc with hc
    cases hc
  · rintro rfl
    obtain ⟨D, ⟨es, clock, hb, _⟩, _⟩ := h.mem.2
    simp [World.cell?, hb] at hc

/-- Two machines beside each other. -/
def Twin (W : World) (mv kv : Value) (n n2 : Nat) (s s2 : MSt) (wx : World) : Prop :=
  ∃ p pm b p2 pm2 b2, mv = .pointer (some ⟨p, 0, none⟩) ∧ kv = .pointer (some ⟨p2, 0, none⟩) ∧ (W.heap.size ≤ p ∧ W.heap.size ≤ b ∧ W.heap.size ≤ p2 ∧ W.heap.size ≤ b2) ∧
    ((p ≠ p2 ∧ p ≠ b2 ∧ b ≠ p2 ∧ b ≠ b2) ∧ pm ≠ p2 ∧ pm ≠ b2 ∧ pm2 ≠ p ∧ pm2 ≠ b) ∧ MachAt wx p pm b n s ∧ MachAt wx p2 pm2 b2 n2 s2 ∧ Nx W wx

/-- A machine made of a machine's state is that machine. -/
theorem again_sev (S : MSt) (hS : Good S) (h0 : S.rg.getD 0 0 = 0) (u : Value) (L : List (Int × Int)) (hL : CellsOf S.M L) (hn : L.length ≤ 100000) (w : World) (h : CellsAt w u L) :
    Calls Tryz.prog 9 #[.agg (machC S.rg S.pc u)] w (RetNew7 L.length S w) := by
  have := new_sev S.rg S.pc u L hS.1 hS.2.1 hS.2.2.1 (hL.cells hS.2.2.2) hn w h
  rw [set_zero hS.1.1 h0, hL.memOf] at this
  exact this

set_option maxHeartbeats 8000000 in
theorem MachineTwice_go (rg : List Int) (pc : Int) (v : Value) (L : List (Int × Int)) (x0 y0 : Int) (X Y : Nat) (hr : GoodR rg) (p0 : 0 ≤ pc) (p1 : pc < 4294967296) (hL : IsCells L) (hx0 : 0 ≤ x0) (hx1 : x0 ≤ 255) (hy0 : 0 ≤ y0) (hy1 : y0 ≤ 255)
    (hX : x0 % 50 = (X : Int)) (hY : y0 % 50 = (Y : Int)) (hX50 : X < 50) (hY50 : Y < 50) (w : World) (h : CellsAt w v L) :
    Calls Tryz.prog 6 #[.agg (machC rg pc v), .int .u8 x0, .int .u8 y0] w fun e w' => e = .returned (.bool true) ∧ Nx w w' := by
  have hlen := hr.1
  obtain ⟨CS, hCS⟩ : ∃ x : List Value, rg.map (Value.int .u32) ++ [.int .u32 pc, v] = x := ⟨_, rfl⟩
  have hcs : machC rg pc v = CS.toArray := by rw [← hCS]; rfl
  have hcl : CS.length = 34 := by rw [← hCS]; simp [hlen]
  have i26 : (Tryz.prog.info? 26).map (·.size) = some CS.length := by rw [hcl]; exact st_info
  obtain ⟨W, hW⟩ : ∃ x, w.alloc (.cells (machC rg pc v) 26) = x := ⟨_, rfl⟩
  have hnW : Nx w W := by rw [← hW]; exact (Nx.refl w).alloc _
  have HW := Lib.hid hW
  have HNW := Lib.hid hnW
  have HA : Hid (Has W w.heap.size (.cells CS.toArray 26)) := Lib.hid (by rw [← hW, ← hcs]; exact Has.new _ _)
  have HB := Lib.hid (fun w' (hn : Nx W w') => st_box (w := w) (rg := rg) (pc := pc) (v := v) hlen (w' := w') (by rw [hW]; exact hn))
  have CA := Lib.hid awake_any
  obtain ⟨A, c, rfl, hlc, hcm, _⟩ := h.form
  obtain ⟨s, hs⟩ : ∃ x : MSt, ⟨rg.set 0 0, pc, memOf L⟩ = x := ⟨_, rfl⟩
  have hs0 : s.rg.getD 0 0 = 0 := by
    rw [← hs]
    match rg, hlen with
    | z :: l, _ => rfl
  have C1 := Lib.hid (fun (hn : L.length ≤ 300) w' (hw : Nx W w') => new_mach rg pc _ L hr p0 p1 hL (by omega) w' (h.nx (hnW.trans hw)))
  rw [hs, hcs] at C1
  rw [hcs] at HW ⊢
  have HS0 := Lib.hid hs0
  have HX := Lib.hid hX
  have HY := Lib.hid hY
  clear h hr hL hnW hW hs hcs hCS hcl hs0 hX hY
  rcases Nat.lt_or_ge 300 L.length with hbig | hbig
  · have hbI : (300 : Int) < (L.length : Int) := by omega
    go_enter Tryz.func6, Tryz.ntmps6
    go_upto_region 1 with fail
    rw [HW.out]
    go_wp2_with (go_at_call 7; refine (CA.out _).mono ?_; rintro e w1 ⟨rfl, hn1⟩; have HN1 := Lib.hid hn1; have c33 := HB.out _ hn1; clear hn1)
    go_ret
    exact ⟨rfl, HNW.out.trans HN1.out⟩
  have hbI : (L.length : Int) ≤ 300 := by omega
  go_enter Tryz.func6, Tryz.ntmps6
  go_upto_region 1 with fail
  rw [HW.out]
  go_cut [19] from 18 to 19 (fun v wx => v = .bool false ∧ Nx W wx)
  case first =>
    go_wp2_with (go_at_call 7; refine (CA.out _).mono ?_; rintro e w1 ⟨rfl, hn1⟩; have HN1 := Lib.hid hn1; clear hn1)
    go_meet
    case rel => exact ⟨rfl, HN1.out⟩
  obtain ⟨rfl, hcut⟩ := hcut
  obtain ⟨w1, hw1⟩ : ∃ x, x = wc := ⟨_, rfl⟩
  subst hw1
  have HN1 := Lib.hid hcut
  have c33 := HB.out _ hcut
  clear hcut HB CA
  go_upto_region 5 with fail
  go_cut [7, 8] from 24 to 29 (fun xv yv wx => xv = .int .i64 (X : Int) ∧ yv = .int .i64 (Y : Int) ∧ wx = w1)
  case first =>
    go_wp2_with fail
    go_meet
    case rel => exact ⟨by rw [HX.out], by rw [HY.out], rfl⟩
  obtain ⟨rfl, rfl, hcw⟩ := hcut
  obtain ⟨w1b, hw1b⟩ : ∃ x, x = wc := ⟨_, rfl⟩
  subst hw1b
  subst hcw
  go_upto_region 6 with fail
  go_cut [9, 10] from 30 to 33 (fun mv kv wx => Twin W mv kv L.length L.length s s wx)
  case first =>
    refine wp_region_held_drew (S := fun w' => Has w' w.heap.size (.cells CS.toArray 26) ∧ Nx W w') (by kernel_rfl) ⟨(HA.out.nx HN1.out).nx ((Nx.refl _).drew), HN1.out.drew⟩ (fun hHeld => ?_)
    refine wpAnyH_take (i := 0) (oi := { dst := some 30, op := Op.load 26 (Operand.tmp 3), type := 26, pos := "outright.go:18", after := #[], guard := none }) (v := .agg CS.toArray) rfl (by kernel_rfl) (by kernel_rfl) (by kernel_rfl) (fun _ _ _ h => h) (yieldsIf_load_mid (by rfl) _ _ rfl w.heap.size 0 rfl CS _ (fun w hSw => range_all hSw.1) Tryz.underlying26 rfl i26) (by assumption) ?_
    try simp only [Act.put, List.setIfInBounds_toArray, List.set_cons_zero, List.set_cons_succ]
    refine wpAnyH_take (i := 2) (oi := { dst := some 32, op := Op.load 26 (Operand.tmp 3), type := 26, pos := "outright.go:18", after := #[], guard := none }) (v := .agg CS.toArray) rfl (by kernel_rfl) (by kernel_rfl) (by kernel_rfl) (fun _ _ _ h => h) (yieldsIf_load_mid (by rfl) _ _ rfl w.heap.size 0 rfl CS _ (fun w hSw => range_all hSw.1) Tryz.underlying26 rfl i26) (by assumption) ?_
    try simp only [Act.put, List.setIfInBounds_toArray, List.set_cons_zero, List.set_cons_succ]
    have HN2 := Lib.hid hHeld.2
    clear hHeld
    refine wpAnyH_ready (rs := [1]) (by kernel_rfl) (by simp) ?_
    refine AllReadyH.cons (o := { dst := some 31, op := Op.call { callee := Callee.value (Operand.func 8), args := #[Operand.tmp 30], argTypes := #[26] }, type := 28, pos := "outright.go:18", after := #[{ on := 0, ground := Ground.data }], guard := none }) rfl (fun K hK => ?_) AllReadyH.nil
    go_simp
    refine (C1.out hbig _ HN2.out).mono ?_
    rintro e w2 ⟨p, pm, b, rfl, hp, hb, hm, hn2⟩
    have HP := Lib.hid (Nat.le_trans HN2.out.size hp)
    have HBb := Lib.hid (Nat.le_trans HN2.out.size hb)
    have HM := Lib.hid hm
    have HN3 := Lib.hid (HN2.out.trans hn2)
    clear hp hb hm hn2
    refine hK.out _ _ ⟨HA.out.nx HN3.out, HN3.out⟩ (fun hHeld => ?_)
    clear hK K
    try simp only [Act.put, List.setIfInBounds_toArray, List.set_cons_zero, List.set_cons_succ]
    refine wpAnyH_ready (rs := [3]) (by kernel_rfl) (by simp) ?_
    refine AllReadyH.cons (o := { dst := some 33, op := Op.call { callee := Callee.value (Operand.func 8), args := #[Operand.tmp 32], argTypes := #[26] }, type := 28, pos := "outright.go:18", after := #[{ on := 2, ground := Ground.data }, { on := 1, ground := Ground.chain }], guard := none }) rfl (fun K hK => ?_) AllReadyH.nil
    go_simp
    refine (C1.out hbig _ HN3.out).mono ?_
    rintro e w3 ⟨p2, pm2, b2, rfl, hp2, hb2, hm, hn2⟩
    have HP2 := Lib.hid hp2
    have HB2 := Lib.hid hb2
    have HK := Lib.hid hm
    have HM3 := Lib.hid (HM.out.nx hn2)
    have HN5 := Lib.hid (HN3.out.trans hn2)
    clear hp2 hb2 hm hn2 hHeld
    refine hK.out _ _ ⟨HA.out.nx HN5.out, HN5.out⟩ (fun hHeld => ?_)
    clear hK K
    try simp only [Act.put, List.setIfInBounds_toArray, List.set_cons_zero, List.set_cons_succ]
    refine wpAnyH_take (i := 4) (oi := { dst := some 9, op := Op.assign (Operand.tmp 31), type := 28, pos := "outright.go:18", after := #[{ on := 1, ground := Ground.data }, { on := 3, ground := Ground.chain }, { on := 0, ground := Ground.phase }, { on := 1, ground := Ground.phase }, { on := 2, ground := Ground.textOnly Departure.lateStores }, { on := 3, ground := Ground.textOnly Departure.lateStoresUnsure }], guard := none }) (v := ?v4) rfl (by kernel_rfl) (by kernel_rfl) (by kernel_rfl) (fun _ _ _ h => h) (Or.inl ⟨by rfl, ?y4⟩) (by assumption) ?z4
    case y4 => intro w hSw; go_simp; all_goals with_reducible rfl
    try simp only [Act.put, List.setIfInBounds_toArray, List.set_cons_zero, List.set_cons_succ]
    refine wpAnyH_take (i := 5) (oi := { dst := some 10, op := Op.assign (Operand.tmp 33), type := 28, pos := "outright.go:18", after := #[{ on := 3, ground := Ground.data }, { on := 4, ground := Ground.chain }, { on := 0, ground := Ground.phase }, { on := 1, ground := Ground.phase }, { on := 2, ground := Ground.phase }, { on := 3, ground := Ground.phase }, { on := 4, ground := Ground.phase }], guard := none }) (v := ?v5) rfl (by kernel_rfl) (by kernel_rfl) (by kernel_rfl) (fun _ _ _ h => h) (Or.inl ⟨by rfl, ?y5⟩) (by assumption) ?z5
    case y5 => intro w hSw; go_simp; all_goals with_reducible rfl
    try simp only [Act.put, List.setIfInBounds_toArray, List.set_cons_zero, List.set_cons_succ]
    clear hHeld
    refine wpAnyH_done (by kernel_rfl) ?_ _
    go_wp2_with fail
    go_meet
    case rel =>
      have q1 := HP.out
      have q2 := HBb.out
      have q3 := HP2.out
      have q4 := HB2.out
      have q5 := HM.out.has.lt
      have q6 := HM.out.pm_lt
      have q7 := HM.out.mem.2.lt
      have q8 := HN3.out.size
      exact ⟨p, pm, b, p2, pm2, b2, rfl, rfl, ⟨by omega, by omega, by omega, by omega⟩, ⟨⟨by omega, by omega, by omega, by omega⟩, by omega, by omega, (HM3.out.pm_far HK.out).1, (HM3.out.pm_far HK.out).2⟩, HM3.out, HK.out, HN5.out⟩
  obtain ⟨p, pm, b, p2, pm2, b2, rfl, rfl, hlow, hne, hm, hk, hn3⟩ := hcut
  obtain ⟨w3, hw3⟩ : ∃ x, x = wc := ⟨_, rfl⟩
  subst hw3
  have HLOW := Lib.hid hlow
  have HNE := Lib.hid hne
  have HM := Lib.hid hm
  have HKM := Lib.hid hk
  have HN3 := Lib.hid hn3
  clear hlow hne hm hk hn3 C1 HN1 HA c33
  obtain ⟨r1, hr1⟩ : ∃ x, runP X s = x := ⟨_, rfl⟩
  have CR := Lib.hid (run_mach p pm b L.length X (X : Int) s (by omega) (by omega) (by omega) w3 HM.out)
  unfold RetRun at CR
  rw [hr1] at CR
  have HR1 := Lib.hid hr1
  clear hr1
  go_upto_region 9 with fail
  go_cut [11, 12] from 40 to 45 (fun nv ov wx => nv = .int .i64 (r1.1 : Nat) ∧ ov = .int .i64 r1.2.1 ∧ MachAt wx p pm b (L.length + 4 * X) r1.2.2 ∧ MachAt wx p2 pm2 b2 L.length s ∧ Nx W wx)
  case first =>
    go_wp2_with (go_at_call 16; refine CR.out.mono ?_; rintro e w4 ⟨rfl, hm4, hc4⟩; have HM4 := Lib.hid hm4; have HC4 := Lib.hid hc4; clear hm4 hc4)
    go_meet
    case rel => exact ⟨rfl, rfl, HM4.out, HKM.out.chg HC4.out (fun e => HNE.out.1.1 e.symm) (fun e => HNE.out.1.2.2.1 e.symm) HNE.out.2.2.2.1 HNE.out.2.2.2.2 (fun e => HNE.out.1.2.1 e.symm) (fun e => HNE.out.1.2.2.2 e.symm), Chg.nx HC4.out HN3.out HLOW.out.1 HLOW.out.2.1⟩
  obtain ⟨rfl, rfl, hm4, hk4, hn4⟩ := hcut
  obtain ⟨w4, hw4⟩ : ∃ x, x = wc := ⟨_, rfl⟩
  subst hw4
  have HM4 := Lib.hid hm4
  have HK4 := Lib.hid hk4
  have HN4 := Lib.hid hn4
  clear hm4 hk4 hn4 CR HM HKM HN3
  have CK := Lib.hid (run_mach p2 pm2 b2 L.length (X + Y) ((X : Int) + (Y : Int)) s (by omega) (by omega) (by omega) w4 HK4.out)
  unfold RetRun at CK
  by_cases ho : r1.2.1 = 0
  · obtain ⟨hw1, hw2⟩ := runP_went X s (by rw [HR1.out]; exact ho)
    rw [HR1.out] at hw1
    have hw3 := hw2 Y
    rw [HR1.out] at hw3
    obtain ⟨r2, hr2⟩ : ∃ x, runP Y r1.2.2 = x := ⟨_, rfl⟩
    rw [hr2] at hw3
    have HR2 := Lib.hid hr2
    have HE := Lib.hid hw3
    have hz : r2.2.2.rg.getD 0 0 = 0 := by
      rw [← hr2, ← HR1.out]
      exact runP_zero Y _ (runP_zero X s HS0.out)
    have HZ := Lib.hid hz
    clear CK hw2 hw3 hr2 hz
    rw [ho, hw1]
    go_upto_region 13 with fail
    have CR := Lib.hid (run_mach p pm b (L.length + 4 * X) Y (Y : Int) r1.2.2 (by omega) (by omega) (by omega) w4 HM4.out)
    unfold RetRun at CR
    rw [HR2.out] at CR
    go_cut [15, 12] from 72 to 77 (fun nv ov wx => nv = .int .i64 (r2.1 : Nat) ∧ ov = .int .i64 r2.2.1 ∧ MachAt wx p pm b (L.length + 4 * X + 4 * Y) r2.2.2 ∧ MachAt wx p2 pm2 b2 L.length s ∧ Nx W wx)
    case first =>
      go_wp2_with (go_at_call 16; refine CR.out.mono ?_; rintro e w5 ⟨rfl, hm5, hc5⟩; have HM5 := Lib.hid hm5; have HC5 := Lib.hid hc5; clear hm5 hc5)
      go_meet
      case rel => exact ⟨rfl, rfl, HM5.out, HK4.out.chg HC5.out (fun e => HNE.out.1.1 e.symm) (fun e => HNE.out.1.2.2.1 e.symm) HNE.out.2.2.2.1 HNE.out.2.2.2.2 (fun e => HNE.out.1.2.1 e.symm) (fun e => HNE.out.1.2.2.2 e.symm), Chg.nx HC5.out HN4.out HLOW.out.1 HLOW.out.2.1⟩
    obtain ⟨rfl, rfl, hm5, hk5, hn5⟩ := hcut
    obtain ⟨w5, hw5⟩ : ∃ x, x = wc := ⟨_, rfl⟩
    subst hw5
    have HM5 := Lib.hid hm5
    have HK5 := Lib.hid hk5
    have HN5 := Lib.hid hn5
    clear hm5 hk5 hn5 CR HM4 HK4 HN4
    have CK := Lib.hid (run_mach p2 pm2 b2 L.length (X + Y) ((X : Int) + (Y : Int)) s (by omega) (by omega) (by omega) w5 HK5.out)
    unfold RetRun at CK
    rw [HE.out] at CK
    go_upto_region 14 with fail
    go_cut [16, 17] from 78 to 85 (fun nv ov wx => nv = .int .i64 ((X : Int) + (r2.1 : Int)) ∧ ov = .int .i64 r2.2.1 ∧ MachAt wx p pm b (L.length + 4 * X + 4 * Y) r2.2.2 ∧ MachAt wx p2 pm2 b2 (L.length + 4 * (X + Y)) r2.2.2 ∧ Nx W wx)
    case first =>
      go_wp2_with (go_at_call 16; refine CK.out.mono ?_; rintro e w6 ⟨rfl, hm6, hc6⟩; have HM6 := Lib.hid hm6; have HC6 := Lib.hid hc6; clear hm6 hc6)
      go_meet
      case rel => exact ⟨rfl, rfl, HM5.out.chg HC6.out HNE.out.1.1 HNE.out.1.2.1 HNE.out.2.1 HNE.out.2.2.1 HNE.out.1.2.2.1 HNE.out.1.2.2.2, HM6.out, Chg.nx HC6.out HN5.out HLOW.out.2.2.1 HLOW.out.2.2.2⟩
    obtain ⟨rfl, rfl, hm6, hk6, hn6⟩ := hcut
    obtain ⟨wz, hwz⟩ : ∃ x, x = wc := ⟨_, rfl⟩
    subst hwz
    have HM6 := Lib.hid hm6
    have HK6 := Lib.hid hk6
    have HN6 := Lib.hid hn6
    clear hm6 hk6 hn6 CK HM5 HK5 HN5
    have hry : (r2.1 : Int) ≤ 50 := by
      rw [← HR2.out]
      have := runP_most Y r1.2.2
      omega
    obtain ⟨RR, hRR⟩ : ∃ x : Nat, r2.1 = x := ⟨_, rfl⟩
    obtain ⟨OO, hOO⟩ : ∃ x : Int, r2.2.1 = x := ⟨_, rfl⟩
    obtain ⟨S, hSS⟩ : ∃ x : MSt, r2.2.2 = x := ⟨_, rfl⟩
    rw [hSS] at HM6 HK6 HZ
    rw [hRR] at hry ⊢
    rw [hOO]
    clear hSS HE HR2 hRR hOO
    have CT := Lib.hid (state_mach p pm b (L.length + 4 * X + 4 * Y) S (by omega) wz HM6.out)
    have CN := Lib.hid (fun u L2 (hL2 : CellsOf S.M L2) (hl2 : L2.length ≤ 100000) w' (hu : CellsAt w' u L2) => again_sev S HM6.out.good HZ.out u L2 hL2 hl2 w' hu)
    have CT2 := Lib.hid (fun w' (hn : Nx wz w') => state_mach p2 pm2 b2 (L.length + 4 * (X + Y)) S (by omega) w' (HK6.out.nx hn))
    go_wp2_with (first
      | (go_at_call 10; refine CM.out.mono ?_; rintro e w10 ⟨rfl, hn10⟩; have HN10 := Lib.hid (HN9.out.trans hn10); clear hn10)
      | (go_at_call 11; refine (CT2.out _ HN8.out).mono ?_; rintro e w9 ⟨u3, L3, rfl, hL3, hl3, hu3, hn9⟩; have CM := Lib.hid (same_sev base q qm _ S u3 L3 HL2.out hL3 hl3 w9 (HR8.out.nx hn9) hu3); have HN9 := Lib.hid (HN8.out.trans hn9); clear hL3 hl3 hu3 hn9)
      | (go_at_call 9; refine CNN.out.mono ?_; rintro e w8 ⟨base, q, qm, rfl, hbq, hr8, hn8⟩; have HR8 := Lib.hid hr8; have HN8 := Lib.hid (HN7.out.trans hn8); clear hbq hr8 hn8)
      | (go_at_call 11; refine CT.out.mono ?_; rintro e w7 ⟨u, L2, rfl, hL2, hl2, hu, hn7⟩; have CNN := Lib.hid (CN.out u L2 hL2 hl2 w7 hu); have HN7 := Lib.hid hn7; have HL2 := Lib.hid hl2; clear hL2 hl2 hu hn7))
    go_ret
    exact ⟨rfl, HNW.out.trans (HN6.out.trans HN10.out)⟩
  · have HTR := Lib.hid (runP_trap X s (by rw [HR1.out]; exact ho) Y)
    have hob : (r1.2.1 != 0) = true := by rw [bne_iff_ne]; exact ho
    have HZ : Hid (r1.2.2.rg.getD 0 0 = 0) := Lib.hid (by
      rw [← HR1.out]
      exact runP_zero X s HS0.out)
    rw [HTR.out, HR1.out] at CK
    obtain ⟨RR, hRR⟩ : ∃ x : Nat, r1.1 = x := ⟨_, rfl⟩
    obtain ⟨OO, hOO⟩ : ∃ x : Int, r1.2.1 = x := ⟨_, rfl⟩
    obtain ⟨S, hSS⟩ : ∃ x : MSt, r1.2.2 = x := ⟨_, rfl⟩
    rw [hSS] at HM4 CK HZ
    rw [hRR, hOO] at CK
    rw [hOO] at hob ho
    rw [hRR, hOO]
    clear hSS HTR HR1 hRR hOO ho
    go_upto_region 11 with fail
    go_cut [13, 14] from 48 to 55 (fun nv ov wx => nv = .int .i64 (RR : Int) ∧ ov = .int .i64 OO ∧ MachAt wx p pm b (L.length + 4 * X) S ∧ MachAt wx p2 pm2 b2 (L.length + 4 * (X + Y)) S ∧ Nx W wx)
    case first =>
      go_wp2_with (go_at_call 16; refine CK.out.mono ?_; rintro e w6 ⟨rfl, hm6, hc6⟩; have HM6 := Lib.hid hm6; have HC6 := Lib.hid hc6; clear hm6 hc6)
      go_meet
      case rel => exact ⟨rfl, rfl, HM4.out.chg HC6.out HNE.out.1.1 HNE.out.1.2.1 HNE.out.2.1 HNE.out.2.2.1 HNE.out.1.2.2.1 HNE.out.1.2.2.2, HM6.out, Chg.nx HC6.out HN4.out HLOW.out.2.2.1 HLOW.out.2.2.2⟩
    obtain ⟨rfl, rfl, hm6, hk6, hn6⟩ := hcut
    obtain ⟨wz, hwz⟩ : ∃ x, x = wc := ⟨_, rfl⟩
    subst hwz
    have HM6 := Lib.hid hm6
    have HK6 := Lib.hid hk6
    have HN6 := Lib.hid hn6
    clear hm6 hk6 hn6 CK HM4 HK4 HN4
    have CT := Lib.hid (state_mach p pm b (L.length + 4 * X) S (by omega) wz HM6.out)
    have CN := Lib.hid (fun u L2 (hL2 : CellsOf S.M L2) (hl2 : L2.length ≤ 100000) w' (hu : CellsAt w' u L2) => again_sev S HM6.out.good HZ.out u L2 hL2 hl2 w' hu)
    have CT2 := Lib.hid (fun w' (hn : Nx wz w') => state_mach p2 pm2 b2 (L.length + 4 * (X + Y)) S (by omega) w' (HK6.out.nx hn))
    go_wp2_with (first
      | (go_at_call 10; refine CM.out.mono ?_; rintro e w10 ⟨rfl, hn10⟩; have HN10 := Lib.hid (HN9.out.trans hn10); clear hn10)
      | (go_at_call 11; refine (CT2.out _ HN8.out).mono ?_; rintro e w9 ⟨u3, L3, rfl, hL3, hl3, hu3, hn9⟩; have CM := Lib.hid (same_sev base q qm _ S u3 L3 HL2.out hL3 hl3 w9 (HR8.out.nx hn9) hu3); have HN9 := Lib.hid (HN8.out.trans hn9); clear hL3 hl3 hu3 hn9)
      | (go_at_call 9; refine CNN.out.mono ?_; rintro e w8 ⟨base, q, qm, rfl, hbq, hr8, hn8⟩; have HR8 := Lib.hid hr8; have HN8 := Lib.hid (HN7.out.trans hn8); clear hbq hr8 hn8)
      | (go_at_call 11; refine CT.out.mono ?_; rintro e w7 ⟨u, L2, rfl, hL2, hl2, hu, hn7⟩; have CNN := Lib.hid (CN.out u L2 hL2 hl2 w7 hu); have HN7 := Lib.hid hn7; have HL2 := Lib.hid hl2; clear hL2 hl2 hu hn7))
    go_ret
    exact ⟨rfl, HNW.out.trans (HN6.out.trans HN10.out)⟩

theorem MachineTwice_walk (rg : List Int) (pc : Int) (v : Value) (L : List (Int × Int)) (x0 y0 : Int) (hr : GoodR rg) (p0 : 0 ≤ pc) (p1 : pc < 4294967296) (hL : IsCells L) (hx0 : 0 ≤ x0) (hx1 : x0 ≤ 255) (hy0 : 0 ≤ y0) (hy1 : y0 ≤ 255) (w : World) (h : CellsAt w v L) :
    Calls Tryz.prog 6 #[.agg (machC rg pc v), .int .u8 x0, .int .u8 y0] w fun e w' => e = .returned (.bool true) ∧ Nx w w' :=
  MachineTwice_go rg pc v L x0 y0 (x0 % 50).toNat (y0 % 50).toNat hr p0 p1 hL hx0 hx1 hy0 hy1 (by omega) (by omega) (by omega) (by omega) w h

end Go.Proofs.YtndpgakjpokllaaGreat

