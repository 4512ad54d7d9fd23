/- Parts of the proof, one behind the other. -/
import Derived.Test.YtndpgakjpokllaaGreatZsbp
import Derived.Test.YtndpgakjpokllaaGreatZsbr
/- law07: MachineSteps. -/
namespace Go.Proofs.YtndpgakjpokllaaGreat
open Go.RowKit
set_option linter.unusedVariables false
set_option linter.unusedSimpArgs false
set_option maxRecDepth 100000

theorem neq_ins (a b c d e : Int) (w : World) : (binOp .neq 35 (.agg #[.int .i64 a, .int .i64 b, .int .i64 c, .int .i64 d, .int .i32 e]) (.agg #[.int .i64 a, .int .i64 b, .int .i64 c, .int .i64 d, .int .i32 e])).run Tryz.prog w = .ok (.bool false) w := by
  simp [go_sem]

theorem neq_bool (b : Bool) (w : World) : (binOp .neq 4 (.bool b) (.bool b)).run Tryz.prog w = .ok (.bool false) w := by
  simp [go_sem]

/-- An instruction that was fetched, in memory. -/
def InsAt (w : World) (g : Nat) (i : In5) : Prop := Has w g (.cells (insA i) 35)

/-- Behind a fetch. -/
def Fet (wr : World) (i : In5) (sz : Int) (gv nv ov : Value) (wx : World) : Prop := ∃ g, gv = .pointer (some ⟨g, 0, none⟩) ∧ nv = .int .i64 sz ∧ ov = .bool (!(i.op == 0)) ∧ InsAt wx g i ∧ Nx wr wx

set_option maxHeartbeats 8000000 in
theorem MachineSteps_go (rg : List Int) (pc : Int) (v : Value) (L : List (Int × Int)) (x0 : Int) (K0 : Nat) (hr : GoodR rg) (p0 : 0 ≤ pc) (p1 : pc < 4294967296) (hL : IsCells L) (hx0 : 0 ≤ x0) (hx1 : x0 ≤ 255)
    (hX : x0 % 41 = (K0 : Int)) (hK : K0 < 41) (w : World) (h : CellsAt w v L) :
    Calls Tryz.prog 3 #[.agg (machC rg pc v), .int .u8 x0] w fun e w' => e = .returned (.bool true) ∧ Nx w w' := by
  have hlen := hr.1
  obtain ⟨CS, hCS⟩ : ∃ x : List Value, rg.map (Value.int .u32) ++ [.int .u32 pc, v] = x := ⟨_, rfl⟩
  have hcs : machC rg pc v = CS.toArray := by rw [← hCS]; rfl
  have hcl : CS.length = 34 := by rw [← hCS]; simp [hlen]
  have i26 : (Tryz.prog.info? 26).map (·.size) = some CS.length := by rw [hcl]; exact st_info
  obtain ⟨W, hW⟩ : ∃ x, w.alloc (.cells (machC rg pc v) 26) = x := ⟨_, rfl⟩
  have hnW : Nx w W := by rw [← hW]; exact (Nx.refl w).alloc _
  have HW := Lib.hid hW
  have HNW := Lib.hid hnW
  have HA : Hid (Has W w.heap.size (.cells CS.toArray 26)) := Lib.hid (by rw [← hW, ← hcs]; exact Has.new _ _)
  have HB := Lib.hid (fun w' (hn : Nx W w') => st_box (w := w) (rg := rg) (pc := pc) (v := v) hlen (w' := w') (by rw [hW]; exact hn))
  have CA := Lib.hid awake_any
  obtain ⟨A, c, rfl, hlc, hcm, _⟩ := h.form
  obtain ⟨s, hs⟩ : ∃ x : MSt, ⟨rg.set 0 0, pc, memOf L⟩ = x := ⟨_, rfl⟩
  have C1 := Lib.hid (fun (hn : L.length ≤ 300) w' (hw : Nx W w') => new_mach rg pc _ L hr p0 p1 hL (by omega) w' (h.nx (hnW.trans hw)))
  have C2 := Lib.hid (fun (hn : L.length ≤ 300) w' (hw : Nx W w') => new_sev rg pc _ L hr p0 p1 hL (by omega) w' (h.nx (hnW.trans hw)))
  rw [hs, hcs] at C1 C2
  rw [hcs] at HW ⊢
  have HX := Lib.hid hX
  clear h hr hL hnW hW hs hcs hCS hcl hX
  rcases Nat.lt_or_ge 300 L.length with hbig | hbig
  · have hbI : (300 : Int) < (L.length : Int) := by omega
    go_enter Tryz.func3, Tryz.ntmps3
    go_upto_region 1 with fail
    rw [HW.out]
    go_wp2_with (go_at_call 7; refine (CA.out _).mono ?_; rintro e w1 ⟨rfl, hn1⟩; have HN1 := Lib.hid hn1; have c33 := HB.out _ hn1; clear hn1)
    go_ret
    exact ⟨rfl, HNW.out.trans HN1.out⟩
  have hbI : (L.length : Int) ≤ 300 := by omega
  go_enter Tryz.func3, Tryz.ntmps3
  go_upto_region 1 with fail
  rw [HW.out]
  go_cut [15] from 14 to 15 (fun v wx => v = .bool false ∧ Nx W wx)
  case first =>
    go_wp2_with (go_at_call 7; refine (CA.out _).mono ?_; rintro e w1 ⟨rfl, hn1⟩; have HN1 := Lib.hid hn1; clear hn1)
    go_meet
    case rel => exact ⟨rfl, HN1.out⟩
  obtain ⟨rfl, hcut⟩ := hcut
  obtain ⟨w1, hw1⟩ : ∃ x, x = wc := ⟨_, rfl⟩
  subst hw1
  have HN1 := Lib.hid hcut
  have c33 := HB.out _ hcut
  clear hcut HB CA
  go_upto_region 5 with fail
  go_cut [5, 6] from 20 to 23 (fun mv rv wx => Both W mv rv L.length s wx)
  case first =>
    refine wp_region_held_drew (S := fun w' => Has w' w.heap.size (.cells CS.toArray 26) ∧ Nx W w') (by kernel_rfl) ⟨(HA.out.nx HN1.out).nx ((Nx.refl _).drew), HN1.out.drew⟩ (fun hHeld => ?_)
    refine wpAnyH_take (i := 0) (oi := { dst := some 20, op := Op.load 26 (Operand.tmp 2), type := 26, pos := "law.go:33", after := #[], guard := none }) (v := .agg CS.toArray) rfl (by kernel_rfl) (by kernel_rfl) (by kernel_rfl) (fun _ _ _ h => h) (yieldsIf_load_mid (by rfl) _ _ rfl w.heap.size 0 rfl CS _ (fun w hSw => range_all hSw.1) Tryz.underlying26 rfl i26) (by assumption) ?_
    try simp only [Act.put, List.setIfInBounds_toArray, List.set_cons_zero, List.set_cons_succ]
    refine wpAnyH_take (i := 2) (oi := { dst := some 22, op := Op.load 26 (Operand.tmp 2), type := 26, pos := "law.go:33", after := #[], guard := none }) (v := .agg CS.toArray) rfl (by kernel_rfl) (by kernel_rfl) (by kernel_rfl) (fun _ _ _ h => h) (yieldsIf_load_mid (by rfl) _ _ rfl w.heap.size 0 rfl CS _ (fun w hSw => range_all hSw.1) Tryz.underlying26 rfl i26) (by assumption) ?_
    try simp only [Act.put, List.setIfInBounds_toArray, List.set_cons_zero, List.set_cons_succ]
    have HN2 := Lib.hid hHeld.2
    clear hHeld
    refine wpAnyH_ready (rs := [1]) (by kernel_rfl) (by simp) ?_
    refine AllReadyH.cons (o := { dst := some 21, op := Op.call { callee := Callee.value (Operand.func 8), args := #[Operand.tmp 20], argTypes := #[26] }, type := 28, pos := "law.go:33", after := #[{ on := 0, ground := Ground.data }], guard := none }) rfl (fun K hK => ?_) AllReadyH.nil
    go_simp
    refine (C1.out hbig _ HN2.out).mono ?_
    rintro e w2 ⟨p, pm, b, rfl, hp, hb, hm, hn2⟩
    have HP := Lib.hid (Nat.le_trans HN2.out.size hp)
    have HBb := Lib.hid (Nat.le_trans HN2.out.size hb)
    have HM := Lib.hid hm
    have HN3 := Lib.hid (HN2.out.trans hn2)
    clear hp hb hm hn2
    refine hK.out _ _ ⟨HA.out.nx HN3.out, HN3.out⟩ (fun hHeld => ?_)
    clear hK K
    try simp only [Act.put, List.setIfInBounds_toArray, List.set_cons_zero, List.set_cons_succ]
    refine wpAnyH_ready (rs := [3]) (by kernel_rfl) (by simp) ?_
    refine AllReadyH.cons (o := { dst := some 23, op := Op.call { callee := Callee.value (Operand.func 9), args := #[Operand.tmp 22], argTypes := #[26] }, type := 30, pos := "law.go:33", after := #[{ on := 2, ground := Ground.data }, { on := 1, ground := Ground.chain }], guard := none }) rfl (fun K hK => ?_) AllReadyH.nil
    go_simp
    refine (C2.out hbig _ HN3.out).mono ?_
    rintro e w3 ⟨base, q, qm, rfl, hbq, hm, hn2⟩
    have HBQ := Lib.hid hbq
    have HR7 := Lib.hid hm
    have HM3 := Lib.hid (HM.out.nx hn2)
    have HN5 := Lib.hid (HN3.out.trans hn2)
    clear hbq hm hn2 hHeld
    refine hK.out _ _ ⟨HA.out.nx HN5.out, HN5.out⟩ (fun hHeld => ?_)
    clear hK K
    try simp only [Act.put, List.setIfInBounds_toArray, List.set_cons_zero, List.set_cons_succ]
    refine wpAnyH_take (i := 4) (oi := { dst := some 5, op := Op.assign (Operand.tmp 21), type := 28, pos := "law.go:33", after := #[{ on := 1, ground := Ground.data }, { on := 3, ground := Ground.chain }, { on := 0, ground := Ground.phase }, { on := 1, ground := Ground.phase }, { on := 2, ground := Ground.textOnly Departure.lateStores }, { on := 3, ground := Ground.textOnly Departure.lateStoresUnsure }], guard := none }) (v := ?v4) rfl (by kernel_rfl) (by kernel_rfl) (by kernel_rfl) (fun _ _ _ h => h) (Or.inl ⟨by rfl, ?y4⟩) (by assumption) ?z4
    case y4 => intro w hSw; go_simp; all_goals with_reducible rfl
    try simp only [Act.put, List.setIfInBounds_toArray, List.set_cons_zero, List.set_cons_succ]
    refine wpAnyH_take (i := 5) (oi := { dst := some 6, op := Op.assign (Operand.tmp 23), type := 30, pos := "law.go:33", after := #[{ on := 3, ground := Ground.data }, { on := 4, ground := Ground.chain }, { on := 0, ground := Ground.phase }, { on := 1, ground := Ground.phase }, { on := 2, ground := Ground.phase }, { on := 3, ground := Ground.phase }, { on := 4, ground := Ground.phase }], guard := none }) (v := ?v5) rfl (by kernel_rfl) (by kernel_rfl) (by kernel_rfl) (fun _ _ _ h => h) (Or.inl ⟨by rfl, ?y5⟩) (by assumption) ?z5
    case y5 => intro w hSw; go_simp; all_goals with_reducible rfl
    try simp only [Act.put, List.setIfInBounds_toArray, List.set_cons_zero, List.set_cons_succ]
    clear hHeld
    refine wpAnyH_done (by kernel_rfl) ?_ _
    go_wp2_with fail
    go_meet
    case rel => exact ⟨p, pm, b, base, q, qm, rfl, rfl, HP.out, HBb.out, Nat.lt_of_lt_of_le HM.out.has.lt HBQ.out, Nat.lt_of_lt_of_le HM.out.pm_lt HBQ.out, Nat.lt_of_lt_of_le HM.out.mem.2.lt HBQ.out, HM3.out, HR7.out, HN5.out⟩
  obtain ⟨p, pm, b, base, q, qm, rfl, rfl, hp, hb, hpb, hpmb, hbb, hm, hr7, hn3⟩ := hcut
  obtain ⟨w3, hw3⟩ : ∃ x, x = wc := ⟨_, rfl⟩
  subst hw3
  have HP := Lib.hid hp
  have HBb := Lib.hid hb
  have HPB := Lib.hid (And.intro hpb (And.intro hpmb hbb))
  have HM := Lib.hid hm
  have HR7 := Lib.hid hr7
  have HN3 := Lib.hid hn3
  clear hp hb hpb hpmb hbb hm hr7 hn3 C1 C2 HN1 HA c33
  have CT := Lib.hid (state_mach p pm b L.length s (by omega) w3 HM.out)
  go_upto_region 6 with fail
  go_cut [32] from 24 to 32 (fun v wx => v = .bool false ∧ MachAt wx p pm b L.length s ∧ Ref7At wx base q qm L.length s ∧ Nx W wx)
  case first =>
    go_wp2_with (first
      | (go_at_call 11; refine CT.out.mono ?_; rintro e w6 ⟨u, L2, rfl, hL2, hl2, hu, hn6⟩; have CM := Lib.hid (same_sev base q qm L.length s u L2 (by omega) hL2 hl2 w6 (HR7.out.nx hn6) hu); have HN6 := Lib.hid hn6; clear hL2 hl2 hu hn6)
      | (go_at_call 10; refine CM.out.mono ?_; rintro e w7 ⟨rfl, hn7⟩; have HN7 := Lib.hid (HN6.out.trans hn7); clear hn7))
    go_meet
    case rel => exact ⟨rfl, HM.out.nx HN7.out, HR7.out.nx HN7.out, HN3.out.trans HN7.out⟩
  obtain ⟨rfl, hm4, hr4, hn4⟩ := hcut
  obtain ⟨w4, hw4⟩ : ∃ x, x = wc := ⟨_, rfl⟩
  subst hw4
  have HM4 := Lib.hid hm4
  have HR4 := Lib.hid hr4
  have HN4 := Lib.hid hn4
  clear hm4 hr4 hn4 CT HM HR7 HN3
  go_wp2_with fail
  go_loopw [7] (fun iv wr => ∃ (i : Nat) (si : MSt), i ≤ K0 ∧ iv = .int .i64 i ∧ MachAt wr p pm b (L.length + 4 * i) si ∧ Ref7At wr base q qm (L.length + 4 * i) si ∧ Nx W wr) (fun iv _ => K0 - (RowKit.intOf iv).toNat)
  case atStart => exact ⟨0, s, Nat.zero_le _, rfl, HM4.out, HR4.out, HN4.out⟩
  case round =>
    obtain ⟨i, si, hi, rfl, hmi, hri, hni⟩ := hrel
    have HM := Lib.hid hmi
    have HR := Lib.hid hri
    have HN := Lib.hid hni
    clear hmi hri hni HM4 HR4 HN4
    by_cases hik : i < K0
    · have hikI : (i : Int) < x0 % 41 := by rw [HX.out]; omega
      have CF := Lib.hid (fetch_any p pm b (L.length + 4 * i) si wr HM.out)
      have CG := Lib.hid (fun w' (hn : Nx wr w') => rfetch_any base q qm (L.length + 4 * i) si (by omega) w' (HR.out.nx hn))
      obtain ⟨I, hI⟩ : ∃ x, fetI si.M si.pc = x := ⟨_, rfl⟩
      obtain ⟨N, hN⟩ : ∃ x, fetN si.M si.pc = x := ⟨_, rfl⟩
      rw [hI, hN] at CF CG
      clear hI hN
      obtain ⟨op, rd, rs1, rs2, imm⟩ := I
      go_upto_region 11 with fail
      go_cut [8, 9, 10] from 40 to 45 (fun gv nv ov wx => Fet wr ⟨op, rd, rs1, rs2, imm⟩ N gv nv ov wx)
      case first =>
        go_wp2_with (go_at_call 12; refine CF.out.mono ?_; rintro e w5 ⟨rfl, hn1⟩; have HN1 := Lib.hid hn1; clear hn1)
        go_meet
        case rel => exact ⟨w5.heap.size, rfl, rfl, rfl, Has.new _ _, HN1.out.alloc _⟩
      obtain ⟨g1, rfl, rfl, rfl, hg1, hn5⟩ := hcut
      obtain ⟨w5, hw5⟩ : ∃ x, x = wc := ⟨_, rfl⟩
      subst hw5
      have HG1 := Lib.hid hg1
      have HN5 := Lib.hid hn5
      clear hg1 hn5 CF
      have CF := Lib.hid (CG.out w5 HN5.out)
      clear CG
      go_upto_region 12 with fail
      go_cut [11, 12, 13] from 46 to 51 (fun gv nv ov wx => Fet w5 ⟨op, rd, rs1, rs2, imm⟩ N gv nv ov wx)
      case first =>
        go_wp2_with (go_at_call 13; refine CF.out.mono ?_; rintro e w6 ⟨rfl, hn1⟩; have HN1 := Lib.hid hn1; clear hn1)
        go_meet
        case rel => exact ⟨w6.heap.size, rfl, rfl, rfl, Has.new _ _, HN1.out.alloc _⟩
      obtain ⟨g2, rfl, rfl, rfl, hg2, hn6⟩ := hcut
      obtain ⟨w6, hw6⟩ : ∃ x, x = wc := ⟨_, rfl⟩
      subst hw6
      have hg1 : InsAt w6 g1 ⟨op, rd, rs1, rs2, imm⟩ := HG1.out.nx hn6
      have a0 : w6.cell? ⟨g1, 0, none⟩ = some (.int .i64 op) := hg1.cell 0 _ rfl
      have a1 : w6.cell? ⟨g1, 1, none⟩ = some (.int .i64 rd) := hg1.cell 1 _ rfl
      have a2 : w6.cell? ⟨g1, 2, none⟩ = some (.int .i64 rs1) := hg1.cell 2 _ rfl
      have a3 : w6.cell? ⟨g1, 3, none⟩ = some (.int .i64 rs2) := hg1.cell 3 _ rfl
      have a4 : w6.cell? ⟨g1, 4, none⟩ = some (.int .i32 imm) := hg1.cell 4 _ rfl
      have b0 : w6.cell? ⟨g2, 0, none⟩ = some (.int .i64 op) := hg2.cell 0 _ rfl
      have b1 : w6.cell? ⟨g2, 1, none⟩ = some (.int .i64 rd) := hg2.cell 1 _ rfl
      have b2 : w6.cell? ⟨g2, 2, none⟩ = some (.int .i64 rs1) := hg2.cell 2 _ rfl
      have b3 : w6.cell? ⟨g2, 3, none⟩ = some (.int .i64 rs2) := hg2.cell 3 _ rfl
      have b4 : w6.cell? ⟨g2, 4, none⟩ = some (.int .i32 imm) := hg2.cell 4 _ rfl
      have z1 := hg1.lt
      have z2 := hg2.lt
      have HW6 := Lib.hid (HN5.out.trans hn6)
      have HM6 := Lib.hid (HM.out.nx HW6.out)
      have HR6 := Lib.hid (HR.out.nx HW6.out)
      have HN6 := Lib.hid (HN.out.trans HW6.out)
      clear hg1 hg2 hn6 CF HG1 HN5 HM HR HN HW6
      have CS := Lib.hid (step_any p pm b (L.length + 4 * i) si (by omega) w6 HM6.out)
      have CR := Lib.hid (fun w' (hn : Chg p b w6 w') => rstep_any base q qm (L.length + 4 * i) si (by omega) w' (HR6.out.chg hn HPB.out.1 HPB.out.2.2))
      obtain ⟨S2, hS2⟩ : ∃ x, stepP si = x := ⟨_, rfl⟩
      obtain ⟨O, hO⟩ : ∃ x, stepO si.M si.pc = x := ⟨_, rfl⟩
      rw [hS2, hO] at CS CR
      clear hS2 hO
      have q1 := fun w => neq_ins op rd rs1 rs2 imm w
      have q2 := fun w => neq_bool (!(op == 0)) w
      have CM := Lib.hid (fun u L2 w' (hr : Ref7At w' base q qm (L.length + 4 * i + 4) S2) (hL2 : CellsOf S2.M L2) (hl2 : L2.length ≤ 100000) (hu : CellsAt w' u L2) => same_sev base q qm (L.length + 4 * i + 4) S2 u L2 (by omega) hL2 hl2 w' hr hu)
      have CT := Lib.hid (fun w' (hm : MachAt w' p pm b (L.length + 4 * i + 4) S2) => state_mach p pm b (L.length + 4 * i + 4) S2 (by omega) w' hm)
      go_upto_region 13 with fail
      go_cut [78] from 52 to 78 (fun v wx => v = .bool false ∧ MachAt wx p pm b (L.length + 4 * i + 4) S2 ∧ Ref7At wx base q qm (L.length + 4 * i + 4) S2 ∧ Nx W wx)
      case first =>
        go_wp2_with (first
          | (go_at_call 14; refine CS.out.mono ?_; rintro e w7 ⟨rfl, hm7, hc7⟩; have HM7 := Lib.hid hm7; have HN7 := Lib.hid (Chg.nx hc7 HN6.out HP.out HBb.out); have CRR := Lib.hid (CR.out w7 hc7); clear hm7 hc7)
          | (go_at_call 15; refine CRR.out.mono ?_; rintro e w8 ⟨rfl, hr8, hc8⟩; have HR8 := Lib.hid hr8; have HM8 := Lib.hid (HM7.out.below hc8 HPB.out.1 HPB.out.2.1 HPB.out.2.2); have HN8 := Lib.hid (Below.trans HN7.out (Below.mono hc8 (Nat.le_trans HP.out (Nat.le_of_lt HPB.out.1)))); clear hr8 hc8)
          | (go_at_call 11; refine (CT.out _ HM8.out).mono ?_; rintro e w9 ⟨u, L2, rfl, hL2, hl2, hu, hn9⟩; have CMM := Lib.hid (CM.out u L2 w9 (HR8.out.nx hn9) hL2 hl2 hu); have HN9 := Lib.hid hn9; clear hL2 hl2 hu hn9)
          | (go_at_call 10; refine CMM.out.mono ?_; rintro e w10 ⟨rfl, hn10⟩; have HN10 := Lib.hid (HN9.out.trans hn10); clear hn10))
        go_meet
        case rel => exact ⟨rfl, HM8.out.nx HN10.out, HR8.out.nx HN10.out, Below.trans HN8.out (Below.mono HN10.out HN8.out.size)⟩
      obtain ⟨rfl, hm9, hr9, hn9⟩ := hcut
      obtain ⟨w9, hw9⟩ : ∃ x, x = wc := ⟨_, rfl⟩
      subst hw9
      have HM9 := Lib.hid hm9
      have HR9 := Lib.hid hr9
      have HN9 := Lib.hid hn9
      clear hm9 hr9 hn9 CS CR CM CT HM6 HR6 HN6 a0 a1 a2 a3 a4 b0 b1 b2 b3 b4 z1 z2 q1 q2
      go_wp2_with fail
      go_roundw
      case rel => exact ⟨i + 1, S2, hik, by first | rfl | go_num, HM9.out, HR9.out, HN9.out⟩
      case measure => simp [RowKit.intOf]; omega
    · obtain rfl : i = K0 := by omega
      have hge : x0 % 41 ≤ (i : Int) := by rw [HX.out]; exact Int.le_refl _
      go_wp2_with fail
      go_ret
      exact ⟨rfl, HNW.out.trans HN.out⟩

theorem MachineSteps_walk (rg : List Int) (pc : Int) (v : Value) (L : List (Int × Int)) (x0 : Int) (hr : GoodR rg) (p0 : 0 ≤ pc) (p1 : pc < 4294967296) (hL : IsCells L) (hx0 : 0 ≤ x0) (hx1 : x0 ≤ 255) (w : World) (h : CellsAt w v L) :
    Calls Tryz.prog 3 #[.agg (machC rg pc v), .int .u8 x0] w fun e w' => e = .returned (.bool true) ∧ Nx w w' :=
  MachineSteps_go rg pc v L x0 (x0 % 41).toNat hr p0 p1 hL hx0 hx1 (by omega) (by omega) w h

end Go.Proofs.YtndpgakjpokllaaGreat

