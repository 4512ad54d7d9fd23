/- Parts of the proof, one behind the other. -/
import Derived.Deep.CutBlock
import Derived.Deep.RegionHeld3
import Derived.Test.YtndpgakjpokllaaGreatZsac
import Derived.Test.YtndpgakjpokllaaGreatZsaw
import Derived.Test.YtndpgakjpokllaaGreatZsbb
import Derived.Test.YtndpgakjpokllaaGreatZsbm
/- package machine: Step. -/
namespace Go.Proofs.YtndpgakjpokllaaGreat
open Go.RowKit
set_option linter.unusedVariables false
set_option linter.unusedSimpArgs false
set_option maxRecDepth 100000

/-- An instruction's cells. -/
def insA (i : In5) : Array Value := #[.int .i64 i.op, .int .i64 i.rd, .int .i64 i.rs1, .int .i64 i.rs2, .int .i32 i.imm]

theorem MachAt.chg_ins {p b : Nat} {w w' : World} {q : Nat} {o : Obj} (h : Has w q o) (hc : Chg p b w w') (hp : q ≠ p) (hb : q ≠ b) : Has w' q o := (hc.block q h.lt hp hb).trans h

theorem MachAt.mono {w : World} {p pm b n n' : Nat} {s : MSt} (h : MachAt w p pm b n s) (hn : n ≤ n') : MachAt w p pm b n' s := ⟨h.has, h.good, ⟨h.mem.1, h.mem.2.mono hn⟩, h.pm_ne, h.b_ne⟩

/-- A memory turned behind the machine. -/
theorem MachAt.turn {w w' : World} {p pm b n n' : Nat} {s : MSt} {M : Int → Int} (h : MachAt w p pm b n s) (hm : MemAt w' pm b n' M) (hB : Bytes M) (hg : w.grownBy w' (some b)) : MachAt w' p pm b n' { s with M := M } :=
  ⟨(hg.block p h.has.lt (fun e => h.b_ne (by injection e))).trans h.has, ⟨h.good.1, h.good.2.1, h.good.2.2.1, hB⟩, hm, h.pm_ne, h.b_ne⟩

/-- The middle of a step: what the registers and the memory come to. -/
def midP (s : MSt) (i : In5) (n : Int) : MSt := { goP s i n with pc := s.pc }

/-- What holds behind the middle. -/
def MidAt (p pm b n q : Nat) (i : In5) (s : MSt) (w wx : World) : Prop := MachAt wx p pm b n s ∧ Has wx q (.cells (insA i) 35) ∧ Chg p b w wx

set_option maxHeartbeats 4000000 in
theorem step_go (p pm b n q : Nat) (s : MSt) (i : In5) (sz : Int) (hi : fetI s.M s.pc = i) (hs : fetN s.M s.pc = sz) (hn : n + 4 ≤ 100000) (w : World) (h : MachAt w p pm b n s) :
    Calls Tryz.prog 14 #[.pointer (some ⟨p, 0, none⟩)] w (RetMach p pm b (n + 4) (.int .i64 (stepO s.M s.pc)) (stepP s) w) := by
  have H := Lib.hid h
  have CF := Lib.hid (fetch_any p pm b n s w h)
  rw [hi, hs] at CF
  have hO : stepO s.M s.pc = if i.op = 0 then 3 else if i.op = 39 then 1 else if i.op = 40 then 2 else 0 := by unfold stepO; rw [hi]
  have hS : stepP s = if stepO s.M s.pc = 0 then goP s i sz else s := by unfold stepP; rw [hi, hs]
  have hm := fet_may s.M s.pc
  have him := fet_imm s.M s.pc
  rw [hi] at hm him
  have hp := h.has.lt
  clear h hi hs
  obtain ⟨op, rd, rs1, rs2, imm⟩ := i
  dsimp only at hO hm him
  go_enter Tryz.func14, Tryz.ntmps14
  go_upto_region 1 with fail
  go_cut [3, 4, 5] from 15 to 20 (fun iv nv ov wx => ∃ q, iv = .pointer (some ⟨q, 0, none⟩) ∧ nv = .int .i64 sz ∧ ov = .bool (!(op == 0)) ∧ Has wx q (.cells (insA ⟨op, rd, rs1, rs2, imm⟩) 35) ∧ Nx w wx ∧ w.heap.size ≤ q)
  case first =>
    go_wp2_with (go_at_call 12; refine CF.out.mono ?_; rintro e w1 ⟨rfl, hn1⟩; have HN1 := Lib.hid hn1; clear hn1)
    go_meet
    case rel => exact ⟨w1.heap.size, rfl, rfl, rfl, Has.new _ _, HN1.out.alloc _, HN1.out.size⟩
  obtain ⟨q, rfl, rfl, rfl, hq, hnx, hwq⟩ := hcut
  obtain ⟨w1, hw1⟩ : ∃ x, x = wc := ⟨_, rfl⟩
  subst hw1
  have HQ := Lib.hid hq
  have HNX := Lib.hid hnx
  have HM := Lib.hid (H.out.nx hnx)
  have hb := H.out.mem.2.lt
  have hqp : q ≠ p := by omega
  have hqb : q ≠ b := by omega
  have q0 : w1.cell? ⟨q, 0, none⟩ = some (.int .i64 op) := hq.cell 0 _ rfl
  have q1 : w1.cell? ⟨q, 1, none⟩ = some (.int .i64 rd) := hq.cell 1 _ rfl
  have q2 : w1.cell? ⟨q, 2, none⟩ = some (.int .i64 rs1) := hq.cell 2 _ rfl
  have q3 : w1.cell? ⟨q, 3, none⟩ = some (.int .i64 rs2) := hq.cell 3 _ rfl
  have q4 : w1.cell? ⟨q, 4, none⟩ = some (.int .i32 imm) := hq.cell 4 _ rfl
  have qz := hq.lt
  clear hq hnx hwq
  by_cases h0 : op = 0
  · subst h0
    rw [if_pos rfl] at hO
    rw [hO, if_neg (by decide)] at hS
    have HO := Lib.hid hO
    have HS := Lib.hid hS
    clear hO hS hm him
    go_wp2_with fail
    go_ret
    rw [HO.out, HS.out]
    exact ⟨rfl, HM.out.mono (by omega), Chg.of_nx HNX.out⟩
  rw [if_neg h0] at hO
  have hb0 : (op == 0) = false := beq_eq_false_iff_ne.2 h0
  by_cases h39 : op = 39
  · subst h39
    rw [if_pos rfl] at hO
    rw [hO, if_neg (by decide)] at hS
    have HO := Lib.hid hO
    have HS := Lib.hid hS
    clear hO hS hm him
    go_wp2_with fail
    go_ret
    rw [HO.out, HS.out]
    exact ⟨rfl, HM.out.mono (by omega), Chg.of_nx HNX.out⟩
  rw [if_neg h39] at hO
  have hb39 : (op == 39) = false := beq_eq_false_iff_ne.2 h39
  by_cases h40 : op = 40
  · subst h40
    rw [if_pos rfl] at hO
    rw [hO, if_neg (by decide)] at hS
    have HO := Lib.hid hO
    have HS := Lib.hid hS
    clear hO hS hm him
    go_wp2_with fail
    go_ret
    rw [HO.out, HS.out]
    exact ⟨rfl, HM.out.mono (by omega), Chg.of_nx HNX.out⟩
  rw [if_neg h40] at hO
  have hb40 : (op == 40) = false := beq_eq_false_iff_ne.2 h40
  rw [hO, if_pos rfl] at hS
  have HO := Lib.hid hO
  have HS := Lib.hid hS
  have HMay := Lib.hid (hm h0)
  obtain ⟨⟨r0, r1⟩, ⟨s0, s1⟩, ⟨t0, t1⟩⟩ := may_regs (hm h0)
  obtain ⟨im0, im1⟩ := him
  clear hO hS hm
  have s32 : rs1 < 32 := by omega
  have t32 : rs2 < 32 := by omega
  have cA : w1.cell? ⟨p, rs1.toNat, none⟩ = some (.int .u32 (getR s.rg rs1)) := HM.out.reg rs1.toNat (by omega)
  have cB : w1.cell? ⟨p, rs2.toNat, none⟩ = some (.int .u32 (getR s.rg rs2)) := HM.out.reg rs2.toNat (by omega)
  obtain ⟨A0, A1⟩ := getR_bd HM.out.good.1 rs1
  obtain ⟨B0, B1⟩ := getR_bd HM.out.good.1 rs2
  obtain ⟨A, hA⟩ : ∃ x, getR s.rg rs1 = x := ⟨_, rfl⟩
  obtain ⟨B, hB⟩ : ∃ x, getR s.rg rs2 = x := ⟨_, rfl⟩
  rw [hA] at cA A0 A1
  rw [hB] at cB B0 B1
  have HA := Lib.hid hA
  have HB := Lib.hid hB
  clear hA hB
  have hp1 : p < w1.heap.size := HM.out.has.lt
  go_upto_region 8 with fail
  go_cut [6, 7] from 32 to 45 (fun av bv wx => av = .int .u32 A ∧ bv = .int .u32 B ∧ Nx w1 wx)
  case first =>
    go_wp2_with fail
    go_quiet (fail)
    go_wp2_with fail
    go_meet
    case rel => exact ⟨rfl, rfl, (Nx.refl _).drewN _⟩
  obtain ⟨rfl, rfl, hn2⟩ := hcut
  obtain ⟨w2, hw2⟩ : ∃ x, x = wc := ⟨_, rfl⟩
  subst hw2
  have HQ2 := Lib.hid (HQ.out.nx hn2)
  have HM2 := Lib.hid (HM.out.nx hn2)
  have HN2 := Lib.hid (HNX.out.trans hn2)
  clear hn2 cA cB q0 q1 q2 q3 q4 qz HQ HM HNX hp1
  have CAc : Hid (∀ w, Calls Tryz.prog 27 #[.agg #[.int .i64 op, .int .i64 rd, .int .i64 rs1, .int .i64 rs2, .int .i32 imm], .int .u32 A] w fun e w' => e = .returned (.tuple #[.int .u32 (accA op A imm), .int .i64 (accN op), .bool (accS op), .bool (accG op)]) ∧ Nx w w') := Lib.hid fun w => by
    have := access_any op rd rs1 rs2 imm A w im0 im1 A0 A1
    rw [HMay.out] at this
    exact this
  have CVa : Hid (∀ w P, 0 ≤ P → P < 4294967296 → Calls Tryz.prog 32 #[.agg #[.int .i64 op, .int .i64 rd, .int .i64 rs1, .int .i64 rs2, .int .i32 imm], .int .u32 A, .int .u32 B, .int .u32 P, .int .i64 sz] w fun e w' => e = .returned (.tuple #[.int .u32 (valX true op A B P imm sz), .bool (valO op)]) ∧ Nx w w') := Lib.hid fun w P h1 h2 => by
    have := value_any op rd rs1 rs2 imm A B P sz w im0 im1 A0 A1 B0 B1 h1 h2
    rw [HMay.out] at this
    exact this
  have CNe : Hid (∀ w P, 0 ≤ P → P < 4294967296 → Calls Tryz.prog 33 #[.agg #[.int .i64 op, .int .i64 rd, .int .i64 rs1, .int .i64 rs2, .int .i32 imm], .int .u32 A, .int .u32 B, .int .u32 P, .int .i64 sz] w fun e w' => e = .returned (.int .u32 (nextV op A B P imm sz)) ∧ Nx w w') := Lib.hid fun w P h1 h2 => by
    have := next_any op rd rs1 rs2 imm A B P sz w im0 im1 A0 A1 B0 B1 h1 h2
    rw [HMay.out] at this
    exact this
  have HMid := Lib.hid (show midP s ⟨op, rd, rs1, rs2, imm⟩ sz = ⟨(if accS op = true then s.rg else if 0 < accN op then setR s.rg rd (ldP s.M (accA op A imm) (accN op) (accG op)) else if valO op = true then setR s.rg rd (valV op A B s.pc imm sz) else s.rg), s.pc, (if accS op = true then storeM s.M (accA op A imm) B (accN op).toNat else s.M)⟩ by
    rw [← HA.out, ← HB.out]
    rfl)
  obtain ⟨a0, a1⟩ := accA_bd op A imm
  have hacc := acc_n op
  have hst := @acc_store op
  obtain ⟨k, hk⟩ : ∃ k : Nat, accN op = k := ⟨(accN op).toNat, by omega⟩
  have hk4 : k ≤ 4 := by omega
  rw [hk] at CAc HMid hst
  obtain ⟨AT, hAT⟩ : ∃ x, accA op A imm = x := ⟨_, rfl⟩
  rw [hAT] at CAc HMid a0 a1
  obtain ⟨ST, hST⟩ : ∃ x, accS op = x := ⟨_, rfl⟩
  rw [hST] at CAc HMid hst
  obtain ⟨SG, hSG⟩ : ∃ x, accG op = x := ⟨_, rfl⟩
  rw [hSG] at CAc HMid hst
  obtain ⟨VO, hVO⟩ : ∃ x, valO op = x := ⟨_, rfl⟩
  rw [hVO] at CVa HMid hst
  have HVO := Lib.hid hVO
  have HST := Lib.hid hst
  clear hst hk hAT hST hSG hVO hacc HMay
  have q0 : w2.cell? ⟨q, 0, none⟩ = some (.int .i64 op) := HQ2.out.cell 0 _ rfl
  have q1 : w2.cell? ⟨q, 1, none⟩ = some (.int .i64 rd) := HQ2.out.cell 1 _ rfl
  have q2 : w2.cell? ⟨q, 2, none⟩ = some (.int .i64 rs1) := HQ2.out.cell 2 _ rfl
  have q3 : w2.cell? ⟨q, 3, none⟩ = some (.int .i64 rs2) := HQ2.out.cell 3 _ rfl
  have q4 : w2.cell? ⟨q, 4, none⟩ = some (.int .i32 imm) := HQ2.out.cell 4 _ rfl
  have qz := HQ2.out.lt
  go_upto_block 1 with (go_at_call 27; refine (CAc.out _).mono ?_; rintro e w3 ⟨rfl, hn3⟩; have HN3 := Lib.hid hn3; clear hn3)
  have HQ3 := Lib.hid (HQ2.out.nx HN3.out)
  have HM3 := Lib.hid (HM2.out.nx HN3.out)
  have HX3 := Lib.hid (HN2.out.trans HN3.out)
  clear q0 q1 q2 q3 q4 qz HQ2 HM2 HN2 HN3
  go_cut [12, 13, 14] from 54 to 102 (fun _ _ _ wx => MidAt p pm b (n + 4) q ⟨op, rd, rs1, rs2, imm⟩ (midP s ⟨op, rd, rs1, rs2, imm⟩ sz) w wx)
  case first =>
    have c33 := HM3.out.ptr
    have hp3 : p < w3.heap.size := HM3.out.has.lt
    have HBy := Lib.hid HM3.out.good.2.2.2
    have q1 : w3.cell? ⟨q, 1, none⟩ = some (.int .i64 rd) := HQ3.out.cell 1 _ rfl
    have qz := HQ3.out.lt
    cases ST
    · by_cases hk0 : 0 < k
      · have hkI : (0 : Int) < k := by omega
        obtain ⟨V0, V1⟩ := load_u32 HBy.out AT k hk4
        obtain ⟨V, hV⟩ : ∃ x, loadM s.M AT k = x := ⟨_, rfl⟩
        have C := Lib.hid (load_any pm b n s.M AT k hk4 a0 a1 w3 HM3.out.mem)
        rw [hV] at C V0 V1
        cases SG
        · have CS := Lib.hid (set_any p pm b n s rd V r0 r1 V0 V1 w3 HM3.out)
          have HE := Lib.hid (show ldP s.M AT (k : Int) false = V from hV)
          clear hV
          go_wp2_with (first | (go_at_call 29; refine C.out.mono ?_; rintro e w' ⟨rfl, hw⟩; rw [hw]; clear hw) | (go_at_call 31; refine CS.out.mono ?_; rintro e w4 ⟨rfl, hm4, hc4⟩; have HM4 := Lib.hid hm4; have HC4 := Lib.hid hc4; clear hm4 hc4))
          go_meet
          case rel =>
            refine ⟨?_, MachAt.chg_ins HQ3.out HC4.out hqp hqb, (Chg.of_nx HX3.out).trans HC4.out⟩
            rw [HMid.out, if_neg (by decide), if_pos hkI, HE.out]
            exact HM4.out.mono (by omega)
        · have C2 := Lib.hid (fun w => sign_any V (8 * k) w V0 V1)
          obtain ⟨Y, hY⟩ : ∃ x, sgn V (cl (8 * k)) = x := ⟨_, rfl⟩
          rw [hY] at C2
          have CS := Lib.hid (set_any p pm b n s rd (Y % 4294967296) r0 r1 (by omega) (by omega) w3 HM3.out)
          have HE := Lib.hid (show ldP s.M AT (k : Int) true = Y % 4294967296 by
            rw [← hY, ← hV]
            rfl)
          clear hV hY
          go_wp2_with (first | (go_at_call 29; refine C.out.mono ?_; rintro e w' ⟨rfl, hw⟩; rw [hw]; clear hw) | (go_at_call 30; refine (C2.out _).mono ?_; rintro e w' ⟨rfl, hw⟩; rw [← hw]; clear hw) | (go_at_call 31; refine CS.out.mono ?_; rintro e w4 ⟨rfl, hm4, hc4⟩; have HM4 := Lib.hid hm4; have HC4 := Lib.hid hc4; clear hm4 hc4))
          go_meet
          case rel =>
            refine ⟨?_, MachAt.chg_ins HQ3.out HC4.out hqp hqb, (Chg.of_nx HX3.out).trans HC4.out⟩
            rw [HMid.out, if_neg (by decide), if_pos hkI, HE.out]
            exact HM4.out.mono (by omega)
      · have hkI : (k : Int) ≤ 0 := by omega
        have cP := HM3.out.pcc
        have CV := Lib.hid (fun w => CVa.out w s.pc HM3.out.good.2.1 HM3.out.good.2.2.1)
        obtain ⟨P, hP⟩ : ∃ x, s.pc = x := ⟨_, rfl⟩
        rw [hP] at cP CV
        obtain ⟨X0, X1⟩ := valX_bd true op A B P imm sz A0 A1 B0 B1
        have hX : VO = true → valX true op A B P imm sz = valV op A B P imm sz := fun h => by unfold valX; rw [HVO.out, h, if_pos ⟨rfl, rfl⟩]
        obtain ⟨X, hXX⟩ : ∃ x, valX true op A B P imm sz = x := ⟨_, rfl⟩
        rw [hXX] at CV X0 X1 hX
        have HX := Lib.hid hX
        have HP := Lib.hid hP
        have q0 : w3.cell? ⟨q, 0, none⟩ = some (.int .i64 op) := HQ3.out.cell 0 _ rfl
        have q2 : w3.cell? ⟨q, 2, none⟩ = some (.int .i64 rs1) := HQ3.out.cell 2 _ rfl
        have q3 : w3.cell? ⟨q, 3, none⟩ = some (.int .i64 rs2) := HQ3.out.cell 3 _ rfl
        have q4 : w3.cell? ⟨q, 4, none⟩ = some (.int .i32 imm) := HQ3.out.cell 4 _ rfl
        clear hX hXX hP
        go_upto_region 10 with fail
        (refine wp_region_nx 13 (by kernel_rfl) (by kernel_rfl) ?_; simp only [List.take_succ_cons, List.take_zero, List.drop_succ_cons, List.drop_zero]; (repeat (refine wpQuiet_step (fun K hK => ?_); go_simp; first | (refine hK _ ?_; clear hK K) | (apply Exists.intro; refine ⟨fun w' hw' => ?_, hK _ ?_⟩; (first | (with_reducible rfl) | (go_at_call 32; with_reducible exact (CV.out _).mono fun _ _ h => ⟨h.1, hw'.trans h.2⟩) | (obtain ⟨hc, hf⟩ := nx_cells hw'; go_simp; with_reducible rfl) | (obtain ⟨hc, hf⟩ := nx_cells hw'; go_simp; rfl)); clear hK K))); refine wpQuiet_nil ?_; intro w4 hn4)
        have HQ4 := Lib.hid (HQ3.out.nx hn4)
        have HM4 := Lib.hid (HM3.out.nx hn4)
        have HX4 := Lib.hid (HX3.out.trans hn4)
        have q1 : w4.cell? ⟨q, 1, none⟩ = some (.int .i64 rd) := HQ4.out.cell 1 _ rfl
        have qz := HQ4.out.lt
        clear hn4 q0 q2 q3 q4
        cases VO
        · go_wp2_with fail
          go_meet
          case rel =>
            refine ⟨?_, HQ4.out, Chg.of_nx HX4.out⟩
            rw [HMid.out, if_neg (by decide), if_neg (by omega), if_neg (by decide)]
            exact HM4.out.mono (by omega)
        · have CS := Lib.hid (set_any p pm b n s rd X r0 r1 X0 X1 w4 HM4.out)
          go_wp2_with (go_at_call 31; refine CS.out.mono ?_; rintro e w5 ⟨rfl, hm5, hc5⟩; have HM5 := Lib.hid hm5; have HC5 := Lib.hid hc5; clear hm5 hc5)
          go_meet
          case rel =>
            refine ⟨?_, MachAt.chg_ins HQ4.out HC5.out hqp hqb, (Chg.of_nx HX4.out).trans HC5.out⟩
            rw [HMid.out, if_neg (by decide), if_neg (by omega), if_pos (by trivial), HP.out, ← HX.out (by trivial)]
            rw [← HP.out]
            exact HM5.out.mono (by omega)
    · have k0 := (HST.out rfl).1
      clear HST
      have C := Lib.hid (store_mem pm b n s.M AT B k (by omega) hk4 a0 a1 B0 B1 w3 HM3.out.mem)
      go_wp2_with (go_at_call 28; refine C.out.mono ?_; rintro e w4 ⟨rfl, hm4, hg4⟩; have HM4 := Lib.hid hm4; have HG4 := Lib.hid hg4; clear hm4 hg4)
      go_meet
      case rel =>
        refine ⟨?_, MachAt.chg_ins HQ3.out (Chg.of_grown HG4.out) hqp hqb, (Chg.of_nx HX3.out).trans (Chg.of_grown HG4.out)⟩
        rw [HMid.out, if_pos (by trivial), if_pos (by trivial)]
        exact (HM3.out.turn HM4.out (store_bytes HBy.out _ _ _) HG4.out).mono (by omega)
  obtain ⟨hm4, hq4, hc4⟩ := hcut
  obtain ⟨w4, hw4⟩ : ∃ x, x = wc := ⟨_, rfl⟩
  subst hw4
  have HM4 := Lib.hid hm4
  have HC4 := Lib.hid hc4
  have HQ4 := Lib.hid hq4
  clear hm4 hq4 hc4 CAc CVa HMid HST HVO HQ3 HM3 HX3
  have hpc : (midP s ⟨op, rd, rs1, rs2, imm⟩ sz).pc = s.pc := rfl
  have cP := HM4.out.pcc
  rw [hpc] at cP
  have CN := Lib.hid (fun w => CNe.out w s.pc H.out.good.2.1 H.out.good.2.2.1)
  have HE := Lib.hid (show goP s ⟨op, rd, rs1, rs2, imm⟩ sz = { midP s ⟨op, rd, rs1, rs2, imm⟩ sz with pc := nextV op A B s.pc imm sz } by
    rw [← HA.out, ← HB.out]
    rfl)
  obtain ⟨P, hP⟩ : ∃ x, s.pc = x := ⟨_, rfl⟩
  rw [hP] at cP CN HE
  obtain ⟨Y0, Y1⟩ := nextV_bd op A B P imm sz
  obtain ⟨Y, hY⟩ : ∃ x, nextV op A B P imm sz = x := ⟨_, rfl⟩
  rw [hY] at CN HE Y0 Y1
  have q0 : w4.cell? ⟨q, 0, none⟩ = some (.int .i64 op) := HQ4.out.cell 0 _ rfl
  have q1 : w4.cell? ⟨q, 1, none⟩ = some (.int .i64 rd) := HQ4.out.cell 1 _ rfl
  have q2 : w4.cell? ⟨q, 2, none⟩ = some (.int .i64 rs1) := HQ4.out.cell 2 _ rfl
  have q3 : w4.cell? ⟨q, 3, none⟩ = some (.int .i64 rs2) := HQ4.out.cell 3 _ rfl
  have q4 : w4.cell? ⟨q, 4, none⟩ = some (.int .i32 imm) := HQ4.out.cell 4 _ rfl
  have qz := HQ4.out.lt
  have hp4 : p < w4.heap.size := HM4.out.has.lt
  clear hP hY hpc CNe
  go_upto_region 20 with fail
  (refine wp_region_nx 10 (by kernel_rfl) (by kernel_rfl) ?_; simp only [List.take_succ_cons, List.take_zero, List.drop_succ_cons, List.drop_zero]; (repeat (refine wpQuiet_step (fun K hK => ?_); go_simp; first | (refine hK _ ?_; clear hK K) | (apply Exists.intro; refine ⟨fun w' hw' => ?_, hK _ ?_⟩; (first | (with_reducible rfl) | (go_at_call 33; with_reducible exact (CN.out _).mono fun _ _ h => ⟨h.1, hw'.trans h.2⟩) | (obtain ⟨hc, hf⟩ := nx_cells hw'; go_simp; with_reducible rfl) | (obtain ⟨hc, hf⟩ := nx_cells hw'; go_simp; rfl)); clear hK K))); refine wpQuiet_nil ?_; intro w5 hn5)
  have HM5 := Lib.hid (HM4.out.nx hn5)
  have HC5 := Lib.hid (HC4.out.trans (Chg.of_nx hn5))
  have cP := HM5.out.pcc
  have fP := HM5.out.free 32
  clear hn5 q0 q1 q2 q3 q4 qz
  go_wp2_with fail
  go_ret
  rw [HO.out, HS.out, HE.out]
  exact ⟨rfl, HM5.out.setPc Y Y0 Y1, HC5.out.trans (Chg.of_set _ _ _ _ _)⟩

theorem step_any (p pm b n : Nat) (s : MSt) (hn : n + 4 ≤ 100000) (w : World) (h : MachAt w p pm b n s) :
    Calls Tryz.prog 14 #[.pointer (some ⟨p, 0, none⟩)] w (RetMach p pm b (n + 4) (.int .i64 (stepO s.M s.pc)) (stepP s) w) :=
  step_go p pm b n 0 s _ _ rfl rfl hn w h

end Go.Proofs.YtndpgakjpokllaaGreat

/- package machine: New, State. -/
namespace Go.Proofs.YtndpgakjpokllaaGreat
open Go.RowKit
set_option linter.unusedVariables false
set_option linter.unusedSimpArgs false
set_option maxRecDepth 100000

/-- A list of 32, written out. -/
theorem list32 (l : List Int) (h : l.length = 32) : ∃ r0 r1 r2 r3 r4 r5 r6 r7 r8 r9 r10 r11 r12 r13 r14 r15 r16 r17 r18 r19 r20 r21 r22 r23 r24 r25 r26 r27 r28 r29 r30 r31, l = [r0, r1, r2, r3, r4, r5, r6, r7, r8, r9, r10, r11, r12, r13, r14, r15, r16, r17, r18, r19, r20, r21, r22, r23, r24, r25, r26, r27, r28, r29, r30, r31] := by
  match l, h with
  | [r0, r1, r2, r3, r4, r5, r6, r7, r8, r9, r10, r11, r12, r13, r14, r15, r16, r17, r18, r19, r20, r21, r22, r23, r24, r25, r26, r27, r28, r29, r30, r31], _ => exact ⟨r0, r1, r2, r3, r4, r5, r6, r7, r8, r9, r10, r11, r12, r13, r14, r15, r16, r17, r18, r19, r20, r21, r22, r23, r24, r25, r26, r27, r28, r29, r30, r31, rfl⟩

theorem range_of {w : World} {g : Nat} {cs : List Value} {more : List Value} {T : TypeId} (h : Has w g (.cells (cs ++ more).toArray T)) : w.rangeAt g 0 cs := fun j v hv => by
  rw [Nat.zero_add]
  refine h.cell j v ?_
  rw [List.getElem?_toArray, List.getElem?_append_left (List.getElem?_eq_some_iff.1 hv).1]
  exact hv

/-- Register 0 is set. -/
theorem MachAt.zero {w : World} {p pm b n : Nat} {s : MSt} (h : MachAt w p pm b n s) : MachAt (w.setCell ⟨p, 0, none⟩ (.int .u32 0)) p pm b n { s with rg := s.rg.set 0 0 } := by
  refine ⟨?_, ⟨⟨by rw [List.length_set]; exact h.len, fun x hx => ?_⟩, h.good.2⟩, ⟨?_, h.mem.2.of_block (Below.heap_setCell w ⟨p, 0, none⟩ _ b (fun e => h.b_ne e.symm))⟩, h.pm_ne, h.b_ne⟩
  · have := h.has.put 0 (.int .u32 0)
    rw [machC_set h.len _ _ 0 (by omega)] at this
    exact this
  · rcases List.mem_or_eq_of_mem_set hx with hx | rfl
    · exact h.good.1.2 x hx
    · omega
  · exact (World.cell?_setCell_far w ⟨p, 0, none⟩ ⟨pm, 0, none⟩ _ h.pm_ne).trans h.mem.1

/-- A new machine. -/
def RetNewM (n : Nat) (s : MSt) (w : World) (e : Ending) (w' : World) : Prop := ∃ p pm b, e = .returned (.pointer (some ⟨p, 0, none⟩)) ∧ w.heap.size ≤ p ∧ w.heap.size ≤ b ∧ MachAt w' p pm b n s ∧ Nx w w'

set_option maxHeartbeats 8000000 in
theorem new_mach (rg : List Int) (pc : Int) (v : Value) (L : List (Int × Int)) (hr : GoodR rg) (p0 : 0 ≤ pc) (p1 : pc < 4294967296) (hL : IsCells L) (hn : L.length ≤ 100000) (w : World) (h : CellsAt w v L) :
    Calls Tryz.prog 8 #[.agg (machC rg pc v)] w (RetNewM L.length ⟨rg.set 0 0, pc, memOf L⟩ w) := by
  have HR := Lib.hid hr
  obtain ⟨r0, r1, r2, r3, r4, r5, r6, r7, r8, r9, r10, r11, r12, r13, r14, r15, r16, r17, r18, r19, r20, r21, r22, r23, r24, r25, r26, r27, r28, r29, r30, r31, hrg⟩ := list32 rg hr.1
  have hlen := hr.1
  have HA := Lib.hid (Has.new w (.cells (machC rg pc v) 26))
  obtain ⟨W, hW⟩ : ∃ x, w.alloc (.cells (machC rg pc v) 26) = x := ⟨_, rfl⟩
  have hnW : Nx w W := by rw [← hW]; exact (Nx.refl w).alloc _
  have C := Lib.hid (fun w' (hw : Nx W w') => new_mem v L hL hn w' (h.nx (hnW.trans hw)))
  rw [hW] at HA
  have KS : ∀ w', Nx W w' → (w'.rangeAt w.heap.size 0 (rg.map (Value.int .u32)) ∧ w'.cell? ⟨w.heap.size, 32, none⟩ = some (.int .u32 pc) ∧ w'.cell? ⟨w.heap.size, 33, none⟩ = some v ∧ Nx W w') := fun w' hw =>
    ⟨range_of (HA.out.nx hw), (HA.out.nx hw).cell 32 _ (machC_pc hlen pc v), (HA.out.nx hw).cell 33 _ (machC_ptr hlen pc v), hw⟩
  have HKS := Lib.hid KS
  have HNW := Lib.hid hnW
  have l23 : (rg.map (Value.int .u32)).length = 32 := by rw [List.length_map]; exact hlen
  have i23 : (Tryz.prog.info? 23).map (·.size) = some (rg.map (Value.int .u32)).length := by rw [l23]; kernel_rfl
  have o23 : ∀ x ∈ rg.map (Value.int .u32), x.oneCell' = true := fun x hx => by
    obtain ⟨y, _, rfl⟩ := List.mem_map.1 hx
    rfl
  have u23 := Tryz.underlying23
  obtain ⟨A, c, rfl, _, _, _⟩ := h.form
  clear h hr KS hnW
  have hWW := Lib.hid hW
  clear hW
  have hml : rg.map (Value.int .u32) = [.int .u32 r0, .int .u32 r1, .int .u32 r2, .int .u32 r3, .int .u32 r4, .int .u32 r5, .int .u32 r6, .int .u32 r7, .int .u32 r8, .int .u32 r9, .int .u32 r10, .int .u32 r11, .int .u32 r12, .int .u32 r13, .int .u32 r14, .int .u32 r15, .int .u32 r16, .int .u32 r17, .int .u32 r18, .int .u32 r19, .int .u32 r20, .int .u32 r21, .int .u32 r22, .int .u32 r23, .int .u32 r24, .int .u32 r25, .int .u32 r26, .int .u32 r27, .int .u32 r28, .int .u32 r29, .int .u32 r30, .int .u32 r31] := by rw [hrg]; rfl
  have HRG := Lib.hid hrg
  rw [hml] at HKS l23 i23 o23
  clear hrg hml
  go_enter Tryz.func8, Tryz.ntmps8
  go_upto_region 1 with fail
  rw [hWW.out]
  go_cut [3] from 4 to 12 (fun pv wx => ∃ p pm b, pv = .pointer (some ⟨p, 0, none⟩) ∧ w.heap.size ≤ p ∧ w.heap.size ≤ b ∧ MachAt wx p pm b L.length ⟨rg, pc, memOf L⟩ ∧ Nx w wx)
  case first =>
    go_region_held3 (fun w' => w'.rangeAt w.heap.size 0 [.int .u32 r0, .int .u32 r1, .int .u32 r2, .int .u32 r3, .int .u32 r4, .int .u32 r5, .int .u32 r6, .int .u32 r7, .int .u32 r8, .int .u32 r9, .int .u32 r10, .int .u32 r11, .int .u32 r12, .int .u32 r13, .int .u32 r14, .int .u32 r15, .int .u32 r16, .int .u32 r17, .int .u32 r18, .int .u32 r19, .int .u32 r20, .int .u32 r21, .int .u32 r22, .int .u32 r23, .int .u32 r24, .int .u32 r25, .int .u32 r26, .int .u32 r27, .int .u32 r28, .int .u32 r29, .int .u32 r30, .int .u32 r31] ∧ w'.cell? ⟨w.heap.size, 32, none⟩ = some (.int .u32 pc) ∧ w'.cell? ⟨w.heap.size, 33, none⟩ = some (.slice A L.length c) ∧ Nx W w')
      ((with_reducible first | exact HKS.out _ ((Nx.refl _).drew) | exact HKS.out _ (by assumption) | exact HKS.out _ (Nx.alloc (by assumption) _)))
      (first | (go_at_call 18; refine (C.out _ (by with_reducible first | exact (Nx.refl _).drew | assumption)).mono ?_; rintro e w2 ⟨pm, b, rfl, hpm, hb, hm, hn2⟩; have hX : Nx W w2 := by with_reducible first | exact ((Nx.refl W).drew).trans hn2 | exact (by assumption : Nx W _).trans hn2))
    all_goals
      have hps := block_lt hm.1
      have hbs := hm.2.lt
      have hws := HNW.out.size
      have hWs : W.heap.size ≤ w2.heap.size := hX.size
      have hbw : W.heap.size ≤ b := hb
      have HM2 := Lib.hid hm
      have HX2 := Lib.hid hX
      clear hm hX hn2 hb hpm
      go_wp2_with fail
      go_meet
      case rel =>
        refine ⟨w2.heap.size, pm, b, rfl, by omega, by omega, ⟨?_, ⟨HR.out, p0, p1, HM2.out.2.bytes⟩, HM2.out.nx ((Nx.refl _).alloc _), ?_, ?_⟩, (HNW.out.trans HX2.out).alloc _⟩
        · rw [HRG.out]
          exact Has.new _ _
        · omega
        · omega
  obtain ⟨p, pm, b, rfl, hp, hb, hm, hnx⟩ := hcut
  obtain ⟨w3, hw3⟩ : ∃ x, x = wc := ⟨_, rfl⟩
  subst hw3
  have c0 := hm.reg 0 (by omega)
  have f0 := hm.free 0
  have hz := hm.has.lt
  have HM := Lib.hid hm
  have HX := Lib.hid hnx
  clear hm hnx l23 i23 o23 u23
  go_wp2_with fail
  go_ret
  exact ⟨p, pm, b, rfl, hp, hb, HM.out.zero, HX.out.setCell hp _⟩

end Go.Proofs.YtndpgakjpokllaaGreat

/- typecaseref07: the machine in memory; Fetch. -/
namespace Go.Proofs.YtndpgakjpokllaaGreat
open Go.RowKit
set_option linter.unusedVariables false
set_option linter.unusedSimpArgs false
set_option maxRecDepth 100000

/-- The document's machine in memory. -/
structure Ref7At (w : World) (base q qm n : Nat) (s : MSt) : Prop where
  has : Has w q (.cells (machC s.rg s.pc (.pointer (some ⟨qm, 0, none⟩))) 57)
  good : Good s
  mem : RefAt w base qm n s.M
  low : base ≤ q
  ne : q ≠ qm

theorem Ref7At.nx {w w' : World} {base q qm n : Nat} {s : MSt} (h : Ref7At w base q qm n s) (hn : Nx w w') : Ref7At w' base q qm n s := ⟨h.has.nx hn, h.good, h.mem.nx hn, h.low, h.ne⟩

theorem Ref7At.len {w : World} {base q qm n : Nat} {s : MSt} (h : Ref7At w base q qm n s) : s.rg.length = 32 := h.good.1.1

theorem Ref7At.reg {w : World} {base q qm n : Nat} {s : MSt} (h : Ref7At w base q qm n s) (i : Nat) (hi : i < 32) : w.cell? ⟨q, i, none⟩ = some (.int .u32 (s.rg.getD i 0)) := h.has.cell i _ (machC_reg h.len _ _ i hi)

theorem Ref7At.pcc {w : World} {base q qm n : Nat} {s : MSt} (h : Ref7At w base q qm n s) : w.cell? ⟨q, 32, none⟩ = some (.int .u32 s.pc) := h.has.cell 32 _ (machC_pc h.len _ _)

theorem Ref7At.ptr {w : World} {base q qm n : Nat} {s : MSt} (h : Ref7At w base q qm n s) : w.cell? ⟨q, 33, none⟩ = some (.pointer (some ⟨qm, 0, none⟩)) := h.has.cell 33 _ (machC_ptr h.len _ _)

theorem Ref7At.free {w : World} {base q qm n : Nat} {s : MSt} (h : Ref7At w base q qm n s) (i : Nat) : w.frozen? ⟨q, i, none⟩ = false := h.has.free i

theorem Ref7At.mono {w : World} {base q qm n n' : Nat} {s : MSt} (h : Ref7At w base q qm n s) (hn : n ≤ n') : Ref7At w base q qm n' s := ⟨h.has, h.good, h.mem.mono hn, h.low, h.ne⟩

/-- A block of machines is no row of cells. -/
theorem mach_far {cs : Array Value} {fz : Nat × Nat} : ∀ (cur : Array Value) (fz2 : Nat × Nat), Obj.cells cs 57 fz ≠ .cells cur 43 fz2 := fun cur fz2 e => by
  injection e with e1 e2 e3
  exact absurd e2 (by decide)

/-- A store into the machine's block leaves its memory. -/
theorem RefAt.far {w : World} {base qm n : Nat} {M : Int → Int} (h : RefAt w base qm n M) {q : Nat} {o : Obj} (hq : Has w q o) (ho : ∀ cur fz, o ≠ .cells cur 43 fz) (hne : q ≠ qm) (i : Nat) (u : Value) : RefAt (w.setCell ⟨q, i, none⟩ u) base qm n M := by
  obtain ⟨v, l, h1, h2, h3, h4⟩ := h
  refine ⟨v, l, h1.far (p := ⟨q, i, none⟩) (fun e => hne e.symm) _, h2, h3.kept fun k hk hv => Below.heap_setCell w ⟨q, i, none⟩ u k (fun e => ?_), h4⟩
  exact own_ne h3 hq ho (by rw [hv, e])

theorem Ref7At.setReg {w : World} {base q qm n : Nat} {s : MSt} (h : Ref7At w base q qm n s) (i : Nat) (h0 : 0 < i) (hi : i < 32) (v : Int) (v0 : 0 ≤ v) (v1 : v < 4294967296) :
    Ref7At (w.setCell ⟨q, i, none⟩ (.int .u32 v)) base q qm n { s with rg := setR s.rg i v } := by
  have e : setR s.rg i v = s.rg.set i v := by
    unfold setR
    rw [if_neg (by omega)]
    rfl
  refine ⟨?_, ⟨setR_good h.good.1 _ _ v0 v1, h.good.2⟩, h.mem.far h.has mach_far h.ne _ _, h.low, h.ne⟩
  have := h.has.put i (.int .u32 v)
  rw [machC_set h.len _ _ i hi] at this
  rw [e]
  exact this

theorem Ref7At.zero {w : World} {base q qm n : Nat} {s : MSt} (h : Ref7At w base q qm n s) : Ref7At (w.setCell ⟨q, 0, none⟩ (.int .u32 0)) base q qm n { s with rg := s.rg.set 0 0 } := by
  refine ⟨?_, ⟨⟨by rw [List.length_set]; exact h.len, fun x hx => ?_⟩, h.good.2⟩, h.mem.far h.has mach_far h.ne _ _, h.low, h.ne⟩
  · have := h.has.put 0 (.int .u32 0)
    rw [machC_set h.len _ _ 0 (by omega)] at this
    exact this
  · rcases List.mem_or_eq_of_mem_set hx with hx | rfl
    · exact h.good.1.2 x hx
    · omega

theorem Ref7At.setPc {w : World} {base q qm n : Nat} {s : MSt} (h : Ref7At w base q qm n s) (v : Int) (v0 : 0 ≤ v) (v1 : v < 4294967296) : Ref7At (w.setCell ⟨q, 32, none⟩ (.int .u32 v)) base q qm n { s with pc := v } := by
  refine ⟨?_, ⟨h.good.1, v0, v1, h.good.2.2.2⟩, h.mem.far h.has mach_far h.ne _ _, h.low, h.ne⟩
  have := h.has.put 32 (.int .u32 v)
  rw [machC_setpc h.len] at this
  exact this

/-- The memory turned. -/
theorem Ref7At.turn {w w' : World} {base q qm n n' : Nat} {s : MSt} {M : Int → Int} (h : Ref7At w base q qm n s) (hm : RefAt w' base qm n' M) (hf : FarR qm w w') : Ref7At w' base q qm n' { s with M := M } :=
  ⟨hf q _ h.has h.ne mach_far, ⟨h.good.1, h.good.2.1, h.good.2.2.1, hm.bytes⟩, hm, h.low, h.ne⟩

theorem load_nx (base qm n : Nat) (M : Int → Int) (a : Int) (k : Nat) (hk : k ≤ 4) (hn : n ≤ 100000) (h0 : 0 ≤ a) (h1 : a < 4294967296) (w : World) (h : RefAt w base qm n M) :
    Calls Tryz.prog 24 #[.pointer (some ⟨qm, 0, none⟩), .int .u32 a, .int .i64 k] w fun e w' => e = .returned (.int .u32 (loadM M a k)) ∧ Nx w w' :=
  (load_ref base qm n M a k hk hn h0 h1 w h).mono fun _ _ h => ⟨h.1, Nx.of_eq h.2.symm⟩

theorem rexpand_ins (x : Int) (w : World) (hx : 0 ≤ x) (hx' : x < 65536) : Calls Tryz.prog 25 #[.int .u16 x] w (RetIns (expI x) (!((expI x).op == 0)) w) := by
  have := rexp_any x w hx hx'
  rw [← exp_pos] at this
  exact this

theorem rdecode_ins (x : Int) (w : World) (hx : 0 ≤ x) (hx' : x < 4294967296) : Calls Tryz.prog 26 #[.int .u32 x] w (RetIns (decJ x) (!((decJ x).op == 0)) w) := by
  have := rdecode_any x w hx hx'
  have e : (!((decP x).op == 0)) = (!((decJ x).op == 0)) := by
    unfold decJ
    by_cases h : (decP x).op = 0
    · rw [if_pos h, h]; rfl
    · rw [if_neg h]
  rw [e] at this
  exact this

end Go.Proofs.YtndpgakjpokllaaGreat

/- typecaseref07: Fetch. -/
namespace Go.Proofs.YtndpgakjpokllaaGreat
open Go.RowKit
set_option linter.unusedVariables false
set_option linter.unusedSimpArgs false
set_option maxRecDepth 100000

/-- What is held of the world. -/
theorem held2 {w1 w' : World} {a b : Addr} {x y : Value} (ha : w1.cell? a = some x) (hb : w1.cell? b = some y) (hn : Nx w1 w') : w'.cell? a = some x ∧ w'.cell? b = some y ∧ Nx w1 w' := ⟨hn.cell ha, hn.cell hb, hn⟩

theorem nx_drewl {w w2 : World} {o : Obj} (h : Nx (w.drew.alloc o) w2) : Nx (w.alloc o) w2 := ⟨h.os, h.tape, h.output, h.size, h.block⟩

set_option maxHeartbeats 4000000 in
theorem rfetch_any (base q qm n : Nat) (s : MSt) (hn : n ≤ 100000) (w : World) (h : Ref7At w base q qm n s) : Calls Tryz.prog 13 #[.pointer (some ⟨q, 0, none⟩)] w (RetFet (fetI s.M s.pc) (fetN s.M s.pc) w) := by
  obtain ⟨l0, l1⟩ := loadM_bounds h.good.2.2.2 s.pc 2
  obtain ⟨x0, x1⟩ := load_u32 h.good.2.2.2 s.pc 4 (by omega)
  have l2 : loadM s.M s.pc 2 < 65536 := by simpa using l1
  have hnone := fet_none s.M s.pc
  have L2 : Hid (∀ w', Nx w w' → Calls Tryz.prog 24 #[.pointer (some ⟨qm, 0, none⟩), .int .u32 s.pc, .int .i64 2] w' fun e w'' => e = .returned (.int .u32 (loadM s.M s.pc 2)) ∧ Nx w' w'') :=
    Lib.hid fun w' hw => load_nx base qm n s.M s.pc 2 (by omega) hn h.good.2.1 h.good.2.2.1 w' (h.mem.nx hw)
  have L4 : Hid (∀ w', Nx w w' → Calls Tryz.prog 24 #[.pointer (some ⟨qm, 0, none⟩), .int .u32 s.pc, .int .i64 4] w' fun e w'' => e = .returned (.int .u32 (loadM s.M s.pc 4)) ∧ Nx w' w'') :=
    Lib.hid fun w' hw => load_nx base qm n s.M s.pc 4 (by omega) hn h.good.2.1 h.good.2.2.1 w' (h.mem.nx hw)
  have cp := h.pcc
  have cq := h.ptr
  have hq := h.has.lt
  have E := Lib.hid (fun w => rexpand_ins (loadM s.M s.pc 2) w l0 l2)
  have D : Hid (∀ w, Calls Tryz.prog 26 #[.int .u32 (loadM s.M s.pc 4)] w fun e w' => e = .returned (.tuple #[.agg #[.int .i64 (decJ (loadM s.M s.pc 4)).op, .int .i64 (decJ (loadM s.M s.pc 4)).rd, .int .i64 (decJ (loadM s.M s.pc 4)).rs1, .int .i64 (decJ (loadM s.M s.pc 4)).rs2, .int .i32 (decJ (loadM s.M s.pc 4)).imm], .bool (!((decJ (loadM s.M s.pc 4)).op == 0))]) ∧ Nx w w') := Lib.hid (fun w => rdecode_ins (loadM s.M s.pc 4) w x0 x1)
  have hI : fetI s.M s.pc = if loadM s.M s.pc 2 % 4 = 3 then (if loadM s.M s.pc 2 / 4 % 8 = 7 then none5 else decJ (loadM s.M s.pc 4)) else expI (loadM s.M s.pc 2) := rfl
  have hN : fetN s.M s.pc = if (fetI s.M s.pc).op = 0 then 0 else if loadM s.M s.pc 2 % 4 = 3 then 4 else 2 := rfl
  obtain ⟨P, hP⟩ : ∃ x, s.pc = x := ⟨_, rfl⟩
  obtain ⟨I, hII⟩ : ∃ x, fetI s.M s.pc = x := ⟨_, rfl⟩
  obtain ⟨N, hNN⟩ : ∃ x, fetN s.M s.pc = x := ⟨_, rfl⟩
  obtain ⟨L, hL⟩ : ∃ x, loadM s.M s.pc 2 = x := ⟨_, rfl⟩
  obtain ⟨X, hX⟩ : ∃ x, loadM s.M s.pc 4 = x := ⟨_, rfl⟩
  rw [hII] at hI hnone hN ⊢
  rw [hNN] at hN ⊢
  rw [hL] at l0 l2 L2 E hI hN
  rw [hX] at x0 x1 L4 D hI
  rw [hP] at cp L2 L4
  clear h l1 hL hX hNN hII hP
  go_enter Tryz.func13, Tryz.ntmps13
  go_upto_region 1 with fail
  go_cut [5] from 10 to 18 (fun v wx => v = .int .u32 L ∧ Nx (w.alloc (.cells #[.int .i64 0, .int .i64 0, .int .i64 0, .int .i64 0, .int .i32 0] 35)) wx)
  case first =>
    (refine wp_region_nx 9 (by kernel_rfl) (by kernel_rfl) ?_; simp only [List.take_succ_cons, List.take_zero, List.drop_succ_cons, List.drop_zero]; (repeat (refine wpQuiet_step (fun K hK => ?_); go_simp; first | (refine hK _ ?_; clear hK K) | (apply Exists.intro; refine ⟨fun w' hw' => ?_, hK _ ?_⟩; (first | (with_reducible rfl) | (go_at_call 24; with_reducible exact (L2.out _ (((Nx.refl w).alloc _).trans hw')).mono fun _ _ h => ⟨h.1, hw'.trans h.2⟩) | (obtain ⟨hc, hf⟩ := nx_cells hw'; go_simp; with_reducible rfl) | (obtain ⟨hc, hf⟩ := nx_cells hw'; go_simp; rfl)); clear hK K))); refine wpQuiet_nil ?_; intro w1 hn1)
    have HN1 := Lib.hid hn1
    clear hn1
    go_wp2_with fail
    go_meet
    case rel => exact ⟨rfl, HN1.out⟩
  obtain ⟨rfl, hn⟩ := hcut
  obtain ⟨w1, hw1⟩ : ∃ x, x = wc := ⟨_, rfl⟩
  subst hw1
  obtain ⟨c0, c1, c2, c3, c4, z0, z1, z2, z3, z4, hz⟩ := five_cells hn
  have hb := Lib.hid (((Nx.refl w).alloc _).trans hn)
  clear hn L2
  have cp := hb.out.cell cp
  have cq := hb.out.cell cq
  have hq := block_lt cq
  by_cases h3 : L % 4 = 3
  · rw [if_pos h3] at hI hN
    have h3b : ((L % 4) != 3) = false := by rw [h3]; rfl
    by_cases h7 : L / 4 % 8 = 7
    · rw [if_pos h7] at hI
      subst hI
      have hN0 : N = 0 := hN
      subst hN0
      have h7b : ((L / 4 % 8) == 7) = true := by rw [h7]; rfl
      clear hN hnone h3 h7
      go_wp2_with fail
      refine bodyPost_ret (v := .tuple #[.agg #[.int .i64 0, .int .i64 0, .int .i64 0, .int .i64 0, .int .i32 0], .int .i64 0, .bool false]) (by simp [results, Tryz.results13, go_sem, c0, c1, c2, c3, c4, hz]) rfl ⟨rfl, ?_⟩
      repeat (with_reducible first | exact hb.out | refine Nx.alloc ?_ _ | refine Nx.setCell ?_ (Nat.le_refl _) _)
    · rw [if_neg h7] at hI
      have h7b : ((L / 4 % 8) == 7) = false := by rw [beq_eq_false_iff_ne]; exact h7
      rw [← hI] at D
      have HI := Lib.hid hI
      clear hI h3 h7
      obtain ⟨op, rd, rs1, rs2, imm⟩ := I
      go_upto_region 9 with fail
      go_cut [8, 9] from 36 to 48 (fun pv bv wx => ∃ q8, pv = .pointer (some ⟨q8, 0, none⟩) ∧ bv = .bool (!(op == 0)) ∧ (wx.cell? ⟨q8, 0, none⟩ = some (.int .i64 op) ∧ wx.cell? ⟨q8, 1, none⟩ = some (.int .i64 rd) ∧ wx.cell? ⟨q8, 2, none⟩ = some (.int .i64 rs1) ∧ wx.cell? ⟨q8, 3, none⟩ = some (.int .i64 rs2) ∧ wx.cell? ⟨q8, 4, none⟩ = some (.int .i32 imm)) ∧ Nx w1 wx)
      case first =>
        go_region_held3 (fun w' => w'.cell? ⟨q, 32, none⟩ = some (.int .u32 P) ∧ w'.cell? ⟨q, 33, none⟩ = some (.pointer (some ⟨qm, 0, none⟩)) ∧ Nx w1 w')
          ((refine held2 cp cq ?_; repeat (with_reducible first | assumption | exact Nx.refl _ | refine Nx.drew ?_ | refine Nx.alloc ?_ _ | refine Nx.setCell ?_ le2 _ | refine Nx.setCell ?_ le3 _ | refine Nx.setCell ?_ (Nat.le_refl _) _)))
          (first
            | (go_at_call 24; refine (L4.out _ (hb.out.trans (by repeat (with_reducible first | assumption | exact Nx.refl _ | refine Nx.drew ?_ | refine Nx.alloc ?_ _)))).mono ?_; rintro e w2 ⟨rfl, hn2⟩; have hX2 : Nx w1 w2 := (Nx.trans (by repeat (with_reducible first | assumption | exact Nx.refl _ | refine Nx.drew ?_ | refine Nx.alloc ?_ _)) hn2); have le2 := Nx.size hX2; first | (have hq2 := @nx_drewl _ _ _ hn2; obtain ⟨d0, d1, d2, d3, d4, y0, y1, y2, y3, y4, hd⟩ := five_cells hq2) | skip)
            | (go_at_call 26; refine (D.out _).mono ?_; rintro e w3 ⟨rfl, hn3⟩; have hX3 : Nx w1 w3 := (Nx.trans (by repeat (with_reducible first | assumption | exact Nx.refl _ | refine Nx.drew ?_ | refine Nx.alloc ?_ _)) hn3); have le3 := Nx.size hX3; first | (have e0 := hn3.cell d0; have e1 := hn3.cell d1; have e2 := hn3.cell d2; have e3 := hn3.cell d3; have e4 := hn3.cell d4; have x0 := (hn3.frozen (p := ⟨w1.heap.size, 0, none⟩) hd).trans y0; have x1 := (hn3.frozen (p := ⟨w1.heap.size, 1, none⟩) hd).trans y1; have x2 := (hn3.frozen (p := ⟨w1.heap.size, 2, none⟩) hd).trans y2; have x3 := (hn3.frozen (p := ⟨w1.heap.size, 3, none⟩) hd).trans y3; have x4 := (hn3.frozen (p := ⟨w1.heap.size, 4, none⟩) hd).trans y4) | (have hq3 := @five_cells _ _ _ _ _ _ _ _ hn3; obtain ⟨e0, e1, e2, e3, e4, x0, x1, x2, x3, x4, he⟩ := hq3) | skip))
        all_goals
          go_wp2_with fail
          go_meet
          case rel =>
            refine ⟨_, rfl, rfl, ⟨?_, ?_, ?_, ?_, ?_⟩, ?_⟩
            · first | (simp [go_sem]; done) | (simp [go_sem, e0, e1, e2, e3, e4]; done)
            · first | (simp [go_sem]; done) | (simp [go_sem, e0, e1, e2, e3, e4]; done)
            · first | (simp [go_sem]; done) | (simp [go_sem, e0, e1, e2, e3, e4]; done)
            · first | (simp [go_sem]; done) | (simp [go_sem, e0, e1, e2, e3, e4]; done)
            · first | (simp [go_sem]; done) | (simp [go_sem, e0, e1, e2, e3, e4]; done)
            · repeat (with_reducible first | assumption | exact Nx.refl _ | refine Nx.drew ?_ | refine Nx.alloc ?_ _ | refine Nx.setCell ?_ le2 _ | refine Nx.setCell ?_ le3 _ | refine Nx.setCell ?_ (Nat.le_refl _) _)
      obtain ⟨q8, rfl, rfl, ⟨g0, g1, g2, g3, g4⟩, hX8⟩ := hcut
      have hz8 := block_lt g0
      obtain ⟨w8, hw8⟩ : ∃ x, x = wc := ⟨_, rfl⟩
      subst hw8
      have b0 := hX8.cell c0
      have b1 := hX8.cell c1
      have b2 := hX8.cell c2
      have b3 := hX8.cell c3
      have b4 := hX8.cell c4
      have y0 := (hX8.frozen (p := ⟨w.heap.size, 0, none⟩) hz).trans z0
      have y1 := (hX8.frozen (p := ⟨w.heap.size, 1, none⟩) hz).trans z1
      have y2 := (hX8.frozen (p := ⟨w.heap.size, 2, none⟩) hz).trans z2
      have y3 := (hX8.frozen (p := ⟨w.heap.size, 3, none⟩) hz).trans z3
      have y4 := (hX8.frozen (p := ⟨w.heap.size, 4, none⟩) hz).trans z4
      have hz9 : w.heap.size < w8.heap.size := Nat.lt_of_lt_of_le hz hX8.size
      have hb8 := Lib.hid (hb.out.trans hX8)
      clear c0 c1 c2 c3 c4 z0 z1 z2 z3 z4 hz hX8 cp cq hq hb
      by_cases h0 : op = 0
      · have e := hnone h0
        cases e
        have hN0 : N = 0 := hN
        subst hN0
        clear hN hnone h0
        go_wp2_with fail
        refine bodyPost_ret (v := .tuple #[.agg #[.int .i64 0, .int .i64 0, .int .i64 0, .int .i64 0, .int .i32 0], .int .i64 0, .bool false]) (by simp [results, Tryz.results13, go_sem, b0, b1, b2, b3, b4, hz9]) rfl ⟨rfl, ?_⟩
        repeat (with_reducible first | exact hb8.out | refine Nx.alloc ?_ _ | refine Nx.setCell ?_ (Nat.le_refl _) _)
      · have hb0 : (op == 0) = false := beq_eq_false_iff_ne.2 h0
        rw [if_neg h0] at hN
        subst hN
        rw [hb0]
        have HR := Lib.hid (fun w' (hn : Nx w w') => (show RetFet ⟨op, rd, rs1, rs2, imm⟩ 4 w (.returned (.tuple #[.agg #[.int .i64 op, .int .i64 rd, .int .i64 rs1, .int .i64 rs2, .int .i32 imm], .int .i64 4, .bool true])) w' from ⟨by rw [hb0]; rfl, hn⟩))
        clear hnone h0
        go_wp2_with fail
        refine bodyPost_ret (v := .tuple #[.agg #[.int .i64 op, .int .i64 rd, .int .i64 rs1, .int .i64 rs2, .int .i32 imm], .int .i64 4, .bool true]) (by simp [results, Tryz.results13, go_sem, b0, b1, b2, b3, b4, hz9]) rfl (HR.out _ ?_)
        repeat (with_reducible first | exact hb8.out | refine Nx.alloc ?_ _ | refine Nx.setCell ?_ (Nat.le_refl _) _)
  · rw [if_neg h3] at hI hN
    have h3b : ((L % 4) != 3) = true := by rw [bne_iff_ne]; exact h3
    have l6 : L < 65536 := l2
    rw [← hI] at E
    have HI := Lib.hid hI
    clear hI h3
    obtain ⟨op, rd, rs1, rs2, imm⟩ := I
    go_upto_region 4 with (go_at_call 25; refine (E.out _).mono ?_; rintro e w2 ⟨rfl, hn2⟩; have hX2 := hn2; clear hn2)
    have hX8 : Nx w1 (w2.alloc (.cells #[.int .i64 op, .int .i64 rd, .int .i64 rs1, .int .i64 rs2, .int .i32 imm] 35)) := hX2.alloc _
    have b0 := hX2.cell c0
    have b1 := hX2.cell c1
    have b2 := hX2.cell c2
    have b3 := hX2.cell c3
    have b4 := hX2.cell c4
    have y0 := (hX2.frozen (p := ⟨w.heap.size, 0, none⟩) hz).trans z0
    have y1 := (hX2.frozen (p := ⟨w.heap.size, 1, none⟩) hz).trans z1
    have y2 := (hX2.frozen (p := ⟨w.heap.size, 2, none⟩) hz).trans z2
    have y3 := (hX2.frozen (p := ⟨w.heap.size, 3, none⟩) hz).trans z3
    have y4 := (hX2.frozen (p := ⟨w.heap.size, 4, none⟩) hz).trans z4
    have hz9 : w.heap.size < w2.heap.size := Nat.lt_of_lt_of_le hz hX2.size
    have hb8 := Lib.hid (hb.out.trans hX2)
    clear c0 c1 c2 c3 c4 z0 z1 z2 z3 z4 hz hX8 hX2 cp cq hq hb
    by_cases h0 : op = 0
    · have e := hnone h0
      cases e
      have hN0 : N = 0 := hN
      subst hN0
      clear hN hnone h0
      go_wp2_with fail
      refine bodyPost_ret (v := .tuple #[.agg #[.int .i64 0, .int .i64 0, .int .i64 0, .int .i64 0, .int .i32 0], .int .i64 0, .bool false]) (by simp [results, Tryz.results13, go_sem, b0, b1, b2, b3, b4, hz9]) rfl ⟨rfl, ?_⟩
      repeat (with_reducible first | exact hb8.out | refine Nx.alloc ?_ _ | refine Nx.setCell ?_ (Nat.le_refl _) _)
    · have hb0 : (op == 0) = false := beq_eq_false_iff_ne.2 h0
      rw [if_neg h0] at hN
      subst hN
      rw [hb0]
      have HR := Lib.hid (fun w' (hn : Nx w w') => (show RetFet ⟨op, rd, rs1, rs2, imm⟩ 2 w (.returned (.tuple #[.agg #[.int .i64 op, .int .i64 rd, .int .i64 rs1, .int .i64 rs2, .int .i32 imm], .int .i64 2, .bool true])) w' from ⟨by rw [hb0]; rfl, hn⟩))
      clear hnone h0
      go_wp2_with fail
      refine bodyPost_ret (v := .tuple #[.agg #[.int .i64 op, .int .i64 rd, .int .i64 rs1, .int .i64 rs2, .int .i32 imm], .int .i64 2, .bool true]) (by simp [results, Tryz.results13, go_sem, b0, b1, b2, b3, b4, hz9]) rfl (HR.out _ ?_)
      repeat (with_reducible first | exact hb8.out | refine Nx.alloc ?_ _ | refine Nx.setCell ?_ (Nat.le_refl _) _)

end Go.Proofs.YtndpgakjpokllaaGreat

/- typecaseref07: Step. -/
namespace Go.Proofs.YtndpgakjpokllaaGreat
open Go.RowKit
set_option linter.unusedVariables false
set_option linter.unusedSimpArgs false
set_option maxRecDepth 100000

/-- What comes of what turns the document's machine. -/
def Ret7 (base q qm n : Nat) (v : Value) (s : MSt) (w : World) (e : Ending) (w' : World) : Prop := e = .returned v ∧ Ref7At w' base q qm n s ∧ Below base w w'

theorem ins_far {cs : Array Value} {fz : Nat × Nat} : ∀ (cur : Array Value) (fz2 : Nat × Nat), Obj.cells cs 35 fz ≠ .cells cur 43 fz2 := fun cur fz2 e => by
  injection e with e1 e2 e3
  exact absurd e2 (by decide)

/-- What holds in the middle. -/
def Mid7 (base q qm n q8 : Nat) (i : In5) (s : MSt) (w wx : World) : Prop := Ref7At wx base q qm n s ∧ Has wx q8 (.cells (insA i) 35) ∧ Below base w wx

theorem below_nx {base : Nat} {a b c : World} (h : Below base a b) (hb : base ≤ b.heap.size) (k : Nx b c) : Below base a c := Below.trans h (Below.mono k hb)

set_option maxHeartbeats 4000000 in
theorem rstep_go (base q qm n q8' : Nat) (s : MSt) (i : In5) (sz : Int) (hi : fetI s.M s.pc = i) (hs : fetN s.M s.pc = sz) (hn : n + 4 ≤ 100000) (w : World) (h : Ref7At w base q qm n s) :
    Calls Tryz.prog 15 #[.pointer (some ⟨q, 0, none⟩)] w (Ret7 base q qm (n + 4) (.int .i64 (stepO s.M s.pc)) (stepP s) w) := by
  have H := Lib.hid h
  have CF := Lib.hid (rfetch_any base q qm n s (by omega) w h)
  rw [hi, hs] at CF
  have hO : stepO s.M s.pc = if i.op = 0 then 3 else if i.op = 39 then 1 else if i.op = 40 then 2 else 0 := by unfold stepO; rw [hi]
  have hS : stepP s = if stepO s.M s.pc = 0 then goP s i sz else s := by unfold stepP; rw [hi, hs]
  have hm := fet_may s.M s.pc
  have him := fet_imm s.M s.pc
  rw [hi] at hm him
  have hp := h.has.lt
  have hbase : base ≤ w.heap.size := Nat.le_of_lt (Nat.lt_of_le_of_lt h.low hp)
  have hqm : qm < w.heap.size := by
    obtain ⟨v, l, h1, _⟩ := h.mem
    exact h1.lt
  clear h hi hs
  obtain ⟨op, rd, rs1, rs2, imm⟩ := i
  dsimp only at hO hm him
  go_enter Tryz.func15, Tryz.ntmps15
  go_upto_region 1 with fail
  go_cut [3, 4, 5] from 14 to 19 (fun iv nv ov wx => ∃ q8, iv = .pointer (some ⟨q8, 0, none⟩) ∧ nv = .int .i64 sz ∧ ov = .bool (!(op == 0)) ∧ Has wx q8 (.cells (insA ⟨op, rd, rs1, rs2, imm⟩) 35) ∧ Nx w wx ∧ w.heap.size ≤ q8)
  case first =>
    go_wp2_with (go_at_call 13; refine CF.out.mono ?_; rintro e w1 ⟨rfl, hn1⟩; have HN1 := Lib.hid hn1; clear hn1)
    go_meet
    case rel => exact ⟨w1.heap.size, rfl, rfl, rfl, Has.new _ _, HN1.out.alloc _, HN1.out.size⟩
  obtain ⟨q8, rfl, rfl, rfl, hq, hnx, hwq⟩ := hcut
  obtain ⟨w1, hw1⟩ : ∃ x, x = wc := ⟨_, rfl⟩
  subst hw1
  have HQ := Lib.hid hq
  have HNX := Lib.hid hnx
  have HM := Lib.hid (H.out.nx hnx)
  have hqq : q8 ≠ q := by omega
  have hqqm : q8 ≠ qm := by omega
  have q0 : w1.cell? ⟨q8, 0, none⟩ = some (.int .i64 op) := hq.cell 0 _ rfl
  have q1 : w1.cell? ⟨q8, 1, none⟩ = some (.int .i64 rd) := hq.cell 1 _ rfl
  have q2 : w1.cell? ⟨q8, 2, none⟩ = some (.int .i64 rs1) := hq.cell 2 _ rfl
  have q3 : w1.cell? ⟨q8, 3, none⟩ = some (.int .i64 rs2) := hq.cell 3 _ rfl
  have q4 : w1.cell? ⟨q8, 4, none⟩ = some (.int .i32 imm) := hq.cell 4 _ rfl
  have qz := hq.lt
  have hb1 : base ≤ w1.heap.size := Nat.le_trans hbase hnx.size
  clear hq hnx hwq
  by_cases h0 : op = 0
  · subst h0
    rw [if_pos rfl] at hO
    rw [hO, if_neg (by decide)] at hS
    have HO := Lib.hid hO
    have HS := Lib.hid hS
    clear hO hS hm him
    go_wp2_with fail
    go_ret
    rw [HO.out, HS.out]
    exact ⟨rfl, HM.out.mono (by omega), Below.mono HNX.out hbase⟩
  rw [if_neg h0] at hO
  have hb0 : (op == 0) = false := beq_eq_false_iff_ne.2 h0
  by_cases h39 : op = 39
  · subst h39
    rw [if_pos rfl] at hO
    rw [hO, if_neg (by decide)] at hS
    have HO := Lib.hid hO
    have HS := Lib.hid hS
    clear hO hS hm him
    go_wp2_with fail
    go_ret
    rw [HO.out, HS.out]
    exact ⟨rfl, HM.out.mono (by omega), Below.mono HNX.out hbase⟩
  rw [if_neg h39] at hO
  have hb39 : (op == 39) = false := beq_eq_false_iff_ne.2 h39
  by_cases h40 : op = 40
  · subst h40
    rw [if_pos rfl] at hO
    rw [hO, if_neg (by decide)] at hS
    have HO := Lib.hid hO
    have HS := Lib.hid hS
    clear hO hS hm him
    go_wp2_with fail
    go_ret
    rw [HO.out, HS.out]
    exact ⟨rfl, HM.out.mono (by omega), Below.mono HNX.out hbase⟩
  rw [if_neg h40] at hO
  have hb40 : (op == 40) = false := beq_eq_false_iff_ne.2 h40
  rw [show (!(op == 0)) = true by rw [hb0]; rfl]
  rw [hO, if_pos rfl] at hS
  have HO := Lib.hid hO
  have HS := Lib.hid hS
  have HMay := Lib.hid (hm h0)
  obtain ⟨⟨r0, r1⟩, ⟨s0, s1⟩, ⟨t0, t1⟩⟩ := may_regs (hm h0)
  obtain ⟨im0, im1⟩ := him
  clear hO hS hm
  have s32 : rs1 < 32 := by omega
  have t32 : rs2 < 32 := by omega
  have cA : w1.cell? ⟨q, rs1.toNat, none⟩ = some (.int .u32 (getR s.rg rs1)) := HM.out.reg rs1.toNat (by omega)
  have cB : w1.cell? ⟨q, rs2.toNat, none⟩ = some (.int .u32 (getR s.rg rs2)) := HM.out.reg rs2.toNat (by omega)
  obtain ⟨A0, A1⟩ := getR_bd HM.out.good.1 rs1
  obtain ⟨B0, B1⟩ := getR_bd HM.out.good.1 rs2
  obtain ⟨A, hA⟩ : ∃ x, getR s.rg rs1 = x := ⟨_, rfl⟩
  obtain ⟨B, hB⟩ : ∃ x, getR s.rg rs2 = x := ⟨_, rfl⟩
  rw [hA] at cA A0 A1
  rw [hB] at cB B0 B1
  have HA := Lib.hid hA
  have HB := Lib.hid hB
  clear hA hB
  have hp1 : q < w1.heap.size := HM.out.has.lt
  go_upto_region 6 with fail
  go_cut [6] from 33 to 39 (fun av wx => av = .int .u32 A ∧ Nx w1 wx)
  case first =>
    go_wp2_with fail
    go_quiet (fail)
    go_wp2_with fail
    go_meet
    case rel => exact ⟨rfl, (Nx.refl _).drewN _⟩
  obtain ⟨rfl, hn2⟩ := hcut
  obtain ⟨w2, hw2⟩ : ∃ x, x = wc := ⟨_, rfl⟩
  subst hw2
  have HN12 := Lib.hid hn2
  have cB := hn2.cell cB
  have q3 := hn2.cell q3
  have hp2 : q < w2.heap.size := block_lt cB
  have qz2 := block_lt q3
  clear hn2
  go_upto_region 7 with fail
  go_cut [7] from 40 to 46 (fun bv wx => bv = .int .u32 B ∧ Nx w2 wx)
  case first =>
    go_wp2_with fail
    go_quiet (fail)
    go_wp2_with fail
    go_meet
    case rel => exact ⟨rfl, (Nx.refl _).drewN _⟩
  obtain ⟨rfl, hn3⟩ := hcut
  obtain ⟨w3, hw3⟩ : ∃ x, x = wc := ⟨_, rfl⟩
  subst hw3
  have HN13 := Lib.hid (HN12.out.trans hn3)
  have HQ2 := Lib.hid (HQ.out.nx HN13.out)
  have HM2 := Lib.hid (HM.out.nx HN13.out)
  have HN2 := Lib.hid (HNX.out.trans HN13.out)
  clear hn3 HN12 HN13 cA cB q0 q1 q2 q3 q4 qz qz2 hp1 hp2 HQ HM HNX
  have CAc : Hid (∀ w, Calls Tryz.prog 34 #[.agg #[.int .i64 op, .int .i64 rd, .int .i64 rs1, .int .i64 rs2, .int .i32 imm], .int .u32 A] w fun e w' => e = .returned (.tuple #[.int .u32 (accA op A imm), .int .i64 (accN op), .bool (accS op), .bool (accG op)]) ∧ Nx w w') := Lib.hid fun w => by
    have := raccess_any op rd rs1 rs2 imm A w im0 im1 A0 A1
    rw [HMay.out] at this
    exact this
  have CVa : Hid (∀ w P, 0 ≤ P → P < 4294967296 → Calls Tryz.prog 35 #[.agg #[.int .i64 op, .int .i64 rd, .int .i64 rs1, .int .i64 rs2, .int .i32 imm], .int .u32 A, .int .u32 B, .int .u32 P, .int .i64 sz] w fun e w' => e = .returned (.tuple #[.int .u32 (valX true op A B P imm sz), .bool (valO op)]) ∧ Nx w w') := Lib.hid fun w P h1 h2 => by
    have := rvalue_any op rd rs1 rs2 imm A B P sz w im0 im1 A0 A1 B0 B1 h1 h2
    rw [HMay.out] at this
    exact this
  have CNe : Hid (∀ w P, 0 ≤ P → P < 4294967296 → Calls Tryz.prog 38 #[.agg #[.int .i64 op, .int .i64 rd, .int .i64 rs1, .int .i64 rs2, .int .i32 imm], .int .u32 A, .int .u32 B, .int .u32 P, .int .i64 sz] w fun e w' => e = .returned (.int .u32 (nextV op A B P imm sz)) ∧ Nx w w') := Lib.hid fun w P h1 h2 => by
    have := rnext_any op rd rs1 rs2 imm A B P sz w im0 im1 A0 A1 B0 B1 h1 h2
    rw [HMay.out] at this
    exact this
  have HMid := Lib.hid (show midP s ⟨op, rd, rs1, rs2, imm⟩ sz = ⟨(if accS op = true then s.rg else if 0 < accN op then setR s.rg rd (ldP s.M (accA op A imm) (accN op) (accG op)) else if valO op = true then setR s.rg rd (valV op A B s.pc imm sz) else s.rg), s.pc, (if accS op = true then storeM s.M (accA op A imm) B (accN op).toNat else s.M)⟩ by
    rw [← HA.out, ← HB.out]
    rfl)
  obtain ⟨a0, a1⟩ := accA_bd op A imm
  have hacc := acc_n op
  have hst := @acc_store op
  obtain ⟨k, hk⟩ : ∃ k : Nat, accN op = k := ⟨(accN op).toNat, by omega⟩
  have hk4 : k ≤ 4 := by omega
  rw [hk] at CAc HMid hst
  obtain ⟨AT, hAT⟩ : ∃ x, accA op A imm = x := ⟨_, rfl⟩
  rw [hAT] at CAc HMid a0 a1
  obtain ⟨ST, hST⟩ : ∃ x, accS op = x := ⟨_, rfl⟩
  rw [hST] at CAc HMid hst
  obtain ⟨SG, hSG⟩ : ∃ x, accG op = x := ⟨_, rfl⟩
  rw [hSG] at CAc HMid hst
  obtain ⟨VO, hVO⟩ : ∃ x, valO op = x := ⟨_, rfl⟩
  rw [hVO] at CVa HMid hst
  have HVO := Lib.hid hVO
  have HST := Lib.hid hst
  clear hst hk hAT hST hSG hVO hacc HMay
  have q0 : w3.cell? ⟨q8, 0, none⟩ = some (.int .i64 op) := HQ2.out.cell 0 _ rfl
  have q1 : w3.cell? ⟨q8, 1, none⟩ = some (.int .i64 rd) := HQ2.out.cell 1 _ rfl
  have q2 : w3.cell? ⟨q8, 2, none⟩ = some (.int .i64 rs1) := HQ2.out.cell 2 _ rfl
  have q3 : w3.cell? ⟨q8, 3, none⟩ = some (.int .i64 rs2) := HQ2.out.cell 3 _ rfl
  have q4 : w3.cell? ⟨q8, 4, none⟩ = some (.int .i32 imm) := HQ2.out.cell 4 _ rfl
  have qz := HQ2.out.lt
  go_upto_region 9 with (go_at_call 34; refine (CAc.out _).mono ?_; rintro e w4 ⟨rfl, hn4⟩; have HN4 := Lib.hid hn4; clear hn4)
  have HQ4 := Lib.hid (HQ2.out.nx HN4.out)
  have HM4 := Lib.hid (HM2.out.nx HN4.out)
  have HX4 := Lib.hid (HN2.out.trans HN4.out)
  have cP := HM4.out.pcc
  have CV := Lib.hid (fun w => CVa.out w s.pc HM4.out.good.2.1 HM4.out.good.2.2.1)
  obtain ⟨P, hP⟩ : ∃ x, s.pc = x := ⟨_, rfl⟩
  rw [hP] at cP CV
  obtain ⟨X0, X1⟩ := valX_bd true op A B P imm sz A0 A1 B0 B1
  have hX : VO = true → valX true op A B P imm sz = valV op A B P imm sz := fun h => by unfold valX; rw [HVO.out, h, if_pos ⟨rfl, rfl⟩]
  obtain ⟨X, hXX⟩ : ∃ x, valX true op A B P imm sz = x := ⟨_, rfl⟩
  rw [hXX] at CV X0 X1 hX
  have HX := Lib.hid hX
  have HP := Lib.hid hP
  have q0 : w4.cell? ⟨q8, 0, none⟩ = some (.int .i64 op) := HQ4.out.cell 0 _ rfl
  have q1 : w4.cell? ⟨q8, 1, none⟩ = some (.int .i64 rd) := HQ4.out.cell 1 _ rfl
  have q2 : w4.cell? ⟨q8, 2, none⟩ = some (.int .i64 rs1) := HQ4.out.cell 2 _ rfl
  have q3 : w4.cell? ⟨q8, 3, none⟩ = some (.int .i64 rs2) := HQ4.out.cell 3 _ rfl
  have q4 : w4.cell? ⟨q8, 4, none⟩ = some (.int .i32 imm) := HQ4.out.cell 4 _ rfl
  have qz := HQ4.out.lt
  have hp4 : q < w4.heap.size := HM4.out.has.lt
  clear hX hXX hP HQ2 HM2 HN2
  (refine wp_region_nx 13 (by kernel_rfl) (by kernel_rfl) ?_; simp only [List.take_succ_cons, List.take_zero, List.drop_succ_cons, List.drop_zero]; (repeat (refine wpQuiet_step (fun K hK => ?_); go_simp; first | (refine hK _ ?_; clear hK K) | (apply Exists.intro; refine ⟨fun w' hw' => ?_, hK _ ?_⟩; (first | (with_reducible rfl) | (go_at_call 35; with_reducible exact (CV.out _).mono fun _ _ h => ⟨h.1, hw'.trans h.2⟩) | (obtain ⟨hc, hf⟩ := nx_cells hw'; go_simp; with_reducible rfl) | (obtain ⟨hc, hf⟩ := nx_cells hw'; go_simp; rfl)); clear hK K))); refine wpQuiet_nil ?_; intro w5 hn5)
  have HQ5 := Lib.hid (HQ4.out.nx hn5)
  have HM5 := Lib.hid (HM4.out.nx hn5)
  have HX5 := Lib.hid (HX4.out.trans hn5)
  clear hn5 q0 q1 q2 q3 q4 qz HQ4 HM4 HX4 HN4 cP
  go_upto_region 10 with fail
  go_cut [71] from 67 to 71 (fun v wx => v = .bool ST ∧ wx = w5)
  case first =>
    cases ST
    · by_cases hk0 : (0 : Int) < k
      · go_wp2_with fail
        go_meet
        case rel => exact ⟨rfl, rfl⟩
      · have hkI : (k : Int) ≤ 0 := by omega
        go_wp2_with fail
        go_meet
        case rel => exact ⟨rfl, rfl⟩
    · have k0 := (HST.out rfl).1
      clear HST
      go_wp2_with fail
      go_meet
      case rel => exact ⟨rfl, rfl⟩
  obtain ⟨rfl, hwc⟩ := hcut
  rw [hwc]
  clear hwc
  have HBy := Lib.hid HM5.out.good.2.2.2
  go_upto_if 71 with fail
  go_cut [] from 72 to 79 (fun wx => Mid7 base q qm (n + 4) q8 ⟨op, rd, rs1, rs2, imm⟩ { s with M := if ST = true then storeM s.M AT B k else s.M } w wx)
  case first =>
    have c33 := HM5.out.ptr
    have hp5 : q < w5.heap.size := HM5.out.has.lt
    cases ST
    · go_wp2_with fail
      go_meet
      case rel => exact ⟨HM5.out.mono (by omega), HQ5.out, Below.mono HX5.out hbase⟩
    · have C := Lib.hid (store_ref base qm n s.M AT B k (by omega) hk4 a0 a1 B0 B1 w5 HM5.out.mem)
      clear HST
      go_wp2_with (go_at_call 36; refine C.out.mono ?_; rintro e w6 ⟨rfl, hm6, hb6, hf6⟩; have HM6 := Lib.hid hm6; have HB6 := Lib.hid hb6; have HF6 := Lib.hid hf6; clear hm6 hb6 hf6)
      go_meet
      case rel =>
        refine ⟨?_, HF6.out q8 _ HQ5.out hqqm ins_far, Below.trans (Below.mono HX5.out hbase) HB6.out⟩
        rw [if_pos (by trivial)]
        exact (HM5.out.turn HM6.out HF6.out).mono (by omega)
  obtain ⟨hm6, hq6, hb6⟩ := hcut
  obtain ⟨w6, hw6⟩ : ∃ x, x = wc := ⟨_, rfl⟩
  subst hw6
  have HM6 := Lib.hid hm6
  have HQ6 := Lib.hid hq6
  have HB6 := Lib.hid hb6
  clear hm6 hq6 hb6 HM5 HQ5 HX5
  obtain ⟨LD, hLD⟩ : ∃ x, (decide ((0 : Int) < k) && !ST) = x := ⟨_, rfl⟩
  have HLD := Lib.hid hLD
  clear hLD
  go_upto_region 12 with fail
  go_cut [85] from 80 to 85 (fun v wx => v = .bool LD ∧ wx = w6)
  case first =>
    cases ST
    · by_cases hk0 : (0 : Int) < k
      · have HV := Lib.hid (show LD = true by rw [← HLD.out, decide_eq_true hk0]; rfl)
        go_wp2_with fail
        go_meet
        case rel => exact ⟨by rw [HV.out], rfl⟩
      · have hkI : (k : Int) ≤ 0 := by omega
        have HV := Lib.hid (show LD = false by rw [← HLD.out, decide_eq_false hk0]; rfl)
        go_wp2_with fail
        go_meet
        case rel => exact ⟨by rw [HV.out], rfl⟩
    · have k0 := (HST.out rfl).1
      have HV := Lib.hid (show LD = false by rw [← HLD.out]; simp)
      clear HST
      go_wp2_with fail
      go_meet
      case rel => exact ⟨by rw [HV.out], rfl⟩
  obtain ⟨rfl, hwc⟩ := hcut
  rw [hwc]
  clear hwc
  have HBy6 := Lib.hid HM6.out.good.2.2.2
  obtain ⟨V, hV⟩ : ∃ x, (if LD = true then ldP s.M AT k SG else X) = x := ⟨_, rfl⟩
  have HV := Lib.hid hV
  clear hV
  go_upto_if 85 with fail
  go_cut [12, 13] from 86 to 98 (fun vv bv wx => vv = .int .u32 V ∧ bv = .bool (LD || VO) ∧ wx = w6)
  case first =>
    cases LD
    · have HE := Lib.hid (show X = V by rw [← HV.out, if_neg (by decide)])
      clear HV HLD HST
      go_wp2_with fail
      go_meet
      case rel => exact ⟨by rw [HE.out], by simp, rfl⟩
    · have hl := HLD.out
      simp only [Bool.and_eq_true, decide_eq_true_eq, Bool.not_eq_true'] at hl
      obtain ⟨hk0, rfl⟩ := hl
      obtain ⟨V0, V1⟩ := load_u32 HBy.out AT k hk4
      have C : Hid (Calls Tryz.prog 24 #[.pointer (some ⟨qm, 0, none⟩), .int .u32 AT, .int .i64 k] w6 fun e w' => e = .returned (.int .u32 (loadM s.M AT k)) ∧ w' = w6) := Lib.hid (load_ref base qm (n + 4) s.M AT k hk4 hn a0 a1 w6 HM6.out.mem)
      obtain ⟨LM, hLM⟩ : ∃ x, loadM s.M AT k = x := ⟨_, rfl⟩
      rw [hLM] at C V0 V1
      have c33 := HM6.out.ptr
      have hp6 : q < w6.heap.size := HM6.out.has.lt
      cases SG
      · have HE := Lib.hid (show LM = V by rw [← HV.out, if_pos rfl, ← hLM]; rfl)
        clear HV HLD HST hLM
        go_wp2_with (go_at_call 24; refine C.out.mono ?_; rintro e w' ⟨rfl, hw⟩; rw [hw]; clear hw)
        go_meet
        case rel => exact ⟨by rw [HE.out], by simp, by first | rfl | trivial⟩
      · have C2 := Lib.hid (fun w => rsign_any LM (8 * k) w V0 V1)
        obtain ⟨Y, hY⟩ : ∃ x, sgn LM (cl (8 * k)) = x := ⟨_, rfl⟩
        rw [hY] at C2
        have HE := Lib.hid (show Y % 4294967296 = V by
          rw [← HV.out, if_pos rfl, ← hY, ← hLM]
          rfl)
        clear HV HLD HST hLM hY
        go_wp2_with (first | (go_at_call 24; refine C.out.mono ?_; rintro e w' ⟨rfl, hw⟩; rw [hw]; clear hw) | (go_at_call 37; refine (C2.out _).mono ?_; rintro e w' ⟨rfl, hw⟩; rw [← hw]; clear hw))
        go_meet
        case rel => exact ⟨by rw [HE.out], by simp, by first | rfl | trivial⟩
  obtain ⟨rfl, rfl, hwc⟩ := hcut
  rw [hwc]
  clear hwc
  obtain ⟨V0, V1⟩ : 0 ≤ V ∧ V < 4294967296 := by
    rw [← HV.out]
    split
    · exact ldP_bd HBy.out AT k SG (by omega)
    · exact ⟨X0, X1⟩
  obtain ⟨IS, hIS⟩ : ∃ x, (LD || VO) = x := ⟨_, rfl⟩
  have HIS := Lib.hid hIS
  rw [hIS]
  clear hIS
  obtain ⟨DO, hDO⟩ : ∃ x, (IS && decide (0 < rd)) = x := ⟨_, rfl⟩
  have HDO := Lib.hid hDO
  clear hDO
  have q1 : w6.cell? ⟨q8, 1, none⟩ = some (.int .i64 rd) := HQ6.out.cell 1 _ rfl
  have qz := HQ6.out.lt
  go_upto_region 17 with fail
  go_cut [104] from 99 to 104 (fun v wx => v = .bool DO ∧ wx = w6)
  case first =>
    cases IS
    · have HE := Lib.hid (show DO = false by rw [← HDO.out]; simp)
      go_wp2_with fail
      go_meet
      case rel => exact ⟨by rw [HE.out], rfl⟩
    · by_cases hr0 : 0 < rd
      · have HE := Lib.hid (show DO = true by rw [← HDO.out, decide_eq_true hr0]; rfl)
        go_wp2_with fail
        go_meet
        case rel => exact ⟨by rw [HE.out], rfl⟩
      · have hrI : rd ≤ 0 := by omega
        have HE := Lib.hid (show DO = false by rw [← HDO.out, decide_eq_false hr0]; rfl)
        go_wp2_with fail
        go_meet
        case rel => exact ⟨by rw [HE.out], rfl⟩
  obtain ⟨rfl, hwc⟩ := hcut
  rw [hwc]
  clear hwc
  have HMid7 := Lib.hid (show midP s ⟨op, rd, rs1, rs2, imm⟩ sz = { s with rg := if DO = true then setR s.rg rd V else s.rg, M := if ST = true then storeM s.M AT B k else s.M } by
    have hset : ∀ v, ¬ 0 < rd → setR s.rg rd v = s.rg := fun v h => by unfold setR; rw [if_pos (by omega)]
    have hst := HST.out
    have hx := HX.out
    rw [HMid.out, ← HDO.out, ← HIS.out, ← HV.out, ← HLD.out, HP.out]
    cases ST
    · by_cases hk0 : (0 : Int) < k
      · have hkN : ¬ k = 0 := by omega
        rw [decide_eq_true hk0]
        by_cases hr0 : 0 < rd
        · rw [decide_eq_true hr0, if_neg (by decide), if_pos hk0]; simp
        · rw [decide_eq_false hr0, if_neg (by decide), if_pos hk0]; simp [hset _ hr0]
      · rw [decide_eq_false hk0, if_neg (by decide), if_neg hk0]
        cases VO
        · simp
        · by_cases hr0 : 0 < rd
          · rw [decide_eq_true hr0]; simp [hx]
          · rw [decide_eq_false hr0]; simp [hset _ hr0]
    · have hvo := (hst rfl).2.2.1
      subst hvo
      simp)
  go_upto_if 104 with fail
  go_cut [] from 105 to 111 (fun wx => Mid7 base q qm (n + 4) q8 ⟨op, rd, rs1, rs2, imm⟩ (midP s ⟨op, rd, rs1, rs2, imm⟩ sz) w wx)
  case first =>
    cases DO
    · clear HDO
      go_wp2_with fail
      go_meet
      case rel =>
        refine ⟨?_, HQ6.out, HB6.out⟩
        rw [HMid7.out, if_neg (by decide)]
        exact HM6.out
    · have hd := HDO.out
      simp only [Bool.and_eq_true, decide_eq_true_eq] at hd
      have hr0 := hd.2
      obtain ⟨i, rfl⟩ := Int.eq_ofNat_of_zero_le r0
      have hi : i < 32 := by omega
      have hiI : (i : Int) < 32 := by omega
      have c := HM6.out.reg i hi
      have f := HM6.out.free i
      have hp6 : q < w6.heap.size := HM6.out.has.lt
      clear HDO hd
      go_upto_region 18 with fail
      (refine wp_region_nx 7 (by kernel_rfl) (by kernel_rfl) ?_; simp only [List.take_succ_cons, List.take_zero, List.drop_succ_cons, List.drop_zero]; (repeat (refine wpQuiet_step (fun K hK => ?_); go_simp; first | (refine hK _ ?_; clear hK K) | (apply Exists.intro; refine ⟨fun w' hw' => ?_, hK _ ?_⟩; (first | (with_reducible rfl) | (obtain ⟨hc, hf⟩ := nx_cells hw'; go_simp; with_reducible rfl) | (obtain ⟨hc, hf⟩ := nx_cells hw'; go_simp; rfl)); clear hK K))); refine wpQuiet_nil ?_; intro w7 hn7)
      have HM7 := Lib.hid (HM6.out.nx hn7)
      have HQ7 := Lib.hid (HQ6.out.nx hn7)
      have HB7 := Lib.hid (below_nx HB6.out (Nat.le_trans hbase HB6.out.size) hn7)
      have c := HM7.out.reg i hi
      have f := HM7.out.free i
      have hp7 : q < w7.heap.size := HM7.out.has.lt
      have hi0 : 0 < i := by omega
      clear hn7
      go_wp2_with fail
      go_meet
      case rel =>
        refine ⟨?_, HQ7.out.far (p := ⟨q, i, none⟩) hqq _, HB7.out.setCell HM7.out.low _⟩
        rw [HMid7.out, if_pos (by trivial)]
        exact HM7.out.setReg i hi0 hi V V0 V1
  obtain ⟨hm8, hq8, hb8⟩ := hcut
  obtain ⟨w8, hw8⟩ : ∃ x, x = wc := ⟨_, rfl⟩
  subst hw8
  have HM8 := Lib.hid hm8
  have HQ8 := Lib.hid hq8
  have HB8 := Lib.hid hb8
  clear hm8 hq8 hb8 CAc CVa HMid HMid7 HST HVO HM6 HQ6 HB6 HDO HIS HV HLD HX CV
  have hpc : (midP s ⟨op, rd, rs1, rs2, imm⟩ sz).pc = s.pc := rfl
  have cP := HM8.out.pcc
  rw [hpc, HP.out] at cP
  have CN := Lib.hid (fun w => CNe.out w s.pc H.out.good.2.1 H.out.good.2.2.1)
  have HE := Lib.hid (show goP s ⟨op, rd, rs1, rs2, imm⟩ sz = { midP s ⟨op, rd, rs1, rs2, imm⟩ sz with pc := nextV op A B P imm sz } by
    rw [← HA.out, ← HB.out, ← HP.out]
    rfl)
  rw [HP.out] at CN
  obtain ⟨Y0, Y1⟩ := nextV_bd op A B P imm sz
  obtain ⟨Y, hY⟩ : ∃ x, nextV op A B P imm sz = x := ⟨_, rfl⟩
  rw [hY] at CN HE Y0 Y1
  have q0 : w8.cell? ⟨q8, 0, none⟩ = some (.int .i64 op) := HQ8.out.cell 0 _ rfl
  have q1 : w8.cell? ⟨q8, 1, none⟩ = some (.int .i64 rd) := HQ8.out.cell 1 _ rfl
  have q2 : w8.cell? ⟨q8, 2, none⟩ = some (.int .i64 rs1) := HQ8.out.cell 2 _ rfl
  have q3 : w8.cell? ⟨q8, 3, none⟩ = some (.int .i64 rs2) := HQ8.out.cell 3 _ rfl
  have q4 : w8.cell? ⟨q8, 4, none⟩ = some (.int .i32 imm) := HQ8.out.cell 4 _ rfl
  have qz := HQ8.out.lt
  have hp8 : q < w8.heap.size := HM8.out.has.lt
  clear hY hpc CNe
  go_upto_region 19 with fail
  (refine wp_region_nx 10 (by kernel_rfl) (by kernel_rfl) ?_; simp only [List.take_succ_cons, List.take_zero, List.drop_succ_cons, List.drop_zero]; (repeat (refine wpQuiet_step (fun K hK => ?_); go_simp; first | (refine hK _ ?_; clear hK K) | (apply Exists.intro; refine ⟨fun w' hw' => ?_, hK _ ?_⟩; (first | (with_reducible rfl) | (go_at_call 38; with_reducible exact (CN.out _).mono fun _ _ h => ⟨h.1, hw'.trans h.2⟩) | (obtain ⟨hc, hf⟩ := nx_cells hw'; go_simp; with_reducible rfl) | (obtain ⟨hc, hf⟩ := nx_cells hw'; go_simp; rfl)); clear hK K))); refine wpQuiet_nil ?_; intro w9 hn9)
  have HM9 := Lib.hid (HM8.out.nx hn9)
  have HB9 := Lib.hid (below_nx HB8.out (Nat.le_trans hbase HB8.out.size) hn9)
  have cP := HM9.out.pcc
  have fP := HM9.out.free 32
  clear hn9 q0 q1 q2 q3 q4 qz
  go_wp2_with fail
  go_ret
  rw [HO.out, HS.out, HE.out]
  exact ⟨rfl, HM9.out.setPc Y Y0 Y1, HB9.out.setCell HM9.out.low _⟩

theorem rstep_any (base q qm n : Nat) (s : MSt) (hn : n + 4 ≤ 100000) (w : World) (h : Ref7At w base q qm n s) :
    Calls Tryz.prog 15 #[.pointer (some ⟨q, 0, none⟩)] w (Ret7 base q qm (n + 4) (.int .i64 (stepO s.M s.pc)) (stepP s) w) :=
  rstep_go base q qm n 0 s _ _ rfl rfl hn w h

end Go.Proofs.YtndpgakjpokllaaGreat

/- package machine: State. -/
namespace Go.Proofs.YtndpgakjpokllaaGreat
open Go.RowKit
set_option linter.unusedVariables false
set_option linter.unusedSimpArgs false
set_option maxRecDepth 100000

/-- A machine's state, handed back. -/
def RetState (s : MSt) (w : World) (e : Ending) (w' : World) : Prop := ∃ v L, e = .returned (.agg (machC s.rg s.pc v)) ∧ CellsOf s.M L ∧ L.length ≤ 100000 ∧ CellsAt w' v L ∧ Nx w w'

/-- What is held of the world. -/
theorem st_keep {w w' : World} {p : Nat} {cs : List Value} {a b : Value} (hp : p < w.heap.size) (h : w'.rangeAt p 0 cs ∧ w'.cell? ⟨p, 32, none⟩ = some a ∧ w'.cell? ⟨p, 33, none⟩ = some b ∧ Nx w w') (j : Nat) (u : Value) :
    (w'.setCell ⟨w.heap.size, j, none⟩ u).rangeAt p 0 cs ∧ (w'.setCell ⟨w.heap.size, j, none⟩ u).cell? ⟨p, 32, none⟩ = some a ∧ (w'.setCell ⟨w.heap.size, j, none⟩ u).cell? ⟨p, 33, none⟩ = some b ∧ Nx w (w'.setCell ⟨w.heap.size, j, none⟩ u) := by
  have hne : w.heap.size ≠ p := by omega
  exact ⟨fun i v hv => (World.cell?_setCell_far w' ⟨w.heap.size, j, none⟩ ⟨p, 0 + i, none⟩ u hne).trans (h.1 i v hv), (World.cell?_setCell_far w' ⟨w.heap.size, j, none⟩ ⟨p, 32, none⟩ u hne).trans h.2.1, (World.cell?_setCell_far w' ⟨w.heap.size, j, none⟩ ⟨p, 33, none⟩ u hne).trans h.2.2.1, h.2.2.2.setCell (Nat.le_refl _) u⟩

theorem st_keeps {w : World} {p : Nat} {cs : List Value} {a b : Value} (hp : p < w.heap.size) : ∀ (vs : List Value) (o : Nat) (w' : World), (w'.rangeAt p 0 cs ∧ w'.cell? ⟨p, 32, none⟩ = some a ∧ w'.cell? ⟨p, 33, none⟩ = some b ∧ Nx w w') →
    ((w'.setCells w.heap.size o vs).rangeAt p 0 cs ∧ (w'.setCells w.heap.size o vs).cell? ⟨p, 32, none⟩ = some a ∧ (w'.setCells w.heap.size o vs).cell? ⟨p, 33, none⟩ = some b ∧ Nx w (w'.setCells w.heap.size o vs))
  | [], _, _, h => h
  | v :: vs, o, w', h => st_keeps hp vs (o + 1) _ (st_keep hp h o v)

theorem st_there (w : World) (cs : Array Value) (T : TypeId) (h : cs.size = 34) {w2 : World} (hn : Nx (w.alloc (.cells cs T)) w2) : w2.there w.heap.size 0 34 := fun j hj => by
  rw [Nat.zero_add]
  have h0 : Has w2 w.heap.size (.cells cs T) := (Has.new w _).nx hn
  refine ⟨?_, h0.free j⟩
  rw [h0.cell j cs[j] (Array.getElem?_eq_getElem (by omega))]
  rfl

theorem st_info : (Tryz.prog.info? 26).map (·.size) = some 34 := by kernel_rfl

theorem cells_far {w : World} {v : Value} {L : List (Int × Int)} (h : CellsAt w v L) (g : Nat) (hz : ∀ j (y : Int), w.cell? ⟨g, j, none⟩ ≠ some (.int .u8 y)) (o : Nat) (vs : List Value) : CellsAt (w.setCells g o vs) v L := by
  have far : ∀ (b j : Nat) (u : Value), b ≠ g → w.cell? ⟨b, j, none⟩ = some u → (w.setCells g o vs).cell? ⟨b, j, none⟩ = some u := fun b j u hb hc => by
    have h1 : w.rangeAt b j [u] := fun i x hx => by
      cases i with
      | zero => simp at hx; subst hx; exact hc
      | succ i => simp at hx
    exact World.rangeAt_setCells_apart h1 g o vs (.inl hb) 0 u rfl
  rcases h with h | ⟨b, o', c, h1, h2, h3, h4⟩
  · exact .inl h
  · refine .inr ⟨b, o', c, h1, h2, h3, fun k x hx => ?_⟩
    have hb : b ≠ g := fun e => hz _ x.2 (by rw [← e]; exact (h4 k x hx).2)
    exact ⟨far _ _ _ hb (h4 k x hx).1, far _ _ _ hb (h4 k x hx).2⟩

theorem st_nobyte (w : World) {w2 : World} (hn : Nx (w.alloc (.cells #[.int .u32 0, .int .u32 0, .int .u32 0, .int .u32 0, .int .u32 0, .int .u32 0, .int .u32 0, .int .u32 0, .int .u32 0, .int .u32 0, .int .u32 0, .int .u32 0, .int .u32 0, .int .u32 0, .int .u32 0, .int .u32 0, .int .u32 0, .int .u32 0, .int .u32 0, .int .u32 0, .int .u32 0, .int .u32 0, .int .u32 0, .int .u32 0, .int .u32 0, .int .u32 0, .int .u32 0, .int .u32 0, .int .u32 0, .int .u32 0, .int .u32 0, .int .u32 0, .int .u32 0, .slice none 0 0] 26)) w2) (j : Nat) (y : Int) : w2.cell? ⟨w.heap.size, j, none⟩ ≠ some (.int .u8 y) := fun hc => by
  have h0 := (Has.new w (.cells #[.int .u32 0, .int .u32 0, .int .u32 0, .int .u32 0, .int .u32 0, .int .u32 0, .int .u32 0, .int .u32 0, .int .u32 0, .int .u32 0, .int .u32 0, .int .u32 0, .int .u32 0, .int .u32 0, .int .u32 0, .int .u32 0, .int .u32 0, .int .u32 0, .int .u32 0, .int .u32 0, .int .u32 0, .int .u32 0, .int .u32 0, .int .u32 0, .int .u32 0, .int .u32 0, .int .u32 0, .int .u32 0, .int .u32 0, .int .u32 0, .int .u32 0, .int .u32 0, .int .u32 0, .slice none 0 0] 26)).nx hn
  rw [cell_of_row _ _ _ _ _ _ h0] at hc
  have := Array.mem_of_getElem? hc
  simp at this

set_option maxHeartbeats 16000000 in
theorem state_mach (p pm b n : Nat) (s : MSt) (hn : n ≤ 100000) (w : World) (h : MachAt w p pm b n s) : Calls Tryz.prog 11 #[.pointer (some ⟨p, 0, none⟩)] w (RetState s w) := by
  have hlen := h.len
  have hp := h.has.lt
  obtain ⟨r0, r1, r2, r3, r4, r5, r6, r7, r8, r9, r10, r11, r12, r13, r14, r15, r16, r17, r18, r19, r20, r21, r22, r23, r24, r25, r26, r27, r28, r29, r30, r31, hrg⟩ := list32 s.rg hlen
  have hml : s.rg.map (Value.int .u32) = [.int .u32 r0, .int .u32 r1, .int .u32 r2, .int .u32 r3, .int .u32 r4, .int .u32 r5, .int .u32 r6, .int .u32 r7, .int .u32 r8, .int .u32 r9, .int .u32 r10, .int .u32 r11, .int .u32 r12, .int .u32 r13, .int .u32 r14, .int .u32 r15, .int .u32 r16, .int .u32 r17, .int .u32 r18, .int .u32 r19, .int .u32 r20, .int .u32 r21, .int .u32 r22, .int .u32 r23, .int .u32 r24, .int .u32 r25, .int .u32 r26, .int .u32 r27, .int .u32 r28, .int .u32 r29, .int .u32 r30, .int .u32 r31] := by rw [hrg]; rfl
  have HRG := Lib.hid hrg
  obtain ⟨PC, hPC⟩ : ∃ x, s.pc = x := ⟨_, rfl⟩
  have HPC := Lib.hid hPC
  obtain ⟨W, hW⟩ : ∃ x, w.alloc (.cells #[.int .u32 0, .int .u32 0, .int .u32 0, .int .u32 0, .int .u32 0, .int .u32 0, .int .u32 0, .int .u32 0, .int .u32 0, .int .u32 0, .int .u32 0, .int .u32 0, .int .u32 0, .int .u32 0, .int .u32 0, .int .u32 0, .int .u32 0, .int .u32 0, .int .u32 0, .int .u32 0, .int .u32 0, .int .u32 0, .int .u32 0, .int .u32 0, .int .u32 0, .int .u32 0, .int .u32 0, .int .u32 0, .int .u32 0, .int .u32 0, .int .u32 0, .int .u32 0, .int .u32 0, .slice none 0 0] 26) = x := ⟨_, rfl⟩
  have hnW : Nx w W := by rw [← hW]; exact (Nx.refl w).alloc _
  have C := Lib.hid (fun w' (hw : Nx W w') => cells_mem pm b n s.M hn w' (h.mem.nx (hnW.trans hw)))
  have KS : ∀ w', Nx W w' → (w'.rangeAt p 0 (s.rg.map (Value.int .u32)) ∧ w'.cell? ⟨p, 32, none⟩ = some (.int .u32 s.pc) ∧ w'.cell? ⟨p, 33, none⟩ = some (.pointer (some ⟨pm, 0, none⟩)) ∧ Nx w w') := fun w' hw => by
    have h2 := h.nx (hnW.trans hw)
    exact ⟨range_of h2.has, h2.pcc, h2.ptr, hnW.trans hw⟩
  rw [hml, hPC] at KS
  have HKS := Lib.hid KS
  have ZS := Lib.hid (fun w' (hw : Nx W w') => st_there w _ 26 rfl (w2 := w') (by rw [hW]; exact hw))
  have HNB := Lib.hid (fun w' (hw : Nx W w') => st_nobyte w (w2 := w') (by rw [hW]; exact hw))
  have HNW := Lib.hid hnW
  have l23 : ([.int .u32 r0, .int .u32 r1, .int .u32 r2, .int .u32 r3, .int .u32 r4, .int .u32 r5, .int .u32 r6, .int .u32 r7, .int .u32 r8, .int .u32 r9, .int .u32 r10, .int .u32 r11, .int .u32 r12, .int .u32 r13, .int .u32 r14, .int .u32 r15, .int .u32 r16, .int .u32 r17, .int .u32 r18, .int .u32 r19, .int .u32 r20, .int .u32 r21, .int .u32 r22, .int .u32 r23, .int .u32 r24, .int .u32 r25, .int .u32 r26, .int .u32 r27, .int .u32 r28, .int .u32 r29, .int .u32 r30, .int .u32 r31] : List Value).length = 32 := rfl
  have i23 : (Tryz.prog.info? 23).map (·.size) = some ([.int .u32 r0, .int .u32 r1, .int .u32 r2, .int .u32 r3, .int .u32 r4, .int .u32 r5, .int .u32 r6, .int .u32 r7, .int .u32 r8, .int .u32 r9, .int .u32 r10, .int .u32 r11, .int .u32 r12, .int .u32 r13, .int .u32 r14, .int .u32 r15, .int .u32 r16, .int .u32 r17, .int .u32 r18, .int .u32 r19, .int .u32 r20, .int .u32 r21, .int .u32 r22, .int .u32 r23, .int .u32 r24, .int .u32 r25, .int .u32 r26, .int .u32 r27, .int .u32 r28, .int .u32 r29, .int .u32 r30, .int .u32 r31] : List Value).length := by kernel_rfl
  have o23 : ∀ x ∈ ([.int .u32 r0, .int .u32 r1, .int .u32 r2, .int .u32 r3, .int .u32 r4, .int .u32 r5, .int .u32 r6, .int .u32 r7, .int .u32 r8, .int .u32 r9, .int .u32 r10, .int .u32 r11, .int .u32 r12, .int .u32 r13, .int .u32 r14, .int .u32 r15, .int .u32 r16, .int .u32 r17, .int .u32 r18, .int .u32 r19, .int .u32 r20, .int .u32 r21, .int .u32 r22, .int .u32 r23, .int .u32 r24, .int .u32 r25, .int .u32 r26, .int .u32 r27, .int .u32 r28, .int .u32 r29, .int .u32 r30, .int .u32 r31] : List Value), x.oneCell' = true := fun x hx => by
    rw [← hml] at hx
    obtain ⟨y, _, rfl⟩ := List.mem_map.1 hx
    rfl
  have u23 := Tryz.underlying23
  have hWW := Lib.hid hW
  clear h KS hnW hrg hml hPC hW
  go_enter Tryz.func11, Tryz.ntmps11
  go_upto_region 1 with fail
  rw [hWW.out]
  refine wp_region_held_drew (S := (fun w' => w'.rangeAt p 0 [.int .u32 r0, .int .u32 r1, .int .u32 r2, .int .u32 r3, .int .u32 r4, .int .u32 r5, .int .u32 r6, .int .u32 r7, .int .u32 r8, .int .u32 r9, .int .u32 r10, .int .u32 r11, .int .u32 r12, .int .u32 r13, .int .u32 r14, .int .u32 r15, .int .u32 r16, .int .u32 r17, .int .u32 r18, .int .u32 r19, .int .u32 r20, .int .u32 r21, .int .u32 r22, .int .u32 r23, .int .u32 r24, .int .u32 r25, .int .u32 r26, .int .u32 r27, .int .u32 r28, .int .u32 r29, .int .u32 r30, .int .u32 r31] ∧ w'.cell? ⟨p, 32, none⟩ = some (.int .u32 PC) ∧ w'.cell? ⟨p, 33, none⟩ = some (.pointer (some ⟨pm, 0, none⟩)) ∧ Nx w w')) (by kernel_rfl) (HKS.out _ ((Nx.refl _).drew)) (fun hHeld => ?_)
  refine wpAnyH_take (i := 0) (oi := _) (v := ?v0) rfl (by kernel_rfl) (by kernel_rfl) (by kernel_rfl) (fun _ _ _ h => h) (Or.inl ⟨by rfl, ?y0⟩) (by assumption) ?z0
  case y0 => intro w hSw; obtain ⟨hs0, hs1, hs2, hs3⟩ := hSw; go_simp; all_goals with_reducible rfl
  try simp only [Act.put, List.setIfInBounds_toArray, List.set_cons_zero, List.set_cons_succ]
  refine wpAnyH_take (i := 1) (oi := _) (v := ?v1) rfl (by kernel_rfl) (by kernel_rfl) (by kernel_rfl) (fun _ _ _ h => h) (Or.inl ⟨by rfl, ?y1⟩) (by assumption) ?z1
  case y1 => intro w hSw; obtain ⟨hs0, hs1, hs2, hs3⟩ := hSw; go_simp; all_goals with_reducible rfl
  try simp only [Act.put, List.setIfInBounds_toArray, List.set_cons_zero, List.set_cons_succ]
  refine wpAnyH_take (i := 2) (oi := _) (v := ?v2) rfl (by kernel_rfl) (by kernel_rfl) (by kernel_rfl) (fun _ _ _ h => h) (Or.inl ⟨by rfl, ?y2⟩) (by assumption) ?z2
  case y2 => intro w hSw; obtain ⟨hs0, hs1, hs2, hs3⟩ := hSw; go_simp; all_goals with_reducible rfl
  try simp only [Act.put, List.setIfInBounds_toArray, List.set_cons_zero, List.set_cons_succ]
  refine wpAnyH_take (i := 3) (oi := _) (v := _) rfl (by kernel_rfl) (by kernel_rfl) (by kernel_rfl) (fun _ _ _ h => h) (yieldsIf_load_mid (by rfl) _ _ rfl _ _ rfl _ _ (fun w hSw => hSw.1) u23 rfl i23) (by assumption) ?_
  try simp only [Act.put, List.setIfInBounds_toArray, List.set_cons_zero, List.set_cons_succ]
  refine wpAnyH_take (i := 4) (oi := _) (v := ?v4) rfl (by kernel_rfl) (by kernel_rfl) (by kernel_rfl) (fun _ _ _ h => h) (Or.inl ⟨by rfl, ?y4⟩) (by assumption) ?z4
  case y4 => intro w hSw; obtain ⟨hs0, hs1, hs2, hs3⟩ := hSw; go_simp; all_goals with_reducible rfl
  try simp only [Act.put, List.setIfInBounds_toArray, List.set_cons_zero, List.set_cons_succ]
  refine wpAnyH_take (i := 5) (oi := _) (v := ?v5) rfl (by kernel_rfl) (by kernel_rfl) (by kernel_rfl) (fun _ _ _ h => h) (Or.inl ⟨by rfl, ?y5⟩) (by assumption) ?z5
  case y5 => intro w hSw; obtain ⟨hs0, hs1, hs2, hs3⟩ := hSw; go_simp; all_goals with_reducible rfl
  try simp only [Act.put, List.setIfInBounds_toArray, List.set_cons_zero, List.set_cons_succ]
  refine wpAnyH_take (i := 6) (oi := _) (v := ?v6) rfl (by kernel_rfl) (by kernel_rfl) (by kernel_rfl) (fun _ _ _ h => h) (Or.inl ⟨by rfl, ?y6⟩) (by assumption) ?z6
  case y6 => intro w hSw; obtain ⟨hs0, hs1, hs2, hs3⟩ := hSw; go_simp; all_goals with_reducible rfl
  try simp only [Act.put, List.setIfInBounds_toArray, List.set_cons_zero, List.set_cons_succ]
  refine wpAnyH_take (i := 7) (oi := _) (v := ?v7) rfl (by kernel_rfl) (by kernel_rfl) (by kernel_rfl) (fun _ _ _ h => h) (Or.inl ⟨by rfl, ?y7⟩) (by assumption) ?z7
  case y7 => intro w hSw; obtain ⟨hs0, hs1, hs2, hs3⟩ := hSw; go_simp; all_goals with_reducible rfl
  try simp only [Act.put, List.setIfInBounds_toArray, List.set_cons_zero, List.set_cons_succ]
  refine wpAnyH_take (i := 8) (oi := _) (v := ?v8) rfl (by kernel_rfl) (by kernel_rfl) (by kernel_rfl) (fun _ _ _ h => h) (Or.inl ⟨by rfl, ?y8⟩) (by assumption) ?z8
  case y8 => intro w hSw; obtain ⟨hs0, hs1, hs2, hs3⟩ := hSw; go_simp; all_goals with_reducible rfl
  try simp only [Act.put, List.setIfInBounds_toArray, List.set_cons_zero, List.set_cons_succ]
  refine wpAnyH_take (i := 9) (oi := _) (v := ?v9) rfl (by kernel_rfl) (by kernel_rfl) (by kernel_rfl) (fun _ _ _ h => h) (Or.inl ⟨by rfl, ?y9⟩) (by assumption) ?z9
  case y9 => intro w hSw; obtain ⟨hs0, hs1, hs2, hs3⟩ := hSw; go_simp; all_goals with_reducible rfl
  try simp only [Act.put, List.setIfInBounds_toArray, List.set_cons_zero, List.set_cons_succ]
  refine wpAnyH_take (i := 10) (oi := _) (v := ?v10) rfl (by kernel_rfl) (by kernel_rfl) (by kernel_rfl) (fun _ _ _ h => h) (Or.inl ⟨by rfl, ?y10⟩) (by assumption) ?z10
  case y10 => intro w hSw; obtain ⟨hs0, hs1, hs2, hs3⟩ := hSw; go_simp; all_goals with_reducible rfl
  try simp only [Act.put, List.setIfInBounds_toArray, List.set_cons_zero, List.set_cons_succ]
  refine wpAnyH_take (i := 11) (oi := _) (v := ?v11) rfl (by kernel_rfl) (by kernel_rfl) (by kernel_rfl) (fun _ _ _ h => h) (Or.inl ⟨by rfl, ?y11⟩) (by assumption) ?z11
  case y11 => intro w hSw; obtain ⟨hs0, hs1, hs2, hs3⟩ := hSw; go_simp; all_goals with_reducible rfl
  try simp only [Act.put, List.setIfInBounds_toArray, List.set_cons_zero, List.set_cons_succ]
  have HS0 := Lib.hid hHeld
  clear hHeld
  refine wpAnyH_ready (rs := [12]) (by kernel_rfl) (by simp) ?_
  refine AllReadyH.cons (o := _) rfl (fun K hK => ?_) AllReadyH.nil
  go_simp
  refine (C.out _ ((Nx.refl _).drew)).mono ?_
  rintro e w2 ⟨v, L, rfl, hL, hLn, hv, hn2⟩
  obtain ⟨A', c', rfl, _⟩ := hv.form
  have hX : Nx W w2 := ((Nx.refl W).drew).trans hn2
  have HTH := Lib.hid (ZS.out _ hX)
  have HX := Lib.hid hX
  have HL := Lib.hid hL
  have HV := Lib.hid hv
  clear hn2 hX hL hv
  refine hK.out _ _ (HKS.out _ HX.out) (fun hHeld => ?_)
  clear hK K
  try simp only [Act.put, List.setIfInBounds_toArray, List.set_cons_zero, List.set_cons_succ]
  refine wpAnyH_take (i := 13) (oi := _) (v := ?v13) rfl (by kernel_rfl) (by kernel_rfl) (by kernel_rfl) (fun _ _ _ h => h) (Or.inl ⟨by rfl, ?y13⟩) (by assumption) ?z13
  case y13 => intro w hSw; go_simp; all_goals with_reducible rfl
  try simp only [Act.put, List.setIfInBounds_toArray, List.set_cons_zero, List.set_cons_succ]
  refine wpAnyH_ready (rs := [14]) (by kernel_rfl) (by simp) ?_
  refine AllReadyH.cons (o := _) rfl (fun K hK => ?_) AllReadyH.nil
  rw [if_pos (by rfl)]
  refine wp_store_mid _ _ _ rfl _ _ (List.toArray _) rfl rfl ?_ ?_ ?_ ?_
  · exact HTH.out
  · exact st_info
  · simp [Value.oneCell']
  refine hK.out _ _ (st_keeps hp _ _ _ hHeld) (fun _ => ?_)
  clear hK K
  refine wpAnyH_done (by kernel_rfl) ?_ _
  go_wp2_with fail
  refine bodyPost_ret (v := .agg #[.int .u32 r0, .int .u32 r1, .int .u32 r2, .int .u32 r3, .int .u32 r4, .int .u32 r5, .int .u32 r6, .int .u32 r7, .int .u32 r8, .int .u32 r9, .int .u32 r10, .int .u32 r11, .int .u32 r12, .int .u32 r13, .int .u32 r14, .int .u32 r15, .int .u32 r16, .int .u32 r17, .int .u32 r18, .int .u32 r19, .int .u32 r20, .int .u32 r21, .int .u32 r22, .int .u32 r23, .int .u32 r24, .int .u32 r25, .int .u32 r26, .int .u32 r27, .int .u32 r28, .int .u32 r29, .int .u32 r30, .int .u32 r31, .int .u32 PC, .slice A' L.length c']) (results_cell Tryz.results11 rfl (run_loadVar_mid _ w.heap.size 0 26 [.int .u32 r0, .int .u32 r1, .int .u32 r2, .int .u32 r3, .int .u32 r4, .int .u32 r5, .int .u32 r6, .int .u32 r7, .int .u32 r8, .int .u32 r9, .int .u32 r10, .int .u32 r11, .int .u32 r12, .int .u32 r13, .int .u32 r14, .int .u32 r15, .int .u32 r16, .int .u32 r17, .int .u32 r18, .int .u32 r19, .int .u32 r20, .int .u32 r21, .int .u32 r22, .int .u32 r23, .int .u32 r24, .int .u32 r25, .int .u32 r26, .int .u32 r27, .int .u32 r28, .int .u32 r29, .int .u32 r30, .int .u32 r31, .int .u32 PC, .slice A' L.length c'] _ (World.rangeAt_setCells_same _ w.heap.size 0 [.int .u32 r0, .int .u32 r1, .int .u32 r2, .int .u32 r3, .int .u32 r4, .int .u32 r5, .int .u32 r6, .int .u32 r7, .int .u32 r8, .int .u32 r9, .int .u32 r10, .int .u32 r11, .int .u32 r12, .int .u32 r13, .int .u32 r14, .int .u32 r15, .int .u32 r16, .int .u32 r17, .int .u32 r18, .int .u32 r19, .int .u32 r20, .int .u32 r21, .int .u32 r22, .int .u32 r23, .int .u32 r24, .int .u32 r25, .int .u32 r26, .int .u32 r27, .int .u32 r28, .int .u32 r29, .int .u32 r30, .int .u32 r31, .int .u32 PC, .slice A' L.length c'] HTH.out) Tryz.underlying26 rfl st_info)) rfl ?_
  refine ⟨.slice A' L.length c', L, ?_, HL.out, hLn, cells_far HV.out _ (HNB.out _ HX.out) _ _, (st_keeps hp _ _ _ hHeld).2.2.2⟩
  rw [HRG.out, HPC.out]
  rfl

end Go.Proofs.YtndpgakjpokllaaGreat

