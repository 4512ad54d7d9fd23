/- Parts of the proof, one behind the other. -/
import Derived.Test.YtndpgakjpokllaaGreatZsbk
import Derived.Test.YtndpgakjpokllaaGreatZsbn
/- package machine: Run. -/
namespace Go.Proofs.YtndpgakjpokllaaGreat
open Go.RowKit
set_option linter.unusedVariables false
set_option linter.unusedSimpArgs false
set_option maxRecDepth 100000

theorem runP_stop {k : Nat} {s : MSt} (h : ¬ stepO s.M s.pc = 0) : runP (k + 1) s = (0, stepO s.M s.pc, s) := by
  rw [runP, if_neg h]

theorem runP_step {k : Nat} {s : MSt} (h : stepO s.M s.pc = 0) : runP (k + 1) s = ((runP k (stepP s)).1 + 1, (runP k (stepP s)).2) := by
  rw [runP, if_pos h]

/-- What comes of Run. -/
def RetRun (p pm b n K : Nat) (s : MSt) (w : World) (e : Ending) (w' : World) : Prop :=
  e = .returned (.tuple #[.int .i64 ((runP K s).1 : Nat), .int .i64 (runP K s).2.1]) ∧ MachAt w' p pm b (n + 4 * K) (runP K s).2.2 ∧ Chg p b w w'

set_option maxHeartbeats 2000000 in
theorem run_mach (p pm b n K : Nat) (most : Int) (s : MSt) (hK : K = (max most 0).toNat) (hm : most ≤ 200) (hn : n + 4 * K ≤ 100000) (w : World) (h : MachAt w p pm b n s) :
    Calls Tryz.prog 16 #[.pointer (some ⟨p, 0, none⟩), .int .i64 most] w (RetRun p pm b n K s w) := by
  have H := Lib.hid h
  have HK := Lib.hid hK
  have hK2 : K ≤ 200 := by omega
  clear h hK
  obtain ⟨r, hr⟩ : ∃ x, runP K s = x := ⟨_, rfl⟩
  have HR := Lib.hid hr
  unfold RetRun
  rw [hr]
  clear hr
  go_enter Tryz.func16, Tryz.ntmps16
  go_wp2_with fail
  go_loopw [6, 7] (fun iv _ wr => ∃ (i : Nat) (si : MSt), i ≤ K ∧ iv = .int .i64 i ∧ MachAt wr p pm b (n + 4 * i) si ∧ Chg p b w wr ∧ Hid (r = (i + (runP (K - i) si).1, (runP (K - i) si).2))) (fun iv _ _ => K - (RowKit.intOf iv).toNat)
  case atStart => exact ⟨0, s, Nat.zero_le _, rfl, H.out, Chg.refl _ _ _, Lib.hid (by rw [← HR.out, Nat.zero_add]; rfl)⟩
  case round =>
    obtain ⟨i, si, hi, rfl, hmi, hci, hri⟩ := hrel
    have HM := Lib.hid hmi
    have HC := Lib.hid hci
    clear hmi hci
    by_cases hik : i < K
    · have hikI : (i : Int) < most := by have := HK.out; omega
      have hmn : min most 65536 = most := by omega
      have C := Lib.hid (step_any p pm b (n + 4 * i) si (by omega) wr HM.out)
      obtain ⟨j, hj⟩ : ∃ j, K - i = j + 1 := ⟨K - i - 1, by omega⟩
      by_cases ho : stepO si.M si.pc = 0
      · have HRI := Lib.hid (show r = (i + 1 + (runP (K - (i + 1)) (stepP si)).1, (runP (K - (i + 1)) (stepP si)).2) by
          rw [hri.out, hj, runP_step ho, show K - (i + 1) = j by omega]
          simp only [Prod.mk.injEq, and_true]
          omega)
        rw [ho] at C
        clear ho hri hj
        go_wp2_with (go_at_call 14; refine C.out.mono ?_; rintro e w2 ⟨rfl, hm2, hc2⟩; have HM2 := Lib.hid hm2; have HC2 := Lib.hid hc2; clear hm2 hc2)
        go_roundw
        case rel => exact ⟨i + 1, stepP si, hik, by first | rfl | go_num, HM2.out, HC.out.trans HC2.out, HRI⟩
        case measure => simp [RowKit.intOf]; omega
      · obtain ⟨o, hoo⟩ : ∃ o, stepO si.M si.pc = o := ⟨_, rfl⟩
        have HE := Lib.hid (show r = (i, o, si) by
          rw [hri.out, hj, runP_stop ho, hoo]
          rfl)
        have hS : stepP si = si := by unfold stepP; rw [if_neg ho]
        rw [hoo] at C ho
        rw [hS] at C
        have hob : (o != 0) = true := by rw [bne_iff_ne]; exact ho
        clear ho hri hj hoo hS
        go_wp2_with (go_at_call 14; refine C.out.mono ?_; rintro e w2 ⟨rfl, hm2, hc2⟩; have HM2 := Lib.hid hm2; have HC2 := Lib.hid hc2; clear hm2 hc2)
        refine bodyPost_ret (results_tmp2 rfl _ _ _) rfl ?_
        rw [HE.out]
        exact ⟨rfl, HM2.out.mono (by omega), HC.out.trans HC2.out⟩
    · obtain rfl : i = K := by omega
      have hge : most ≤ (i : Int) := by have := HK.out; omega
      have hmn : min most 65536 = most := by omega
      have HE := Lib.hid (show r = (i, 0, si) by
        rw [hri.out, Nat.sub_self]
        rfl)
      clear hri
      go_wp2_with fail
      refine bodyPost_ret (results_tmp2 rfl _ _ _) rfl ?_
      rw [HE.out]
      exact ⟨rfl, HM.out, HC.out⟩

end Go.Proofs.YtndpgakjpokllaaGreat

/- typecaseref07: New, Run. -/
namespace Go.Proofs.YtndpgakjpokllaaGreat
open Go.RowKit
set_option linter.unusedVariables false
set_option linter.unusedSimpArgs false
set_option maxRecDepth 100000

/-- A new machine of the document. -/
def RetNew7 (n : Nat) (s : MSt) (w : World) (e : Ending) (w' : World) : Prop := ∃ base q qm, e = .returned (.pointer (some ⟨q, 0, none⟩)) ∧ w.heap.size ≤ base ∧ Ref7At w' base q qm n s ∧ Nx w w'

set_option maxHeartbeats 8000000 in
theorem new_sev (rg : List Int) (pc : Int) (v : Value) (L : List (Int × Int)) (hr : GoodR rg) (p0 : 0 ≤ pc) (p1 : pc < 4294967296) (hL : IsCells L) (hn : L.length ≤ 100000) (w : World) (h : CellsAt w v L) :
    Calls Tryz.prog 9 #[.agg (machC rg pc v)] w (RetNew7 L.length ⟨rg.set 0 0, pc, memOf L⟩ w) := by
  have HR := Lib.hid hr
  obtain ⟨r0, r1, r2, r3, r4, r5, r6, r7, r8, r9, r10, r11, r12, r13, r14, r15, r16, r17, r18, r19, r20, r21, r22, r23, r24, r25, r26, r27, r28, r29, r30, r31, hrg⟩ := list32 rg hr.1
  have hlen := hr.1
  have HA := Lib.hid (Has.new w (.cells (machC rg pc v) 26))
  obtain ⟨W, hW⟩ : ∃ x, w.alloc (.cells (machC rg pc v) 26) = x := ⟨_, rfl⟩
  have hnW : Nx w W := by rw [← hW]; exact (Nx.refl w).alloc _
  have C := Lib.hid (fun w' (hw : Nx W w') => new_ref v L hL hn w' (h.nx (hnW.trans hw)))
  rw [hW] at HA
  have KS : ∀ w', Nx W w' → (w'.rangeAt w.heap.size 0 (rg.map (Value.int .u32)) ∧ w'.cell? ⟨w.heap.size, 32, none⟩ = some (.int .u32 pc) ∧ w'.cell? ⟨w.heap.size, 33, none⟩ = some v ∧ Nx W w') := fun w' hw =>
    ⟨range_of (HA.out.nx hw), (HA.out.nx hw).cell 32 _ (machC_pc hlen pc v), (HA.out.nx hw).cell 33 _ (machC_ptr hlen pc v), hw⟩
  have HKS := Lib.hid KS
  have HNW := Lib.hid hnW
  have l23 : (rg.map (Value.int .u32)).length = 32 := by rw [List.length_map]; exact hlen
  have i23 : (Tryz.prog.info? 23).map (·.size) = some (rg.map (Value.int .u32)).length := by rw [l23]; kernel_rfl
  have o23 : ∀ x ∈ rg.map (Value.int .u32), x.oneCell' = true := fun x hx => by
    obtain ⟨y, _, rfl⟩ := List.mem_map.1 hx
    rfl
  have u23 := Tryz.underlying23
  obtain ⟨A, c, rfl, _, _, _⟩ := h.form
  clear h hr KS hnW
  have hWW := Lib.hid hW
  clear hW
  have hml : rg.map (Value.int .u32) = [.int .u32 r0, .int .u32 r1, .int .u32 r2, .int .u32 r3, .int .u32 r4, .int .u32 r5, .int .u32 r6, .int .u32 r7, .int .u32 r8, .int .u32 r9, .int .u32 r10, .int .u32 r11, .int .u32 r12, .int .u32 r13, .int .u32 r14, .int .u32 r15, .int .u32 r16, .int .u32 r17, .int .u32 r18, .int .u32 r19, .int .u32 r20, .int .u32 r21, .int .u32 r22, .int .u32 r23, .int .u32 r24, .int .u32 r25, .int .u32 r26, .int .u32 r27, .int .u32 r28, .int .u32 r29, .int .u32 r30, .int .u32 r31] := by rw [hrg]; rfl
  have HRG := Lib.hid hrg
  rw [hml] at HKS l23 i23 o23
  clear hrg hml
  go_enter Tryz.func9, Tryz.ntmps9
  go_upto_region 1 with fail
  rw [hWW.out]
  go_cut [3] from 4 to 12 (fun pv wx => ∃ base q qm, pv = .pointer (some ⟨q, 0, none⟩) ∧ w.heap.size ≤ base ∧ Ref7At wx base q qm L.length ⟨rg, pc, memOf L⟩ ∧ Nx w wx)
  case first =>
    go_region_held3 (fun w' => w'.rangeAt w.heap.size 0 [.int .u32 r0, .int .u32 r1, .int .u32 r2, .int .u32 r3, .int .u32 r4, .int .u32 r5, .int .u32 r6, .int .u32 r7, .int .u32 r8, .int .u32 r9, .int .u32 r10, .int .u32 r11, .int .u32 r12, .int .u32 r13, .int .u32 r14, .int .u32 r15, .int .u32 r16, .int .u32 r17, .int .u32 r18, .int .u32 r19, .int .u32 r20, .int .u32 r21, .int .u32 r22, .int .u32 r23, .int .u32 r24, .int .u32 r25, .int .u32 r26, .int .u32 r27, .int .u32 r28, .int .u32 r29, .int .u32 r30, .int .u32 r31] ∧ w'.cell? ⟨w.heap.size, 32, none⟩ = some (.int .u32 pc) ∧ w'.cell? ⟨w.heap.size, 33, none⟩ = some (.slice A L.length c) ∧ Nx W w')
      ((with_reducible first | exact HKS.out _ ((Nx.refl _).drew) | exact HKS.out _ (by assumption) | exact HKS.out _ (Nx.alloc (by assumption) _)))
      (first | (go_at_call 19; refine (C.out _ (by with_reducible first | exact (Nx.refl _).drew | assumption)).mono ?_; rintro e w2 ⟨qm, rfl, hm, hn2⟩; have hX : Nx W w2 := by with_reducible first | exact ((Nx.refl W).drew).trans hn2 | exact (by assumption : Nx W _).trans hn2))
    all_goals
      have hws := HNW.out.size
      have hWs : W.heap.size ≤ w2.heap.size := hX.size
      have hqs : qm < w2.heap.size := by
        obtain ⟨v, l, h1, _⟩ := hm
        exact h1.lt
      have HM2 := Lib.hid hm
      have HX2 := Lib.hid hX
      clear hm hX hn2
      go_wp2_with fail
      go_meet
      case rel =>
        refine ⟨W.heap.size, w2.heap.size, qm, rfl, by omega, ⟨?_, ⟨HR.out, p0, p1, HM2.out.bytes⟩, HM2.out.nx ((Nx.refl _).alloc _), hWs, by omega⟩, (HNW.out.trans HX2.out).alloc _⟩
        rw [HRG.out]
        exact Has.new _ _
  obtain ⟨base, q, qm, rfl, hbq, hm, hnx⟩ := hcut
  obtain ⟨w3, hw3⟩ : ∃ x, x = wc := ⟨_, rfl⟩
  subst hw3
  have c0 := hm.reg 0 (by omega)
  have f0 := hm.free 0
  have hz := hm.has.lt
  have hlow := hm.low
  have HM := Lib.hid hm
  have HX := Lib.hid hnx
  clear hm hnx l23 i23 o23 u23
  go_wp2_with fail
  go_ret
  exact ⟨base, q, qm, rfl, hbq, HM.out.zero, HX.out.setCell (Nat.le_trans hbq hlow) _⟩

end Go.Proofs.YtndpgakjpokllaaGreat

/- typecaseref07: Same. -/
namespace Go.Proofs.YtndpgakjpokllaaGreat
open Go.RowKit
set_option linter.unusedVariables false
set_option linter.unusedSimpArgs false
set_option maxRecDepth 100000

theorem eq_items (xs : Array Value) (h : ∀ j, j < 32 → ∃ x, xs[j]? = some (.int .u32 x)) (w : World) : ∀ is : List Nat, (∀ i ∈ is, i < 32) → (Op.eqItems 9999 22 (Tryz.prog.cellsOf 22) xs xs is).run Tryz.prog w = .ok true w
  | [], _ => rfl
  | i :: is, hi => by
    have hc : Tryz.prog.cellsOf 22 = 1 := by kernel_rfl
    have he : Tryz.prog.plainKey 22 = true := by kernel_rfl
    obtain ⟨x, hx⟩ := h i (hi i (List.mem_cons_self ..))
    have ih := eq_items xs h w is (fun k hk => hi k (List.mem_cons_of_mem _ hk))
    have hp := run_part_plain (P := Tryz.prog) w he (off := i * Tryz.prog.cellsOf 22) (by rw [hc, Nat.mul_one]; exact hx)
    rw [Op.eqItems, Sem.run_bind, hp, Result.andThen_ok, Sem.run_bind, hp, Result.andThen_ok, Sem.run_bind, run_equalIn_int (P := Tryz.prog) w 9998 22 .u32 .u32 x x Tryz.underlying22, Result.andThen_ok]
    simp [ih]

theorem eql_regs (rg : List Int) (h : rg.length = 32) (w : World) : (binOp .eql 23 (.agg (rg.map (Value.int .u32)).toArray) (.agg (rg.map (Value.int .u32)).toArray)).run Tryz.prog w = .ok (.bool true) w := by
  have hi : ∃ i, Tryz.prog.info? 22 = some i := by
    refine Option.isSome_iff_exists.1 ?_
    kernel_rfl
  obtain ⟨i, hi⟩ := hi
  rw [run_eql_struct, run_equalIn_array (P := Tryz.prog) w 9999 _ _ Tryz.underlying23 hi, eq_items _ ?_ w _ ?_]
  · rfl
  · intro j hj
    refine ⟨rg.getD j 0, ?_⟩
    rw [List.getElem?_toArray, List.getElem?_map, List.getD_eq_getElem?_getD, List.getElem?_eq_getElem (by omega)]
    rfl
  · intro k hk
    exact List.mem_range.1 hk

set_option maxHeartbeats 8000000 in
theorem same_sev (base q qm n : Nat) (s : MSt) (v : Value) (L : List (Int × Int)) (hn : n ≤ 100000) (hL : CellsOf s.M L) (hLn : L.length ≤ 100000) (w : World) (h : Ref7At w base q qm n s) (hv : CellsAt w v L) :
    Calls Tryz.prog 10 #[.pointer (some ⟨q, 0, none⟩), .agg (machC s.rg s.pc v)] w fun e w' => e = .returned (.bool true) ∧ Nx w w' := by
  have hlen := h.len
  have hq := h.has.lt
  have HA := Lib.hid (Has.new w (.cells (machC s.rg s.pc v) 26))
  obtain ⟨W, hW⟩ : ∃ x, w.alloc (.cells (machC s.rg s.pc v) 26) = x := ⟨_, rfl⟩
  have hnW : Nx w W := by rw [← hW]; exact (Nx.refl w).alloc _
  rw [hW] at HA
  have C1 := Lib.hid (fun w' (hw : Nx W w') => cells_ref base qm n s.M hn w' (h.mem.nx (hnW.trans hw)))
  have C2 := Lib.hid (fun w' (u : Value) (L' : List (Int × Int)) (hw : Nx W w') (hL' : CellsOf s.M L') (hu : CellsAt w' u L') => same_ref v u L hLn w' (hv.nx (hnW.trans hw)) (by rw [hL.unique hL']; exact hu))
  obtain ⟨PC, hPC⟩ : ∃ x, s.pc = x := ⟨_, rfl⟩
  obtain ⟨RG, hRG⟩ : ∃ x, s.rg = x := ⟨_, rfl⟩
  have KS : ∀ w', Nx W w' → (w'.rangeAt q 0 (s.rg.map (Value.int .u32)) ∧ w'.cell? ⟨q, 32, none⟩ = some (.int .u32 s.pc) ∧ w'.cell? ⟨q, 33, none⟩ = some (.pointer (some ⟨qm, 0, none⟩)) ∧ w'.rangeAt w.heap.size 0 (s.rg.map (Value.int .u32)) ∧ w'.cell? ⟨w.heap.size, 32, none⟩ = some (.int .u32 s.pc) ∧ w'.cell? ⟨w.heap.size, 33, none⟩ = some v ∧ Nx W w') := fun w' hw => by
    have h2 := h.nx (hnW.trans hw)
    exact ⟨range_of h2.has, h2.pcc, h2.ptr, range_of (HA.out.nx hw), (HA.out.nx hw).cell 32 _ (machC_pc hlen _ v), (HA.out.nx hw).cell 33 _ (machC_ptr hlen _ v), hw⟩
  rw [hRG, hPC] at KS
  have HKS := Lib.hid KS
  have HNW := Lib.hid hnW
  rw [hRG] at hlen
  have heq := eql_regs RG hlen
  have l23 : (RG.map (Value.int .u32)).length = 32 := by rw [List.length_map]; exact hlen
  have i23 : (Tryz.prog.info? 23).map (·.size) = some (RG.map (Value.int .u32)).length := by rw [l23]; kernel_rfl
  have o23 : ∀ x ∈ RG.map (Value.int .u32), x.oneCell' = true := fun x hx => by
    obtain ⟨y, _, rfl⟩ := List.mem_map.1 hx
    rfl
  have u23 := Tryz.underlying23
  obtain ⟨A, c, rfl, _, _, _⟩ := hv.form
  have hWW := Lib.hid (show w.alloc (.cells (machC RG PC (.slice A L.length c)) 26) = W by rw [← hRG, ← hPC]; exact hW)
  rw [hRG, hPC]
  clear h KS hnW hW hv hRG hPC
  go_enter Tryz.func10, Tryz.ntmps10
  go_upto_region 1 with fail
  rw [hWW.out]
  refine wp_region_held_drew (S := (fun w' => w'.rangeAt q 0 (RG.map (Value.int .u32)) ∧ w'.cell? ⟨q, 32, none⟩ = some (.int .u32 PC) ∧ w'.cell? ⟨q, 33, none⟩ = some (.pointer (some ⟨qm, 0, none⟩)) ∧ w'.rangeAt w.heap.size 0 (RG.map (Value.int .u32)) ∧ w'.cell? ⟨w.heap.size, 32, none⟩ = some (.int .u32 PC) ∧ w'.cell? ⟨w.heap.size, 33, none⟩ = some (.slice A L.length c) ∧ Nx W w')) (by kernel_rfl) (HKS.out _ ((Nx.refl _).drew)) (fun hHeld => ?_)
  refine wpAnyH_take (i := 0) (oi := { dst := some 5, op := Op.fieldAddr 26 (Operand.tmp 3) 0, type := 0, pos := "ref.go:96", after := #[], guard := none }) (v := ?v0) rfl (by kernel_rfl) (by kernel_rfl) (by kernel_rfl) (fun _ _ _ h => h) (Or.inl ⟨by rfl, ?y0⟩) (by assumption) ?z0
  case y0 => intro w hSw; obtain ⟨hs0, hs1, hs2, hs3, hs4, hs5, hs6⟩ := hSw; go_simp; all_goals with_reducible rfl
  try simp only [Act.put, List.setIfInBounds_toArray, List.set_cons_zero, List.set_cons_succ]
  refine wpAnyH_take (i := 1) (oi := { dst := some 6, op := Op.load 23 (Operand.tmp 5), type := 23, pos := "ref.go:96", after := #[{ on := 0, ground := Ground.data }], guard := none }) (v := _) rfl (by kernel_rfl) (by kernel_rfl) (by kernel_rfl) (fun _ _ _ h => h) (yieldsIf_load_mid (by rfl) _ _ rfl _ _ rfl _ _ (fun w hSw => hSw.2.2.2.1) u23 rfl i23) (by assumption) ?_
  try simp only [Act.put, List.setIfInBounds_toArray, List.set_cons_zero, List.set_cons_succ]
  refine wpAnyH_take (i := 2) (oi := { dst := some 7, op := Op.move (Operand.tmp 0), type := 30, pos := "ref.go:96", after := #[], guard := none }) (v := ?v2) rfl (by kernel_rfl) (by kernel_rfl) (by kernel_rfl) (fun _ _ _ h => h) (Or.inl ⟨by rfl, ?y2⟩) (by assumption) ?z2
  case y2 => intro w hSw; obtain ⟨hs0, hs1, hs2, hs3, hs4, hs5, hs6⟩ := hSw; go_simp; all_goals with_reducible rfl
  try simp only [Act.put, List.setIfInBounds_toArray, List.set_cons_zero, List.set_cons_succ]
  refine wpAnyH_take (i := 3) (oi := { dst := some 8, op := Op.nilCheck (Operand.tmp 7), type := 0, pos := "ref.go:96", after := #[{ on := 2, ground := Ground.data }], guard := none }) (v := ?v3) rfl (by kernel_rfl) (by kernel_rfl) (by kernel_rfl) (fun _ _ _ h => h) (Or.inl ⟨by rfl, ?y3⟩) (by assumption) ?z3
  case y3 => intro w hSw; obtain ⟨hs0, hs1, hs2, hs3, hs4, hs5, hs6⟩ := hSw; go_simp; all_goals with_reducible rfl
  try simp only [Act.put, List.setIfInBounds_toArray, List.set_cons_zero, List.set_cons_succ]
  refine wpAnyH_take (i := 4) (oi := { dst := some 9, op := Op.fieldAddr 57 (Operand.tmp 8) 0, type := 0, pos := "ref.go:96", after := #[{ on := 3, ground := Ground.data }], guard := none }) (v := ?v4) rfl (by kernel_rfl) (by kernel_rfl) (by kernel_rfl) (fun _ _ _ h => h) (Or.inl ⟨by rfl, ?y4⟩) (by assumption) ?z4
  case y4 => intro w hSw; obtain ⟨hs0, hs1, hs2, hs3, hs4, hs5, hs6⟩ := hSw; go_simp; all_goals with_reducible rfl
  try simp only [Act.put, List.setIfInBounds_toArray, List.set_cons_zero, List.set_cons_succ]
  refine wpAnyH_take (i := 5) (oi := { dst := some 10, op := Op.load 23 (Operand.tmp 9), type := 23, pos := "ref.go:96", after := #[{ on := 4, ground := Ground.data }], guard := none }) (v := _) rfl (by kernel_rfl) (by kernel_rfl) (by kernel_rfl) (fun _ _ _ h => h) (yieldsIf_load_mid (by rfl) _ _ rfl _ _ rfl _ _ (fun w hSw => hSw.1) u23 rfl i23) (by assumption) ?_
  try simp only [Act.put, List.setIfInBounds_toArray, List.set_cons_zero, List.set_cons_succ]
  refine wpAnyH_take (i := 6) (oi := { dst := some 11, op := Op.binOp BinOp.eql 23 (Operand.tmp 6) (Operand.tmp 10) 23, type := 4, pos := "ref.go:96", after := #[{ on := 1, ground := Ground.data }, { on := 5, ground := Ground.data }], guard := none }) (v := .bool true) rfl (by kernel_rfl) (by kernel_rfl) (by kernel_rfl) (fun _ _ _ h => h) (Or.inl ⟨by rfl, ?y6⟩) (by assumption) ?z6
  case y6 => intro w hSw; obtain ⟨hs0, hs1, hs2, hs3, hs4, hs5, hs6⟩ := hSw; unfold execOp; dsimp only; rw [Sem.run_bind, Sem.run_bind]; change ((Sem.run Tryz.prog (eqGuard .eql 23 (.tmp 6) (.tmp 10) (.agg (List.map (Value.int .u32) RG).toArray) (.agg (List.map (Value.int .u32) RG).toArray)) w).andThen _).andThen _ = _; rw [run_eqGuard_agg (P := Tryz.prog) w .eql 23 (.tmp 6) (.tmp 10) (List.map (Value.int .u32) RG).toArray (List.map (Value.int .u32) RG).toArray (by kernel_rfl), Result.andThen_ok]; change (Sem.run Tryz.prog (binOp .eql 23 (.agg (List.map (Value.int .u32) RG).toArray) (.agg (List.map (Value.int .u32) RG).toArray)) w).andThen _ = _; rw [heq w]; rfl
  try simp only [Act.put, List.setIfInBounds_toArray, List.set_cons_zero, List.set_cons_succ]
  refine wpAnyH_take (i := 7) (oi := { dst := some 12, op := Op.move (Operand.tmp 11), type := 4, pos := "ref.go:96", after := #[{ on := 6, ground := Ground.data }], guard := none }) (v := ?v7) rfl (by kernel_rfl) (by kernel_rfl) (by kernel_rfl) (fun _ _ _ h => h) (Or.inl ⟨by rfl, ?y7⟩) (by assumption) ?z7
  case y7 => intro w hSw; obtain ⟨hs0, hs1, hs2, hs3, hs4, hs5, hs6⟩ := hSw; go_simp; all_goals with_reducible rfl
  try simp only [Act.put, List.setIfInBounds_toArray, List.set_cons_zero, List.set_cons_succ]
  refine wpAnyH_take (i := 8) (oi := { dst := some 13, op := Op.fieldAddr 26 (Operand.tmp 3) 1, type := 0, pos := "ref.go:96", after := #[{ on := 7, ground := Ground.guard }], guard := some (7, true) }) (v := ?v8) rfl (by kernel_rfl) (by kernel_rfl) (by kernel_rfl) (fun _ _ _ h => h) (Or.inl ⟨by rfl, ?y8⟩) (by assumption) ?z8
  case y8 => intro w hSw; obtain ⟨hs0, hs1, hs2, hs3, hs4, hs5, hs6⟩ := hSw; go_simp; all_goals with_reducible rfl
  try simp only [Act.put, List.setIfInBounds_toArray, List.set_cons_zero, List.set_cons_succ]
  refine wpAnyH_take (i := 9) (oi := { dst := some 14, op := Op.load 22 (Operand.tmp 13), type := 22, pos := "ref.go:96", after := #[{ on := 8, ground := Ground.data }, { on := 7, ground := Ground.guard }], guard := some (7, true) }) (v := ?v9) rfl (by kernel_rfl) (by kernel_rfl) (by kernel_rfl) (fun _ _ _ h => h) (Or.inl ⟨by rfl, ?y9⟩) (by assumption) ?z9
  case y9 => intro w hSw; obtain ⟨hs0, hs1, hs2, hs3, hs4, hs5, hs6⟩ := hSw; go_simp; all_goals with_reducible rfl
  try simp only [Act.put, List.setIfInBounds_toArray, List.set_cons_zero, List.set_cons_succ]
  refine wpAnyH_take (i := 10) (oi := { dst := some 15, op := Op.move (Operand.tmp 0), type := 30, pos := "ref.go:96", after := #[{ on := 7, ground := Ground.guard }], guard := some (7, true) }) (v := ?v10) rfl (by kernel_rfl) (by kernel_rfl) (by kernel_rfl) (fun _ _ _ h => h) (Or.inl ⟨by rfl, ?y10⟩) (by assumption) ?z10
  case y10 => intro w hSw; obtain ⟨hs0, hs1, hs2, hs3, hs4, hs5, hs6⟩ := hSw; go_simp; all_goals with_reducible rfl
  try simp only [Act.put, List.setIfInBounds_toArray, List.set_cons_zero, List.set_cons_succ]
  refine wpAnyH_take (i := 11) (oi := { dst := some 16, op := Op.nilCheck (Operand.tmp 15), type := 0, pos := "ref.go:96", after := #[{ on := 10, ground := Ground.data }, { on := 7, ground := Ground.guard }], guard := some (7, true) }) (v := ?v11) rfl (by kernel_rfl) (by kernel_rfl) (by kernel_rfl) (fun _ _ _ h => h) (Or.inl ⟨by rfl, ?y11⟩) (by assumption) ?z11
  case y11 => intro w hSw; obtain ⟨hs0, hs1, hs2, hs3, hs4, hs5, hs6⟩ := hSw; go_simp; all_goals with_reducible rfl
  try simp only [Act.put, List.setIfInBounds_toArray, List.set_cons_zero, List.set_cons_succ]
  refine wpAnyH_take (i := 12) (oi := { dst := some 17, op := Op.fieldAddr 57 (Operand.tmp 16) 1, type := 0, pos := "ref.go:96", after := #[{ on := 11, ground := Ground.data }, { on := 7, ground := Ground.guard }], guard := some (7, true) }) (v := ?v12) rfl (by kernel_rfl) (by kernel_rfl) (by kernel_rfl) (fun _ _ _ h => h) (Or.inl ⟨by rfl, ?y12⟩) (by assumption) ?z12
  case y12 => intro w hSw; obtain ⟨hs0, hs1, hs2, hs3, hs4, hs5, hs6⟩ := hSw; go_simp; all_goals with_reducible rfl
  try simp only [Act.put, List.setIfInBounds_toArray, List.set_cons_zero, List.set_cons_succ]
  refine wpAnyH_take (i := 13) (oi := { dst := some 18, op := Op.load 22 (Operand.tmp 17), type := 22, pos := "ref.go:96", after := #[{ on := 12, ground := Ground.data }, { on := 7, ground := Ground.guard }], guard := some (7, true) }) (v := ?v13) rfl (by kernel_rfl) (by kernel_rfl) (by kernel_rfl) (fun _ _ _ h => h) (Or.inl ⟨by rfl, ?y13⟩) (by assumption) ?z13
  case y13 => intro w hSw; obtain ⟨hs0, hs1, hs2, hs3, hs4, hs5, hs6⟩ := hSw; go_simp; all_goals with_reducible rfl
  try simp only [Act.put, List.setIfInBounds_toArray, List.set_cons_zero, List.set_cons_succ]
  refine wpAnyH_take (i := 14) (oi := { dst := some 19, op := Op.binOp BinOp.eql 22 (Operand.tmp 14) (Operand.tmp 18) 22, type := 4, pos := "ref.go:96", after := #[{ on := 9, ground := Ground.data }, { on := 13, ground := Ground.data }, { on := 7, ground := Ground.guard }], guard := some (7, true) }) (v := ?v14) rfl (by kernel_rfl) (by kernel_rfl) (by kernel_rfl) (fun _ _ _ h => h) (Or.inl ⟨by rfl, ?y14⟩) (by assumption) ?z14
  case y14 => intro w hSw; obtain ⟨hs0, hs1, hs2, hs3, hs4, hs5, hs6⟩ := hSw; go_simp; all_goals with_reducible rfl
  try simp only [Act.put, List.setIfInBounds_toArray, List.set_cons_zero, List.set_cons_succ]
  refine wpAnyH_take (i := 15) (oi := { dst := some 20, op := Op.pick (Operand.tmp 12) (Operand.tmp 19) (Operand.const (Value.bool false)), type := 4, pos := "ref.go:96", after := #[{ on := 7, ground := Ground.data }, { on := 14, ground := Ground.data }], guard := none }) (v := ?v15) rfl (by kernel_rfl) (by kernel_rfl) (by kernel_rfl) (fun _ _ _ h => h) (Or.inl ⟨by rfl, ?y15⟩) (by assumption) ?z15
  case y15 => intro w hSw; obtain ⟨hs0, hs1, hs2, hs3, hs4, hs5, hs6⟩ := hSw; go_simp; all_goals with_reducible rfl
  try simp only [Act.put, List.setIfInBounds_toArray, List.set_cons_zero, List.set_cons_succ]
  refine wpAnyH_take (i := 16) (oi := { dst := some 21, op := Op.move (Operand.tmp 20), type := 4, pos := "ref.go:96", after := #[{ on := 15, ground := Ground.data }, { on := 7, ground := Ground.chain }], guard := none }) (v := ?v16) rfl (by kernel_rfl) (by kernel_rfl) (by kernel_rfl) (fun _ _ _ h => h) (Or.inl ⟨by rfl, ?y16⟩) (by assumption) ?z16
  case y16 => intro w hSw; obtain ⟨hs0, hs1, hs2, hs3, hs4, hs5, hs6⟩ := hSw; go_simp; all_goals with_reducible rfl
  try simp only [Act.put, List.setIfInBounds_toArray, List.set_cons_zero, List.set_cons_succ]
  refine wpAnyH_take (i := 17) (oi := { dst := some 22, op := Op.fieldAddr 26 (Operand.tmp 3) 2, type := 0, pos := "ref.go:96", after := #[{ on := 16, ground := Ground.guard }], guard := some (16, true) }) (v := ?v17) rfl (by kernel_rfl) (by kernel_rfl) (by kernel_rfl) (fun _ _ _ h => h) (Or.inl ⟨by rfl, ?y17⟩) (by assumption) ?z17
  case y17 => intro w hSw; obtain ⟨hs0, hs1, hs2, hs3, hs4, hs5, hs6⟩ := hSw; go_simp; all_goals with_reducible rfl
  try simp only [Act.put, List.setIfInBounds_toArray, List.set_cons_zero, List.set_cons_succ]
  refine wpAnyH_take (i := 18) (oi := { dst := some 23, op := Op.load 24 (Operand.tmp 22), type := 24, pos := "ref.go:96", after := #[{ on := 17, ground := Ground.data }, { on := 16, ground := Ground.guard }], guard := some (16, true) }) (v := ?v18) rfl (by kernel_rfl) (by kernel_rfl) (by kernel_rfl) (fun _ _ _ h => h) (Or.inl ⟨by rfl, ?y18⟩) (by assumption) ?z18
  case y18 => intro w hSw; obtain ⟨hs0, hs1, hs2, hs3, hs4, hs5, hs6⟩ := hSw; go_simp; all_goals with_reducible rfl
  try simp only [Act.put, List.setIfInBounds_toArray, List.set_cons_zero, List.set_cons_succ]
  refine wpAnyH_take (i := 19) (oi := { dst := some 24, op := Op.move (Operand.tmp 0), type := 30, pos := "ref.go:96", after := #[{ on := 16, ground := Ground.guard }], guard := some (16, true) }) (v := ?v19) rfl (by kernel_rfl) (by kernel_rfl) (by kernel_rfl) (fun _ _ _ h => h) (Or.inl ⟨by rfl, ?y19⟩) (by assumption) ?z19
  case y19 => intro w hSw; obtain ⟨hs0, hs1, hs2, hs3, hs4, hs5, hs6⟩ := hSw; go_simp; all_goals with_reducible rfl
  try simp only [Act.put, List.setIfInBounds_toArray, List.set_cons_zero, List.set_cons_succ]
  refine wpAnyH_take (i := 20) (oi := { dst := some 25, op := Op.nilCheck (Operand.tmp 24), type := 0, pos := "ref.go:96", after := #[{ on := 19, ground := Ground.data }, { on := 16, ground := Ground.guard }], guard := some (16, true) }) (v := ?v20) rfl (by kernel_rfl) (by kernel_rfl) (by kernel_rfl) (fun _ _ _ h => h) (Or.inl ⟨by rfl, ?y20⟩) (by assumption) ?z20
  case y20 => intro w hSw; obtain ⟨hs0, hs1, hs2, hs3, hs4, hs5, hs6⟩ := hSw; go_simp; all_goals with_reducible rfl
  try simp only [Act.put, List.setIfInBounds_toArray, List.set_cons_zero, List.set_cons_succ]
  refine wpAnyH_take (i := 21) (oi := { dst := some 26, op := Op.fieldAddr 57 (Operand.tmp 25) 2, type := 0, pos := "ref.go:96", after := #[{ on := 20, ground := Ground.data }, { on := 16, ground := Ground.guard }], guard := some (16, true) }) (v := ?v21) rfl (by kernel_rfl) (by kernel_rfl) (by kernel_rfl) (fun _ _ _ h => h) (Or.inl ⟨by rfl, ?y21⟩) (by assumption) ?z21
  case y21 => intro w hSw; obtain ⟨hs0, hs1, hs2, hs3, hs4, hs5, hs6⟩ := hSw; go_simp; all_goals with_reducible rfl
  try simp only [Act.put, List.setIfInBounds_toArray, List.set_cons_zero, List.set_cons_succ]
  refine wpAnyH_take (i := 22) (oi := { dst := some 27, op := Op.load 54 (Operand.tmp 26), type := 54, pos := "ref.go:96", after := #[{ on := 21, ground := Ground.data }, { on := 16, ground := Ground.guard }], guard := some (16, true) }) (v := ?v22) rfl (by kernel_rfl) (by kernel_rfl) (by kernel_rfl) (fun _ _ _ h => h) (Or.inl ⟨by rfl, ?y22⟩) (by assumption) ?z22
  case y22 => intro w hSw; obtain ⟨hs0, hs1, hs2, hs3, hs4, hs5, hs6⟩ := hSw; go_simp; all_goals with_reducible rfl
  try simp only [Act.put, List.setIfInBounds_toArray, List.set_cons_zero, List.set_cons_succ]
  have HS0 := Lib.hid hHeld
  clear hHeld
  refine wpAnyH_ready (rs := [23]) (by kernel_rfl) (by simp) ?_
  refine AllReadyH.cons (o := { dst := some 28, op := Op.call { callee := Callee.value (Operand.func 21), args := #[Operand.tmp 27], argTypes := #[54] }, type := 24, pos := "ref.go:96", after := #[{ on := 22, ground := Ground.data }, { on := 16, ground := Ground.chain }, { on := 16, ground := Ground.guard }], guard := some (16, true) }) rfl (fun K hK => ?_) AllReadyH.nil
  go_simp
  refine (C1.out _ ((Nx.refl _).drew)).mono ?_
  rintro e w2 ⟨u, L', rfl, hL', _, hu, hn2⟩
  have hX : Nx W w2 := ((Nx.refl W).drew).trans hn2
  have C3 := Lib.hid (C2.out _ _ _ hX hL' hu)
  have HX := Lib.hid hX
  clear hn2 hX hL' hu
  refine hK.out _ _ (HKS.out _ HX.out) (fun hHeld => ?_)
  clear hK K
  try simp only [Act.put, List.setIfInBounds_toArray, List.set_cons_zero, List.set_cons_succ]
  refine wpAnyH_ready (rs := [24]) (by kernel_rfl) (by simp) ?_
  refine AllReadyH.cons (o := { dst := some 29, op := Op.call { callee := Callee.value (Operand.func 20), args := #[Operand.tmp 23, Operand.tmp 28], argTypes := #[24, 24] }, type := 4, pos := "ref.go:96", after := #[{ on := 18, ground := Ground.data }, { on := 23, ground := Ground.data }, { on := 23, ground := Ground.chain }, { on := 16, ground := Ground.guard }], guard := some (16, true) }) rfl (fun K hK => ?_) AllReadyH.nil
  go_simp
  refine (C3.out).mono ?_
  rintro e w3 ⟨rfl, hn3⟩
  have hX := HX.out.trans hn3
  have HX3 := Lib.hid hX
  clear hn3 hX hHeld
  refine hK.out _ _ (HKS.out _ HX3.out) (fun hHeld => ?_)
  clear hK K
  try simp only [Act.put, List.setIfInBounds_toArray, List.set_cons_zero, List.set_cons_succ]
  refine wpAnyH_take (i := 25) (oi := { dst := some 30, op := Op.pick (Operand.tmp 21) (Operand.tmp 29) (Operand.const (Value.bool false)), type := 4, pos := "ref.go:96", after := #[{ on := 16, ground := Ground.data }, { on := 24, ground := Ground.data }], guard := none }) (v := ?v25) rfl (by kernel_rfl) (by kernel_rfl) (by kernel_rfl) (fun _ _ _ h => h) (Or.inl ⟨by rfl, ?y25⟩) (by assumption) ?z25
  case y25 => intro w hSw; obtain ⟨hs0, hs1, hs2, hs3, hs4, hs5, hs6⟩ := hSw; go_simp; all_goals with_reducible rfl
  try simp only [Act.put, List.setIfInBounds_toArray, List.set_cons_zero, List.set_cons_succ]
  refine wpAnyH_take (i := 26) (oi := { dst := some 4, op := Op.assign (Operand.tmp 30), type := 4, pos := "ref.go:96", after := #[{ on := 25, ground := Ground.data }, { on := 24, ground := Ground.chain }, { on := 0, ground := Ground.phase }, { on := 1, ground := Ground.phase }, { on := 2, ground := Ground.phase }, { on := 3, ground := Ground.phase }, { on := 4, ground := Ground.phase }, { on := 5, ground := Ground.phase }, { on := 6, ground := Ground.phase }, { on := 7, ground := Ground.phase }, { on := 8, ground := Ground.phase }, { on := 9, ground := Ground.phase }, { on := 10, ground := Ground.phase }, { on := 11, ground := Ground.phase }, { on := 12, ground := Ground.phase }, { on := 13, ground := Ground.phase }, { on := 14, ground := Ground.phase }, { on := 15, ground := Ground.phase }, { on := 16, ground := Ground.phase }, { on := 17, ground := Ground.phase }, { on := 18, ground := Ground.phase }, { on := 19, ground := Ground.phase }, { on := 20, ground := Ground.phase }, { on := 21, ground := Ground.phase }, { on := 22, ground := Ground.phase }, { on := 23, ground := Ground.phase }, { on := 24, ground := Ground.phase }, { on := 25, ground := Ground.phase }], guard := none }) (v := ?v26) rfl (by kernel_rfl) (by kernel_rfl) (by kernel_rfl) (fun _ _ _ h => h) (Or.inl ⟨by rfl, ?y26⟩) (by assumption) ?z26
  case y26 => intro w hSw; obtain ⟨hs0, hs1, hs2, hs3, hs4, hs5, hs6⟩ := hSw; go_simp; all_goals with_reducible rfl
  try simp only [Act.put, List.setIfInBounds_toArray, List.set_cons_zero, List.set_cons_succ]
  clear hHeld
  refine wpAnyH_done (by kernel_rfl) ?_ _
  go_wp2_with fail
  go_ret
  exact ⟨rfl, HNW.out.trans HX3.out⟩

end Go.Proofs.YtndpgakjpokllaaGreat

