/- Contracts of package press: a row by its name; does an instruction fit a short? -/
import Derived.Test.YtdgmdkkockbkjaaGreatDoorPressl
namespace Go.Proofs.YtdgmdkkockbkjaaGreatDoor
open Go.RowKit
set_option linter.unusedVariables false
set_option linter.unusedSimpArgs false

set_option maxHeartbeats 2000000 in
theorem find_any (s : ByteArray) (w : World) :
    Calls Tryz.prog 32 #[.string s] w fun e w' => e = .returned (.tuple #[.agg (rowC (findR s)).toArray, .bool (findP s).isSome]) ∧ Nx w w' := by
  have HE0 := Lib.hid (fun k r hr hp hno => find_at s k r hr hp hno)
  have HE1 := Lib.hid (find_no s)
  go_enter Tryz.func32, Tryz.ntmps32
  go_wp2_with fail
  refine (prows_some _).mono ?_
  rintro e w1 ⟨g, rfl, hR, hn1⟩
  have HN1 := Lib.hid hn1
  have HR := Lib.hid hR
  clear hR hn1
  go_wp2
  go_loopw [5, 8] (fun _ i wr => ∃ k : Nat, k ≤ 27 ∧ i = .int .i64 k ∧ Nx w1 wr ∧ Hid (∀ j r', j < k → rowsL[j]? = some r' → (r'.name == s.toList) = false)) (fun _ i _ => 27 - (intOf i).toNat)
  case atStart => exact ⟨0, by omega, rfl, Nx.refl _, Lib.hid (fun j r' hj => absurd hj (by omega))⟩
  case round =>
    obtain ⟨k, hk, rfl, hnx, hno⟩ := hrel
    have HNX := Lib.hid hnx
    clear hnx
    by_cases hlt : k < 27
    · obtain ⟨r, hr⟩ := row_at k hlt
      have HL := Lib.hid ((HR.out.keep HNX.out) k r hr)
      have HRr := Lib.hid hr
      clear hr
      cases hp : (r.name == s.toList)
      · go_wp2_with (first | (refine wpList_load_mid (by rfl) 94 _ (by rfl) g (k * 10) (by rfl) (rowC r) _ HL.out Tryz.underlying94 rfl prow_size ?_) | (refine wpList_store_mid (by rfl) 94 _ _ (by rfl) wr.heap.size 0 (rowC r).toArray (by rfl) (by rfl) (prow_there wr) prow_size (prow_one r) ?_; rw [prow_set]))
        go_roundw
        case rel =>
          refine ⟨k + 1, by omega, by go_num, HNX.out.alloc _, Lib.hid (fun j r' hj hr' => ?_)⟩
          by_cases ej : j = k
          · subst ej
            rw [HRr.out] at hr'
            cases hr'
            exact hp
          · exact hno.out j r' (by omega) hr'
        case measure => simp [intOf]; omega
      · have hf := HE0.out k r HRr.out hp hno.out
        have HTW := Lib.hid (there_new (HN1.out.trans (HNX.out.alloc (.cells (rowC r).toArray 94))) 10 rfl)
        have e1 : findR s = r := by unfold findR; rw [hf]; rfl
        have e2 : (findP s).isSome = true := by rw [hf]; rfl
        have E1 := Lib.hid e1
        have E2 := Lib.hid e2
        clear hf e1 e2
        go_wp2_with (first | (refine wpList_load_mid (by rfl) 94 _ (by rfl) g (k * 10) (by rfl) (rowC r) _ HL.out Tryz.underlying94 rfl prow_size ?_) | (refine wpList_load_mid (by rfl) 94 _ (by rfl) wr.heap.size 0 (by rfl) (rowC r) _ (range_new wr r) Tryz.underlying94 rfl prow_size ?_) | (refine wpList_store_mid (by rfl) 94 _ _ (by rfl) wr.heap.size 0 (rowC r).toArray (by rfl) (by rfl) (prow_there wr) prow_size (prow_one r) ?_; rw [prow_set]) | (refine wpList_store_mid (by rfl) 94 _ _ (by rfl) w.heap.size 0 (rowC r).toArray (by rfl) (by rfl) HTW.out prow_size (prow_one r) ?_))
        refine bodyPost_ret (v := .tuple #[.agg (rowC r).toArray, .bool true]) (results_ct Tryz.results32 rfl rfl (run_loadVar_mid _ w.heap.size 0 94 (rowC r).toArray.toList _ (World.rangeAt_setCells_same _ w.heap.size 0 (rowC r).toArray.toList HTW.out) Tryz.underlying94 rfl prow_size)) rfl ⟨by rw [E1.out, E2.out], ?_⟩
        exact Nx.setCells (((Nx.refl w).alloc _).trans (HN1.out.trans (HNX.out.alloc _))) (Nat.le_refl _) _
    · have hf := HE1.out (fun j r' hj hr' => hno.out j r' (by omega) hr')
      have HTW := Lib.hid (there_new (HN1.out.trans HNX.out) 10 rfl)
      have e1 : findR s = PR0 := by unfold findR; rw [hf]; rfl
      have e2 : (findP s).isSome = false := by rw [hf]; rfl
      have E1 := Lib.hid e1
      have E2 := Lib.hid e2
      clear hf e1 e2
      go_wp2_with ((refine wpList_store_mid (by rfl) 94 _ _ (by rfl) w.heap.size 0 (rowC PR0).toArray (by rfl) (by rfl) HTW.out prow_size (prow_one PR0) ?_))
      refine bodyPost_ret (v := .tuple #[.agg (rowC PR0).toArray, .bool false]) (results_ct Tryz.results32 rfl rfl (run_loadVar_mid _ w.heap.size 0 94 (rowC PR0).toArray.toList _ (World.rangeAt_setCells_same _ w.heap.size 0 (rowC PR0).toArray.toList HTW.out) Tryz.underlying94 rfl prow_size)) rfl ⟨by rw [E1.out, E2.out], ?_⟩
      exact Nx.setCells (((Nx.refl w).alloc _).trans (HN1.out.trans HNX.out)) (Nat.le_refl _) _

/-- Does an instruction fit the short of a name? -/
def fitS (s : ByteArray) (op rd rs1 rs2 imm : Int) : Bool := (findP s).isSome && fitsB (findR s) op rd rs1 rs2 imm

theorem findR_ok (s : ByteArray) (h : (findP s).isSome = true) : (findR s).ok := by
  obtain ⟨r, hr⟩ := Option.isSome_iff_exists.1 h
  have e : findR s = r := by unfold findR; rw [hr]; rfl
  rw [e]
  exact rows_ok r (List.mem_of_find?_eq_some hr)

set_option maxHeartbeats 2000000 in
theorem pFits_any (s : ByteArray) (op rd rs1 rs2 imm : Int) (w : World) (hv : -2147483648 ≤ imm) (hv' : imm ≤ 2147483647) :
    Calls Tryz.prog 13 #[.string s, .agg #[.int .i64 op, .int .i64 rd, .int .i64 rs1, .int .i64 rs2, .int .i32 imm]] w fun e w' => e = .returned (.bool (fitS s op rd rs1 rs2 imm)) ∧ Nx w w' := by
  have HF := Lib.hid (show fitS s op rd rs1 rs2 imm = ((findP s).isSome && fitsB (findR s) op rd rs1 rs2 imm) from rfl)
  have HO := Lib.hid (findR_ok s)
  cases hs : (findP s).isSome
  · have HV := Lib.hid (HF.out.trans (by rw [hs, Bool.false_and]))
    go_enter Tryz.func13, Tryz.ntmps13
    go_wp2_with fail
    refine (find_any _ _).mono ?_
    rintro e w2 ⟨rfl, hn2⟩
    rw [hs]
    generalize findR s = R
    have HN := Lib.hid (((Nx.refl w).alloc _).trans hn2)
    clear hn2
    go_wp2_with (refine wpList_store_mid (by rfl) 94 _ _ (by rfl) w2.heap.size 0 (rowC R).toArray (by rfl) (by rfl) (prow_there w2) prow_size (prow_one R) ?_; rw [prow_set])
    go_ret
    exact ⟨ret_bool HV.out.symm, HN.out.alloc _⟩
  · have hok := HO.out hs
    have HV := Lib.hid (HF.out.trans (by rw [hs, Bool.true_and]))
    go_enter Tryz.func13, Tryz.ntmps13
    go_wp2_with fail
    refine (find_any _ _).mono ?_
    rintro e w2 ⟨rfl, hn2⟩
    rw [hs]
    obtain ⟨c0, c1, c2, c3, c4, hz⟩ := five_in hn2
    have HN := Lib.hid (((Nx.refl w).alloc _).trans hn2)
    clear hn2
    generalize findR s = R at *
    go_wp2_with (first | (refine wpList_store_mid (by rfl) 94 _ _ (by rfl) w2.heap.size 0 (rowC R).toArray (by rfl) (by rfl) (prow_there w2) prow_size (prow_one R) ?_; rw [prow_set]; dsimp only [rowC]) | (go_at_call 33; refine (pfits_any R op rd rs1 rs2 imm _ hok hv hv').mono ?_; rintro e w3 ⟨rfl, hn3⟩; have HN3 := Lib.hid hn3; clear hn3))
    go_ret
    exact ⟨ret_bool HV.out.symm, (HN.out.alloc _).trans HN3.out⟩

end Go.Proofs.YtdgmdkkockbkjaaGreatDoor
