/- Contracts of package typecaseref03: Form, and what may be. -/
import Derived.Test.YtdgmdkkockbkjaaGreatDoorRefc
namespace Go.Proofs.YtdgmdkkockbkjaaGreatDoor
open Go.RowKit
set_option linter.unusedVariables false

theorem formN_out (op : Int) (h : op < 1 ∨ 48 < op) : formN op = 0 := by
  unfold formN
  rcases h with h | h
  · have : op.toNat = 0 := by omega
    rw [this]; rfl
  · have : formsL.length ≤ op.toNat := by have : formsL.length = 49 := rfl
                                          omega
    rw [List.getD_eq_getElem?_getD, List.getElem?_eq_none this]; rfl

theorem getq {α : Type} (l : List α) (m : Nat) (d : α) (h : m < l.length) : l[m]? = some (l.getD m d) := by
  rw [List.getD_eq_getElem?_getD, List.getElem?_eq_getElem h]; rfl

set_option maxHeartbeats 2000000 in
theorem form_any (op : Int) (w : World) : Calls Tryz.prog 69 #[.int .i64 op] w fun e w' => e = .returned (.int .i64 (formN op)) ∧ Nx w w' := by
  by_cases h : op < 1 ∨ 48 < op
  · have he := Lib.hid (formN_out op h)
    rcases h with h | h
    · go_enter Tryz.func69, Tryz.ntmps69
      go_wp2
      go_ret
      exact ⟨ret_i64 he.out.symm, Nx.refl _⟩
    · have h' : ¬ op < 1 := by omega
      go_enter Tryz.func69, Tryz.ntmps69
      go_wp2
      go_ret
      exact ⟨ret_i64 he.out.symm, Nx.refl _⟩
  obtain ⟨n, rfl⟩ := Int.eq_ofNat_of_zero_le (show 0 ≤ op by omega)
  have h1 : 1 ≤ n := by omega
  have h2 : n ≤ 48 := by omega
  have d1 : decide ((n : Int) < 1) = false := by simp; omega
  have d2 : decide (48 < (n : Int)) = false := by simp; omega
  clear h
  have FF := Lib.hid (fun k i hk hi => find_form n k i h2 h1 hk hi)
  have FN := Lib.hid (find_none n h2 h1)
  have hget : nmB[n]? = some (nmB.getD n []) := by
    have : n < nmB.length := by have : nmB.length = 49 := rfl
                                omega
    rw [List.getD_eq_getElem?_getD, List.getElem?_eq_getElem this]; rfl
  have HG := Lib.hid hget
  clear hget
  generalize nmB.getD n [] = nm at *
  go_enter Tryz.func69, Tryz.ntmps69
  go_wp2_with fail
  refine (names_any _).mono ?_
  rintro e w1 ⟨rfl, hs, hn⟩
  have hc := hs n nm HG.out
  clear hs
  go_wp2
  generalize hW : World.alloc (World.alloc (World.alloc _ _) _) _ = W
  have rows : ∀ k, k < 9 → ∃ A, W.cell? ⟨w1.heap.size + 1 + 1 + 1 + 1 + 1 + 1 + 1 + 1, k, none⟩ = some (.slice A (llN k) (llN k)) ∧ (0 < llN k → ∃ g, A = some ⟨g, 0, none⟩ ∧ Strs W g (llB.getD k [])) := fun k hk => by
    subst hW; exact llW_rows w1 k hk
  have hnW : Nx w1 W := by subst hW; exact llW_nx w1
  have hnW2 := Lib.hid (hn.trans hnW)
  have ROWS := Lib.hid rows
  clear rows hW hn hnW hc HG
  generalize w1.heap.size + 1 + 1 + 1 + 1 + 1 + 1 + 1 + 1 = G at *
  go_loop [5, 6] (fun f i => ∃ k : Nat, k ≤ 9 ∧ f = .int .i64 k ∧ Hid (∀ j i, j < k → i < llN j → ¬ (llB.getD j [])[i]? = some nm)) (fun f _ => 9 - (intOf f).toNat)
  case atStart => exact ⟨0, by omega, rfl, Lib.hid (fun j i hj => absurd hj (by omega))⟩
  case round =>
    obtain ⟨k, hk, rfl, hno⟩ := hrel
    by_cases hlt : k < 9
    · obtain ⟨A, hA, hA2⟩ := ROWS.out k hlt
      have HA2 := Lib.hid hA2
      have hlen : llN k ≤ 6 := by
        have h3 : ∀ k : Fin 9, llN k.val ≤ 6 := by decide
        exact h3 ⟨k, hlt⟩
      have HK := Lib.hid (show (llB.getD k []).length = llN k from rfl)
      clear hA2
      generalize llN k = len at *
      go_wp2
      go_loop [6] (fun i => ∃ m : Nat, m ≤ len ∧ i = .int .i64 m ∧ Hid (∀ i, i < m → ¬ (llB.getD k [])[i]? = some nm)) (fun i => len - (intOf i).toNat)
      case atStart => exact ⟨0, by omega, rfl, Lib.hid (fun i hi => absurd hi (by omega))⟩
      case round =>
        obtain ⟨m, hm, rfl, hno2⟩ := hrel
        by_cases hlt2 : m < len
        · obtain ⟨g, hgA, hs⟩ := HA2.out (by omega)
          subst hgA
          have hgm : (llB.getD k [])[m]? = some ((llB.getD k []).getD m []) := by
            exact getq _ m [] (by rw [HK.out]; exact hlt2)
          have hcell := hs m _ hgm
          have HGM := Lib.hid hgm
          clear hs hgm
          generalize (llB.getD k []).getD m [] = s at *
          by_cases hsn : s = nm
          · have hb : (s == nm) = true := by rw [hsn]; simp
            have HR := Lib.hid (FF.out k m hlt (by rw [← hsn]; exact HGM.out))
            clear hsn
            go_wp2
            go_ret
            exact ⟨ret_i64 HR.out, hnW2.out⟩
          · have hb : (s == nm) = false := by simpa using hsn
            have HNE := Lib.hid hsn
            clear hsn
            go_wp2
            go_round
            case rel =>
              refine ⟨m + 1, by omega, by go_num, Lib.hid (fun i hi => ?_)⟩
              by_cases e : i = m
              · subst e; rw [HGM.out]; exact fun c => HNE.out (Option.some.inj c)
              · exact hno2.out i (by omega)
            case measure => simp [intOf]; omega
        · have hml : m = len := by omega
          have HML := Lib.hid hml
          clear hml
          go_wp2
          go_round
          case rel =>
            refine ⟨k + 1, by omega, by go_num, Lib.hid (fun j i hj hi => ?_)⟩
            by_cases e : j = k
            · subst e; exact hno2.out i (by rw [HML.out, ← HK.out]; exact hi)
            · exact hno.out j i (by omega) hi
          case measure => simp [intOf]; omega
    · have hk9 : k = 9 := by omega
      have HR := Lib.hid (FN.out (fun j i hj hi => hno.out j i (by omega) hi))
      clear hk9
      go_wp2
      go_ret
      exact ⟨ret_i64 HR.out, hnW2.out⟩

set_option maxHeartbeats 400000 in
theorem rreg_any (n : Int) (b : Bool) (w : World) : Calls Tryz.prog 86 #[.int .i64 n, .bool b] w fun e w' => e = .returned (.bool (regB n b)) ∧ w = w' := by
  cases b
  · go_enter Tryz.func86, Tryz.ntmps86
    go_wp2
    go_ret
    exact ⟨rfl, rfl⟩
  · go_enter Tryz.func86, Tryz.ntmps86
    go_wp2
    all_goals
      go_ret
      exact ⟨ret_bool (by first | (simp_all [regB]; done) | (simp [regB]; omega)), rfl⟩

set_option maxHeartbeats 400000 in
theorem rfits_any (v n : Int) (w : World) (hv : -2147483648 ≤ v) (hv' : v ≤ 2147483647) (hn : 0 ≤ n) (hn' : n ≤ 32) : Calls Tryz.prog 96 #[.int .i32 v, .int .i64 n] w fun e w' => e = .returned (.bool (fitB v n.toNat)) ∧ w = w' := by
  go_enter Tryz.func96, Tryz.ntmps96
  go_wp2_with (go_at_call 50; refine (rsign_in _ _ _ (by omega) (by omega) (by omega) (by omega)).mono ?_; rintro e w' ⟨rfl, rfl⟩)
  go_ret
  exact ⟨rfl, rfl⟩

theorem mod_mod_4096 (v : Int) : v % 4294967296 % 4096 = v % 4096 := by omega

theorem mod_mod_2 (v : Int) : v % 4294967296 % 2 = v % 2 := by omega

set_option maxHeartbeats 1000000 in
theorem rnumber_any (f v : Int) (w : World) (hv : -2147483648 ≤ v) (hv' : v ≤ 2147483647) (hf : 0 ≤ f) (hf' : f ≤ 9) : Calls Tryz.prog 87 #[.int .i64 f, .int .i32 v] w fun e w' => e = .returned (.bool (numB f v)) ∧ w = w' := by
  have m1 := mod_mod_4096 v
  have m2 := mod_mod_2 v
  rcases (by omega : f = 0 ∨ f = 1 ∨ f = 2 ∨ f = 3 ∨ f = 4 ∨ f = 5 ∨ f = 6 ∨ f = 7 ∨ f = 8 ∨ f = 9) with rfl | rfl | rfl | rfl | rfl | rfl | rfl | rfl | rfl | rfl
  all_goals
    go_enter Tryz.func87, Tryz.ntmps87
    go_wp2_with (go_at_call 96; refine (rfits_any _ _ _ (by omega) (by omega) (by omega) (by omega)).mono ?_; rintro e w' ⟨rfl, rfl⟩)
  all_goals
    go_ret
    first
      | exact ⟨rfl, rfl⟩
      | (refine ⟨ret_bool ?_, rfl⟩; simp_all [numB]; done)
      | (refine ⟨ret_bool ?_, rfl⟩; simp only [numB]; rw [Bool.eq_iff_iff]; simp; omega)

set_option maxHeartbeats 2000000 in
theorem rmay_any (op rd rs1 rs2 imm : Int) (w : World) (hv : -2147483648 ≤ imm) (hv' : imm ≤ 2147483647) :
    Calls Tryz.prog 74 #[.agg #[.int .i64 op, .int .i64 rd, .int .i64 rs1, .int .i64 rs2, .int .i32 imm]] w fun e w' => e = .returned (.bool (mayB op rd rs1 rs2 imm)) ∧ Nx w w' := by
  have hM := Lib.hid (show mayB op rd rs1 rs2 imm = (!(formN op == 0) && (regB rd (needD (formN op)) && (regB rs1 (needS (formN op)) && (regB rs2 (needT (formN op)) && numB (formN op) imm)))) from rfl)
  rcases formN_range op with hf | hf | hf | hf | hf | hf | hf | hf | hf | hf
  all_goals
    have h1 := hM.out
    rw [hf] at h1
    have HM := Lib.hid h1
    clear h1 hM
    go_enter Tryz.func74, Tryz.ntmps74
    go_wp2_with fail
    refine (form_any _ _).mono ?_
    rintro e w1 ⟨rfl, hn⟩
    obtain ⟨c0, c1, c2, c3, c4, hz⟩ := five_in hn
    have hb := Lib.hid (((Nx.refl w).alloc _).trans hn)
    clear hn
    go_wp2_with (first | (go_at_call 86; refine (rreg_any _ _ _).mono ?_; rintro e w' ⟨rfl, rfl⟩) | (go_at_call 87; refine (rnumber_any _ _ _ hv hv' (by omega) (by omega)).mono ?_; rintro e w' ⟨rfl, rfl⟩))
  all_goals
    go_ret
    refine ⟨ret_bool ?_, hb.out⟩
    rw [HM.out]
    first | rfl | (simp_all [needD, needS, needT]; done)

end Go.Proofs.YtdgmdkkockbkjaaGreatDoor
