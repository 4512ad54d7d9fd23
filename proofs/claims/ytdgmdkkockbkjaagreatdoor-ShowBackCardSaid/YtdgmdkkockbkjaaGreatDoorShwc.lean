/- Contracts of package show: letters, shortLetters, join; strconv.Itoa as a contract over the frame; the table of powers. -/
import Derived.Test.YtdgmdkkockbkjaaGreatDoorShwa
import Derived.Test.YtdgmdkkockbkjaaGreatDoorItop
import Derived.Lib.AppendIntMem
import Derived.WalkSmall
namespace Go.Proofs.YtdgmdkkockbkjaaGreatDoor
open Go.RowKit
set_option linter.unusedVariables false
set_option linter.unusedSimpArgs false

/-- The library's table of powers of ten lies as its initialiser lays it. -/
def Tab (w : World) : Prop := Lib.TabIs Tryz.prog w "internal/strconv.uint64pow10" .u64 Lib.pow10Tab

theorem gTab : Tryz.prog.globalNamed "internal/strconv.uint64pow10" = some 2 := by kernel_rfl

theorem Tab.nx {w w' : World} (h : Tab w) (hn : Nx w w') : Tab w' := by
  unfold Tab Lib.TabIs at h ⊢
  have hg : 2 < w.heap.size := by
    unfold World.var? at h
    rw [gTab] at h
    simp only [Option.bind_some] at h
    rcases Nat.lt_or_ge 2 w.heap.size with h1 | h1
    · exact h1
    · rw [Array.getElem?_eq_none h1] at h
      cases h
  exact var?_below hn gTab hg h

theorem gitoa_any (n : Int) (h0 : -9223372036854775808 ≤ n) (h1 : n ≤ 9223372036854775807) (w : World) (hT : Tab w) :
    Calls Tryz.prog 34 #[.int .i64 n] w fun e w' => e = .returned (.string (B (Lib.itoa n))) ∧ Nx w w' := by
  refine (Tryz.strconv_Itoa n h0 h1 w hT).mono ?_
  rintro e w' ⟨rfl, k, os, rfl⟩
  exact ⟨rfl, Lib.below_grow _ w (Nat.le_refl _) k os⟩

theorem letters_any (op : Int) (w : World) : Calls Tryz.prog 12 #[.int .i64 op] w fun e w' => e = .returned (.string (B (letF (formN op)))) ∧ w = w' := by
  rcases formN_range op with hf | hf | hf | hf | hf | hf | hf | hf | hf | hf
  all_goals
    go_enter Tryz.func12, Tryz.ntmps12
    go_wp2_with fail
    refine (formOf_any op w).mono ?_
    rintro e w2 ⟨rfl, rfl⟩
    rw [hf]
    go_wp2
    go_ret
    refine ⟨?_, rfl⟩
    rw [hf]
    rfl

set_option maxHeartbeats 4000000 in
theorem shortLetters_any (n : Nat) (hn : n < 27) (w : World) : Calls Tryz.prog 14 #[.string (B (shB.getD n []))] w fun e w' => e = .returned (.string (B (letSL.getD n []))) ∧ w = w' := by
  rcases (by omega : n = 0 ∨ n = 1 ∨ n = 2 ∨ n = 3 ∨ n = 4 ∨ n = 5 ∨ n = 6 ∨ n = 7 ∨ n = 8 ∨ n = 9 ∨ n = 10 ∨ n = 11 ∨ n = 12 ∨ n = 13 ∨ n = 14 ∨ n = 15 ∨ n = 16 ∨ n = 17 ∨ n = 18 ∨ n = 19 ∨ n = 20 ∨ n = 21 ∨ n = 22 ∨ n = 23 ∨ n = 24 ∨ n = 25 ∨ n = 26) with rfl | rfl | rfl | rfl | rfl | rfl | rfl | rfl | rfl | rfl | rfl | rfl | rfl | rfl | rfl | rfl | rfl | rfl | rfl | rfl | rfl | rfl | rfl | rfl | rfl | rfl | rfl
  all_goals
    dsimp only [shB, letSL, List.getD_cons_zero, List.getD_cons_succ]
    go_enter Tryz.func14, Tryz.ntmps14
    go_wp2
    go_ret
    exact ⟨rfl, rfl⟩

/-- A list of strings in memory. -/
def RowS (w : World) (v : Value) (l : List (List UInt8)) : Prop := ∃ A c, v = .slice A l.length c ∧ (l = [] ∨ ∃ g, A = some ⟨g, 0, none⟩ ∧ Strs w g l)

theorem RowS.nx {w w' : World} {v : Value} {l : List (List UInt8)} (h : RowS w v l) (hn : Nx w w') : RowS w' v l := by
  obtain ⟨A, c, e, h⟩ := h
  exact ⟨A, c, e, h.imp id fun ⟨g, e, h⟩ => ⟨g, e, h.keep hn⟩⟩

theorem joinJ_take (s : List UInt8) (l : List (List UInt8)) (k : Nat) (o : List UInt8) (h : l[k]? = some o) : joinJ s (l.take (k + 1)) = joinJ s (l.take k) ++ (if k = 0 then [32] else [44, 32]) ++ o := by
  rw [take_snoc' l k o h]
  cases k with
  | zero => simp [joinJ, tailJ]
  | succ k =>
    have hk : 0 < l.length := by have := (List.getElem?_eq_some_iff.1 h).1; omega
    obtain ⟨a, r, e⟩ : ∃ a r, l.take (k + 1) = a :: r := by
      cases l with
      | nil => simp at hk
      | cons a l => exact ⟨a, l.take k, rfl⟩
    rw [e, joinJ_snoc, if_neg (by omega)]

theorem joinJ_len (s : List UInt8) (l : List (List UInt8)) (h : ∀ o ∈ l, o.length ≤ 17) : (joinJ s l).length ≤ s.length + 19 * l.length := by
  have ht : ∀ l : List (List UInt8), (∀ o ∈ l, o.length ≤ 17) → (tailJ l).length ≤ 19 * l.length := by
    intro l
    induction l with
    | nil => intro _; exact Nat.le_refl _
    | cons o l ih =>
      intro h
      have h1 := ih (fun p hp => h p (List.mem_cons_of_mem _ hp))
      have h2 := h o List.mem_cons_self
      simp only [tailJ, List.length_append, List.length_cons, List.length_nil]
      omega
  cases l with
  | nil => simp [joinJ]
  | cons o l =>
    have h1 := ht l (fun p hp => h p (List.mem_cons_of_mem _ hp))
    have h2 := h o List.mem_cons_self
    simp only [joinJ, List.length_append, List.length_cons, List.length_nil]
    omega

theorem join_any (s : List UInt8) (v : Value) (l : List (List UInt8)) (hl : l.length ≤ 3) (hs : s.length ≤ 1000) (ho : ∀ o ∈ l, o.length ≤ 17) (w : World) (hR : RowS w v l) :
    Calls Tryz.prog 16 #[.string (B s), v] w fun e w' => e = .returned (.string (B (joinJ s l))) ∧ w = w' := by
  obtain ⟨A, c, rfl, hA⟩ := hR
  have HA := Lib.hid hA
  have HO := Lib.hid ho
  have HS := Lib.hid hs
  have HL := Lib.hid hl
  clear hA ho hs
  go_enter Tryz.func16, Tryz.ntmps16
  go_wp2
  go_loopw [0, 9] (fun nm i wr => ∃ k : Nat, k ≤ l.length ∧ i = .int .i64 k ∧ nm = .string (B (joinJ s (l.take k))) ∧ w = wr) (fun _ i _ => l.length - (intOf i).toNat)
  case atStart => exact ⟨0, Nat.zero_le _, rfl, by rw [List.take_zero]; rfl, rfl⟩
  case round =>
    obtain ⟨k, hk, rfl, rfl, rfl⟩ := hrel
    by_cases hlt : k < l.length
    · obtain ⟨o, hoo⟩ : ∃ o, l[k]? = some o := ⟨_, List.getElem?_eq_getElem hlt⟩
      have HT := Lib.hid (joinJ_take s l k o hoo)
      have ho17 := HO.out o (List.mem_of_getElem? hoo)
      have hJ := joinJ_len s (l.take k) (fun p hp => HO.out p (List.mem_of_mem_take hp))
      rw [List.length_take] at hJ
      have hS := HS.out
      obtain ⟨g, rfl, hg⟩ : ∃ g, A = some ⟨g, 0, none⟩ ∧ Strs w g l := by
        rcases HA.out with h | h
        · rw [h] at hlt; simp at hlt
        · exact h
      have hc := hg k o hoo
      clear hg
      generalize hcu : joinJ s (l.take k) = cu at *
      have d0 : decide ((k : Int) < l.length) = true := decide_eq_true (by omega)
      by_cases hz : k = 0
      · subst hz
        have a1 := app_B cu [32]
        have a2 := app_B (cu ++ [32]) o
        have s1 : ¬ 9223372036854775807 < cu.length + 1 := by omega
        have s2 : (B (cu ++ [32])).size + (B o).size ≤ 9223372036854775807 := by show (cu ++ [32]).length + o.length ≤ _; simp; omega
        have HV := Lib.hid (show cu ++ [32] ++ o = joinJ s (l.take (0 + 1)) by rw [HT.out, if_pos rfl])
        clear hcu
        generalize cu ++ [32] = cu2 at *
        clear hJ hS ho17
        go_wp2
        go_roundw
        case rel => exact ⟨1, by omega, by go_num, by rw [← HV.out], trivial⟩
        case measure => simp [intOf]; omega
      · have e0 : ((k : Int) == 0) = false := by rw [beq_eq_false_iff_ne]; omega
        have a1 := app_B cu [44, 32]
        have a2 := app_B (cu ++ [44, 32]) o
        have s1 : ¬ 9223372036854775807 < cu.length + 2 := by omega
        have s2 : (B (cu ++ [44, 32])).size + (B o).size ≤ 9223372036854775807 := by show (cu ++ [44, 32]).length + o.length ≤ _; simp; omega
        have HV := Lib.hid (show cu ++ [44, 32] ++ o = joinJ s (l.take (k + 1)) by rw [HT.out, if_neg hz])
        clear hcu
        generalize cu ++ [44, 32] = cu2 at *
        clear hJ hS ho17
        go_wp2
        go_roundw
        case rel => exact ⟨k + 1, by omega, by go_num, by rw [← HV.out], trivial⟩
        case measure => simp [intOf]; omega
    · obtain rfl : k = l.length := by omega
      have d0 : decide ((l.length : Int) < l.length) = false := decide_eq_false (by omega)
      have HV := Lib.hid (show joinJ s (l.take l.length) = joinJ s l by rw [List.take_length])
      generalize joinJ s (l.take l.length) = cu at *
      go_wp2
      go_ret
      refine ⟨?_, rfl⟩
      rw [HV.out]
      rfl

end Go.Proofs.YtdgmdkkockbkjaaGreatDoor
