/- Contracts of package macro: a head's reader: find, isName, fault. -/
import Derived.Test.YtbkgdepblaibkaaDoorMacz
import Derived.Test.YtbkgdepblaibkaaDoorHas
namespace Go.Proofs.YtbkgdepblaibkaaDoor
open Go.RowKit
set_option linter.unusedVariables false
set_option linter.unusedSimpArgs false

/-- A parameter's cells, its default where u is. -/
abbrev parQ (q : PPar × Value) : List Value := [.string (B q.1.name), .bool q.1.has, q.2]

def parC (qs : List (PPar × Value)) : List Value := qs.flatMap parQ

theorem parC_len (qs : List (PPar × Value)) : (parC qs).length = qs.length * 3 := by
  induction qs with
  | nil => rfl
  | cons q qs ih => unfold parC at ih ⊢; rw [List.flatMap_cons, List.length_append, ih]; simp; omega

theorem parC_snoc (qs : List (PPar × Value)) (q : PPar × Value) : parC (qs ++ [q]) = parC qs ++ parQ q := by unfold parC; simp

theorem parC_at (qs : List (PPar × Value)) : ∀ (k : Nat) (q : PPar × Value), qs[k]? = some q → ∀ (j : Nat) (v : Value), (parQ q)[j]? = some v → (parC qs)[k * 3 + j]? = some v := by
  induction qs with
  | nil => intro k q h; cases h
  | cons a qs ih =>
    intro k q hk j v hj
    have hjl := (List.getElem?_eq_some_iff.1 hj).1
    unfold parC at ih ⊢
    rw [List.flatMap_cons]
    cases k with
    | zero =>
      simp at hk
      subst hk
      rw [Nat.zero_mul, Nat.zero_add, List.getElem?_append_left hjl]
      exact hj
    | succ k =>
      rw [List.getElem?_append_right (by simp; omega)]
      have := ih k q hk j v hj
      rw [show (k + 1) * 3 + j - (parQ a).length = k * 3 + j by simp; omega]
      exact this

/-- Parameters from a place on. -/
def ParAt (w : World) (g o : Nat) (qs : List (PPar × Value)) : Prop := ∀ (k : Nat) (q : PPar × Value), qs[k]? = some q → w.rangeAt g (o + k * 3) (parQ q)

theorem ParAt.nx {w w' : World} {g o : Nat} {qs : List (PPar × Value)} (h : ParAt w g o qs) (hn : Nx w w') : ParAt w' g o qs := fun k q hk j v hv => hn.cell (h k q hk j v hv)

theorem ParAt.at_ {w : World} {g o : Nat} {qs : List (PPar × Value)} (h : ParAt w g o qs) (k : Nat) (q : PPar × Value) (hk : qs[k]? = some q) :
    w.cell? ⟨g, o + k * 3, none⟩ = some (.string (B q.1.name)) ∧ w.cell? ⟨g, o + k * 3 + 1, none⟩ = some (.bool q.1.has) ∧ w.cell? ⟨g, o + k * 3 + 2, none⟩ = some q.2 :=
  ⟨h k q hk 0 _ rfl, h k q hk 1 _ rfl, h k q hk 2 _ rfl⟩

/-- The slice v holds these parameters. -/
def Pars (w : World) (v : Value) (qs : List (PPar × Value)) : Prop :=
  ((∃ A, v = .slice A 0 0) ∧ qs = []) ∨ ∃ g o c, v = .slice (some ⟨g, o, none⟩) qs.length c ∧ qs.length ≤ c ∧ c ≤ maxLen ∧ ParAt w g o qs

theorem Pars.nx {w w' : World} {v : Value} {qs : List (PPar × Value)} (h : Pars w v qs) (hn : Nx w w') : Pars w' v qs := by
  rcases h with h | ⟨g, o, c, h1, h2, h3, h4⟩
  · exact Or.inl h
  · exact Or.inr ⟨g, o, c, h1, h2, h3, h4.nx hn⟩

theorem Pars.form {w : World} {v : Value} {qs : List (PPar × Value)} (h : Pars w v qs) : ∃ A c, v = .slice A qs.length c ∧ qs.length ≤ c ∧ c ≤ maxLen ∧ ((True ∧ qs = [] ∧ c = 0) ∨ ∃ g o, A = some ⟨g, o, none⟩ ∧ ParAt w g o qs) := by
  rcases h with ⟨⟨A, rfl⟩, rfl⟩ | ⟨g, o, c, h1, h2, h3, h4⟩
  · exact ⟨A, 0, rfl, Nat.le_refl _, Nat.zero_le _, Or.inl ⟨trivial, rfl, rfl⟩⟩
  · exact ⟨_, c, h1, h2, h3, Or.inr ⟨g, o, rfl, h4⟩⟩

/-- Is there a parameter of that name? -/
def hasN (s : List UInt8) (qs : List (PPar × Value)) : Bool := qs.any fun q => q.1.name == s

theorem hasN_all (s : List UInt8) (qs : List (PPar × Value)) (h : ∀ q ∈ qs, (q.1.name == s) = false) : hasN s qs = false := by
  unfold hasN
  rw [List.any_eq_false]
  intro q hq
  rw [h q hq]; simp

theorem hasN_at (s : List UInt8) (qs : List (PPar × Value)) (k : Nat) (q : PPar × Value) (hk : qs[k]? = some q) (h : (q.1.name == s) = true) : hasN s qs = true := by
  unfold hasN
  rw [List.any_eq_true]
  exact ⟨q, List.mem_of_getElem? hk, h⟩

set_option maxHeartbeats 1000000 in
theorem parName_any (a : List UInt8) (b : Bool) (dA : Option Addr) (dn dc : Nat) (w : World) : Calls Tryd.prog 55 #[.agg #[.string (B a), .bool b, .slice dA dn dc]] w fun e w' => e = .returned (.string (B a)) ∧ Nx w w' := by
  go_enter Tryd.func55, Tryd.ntmps55
  go_wp2
  go_ret
  exact ⟨rfl, by repeat (with_reducible first | exact Nx.refl _ | refine Nx.setCell ?_ (Nat.le_refl _) _ | refine Nx.alloc ?_ _)⟩

set_option maxHeartbeats 2000000 in
set_option maxRecDepth 100000 in
theorem find_any (v : Value) (qs : List (PPar × Value)) (s : List UInt8) (w : World) (hP : Pars w v qs) (hS : ∀ q ∈ qs, ∃ A n c, q.2 = Value.slice A n c) :
    Calls Tryd.prog 54 #[v, .string (B s), .func (.func 55) #[] #[]] w fun e w' => ∃ r : Int, e = .returned (.int .i64 r) ∧ decide (0 ≤ r) = hasN s qs ∧ Nx w w' := by
  obtain ⟨A, c, rfl, hc1, hc2, hA⟩ := hP.form
  have HA := Lib.hid hA
  have hlm : qs.length ≤ 9223372036854775807 := by unfold maxLen at hc2; omega
  clear hP hA hc1 hc2
  go_enter Tryd.func54, Tryd.ntmps54
  go_wp2
  go_loopw [11] (fun iv wr => ∃ k : Nat, k ≤ qs.length ∧ iv = .int .i64 k ∧ (∀ q ∈ qs.take k, (q.1.name == s) = false) ∧ Nx w wr) (fun iv _ => qs.length - (intOf iv).toNat)
  case atStart => exact ⟨0, Nat.zero_le _, rfl, (fun q h => by simp at h), Nx.refl w⟩
  case round =>
    obtain ⟨k, hk, rfl, hno, hnx⟩ := hrel
    have HNX := Lib.hid hnx
    have HNO := Lib.hid hno
    clear hnx hno
    by_cases hlt : k < qs.length
    · obtain ⟨⟨⟨nm, hs, df⟩, d⟩, hq⟩ : ∃ q, qs[k]? = some q := ⟨_, List.getElem?_eq_getElem hlt⟩
      obtain ⟨g, o, rfl, hPA⟩ : ∃ g o, A = some ⟨g, o, none⟩ ∧ ParAt w g o qs := by
        rcases HA.out with ⟨_, h, _⟩ | h
        · subst h; cases hq
        · exact h
      obtain ⟨a0, a1, a2⟩ := (hPA.nx HNX.out).at_ k _ hq
      dsimp only at a0 a1 a2
      obtain ⟨dA, dn, dc, he⟩ := hS _ (List.mem_of_getElem? hq)
      dsimp only at he
      subst he
      have HQ := Lib.hid hq
      clear hPA hq
      cases hb : (nm == s)
      · have HB := Lib.hid hb
        go_wp2_with fail
        refine (parName_any nm hs _ _ _ _).mono ?_
        rintro e w1 ⟨rfl, hn1⟩
        have H1 := Lib.hid ((HNX.out.alloc _).trans hn1)
        clear hn1
        go_wp2
        go_roundw
        case rel => exact ⟨k + 1, by omega, by go_num, (by
          intro q hq
          rw [take_snoc' _ _ _ HQ.out] at hq
          rcases List.mem_append.1 hq with h | h
          · exact HNO.out q h
          · simp at h; subst h; exact HB.out), H1.out⟩
        case measure => simp [intOf]; omega
      · have HB := Lib.hid hb
        go_wp2_with fail
        refine (parName_any nm hs _ _ _ _).mono ?_
        rintro e w1 ⟨rfl, hn1⟩
        have H1 := Lib.hid ((HNX.out.alloc _).trans hn1)
        clear hn1
        go_wp2
        go_ret
        exact ⟨_, rfl, by rw [hasN_at s qs k _ HQ.out HB.out]; exact decide_eq_true (by omega), H1.out⟩
    · obtain rfl : k = qs.length := by omega
      have HN := Lib.hid (hasN_all s qs (fun q hq => HNO.out q (by rw [List.take_length]; exact hq)))
      go_wp2
      go_ret
      exact ⟨_, rfl, by rw [HN.out]; rfl, HNX.out⟩

/-- The reader of a head, at a place. -/
abbrev hdO (lv : Value) (i : Nat) (name : List UInt8) (pv : Value) : Obj := .cells #[lv, .int .i64 i, .string (B name), pv, .slice none 0 0] 91

theorem atT_in (l : List Tok) (i : Nat) (h : i < l.length) (t : Tok) (ht : l[i]? = some t) : atT l i = t := by
  unfold atT
  rw [show min i (l.length - 1) = i by omega, List.getD_eq_getElem?_getD, ht]; rfl

set_option maxHeartbeats 1000000 in
set_option maxRecDepth 100000 in
theorem isName_any (g i : Nat) (lv : Value) (l : List Tok) (name : List UInt8) (pv : Value) (w : World) (hH : Has w g (hdO lv i name pv)) (hT : Toks w lv l) (b : Bool) (hb : (decide (i < l.length) && decide ((atT l i).kind = 1)) = b) :
    Calls Tryd.prog 67 #[.pointer (some ⟨g, 0, none⟩)] w fun e w' => e = .returned (.bool b) ∧ Nx w w' := by
  obtain ⟨A, c, rfl, hc1, hc2, hA⟩ := hT.form
  have hlm : l.length ≤ 9223372036854775807 := by unfold maxLen at hc2; omega
  have r0 := hH.cell 0 _ rfl
  have r1 := hH.cell 1 _ rfl
  clear hT hH hc1 hc2
  by_cases hlt : i < l.length
  · obtain ⟨⟨kd, ln, cl, tx, nm, sc⟩, ht⟩ : ∃ t, l[i]? = some t := ⟨_, List.getElem?_eq_getElem hlt⟩
    obtain ⟨g2, o, rfl, hTA⟩ : ∃ g o, A = some ⟨g, o, none⟩ ∧ TokAt w g o l := by
      rcases hA with ⟨_, h, _⟩ | h
      · subst h; cases ht
      · exact h
    rw [atT_in l i hlt _ ht] at hb
    obtain ⟨a0, a1, a2, a3, a4, a5⟩ := hTA.at_ i _ ht
    dsimp only at a0 a1 a2 a3 a4 a5 hb
    have hiI : decide ((i : Int) < l.length) = true := decide_eq_true (by omega)
    have HBB := Lib.hid (show (kd == 1) = b by rw [← hb, decide_eq_true hlt, Bool.true_and]; rfl)
    clear hA hTA ht hb
    go_enter Tryd.func67, Tryd.ntmps67
    go_wp2
    go_quiet (fail)
    go_wp2
    go_ret
    exact ⟨ret_bool HBB.out, by repeat (with_reducible first | exact Nx.refl _ | refine Nx.drewN ?_ _)⟩
  · have hiI : decide ((i : Int) < l.length) = false := decide_eq_false (by omega)
    have HBB := Lib.hid (show false = b by rw [← hb, decide_eq_false hlt]; rfl)
    clear hA hb
    go_enter Tryd.func67, Tryd.ntmps67
    go_wp2
    go_quiet (fail)
    go_wp2
    go_ret
    exact ⟨ret_bool HBB.out, by repeat (with_reducible first | exact Nx.refl _ | refine Nx.drewN ?_ _)⟩

end Go.Proofs.YtbkgdepblaibkaaDoor
