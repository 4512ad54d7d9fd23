/- Plain: a number's digits are read as the number. -/
import Derived.Test.YtbkgdepblaibkaaDoorLxk
namespace Go.Proofs.YtbkgdepblaibkaaDoor
open Go.RowKit
set_option linter.unusedVariables false
set_option linter.unusedSimpArgs false

theorem while_app (set : List UInt8) (a r : List UInt8) (h : ∀ c ∈ a, set.contains c = true) : whileN set (a ++ r) = a.length + whileN set r := by
  induction a with
  | nil => simp
  | cons c a ih =>
    rw [List.cons_append, whileN, if_pos (h c (by simp)), ih (fun x hx => h x (by simp [hx])), List.length_cons]
    omega

/-- What digits are worth. -/
def valD (base : Nat) : List UInt8 → Nat
  | [] => 0
  | c :: l => digV c * base ^ l.length + valD base l

theorem valU_D (base : Nat) (hb : 1 ≤ base) (l : List UInt8) : ∀ v, v * base ^ l.length + valD base l < 4294967296 → valU base l v = some (v * base ^ l.length + valD base l) := by
  induction l with
  | nil => intro v h; simp [valU, valD]
  | cons c l ih =>
    intro v h
    have e : v * base ^ (c :: l).length + valD base (c :: l) = (v * base + digV c) * base ^ l.length + valD base l := by
      rw [List.length_cons, Nat.pow_succ, valD, Nat.add_mul, Nat.mul_assoc, Nat.mul_comm base (base ^ l.length)]
      omega
    rw [e] at h ⊢
    have hp : 1 ≤ base ^ l.length := Nat.one_le_pow _ _ hb
    have h2 : v * base + digV c ≤ (v * base + digV c) * base ^ l.length := Nat.le_mul_of_pos_right _ hp
    rw [valU, if_neg (by omega)]
    exact ih _ h

theorem num_at (s d r : List UInt8) (base from_ v : Nat) (set : List UInt8) (h1 : numFrom s = from_) (h2 : numBase s = base) (h3 : numSet s = set) (hs : s.drop from_ = d ++ r) (hd : ∀ c ∈ d, set.contains c = true) (hd1 : 1 ≤ d.length) (hr : r = [] ∨ ∃ x r', r = x :: r' ∧ set.contains x = false ∧ goN.contains x = false) (hb : 1 ≤ base) (hv : valD base d = v) (hlt : v < 4294967296) : numR s = (v, from_ + d.length) := by
  have hw : whileN set (d ++ r) = d.length := by
    rw [while_app set d r hd]
    rcases hr with rfl | ⟨x, r', rfl, hx, _⟩
    · rfl
    · rw [whileN, if_neg (by rw [hx]; decide)]; rfl
  unfold numR
  rw [h1, h2, h3, hs, hw]
  rw [if_neg]
  · rw [List.take_left' rfl, valU_D base hb d 0 (by omega)]
    simp [hv]
  · rintro (h | ⟨h4, h5⟩)
    · omega
    · have hg : s.getD (from_ + d.length) 0 = (d ++ r).getD d.length 0 := by
        rw [← hs, List.getD_eq_getElem?_getD, List.getD_eq_getElem?_getD, List.getElem?_drop]
      rw [hg, List.getD_eq_getElem?_getD, List.getElem?_append_right (Nat.le_refl _), Nat.sub_self] at h5
      rcases hr with rfl | ⟨x, r', rfl, _, hx⟩
      · have : (s.drop from_).length = d.length := by rw [hs]; simp
        rw [List.length_drop] at this
        omega
      · rw [show (x :: r')[0]?.getD 0 = x from rfl, hx] at h5
        cases h5

def hexB : List UInt8 := [48, 49, 50, 51, 52, 53, 54, 55, 56, 57, 65, 66, 67, 68, 69, 70]

theorem dig_facts : ∀ k, k < 10 → digN.contains (digN.getD k 0) = true ∧ digV (digN.getD k 0) = k := by decide

theorem hex_facts : ∀ k, k < 16 → hexN.contains (hexB.getD k 0) = true ∧ digV (hexB.getD k 0) = k := by decide

theorem dig_not (c : UInt8) (h : digN.contains c = true) : c ≠ 10 ∧ blankN.contains c = false ∧ c ≠ 35 ∧ digB c = true ∧ c ≠ 98 ∧ c ≠ 120 := by
  have := byte_all (fun c => !digN.contains c || (c != 10 && (!blankN.contains c && (c != 35 && (digB c && (c != 98 && c != 120)))))) (by decide +kernel) c
  rw [h] at this
  simpa using this

theorem hex_not (c : UInt8) (h : hexN.contains c = true) : c ≠ 10 := by
  have := byte_all (fun c => !hexN.contains c || c != 10) (by decide +kernel) c
  rw [h] at this
  simpa using this

theorem src_num (d h : List UInt8) (v : Nat) (hv : v < 4294967296) (hd : ∀ c ∈ d, digN.contains c = true) (hd1 : 1 ≤ d.length) (hdl : d.length ≤ 10) (hdv : valD 10 d = v) (hh : ∀ c ∈ h, hexN.contains c = true) (hh1 : h.length = 8) (hhv : valD 16 h = v) :
    srcR (d ++ ([32, 48, 120] ++ h)) = .ok [[⟨5, 1, 1, [], v, 0⟩, ⟨5, 1, ((d.length + 2 : Nat) : Int), [], v, 0⟩]] := by
  have hl : (d ++ ([32, 48, 120] ++ h)).length = d.length + 11 := by simp [hh1]
  have hnf : ∀ c ∈ d ++ ([32, 48, 120] ++ h), c ≠ 10 := by
    intro c hc
    rw [List.mem_append, List.mem_append] at hc
    rcases hc with hc | hc | hc
    · exact (dig_not c (hd c hc)).1
    · have : ∀ c ∈ ([32, 48, 120] : List UInt8), c ≠ 10 := by decide
      exact this c hc
    · exact hex_not c (hh c hc)
  obtain ⟨c0, d', rfl⟩ : ∃ c0 d', d = c0 :: d' := by cases d with | nil => simp at hd1 | cons a b => exact ⟨a, b, rfl⟩
  obtain ⟨_, k1, k2, k3, _, _⟩ := dig_not c0 (hd c0 (by simp))
  have e0 : ((c0 :: d') ++ ([32, 48, 120] ++ h)).getD 0 0 = c0 := rfl
  have h2 : ∀ x, (x = 98 ∨ x = 120) → ((c0 :: d') ++ ([32, 48, 120] ++ h)).take 2 ≠ [48, x] := by
    intro x hx he
    cases d' with
    | nil =>
      have : (32 : UInt8) = x := by have := congrArg (fun l => l.getD 1 0) he; exact this
      rcases hx with rfl | rfl <;> cases this
    | cons c1 d'' =>
      obtain ⟨_, _, _, _, k5, k6⟩ := dig_not c1 (hd c1 (by simp))
      have : c1 = x := by have := congrArg (fun l => l.getD 1 0) he; exact this
      rcases hx with rfl | rfl
      · exact k5 this
      · exact k6 this
  have hn1 : numR ((c0 :: d') ++ ([32, 48, 120] ++ h)) = (v, 0 + (c0 :: d').length) := by
    refine num_at _ (c0 :: d') ([32, 48, 120] ++ h) 10 0 v digN ?_ ?_ ?_ rfl hd hd1 (Or.inr ⟨32, [48, 120] ++ h, rfl, by decide, by decide⟩) (by omega) hdv hv
    · unfold numFrom; rw [if_neg (h2 98 (Or.inl rfl)), if_neg (h2 120 (Or.inr rfl))]
    · unfold numBase; rw [if_neg (h2 98 (Or.inl rfl)), if_neg (h2 120 (Or.inr rfl))]
    · unfold numSet; rw [if_neg (h2 98 (Or.inl rfl)), if_neg (h2 120 (Or.inr rfl))]
  have hn2 : numR ([48, 120] ++ h) = (v, 2 + h.length) := by
    refine num_at _ h [] 16 2 v hexN rfl rfl rfl (by simp) hh (by omega) (Or.inl rfl) (by omega) hhv hv
  unfold srcR
  rw [if_neg (by rw [hl]; omega), splitL_end _ hnf, linesR_cons, lineT_cons _ _ _ (by rw [hl]; omega), e0]
  rw [if_neg (by rw [k1]; decide), if_neg k2, tokR_dig _ c0 e0 k3, hn1]
  rw [if_neg (by dsimp only; omega)]
  dsimp only
  rw [show 0 + (c0 :: d').length = (c0 :: d').length from Nat.zero_add _, List.drop_left' rfl]
  rw [lineT_cons _ _ _ (by simp), if_pos (by rfl)]
  rw [show ([32, 48, 120] ++ h : List UInt8).drop 1 = [48, 120] ++ h from rfl, lineT_cons _ _ _ (by simp)]
  rw [if_neg (by show ¬ blankN.contains (48 : UInt8) = true; decide), if_neg (by show ¬ (48 : UInt8) = 35; decide), tokR_dig ([48, 120] ++ h) 48 rfl (by decide), hn2]
  rw [if_neg (by dsimp only; omega)]
  dsimp only
  rw [List.drop_eq_nil_of_le (by simp; omega), lineT_nil]
  simp [LRes.pre, placeT, tokU, linesR]
  omega

end Go.Proofs.YtbkgdepblaibkaaDoor
