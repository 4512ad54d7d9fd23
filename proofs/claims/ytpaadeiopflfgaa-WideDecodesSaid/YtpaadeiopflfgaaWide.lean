/- Contracts of package wide: the numbers of a word, its parts, its instruction. -/
import Derived.Test.YtpaadeiopflfgaaWord
namespace Go.Proofs.Ytpaadeiopflfgaa
open Go.RowKit
set_option linter.unusedVariables false

/-- One run more: its bits behind those that were. -/
def runV (x v l b : Int) : Int := v * 2 ^ b.toNat % 4294967296 + fld x l.toNat b.toNat

def runsV (x : Int) : Int → List (Int × Int) → Int
  | v, [] => v
  | v, r :: rs => runsV x (runV x v r.1 r.2) rs

def runsN : Int → List (Int × Int) → Int
  | n, [] => n
  | n, r :: rs => runsN (n + r.2) rs

theorem runsV_snoc (x v : Int) (rs : List (Int × Int)) (r : Int × Int) : runsV x v (rs ++ [r]) = runV x (runsV x v rs) r.1 r.2 := by
  induction rs generalizing v with
  | nil => rfl
  | cons a t ih => exact ih _

theorem runsN_snoc (n : Int) (rs : List (Int × Int)) (r : Int × Int) : runsN n (rs ++ [r]) = runsN n rs + r.2 := by
  induction rs generalizing n with
  | nil => rfl
  | cons a t ih => exact ih _

def runOk (r : Int × Int) : Prop := 0 ≤ r.1 ∧ r.1 ≤ 32 ∧ 0 ≤ r.2 ∧ r.2 ≤ 32

theorem runV_bd (x v l b : Int) (hb : 0 ≤ b) (hb' : b ≤ 32) : 0 ≤ runV x v l b ∧ runV x v l b < 4294967296 := by
  obtain ⟨n, rfl⟩ := Int.eq_ofNat_of_zero_le hb
  have hn : n ≤ 32 := by omega
  unfold runV
  simp only [Int.toNat_natCast]
  have h1 := fld_nonneg x l.toNat n
  have h2 := fld_lt x l.toNat n
  have e : (4294967296 : Int) = 2 ^ n * 2 ^ (32 - n) := by
    rw [← Int.pow_add]; have : n + (32 - n) = 32 := by omega
    rw [this]; decide
  have h3 : v * 2 ^ n % 4294967296 = 2 ^ n * (v % 2 ^ (32 - n)) := by
    rw [e, Int.mul_comm v, Int.mul_emod_mul_of_pos _ _ (pow_pos' n)]
  have h4 := Int.emod_nonneg v (Int.ne_of_gt (pow_pos' (32 - n)))
  have h5 := Int.emod_lt_of_pos v (pow_pos' (32 - n))
  have h6 : 2 ^ n * (v % 2 ^ (32 - n)) ≤ 2 ^ n * (2 ^ (32 - n) - 1) := Int.mul_le_mul_of_nonneg_left (by omega) (Int.le_of_lt (pow_pos' n))
  have h7 : 0 ≤ 2 ^ n * (v % 2 ^ (32 - n)) := Int.mul_nonneg (Int.le_of_lt (pow_pos' n)) h4
  rw [h3]
  rw [Int.mul_sub, ← e, Int.mul_one] at h6
  omega

theorem run_spell (x v l b : Int) (hv : 0 ≤ v) (hl : 0 ≤ l) (hb : 0 ≤ b) (hb' : b ≤ 32) :
    bits BinOp.or IntKind.u32 (v * 2 ^ b.toNat % 4294967296) (fld x l.toNat b.toNat) = runV x v l b := by
  obtain ⟨n, rfl⟩ := Int.eq_ofNat_of_zero_le hb
  obtain ⟨u, rfl⟩ := Int.eq_ofNat_of_zero_le hv
  have hn : n ≤ 32 := by omega
  unfold runV
  simp only [Int.toNat_natCast]
  have h1 := fld_nonneg x l.toNat n
  have h2 := fld_lt x l.toNat n
  have h3 := pow_le32 n hn
  obtain ⟨f, hf⟩ := Int.eq_ofNat_of_zero_le h1
  rw [hf] at h2 ⊢
  have hfn : f < 2 ^ n := by have h : ((f : Nat) : Int) < ((2 ^ n : Nat) : Int) := by rw [pow_cast]; exact h2
                             exact Int.ofNat_lt.1 h
  have e : (4294967296 : Nat) = 2 ^ n * 2 ^ (32 - n) := by
    rw [← Nat.pow_add]; have : n + (32 - n) = 32 := by omega
    rw [this]
  have h4 : ((u : Int) * 2 ^ n % 4294967296) = ((2 ^ n * (u % 2 ^ (32 - n)) : Nat) : Int) := by
    have : u * 2 ^ n % 4294967296 = 2 ^ n * (u % 2 ^ (32 - n)) := by rw [e, Nat.mul_comm u, Nat.mul_mod_mul_left]
    rw [← this]; simp
  rw [h4]
  have h5 : u % 2 ^ (32 - n) ≤ 2 ^ (32 - n) - 1 := by have := Nat.mod_lt u (Nat.two_pow_pos (32 - n)); omega
  have h6 : 2 ^ n * (u % 2 ^ (32 - n)) ≤ 2 ^ n * (2 ^ (32 - n) - 1) := Nat.mul_le_mul_left _ h5
  have h7 : 2 ^ n * (2 ^ (32 - n) - 1) = 4294967296 - 2 ^ n := by rw [Nat.mul_sub, ← e, Nat.mul_one]
  have h8 : 0 < 2 ^ n := Nat.two_pow_pos n
  have h9 : 2 ^ n ≤ 4294967296 := by rw [e]; exact Nat.le_mul_of_pos_right _ (Nat.two_pow_pos _)
  rw [u32_or_nat _ _ (by omega) (by omega), ← Nat.two_pow_add_eq_or_of_lt hfn]
  omega

theorem runsV_bd (x : Int) (rs : List (Int × Int)) (h : ∀ r ∈ rs, runOk r) (v : Int) (hv : 0 ≤ v ∧ v < 4294967296) : 0 ≤ runsV x v rs ∧ runsV x v rs < 4294967296 := by
  induction rs generalizing v with
  | nil => exact hv
  | cons a t ih =>
    have ha := h a (by simp)
    exact ih (fun r hr => h r (by simp [hr])) _ (runV_bd x v a.1 a.2 ha.2.2.1 ha.2.2.2)

theorem runsN_bd (rs : List (Int × Int)) (h : ∀ r ∈ rs, runOk r) (n : Int) : n ≤ runsN n rs ∧ runsN n rs ≤ n + 32 * rs.length := by
  induction rs generalizing n with
  | nil => simp [runsN]
  | cons a t ih =>
    have ha := h a (by simp)
    have := ih (fun r hr => h r (by simp [hr])) (n + a.2)
    unfold runOk at ha
    simp only [runsN, List.length_cons]
    omega

/-- A slice of runs, in a block of its own. -/
def Runs (w : World) (g : Nat) (rs : List (Int × Int)) : Prop :=
  ∀ j r, rs[j]? = some r → w.cell? ⟨g, j * 2, none⟩ = some (.int .i64 r.1) ∧ w.cell? ⟨g, j * 2 + 1, none⟩ = some (.int .i64 r.2)

theorem Runs.keep {w w' : World} {g : Nat} {rs : List (Int × Int)} (h : Runs w g rs) (hn : Nx w w') : Runs w' g rs :=
  fun j r hr => ⟨hn.cell (h j r hr).1, hn.cell (h j r hr).2⟩

set_option maxHeartbeats 1000000 in
theorem signed_any (x nn : Int) (g n0 : Nat) (rs : List (Int × Int)) (hn0 : rs.length = n0) (w : World) (hx : 0 ≤ x) (hx' : x < 4294967296) (hn : 0 ≤ nn) (hn' : nn ≤ 32)
    (hok : ∀ r ∈ rs, runOk r) (hlen : rs.length ≤ 100) (hr : Runs w g rs) :
    Calls Try.prog 27 #[.int .u32 x, .int .i64 nn, .slice (some ⟨g, 0, none⟩) n0 n0] w fun e w' => e = .returned (.int .i32 (sgn (runsV x 0 rs * 2 ^ nn.toNat % 4294967296) (cl (runsN nn rs)))) ∧ Nx w w' := by
  subst hn0
  have hr' := Lib.hid hr
  have hok' := Lib.hid hok
  clear hr hok
  go_enter Try.func27, Try.ntmps27
  go_wp2
  go_loopw [7, 8, 14] (fun v n i wr => ∃ k : Nat, k ≤ rs.length ∧ i = .int .i64 k ∧ v = .int .u32 (runsV x 0 (rs.take k)) ∧ n = .int .i64 (runsN nn (rs.take k)) ∧ Nx w wr) (fun _ _ i _ => rs.length - (intOf i).toNat)
  case atStart => exact ⟨0, by omega, rfl, rfl, rfl, Nx.refl _⟩
  case round =>
    obtain ⟨k, hk, rfl, rfl, rfl, hnx⟩ := hrel
    have hokt : ∀ r ∈ rs.take k, runOk r := fun r hr => hok'.out r (List.mem_of_mem_take hr)
    obtain ⟨hv1, hv2⟩ := runsV_bd x (rs.take k) hokt 0 (by omega)
    obtain ⟨hm1, hm2⟩ := runsN_bd (rs.take k) hokt nn
    have hlk : (rs.take k).length ≤ k := List.length_take_le _ _
    clear hokt
    by_cases hlt : k < rs.length
    · have hget : rs[k]? = some rs[k] := List.getElem?_eq_getElem hlt
      obtain ⟨hc1, hc2⟩ := (hr'.out.keep hnx) k _ hget
      have hrk := hok'.out rs[k] (List.getElem_mem hlt)
      unfold runOk at hrk
      obtain ⟨hb1, hb2, hb3, hb4⟩ := hrk
      have HV := Lib.hid (show runsV x 0 (rs.take (k + 1)) = _ from by rw [take_snoc' rs k _ hget, runsV_snoc])
      have HN := Lib.hid (show runsN nn (rs.take (k + 1)) = _ from by rw [take_snoc' rs k _ hget, runsN_snoc])
      have HS := Lib.hid (run_spell x (runsV x 0 (rs.take k)) rs[k].1 rs[k].2 hv1 hb1 hb3 hb4)
      clear hget
      generalize rs[k].1 = l at *
      generalize rs[k].2 = b at *
      go_wp2
      go_quiet ((go_at_call 42; exact quiet_of_eq (field_in _ _ _ _ hx hx' (by omega) (by omega) (by omega) (by omega))))
      go_wp2
      go_roundw
      case rel => exact ⟨k + 1, by omega, by go_num, congrArg _ (HS.out.trans HV.out.symm), congrArg _ HN.out.symm, (hnx.alloc _).drewN _⟩
      case measure => simp [intOf]; omega
    · go_wp2_with (go_at_call 43; refine (sign_any _ _ _ (by omega) (by omega)).mono ?_; rintro e w' ⟨rfl, rfl⟩)
      go_ret
      have e : k = rs.length := by omega
      subst e
      rw [List.take_length]
      exact ⟨rfl, hnx⟩

def rsI : List (Int × Int) := [(20, 12)]

def immI (x : Int) : Int := sgn (runsV x 0 rsI * 2 ^ 0 % 4294967296) 12

set_option maxHeartbeats 400000 in
theorem immI_any (x : Int) (w : World) (hx : 0 ≤ x) (hx' : x < 4294967296) :
    Calls Try.prog 11 #[.int .u32 x] w fun e w' => e = .returned (.int .i32 (immI x)) ∧ Nx w w' := by
  have hok : ∀ r ∈ rsI, runOk r := by simp [rsI, runOk]
  have H := fun (w : World) hr => signed_any x 0 w.heap.size 1 rsI rfl (w.alloc (.cells #[.int .i64 20, .int .i64 12] 41)) hx hx' (by omega) (by omega) hok (by decide) hr
  have HH := Lib.hid H
  clear H hok
  go_enter Try.func11, Try.ntmps11
  go_wp2_with fail
  refine (HH.out w ?_).mono ?_
  · intro j r hr
    match j, hr with
    | 0, hr => simp [rsI] at hr; subst hr; simp [World.cell?_alloc_new]
    | j + 1, hr => simp [rsI] at hr
  rintro e w' ⟨rfl, hn⟩
  go_wp2
  go_ret
  exact ⟨ret_i32 (by unfold immI; rw [Int.pow_zero, Int.mul_one]; rfl), ((Nx.refl _).alloc _).trans hn⟩

def rsS : List (Int × Int) := [(25, 7), (7, 5)]

def immS (x : Int) : Int := sgn (runsV x 0 rsS * 2 ^ 0 % 4294967296) 12

set_option maxHeartbeats 400000 in
theorem immS_any (x : Int) (w : World) (hx : 0 ≤ x) (hx' : x < 4294967296) :
    Calls Try.prog 13 #[.int .u32 x] w fun e w' => e = .returned (.int .i32 (immS x)) ∧ Nx w w' := by
  have hok : ∀ r ∈ rsS, runOk r := by simp [rsS, runOk]
  have H := fun (w : World) hr => signed_any x 0 w.heap.size 2 rsS rfl (w.alloc (.cells #[.int .i64 25, .int .i64 7, .int .i64 7, .int .i64 5] 41)) hx hx' (by omega) (by omega) hok (by decide) hr
  have HH := Lib.hid H
  clear H hok
  go_enter Try.func13, Try.ntmps13
  go_wp2_with fail
  refine (HH.out w ?_).mono ?_
  · intro j r hr
    match j, hr with
    | 0, hr => simp [rsS] at hr; subst hr; simp [World.cell?_alloc_new]
    | 1, hr => simp [rsS] at hr; subst hr; simp [World.cell?_alloc_new]
    | j + 2, hr => simp [rsS] at hr
  rintro e w' ⟨rfl, hn⟩
  go_wp2
  go_ret
  exact ⟨ret_i32 (by unfold immS; rw [Int.pow_zero, Int.mul_one]; rfl), ((Nx.refl _).alloc _).trans hn⟩

def rsB : List (Int × Int) := [(31, 1), (7, 1), (25, 6), (8, 4)]

def immB (x : Int) : Int := sgn (runsV x 0 rsB * 2 ^ 1 % 4294967296) 13

set_option maxHeartbeats 400000 in
theorem immB_any (x : Int) (w : World) (hx : 0 ≤ x) (hx' : x < 4294967296) :
    Calls Try.prog 15 #[.int .u32 x] w fun e w' => e = .returned (.int .i32 (immB x)) ∧ Nx w w' := by
  have hok : ∀ r ∈ rsB, runOk r := by simp [rsB, runOk]
  have H := fun (w : World) hr => signed_any x 1 w.heap.size 4 rsB rfl (w.alloc (.cells #[.int .i64 31, .int .i64 1, .int .i64 7, .int .i64 1, .int .i64 25, .int .i64 6, .int .i64 8, .int .i64 4] 41)) hx hx' (by omega) (by omega) hok (by decide) hr
  have HH := Lib.hid H
  clear H hok
  go_enter Try.func15, Try.ntmps15
  go_wp2_with fail
  refine (HH.out w ?_).mono ?_
  · intro j r hr
    match j, hr with
    | 0, hr => simp [rsB] at hr; subst hr; simp [World.cell?_alloc_new]
    | 1, hr => simp [rsB] at hr; subst hr; simp [World.cell?_alloc_new]
    | 2, hr => simp [rsB] at hr; subst hr; simp [World.cell?_alloc_new]
    | 3, hr => simp [rsB] at hr; subst hr; simp [World.cell?_alloc_new]
    | j + 4, hr => simp [rsB] at hr
  rintro e w' ⟨rfl, hn⟩
  go_wp2
  go_ret
  exact ⟨ret_i32 rfl, ((Nx.refl _).alloc _).trans hn⟩

def rsU : List (Int × Int) := [(12, 20)]

def immU (x : Int) : Int := sgn (runsV x 0 rsU * 2 ^ 12 % 4294967296) 32

set_option maxHeartbeats 400000 in
theorem immU_any (x : Int) (w : World) (hx : 0 ≤ x) (hx' : x < 4294967296) :
    Calls Try.prog 17 #[.int .u32 x] w fun e w' => e = .returned (.int .i32 (immU x)) ∧ Nx w w' := by
  have hok : ∀ r ∈ rsU, runOk r := by simp [rsU, runOk]
  have H := fun (w : World) hr => signed_any x 12 w.heap.size 1 rsU rfl (w.alloc (.cells #[.int .i64 12, .int .i64 20] 41)) hx hx' (by omega) (by omega) hok (by decide) hr
  have HH := Lib.hid H
  clear H hok
  go_enter Try.func17, Try.ntmps17
  go_wp2_with fail
  refine (HH.out w ?_).mono ?_
  · intro j r hr
    match j, hr with
    | 0, hr => simp [rsU] at hr; subst hr; simp [World.cell?_alloc_new]
    | j + 1, hr => simp [rsU] at hr
  rintro e w' ⟨rfl, hn⟩
  go_wp2
  go_ret
  exact ⟨ret_i32 rfl, ((Nx.refl _).alloc _).trans hn⟩

def rsJ : List (Int × Int) := [(31, 1), (12, 8), (20, 1), (21, 10)]

def immJ (x : Int) : Int := sgn (runsV x 0 rsJ * 2 ^ 1 % 4294967296) 21

set_option maxHeartbeats 400000 in
theorem immJ_any (x : Int) (w : World) (hx : 0 ≤ x) (hx' : x < 4294967296) :
    Calls Try.prog 19 #[.int .u32 x] w fun e w' => e = .returned (.int .i32 (immJ x)) ∧ Nx w w' := by
  have hok : ∀ r ∈ rsJ, runOk r := by simp [rsJ, runOk]
  have H := fun (w : World) hr => signed_any x 1 w.heap.size 4 rsJ rfl (w.alloc (.cells #[.int .i64 31, .int .i64 1, .int .i64 12, .int .i64 8, .int .i64 20, .int .i64 1, .int .i64 21, .int .i64 10] 41)) hx hx' (by omega) (by omega) hok (by decide) hr
  have HH := Lib.hid H
  clear H hok
  go_enter Try.func19, Try.ntmps19
  go_wp2_with fail
  refine (HH.out w ?_).mono ?_
  · intro j r hr
    match j, hr with
    | 0, hr => simp [rsJ] at hr; subst hr; simp [World.cell?_alloc_new]
    | 1, hr => simp [rsJ] at hr; subst hr; simp [World.cell?_alloc_new]
    | 2, hr => simp [rsJ] at hr; subst hr; simp [World.cell?_alloc_new]
    | 3, hr => simp [rsJ] at hr; subst hr; simp [World.cell?_alloc_new]
    | j + 4, hr => simp [rsJ] at hr
  rintro e w' ⟨rfl, hn⟩
  go_wp2
  go_ret
  exact ⟨ret_i32 rfl, ((Nx.refl _).alloc _).trans hn⟩

end Go.Proofs.Ytpaadeiopflfgaa
