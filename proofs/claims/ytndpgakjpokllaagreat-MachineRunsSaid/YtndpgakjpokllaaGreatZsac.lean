/- Parts of the proof, one behind the other. -/
import Derived.Test.YtndpgakjpokllaaGreatRows
import Derived.WalkKit
import Derived.WalkSpells
import Derived.WalkLawsBesides
import Derived.Outline
import Derived.Lib.Hide
import Derived.Deep.QuietTactic
import Derived.BigQuiet
import Derived.Deep.LoopGhost
import Derived.Lib.OthersKept
import Derived.Laws.Rows
import Derived.Test.YtndpgakjpokllaaGreatZsab
/- What a call may leave behind: new blocks, no old one turned. -/
namespace Go.Proofs.YtndpgakjpokllaaGreat
open Go.RowKit
set_option linter.unusedVariables false

/-- All blocks that were there are as they were; there may be new ones. -/
def Nx (w w' : World) : Prop := Below w.heap.size w w'

theorem Nx.refl (w : World) : Nx w w := Below.refl _ _

theorem Nx.size {w w' : World} (h : Nx w w') : w.heap.size ≤ w'.heap.size := Below.size h

theorem Nx.trans {a b c : World} (h : Nx a b) (k : Nx b c) : Nx a c := Below.trans h (Below.mono k h.size)

theorem Nx.drewN {a b : World} (h : Nx a b) (n : Nat) : Nx a (b.drewN n) := below_drewN h n

theorem Nx.drew {a b : World} (h : Nx a b) : Nx a b.drew := Below.drew h

theorem Nx.alloc {a b : World} (h : Nx a b) (o : Obj) : Nx a (b.alloc o) := Below.alloc h h.size o

theorem Nx.setCell {a b : World} (h : Nx a b) {p : Addr} (hp : a.heap.size ≤ p.block) (u : Value) : Nx a (b.setCell p u) := Below.setCell h hp u

theorem block_lt {w : World} {p : Addr} {v : Value} (h : w.cell? p = some v) : p.block < w.heap.size := by
  unfold World.cell? at h
  rcases Nat.lt_or_ge p.block w.heap.size with h1 | h1
  · exact h1
  · rw [Array.getElem?_eq_none h1] at h; cases h

theorem Nx.cell {w w' : World} (h : Nx w w') {p : Addr} {v : Value} (hc : w.cell? p = some v) : w'.cell? p = some v := by
  have h1 := block_lt hc
  rw [Below.cell h h1]; exact hc

theorem Nx.frozen {w w' : World} (h : Nx w w') {p : Addr} (hp : p.block < w.heap.size) : w'.frozen? p = w.frozen? p := Below.frozen h hp

theorem Nx.of_eq {w w' : World} (h : w = w') : Nx w w' := h ▸ Nx.refl w

theorem ret_u32 {a b : Int} (h : a = b) : Ending.returned (.int .u32 a) = .returned (.int .u32 b) := by rw [h]

theorem ret_i32 {a b : Int} (h : a = b) : Ending.returned (.int .i32 a) = .returned (.int .i32 b) := by rw [h]

theorem ret_i64 {a b : Int} (h : a = b) : Ending.returned (.int .i64 a) = .returned (.int .i64 b) := by rw [h]

theorem ret_bool {a b : Bool} (h : a = b) : Ending.returned (.bool a) = .returned (.bool b) := by rw [h]

theorem ret2_u32 {a b c d : Int} (h : a = b) (h' : c = d) : Ending.returned (.tuple #[.int .u32 a, .int .u32 c]) = .returned (.tuple #[.int .u32 b, .int .u32 d]) := by rw [h, h']

/-- For a region that draws its order: a callee that leaves the very world. -/
theorem quiet_of_eq {P : Program} {f : FuncId} {args : Array Value} {w : World} {n : Nat} {v : Value}
    (h : Calls P f args (w.drewN n) fun e w' => e = .returned v ∧ w.drewN n = w') : Calls P f args (w.drewN n) fun e w'' => e = .returned v ∧ ∃ m, w'' = w.drewN m :=
  h.mono fun _ _ ⟨he, hm⟩ => ⟨he, n, hm.symm⟩

theorem wrap_u32 (x : Int) : IntKind.u32.wrap x = x % 4294967296 := IntKind.wrap_u32 x

theorem take_snoc' {α : Type} (l : List α) (k : Nat) (r : α) (h : l[k]? = some r) : l.take (k + 1) = l.take k ++ [r] := by
  rw [List.take_add_one, h]; rfl

end Go.Proofs.YtndpgakjpokllaaGreat

/- A block that is known whole; a string's iterator. -/
namespace Go.Proofs.YtndpgakjpokllaaGreat
open Go.RowKit
set_option linter.unusedVariables false
set_option linter.unusedSimpArgs false

/-- What block g holds. -/
def Has (w : World) (g : Nat) (o : Obj) : Prop := w.heap[g]? = some o

theorem Has.lt {w : World} {g : Nat} {o : Obj} (h : Has w g o) : g < w.heap.size := (Array.getElem?_eq_some_iff.1 h).1

theorem Has.new (w : World) (o : Obj) : Has (w.alloc o) w.heap.size o := heap_alloc_new w o

theorem Has.nx {w w' : World} {g : Nat} {o : Obj} (h : Has w g o) (hn : Nx w w') : Has w' g o := (Below.block hn g h.lt).trans h

theorem Has.alloc {w : World} {g : Nat} {o : Obj} (h : Has w g o) (o' : Obj) : Has (w.alloc o') g o := h.nx ((Nx.refl w).alloc _)

theorem Has.far {w : World} {g : Nat} {o : Obj} (h : Has w g o) {p : Addr} (hp : g ≠ p.block) (u : Value) : Has (w.setCell p u) g o := (Below.heap_setCell w p u g hp).trans h

theorem Has.put {w : World} {g : Nat} {T : TypeId} {cs : Array Value} {fz : Nat × Nat} (h : Has w g (.cells cs T fz)) (i : Nat) (u : Value) : Has (w.setCell ⟨g, i, none⟩ u) g (.cells (cs.setIfInBounds i u) T fz) := by
  unfold Has at h ⊢
  simp [World.setCell, Array.getElem?_modify, h]

theorem Has.cell {w : World} {g : Nat} {T : TypeId} {cs : Array Value} {fz : Nat × Nat} (h : Has w g (.cells cs T fz)) (i : Nat) (v : Value) (hv : cs[i]? = some v) : w.cell? ⟨g, i, none⟩ = some v := (cell_of_row w g i cs T fz h).trans hv

theorem Has.free {w : World} {g : Nat} {T : TypeId} {cs : Array Value} (h : Has w g (.cells cs T (0, 0))) (i : Nat) : w.frozen? ⟨g, i, none⟩ = false := by
  unfold Has at h
  simp [World.frozen?, h]

theorem Has.moved {w : World} {g k : Nat} {o : Obj} (h : Has w g o) (s : ByteArray) (p : Nat) (hk : g ≠ k) : Has (w.iterAt k s p) g o := (Lib.iterAt_other w k g s p hk).trans h

theorem Has.pos {w : World} {g : Nat} {s : ByteArray} {k : Nat} (h : Has w g (.stringIter s k)) : w.iterPos g = k := by
  unfold Has at h
  unfold World.iterPos
  rw [h]

end Go.Proofs.YtndpgakjpokllaaGreat

/- Contracts of package word: each function returns what its plain Lean form says. -/
namespace Go.Proofs.YtndpgakjpokllaaGreat
open Go.RowKit
set_option linter.unusedVariables false

set_option maxHeartbeats 400000 in
theorem within_any (x a b : Int) (w : World) :
    Calls Tryz.prog 58 #[.int .i64 x, .int .i64 a, .int .i64 b] w fun e w' => e = .returned (.int .i64 (min (max x a) b)) ∧ w = w' := by
  go_enter Tryz.func58, Tryz.ntmps58
  go_wp2
  all_goals
    go_ret
    refine ⟨congrArg _ ?_, rfl⟩
    show Value.int IntKind.i64 _ = _
    congr 1
    first | rfl | (split at * <;> omega) | omega

set_option maxHeartbeats 400000 in
theorem field_any (x l n : Int) (w : World) (hx : 0 ≤ x) (hx' : x < 4294967296) :
    Calls Tryz.prog 43 #[.int .u32 x, .int .i64 l, .int .i64 n] w fun e w' => e = .returned (.int .u32 (fld x (cl l) (cl n))) ∧ w = w' := by
  have H := Lib.hid (field_spell x (cl l) (cl n) hx hx' (cl_le n))
  go_enter Tryz.func43, Tryz.ntmps43
  go_wp2_with (go_at_call 58; refine (within_any _ _ _ _).mono ?_; rintro e w' ⟨rfl, rfl⟩)
  go_ret
  exact ⟨congrArg (fun v => Ending.returned (.int .u32 v)) H.out, rfl⟩

set_option maxHeartbeats 400000 in
theorem sign_any (x n : Int) (w : World) (hx : 0 ≤ x) (hx' : x < 4294967296) :
    Calls Tryz.prog 30 #[.int .u32 x, .int .i64 n] w fun e w' => e = .returned (.int .i32 (sgn x (cl n))) ∧ w = w' := by
  have H := Lib.hid (sign_spell x (cl n) (cl_le n))
  have hk : (32 - min (max n 0) 32).toNat = 32 - cl n := by unfold cl; omega
  have K := Lib.hid hk
  clear hk
  go_enter Tryz.func30, Tryz.ntmps30
  go_wp2_with (go_at_call 58; refine (within_any _ _ _ _).mono ?_; rintro e w' ⟨rfl, rfl⟩)
  go_ret
  exact ⟨congrArg (fun v => Ending.returned (.int .i32 v)) (by rw [K.out]; exact H.out), rfl⟩

theorem field_in (x l n : Int) (w : World) (hx : 0 ≤ x) (hx' : x < 4294967296) (hl : 0 ≤ l) (hl' : l ≤ 32) (hn : 0 ≤ n) (hn' : n ≤ 32) :
    Calls Tryz.prog 43 #[.int .u32 x, .int .i64 l, .int .i64 n] w fun e w' => e = .returned (.int .u32 (fld x l.toNat n.toNat)) ∧ w = w' := by
  have h1 : cl l = l.toNat := by unfold cl; omega
  have h2 : cl n = n.toNat := by unfold cl; omega
  rw [← h1, ← h2]
  exact field_any x l n w hx hx'

theorem sign_in (x n : Int) (w : World) (hx : 0 ≤ x) (hx' : x < 4294967296) (hn : 0 ≤ n) (hn' : n ≤ 32) :
    Calls Tryz.prog 30 #[.int .u32 x, .int .i64 n] w fun e w' => e = .returned (.int .i32 (sgn x n.toNat)) ∧ w = w' := by
  have h2 : cl n = n.toNat := by unfold cl; omega
  rw [← h2]
  exact sign_any x n w hx hx'

set_option maxHeartbeats 400000 in
theorem fits_any (x n : Int) (w : World) (hx : -2147483648 ≤ x) (hx' : x ≤ 2147483647) :
    Calls Tryz.prog 106 #[.int .i32 x, .int .i64 n] w fun e w' => e = .returned (.bool (sgn (x % 4294967296) (cl n) == x)) ∧ w = w' := by
  go_enter Tryz.func106, Tryz.ntmps106
  go_wp2_with (go_at_call 30; refine (sign_any _ _ _ (by omega) (by omega)).mono ?_; rintro e w' ⟨rfl, rfl⟩)
  go_ret
  exact ⟨rfl, rfl⟩

set_option maxHeartbeats 400000 in
theorem mulh_any (a b : Int) (sa sb : Bool) (w : World) (ha : 0 ≤ a) (ha' : a < 4294967296) (hb : 0 ≤ b) (hb' : b < 4294967296) :
    Calls Tryz.prog 109 #[.int .u32 a, .int .u32 b, .bool sa, .bool sb] w fun e w' => e = .returned (.int .u32 (mulh a b sa sb)) ∧ w = w' := by
  have H := Lib.hid (mul_u64 a b ha ha' hb hb')
  cases sa <;> cases sb
  all_goals
    go_enter Tryz.func109, Tryz.ntmps109
    go_wp2
  all_goals
    go_ret
    refine ⟨ret_u32 (?_ : _ = _), rfl⟩
    rw [H.out]
    try simp only [wrap32] at *
    first | exact mulh_ff a b ha hb | exact mulh_ft a b (by omega) | exact mulh_ft' a b (by omega) | exact mulh_tf a b (by omega) | exact mulh_tf' a b (by omega) | exact mulh_tt1 a b (by omega) (by omega) | exact mulh_tt2 a b (by omega) (by omega) | exact mulh_tt3 a b (by omega) (by omega) | exact mulh_tt4 a b (by omega) (by omega)

set_option maxHeartbeats 400000 in
theorem divide_any (a b : Int) (s : Bool) (w : World) (ha : 0 ≤ a) (ha' : a < 4294967296) (hb : 0 ≤ b) (hb' : b < 4294967296) :
    Calls Tryz.prog 126 #[.int .u32 a, .int .u32 b, .bool s] w fun e w' => e = .returned (.tuple #[.int .u32 (dv a b s), .int .u32 (rm a b s)]) ∧ ∃ n, w' = w.drewN n := by
  by_cases h0 : b = 0
  · subst h0
    cases s
    all_goals
      go_enter Tryz.func126, Tryz.ntmps126
      go_wp2
      go_ret2
      exact ⟨rfl, 0, rfl⟩
  have h1 : (b == 0) = false := by simpa using h0
  have h2 : ¬ wrap32 b = 0 := by simp only [wrap32]; omega
  cases s
  · go_enter Tryz.func126, Tryz.ntmps126
    go_wp2
    go_quiet (fail)
    go_wp2
    go_ret2
    exact ⟨ret2_u32 (div_uu a b ha ha' hb h0) (rem_uu a b ha ha' hb h0), _, rfl⟩
  · by_cases h3 : a = 2147483648 ∧ b = 4294967295
    · obtain ⟨rfl, rfl⟩ := h3
      go_enter Tryz.func126, Tryz.ntmps126
      go_wp2
      go_ret2
      exact ⟨rfl, 0, rfl⟩
    · go_enter Tryz.func126, Tryz.ntmps126
      go_wp2
      all_goals
        go_quiet (fail)
        go_wp2
        go_ret2
        first
          | exact ⟨ret2_u32 (div_ss a b ha ha' hb hb' h0) (rem_ss a b ha ha' hb hb' h0), _, rfl⟩
          | (have e : a = 2147483648 := by assumption
             rw [e]
             exact ⟨ret2_u32 (div_ss 2147483648 b (by omega) (by omega) hb hb' h0) (rem_ss 2147483648 b (by omega) (by omega) hb hb' h0), _, rfl⟩)

set_option maxHeartbeats 400000 in
theorem div_any (a b : Int) (s : Bool) (w : World) (ha : 0 ≤ a) (ha' : a < 4294967296) (hb : 0 ≤ b) (hb' : b < 4294967296) :
    Calls Tryz.prog 111 #[.int .u32 a, .int .u32 b, .bool s] w fun e w' => e = .returned (.int .u32 (dv a b s)) ∧ ∃ n, w' = w.drewN n := by
  go_enter Tryz.func111, Tryz.ntmps111
  go_wp2_with (go_at_call 126; refine (divide_any _ _ _ _ ha ha' hb hb').mono ?_; rintro e w' ⟨rfl, n, rfl⟩)
  go_ret
  exact ⟨rfl, _, rfl⟩

set_option maxHeartbeats 400000 in
theorem rem_any (a b : Int) (s : Bool) (w : World) (ha : 0 ≤ a) (ha' : a < 4294967296) (hb : 0 ≤ b) (hb' : b < 4294967296) :
    Calls Tryz.prog 113 #[.int .u32 a, .int .u32 b, .bool s] w fun e w' => e = .returned (.int .u32 (rm a b s)) ∧ ∃ n, w' = w.drewN n := by
  go_enter Tryz.func113, Tryz.ntmps113
  go_wp2_with (go_at_call 126; refine (divide_any _ _ _ _ ha ha' hb hb').mono ?_; rintro e w' ⟨rfl, n, rfl⟩)
  go_ret
  exact ⟨rfl, _, rfl⟩

end Go.Proofs.YtndpgakjpokllaaGreat

/- Contracts of package wide: the numbers of a word, its parts, its instruction. -/
namespace Go.Proofs.YtndpgakjpokllaaGreat
open Go.RowKit
set_option linter.unusedVariables false

/-- One run more: its bits behind those that were. -/
def runVW (x v l b : Int) : Int := v * 2 ^ b.toNat % 4294967296 + fld x l.toNat b.toNat

def runsVW (x : Int) : Int → List (Int × Int) → Int
  | v, [] => v
  | v, r :: rs => runsVW x (runVW x v r.1 r.2) rs

def runsNW : Int → List (Int × Int) → Int
  | n, [] => n
  | n, r :: rs => runsNW (n + r.2) rs

theorem runsV_snocW (x v : Int) (rs : List (Int × Int)) (r : Int × Int) : runsVW x v (rs ++ [r]) = runVW x (runsVW x v rs) r.1 r.2 := by
  induction rs generalizing v with
  | nil => rfl
  | cons a t ih => exact ih _

theorem runsN_snocW (n : Int) (rs : List (Int × Int)) (r : Int × Int) : runsNW n (rs ++ [r]) = runsNW n rs + r.2 := by
  induction rs generalizing n with
  | nil => rfl
  | cons a t ih => exact ih _

def runOkW (r : Int × Int) : Prop := 0 ≤ r.1 ∧ r.1 ≤ 32 ∧ 0 ≤ r.2 ∧ r.2 ≤ 32

theorem runV_bdW (x v l b : Int) (hb : 0 ≤ b) (hb' : b ≤ 32) : 0 ≤ runVW x v l b ∧ runVW x v l b < 4294967296 := by
  obtain ⟨n, rfl⟩ := Int.eq_ofNat_of_zero_le hb
  have hn : n ≤ 32 := by omega
  unfold runVW
  simp only [Int.toNat_natCast]
  have h1 := fld_nonneg x l.toNat n
  have h2 := fld_lt x l.toNat n
  have e : (4294967296 : Int) = 2 ^ n * 2 ^ (32 - n) := by
    rw [← Int.pow_add]; have : n + (32 - n) = 32 := by omega
    rw [this]; decide
  have h3 : v * 2 ^ n % 4294967296 = 2 ^ n * (v % 2 ^ (32 - n)) := by
    rw [e, Int.mul_comm v, Int.mul_emod_mul_of_pos _ _ (pow_pos' n)]
  have h4 := Int.emod_nonneg v (Int.ne_of_gt (pow_pos' (32 - n)))
  have h5 := Int.emod_lt_of_pos v (pow_pos' (32 - n))
  have h6 : 2 ^ n * (v % 2 ^ (32 - n)) ≤ 2 ^ n * (2 ^ (32 - n) - 1) := Int.mul_le_mul_of_nonneg_left (by omega) (Int.le_of_lt (pow_pos' n))
  have h7 : 0 ≤ 2 ^ n * (v % 2 ^ (32 - n)) := Int.mul_nonneg (Int.le_of_lt (pow_pos' n)) h4
  rw [h3]
  rw [Int.mul_sub, ← e, Int.mul_one] at h6
  omega

theorem run_spellW (x v l b : Int) (hv : 0 ≤ v) (hl : 0 ≤ l) (hb : 0 ≤ b) (hb' : b ≤ 32) :
    bits BinOp.or IntKind.u32 (v * 2 ^ b.toNat % 4294967296) (fld x l.toNat b.toNat) = runVW x v l b := by
  obtain ⟨n, rfl⟩ := Int.eq_ofNat_of_zero_le hb
  obtain ⟨u, rfl⟩ := Int.eq_ofNat_of_zero_le hv
  have hn : n ≤ 32 := by omega
  unfold runVW
  simp only [Int.toNat_natCast]
  have h1 := fld_nonneg x l.toNat n
  have h2 := fld_lt x l.toNat n
  have h3 := pow_le32 n hn
  obtain ⟨f, hf⟩ := Int.eq_ofNat_of_zero_le h1
  rw [hf] at h2 ⊢
  have hfn : f < 2 ^ n := by have h : ((f : Nat) : Int) < ((2 ^ n : Nat) : Int) := by rw [pow_cast]; exact h2
                             exact Int.ofNat_lt.1 h
  have e : (4294967296 : Nat) = 2 ^ n * 2 ^ (32 - n) := by
    rw [← Nat.pow_add]; have : n + (32 - n) = 32 := by omega
    rw [this]
  have h4 : ((u : Int) * 2 ^ n % 4294967296) = ((2 ^ n * (u % 2 ^ (32 - n)) : Nat) : Int) := by
    have : u * 2 ^ n % 4294967296 = 2 ^ n * (u % 2 ^ (32 - n)) := by rw [e, Nat.mul_comm u, Nat.mul_mod_mul_left]
    rw [← this]; simp
  rw [h4]
  have h5 : u % 2 ^ (32 - n) ≤ 2 ^ (32 - n) - 1 := by have := Nat.mod_lt u (Nat.two_pow_pos (32 - n)); omega
  have h6 : 2 ^ n * (u % 2 ^ (32 - n)) ≤ 2 ^ n * (2 ^ (32 - n) - 1) := Nat.mul_le_mul_left _ h5
  have h7 : 2 ^ n * (2 ^ (32 - n) - 1) = 4294967296 - 2 ^ n := by rw [Nat.mul_sub, ← e, Nat.mul_one]
  have h8 : 0 < 2 ^ n := Nat.two_pow_pos n
  have h9 : 2 ^ n ≤ 4294967296 := by rw [e]; exact Nat.le_mul_of_pos_right _ (Nat.two_pow_pos _)
  rw [u32_or_nat _ _ (by omega) (by omega), ← Nat.two_pow_add_eq_or_of_lt hfn]
  omega

theorem runsV_bdW (x : Int) (rs : List (Int × Int)) (h : ∀ r ∈ rs, runOkW r) (v : Int) (hv : 0 ≤ v ∧ v < 4294967296) : 0 ≤ runsVW x v rs ∧ runsVW x v rs < 4294967296 := by
  induction rs generalizing v with
  | nil => exact hv
  | cons a t ih =>
    have ha := h a (by simp)
    exact ih (fun r hr => h r (by simp [hr])) _ (runV_bdW x v a.1 a.2 ha.2.2.1 ha.2.2.2)

theorem runsN_bdW (rs : List (Int × Int)) (h : ∀ r ∈ rs, runOkW r) (n : Int) : n ≤ runsNW n rs ∧ runsNW n rs ≤ n + 32 * rs.length := by
  induction rs generalizing n with
  | nil => simp [runsNW]
  | cons a t ih =>
    have ha := h a (by simp)
    have := ih (fun r hr => h r (by simp [hr])) (n + a.2)
    unfold runOkW at ha
    simp only [runsNW, List.length_cons]
    omega

/-- A slice of runs, in a block of its own. -/
def RunsW (w : World) (g : Nat) (rs : List (Int × Int)) : Prop :=
  ∀ j r, rs[j]? = some r → w.cell? ⟨g, j * 2, none⟩ = some (.int .i64 r.1) ∧ w.cell? ⟨g, j * 2 + 1, none⟩ = some (.int .i64 r.2)

theorem RunsW.keep {w w' : World} {g : Nat} {rs : List (Int × Int)} (h : RunsW w g rs) (hn : Nx w w') : RunsW w' g rs :=
  fun j r hr => ⟨hn.cell (h j r hr).1, hn.cell (h j r hr).2⟩

set_option maxHeartbeats 1000000 in
theorem signed_any (x nn : Int) (g n0 : Nat) (rs : List (Int × Int)) (hn0 : rs.length = n0) (w : World) (hx : 0 ≤ x) (hx' : x < 4294967296) (hn : 0 ≤ nn) (hn' : nn ≤ 32)
    (hok : ∀ r ∈ rs, runOkW r) (hlen : rs.length ≤ 100) (hr : RunsW w g rs) :
    Calls Tryz.prog 177 #[.int .u32 x, .int .i64 nn, .slice (some ⟨g, 0, none⟩) n0 n0] w fun e w' => e = .returned (.int .i32 (sgn (runsVW x 0 rs * 2 ^ nn.toNat % 4294967296) (cl (runsNW nn rs)))) ∧ Nx w w' := by
  subst hn0
  have hr' := Lib.hid hr
  have hok' := Lib.hid hok
  clear hr hok
  go_enter Tryz.func177, Tryz.ntmps177
  go_wp2
  go_loopw [7, 8, 14] (fun v n i wr => ∃ k : Nat, k ≤ rs.length ∧ i = .int .i64 k ∧ v = .int .u32 (runsVW x 0 (rs.take k)) ∧ n = .int .i64 (runsNW nn (rs.take k)) ∧ Nx w wr) (fun _ _ i _ => rs.length - (Go.RowKit.intOf i).toNat)
  case atStart => exact ⟨0, by omega, rfl, rfl, rfl, Nx.refl _⟩
  case round =>
    obtain ⟨k, hk, rfl, rfl, rfl, hnx⟩ := hrel
    have hokt : ∀ r ∈ rs.take k, runOkW r := fun r hr => hok'.out r (List.mem_of_mem_take hr)
    obtain ⟨hv1, hv2⟩ := runsV_bdW x (rs.take k) hokt 0 (by omega)
    obtain ⟨hm1, hm2⟩ := runsN_bdW (rs.take k) hokt nn
    have hlk : (rs.take k).length ≤ k := List.length_take_le _ _
    clear hokt
    by_cases hlt : k < rs.length
    · have hget : rs[k]? = some rs[k] := List.getElem?_eq_getElem hlt
      obtain ⟨hc1, hc2⟩ := (hr'.out.keep hnx) k _ hget
      have hrk := hok'.out rs[k] (List.getElem_mem hlt)
      unfold runOkW at hrk
      obtain ⟨hb1, hb2, hb3, hb4⟩ := hrk
      have HV := Lib.hid (show runsVW x 0 (rs.take (k + 1)) = _ from by rw [take_snoc' rs k _ hget, runsV_snocW])
      have HN := Lib.hid (show runsNW nn (rs.take (k + 1)) = _ from by rw [take_snoc' rs k _ hget, runsN_snocW])
      have HS := Lib.hid (run_spellW x (runsVW x 0 (rs.take k)) rs[k].1 rs[k].2 hv1 hb1 hb3 hb4)
      clear hget
      generalize rs[k].1 = l at *
      generalize rs[k].2 = b at *
      go_wp2
      go_quiet ((go_at_call 43; exact quiet_of_eq (field_in _ _ _ _ hx hx' (by omega) (by omega) (by omega) (by omega))))
      go_wp2
      go_roundw
      case rel => exact ⟨k + 1, by omega, by go_num, congrArg _ (HS.out.trans HV.out.symm), congrArg _ HN.out.symm, (hnx.alloc _).drewN _⟩
      case measure => simp [Go.RowKit.intOf]; omega
    · go_wp2_with (go_at_call 30; refine (sign_any _ _ _ (by omega) (by omega)).mono ?_; rintro e w' ⟨rfl, rfl⟩)
      go_ret
      have e : k = rs.length := by omega
      subst e
      rw [List.take_length]
      exact ⟨rfl, hnx⟩

def rsI : List (Int × Int) := [(20, 12)]

def immI (x : Int) : Int := sgn (runsVW x 0 rsI * 2 ^ 0 % 4294967296) 12

set_option maxHeartbeats 400000 in
theorem immI_any (x : Int) (w : World) (hx : 0 ≤ x) (hx' : x < 4294967296) :
    Calls Tryz.prog 174 #[.int .u32 x] w fun e w' => e = .returned (.int .i32 (immI x)) ∧ Nx w w' := by
  have hok : ∀ r ∈ rsI, runOkW r := by simp [rsI, runOkW]
  have H := fun (w : World) hr => signed_any x 0 w.heap.size 1 rsI rfl (w.alloc (.cells #[.int .i64 20, .int .i64 12] 187)) hx hx' (by omega) (by omega) hok (by decide) hr
  have HH := Lib.hid H
  clear H hok
  go_enter Tryz.func174, Tryz.ntmps174
  go_wp2_with fail
  refine (HH.out w ?_).mono ?_
  · intro j r hr
    match j, hr with
    | 0, hr => simp [rsI] at hr; subst hr; simp [World.cell?_alloc_new]
    | j + 1, hr => simp [rsI] at hr
  rintro e w' ⟨rfl, hn⟩
  go_wp2
  go_ret
  exact ⟨ret_i32 (by unfold immI; rw [Int.pow_zero, Int.mul_one]; rfl), ((Nx.refl _).alloc _).trans hn⟩

def rsSW : List (Int × Int) := [(25, 7), (7, 5)]

def immS (x : Int) : Int := sgn (runsVW x 0 rsSW * 2 ^ 0 % 4294967296) 12

set_option maxHeartbeats 400000 in
theorem immS_any (x : Int) (w : World) (hx : 0 ≤ x) (hx' : x < 4294967296) :
    Calls Tryz.prog 171 #[.int .u32 x] w fun e w' => e = .returned (.int .i32 (immS x)) ∧ Nx w w' := by
  have hok : ∀ r ∈ rsSW, runOkW r := by simp [rsSW, runOkW]
  have H := fun (w : World) hr => signed_any x 0 w.heap.size 2 rsSW rfl (w.alloc (.cells #[.int .i64 25, .int .i64 7, .int .i64 7, .int .i64 5] 187)) hx hx' (by omega) (by omega) hok (by decide) hr
  have HH := Lib.hid H
  clear H hok
  go_enter Tryz.func171, Tryz.ntmps171
  go_wp2_with fail
  refine (HH.out w ?_).mono ?_
  · intro j r hr
    match j, hr with
    | 0, hr => simp [rsSW] at hr; subst hr; simp [World.cell?_alloc_new]
    | 1, hr => simp [rsSW] at hr; subst hr; simp [World.cell?_alloc_new]
    | j + 2, hr => simp [rsSW] at hr
  rintro e w' ⟨rfl, hn⟩
  go_wp2
  go_ret
  exact ⟨ret_i32 (by unfold immS; rw [Int.pow_zero, Int.mul_one]; rfl), ((Nx.refl _).alloc _).trans hn⟩

def rsBW : List (Int × Int) := [(31, 1), (7, 1), (25, 6), (8, 4)]

def immB (x : Int) : Int := sgn (runsVW x 0 rsBW * 2 ^ 1 % 4294967296) 13

set_option maxHeartbeats 400000 in
theorem immB_any (x : Int) (w : World) (hx : 0 ≤ x) (hx' : x < 4294967296) :
    Calls Tryz.prog 169 #[.int .u32 x] w fun e w' => e = .returned (.int .i32 (immB x)) ∧ Nx w w' := by
  have hok : ∀ r ∈ rsBW, runOkW r := by simp [rsBW, runOkW]
  have H := fun (w : World) hr => signed_any x 1 w.heap.size 4 rsBW rfl (w.alloc (.cells #[.int .i64 31, .int .i64 1, .int .i64 7, .int .i64 1, .int .i64 25, .int .i64 6, .int .i64 8, .int .i64 4] 187)) hx hx' (by omega) (by omega) hok (by decide) hr
  have HH := Lib.hid H
  clear H hok
  go_enter Tryz.func169, Tryz.ntmps169
  go_wp2_with fail
  refine (HH.out w ?_).mono ?_
  · intro j r hr
    match j, hr with
    | 0, hr => simp [rsBW] at hr; subst hr; simp [World.cell?_alloc_new]
    | 1, hr => simp [rsBW] at hr; subst hr; simp [World.cell?_alloc_new]
    | 2, hr => simp [rsBW] at hr; subst hr; simp [World.cell?_alloc_new]
    | 3, hr => simp [rsBW] at hr; subst hr; simp [World.cell?_alloc_new]
    | j + 4, hr => simp [rsBW] at hr
  rintro e w' ⟨rfl, hn⟩
  go_wp2
  go_ret
  exact ⟨ret_i32 rfl, ((Nx.refl _).alloc _).trans hn⟩

def rsUW : List (Int × Int) := [(12, 20)]

def immU (x : Int) : Int := sgn (runsVW x 0 rsUW * 2 ^ 12 % 4294967296) 32

set_option maxHeartbeats 400000 in
theorem immU_any (x : Int) (w : World) (hx : 0 ≤ x) (hx' : x < 4294967296) :
    Calls Tryz.prog 166 #[.int .u32 x] w fun e w' => e = .returned (.int .i32 (immU x)) ∧ Nx w w' := by
  have hok : ∀ r ∈ rsUW, runOkW r := by simp [rsUW, runOkW]
  have H := fun (w : World) hr => signed_any x 12 w.heap.size 1 rsUW rfl (w.alloc (.cells #[.int .i64 12, .int .i64 20] 187)) hx hx' (by omega) (by omega) hok (by decide) hr
  have HH := Lib.hid H
  clear H hok
  go_enter Tryz.func166, Tryz.ntmps166
  go_wp2_with fail
  refine (HH.out w ?_).mono ?_
  · intro j r hr
    match j, hr with
    | 0, hr => simp [rsUW] at hr; subst hr; simp [World.cell?_alloc_new]
    | j + 1, hr => simp [rsUW] at hr
  rintro e w' ⟨rfl, hn⟩
  go_wp2
  go_ret
  exact ⟨ret_i32 rfl, ((Nx.refl _).alloc _).trans hn⟩

def rsJW : List (Int × Int) := [(31, 1), (12, 8), (20, 1), (21, 10)]

def immJ (x : Int) : Int := sgn (runsVW x 0 rsJW * 2 ^ 1 % 4294967296) 21

set_option maxHeartbeats 400000 in
theorem immJ_any (x : Int) (w : World) (hx : 0 ≤ x) (hx' : x < 4294967296) :
    Calls Tryz.prog 167 #[.int .u32 x] w fun e w' => e = .returned (.int .i32 (immJ x)) ∧ Nx w w' := by
  have hok : ∀ r ∈ rsJW, runOkW r := by simp [rsJW, runOkW]
  have H := fun (w : World) hr => signed_any x 1 w.heap.size 4 rsJW rfl (w.alloc (.cells #[.int .i64 31, .int .i64 1, .int .i64 12, .int .i64 8, .int .i64 20, .int .i64 1, .int .i64 21, .int .i64 10] 187)) hx hx' (by omega) (by omega) hok (by decide) hr
  have HH := Lib.hid H
  clear H hok
  go_enter Tryz.func167, Tryz.ntmps167
  go_wp2_with fail
  refine (HH.out w ?_).mono ?_
  · intro j r hr
    match j, hr with
    | 0, hr => simp [rsJW] at hr; subst hr; simp [World.cell?_alloc_new]
    | 1, hr => simp [rsJW] at hr; subst hr; simp [World.cell?_alloc_new]
    | 2, hr => simp [rsJW] at hr; subst hr; simp [World.cell?_alloc_new]
    | 3, hr => simp [rsJW] at hr; subst hr; simp [World.cell?_alloc_new]
    | j + 4, hr => simp [rsJW] at hr
  rintro e w' ⟨rfl, hn⟩
  go_wp2
  go_ret
  exact ⟨ret_i32 rfl, ((Nx.refl _).alloc _).trans hn⟩

end Go.Proofs.YtndpgakjpokllaaGreat

/- Contracts of package typecaseref01: each function returns what its plain Lean form says. -/
namespace Go.Proofs.YtndpgakjpokllaaGreat
open Go.RowKit
set_option linter.unusedVariables false

set_option maxHeartbeats 400000 in
theorem rheld_any (n : Int) (w : World) :
    Calls Tryz.prog 71 #[.int .i64 n] w fun e w' => e = .returned (.int .i64 (cl n)) ∧ w = w' := by
  go_enter Tryz.func71, Tryz.ntmps71
  go_wp2
  all_goals
    go_ret
    exact ⟨ret_i64 (by unfold cl; omega), rfl⟩

set_option maxHeartbeats 400000 in
theorem rbit_any (x i : Int) (w : World) (hx : 0 ≤ x) (hx' : x < 4294967296) :
    Calls Tryz.prog 72 #[.int .u32 x, .int .i64 i] w fun e w' => e = .returned (.int .u32 (fld x i.toNat 1)) ∧ w = w' := by
  go_enter Tryz.func72, Tryz.ntmps72
  go_wp2
  go_loop [0, 5] (fun v j => ∃ k : Nat, k ≤ 40 ∧ (k : Int) ≤ max i 0 ∧ j = .int .i64 k ∧ v = .int .u32 (x / 2 ^ k)) (fun _ j => 40 - (Go.RowKit.intOf j).toNat)
  case atStart => exact ⟨0, by omega, by omega, rfl, by simp⟩
  case round =>
    obtain ⟨k, hk, hki, rfl, rfl⟩ := hrel
    have hd := div_pow_bd x k hx hx'
    obtain ⟨hd1, hd2⟩ := hd
    have HS := Lib.hid (div_succ x k)
    have HE := Lib.hid (bit_end x i k hx hx' hk hki)
    by_cases h1 : (k : Int) < i
    · by_cases h2 : k < 40
      · go_wp2
        go_round
        case rel => exact ⟨k + 1, by omega, by omega, by go_num, by rw [← HS.out]⟩
        case measure => simp [Go.RowKit.intOf]; omega
      · have hd2 : decide (k < 40) = false := by simpa using h2
        go_wp2
        go_ret
        exact ⟨ret_u32 (HE.out (by omega)), rfl⟩
    · have hd1 : decide ((k : Int) < i) = false := by simpa using h1
      go_wp2
      go_ret
      exact ⟨ret_u32 (HE.out (by omega)), rfl⟩

set_option maxHeartbeats 1000000 in
theorem rfield_any (x l n : Int) (w : World) (hx : 0 ≤ x) (hx' : x < 4294967296) :
    Calls Tryz.prog 51 #[.int .u32 x, .int .i64 l, .int .i64 n] w fun e w' => e = .returned (.int .u32 (fld x (cl l) (cl n))) ∧ w = w' := by
  have hn := cl_le n
  have hL := Lib.hid (show cl l = (min (max l 0) 32).toNat from rfl)
  rcases (by omega : l < 0 ∨ 32 < l ∨ (0 ≤ l ∧ l ≤ 32)) with h | h | ⟨h, h'⟩
  all_goals
    go_enter Tryz.func51, Tryz.ntmps51
    go_wp2
    go_loop [7, 8, 9] (fun o u j => ∃ k : Nat, k ≤ cl n ∧ j = .int .i64 k ∧ o = .int .u32 (fld x (cl l) k) ∧ u = .int .u32 (2 ^ k % 4294967296)) (fun _ _ j => 33 - (Go.RowKit.intOf j).toNat)
    case atStart => exact ⟨0, by omega, rfl, by simp [fld], rfl⟩
    case round =>
      obtain ⟨k, hk, rfl, rfl, rfl⟩ := hrel
      by_cases hlt : k < cl n
      · go_wp2_with (first | (go_at_call 71; refine (rheld_any _ _).mono ?_; rintro e w' ⟨rfl, rfl⟩) | (go_at_call 72; refine (rbit_any _ _ _ hx hx').mono ?_; rintro e w' ⟨rfl, rfl⟩))
        go_round
        case rel => exact ⟨k + 1, by omega, by go_num, congrArg _ (field_step x _ k _ (by omega) (by rw [hL.out]; omega)), congrArg _ (unit_step k)⟩
        case measure => simp [Go.RowKit.intOf]; omega
      · go_wp2_with (first | (go_at_call 71; refine (rheld_any _ _).mono ?_; rintro e w' ⟨rfl, rfl⟩) | (go_at_call 72; refine (rbit_any _ _ _ hx hx').mono ?_; rintro e w' ⟨rfl, rfl⟩))
        go_ret
        have e : k = cl n := by omega
        exact ⟨ret_u32 (by rw [e]), rfl⟩

theorem rfield_in (x l n : Int) (w : World) (hx : 0 ≤ x) (hx' : x < 4294967296) (hl : 0 ≤ l) (hl' : l ≤ 32) (hn : 0 ≤ n) (hn' : n ≤ 32) :
    Calls Tryz.prog 51 #[.int .u32 x, .int .i64 l, .int .i64 n] w fun e w' => e = .returned (.int .u32 (fld x l.toNat n.toNat)) ∧ w = w' := by
  have h1 : cl l = l.toNat := by unfold cl; omega
  have h2 : cl n = n.toNat := by unfold cl; omega
  rw [← h1, ← h2]
  exact rfield_any x l n w hx hx'

set_option maxHeartbeats 1000000 in
theorem rsign_any (x n : Int) (w : World) (hx : 0 ≤ x) (hx' : x < 4294967296) :
    Calls Tryz.prog 37 #[.int .u32 x, .int .i64 n] w fun e w' => e = .returned (.int .i32 (sgn x (cl n))) ∧ w = w' := by
  have hn := cl_le n
  have hf := fld_nonneg x 0 (cl n)
  have hf' := fld_u32 x 0 (cl n) hn
  by_cases h0 : cl n = 0
  · have hz : (((cl n : Nat) : Int) == 0) = true := by simpa using h0
    have H0 := Lib.hid h0
    clear h0
    go_enter Tryz.func37, Tryz.ntmps37
    go_wp2_with (first | (go_at_call 71; refine (rheld_any _ _).mono ?_; rintro e w' ⟨rfl, rfl⟩))
    go_ret
    exact ⟨ret_i32 (by rw [H0.out, sgn_zero]), rfl⟩
  have hz : (((cl n : Nat) : Int) == 0) = false := by simpa using h0
  rcases bit01 x (cl n - 1) with hb | hb
  · have hb' : (fld x (cl n - 1) 1 == 1) = false := by rw [hb]; rfl
    have HS := Lib.hid (sgn_lo x (cl n) (by omega) hn hb)
    clear hb
    go_enter Tryz.func37, Tryz.ntmps37
    go_wp2_with (first | (go_at_call 71; refine (rheld_any _ _).mono ?_; rintro e w' ⟨rfl, rfl⟩) | (go_at_call 51; refine (rfield_in _ _ _ _ hx hx' (by omega) (by omega) (by omega) (by omega)).mono ?_; rintro e w' ⟨rfl, rfl⟩) | (go_at_call 72; refine (rbit_any _ _ _ hx hx').mono ?_; rintro e w' ⟨rfl, rfl⟩))
    go_ret
    exact ⟨ret_i32 HS.out, rfl⟩
  · have hb' : (fld x (cl n - 1) 1 == 1) = true := by rw [hb]; rfl
    have HS := Lib.hid (sgn_hi x (cl n) (by omega) hn hb)
    clear hb
    go_enter Tryz.func37, Tryz.ntmps37
    go_wp2_with (first | (go_at_call 71; refine (rheld_any _ _).mono ?_; rintro e w' ⟨rfl, rfl⟩) | (go_at_call 51; refine (rfield_in _ _ _ _ hx hx' (by omega) (by omega) (by omega) (by omega)).mono ?_; rintro e w' ⟨rfl, rfl⟩) | (go_at_call 72; refine (rbit_any _ _ _ hx hx').mono ?_; rintro e w' ⟨rfl, rfl⟩))
    go_loop [6, 7] (fun u j => ∃ k : Nat, k ≤ cl n ∧ j = .int .i64 k ∧ u = .int .i64 (2 ^ k)) (fun _ j => 33 - (Go.RowKit.intOf j).toNat)
    case atStart => exact ⟨0, by omega, rfl, rfl⟩
    case round =>
      obtain ⟨k, hk, rfl, rfl⟩ := hrel
      have hp := pow_pos' k
      have hq := pow_le32 k (by omega)
      by_cases hlt : k < cl n
      · go_wp2
        go_round
        case rel => exact ⟨k + 1, by omega, by go_num, congrArg _ (by rw [Int.pow_succ]; omega)⟩
        case measure => simp [Go.RowKit.intOf]; omega
      · go_wp2
        go_ret
        have e : k = cl n := by omega
        exact ⟨ret_i32 (by rw [e]; exact HS.out), rfl⟩

theorem rsign_in (x n : Int) (w : World) (hx : 0 ≤ x) (hx' : x < 4294967296) (hn : 0 ≤ n) (hn' : n ≤ 32) :
    Calls Tryz.prog 37 #[.int .u32 x, .int .i64 n] w fun e w' => e = .returned (.int .i32 (sgn x n.toNat)) ∧ w = w' := by
  have h2 : cl n = n.toNat := by unfold cl; omega
  rw [← h2]
  exact rsign_any x n w hx hx'

set_option maxHeartbeats 400000 in
theorem rwide_any (x : Int) (s : Bool) (w : World) (hx : 0 ≤ x) (hx' : x < 4294967296) :
    Calls Tryz.prog 102 #[.int .u32 x, .bool s] w fun e w' => e = .returned (.int .i64 (wd x s)) ∧ w = w' := by
  cases s
  · go_enter Tryz.func102, Tryz.ntmps102
    go_wp2
    go_ret
    exact ⟨ret_i64 (wd_false x).symm, rfl⟩
  · by_cases h : 2147483648 ≤ x
    · go_enter Tryz.func102, Tryz.ntmps102
      go_wp2
      go_ret
      exact ⟨ret_i64 (by unfold wd; rw [if_pos ⟨rfl, h⟩]), rfl⟩
    · go_enter Tryz.func102, Tryz.ntmps102
      go_wp2
      go_ret
      exact ⟨ret_i64 (by unfold wd; rw [if_neg (by omega)]), rfl⟩

set_option maxHeartbeats 400000 in
theorem rmulh_any (a b : Int) (sa sb : Bool) (w : World) (ha : 0 ≤ a) (ha' : a < 4294967296) (hb : 0 ≤ b) (hb' : b < 4294967296) :
    Calls Tryz.prog 68 #[.int .u32 a, .int .u32 b, .bool sa, .bool sb] w fun e w' => e = .returned (.int .u32 (mulh a b sa sb)) ∧ w = w' := by
  obtain ⟨hw1, hw2⟩ := wd_bd a sa ha ha'
  cases sb
  · go_enter Tryz.func68, Tryz.ntmps68
    go_wp2_with (first | (go_at_call 102; refine (rwide_any _ _ _ (by omega) (by omega)).mono ?_; rintro e w' ⟨rfl, rfl⟩))
    go_ret
    refine ⟨ret_u32 ?_, rfl⟩
    rw [rmulh_spell _ _ _ hw1 hw2 (by omega) (by omega) (by omega) (by omega)]
    unfold mulh; rw [wd_false]; congr 3; omega
  · by_cases h : 2147483648 ≤ b
    all_goals
      go_enter Tryz.func68, Tryz.ntmps68
      go_wp2_with (first | (go_at_call 102; refine (rwide_any _ _ _ (by omega) (by omega)).mono ?_; rintro e w' ⟨rfl, rfl⟩))
      go_ret
      refine ⟨ret_u32 ?_, rfl⟩
      rw [rmulh_spell _ _ _ hw1 hw2 (by omega) (by omega) (by omega) (by omega)]
      unfold mulh
      congr 3
      simp only [wd, true_and]
      split <;> omega

set_option maxHeartbeats 400000 in
theorem rdiv_any (a b : Int) (s : Bool) (w : World) (ha : 0 ≤ a) (ha' : a < 4294967296) (hb : 0 ≤ b) (hb' : b < 4294967296) :
    Calls Tryz.prog 69 #[.int .u32 a, .int .u32 b, .bool s] w fun e w' => e = .returned (.int .u32 (dv a b s)) ∧ w = w' := by
  obtain ⟨hw1, hw2⟩ := wd_bd a s ha ha'
  obtain ⟨hv1, hv2⟩ := wd_bd b s hb hb'
  by_cases h0 : b = 0
  · subst h0
    go_enter Tryz.func69, Tryz.ntmps69
    go_wp2
    go_ret
    exact ⟨ret_u32 (by unfold dv; rw [if_pos rfl]), rfl⟩
  · have h1 : (b == 0) = false := by simpa using h0
    have h2 : ¬ wd b s = 0 := by unfold wd; split <;> omega
    go_enter Tryz.func69, Tryz.ntmps69
    go_wp2_with (first | (go_at_call 102; refine (rwide_any _ _ _ (by omega) (by omega)).mono ?_; rintro e w' ⟨rfl, rfl⟩))
    go_ret
    exact ⟨ret_u32 (by unfold dv; rw [if_neg h0, wrap64_u32]), rfl⟩

set_option maxHeartbeats 400000 in
theorem rrem_any (a b : Int) (s : Bool) (w : World) (ha : 0 ≤ a) (ha' : a < 4294967296) (hb : 0 ≤ b) (hb' : b < 4294967296) :
    Calls Tryz.prog 70 #[.int .u32 a, .int .u32 b, .bool s] w fun e w' => e = .returned (.int .u32 (rm a b s)) ∧ w = w' := by
  obtain ⟨hw1, hw2⟩ := wd_bd a s ha ha'
  obtain ⟨hv1, hv2⟩ := wd_bd b s hb hb'
  by_cases h0 : b = 0
  · subst h0
    go_enter Tryz.func70, Tryz.ntmps70
    go_wp2
    go_ret
    exact ⟨ret_u32 (by unfold rm; rw [if_pos rfl]), rfl⟩
  · have h1 : (b == 0) = false := by simpa using h0
    have h2 : ¬ wd b s = 0 := by unfold wd; split <;> omega
    go_enter Tryz.func70, Tryz.ntmps70
    go_wp2_with (first | (go_at_call 102; refine (rwide_any _ _ _ (by omega) (by omega)).mono ?_; rintro e w' ⟨rfl, rfl⟩))
    go_ret
    exact ⟨ret_u32 (by unfold rm; rw [if_neg h0]), rfl⟩

end Go.Proofs.YtndpgakjpokllaaGreat

/- Plain: runs of bits put together. -/
namespace Go.Proofs.YtndpgakjpokllaaGreat
open Go.RowKit
set_option linter.unusedVariables false

/-- One run more: its bits behind those that were. -/
def runV (x v l b : Int) : Int := v * 2 ^ b.toNat % 4294967296 + fld x l.toNat b.toNat

def runsV (x : Int) : Int → List (Int × Int) → Int
  | v, [] => v
  | v, r :: rs => runsV x (runV x v r.1 r.2) rs

theorem runsV_snoc (x v : Int) (rs : List (Int × Int)) (r : Int × Int) : runsV x v (rs ++ [r]) = runV x (runsV x v rs) r.1 r.2 := by
  induction rs generalizing v with
  | nil => rfl
  | cons a t ih => exact ih _

def runOk (r : Int × Int) : Prop := 0 ≤ r.1 ∧ r.1 ≤ 32 ∧ 0 ≤ r.2 ∧ r.2 ≤ 32

theorem runV_bd (x v l b : Int) (hb : 0 ≤ b) (hb' : b ≤ 32) : 0 ≤ runV x v l b ∧ runV x v l b < 4294967296 := by
  obtain ⟨n, rfl⟩ := Int.eq_ofNat_of_zero_le hb
  have hn : n ≤ 32 := by omega
  unfold runV
  simp only [Int.toNat_natCast]
  have h1 := fld_nonneg x l.toNat n
  have h2 := fld_lt x l.toNat n
  have e : (4294967296 : Int) = 2 ^ n * 2 ^ (32 - n) := by
    rw [← Int.pow_add]; have : n + (32 - n) = 32 := by omega
    rw [this]; decide
  have h3 : v * 2 ^ n % 4294967296 = 2 ^ n * (v % 2 ^ (32 - n)) := by
    rw [e, Int.mul_comm v, Int.mul_emod_mul_of_pos _ _ (pow_pos' n)]
  have h4 := Int.emod_nonneg v (Int.ne_of_gt (pow_pos' (32 - n)))
  have h5 := Int.emod_lt_of_pos v (pow_pos' (32 - n))
  have h6 : 2 ^ n * (v % 2 ^ (32 - n)) ≤ 2 ^ n * (2 ^ (32 - n) - 1) := Int.mul_le_mul_of_nonneg_left (by omega) (Int.le_of_lt (pow_pos' n))
  have h7 : 0 ≤ 2 ^ n * (v % 2 ^ (32 - n)) := Int.mul_nonneg (Int.le_of_lt (pow_pos' n)) h4
  rw [h3]
  rw [Int.mul_sub, ← e, Int.mul_one] at h6
  omega

theorem run_spell (x v l b : Int) (hv : 0 ≤ v) (hl : 0 ≤ l) (hb : 0 ≤ b) (hb' : b ≤ 32) :
    bits BinOp.or IntKind.u32 (v * 2 ^ b.toNat % 4294967296) (fld x l.toNat b.toNat) = runV x v l b := by
  obtain ⟨n, rfl⟩ := Int.eq_ofNat_of_zero_le hb
  obtain ⟨u, rfl⟩ := Int.eq_ofNat_of_zero_le hv
  have hn : n ≤ 32 := by omega
  unfold runV
  simp only [Int.toNat_natCast]
  have h1 := fld_nonneg x l.toNat n
  have h2 := fld_lt x l.toNat n
  have h3 := pow_le32 n hn
  obtain ⟨f, hf⟩ := Int.eq_ofNat_of_zero_le h1
  rw [hf] at h2 ⊢
  have hfn : f < 2 ^ n := by have h : ((f : Nat) : Int) < ((2 ^ n : Nat) : Int) := by rw [pow_cast]; exact h2
                             exact Int.ofNat_lt.1 h
  have e : (4294967296 : Nat) = 2 ^ n * 2 ^ (32 - n) := by
    rw [← Nat.pow_add]; have : n + (32 - n) = 32 := by omega
    rw [this]
  have h4 : ((u : Int) * 2 ^ n % 4294967296) = ((2 ^ n * (u % 2 ^ (32 - n)) : Nat) : Int) := by
    have : u * 2 ^ n % 4294967296 = 2 ^ n * (u % 2 ^ (32 - n)) := by rw [e, Nat.mul_comm u, Nat.mul_mod_mul_left]
    rw [← this]; simp
  rw [h4]
  have h5 : u % 2 ^ (32 - n) ≤ 2 ^ (32 - n) - 1 := by have := Nat.mod_lt u (Nat.two_pow_pos (32 - n)); omega
  have h6 : 2 ^ n * (u % 2 ^ (32 - n)) ≤ 2 ^ n * (2 ^ (32 - n) - 1) := Nat.mul_le_mul_left _ h5
  have h7 : 2 ^ n * (2 ^ (32 - n) - 1) = 4294967296 - 2 ^ n := by rw [Nat.mul_sub, ← e, Nat.mul_one]
  have h8 : 0 < 2 ^ n := Nat.two_pow_pos n
  have h9 : 2 ^ n ≤ 4294967296 := by rw [e]; exact Nat.le_mul_of_pos_right _ (Nat.two_pow_pos _)
  rw [u32_or_nat _ _ (by omega) (by omega), ← Nat.two_pow_add_eq_or_of_lt hfn]
  omega

theorem runsV_bd (x : Int) (rs : List (Int × Int)) (h : ∀ r ∈ rs, runOk r) (v : Int) (hv : 0 ≤ v ∧ v < 4294967296) : 0 ≤ runsV x v rs ∧ runsV x v rs < 4294967296 := by
  induction rs generalizing v with
  | nil => exact hv
  | cons a t ih =>
    have ha := h a (by simp)
    exact ih (fun r hr => h r (by simp [hr])) _ (runV_bd x v a.1 a.2 ha.2.2.1 ha.2.2.2)

/-- A slice of runs, in a block of its own. -/
def Runs (w : World) (g : Nat) (rs : List (Int × Int)) : Prop :=
  ∀ j r, rs[j]? = some r → w.cell? ⟨g, j * 2, none⟩ = some (.int .i64 r.1) ∧ w.cell? ⟨g, j * 2 + 1, none⟩ = some (.int .i64 r.2)

theorem Runs.keep {w w' : World} {g : Nat} {rs : List (Int × Int)} (h : Runs w g rs) (hn : Nx w w') : Runs w' g rs :=
  fun j r hr => ⟨hn.cell (h j r hr).1, hn.cell (h j r hr).2⟩

theorem one_run (x a n : Int) (ha : 0 ≤ a) (hn : 0 ≤ n) (hn32 : n ≤ 32) : runsV x 0 [(a, n)] * 2 ^ (0 : Int).toNat % 4294967296 = fld x a.toNat n.toNat := by
  have h1 := fld_nonneg x a.toNat n.toNat
  have h2 := fld_u32 x a.toNat n.toNat (by omega)
  show (0 * 2 ^ n.toNat % 4294967296 + fld x a.toNat n.toNat) * 2 ^ 0 % 4294967296 = _
  rw [Int.zero_mul, Int.pow_zero]
  omega

end Go.Proofs.YtndpgakjpokllaaGreat

