/- Parts of the proof, one behind the other. -/
import Derived.Test.YtndpgakjpokllaaGreatZsab
import Derived.Test.YtndpgakjpokllaaGreatZsac
import Derived.Test.YtndpgakjpokllaaGreatZsae
import Derived.Test.YtndpgakjpokllaaGreatZsak
/- Contracts of package slim: the reader of a parcel, a parcel taken apart. -/
namespace Go.Proofs.YtndpgakjpokllaaGreat
open Go.RowKit
set_option linter.unusedVariables false
set_option linter.unusedSimpArgs false

set_option maxHeartbeats 1000000 in
theorem reader_any (x nn : Int) (b g n0 : Nat) (rs : List (Int × Int)) (hn0 : rs.length = n0) (w : World) (hx : 0 ≤ x) (hx' : x < 65536) (hn : 0 ≤ nn) (hn' : nn ≤ 32)
    (hok : ∀ r ∈ rs, runOk r) (hlen : rs.length ≤ 100) (hr : Runs w g rs) (hb : w.cell? ⟨b, 0, none⟩ = some (.int .u16 x)) :
    Calls Tryz.prog 160 #[.int .i64 nn, .slice (some ⟨g, 0, none⟩) n0 n0, .pointer (some ⟨b, 0, none⟩)] w fun e w' => e = .returned (.int .u32 (runsV x 0 rs * 2 ^ nn.toNat % 4294967296)) ∧ Nx w w' := by
  subst hn0
  have hr' := Lib.hid hr
  have hok' := Lib.hid hok
  have hbz := block_lt hb
  clear hr hok
  go_enter Tryz.func160, Tryz.ntmps160
  go_wp2
  go_loopw [6, 11] (fun v i wr => ∃ k : Nat, k ≤ rs.length ∧ i = .int .i64 k ∧ v = .int .u32 (runsV x 0 (rs.take k)) ∧ Nx w wr) (fun _ i _ => rs.length - (Go.RowKit.intOf i).toNat)
  case atStart => exact ⟨0, by omega, rfl, rfl, Nx.refl _⟩
  case round =>
    obtain ⟨k, hk, rfl, rfl, hnx⟩ := hrel
    have hokt : ∀ r ∈ rs.take k, runOk r := fun r hr => hok'.out r (List.mem_of_mem_take hr)
    obtain ⟨hv1, hv2⟩ := runsV_bd x (rs.take k) hokt 0 (by omega)
    clear hokt
    have hbr := hnx.cell hb
    have hbzr : b < wr.heap.size := Nat.lt_of_lt_of_le hbz hnx.size
    by_cases hlt : k < rs.length
    · have hget : rs[k]? = some rs[k] := List.getElem?_eq_getElem hlt
      obtain ⟨hc1, hc2⟩ := (hr'.out.keep hnx) k _ hget
      have hrk := hok'.out rs[k] (List.getElem_mem hlt)
      unfold runOk at hrk
      obtain ⟨hb1, hb2, hb3, hb4⟩ := hrk
      have HV := Lib.hid (show runsV x 0 (rs.take (k + 1)) = _ from by rw [take_snoc' rs k _ hget, runsV_snoc])
      have HS := Lib.hid (run_spell x (runsV x 0 (rs.take k)) rs[k].1 rs[k].2 hv1 hb1 hb3 hb4)
      clear hget
      generalize rs[k].1 = l at *
      generalize rs[k].2 = b' at *
      go_wp2
      go_quiet ((go_at_call 43; exact quiet_of_eq (field_in _ _ _ _ (by omega) (by omega) (by omega) (by omega) (by omega) (by omega))))
      go_wp2
      go_roundw
      case rel => exact ⟨k + 1, by omega, by go_num, congrArg _ (HS.out.trans HV.out.symm), (hnx.alloc _).drewN _⟩
      case measure => simp [Go.RowKit.intOf]; omega
    · have e : k = rs.length := by omega
      have HE := Lib.hid e
      clear e
      go_wp2
      go_ret
      exact ⟨ret_u32 (by rw [HE.out, List.take_length]), hnx⟩

def runCells (rs : List (Int × Int)) : List Value := rs.flatMap fun r => [.int .i64 r.1, .int .i64 r.2]

theorem runCells_get (rs : List (Int × Int)) (j : Nat) (r : Int × Int) (h : rs[j]? = some r) : (runCells rs)[j * 2]? = some (.int .i64 r.1) ∧ (runCells rs)[j * 2 + 1]? = some (.int .i64 r.2) := by
  induction rs generalizing j with
  | nil => simp at h
  | cons a t ih =>
    cases j with
    | zero => simp at h; subst h; exact ⟨rfl, rfl⟩
    | succ j =>
      have := ih j (by simpa using h)
      rw [show (j + 1) * 2 = j * 2 + 1 + 1 from by omega]
      exact this

theorem runs_new (w : World) (rs : List (Int × Int)) : Runs (w.alloc (.cells (runCells rs).toArray 178)) w.heap.size rs := by
  intro j r hr
  obtain ⟨h1, h2⟩ := runCells_get rs j r hr
  refine ⟨?_, ?_⟩
  · have : (w.alloc (.cells (runCells rs).toArray 178)).cell? ⟨w.heap.size, j * 2, none⟩ = (runCells rs).toArray[j * 2]? := by simp
    rw [this, List.getElem?_toArray]; exact h1
  · have : (w.alloc (.cells (runCells rs).toArray 178)).cell? ⟨w.heap.size, j * 2 + 1, none⟩ = (runCells rs).toArray[j * 2 + 1]? := by simp
    rw [this, List.getElem?_toArray]; exact h2

/-- The reader, at runs that are laid for it. -/
theorem reader_lst (x nn : Int) (rs : List (Int × Int)) (n : Nat) (C : Array Value) (hC : (runCells rs).toArray = C) (hl : rs.length = n) (b : Nat) (w : World) (hx : 0 ≤ x) (hx' : x < 65536) (hn : 0 ≤ nn) (hn' : nn ≤ 32) (hok : ∀ r ∈ rs, runOk r) (hlen : rs.length ≤ 100) (hb : w.cell? ⟨b, 0, none⟩ = some (.int .u16 x)) :
    Calls Tryz.prog 160 #[.int .i64 nn, .slice (some ⟨w.heap.size, 0, none⟩) n n, .pointer (some ⟨b, 0, none⟩)] (w.alloc (.cells C 178)) fun e w' => e = .returned (.int .u32 (runsV x 0 rs * 2 ^ nn.toNat % 4294967296)) ∧ Nx w w' := by
  subst hC
  have h := reader_any x nn b w.heap.size n rs hl _ hx hx' hn hn' hok hlen (runs_new w rs) (((Nx.refl w).alloc _).cell hb)
  exact h.mono fun e w' ⟨h1, h2⟩ => ⟨h1, ((Nx.refl w).alloc _).trans h2⟩

theorem reader_one (x a n : Int) (b : Nat) (w : World) (hx : 0 ≤ x) (hx' : x < 65536) (ha : 0 ≤ a) (ha' : a ≤ 32) (hn : 0 ≤ n) (hn' : n ≤ 32) (hb : w.cell? ⟨b, 0, none⟩ = some (.int .u16 x)) :
    Calls Tryz.prog 160 #[.int .i64 0, .slice (some ⟨w.heap.size, 0, none⟩) 1 1, .pointer (some ⟨b, 0, none⟩)] (w.alloc (.cells #[.int .i64 a, .int .i64 n] 178)) fun e w' => e = .returned (.int .u32 (fld x a.toNat n.toNat)) ∧ Nx w w' := by
  have hok : ∀ r ∈ [(a, n)], runOk r := by
    intro r hr
    have e : r = (a, n) := by simpa using hr
    subst e
    exact ⟨ha, ha', hn, hn'⟩
  have h := reader_lst x 0 [(a, n)] 1 #[.int .i64 a, .int .i64 n] rfl rfl b w hx hx' (by decide) (by decide) hok (by simp) hb
  rw [one_run x a n ha hn hn'] at h
  exact h

/-- The reader of a parcel comes back. -/
def RetRd (x : Int) (w : World) (e : Ending) (w' : World) : Prop := ∃ b, e = .returned (.func (Fn.func 160) #[] #[.pointer (some ⟨b, 0, none⟩)]) ∧ w'.cell? ⟨b, 0, none⟩ = some (.int .u16 x) ∧ w.heap.size ≤ b ∧ Nx w w'

set_option maxHeartbeats 400000 in
theorem readerOf_any (x : Int) (w : World) : Calls Tryz.prog 156 #[.int .u16 x] w (RetRd x w) := by
  have hmf : ∀ (fn : Fn) (first cap : Array Value) (w : World), (Instr.makeFunc fn first cap).run Tryz.prog w = .ok (.func fn first cap) w := fun _ _ _ _ => rfl
  go_enter Tryz.func156, Tryz.ntmps156
  go_wp2
  go_ret
  exact ⟨_, rfl, by simp [go_sem], Nat.le_refl _, (Nx.refl _).alloc _⟩

def rsJ : List (Int × Int) := [(12, 1), (8, 1), (9, 2), (6, 1), (7, 1), (2, 1), (11, 1), (3, 3)]

def n6P (x : Int) : Int := sgn (runsV x 0 [(12, 1), (2, 5)] % 4294967296) 6

def jP (x : Int) : Int := sgn (runsV x 0 rsJ * 2 % 4294967296) 12

/-- A parcel taken apart; its reader has its parcel in block b. -/
def parA (x : Int) (b : Nat) : Array Value := #[.int .u32 (fld x 0 2), .int .u32 (fld x 13 3), .int .i64 (fld x 7 5), .int .i64 (fld x 2 5), .int .i64 (8 + fld x 7 3), .int .i64 (8 + fld x 2 3), .int .u32 (fld x 12 1), .int .i32 (n6P x), .int .i32 (jP x), .int .i32 (fld x 2 5), .func (Fn.func 160) #[] #[.pointer (some ⟨b, 0, none⟩)], .int .u32 (fld x 10 2), .int .u32 (fld x 5 2)]

def parV (x : Int) (b : Nat) : Value := .agg (parA x b)

theorem par_info : (Tryz.prog.info? 173).map (·.size) = some 13 := by kernel_rfl

theorem par_one (x : Int) (b : Nat) : (parA x b).all (·.oneCell') = true := by simp [parA, Value.oneCell']

def RetPar (x : Int) (w : World) (e : Ending) (w' : World) : Prop := ∃ b, e = .returned (parV x b) ∧ w'.cell? ⟨b, 0, none⟩ = some (.int .u16 x) ∧ Nx w w'

theorem okJ : ∀ r ∈ rsJ, runOk r := by
  intro r hr
  simp [rsJ] at hr
  rcases hr with rfl | rfl | rfl | rfl | rfl | rfl | rfl | rfl <;> exact ⟨by decide, by decide, by decide, by decide⟩

theorem ok6 : ∀ r ∈ [((12 : Int), (1 : Int)), (2, 5)], runOk r := by
  intro r hr
  simp at hr
  rcases hr with rfl | rfl <;> exact ⟨by decide, by decide, by decide, by decide⟩

set_option maxHeartbeats 4000000 in
set_option maxRecDepth 100000 in
theorem split_any (x : Int) (w : World) (hx : 0 ≤ x) (hx' : x < 65536) : Calls Tryz.prog 152 #[.int .u16 x] w (RetPar x w) := by
  obtain ⟨j1, j2⟩ := runsV_bd x rsJ okJ 0 (by omega)
  obtain ⟨s1, s2⟩ := runsV_bd x [(12, 1), (2, 5)] ok6 0 (by omega)
  have f1 := fld_nonneg x 7 5
  have g1 : fld x 7 5 < 32 := fld_lt x 7 5
  have f2 := fld_nonneg x 2 5
  have g2 : fld x 2 5 < 32 := fld_lt x 2 5
  have f3 := fld_nonneg x 7 3
  have g3 : fld x 7 3 < 8 := fld_lt x 7 3
  have f4 := fld_nonneg x 2 3
  have g4 : fld x 2 3 < 8 := fld_lt x 2 3
  go_enter Tryz.func152, Tryz.ntmps152
  go_wp2_with fail
  refine (readerOf_any _ _).mono ?_
  rintro e w1 ⟨b, rfl, hb, hbn, hn⟩
  have hne : b ≠ w.heap.size := by simp at hbn; omega
  clear hbn
  go_wp2_with fail
  refine (reader_lst x 1 rsJ 8 _ rfl rfl b w1 hx hx' (by decide) (by decide) okJ (by decide) hb).mono ?_
  rintro e w2 ⟨rfl, hn2⟩
  replace hb := hn2.cell hb
  replace hn := hn.trans hn2
  clear hn2
  go_wp2_with fail
  refine (reader_one x 0 2 b _ hx hx' (by decide) (by decide) (by decide) (by decide) hb).mono ?_
  rintro e w3 ⟨rfl, hm3⟩
  replace hb := hm3.cell hb
  replace hn := hn.trans hm3
  clear hm3
  go_wp2_with fail
  refine (reader_one x 13 3 b _ hx hx' (by decide) (by decide) (by decide) (by decide) hb).mono ?_
  rintro e w4 ⟨rfl, hm4⟩
  replace hb := hm4.cell hb
  replace hn := hn.trans hm4
  clear hm4
  go_wp2_with fail
  refine (reader_one x 7 5 b _ hx hx' (by decide) (by decide) (by decide) (by decide) hb).mono ?_
  rintro e w5 ⟨rfl, hm5⟩
  replace hb := hm5.cell hb
  replace hn := hn.trans hm5
  clear hm5
  go_wp2_with fail
  refine (reader_one x 2 5 b _ hx hx' (by decide) (by decide) (by decide) (by decide) hb).mono ?_
  rintro e w6 ⟨rfl, hm6⟩
  replace hb := hm6.cell hb
  replace hn := hn.trans hm6
  clear hm6
  go_wp2_with fail
  refine (reader_one x 7 3 b _ hx hx' (by decide) (by decide) (by decide) (by decide) hb).mono ?_
  rintro e w7 ⟨rfl, hm7⟩
  replace hb := hm7.cell hb
  replace hn := hn.trans hm7
  clear hm7
  go_wp2_with fail
  refine (reader_one x 2 3 b _ hx hx' (by decide) (by decide) (by decide) (by decide) hb).mono ?_
  rintro e w8 ⟨rfl, hm8⟩
  replace hb := hm8.cell hb
  replace hn := hn.trans hm8
  clear hm8
  go_wp2_with fail
  refine (reader_one x 12 1 b _ hx hx' (by decide) (by decide) (by decide) (by decide) hb).mono ?_
  rintro e w9 ⟨rfl, hm9⟩
  replace hb := hm9.cell hb
  replace hn := hn.trans hm9
  clear hm9
  go_wp2_with fail
  refine (reader_lst x 0 [(12, 1), (2, 5)] 2 _ rfl rfl b _ hx hx' (by decide) (by decide) ok6 (by decide) hb).mono ?_
  rintro e w10 ⟨rfl, hm10⟩
  replace hb := hm10.cell hb
  replace hn := hn.trans hm10
  clear hm10
  go_wp2_with fail
  refine (sign_in _ _ _ (by omega) (by omega) (by omega) (by omega)).mono ?_
  rintro e w' ⟨rfl, rfl⟩
  go_wp2_with fail
  refine (sign_in _ _ _ (by omega) (by omega) (by omega) (by omega)).mono ?_
  rintro e w' ⟨rfl, rfl⟩
  go_wp2_with fail
  refine (reader_one x 2 5 b _ hx hx' (by decide) (by decide) (by decide) (by decide) hb).mono ?_
  rintro e w11 ⟨rfl, hm11⟩
  replace hb := hm11.cell hb
  replace hn := hn.trans hm11
  clear hm11
  go_wp2_with fail
  refine (reader_one x 10 2 b _ hx hx' (by decide) (by decide) (by decide) (by decide) hb).mono ?_
  rintro e w12 ⟨rfl, hm12⟩
  replace hb := hm12.cell hb
  replace hn := hn.trans hm12
  clear hm12
  go_wp2_with fail
  refine (reader_one x 5 2 b _ hx hx' (by decide) (by decide) (by decide) (by decide) hb).mono ?_
  rintro e w13 ⟨rfl, hm13⟩
  replace hb := hm13.cell hb
  replace hn := hn.trans hm13
  clear hm13
  have ht := there_new hn 13 rfl
  have HB := Lib.hid hb
  have HN := Lib.hid hn
  have HT := Lib.hid ht
  clear hb hn ht
  go_wp2_with (refine wpList_store_mid (by rfl) 173 _ _ (by rfl) w.heap.size 0 (parA x b) (by rfl) (by rfl) HT.out par_info (par_one x b) ?_)
  refine bodyPost_ret (v := parV x b) (results_cell Tryz.results152 rfl (run_loadVar_mid _ w.heap.size 0 173 (parA x b).toList _ (World.rangeAt_setCells_same _ w.heap.size 0 (parA x b).toList HT.out) Tryz.underlying173 rfl par_info)) rfl ⟨b, rfl, ?_, ?_⟩
  · rw [World.cell?_setCells_out w.heap.size (parA x b).toList 0 _ ⟨b, 0, none⟩ (fun h _ => absurd h hne)]
    exact HB.out
  · exact (((Nx.refl w).alloc _).trans HN.out).setCells (Nat.le_refl _) _

end Go.Proofs.YtndpgakjpokllaaGreat

/- Contracts of package slim: the methods of a parcel. -/
namespace Go.Proofs.YtndpgakjpokllaaGreat
open Go.RowKit
set_option linter.unusedVariables false
set_option linter.unusedSimpArgs false

def insV (i : In5) : Value := .agg #[.int .i64 i.op, .int .i64 i.rd, .int .i64 i.rs1, .int .i64 i.rs2, .int .i32 i.imm]

def parG (q f rd rs2 r1 r2 b12 n6 j sh : Int) (b : Nat) (kd ls : Int) : Value := .agg #[.int .u32 q, .int .u32 f, .int .i64 rd, .int .i64 rs2, .int .i64 r1, .int .i64 r2, .int .u32 b12, .int .i32 n6, .int .i32 j, .int .i32 sh, .func (Fn.func 160) #[] #[.pointer (some ⟨b, 0, none⟩)], .int .u32 kd, .int .u32 ls]

def movI (rd rs2 b12 : Int) : In5 :=
  if rs2 = 0 then (if rd = 0 then (if b12 = 1 then ⟨40, 0, 0, 0, 0⟩ else none5) else ⟨4, b12, rd, 0, 0⟩)
  else if b12 = 0 then ⟨28, rd, 0, rs2, 0⟩ else ⟨28, rd, rd, rs2, 0⟩

set_option maxHeartbeats 2000000 in
theorem moving_any (q f rd rs2 r1 r2 b12 n6 j sh : Int) (b : Nat) (kd ls : Int) (w : World) (h1 : 0 ≤ b12) (h2 : b12 ≤ 1) :
    Calls Tryz.prog 159 #[parG q f rd rs2 r1 r2 b12 n6 j sh b kd ls] w fun e w' => e = .returned (insV (movI rd rs2 b12)) ∧ Nx w w' := by
  unfold parG
  cases e1 : (rs2 == 0) <;> cases e2 : (rd == 0) <;> cases e3 : (b12 == 1) <;> cases e4 : (b12 == 0)
  all_goals
    go_enter Tryz.func159, Tryz.ntmps159
    go_wp2
  all_goals
    simp only [beq_iff_eq, beq_eq_false_iff_ne, ne_eq] at e1 e2 e3 e4
    refine bodyPost_ret (v := insV (movI rd rs2 b12)) (by simp [results, Tryz.results159, go_sem, insV, movI, none5, e1, e2, e3, e4] <;> omega) rfl ⟨rfl, ?_⟩
    repeat (with_reducible first | exact Nx.refl _ | refine Nx.alloc ?_ _ | refine Nx.setCell ?_ (Nat.le_succ _) _)

end Go.Proofs.YtndpgakjpokllaaGreat

