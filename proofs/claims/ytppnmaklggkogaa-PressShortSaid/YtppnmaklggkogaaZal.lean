/- Parts of the proof, one behind the other. -/
import Derived.Laws.BitsAllLaws
import Derived.Test.YtppnmaklggkogaaZaa
import Derived.Test.YtppnmaklggkogaaZac
import Derived.Test.YtppnmaklggkogaaZak
/- Contracts of package press: how many bits of each register a parcel has; the register of which it has these bits. -/
namespace Go.Proofs.Ytppnmaklggkogaa
open Go.RowKit
set_option linter.unusedVariables false
set_option linter.unusedSimpArgs false

/-- How many of a letter. -/
def cnt (c : UInt8) : List UInt8 → Nat
  | [] => 0
  | x :: l => if x = c then cnt c l + 1 else cnt c l

theorem cnt_snoc (c : UInt8) (l : List UInt8) (x : UInt8) : cnt c (l ++ [x]) = cnt c l + (if x = c then 1 else 0) := by
  induction l with
  | nil => simp [cnt]
  | cons a t ih =>
    simp only [List.cons_append, cnt, ih]
    split <;> split <;> omega

theorem cnt_le (c : UInt8) (l : List UInt8) : cnt c l ≤ l.length := by
  induction l with
  | nil => simp [cnt]
  | cons a t ih => simp only [cnt, List.length_cons]; split <;> omega

theorem u8_ne {c : UInt8} {n : Nat} (d : UInt8) (hd : d.toNat = n) (h : c ≠ d) : ((c.toNat : Int) == (n : Int)) = false := by
  have : c.toNat ≠ n := fun e => h (UInt8.toNat_inj.1 (e.trans hd.symm))
  simp; omega

def regsO (l : List UInt8) : Obj := .cells #[.int .i64 (cnt 68 l), .int .i64 (cnt 83 l), .int .i64 (cnt 84 l)] 46

set_option maxHeartbeats 2000000 in
theorem countRegs_any (l : List UInt8) (w : World) (hl : l.length ≤ 16) (ha : ∀ c ∈ l, c.toNat < 128) :
    Calls Try.prog 22 #[.string (B l)] w fun e w' => e = .returned (.agg #[.int .i64 (cnt 68 l), .int .i64 (cnt 83 l), .int .i64 (cnt 84 l)]) ∧ Nx w w' := by
  have HA := Lib.hid ha
  clear ha
  go_enter Try.func22, Try.ntmps22
  go_wp2
  go_loopw [5] (fun _ wr => ∃ k : Nat, k ≤ l.length ∧ Has wr w.heap.size (regsO []) ∧ Has wr (w.heap.size + 1) (regsO (l.take k)) ∧ Has wr (w.heap.size + 1 + 1) (.stringIter (B l) k) ∧ Nx w wr) (fun _ wr => l.length - wr.iterPos (w.heap.size + 1 + 1))
  case atStart =>
    refine ⟨0, by omega, ?_, ?_, ?_, ?_⟩
    · exact ((Has.new w _).alloc _).alloc _
    · exact (Has.at_ (w.alloc _) _ (by simp)).alloc _
    · exact Has.at_ ((w.alloc _).alloc _) _ (by simp)
    · exact (((Nx.refl w).alloc _).alloc _).alloc _
  case round =>
    obtain ⟨k, hk, h0, h1, h2, hn⟩ := hrel
    have hm := h2.pos
    have HM := Lib.hid hm
    clear hm
    by_cases hlt : k < l.length
    · obtain ⟨c, hc⟩ : ∃ c, l[k]? = some c := ⟨_, List.getElem?_eq_getElem hlt⟩
      obtain ⟨w2, hnx, g2, gk, gn, gs⟩ := iter_next Try.prog wr _ l k c h2 hc (HA.out c (List.mem_of_getElem? hc))
      have e0 := gk _ _ (by omega) h0
      have e1 := gk _ _ (by omega) h1
      have hn2 := gn w hn (by omega)
      have ht := take_snoc' l k c hc
      have q1 := cnt_snoc 68 (l.take k) c
      have q2 := cnt_snoc 83 (l.take k) c
      have q3 := cnt_snoc 84 (l.take k) c
      rw [← ht] at q1 q2 q3
      have hle := List.length_take_le k l
      have b1 := cnt_le 68 (l.take k)
      have b2 := cnt_le 83 (l.take k)
      have b3 := cnt_le 84 (l.take k)
      unfold regsO at e1
      generalize hx1 : cnt 68 (l.take k) = x1 at *
      generalize hx2 : cnt 83 (l.take k) = x2 at *
      generalize hx3 : cnt 84 (l.take k) = x3 at *
      have c0 := e1.cell 0 _ rfl
      have c1 := e1.cell 1 _ rfl
      have c2 := e1.cell 2 _ rfl
      have f0 := e1.free 0
      have f1 := e1.free 1
      have f2 := e1.free 2
      have E0 := Lib.hid e0
      have E1 := Lib.hid e1
      have G2 := Lib.hid g2
      have M2 := Lib.hid g2.pos
      have HN := Lib.hid hn2
      have Q1 := Lib.hid q1
      have Q2 := Lib.hid q2
      have Q3 := Lib.hid q3
      clear q1 q2 q3 e0 e1 g2 h0 h1 h2 hn hn2 gk gn gs ht hc hx1 hx2 hx3
      by_cases d1 : c = 68
      · subst d1
        go_wp2
        go_roundw
        case rel =>
          refine ⟨k + 1, by omega, E0.out.far (by show _ ≠ w.heap.size + 1; omega) _, ?_, G2.out.far (by show _ ≠ w.heap.size + 1; omega) _, HN.out.setCell (by show _ ≤ w.heap.size + 1; omega) _⟩
          unfold regsO
          rw [Q1.out, Q2.out, Q3.out]
          exact E1.out.put 0 _
        case measure => rw [HM.out]; first | (rw [M2.out]; omega) | (rw [(G2.out.far (by show _ ≠ w.heap.size + 1; omega) _).pos]; omega)
      · have t1 : ((c.toNat : Int) == 68) = false := u8_ne 68 rfl d1
        by_cases d2 : c = 83
        · subst d2
          go_wp2
          go_roundw
          case rel =>
            refine ⟨k + 1, by omega, E0.out.far (by show _ ≠ w.heap.size + 1; omega) _, ?_, G2.out.far (by show _ ≠ w.heap.size + 1; omega) _, HN.out.setCell (by show _ ≤ w.heap.size + 1; omega) _⟩
            unfold regsO
            rw [Q1.out, Q2.out, Q3.out]
            exact E1.out.put 1 _
          case measure => rw [HM.out]; first | (rw [M2.out]; omega) | (rw [(G2.out.far (by show _ ≠ w.heap.size + 1; omega) _).pos]; omega)
        · have t2 : ((c.toNat : Int) == 83) = false := u8_ne 83 rfl d2
          by_cases d3 : c = 84
          · subst d3
            go_wp2
            go_roundw
            case rel =>
              refine ⟨k + 1, by omega, E0.out.far (by show _ ≠ w.heap.size + 1; omega) _, ?_, G2.out.far (by show _ ≠ w.heap.size + 1; omega) _, HN.out.setCell (by show _ ≤ w.heap.size + 1; omega) _⟩
              unfold regsO
              rw [Q1.out, Q2.out, Q3.out]
              exact E1.out.put 2 _
            case measure => rw [HM.out]; first | (rw [M2.out]; omega) | (rw [(G2.out.far (by show _ ≠ w.heap.size + 1; omega) _).pos]; omega)
          · have t3 : ((c.toNat : Int) == 84) = false := u8_ne 84 rfl d3
            rw [if_neg d1] at Q1
            rw [if_neg d2] at Q2
            rw [if_neg d3] at Q3
            generalize ((c.toNat : Nat) : Int) = cv at *
            go_wp2
            go_roundw
            case rel =>
              refine ⟨k + 1, by omega, E0.out, ?_, G2.out, HN.out⟩
              unfold regsO
              rw [Q1.out, Q2.out, Q3.out]
              exact E1.out
            case measure => rw [HM.out]; first | (rw [M2.out]; omega) | (rw [(G2.out.far (by show _ ≠ w.heap.size + 1; omega) _).pos]; omega)
    · have e : l.take k = l := List.take_of_length_le (by omega)
      rw [e] at h1
      have hnx := iter_end Try.prog wr _ l k h2 (by omega)
      unfold regsO at h1
      have c0 := h1.cell 0 _ rfl
      have c1 := h1.cell 1 _ rfl
      have c2 := h1.cell 2 _ rfl
      have d0 := h0.cell 0 _ rfl
      have d1 := h0.cell 1 _ rfl
      have d2 := h0.cell 2 _ rfl
      have f0 := h0.free 0
      have f1 := h0.free 1
      have f2 := h0.free 2
      have HN := Lib.hid hn
      clear h0 h1 h2 hn e
      go_wp2
      refine bodyPost_ret (v := .agg #[.int .i64 (cnt 68 l), .int .i64 (cnt 83 l), .int .i64 (cnt 84 l)]) (by simp [results, Try.results22, go_sem, d0, d1, d2]) rfl ⟨rfl, ?_⟩
      repeat (with_reducible first | exact HN.out | refine Nx.setCell ?_ (Nat.le_refl _) _)

end Go.Proofs.Ytppnmaklggkogaa

/- Contracts of package press: Put. -/
namespace Go.Proofs.Ytppnmaklggkogaa
open Go.RowKit
set_option linter.unusedVariables false
set_option linter.unusedSimpArgs false

/-- The register of which a parcel has these bits. -/
def fullP (k b rd : Int) : Int := if k = 0 ∨ k = 1 ∨ k = 2 then k else if k = 4 then b + 8 else if k = 7 then rd else b

set_option maxHeartbeats 1000000 in
theorem full_any (k b rd : Int) (w : World) (h0 : 0 ≤ k) (h1 : k ≤ 7) (hb : 0 ≤ b) (hb' : b ≤ 65536) :
    Calls Try.prog 36 #[.int .i64 k, .int .i64 b, .int .i64 rd] w fun e w' => e = .returned (.int .i64 (fullP k b rd)) ∧ w = w' := by
  rcases (by omega : k = 0 ∨ k = 1 ∨ k = 2 ∨ k = 3 ∨ k = 4 ∨ k = 5 ∨ k = 6 ∨ k = 7) with rfl | rfl | rfl | rfl | rfl | rfl | rfl | rfl
  all_goals
    go_enter Try.func36, Try.ntmps36
    go_wp2
    go_ret
    exact ⟨rfl, rfl⟩

/-- What a letter of a parcel's bits stands for: the letters behind it tell which bit of a register. -/
def bitV (rd rs1 rs2 imm : Int) (c : UInt8) (l : List UInt8) : Int :=
  if c = 48 then 0 else if c = 49 then 1 else if c = 68 then fld rd (cnt 68 l) 1 else if c = 83 then fld rs1 (cnt 83 l) 1 else if c = 84 then fld rs2 (cnt 84 l) 1 else fld imm (c.toNat - 97) 1

def putV (rd rs1 rs2 imm : Int) : List UInt8 → Int → Int
  | [], h => h
  | c :: l, h => putV rd rs1 rs2 imm l (2 * h + bitV rd rs1 rs2 imm c l)

/-- A letter that may stand among a parcel's bits. -/
def okC (c : UInt8) : Bool := c == 48 || c == 49 || c == 68 || c == 83 || c == 84 || (97 ≤ c.toNat && c.toNat ≤ 114)

def okBits (l : List UInt8) : Bool := (l.length == 16) && l.all okC

theorem bitV_01 (rd rs1 rs2 imm : Int) (c : UInt8) (l : List UInt8) : 0 ≤ bitV rd rs1 rs2 imm c l ∧ bitV rd rs1 rs2 imm c l ≤ 1 := by
  have h : ∀ x n, 0 ≤ fld x n 1 ∧ fld x n 1 ≤ 1 := fun x n => by have := bit01 x n; omega
  unfold bitV
  repeat (first | exact h _ _ | omega | split)

theorem or_bit (h b : Int) (h0 : 0 ≤ h) (h1 : h < 65536) (b0 : 0 ≤ b) (b1 : b ≤ 1) : bits BinOp.or IntKind.u32 (h * 2) b = 2 * h + b := by
  rw [show h * 2 = h * 2 % 4294967296 by omega]
  have e := run_spell b h 0 1 h0 (by omega) (by omega) (by omega)
  have e1 : fld b (0 : Int).toNat (1 : Int).toNat = b := by show fld b 0 1 = b; unfold fld; simp; omega
  rw [e1] at e
  have e2 : (2 : Int) ^ (1 : Int).toNat = 2 := by decide
  rw [e2] at e
  rw [e]
  unfold runV
  rw [e1, e2]
  omega

theorem okBits_row : ∀ r ∈ rowsL, okBits r.bits = true := by decide

theorem okBits_find (s : ByteArray) (h : (findP s).isSome = true) : okBits (findR s).bits = true := by
  obtain ⟨r, hr⟩ := Option.isSome_iff_exists.1 h
  have e : findR s = r := by unfold findR; rw [hr]; rfl
  rw [e]
  exact okBits_row r (List.mem_of_find?_eq_some hr)

theorem okC_lt (c : UInt8) (h : okC c = true) : c.toNat < 128 := by
  unfold okC at h
  simp only [Bool.or_eq_true, beq_iff_eq, Bool.and_eq_true, decide_eq_true_eq] at h
  rcases h with ((((rfl | rfl) | rfl) | rfl) | rfl) | h
  · decide
  · decide
  · decide
  · decide
  · decide
  · omega

theorem drop_cons' (l : List UInt8) (k : Nat) (c : UInt8) (h : l[k]? = some c) : l.drop k = c :: l.drop (k + 1) := by
  obtain ⟨hk, e⟩ := List.getElem?_eq_some_iff.1 h
  rw [List.drop_eq_getElem_cons hk, e]

theorem pow_lt16 (v : Int) (k : Nat) (hk : k < 16) (h : v < 2 ^ k) : v < 32768 := by
  have := pow_mono k 15 (by omega)
  have e : (2 : Int) ^ 15 = 32768 := by decide
  omega

theorem pow_next (v b : Int) (k : Nat) (h : v < 2 ^ k) (b1 : b ≤ 1) : 2 * v + b < 2 ^ (k + 1) := by
  rw [Int.pow_succ]
  omega

def PutB (s : ByteArray) (op rd rs1 rs2 imm : Int) : Int := if fitS s op rd rs1 rs2 imm = true then putV (rd % 4294967296) (rs1 % 4294967296) (rs2 % 4294967296) (imm % 4294967296) (findR s).bits 0 else 0

set_option maxHeartbeats 4000000 in
theorem pPut_yes (s : ByteArray) (op rd rs1 rs2 imm : Int) (w : World) (hv : -2147483648 ≤ imm) (hv' : imm ≤ 2147483647) (hs : (findP s).isSome = true) (hf : fitsB (findR s) op rd rs1 rs2 imm = true) :
    Calls Try.prog 9 #[.string s, .agg #[.int .i64 op, .int .i64 rd, .int .i64 rs1, .int .i64 rs2, .int .i32 imm]] w fun e w' => e = .returned (.tuple #[.int .u16 (putV (rd % 4294967296) (rs1 % 4294967296) (rs2 % 4294967296) (imm % 4294967296) (findR s).bits 0), .bool true]) ∧ Nx w w' := by
  have hok := findR_ok s hs
  have hol := okBits_find s hs
  have HL := Lib.hid (show (findR s).bits.length ≤ 16 ∧ (∀ c ∈ (findR s).bits, c.toNat < 128) ∧ (findR s).bits.length = 16 ∧ ∀ c ∈ (findR s).bits, okC c = true by
    unfold okBits at hol
    simp only [Bool.and_eq_true, beq_iff_eq, List.all_eq_true] at hol
    exact ⟨by omega, fun c hc => okC_lt c (hol.2 c hc), hol.1, hol.2⟩)
  clear hol
  obtain ⟨V, hV⟩ : ∃ V, V = putV (rd % 4294967296) (rs1 % 4294967296) (rs2 % 4294967296) (imm % 4294967296) (findR s).bits 0 := ⟨_, rfl⟩
  rw [← hV]
  have HV := Lib.hid hV
  clear hV
  go_enter Try.func9, Try.ntmps9
  go_wp2_with fail
  refine (find_any _ _).mono ?_
  rintro e w2 ⟨rfl, hn2⟩
  rw [hs]
  obtain ⟨c0, c1, c2, c3, c4, hz⟩ := five_in hn2
  have HN := Lib.hid (((Nx.refl w).alloc _).trans hn2)
  clear hn2
  generalize findR s = R at *
  go_wp2_with (first | (refine wpList_store_mid (by rfl) 41 _ _ (by rfl) w2.heap.size 0 (rowC R).toArray (by rfl) (by rfl) (prow_there w2) prow_size (prow_one R) ?_; rw [prow_set]; dsimp only [rowC]))
  refine (pfits_any R op rd rs1 rs2 imm _ hok hv hv').mono ?_
  rintro e w3 ⟨rfl, hn3⟩
  rw [hf]
  have r9 : w3.cell? ⟨w2.heap.size, 9, none⟩ = some (.string (B R.bits)) := hn3.cell (by simp)
  have HN3 := Lib.hid (HN.out.trans (((Nx.refl w2).alloc _).trans hn3))
  have HC := Lib.hid (And.intro (hn3.cell (((Nx.refl w2).alloc _).cell c1)) (And.intro (hn3.cell (((Nx.refl w2).alloc _).cell c2)) (And.intro (hn3.cell (((Nx.refl w2).alloc _).cell c3)) (hn3.cell (((Nx.refl w2).alloc _).cell c4)))))
  have hz3 := hn3.size
  rw [World.size_alloc] at hz3
  clear hn3 c0 c1 c2 c3 c4
  go_wp2_with fail
  refine (countRegs_any R.bits _ HL.out.1 HL.out.2.1).mono ?_
  rintro e w4 ⟨rfl, hn4⟩
  have s9 : w4.cell? ⟨w2.heap.size, 9, none⟩ = some (.string (B R.bits)) := hn4.cell r9
  have HN4 := Lib.hid (HN3.out.trans hn4)
  have HD := Lib.hid (And.intro (hn4.cell HC.out.1) (And.intro (hn4.cell HC.out.2.1) (And.intro (hn4.cell HC.out.2.2.1) (hn4.cell HC.out.2.2.2))))
  have hz4 := hn4.size
  have hz5 : w2.heap.size < w4.heap.size := by omega
  have hz6 : w.heap.size < w4.heap.size := by omega
  clear hn4 HC r9
  go_wp2
  generalize hl : R.bits = l at *
  clear hl hf hok
  go_loopw [8, 11] (fun h _ wr => ∃ (k : Nat) (v : Int), k ≤ 16 ∧ h = .int .u32 v ∧ 0 ≤ v ∧ Hid (v < 2 ^ k) ∧ Hid (putV (rd % 4294967296) (rs1 % 4294967296) (rs2 % 4294967296) (imm % 4294967296) (l.drop k) v = V) ∧ Has wr w4.heap.size (regsO (l.drop k)) ∧ Has wr (w4.heap.size + 1) (.stringIter (B l) k) ∧ Nx w4 wr) (fun _ _ wr => l.length - wr.iterPos (w4.heap.size + 1))
  case atStart =>
    refine ⟨0, 0, by omega, rfl, by omega, Lib.hid (by decide), Lib.hid (by rw [HV.out]; rfl), ?_, ?_, ?_⟩
    · exact (Has.new w4 _).alloc _
    · exact Has.at_ (w4.alloc _) _ (by simp)
    · exact ((Nx.refl w4).alloc _).alloc _
  case round =>
    obtain ⟨k, v, hk, rfl, hv0, hv1, hV1, h1, h2, hn⟩ := hrel
    have HM := Lib.hid h2.pos
    by_cases hlt : k < 16
    · obtain ⟨c, hc⟩ : ∃ c, l[k]? = some c := ⟨_, List.getElem?_eq_getElem (by have := HL.out.2.2.1; omega)⟩
      obtain ⟨w5, hnx, g2, gk, gn, gs⟩ := iter_next Try.prog wr _ l k c h2 hc (HL.out.2.1 c (List.mem_of_getElem? hc))
      have e1 := gk _ _ (by omega) h1
      have hn2 := gn w4 hn (by omega)
      have d1 := hn2.cell HD.out.1
      have d2 := hn2.cell HD.out.2.1
      have d3 := hn2.cell HD.out.2.2.1
      have d4 := hn2.cell HD.out.2.2.2
      have hd := drop_cons' l k c hc
      rw [hd] at e1 hV1
      have HO := HL.out.2.2.2 c (List.mem_of_getElem? hc)
      have HB := Lib.hid (bitV_01 (rd % 4294967296) (rs1 % 4294967296) (rs2 % 4294967296) (imm % 4294967296) c (l.drop (k + 1)))
      have hv2 := pow_lt16 v k hlt hv1.out
      have HOR := Lib.hid (or_bit v (bitV (rd % 4294967296) (rs1 % 4294967296) (rs2 % 4294967296) (imm % 4294967296) c (l.drop (k + 1))) hv0 (by omega) HB.out.1 HB.out.2)
      have HP := Lib.hid (pow_next v (bitV (rd % 4294967296) (rs1 % 4294967296) (rs2 % 4294967296) (imm % 4294967296) c (l.drop (k + 1))) k hv1.out HB.out.2)
      have hlen : (l.drop (k + 1)).length ≤ 16 := by have := HL.out.1; rw [List.length_drop]; omega
      generalize hr : l.drop (k + 1) = rest at *
      have b1 := cnt_le 68 rest
      have b2 := cnt_le 83 rest
      have b3 := cnt_le 84 rest
      have G2 := Lib.hid g2
      have M2 := Lib.hid g2.pos
      have HN2 := Lib.hid hn2
      unfold regsO at e1
      have E1 := Lib.hid e1
      have HV1 := Lib.hid (show putV (rd % 4294967296) (rs1 % 4294967296) (rs2 % 4294967296) (imm % 4294967296) rest (2 * v + bitV (rd % 4294967296) (rs1 % 4294967296) (rs2 % 4294967296) (imm % 4294967296) c rest) = V from hV1.out)
      have HR := Lib.hid hr
      clear e1 g2 h1 h2 hn hn2 gk gn gs hd hc hV1 hr
      unfold okC at HO
      simp only [Bool.or_eq_true, beq_iff_eq, Bool.and_eq_true, decide_eq_true_eq] at HO
      rcases HO with ((((rfl | rfl) | rfl) | rfl) | rfl) | HO
      · have E2 : Hid (Has w5 w4.heap.size (regsO rest)) := Lib.hid (by have := E1.out; simpa [cnt, regsO] using this)
        have HB2 := Lib.hid (show bitV (rd % 4294967296) (rs1 % 4294967296) (rs2 % 4294967296) (imm % 4294967296) 48 rest = 0 from rfl)
        go_wp2
        go_roundw
        case rel => exact ⟨k + 1, 2 * v + 0, by omega, by go_num, by omega, Lib.hid (by rw [← HB2.out]; exact HP.out), Lib.hid (by rw [← HB2.out, HR.out]; exact HV1.out), by rw [HR.out]; exact E2.out, G2.out, HN2.out⟩
        case measure => rw [HM.out, M2.out]; have := HL.out.2.2.1; omega
      · have E2 : Hid (Has w5 w4.heap.size (regsO rest)) := Lib.hid (by have := E1.out; simpa [cnt, regsO] using this)
        have HB2 := Lib.hid (show bitV (rd % 4294967296) (rs1 % 4294967296) (rs2 % 4294967296) (imm % 4294967296) 49 rest = 1 from rfl)
        rw [HB2.out] at HOR HP
        go_wp2
        go_roundw
        case rel => exact ⟨k + 1, 2 * v + 1, by omega, by rw [← HOR.out], by omega, HP, Lib.hid (by rw [← HB2.out, HR.out]; exact HV1.out), by rw [HR.out]; exact E2.out, G2.out, HN2.out⟩
        case measure => rw [HM.out, M2.out]; have := HL.out.2.2.1; omega
      · have E2 : Hid (Has w5 w4.heap.size (.cells #[.int .i64 (((cnt 68 rest : Nat) : Int) + 1), .int .i64 (((cnt 83 rest : Nat) : Int)), .int .i64 (((cnt 84 rest : Nat) : Int))] 46)) := Lib.hid (by have := E1.out; simpa [cnt, regsO] using this)
        have c0 := E2.out.cell 0 _ rfl
        have f0 := E2.out.free 0
        have HB2 := Lib.hid (show bitV (rd % 4294967296) (rs1 % 4294967296) (rs2 % 4294967296) (imm % 4294967296) 68 rest = fld (rd % 4294967296) (cnt 68 rest) 1 from rfl)
        rw [HB2.out] at HOR HP HB
        have E3 := Lib.hid (E2.out.put 0 (.int .i64 (cnt 68 rest)))
        have E4 : Hid (Has (w5.setCell ⟨w4.heap.size, 0, none⟩ (.int .i64 (cnt 68 rest))) w4.heap.size (regsO rest)) := E3
        clear E3 E1
        go_wp2_with (go_at_call 23; refine (field_in _ _ _ _ (by omega) (by omega) (by omega) (by omega) (by omega) (by omega)).mono ?_; rintro e w' ⟨rfl, rfl⟩)
        go_roundw
        case rel => exact ⟨k + 1, 2 * v + fld (rd % 4294967296) (cnt 68 rest) 1, by omega, by rw [← HOR.out], by have := HB.out; omega, HP, Lib.hid (by rw [← HB2.out, HR.out]; exact HV1.out), by rw [HR.out]; exact E4.out, G2.out.far (by show _ ≠ w4.heap.size; omega) _, HN2.out.setCell (by exact Nat.le_refl _) _⟩
        case measure => rw [HM.out, (G2.out.far (by show _ ≠ w4.heap.size; omega) _).pos]; have := HL.out.2.2.1; omega
      · have E2 : Hid (Has w5 w4.heap.size (.cells #[.int .i64 (((cnt 68 rest : Nat) : Int)), .int .i64 (((cnt 83 rest : Nat) : Int) + 1), .int .i64 (((cnt 84 rest : Nat) : Int))] 46)) := Lib.hid (by have := E1.out; simpa [cnt, regsO] using this)
        have c0 := E2.out.cell 1 _ rfl
        have f0 := E2.out.free 1
        have HB2 := Lib.hid (show bitV (rd % 4294967296) (rs1 % 4294967296) (rs2 % 4294967296) (imm % 4294967296) 83 rest = fld (rs1 % 4294967296) (cnt 83 rest) 1 from rfl)
        rw [HB2.out] at HOR HP HB
        have E3 := Lib.hid (E2.out.put 1 (.int .i64 (cnt 83 rest)))
        have E4 : Hid (Has (w5.setCell ⟨w4.heap.size, 1, none⟩ (.int .i64 (cnt 83 rest))) w4.heap.size (regsO rest)) := E3
        clear E3 E1
        go_wp2_with (go_at_call 23; refine (field_in _ _ _ _ (by omega) (by omega) (by omega) (by omega) (by omega) (by omega)).mono ?_; rintro e w' ⟨rfl, rfl⟩)
        go_roundw
        case rel => exact ⟨k + 1, 2 * v + fld (rs1 % 4294967296) (cnt 83 rest) 1, by omega, by rw [← HOR.out], by have := HB.out; omega, HP, Lib.hid (by rw [← HB2.out, HR.out]; exact HV1.out), by rw [HR.out]; exact E4.out, G2.out.far (by show _ ≠ w4.heap.size; omega) _, HN2.out.setCell (by exact Nat.le_refl _) _⟩
        case measure => rw [HM.out, (G2.out.far (by show _ ≠ w4.heap.size; omega) _).pos]; have := HL.out.2.2.1; omega
      · have E2 : Hid (Has w5 w4.heap.size (.cells #[.int .i64 (((cnt 68 rest : Nat) : Int)), .int .i64 (((cnt 83 rest : Nat) : Int)), .int .i64 (((cnt 84 rest : Nat) : Int) + 1)] 46)) := Lib.hid (by have := E1.out; simpa [cnt, regsO] using this)
        have c0 := E2.out.cell 2 _ rfl
        have f0 := E2.out.free 2
        have HB2 := Lib.hid (show bitV (rd % 4294967296) (rs1 % 4294967296) (rs2 % 4294967296) (imm % 4294967296) 84 rest = fld (rs2 % 4294967296) (cnt 84 rest) 1 from rfl)
        rw [HB2.out] at HOR HP HB
        have E3 := Lib.hid (E2.out.put 2 (.int .i64 (cnt 84 rest)))
        have E4 : Hid (Has (w5.setCell ⟨w4.heap.size, 2, none⟩ (.int .i64 (cnt 84 rest))) w4.heap.size (regsO rest)) := E3
        clear E3 E1
        go_wp2_with (go_at_call 23; refine (field_in _ _ _ _ (by omega) (by omega) (by omega) (by omega) (by omega) (by omega)).mono ?_; rintro e w' ⟨rfl, rfl⟩)
        go_roundw
        case rel => exact ⟨k + 1, 2 * v + fld (rs2 % 4294967296) (cnt 84 rest) 1, by omega, by rw [← HOR.out], by have := HB.out; omega, HP, Lib.hid (by rw [← HB2.out, HR.out]; exact HV1.out), by rw [HR.out]; exact E4.out, G2.out.far (by show _ ≠ w4.heap.size; omega) _, HN2.out.setCell (by exact Nat.le_refl _) _⟩
        case measure => rw [HM.out, (G2.out.far (by show _ ≠ w4.heap.size; omega) _).pos]; have := HL.out.2.2.1; omega
      · have n1 : ((c.toNat : Int) == 48) = false := by simp; omega
        have n2 : ((c.toNat : Int) == 49) = false := by simp; omega
        have n3 : ((c.toNat : Int) == 68) = false := by simp; omega
        have n4 : ((c.toNat : Int) == 83) = false := by simp; omega
        have n5 : ((c.toNat : Int) == 84) = false := by simp; omega
        have m1 : c ≠ 48 := by rintro rfl; revert HO; decide
        have m2 : c ≠ 49 := by rintro rfl; revert HO; decide
        have m3 : c ≠ 68 := by rintro rfl; revert HO; decide
        have m4 : c ≠ 83 := by rintro rfl; revert HO; decide
        have m5 : c ≠ 84 := by rintro rfl; revert HO; decide
        have E2 : Hid (Has w5 w4.heap.size (regsO rest)) := Lib.hid (by have := E1.out; simpa [cnt, regsO, m1, m2, m3, m4, m5] using this)
        have HB2 := Lib.hid (show bitV (rd % 4294967296) (rs1 % 4294967296) (rs2 % 4294967296) (imm % 4294967296) c rest = fld (imm % 4294967296) ((c.toNat : Int) - 97).toNat 1 by
          have : ((c.toNat : Int) - 97).toNat = c.toNat - 97 := by omega
          rw [this]; simp [bitV, m1, m2, m3, m4, m5])
        rw [HB2.out] at HOR HP HB HV1
        clear m1 m2 m3 m4 m5 HB2 E1
        have o1 : 97 ≤ (c.toNat : Int) := by omega
        have o2 : (c.toNat : Int) ≤ 114 := by omega
        generalize ((c.toNat : Nat) : Int) = cv at *
        go_wp2_with (go_at_call 23; refine (field_in _ _ _ _ (by omega) (by omega) (by omega) (by omega) (by omega) (by omega)).mono ?_; rintro e w' ⟨rfl, rfl⟩)
        go_roundw
        case rel => exact ⟨k + 1, 2 * v + fld (imm % 4294967296) (cv - 97).toNat 1, by omega, by rw [← HOR.out], by have := HB.out; omega, HP, Lib.hid (by rw [HR.out]; exact HV1.out), by rw [HR.out]; exact E2.out, G2.out, HN2.out⟩
        case measure => rw [HM.out, M2.out]; have := HL.out.2.2.1; omega
    · have e : l.drop k = [] := List.drop_of_length_le (by have := HL.out.1; omega)
      have hVv : v = V := by have := hV1.out; rw [e] at this; exact this
      have hb : v < 65536 := by
        have := hv1.out
        have h16 := pow_mono k 16 (by omega)
        have e : (2 : Int) ^ 16 = 65536 := by decide
        omega
      have hnx := iter_end Try.prog wr _ l k h2 (by have := HL.out.1; omega)
      have HVv := Lib.hid hVv
      have HNr := Lib.hid hn
      clear h1 h2 hn e hVv hV1 HM
      go_wp2
      go_ret2
      exact ⟨by rw [← HVv.out]; rfl, HN4.out.trans HNr.out⟩

set_option maxHeartbeats 4000000 in
theorem pPut_no1 (s : ByteArray) (op rd rs1 rs2 imm : Int) (w : World) (hs : (findP s).isSome = false) :
    Calls Try.prog 9 #[.string s, .agg #[.int .i64 op, .int .i64 rd, .int .i64 rs1, .int .i64 rs2, .int .i32 imm]] w fun e w' => e = .returned (.tuple #[.int .u16 0, .bool false]) ∧ Nx w w' := by
  go_enter Try.func9, Try.ntmps9
  go_wp2_with fail
  refine (find_any _ _).mono ?_
  rintro e w2 ⟨rfl, hn2⟩
  rw [hs]
  have HN := Lib.hid (((Nx.refl w).alloc _).trans hn2)
  clear hn2
  generalize findR s = R at *
  go_wp2_with (refine wpList_store_mid (by rfl) 41 _ _ (by rfl) w2.heap.size 0 (rowC R).toArray (by rfl) (by rfl) (prow_there w2) prow_size (prow_one R) ?_; rw [prow_set])
  go_ret2
  exact ⟨rfl, HN.out.alloc _⟩

set_option maxHeartbeats 4000000 in
theorem pPut_no2 (s : ByteArray) (op rd rs1 rs2 imm : Int) (w : World) (hv : -2147483648 ≤ imm) (hv' : imm ≤ 2147483647) (hs : (findP s).isSome = true) (hf : fitsB (findR s) op rd rs1 rs2 imm = false) :
    Calls Try.prog 9 #[.string s, .agg #[.int .i64 op, .int .i64 rd, .int .i64 rs1, .int .i64 rs2, .int .i32 imm]] w fun e w' => e = .returned (.tuple #[.int .u16 0, .bool false]) ∧ Nx w w' := by
  have hok := findR_ok s hs
  go_enter Try.func9, Try.ntmps9
  go_wp2_with fail
  refine (find_any _ _).mono ?_
  rintro e w2 ⟨rfl, hn2⟩
  rw [hs]
  obtain ⟨c0, c1, c2, c3, c4, hz⟩ := five_in hn2
  have HN := Lib.hid (((Nx.refl w).alloc _).trans hn2)
  clear hn2
  generalize findR s = R at *
  go_wp2_with (first | (refine wpList_store_mid (by rfl) 41 _ _ (by rfl) w2.heap.size 0 (rowC R).toArray (by rfl) (by rfl) (prow_there w2) prow_size (prow_one R) ?_; rw [prow_set]; dsimp only [rowC]))
  refine (pfits_any R op rd rs1 rs2 imm _ hok hv hv').mono ?_
  rintro e w3 ⟨rfl, hn3⟩
  rw [hf]
  have HN3 := Lib.hid (HN.out.trans (((Nx.refl w2).alloc _).trans hn3))
  clear hn3
  go_wp2
  go_ret2
  exact ⟨rfl, HN3.out⟩

theorem pPut_any (s : ByteArray) (op rd rs1 rs2 imm : Int) (w : World) (hv : -2147483648 ≤ imm) (hv' : imm ≤ 2147483647) :
    Calls Try.prog 9 #[.string s, .agg #[.int .i64 op, .int .i64 rd, .int .i64 rs1, .int .i64 rs2, .int .i32 imm]] w fun e w' => e = .returned (.tuple #[.int .u16 (PutB s op rd rs1 rs2 imm), .bool (fitS s op rd rs1 rs2 imm)]) ∧ Nx w w' := by
  cases hs : (findP s).isSome
  · have e : fitS s op rd rs1 rs2 imm = false := by unfold fitS; rw [hs]; rfl
    unfold PutB
    rw [e, if_neg (by simp)]
    exact pPut_no1 s op rd rs1 rs2 imm w hs
  · cases hf : fitsB (findR s) op rd rs1 rs2 imm
    · have e : fitS s op rd rs1 rs2 imm = false := by unfold fitS; rw [hs, hf]; rfl
      unfold PutB
      rw [e, if_neg (by simp)]
      exact pPut_no2 s op rd rs1 rs2 imm w hv hv' hs hf
    · have e : fitS s op rd rs1 rs2 imm = true := by unfold fitS; rw [hs, hf]; rfl
      unfold PutB
      rw [e, if_pos rfl]
      exact pPut_yes s op rd rs1 rs2 imm w hv hv' hs hf

end Go.Proofs.Ytppnmaklggkogaa

/- Plain: what a row of the table of shorts reads in a parcel. -/
namespace Go.Proofs.Ytppnmaklggkogaa
open Go.RowKit
set_option linter.unusedVariables false
set_option linter.unusedSimpArgs false

/-- What has been read: the number's bits, how many they are, the registers' bits. -/
structure GS where
  num : Nat
  wid : Nat
  rd : Nat
  rs1 : Nat
  rs2 : Nat

def bn (h : Int) (n : Nat) : Nat := (fld h n 1).toNat

theorem bn_fld (h : Int) (n : Nat) : fld h n 1 = (bn h n : Int) := by
  have := fld_nonneg h n 1
  unfold bn
  omega

theorem bn_le (h : Int) (n : Nat) : bn h n ≤ 1 := by
  have := bit01 h n
  unfold bn
  omega

def gstep (c : UInt8) (b : Nat) (s : GS) : Option GS :=
  if c = 48 then (if b = 0 then some s else none)
  else if c = 49 then (if b = 1 then some s else none)
  else if c = 68 then some ⟨s.num, s.wid, 2 * s.rd + b, s.rs1, s.rs2⟩
  else if c = 83 then some ⟨s.num, s.wid, s.rd, 2 * s.rs1 + b, s.rs2⟩
  else if c = 84 then some ⟨s.num, s.wid, s.rd, s.rs1, 2 * s.rs2 + b⟩
  else some ⟨s.num ||| (b * 2 ^ (c.toNat - 97)), max s.wid (c.toNat - 96), s.rd, s.rs1, s.rs2⟩

def getS (h : Int) : List UInt8 → GS → Option GS
  | [], s => some s
  | c :: l, s => match gstep c (bn h l.length) s with
    | none => none
    | some s' => getS h l s'

def GS0 : GS := ⟨0, 0, 0, 0, 0⟩

def gsI (r : PR) (s : GS) : In5 :=
  ⟨r.op, fullP r.rd s.rd s.rd, fullP r.rs1 s.rs1 (fullP r.rd s.rd s.rd), fullP r.rs2 s.rs2 (fullP r.rd s.rd s.rd), if r.least < 0 then sgn s.num s.wid else wrap32 s.num⟩

def fitsI (r : PR) (i : In5) : Bool := fitsB r i.op i.rd i.rs1 i.rs2 i.imm

def rowGet (h : Int) (r : PR) : Option In5 := match getS h r.bits GS0 with
  | none => none
  | some s => if fitsI r (gsI r s) = true then some (gsI r s) else none

/-- The first row that reads a parcel. -/
def getP (h : Int) : List PR → Option (PR × In5)
  | [] => none
  | r :: l => match rowGet h r with
    | some i => some (r, i)
    | none => getP h l

theorem i64_or_nat (a b : Nat) (ha : a < 4294967296) (hb : b < 4294967296) : bits .or .i64 (a : Int) (b : Int) = ((a ||| b : Nat) : Int) := by
  have hx : a ||| b < 2 ^ 32 := Nat.or_lt_two_pow (by omega) (by omega)
  show IntKind.i64.wrap ((BitVec.ofInt 64 (a : Int) ||| BitVec.ofInt 64 (b : Int)).toNat : Int) = _
  rw [BitVec.toNat_or, ofInt_u64 a (by omega), ofInt_u64 b (by omega)]
  rw [IntKind.wrap_i64]
  omega

theorem or_two (a b : Nat) (hb : b ≤ 1) : (2 * a) ||| b = 2 * a + b := by
  have := Nat.two_pow_add_eq_or_of_lt (i := 1) (b := b) (by omega) a
  simpa using this.symm

theorem i64_or_bit (a b : Nat) (ha : a < 65536) (hb : b ≤ 1) : bits .or .i64 ((a : Int) * 2) (b : Int) = ((2 * a + b : Nat) : Int) := by
  have e := i64_or_nat (2 * a) b (by omega) (by omega)
  rw [or_two a b hb] at e
  rw [← e]
  congr 1
  omega

theorem or_lt18 (a b k : Nat) (ha : a < 262144) (hb : b ≤ 1) (hk : k ≤ 17) : a ||| (b * 2 ^ k) < 262144 := by
  have h1 : b * 2 ^ k < 2 ^ 18 := by
    have : 2 ^ k ≤ 2 ^ 17 := Nat.pow_le_pow_right (by omega) hk
    have h2 : b * 2 ^ k ≤ 1 * 2 ^ k := Nat.mul_le_mul_right _ hb
    omega
  exact Nat.or_lt_two_pow (n := 18) (by omega) h1

theorem u32_or_bit (a b k : Nat) (ha : a < 262144) (hb : b ≤ 1) (hk : k ≤ 17) : bits .or .u32 (a : Int) ((b : Int) * 2 ^ k) = ((a ||| (b * 2 ^ k) : Nat) : Int) := by
  have h1 : b * 2 ^ k < 262144 := by
    have : 2 ^ k ≤ 2 ^ 17 := Nat.pow_le_pow_right (by omega) hk
    have h2 : b * 2 ^ k ≤ 1 * 2 ^ k := Nat.mul_le_mul_right _ hb
    omega
  have e := u32_or_nat a (b * 2 ^ k) (by omega) (by omega)
  rw [← e]
  simp

theorem u32_or_bit' (a b k : Nat) (ha : a < 262144) (hb : b ≤ 1) (hk : k ≤ 17) : bits .or .u32 (a : Int) ((b : Int) * 2 ^ k % 4294967296) = ((a ||| (b * 2 ^ k) : Nat) : Int) := by
  have h1 : b * 2 ^ k < 262144 := by
    have : 2 ^ k ≤ 2 ^ 17 := Nat.pow_le_pow_right (by omega) hk
    have h2 : b * 2 ^ k ≤ 1 * 2 ^ k := Nat.mul_le_mul_right _ hb
    omega
  have e : (b : Int) * 2 ^ k % 4294967296 = (b : Int) * 2 ^ k := by
    have e2 : (b : Int) * 2 ^ k = ((b * 2 ^ k : Nat) : Int) := by simp
    rw [e2]; omega
  rw [e]
  exact u32_or_bit a b k ha hb hk

end Go.Proofs.Ytppnmaklggkogaa

/- Plain: or is a sum where no bit is in both. -/
namespace Go.Proofs.Ytppnmaklggkogaa
open Go.RowKit
set_option linter.unusedVariables false

/-- a has no bit outside M. -/
def Sub (a M : Nat) : Prop := a &&& M = a

theorem Sub.le {a M : Nat} (h : Sub a M) : a ≤ M := by unfold Sub at h; rw [← h]; exact Nat.and_le_right

theorem Sub.or {a b M N : Nat} (h : Sub a M) (k : Sub b N) : Sub (a ||| b) (M ||| N) := by
  unfold Sub at *
  apply Nat.eq_of_testBit_eq
  intro i
  have h1 := congrArg (fun x => Nat.testBit x i) h
  have h2 := congrArg (fun x => Nat.testBit x i) k
  simp only [Nat.testBit_and, Nat.testBit_or] at *
  cases ha : a.testBit i <;> cases hb : b.testBit i <;> cases hM : M.testBit i <;> cases hN : N.testBit i <;> simp_all

theorem or_add {a b M N : Nat} (h : Sub a M) (k : Sub b N) (hd : M &&& N = 0) (hM : M < 4294967296) (hN : N < 4294967296) : a ||| b = a + b := by
  have ha := h.le
  have hb := k.le
  have h0 : a &&& b = 0 := by
    apply Nat.eq_of_testBit_eq
    intro i
    have h1 := congrArg (fun x => Nat.testBit x i) h
    have h2 := congrArg (fun x => Nat.testBit x i) k
    have h3 := congrArg (fun x => Nat.testBit x i) hd
    simp only [Nat.testBit_and, Nat.zero_testBit] at *
    cases qa : a.testBit i <;> cases qb : b.testBit i <;> cases qM : M.testBit i <;> cases qN : N.testBit i <;> simp_all
  have h1 := BitVec.add_eq_or_of_and_eq_zero (BitVec.ofNat 64 a) (BitVec.ofNat 64 b) (by apply BitVec.eq_of_toNat_eq; simp only [BitVec.toNat_and, BitVec.toNat_ofNat]; rw [Nat.mod_eq_of_lt (by omega), Nat.mod_eq_of_lt (by omega), h0])
  have h2 := congrArg BitVec.toNat h1
  simp only [BitVec.toNat_add, BitVec.toNat_or, BitVec.toNat_ofNat] at h2
  rw [Nat.mod_eq_of_lt (by omega : a < 2 ^ 64), Nat.mod_eq_of_lt (by omega : b < 2 ^ 64), Nat.mod_eq_of_lt (by omega)] at h2
  exact h2.symm

end Go.Proofs.Ytppnmaklggkogaa

