/- Parts of the proof, one behind the other. -/
import Derived.RegionTactic
import Derived.Test.YtppnmaklggkogaaZad
import Derived.Test.YtppnmaklggkogaaZal
/- Contracts of package press: Get. -/
namespace Go.Proofs.Ytppnmaklggkogaa
open Go.RowKit
set_option linter.unusedVariables false
set_option linter.unusedSimpArgs false

def getV (h : Int) : Value := match getP h rowsL with
  | some (r, i) => .tuple #[.string (B r.name), insV i, .bool true]
  | none => .tuple #[.string (B []), insV none5, .bool false]

theorem range_has {w : World} {g : Nat} {T : TypeId} {fz : Nat × Nat} {l : List Value} (h : Has w g (.cells l.toArray T fz)) : w.rangeAt g 0 l := by
  intro j v hv
  rw [Nat.zero_add]
  exact h.cell j v (by rw [List.getElem?_toArray]; exact hv)

def gsLt (s : GS) (j : Nat) : Prop := s.rd < 2 ^ j ∧ s.rs1 < 2 ^ j ∧ s.rs2 < 2 ^ j

theorem gsLt_16 (s : GS) (j : Nat) (hj : j ≤ 16) (h : gsLt s j) : s.rd < 65536 ∧ s.rs1 < 65536 ∧ s.rs2 < 65536 := by
  have h2 : 2 ^ j ≤ 2 ^ 16 := Nat.pow_le_pow_right (by omega) hj
  obtain ⟨a, b, c⟩ := h
  omega

theorem gsLt_up (s : GS) (j : Nat) (h : gsLt s j) (n m : Nat) : gsLt ⟨n, m, s.rd, s.rs1, s.rs2⟩ (j + 1) := by
  have e : 2 ^ (j + 1) = 2 ^ j * 2 := Nat.pow_succ 2 j
  obtain ⟨a, b, c⟩ := h
  exact ⟨by show s.rd < _; omega, by show s.rs1 < _; omega, by show s.rs2 < _; omega⟩

theorem gsLt_rd (s : GS) (j b : Nat) (hb : b ≤ 1) (h : gsLt s j) : gsLt ⟨s.num, s.wid, 2 * s.rd + b, s.rs1, s.rs2⟩ (j + 1) := by
  have e : 2 ^ (j + 1) = 2 ^ j * 2 := Nat.pow_succ 2 j
  obtain ⟨x, y, z⟩ := h
  exact ⟨by show 2 * s.rd + b < _; omega, by show s.rs1 < _; omega, by show s.rs2 < _; omega⟩

theorem gsLt_rs1 (s : GS) (j b : Nat) (hb : b ≤ 1) (h : gsLt s j) : gsLt ⟨s.num, s.wid, s.rd, 2 * s.rs1 + b, s.rs2⟩ (j + 1) := by
  have e : 2 ^ (j + 1) = 2 ^ j * 2 := Nat.pow_succ 2 j
  obtain ⟨x, y, z⟩ := h
  exact ⟨by show s.rd < _; omega, by show 2 * s.rs1 + b < _; omega, by show s.rs2 < _; omega⟩

theorem gsLt_rs2 (s : GS) (j b : Nat) (hb : b ≤ 1) (h : gsLt s j) : gsLt ⟨s.num, s.wid, s.rd, s.rs1, 2 * s.rs2 + b⟩ (j + 1) := by
  have e : 2 ^ (j + 1) = 2 ^ j * 2 := Nat.pow_succ 2 j
  obtain ⟨x, y, z⟩ := h
  exact ⟨by show s.rd < _; omega, by show s.rs1 < _; omega, by show 2 * s.rs2 + b < _; omega⟩

def readO (op : Int) (s : GS) : Obj := .cells #[.int .i64 op, .int .i64 s.rd, .int .i64 s.rs1, .int .i64 s.rs2, .int .i32 0] 23

set_option maxHeartbeats 4000000 in
set_option maxRecDepth 100000 in
theorem pGet_any (h : Int) (w : World) (h0 : 0 ≤ h) (h1 : h < 65536) :
    Calls Try.prog 13 #[.int .u16 h] w fun e w' => e = .returned (getV h) ∧ Nx w w' := by
  have HV := Lib.hid (show getV h = match getP h rowsL with
    | some (r, i) => .tuple #[.string (B r.name), insV i, .bool true]
    | none => .tuple #[.string (B []), insV none5, .bool false] from rfl)
  generalize getV h = V at *
  go_enter Try.func13, Try.ntmps13
  go_wp2_with fail
  go_step3
  go_wp2_with fail
  go_step3
  go_wp2_with fail
  refine (prows_some _).mono ?_
  rintro e w1 ⟨g, rfl, hR, hn1⟩
  have HN1 := Lib.hid hn1
  have HR := Lib.hid hR
  clear hR hn1
  go_wp2
  go_loopg [15] 27 (fun gg i wr => ∃ k : Nat, k + gg = 27 ∧ i = .int .i64 k ∧ Nx w1 wr ∧ Hid (getP h (rowsL.drop k) = getP h rowsL))
  case atStart => exact ⟨0, by omega, rfl, Nx.refl _, Lib.hid rfl⟩
  case round =>
    obtain ⟨k, hk, rfl, hnx, HG⟩ := hrel
    have HNX := Lib.hid hnx
    clear hnx
    cases gk with
    | zero =>
      obtain rfl : k = 27 := by omega
      have e1 : getP h rowsL = none := by rw [← HG.out]; rfl
      have HE := Lib.hid (HV.out.trans (by rw [e1]))
      clear e1
      have ho := ((Has.new w _).nx HN1.out).nx HNX.out
      have d0 := ho.cell 0 _ rfl
      have d1 := ho.cell 1 _ rfl
      have d2 := ho.cell 2 _ rfl
      have d3 := ho.cell 3 _ rfl
      have d4 := ho.cell 4 _ rfl
      have f0 := ho.free 0
      have f1 := ho.free 1
      have f2 := ho.free 2
      have f3 := ho.free 3
      have f4 := ho.free 4
      have HN := Lib.hid (((Nx.refl w).alloc _).trans (HN1.out.trans HNX.out))
      clear ho
      go_wp2
      try rw [Exit.noGoto_ret]
      refine bodyPost_ret (v := .tuple #[.string (B []), .agg #[.int .i64 0, .int .i64 0, .int .i64 0, .int .i64 0, .int .i32 0], .bool false]) (by simp [results, Try.results13, go_sem, d0, d1, d2, d3, d4]) rfl ⟨by rw [HE.out]; rfl, ?_⟩
      repeat (with_reducible first | exact HN.out | refine Nx.setCell ?_ (Nat.le_refl _) _)
    | succ gg =>
      obtain ⟨wo, rfl⟩ : ∃ wo : World, wo = wr := ⟨_, rfl⟩
      obtain ⟨r, hr⟩ := row_at k (by omega)
      have HOK := Lib.hid (row_ok k r hr)
      have HL := Lib.hid ((HR.out.keep HNX.out) k r hr)
      have HRr := Lib.hid hr
      have hlt : k < 27 := by omega
      clear hr
      go_wp2_with (first | (refine wpList_load_mid (by rfl) 41 _ (by rfl) g (k * 10) (by rfl) (rowC r) _ HL.out Try.underlying41 rfl prow_size ?_) | (refine wpList_store_mid (by rfl) 41 _ _ (by rfl) wo.heap.size 0 (rowC r).toArray (by rfl) (by rfl) (prow_there wo) prow_size (prow_one r) ?_; rw [prow_set]))
      have HB := okBits_row r (List.mem_of_getElem? HRr.out)
      have HBL := Lib.hid (show r.bits.length = 16 ∧ ∀ c ∈ r.bits, okC c = true by
        unfold okBits at HB
        simp only [Bool.and_eq_true, beq_iff_eq, List.all_eq_true] at HB
        exact HB)
      clear HB
      have HGS := Lib.hid (show getP h (rowsL.drop k) = (match rowGet h r with | some i => some (r, i) | none => getP h (rowsL.drop (k + 1))) by
        obtain ⟨hk', e⟩ := List.getElem?_eq_some_iff.1 HRr.out
        rw [List.drop_eq_getElem_cons hk', e]; rfl)
      have HRG := Lib.hid (show rowGet h r = (match getS h r.bits GS0 with | none => none | some s => if fitsI r (gsI r s) = true then some (gsI r s) else none) from rfl)
      go_loopg [8, 9] 16 (fun g2 n8 n9 wy => ∃ (j : Nat) (s : GS), j + g2 = 16 ∧ n8 = .int .u32 s.num ∧ n9 = .int .i64 s.wid ∧ s.num < 262144 ∧ s.wid ≤ 18 ∧ Hid (gsLt s j) ∧
        Has wy wo.heap.size (.cells (rowC r).toArray 41) ∧ Has wy (wo.heap.size + 1) (readO r.op s) ∧ Has wy (wo.heap.size + 1 + 1) (.stringIter (B r.bits) j) ∧ Nx wo wy ∧ Hid (getS h (r.bits.drop j) s = getS h r.bits GS0))
      case atStart =>
        refine ⟨0, GS0, by omega, rfl, rfl, by decide, by decide, Lib.hid (by unfold gsLt; decide), ?_, ?_, ?_, ?_, Lib.hid rfl⟩
        · exact ((Has.new wo _).alloc _).alloc _
        · exact (Has.at_ (wo.alloc _) _ (by simp)).alloc _
        · exact Has.at_ ((wo.alloc _).alloc _) _ (by simp)
        · exact (((Nx.refl wo).alloc _).alloc _).alloc _
      case round =>
        obtain ⟨j, s, hj, rfl, rfl, hs1, hs2, hs3, q1, q2, q3, q4, HS⟩ := hrel
        obtain ⟨l1, l2, l3⟩ := gsLt_16 s j (by omega) hs3.out
        cases gk with
        | zero =>
          obtain rfl : j = 16 := by omega
          have hnx := iter_end Try.prog wr _ r.bits 16 q3 (by have := HBL.out.1; omega)
          have e0 : r.bits.drop 16 = [] := List.drop_of_length_le (by have := HBL.out.1; omega)
          have e1 : getS h r.bits GS0 = some s := by rw [← HS.out, e0]; rfl
          have HGI := Lib.hid (show rowGet h r = if fitsI r (gsI r s) = true then some (gsI r s) else none by rw [HRG.out, e1])
          have k0 := q1.cell 0 _ (show (rowC r).toArray[0]? = some (.string (B r.name)) from rfl)
          have k2 := q1.cell 2 _ (show (rowC r).toArray[2]? = some (.int .i64 r.rd) from rfl)
          have k3 := q1.cell 3 _ (show (rowC r).toArray[3]? = some (.int .i64 r.rs1) from rfl)
          have k4 := q1.cell 4 _ (show (rowC r).toArray[4]? = some (.int .i64 r.rs2) from rfl)
          have k5 := q1.cell 5 _ (show (rowC r).toArray[5]? = some (.int .i32 r.least) from rfl)
          unfold readO at q2
          have r0 := q2.cell 0 _ rfl
          have r1 := q2.cell 1 _ rfl
          have r2 := q2.cell 2 _ rfl
          have r3 := q2.cell 3 _ rfl
          have r4 := q2.cell 4 _ rfl
          have z1 := q2.free 1
          have z2 := q2.free 2
          have z3 := q2.free 3
          have z4 := q2.free 4
          have Q1 := Lib.hid q1
          have Q2 := Lib.hid q2
          have Q4 := Lib.hid q4
          clear q1 q2 q3 q4 e0 e1 HS hs3
          obtain ⟨o1, o2, o3, o4, o5, o6, o7, o8⟩ := HOK.out
          have HO := Lib.hid ((((Has.new w _).nx HN1.out).nx HNX.out).nx Q4.out)
          have hw1 : w.heap.size < wo.heap.size := by
            have h1 := HN1.out.size
            rw [World.size_alloc] at h1
            have h2 := HNX.out.size
            omega
          cases hle : decide (r.least < 0)
          · have HB1 : Hid (-2147483648 ≤ (s.num : Int) ∧ (s.num : Int) ≤ 2147483647) := Lib.hid (by omega)
            have HI := Lib.hid (show (gsI r s).imm = (s.num : Int) by unfold gsI; simp only []; rw [if_neg (by simpa using hle)]; unfold wrap32; omega)
            have HFB := Lib.hid (show fitsI r (gsI r s) = fitsB r r.op (fullP r.rd s.rd s.rd) (fullP r.rs1 s.rs1 (fullP r.rd s.rd s.rd)) (fullP r.rs2 s.rs2 (fullP r.rd s.rd s.rd)) (s.num : Int) by unfold fitsI; rw [HI.out]; rfl)
            have HII := Lib.hid (show insV (gsI r s) = .agg #[.int .i64 r.op, .int .i64 (fullP r.rd s.rd s.rd), .int .i64 (fullP r.rs1 s.rs1 (fullP r.rd s.rd s.rd)), .int .i64 (fullP r.rs2 s.rs2 (fullP r.rd s.rd s.rd)), .int .i32 (s.num : Int)] by unfold insV; rw [HI.out]; rfl)
            cases hf : fitsI r (gsI r s)
            · have e1 : rowGet h r = none := by rw [HGI.out, hf]; rfl
              have HE1 := Lib.hid e1
              rw [hf] at HFB
              clear e1 hf
              go_wp2_with (first | (go_at_call 36; refine (full_any _ _ _ _ (by omega) (by omega) (by omega) (by omega)).mono ?_; rintro e w' ⟨rfl, rfl⟩) | (refine wpList_load_mid (by rfl) 41 _ (by rfl) wo.heap.size 0 (by rfl) (rowC r) _ (range_has (by repeat (with_reducible first | exact Q1.out | refine Has.far ?_ (by show wo.heap.size ≠ wo.heap.size + 1; omega) _))) Try.underlying41 rfl prow_size ?_) | (go_at_call 21; refine (pfits_any r _ _ _ _ _ _ HOK.out HB1.out.1 HB1.out.2).mono ?_; rintro e w9 ⟨rfl, hn9⟩; have HN9 := Lib.hid hn9; clear hn9; rw [← HFB.out]))
              go_roundg gg
              case measure => omega
              case rel =>
                refine ⟨k + 1, by omega, by first | rfl | simp, HNX.out.trans (Nx.trans ?_ HN9.out), Lib.hid (by rw [← HG.out, HGS.out, HE1.out])⟩
                repeat (with_reducible first | exact Q4.out | refine Nx.setCell ?_ (Nat.le_succ _) _)
            · have e1 : rowGet h r = some (gsI r s) := by rw [HGI.out, hf]; rfl
              have e2 : getP h rowsL = some (r, gsI r s) := by rw [← HG.out, HGS.out, e1]
              have HE := Lib.hid (show V = .tuple #[.string (B r.name), insV (gsI r s), .bool true] by rw [HV.out, e2])
              rw [hf] at HFB
              clear e1 e2 hf
              go_wp2_with (first | (go_at_call 36; refine (full_any _ _ _ _ (by omega) (by omega) (by omega) (by omega)).mono ?_; rintro e w' ⟨rfl, rfl⟩) | (refine wpList_load_mid (by rfl) 41 _ (by rfl) wo.heap.size 0 (by rfl) (rowC r) _ (range_has (by repeat (with_reducible first | exact Q1.out | refine Has.far ?_ (by show wo.heap.size ≠ wo.heap.size + 1; omega) _))) Try.underlying41 rfl prow_size ?_))
              refine (pfits_any r _ _ _ _ _ _ HOK.out HB1.out.1 HB1.out.2).mono ?_
              rintro e w9 ⟨rfl, hn9⟩
              have hd9 := (((((Q2.out.put 4 _).put 1 _).put 2 _).put 3 _).nx hn9)
              have ho9 : Has w9 w.heap.size (.cells #[.int .i64 0, .int .i64 0, .int .i64 0, .int .i64 0, .int .i32 0] 23) := Has.nx (by repeat (with_reducible first | exact HO.out | refine Has.far ?_ (by show w.heap.size ≠ wo.heap.size + 1; omega) _)) hn9
              have kr : Has w9 wo.heap.size (.cells (rowC r).toArray 41) := Has.nx (by repeat (with_reducible first | exact Q1.out | refine Has.far ?_ (by show wo.heap.size ≠ wo.heap.size + 1; omega) _)) hn9
              have kk := kr.cell 0 _ (show (rowC r).toArray[0]? = some (.string (B r.name)) from rfl)
              clear kr
              rw [← HFB.out]
              have t0 := hd9.cell 0 _ rfl
              have t1 := hd9.cell 1 _ rfl
              have t2 := hd9.cell 2 _ rfl
              have t3 := hd9.cell 3 _ rfl
              have t4 := hd9.cell 4 _ rfl
              have x0 := ho9.cell 0 _ rfl
              have x1 := ho9.cell 1 _ rfl
              have x2 := ho9.cell 2 _ rfl
              have x3 := ho9.cell 3 _ rfl
              have x4 := ho9.cell 4 _ rfl
              have y0 := ho9.free 0
              have y1 := ho9.free 1
              have y2 := ho9.free 2
              have y3 := ho9.free 3
              have y4 := ho9.free 4
              have HN9 : Hid (Nx w w9) := Lib.hid (Nx.trans (by repeat (with_reducible first | exact ((Nx.refl w).alloc _).trans (HN1.out.trans (HNX.out.trans Q4.out)) | refine Nx.setCell ?_ (by show w.heap.size ≤ wo.heap.size + 1; omega) _)) hn9)
              clear hn9 hd9 ho9
              go_wp2
              go_region
              all_goals go_wp2
              all_goals
                try rw [Exit.noGoto_ret]
                refine bodyPost_ret (v := .tuple #[.string (B r.name), .agg #[.int .i64 r.op, .int .i64 (fullP r.rd s.rd s.rd), .int .i64 (fullP r.rs1 s.rs1 (fullP r.rd s.rd s.rd)), .int .i64 (fullP r.rs2 s.rs2 (fullP r.rd s.rd s.rd)), .int .i32 (s.num : Int)], .bool true]) (by simp [results, Try.results13, go_sem, x0, x1, x2, x3, x4]) rfl ⟨by rw [HE.out, HII.out], ?_⟩
                repeat (with_reducible first | exact HN9.out | refine Nx.drew ?_ | refine Nx.setCell ?_ (Nat.le_refl _) _)
          · have HB1 : Hid (-2147483648 ≤ sgn s.num s.wid ∧ sgn s.num s.wid ≤ 2147483647) := Lib.hid (sgn_bd _ _ (by omega))
            have HI := Lib.hid (show (gsI r s).imm = (sgn s.num s.wid) by unfold gsI; simp only []; rw [if_pos (by simpa using hle)])
            have HFB := Lib.hid (show fitsI r (gsI r s) = fitsB r r.op (fullP r.rd s.rd s.rd) (fullP r.rs1 s.rs1 (fullP r.rd s.rd s.rd)) (fullP r.rs2 s.rs2 (fullP r.rd s.rd s.rd)) (sgn s.num s.wid) by unfold fitsI; rw [HI.out]; rfl)
            have HII := Lib.hid (show insV (gsI r s) = .agg #[.int .i64 r.op, .int .i64 (fullP r.rd s.rd s.rd), .int .i64 (fullP r.rs1 s.rs1 (fullP r.rd s.rd s.rd)), .int .i64 (fullP r.rs2 s.rs2 (fullP r.rd s.rd s.rd)), .int .i32 (sgn s.num s.wid)] by unfold insV; rw [HI.out]; rfl)
            cases hf : fitsI r (gsI r s)
            · have e1 : rowGet h r = none := by rw [HGI.out, hf]; rfl
              have HE1 := Lib.hid e1
              rw [hf] at HFB
              clear e1 hf
              go_wp2_with (first | (go_at_call 35; refine (sign_in _ _ _ (by omega) (by omega) (by omega) (by omega)).mono ?_; rintro e w' ⟨rfl, rfl⟩) | (go_at_call 36; refine (full_any _ _ _ _ (by omega) (by omega) (by omega) (by omega)).mono ?_; rintro e w' ⟨rfl, rfl⟩) | (refine wpList_load_mid (by rfl) 41 _ (by rfl) wo.heap.size 0 (by rfl) (rowC r) _ (range_has (by repeat (with_reducible first | exact Q1.out | refine Has.far ?_ (by show wo.heap.size ≠ wo.heap.size + 1; omega) _))) Try.underlying41 rfl prow_size ?_) | (go_at_call 21; refine (pfits_any r _ _ _ _ _ _ HOK.out HB1.out.1 HB1.out.2).mono ?_; rintro e w9 ⟨rfl, hn9⟩; have HN9 := Lib.hid hn9; clear hn9; rw [← HFB.out]))
              go_roundg gg
              case measure => omega
              case rel =>
                refine ⟨k + 1, by omega, by first | rfl | simp, HNX.out.trans (Nx.trans ?_ HN9.out), Lib.hid (by rw [← HG.out, HGS.out, HE1.out])⟩
                repeat (with_reducible first | exact Q4.out | refine Nx.setCell ?_ (Nat.le_succ _) _)
            · have e1 : rowGet h r = some (gsI r s) := by rw [HGI.out, hf]; rfl
              have e2 : getP h rowsL = some (r, gsI r s) := by rw [← HG.out, HGS.out, e1]
              have HE := Lib.hid (show V = .tuple #[.string (B r.name), insV (gsI r s), .bool true] by rw [HV.out, e2])
              rw [hf] at HFB
              clear e1 e2 hf
              go_wp2_with (first | (go_at_call 35; refine (sign_in _ _ _ (by omega) (by omega) (by omega) (by omega)).mono ?_; rintro e w' ⟨rfl, rfl⟩) | (go_at_call 36; refine (full_any _ _ _ _ (by omega) (by omega) (by omega) (by omega)).mono ?_; rintro e w' ⟨rfl, rfl⟩) | (refine wpList_load_mid (by rfl) 41 _ (by rfl) wo.heap.size 0 (by rfl) (rowC r) _ (range_has (by repeat (with_reducible first | exact Q1.out | refine Has.far ?_ (by show wo.heap.size ≠ wo.heap.size + 1; omega) _))) Try.underlying41 rfl prow_size ?_))
              refine (pfits_any r _ _ _ _ _ _ HOK.out HB1.out.1 HB1.out.2).mono ?_
              rintro e w9 ⟨rfl, hn9⟩
              have hd9 := ((((((Q2.out.put 4 _).put 4 _).put 1 _).put 2 _).put 3 _).nx hn9)
              have ho9 : Has w9 w.heap.size (.cells #[.int .i64 0, .int .i64 0, .int .i64 0, .int .i64 0, .int .i32 0] 23) := Has.nx (by repeat (with_reducible first | exact HO.out | refine Has.far ?_ (by show w.heap.size ≠ wo.heap.size + 1; omega) _)) hn9
              have kr : Has w9 wo.heap.size (.cells (rowC r).toArray 41) := Has.nx (by repeat (with_reducible first | exact Q1.out | refine Has.far ?_ (by show wo.heap.size ≠ wo.heap.size + 1; omega) _)) hn9
              have kk := kr.cell 0 _ (show (rowC r).toArray[0]? = some (.string (B r.name)) from rfl)
              clear kr
              rw [← HFB.out]
              have t0 := hd9.cell 0 _ rfl
              have t1 := hd9.cell 1 _ rfl
              have t2 := hd9.cell 2 _ rfl
              have t3 := hd9.cell 3 _ rfl
              have t4 := hd9.cell 4 _ rfl
              have x0 := ho9.cell 0 _ rfl
              have x1 := ho9.cell 1 _ rfl
              have x2 := ho9.cell 2 _ rfl
              have x3 := ho9.cell 3 _ rfl
              have x4 := ho9.cell 4 _ rfl
              have y0 := ho9.free 0
              have y1 := ho9.free 1
              have y2 := ho9.free 2
              have y3 := ho9.free 3
              have y4 := ho9.free 4
              have HN9 : Hid (Nx w w9) := Lib.hid (Nx.trans (by repeat (with_reducible first | exact ((Nx.refl w).alloc _).trans (HN1.out.trans (HNX.out.trans Q4.out)) | refine Nx.setCell ?_ (by show w.heap.size ≤ wo.heap.size + 1; omega) _)) hn9)
              clear hn9 hd9 ho9
              go_wp2
              go_region
              all_goals go_wp2
              all_goals
                try rw [Exit.noGoto_ret]
                refine bodyPost_ret (v := .tuple #[.string (B r.name), .agg #[.int .i64 r.op, .int .i64 (fullP r.rd s.rd s.rd), .int .i64 (fullP r.rs1 s.rs1 (fullP r.rd s.rd s.rd)), .int .i64 (fullP r.rs2 s.rs2 (fullP r.rd s.rd s.rd)), .int .i32 (sgn s.num s.wid)], .bool true]) (by simp [results, Try.results13, go_sem, x0, x1, x2, x3, x4]) rfl ⟨by rw [HE.out, HII.out], ?_⟩
                repeat (with_reducible first | exact HN9.out | refine Nx.drew ?_ | refine Nx.setCell ?_ (Nat.le_refl _) _)
        | succ g2 =>
          have hj' : j < 16 := by omega
          obtain ⟨c, hc⟩ : ∃ c, r.bits[j]? = some c := ⟨_, List.getElem?_eq_getElem (by have := HBL.out.1; omega)⟩
          have HO := HBL.out.2 c (List.mem_of_getElem? hc)
          obtain ⟨w5, hnx, g3, gkp, gn, gs⟩ := iter_next Try.prog wr _ r.bits j c q3 hc (okC_lt c HO)
          have p1 := gkp _ _ (by omega) q1
          have p2 := gkp _ _ (by omega) q2
          have hn5 := gn wo q4 (by omega)
          have hd := drop_cons' r.bits j c hc
          have hl : (r.bits.drop (j + 1)).length = 15 - j := by have := HBL.out.1; rw [List.length_drop]; omega
          obtain ⟨b, hb⟩ : ∃ b : Nat, b = bn h (15 - j) := ⟨_, rfl⟩
          have hb1 : b ≤ 1 := by rw [hb]; exact bn_le _ _
          have HST := Lib.hid (show getS h (r.bits.drop j) s = (match gstep c b s with | none => none | some s' => getS h (r.bits.drop (j + 1)) s') by rw [hd, hb, ← hl]; rfl)
          have HF := Lib.hid (show ∀ w, Calls Try.prog 23 #[.int .u32 h, .int .i64 (15 - (j : Int)), .int .i64 1] w fun e w' => e = .returned (.int .u32 (b : Int)) ∧ w = w' from fun w => by
            have e1 : (15 - (j : Int)).toNat = 15 - j := by omega
            have := field_in h (15 - (j : Int)) 1 w h0 (by omega) (by omega) (by omega) (by omega) (by omega)
            rw [e1] at this
            rw [hb, ← bn_fld]
            exact this)
          have c9 := p1.cell 9 _ (show (rowC r).toArray[9]? = some (.string (B r.bits)) from rfl)
          unfold readO at p2
          have r1 := p2.cell 1 _ rfl
          have r2 := p2.cell 2 _ rfl
          have r3 := p2.cell 3 _ rfl
          have z1 := p2.free 1
          have z2 := p2.free 2
          have z3 := p2.free 3
          have P1 := Lib.hid p1
          have P2 := Lib.hid p2
          have G3 := Lib.hid g3
          have HN5 := Lib.hid hn5
          have HLL := HBL.out.1
          have HBL2 := Lib.hid HLL
          clear p1 p2 g3 hn5 q1 q2 q3 q4 gkp gn gs hd hl hb hc HLL
          unfold okC at HO
          simp only [Bool.or_eq_true, beq_iff_eq, Bool.and_eq_true, decide_eq_true_eq] at HO
          have hll : r.bits.length = 16 := HBL2.out
          rcases HO with ((((rfl | rfl) | rfl) | rfl) | rfl) | HO
          · rcases (by omega : b = 0 ∨ b = 1) with rfl | rfl
            · go_wp2_with (go_at_call 23; refine (HF.out _).mono ?_; rintro e w' ⟨rfl, rfl⟩)
              go_roundg g2
              case measure => omega
              case rel => exact ⟨j + 1, s, by omega, rfl, rfl, by omega, by omega, Lib.hid (gsLt_up s j hs3.out s.num s.wid), P1.out, P2.out, G3.out, HN5.out, Lib.hid (HST.out.symm.trans HS.out)⟩
            · have e1 : rowGet h r = none := by rw [HRG.out, ← HS.out, HST.out]; rfl
              have HE1 := Lib.hid e1
              clear e1
              go_wp2_with (go_at_call 23; refine (HF.out _).mono ?_; rintro e w' ⟨rfl, rfl⟩)
              go_roundg gg
              case measure => omega
              case rel => exact ⟨k + 1, by omega, by first | rfl | simp, HNX.out.trans HN5.out, Lib.hid (by rw [← HG.out, HGS.out, HE1.out])⟩
          · rcases (by omega : b = 0 ∨ b = 1) with rfl | rfl
            · have e1 : rowGet h r = none := by rw [HRG.out, ← HS.out, HST.out]; rfl
              have HE1 := Lib.hid e1
              clear e1
              go_wp2_with (go_at_call 23; refine (HF.out _).mono ?_; rintro e w' ⟨rfl, rfl⟩)
              go_roundg gg
              case measure => omega
              case rel => exact ⟨k + 1, by omega, by first | rfl | simp, HNX.out.trans HN5.out, Lib.hid (by rw [← HG.out, HGS.out, HE1.out])⟩
            · go_wp2_with (go_at_call 23; refine (HF.out _).mono ?_; rintro e w' ⟨rfl, rfl⟩)
              go_roundg g2
              case measure => omega
              case rel => exact ⟨j + 1, s, by omega, rfl, rfl, by omega, by omega, Lib.hid (gsLt_up s j hs3.out s.num s.wid), P1.out, P2.out, G3.out, HN5.out, Lib.hid (HST.out.symm.trans HS.out)⟩
          · have HOR := Lib.hid (i64_or_bit s.rd b l1 hb1)
            have P3 := Lib.hid (P2.out.put 1 (.int .i64 ((2 * s.rd + b : Nat) : Int)))
            go_wp2_with (go_at_call 23; refine (HF.out _).mono ?_; rintro e w' ⟨rfl, rfl⟩)
            go_roundg g2
            case measure => omega
            case rel => exact ⟨j + 1, ⟨s.num, s.wid, 2 * s.rd + b, s.rs1, s.rs2⟩, by omega, rfl, rfl, by omega, by omega, Lib.hid (gsLt_rd s j b hb1 hs3.out), P1.out.far (by show _ ≠ wo.heap.size + 1; omega) _, by rw [HOR.out]; exact P3.out, G3.out.far (by show _ ≠ wo.heap.size + 1; omega) _, HN5.out.setCell (by show _ ≤ wo.heap.size + 1; omega) _, Lib.hid (HST.out.symm.trans HS.out)⟩
          · have HOR := Lib.hid (i64_or_bit s.rs1 b l2 hb1)
            have P3 := Lib.hid (P2.out.put 2 (.int .i64 ((2 * s.rs1 + b : Nat) : Int)))
            go_wp2_with (go_at_call 23; refine (HF.out _).mono ?_; rintro e w' ⟨rfl, rfl⟩)
            go_roundg g2
            case measure => omega
            case rel => exact ⟨j + 1, ⟨s.num, s.wid, s.rd, 2 * s.rs1 + b, s.rs2⟩, by omega, rfl, rfl, by omega, by omega, Lib.hid (gsLt_rs1 s j b hb1 hs3.out), P1.out.far (by show _ ≠ wo.heap.size + 1; omega) _, by rw [HOR.out]; exact P3.out, G3.out.far (by show _ ≠ wo.heap.size + 1; omega) _, HN5.out.setCell (by show _ ≤ wo.heap.size + 1; omega) _, Lib.hid (HST.out.symm.trans HS.out)⟩
          · have HOR := Lib.hid (i64_or_bit s.rs2 b l3 hb1)
            have P3 := Lib.hid (P2.out.put 3 (.int .i64 ((2 * s.rs2 + b : Nat) : Int)))
            go_wp2_with (go_at_call 23; refine (HF.out _).mono ?_; rintro e w' ⟨rfl, rfl⟩)
            go_roundg g2
            case measure => omega
            case rel => exact ⟨j + 1, ⟨s.num, s.wid, s.rd, s.rs1, 2 * s.rs2 + b⟩, by omega, rfl, rfl, by omega, by omega, Lib.hid (gsLt_rs2 s j b hb1 hs3.out), P1.out.far (by show _ ≠ wo.heap.size + 1; omega) _, by rw [HOR.out]; exact P3.out, G3.out.far (by show _ ≠ wo.heap.size + 1; omega) _, HN5.out.setCell (by show _ ≤ wo.heap.size + 1; omega) _, Lib.hid (HST.out.symm.trans HS.out)⟩
          · have n1 : ((c.toNat : Int) == 48) = false := by simp; omega
            have n2 : ((c.toNat : Int) == 49) = false := by simp; omega
            have n3 : ((c.toNat : Int) == 68) = false := by simp; omega
            have n4 : ((c.toNat : Int) == 83) = false := by simp; omega
            have n5 : ((c.toNat : Int) == 84) = false := by simp; omega
            have m1 : c ≠ 48 := by rintro rfl; revert HO; decide
            have m2 : c ≠ 49 := by rintro rfl; revert HO; decide
            have m3 : c ≠ 68 := by rintro rfl; revert HO; decide
            have m4 : c ≠ 83 := by rintro rfl; revert HO; decide
            have m5 : c ≠ 84 := by rintro rfl; revert HO; decide
            obtain ⟨q, hq⟩ : ∃ q : Nat, c.toNat = q + 97 := ⟨c.toNat - 97, by omega⟩
            have hq17 : q ≤ 17 := by omega
            have HOR := Lib.hid (u32_or_bit' s.num b q hs1 hb1 hq17)
            have hnl := or_lt18 s.num b q hs1 hb1 hq17
            have HST2 := Lib.hid (show getS h (r.bits.drop j) s = getS h (r.bits.drop (j + 1)) ⟨s.num ||| (b * 2 ^ q), max s.wid (q + 1), s.rd, s.rs1, s.rs2⟩ by
              rw [HST.out]
              simp [gstep, m1, m2, m3, m4, m5, hq])
            have e1 : (c.toNat : Int) = (q : Int) + 97 := by omega
            rw [e1] at hnx n1 n2 n3 n4 n5
            clear HST m1 m2 m3 m4 m5 hq e1 HO
            go_wp2_with (go_at_call 23; refine (HF.out _).mono ?_; rintro e w' ⟨rfl, rfl⟩)
            go_roundg g2
            case measure => omega
            case rel => exact ⟨j + 1, ⟨s.num ||| (b * 2 ^ q), max s.wid (q + 1), s.rd, s.rs1, s.rs2⟩, by omega, by rw [← HOR.out], by go_num, by show s.num ||| (b * 2 ^ q) < 262144; exact hnl, by show max s.wid (q + 1) ≤ 18; omega, Lib.hid (gsLt_up s j hs3.out _ _), P1.out, P2.out, G3.out, HN5.out, Lib.hid (HST2.out.symm.trans HS.out)⟩

end Go.Proofs.Ytppnmaklggkogaa

