/- Parts of the proof, one behind the other. -/
import Derived.Deep.RegionLaw
import Derived.Test.YtndpgakjpokllaaGreatZsbj
/- typecaseref02: Cells. -/
namespace Go.Proofs.YtndpgakjpokllaaGreat
open Go.RowKit Go.Maps
set_option linter.unusedVariables false
set_option linter.unusedSimpArgs false

/-- append, as one step of a region that draws. -/
theorem step_append_cc {P : Program} (w : World) {ops : Array Oper} {o : Oper} {a : Act} {K : Act → World → Prop} {Q : Exit → Act → World → Prop} {E : Prop} (hgd : o.guard = none) (s x : Operand) (t : TypeId)
    (ho : o.op = .call { callee := .builtin .append, args := #[s, x], argTypes := #[t, t] })
    (base : Nat) (e : TypeId) (i : TypeInfo) (z : Value) (size bytes : Nat) (ht : P.underlying t = some (.slice e)) (hi : P.info? e = some i) (hz : i.zero = some z)
    (hsize : i.size = size) (hby : i.bytes = bytes) (hzs : z.cells.size = size) (hsz : 0 < size)
    (v : Value) (n : Nat) (xs : List Value) (hs : a.eval s = v) (hown : OwnC w base e size v n xs)
    (A : Option Addr) (m c : Nat) (news : List Value) (hx : a.eval x = .slice A m c) (hl : news.length = m * size) (hA : (A = none ∧ m = 0 ∧ c = 0) ∨ ∃ ad, A = some ad ∧ ∀ (j : Nat) (u : Value), news[j]? = some u → w.cell? (ad.add j) = some u) (h1 : ∀ u ∈ news, u.oneCell' = true)
    (h63 : n + m ≤ maxLen) (hbytes : (n + m) * bytes ≤ 140737488355328) (hbase : base ≤ w.heap.size)
    (h : ∀ v' w', OwnC w' base e size v' (n + m) (xs ++ news) → w.grownBy w' v.ownBlock → (v'.ownBlock = v.ownBlock ∨ v'.ownBlock = some w.heap.size) → K (a.put o.dst v') w') :
    if Region.wanted o (yielded ops a.tmps) = true then Oper.wp P o a w K Q else E := by
  have hw : Region.wanted o (yielded ops a.tmps) = true := by simp [Region.wanted, hgd]
  rw [if_pos hw]
  obtain ⟨v', w', hr, h2, h3, h4⟩ := run_append_c (P := P) w base t o.type e i z size bytes ht hi hz hsize hby hzs hsz v n xs hown A m c news hl hA h1 h63 hbytes hbase
  unfold Oper.wp execOp
  simp only [ho, resolve, invoke, builtin, Sem.run_bind, Sem.run_pure, Result.andThen_ok, List.map_toArray, List.map_cons, List.map_nil, hs, hx, hr]
  exact h v' w' h2 h3 h4

theorem cellC_drop : ∀ (L : List (Int × Int)) (k : Nat), (L.drop k).flatMap cellC = (L.flatMap cellC).drop (k * 2)
  | [], k => by simp
  | x :: L, 0 => by simp
  | x :: L, k + 1 => by
    rw [List.drop_succ_cons, cellC_drop L k, List.flatMap_cons]
    have e : (k + 1) * 2 = (cellC x).length + k * 2 := by simp [cellC]; omega
    rw [e, List.drop_length_add_append]

theorem cellC_take : ∀ (L : List (Int × Int)) (k : Nat), (L.take k).flatMap cellC = (L.flatMap cellC).take (k * 2)
  | [], k => by simp
  | x :: L, 0 => by simp
  | x :: L, k + 1 => by
    rw [List.take_succ_cons, List.flatMap_cons, cellC_take L k, List.flatMap_cons]
    have e : (k + 1) * 2 = (cellC x).length + k * 2 := by simp [cellC]; omega
    rw [e, List.take_length_add_append]

theorem drop_cells {w : World} {base gb n cap : Nat} {L : List (Int × Int)} (h : OwnC w base 43 2 (.slice (some ⟨gb, 0, none⟩) n cap) n (L.flatMap cellC)) (k : Nat) :
    ∀ (j : Nat) (u : Value), ((L.drop k).flatMap cellC)[j]? = some u → w.cell? ((⟨gb, k * 2, none⟩ : Addr).add j) = some u := fun j u hu => by
  rw [show (⟨gb, k * 2, none⟩ : Addr).add j = ⟨gb, k * 2 + j, none⟩ by unfold Addr.add; split <;> simp_all]
  refine h.cells rfl _ _ ?_
  rw [cellC_drop, List.getElem?_drop] at hu
  exact hu

theorem ones (L : List (Int × Int)) : ∀ u ∈ L.flatMap cellC, u.oneCell' = true := fun u hu => by
  obtain ⟨x, _, hx⟩ := List.mem_flatMap.1 hu
  simp [cellC] at hx
  rcases hx with rfl | rfl <;> rfl

set_option maxHeartbeats 4000000 in
set_option maxRecDepth 100000 in
theorem cells_ref (base qm n : Nat) (M : Int → Int) (hn : n ≤ 100000) (w : World) (h : RefAt w base qm n M) : Calls Tryz.prog 21 #[.pointer (some ⟨qm, 0, none⟩)] w (RetCells M w) := by
  obtain ⟨u, l, hq, hbq, ho, hne, hl, rfl, hnd, hcs⟩ := h
  obtain ⟨A, c, rfl, hc1, hc2, hcell⟩ := rowC ho
  have q0 := hq.cell 0 _ rfl
  have hqz := hq.lt
  have HQ0 := Lib.hid q0
  have HC := Lib.hid hcell
  have HND := Lib.hid hnd
  have HCS := Lib.hid hcs
  obtain ⟨i0, hi, hz0, hz1, hz2⟩ := info_parts infoCell
  have hmax : (100000 : Nat) ≤ maxLen := by decide
  have hll : l.length ≤ 100000 := by omega
  clear hcell ho hq hne hnd hcs q0 hl
  go_enter Tryz.func21, Tryz.ntmps21
  go_wp2_with fail
  go_loopw [3, 4, 5, 6] (fun ov iv _ _ wr => ∃ (i : Nat) (out : List (Int × Int)), i ≤ l.length ∧ iv = .int .i64 i ∧ OwnC wr w.heap.size 43 2 ov out.length (out.flatMap cellC) ∧ (ov = .slice none 0 0 ∨ 0 < out.length) ∧ out.length ≤ i ∧ SortedTo l i out ∧ Nx w wr) (fun _ iv _ _ _ => l.length - (RowKit.intOf iv).toNat)
  case atStart => exact ⟨0, [], Nat.zero_le _, rfl, OwnC.nil _ _ _ _, .inl rfl, Nat.le_refl _, SortedTo.start l, Nx.refl w⟩
  case round =>
    obtain ⟨i, out, hiL, rfl, hO, hnil, hoi, hS, hnx⟩ := hrel
    obtain ⟨wo, hwo⟩ : ∃ x, x = wr := ⟨_, rfl⟩
    subst hwo
    have HO := Lib.hid hO
    have HS := Lib.hid hS
    have HNX := Lib.hid hnx
    have q0 := HNX.out.cell HQ0.out
    clear hO hS hnx
    by_cases hil : i < l.length
    · have hilI : (i : Int) < l.length := by omega
      obtain ⟨⟨x, y⟩, hx⟩ : ∃ x, l[i]? = some x := ⟨_, List.getElem?_eq_getElem hil⟩
      obtain ⟨g, rfl, hb, c0, c1, _⟩ := HC.out i _ hx
      dsimp only at c0 c1
      have c0 := HNX.out.cell c0
      have c1 := HNX.out.cell c1
      have g0 := block_lt c0
      have HX := Lib.hid hx
      clear hx
      by_cases hy : y = 0
      · have hyb : (y == 0) = true := by rw [beq_iff_eq]; exact hy
        have HY := Lib.hid hy
        clear hy
        go_wp2_with fail
        go_roundw
        case rel => exact ⟨i + 1, out, hil, by first | rfl | go_num, HO.out, hnil, by omega, HS.out.skip HX.out HY.out, HNX.out⟩
        case measure => simp [RowKit.intOf]; omega
      · have hyb : (y == 0) = false := by rw [beq_eq_false_iff_ne]; exact hy
        have HY := Lib.hid hy
        obtain ⟨B, cb, rfl, hcb1, hcb2, hrow⟩ := rowC HO.out
        have HROW := Lib.hid hrow
        have HNIL := Lib.hid hnil
        clear hy hrow hnil
        go_wp2_with fail
        go_loopw [5] (fun kv wr => ∃ k : Nat, k ≤ out.length ∧ kv = .int .i64 k ∧ Nx wo wr ∧ Hid (∀ j z, out[j]? = some z → k ≤ j → x < z.1)) (fun kv _ => (RowKit.intOf kv).toNat)
        case atStart => exact ⟨out.length, Nat.le_refl _, rfl, Nx.refl _, Lib.hid fun j z hz hj => by
          have := (List.getElem?_eq_some_iff.1 hz).1
          omega⟩
        case round =>
          obtain ⟨k, hk, rfl, hnk, hgt⟩ := hrel
          have HNK := Lib.hid hnk
          clear hnk
          obtain ⟨wk, hwk⟩ : ∃ x, x = wr := ⟨_, rfl⟩
          subst hwk
          go_upto_region 7 with fail
          go_cut [45] from 27 to 45 (fun bv wx => ∃ bb : Bool, bv = .bool bb ∧ Nx wk wx ∧ Hid (bb = true → 0 < k ∧ ∃ z, out[k - 1]? = some z ∧ x < z.1) ∧ Hid (bb = false → k = 0 ∨ ∃ z, out[k - 1]? = some z ∧ z.1 ≤ x))
          case first =>
            have q0 := HNK.out.cell q0
            have c0 := HNK.out.cell c0
            have c1 := HNK.out.cell c1
            have g0 := block_lt c0
            by_cases hk0 : k = 0
            · subst hk0
              go_wp2_with fail
              go_quiet (fail)
              go_wp2_with fail
              go_meet
              case rel => exact ⟨false, rfl, (Nx.refl _).drewN _, Lib.hid fun h => (by cases h), Lib.hid fun _ => .inl (by trivial)⟩
            · obtain ⟨z, hz⟩ : ∃ z, out[k - 1]? = some z := ⟨_, List.getElem?_eq_getElem (by omega)⟩
              obtain ⟨z0, z1⟩ := z
              obtain ⟨gb, rfl, hbb, d0, d1, _⟩ := HROW.out (k - 1) _ hz
              dsimp only at d0 d1
              have d0 := HNK.out.cell d0
              have d1 := HNK.out.cell d1
              have e0 := block_lt d0
              have HZ := Lib.hid hz
              clear hz
              have hkI : (0 : Int) < k := by omega
              have hkN : 0 < k := by omega
              have hkD : decide (0 < k) = true := decide_eq_true (by omega)
              have o1 : (1 : Int) ≤ k := by omega
              obtain ⟨r, hr⟩ : ∃ r : Nat, r = k - 1 := ⟨_, rfl⟩
              rw [← hr] at d0 d1
              have zr : (0 : Int) ≤ (k : Int) - 1 := by omega
              have br : (k : Int) - 1 < (out.length : Int) := by omega
              have tr : ((k : Int) - 1 : Int).toNat = r := by omega
              have wr : IntKind.i64.wrap ((k : Int) - 1) = (k : Int) - 1 := wrapI (by omega) (by omega)
              have HR := Lib.hid hr
              clear hr
              go_wp2_with fail
              go_quiet (fail)
              go_wp2_with fail
              go_meet
              case rel =>
                refine ⟨_, rfl, (Nx.refl _).drewN _, Lib.hid fun h => ⟨by omega, _, HZ.out, ?_⟩, Lib.hid fun h => .inr ⟨_, HZ.out, ?_⟩⟩
                · simpa using h
                · simpa using h
          obtain ⟨bb, rfl, hnb, hbt, hbf⟩ := hcut
          have HNB := Lib.hid (HNK.out.trans hnb)
          clear hnb HNK
          cases bb
          · have hkk := hbf.out rfl
            have HSN := Lib.hid (HS.out.put HND.out HX.out HY.out hk hgt.out hkk)
            clear hbt hbf hgt hkk HS
            obtain ⟨w5, hw5⟩ : ∃ x, x = wc := ⟨_, rfl⟩
            subst hw5
            have q0 := HNB.out.cell q0
            have c0 := HNB.out.cell c0
            have c1 := HNB.out.cell c1
            have g0 := block_lt c0
            have qz := block_lt q0
            have HO5 := Lib.hid (HO.out.nx HNB.out)
            have HN5 := Lib.hid (HNX.out.trans HNB.out)
            have hw5 : w.heap.size ≤ w5.heap.size := HN5.out.size
            have hol : out.length ≤ 100000 := by omega
            clear HNX HNB HROW HO
            go_wp2_with fail
            go_cut [6] from 48 to 59 (fun rv wx => OwnC wx w5.heap.size 43 2 rv (1 + (out.length - k)) (((x, y) :: out.drop k).flatMap cellC) ∧ Nx w5 wx)
            case first =>
              have P4 := Lib.hid (show w5.heap.size ≤ (w5.drew.alloc (.cells #[.int .u32 x, .int .u8 y] 43)).heap.size by simp)
              by_cases ho0 : out.length = 0
              · obtain rfl : out = [] := List.eq_nil_of_length_eq_zero ho0
                obtain rfl : k = 0 := by simpa using hk
                have hnl : (Value.slice B ([] : List (Int × Int)).length cb) = .slice none 0 0 := by
                  rcases HNIL.out with h | h
                  · exact h
                  · exact absurd h (by simp)
                cases hnl
                go_region_law ((refine step_append_cc _ rfl _ _ 24 rfl w5.heap.size 43 i0 (.agg #[.int .u32 0, .int .u8 0]) 2 8 Tryz.underlying24 hi hz0 hz1 hz2 rfl (by decide) (.slice (some ⟨w5.heap.size, 0, none⟩) 1 1) 1 [.int .u32 x, .int .u8 y] (by rfl) (OwnC.new w5.drew w5.heap.size 43 2 #[.int .u32 x, .int .u8 y] 1 (Nat.le_refl _) (by decide) rfl) none 0 0 [] (by rfl) rfl (Or.inl ⟨rfl, rfl, rfl⟩) (fun u hu => by cases hu) (by omega) (by omega) P4.out ?_; intro v2 w2 hown2 hgr2 hbl2; have hnx2 : Nx w5 w2 := Below.grown ((Nx.refl w5).drew.alloc _) hgr2 P4.out (fun j hj => Nat.le_of_eq (Option.some.inj hj))))
                all_goals
                  go_wp2_with fail
                  go_meet
                  case rel => exact ⟨hown2, hnx2⟩
              · obtain ⟨B', cb', hbe, _, _, hrow⟩ := rowC HO5.out
                cases hbe
                obtain ⟨gb, rfl, _⟩ := hrow 0 _ (List.getElem?_eq_getElem (show 0 < out.length by omega))
                clear hrow
                have hkI : (0 : Int) ≤ k := by omega
                have hkL : (k : Int) ≤ out.length := by omega
                have hkC : (k : Int) ≤ cb := by omega
                have hlC : (out.length : Int) ≤ cb := by omega
                have HL := Lib.hid (cellC_len (out.drop k))
                have HG5 := Lib.hid HO5
                by_cases hcb : cb = k
                · subst hcb
                  have hdr := Lib.hid (show out.drop cb = [] from List.drop_of_length_le hcb1)
                  have hlz := Lib.hid (show out.length - cb = 0 by omega)
                  go_region_law ((refine step_append_cc _ rfl _ _ 24 rfl w5.heap.size 43 i0 (.agg #[.int .u32 0, .int .u8 0]) 2 8 Tryz.underlying24 hi hz0 hz1 hz2 rfl (by decide) (.slice (some ⟨w5.heap.size, 0, none⟩) 1 1) 1 [.int .u32 x, .int .u8 y] (by rfl) (OwnC.new w5.drew w5.heap.size 43 2 #[.int .u32 x, .int .u8 y] 1 (Nat.le_refl _) (by decide) rfl) (some ⟨gb, 0, none⟩) 0 0 [] (by rfl) rfl (Or.inr ⟨_, rfl, fun j u hu => by cases hu⟩) (fun u hu => by cases hu) (by omega) (by omega) P4.out ?_; intro v2 w2 hown2 hgr2 hbl2; have hnx2 : Nx w5 w2 := Below.grown ((Nx.refl w5).drew.alloc _) hgr2 P4.out (fun j hj => Nat.le_of_eq (Option.some.inj hj))))
                  all_goals
                    go_wp2_with fail
                    go_meet
                    case rel => exact ⟨by rw [hdr.out, hlz.out]; exact hown2, hnx2⟩
                · have P1 := Lib.hid (show 1 + (out.length - k) ≤ maxLen by omega)
                  have P2 := Lib.hid (show (1 + (out.length - k)) * 8 ≤ 140737488355328 by omega)
                  have P3 := Lib.hid (show ((out.drop k).flatMap cellC).length = (out.length - k) * 2 by rw [HL.out, List.length_drop])
                  go_region_law ((refine step_append_cc _ rfl _ _ 24 rfl w5.heap.size 43 i0 (.agg #[.int .u32 0, .int .u8 0]) 2 8 Tryz.underlying24 hi hz0 hz1 hz2 rfl (by decide) (.slice (some ⟨w5.heap.size, 0, none⟩) 1 1) 1 [.int .u32 x, .int .u8 y] (by rfl) (OwnC.new w5.drew w5.heap.size 43 2 #[.int .u32 x, .int .u8 y] 1 (Nat.le_refl _) (by decide) rfl) (some ⟨gb, k * 2, none⟩) (out.length - k) (cb - k) ((out.drop k).flatMap cellC) (by rfl) P3.out (Or.inr ⟨_, rfl, drop_cells (HO5.out.nx ((Nx.refl w5).drew.alloc _)) k⟩) (ones _) P1.out P2.out P4.out ?_; intro v2 w2 hown2 hgr2 hbl2; have hnx2 : Nx w5 w2 := Below.grown ((Nx.refl w5).drew.alloc _) hgr2 P4.out (fun j hj => Nat.le_of_eq (Option.some.inj hj))))
                  all_goals
                    go_wp2_with fail
                    go_meet
                    case rel => exact ⟨hown2, hnx2⟩
            obtain ⟨hrv, hn6⟩ := hcut
            obtain ⟨w6, hw6⟩ : ∃ x, x = wc := ⟨_, rfl⟩
            subst hw6
            obtain ⟨gr, cr, rfl, _, _, _⟩ := hrv.some (by omega)
            have HR6 := Lib.hid hrv
            have HO6 := Lib.hid (HO5.out.nx hn6)
            have HN6 := Lib.hid (HN5.out.trans hn6)
            have hw6 : w.heap.size ≤ w6.heap.size := HN6.out.size
            have HA1 := Lib.hid (OwnC.made w6 w.heap.size 43 2 #[] 0 hw6 (Nat.zero_le _) (by simp))
            clear hrv hn6 HN5
            by_cases ho0 : out.length = 0
            · obtain rfl : out = [] := List.eq_nil_of_length_eq_zero ho0
              obtain rfl : k = 0 := by simpa using hk
              have hnl : (Value.slice B ([] : List (Int × Int)).length cb) = .slice none 0 0 := by
                rcases HNIL.out with h | h
                · exact h
                · exact absurd h (by simp)
              cases hnl
              have HP1 := Lib.hid (show 0 + 0 ≤ maxLen by omega)
              have HP2 := Lib.hid (show (0 + 0) * 8 ≤ 140737488355328 by omega)
              go_wp2_with (at_builtin; refine wpList_append_c _ rfl _ _ 24 rfl w.heap.size 43 i0 (.agg #[.int .u32 0, .int .u8 0]) 2 8 Tryz.underlying24 hi hz0 hz1 hz2 rfl (by decide) _ _ _ rfl HA1.out none 0 0 (([] : List (Int × Int)).flatMap cellC) rfl (by rfl) (Or.inl ⟨rfl, rfl, rfl⟩) ?c2 ?c3 ?c4 ?c5 ?_)
              case c2 => exact ones _
              case c3 => exact HP1.out
              case c4 => exact HP2.out
              case c5 => simp; omega
              intro v3 w3 hown3 hgr3 hbl3
              have HN3 := Lib.hid (show Nx w6 w3 from Below.grown ((Nx.refl w6).alloc _) hgr3 (by simp) (fun j hj => Nat.le_of_eq (Option.some.inj hj)))
              have HO3 := Lib.hid hown3
              have HR3 := Lib.hid (HR6.out.nx HN3.out)
              clear hown3 hgr3 hbl3
              have HP3 := Lib.hid (show 0 + 0 + (1 + (([] : List (Int × Int)).length - 0)) ≤ maxLen by omega)
              have HP4 := Lib.hid (show (0 + 0 + (1 + (([] : List (Int × Int)).length - 0))) * 8 ≤ 140737488355328 by omega)
              have HP5 := Lib.hid (show ((((x, y) :: ([] : List (Int × Int)).drop 0)).flatMap cellC).length = (1 + (([] : List (Int × Int)).length - 0)) * 2 by rw [cellC_len, List.length_cons, List.length_drop]; omega)
              have HP6 := Lib.hid (fun (j : Nat) (u : Value) (hu : (((x, y) :: ([] : List (Int × Int)).drop 0).flatMap cellC)[j]? = some u) => (show w3.cell? ((⟨gr, 0, none⟩ : Addr).add j) = some u by
                rw [show (⟨gr, 0, none⟩ : Addr).add j = ⟨gr, j, none⟩ by unfold Addr.add; split <;> simp_all]
                exact HR3.out.cells rfl _ _ hu))
              go_wp2_with (at_builtin; refine wpList_append_c _ rfl _ _ 24 rfl w.heap.size 43 i0 (.agg #[.int .u32 0, .int .u8 0]) 2 8 Tryz.underlying24 hi hz0 hz1 hz2 rfl (by decide) _ _ _ rfl HO3.out (some ⟨gr, 0, none⟩) (1 + (([] : List (Int × Int)).length - 0)) cr (((x, y) :: ([] : List (Int × Int)).drop 0).flatMap cellC) rfl HP5.out (Or.inr ⟨_, rfl, HP6.out⟩) ?d2 ?d3 ?d4 ?d5 ?_)
              case d2 => exact ones _
              case d3 => have := HP3.out; omega
              case d4 => have := HP4.out; omega
              case d5 => have := HN3.out.size; omega
              intro v4 w4 hown4 hgr4 hbl4
              have HN4 := Lib.hid (show Nx w w4 from Below.grown (HN6.out.trans HN3.out) hgr4 (by have := HN3.out.size; omega) (fun j hj => (HO3.out.lt j hj).1))
              have HO4 := Lib.hid hown4
              clear hown4 hgr4 hbl4
              go_wp2_with fail
              go_roundw
              case rel =>
                refine ⟨i + 1, ([] : List (Int × Int)).take 0 ++ (x, y) :: ([] : List (Int × Int)).drop 0, hil, by first | rfl | go_num, ?_, .inr (by rw [List.length_append, List.length_cons]; omega), ?_, HSN.out, HN4.out⟩
                · have e1 : (([] : List (Int × Int)).take 0 ++ (x, y) :: ([] : List (Int × Int)).drop 0).length = 0 + 0 + (1 + (([] : List (Int × Int)).length - 0)) := by
                    rw [List.length_append, List.length_take, List.length_cons, List.length_drop]
                    omega
                  rw [e1, List.flatMap_append]
                  first | exact HO4.out | (rw [Nat.zero_add]; exact HO4.out) | (have h4 := HO4.out; simp only [List.nil_append, Nat.zero_add] at h4 ⊢; exact h4)
                · rw [List.length_append, List.length_take, List.length_cons, List.length_drop]
                  omega
              case measure => simp [RowKit.intOf]; omega
            · obtain ⟨B', cb', hbe, _, _, hrow⟩ := rowC HO6.out
              cases hbe
              obtain ⟨gb, rfl, _⟩ := hrow 0 _ (List.getElem?_eq_getElem (show 0 < out.length by omega))
              clear hrow
              have hkI : (0 : Int) ≤ k := by omega
              have hkL : (k : Int) ≤ out.length := by omega
              have hkC : (k : Int) ≤ cb := by omega
              have hlC : (out.length : Int) ≤ cb := by omega
              have HTK := Lib.hid (show ((out.take k).flatMap cellC).length = k * 2 by rw [cellC_len, List.length_take]; omega)
              have HTC := Lib.hid (fun (j : Nat) (u : Value) (hu : ((out.take k).flatMap cellC)[j]? = some u) => (show (w6.alloc (.cells #[] 43)).cell? ((⟨gb, 0, none⟩ : Addr).add j) = some u by
                rw [show (⟨gb, 0, none⟩ : Addr).add j = ⟨gb, j, none⟩ by unfold Addr.add; split <;> simp_all]
                refine (HO6.out.alloc _).cells rfl j u ?_
                rw [cellC_take, List.getElem?_take] at hu
                split at hu
                · exact hu
                · cases hu))
              have HP1 := Lib.hid (show 0 + k ≤ maxLen by omega)
              have HP2 := Lib.hid (show (0 + k) * 8 ≤ 140737488355328 by omega)
              go_wp2_with (at_builtin; refine wpList_append_c _ rfl _ _ 24 rfl w.heap.size 43 i0 (.agg #[.int .u32 0, .int .u8 0]) 2 8 Tryz.underlying24 hi hz0 hz1 hz2 rfl (by decide) _ _ _ rfl HA1.out (some ⟨gb, 0, none⟩) k cb ((out.take k).flatMap cellC) rfl HTK.out (Or.inr ⟨_, rfl, HTC.out⟩) ?c2 ?c3 ?c4 ?c5 ?_)
              case c2 => exact ones _
              case c3 => exact HP1.out
              case c4 => exact HP2.out
              case c5 => simp; omega
              intro v3 w3 hown3 hgr3 hbl3
              have HN3 := Lib.hid (show Nx w6 w3 from Below.grown ((Nx.refl w6).alloc _) hgr3 (by simp) (fun j hj => Nat.le_of_eq (Option.some.inj hj)))
              have HO3 := Lib.hid hown3
              have HR3 := Lib.hid (HR6.out.nx HN3.out)
              clear hown3 hgr3 hbl3
              have HP3 := Lib.hid (show 0 + k + (1 + (out.length - k)) ≤ maxLen by omega)
              have HP4 := Lib.hid (show (0 + k + (1 + (out.length - k))) * 8 ≤ 140737488355328 by omega)
              have HP5 := Lib.hid (show ((((x, y) :: out.drop k)).flatMap cellC).length = (1 + (out.length - k)) * 2 by rw [cellC_len, List.length_cons, List.length_drop]; omega)
              have HP6 := Lib.hid (fun (j : Nat) (u : Value) (hu : (((x, y) :: out.drop k).flatMap cellC)[j]? = some u) => (show w3.cell? ((⟨gr, 0, none⟩ : Addr).add j) = some u by
                rw [show (⟨gr, 0, none⟩ : Addr).add j = ⟨gr, j, none⟩ by unfold Addr.add; split <;> simp_all]
                exact HR3.out.cells rfl _ _ hu))
              go_wp2_with (at_builtin; refine wpList_append_c _ rfl _ _ 24 rfl w.heap.size 43 i0 (.agg #[.int .u32 0, .int .u8 0]) 2 8 Tryz.underlying24 hi hz0 hz1 hz2 rfl (by decide) _ _ _ rfl HO3.out (some ⟨gr, 0, none⟩) (1 + (out.length - k)) cr (((x, y) :: out.drop k).flatMap cellC) rfl HP5.out (Or.inr ⟨_, rfl, HP6.out⟩) ?d2 ?d3 ?d4 ?d5 ?_)
              case d2 => exact ones _
              case d3 => have := HP3.out; omega
              case d4 => have := HP4.out; omega
              case d5 => have := HN3.out.size; omega
              intro v4 w4 hown4 hgr4 hbl4
              have HN4 := Lib.hid (show Nx w w4 from Below.grown (HN6.out.trans HN3.out) hgr4 (by have := HN3.out.size; omega) (fun j hj => (HO3.out.lt j hj).1))
              have HO4 := Lib.hid hown4
              clear hown4 hgr4 hbl4
              go_wp2_with fail
              go_roundw
              case rel =>
                refine ⟨i + 1, out.take k ++ (x, y) :: out.drop k, hil, by first | rfl | go_num, ?_, .inr (by rw [List.length_append, List.length_cons]; omega), ?_, HSN.out, HN4.out⟩
                · have e1 : (out.take k ++ (x, y) :: out.drop k).length = 0 + k + (1 + (out.length - k)) := by
                    rw [List.length_append, List.length_take, List.length_cons, List.length_drop]
                    omega
                  rw [e1, List.flatMap_append]
                  first | exact HO4.out | (rw [Nat.zero_add]; exact HO4.out) | (have h4 := HO4.out; simp only [List.nil_append, Nat.zero_add] at h4 ⊢; exact h4)
                · rw [List.length_append, List.length_take, List.length_cons, List.length_drop]
                  omega
              case measure => simp [RowKit.intOf]; omega
          · obtain ⟨hk0, z, hz, hzx⟩ := hbt.out rfl
            have HZ := Lib.hid (show ∀ j z, out[j]? = some z → k - 1 ≤ j → x < z.1 from fun j z2 hz2 hj => by
              rcases Nat.lt_or_ge j k with h | h
              · obtain rfl : j = k - 1 := by omega
                rw [hz] at hz2
                injection hz2 with hz2
                rw [← hz2]
                exact hzx
              · exact hgt.out j z2 hz2 h)
            clear hbt hbf hz hzx
            go_wp2_with fail
            go_roundw
            case rel => exact ⟨k - 1, by omega, by congr 1; omega, HNB.out, HZ⟩
            case measure => simp [RowKit.intOf]; omega
    · obtain rfl : i = l.length := by omega
      go_wp2_with fail
      go_ret
      exact ⟨_, out, rfl, HS.out.cells HND.out HCS.out, by omega, cells_of_owns HO.out, HNX.out⟩

end Go.Proofs.YtndpgakjpokllaaGreat

/- What differs in two memories: plain. -/
namespace Go.Proofs.YtndpgakjpokllaaGreat
set_option linter.unusedVariables false
set_option linter.unusedSimpArgs false

/-- The addresses at which two lists of cells differ, as the law goes through them. -/
def dk : List (Int × Int) → List (Int × Int) → List Int
  | [], [] => []
  | x :: A, [] => x.1 :: dk A []
  | [], y :: B => y.1 :: dk [] B
  | x :: A, y :: B => if x.1 = y.1 then (if x.2 = y.2 then dk A B else x.1 :: dk A B) else if x.1 < y.1 then x.1 :: dk A (y :: B) else y.1 :: dk (x :: A) B
termination_by A B => A.length + B.length

/-- No byte is 0. -/
def NZ (L : List (Int × Int)) : Prop := ∀ x ∈ L, x.2 ≠ 0

theorem rise_cons {x : Int × Int} {L : List (Int × Int)} (h : Rise (x :: L)) : (∀ y ∈ L, x.1 < y.1) ∧ Rise L := List.pairwise_cons.1 h

theorem CellsOf.rise {M : Int → Int} {L : List (Int × Int)} (h : CellsOf M L) : Rise L ∧ NZ L ∧ ∀ a, atL L a = M a := by
  obtain ⟨K, ⟨h1, h2, h3⟩, rfl⟩ := h
  have hat : ∀ (K : List Int) (a : Int), atL (K.map fun a => (a, M a)) a = if a ∈ K then M a else 0 := by
    intro K a
    induction K with
    | nil => rfl
    | cons k K ih =>
      rw [List.map_cons, atL]
      by_cases hk : k = a
      · subst hk
        rw [if_pos rfl, if_pos List.mem_cons_self]
      · rw [if_neg hk, ih]
        by_cases hm : a ∈ K
        · rw [if_pos hm, if_pos (List.mem_cons_of_mem _ hm)]
        · rw [if_neg hm, if_neg (fun h => by rcases List.mem_cons.1 h with e | e; exact hk e.symm; exact hm e)]
  refine ⟨List.pairwise_map.2 h1, fun x hx => ?_, fun a => ?_⟩
  · obtain ⟨a, ha, rfl⟩ := List.mem_map.1 hx
    exact (h2 a).1 ha
  · rw [hat]
    split
    · rfl
    · rename_i hn
      by_cases h0 : M a = 0
      · exact h0.symm
      · exact absurd ((h2 a).2 h0) hn

/-- Cells are told by the memory. -/
theorem KeysOf.unique {M : Int → Int} {K K' : List Int} (h : KeysOf M K) (h' : KeysOf M K') : K = K' := by
  refine List.Perm.eq_of_pairwise (le := fun a b => a < b) (fun a b _ _ h1 h2 => by omega) h.1 h'.1 ?_
  refine (List.perm_ext_iff_of_nodup (h.1.imp fun hab e => by omega) (h'.1.imp fun hab e => by omega)).2 fun a => ?_
  rw [h.2.1 a, h'.2.1 a]

theorem CellsOf.unique {M : Int → Int} {L L' : List (Int × Int)} (h : CellsOf M L) (h' : CellsOf M L') : L = L' := by
  obtain ⟨K, hK, rfl⟩ := h
  obtain ⟨K', hK', rfl⟩ := h'
  rw [hK.unique hK']

end Go.Proofs.YtndpgakjpokllaaGreat

