/- Parts of the proof, one behind the other. -/
import Derived.Sort.LotD3
import Derived.Test.YtndpgakjpokllaaGreatZsaa
import Derived.Test.YtndpgakjpokllaaGreatZsbd
import Derived.Test.YtndpgakjpokllaaGreatZsbe
import Derived.Test.YtndpgakjpokllaaGreatZsbf
/- slices.Sort at uint32: nextPowerOfTwo. -/
namespace Go.Proofs.YtndpgakjpokllaaGreat
open Go.RowKit
set_option linter.unusedVariables false
set_option linter.unusedSimpArgs false

theorem bitsLen_any (x : Int) (w : World) (h0 : 0 ≤ x) (h1 : x ≤ 18446744073709551615) : Calls Tryz.prog 105 #[.int .u64 x] w fun e w' => e = .returned (.int .i64 (Lib.bitLen x.toNat)) ∧ w' = w :=
  Any.bits_Len Tryz.lays125 x w h0 h1

theorem bitLenAux_le : ∀ (f x : Nat), x ≠ 0 → 2 ^ (Lib.bitLenAux f x) ≤ 2 * x
  | 0, x, h => by simp [Lib.bitLenAux]; omega
  | f + 1, x, h => by
    unfold Lib.bitLenAux
    rw [if_neg h]
    by_cases h2 : x / 2 = 0
    · have : Lib.bitLenAux f 0 = 0 := by cases f <;> simp [Lib.bitLenAux]
      rw [h2, this]
      simp; omega
    · have := bitLenAux_le f (x / 2) h2
      rw [Nat.pow_add, Nat.pow_one]
      omega

theorem bitLen_le (x : Nat) (h : x ≠ 0) : 2 ^ (Lib.bitLen x) ≤ 2 * x := bitLenAux_le 64 x h

set_option maxHeartbeats 4000000 in
set_option maxRecDepth 100000 in
theorem nextPow_any (m : Nat) (h1 : 1 ≤ m) (hm : m ≤ 100000) (w : World) :
    Calls Tryz.prog 128 #[.int .i64 m] w fun e w' => e = .returned (.int .u64 ((2 ^ (Lib.bitLen m) : Nat) : Int)) ∧ w' = w := by
  have hw : IntKind.u64.wrap (m : Int) = m := by rw [IntKind.wrap_u64]; omega
  have C := Lib.hid (bitsLen_any m w (by omega) (by omega))
  have hl := bitLen_le m (by omega)
  obtain ⟨k, hk⟩ : ∃ k, Lib.bitLen m = k := ⟨_, rfl⟩
  have ht : ((m : Nat) : Int).toNat = m := by omega
  rw [ht, hk] at C
  rw [hk] at hl ⊢
  clear hk ht
  go_enter Tryz.func128, Tryz.ntmps128
  go_wp2_with fail
  refine C.out.mono ?_
  rintro e w1 ⟨rfl, rfl⟩
  go_wp2
  go_ret
  refine ⟨?_, rfl⟩
  have hk17 : k ≤ 17 := by
    rcases Nat.lt_or_ge 17 k with h | h
    · have := Nat.pow_le_pow_right (n := 2) (by decide) h
      omega
    · exact h
  have e1 : min k 64 = k := by omega
  have e2 : ((2 ^ k : Nat) : Int) = 2 ^ k := by simp
  rw [e1, e2, IntKind.wrap_u64]
  have h3 : (0 : Int) ≤ 2 ^ k := by rw [← e2]; exact Int.natCast_nonneg _
  have h4 : (2 : Int) ^ k ≤ 200000 := by rw [← e2]; omega
  generalize (2 : Int) ^ k = z at h3 h4 ⊢
  have h5 : z % 18446744073709551616 = z := by omega
  rw [h5]
  rfl

end Go.Proofs.YtndpgakjpokllaaGreat

/- slices.Sort at uint32: breakPatternsOrdered. -/
namespace Go.Proofs.YtndpgakjpokllaaGreat
open Go.RowKit
set_option linter.unusedVariables false
set_option linter.unusedSimpArgs false

theorem and_small (r : Int) (M : Nat) (h1 : 1 ≤ M) (h2 : M ≤ 200000) : 0 ≤ bits BinOp.and IntKind.u64 r ((M : Int) - 1) ∧ bits BinOp.and IntKind.u64 r ((M : Int) - 1) ≤ (M : Int) - 1 := by
  unfold bits
  simp only [BitVec.toNat_and, BitVec.toNat_ofInt]
  have e : (((M : Int) - 1) % ((2 ^ IntKind.u64.bits : Nat) : Int)).toNat = M - 1 := by
    show (((M : Int) - 1) % 18446744073709551616).toNat = M - 1
    omega
  rw [IntKind.wrap_u64]
  have h3 : (r % ((2 ^ IntKind.u64.bits : Nat) : Int)).toNat &&& (((M : Int) - 1) % ((2 ^ IntKind.u64.bits : Nat) : Int)).toNat ≤ M - 1 := by
    rw [e]
    exact Nat.and_le_right
  generalize ((r % ((2 ^ IntKind.u64.bits : Nat) : Int)).toNat &&& (((M : Int) - 1) % ((2 ^ IntKind.u64.bits : Nat) : Int)).toNat) = z at h3 ⊢
  omega

/-- What comes of breakPatternsOrdered: a part of the row in another order. -/
def RetBrk (g : Nat) (a b : Nat) (d : Array Int) (w : World) (e : Ending) (w' : World) : Prop := e = .returned (.tuple #[]) ∧ w.grownBy w' (some g) ∧ ∃ d', Sort.PermIn a b d d' ∧ Row w' g d'

set_option maxHeartbeats 8000000 in
set_option maxRecDepth 100000 in
theorem break_any (g n cap : Nat) (d : Array Int) (a b : Nat) (hd : d.size = n) (hn : n ≤ 100000) (hbn : b ≤ n) (hab : a + 12 < b) (w : World) (hR : Row w g d) :
    Calls Tryz.prog 117 #[.slice (some ⟨g, 0, none⟩) n cap, .int .i64 a, .int .i64 b] w (RetBrk g a b d w) := by
  have hgl : g < w.heap.size := hR.lt (by omega)
  have HR := Lib.hid hR
  have HD := Lib.hid hd
  clear hR hd
  obtain ⟨L, hL⟩ : ∃ x, x = b - a := ⟨_, rfl⟩
  have b5 : 8 ≤ L := by omega
  have b5I : (8 : Int) ≤ L := by omega
  have b6 : L ≤ 100000 := by omega
  have b7 : a ≤ 100000 := by omega
  have hM := bitLen_le L (by omega)
  have C := Lib.hid (fun w' => nextPow_any L (by omega) b6 w')
  obtain ⟨M, hMM⟩ : ∃ x, 2 ^ (Lib.bitLen L) = x := ⟨_, rfl⟩
  have hM1 : 1 ≤ M := by rw [← hMM]; exact Nat.one_le_two_pow
  rw [hMM] at hM
  rw [hMM] at C
  have HL := Lib.hid hL
  clear hL hMM
  go_enter Tryz.func117, Tryz.ntmps117
  go_upto_region 0 with fail
  go_cut [6] from 11 to 13 (fun v wx => v = .int .i64 (L : Nat) ∧ wx = w)
  case first =>
    go_wp2
    go_meet
    case rel => exact ⟨by have := HL.out; congr 1; omega, rfl⟩
  obtain ⟨rfl, hwc⟩ := hcut
  rw [hwc]
  clear hwc
  go_wp2_with fail
  refine (C.out _).mono ?_
  rintro e w1 ⟨rfl, rfl⟩
  go_wp2
  go_loopw [9, 10] (fun iv _ wr => ∃ (i : Nat) (dk : Array Int), iv = .int .i64 i ∧ a ≤ i ∧ i ≤ a + L / 4 * 2 + 2 ∧ Sort.PermIn a b d dk ∧ Row wr g dk ∧ w.grownBy wr (some g) ∧ BoxU wr w.heap.size) (fun iv _ _ => a + L / 4 * 2 + 2 - (Go.RowKit.intOf iv).toNat)
  case atStart =>
    refine ⟨a + L / 4 * 2 - 1, d, by congr 1; omega, by omega, by omega, Sort.permIn_refl d a b, HR.out.nx ((Nx.refl w).alloc _), World.grownBy_alloc _ _ _, ⟨_, Has.new _ _⟩⟩
  case round =>
    obtain ⟨i, dk, rfl, hi1, hi2, hP, hrow, hgb, hbx⟩ := hrel
    have HPK := Lib.hid hP
    have HRK := Lib.hid hrow
    have HGK := Lib.hid hgb
    have HBK := Lib.hid hbx
    clear hP hrow hgb hbx
    by_cases hlt : i ≤ a + L / 4 * 2 + 1
    · have hltI : (i : Int) ≤ (a : Int) + (L : Int) / 4 * 2 + 1 := by omega
      have C3 := Lib.hid (xor_any w.heap.size wr HBK.out)
      go_wp2_with fail
      refine C3.out.mono ?_
      rintro e w2 ⟨r, rfl, hg2, hb2⟩
      have HG2 := Lib.hid hg2
      have HB2 := Lib.hid hb2
      clear hg2 hb2
      have hbt := and_small r M hM1 (by omega)
      obtain ⟨o1, ho1⟩ : ∃ o1 : Nat, bits BinOp.and IntKind.u64 r ((M : Int) - 1) = (o1 : Int) := ⟨(bits BinOp.and IntKind.u64 r ((M : Int) - 1)).toNat, by omega⟩
      have ho2 : o1 < 2 * L := by omega
      clear hbt
      go_upto_if 43 with fail
      go_cut [10] from 36 to 46 (fun v wx => ∃ o : Nat, v = .int .i64 o ∧ o < L ∧ wx = w2)
      case first =>
        by_cases hoL : o1 < L
        · have hoI : (o1 : Int) < L := by omega
          go_wp2
          go_meet
          case rel => exact ⟨o1, rfl, hoL, rfl⟩
        · have hoI : (L : Int) ≤ o1 := by omega
          go_wp2
          go_meet
          case rel => exact ⟨o1 - L, by congr 1; omega, by omega, rfl⟩
      obtain ⟨o, rfl, hoL, hwc⟩ := hcut
      rw [hwc]
      clear hwc
      have hsz : w.heap.size ≠ g := by omega
      have hsg : g < wr.heap.size := HRK.out.lt (by rw [HPK.out.1, HD.out]; omega)
      have HR2 := Lib.hid (HRK.out.kept HG2.out (fun e => hsz (by injection e)) hsg)
      have HGA := Lib.hid (World.grownBy.andThen HGK.out HG2.out (fun j hj => by injection hj with hj; exact Or.inl (by omega)))
      have HDK := Lib.hid (show dk.size = n by rw [HPK.out.1]; exact HD.out)
      have hib : i < b := by have := HL.out; omega
      have hin : (i : Int) < n := by omega
      have hob : a + o < b := by have := HL.out; omega
      obtain ⟨p, hp⟩ : ∃ x : Nat, x = a + o := ⟨_, rfl⟩
      have zp : (0 : Int) ≤ (a : Int) + (o : Int) := by omega
      have bp : (a : Int) + (o : Int) < (n : Int) := by omega
      have tp : ((a : Int) + (o : Int) : Int).toNat = p := by omega
      have wp : IntKind.i64.wrap ((a : Int) + (o : Int)) = (a : Int) + (o : Int) := wrapI (by omega) (by omega)
      have np : p < n := by omega
      have Hp := Lib.hid hp
      clear hp
      have c0 := (HR2.out (i) (by rw [HDK.out]; omega)).1
      have f0 := (HR2.out (i) (by rw [HDK.out]; omega)).2
      obtain ⟨x0, hx0⟩ : ∃ x, dk[i]! = x := ⟨_, rfl⟩
      rw [hx0] at c0
      have HX0 := Lib.hid hx0
      clear hx0
      have c1 := (HR2.out (p) (by rw [HDK.out]; omega)).1
      have f1 := (HR2.out (p) (by rw [HDK.out]; omega)).2
      obtain ⟨x1, hx1⟩ : ∃ x, dk[p]! = x := ⟨_, rfl⟩
      rw [hx1] at c1
      have HX1 := Lib.hid hx1
      clear hx1
      have gl : g < w2.heap.size := block_lt c0
      obtain ⟨v9, hv9⟩ := cell?_setCell_some (p := ⟨g, i, none⟩) (x := .int .u32 x1) c1
      have hpb : a ≤ p ∧ p < b := by have := Hp.out; omega
      clear hltI ho1
      go_wp2
      go_region
      all_goals
        go_wp2
        go_roundw
        case rel =>
          obtain ⟨vb, hvb⟩ := HB2.out
          exact ⟨i + 1, Sort.swp dk i p, by first | rfl | go_num, by omega, by omega, Sort.permIn_trans d dk _ a b HPK.out (Sort.swp_permIn dk a b i p hi1 hib hpb.1 hpb.2 (by rw [HDK.out]; exact hbn)), by (rw [← HX0.out, ← HX1.out]; exact (HR2.out.drew.swp (by rw [HDK.out]; omega) (by rw [HDK.out]; omega))), gb_set (gb_set (gb_drew HGA.out) _ _) _ _, vb, ((hvb.nx ((Nx.refl _).drew)).far (p := ⟨g, i, none⟩) hsz _).far (p := ⟨g, p, none⟩) hsz _⟩
        case measure => simp [Go.RowKit.intOf]; omega
    · have hltI : (a : Int) + (L : Int) / 4 * 2 + 1 < i := by omega
      go_wp2
      go_end0
      exact ⟨rfl, HGK.out, dk, HPK.out, HRK.out⟩

end Go.Proofs.YtndpgakjpokllaaGreat

/- slices.Sort at uint32: pdqsortOrdered. -/
namespace Go.Proofs.YtndpgakjpokllaaGreat
open Go.RowKit
set_option linter.unusedVariables false
set_option linter.unusedSimpArgs false

/-- What comes of pdqsortOrdered. -/
def RetPdq (g : Nat) (a b : Nat) (d : Array Int) (w : World) (e : Ending) (w' : World) : Prop := e = .returned (.tuple #[]) ∧ w.grownBy w' (some g) ∧ ∃ d', Sort.PermIn a b d d' ∧ Sort.SortedIn Sort.ltInt a b d' ∧ Row w' g d'

/-- The loop's state: what stands between a2 and b2, once sorted, makes the whole sorted. -/
def PS (g n a b : Nat) (d : Array Int) (w wr : World) (a2 b2 : Nat) (dk : Array Int) : Prop :=
  dk.size = n ∧ Row wr g dk ∧ w.grownBy wr (some g) ∧ Sort.Below Sort.ltInt a2 b2 dk ∧ ∀ R, Sort.PermIn a2 b2 dk R → Sort.SortedIn Sort.ltInt a2 b2 R → Sort.PermIn a b d R ∧ Sort.SortedIn Sort.ltInt a b R

theorem gb_gb {a b c : World} {g : Nat} (h : a.grownBy b (some g)) (k : b.grownBy c (some g)) : a.grownBy c (some g) := h.andThen k fun j hj => Or.inr hj

theorem PS.perm {g n a b a2 b2 : Nat} {d dk d1 : Array Int} {w wr wx : World} (h : PS g n a b d w wr a2 b2 dk) (hb : b2 ≤ n) (hP : Sort.PermIn a2 b2 dk d1) (hR : Row wx g d1) (hg : wr.grownBy wx (some g)) : PS g n a b d w wx a2 b2 d1 := by
  obtain ⟨h1, h2, h3, h4, h5⟩ := h
  exact ⟨hP.1.trans h1, hR, gb_gb h3 hg, h4.perm (by rw [h1]; exact hb) hP, fun R hp hs => h5 R (Sort.permIn_trans _ _ _ a2 b2 hP hp) hs⟩

theorem PS.nx {g n a b a2 b2 : Nat} {d dk : Array Int} {w wr wx : World} (h : PS g n a b d w wr a2 b2 dk) (hn : Nx wr wx) : PS g n a b d w wx a2 b2 dk := by
  obtain ⟨h1, h2, h3, h4, h5⟩ := h
  exact ⟨h1, h2.nx hn, gb_nx h3 hn, h4, h5⟩

theorem PS.ret {g n a b a2 b2 : Nat} {d dk d1 : Array Int} {w wr wx : World} (h : PS g n a b d w wr a2 b2 dk) (hP : Sort.PermIn a2 b2 dk d1) (hS : Sort.SortedIn Sort.ltInt a2 b2 d1) (hR : Row wx g d1) (hg : wr.grownBy wx (some g)) :
    RetPdq g a b d w (.returned (.tuple #[])) wx := by
  obtain ⟨h1, h2, h3, h4, h5⟩ := h
  exact ⟨rfl, gb_gb h3 hg, d1, (h5 d1 hP hS).1, (h5 d1 hP hS).2, hR⟩

theorem PS.eq {g n a b a2 b2 p mid : Nat} {d dk d4 : Array Int} {w wr wx : World} (h : PS g n a b d w wr a2 b2 dk) (hb : b2 ≤ n) (ha : 0 < a2) (hp1 : a2 ≤ p) (hp2 : p < b2) (hl : Sort.ltInt dk[a2 - 1]! dk[p]! = false)
    (hx : Sort.partitionEqual Sort.ltInt dk a2 b2 p = (mid, d4)) (hR : Row wx g d4) (hg : wr.grownBy wx (some g)) : a2 < mid ∧ mid ≤ b2 ∧ PS g n a b d w wx mid b2 d4 := by
  obtain ⟨h1, h2, h3, h4, h5⟩ := h
  obtain ⟨m1, m2, m3, m4, m5⟩ := Sort.round_eq Sort.swo_ltInt (Sort.partitionEqual_holds Sort.ltInt) ha hp1 hp2 (by rw [h1]; exact hb) h4 hl hx
  exact ⟨m1, m2, m3.trans h1, hR, gb_gb h3 hg, m4, fun R hp hs => h5 R (m5 R hp hs).1 (m5 R hp hs).2⟩

/-- Behind a partition. -/
def PT (g n a b : Nat) (d : Array Int) (w wr : World) (a2 b2 mid : Nat) (d4 : Array Int) : Prop :=
  d4.size = n ∧ Row wr g d4 ∧ Sort.Below Sort.ltInt a2 mid d4 ∧ Sort.Below Sort.ltInt (mid + 1) b2 d4 ∧
  (∀ wx L, Sort.PermIn a2 mid d4 L → Sort.SortedIn Sort.ltInt a2 mid L → Row wx g L → wr.grownBy wx (some g) → PS g n a b d w wx (mid + 1) b2 L) ∧
  (∀ wx L, Sort.PermIn (mid + 1) b2 d4 L → Sort.SortedIn Sort.ltInt (mid + 1) b2 L → Row wx g L → wr.grownBy wx (some g) → PS g n a b d w wx a2 mid L)

theorem PS.part {g n a b a2 b2 p mid : Nat} {ap : Bool} {d dk d4 : Array Int} {w wr wx : World} (h : PS g n a b d w wr a2 b2 dk) (hb : b2 ≤ n) (hp1 : a2 ≤ p) (hp2 : p < b2)
    (hx : Sort.partition Sort.ltInt dk a2 b2 p = (mid, ap, d4)) (hR : Row wx g d4) (hg : wr.grownBy wx (some g)) : a2 ≤ mid ∧ mid < b2 ∧ PT g n a b d w wx a2 b2 mid d4 := by
  obtain ⟨h1, h2, h3, h4, h5⟩ := h
  obtain ⟨m1, m2, m3, m4, m5, m6, m7⟩ := Sort.round_part Sort.swo_ltInt (Sort.partition_holds Sort.ltInt) hp1 hp2 (by rw [h1]; exact hb) h4 hx
  refine ⟨m1, m2, m3.trans h1, hR, m4, m5, fun wy L hp hs hRL hgl => ?_, fun wy L hp hs hRL hgl => ?_⟩
  · exact ⟨hp.1.trans (m3.trans h1), hRL, gb_gb h3 (gb_gb hg hgl), (m6 L hp hs).1, fun R hp2 hs2 => h5 R ((m6 L hp hs).2 R hp2 hs2).1 ((m6 L hp hs).2 R hp2 hs2).2⟩
  · exact ⟨hp.1.trans (m3.trans h1), hRL, gb_gb h3 (gb_gb hg hgl), (m7 L hp hs).1, fun R hp2 hs2 => h5 R ((m7 L hp hs).2 R hp2 hs2).1 ((m7 L hp hs).2 R hp2 hs2).2⟩

/-- What is asked of pdqsortOrdered at less than so much. -/
def PdqBelow (g n cap m : Nat) : Prop := ∀ (d : Array Int) (a b limit : Nat) (w : World), b - a < m → d.size = n → b ≤ n → a ≤ b → limit ≤ 64 → Sort.Below Sort.ltInt a b d → Row w g d →
  Calls Tryz.prog 104 #[.slice (some ⟨g, 0, none⟩) n cap, .int .i64 a, .int .i64 b, .int .i64 limit] w (RetPdq g a b d w)

set_option maxHeartbeats 16000000 in
set_option maxRecDepth 100000 in
theorem pdq_step (g n cap : Nat) (d : Array Int) (a b limit : Nat) (hn : n ≤ 100000) (IH : PdqBelow g n cap (b - a)) (hd : d.size = n) (hbn : b ≤ n) (hab : a ≤ b) (hlim : limit ≤ 64) (hB : Sort.Below Sort.ltInt a b d) (w : World) (hR : Row w g d) :
    Calls Tryz.prog 104 #[.slice (some ⟨g, 0, none⟩) n cap, .int .i64 a, .int .i64 b, .int .i64 limit] w (RetPdq g a b d w) := by
  have HP0 := Lib.hid (show PS g n a b d w w a b d from ⟨hd, hR, World.grownBy.refl _ _, hB, fun R hp hs => ⟨hp, hs⟩⟩)
  have HIH := Lib.hid IH
  clear hR hd hB IH
  go_enter Tryz.func104, Tryz.ntmps104
  go_wp2_with fail
  go_loopw [1, 2, 3, 8, 9, 10, 11, 12, 13, 14, 15, 16, 17, 18] (fun av bv lv wbv wpv _ _ _ _ _ _ _ _ _ wr => ∃ (a2 b2 lim : Nat) (wb wp : Bool) (dk : Array Int), av = .int .i64 a2 ∧ bv = .int .i64 b2 ∧ lv = .int .i64 lim ∧ wbv = .bool wb ∧ wpv = .bool wp ∧ a ≤ a2 ∧ a2 ≤ b2 ∧ b2 ≤ b ∧ lim ≤ 64 ∧ PS g n a b d w wr a2 b2 dk) (fun av bv _ _ _ _ _ _ _ _ _ _ _ _ _ => (RowKit.intOf bv - RowKit.intOf av).toNat)
  case atStart => exact ⟨a, b, limit, true, true, d, rfl, rfl, rfl, rfl, rfl, Nat.le_refl _, hab, Nat.le_refl _, hlim, HP0.out⟩
  case round =>
    obtain ⟨a2, b2, lim, wb, wp, dk, rfl, rfl, rfl, rfl, rfl, ha2, hab2, hb2, hlim2, hps⟩ := hrel
    have HPK := Lib.hid hps
    clear hps
    obtain ⟨wr0, hwr0⟩ : ∃ x, x = wr := ⟨_, rfl⟩
    subst hwr0
    have b1 : b2 ≤ n := by omega
    have b3 : b2 ≤ 100000 := by omega
    have b4 : a2 ≤ 100000 := by omega
    have HRK := Lib.hid HPK.out.2.1
    have HDK := Lib.hid HPK.out.1
    by_cases h12 : b2 - a2 ≤ 12
    · have h12I : (b2 : Int) - a2 ≤ 12 := by omega
      have C := Lib.hid (insertion_any g n cap dk a2 b2 HDK.out hn b1 hab2 wr0 HRK.out)
      go_wp2_with fail
      refine C.out.mono ?_
      rintro e w1 ⟨rfl, hg1, hr1⟩
      have HG1 := Lib.hid hg1
      have HR1 := Lib.hid hr1
      clear hg1 hr1
      go_wp2_with fail
      refine bodyPost_ret (results_none rfl _ _ _) rfl ?_
      have T := Sort.insertionSort_holds (lt := Sort.ltInt) Sort.swo_ltInt dk a2 b2 hab2 (by rw [HDK.out]; exact b1)
      exact HPK.out.ret T.1 T.2 HR1.out HG1.out
    · have h12I : 12 < (b2 : Int) - a2 := by omega
      have h12B : (decide ((b2 : Int) - a2 ≤ 12)) = false := decide_eq_false (by omega)
      have h12N : a2 + 12 < b2 := by omega
      by_cases hl0 : lim = 0
      · subst hl0
        have C := Lib.hid (heap_any g n cap dk a2 b2 HDK.out hn b1 hab2 wr0 HRK.out)
        go_wp2_with fail
        refine C.out.mono ?_
        rintro e w1 ⟨rfl, hg1, hr1⟩
        have HG1 := Lib.hid hg1
        have HR1 := Lib.hid hr1
        clear hg1 hr1
        go_wp2_with fail
        refine bodyPost_ret (results_none rfl _ _ _) rfl ?_
        have T := Sort.heapSort_holds (lt := Sort.ltInt) Sort.swo_ltInt dk a2 b2 hab2 (by rw [HDK.out]; exact b1)
        exact HPK.out.ret T.1 T.2 HR1.out HG1.out
      · have hl0I : ((lim : Int) == 0) = false := by rw [beq_eq_false_iff_ne]; omega
        go_upto_if 35 with fail
        go_cut [3] from 34 to 41 (fun lv wx => ∃ (l2 : Nat) (d1 : Array Int), lv = .int .i64 l2 ∧ l2 ≤ 64 ∧ PS g n a b d w wx a2 b2 d1)
        case first =>
          cases wb
          · have C := Lib.hid (break_any g n cap dk a2 b2 HDK.out hn b1 h12N wr0 HRK.out)
            go_wp2_with fail
            refine C.out.mono ?_
            rintro e w1 ⟨rfl, hg1, d1, hp1, hr1⟩
            have HG1 := Lib.hid hg1
            have HR1 := Lib.hid hr1
            have HP1 := Lib.hid hp1
            clear hg1 hr1 hp1
            go_wp2_with fail
            go_meet
            case rel => exact ⟨lim - 1, d1, by congr 1; omega, by omega, HPK.out.perm b1 HP1.out HR1.out HG1.out⟩
          · go_wp2_with fail
            go_meet
            case rel => exact ⟨lim, dk, rfl, hlim2, HPK.out⟩
        obtain ⟨l2, d1, rfl, hl2, hps1⟩ := hcut
        have HPK1 := Lib.hid hps1
        clear hps1 HPK HRK HDK
        obtain ⟨w1, hw1⟩ : ∃ x, x = wc := ⟨_, rfl⟩
        subst hw1
        have HRK := Lib.hid HPK1.out.2.1
        have HDK := Lib.hid HPK1.out.1
        have C := Lib.hid (pivot_any g n cap d1 a2 b2 HDK.out hn b1 h12N w1 HRK.out)
        go_wp2_with fail
        refine C.out.mono ?_
        rintro e w2 ⟨p, hh, rfl, hp1, hp2, hh2, hn2⟩
        have HPK2 := Lib.hid (HPK1.out.nx hn2)
        clear hn2 C HRK HDK HPK1
        have HRK := Lib.hid HPK2.out.2.1
        have HDK := Lib.hid HPK2.out.1
        go_upto_if 50 with fail
        go_cut [11, 12] from 49 to 60 (fun pv hv wx => ∃ (q h2 : Nat) (d2 : Array Int), pv = .int .i64 q ∧ hv = .int .i64 h2 ∧ a2 ≤ q ∧ q < b2 ∧ PS g n a b d w wx a2 b2 d2)
        case first =>
          by_cases hh0 : hh = 2
          · subst hh0
            have C := Lib.hid (reverse_any g n cap d1 a2 b2 HDK.out hn b1 (by omega) w2 HRK.out)
            go_wp2_with fail
            refine C.out.mono ?_
            rintro e w3 ⟨rfl, hg3, hr3⟩
            have HG3 := Lib.hid hg3
            have HR3 := Lib.hid hr3
            clear hg3 hr3
            go_wp2_with fail
            go_meet
            case rel => exact ⟨b2 - 1 - (p - a2), 1, _, by congr 1; omega, rfl, by omega, by omega, HPK2.out.perm b1 (Sort.reverseRange_holds d1 a2 b2 hab2 (by rw [HDK.out]; exact b1)) HR3.out HG3.out⟩
          · have hh0I : ((hh : Int) == 2) = false := by rw [beq_eq_false_iff_ne]; omega
            go_wp2_with fail
            go_meet
            case rel => exact ⟨p, hh, d1, rfl, rfl, hp1, hp2, HPK2.out⟩
        obtain ⟨q, h2, d2, rfl, rfl, hq1, hq2, hps3⟩ := hcut
        have HPK3 := Lib.hid hps3
        clear hps3 HPK2 HRK HDK hp1 hp2 hh2
        obtain ⟨w3, hw3⟩ : ∃ x, x = wc := ⟨_, rfl⟩
        subst hw3
        go_upto_region 15 with fail
        go_cut [68] from 61 to 68 (fun bv wx => ∃ bb : Bool, bv = .bool bb ∧ wx = w3)
        case first =>
          cases wb
          · go_wp2_with fail
            go_meet
            case rel => exact ⟨_, rfl, rfl⟩
          · cases wp
            · go_wp2_with fail
              go_meet
              case rel => exact ⟨_, rfl, rfl⟩
            · go_wp2_with fail
              go_meet
              case rel => exact ⟨_, rfl, rfl⟩
        obtain ⟨bb, rfl, hwc⟩ := hcut
        rw [hwc]
        clear hwc
        have HRK := Lib.hid HPK3.out.2.1
        have HDK := Lib.hid HPK3.out.1
        go_upto_if 68 with fail
        go_cut [] from 69 to 72 (fun wx => ∃ d3, PS g n a b d w wx a2 b2 d3)
        case first =>
          cases bb
          · go_wp2_with fail
            go_meet
            case rel => exact ⟨d2, HPK3.out⟩
          · have C := Lib.hid (partial_any g n cap d2 a2 b2 HDK.out hn b1 (by omega) w3 HRK.out)
            go_wp2_with fail
            refine C.out.mono ?_
            rintro e w4 ⟨rfl, hg4, hr4⟩
            have HG4 := Lib.hid hg4
            have HR4 := Lib.hid hr4
            clear hg4 hr4
            have T0 := (Sort.partialInsertionSort_holds (lt := Sort.ltInt) Sort.swo_ltInt d2 a2 b2 (by omega) (by rw [HDK.out]; exact b1) HPK3.out.2.2.2.1)
            obtain ⟨r, hr⟩ : ∃ x, Sort.partialInsertionSort Sort.ltInt d2 a2 b2 = x := ⟨_, rfl⟩
            rw [hr] at T0 HR4
            rw [hr]
            clear hr C
            obtain ⟨d3, b3⟩ := r
            have TP := Lib.hid T0.1
            have TS := Lib.hid T0.2
            clear T0
            cases b3
            · go_wp2_with fail
              go_meet
              case rel => exact ⟨d3, HPK3.out.perm b1 TP.out HR4.out HG4.out⟩
            · go_wp2_with fail
              refine bodyPost_ret (results_none rfl _ _ _) rfl ?_
              exact HPK3.out.ret TP.out (TS.out (by trivial)) HR4.out HG4.out
        obtain ⟨d3, hps4⟩ := hcut
        have HPK4 := Lib.hid hps4
        clear hps4 HPK3 HRK HDK
        obtain ⟨w4, hw4⟩ : ∃ x, x = wc := ⟨_, rfl⟩
        subst hw4
        have HRT := Lib.hid HPK4.out.2.1
        have HDK := Lib.hid HPK4.out.1
        obtain ⟨bb, hbb⟩ : ∃ x, (decide (0 < a2) && !Sort.ltInt d3[a2 - 1]! d3[q]!) = x := ⟨_, rfl⟩
        have HBB := Lib.hid hbb
        clear hbb
        go_upto_region 17 with fail
        go_cut [87] from 73 to 87 (fun bv wx => bv = .bool bb ∧ Nx w4 wx)
        case first =>
          by_cases h1 : 0 < a2
          · have h1I : (0 : Int) < (a2 : Int) := by omega
            have h1J : ((a2 : Int) ≤ 0) = False := eq_false (by omega)
            have o1 : (1 : Int) ≤ a2 := by omega
            obtain ⟨r, hr⟩ : ∃ x : Nat, x = a2 - 1 := ⟨_, rfl⟩
            have zr : (0 : Int) ≤ (a2 : Int) - 1 := by omega
            have br : (a2 : Int) - 1 < (n : Int) := by omega
            have tr : ((a2 : Int) - 1 : Int).toNat = r := by omega
            have wr : IntKind.i64.wrap ((a2 : Int) - 1) = (a2 : Int) - 1 := wrapI (by omega) (by omega)
            have nr : r < n := by omega
            have nq : (q : Int) < n := by omega
            have Hr := Lib.hid hr
            clear hr
            have c0 := (HRT.out (q) (by rw [HDK.out]; omega)).1
            have f0 := (HRT.out (q) (by rw [HDK.out]; omega)).2
            obtain ⟨x0, hx0⟩ : ∃ x, d3[q]! = x := ⟨_, rfl⟩
            rw [hx0] at c0
            have HX0 := Lib.hid hx0
            clear hx0
            have c1 := (HRT.out (r) (by rw [HDK.out]; omega)).1
            have f1 := (HRT.out (r) (by rw [HDK.out]; omega)).2
            obtain ⟨x1, hx1⟩ : ∃ x, d3[r]! = x := ⟨_, rfl⟩
            rw [hx1] at c1
            have HX1 := Lib.hid hx1
            clear hx1
            have gl : g < w4.heap.size := block_lt c0
            have HCL := Lib.hid (show bb = (!Sort.ltInt x1 x0) by rw [← HBB.out, decide_eq_true h1, Bool.true_and, ← Hr.out, HX0.out, HX1.out])
            have HVV := Lib.hid (show Value.bool (!Sort.ltInt x1 x0) = Value.bool bb by rw [HCL.out])
            go_wp2_with fail
            (refine wp_region_nx 14 (by kernel_rfl) (by kernel_rfl) ?_; simp only [List.take_succ_cons, List.take_zero, List.drop_succ_cons, List.drop_zero]; (repeat (with_reducible refine wpQuiet_step (fun K hK => ?_); go_simp; first | (with_reducible refine hK _ ?_; clear hK K) | (with_reducible apply Exists.intro; with_reducible refine ⟨fun w' hw' => ?_, hK _ ?_⟩; (first | (with_reducible rfl) | (go_at_call 121; with_reducible exact (less_nx _ _ _).mono fun _ _ h => ⟨h.1, hw'.trans h.2⟩) | (obtain ⟨hc, hf⟩ := nx_cells hw'; go_simp; with_reducible rfl) | (obtain ⟨hc, hf⟩ := nx_cells hw'; go_simp; rfl)); clear hK K))); with_reducible refine wpQuiet_nil ?_; intro w1 hn1)
            go_wp2_with fail
            go_meet
            case rel => exact ⟨HVV.out, hn1⟩
          · have HCL := Lib.hid (show bb = false by rw [← HBB.out, decide_eq_false h1, Bool.false_and])
            have h1I : (((0 : Int) < (a2 : Int)) = False) := eq_false (by omega)
            have h1N : ((0 < a2) = False) := eq_false h1
            go_wp2_with fail
            (refine wp_region_nx 14 (by kernel_rfl) (by kernel_rfl) ?_; simp only [List.take_succ_cons, List.take_zero, List.drop_succ_cons, List.drop_zero]; (repeat (with_reducible refine wpQuiet_step (fun K hK => ?_); go_simp; first | (with_reducible refine hK _ ?_; clear hK K) | (with_reducible apply Exists.intro; with_reducible refine ⟨fun w' hw' => ?_, hK _ ?_⟩; (first | (with_reducible rfl) | (go_at_call 121; with_reducible exact (less_nx _ _ _).mono fun _ _ h => ⟨h.1, hw'.trans h.2⟩) | (obtain ⟨hc, hf⟩ := nx_cells hw'; go_simp; with_reducible rfl) | (obtain ⟨hc, hf⟩ := nx_cells hw'; go_simp; rfl)); clear hK K))); with_reducible refine wpQuiet_nil ?_; intro w1 hn1)
            go_wp2_with fail
            go_meet
            case rel => exact ⟨by rw [HCL.out], hn1⟩
        obtain ⟨rfl, hn5⟩ := hcut
        have HPK5 := Lib.hid (HPK4.out.nx hn5)
        clear hn5 HRT HDK HPK4
        obtain ⟨w5, hw5⟩ : ∃ x, x = wc := ⟨_, rfl⟩
        subst hw5
        have HRK := Lib.hid HPK5.out.2.1
        have HDK := Lib.hid HPK5.out.1
        cases bb
        · have C := Lib.hid (partition_any g n cap d3 a2 b2 q HDK.out hn b1 hq1 hq2 w5 HRK.out)
          obtain ⟨r, hr⟩ : ∃ x, Sort.partition Sort.ltInt d3 a2 b2 q = x := ⟨_, rfl⟩
          rw [hr] at C
          obtain ⟨mid, ap, d4⟩ := r
          have HX := Lib.hid hr
          clear hr
          go_wp2_with fail
          refine C.out.mono ?_
          rintro e w6 ⟨rfl, hg6, hr6⟩
          obtain ⟨m1, m2, hpt⟩ := HPK5.out.part b1 hq1 hq2 HX.out hr6 hg6
          have HPT := Lib.hid hpt
          have HG6 := Lib.hid hg6
          clear hpt C hg6 hr6 HX HBB
          have HD4 := Lib.hid HPT.out.1
          have HR4 := Lib.hid HPT.out.2.1
          by_cases hlr : mid - a2 < b2 - mid
          · have hlrI : (mid : Int) - a2 < (b2 : Int) - mid := by omega
            have C := Lib.hid (HIH.out d4 a2 mid l2 w6 (by omega) HD4.out (by omega) m1 hl2 HPT.out.2.2.1 HR4.out)
            go_wp2_with fail
            refine C.out.mono ?_
            rintro e w7 ⟨rfl, hg7, d5, hp7, hs7, hr7⟩
            have HPK7 := Lib.hid (HPT.out.2.2.2.2.1 w7 d5 hp7 hs7 hr7 hg7)
            clear hp7 hs7 hr7 hg7 C
            go_wp2_with fail
            go_roundw
            case rel => exact ⟨mid + 1, b2, l2, _, _, d5, by first | rfl | go_num, rfl, rfl, rfl, rfl, by omega, by omega, by omega, hl2, HPK7.out⟩
            case measure => simp [RowKit.intOf]; omega
          · have hlrI : (b2 : Int) - mid ≤ (mid : Int) - a2 := by omega
            have C : Hid (Calls Tryz.prog 104 #[.slice (some ⟨g, 0, none⟩) n cap, .int .i64 ((mid : Int) + 1), .int .i64 b2, .int .i64 l2] w6 (RetPdq g (mid + 1) b2 d4 w6)) := Lib.hid (HIH.out d4 (mid + 1) b2 l2 w6 (by omega) HD4.out b1 (by omega) hl2 HPT.out.2.2.2.1 HR4.out)
            go_wp2_with fail
            refine C.out.mono ?_
            rintro e w7 ⟨rfl, hg7, d5, hp7, hs7, hr7⟩
            have HPK7 := Lib.hid (HPT.out.2.2.2.2.2 w7 d5 hp7 hs7 hr7 hg7)
            clear hp7 hs7 hr7 hg7 C
            go_wp2_with fail
            go_roundw
            case rel => exact ⟨a2, mid, l2, _, _, d5, rfl, rfl, rfl, rfl, rfl, by omega, by omega, by omega, hl2, HPK7.out⟩
            case measure => simp [RowKit.intOf]; omega
        · have hbt := HBB.out
          simp only [Bool.and_eq_true, decide_eq_true_eq, Bool.not_eq_true'] at hbt
          obtain ⟨ha0, hlt⟩ := hbt
          have HLT := Lib.hid hlt
          clear hlt HBB
          have C := Lib.hid (partEq_any g n cap d3 a2 b2 q HDK.out hn b1 hq1 hq2 w5 HRK.out)
          obtain ⟨r, hr⟩ : ∃ x, Sort.partitionEqual Sort.ltInt d3 a2 b2 q = x := ⟨_, rfl⟩
          rw [hr] at C
          obtain ⟨mid, d4⟩ := r
          have HX := Lib.hid hr
          clear hr
          go_wp2_with fail
          refine C.out.mono ?_
          rintro e w6 ⟨rfl, hg6, hr6⟩
          obtain ⟨m1, m2, hpt⟩ := HPK5.out.eq b1 ha0 hq1 hq2 HLT.out HX.out hr6 hg6
          have HPT := Lib.hid hpt
          clear hpt C hg6 hr6 HX HLT
          go_wp2_with fail
          go_roundw
          case rel => exact ⟨mid, b2, l2, _, _, d4, rfl, rfl, rfl, rfl, rfl, by omega, by omega, by omega, hl2, HPT.out⟩
          case measure => simp [RowKit.intOf]; omega

theorem pdq_any (g n cap : Nat) (hn : n ≤ 100000) : ∀ m, PdqBelow g n cap m
  | 0 => fun d a b limit w h => by omega
  | m + 1 => fun d a b limit w h hd hbn hab hlim hB hR =>
    pdq_step g n cap d a b limit hn (fun d2 a2 b2 l2 w2 h2 => pdq_any g n cap hn m d2 a2 b2 l2 w2 (by omega)) hd hbn hab hlim hB w hR

end Go.Proofs.YtndpgakjpokllaaGreat

