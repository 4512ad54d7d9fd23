/- The walk of the law WideDecodes. -/
import Derived.Test.YtpaadeiopflfgaaAwaked
import Derived.Test.YtpaadeiopflfgaaPlaind
import Derived.Test.YtpaadeiopflfgaaMay
namespace Go.Proofs.Ytpaadeiopflfgaa
open Go.RowKit
set_option linter.unusedVariables false

theorem decI_eq (x : Int) : decI x = decJ x := by unfold decI decJ; rw [dec_eq]

set_option maxHeartbeats 1000000 in
theorem WideDecodes_walk (x : Int) (w0 : (Lit.int .u32 x).wf = true) (w : World) :
    Calls Try.prog 3 #[.int .u32 x] w fun e w' => e = .returned (.bool true) ∧ Nx w w' := by
  obtain ⟨hx, hx'⟩ := bounds_u32 w0
  clear w0
  have hx2 : x < 4294967296 := by omega
  obtain ⟨b1, b2⟩ := dec_imm_bd x
  have HM := Lib.hid (may_decJ x)
  have e0 := Lib.hid (decI_eq x)
  have e1 := Lib.hid (dec_eq x)
  have hd := fun w => decode_any x w hx hx2
  rw [e0.out, e1.out] at hd
  have HD := Lib.hid hd
  clear hd
  go_enter Try.func3, Try.ntmps3
  go_wp2_with fail
  refine (awaked_any _).mono ?_
  rintro e w1 ⟨rfl, hn1⟩
  go_wp2_with fail
  refine (HD.out _).mono ?_
  rintro e w2 ⟨rfl, hn2⟩
  go_wp2_with fail
  refine (rdecode_any _ _ hx hx2).mono ?_
  rintro e w3 ⟨rfl, hn3⟩
  obtain ⟨c0, c1, c2, c3, c4, hz1⟩ := five_in hn3
  have hb := Lib.hid (hn1.trans (hn2.trans (((Nx.refl w2).alloc _).trans hn3)))
  have q1 := fun w => eql_ins (decJ x).op (decJ x).rd (decJ x).rs1 (decJ x).rs2 (decJ x).imm (decJ x).op (decJ x).rd (decJ x).rs1 (decJ x).rs2 (decJ x).imm w
  have hs : (((decJ x).op == (decJ x).op) && ((decJ x).rd == (decJ x).rd) && ((decJ x).rs1 == (decJ x).rs1) && ((decJ x).rs2 == (decJ x).rs2) && ((decJ x).imm == (decJ x).imm)) = true := by simp
  simp only [hs] at q1
  clear hs
  cases h1 : ((decP x).op == 0)
  · have h2 := HM.out h1
    go_wp2_with (go_at_call 10; refine (rmay_any _ _ _ _ _ _ b1 b2).mono ?_; rintro e w' ⟨rfl, hn4⟩)
    go_ret
    exact ⟨rfl, (hb.out.alloc _).trans hn4⟩
  · go_wp2
    go_ret
    exact ⟨rfl, hb.out.alloc _⟩

end Go.Proofs.Ytpaadeiopflfgaa
