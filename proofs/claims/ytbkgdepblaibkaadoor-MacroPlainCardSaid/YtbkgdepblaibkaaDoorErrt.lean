/- errors.Is at a code: by its contract (after the kit's worked example of errors.As, and its facts on errors.Is). -/
import Derived.Test.YtbkgdepblaibkaaDoorErrs
import Derived.LaidEql
import Derived.Stop.Asserts
import Derived.RowKitTokens
namespace Go.Proofs.YtbkgdepblaibkaaDoor
open Go.RowKit Go.Extern.Stop Go.Stop Go.Extern
set_option linter.unusedVariables false
set_option linter.unusedSimpArgs false

theorem is_methodComp (v : Value) (w : World) : (Go.method 294 135 v "Comparable").run Tryd.prog w = .ok (121, v) w := by kernel_rfl

theorem is_compC (w : World) : (callFunc 121 #[.agg #[.pointer (some ⟨1, 83, none⟩)]]).run Tryd.prog w = .ok (.value (.bool true)) w := by
  refine (run_callFunc_extern Tryd.func121 (e := ReflectliteType.method fun t => do Rtype.noPackHeld "Comparable" t; pure (.bool (← typeInfo t).comparable)) (by kernel_rfl) (by kernel_rfl) (by kernel_rfl) (by kernel_rfl) _ w).trans ?_
  kernel_rfl

theorem is_info : (Tryd.prog.info? 83).map (·.comparable) = some true := by kernel_rfl

theorem run_equalIn_ii {P : Program} (w : World) (d : Nat) {ti tn : TypeId} {ms : Array (String × TypeId)} {i : TypeInfo} {k : IntKind} (a b : Int)
    (hi : P.underlying ti = some (.interface ms)) (hn : P.underlying tn = some (.int k)) (hinfo : P.info? tn = some i) (hcomp : i.comparable = true) :
    (Op.equalIn (d + 2) ti (.iface tn (.int k a)) (.iface tn (.int k b))).run P w = .ok (a == b) w := by
  simp [Op.equalIn, run_underlying hi, run_underlying hn, typeInfo, hinfo, hcomp]

/-- Two errors of one integer type are one, if their numbers are (after the kit's note). -/
theorem run_eql_ii {P : Program} (w : World) {ti tn : TypeId} {ms : Array (String × TypeId)} {i : TypeInfo} {k : IntKind} (a b : Int)
    (hi : P.underlying ti = some (.interface ms)) (hn : P.underlying tn = some (.int k)) (hinfo : P.info? tn = some i) (hcomp : i.comparable = true) :
    (binOp .eql ti (.iface tn (.int k a)) (.iface tn (.int k b))).run P w = .ok (.bool (a == b)) w := by
  simp only [binOp]
  simp [Op.equal, Op.maxDepth, run_equalIn_ii w 9998 a b hi hn hinfo hcomp]

set_option maxHeartbeats 2000000 in
/-- errors.Is at a fault: its code is that one, or not. -/
theorem is_code (pb po : Nat) (c k : Int) (w : World) (h1 : w.cell? ⟨pb, po + 2, none⟩ = some (.iface 83 (.int .i64 k))) :
    Calls Tryd.prog 47 #[.iface 77 (.pointer (some ⟨pb, po, none⟩)), .iface 83 (.int .i64 c)] w fun e w' => e = .returned (.bool (k == c)) ∧ w = w' := by
  obtain ⟨i, hi, hcmp⟩ := Option.map_eq_some_iff.1 is_info
  have h8 := @run_callFunc_extern Tryd.prog 65 _ ReflectliteType.typeOf Tryd.func65 (by kernel_rfl) (by kernel_rfl) (by kernel_rfl) (by kernel_rfl)
  have tT := as_typeOfC
  have cT := is_compC
  have mR := is_methodComp
  have n1 := is_noIsC
  have n2 := is_noIsF
  have n3 := is_noUnC
  have n4 := is_noUnsC
  have uW := is_hasUnF
  have mU := is_methodUn
  have heq := run_eql_ii (P := Tryd.prog) w k c Tryd.underlying26 Tryd.underlying83 hi hcmp
  have hty := run_eql_iface_types (P := Tryd.prog) 77 83 (.pointer (some ⟨pb, po, none⟩)) (.int .i64 c) Tryd.underlying26 (by decide) w
  cases hb : (k == c)
  all_goals
    rw [hb] at heq
    clear hb
    go_enter Tryd.func47, Tryd.ntmps47
    go_wp2
    refine wp_loop_rounds 2 ?_
    rw [rounds_succ]
    go_wp2
    rw [rounds_succ]
    go_wp2
    go_ret
    exact ⟨rfl, rfl⟩

end Go.Proofs.YtbkgdepblaibkaaDoor
