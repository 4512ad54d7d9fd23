/- Contracts of package typecaseref08: rows, places. -/
import Derived.Test.YtpaadeiopflfgaaDoorRefha
import Derived.Test.YtpaadeiopflfgaaDoorRefhb
import Derived.Test.YtpaadeiopflfgaaDoorRefhc
import Derived.Test.YtpaadeiopflfgaaDoorRefhd
namespace Go.Proofs.YtpaadeiopflfgaaDoor
open Go.RowKit
set_option linter.unusedVariables false
set_option linter.unusedSimpArgs false

theorem codes_any (op : Int) (w : World) (h : 1 ≤ op) (h' : op ≤ 48) : Calls Tryd.prog 36 #[.int .i64 op] w fun e w' => e = .returned (codeV op) ∧ Nx w w' := by
  rcases (by omega : op = 1 ∨ op = 2 ∨ op = 3 ∨ op = 4 ∨ op = 5 ∨ op = 6 ∨ op = 7 ∨ op = 8 ∨ op = 9 ∨ op = 10 ∨ op = 11 ∨ op = 12 ∨ op = 13 ∨ op = 14 ∨ op = 15 ∨ op = 16 ∨ op = 17 ∨ op = 18 ∨ op = 19 ∨ op = 20 ∨ op = 21 ∨ op = 22 ∨ op = 23 ∨ op = 24 ∨ op = 25 ∨ op = 26 ∨ op = 27 ∨ op = 28 ∨ op = 29 ∨ op = 30 ∨ op = 31 ∨ op = 32 ∨ op = 33 ∨ op = 34 ∨ op = 35 ∨ op = 36 ∨ op = 37 ∨ op = 38 ∨ op = 39 ∨ op = 40 ∨ op = 41 ∨ op = 42 ∨ op = 43 ∨ op = 44 ∨ op = 45 ∨ op = 46 ∨ op = 47 ∨ op = 48) with rfl | rfl | rfl | rfl | rfl | rfl | rfl | rfl | rfl | rfl | rfl | rfl | rfl | rfl | rfl | rfl | rfl | rfl | rfl | rfl | rfl | rfl | rfl | rfl | rfl | rfl | rfl | rfl | rfl | rfl | rfl | rfl | rfl | rfl | rfl | rfl | rfl | rfl | rfl | rfl | rfl | rfl | rfl | rfl | rfl | rfl | rfl | rfl
  · exact codes_1 w
  · exact codes_2 w
  · exact codes_3 w
  · exact codes_4 w
  · exact codes_5 w
  · exact codes_6 w
  · exact codes_7 w
  · exact codes_8 w
  · exact codes_9 w
  · exact codes_10 w
  · exact codes_11 w
  · exact codes_12 w
  · exact codes_13 w
  · exact codes_14 w
  · exact codes_15 w
  · exact codes_16 w
  · exact codes_17 w
  · exact codes_18 w
  · exact codes_19 w
  · exact codes_20 w
  · exact codes_21 w
  · exact codes_22 w
  · exact codes_23 w
  · exact codes_24 w
  · exact codes_25 w
  · exact codes_26 w
  · exact codes_27 w
  · exact codes_28 w
  · exact codes_29 w
  · exact codes_30 w
  · exact codes_31 w
  · exact codes_32 w
  · exact codes_33 w
  · exact codes_34 w
  · exact codes_35 w
  · exact codes_36 w
  · exact codes_37 w
  · exact codes_38 w
  · exact codes_39 w
  · exact codes_40 w
  · exact codes_41 w
  · exact codes_42 w
  · exact codes_43 w
  · exact codes_44 w
  · exact codes_45 w
  · exact codes_46 w
  · exact codes_47 w
  · exact codes_48 w

end Go.Proofs.YtpaadeiopflfgaaDoor
