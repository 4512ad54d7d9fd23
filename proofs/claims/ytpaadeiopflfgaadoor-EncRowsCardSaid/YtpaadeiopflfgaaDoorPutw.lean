/- Plain: the word with its registers. -/
import Derived.Test.YtpaadeiopflfgaaDoorPutp
namespace Go.Proofs.YtpaadeiopflfgaaDoor
open Go.RowKit

/-- The word with its registers. -/
def putM (op rd rs1 rs2 : Int) : Int := bits BinOp.or IntKind.u32 (bits BinOp.or IntKind.u32 (bits BinOp.or IntKind.u32 (rowM op) (rd * 128)) (rs1 * 32768)) (rs2 * 1048576)

end Go.Proofs.YtpaadeiopflfgaaDoor
