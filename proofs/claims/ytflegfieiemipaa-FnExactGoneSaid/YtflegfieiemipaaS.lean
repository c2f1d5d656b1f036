/- What the functions compute, as functions on data. -/
import Derived.Test.YtflegfieiemipaaE6
namespace Go.Proofs.Ytflegfieiemipaa
open Go.Proofs.Ytflegfieiemipaa.Eng
abbrev evK : List CK := [.int .i64, .int .i64, .int .i64, .int .i64, .int .i64, .int .i64, .bool]
def gone (d : D) : Bool := (d.fld 4).toI == 0 && (d.fld 0).toI != 2

end Go.Proofs.Ytflegfieiemipaa
