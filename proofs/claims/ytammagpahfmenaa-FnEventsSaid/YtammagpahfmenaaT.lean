/- The trees of the functions that this claim reaches. -/
import Derived.Test.YtammagpahfmenaaRows
import Derived.Test.YtammagpahfmenaaE6
import Derived.KernelRfl
namespace Go.Proofs.Ytammagpahfmenaa
open Go.Proofs.Ytammagpahfmenaa.Eng
def md : Modes := ⟨[], [(188, 0), (187, 0), (187, 2), (176, 0)], [190]⟩
/- laws.big -/
def tree_14 : T :=
(.know (.var 0)
(.ret [(.o2 .gt (.o1 .len (.var 0)) (.int 1048576))]))
theorem sig_14 : sigOf Try.prog md 14 [] = some ([.sc (.sl [(.int .u8)])], [.sc .bool], tree_14) := by kernel_rfl
/- impl.PieceAt$1 -/
def tree_154 : T :=
(.ret [(.o2 .eq (.o1 (.fld 0) (.var 0)) (.o1 (.fld 0) (.var 1)))])
theorem sig_154 : sigOf Try.prog md 154 [[(.int .i64)]] = some ([.st [(.int .i64), (.int .i64), (.int .i64), (.int .i64), (.int .i64), (.int .i64), (.int .i64), (.int .i64), (.int .i64), (.int .i64), (.int .i64), .bool, .bool]], [.sc .bool], tree_154) := by kernel_rfl
/- slices.IndexFunc[[]impl.Piece,impl.Piece] -/
def tree_153 : T :=
(.know (.var 0)
(.loop 0 [(.int 0)]
 (.br (.o2 .lt (.var 2) (.o1 .len (.var 0)))
  (.need [] (.o2 .le (.int 0) (.var 2))
  (.need [] (.o2 .lt (.var 2) (.o1 .len (.var 0)))
  (.call [] (.par 1) [.st [(.int .i64), (.int .i64), (.int .i64), (.int .i64), (.int .i64), (.int .i64), (.int .i64), (.int .i64), (.int .i64), (.int .i64), (.int .i64), .bool, .bool] (.o2 .cons (.o1 (.fld 0) (.o2 .idx (.var 0) (.var 2))) (.o2 .cons (.o1 (.fld 1) (.o2 .idx (.var 0) (.var 2))) (.o2 .cons (.o1 (.fld 2) (.o2 .idx (.var 0) (.var 2))) (.o2 .cons (.o1 (.fld 3) (.o2 .idx (.var 0) (.var 2))) (.o2 .cons (.o1 (.fld 4) (.o2 .idx (.var 0) (.var 2))) (.o2 .cons (.o1 (.fld 5) (.o2 .idx (.var 0) (.var 2))) (.o2 .cons (.o1 (.fld 6) (.o2 .idx (.var 0) (.var 2))) (.o2 .cons (.o1 (.fld 7) (.o2 .idx (.var 0) (.var 2))) (.o2 .cons (.o1 (.fld 8) (.o2 .idx (.var 0) (.var 2))) (.o2 .cons (.o1 (.fld 9) (.o2 .idx (.var 0) (.var 2))) (.o2 .cons (.o1 (.fld 10) (.o2 .idx (.var 0) (.var 2))) (.o2 .cons (.o1 (.fld 11) (.o2 .idx (.var 0) (.var 2))) (.o2 .cons (.o1 (.fld 12) (.o2 .idx (.var 0) (.var 2))) .nil)))))))))))))] [.sc .bool]
  (.br (.var 3)
   (.ret [(.var 2)])
   (.cont 0 [(.o2 (.add .i64) (.var 2) (.int 1))])))))
  (.ret [(.int (-1))]))))
theorem sig_153 : sigOf Try.prog md 153 [] = some ([.sc (.sl [(.int .i64), (.int .i64), (.int .i64), (.int .i64), (.int .i64), (.int .i64), (.int .i64), (.int .i64), (.int .i64), (.int .i64), (.int .i64), .bool, .bool]), .clo], [.sc (.int .i64)], tree_153) := by kernel_rfl
/- impl.PieceAt -/
def tree_64 : T :=
(.call [] (.fn 153) [.sc (.sl [(.int .i64), (.int .i64), (.int .i64), (.int .i64), (.int .i64), (.int .i64), (.int .i64), (.int .i64), (.int .i64), (.int .i64), (.int .i64), .bool, .bool]) (.o1 (.fld 0) (.var 0)), .clo 154 [([(.int .i64)], (.o2 .cons (.var 1) .nil))]] [.sc (.int .i64)]
(.ret [(.var 2)]))
theorem sig_64 : sigOf Try.prog md 64 [] = some ([.st [(.sl [(.int .i64), (.int .i64), (.int .i64), (.int .i64), (.int .i64), (.int .i64), (.int .i64), (.int .i64), (.int .i64), (.int .i64), (.int .i64), .bool, .bool]), (.sl [(.int .i64), (.int .i64), .bool]), (.int .i64), (.int .i64)], .sc (.int .i64)], [.sc (.int .i64)], tree_64) := by kernel_rfl
/- impl.from -/
def tree_123 : T :=
(.ret [(.o2 .band (.o2 .ge (.var 0) (.var 1)) (.o2 .le (.var 0) (.var 2)))])
theorem sig_123 : sigOf Try.prog md 123 [] = some ([.sc (.int .i64), .sc (.int .i64), .sc (.int .i64)], [.sc .bool], tree_123) := by kernel_rfl
/- impl.isSide -/
def tree_129 : T :=
(.know (.o1 (.fld 1) (.var 0))
(.call [] (.fn 123) [.sc (.int .i64) (.var 1), .sc (.int .i64) (.int 0), .sc (.int .i64) (.o2 (.sub .i64) (.o1 .len (.o1 (.fld 1) (.var 0))) (.int 1))] [.sc .bool]
(.ret [(.var 2)])))
theorem sig_129 : sigOf Try.prog md 129 [] = some ([.st [(.sl [(.int .i64), (.int .i64), (.int .i64), (.int .i64), (.int .i64), (.int .i64), (.int .i64), (.int .i64), (.int .i64), (.int .i64), (.int .i64), .bool, .bool]), (.sl [(.int .i64), (.int .i64), .bool]), (.int .i64), (.int .i64)], .sc (.int .i64)], [.sc .bool], tree_129) := by kernel_rfl
/- impl.Target -/
def tree_52 : T :=
(.br (.o2 .eq (.o1 (.fld 2) (.var 1)) (.int 0))
 (.call [] (.fn 129) [.st [(.sl [(.int .i64), (.int .i64), (.int .i64), (.int .i64), (.int .i64), (.int .i64), (.int .i64), (.int .i64), (.int .i64), (.int .i64), (.int .i64), .bool, .bool]), (.sl [(.int .i64), (.int .i64), .bool]), (.int .i64), (.int .i64)] (.o2 .cons (.o1 (.fld 0) (.var 0)) (.o2 .cons (.o1 (.fld 1) (.var 0)) (.o2 .cons (.o1 (.fld 2) (.var 0)) (.o2 .cons (.o1 (.fld 3) (.var 0)) .nil)))), .sc (.int .i64) (.o1 (.fld 3) (.var 1))] [.sc .bool]
 (.br (.var 2)
  (.ret [(.o1 (.fld 3) (.var 1))])
  (.ret [(.int (-1))])))
 (.call [] (.fn 64) [.st [(.sl [(.int .i64), (.int .i64), (.int .i64), (.int .i64), (.int .i64), (.int .i64), (.int .i64), (.int .i64), (.int .i64), (.int .i64), (.int .i64), .bool, .bool]), (.sl [(.int .i64), (.int .i64), .bool]), (.int .i64), (.int .i64)] (.o2 .cons (.o1 (.fld 0) (.var 0)) (.o2 .cons (.o1 (.fld 1) (.var 0)) (.o2 .cons (.o1 (.fld 2) (.var 0)) (.o2 .cons (.o1 (.fld 3) (.var 0)) .nil)))), .sc (.int .i64) (.o1 (.fld 2) (.var 1))] [.sc (.int .i64)]
 (.br (.o2 .lt (.var 2) (.int 0))
  (.ret [(.int (-1))])
  (.need [] (.o2 .le (.int 0) (.var 2))
  (.need [] (.o2 .lt (.var 2) (.o1 .len (.o1 (.fld 0) (.var 0))))
  (.ret [(.o1 (.fld 2) (.o2 .idx (.o1 (.fld 0) (.var 0)) (.var 2)))]))))))
theorem sig_52 : sigOf Try.prog md 52 [] = some ([.st [(.sl [(.int .i64), (.int .i64), (.int .i64), (.int .i64), (.int .i64), (.int .i64), (.int .i64), (.int .i64), (.int .i64), (.int .i64), (.int .i64), .bool, .bool]), (.sl [(.int .i64), (.int .i64), .bool]), (.int .i64), (.int .i64)], .st [(.int .i64), (.int .i64), (.int .i64), (.int .i64), (.int .i64), (.int .i64), .bool]], [.sc (.int .i64)], tree_52) := by kernel_rfl
/- spec.l1New -/
def tree_113 : T :=
(.know (.var 0)
(.loop 0 [(.o2 (.add .i64) (.int 139871) (.o1 .len (.var 0))), (.int 0)]
 (.know (.var 0)
 (.br (.o2 .band (.o2 .lt (.var 2) (.o1 .len (.var 0))) (.o2 .lt (.var 2) (.int 4000)))
  (.need [] (.o2 .le (.int 0) (.var 2))
  (.need [] (.o2 .lt (.var 2) (.o1 .len (.var 0)))
  (.cont 0 [(.o2 (.and .i64) (.o2 (.add .i64) (.o2 (.add .i64) (.o2 (.mul .i64) (.var 1) (.int 137)) (.o1 (.conv .i64) (.o1 (.fld 0) (.o2 .idx (.var 0) (.var 2))))) (.int 11)) (.int 1073741823)), (.o2 (.add .i64) (.var 2) (.int 1))])))
  (.ret [(.var 0)])))))
theorem sig_113 : sigOf Try.prog md 113 [] = some ([.sc (.sl [(.int .u8)])], [.cur], tree_113) := by kernel_rfl
/- spec.l1Byte -/
def tree_190 : T :=
(.need [] (.o2 .ge (.int 33) (.int 0))
(.need [] (.o2 .ge (.int 47) (.int 0))
(.know (.o1 (.fld 0) (.var 0))
(.br (.o2 .lt (.o1 (.fld 1) (.var 0)) (.o1 .len (.o1 (.fld 0) (.var 0))))
 (.need [] (.o2 .le (.int 0) (.o1 (.fld 1) (.var 0)))
 (.need [] (.o2 .lt (.o1 (.fld 1) (.var 0)) (.o1 .len (.o1 (.fld 0) (.var 0))))
 (.need [] (.o2 .le (.int 0) (.o2 (.add .i64) (.o1 (.fld 1) (.var 0)) (.int 1)))
 (.ret [(.o2 (.and .i64) (.o2 (.add .i64) (.o2 (.and .i64) (.o2 (.xor .i64) (.o2 (.shr .i64) (.o2 (.add .i64) (.o2 (.mul .i64) (.o1 (.fld 2) (.var 0)) (.int 6364136223846793005)) (.int 1442695040888963407)) (.int 33)) (.o2 (.shr .i64) (.o2 (.add .i64) (.o2 (.mul .i64) (.o1 (.fld 2) (.var 0)) (.int 6364136223846793005)) (.int 1442695040888963407)) (.int 47))) (.int 255)) (.o1 (.conv .i64) (.o1 (.fld 0) (.o2 .idx (.o1 (.fld 0) (.var 0)) (.o1 (.fld 1) (.var 0)))))) (.int 255))]))))
 (.need [] (.o2 .le (.int 0) (.o1 (.fld 1) (.var 0)))
 (.ret [(.o2 (.and .i64) (.o2 (.xor .i64) (.o2 (.shr .i64) (.o2 (.add .i64) (.o2 (.mul .i64) (.o1 (.fld 2) (.var 0)) (.int 6364136223846793005)) (.int 1442695040888963407)) (.int 33)) (.o2 (.shr .i64) (.o2 (.add .i64) (.o2 (.mul .i64) (.o1 (.fld 2) (.var 0)) (.int 6364136223846793005)) (.int 1442695040888963407)) (.int 47))) (.int 255))]))))))
theorem sig_190 : sigOf Try.prog md 190 [] = some ([.cur], [.sc (.int .i64)], tree_190) := by kernel_rfl
/- spec.l1Below -/
def tree_117 : T :=
(.br (.o2 .le (.var 1) (.int 0))
 (.ret [(.int 0)])
 (.br (.o2 .le (.var 1) (.int 256))
  (.call [] (.fn 190) [.cur (.o1 (.fld 0) (.var 0))] [.sc (.int .i64)]
  (.need [] (.o2 .ne (.var 1) (.int 0))
  (.ret [(.o2 .rem (.var 2) (.var 1))])))
  (.call [] (.fn 190) [.cur (.o1 (.fld 0) (.var 0))] [.sc (.int .i64)]
  (.call [] (.fn 190) [.cur (.o1 (.fld 0) (.var 0))] [.sc (.int .i64)]
  (.call [] (.fn 190) [.cur (.o1 (.fld 0) (.var 0))] [.sc (.int .i64)]
  (.need [] (.o2 .ne (.var 1) (.int 0))
  (.ret [(.o2 .rem (.o2 (.add .i64) (.o2 (.add .i64) (.o2 (.mul .i64) (.var 2) (.int 65536)) (.o2 (.mul .i64) (.var 3) (.int 256))) (.var 4)) (.var 1))])))))))
theorem sig_117 : sigOf Try.prog md 117 [] = some ([.cur, .sc (.int .i64)], [.sc (.int .i64)], tree_117) := by kernel_rfl
/- spec.l1Int -/
def tree_189 : T :=
(.know (.var 1)
(.call [] (.fn 117) [.cur (.o1 (.fld 0) (.var 0)), .sc (.int .i64) (.o1 .len (.var 1))] [.sc (.int .i64)]
(.need [] (.o2 .le (.int 0) (.var 2))
(.need [] (.o2 .lt (.var 2) (.o1 .len (.var 1)))
(.ret [(.o1 (.fld 0) (.o2 .idx (.var 1) (.var 2)))])))))
theorem sig_189 : sigOf Try.prog md 189 [] = some ([.cur, .sc (.sl [(.int .i64)])], [.sc (.int .i64)], tree_189) := by kernel_rfl
/- spec.StateNew -/
def tree_191 : T :=
(.br (.o2 .eq (.var 0) (.int 3))
 (.need [] (.o2 (.fits 24) (.o1 .len (.o2 .cons (.o2 .cons (.int 20) (.o2 .cons (.int 0) (.o2 .cons (.bool false) .nil))) (.o2 .cons (.o2 .cons (.int 20) (.o2 .cons (.int 0) (.o2 .cons (.bool false) .nil))) .nil))) (.o1 .len (.o2 .cons (.o2 .cons (.int 20) (.o2 .cons (.int 0) (.o2 .cons (.bool false) .nil))) .nil)))
 (.ret [(.o2 .cons .nil (.o2 .cons (.o2 .app (.o2 .cons (.o2 .cons (.int 20) (.o2 .cons (.int 0) (.o2 .cons (.bool false) .nil))) (.o2 .cons (.o2 .cons (.int 20) (.o2 .cons (.int 0) (.o2 .cons (.bool false) .nil))) .nil)) (.o2 .cons (.o2 .cons (.int 20) (.o2 .cons (.int 0) (.o2 .cons (.bool false) .nil))) .nil)) (.o2 .cons (.int 0) (.o2 .cons (.int 0) .nil))))]))
 (.ret [(.o2 .cons .nil (.o2 .cons (.o2 .cons (.o2 .cons (.int 20) (.o2 .cons (.int 0) (.o2 .cons (.bool false) .nil))) (.o2 .cons (.o2 .cons (.int 20) (.o2 .cons (.int 0) (.o2 .cons (.bool false) .nil))) .nil)) (.o2 .cons (.int 0) (.o2 .cons (.int 0) .nil))))]))
theorem sig_191 : sigOf Try.prog md 191 [] = some ([.sc (.int .i64)], [.st [(.sl [(.int .i64), (.int .i64), (.int .i64), (.int .i64), (.int .i64), (.int .i64), (.int .i64), (.int .i64), (.int .i64), (.int .i64), (.int .i64), .bool, .bool]), (.sl [(.int .i64), (.int .i64), .bool]), (.int .i64), (.int .i64)]], tree_191) := by kernel_rfl
/- spec.l1Once -/
def tree_115 : T :=
(.call [] (.fn 117) [.cur (.o1 (.fld 0) (.var 0)), .sc (.int .i64) (.var 1)] [.sc (.int .i64)]
(.ret [(.o2 .eq (.var 2) (.int 0))]))
theorem sig_115 : sigOf Try.prog md 115 [] = some ([.cur, .sc (.int .i64)], [.sc .bool], tree_115) := by kernel_rfl
/- spec.l4Draw -/
def tree_192 : T :=
(.call [] (.fn 117) [.cur (.o1 (.fld 0) (.var 0)), .sc (.int .i64) (.int 2)] [.sc (.int .i64)]
(.call [] (.fn 189) [.cur (.o1 (.fld 0) (.var 0)), .sc (.sl [(.int .i64)]) (.o2 .cons (.o2 .cons (.int 2) .nil) (.o2 .cons (.o2 .cons (.int 2) .nil) (.o2 .cons (.o2 .cons (.int 2) .nil) (.o2 .cons (.o2 .cons (.int 1) .nil) (.o2 .cons (.o2 .cons (.int 3) .nil) .nil)))))] [.sc (.int .i64)]
(.call [] (.fn 117) [.cur (.o1 (.fld 0) (.var 0)), .sc (.int .i64) (.int 3)] [.sc (.int .i64)]
(.call [] (.fn 117) [.cur (.o1 (.fld 0) (.var 0)), .sc (.int .i64) (.int 5)] [.sc (.int .i64)]
(.call [] (.fn 117) [.cur (.o1 (.fld 0) (.var 0)), .sc (.int .i64) (.int 5)] [.sc (.int .i64)]
(.know (.o2 .cons (.o2 .cons (.int 1) .nil) (.o2 .cons (.o2 .cons (.int 2) .nil) (.o2 .cons (.o2 .cons (.int 4) .nil) (.o2 .cons (.o2 .cons (.int 8) .nil) (.o2 .cons (.o2 .cons (.int 16) .nil) (.o2 .cons (.o2 .cons (.int 32) .nil) .nil))))))
(.loop 0 [(.int 0), (.int 0)]
 (.br (.o2 .lt (.var 7) (.o1 .len (.o2 .cons (.o2 .cons (.int 1) .nil) (.o2 .cons (.o2 .cons (.int 2) .nil) (.o2 .cons (.o2 .cons (.int 4) .nil) (.o2 .cons (.o2 .cons (.int 8) .nil) (.o2 .cons (.o2 .cons (.int 16) .nil) (.o2 .cons (.o2 .cons (.int 32) .nil) .nil))))))))
  (.need [] (.o2 .le (.int 0) (.var 7))
  (.need [] (.o2 .lt (.var 7) (.o1 .len (.o2 .cons (.o2 .cons (.int 1) .nil) (.o2 .cons (.o2 .cons (.int 2) .nil) (.o2 .cons (.o2 .cons (.int 4) .nil) (.o2 .cons (.o2 .cons (.int 8) .nil) (.o2 .cons (.o2 .cons (.int 16) .nil) (.o2 .cons (.o2 .cons (.int 32) .nil) .nil))))))))
  (.call [] (.fn 115) [.cur (.o1 (.fld 0) (.var 0)), .sc (.int .i64) (.int 3)] [.sc .bool]
  (.br (.var 9)
   (.cont 0 [(.o2 (.add .i64) (.var 7) (.int 1)), (.o2 (.add .i64) (.var 8) (.o1 (.fld 0) (.o2 .idx (.o2 .cons (.o2 .cons (.int 1) .nil) (.o2 .cons (.o2 .cons (.int 2) .nil) (.o2 .cons (.o2 .cons (.int 4) .nil) (.o2 .cons (.o2 .cons (.int 8) .nil) (.o2 .cons (.o2 .cons (.int 16) .nil) (.o2 .cons (.o2 .cons (.int 32) .nil) .nil)))))) (.var 7))))])
   (.cont 0 [(.o2 (.add .i64) (.var 7) (.int 1)), (.var 8)])))))
  (.br (.o2 .ne (.var 3) (.int 2))
   (.ret [(.o2 .cons (.var 1) (.o2 .cons (.var 2) (.o2 .cons (.var 2) (.o2 .cons (.var 3) (.o2 .cons (.var 4) (.o2 .cons (.var 5) (.o2 .cons (.o2 (.add .i64) (.int 1) (.var 6)) (.o2 .cons (.var 8) (.o2 .cons (.int 0) (.o2 .cons (.int 0) (.o2 .cons (.int 0) (.o2 .cons (.bool false) (.o2 .cons (.bool false) .nil)))))))))))))])
   (.call [] (.fn 115) [.cur (.o1 (.fld 0) (.var 0)), .sc (.int .i64) (.int 4)] [.sc .bool]
   (.br (.var 9)
    (.call [] (.fn 189) [.cur (.o1 (.fld 0) (.var 0)), .sc (.sl [(.int .i64)]) (.o2 .cons (.o2 .cons (.int 0) .nil) (.o2 .cons (.o2 .cons (.int 0) .nil) (.o2 .cons (.o2 .cons (.int 1) .nil) (.o2 .cons (.o2 .cons (.int 2) .nil) .nil))))] [.sc (.int .i64)]
    (.call [] (.fn 189) [.cur (.o1 (.fld 0) (.var 0)), .sc (.sl [(.int .i64)]) (.o2 .cons (.o2 .cons (.int 0) .nil) (.o2 .cons (.o2 .cons (.int 0) .nil) (.o2 .cons (.o2 .cons (.int 0) .nil) (.o2 .cons (.o2 .cons (.int 1) .nil) .nil))))] [.sc (.int .i64)]
    (.call [] (.fn 189) [.cur (.o1 (.fld 0) (.var 0)), .sc (.sl [(.int .i64)]) (.o2 .cons (.o2 .cons (.int 0) .nil) (.o2 .cons (.o2 .cons (.int 0) .nil) (.o2 .cons (.o2 .cons (.int 1) .nil) .nil)))] [.sc (.int .i64)]
    (.call [] (.fn 115) [.cur (.o1 (.fld 0) (.var 0)), .sc (.int .i64) (.int 4)] [.sc .bool]
    (.ret [(.o2 .cons (.var 1) (.o2 .cons (.var 2) (.o2 .cons (.o2 (.sub .i64) (.int 1) (.var 2)) (.o2 .cons (.var 3) (.o2 .cons (.var 4) (.o2 .cons (.var 5) (.o2 .cons (.o2 (.add .i64) (.int 1) (.var 6)) (.o2 .cons (.var 8) (.o2 .cons (.var 10) (.o2 .cons (.var 11) (.o2 .cons (.var 12) (.o2 .cons (.bool false) (.o2 .cons (.var 13) .nil)))))))))))))])))))
    (.call [] (.fn 189) [.cur (.o1 (.fld 0) (.var 0)), .sc (.sl [(.int .i64)]) (.o2 .cons (.o2 .cons (.int 0) .nil) (.o2 .cons (.o2 .cons (.int 0) .nil) (.o2 .cons (.o2 .cons (.int 1) .nil) (.o2 .cons (.o2 .cons (.int 2) .nil) .nil))))] [.sc (.int .i64)]
    (.call [] (.fn 189) [.cur (.o1 (.fld 0) (.var 0)), .sc (.sl [(.int .i64)]) (.o2 .cons (.o2 .cons (.int 0) .nil) (.o2 .cons (.o2 .cons (.int 0) .nil) (.o2 .cons (.o2 .cons (.int 0) .nil) (.o2 .cons (.o2 .cons (.int 1) .nil) .nil))))] [.sc (.int .i64)]
    (.call [] (.fn 189) [.cur (.o1 (.fld 0) (.var 0)), .sc (.sl [(.int .i64)]) (.o2 .cons (.o2 .cons (.int 0) .nil) (.o2 .cons (.o2 .cons (.int 0) .nil) (.o2 .cons (.o2 .cons (.int 1) .nil) .nil)))] [.sc (.int .i64)]
    (.call [] (.fn 115) [.cur (.o1 (.fld 0) (.var 0)), .sc (.int .i64) (.int 4)] [.sc .bool]
    (.ret [(.o2 .cons (.var 1) (.o2 .cons (.var 2) (.o2 .cons (.var 2) (.o2 .cons (.var 3) (.o2 .cons (.var 4) (.o2 .cons (.var 5) (.o2 .cons (.o2 (.add .i64) (.int 1) (.var 6)) (.o2 .cons (.var 8) (.o2 .cons (.var 10) (.o2 .cons (.var 11) (.o2 .cons (.var 12) (.o2 .cons (.bool false) (.o2 .cons (.var 13) .nil)))))))))))))]))))))))))))))))
theorem sig_192 : sigOf Try.prog md 192 [] = some ([.cur, .sc (.int .i64)], [.st [(.int .i64), (.int .i64), (.int .i64), (.int .i64), (.int .i64), (.int .i64), (.int .i64), (.int .i64), (.int .i64), (.int .i64), (.int .i64), .bool, .bool]], tree_192) := by kernel_rfl
/- spec.l5Draw -/
def tree_119 : T :=
(.call [] (.fn 191) [.sc (.int .i64) (.int 2)] [.st [(.sl [(.int .i64), (.int .i64), (.int .i64), (.int .i64), (.int .i64), (.int .i64), (.int .i64), (.int .i64), (.int .i64), (.int .i64), (.int .i64), .bool, .bool]), (.sl [(.int .i64), (.int .i64), .bool]), (.int .i64), (.int .i64)]]
(.call [] (.fn 117) [.cur (.o1 (.fld 0) (.var 0)), .sc (.int .i64) (.int 3)] [.sc (.int .i64)]
(.call [] (.fn 117) [.cur (.o1 (.fld 0) (.var 0)), .sc (.int .i64) (.int 2)] [.sc (.int .i64)]
(.loop 0 [(.int 0), (.o1 (.fld 1) (.var 1))]
 (.br (.o2 .lt (.var 4) (.int 2))
  (.need [] (.o2 .le (.int 0) (.var 4))
  (.need [] (.o2 .lt (.var 4) (.o1 .len (.var 5)))
  (.call [] (.fn 189) [.cur (.o1 (.fld 0) (.var 0)), .sc (.sl [(.int .i64)]) (.o2 .cons (.o2 .cons (.int 20) .nil) (.o2 .cons (.o2 .cons (.int 20) .nil) (.o2 .cons (.o2 .cons (.int 3) .nil) (.o2 .cons (.o2 .cons (.int 1) .nil) (.o2 .cons (.o2 .cons (.int 10) .nil) .nil)))))] [.sc (.int .i64)]
  (.need [] (.o2 .le (.int 0) (.var 4))
  (.need [] (.o2 .lt (.var 4) (.o1 .len (.o3 (.setC 0) (.var 5) (.var 4) (.var 6))))
  (.call [] (.fn 189) [.cur (.o1 (.fld 0) (.var 0)), .sc (.sl [(.int .i64)]) (.o2 .cons (.o2 .cons (.int 0) .nil) (.o2 .cons (.o2 .cons (.int 0) .nil) (.o2 .cons (.o2 .cons (.int 8) .nil) (.o2 .cons (.o2 .cons (.int 1) .nil) .nil))))] [.sc (.int .i64)]
  (.cont 0 [(.o2 (.add .i64) (.var 4) (.int 1)), (.o3 (.setC 1) (.o3 (.setC 0) (.var 5) (.var 4) (.var 6)) (.var 4) (.var 7))])))))))
  (.call [] (.fn 117) [.cur (.o1 (.fld 0) (.var 0)), .sc (.int .i64) (.int 5)] [.sc (.int .i64)]
  (.loop 0 [(.int 0), (.o2 (.add .i64) (.int 1) (.var 6)), (.o1 (.fld 0) (.var 1))]
   (.br (.o2 .gt (.var 8) (.int 0))
    (.call [] (.fn 117) [.cur (.o1 (.fld 0) (.var 0)), .sc (.int .i64) (.int 2)] [.sc (.int .i64)]
    (.call [] (.fn 192) [.cur (.o1 (.fld 0) (.var 0)), .sc (.int .i64) (.o2 (.add .i64) (.o2 (.add .i64) (.var 7) (.int 1)) (.var 10))] [.st [(.int .i64), (.int .i64), (.int .i64), (.int .i64), (.int .i64), (.int .i64), (.int .i64), (.int .i64), (.int .i64), (.int .i64), (.int .i64), .bool, .bool]]
    (.need [] (.o2 (.fits 96) (.o1 .len (.var 9)) (.o1 .len (.o2 .cons (.o2 .cons (.o1 (.fld 0) (.var 11)) (.o2 .cons (.o1 (.fld 1) (.var 11)) (.o2 .cons (.o1 (.fld 2) (.var 11)) (.o2 .cons (.o1 (.fld 3) (.var 11)) (.o2 .cons (.o1 (.fld 4) (.var 11)) (.o2 .cons (.o1 (.fld 5) (.var 11)) (.o2 .cons (.o1 (.fld 6) (.var 11)) (.o2 .cons (.o1 (.fld 7) (.var 11)) (.o2 .cons (.o1 (.fld 8) (.var 11)) (.o2 .cons (.o1 (.fld 9) (.var 11)) (.o2 .cons (.o1 (.fld 10) (.var 11)) (.o2 .cons (.o1 (.fld 11) (.var 11)) (.o2 .cons (.o1 (.fld 12) (.var 11)) .nil))))))))))))) .nil)))
    (.cont 0 [(.o2 (.add .i64) (.o2 (.add .i64) (.var 7) (.int 1)) (.var 10)), (.o2 (.sub .i64) (.var 8) (.int 1)), (.o2 .app (.var 9) (.o2 .cons (.o2 .cons (.o1 (.fld 0) (.var 11)) (.o2 .cons (.o1 (.fld 1) (.var 11)) (.o2 .cons (.o1 (.fld 2) (.var 11)) (.o2 .cons (.o1 (.fld 3) (.var 11)) (.o2 .cons (.o1 (.fld 4) (.var 11)) (.o2 .cons (.o1 (.fld 5) (.var 11)) (.o2 .cons (.o1 (.fld 6) (.var 11)) (.o2 .cons (.o1 (.fld 7) (.var 11)) (.o2 .cons (.o1 (.fld 8) (.var 11)) (.o2 .cons (.o1 (.fld 9) (.var 11)) (.o2 .cons (.o1 (.fld 10) (.var 11)) (.o2 .cons (.o1 (.fld 11) (.var 11)) (.o2 .cons (.o1 (.fld 12) (.var 11)) .nil))))))))))))) .nil))]))))
    (.ret [(.o2 .cons (.var 9) (.o2 .cons (.var 5) (.o2 .cons (.var 3) (.o2 .cons (.o2 (.add .i64) (.int 2) (.var 2)) .nil))))])))))))))
theorem sig_119 : sigOf Try.prog md 119 [] = some ([.cur], [.st [(.sl [(.int .i64), (.int .i64), (.int .i64), (.int .i64), (.int .i64), (.int .i64), (.int .i64), (.int .i64), (.int .i64), (.int .i64), (.int .i64), .bool, .bool]), (.sl [(.int .i64), (.int .i64), .bool]), (.int .i64), (.int .i64)]], tree_119) := by kernel_rfl
/- spec.l1Odd -/
def tree_116 : T :=
(.call [] (.fn 189) [.cur (.o1 (.fld 0) (.var 0)), .sc (.sl [(.int .i64)]) (.o2 .cons (.o2 .cons (.int (-1)) .nil) (.o2 .cons (.o2 .cons (.int 0) .nil) (.o2 .cons (.o2 .cons (.int 1) .nil) (.o2 .cons (.o2 .cons (.int 2) .nil) (.o2 .cons (.o2 .cons (.int 255) .nil) (.o2 .cons (.o2 .cons (.int 256) .nil) (.o2 .cons (.o2 .cons (.int 65535) .nil) (.o2 .cons (.o2 .cons (.int 2147483647) .nil) (.o2 .cons (.o2 .cons (.int 2147483648) .nil) (.o2 .cons (.o2 .cons (.int 4294967295) .nil) (.o2 .cons (.o2 .cons (.int 4294967296) .nil) (.o2 .cons (.o2 .cons (.int (-2147483648)) .nil) (.o2 .cons (.o2 .cons (.int 9223372036854775807) .nil) (.o2 .cons (.o2 .cons (.int (-9223372036854775808)) .nil) .nil))))))))))))))] [.sc (.int .i64)]
(.ret [(.var 1)]))
theorem sig_116 : sigOf Try.prog md 116 [] = some ([.cur], [.sc (.int .i64)], tree_116) := by kernel_rfl
/- spec.l1Raw -/
def tree_133 : T :=
(.call [] (.fn 115) [.cur (.o1 (.fld 0) (.var 0)), .sc (.int .i64) (.int 2)] [.sc .bool]
(.br (.var 1)
 (.call [] (.fn 116) [.cur (.o1 (.fld 0) (.var 0))] [.sc (.int .i64)]
 (.ret [(.var 2)]))
 (.call [] (.fn 189) [.cur (.o1 (.fld 0) (.var 0)), .sc (.sl [(.int .i64)]) (.o2 .cons (.o2 .cons (.int (-2147483648)) .nil) (.o2 .cons (.o2 .cons (.int (-2147483647)) .nil) (.o2 .cons (.o2 .cons (.int (-3)) .nil) (.o2 .cons (.o2 .cons (.int (-1)) .nil) (.o2 .cons (.o2 .cons (.int 0) .nil) (.o2 .cons (.o2 .cons (.int 1) .nil) (.o2 .cons (.o2 .cons (.int 3) .nil) (.o2 .cons (.o2 .cons (.int 7) .nil) (.o2 .cons (.o2 .cons (.int 2147483647) .nil) (.o2 .cons (.o2 .cons (.int 2147483648) .nil) .nil))))))))))] [.sc (.int .i64)]
 (.ret [(.var 2)]))))
theorem sig_133 : sigOf Try.prog md 133 [] = some ([.cur], [.sc (.int .i64)], tree_133) := by kernel_rfl
/- spec.l6Id -/
def tree_199 : T :=
(.know (.o1 (.fld 0) (.var 1))
(.call [((.o2 .eq (.o1 .len (.o1 (.fld 0) (.var 1))) (.int 0)), false)] (.fn 115) [.cur (.o1 (.fld 0) (.var 0)), .sc (.int .i64) (.int 8)] [.sc .bool]
(.br (.o2 .bor (.o2 .eq (.o1 .len (.o1 (.fld 0) (.var 1))) (.int 0)) (.var 2))
 (.call [] (.fn 117) [.cur (.o1 (.fld 0) (.var 0)), .sc (.int .i64) (.int 9)] [.sc (.int .i64)]
 (.ret [(.o2 (.add .i64) (.int 1) (.var 3))]))
 (.call [] (.fn 117) [.cur (.o1 (.fld 0) (.var 0)), .sc (.int .i64) (.o1 .len (.o1 (.fld 0) (.var 1)))] [.sc (.int .i64)]
 (.need [] (.o2 .le (.int 0) (.var 3))
 (.need [] (.o2 .lt (.var 3) (.o1 .len (.o1 (.fld 0) (.var 1))))
 (.know (.o1 (.fld 0) (.var 1))
 (.ret [(.o1 (.fld 0) (.o2 .idx (.o1 (.fld 0) (.var 1)) (.var 3)))]))))))))
theorem sig_199 : sigOf Try.prog md 199 [] = some ([.cur, .st [(.sl [(.int .i64), (.int .i64), (.int .i64), (.int .i64), (.int .i64), (.int .i64), (.int .i64), (.int .i64), (.int .i64), (.int .i64), (.int .i64), .bool, .bool]), (.sl [(.int .i64), (.int .i64), .bool]), (.int .i64), (.int .i64)]], [.sc (.int .i64)], tree_199) := by kernel_rfl
/- spec.l6Draw -/
def tree_149 : T :=
(.call [] (.fn 189) [.cur (.o1 (.fld 0) (.var 0)), .sc (.sl [(.int .i64)]) (.o2 .cons (.o2 .cons (.int 1) .nil) (.o2 .cons (.o2 .cons (.int 1) .nil) (.o2 .cons (.o2 .cons (.int 1) .nil) (.o2 .cons (.o2 .cons (.int 2) .nil) (.o2 .cons (.o2 .cons (.int 2) .nil) (.o2 .cons (.o2 .cons (.int 3) .nil) (.o2 .cons (.o2 .cons (.int 4) .nil) (.o2 .cons (.o2 .cons (.int 5) .nil) (.o2 .cons (.o2 .cons (.int 6) .nil) .nil)))))))))] [.sc (.int .i64)]
(.call [] (.fn 189) [.cur (.o1 (.fld 0) (.var 0)), .sc (.sl [(.int .i64)]) (.o2 .cons (.o2 .cons (.int 1) .nil) (.o2 .cons (.o2 .cons (.int 2) .nil) (.o2 .cons (.o2 .cons (.int 3) .nil) (.o2 .cons (.o2 .cons (.int 5) .nil) (.o2 .cons (.o2 .cons (.int 0) .nil) (.o2 .cons (.o2 .cons (.int 8) .nil) (.o2 .cons (.o2 .cons (.int 2147483647) .nil) .nil)))))))] [.sc (.int .i64)]
(.br (.o2 .eq (.var 2) (.int 1))
 (.call [] (.fn 199) [.cur (.o1 (.fld 0) (.var 0)), .st [(.sl [(.int .i64), (.int .i64), (.int .i64), (.int .i64), (.int .i64), (.int .i64), (.int .i64), (.int .i64), (.int .i64), (.int .i64), (.int .i64), .bool, .bool]), (.sl [(.int .i64), (.int .i64), .bool]), (.int .i64), (.int .i64)] (.o2 .cons (.o1 (.fld 0) (.var 1)) (.o2 .cons (.o1 (.fld 1) (.var 1)) (.o2 .cons (.o1 (.fld 2) (.var 1)) (.o2 .cons (.o1 (.fld 3) (.var 1)) .nil))))] [.sc (.int .i64)]
 (.call [] (.fn 115) [.cur (.o1 (.fld 0) (.var 0)), .sc (.int .i64) (.int 2)] [.sc .bool]
 (.br (.var 5)
  (.call [] (.fn 117) [.cur (.o1 (.fld 0) (.var 0)), .sc (.int .i64) (.int 2)] [.sc (.int .i64)]
  (.ret [(.o2 .cons (.var 2) (.o2 .cons (.var 4) (.o2 .cons (.int 0) (.o2 .cons (.var 6) (.o2 .cons (.var 3) (.o2 .cons (.int 0) (.o2 .cons (.bool false) .nil)))))))]))
  (.call [] (.fn 199) [.cur (.o1 (.fld 0) (.var 0)), .st [(.sl [(.int .i64), (.int .i64), (.int .i64), (.int .i64), (.int .i64), (.int .i64), (.int .i64), (.int .i64), (.int .i64), (.int .i64), (.int .i64), .bool, .bool]), (.sl [(.int .i64), (.int .i64), .bool]), (.int .i64), (.int .i64)] (.o2 .cons (.o1 (.fld 0) (.var 1)) (.o2 .cons (.o1 (.fld 1) (.var 1)) (.o2 .cons (.o1 (.fld 2) (.var 1)) (.o2 .cons (.o1 (.fld 3) (.var 1)) .nil))))] [.sc (.int .i64)]
  (.ret [(.o2 .cons (.var 2) (.o2 .cons (.var 4) (.o2 .cons (.var 6) (.o2 .cons (.int (-1)) (.o2 .cons (.var 3) (.o2 .cons (.int 0) (.o2 .cons (.bool false) .nil)))))))])))))
 (.br (.o2 .eq (.var 2) (.int 2))
  (.call [] (.fn 199) [.cur (.o1 (.fld 0) (.var 0)), .st [(.sl [(.int .i64), (.int .i64), (.int .i64), (.int .i64), (.int .i64), (.int .i64), (.int .i64), (.int .i64), (.int .i64), (.int .i64), (.int .i64), .bool, .bool]), (.sl [(.int .i64), (.int .i64), .bool]), (.int .i64), (.int .i64)] (.o2 .cons (.o1 (.fld 0) (.var 1)) (.o2 .cons (.o1 (.fld 1) (.var 1)) (.o2 .cons (.o1 (.fld 2) (.var 1)) (.o2 .cons (.o1 (.fld 3) (.var 1)) .nil))))] [.sc (.int .i64)]
  (.call [] (.fn 189) [.cur (.o1 (.fld 0) (.var 0)), .sc (.sl [(.int .i64)]) (.o2 .cons (.o2 .cons (.int 3) .nil) (.o2 .cons (.o2 .cons (.int 3) .nil) (.o2 .cons (.o2 .cons (.int 1) .nil) (.o2 .cons (.o2 .cons (.int 2) .nil) (.o2 .cons (.o2 .cons (.int 4) .nil) .nil)))))] [.sc (.int .i64)]
  (.br (.o2 .eq (.var 5) (.int 2))
   (.call [] (.fn 189) [.cur (.o1 (.fld 0) (.var 0)), .sc (.sl [(.int .i64)]) (.o2 .cons (.o2 .cons (.int 0) .nil) (.o2 .cons (.o2 .cons (.int 0) .nil) (.o2 .cons (.o2 .cons (.int 1) .nil) (.o2 .cons (.o2 .cons (.int 2) .nil) .nil))))] [.sc (.int .i64)]
   (.call [] (.fn 115) [.cur (.o1 (.fld 0) (.var 0)), .sc (.int .i64) (.int 3)] [.sc .bool]
   (.ret [(.o2 .cons (.var 2) (.o2 .cons (.int 0) (.o2 .cons (.var 4) (.o2 .cons (.int (-1)) (.o2 .cons (.var 6) (.o2 .cons (.var 5) (.o2 .cons (.var 7) .nil)))))))])))
   (.ret [(.o2 .cons (.var 2) (.o2 .cons (.int 0) (.o2 .cons (.var 4) (.o2 .cons (.int (-1)) (.o2 .cons (.int 0) (.o2 .cons (.var 5) (.o2 .cons (.bool false) .nil)))))))]))))
  (.br (.o2 .eq (.var 2) (.int 3))
   (.br (.o2 .eq (.var 2) (.int 3))
    (.call [] (.fn 117) [.cur (.o1 (.fld 0) (.var 0)), .sc (.int .i64) (.int 2)] [.sc (.int .i64)]
    (.ret [(.o2 .cons (.var 2) (.o2 .cons (.int 0) (.o2 .cons (.int 0) (.o2 .cons (.var 4) (.o2 .cons (.var 3) (.o2 .cons (.int 0) (.o2 .cons (.bool false) .nil)))))))]))
    (.call [] (.fn 199) [.cur (.o1 (.fld 0) (.var 0)), .st [(.sl [(.int .i64), (.int .i64), (.int .i64), (.int .i64), (.int .i64), (.int .i64), (.int .i64), (.int .i64), (.int .i64), (.int .i64), (.int .i64), .bool, .bool]), (.sl [(.int .i64), (.int .i64), .bool]), (.int .i64), (.int .i64)] (.o2 .cons (.o1 (.fld 0) (.var 1)) (.o2 .cons (.o1 (.fld 1) (.var 1)) (.o2 .cons (.o1 (.fld 2) (.var 1)) (.o2 .cons (.o1 (.fld 3) (.var 1)) .nil))))] [.sc (.int .i64)]
    (.ret [(.o2 .cons (.var 2) (.o2 .cons (.int 0) (.o2 .cons (.var 4) (.o2 .cons (.int (-1)) (.o2 .cons (.var 3) (.o2 .cons (.int 0) (.o2 .cons (.bool false) .nil)))))))])))
   (.br (.o2 .eq (.var 2) (.int 4))
    (.call [] (.fn 117) [.cur (.o1 (.fld 0) (.var 0)), .sc (.int .i64) (.int 2)] [.sc (.int .i64)]
    (.ret [(.o2 .cons (.var 2) (.o2 .cons (.int 0) (.o2 .cons (.int 0) (.o2 .cons (.var 4) (.o2 .cons (.var 3) (.o2 .cons (.int 0) (.o2 .cons (.bool false) .nil)))))))]))
    (.call [] (.fn 199) [.cur (.o1 (.fld 0) (.var 0)), .st [(.sl [(.int .i64), (.int .i64), (.int .i64), (.int .i64), (.int .i64), (.int .i64), (.int .i64), (.int .i64), (.int .i64), (.int .i64), (.int .i64), .bool, .bool]), (.sl [(.int .i64), (.int .i64), .bool]), (.int .i64), (.int .i64)] (.o2 .cons (.o1 (.fld 0) (.var 1)) (.o2 .cons (.o1 (.fld 1) (.var 1)) (.o2 .cons (.o1 (.fld 2) (.var 1)) (.o2 .cons (.o1 (.fld 3) (.var 1)) .nil))))] [.sc (.int .i64)]
    (.ret [(.o2 .cons (.var 2) (.o2 .cons (.int 0) (.o2 .cons (.var 4) (.o2 .cons (.int (-1)) (.o2 .cons (.var 3) (.o2 .cons (.int 0) (.o2 .cons (.bool false) .nil)))))))]))))))))
theorem sig_149 : sigOf Try.prog md 149 [] = some ([.cur, .st [(.sl [(.int .i64), (.int .i64), (.int .i64), (.int .i64), (.int .i64), (.int .i64), (.int .i64), (.int .i64), (.int .i64), (.int .i64), (.int .i64), .bool, .bool]), (.sl [(.int .i64), (.int .i64), .bool]), (.int .i64), (.int .i64)]], [.st [(.int .i64), (.int .i64), (.int .i64), (.int .i64), (.int .i64), (.int .i64), .bool]], tree_149) := by kernel_rfl
/- spec.l6Any -/
def tree_148 : T :=
(.call [] (.fn 149) [.cur (.o1 (.fld 0) (.var 0)), .st [(.sl [(.int .i64), (.int .i64), (.int .i64), (.int .i64), (.int .i64), (.int .i64), (.int .i64), (.int .i64), (.int .i64), (.int .i64), (.int .i64), .bool, .bool]), (.sl [(.int .i64), (.int .i64), .bool]), (.int .i64), (.int .i64)] (.o2 .cons (.o1 (.fld 0) (.var 1)) (.o2 .cons (.o1 (.fld 1) (.var 1)) (.o2 .cons (.o1 (.fld 2) (.var 1)) (.o2 .cons (.o1 (.fld 3) (.var 1)) .nil))))] [.st [(.int .i64), (.int .i64), (.int .i64), (.int .i64), (.int .i64), (.int .i64), .bool]]
(.call [] (.fn 117) [.cur (.o1 (.fld 0) (.var 0)), .sc (.int .i64) (.int 16)] [.sc (.int .i64)]
(.br (.o2 .eq (.var 3) (.int 0))
 (.call [] (.fn 189) [.cur (.o1 (.fld 0) (.var 0)), .sc (.sl [(.int .i64)]) (.o2 .cons (.o2 .cons (.int 0) .nil) (.o2 .cons (.o2 .cons (.int 1) .nil) (.o2 .cons (.o2 .cons (.int 2) .nil) (.o2 .cons (.o2 .cons (.int 3) .nil) (.o2 .cons (.o2 .cons (.int 5) .nil) (.o2 .cons (.o2 .cons (.int 7) .nil) .nil))))))] [.sc (.int .i64)]
 (.ret [(.o2 .cons (.var 4) (.o2 .cons (.o1 (.fld 1) (.var 2)) (.o2 .cons (.o1 (.fld 2) (.var 2)) (.o2 .cons (.o1 (.fld 3) (.var 2)) (.o2 .cons (.o1 (.fld 4) (.var 2)) (.o2 .cons (.o1 (.fld 5) (.var 2)) (.o2 .cons (.o1 (.fld 6) (.var 2)) .nil)))))))]))
 (.br (.o2 .eq (.var 3) (.int 1))
  (.call [] (.fn 189) [.cur (.o1 (.fld 0) (.var 0)), .sc (.sl [(.int .i64)]) (.o2 .cons (.o2 .cons (.int 0) .nil) (.o2 .cons (.o2 .cons (.int 1) .nil) (.o2 .cons (.o2 .cons (.int 99) .nil) (.o2 .cons (.o2 .cons (.int 100) .nil) .nil))))] [.sc (.int .i64)]
  (.ret [(.o2 .cons (.o1 (.fld 0) (.var 2)) (.o2 .cons (.var 4) (.o2 .cons (.o1 (.fld 2) (.var 2)) (.o2 .cons (.o1 (.fld 3) (.var 2)) (.o2 .cons (.o1 (.fld 4) (.var 2)) (.o2 .cons (.o1 (.fld 5) (.var 2)) (.o2 .cons (.o1 (.fld 6) (.var 2)) .nil)))))))]))
  (.br (.o2 .eq (.var 3) (.int 2))
   (.call [] (.fn 189) [.cur (.o1 (.fld 0) (.var 0)), .sc (.sl [(.int .i64)]) (.o2 .cons (.o2 .cons (.int 0) .nil) (.o2 .cons (.o2 .cons (.int 99) .nil) (.o2 .cons (.o2 .cons (.int 100) .nil) (.o2 .cons (.o2 .cons (.int (-1)) .nil) .nil))))] [.sc (.int .i64)]
   (.ret [(.o2 .cons (.o1 (.fld 0) (.var 2)) (.o2 .cons (.o1 (.fld 1) (.var 2)) (.o2 .cons (.var 4) (.o2 .cons (.o1 (.fld 3) (.var 2)) (.o2 .cons (.o1 (.fld 4) (.var 2)) (.o2 .cons (.o1 (.fld 5) (.var 2)) (.o2 .cons (.o1 (.fld 6) (.var 2)) .nil)))))))]))
   (.br (.o2 .eq (.var 3) (.int 3))
    (.call [] (.fn 189) [.cur (.o1 (.fld 0) (.var 0)), .sc (.sl [(.int .i64)]) (.o2 .cons (.o2 .cons (.int (-2)) .nil) (.o2 .cons (.o2 .cons (.int (-1)) .nil) (.o2 .cons (.o2 .cons (.int 0) .nil) (.o2 .cons (.o2 .cons (.int 2) .nil) (.o2 .cons (.o2 .cons (.int 3) .nil) .nil)))))] [.sc (.int .i64)]
    (.ret [(.o2 .cons (.o1 (.fld 0) (.var 2)) (.o2 .cons (.o1 (.fld 1) (.var 2)) (.o2 .cons (.o1 (.fld 2) (.var 2)) (.o2 .cons (.var 4) (.o2 .cons (.o1 (.fld 4) (.var 2)) (.o2 .cons (.o1 (.fld 5) (.var 2)) (.o2 .cons (.o1 (.fld 6) (.var 2)) .nil)))))))]))
    (.br (.o2 .eq (.var 3) (.int 4))
     (.call [] (.fn 133) [.cur (.o1 (.fld 0) (.var 0))] [.sc (.int .i64)]
     (.ret [(.o2 .cons (.o1 (.fld 0) (.var 2)) (.o2 .cons (.o1 (.fld 1) (.var 2)) (.o2 .cons (.o1 (.fld 2) (.var 2)) (.o2 .cons (.o1 (.fld 3) (.var 2)) (.o2 .cons (.var 4) (.o2 .cons (.o1 (.fld 5) (.var 2)) (.o2 .cons (.o1 (.fld 6) (.var 2)) .nil)))))))]))
     (.br (.o2 .eq (.var 3) (.int 5))
      (.call [] (.fn 189) [.cur (.o1 (.fld 0) (.var 0)), .sc (.sl [(.int .i64)]) (.o2 .cons (.o2 .cons (.int 0) .nil) (.o2 .cons (.o2 .cons (.int 2) .nil) (.o2 .cons (.o2 .cons (.int 4) .nil) (.o2 .cons (.o2 .cons (.int 5) .nil) .nil))))] [.sc (.int .i64)]
      (.ret [(.o2 .cons (.o1 (.fld 0) (.var 2)) (.o2 .cons (.o1 (.fld 1) (.var 2)) (.o2 .cons (.o1 (.fld 2) (.var 2)) (.o2 .cons (.o1 (.fld 3) (.var 2)) (.o2 .cons (.o1 (.fld 4) (.var 2)) (.o2 .cons (.var 4) (.o2 .cons (.o1 (.fld 6) (.var 2)) .nil)))))))]))
      (.br (.o2 .eq (.var 3) (.int 6))
       (.ret [(.o2 .cons (.o1 (.fld 0) (.var 2)) (.o2 .cons (.o1 (.fld 1) (.var 2)) (.o2 .cons (.o1 (.fld 2) (.var 2)) (.o2 .cons (.o1 (.fld 3) (.var 2)) (.o2 .cons (.o1 (.fld 4) (.var 2)) (.o2 .cons (.o1 (.fld 5) (.var 2)) (.o2 .cons (.o1 .not (.o1 (.fld 6) (.var 2))) .nil)))))))])
       (.ret [(.o2 .cons (.o1 (.fld 0) (.var 2)) (.o2 .cons (.o1 (.fld 1) (.var 2)) (.o2 .cons (.o1 (.fld 2) (.var 2)) (.o2 .cons (.o1 (.fld 3) (.var 2)) (.o2 .cons (.o1 (.fld 4) (.var 2)) (.o2 .cons (.o1 (.fld 5) (.var 2)) (.o2 .cons (.o1 (.fld 6) (.var 2)) .nil)))))))]))))))))))
theorem sig_148 : sigOf Try.prog md 148 [] = some ([.cur, .st [(.sl [(.int .i64), (.int .i64), (.int .i64), (.int .i64), (.int .i64), (.int .i64), (.int .i64), (.int .i64), (.int .i64), (.int .i64), (.int .i64), .bool, .bool]), (.sl [(.int .i64), (.int .i64), .bool]), (.int .i64), (.int .i64)]], [.st [(.int .i64), (.int .i64), (.int .i64), (.int .i64), (.int .i64), (.int .i64), .bool]], tree_148) := by kernel_rfl
/- spec.DrawEventOk -/
def tree_53 : T :=
(.call [] (.fn 113) [.sc (.sl [(.int .u8)]) (.var 0)] [.cur]
(.call [] (.fn 119) [.cur (.var 1)] [.st [(.sl [(.int .i64), (.int .i64), (.int .i64), (.int .i64), (.int .i64), (.int .i64), (.int .i64), (.int .i64), (.int .i64), (.int .i64), (.int .i64), .bool, .bool]), (.sl [(.int .i64), (.int .i64), .bool]), (.int .i64), (.int .i64)]]
(.call [] (.fn 148) [.cur (.var 1), .st [(.sl [(.int .i64), (.int .i64), (.int .i64), (.int .i64), (.int .i64), (.int .i64), (.int .i64), (.int .i64), (.int .i64), (.int .i64), (.int .i64), .bool, .bool]), (.sl [(.int .i64), (.int .i64), .bool]), (.int .i64), (.int .i64)] (.o2 .cons (.o1 (.fld 0) (.var 2)) (.o2 .cons (.o1 (.fld 1) (.var 2)) (.o2 .cons (.o1 (.fld 2) (.var 2)) (.o2 .cons (.o1 (.fld 3) (.var 2)) .nil))))] [.st [(.int .i64), (.int .i64), (.int .i64), (.int .i64), (.int .i64), (.int .i64), .bool]]
(.ret [(.o2 .cons (.o1 (.fld 0) (.var 3)) (.o2 .cons (.o1 (.fld 1) (.var 3)) (.o2 .cons (.o1 (.fld 2) (.var 3)) (.o2 .cons (.o1 (.fld 3) (.var 3)) (.o2 .cons (.o1 (.fld 4) (.var 3)) (.o2 .cons (.o1 (.fld 5) (.var 3)) (.o2 .cons (.o1 (.fld 6) (.var 3)) .nil)))))))]))))
theorem sig_53 : sigOf Try.prog md 53 [] = some ([.sc (.sl [(.int .u8)])], [.st [(.int .i64), (.int .i64), (.int .i64), (.int .i64), (.int .i64), (.int .i64), .bool]], tree_53) := by kernel_rfl
/- spec.l4Any -/
def tree_194 : T :=
(.call [] (.fn 117) [.cur (.o1 (.fld 0) (.var 0)), .sc (.int .i64) (.int 9)] [.sc (.int .i64)]
(.call [] (.fn 192) [.cur (.o1 (.fld 0) (.var 0)), .sc (.int .i64) (.o2 (.add .i64) (.int 1) (.var 1))] [.st [(.int .i64), (.int .i64), (.int .i64), (.int .i64), (.int .i64), (.int .i64), (.int .i64), (.int .i64), (.int .i64), (.int .i64), (.int .i64), .bool, .bool]]
(.call [] (.fn 117) [.cur (.o1 (.fld 0) (.var 0)), .sc (.int .i64) (.int 20)] [.sc (.int .i64)]
(.br (.o2 .eq (.var 3) (.int 0))
 (.call [] (.fn 189) [.cur (.o1 (.fld 0) (.var 0)), .sc (.sl [(.int .i64)]) (.o2 .cons (.o2 .cons (.int 0) .nil) (.o2 .cons (.o2 .cons (.int 99) .nil) (.o2 .cons (.o2 .cons (.int 100) .nil) .nil)))] [.sc (.int .i64)]
 (.ret [(.o2 .cons (.var 4) (.o2 .cons (.o1 (.fld 1) (.var 2)) (.o2 .cons (.o1 (.fld 2) (.var 2)) (.o2 .cons (.o1 (.fld 3) (.var 2)) (.o2 .cons (.o1 (.fld 4) (.var 2)) (.o2 .cons (.o1 (.fld 5) (.var 2)) (.o2 .cons (.o1 (.fld 6) (.var 2)) (.o2 .cons (.o1 (.fld 7) (.var 2)) (.o2 .cons (.o1 (.fld 8) (.var 2)) (.o2 .cons (.o1 (.fld 9) (.var 2)) (.o2 .cons (.o1 (.fld 10) (.var 2)) (.o2 .cons (.o1 (.fld 11) (.var 2)) (.o2 .cons (.o1 (.fld 12) (.var 2)) .nil)))))))))))))]))
 (.br (.o2 .eq (.var 3) (.int 1))
  (.call [] (.fn 189) [.cur (.o1 (.fld 0) (.var 0)), .sc (.sl [(.int .i64)]) (.o2 .cons (.o2 .cons (.int (-1)) .nil) (.o2 .cons (.o2 .cons (.int 2) .nil) (.o2 .cons (.o2 .cons (.int 3) .nil) .nil)))] [.sc (.int .i64)]
  (.ret [(.o2 .cons (.o1 (.fld 0) (.var 2)) (.o2 .cons (.var 4) (.o2 .cons (.o1 (.fld 2) (.var 2)) (.o2 .cons (.o1 (.fld 3) (.var 2)) (.o2 .cons (.o1 (.fld 4) (.var 2)) (.o2 .cons (.o1 (.fld 5) (.var 2)) (.o2 .cons (.o1 (.fld 6) (.var 2)) (.o2 .cons (.o1 (.fld 7) (.var 2)) (.o2 .cons (.o1 (.fld 8) (.var 2)) (.o2 .cons (.o1 (.fld 9) (.var 2)) (.o2 .cons (.o1 (.fld 10) (.var 2)) (.o2 .cons (.o1 (.fld 11) (.var 2)) (.o2 .cons (.o1 (.fld 12) (.var 2)) .nil)))))))))))))]))
  (.br (.o2 .eq (.var 3) (.int 2))
   (.call [] (.fn 189) [.cur (.o1 (.fld 0) (.var 0)), .sc (.sl [(.int .i64)]) (.o2 .cons (.o2 .cons (.int (-1)) .nil) (.o2 .cons (.o2 .cons (.int 2) .nil) (.o2 .cons (.o2 .cons (.int 3) .nil) .nil)))] [.sc (.int .i64)]
   (.ret [(.o2 .cons (.o1 (.fld 0) (.var 2)) (.o2 .cons (.o1 (.fld 1) (.var 2)) (.o2 .cons (.var 4) (.o2 .cons (.o1 (.fld 3) (.var 2)) (.o2 .cons (.o1 (.fld 4) (.var 2)) (.o2 .cons (.o1 (.fld 5) (.var 2)) (.o2 .cons (.o1 (.fld 6) (.var 2)) (.o2 .cons (.o1 (.fld 7) (.var 2)) (.o2 .cons (.o1 (.fld 8) (.var 2)) (.o2 .cons (.o1 (.fld 9) (.var 2)) (.o2 .cons (.o1 (.fld 10) (.var 2)) (.o2 .cons (.o1 (.fld 11) (.var 2)) (.o2 .cons (.o1 (.fld 12) (.var 2)) .nil)))))))))))))]))
   (.br (.o2 .eq (.var 3) (.int 3))
    (.call [] (.fn 189) [.cur (.o1 (.fld 0) (.var 0)), .sc (.sl [(.int .i64)]) (.o2 .cons (.o2 .cons (.int 0) .nil) (.o2 .cons (.o2 .cons (.int 1) .nil) (.o2 .cons (.o2 .cons (.int 4) .nil) (.o2 .cons (.o2 .cons (.int 5) .nil) .nil))))] [.sc (.int .i64)]
    (.ret [(.o2 .cons (.o1 (.fld 0) (.var 2)) (.o2 .cons (.o1 (.fld 1) (.var 2)) (.o2 .cons (.o1 (.fld 2) (.var 2)) (.o2 .cons (.var 4) (.o2 .cons (.o1 (.fld 4) (.var 2)) (.o2 .cons (.o1 (.fld 5) (.var 2)) (.o2 .cons (.o1 (.fld 6) (.var 2)) (.o2 .cons (.o1 (.fld 7) (.var 2)) (.o2 .cons (.o1 (.fld 8) (.var 2)) (.o2 .cons (.o1 (.fld 9) (.var 2)) (.o2 .cons (.o1 (.fld 10) (.var 2)) (.o2 .cons (.o1 (.fld 11) (.var 2)) (.o2 .cons (.o1 (.fld 12) (.var 2)) .nil)))))))))))))]))
    (.br (.o2 .eq (.var 3) (.int 4))
     (.call [] (.fn 189) [.cur (.o1 (.fld 0) (.var 0)), .sc (.sl [(.int .i64)]) (.o2 .cons (.o2 .cons (.int (-1)) .nil) (.o2 .cons (.o2 .cons (.int 9999) .nil) (.o2 .cons (.o2 .cons (.int 10000) .nil) .nil)))] [.sc (.int .i64)]
     (.ret [(.o2 .cons (.o1 (.fld 0) (.var 2)) (.o2 .cons (.o1 (.fld 1) (.var 2)) (.o2 .cons (.o1 (.fld 2) (.var 2)) (.o2 .cons (.o1 (.fld 3) (.var 2)) (.o2 .cons (.var 4) (.o2 .cons (.o1 (.fld 5) (.var 2)) (.o2 .cons (.o1 (.fld 6) (.var 2)) (.o2 .cons (.o1 (.fld 7) (.var 2)) (.o2 .cons (.o1 (.fld 8) (.var 2)) (.o2 .cons (.o1 (.fld 9) (.var 2)) (.o2 .cons (.o1 (.fld 10) (.var 2)) (.o2 .cons (.o1 (.fld 11) (.var 2)) (.o2 .cons (.o1 (.fld 12) (.var 2)) .nil)))))))))))))]))
     (.br (.o2 .eq (.var 3) (.int 5))
      (.call [] (.fn 189) [.cur (.o1 (.fld 0) (.var 0)), .sc (.sl [(.int .i64)]) (.o2 .cons (.o2 .cons (.int (-1)) .nil) (.o2 .cons (.o2 .cons (.int 999) .nil) (.o2 .cons (.o2 .cons (.int 1000) .nil) .nil)))] [.sc (.int .i64)]
      (.ret [(.o2 .cons (.o1 (.fld 0) (.var 2)) (.o2 .cons (.o1 (.fld 1) (.var 2)) (.o2 .cons (.o1 (.fld 2) (.var 2)) (.o2 .cons (.o1 (.fld 3) (.var 2)) (.o2 .cons (.o1 (.fld 4) (.var 2)) (.o2 .cons (.var 4) (.o2 .cons (.o1 (.fld 6) (.var 2)) (.o2 .cons (.o1 (.fld 7) (.var 2)) (.o2 .cons (.o1 (.fld 8) (.var 2)) (.o2 .cons (.o1 (.fld 9) (.var 2)) (.o2 .cons (.o1 (.fld 10) (.var 2)) (.o2 .cons (.o1 (.fld 11) (.var 2)) (.o2 .cons (.o1 (.fld 12) (.var 2)) .nil)))))))))))))]))
      (.br (.o2 .eq (.var 3) (.int 6))
       (.call [] (.fn 189) [.cur (.o1 (.fld 0) (.var 0)), .sc (.sl [(.int .i64)]) (.o2 .cons (.o2 .cons (.int (-1)) .nil) (.o2 .cons (.o2 .cons (.int 999) .nil) (.o2 .cons (.o2 .cons (.int 1000) .nil) .nil)))] [.sc (.int .i64)]
       (.ret [(.o2 .cons (.o1 (.fld 0) (.var 2)) (.o2 .cons (.o1 (.fld 1) (.var 2)) (.o2 .cons (.o1 (.fld 2) (.var 2)) (.o2 .cons (.o1 (.fld 3) (.var 2)) (.o2 .cons (.o1 (.fld 4) (.var 2)) (.o2 .cons (.o1 (.fld 5) (.var 2)) (.o2 .cons (.var 4) (.o2 .cons (.o1 (.fld 7) (.var 2)) (.o2 .cons (.o1 (.fld 8) (.var 2)) (.o2 .cons (.o1 (.fld 9) (.var 2)) (.o2 .cons (.o1 (.fld 10) (.var 2)) (.o2 .cons (.o1 (.fld 11) (.var 2)) (.o2 .cons (.o1 (.fld 12) (.var 2)) .nil)))))))))))))]))
       (.br (.o2 .eq (.var 3) (.int 7))
        (.call [] (.fn 189) [.cur (.o1 (.fld 0) (.var 0)), .sc (.sl [(.int .i64)]) (.o2 .cons (.o2 .cons (.int (-1)) .nil) (.o2 .cons (.o2 .cons (.int 63) .nil) (.o2 .cons (.o2 .cons (.int 64) .nil) .nil)))] [.sc (.int .i64)]
        (.ret [(.o2 .cons (.o1 (.fld 0) (.var 2)) (.o2 .cons (.o1 (.fld 1) (.var 2)) (.o2 .cons (.o1 (.fld 2) (.var 2)) (.o2 .cons (.o1 (.fld 3) (.var 2)) (.o2 .cons (.o1 (.fld 4) (.var 2)) (.o2 .cons (.o1 (.fld 5) (.var 2)) (.o2 .cons (.o1 (.fld 6) (.var 2)) (.o2 .cons (.var 4) (.o2 .cons (.o1 (.fld 8) (.var 2)) (.o2 .cons (.o1 (.fld 9) (.var 2)) (.o2 .cons (.o1 (.fld 10) (.var 2)) (.o2 .cons (.o1 (.fld 11) (.var 2)) (.o2 .cons (.o1 (.fld 12) (.var 2)) .nil)))))))))))))]))
        (.br (.o2 .eq (.var 3) (.int 8))
         (.call [] (.fn 133) [.cur (.o1 (.fld 0) (.var 0))] [.sc (.int .i64)]
         (.ret [(.o2 .cons (.o1 (.fld 0) (.var 2)) (.o2 .cons (.o1 (.fld 1) (.var 2)) (.o2 .cons (.o1 (.fld 2) (.var 2)) (.o2 .cons (.o1 (.fld 3) (.var 2)) (.o2 .cons (.o1 (.fld 4) (.var 2)) (.o2 .cons (.o1 (.fld 5) (.var 2)) (.o2 .cons (.o1 (.fld 6) (.var 2)) (.o2 .cons (.o1 (.fld 7) (.var 2)) (.o2 .cons (.var 4) (.o2 .cons (.o1 (.fld 9) (.var 2)) (.o2 .cons (.o1 (.fld 10) (.var 2)) (.o2 .cons (.o1 (.fld 11) (.var 2)) (.o2 .cons (.o1 (.fld 12) (.var 2)) .nil)))))))))))))]))
         (.br (.o2 .eq (.var 3) (.int 9))
          (.call [] (.fn 133) [.cur (.o1 (.fld 0) (.var 0))] [.sc (.int .i64)]
          (.ret [(.o2 .cons (.o1 (.fld 0) (.var 2)) (.o2 .cons (.o1 (.fld 1) (.var 2)) (.o2 .cons (.o1 (.fld 2) (.var 2)) (.o2 .cons (.o1 (.fld 3) (.var 2)) (.o2 .cons (.o1 (.fld 4) (.var 2)) (.o2 .cons (.o1 (.fld 5) (.var 2)) (.o2 .cons (.o1 (.fld 6) (.var 2)) (.o2 .cons (.o1 (.fld 7) (.var 2)) (.o2 .cons (.o1 (.fld 8) (.var 2)) (.o2 .cons (.var 4) (.o2 .cons (.o1 (.fld 10) (.var 2)) (.o2 .cons (.o1 (.fld 11) (.var 2)) (.o2 .cons (.o1 (.fld 12) (.var 2)) .nil)))))))))))))]))
          (.br (.o2 .eq (.var 3) (.int 10))
           (.call [] (.fn 133) [.cur (.o1 (.fld 0) (.var 0))] [.sc (.int .i64)]
           (.ret [(.o2 .cons (.o1 (.fld 0) (.var 2)) (.o2 .cons (.o1 (.fld 1) (.var 2)) (.o2 .cons (.o1 (.fld 2) (.var 2)) (.o2 .cons (.o1 (.fld 3) (.var 2)) (.o2 .cons (.o1 (.fld 4) (.var 2)) (.o2 .cons (.o1 (.fld 5) (.var 2)) (.o2 .cons (.o1 (.fld 6) (.var 2)) (.o2 .cons (.o1 (.fld 7) (.var 2)) (.o2 .cons (.o1 (.fld 8) (.var 2)) (.o2 .cons (.o1 (.fld 9) (.var 2)) (.o2 .cons (.var 4) (.o2 .cons (.o1 (.fld 11) (.var 2)) (.o2 .cons (.o1 (.fld 12) (.var 2)) .nil)))))))))))))]))
           (.br (.o2 .eq (.var 3) (.int 11))
            (.ret [(.o2 .cons (.o1 (.fld 0) (.var 2)) (.o2 .cons (.o1 (.fld 1) (.var 2)) (.o2 .cons (.o1 (.fld 2) (.var 2)) (.o2 .cons (.o1 (.fld 3) (.var 2)) (.o2 .cons (.o1 (.fld 4) (.var 2)) (.o2 .cons (.o1 (.fld 5) (.var 2)) (.o2 .cons (.o1 (.fld 6) (.var 2)) (.o2 .cons (.o1 (.fld 7) (.var 2)) (.o2 .cons (.o1 (.fld 8) (.var 2)) (.o2 .cons (.o1 (.fld 9) (.var 2)) (.o2 .cons (.o1 (.fld 10) (.var 2)) (.o2 .cons (.bool true) (.o2 .cons (.o1 (.fld 12) (.var 2)) .nil)))))))))))))])
            (.ret [(.o2 .cons (.o1 (.fld 0) (.var 2)) (.o2 .cons (.o1 (.fld 1) (.var 2)) (.o2 .cons (.o1 (.fld 2) (.var 2)) (.o2 .cons (.o1 (.fld 3) (.var 2)) (.o2 .cons (.o1 (.fld 4) (.var 2)) (.o2 .cons (.o1 (.fld 5) (.var 2)) (.o2 .cons (.o1 (.fld 6) (.var 2)) (.o2 .cons (.o1 (.fld 7) (.var 2)) (.o2 .cons (.o1 (.fld 8) (.var 2)) (.o2 .cons (.o1 (.fld 9) (.var 2)) (.o2 .cons (.o1 (.fld 10) (.var 2)) (.o2 .cons (.o1 (.fld 11) (.var 2)) (.o2 .cons (.o1 (.fld 12) (.var 2)) .nil)))))))))))))]))))))))))))))))
theorem sig_194 : sigOf Try.prog md 194 [] = some ([.cur], [.st [(.int .i64), (.int .i64), (.int .i64), (.int .i64), (.int .i64), (.int .i64), (.int .i64), (.int .i64), (.int .i64), (.int .i64), (.int .i64), .bool, .bool]], tree_194) := by kernel_rfl
/- spec.l5Any -/
def tree_127 : T :=
(.call [] (.fn 119) [.cur (.o1 (.fld 0) (.var 0))] [.st [(.sl [(.int .i64), (.int .i64), (.int .i64), (.int .i64), (.int .i64), (.int .i64), (.int .i64), (.int .i64), (.int .i64), (.int .i64), (.int .i64), .bool, .bool]), (.sl [(.int .i64), (.int .i64), .bool]), (.int .i64), (.int .i64)]]
(.call [] (.fn 117) [.cur (.o1 (.fld 0) (.var 0)), .sc (.int .i64) (.int 18)] [.sc (.int .i64)]
(.br (.o2 .eq (.var 2) (.int 0))
 (.call [] (.fn 189) [.cur (.o1 (.fld 0) (.var 0)), .sc (.sl [(.int .i64)]) (.o2 .cons (.o2 .cons (.int (-1)) .nil) (.o2 .cons (.o2 .cons (.int 2) .nil) (.o2 .cons (.o2 .cons (.int 3) .nil) .nil)))] [.sc (.int .i64)]
 (.ret [(.o2 .cons (.o1 (.fld 0) (.var 1)) (.o2 .cons (.o1 (.fld 1) (.var 1)) (.o2 .cons (.var 3) (.o2 .cons (.o1 (.fld 3) (.var 1)) .nil))))]))
 (.br (.o2 .eq (.var 2) (.int 1))
  (.call [] (.fn 189) [.cur (.o1 (.fld 0) (.var 0)), .sc (.sl [(.int .i64)]) (.o2 .cons (.o2 .cons (.int (-1)) .nil) (.o2 .cons (.o2 .cons (.int 0) .nil) (.o2 .cons (.o2 .cons (.int 9999) .nil) (.o2 .cons (.o2 .cons (.int 10000) .nil) .nil))))] [.sc (.int .i64)]
  (.ret [(.o2 .cons (.o1 (.fld 0) (.var 1)) (.o2 .cons (.o1 (.fld 1) (.var 1)) (.o2 .cons (.o1 (.fld 2) (.var 1)) (.o2 .cons (.var 3) .nil))))]))
  (.br (.o2 .eq (.var 2) (.int 2))
   (.call [] (.fn 133) [.cur (.o1 (.fld 0) (.var 0))] [.sc (.int .i64)]
   (.need [] (.o2 (.fits 24) (.o1 .len (.o1 (.fld 1) (.var 1))) (.o1 .len (.o2 .cons (.o2 .cons (.var 3) (.o2 .cons (.int 0) (.o2 .cons (.bool false) .nil))) .nil)))
   (.ret [(.o2 .cons (.o1 (.fld 0) (.var 1)) (.o2 .cons (.o2 .app (.o1 (.fld 1) (.var 1)) (.o2 .cons (.o2 .cons (.var 3) (.o2 .cons (.int 0) (.o2 .cons (.bool false) .nil))) .nil)) (.o2 .cons (.o1 (.fld 2) (.var 1)) (.o2 .cons (.o1 (.fld 3) (.var 1)) .nil))))])))
   (.br (.o2 .eq (.var 2) (.int 3))
    (.need [] (.o2 .le (.int 0) (.int 0))
    (.need [] (.o2 .lt (.int 0) (.o1 .len (.o1 (.fld 1) (.var 1))))
    (.call [] (.fn 133) [.cur (.o1 (.fld 0) (.var 0))] [.sc (.int .i64)]
    (.ret [(.o2 .cons (.o1 (.fld 0) (.var 1)) (.o2 .cons (.o3 (.setC 1) (.o1 (.fld 1) (.var 1)) (.int 0) (.var 3)) (.o2 .cons (.o1 (.fld 2) (.var 1)) (.o2 .cons (.o1 (.fld 3) (.var 1)) .nil))))]))))
    (.br (.o2 .eq (.var 2) (.int 4))
     (.call [] (.fn 194) [.cur (.o1 (.fld 0) (.var 0))] [.st [(.int .i64), (.int .i64), (.int .i64), (.int .i64), (.int .i64), (.int .i64), (.int .i64), (.int .i64), (.int .i64), (.int .i64), (.int .i64), .bool, .bool]]
     (.need [] (.o2 (.fits 96) (.o1 .len (.o1 (.fld 0) (.var 1))) (.o1 .len (.o2 .cons (.o2 .cons (.o1 (.fld 0) (.var 3)) (.o2 .cons (.o1 (.fld 1) (.var 3)) (.o2 .cons (.o1 (.fld 2) (.var 3)) (.o2 .cons (.o1 (.fld 3) (.var 3)) (.o2 .cons (.o1 (.fld 4) (.var 3)) (.o2 .cons (.o1 (.fld 5) (.var 3)) (.o2 .cons (.o1 (.fld 6) (.var 3)) (.o2 .cons (.o1 (.fld 7) (.var 3)) (.o2 .cons (.o1 (.fld 8) (.var 3)) (.o2 .cons (.o1 (.fld 9) (.var 3)) (.o2 .cons (.o1 (.fld 10) (.var 3)) (.o2 .cons (.o1 (.fld 11) (.var 3)) (.o2 .cons (.o1 (.fld 12) (.var 3)) .nil))))))))))))) .nil)))
     (.ret [(.o2 .cons (.o2 .app (.o1 (.fld 0) (.var 1)) (.o2 .cons (.o2 .cons (.o1 (.fld 0) (.var 3)) (.o2 .cons (.o1 (.fld 1) (.var 3)) (.o2 .cons (.o1 (.fld 2) (.var 3)) (.o2 .cons (.o1 (.fld 3) (.var 3)) (.o2 .cons (.o1 (.fld 4) (.var 3)) (.o2 .cons (.o1 (.fld 5) (.var 3)) (.o2 .cons (.o1 (.fld 6) (.var 3)) (.o2 .cons (.o1 (.fld 7) (.var 3)) (.o2 .cons (.o1 (.fld 8) (.var 3)) (.o2 .cons (.o1 (.fld 9) (.var 3)) (.o2 .cons (.o1 (.fld 10) (.var 3)) (.o2 .cons (.o1 (.fld 11) (.var 3)) (.o2 .cons (.o1 (.fld 12) (.var 3)) .nil))))))))))))) .nil)) (.o2 .cons (.o1 (.fld 1) (.var 1)) (.o2 .cons (.o1 (.fld 2) (.var 1)) (.o2 .cons (.o1 (.fld 3) (.var 1)) .nil))))])))
     (.br (.o2 .eq (.var 2) (.int 5))
      (.need [] (.o2 .le (.int 0) (.int 1))
      (.need [] (.o2 .le (.int 1) (.o1 .len (.o1 (.fld 1) (.var 1))))
      (.ret [(.o2 .cons (.o1 (.fld 0) (.var 1)) (.o2 .cons (.o2 .take (.o1 (.fld 1) (.var 1)) (.int 1)) (.o2 .cons (.o1 (.fld 2) (.var 1)) (.o2 .cons (.o1 (.fld 3) (.var 1)) .nil))))])))
      (.br (.o2 .eq (.var 2) (.int 6))
       (.need [] (.o2 .le (.int 0) (.int 0))
       (.need [] (.o2 .lt (.int 0) (.o1 .len (.o1 (.fld 0) (.var 1))))
       (.call [] (.fn 194) [.cur (.o1 (.fld 0) (.var 0))] [.st [(.int .i64), (.int .i64), (.int .i64), (.int .i64), (.int .i64), (.int .i64), (.int .i64), (.int .i64), (.int .i64), (.int .i64), (.int .i64), .bool, .bool]]
       (.ret [(.o2 .cons (.o3 .setE (.o1 (.fld 0) (.var 1)) (.int 0) (.o2 .cons (.o1 (.fld 0) (.var 3)) (.o2 .cons (.o1 (.fld 1) (.var 3)) (.o2 .cons (.o1 (.fld 2) (.var 3)) (.o2 .cons (.o1 (.fld 3) (.var 3)) (.o2 .cons (.o1 (.fld 4) (.var 3)) (.o2 .cons (.o1 (.fld 5) (.var 3)) (.o2 .cons (.o1 (.fld 6) (.var 3)) (.o2 .cons (.o1 (.fld 7) (.var 3)) (.o2 .cons (.o1 (.fld 8) (.var 3)) (.o2 .cons (.o1 (.fld 9) (.var 3)) (.o2 .cons (.o1 (.fld 10) (.var 3)) (.o2 .cons (.o1 (.fld 11) (.var 3)) (.o2 .cons (.o1 (.fld 12) (.var 3)) .nil)))))))))))))) (.o2 .cons (.o1 (.fld 1) (.var 1)) (.o2 .cons (.o1 (.fld 2) (.var 1)) (.o2 .cons (.o1 (.fld 3) (.var 1)) .nil))))]))))
       (.br (.o2 .eq (.var 2) (.int 7))
        (.loop 0 [(.int 40), (.o1 (.fld 0) (.var 1))]
         (.br (.o2 .lt (.var 3) (.int 46))
          (.call [] (.fn 192) [.cur (.o1 (.fld 0) (.var 0)), .sc (.int .i64) (.var 3)] [.st [(.int .i64), (.int .i64), (.int .i64), (.int .i64), (.int .i64), (.int .i64), (.int .i64), (.int .i64), (.int .i64), (.int .i64), (.int .i64), .bool, .bool]]
          (.need [] (.o2 (.fits 96) (.o1 .len (.var 4)) (.o1 .len (.o2 .cons (.o2 .cons (.o1 (.fld 0) (.var 5)) (.o2 .cons (.o1 (.fld 1) (.var 5)) (.o2 .cons (.o1 (.fld 2) (.var 5)) (.o2 .cons (.o1 (.fld 3) (.var 5)) (.o2 .cons (.o1 (.fld 4) (.var 5)) (.o2 .cons (.o1 (.fld 5) (.var 5)) (.o2 .cons (.o1 (.fld 6) (.var 5)) (.o2 .cons (.o1 (.fld 7) (.var 5)) (.o2 .cons (.o1 (.fld 8) (.var 5)) (.o2 .cons (.o1 (.fld 9) (.var 5)) (.o2 .cons (.o1 (.fld 10) (.var 5)) (.o2 .cons (.o1 (.fld 11) (.var 5)) (.o2 .cons (.o1 (.fld 12) (.var 5)) .nil))))))))))))) .nil)))
          (.cont 0 [(.o2 (.add .i64) (.var 3) (.int 1)), (.o2 .app (.var 4) (.o2 .cons (.o2 .cons (.o1 (.fld 0) (.var 5)) (.o2 .cons (.o1 (.fld 1) (.var 5)) (.o2 .cons (.o1 (.fld 2) (.var 5)) (.o2 .cons (.o1 (.fld 3) (.var 5)) (.o2 .cons (.o1 (.fld 4) (.var 5)) (.o2 .cons (.o1 (.fld 5) (.var 5)) (.o2 .cons (.o1 (.fld 6) (.var 5)) (.o2 .cons (.o1 (.fld 7) (.var 5)) (.o2 .cons (.o1 (.fld 8) (.var 5)) (.o2 .cons (.o1 (.fld 9) (.var 5)) (.o2 .cons (.o1 (.fld 10) (.var 5)) (.o2 .cons (.o1 (.fld 11) (.var 5)) (.o2 .cons (.o1 (.fld 12) (.var 5)) .nil))))))))))))) .nil))])))
          (.ret [(.o2 .cons (.var 4) (.o2 .cons (.o1 (.fld 1) (.var 1)) (.o2 .cons (.o1 (.fld 2) (.var 1)) (.o2 .cons (.o1 (.fld 3) (.var 1)) .nil))))])))
        (.ret [(.o2 .cons (.o1 (.fld 0) (.var 1)) (.o2 .cons (.o1 (.fld 1) (.var 1)) (.o2 .cons (.o1 (.fld 2) (.var 1)) (.o2 .cons (.o1 (.fld 3) (.var 1)) .nil))))])))))))))))
theorem sig_127 : sigOf Try.prog md 127 [] = some ([.cur], [.st [(.sl [(.int .i64), (.int .i64), (.int .i64), (.int .i64), (.int .i64), (.int .i64), (.int .i64), (.int .i64), (.int .i64), (.int .i64), (.int .i64), .bool, .bool]), (.sl [(.int .i64), (.int .i64), .bool]), (.int .i64), (.int .i64)]], tree_127) := by kernel_rfl
/- spec.DrawTarget -/
def tree_54 : T :=
(.call [] (.fn 113) [.sc (.sl [(.int .u8)]) (.var 0)] [.cur]
(.call [] (.fn 127) [.cur (.var 1)] [.st [(.sl [(.int .i64), (.int .i64), (.int .i64), (.int .i64), (.int .i64), (.int .i64), (.int .i64), (.int .i64), (.int .i64), (.int .i64), (.int .i64), .bool, .bool]), (.sl [(.int .i64), (.int .i64), .bool]), (.int .i64), (.int .i64)]]
(.call [] (.fn 148) [.cur (.var 1), .st [(.sl [(.int .i64), (.int .i64), (.int .i64), (.int .i64), (.int .i64), (.int .i64), (.int .i64), (.int .i64), (.int .i64), (.int .i64), (.int .i64), .bool, .bool]), (.sl [(.int .i64), (.int .i64), .bool]), (.int .i64), (.int .i64)] (.o2 .cons (.o1 (.fld 0) (.var 2)) (.o2 .cons (.o1 (.fld 1) (.var 2)) (.o2 .cons (.o1 (.fld 2) (.var 2)) (.o2 .cons (.o1 (.fld 3) (.var 2)) .nil))))] [.st [(.int .i64), (.int .i64), (.int .i64), (.int .i64), (.int .i64), (.int .i64), .bool]]
(.ret [(.o2 .cons (.o1 (.fld 0) (.var 2)) (.o2 .cons (.o1 (.fld 1) (.var 2)) (.o2 .cons (.o1 (.fld 2) (.var 2)) (.o2 .cons (.o1 (.fld 3) (.var 2)) .nil)))), (.o2 .cons (.o1 (.fld 0) (.var 3)) (.o2 .cons (.o1 (.fld 1) (.var 3)) (.o2 .cons (.o1 (.fld 2) (.var 3)) (.o2 .cons (.o1 (.fld 3) (.var 3)) (.o2 .cons (.o1 (.fld 4) (.var 3)) (.o2 .cons (.o1 (.fld 5) (.var 3)) (.o2 .cons (.o1 (.fld 6) (.var 3)) .nil)))))))]))))
theorem sig_54 : sigOf Try.prog md 54 [] = some ([.sc (.sl [(.int .u8)])], [.st [(.sl [(.int .i64), (.int .i64), (.int .i64), (.int .i64), (.int .i64), (.int .i64), (.int .i64), (.int .i64), (.int .i64), (.int .i64), (.int .i64), .bool, .bool]), (.sl [(.int .i64), (.int .i64), .bool]), (.int .i64), (.int .i64)], .st [(.int .i64), (.int .i64), (.int .i64), (.int .i64), (.int .i64), (.int .i64), .bool]], tree_54) := by kernel_rfl
/- spec.DrawSource -/
def tree_55 : T :=
(.call [] (.fn 113) [.sc (.sl [(.int .u8)]) (.var 0)] [.cur]
(.call [] (.fn 127) [.cur (.var 1)] [.st [(.sl [(.int .i64), (.int .i64), (.int .i64), (.int .i64), (.int .i64), (.int .i64), (.int .i64), (.int .i64), (.int .i64), (.int .i64), (.int .i64), .bool, .bool]), (.sl [(.int .i64), (.int .i64), .bool]), (.int .i64), (.int .i64)]]
(.call [] (.fn 148) [.cur (.var 1), .st [(.sl [(.int .i64), (.int .i64), (.int .i64), (.int .i64), (.int .i64), (.int .i64), (.int .i64), (.int .i64), (.int .i64), (.int .i64), (.int .i64), .bool, .bool]), (.sl [(.int .i64), (.int .i64), .bool]), (.int .i64), (.int .i64)] (.o2 .cons (.o1 (.fld 0) (.var 2)) (.o2 .cons (.o1 (.fld 1) (.var 2)) (.o2 .cons (.o1 (.fld 2) (.var 2)) (.o2 .cons (.o1 (.fld 3) (.var 2)) .nil))))] [.st [(.int .i64), (.int .i64), (.int .i64), (.int .i64), (.int .i64), (.int .i64), .bool]]
(.ret [(.o2 .cons (.o1 (.fld 0) (.var 2)) (.o2 .cons (.o1 (.fld 1) (.var 2)) (.o2 .cons (.o1 (.fld 2) (.var 2)) (.o2 .cons (.o1 (.fld 3) (.var 2)) .nil)))), (.o2 .cons (.o1 (.fld 0) (.var 3)) (.o2 .cons (.o1 (.fld 1) (.var 3)) (.o2 .cons (.o1 (.fld 2) (.var 3)) (.o2 .cons (.o1 (.fld 3) (.var 3)) (.o2 .cons (.o1 (.fld 4) (.var 3)) (.o2 .cons (.o1 (.fld 5) (.var 3)) (.o2 .cons (.o1 (.fld 6) (.var 3)) .nil)))))))]))))
theorem sig_55 : sigOf Try.prog md 55 [] = some ([.sc (.sl [(.int .u8)])], [.st [(.sl [(.int .i64), (.int .i64), (.int .i64), (.int .i64), (.int .i64), (.int .i64), (.int .i64), (.int .i64), (.int .i64), (.int .i64), (.int .i64), .bool, .bool]), (.sl [(.int .i64), (.int .i64), .bool]), (.int .i64), (.int .i64)], .st [(.int .i64), (.int .i64), (.int .i64), (.int .i64), (.int .i64), (.int .i64), .bool]], tree_55) := by kernel_rfl
/- spec.DrawWithN -/
def tree_56 : T :=
(.call [] (.fn 113) [.sc (.sl [(.int .u8)]) (.var 0)] [.cur]
(.call [] (.fn 148) [.cur (.var 1), .st [(.sl [(.int .i64), (.int .i64), (.int .i64), (.int .i64), (.int .i64), (.int .i64), (.int .i64), (.int .i64), (.int .i64), (.int .i64), (.int .i64), .bool, .bool]), (.sl [(.int .i64), (.int .i64), .bool]), (.int .i64), (.int .i64)] (.o2 .cons .nil (.o2 .cons .nil (.o2 .cons (.int 0) (.o2 .cons (.int 0) .nil))))] [.st [(.int .i64), (.int .i64), (.int .i64), (.int .i64), (.int .i64), (.int .i64), .bool]]
(.call [] (.fn 133) [.cur (.var 1)] [.sc (.int .i64)]
(.ret [(.o2 .cons (.o1 (.fld 0) (.var 2)) (.o2 .cons (.o1 (.fld 1) (.var 2)) (.o2 .cons (.o1 (.fld 2) (.var 2)) (.o2 .cons (.o1 (.fld 3) (.var 2)) (.o2 .cons (.o1 (.fld 4) (.var 2)) (.o2 .cons (.o1 (.fld 5) (.var 2)) (.o2 .cons (.o1 (.fld 6) (.var 2)) .nil))))))), (.var 3)]))))
theorem sig_56 : sigOf Try.prog md 56 [] = some ([.sc (.sl [(.int .u8)])], [.st [(.int .i64), (.int .i64), (.int .i64), (.int .i64), (.int .i64), (.int .i64), .bool], .sc (.int .i64)], tree_56) := by kernel_rfl
/- impl.Upto -/
def tree_44 : T :=
(.ret [(.o2 .max (.int 0) (.o2 .min (.var 0) (.var 1)))])
theorem sig_44 : sigOf Try.prog md 44 [] = some ([.sc (.int .i64), .sc (.int .i64)], [.sc (.int .i64)], tree_44) := by kernel_rfl
/- impl.WithN -/
def tree_57 : T :=
(.call [] (.fn 44) [.sc (.int .i64) (.var 1), .sc (.int .i64) (.int 2147483647)] [.sc (.int .i64)]
(.ret [(.o2 .cons (.o1 (.fld 0) (.var 0)) (.o2 .cons (.o1 (.fld 1) (.var 0)) (.o2 .cons (.o1 (.fld 2) (.var 0)) (.o2 .cons (.o1 (.fld 3) (.var 0)) (.o2 .cons (.var 2) (.o2 .cons (.o1 (.fld 5) (.var 0)) (.o2 .cons (.o1 (.fld 6) (.var 0)) .nil)))))))]))
theorem sig_57 : sigOf Try.prog md 57 [] = some ([.st [(.int .i64), (.int .i64), (.int .i64), (.int .i64), (.int .i64), (.int .i64), .bool], .sc (.int .i64)], [.st [(.int .i64), (.int .i64), (.int .i64), (.int .i64), (.int .i64), (.int .i64), .bool]], tree_57) := by kernel_rfl
/- impl.isAmount -/
def tree_125 : T :=
(.call [] (.fn 123) [.sc (.int .i64) (.var 0), .sc (.int .i64) (.int 0), .sc (.int .i64) (.int 2147483647)] [.sc .bool]
(.ret [(.var 1)]))
theorem sig_125 : sigOf Try.prog md 125 [] = some ([.sc (.int .i64)], [.sc .bool], tree_125) := by kernel_rfl
/- impl.isId -/
def tree_142 : T :=
(.call [] (.fn 123) [.sc (.int .i64) (.var 0), .sc (.int .i64) (.int 1), .sc (.int .i64) (.int 99)] [.sc .bool]
(.ret [(.var 1)]))
theorem sig_142 : sigOf Try.prog md 142 [] = some ([.sc (.int .i64)], [.sc .bool], tree_142) := by kernel_rfl
/- impl.isZone -/
def tree_144 : T :=
(.call [] (.fn 123) [.sc (.int .i64) (.var 0), .sc (.int .i64) (.int 1), .sc (.int .i64) (.int 4)] [.sc .bool]
(.ret [(.var 1)]))
theorem sig_144 : sigOf Try.prog md 144 [] = some ([.sc (.int .i64)], [.sc .bool], tree_144) := by kernel_rfl
/- impl.onPiece -/
def tree_150 : T :=
(.call [] (.fn 142) [.sc (.int .i64) (.o1 (.fld 2) (.var 0))] [.sc .bool]
(.ret [(.o2 .band (.var 1) (.o2 .eq (.o1 (.fld 3) (.var 0)) (.int (-1))))]))
theorem sig_150 : sigOf Try.prog md 150 [] = some ([.st [(.int .i64), (.int .i64), (.int .i64), (.int .i64), (.int .i64), (.int .i64), .bool]], [.sc .bool], tree_150) := by kernel_rfl
/- impl.isPlayer -/
def tree_143 : T :=
(.call [] (.fn 123) [.sc (.int .i64) (.var 0), .sc (.int .i64) (.int 0), .sc (.int .i64) (.int 2)] [.sc .bool]
(.ret [(.var 1)]))
theorem sig_143 : sigOf Try.prog md 143 [] = some ([.sc (.int .i64)], [.sc .bool], tree_143) := by kernel_rfl
/- impl.onPlayer -/
def tree_151 : T :=
(.call [((.o2 .eq (.o1 (.fld 2) (.var 0)) (.int 0)), true)] (.fn 143) [.sc (.int .i64) (.o1 (.fld 3) (.var 0))] [.sc .bool]
(.ret [(.o2 .band (.o2 .eq (.o1 (.fld 2) (.var 0)) (.int 0)) (.var 1))]))
theorem sig_151 : sigOf Try.prog md 151 [] = some ([.st [(.int .i64), (.int .i64), (.int .i64), (.int .i64), (.int .i64), (.int .i64), .bool]], [.sc .bool], tree_151) := by kernel_rfl
/- impl.EventOk -/
def tree_58 : T :=
(.call [] (.fn 125) [.sc (.int .i64) (.o1 (.fld 4) (.var 0))] [.sc .bool]
(.br (.o2 .bor (.o2 .bor (.o1 .not (.var 1)) (.o2 .band (.o2 .ne (.o1 (.fld 0) (.var 0)) (.int 1)) (.o2 .ne (.o1 (.fld 1) (.var 0)) (.int 0)))) (.o2 .band (.o2 .ne (.o1 (.fld 0) (.var 0)) (.int 2)) (.o2 .bor (.o2 .ne (.o1 (.fld 5) (.var 0)) (.int 0)) (.o1 (.fld 6) (.var 0)))))
 (.ret [(.bool false)])
 (.br (.o2 .eq (.o1 (.fld 0) (.var 0)) (.int 1))
  (.call [] (.fn 142) [.sc (.int .i64) (.o1 (.fld 1) (.var 0))] [.sc .bool]
  (.call [((.var 2), true)] (.fn 150) [.st [(.int .i64), (.int .i64), (.int .i64), (.int .i64), (.int .i64), (.int .i64), .bool] (.o2 .cons (.o1 (.fld 0) (.var 0)) (.o2 .cons (.o1 (.fld 1) (.var 0)) (.o2 .cons (.o1 (.fld 2) (.var 0)) (.o2 .cons (.o1 (.fld 3) (.var 0)) (.o2 .cons (.o1 (.fld 4) (.var 0)) (.o2 .cons (.o1 (.fld 5) (.var 0)) (.o2 .cons (.o1 (.fld 6) (.var 0)) .nil)))))))] [.sc .bool]
  (.call [((.var 2), true), ((.var 3), false)] (.fn 151) [.st [(.int .i64), (.int .i64), (.int .i64), (.int .i64), (.int .i64), (.int .i64), .bool] (.o2 .cons (.o1 (.fld 0) (.var 0)) (.o2 .cons (.o1 (.fld 1) (.var 0)) (.o2 .cons (.o1 (.fld 2) (.var 0)) (.o2 .cons (.o1 (.fld 3) (.var 0)) (.o2 .cons (.o1 (.fld 4) (.var 0)) (.o2 .cons (.o1 (.fld 5) (.var 0)) (.o2 .cons (.o1 (.fld 6) (.var 0)) .nil)))))))] [.sc .bool]
  (.ret [(.o2 .band (.var 2) (.o2 .bor (.var 3) (.var 4)))]))))
  (.br (.o2 .eq (.o1 (.fld 0) (.var 0)) (.int 2))
   (.br (.o2 .eq (.o1 (.fld 5) (.var 0)) (.int 2))
    (.call [] (.fn 150) [.st [(.int .i64), (.int .i64), (.int .i64), (.int .i64), (.int .i64), (.int .i64), .bool] (.o2 .cons (.o1 (.fld 0) (.var 0)) (.o2 .cons (.o1 (.fld 1) (.var 0)) (.o2 .cons (.o1 (.fld 2) (.var 0)) (.o2 .cons (.o1 (.fld 3) (.var 0)) (.o2 .cons (.o1 (.fld 4) (.var 0)) (.o2 .cons (.o1 (.fld 5) (.var 0)) (.o2 .cons (.o1 (.fld 6) (.var 0)) .nil)))))))] [.sc .bool]
    (.ret [(.o2 .band (.var 2) (.o2 .le (.o1 (.fld 4) (.var 0)) (.int 99)))]))
    (.call [] (.fn 150) [.st [(.int .i64), (.int .i64), (.int .i64), (.int .i64), (.int .i64), (.int .i64), .bool] (.o2 .cons (.o1 (.fld 0) (.var 0)) (.o2 .cons (.o1 (.fld 1) (.var 0)) (.o2 .cons (.o1 (.fld 2) (.var 0)) (.o2 .cons (.o1 (.fld 3) (.var 0)) (.o2 .cons (.o1 (.fld 4) (.var 0)) (.o2 .cons (.o1 (.fld 5) (.var 0)) (.o2 .cons (.o1 (.fld 6) (.var 0)) .nil)))))))] [.sc .bool]
    (.call [((.var 2), true)] (.fn 144) [.sc (.int .i64) (.o1 (.fld 5) (.var 0))] [.sc .bool]
    (.ret [(.o2 .band (.o2 .band (.o2 .band (.var 2) (.var 3)) (.o2 .eq (.o1 (.fld 4) (.var 0)) (.int 0))) (.o1 .not (.o1 (.fld 6) (.var 0))))]))))
   (.br (.o2 .eq (.o1 (.fld 0) (.var 0)) (.int 3))
    (.br (.o2 .eq (.o1 (.fld 0) (.var 0)) (.int 3))
     (.call [] (.fn 151) [.st [(.int .i64), (.int .i64), (.int .i64), (.int .i64), (.int .i64), (.int .i64), .bool] (.o2 .cons (.o1 (.fld 0) (.var 0)) (.o2 .cons (.o1 (.fld 1) (.var 0)) (.o2 .cons (.o1 (.fld 2) (.var 0)) (.o2 .cons (.o1 (.fld 3) (.var 0)) (.o2 .cons (.o1 (.fld 4) (.var 0)) (.o2 .cons (.o1 (.fld 5) (.var 0)) (.o2 .cons (.o1 (.fld 6) (.var 0)) .nil)))))))] [.sc .bool]
     (.ret [(.var 2)]))
     (.br (.o2 .eq (.o1 (.fld 0) (.var 0)) (.int 5))
      (.br (.o2 .eq (.o1 (.fld 0) (.var 0)) (.int 5))
       (.call [] (.fn 150) [.st [(.int .i64), (.int .i64), (.int .i64), (.int .i64), (.int .i64), (.int .i64), .bool] (.o2 .cons (.o1 (.fld 0) (.var 0)) (.o2 .cons (.o1 (.fld 1) (.var 0)) (.o2 .cons (.o1 (.fld 2) (.var 0)) (.o2 .cons (.o1 (.fld 3) (.var 0)) (.o2 .cons (.o1 (.fld 4) (.var 0)) (.o2 .cons (.o1 (.fld 5) (.var 0)) (.o2 .cons (.o1 (.fld 6) (.var 0)) .nil)))))))] [.sc .bool]
       (.ret [(.var 2)]))
       (.ret [(.bool false)]))
      (.br (.o2 .eq (.o1 (.fld 0) (.var 0)) (.int 6))
       (.call [] (.fn 150) [.st [(.int .i64), (.int .i64), (.int .i64), (.int .i64), (.int .i64), (.int .i64), .bool] (.o2 .cons (.o1 (.fld 0) (.var 0)) (.o2 .cons (.o1 (.fld 1) (.var 0)) (.o2 .cons (.o1 (.fld 2) (.var 0)) (.o2 .cons (.o1 (.fld 3) (.var 0)) (.o2 .cons (.o1 (.fld 4) (.var 0)) (.o2 .cons (.o1 (.fld 5) (.var 0)) (.o2 .cons (.o1 (.fld 6) (.var 0)) .nil)))))))] [.sc .bool]
       (.ret [(.var 2)]))
       (.ret [(.bool false)]))))
    (.br (.o2 .eq (.o1 (.fld 0) (.var 0)) (.int 4))
     (.call [] (.fn 151) [.st [(.int .i64), (.int .i64), (.int .i64), (.int .i64), (.int .i64), (.int .i64), .bool] (.o2 .cons (.o1 (.fld 0) (.var 0)) (.o2 .cons (.o1 (.fld 1) (.var 0)) (.o2 .cons (.o1 (.fld 2) (.var 0)) (.o2 .cons (.o1 (.fld 3) (.var 0)) (.o2 .cons (.o1 (.fld 4) (.var 0)) (.o2 .cons (.o1 (.fld 5) (.var 0)) (.o2 .cons (.o1 (.fld 6) (.var 0)) .nil)))))))] [.sc .bool]
     (.ret [(.var 2)]))
     (.br (.o2 .eq (.o1 (.fld 0) (.var 0)) (.int 5))
      (.br (.o2 .eq (.o1 (.fld 0) (.var 0)) (.int 5))
       (.call [] (.fn 150) [.st [(.int .i64), (.int .i64), (.int .i64), (.int .i64), (.int .i64), (.int .i64), .bool] (.o2 .cons (.o1 (.fld 0) (.var 0)) (.o2 .cons (.o1 (.fld 1) (.var 0)) (.o2 .cons (.o1 (.fld 2) (.var 0)) (.o2 .cons (.o1 (.fld 3) (.var 0)) (.o2 .cons (.o1 (.fld 4) (.var 0)) (.o2 .cons (.o1 (.fld 5) (.var 0)) (.o2 .cons (.o1 (.fld 6) (.var 0)) .nil)))))))] [.sc .bool]
       (.ret [(.var 2)]))
       (.ret [(.bool false)]))
      (.br (.o2 .eq (.o1 (.fld 0) (.var 0)) (.int 6))
       (.call [] (.fn 150) [.st [(.int .i64), (.int .i64), (.int .i64), (.int .i64), (.int .i64), (.int .i64), .bool] (.o2 .cons (.o1 (.fld 0) (.var 0)) (.o2 .cons (.o1 (.fld 1) (.var 0)) (.o2 .cons (.o1 (.fld 2) (.var 0)) (.o2 .cons (.o1 (.fld 3) (.var 0)) (.o2 .cons (.o1 (.fld 4) (.var 0)) (.o2 .cons (.o1 (.fld 5) (.var 0)) (.o2 .cons (.o1 (.fld 6) (.var 0)) .nil)))))))] [.sc .bool]
       (.ret [(.var 2)]))
       (.ret [(.bool false)])))))))))
theorem sig_58 : sigOf Try.prog md 58 [] = some ([.st [(.int .i64), (.int .i64), (.int .i64), (.int .i64), (.int .i64), (.int .i64), .bool]], [.sc .bool], tree_58) := by kernel_rfl
/- spec.l1In -/
def tree_126 : T :=
(.ret [(.o2 .band (.o2 .ge (.var 0) (.var 1)) (.o2 .le (.var 0) (.var 2)))])
theorem sig_126 : sigOf Try.prog md 126 [] = some ([.sc (.int .i64), .sc (.int .i64), .sc (.int .i64)], [.sc .bool], tree_126) := by kernel_rfl
/- spec.EventOk -/
def tree_59 : T :=
(.call [] (.fn 126) [.sc (.int .i64) (.o1 (.fld 2) (.var 0)), .sc (.int .i64) (.int 1), .sc (.int .i64) (.int 99)] [.sc .bool]
(.call [((.o2 .eq (.o1 (.fld 2) (.var 0)) (.int 0)), true)] (.fn 126) [.sc (.int .i64) (.o1 (.fld 3) (.var 0)), .sc (.int .i64) (.int 0), .sc (.int .i64) (.int 2)] [.sc .bool]
(.call [] (.fn 126) [.sc (.int .i64) (.o1 (.fld 4) (.var 0)), .sc (.int .i64) (.int 0), .sc (.int .i64) (.int 2147483647)] [.sc .bool]
(.br (.o1 .not (.var 3))
 (.ret [(.bool false)])
 (.br (.o2 .eq (.o1 (.fld 0) (.var 0)) (.int 1))
  (.call [] (.fn 126) [.sc (.int .i64) (.o1 (.fld 1) (.var 0)), .sc (.int .i64) (.int 1), .sc (.int .i64) (.int 99)] [.sc .bool]
  (.ret [(.o2 .band (.o2 .band (.o2 .band (.var 4) (.o2 .bor (.o2 .band (.var 1) (.o2 .eq (.o1 (.fld 3) (.var 0)) (.int (-1)))) (.o2 .band (.o2 .eq (.o1 (.fld 2) (.var 0)) (.int 0)) (.var 2)))) (.o2 .eq (.o1 (.fld 5) (.var 0)) (.int 0))) (.o1 .not (.o1 (.fld 6) (.var 0))))]))
  (.br (.o2 .eq (.o1 (.fld 0) (.var 0)) (.int 2))
   (.call [((.o2 .band (.o2 .eq (.o1 (.fld 1) (.var 0)) (.int 0)) (.o2 .band (.var 1) (.o2 .eq (.o1 (.fld 3) (.var 0)) (.int (-1))))), true)] (.fn 126) [.sc (.int .i64) (.o1 (.fld 5) (.var 0)), .sc (.int .i64) (.int 1), .sc (.int .i64) (.int 4)] [.sc .bool]
   (.ret [(.o2 .band (.o2 .band (.o2 .band (.o2 .band (.o2 .eq (.o1 (.fld 1) (.var 0)) (.int 0)) (.o2 .band (.var 1) (.o2 .eq (.o1 (.fld 3) (.var 0)) (.int (-1))))) (.var 4)) (.o2 .le (.o1 (.fld 4) (.var 0)) (.int 99))) (.o2 .bor (.o2 .eq (.o1 (.fld 5) (.var 0)) (.int 2)) (.o2 .band (.o2 .eq (.o1 (.fld 4) (.var 0)) (.int 0)) (.o1 .not (.o1 (.fld 6) (.var 0))))))]))
   (.br (.o2 .eq (.o1 (.fld 0) (.var 0)) (.int 3))
    (.br (.o2 .eq (.o1 (.fld 0) (.var 0)) (.int 3))
     (.ret [(.o2 .band (.o2 .band (.o2 .band (.o2 .eq (.o1 (.fld 1) (.var 0)) (.int 0)) (.o2 .band (.o2 .eq (.o1 (.fld 2) (.var 0)) (.int 0)) (.var 2))) (.o2 .eq (.o1 (.fld 5) (.var 0)) (.int 0))) (.o1 .not (.o1 (.fld 6) (.var 0))))])
     (.br (.o2 .eq (.o1 (.fld 0) (.var 0)) (.int 5))
      (.br (.o2 .eq (.o1 (.fld 0) (.var 0)) (.int 5))
       (.ret [(.o2 .band (.o2 .band (.o2 .band (.o2 .eq (.o1 (.fld 1) (.var 0)) (.int 0)) (.o2 .band (.var 1) (.o2 .eq (.o1 (.fld 3) (.var 0)) (.int (-1))))) (.o2 .eq (.o1 (.fld 5) (.var 0)) (.int 0))) (.o1 .not (.o1 (.fld 6) (.var 0))))])
       (.ret [(.bool false)]))
      (.br (.o2 .eq (.o1 (.fld 0) (.var 0)) (.int 6))
       (.ret [(.o2 .band (.o2 .band (.o2 .band (.o2 .eq (.o1 (.fld 1) (.var 0)) (.int 0)) (.o2 .band (.var 1) (.o2 .eq (.o1 (.fld 3) (.var 0)) (.int (-1))))) (.o2 .eq (.o1 (.fld 5) (.var 0)) (.int 0))) (.o1 .not (.o1 (.fld 6) (.var 0))))])
       (.ret [(.bool false)]))))
    (.br (.o2 .eq (.o1 (.fld 0) (.var 0)) (.int 4))
     (.ret [(.o2 .band (.o2 .band (.o2 .band (.o2 .eq (.o1 (.fld 1) (.var 0)) (.int 0)) (.o2 .band (.o2 .eq (.o1 (.fld 2) (.var 0)) (.int 0)) (.var 2))) (.o2 .eq (.o1 (.fld 5) (.var 0)) (.int 0))) (.o1 .not (.o1 (.fld 6) (.var 0))))])
     (.br (.o2 .eq (.o1 (.fld 0) (.var 0)) (.int 5))
      (.br (.o2 .eq (.o1 (.fld 0) (.var 0)) (.int 5))
       (.ret [(.o2 .band (.o2 .band (.o2 .band (.o2 .eq (.o1 (.fld 1) (.var 0)) (.int 0)) (.o2 .band (.var 1) (.o2 .eq (.o1 (.fld 3) (.var 0)) (.int (-1))))) (.o2 .eq (.o1 (.fld 5) (.var 0)) (.int 0))) (.o1 .not (.o1 (.fld 6) (.var 0))))])
       (.ret [(.bool false)]))
      (.br (.o2 .eq (.o1 (.fld 0) (.var 0)) (.int 6))
       (.ret [(.o2 .band (.o2 .band (.o2 .band (.o2 .eq (.o1 (.fld 1) (.var 0)) (.int 0)) (.o2 .band (.var 1) (.o2 .eq (.o1 (.fld 3) (.var 0)) (.int (-1))))) (.o2 .eq (.o1 (.fld 5) (.var 0)) (.int 0))) (.o1 .not (.o1 (.fld 6) (.var 0))))])
       (.ret [(.bool false)])))))))))))
theorem sig_59 : sigOf Try.prog md 59 [] = some ([.st [(.int .i64), (.int .i64), (.int .i64), (.int .i64), (.int .i64), (.int .i64), .bool]], [.sc .bool], tree_59) := by kernel_rfl
/- spec.PieceAt -/
def tree_152 : T :=
(.loop 0 [(.int 0)]
 (.know (.o1 (.fld 0) (.var 0))
 (.br (.o2 .lt (.var 2) (.o1 .len (.o1 (.fld 0) (.var 0))))
  (.need [] (.o2 .le (.int 0) (.var 2))
  (.need [] (.o2 .lt (.var 2) (.o1 .len (.o1 (.fld 0) (.var 0))))
  (.br (.o2 .eq (.o1 (.fld 0) (.o2 .idx (.o1 (.fld 0) (.var 0)) (.var 2))) (.var 1))
   (.ret [(.var 2)])
   (.cont 0 [(.o2 (.add .i64) (.var 2) (.int 1))]))))
  (.ret [(.int (-1))]))))
theorem sig_152 : sigOf Try.prog md 152 [] = some ([.st [(.sl [(.int .i64), (.int .i64), (.int .i64), (.int .i64), (.int .i64), (.int .i64), (.int .i64), (.int .i64), (.int .i64), (.int .i64), (.int .i64), .bool, .bool]), (.sl [(.int .i64), (.int .i64), .bool]), (.int .i64), (.int .i64)], .sc (.int .i64)], [.sc (.int .i64)], tree_152) := by kernel_rfl
/- spec.Target -/
def tree_60 : T :=
(.br (.o2 .eq (.o1 (.fld 2) (.var 1)) (.int 0))
 (.know (.o1 (.fld 1) (.var 0))
 (.call [] (.fn 126) [.sc (.int .i64) (.o1 (.fld 3) (.var 1)), .sc (.int .i64) (.int 0), .sc (.int .i64) (.o2 (.sub .i64) (.o1 .len (.o1 (.fld 1) (.var 0))) (.int 1))] [.sc .bool]
 (.br (.o1 .not (.var 2))
  (.ret [(.int (-1))])
  (.ret [(.o1 (.fld 3) (.var 1))]))))
 (.call [] (.fn 152) [.st [(.sl [(.int .i64), (.int .i64), (.int .i64), (.int .i64), (.int .i64), (.int .i64), (.int .i64), (.int .i64), (.int .i64), (.int .i64), (.int .i64), .bool, .bool]), (.sl [(.int .i64), (.int .i64), .bool]), (.int .i64), (.int .i64)] (.o2 .cons (.o1 (.fld 0) (.var 0)) (.o2 .cons (.o1 (.fld 1) (.var 0)) (.o2 .cons (.o1 (.fld 2) (.var 0)) (.o2 .cons (.o1 (.fld 3) (.var 0)) .nil)))), .sc (.int .i64) (.o1 (.fld 2) (.var 1))] [.sc (.int .i64)]
 (.br (.o2 .lt (.var 2) (.int 0))
  (.ret [(.int (-1))])
  (.need [] (.o2 .le (.int 0) (.var 2))
  (.need [] (.o2 .lt (.var 2) (.o1 .len (.o1 (.fld 0) (.var 0))))
  (.ret [(.o1 (.fld 2) (.o2 .idx (.o1 (.fld 0) (.var 0)) (.var 2)))]))))))
theorem sig_60 : sigOf Try.prog md 60 [] = some ([.st [(.sl [(.int .i64), (.int .i64), (.int .i64), (.int .i64), (.int .i64), (.int .i64), (.int .i64), (.int .i64), (.int .i64), (.int .i64), (.int .i64), .bool, .bool]), (.sl [(.int .i64), (.int .i64), .bool]), (.int .i64), (.int .i64)], .st [(.int .i64), (.int .i64), (.int .i64), (.int .i64), (.int .i64), (.int .i64), .bool]], [.sc (.int .i64)], tree_60) := by kernel_rfl
/- impl.Source -/
def tree_61 : T :=
(.call [] (.fn 64) [.st [(.sl [(.int .i64), (.int .i64), (.int .i64), (.int .i64), (.int .i64), (.int .i64), (.int .i64), (.int .i64), (.int .i64), (.int .i64), (.int .i64), .bool, .bool]), (.sl [(.int .i64), (.int .i64), .bool]), (.int .i64), (.int .i64)] (.o2 .cons (.o1 (.fld 0) (.var 0)) (.o2 .cons (.o1 (.fld 1) (.var 0)) (.o2 .cons (.o1 (.fld 2) (.var 0)) (.o2 .cons (.o1 (.fld 3) (.var 0)) .nil)))), .sc (.int .i64) (.o1 (.fld 1) (.var 1))] [.sc (.int .i64)]
(.br (.o2 .bor (.o2 .ne (.o1 (.fld 0) (.var 1)) (.int 1)) (.o2 .lt (.var 2) (.int 0)))
 (.ret [(.o2 .cons (.int 0) (.o2 .cons (.int 0) (.o2 .cons (.int 0) (.o2 .cons (.int 0) (.o2 .cons (.int 0) (.o2 .cons (.int 0) (.o2 .cons (.int 0) (.o2 .cons (.int 0) (.o2 .cons (.int 0) (.o2 .cons (.int 0) (.o2 .cons (.int 0) (.o2 .cons (.bool false) (.o2 .cons (.bool false) .nil)))))))))))))])
 (.need [] (.o2 .le (.int 0) (.var 2))
 (.need [] (.o2 .lt (.var 2) (.o1 .len (.o1 (.fld 0) (.var 0))))
 (.ret [(.o2 .cons (.o1 (.fld 0) (.o2 .idx (.o1 (.fld 0) (.var 0)) (.var 2))) (.o2 .cons (.o1 (.fld 1) (.o2 .idx (.o1 (.fld 0) (.var 0)) (.var 2))) (.o2 .cons (.o1 (.fld 2) (.o2 .idx (.o1 (.fld 0) (.var 0)) (.var 2))) (.o2 .cons (.o1 (.fld 3) (.o2 .idx (.o1 (.fld 0) (.var 0)) (.var 2))) (.o2 .cons (.o1 (.fld 4) (.o2 .idx (.o1 (.fld 0) (.var 0)) (.var 2))) (.o2 .cons (.o1 (.fld 5) (.o2 .idx (.o1 (.fld 0) (.var 0)) (.var 2))) (.o2 .cons (.o1 (.fld 6) (.o2 .idx (.o1 (.fld 0) (.var 0)) (.var 2))) (.o2 .cons (.o1 (.fld 7) (.o2 .idx (.o1 (.fld 0) (.var 0)) (.var 2))) (.o2 .cons (.o1 (.fld 8) (.o2 .idx (.o1 (.fld 0) (.var 0)) (.var 2))) (.o2 .cons (.o1 (.fld 9) (.o2 .idx (.o1 (.fld 0) (.var 0)) (.var 2))) (.o2 .cons (.o1 (.fld 10) (.o2 .idx (.o1 (.fld 0) (.var 0)) (.var 2))) (.o2 .cons (.o1 (.fld 11) (.o2 .idx (.o1 (.fld 0) (.var 0)) (.var 2))) (.o2 .cons (.o1 (.fld 12) (.o2 .idx (.o1 (.fld 0) (.var 0)) (.var 2))) .nil)))))))))))))])))))
theorem sig_61 : sigOf Try.prog md 61 [] = some ([.st [(.sl [(.int .i64), (.int .i64), (.int .i64), (.int .i64), (.int .i64), (.int .i64), (.int .i64), (.int .i64), (.int .i64), (.int .i64), (.int .i64), .bool, .bool]), (.sl [(.int .i64), (.int .i64), .bool]), (.int .i64), (.int .i64)], .st [(.int .i64), (.int .i64), (.int .i64), (.int .i64), (.int .i64), (.int .i64), .bool]], [.st [(.int .i64), (.int .i64), (.int .i64), (.int .i64), (.int .i64), (.int .i64), (.int .i64), (.int .i64), (.int .i64), (.int .i64), (.int .i64), .bool, .bool]], tree_61) := by kernel_rfl
/- spec.Source -/
def tree_62 : T :=
(.call [] (.fn 152) [.st [(.sl [(.int .i64), (.int .i64), (.int .i64), (.int .i64), (.int .i64), (.int .i64), (.int .i64), (.int .i64), (.int .i64), (.int .i64), (.int .i64), .bool, .bool]), (.sl [(.int .i64), (.int .i64), .bool]), (.int .i64), (.int .i64)] (.o2 .cons (.o1 (.fld 0) (.var 0)) (.o2 .cons (.o1 (.fld 1) (.var 0)) (.o2 .cons (.o1 (.fld 2) (.var 0)) (.o2 .cons (.o1 (.fld 3) (.var 0)) .nil)))), .sc (.int .i64) (.o1 (.fld 1) (.var 1))] [.sc (.int .i64)]
(.br (.o2 .bor (.o2 .ne (.o1 (.fld 0) (.var 1)) (.int 1)) (.o2 .lt (.var 2) (.int 0)))
 (.ret [(.o2 .cons (.int 0) (.o2 .cons (.int 0) (.o2 .cons (.int 0) (.o2 .cons (.int 0) (.o2 .cons (.int 0) (.o2 .cons (.int 0) (.o2 .cons (.int 0) (.o2 .cons (.int 0) (.o2 .cons (.int 0) (.o2 .cons (.int 0) (.o2 .cons (.int 0) (.o2 .cons (.bool false) (.o2 .cons (.bool false) .nil)))))))))))))])
 (.need [] (.o2 .le (.int 0) (.var 2))
 (.need [] (.o2 .lt (.var 2) (.o1 .len (.o1 (.fld 0) (.var 0))))
 (.ret [(.o2 .cons (.o1 (.fld 0) (.o2 .idx (.o1 (.fld 0) (.var 0)) (.var 2))) (.o2 .cons (.o1 (.fld 1) (.o2 .idx (.o1 (.fld 0) (.var 0)) (.var 2))) (.o2 .cons (.o1 (.fld 2) (.o2 .idx (.o1 (.fld 0) (.var 0)) (.var 2))) (.o2 .cons (.o1 (.fld 3) (.o2 .idx (.o1 (.fld 0) (.var 0)) (.var 2))) (.o2 .cons (.o1 (.fld 4) (.o2 .idx (.o1 (.fld 0) (.var 0)) (.var 2))) (.o2 .cons (.o1 (.fld 5) (.o2 .idx (.o1 (.fld 0) (.var 0)) (.var 2))) (.o2 .cons (.o1 (.fld 6) (.o2 .idx (.o1 (.fld 0) (.var 0)) (.var 2))) (.o2 .cons (.o1 (.fld 7) (.o2 .idx (.o1 (.fld 0) (.var 0)) (.var 2))) (.o2 .cons (.o1 (.fld 8) (.o2 .idx (.o1 (.fld 0) (.var 0)) (.var 2))) (.o2 .cons (.o1 (.fld 9) (.o2 .idx (.o1 (.fld 0) (.var 0)) (.var 2))) (.o2 .cons (.o1 (.fld 10) (.o2 .idx (.o1 (.fld 0) (.var 0)) (.var 2))) (.o2 .cons (.o1 (.fld 11) (.o2 .idx (.o1 (.fld 0) (.var 0)) (.var 2))) (.o2 .cons (.o1 (.fld 12) (.o2 .idx (.o1 (.fld 0) (.var 0)) (.var 2))) .nil)))))))))))))])))))
theorem sig_62 : sigOf Try.prog md 62 [] = some ([.st [(.sl [(.int .i64), (.int .i64), (.int .i64), (.int .i64), (.int .i64), (.int .i64), (.int .i64), (.int .i64), (.int .i64), (.int .i64), (.int .i64), .bool, .bool]), (.sl [(.int .i64), (.int .i64), .bool]), (.int .i64), (.int .i64)], .st [(.int .i64), (.int .i64), (.int .i64), (.int .i64), (.int .i64), (.int .i64), .bool]], [.st [(.int .i64), (.int .i64), (.int .i64), (.int .i64), (.int .i64), (.int .i64), (.int .i64), (.int .i64), (.int .i64), (.int .i64), (.int .i64), .bool, .bool]], tree_62) := by kernel_rfl
/- spec.Upto -/
def tree_138 : T :=
(.br (.o2 .lt (.var 1) (.var 0))
 (.br (.o2 .lt (.var 1) (.int 0))
  (.ret [(.int 0)])
  (.ret [(.var 1)]))
 (.br (.o2 .lt (.var 0) (.int 0))
  (.ret [(.int 0)])
  (.ret [(.var 0)])))
theorem sig_138 : sigOf Try.prog md 138 [] = some ([.sc (.int .i64), .sc (.int .i64)], [.sc (.int .i64)], tree_138) := by kernel_rfl
/- spec.WithN -/
def tree_63 : T :=
(.call [] (.fn 138) [.sc (.int .i64) (.var 1), .sc (.int .i64) (.int 2147483647)] [.sc (.int .i64)]
(.ret [(.o2 .cons (.o1 (.fld 0) (.var 0)) (.o2 .cons (.o1 (.fld 1) (.var 0)) (.o2 .cons (.o1 (.fld 2) (.var 0)) (.o2 .cons (.o1 (.fld 3) (.var 0)) (.o2 .cons (.var 2) (.o2 .cons (.o1 (.fld 5) (.var 0)) (.o2 .cons (.o1 (.fld 6) (.var 0)) .nil)))))))]))
theorem sig_63 : sigOf Try.prog md 63 [] = some ([.st [(.int .i64), (.int .i64), (.int .i64), (.int .i64), (.int .i64), (.int .i64), .bool], .sc (.int .i64)], [.st [(.int .i64), (.int .i64), (.int .i64), (.int .i64), (.int .i64), (.int .i64), .bool]], tree_63) := by kernel_rfl
/- impl.isTime -/
def tree_155 : T :=
(.call [] (.fn 123) [.sc (.int .i64) (.var 0), .sc (.int .i64) (.int 0), .sc (.int .i64) (.int 9999)] [.sc .bool]
(.ret [(.var 1)]))
theorem sig_155 : sigOf Try.prog md 155 [] = some ([.sc (.int .i64)], [.sc .bool], tree_155) := by kernel_rfl
/- impl.isTraits -/
def tree_124 : T :=
(.call [] (.fn 123) [.sc (.int .i64) (.var 0), .sc (.int .i64) (.int 0), .sc (.int .i64) (.int 63)] [.sc .bool]
(.ret [(.var 1)]))
theorem sig_124 : sigOf Try.prog md 124 [] = some ([.sc (.int .i64)], [.sc .bool], tree_124) := by kernel_rfl
/- impl.PieceOk -/
def tree_156 : T :=
(.call [] (.fn 142) [.sc (.int .i64) (.o1 (.fld 0) (.var 0))] [.sc .bool]
(.call [((.o1 .not (.var 1)), false)] (.fn 143) [.sc (.int .i64) (.o1 (.fld 1) (.var 0))] [.sc .bool]
(.call [((.o2 .bor (.o1 .not (.var 1)) (.o1 .not (.var 2))), false)] (.fn 143) [.sc (.int .i64) (.o1 (.fld 2) (.var 0))] [.sc .bool]
(.call [((.o2 .bor (.o2 .bor (.o1 .not (.var 1)) (.o1 .not (.var 2))) (.o1 .not (.var 3))), false)] (.fn 144) [.sc (.int .i64) (.o1 (.fld 3) (.var 0))] [.sc .bool]
(.call [((.o2 .bor (.o2 .bor (.o2 .bor (.o1 .not (.var 1)) (.o1 .not (.var 2))) (.o1 .not (.var 3))) (.o1 .not (.var 4))), false)] (.fn 155) [.sc (.int .i64) (.o1 (.fld 4) (.var 0))] [.sc .bool]
(.call [((.o2 .bor (.o2 .bor (.o2 .bor (.o2 .bor (.o1 .not (.var 1)) (.o1 .not (.var 2))) (.o1 .not (.var 3))) (.o1 .not (.var 4))) (.o1 .not (.var 5))), false)] (.fn 123) [.sc (.int .i64) (.o1 (.fld 5) (.var 0)), .sc (.int .i64) (.int 0), .sc (.int .i64) (.int 999)] [.sc .bool]
(.call [((.o2 .bor (.o2 .bor (.o2 .bor (.o2 .bor (.o2 .bor (.o1 .not (.var 1)) (.o1 .not (.var 2))) (.o1 .not (.var 3))) (.o1 .not (.var 4))) (.o1 .not (.var 5))) (.o1 .not (.var 6))), false)] (.fn 123) [.sc (.int .i64) (.o1 (.fld 6) (.var 0)), .sc (.int .i64) (.int 0), .sc (.int .i64) (.int 999)] [.sc .bool]
(.call [((.o2 .bor (.o2 .bor (.o2 .bor (.o2 .bor (.o2 .bor (.o2 .bor (.o1 .not (.var 1)) (.o1 .not (.var 2))) (.o1 .not (.var 3))) (.o1 .not (.var 4))) (.o1 .not (.var 5))) (.o1 .not (.var 6))) (.o1 .not (.var 7))), false)] (.fn 124) [.sc (.int .i64) (.o1 (.fld 7) (.var 0))] [.sc .bool]
(.br (.o2 .bor (.o2 .bor (.o2 .bor (.o2 .bor (.o2 .bor (.o2 .bor (.o2 .bor (.o1 .not (.var 1)) (.o1 .not (.var 2))) (.o1 .not (.var 3))) (.o1 .not (.var 4))) (.o1 .not (.var 5))) (.o1 .not (.var 6))) (.o1 .not (.var 7))) (.o1 .not (.var 8)))
 (.ret [(.bool false)])
 (.br (.o2 .ne (.o1 (.fld 3) (.var 0)) (.int 2))
  (.ret [(.o2 .band (.o2 .band (.o2 .band (.o2 .band (.o2 .band (.o2 .eq (.o1 (.fld 2) (.var 0)) (.o1 (.fld 1) (.var 0))) (.o2 .eq (.o1 (.fld 8) (.var 0)) (.int 0))) (.o2 .eq (.o1 (.fld 9) (.var 0)) (.int 0))) (.o2 .eq (.o1 (.fld 10) (.var 0)) (.int 0))) (.o1 .not (.o1 (.fld 11) (.var 0)))) (.o1 .not (.o1 (.fld 12) (.var 0))))])
  (.call [] (.fn 125) [.sc (.int .i64) (.o1 (.fld 8) (.var 0))] [.sc .bool]
  (.call [((.var 9), true)] (.fn 125) [.sc (.int .i64) (.o1 (.fld 9) (.var 0))] [.sc .bool]
  (.call [((.o2 .band (.var 9) (.var 10)), true)] (.fn 125) [.sc (.int .i64) (.o1 (.fld 10) (.var 0))] [.sc .bool]
  (.ret [(.o2 .band (.o2 .band (.var 9) (.var 10)) (.var 11))]))))))))))))))
theorem sig_156 : sigOf Try.prog md 156 [] = some ([.st [(.int .i64), (.int .i64), (.int .i64), (.int .i64), (.int .i64), (.int .i64), (.int .i64), (.int .i64), (.int .i64), (.int .i64), (.int .i64), .bool, .bool]], [.sc .bool], tree_156) := by kernel_rfl
/- impl.Bound -/
def tree_131 : T :=
(.ret [(.o2 .max (.int (-2147483647)) (.o2 .min (.var 0) (.int 2147483647)))])
theorem sig_131 : sigOf Try.prog md 131 [] = some ([.sc (.int .i64)], [.sc (.int .i64)], tree_131) := by kernel_rfl
/- impl.StateOk$1 -/
def tree_158 : T :=
(.call [] (.fn 131) [.sc (.int .i64) (.o1 (.fld 0) (.var 0))] [.sc (.int .i64)]
(.call [((.o2 .ne (.var 1) (.o1 (.fld 0) (.var 0))), false)] (.fn 125) [.sc (.int .i64) (.o1 (.fld 1) (.var 0))] [.sc .bool]
(.ret [(.o2 .bor (.o2 .ne (.var 1) (.o1 (.fld 0) (.var 0))) (.o1 .not (.var 2)))])))
theorem sig_158 : sigOf Try.prog md 158 [] = some ([.st [(.int .i64), (.int .i64), .bool]], [.sc .bool], tree_158) := by kernel_rfl
/- slices.IndexFunc[[]impl.Side,impl.Side] -/
def tree_200 : T :=
(.know (.var 0)
(.loop 0 [(.int 0)]
 (.br (.o2 .lt (.var 2) (.o1 .len (.var 0)))
  (.need [] (.o2 .le (.int 0) (.var 2))
  (.need [] (.o2 .lt (.var 2) (.o1 .len (.var 0)))
  (.call [] (.par 1) [.st [(.int .i64), (.int .i64), .bool] (.o2 .cons (.o1 (.fld 0) (.o2 .idx (.var 0) (.var 2))) (.o2 .cons (.o1 (.fld 1) (.o2 .idx (.var 0) (.var 2))) (.o2 .cons (.o1 (.fld 2) (.o2 .idx (.var 0) (.var 2))) .nil)))] [.sc .bool]
  (.br (.var 3)
   (.ret [(.var 2)])
   (.cont 0 [(.o2 (.add .i64) (.var 2) (.int 1))])))))
  (.ret [(.int (-1))]))))
theorem sig_200 : sigOf Try.prog md 200 [] = some ([.sc (.sl [(.int .i64), (.int .i64), .bool]), .clo], [.sc (.int .i64)], tree_200) := by kernel_rfl
/- slices.ContainsFunc[[]impl.Side,impl.Side] -/
def tree_157 : T :=
(.call [] (.fn 200) [.sc (.sl [(.int .i64), (.int .i64), .bool]) (.var 0), .clop 1] [.sc (.int .i64)]
(.ret [(.o2 .ge (.var 2) (.int 0))]))
theorem sig_157 : sigOf Try.prog md 157 [] = some ([.sc (.sl [(.int .i64), (.int .i64), .bool]), .clo], [.sc .bool], tree_157) := by kernel_rfl
/- impl.StateOk -/
def tree_65 : T :=
(.know (.o1 (.fld 0) (.var 0))
(.call [((.o2 .gt (.o1 .len (.o1 (.fld 0) (.var 0))) (.int 8)), false)] (.fn 123) [.sc (.int .i64) (.o1 .len (.o1 (.fld 1) (.var 0))), .sc (.int .i64) (.int 2), .sc (.int .i64) (.int 3)] [.sc .bool]
(.call [((.o2 .bor (.o2 .gt (.o1 .len (.o1 (.fld 0) (.var 0))) (.int 8)) (.o1 .not (.var 1))), false)] (.fn 129) [.st [(.sl [(.int .i64), (.int .i64), (.int .i64), (.int .i64), (.int .i64), (.int .i64), (.int .i64), (.int .i64), (.int .i64), (.int .i64), (.int .i64), .bool, .bool]), (.sl [(.int .i64), (.int .i64), .bool]), (.int .i64), (.int .i64)] (.o2 .cons (.o1 (.fld 0) (.var 0)) (.o2 .cons (.o1 (.fld 1) (.var 0)) (.o2 .cons (.o1 (.fld 2) (.var 0)) (.o2 .cons (.o1 (.fld 3) (.var 0)) .nil)))), .sc (.int .i64) (.o1 (.fld 2) (.var 0))] [.sc .bool]
(.call [((.o2 .bor (.o2 .bor (.o2 .gt (.o1 .len (.o1 (.fld 0) (.var 0))) (.int 8)) (.o1 .not (.var 1))) (.o1 .not (.var 2))), false)] (.fn 155) [.sc (.int .i64) (.o1 (.fld 3) (.var 0))] [.sc .bool]
(.br (.o2 .bor (.o2 .bor (.o2 .bor (.o2 .gt (.o1 .len (.o1 (.fld 0) (.var 0))) (.int 8)) (.o1 .not (.var 1))) (.o1 .not (.var 2))) (.o1 .not (.var 3)))
 (.ret [(.bool false)])
 (.know (.o1 (.fld 0) (.var 0))
 (.loop 0 [(.int 0)]
  (.br (.o2 .lt (.var 4) (.o1 .len (.o1 (.fld 0) (.var 0))))
   (.need [] (.o2 .le (.int 0) (.var 4))
   (.need [] (.o2 .lt (.var 4) (.o1 .len (.o1 (.fld 0) (.var 0))))
   (.call [] (.fn 156) [.st [(.int .i64), (.int .i64), (.int .i64), (.int .i64), (.int .i64), (.int .i64), (.int .i64), (.int .i64), (.int .i64), (.int .i64), (.int .i64), .bool, .bool] (.o2 .cons (.o1 (.fld 0) (.o2 .idx (.o1 (.fld 0) (.var 0)) (.var 4))) (.o2 .cons (.o1 (.fld 1) (.o2 .idx (.o1 (.fld 0) (.var 0)) (.var 4))) (.o2 .cons (.o1 (.fld 2) (.o2 .idx (.o1 (.fld 0) (.var 0)) (.var 4))) (.o2 .cons (.o1 (.fld 3) (.o2 .idx (.o1 (.fld 0) (.var 0)) (.var 4))) (.o2 .cons (.o1 (.fld 4) (.o2 .idx (.o1 (.fld 0) (.var 0)) (.var 4))) (.o2 .cons (.o1 (.fld 5) (.o2 .idx (.o1 (.fld 0) (.var 0)) (.var 4))) (.o2 .cons (.o1 (.fld 6) (.o2 .idx (.o1 (.fld 0) (.var 0)) (.var 4))) (.o2 .cons (.o1 (.fld 7) (.o2 .idx (.o1 (.fld 0) (.var 0)) (.var 4))) (.o2 .cons (.o1 (.fld 8) (.o2 .idx (.o1 (.fld 0) (.var 0)) (.var 4))) (.o2 .cons (.o1 (.fld 9) (.o2 .idx (.o1 (.fld 0) (.var 0)) (.var 4))) (.o2 .cons (.o1 (.fld 10) (.o2 .idx (.o1 (.fld 0) (.var 0)) (.var 4))) (.o2 .cons (.o1 (.fld 11) (.o2 .idx (.o1 (.fld 0) (.var 0)) (.var 4))) (.o2 .cons (.o1 (.fld 12) (.o2 .idx (.o1 (.fld 0) (.var 0)) (.var 4))) .nil)))))))))))))] [.sc .bool]
   (.call [((.o1 .not (.var 5)), false)] (.fn 129) [.st [(.sl [(.int .i64), (.int .i64), (.int .i64), (.int .i64), (.int .i64), (.int .i64), (.int .i64), (.int .i64), (.int .i64), (.int .i64), (.int .i64), .bool, .bool]), (.sl [(.int .i64), (.int .i64), .bool]), (.int .i64), (.int .i64)] (.o2 .cons (.o1 (.fld 0) (.var 0)) (.o2 .cons (.o1 (.fld 1) (.var 0)) (.o2 .cons (.o1 (.fld 2) (.var 0)) (.o2 .cons (.o1 (.fld 3) (.var 0)) .nil)))), .sc (.int .i64) (.o1 (.fld 1) (.o2 .idx (.o1 (.fld 0) (.var 0)) (.var 4)))] [.sc .bool]
   (.call [((.o2 .bor (.o1 .not (.var 5)) (.o1 .not (.var 6))), false)] (.fn 129) [.st [(.sl [(.int .i64), (.int .i64), (.int .i64), (.int .i64), (.int .i64), (.int .i64), (.int .i64), (.int .i64), (.int .i64), (.int .i64), (.int .i64), .bool, .bool]), (.sl [(.int .i64), (.int .i64), .bool]), (.int .i64), (.int .i64)] (.o2 .cons (.o1 (.fld 0) (.var 0)) (.o2 .cons (.o1 (.fld 1) (.var 0)) (.o2 .cons (.o1 (.fld 2) (.var 0)) (.o2 .cons (.o1 (.fld 3) (.var 0)) .nil)))), .sc (.int .i64) (.o1 (.fld 2) (.o2 .idx (.o1 (.fld 0) (.var 0)) (.var 4)))] [.sc .bool]
   (.need [((.o2 .bor (.o2 .bor (.o2 .bor (.o1 .not (.var 5)) (.o1 .not (.var 6))) (.o1 .not (.var 7))) (.o2 .gt (.o1 (.fld 4) (.o2 .idx (.o1 (.fld 0) (.var 0)) (.var 4))) (.o1 (.fld 3) (.var 0)))), false), ((.o2 .gt (.var 4) (.int 0)), true)] (.o2 .le (.int 0) (.o2 (.sub .i64) (.var 4) (.int 1)))
   (.need [((.o2 .bor (.o2 .bor (.o2 .bor (.o1 .not (.var 5)) (.o1 .not (.var 6))) (.o1 .not (.var 7))) (.o2 .gt (.o1 (.fld 4) (.o2 .idx (.o1 (.fld 0) (.var 0)) (.var 4))) (.o1 (.fld 3) (.var 0)))), false), ((.o2 .gt (.var 4) (.int 0)), true)] (.o2 .lt (.o2 (.sub .i64) (.var 4) (.int 1)) (.o1 .len (.o1 (.fld 0) (.var 0))))
   (.br (.o2 .bor (.o2 .bor (.o2 .bor (.o2 .bor (.o1 .not (.var 5)) (.o1 .not (.var 6))) (.o1 .not (.var 7))) (.o2 .gt (.o1 (.fld 4) (.o2 .idx (.o1 (.fld 0) (.var 0)) (.var 4))) (.o1 (.fld 3) (.var 0)))) (.o2 .band (.o2 .gt (.var 4) (.int 0)) (.o2 .ge (.o1 (.fld 0) (.o2 .idx (.o1 (.fld 0) (.var 0)) (.o2 (.sub .i64) (.var 4) (.int 1)))) (.o1 (.fld 0) (.o2 .idx (.o1 (.fld 0) (.var 0)) (.var 4))))))
    (.ret [(.bool false)])
    (.cont 0 [(.o2 (.add .i64) (.var 4) (.int 1))])))))))))
   (.call [] (.fn 157) [.sc (.sl [(.int .i64), (.int .i64), .bool]) (.o1 (.fld 1) (.var 0)), .clo 158 []] [.sc .bool]
   (.ret [(.o1 .not (.var 5))]))))))))))
theorem sig_65 : sigOf Try.prog md 65 [] = some ([.st [(.sl [(.int .i64), (.int .i64), (.int .i64), (.int .i64), (.int .i64), (.int .i64), (.int .i64), (.int .i64), (.int .i64), (.int .i64), (.int .i64), .bool, .bool]), (.sl [(.int .i64), (.int .i64), .bool]), (.int .i64), (.int .i64)]], [.sc .bool], tree_65) := by kernel_rfl
/- impl.NumText -/
def tree_159 : T :=
(.br (.o2 .band (.o2 .lt (.var 0) (.int 0)) (.o2 .gt (.var 0) (.int (-10))))
 (.call [] (.fn 159) [.sc (.int .i64) (.o1 (.neg .i64) (.var 0))] [.sc .str]
 (.need [] (.o2 .sfits (.str [45]) (.var 1))
 (.ret [(.o2 .scat (.str [45]) (.var 1))])))
 (.br (.o2 .lt (.var 0) (.int 0))
  (.need [] (.o2 .ne (.int 10) (.int 0))
  (.call [] (.fn 159) [.sc (.int .i64) (.o2 (.quo .i64) (.var 0) (.int 10))] [.sc .str]
  (.need [] (.o2 .ne (.int 10) (.int 0))
  (.call [] (.fn 159) [.sc (.int .i64) (.o1 (.neg .i64) (.o2 .rem (.var 0) (.int 10)))] [.sc .str]
  (.need [] (.o2 .sfits (.var 1) (.var 2))
  (.ret [(.o2 .scat (.var 1) (.var 2))]))))))
  (.br (.o2 .lt (.var 0) (.int 10))
   (.ret [(.o1 .chr (.o1 (.conv .i32) (.o2 (.add .i64) (.int 48) (.var 0))))])
   (.need [] (.o2 .ne (.int 10) (.int 0))
   (.call [] (.fn 159) [.sc (.int .i64) (.o2 (.quo .i64) (.var 0) (.int 10))] [.sc .str]
   (.need [] (.o2 .ne (.int 10) (.int 0))
   (.need [] (.o2 .sfits (.var 1) (.o1 .chr (.o1 (.conv .i32) (.o2 (.add .i64) (.int 48) (.o2 .rem (.var 0) (.int 10))))))
   (.ret [(.o2 .scat (.var 1) (.o1 .chr (.o1 (.conv .i32) (.o2 (.add .i64) (.int 48) (.o2 .rem (.var 0) (.int 10))))))]))))))))
theorem sig_159 : sigOf Try.prog md 159 [] = some ([.sc (.int .i64)], [.sc .str], tree_159) := by kernel_rfl
/- impl.EventText -/
def tree_66 : T :=
(.call [] (.fn 58) [.st [(.int .i64), (.int .i64), (.int .i64), (.int .i64), (.int .i64), (.int .i64), .bool] (.o2 .cons (.o1 (.fld 0) (.var 0)) (.o2 .cons (.o1 (.fld 1) (.var 0)) (.o2 .cons (.o1 (.fld 2) (.var 0)) (.o2 .cons (.o1 (.fld 3) (.var 0)) (.o2 .cons (.o1 (.fld 4) (.var 0)) (.o2 .cons (.o1 (.fld 5) (.var 0)) (.o2 .cons (.o1 (.fld 6) (.var 0)) .nil)))))))] [.sc .bool]
(.br (.o1 .not (.var 1))
 (.ret [(.str [])])
 (.br (.o2 .eq (.o1 (.fld 0) (.var 0)) (.int 1))
  (.call [] (.fn 159) [.sc (.int .i64) (.o1 (.fld 1) (.var 0))] [.sc .str]
  (.call [] (.fn 159) [.sc (.int .i64) (.o1 (.fld 4) (.var 0))] [.sc .str]
  (.need [] (.o2 (.fits 16) (.o1 .len .nil) (.o1 .len (.o2 .cons (.o2 .cons (.str [104, 117, 114, 116]) .nil) (.o2 .cons (.o2 .cons (.var 2) .nil) (.o2 .cons (.o2 .cons (.var 3) .nil) .nil)))))
  (.br (.o2 .ne (.o1 (.fld 2) (.var 0)) (.int 0))
   (.call [] (.fn 159) [.sc (.int .i64) (.o1 (.fld 2) (.var 0))] [.sc .str]
   (.need [] (.o2 (.fits 16) (.o1 .len (.o2 .app .nil (.o2 .cons (.o2 .cons (.str [104, 117, 114, 116]) .nil) (.o2 .cons (.o2 .cons (.var 2) .nil) (.o2 .cons (.o2 .cons (.var 3) .nil) .nil))))) (.o1 .len (.o2 .cons (.o2 .cons (.str [112, 105, 101, 99, 101]) .nil) (.o2 .cons (.o2 .cons (.var 4) .nil) .nil))))
   (.call [] (.fn 160) [.sc (.sl [.str]) (.o2 .app (.o2 .app .nil (.o2 .cons (.o2 .cons (.str [104, 117, 114, 116]) .nil) (.o2 .cons (.o2 .cons (.var 2) .nil) (.o2 .cons (.o2 .cons (.var 3) .nil) .nil)))) (.o2 .cons (.o2 .cons (.str [112, 105, 101, 99, 101]) .nil) (.o2 .cons (.o2 .cons (.var 4) .nil) .nil))), .sc .str (.str [32])] [.sc .str]
   (.ret [(.var 5)]))))
   (.call [] (.fn 159) [.sc (.int .i64) (.o1 (.fld 3) (.var 0))] [.sc .str]
   (.need [] (.o2 (.fits 16) (.o1 .len (.o2 .app .nil (.o2 .cons (.o2 .cons (.str [104, 117, 114, 116]) .nil) (.o2 .cons (.o2 .cons (.var 2) .nil) (.o2 .cons (.o2 .cons (.var 3) .nil) .nil))))) (.o1 .len (.o2 .cons (.o2 .cons (.str [115, 105, 100, 101]) .nil) (.o2 .cons (.o2 .cons (.var 4) .nil) .nil))))
   (.call [] (.fn 160) [.sc (.sl [.str]) (.o2 .app (.o2 .app .nil (.o2 .cons (.o2 .cons (.str [104, 117, 114, 116]) .nil) (.o2 .cons (.o2 .cons (.var 2) .nil) (.o2 .cons (.o2 .cons (.var 3) .nil) .nil)))) (.o2 .cons (.o2 .cons (.str [115, 105, 100, 101]) .nil) (.o2 .cons (.o2 .cons (.var 4) .nil) .nil))), .sc .str (.str [32])] [.sc .str]
   (.ret [(.var 5)]))))))))
  (.br (.o2 .eq (.o1 (.fld 0) (.var 0)) (.int 2))
   (.call [] (.fn 159) [.sc (.int .i64) (.o1 (.fld 2) (.var 0))] [.sc .str]
   (.call [] (.fn 159) [.sc (.int .i64) (.o1 (.fld 5) (.var 0))] [.sc .str]
   (.call [] (.fn 159) [.sc (.int .i64) (.o1 (.fld 4) (.var 0))] [.sc .str]
   (.need [] (.o2 (.fits 16) (.o1 .len .nil) (.o1 .len (.o2 .cons (.o2 .cons (.str [109, 111, 118, 101]) .nil) (.o2 .cons (.o2 .cons (.var 2) .nil) (.o2 .cons (.o2 .cons (.var 3) .nil) (.o2 .cons (.o2 .cons (.var 4) .nil) .nil))))))
   (.br (.o1 (.fld 6) (.var 0))
    (.need [] (.o2 (.fits 16) (.o1 .len (.o2 .app .nil (.o2 .cons (.o2 .cons (.str [109, 111, 118, 101]) .nil) (.o2 .cons (.o2 .cons (.var 2) .nil) (.o2 .cons (.o2 .cons (.var 3) .nil) (.o2 .cons (.o2 .cons (.var 4) .nil) .nil)))))) (.o1 .len (.o2 .cons (.o2 .cons (.str [98, 101, 110, 116]) .nil) .nil)))
    (.call [] (.fn 160) [.sc (.sl [.str]) (.o2 .app (.o2 .app .nil (.o2 .cons (.o2 .cons (.str [109, 111, 118, 101]) .nil) (.o2 .cons (.o2 .cons (.var 2) .nil) (.o2 .cons (.o2 .cons (.var 3) .nil) (.o2 .cons (.o2 .cons (.var 4) .nil) .nil))))) (.o2 .cons (.o2 .cons (.str [98, 101, 110, 116]) .nil) .nil)), .sc .str (.str [32])] [.sc .str]
    (.ret [(.var 5)])))
    (.call [] (.fn 160) [.sc (.sl [.str]) (.o2 .app .nil (.o2 .cons (.o2 .cons (.str [109, 111, 118, 101]) .nil) (.o2 .cons (.o2 .cons (.var 2) .nil) (.o2 .cons (.o2 .cons (.var 3) .nil) (.o2 .cons (.o2 .cons (.var 4) .nil) .nil))))), .sc .str (.str [32])] [.sc .str]
    (.ret [(.var 5)])))))))
   (.br (.o2 .eq (.o1 (.fld 0) (.var 0)) (.int 3))
    (.call [] (.fn 159) [.sc (.int .i64) (.o1 (.fld 3) (.var 0))] [.sc .str]
    (.call [] (.fn 159) [.sc (.int .i64) (.o1 (.fld 4) (.var 0))] [.sc .str]
    (.need [] (.o2 (.fits 16) (.o1 .len .nil) (.o1 .len (.o2 .cons (.o2 .cons (.str [103, 97, 105, 110]) .nil) (.o2 .cons (.o2 .cons (.var 2) .nil) (.o2 .cons (.o2 .cons (.var 3) .nil) .nil)))))
    (.call [] (.fn 160) [.sc (.sl [.str]) (.o2 .app .nil (.o2 .cons (.o2 .cons (.str [103, 97, 105, 110]) .nil) (.o2 .cons (.o2 .cons (.var 2) .nil) (.o2 .cons (.o2 .cons (.var 3) .nil) .nil)))), .sc .str (.str [32])] [.sc .str]
    (.ret [(.var 4)])))))
    (.br (.o2 .eq (.o1 (.fld 0) (.var 0)) (.int 4))
     (.call [] (.fn 159) [.sc (.int .i64) (.o1 (.fld 3) (.var 0))] [.sc .str]
     (.call [] (.fn 159) [.sc (.int .i64) (.o1 (.fld 4) (.var 0))] [.sc .str]
     (.need [] (.o2 (.fits 16) (.o1 .len .nil) (.o1 .len (.o2 .cons (.o2 .cons (.str [108, 111, 115, 101]) .nil) (.o2 .cons (.o2 .cons (.var 2) .nil) (.o2 .cons (.o2 .cons (.var 3) .nil) .nil)))))
     (.call [] (.fn 160) [.sc (.sl [.str]) (.o2 .app .nil (.o2 .cons (.o2 .cons (.str [108, 111, 115, 101]) .nil) (.o2 .cons (.o2 .cons (.var 2) .nil) (.o2 .cons (.o2 .cons (.var 3) .nil) .nil)))), .sc .str (.str [32])] [.sc .str]
     (.ret [(.var 4)])))))
     (.br (.o2 .eq (.o1 (.fld 0) (.var 0)) (.int 5))
      (.call [] (.fn 159) [.sc (.int .i64) (.o1 (.fld 2) (.var 0))] [.sc .str]
      (.call [] (.fn 159) [.sc (.int .i64) (.o1 (.fld 4) (.var 0))] [.sc .str]
      (.need [] (.o2 (.fits 16) (.o1 .len .nil) (.o1 .len (.o2 .cons (.o2 .cons (.str [112, 117, 116]) .nil) (.o2 .cons (.o2 .cons (.var 2) .nil) (.o2 .cons (.o2 .cons (.var 3) .nil) .nil)))))
      (.call [] (.fn 160) [.sc (.sl [.str]) (.o2 .app .nil (.o2 .cons (.o2 .cons (.str [112, 117, 116]) .nil) (.o2 .cons (.o2 .cons (.var 2) .nil) (.o2 .cons (.o2 .cons (.var 3) .nil) .nil)))), .sc .str (.str [32])] [.sc .str]
      (.ret [(.var 4)])))))
      (.call [] (.fn 159) [.sc (.int .i64) (.o1 (.fld 2) (.var 0))] [.sc .str]
      (.call [] (.fn 159) [.sc (.int .i64) (.o1 (.fld 4) (.var 0))] [.sc .str]
      (.need [] (.o2 (.fits 16) (.o1 .len .nil) (.o1 .len (.o2 .cons (.o2 .cons (.str [99, 117, 116]) .nil) (.o2 .cons (.o2 .cons (.var 2) .nil) (.o2 .cons (.o2 .cons (.var 3) .nil) .nil)))))
      (.call [] (.fn 160) [.sc (.sl [.str]) (.o2 .app .nil (.o2 .cons (.o2 .cons (.str [99, 117, 116]) .nil) (.o2 .cons (.o2 .cons (.var 2) .nil) (.o2 .cons (.o2 .cons (.var 3) .nil) .nil)))), .sc .str (.str [32])] [.sc .str]
      (.ret [(.var 4)]))))))))))))
theorem sig_66 : sigOf Try.prog md 66 [] = some ([.st [(.int .i64), (.int .i64), (.int .i64), (.int .i64), (.int .i64), (.int .i64), .bool]], [.sc .str], tree_66) := by kernel_rfl
/- laws.FnEvents -/
def tree_8 : T :=
(.call [] (.fn 14) [.sc (.sl [(.int .u8)]) (.var 0)] [.sc .bool]
(.br (.var 1)
 (.ret [(.bool true)])
 (.call [] (.fn 53) [.sc (.sl [(.int .u8)]) (.var 0)] [.st [(.int .i64), (.int .i64), (.int .i64), (.int .i64), (.int .i64), (.int .i64), .bool]]
 (.call [] (.fn 54) [.sc (.sl [(.int .u8)]) (.var 0)] [.st [(.sl [(.int .i64), (.int .i64), (.int .i64), (.int .i64), (.int .i64), (.int .i64), (.int .i64), (.int .i64), (.int .i64), (.int .i64), (.int .i64), .bool, .bool]), (.sl [(.int .i64), (.int .i64), .bool]), (.int .i64), (.int .i64)], .st [(.int .i64), (.int .i64), (.int .i64), (.int .i64), (.int .i64), (.int .i64), .bool]]
 (.call [] (.fn 55) [.sc (.sl [(.int .u8)]) (.var 0)] [.st [(.sl [(.int .i64), (.int .i64), (.int .i64), (.int .i64), (.int .i64), (.int .i64), (.int .i64), (.int .i64), (.int .i64), (.int .i64), (.int .i64), .bool, .bool]), (.sl [(.int .i64), (.int .i64), .bool]), (.int .i64), (.int .i64)], .st [(.int .i64), (.int .i64), (.int .i64), (.int .i64), (.int .i64), (.int .i64), .bool]]
 (.call [] (.fn 56) [.sc (.sl [(.int .u8)]) (.var 0)] [.st [(.int .i64), (.int .i64), (.int .i64), (.int .i64), (.int .i64), (.int .i64), .bool], .sc (.int .i64)]
 (.call [] (.fn 57) [.st [(.int .i64), (.int .i64), (.int .i64), (.int .i64), (.int .i64), (.int .i64), .bool] (.o2 .cons (.o1 (.fld 0) (.var 7)) (.o2 .cons (.o1 (.fld 1) (.var 7)) (.o2 .cons (.o1 (.fld 2) (.var 7)) (.o2 .cons (.o1 (.fld 3) (.var 7)) (.o2 .cons (.o1 (.fld 4) (.var 7)) (.o2 .cons (.o1 (.fld 5) (.var 7)) (.o2 .cons (.o1 (.fld 6) (.var 7)) .nil))))))), .sc (.int .i64) (.var 8)] [.st [(.int .i64), (.int .i64), (.int .i64), (.int .i64), (.int .i64), (.int .i64), .bool]]
 (.call [] (.fn 52) [.st [(.sl [(.int .i64), (.int .i64), (.int .i64), (.int .i64), (.int .i64), (.int .i64), (.int .i64), (.int .i64), (.int .i64), (.int .i64), (.int .i64), .bool, .bool]), (.sl [(.int .i64), (.int .i64), .bool]), (.int .i64), (.int .i64)] (.o2 .cons (.o1 (.fld 0) (.var 3)) (.o2 .cons (.o1 (.fld 1) (.var 3)) (.o2 .cons (.o1 (.fld 2) (.var 3)) (.o2 .cons (.o1 (.fld 3) (.var 3)) .nil)))), .st [(.int .i64), (.int .i64), (.int .i64), (.int .i64), (.int .i64), (.int .i64), .bool] (.o2 .cons (.o1 (.fld 0) (.var 4)) (.o2 .cons (.o1 (.fld 1) (.var 4)) (.o2 .cons (.o1 (.fld 2) (.var 4)) (.o2 .cons (.o1 (.fld 3) (.var 4)) (.o2 .cons (.o1 (.fld 4) (.var 4)) (.o2 .cons (.o1 (.fld 5) (.var 4)) (.o2 .cons (.o1 (.fld 6) (.var 4)) .nil)))))))] [.sc (.int .i64)]
 (.call [] (.fn 58) [.st [(.int .i64), (.int .i64), (.int .i64), (.int .i64), (.int .i64), (.int .i64), .bool] (.o2 .cons (.o1 (.fld 0) (.var 2)) (.o2 .cons (.o1 (.fld 1) (.var 2)) (.o2 .cons (.o1 (.fld 2) (.var 2)) (.o2 .cons (.o1 (.fld 3) (.var 2)) (.o2 .cons (.o1 (.fld 4) (.var 2)) (.o2 .cons (.o1 (.fld 5) (.var 2)) (.o2 .cons (.o1 (.fld 6) (.var 2)) .nil)))))))] [.sc .bool]
 (.call [] (.fn 59) [.st [(.int .i64), (.int .i64), (.int .i64), (.int .i64), (.int .i64), (.int .i64), .bool] (.o2 .cons (.o1 (.fld 0) (.var 2)) (.o2 .cons (.o1 (.fld 1) (.var 2)) (.o2 .cons (.o1 (.fld 2) (.var 2)) (.o2 .cons (.o1 (.fld 3) (.var 2)) (.o2 .cons (.o1 (.fld 4) (.var 2)) (.o2 .cons (.o1 (.fld 5) (.var 2)) (.o2 .cons (.o1 (.fld 6) (.var 2)) .nil)))))))] [.sc .bool]
 (.call [((.o2 .bne (.var 11) (.var 12)), false)] (.fn 60) [.st [(.sl [(.int .i64), (.int .i64), (.int .i64), (.int .i64), (.int .i64), (.int .i64), (.int .i64), (.int .i64), (.int .i64), (.int .i64), (.int .i64), .bool, .bool]), (.sl [(.int .i64), (.int .i64), .bool]), (.int .i64), (.int .i64)] (.o2 .cons (.o1 (.fld 0) (.var 3)) (.o2 .cons (.o1 (.fld 1) (.var 3)) (.o2 .cons (.o1 (.fld 2) (.var 3)) (.o2 .cons (.o1 (.fld 3) (.var 3)) .nil)))), .st [(.int .i64), (.int .i64), (.int .i64), (.int .i64), (.int .i64), (.int .i64), .bool] (.o2 .cons (.o1 (.fld 0) (.var 4)) (.o2 .cons (.o1 (.fld 1) (.var 4)) (.o2 .cons (.o1 (.fld 2) (.var 4)) (.o2 .cons (.o1 (.fld 3) (.var 4)) (.o2 .cons (.o1 (.fld 4) (.var 4)) (.o2 .cons (.o1 (.fld 5) (.var 4)) (.o2 .cons (.o1 (.fld 6) (.var 4)) .nil)))))))] [.sc (.int .i64)]
 (.call [((.o2 .bor (.o2 .bne (.var 11) (.var 12)) (.o2 .ne (.var 10) (.var 13))), false)] (.fn 61) [.st [(.sl [(.int .i64), (.int .i64), (.int .i64), (.int .i64), (.int .i64), (.int .i64), (.int .i64), (.int .i64), (.int .i64), (.int .i64), (.int .i64), .bool, .bool]), (.sl [(.int .i64), (.int .i64), .bool]), (.int .i64), (.int .i64)] (.o2 .cons (.o1 (.fld 0) (.var 5)) (.o2 .cons (.o1 (.fld 1) (.var 5)) (.o2 .cons (.o1 (.fld 2) (.var 5)) (.o2 .cons (.o1 (.fld 3) (.var 5)) .nil)))), .st [(.int .i64), (.int .i64), (.int .i64), (.int .i64), (.int .i64), (.int .i64), .bool] (.o2 .cons (.o1 (.fld 0) (.var 6)) (.o2 .cons (.o1 (.fld 1) (.var 6)) (.o2 .cons (.o1 (.fld 2) (.var 6)) (.o2 .cons (.o1 (.fld 3) (.var 6)) (.o2 .cons (.o1 (.fld 4) (.var 6)) (.o2 .cons (.o1 (.fld 5) (.var 6)) (.o2 .cons (.o1 (.fld 6) (.var 6)) .nil)))))))] [.st [(.int .i64), (.int .i64), (.int .i64), (.int .i64), (.int .i64), (.int .i64), (.int .i64), (.int .i64), (.int .i64), (.int .i64), (.int .i64), .bool, .bool]]
 (.call [((.o2 .bor (.o2 .bne (.var 11) (.var 12)) (.o2 .ne (.var 10) (.var 13))), false)] (.fn 62) [.st [(.sl [(.int .i64), (.int .i64), (.int .i64), (.int .i64), (.int .i64), (.int .i64), (.int .i64), (.int .i64), (.int .i64), (.int .i64), (.int .i64), .bool, .bool]), (.sl [(.int .i64), (.int .i64), .bool]), (.int .i64), (.int .i64)] (.o2 .cons (.o1 (.fld 0) (.var 5)) (.o2 .cons (.o1 (.fld 1) (.var 5)) (.o2 .cons (.o1 (.fld 2) (.var 5)) (.o2 .cons (.o1 (.fld 3) (.var 5)) .nil)))), .st [(.int .i64), (.int .i64), (.int .i64), (.int .i64), (.int .i64), (.int .i64), .bool] (.o2 .cons (.o1 (.fld 0) (.var 6)) (.o2 .cons (.o1 (.fld 1) (.var 6)) (.o2 .cons (.o1 (.fld 2) (.var 6)) (.o2 .cons (.o1 (.fld 3) (.var 6)) (.o2 .cons (.o1 (.fld 4) (.var 6)) (.o2 .cons (.o1 (.fld 5) (.var 6)) (.o2 .cons (.o1 (.fld 6) (.var 6)) .nil)))))))] [.st [(.int .i64), (.int .i64), (.int .i64), (.int .i64), (.int .i64), (.int .i64), (.int .i64), (.int .i64), (.int .i64), (.int .i64), (.int .i64), .bool, .bool]]
 (.call [((.o2 .bor (.o2 .bor (.o2 .bne (.var 11) (.var 12)) (.o2 .ne (.var 10) (.var 13))) (.o1 .not (.o2 .band (.o2 .eq (.o1 (.fld 0) (.var 14)) (.o1 (.fld 0) (.var 15))) (.o2 .band (.o2 .eq (.o1 (.fld 1) (.var 14)) (.o1 (.fld 1) (.var 15))) (.o2 .band (.o2 .eq (.o1 (.fld 2) (.var 14)) (.o1 (.fld 2) (.var 15))) (.o2 .band (.o2 .eq (.o1 (.fld 3) (.var 14)) (.o1 (.fld 3) (.var 15))) (.o2 .band (.o2 .eq (.o1 (.fld 4) (.var 14)) (.o1 (.fld 4) (.var 15))) (.o2 .band (.o2 .eq (.o1 (.fld 5) (.var 14)) (.o1 (.fld 5) (.var 15))) (.o2 .band (.o2 .eq (.o1 (.fld 6) (.var 14)) (.o1 (.fld 6) (.var 15))) (.o2 .band (.o2 .eq (.o1 (.fld 7) (.var 14)) (.o1 (.fld 7) (.var 15))) (.o2 .band (.o2 .eq (.o1 (.fld 8) (.var 14)) (.o1 (.fld 8) (.var 15))) (.o2 .band (.o2 .eq (.o1 (.fld 9) (.var 14)) (.o1 (.fld 9) (.var 15))) (.o2 .band (.o2 .eq (.o1 (.fld 10) (.var 14)) (.o1 (.fld 10) (.var 15))) (.o2 .band (.o2 .beq (.o1 (.fld 11) (.var 14)) (.o1 (.fld 11) (.var 15))) (.o2 .band (.o2 .beq (.o1 (.fld 12) (.var 14)) (.o1 (.fld 12) (.var 15))) (.bool true)))))))))))))))), false)] (.fn 63) [.st [(.int .i64), (.int .i64), (.int .i64), (.int .i64), (.int .i64), (.int .i64), .bool] (.o2 .cons (.o1 (.fld 0) (.var 7)) (.o2 .cons (.o1 (.fld 1) (.var 7)) (.o2 .cons (.o1 (.fld 2) (.var 7)) (.o2 .cons (.o1 (.fld 3) (.var 7)) (.o2 .cons (.o1 (.fld 4) (.var 7)) (.o2 .cons (.o1 (.fld 5) (.var 7)) (.o2 .cons (.o1 (.fld 6) (.var 7)) .nil))))))), .sc (.int .i64) (.var 8)] [.st [(.int .i64), (.int .i64), (.int .i64), (.int .i64), (.int .i64), (.int .i64), .bool]]
 (.br (.o2 .bor (.o2 .bor (.o2 .bor (.o2 .bne (.var 11) (.var 12)) (.o2 .ne (.var 10) (.var 13))) (.o1 .not (.o2 .band (.o2 .eq (.o1 (.fld 0) (.var 14)) (.o1 (.fld 0) (.var 15))) (.o2 .band (.o2 .eq (.o1 (.fld 1) (.var 14)) (.o1 (.fld 1) (.var 15))) (.o2 .band (.o2 .eq (.o1 (.fld 2) (.var 14)) (.o1 (.fld 2) (.var 15))) (.o2 .band (.o2 .eq (.o1 (.fld 3) (.var 14)) (.o1 (.fld 3) (.var 15))) (.o2 .band (.o2 .eq (.o1 (.fld 4) (.var 14)) (.o1 (.fld 4) (.var 15))) (.o2 .band (.o2 .eq (.o1 (.fld 5) (.var 14)) (.o1 (.fld 5) (.var 15))) (.o2 .band (.o2 .eq (.o1 (.fld 6) (.var 14)) (.o1 (.fld 6) (.var 15))) (.o2 .band (.o2 .eq (.o1 (.fld 7) (.var 14)) (.o1 (.fld 7) (.var 15))) (.o2 .band (.o2 .eq (.o1 (.fld 8) (.var 14)) (.o1 (.fld 8) (.var 15))) (.o2 .band (.o2 .eq (.o1 (.fld 9) (.var 14)) (.o1 (.fld 9) (.var 15))) (.o2 .band (.o2 .eq (.o1 (.fld 10) (.var 14)) (.o1 (.fld 10) (.var 15))) (.o2 .band (.o2 .beq (.o1 (.fld 11) (.var 14)) (.o1 (.fld 11) (.var 15))) (.o2 .band (.o2 .beq (.o1 (.fld 12) (.var 14)) (.o1 (.fld 12) (.var 15))) (.bool true)))))))))))))))) (.o1 .not (.o2 .band (.o2 .eq (.o1 (.fld 0) (.var 9)) (.o1 (.fld 0) (.var 16))) (.o2 .band (.o2 .eq (.o1 (.fld 1) (.var 9)) (.o1 (.fld 1) (.var 16))) (.o2 .band (.o2 .eq (.o1 (.fld 2) (.var 9)) (.o1 (.fld 2) (.var 16))) (.o2 .band (.o2 .eq (.o1 (.fld 3) (.var 9)) (.o1 (.fld 3) (.var 16))) (.o2 .band (.o2 .eq (.o1 (.fld 4) (.var 9)) (.o1 (.fld 4) (.var 16))) (.o2 .band (.o2 .eq (.o1 (.fld 5) (.var 9)) (.o1 (.fld 5) (.var 16))) (.o2 .band (.o2 .beq (.o1 (.fld 6) (.var 9)) (.o1 (.fld 6) (.var 16))) (.bool true))))))))))
  (.ret [(.bool false)])
  (.call [((.o2 .band (.o2 .band (.o2 .ge (.o1 (.fld 4) (.var 9)) (.int 0)) (.o2 .le (.o1 (.fld 4) (.var 9)) (.int 2147483647))) (.o2 .eq (.o1 (.fld 0) (.var 9)) (.o1 (.fld 0) (.var 7)))), true), ((.o2 .bor (.o2 .ne (.var 10) (.int (-1))) (.o2 .eq (.o1 (.fld 2) (.var 4)) (.int 0))), false)] (.fn 64) [.st [(.sl [(.int .i64), (.int .i64), (.int .i64), (.int .i64), (.int .i64), (.int .i64), (.int .i64), (.int .i64), (.int .i64), (.int .i64), (.int .i64), .bool, .bool]), (.sl [(.int .i64), (.int .i64), .bool]), (.int .i64), (.int .i64)] (.o2 .cons (.o1 (.fld 0) (.var 3)) (.o2 .cons (.o1 (.fld 1) (.var 3)) (.o2 .cons (.o1 (.fld 2) (.var 3)) (.o2 .cons (.o1 (.fld 3) (.var 3)) .nil)))), .sc (.int .i64) (.o1 (.fld 2) (.var 4))] [.sc (.int .i64)]
  (.call [((.o2 .band (.o2 .band (.o2 .ge (.o1 (.fld 4) (.var 9)) (.int 0)) (.o2 .le (.o1 (.fld 4) (.var 9)) (.int 2147483647))) (.o2 .eq (.o1 (.fld 0) (.var 9)) (.o1 (.fld 0) (.var 7)))), true), ((.o2 .bor (.o2 .bor (.o2 .ne (.var 10) (.int (-1))) (.o2 .eq (.o1 (.fld 2) (.var 4)) (.int 0))) (.o2 .lt (.var 17) (.int 0))), false)] (.fn 65) [.st [(.sl [(.int .i64), (.int .i64), (.int .i64), (.int .i64), (.int .i64), (.int .i64), (.int .i64), (.int .i64), (.int .i64), (.int .i64), (.int .i64), .bool, .bool]), (.sl [(.int .i64), (.int .i64), .bool]), (.int .i64), (.int .i64)] (.o2 .cons (.o1 (.fld 0) (.var 3)) (.o2 .cons (.o1 (.fld 1) (.var 3)) (.o2 .cons (.o1 (.fld 2) (.var 3)) (.o2 .cons (.o1 (.fld 3) (.var 3)) .nil))))] [.sc .bool]
  (.call [((.o2 .band (.o2 .band (.o2 .band (.o2 .ge (.o1 (.fld 4) (.var 9)) (.int 0)) (.o2 .le (.o1 (.fld 4) (.var 9)) (.int 2147483647))) (.o2 .eq (.o1 (.fld 0) (.var 9)) (.o1 (.fld 0) (.var 7)))) (.o2 .bor (.o2 .bor (.o2 .bor (.o2 .ne (.var 10) (.int (-1))) (.o2 .eq (.o1 (.fld 2) (.var 4)) (.int 0))) (.o2 .lt (.var 17) (.int 0))) (.o1 .not (.var 18)))), true)] (.fn 66) [.st [(.int .i64), (.int .i64), (.int .i64), (.int .i64), (.int .i64), (.int .i64), .bool] (.o2 .cons (.o1 (.fld 0) (.var 2)) (.o2 .cons (.o1 (.fld 1) (.var 2)) (.o2 .cons (.o1 (.fld 2) (.var 2)) (.o2 .cons (.o1 (.fld 3) (.var 2)) (.o2 .cons (.o1 (.fld 4) (.var 2)) (.o2 .cons (.o1 (.fld 5) (.var 2)) (.o2 .cons (.o1 (.fld 6) (.var 2)) .nil)))))))] [.sc .str]
  (.call [((.o2 .band (.o2 .band (.o2 .band (.o2 .ge (.o1 (.fld 4) (.var 9)) (.int 0)) (.o2 .le (.o1 (.fld 4) (.var 9)) (.int 2147483647))) (.o2 .eq (.o1 (.fld 0) (.var 9)) (.o1 (.fld 0) (.var 7)))) (.o2 .bor (.o2 .bor (.o2 .bor (.o2 .ne (.var 10) (.int (-1))) (.o2 .eq (.o1 (.fld 2) (.var 4)) (.int 0))) (.o2 .lt (.var 17) (.int 0))) (.o1 .not (.var 18)))), true)] (.fn 58) [.st [(.int .i64), (.int .i64), (.int .i64), (.int .i64), (.int .i64), (.int .i64), .bool] (.o2 .cons (.o1 (.fld 0) (.var 2)) (.o2 .cons (.o1 (.fld 1) (.var 2)) (.o2 .cons (.o1 (.fld 2) (.var 2)) (.o2 .cons (.o1 (.fld 3) (.var 2)) (.o2 .cons (.o1 (.fld 4) (.var 2)) (.o2 .cons (.o1 (.fld 5) (.var 2)) (.o2 .cons (.o1 (.fld 6) (.var 2)) .nil)))))))] [.sc .bool]
  (.ret [(.o2 .band (.o2 .band (.o2 .band (.o2 .band (.o2 .ge (.o1 (.fld 4) (.var 9)) (.int 0)) (.o2 .le (.o1 (.fld 4) (.var 9)) (.int 2147483647))) (.o2 .eq (.o1 (.fld 0) (.var 9)) (.o1 (.fld 0) (.var 7)))) (.o2 .bor (.o2 .bor (.o2 .bor (.o2 .ne (.var 10) (.int (-1))) (.o2 .eq (.o1 (.fld 2) (.var 4)) (.int 0))) (.o2 .lt (.var 17) (.int 0))) (.o1 .not (.var 18)))) (.o2 .beq (.o2 .sne (.var 19) (.str [])) (.var 20)))]))))))))))))))))))))
theorem sig_8 : sigOf Try.prog md 8 [] = some ([.sc (.sl [(.int .u8)])], [.sc .bool], tree_8) := by kernel_rfl
theorem mix : Try.prog.follows .mixedOrders = true := by kernel_rfl
end Go.Proofs.Ytammagpahfmenaa
