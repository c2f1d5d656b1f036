/- The trees of the functions that this claim reaches. -/
import Derived.Test.YtammagpahfmenaaRows
import Derived.Test.YtammagpahfmenaaE6
import Derived.KernelRfl
namespace Go.Proofs.Ytammagpahfmenaa
open Go.Proofs.Ytammagpahfmenaa.Eng
def md : Modes := ⟨[], [(188, 0), (187, 0), (187, 2), (176, 0)], [190]⟩
/- laws.big -/
def tree_14 : T :=
(.know (.var 0)
(.ret [(.o2 .gt (.o1 .len (.var 0)) (.int 1048576))]))
theorem sig_14 : sigOf Try.prog md 14 [] = some ([.sc (.sl [(.int .u8)])], [.sc .bool], tree_14) := by kernel_rfl
/- spec.l1New -/
def tree_113 : T :=
(.know (.var 0)
(.loop 0 [(.o2 (.add .i64) (.int 139871) (.o1 .len (.var 0))), (.int 0)]
 (.know (.var 0)
 (.br (.o2 .band (.o2 .lt (.var 2) (.o1 .len (.var 0))) (.o2 .lt (.var 2) (.int 4000)))
  (.need [] (.o2 .le (.int 0) (.var 2))
  (.need [] (.o2 .lt (.var 2) (.o1 .len (.var 0)))
  (.cont 0 [(.o2 (.and .i64) (.o2 (.add .i64) (.o2 (.add .i64) (.o2 (.mul .i64) (.var 1) (.int 137)) (.o1 (.conv .i64) (.o1 (.fld 0) (.o2 .idx (.var 0) (.var 2))))) (.int 11)) (.int 1073741823)), (.o2 (.add .i64) (.var 2) (.int 1))])))
  (.ret [(.var 0)])))))
theorem sig_113 : sigOf Try.prog md 113 [] = some ([.sc (.sl [(.int .u8)])], [.cur], tree_113) := by kernel_rfl
/- spec.l1Byte -/
def tree_190 : T :=
(.need [] (.o2 .ge (.int 33) (.int 0))
(.need [] (.o2 .ge (.int 47) (.int 0))
(.know (.o1 (.fld 0) (.var 0))
(.br (.o2 .lt (.o1 (.fld 1) (.var 0)) (.o1 .len (.o1 (.fld 0) (.var 0))))
 (.need [] (.o2 .le (.int 0) (.o1 (.fld 1) (.var 0)))
 (.need [] (.o2 .lt (.o1 (.fld 1) (.var 0)) (.o1 .len (.o1 (.fld 0) (.var 0))))
 (.need [] (.o2 .le (.int 0) (.o2 (.add .i64) (.o1 (.fld 1) (.var 0)) (.int 1)))
 (.ret [(.o2 (.and .i64) (.o2 (.add .i64) (.o2 (.and .i64) (.o2 (.xor .i64) (.o2 (.shr .i64) (.o2 (.add .i64) (.o2 (.mul .i64) (.o1 (.fld 2) (.var 0)) (.int 6364136223846793005)) (.int 1442695040888963407)) (.int 33)) (.o2 (.shr .i64) (.o2 (.add .i64) (.o2 (.mul .i64) (.o1 (.fld 2) (.var 0)) (.int 6364136223846793005)) (.int 1442695040888963407)) (.int 47))) (.int 255)) (.o1 (.conv .i64) (.o1 (.fld 0) (.o2 .idx (.o1 (.fld 0) (.var 0)) (.o1 (.fld 1) (.var 0)))))) (.int 255))]))))
 (.need [] (.o2 .le (.int 0) (.o1 (.fld 1) (.var 0)))
 (.ret [(.o2 (.and .i64) (.o2 (.xor .i64) (.o2 (.shr .i64) (.o2 (.add .i64) (.o2 (.mul .i64) (.o1 (.fld 2) (.var 0)) (.int 6364136223846793005)) (.int 1442695040888963407)) (.int 33)) (.o2 (.shr .i64) (.o2 (.add .i64) (.o2 (.mul .i64) (.o1 (.fld 2) (.var 0)) (.int 6364136223846793005)) (.int 1442695040888963407)) (.int 47))) (.int 255))]))))))
theorem sig_190 : sigOf Try.prog md 190 [] = some ([.cur], [.sc (.int .i64)], tree_190) := by kernel_rfl
/- spec.l1Below -/
def tree_117 : T :=
(.br (.o2 .le (.var 1) (.int 0))
 (.ret [(.int 0)])
 (.br (.o2 .le (.var 1) (.int 256))
  (.call [] (.fn 190) [.cur (.o1 (.fld 0) (.var 0))] [.sc (.int .i64)]
  (.need [] (.o2 .ne (.var 1) (.int 0))
  (.ret [(.o2 .rem (.var 2) (.var 1))])))
  (.call [] (.fn 190) [.cur (.o1 (.fld 0) (.var 0))] [.sc (.int .i64)]
  (.call [] (.fn 190) [.cur (.o1 (.fld 0) (.var 0))] [.sc (.int .i64)]
  (.call [] (.fn 190) [.cur (.o1 (.fld 0) (.var 0))] [.sc (.int .i64)]
  (.need [] (.o2 .ne (.var 1) (.int 0))
  (.ret [(.o2 .rem (.o2 (.add .i64) (.o2 (.add .i64) (.o2 (.mul .i64) (.var 2) (.int 65536)) (.o2 (.mul .i64) (.var 3) (.int 256))) (.var 4)) (.var 1))])))))))
theorem sig_117 : sigOf Try.prog md 117 [] = some ([.cur, .sc (.int .i64)], [.sc (.int .i64)], tree_117) := by kernel_rfl
/- spec.l1Int -/
def tree_189 : T :=
(.know (.var 1)
(.call [] (.fn 117) [.cur (.o1 (.fld 0) (.var 0)), .sc (.int .i64) (.o1 .len (.var 1))] [.sc (.int .i64)]
(.need [] (.o2 .le (.int 0) (.var 2))
(.need [] (.o2 .lt (.var 2) (.o1 .len (.var 1)))
(.ret [(.o1 (.fld 0) (.o2 .idx (.var 1) (.var 2)))])))))
theorem sig_189 : sigOf Try.prog md 189 [] = some ([.cur, .sc (.sl [(.int .i64)])], [.sc (.int .i64)], tree_189) := by kernel_rfl
/- spec.StateNew -/
def tree_191 : T :=
(.br (.o2 .eq (.var 0) (.int 3))
 (.need [] (.o2 (.fits 24) (.o1 .len (.o2 .cons (.o2 .cons (.int 20) (.o2 .cons (.int 0) (.o2 .cons (.bool false) .nil))) (.o2 .cons (.o2 .cons (.int 20) (.o2 .cons (.int 0) (.o2 .cons (.bool false) .nil))) .nil))) (.o1 .len (.o2 .cons (.o2 .cons (.int 20) (.o2 .cons (.int 0) (.o2 .cons (.bool false) .nil))) .nil)))
 (.ret [(.o2 .cons .nil (.o2 .cons (.o2 .app (.o2 .cons (.o2 .cons (.int 20) (.o2 .cons (.int 0) (.o2 .cons (.bool false) .nil))) (.o2 .cons (.o2 .cons (.int 20) (.o2 .cons (.int 0) (.o2 .cons (.bool false) .nil))) .nil)) (.o2 .cons (.o2 .cons (.int 20) (.o2 .cons (.int 0) (.o2 .cons (.bool false) .nil))) .nil)) (.o2 .cons (.int 0) (.o2 .cons (.int 0) .nil))))]))
 (.ret [(.o2 .cons .nil (.o2 .cons (.o2 .cons (.o2 .cons (.int 20) (.o2 .cons (.int 0) (.o2 .cons (.bool false) .nil))) (.o2 .cons (.o2 .cons (.int 20) (.o2 .cons (.int 0) (.o2 .cons (.bool false) .nil))) .nil)) (.o2 .cons (.int 0) (.o2 .cons (.int 0) .nil))))]))
theorem sig_191 : sigOf Try.prog md 191 [] = some ([.sc (.int .i64)], [.st [(.sl [(.int .i64), (.int .i64), (.int .i64), (.int .i64), (.int .i64), (.int .i64), (.int .i64), (.int .i64), (.int .i64), (.int .i64), (.int .i64), .bool, .bool]), (.sl [(.int .i64), (.int .i64), .bool]), (.int .i64), (.int .i64)]], tree_191) := by kernel_rfl
/- spec.l1Once -/
def tree_115 : T :=
(.call [] (.fn 117) [.cur (.o1 (.fld 0) (.var 0)), .sc (.int .i64) (.var 1)] [.sc (.int .i64)]
(.ret [(.o2 .eq (.var 2) (.int 0))]))
theorem sig_115 : sigOf Try.prog md 115 [] = some ([.cur, .sc (.int .i64)], [.sc .bool], tree_115) := by kernel_rfl
/- spec.l4Draw -/
def tree_192 : T :=
(.call [] (.fn 117) [.cur (.o1 (.fld 0) (.var 0)), .sc (.int .i64) (.int 2)] [.sc (.int .i64)]
(.call [] (.fn 189) [.cur (.o1 (.fld 0) (.var 0)), .sc (.sl [(.int .i64)]) (.o2 .cons (.o2 .cons (.int 2) .nil) (.o2 .cons (.o2 .cons (.int 2) .nil) (.o2 .cons (.o2 .cons (.int 2) .nil) (.o2 .cons (.o2 .cons (.int 1) .nil) (.o2 .cons (.o2 .cons (.int 3) .nil) .nil)))))] [.sc (.int .i64)]
(.call [] (.fn 117) [.cur (.o1 (.fld 0) (.var 0)), .sc (.int .i64) (.int 3)] [.sc (.int .i64)]
(.call [] (.fn 117) [.cur (.o1 (.fld 0) (.var 0)), .sc (.int .i64) (.int 5)] [.sc (.int .i64)]
(.call [] (.fn 117) [.cur (.o1 (.fld 0) (.var 0)), .sc (.int .i64) (.int 5)] [.sc (.int .i64)]
(.know (.o2 .cons (.o2 .cons (.int 1) .nil) (.o2 .cons (.o2 .cons (.int 2) .nil) (.o2 .cons (.o2 .cons (.int 4) .nil) (.o2 .cons (.o2 .cons (.int 8) .nil) (.o2 .cons (.o2 .cons (.int 16) .nil) (.o2 .cons (.o2 .cons (.int 32) .nil) .nil))))))
(.loop 0 [(.int 0), (.int 0)]
 (.br (.o2 .lt (.var 7) (.o1 .len (.o2 .cons (.o2 .cons (.int 1) .nil) (.o2 .cons (.o2 .cons (.int 2) .nil) (.o2 .cons (.o2 .cons (.int 4) .nil) (.o2 .cons (.o2 .cons (.int 8) .nil) (.o2 .cons (.o2 .cons (.int 16) .nil) (.o2 .cons (.o2 .cons (.int 32) .nil) .nil))))))))
  (.need [] (.o2 .le (.int 0) (.var 7))
  (.need [] (.o2 .lt (.var 7) (.o1 .len (.o2 .cons (.o2 .cons (.int 1) .nil) (.o2 .cons (.o2 .cons (.int 2) .nil) (.o2 .cons (.o2 .cons (.int 4) .nil) (.o2 .cons (.o2 .cons (.int 8) .nil) (.o2 .cons (.o2 .cons (.int 16) .nil) (.o2 .cons (.o2 .cons (.int 32) .nil) .nil))))))))
  (.call [] (.fn 115) [.cur (.o1 (.fld 0) (.var 0)), .sc (.int .i64) (.int 3)] [.sc .bool]
  (.br (.var 9)
   (.cont 0 [(.o2 (.add .i64) (.var 7) (.int 1)), (.o2 (.add .i64) (.var 8) (.o1 (.fld 0) (.o2 .idx (.o2 .cons (.o2 .cons (.int 1) .nil) (.o2 .cons (.o2 .cons (.int 2) .nil) (.o2 .cons (.o2 .cons (.int 4) .nil) (.o2 .cons (.o2 .cons (.int 8) .nil) (.o2 .cons (.o2 .cons (.int 16) .nil) (.o2 .cons (.o2 .cons (.int 32) .nil) .nil)))))) (.var 7))))])
   (.cont 0 [(.o2 (.add .i64) (.var 7) (.int 1)), (.var 8)])))))
  (.br (.o2 .ne (.var 3) (.int 2))
   (.ret [(.o2 .cons (.var 1) (.o2 .cons (.var 2) (.o2 .cons (.var 2) (.o2 .cons (.var 3) (.o2 .cons (.var 4) (.o2 .cons (.var 5) (.o2 .cons (.o2 (.add .i64) (.int 1) (.var 6)) (.o2 .cons (.var 8) (.o2 .cons (.int 0) (.o2 .cons (.int 0) (.o2 .cons (.int 0) (.o2 .cons (.bool false) (.o2 .cons (.bool false) .nil)))))))))))))])
   (.call [] (.fn 115) [.cur (.o1 (.fld 0) (.var 0)), .sc (.int .i64) (.int 4)] [.sc .bool]
   (.br (.var 9)
    (.call [] (.fn 189) [.cur (.o1 (.fld 0) (.var 0)), .sc (.sl [(.int .i64)]) (.o2 .cons (.o2 .cons (.int 0) .nil) (.o2 .cons (.o2 .cons (.int 0) .nil) (.o2 .cons (.o2 .cons (.int 1) .nil) (.o2 .cons (.o2 .cons (.int 2) .nil) .nil))))] [.sc (.int .i64)]
    (.call [] (.fn 189) [.cur (.o1 (.fld 0) (.var 0)), .sc (.sl [(.int .i64)]) (.o2 .cons (.o2 .cons (.int 0) .nil) (.o2 .cons (.o2 .cons (.int 0) .nil) (.o2 .cons (.o2 .cons (.int 0) .nil) (.o2 .cons (.o2 .cons (.int 1) .nil) .nil))))] [.sc (.int .i64)]
    (.call [] (.fn 189) [.cur (.o1 (.fld 0) (.var 0)), .sc (.sl [(.int .i64)]) (.o2 .cons (.o2 .cons (.int 0) .nil) (.o2 .cons (.o2 .cons (.int 0) .nil) (.o2 .cons (.o2 .cons (.int 1) .nil) .nil)))] [.sc (.int .i64)]
    (.call [] (.fn 115) [.cur (.o1 (.fld 0) (.var 0)), .sc (.int .i64) (.int 4)] [.sc .bool]
    (.ret [(.o2 .cons (.var 1) (.o2 .cons (.var 2) (.o2 .cons (.o2 (.sub .i64) (.int 1) (.var 2)) (.o2 .cons (.var 3) (.o2 .cons (.var 4) (.o2 .cons (.var 5) (.o2 .cons (.o2 (.add .i64) (.int 1) (.var 6)) (.o2 .cons (.var 8) (.o2 .cons (.var 10) (.o2 .cons (.var 11) (.o2 .cons (.var 12) (.o2 .cons (.bool false) (.o2 .cons (.var 13) .nil)))))))))))))])))))
    (.call [] (.fn 189) [.cur (.o1 (.fld 0) (.var 0)), .sc (.sl [(.int .i64)]) (.o2 .cons (.o2 .cons (.int 0) .nil) (.o2 .cons (.o2 .cons (.int 0) .nil) (.o2 .cons (.o2 .cons (.int 1) .nil) (.o2 .cons (.o2 .cons (.int 2) .nil) .nil))))] [.sc (.int .i64)]
    (.call [] (.fn 189) [.cur (.o1 (.fld 0) (.var 0)), .sc (.sl [(.int .i64)]) (.o2 .cons (.o2 .cons (.int 0) .nil) (.o2 .cons (.o2 .cons (.int 0) .nil) (.o2 .cons (.o2 .cons (.int 0) .nil) (.o2 .cons (.o2 .cons (.int 1) .nil) .nil))))] [.sc (.int .i64)]
    (.call [] (.fn 189) [.cur (.o1 (.fld 0) (.var 0)), .sc (.sl [(.int .i64)]) (.o2 .cons (.o2 .cons (.int 0) .nil) (.o2 .cons (.o2 .cons (.int 0) .nil) (.o2 .cons (.o2 .cons (.int 1) .nil) .nil)))] [.sc (.int .i64)]
    (.call [] (.fn 115) [.cur (.o1 (.fld 0) (.var 0)), .sc (.int .i64) (.int 4)] [.sc .bool]
    (.ret [(.o2 .cons (.var 1) (.o2 .cons (.var 2) (.o2 .cons (.var 2) (.o2 .cons (.var 3) (.o2 .cons (.var 4) (.o2 .cons (.var 5) (.o2 .cons (.o2 (.add .i64) (.int 1) (.var 6)) (.o2 .cons (.var 8) (.o2 .cons (.var 10) (.o2 .cons (.var 11) (.o2 .cons (.var 12) (.o2 .cons (.bool false) (.o2 .cons (.var 13) .nil)))))))))))))]))))))))))))))))
theorem sig_192 : sigOf Try.prog md 192 [] = some ([.cur, .sc (.int .i64)], [.st [(.int .i64), (.int .i64), (.int .i64), (.int .i64), (.int .i64), (.int .i64), (.int .i64), (.int .i64), (.int .i64), (.int .i64), (.int .i64), .bool, .bool]], tree_192) := by kernel_rfl
/- spec.l5Draw -/
def tree_119 : T :=
(.call [] (.fn 191) [.sc (.int .i64) (.int 2)] [.st [(.sl [(.int .i64), (.int .i64), (.int .i64), (.int .i64), (.int .i64), (.int .i64), (.int .i64), (.int .i64), (.int .i64), (.int .i64), (.int .i64), .bool, .bool]), (.sl [(.int .i64), (.int .i64), .bool]), (.int .i64), (.int .i64)]]
(.call [] (.fn 117) [.cur (.o1 (.fld 0) (.var 0)), .sc (.int .i64) (.int 3)] [.sc (.int .i64)]
(.call [] (.fn 117) [.cur (.o1 (.fld 0) (.var 0)), .sc (.int .i64) (.int 2)] [.sc (.int .i64)]
(.loop 0 [(.int 0), (.o1 (.fld 1) (.var 1))]
 (.br (.o2 .lt (.var 4) (.int 2))
  (.need [] (.o2 .le (.int 0) (.var 4))
  (.need [] (.o2 .lt (.var 4) (.o1 .len (.var 5)))
  (.call [] (.fn 189) [.cur (.o1 (.fld 0) (.var 0)), .sc (.sl [(.int .i64)]) (.o2 .cons (.o2 .cons (.int 20) .nil) (.o2 .cons (.o2 .cons (.int 20) .nil) (.o2 .cons (.o2 .cons (.int 3) .nil) (.o2 .cons (.o2 .cons (.int 1) .nil) (.o2 .cons (.o2 .cons (.int 10) .nil) .nil)))))] [.sc (.int .i64)]
  (.need [] (.o2 .le (.int 0) (.var 4))
  (.need [] (.o2 .lt (.var 4) (.o1 .len (.o3 (.setC 0) (.var 5) (.var 4) (.var 6))))
  (.call [] (.fn 189) [.cur (.o1 (.fld 0) (.var 0)), .sc (.sl [(.int .i64)]) (.o2 .cons (.o2 .cons (.int 0) .nil) (.o2 .cons (.o2 .cons (.int 0) .nil) (.o2 .cons (.o2 .cons (.int 8) .nil) (.o2 .cons (.o2 .cons (.int 1) .nil) .nil))))] [.sc (.int .i64)]
  (.cont 0 [(.o2 (.add .i64) (.var 4) (.int 1)), (.o3 (.setC 1) (.o3 (.setC 0) (.var 5) (.var 4) (.var 6)) (.var 4) (.var 7))])))))))
  (.call [] (.fn 117) [.cur (.o1 (.fld 0) (.var 0)), .sc (.int .i64) (.int 5)] [.sc (.int .i64)]
  (.loop 0 [(.int 0), (.o2 (.add .i64) (.int 1) (.var 6)), (.o1 (.fld 0) (.var 1))]
   (.br (.o2 .gt (.var 8) (.int 0))
    (.call [] (.fn 117) [.cur (.o1 (.fld 0) (.var 0)), .sc (.int .i64) (.int 2)] [.sc (.int .i64)]
    (.call [] (.fn 192) [.cur (.o1 (.fld 0) (.var 0)), .sc (.int .i64) (.o2 (.add .i64) (.o2 (.add .i64) (.var 7) (.int 1)) (.var 10))] [.st [(.int .i64), (.int .i64), (.int .i64), (.int .i64), (.int .i64), (.int .i64), (.int .i64), (.int .i64), (.int .i64), (.int .i64), (.int .i64), .bool, .bool]]
    (.need [] (.o2 (.fits 96) (.o1 .len (.var 9)) (.o1 .len (.o2 .cons (.o2 .cons (.o1 (.fld 0) (.var 11)) (.o2 .cons (.o1 (.fld 1) (.var 11)) (.o2 .cons (.o1 (.fld 2) (.var 11)) (.o2 .cons (.o1 (.fld 3) (.var 11)) (.o2 .cons (.o1 (.fld 4) (.var 11)) (.o2 .cons (.o1 (.fld 5) (.var 11)) (.o2 .cons (.o1 (.fld 6) (.var 11)) (.o2 .cons (.o1 (.fld 7) (.var 11)) (.o2 .cons (.o1 (.fld 8) (.var 11)) (.o2 .cons (.o1 (.fld 9) (.var 11)) (.o2 .cons (.o1 (.fld 10) (.var 11)) (.o2 .cons (.o1 (.fld 11) (.var 11)) (.o2 .cons (.o1 (.fld 12) (.var 11)) .nil))))))))))))) .nil)))
    (.cont 0 [(.o2 (.add .i64) (.o2 (.add .i64) (.var 7) (.int 1)) (.var 10)), (.o2 (.sub .i64) (.var 8) (.int 1)), (.o2 .app (.var 9) (.o2 .cons (.o2 .cons (.o1 (.fld 0) (.var 11)) (.o2 .cons (.o1 (.fld 1) (.var 11)) (.o2 .cons (.o1 (.fld 2) (.var 11)) (.o2 .cons (.o1 (.fld 3) (.var 11)) (.o2 .cons (.o1 (.fld 4) (.var 11)) (.o2 .cons (.o1 (.fld 5) (.var 11)) (.o2 .cons (.o1 (.fld 6) (.var 11)) (.o2 .cons (.o1 (.fld 7) (.var 11)) (.o2 .cons (.o1 (.fld 8) (.var 11)) (.o2 .cons (.o1 (.fld 9) (.var 11)) (.o2 .cons (.o1 (.fld 10) (.var 11)) (.o2 .cons (.o1 (.fld 11) (.var 11)) (.o2 .cons (.o1 (.fld 12) (.var 11)) .nil))))))))))))) .nil))]))))
    (.ret [(.o2 .cons (.var 9) (.o2 .cons (.var 5) (.o2 .cons (.var 3) (.o2 .cons (.o2 (.add .i64) (.int 2) (.var 2)) .nil))))])))))))))
theorem sig_119 : sigOf Try.prog md 119 [] = some ([.cur], [.st [(.sl [(.int .i64), (.int .i64), (.int .i64), (.int .i64), (.int .i64), (.int .i64), (.int .i64), (.int .i64), (.int .i64), (.int .i64), (.int .i64), .bool, .bool]), (.sl [(.int .i64), (.int .i64), .bool]), (.int .i64), (.int .i64)]], tree_119) := by kernel_rfl
/- spec.l1Odd -/
def tree_116 : T :=
(.call [] (.fn 189) [.cur (.o1 (.fld 0) (.var 0)), .sc (.sl [(.int .i64)]) (.o2 .cons (.o2 .cons (.int (-1)) .nil) (.o2 .cons (.o2 .cons (.int 0) .nil) (.o2 .cons (.o2 .cons (.int 1) .nil) (.o2 .cons (.o2 .cons (.int 2) .nil) (.o2 .cons (.o2 .cons (.int 255) .nil) (.o2 .cons (.o2 .cons (.int 256) .nil) (.o2 .cons (.o2 .cons (.int 65535) .nil) (.o2 .cons (.o2 .cons (.int 2147483647) .nil) (.o2 .cons (.o2 .cons (.int 2147483648) .nil) (.o2 .cons (.o2 .cons (.int 4294967295) .nil) (.o2 .cons (.o2 .cons (.int 4294967296) .nil) (.o2 .cons (.o2 .cons (.int (-2147483648)) .nil) (.o2 .cons (.o2 .cons (.int 9223372036854775807) .nil) (.o2 .cons (.o2 .cons (.int (-9223372036854775808)) .nil) .nil))))))))))))))] [.sc (.int .i64)]
(.ret [(.var 1)]))
theorem sig_116 : sigOf Try.prog md 116 [] = some ([.cur], [.sc (.int .i64)], tree_116) := by kernel_rfl
/- spec.l1Raw -/
def tree_133 : T :=
(.call [] (.fn 115) [.cur (.o1 (.fld 0) (.var 0)), .sc (.int .i64) (.int 2)] [.sc .bool]
(.br (.var 1)
 (.call [] (.fn 116) [.cur (.o1 (.fld 0) (.var 0))] [.sc (.int .i64)]
 (.ret [(.var 2)]))
 (.call [] (.fn 189) [.cur (.o1 (.fld 0) (.var 0)), .sc (.sl [(.int .i64)]) (.o2 .cons (.o2 .cons (.int (-2147483648)) .nil) (.o2 .cons (.o2 .cons (.int (-2147483647)) .nil) (.o2 .cons (.o2 .cons (.int (-3)) .nil) (.o2 .cons (.o2 .cons (.int (-1)) .nil) (.o2 .cons (.o2 .cons (.int 0) .nil) (.o2 .cons (.o2 .cons (.int 1) .nil) (.o2 .cons (.o2 .cons (.int 3) .nil) (.o2 .cons (.o2 .cons (.int 7) .nil) (.o2 .cons (.o2 .cons (.int 2147483647) .nil) (.o2 .cons (.o2 .cons (.int 2147483648) .nil) .nil))))))))))] [.sc (.int .i64)]
 (.ret [(.var 2)]))))
theorem sig_133 : sigOf Try.prog md 133 [] = some ([.cur], [.sc (.int .i64)], tree_133) := by kernel_rfl
/- spec.l4Any -/
def tree_194 : T :=
(.call [] (.fn 117) [.cur (.o1 (.fld 0) (.var 0)), .sc (.int .i64) (.int 9)] [.sc (.int .i64)]
(.call [] (.fn 192) [.cur (.o1 (.fld 0) (.var 0)), .sc (.int .i64) (.o2 (.add .i64) (.int 1) (.var 1))] [.st [(.int .i64), (.int .i64), (.int .i64), (.int .i64), (.int .i64), (.int .i64), (.int .i64), (.int .i64), (.int .i64), (.int .i64), (.int .i64), .bool, .bool]]
(.call [] (.fn 117) [.cur (.o1 (.fld 0) (.var 0)), .sc (.int .i64) (.int 20)] [.sc (.int .i64)]
(.br (.o2 .eq (.var 3) (.int 0))
 (.call [] (.fn 189) [.cur (.o1 (.fld 0) (.var 0)), .sc (.sl [(.int .i64)]) (.o2 .cons (.o2 .cons (.int 0) .nil) (.o2 .cons (.o2 .cons (.int 99) .nil) (.o2 .cons (.o2 .cons (.int 100) .nil) .nil)))] [.sc (.int .i64)]
 (.ret [(.o2 .cons (.var 4) (.o2 .cons (.o1 (.fld 1) (.var 2)) (.o2 .cons (.o1 (.fld 2) (.var 2)) (.o2 .cons (.o1 (.fld 3) (.var 2)) (.o2 .cons (.o1 (.fld 4) (.var 2)) (.o2 .cons (.o1 (.fld 5) (.var 2)) (.o2 .cons (.o1 (.fld 6) (.var 2)) (.o2 .cons (.o1 (.fld 7) (.var 2)) (.o2 .cons (.o1 (.fld 8) (.var 2)) (.o2 .cons (.o1 (.fld 9) (.var 2)) (.o2 .cons (.o1 (.fld 10) (.var 2)) (.o2 .cons (.o1 (.fld 11) (.var 2)) (.o2 .cons (.o1 (.fld 12) (.var 2)) .nil)))))))))))))]))
 (.br (.o2 .eq (.var 3) (.int 1))
  (.call [] (.fn 189) [.cur (.o1 (.fld 0) (.var 0)), .sc (.sl [(.int .i64)]) (.o2 .cons (.o2 .cons (.int (-1)) .nil) (.o2 .cons (.o2 .cons (.int 2) .nil) (.o2 .cons (.o2 .cons (.int 3) .nil) .nil)))] [.sc (.int .i64)]
  (.ret [(.o2 .cons (.o1 (.fld 0) (.var 2)) (.o2 .cons (.var 4) (.o2 .cons (.o1 (.fld 2) (.var 2)) (.o2 .cons (.o1 (.fld 3) (.var 2)) (.o2 .cons (.o1 (.fld 4) (.var 2)) (.o2 .cons (.o1 (.fld 5) (.var 2)) (.o2 .cons (.o1 (.fld 6) (.var 2)) (.o2 .cons (.o1 (.fld 7) (.var 2)) (.o2 .cons (.o1 (.fld 8) (.var 2)) (.o2 .cons (.o1 (.fld 9) (.var 2)) (.o2 .cons (.o1 (.fld 10) (.var 2)) (.o2 .cons (.o1 (.fld 11) (.var 2)) (.o2 .cons (.o1 (.fld 12) (.var 2)) .nil)))))))))))))]))
  (.br (.o2 .eq (.var 3) (.int 2))
   (.call [] (.fn 189) [.cur (.o1 (.fld 0) (.var 0)), .sc (.sl [(.int .i64)]) (.o2 .cons (.o2 .cons (.int (-1)) .nil) (.o2 .cons (.o2 .cons (.int 2) .nil) (.o2 .cons (.o2 .cons (.int 3) .nil) .nil)))] [.sc (.int .i64)]
   (.ret [(.o2 .cons (.o1 (.fld 0) (.var 2)) (.o2 .cons (.o1 (.fld 1) (.var 2)) (.o2 .cons (.var 4) (.o2 .cons (.o1 (.fld 3) (.var 2)) (.o2 .cons (.o1 (.fld 4) (.var 2)) (.o2 .cons (.o1 (.fld 5) (.var 2)) (.o2 .cons (.o1 (.fld 6) (.var 2)) (.o2 .cons (.o1 (.fld 7) (.var 2)) (.o2 .cons (.o1 (.fld 8) (.var 2)) (.o2 .cons (.o1 (.fld 9) (.var 2)) (.o2 .cons (.o1 (.fld 10) (.var 2)) (.o2 .cons (.o1 (.fld 11) (.var 2)) (.o2 .cons (.o1 (.fld 12) (.var 2)) .nil)))))))))))))]))
   (.br (.o2 .eq (.var 3) (.int 3))
    (.call [] (.fn 189) [.cur (.o1 (.fld 0) (.var 0)), .sc (.sl [(.int .i64)]) (.o2 .cons (.o2 .cons (.int 0) .nil) (.o2 .cons (.o2 .cons (.int 1) .nil) (.o2 .cons (.o2 .cons (.int 4) .nil) (.o2 .cons (.o2 .cons (.int 5) .nil) .nil))))] [.sc (.int .i64)]
    (.ret [(.o2 .cons (.o1 (.fld 0) (.var 2)) (.o2 .cons (.o1 (.fld 1) (.var 2)) (.o2 .cons (.o1 (.fld 2) (.var 2)) (.o2 .cons (.var 4) (.o2 .cons (.o1 (.fld 4) (.var 2)) (.o2 .cons (.o1 (.fld 5) (.var 2)) (.o2 .cons (.o1 (.fld 6) (.var 2)) (.o2 .cons (.o1 (.fld 7) (.var 2)) (.o2 .cons (.o1 (.fld 8) (.var 2)) (.o2 .cons (.o1 (.fld 9) (.var 2)) (.o2 .cons (.o1 (.fld 10) (.var 2)) (.o2 .cons (.o1 (.fld 11) (.var 2)) (.o2 .cons (.o1 (.fld 12) (.var 2)) .nil)))))))))))))]))
    (.br (.o2 .eq (.var 3) (.int 4))
     (.call [] (.fn 189) [.cur (.o1 (.fld 0) (.var 0)), .sc (.sl [(.int .i64)]) (.o2 .cons (.o2 .cons (.int (-1)) .nil) (.o2 .cons (.o2 .cons (.int 9999) .nil) (.o2 .cons (.o2 .cons (.int 10000) .nil) .nil)))] [.sc (.int .i64)]
     (.ret [(.o2 .cons (.o1 (.fld 0) (.var 2)) (.o2 .cons (.o1 (.fld 1) (.var 2)) (.o2 .cons (.o1 (.fld 2) (.var 2)) (.o2 .cons (.o1 (.fld 3) (.var 2)) (.o2 .cons (.var 4) (.o2 .cons (.o1 (.fld 5) (.var 2)) (.o2 .cons (.o1 (.fld 6) (.var 2)) (.o2 .cons (.o1 (.fld 7) (.var 2)) (.o2 .cons (.o1 (.fld 8) (.var 2)) (.o2 .cons (.o1 (.fld 9) (.var 2)) (.o2 .cons (.o1 (.fld 10) (.var 2)) (.o2 .cons (.o1 (.fld 11) (.var 2)) (.o2 .cons (.o1 (.fld 12) (.var 2)) .nil)))))))))))))]))
     (.br (.o2 .eq (.var 3) (.int 5))
      (.call [] (.fn 189) [.cur (.o1 (.fld 0) (.var 0)), .sc (.sl [(.int .i64)]) (.o2 .cons (.o2 .cons (.int (-1)) .nil) (.o2 .cons (.o2 .cons (.int 999) .nil) (.o2 .cons (.o2 .cons (.int 1000) .nil) .nil)))] [.sc (.int .i64)]
      (.ret [(.o2 .cons (.o1 (.fld 0) (.var 2)) (.o2 .cons (.o1 (.fld 1) (.var 2)) (.o2 .cons (.o1 (.fld 2) (.var 2)) (.o2 .cons (.o1 (.fld 3) (.var 2)) (.o2 .cons (.o1 (.fld 4) (.var 2)) (.o2 .cons (.var 4) (.o2 .cons (.o1 (.fld 6) (.var 2)) (.o2 .cons (.o1 (.fld 7) (.var 2)) (.o2 .cons (.o1 (.fld 8) (.var 2)) (.o2 .cons (.o1 (.fld 9) (.var 2)) (.o2 .cons (.o1 (.fld 10) (.var 2)) (.o2 .cons (.o1 (.fld 11) (.var 2)) (.o2 .cons (.o1 (.fld 12) (.var 2)) .nil)))))))))))))]))
      (.br (.o2 .eq (.var 3) (.int 6))
       (.call [] (.fn 189) [.cur (.o1 (.fld 0) (.var 0)), .sc (.sl [(.int .i64)]) (.o2 .cons (.o2 .cons (.int (-1)) .nil) (.o2 .cons (.o2 .cons (.int 999) .nil) (.o2 .cons (.o2 .cons (.int 1000) .nil) .nil)))] [.sc (.int .i64)]
       (.ret [(.o2 .cons (.o1 (.fld 0) (.var 2)) (.o2 .cons (.o1 (.fld 1) (.var 2)) (.o2 .cons (.o1 (.fld 2) (.var 2)) (.o2 .cons (.o1 (.fld 3) (.var 2)) (.o2 .cons (.o1 (.fld 4) (.var 2)) (.o2 .cons (.o1 (.fld 5) (.var 2)) (.o2 .cons (.var 4) (.o2 .cons (.o1 (.fld 7) (.var 2)) (.o2 .cons (.o1 (.fld 8) (.var 2)) (.o2 .cons (.o1 (.fld 9) (.var 2)) (.o2 .cons (.o1 (.fld 10) (.var 2)) (.o2 .cons (.o1 (.fld 11) (.var 2)) (.o2 .cons (.o1 (.fld 12) (.var 2)) .nil)))))))))))))]))
       (.br (.o2 .eq (.var 3) (.int 7))
        (.call [] (.fn 189) [.cur (.o1 (.fld 0) (.var 0)), .sc (.sl [(.int .i64)]) (.o2 .cons (.o2 .cons (.int (-1)) .nil) (.o2 .cons (.o2 .cons (.int 63) .nil) (.o2 .cons (.o2 .cons (.int 64) .nil) .nil)))] [.sc (.int .i64)]
        (.ret [(.o2 .cons (.o1 (.fld 0) (.var 2)) (.o2 .cons (.o1 (.fld 1) (.var 2)) (.o2 .cons (.o1 (.fld 2) (.var 2)) (.o2 .cons (.o1 (.fld 3) (.var 2)) (.o2 .cons (.o1 (.fld 4) (.var 2)) (.o2 .cons (.o1 (.fld 5) (.var 2)) (.o2 .cons (.o1 (.fld 6) (.var 2)) (.o2 .cons (.var 4) (.o2 .cons (.o1 (.fld 8) (.var 2)) (.o2 .cons (.o1 (.fld 9) (.var 2)) (.o2 .cons (.o1 (.fld 10) (.var 2)) (.o2 .cons (.o1 (.fld 11) (.var 2)) (.o2 .cons (.o1 (.fld 12) (.var 2)) .nil)))))))))))))]))
        (.br (.o2 .eq (.var 3) (.int 8))
         (.call [] (.fn 133) [.cur (.o1 (.fld 0) (.var 0))] [.sc (.int .i64)]
         (.ret [(.o2 .cons (.o1 (.fld 0) (.var 2)) (.o2 .cons (.o1 (.fld 1) (.var 2)) (.o2 .cons (.o1 (.fld 2) (.var 2)) (.o2 .cons (.o1 (.fld 3) (.var 2)) (.o2 .cons (.o1 (.fld 4) (.var 2)) (.o2 .cons (.o1 (.fld 5) (.var 2)) (.o2 .cons (.o1 (.fld 6) (.var 2)) (.o2 .cons (.o1 (.fld 7) (.var 2)) (.o2 .cons (.var 4) (.o2 .cons (.o1 (.fld 9) (.var 2)) (.o2 .cons (.o1 (.fld 10) (.var 2)) (.o2 .cons (.o1 (.fld 11) (.var 2)) (.o2 .cons (.o1 (.fld 12) (.var 2)) .nil)))))))))))))]))
         (.br (.o2 .eq (.var 3) (.int 9))
          (.call [] (.fn 133) [.cur (.o1 (.fld 0) (.var 0))] [.sc (.int .i64)]
          (.ret [(.o2 .cons (.o1 (.fld 0) (.var 2)) (.o2 .cons (.o1 (.fld 1) (.var 2)) (.o2 .cons (.o1 (.fld 2) (.var 2)) (.o2 .cons (.o1 (.fld 3) (.var 2)) (.o2 .cons (.o1 (.fld 4) (.var 2)) (.o2 .cons (.o1 (.fld 5) (.var 2)) (.o2 .cons (.o1 (.fld 6) (.var 2)) (.o2 .cons (.o1 (.fld 7) (.var 2)) (.o2 .cons (.o1 (.fld 8) (.var 2)) (.o2 .cons (.var 4) (.o2 .cons (.o1 (.fld 10) (.var 2)) (.o2 .cons (.o1 (.fld 11) (.var 2)) (.o2 .cons (.o1 (.fld 12) (.var 2)) .nil)))))))))))))]))
          (.br (.o2 .eq (.var 3) (.int 10))
           (.call [] (.fn 133) [.cur (.o1 (.fld 0) (.var 0))] [.sc (.int .i64)]
           (.ret [(.o2 .cons (.o1 (.fld 0) (.var 2)) (.o2 .cons (.o1 (.fld 1) (.var 2)) (.o2 .cons (.o1 (.fld 2) (.var 2)) (.o2 .cons (.o1 (.fld 3) (.var 2)) (.o2 .cons (.o1 (.fld 4) (.var 2)) (.o2 .cons (.o1 (.fld 5) (.var 2)) (.o2 .cons (.o1 (.fld 6) (.var 2)) (.o2 .cons (.o1 (.fld 7) (.var 2)) (.o2 .cons (.o1 (.fld 8) (.var 2)) (.o2 .cons (.o1 (.fld 9) (.var 2)) (.o2 .cons (.var 4) (.o2 .cons (.o1 (.fld 11) (.var 2)) (.o2 .cons (.o1 (.fld 12) (.var 2)) .nil)))))))))))))]))
           (.br (.o2 .eq (.var 3) (.int 11))
            (.ret [(.o2 .cons (.o1 (.fld 0) (.var 2)) (.o2 .cons (.o1 (.fld 1) (.var 2)) (.o2 .cons (.o1 (.fld 2) (.var 2)) (.o2 .cons (.o1 (.fld 3) (.var 2)) (.o2 .cons (.o1 (.fld 4) (.var 2)) (.o2 .cons (.o1 (.fld 5) (.var 2)) (.o2 .cons (.o1 (.fld 6) (.var 2)) (.o2 .cons (.o1 (.fld 7) (.var 2)) (.o2 .cons (.o1 (.fld 8) (.var 2)) (.o2 .cons (.o1 (.fld 9) (.var 2)) (.o2 .cons (.o1 (.fld 10) (.var 2)) (.o2 .cons (.bool true) (.o2 .cons (.o1 (.fld 12) (.var 2)) .nil)))))))))))))])
            (.ret [(.o2 .cons (.o1 (.fld 0) (.var 2)) (.o2 .cons (.o1 (.fld 1) (.var 2)) (.o2 .cons (.o1 (.fld 2) (.var 2)) (.o2 .cons (.o1 (.fld 3) (.var 2)) (.o2 .cons (.o1 (.fld 4) (.var 2)) (.o2 .cons (.o1 (.fld 5) (.var 2)) (.o2 .cons (.o1 (.fld 6) (.var 2)) (.o2 .cons (.o1 (.fld 7) (.var 2)) (.o2 .cons (.o1 (.fld 8) (.var 2)) (.o2 .cons (.o1 (.fld 9) (.var 2)) (.o2 .cons (.o1 (.fld 10) (.var 2)) (.o2 .cons (.o1 (.fld 11) (.var 2)) (.o2 .cons (.o1 (.fld 12) (.var 2)) .nil)))))))))))))]))))))))))))))))
theorem sig_194 : sigOf Try.prog md 194 [] = some ([.cur], [.st [(.int .i64), (.int .i64), (.int .i64), (.int .i64), (.int .i64), (.int .i64), (.int .i64), (.int .i64), (.int .i64), (.int .i64), (.int .i64), .bool, .bool]], tree_194) := by kernel_rfl
/- spec.l5Any -/
def tree_127 : T :=
(.call [] (.fn 119) [.cur (.o1 (.fld 0) (.var 0))] [.st [(.sl [(.int .i64), (.int .i64), (.int .i64), (.int .i64), (.int .i64), (.int .i64), (.int .i64), (.int .i64), (.int .i64), (.int .i64), (.int .i64), .bool, .bool]), (.sl [(.int .i64), (.int .i64), .bool]), (.int .i64), (.int .i64)]]
(.call [] (.fn 117) [.cur (.o1 (.fld 0) (.var 0)), .sc (.int .i64) (.int 18)] [.sc (.int .i64)]
(.br (.o2 .eq (.var 2) (.int 0))
 (.call [] (.fn 189) [.cur (.o1 (.fld 0) (.var 0)), .sc (.sl [(.int .i64)]) (.o2 .cons (.o2 .cons (.int (-1)) .nil) (.o2 .cons (.o2 .cons (.int 2) .nil) (.o2 .cons (.o2 .cons (.int 3) .nil) .nil)))] [.sc (.int .i64)]
 (.ret [(.o2 .cons (.o1 (.fld 0) (.var 1)) (.o2 .cons (.o1 (.fld 1) (.var 1)) (.o2 .cons (.var 3) (.o2 .cons (.o1 (.fld 3) (.var 1)) .nil))))]))
 (.br (.o2 .eq (.var 2) (.int 1))
  (.call [] (.fn 189) [.cur (.o1 (.fld 0) (.var 0)), .sc (.sl [(.int .i64)]) (.o2 .cons (.o2 .cons (.int (-1)) .nil) (.o2 .cons (.o2 .cons (.int 0) .nil) (.o2 .cons (.o2 .cons (.int 9999) .nil) (.o2 .cons (.o2 .cons (.int 10000) .nil) .nil))))] [.sc (.int .i64)]
  (.ret [(.o2 .cons (.o1 (.fld 0) (.var 1)) (.o2 .cons (.o1 (.fld 1) (.var 1)) (.o2 .cons (.o1 (.fld 2) (.var 1)) (.o2 .cons (.var 3) .nil))))]))
  (.br (.o2 .eq (.var 2) (.int 2))
   (.call [] (.fn 133) [.cur (.o1 (.fld 0) (.var 0))] [.sc (.int .i64)]
   (.need [] (.o2 (.fits 24) (.o1 .len (.o1 (.fld 1) (.var 1))) (.o1 .len (.o2 .cons (.o2 .cons (.var 3) (.o2 .cons (.int 0) (.o2 .cons (.bool false) .nil))) .nil)))
   (.ret [(.o2 .cons (.o1 (.fld 0) (.var 1)) (.o2 .cons (.o2 .app (.o1 (.fld 1) (.var 1)) (.o2 .cons (.o2 .cons (.var 3) (.o2 .cons (.int 0) (.o2 .cons (.bool false) .nil))) .nil)) (.o2 .cons (.o1 (.fld 2) (.var 1)) (.o2 .cons (.o1 (.fld 3) (.var 1)) .nil))))])))
   (.br (.o2 .eq (.var 2) (.int 3))
    (.need [] (.o2 .le (.int 0) (.int 0))
    (.need [] (.o2 .lt (.int 0) (.o1 .len (.o1 (.fld 1) (.var 1))))
    (.call [] (.fn 133) [.cur (.o1 (.fld 0) (.var 0))] [.sc (.int .i64)]
    (.ret [(.o2 .cons (.o1 (.fld 0) (.var 1)) (.o2 .cons (.o3 (.setC 1) (.o1 (.fld 1) (.var 1)) (.int 0) (.var 3)) (.o2 .cons (.o1 (.fld 2) (.var 1)) (.o2 .cons (.o1 (.fld 3) (.var 1)) .nil))))]))))
    (.br (.o2 .eq (.var 2) (.int 4))
     (.call [] (.fn 194) [.cur (.o1 (.fld 0) (.var 0))] [.st [(.int .i64), (.int .i64), (.int .i64), (.int .i64), (.int .i64), (.int .i64), (.int .i64), (.int .i64), (.int .i64), (.int .i64), (.int .i64), .bool, .bool]]
     (.need [] (.o2 (.fits 96) (.o1 .len (.o1 (.fld 0) (.var 1))) (.o1 .len (.o2 .cons (.o2 .cons (.o1 (.fld 0) (.var 3)) (.o2 .cons (.o1 (.fld 1) (.var 3)) (.o2 .cons (.o1 (.fld 2) (.var 3)) (.o2 .cons (.o1 (.fld 3) (.var 3)) (.o2 .cons (.o1 (.fld 4) (.var 3)) (.o2 .cons (.o1 (.fld 5) (.var 3)) (.o2 .cons (.o1 (.fld 6) (.var 3)) (.o2 .cons (.o1 (.fld 7) (.var 3)) (.o2 .cons (.o1 (.fld 8) (.var 3)) (.o2 .cons (.o1 (.fld 9) (.var 3)) (.o2 .cons (.o1 (.fld 10) (.var 3)) (.o2 .cons (.o1 (.fld 11) (.var 3)) (.o2 .cons (.o1 (.fld 12) (.var 3)) .nil))))))))))))) .nil)))
     (.ret [(.o2 .cons (.o2 .app (.o1 (.fld 0) (.var 1)) (.o2 .cons (.o2 .cons (.o1 (.fld 0) (.var 3)) (.o2 .cons (.o1 (.fld 1) (.var 3)) (.o2 .cons (.o1 (.fld 2) (.var 3)) (.o2 .cons (.o1 (.fld 3) (.var 3)) (.o2 .cons (.o1 (.fld 4) (.var 3)) (.o2 .cons (.o1 (.fld 5) (.var 3)) (.o2 .cons (.o1 (.fld 6) (.var 3)) (.o2 .cons (.o1 (.fld 7) (.var 3)) (.o2 .cons (.o1 (.fld 8) (.var 3)) (.o2 .cons (.o1 (.fld 9) (.var 3)) (.o2 .cons (.o1 (.fld 10) (.var 3)) (.o2 .cons (.o1 (.fld 11) (.var 3)) (.o2 .cons (.o1 (.fld 12) (.var 3)) .nil))))))))))))) .nil)) (.o2 .cons (.o1 (.fld 1) (.var 1)) (.o2 .cons (.o1 (.fld 2) (.var 1)) (.o2 .cons (.o1 (.fld 3) (.var 1)) .nil))))])))
     (.br (.o2 .eq (.var 2) (.int 5))
      (.need [] (.o2 .le (.int 0) (.int 1))
      (.need [] (.o2 .le (.int 1) (.o1 .len (.o1 (.fld 1) (.var 1))))
      (.ret [(.o2 .cons (.o1 (.fld 0) (.var 1)) (.o2 .cons (.o2 .take (.o1 (.fld 1) (.var 1)) (.int 1)) (.o2 .cons (.o1 (.fld 2) (.var 1)) (.o2 .cons (.o1 (.fld 3) (.var 1)) .nil))))])))
      (.br (.o2 .eq (.var 2) (.int 6))
       (.need [] (.o2 .le (.int 0) (.int 0))
       (.need [] (.o2 .lt (.int 0) (.o1 .len (.o1 (.fld 0) (.var 1))))
       (.call [] (.fn 194) [.cur (.o1 (.fld 0) (.var 0))] [.st [(.int .i64), (.int .i64), (.int .i64), (.int .i64), (.int .i64), (.int .i64), (.int .i64), (.int .i64), (.int .i64), (.int .i64), (.int .i64), .bool, .bool]]
       (.ret [(.o2 .cons (.o3 .setE (.o1 (.fld 0) (.var 1)) (.int 0) (.o2 .cons (.o1 (.fld 0) (.var 3)) (.o2 .cons (.o1 (.fld 1) (.var 3)) (.o2 .cons (.o1 (.fld 2) (.var 3)) (.o2 .cons (.o1 (.fld 3) (.var 3)) (.o2 .cons (.o1 (.fld 4) (.var 3)) (.o2 .cons (.o1 (.fld 5) (.var 3)) (.o2 .cons (.o1 (.fld 6) (.var 3)) (.o2 .cons (.o1 (.fld 7) (.var 3)) (.o2 .cons (.o1 (.fld 8) (.var 3)) (.o2 .cons (.o1 (.fld 9) (.var 3)) (.o2 .cons (.o1 (.fld 10) (.var 3)) (.o2 .cons (.o1 (.fld 11) (.var 3)) (.o2 .cons (.o1 (.fld 12) (.var 3)) .nil)))))))))))))) (.o2 .cons (.o1 (.fld 1) (.var 1)) (.o2 .cons (.o1 (.fld 2) (.var 1)) (.o2 .cons (.o1 (.fld 3) (.var 1)) .nil))))]))))
       (.br (.o2 .eq (.var 2) (.int 7))
        (.loop 0 [(.int 40), (.o1 (.fld 0) (.var 1))]
         (.br (.o2 .lt (.var 3) (.int 46))
          (.call [] (.fn 192) [.cur (.o1 (.fld 0) (.var 0)), .sc (.int .i64) (.var 3)] [.st [(.int .i64), (.int .i64), (.int .i64), (.int .i64), (.int .i64), (.int .i64), (.int .i64), (.int .i64), (.int .i64), (.int .i64), (.int .i64), .bool, .bool]]
          (.need [] (.o2 (.fits 96) (.o1 .len (.var 4)) (.o1 .len (.o2 .cons (.o2 .cons (.o1 (.fld 0) (.var 5)) (.o2 .cons (.o1 (.fld 1) (.var 5)) (.o2 .cons (.o1 (.fld 2) (.var 5)) (.o2 .cons (.o1 (.fld 3) (.var 5)) (.o2 .cons (.o1 (.fld 4) (.var 5)) (.o2 .cons (.o1 (.fld 5) (.var 5)) (.o2 .cons (.o1 (.fld 6) (.var 5)) (.o2 .cons (.o1 (.fld 7) (.var 5)) (.o2 .cons (.o1 (.fld 8) (.var 5)) (.o2 .cons (.o1 (.fld 9) (.var 5)) (.o2 .cons (.o1 (.fld 10) (.var 5)) (.o2 .cons (.o1 (.fld 11) (.var 5)) (.o2 .cons (.o1 (.fld 12) (.var 5)) .nil))))))))))))) .nil)))
          (.cont 0 [(.o2 (.add .i64) (.var 3) (.int 1)), (.o2 .app (.var 4) (.o2 .cons (.o2 .cons (.o1 (.fld 0) (.var 5)) (.o2 .cons (.o1 (.fld 1) (.var 5)) (.o2 .cons (.o1 (.fld 2) (.var 5)) (.o2 .cons (.o1 (.fld 3) (.var 5)) (.o2 .cons (.o1 (.fld 4) (.var 5)) (.o2 .cons (.o1 (.fld 5) (.var 5)) (.o2 .cons (.o1 (.fld 6) (.var 5)) (.o2 .cons (.o1 (.fld 7) (.var 5)) (.o2 .cons (.o1 (.fld 8) (.var 5)) (.o2 .cons (.o1 (.fld 9) (.var 5)) (.o2 .cons (.o1 (.fld 10) (.var 5)) (.o2 .cons (.o1 (.fld 11) (.var 5)) (.o2 .cons (.o1 (.fld 12) (.var 5)) .nil))))))))))))) .nil))])))
          (.ret [(.o2 .cons (.var 4) (.o2 .cons (.o1 (.fld 1) (.var 1)) (.o2 .cons (.o1 (.fld 2) (.var 1)) (.o2 .cons (.o1 (.fld 3) (.var 1)) .nil))))])))
        (.ret [(.o2 .cons (.o1 (.fld 0) (.var 1)) (.o2 .cons (.o1 (.fld 1) (.var 1)) (.o2 .cons (.o1 (.fld 2) (.var 1)) (.o2 .cons (.o1 (.fld 3) (.var 1)) .nil))))])))))))))))
theorem sig_127 : sigOf Try.prog md 127 [] = some ([.cur], [.st [(.sl [(.int .i64), (.int .i64), (.int .i64), (.int .i64), (.int .i64), (.int .i64), (.int .i64), (.int .i64), (.int .i64), (.int .i64), (.int .i64), .bool, .bool]), (.sl [(.int .i64), (.int .i64), .bool]), (.int .i64), (.int .i64)]], tree_127) := by kernel_rfl
/- spec.l8Draw -/
def tree_195 : T :=
(.call [] (.fn 115) [.cur (.o1 (.fld 0) (.var 0)), .sc (.int .i64) (.int 3)] [.sc .bool]
(.br (.o1 .not (.var 1))
 (.ret [(.o2 .cons (.int 0) (.o2 .cons (.int 0) .nil))])
 (.call [] (.fn 117) [.cur (.o1 (.fld 0) (.var 0)), .sc (.int .i64) (.int 4)] [.sc (.int .i64)]
 (.br (.o2 .eq (.o2 (.add .i64) (.int 1) (.var 2)) (.int 1))
  (.call [] (.fn 189) [.cur (.o1 (.fld 0) (.var 0)), .sc (.sl [(.int .i64)]) (.o2 .cons (.o2 .cons (.int 3) .nil) (.o2 .cons (.o2 .cons (.int 10) .nil) (.o2 .cons (.o2 .cons (.int 20) .nil) (.o2 .cons (.o2 .cons (.int 1) .nil) .nil))))] [.sc (.int .i64)]
  (.ret [(.o2 .cons (.o2 (.add .i64) (.int 1) (.var 2)) (.o2 .cons (.var 3) .nil))]))
  (.br (.o2 .eq (.o2 (.add .i64) (.int 1) (.var 2)) (.int 2))
   (.br (.o2 .eq (.o2 (.add .i64) (.int 1) (.var 2)) (.int 2))
    (.call [] (.fn 189) [.cur (.o1 (.fld 0) (.var 0)), .sc (.sl [(.int .i64)]) (.o2 .cons (.o2 .cons (.int 0) .nil) (.o2 .cons (.o2 .cons (.int 1) .nil) (.o2 .cons (.o2 .cons (.int 2) .nil) .nil)))] [.sc (.int .i64)]
    (.ret [(.o2 .cons (.o2 (.add .i64) (.int 1) (.var 2)) (.o2 .cons (.var 3) .nil))]))
    (.ret [(.o2 .cons (.o2 (.add .i64) (.int 1) (.var 2)) (.o2 .cons (.int 0) .nil))]))
   (.br (.o2 .eq (.o2 (.add .i64) (.int 1) (.var 2)) (.int 4))
    (.call [] (.fn 189) [.cur (.o1 (.fld 0) (.var 0)), .sc (.sl [(.int .i64)]) (.o2 .cons (.o2 .cons (.int 0) .nil) (.o2 .cons (.o2 .cons (.int 1) .nil) (.o2 .cons (.o2 .cons (.int 2) .nil) .nil)))] [.sc (.int .i64)]
    (.ret [(.o2 .cons (.o2 (.add .i64) (.int 1) (.var 2)) (.o2 .cons (.var 3) .nil))]))
    (.ret [(.o2 .cons (.o2 (.add .i64) (.int 1) (.var 2)) (.o2 .cons (.int 0) .nil))])))))))
theorem sig_195 : sigOf Try.prog md 195 [] = some ([.cur], [.st [(.int .i64), (.int .i64)]], tree_195) := by kernel_rfl
/- spec.l8Any -/
def tree_128 : T :=
(.call [] (.fn 195) [.cur (.o1 (.fld 0) (.var 0))] [.st [(.int .i64), (.int .i64)]]
(.call [] (.fn 117) [.cur (.o1 (.fld 0) (.var 0)), .sc (.int .i64) (.int 8)] [.sc (.int .i64)]
(.br (.o2 .eq (.var 2) (.int 0))
 (.call [] (.fn 189) [.cur (.o1 (.fld 0) (.var 0)), .sc (.sl [(.int .i64)]) (.o2 .cons (.o2 .cons (.int (-1)) .nil) (.o2 .cons (.o2 .cons (.int 1) .nil) (.o2 .cons (.o2 .cons (.int 2) .nil) (.o2 .cons (.o2 .cons (.int 3) .nil) (.o2 .cons (.o2 .cons (.int 4) .nil) (.o2 .cons (.o2 .cons (.int 5) .nil) .nil))))))] [.sc (.int .i64)]
 (.ret [(.o2 .cons (.var 3) (.o2 .cons (.o1 (.fld 1) (.var 1)) .nil))]))
 (.br (.o2 .eq (.var 2) (.int 1))
  (.call [] (.fn 133) [.cur (.o1 (.fld 0) (.var 0))] [.sc (.int .i64)]
  (.ret [(.o2 .cons (.o1 (.fld 0) (.var 1)) (.o2 .cons (.var 3) .nil))]))
  (.br (.o2 .eq (.var 2) (.int 2))
   (.call [] (.fn 189) [.cur (.o1 (.fld 0) (.var 0)), .sc (.sl [(.int .i64)]) (.o2 .cons (.o2 .cons (.int 1) .nil) (.o2 .cons (.o2 .cons (.int 8) .nil) (.o2 .cons (.o2 .cons (.int 9) .nil) (.o2 .cons (.o2 .cons (.int (-1)) .nil) .nil))))] [.sc (.int .i64)]
   (.ret [(.o2 .cons (.o1 (.fld 0) (.var 1)) (.o2 .cons (.var 3) .nil))]))
   (.ret [(.o2 .cons (.o1 (.fld 0) (.var 1)) (.o2 .cons (.o1 (.fld 1) (.var 1)) .nil))]))))))
theorem sig_128 : sigOf Try.prog md 128 [] = some ([.cur], [.st [(.int .i64), (.int .i64)]], tree_128) := by kernel_rfl
/- spec.DrawHolds -/
def tree_28 : T :=
(.call [] (.fn 113) [.sc (.sl [(.int .u8)]) (.var 0)] [.cur]
(.call [] (.fn 127) [.cur (.var 1)] [.st [(.sl [(.int .i64), (.int .i64), (.int .i64), (.int .i64), (.int .i64), (.int .i64), (.int .i64), (.int .i64), (.int .i64), (.int .i64), (.int .i64), .bool, .bool]), (.sl [(.int .i64), (.int .i64), .bool]), (.int .i64), (.int .i64)]]
(.call [] (.fn 117) [.cur (.var 1), .sc (.int .i64) (.int 4)] [.sc (.int .i64)]
(.call [] (.fn 128) [.cur (.var 1)] [.st [(.int .i64), (.int .i64)]]
(.ret [(.o2 .cons (.o1 (.fld 0) (.var 2)) (.o2 .cons (.o1 (.fld 1) (.var 2)) (.o2 .cons (.o1 (.fld 2) (.var 2)) (.o2 .cons (.o1 (.fld 3) (.var 2)) .nil)))), (.o2 (.sub .i64) (.var 3) (.int 1)), (.o2 .cons (.o1 (.fld 0) (.var 4)) (.o2 .cons (.o1 (.fld 1) (.var 4)) .nil))])))))
theorem sig_28 : sigOf Try.prog md 28 [] = some ([.sc (.sl [(.int .u8)])], [.st [(.sl [(.int .i64), (.int .i64), (.int .i64), (.int .i64), (.int .i64), (.int .i64), (.int .i64), (.int .i64), (.int .i64), (.int .i64), (.int .i64), .bool, .bool]), (.sl [(.int .i64), (.int .i64), .bool]), (.int .i64), (.int .i64)], .sc (.int .i64), .st [(.int .i64), (.int .i64)]], tree_28) := by kernel_rfl
/- spec.DrawStronger -/
def tree_29 : T :=
(.call [] (.fn 113) [.sc (.sl [(.int .u8)]) (.var 0)] [.cur]
(.call [] (.fn 128) [.cur (.var 1)] [.st [(.int .i64), (.int .i64)]]
(.call [] (.fn 128) [.cur (.var 1)] [.st [(.int .i64), (.int .i64)]]
(.call [] (.fn 115) [.cur (.var 1), .sc (.int .i64) (.int 2)] [.sc .bool]
(.br (.var 4)
 (.ret [(.o2 .cons (.o1 (.fld 0) (.var 2)) (.o2 .cons (.o1 (.fld 1) (.var 2)) .nil)), (.o2 .cons (.o1 (.fld 0) (.var 2)) (.o2 .cons (.o1 (.fld 1) (.var 3)) .nil))])
 (.ret [(.o2 .cons (.o1 (.fld 0) (.var 2)) (.o2 .cons (.o1 (.fld 1) (.var 2)) .nil)), (.o2 .cons (.o1 (.fld 0) (.var 3)) (.o2 .cons (.o1 (.fld 1) (.var 3)) .nil))]))))))
theorem sig_29 : sigOf Try.prog md 29 [] = some ([.sc (.sl [(.int .u8)])], [.st [(.int .i64), (.int .i64)], .st [(.int .i64), (.int .i64)]], tree_29) := by kernel_rfl
/- spec.DrawBentOf -/
def tree_30 : T :=
(.call [] (.fn 113) [.sc (.sl [(.int .u8)]) (.var 0)] [.cur]
(.call [] (.fn 127) [.cur (.var 1)] [.st [(.sl [(.int .i64), (.int .i64), (.int .i64), (.int .i64), (.int .i64), (.int .i64), (.int .i64), (.int .i64), (.int .i64), (.int .i64), (.int .i64), .bool, .bool]), (.sl [(.int .i64), (.int .i64), .bool]), (.int .i64), (.int .i64)]]
(.call [] (.fn 117) [.cur (.var 1), .sc (.int .i64) (.int 3)] [.sc (.int .i64)]
(.ret [(.o2 .cons (.o1 (.fld 0) (.var 2)) (.o2 .cons (.o1 (.fld 1) (.var 2)) (.o2 .cons (.o1 (.fld 2) (.var 2)) (.o2 .cons (.o1 (.fld 3) (.var 2)) .nil)))), (.var 3)]))))
theorem sig_30 : sigOf Try.prog md 30 [] = some ([.sc (.sl [(.int .u8)])], [.st [(.sl [(.int .i64), (.int .i64), (.int .i64), (.int .i64), (.int .i64), (.int .i64), (.int .i64), (.int .i64), (.int .i64), (.int .i64), (.int .i64), .bool, .bool]), (.sl [(.int .i64), (.int .i64), .bool]), (.int .i64), (.int .i64)], .sc (.int .i64)], tree_30) := by kernel_rfl
/- impl.from -/
def tree_123 : T :=
(.ret [(.o2 .band (.o2 .ge (.var 0) (.var 1)) (.o2 .le (.var 0) (.var 2)))])
theorem sig_123 : sigOf Try.prog md 123 [] = some ([.sc (.int .i64), .sc (.int .i64), .sc (.int .i64)], [.sc .bool], tree_123) := by kernel_rfl
/- impl.Bound -/
def tree_131 : T :=
(.ret [(.o2 .max (.int (-2147483647)) (.o2 .min (.var 0) (.int 2147483647)))])
theorem sig_131 : sigOf Try.prog md 131 [] = some ([.sc (.int .i64)], [.sc (.int .i64)], tree_131) := by kernel_rfl
/- impl.GuardOk -/
def tree_34 : T :=
(.br (.o2 .eq (.o1 (.fld 0) (.var 0)) (.int 0))
 (.br (.o2 .eq (.o1 (.fld 0) (.var 0)) (.int 0))
  (.ret [(.o2 .eq (.o1 (.fld 1) (.var 0)) (.int 0))])
  (.br (.o2 .eq (.o1 (.fld 0) (.var 0)) (.int 1))
   (.call [] (.fn 131) [.sc (.int .i64) (.o1 (.fld 1) (.var 0))] [.sc (.int .i64)]
   (.ret [(.o2 .eq (.var 1) (.o1 (.fld 1) (.var 0)))]))
   (.br (.o2 .eq (.o1 (.fld 0) (.var 0)) (.int 2))
    (.br (.o2 .eq (.o1 (.fld 0) (.var 0)) (.int 2))
     (.call [] (.fn 123) [.sc (.int .i64) (.o1 (.fld 1) (.var 0)), .sc (.int .i64) (.int 0), .sc (.int .i64) (.int 8)] [.sc .bool]
     (.ret [(.var 1)]))
     (.ret [(.bool false)]))
    (.br (.o2 .eq (.o1 (.fld 0) (.var 0)) (.int 4))
     (.call [] (.fn 123) [.sc (.int .i64) (.o1 (.fld 1) (.var 0)), .sc (.int .i64) (.int 0), .sc (.int .i64) (.int 8)] [.sc .bool]
     (.ret [(.var 1)]))
     (.ret [(.bool false)])))))
 (.br (.o2 .eq (.o1 (.fld 0) (.var 0)) (.int 3))
  (.ret [(.o2 .eq (.o1 (.fld 1) (.var 0)) (.int 0))])
  (.br (.o2 .eq (.o1 (.fld 0) (.var 0)) (.int 1))
   (.call [] (.fn 131) [.sc (.int .i64) (.o1 (.fld 1) (.var 0))] [.sc (.int .i64)]
   (.ret [(.o2 .eq (.var 1) (.o1 (.fld 1) (.var 0)))]))
   (.br (.o2 .eq (.o1 (.fld 0) (.var 0)) (.int 2))
    (.br (.o2 .eq (.o1 (.fld 0) (.var 0)) (.int 2))
     (.call [] (.fn 123) [.sc (.int .i64) (.o1 (.fld 1) (.var 0)), .sc (.int .i64) (.int 0), .sc (.int .i64) (.int 8)] [.sc .bool]
     (.ret [(.var 1)]))
     (.ret [(.bool false)]))
    (.br (.o2 .eq (.o1 (.fld 0) (.var 0)) (.int 4))
     (.call [] (.fn 123) [.sc (.int .i64) (.o1 (.fld 1) (.var 0)), .sc (.int .i64) (.int 0), .sc (.int .i64) (.int 8)] [.sc .bool]
     (.ret [(.var 1)]))
     (.ret [(.bool false)]))))))
theorem sig_34 : sigOf Try.prog md 34 [] = some ([.st [(.int .i64), (.int .i64)]], [.sc .bool], tree_34) := by kernel_rfl
/- impl.Stronger -/
def tree_31 : T :=
(.call [] (.fn 34) [.st [(.int .i64), (.int .i64)] (.o2 .cons (.o1 (.fld 0) (.var 0)) (.o2 .cons (.o1 (.fld 1) (.var 0)) .nil))] [.sc .bool]
(.call [((.o1 .not (.var 2)), false)] (.fn 34) [.st [(.int .i64), (.int .i64)] (.o2 .cons (.o1 (.fld 0) (.var 1)) (.o2 .cons (.o1 (.fld 1) (.var 1)) .nil))] [.sc .bool]
(.br (.o2 .bor (.o1 .not (.var 2)) (.o1 .not (.var 3)))
 (.ret [(.bool false)])
 (.br (.o2 .eq (.o1 (.fld 0) (.var 1)) (.int 0))
  (.ret [(.bool true)])
  (.br (.o2 .ne (.o1 (.fld 0) (.var 0)) (.o1 (.fld 0) (.var 1)))
   (.ret [(.bool false)])
   (.br (.o2 .eq (.o1 (.fld 0) (.var 0)) (.int 1))
    (.ret [(.o2 .le (.o1 (.fld 1) (.var 0)) (.o1 (.fld 1) (.var 1)))])
    (.ret [(.o2 .ge (.o1 (.fld 1) (.var 0)) (.o1 (.fld 1) (.var 1)))])))))))
theorem sig_31 : sigOf Try.prog md 31 [] = some ([.st [(.int .i64), (.int .i64)], .st [(.int .i64), (.int .i64)]], [.sc .bool], tree_31) := by kernel_rfl
/- impl.BentOf -/
def tree_37 : T :=
(.know (.o1 (.fld 0) (.var 0))
(.loop 0 [(.int 0), (.int 0)]
 (.br (.o2 .lt (.var 3) (.o1 .len (.o1 (.fld 0) (.var 0))))
  (.need [] (.o2 .le (.int 0) (.var 3))
  (.need [] (.o2 .lt (.var 3) (.o1 .len (.o1 (.fld 0) (.var 0))))
  (.br (.o2 .band (.o2 .band (.o2 .eq (.o1 (.fld 3) (.o2 .idx (.o1 (.fld 0) (.var 0)) (.var 3))) (.int 2)) (.o2 .eq (.o1 (.fld 2) (.o2 .idx (.o1 (.fld 0) (.var 0)) (.var 3))) (.var 1))) (.o1 (.fld 12) (.o2 .idx (.o1 (.fld 0) (.var 0)) (.var 3))))
   (.cont 0 [(.o2 (.add .i64) (.var 2) (.int 1)), (.o2 (.add .i64) (.var 3) (.int 1))])
   (.cont 0 [(.var 2), (.o2 (.add .i64) (.var 3) (.int 1))]))))
  (.ret [(.var 2)]))))
theorem sig_37 : sigOf Try.prog md 37 [] = some ([.st [(.sl [(.int .i64), (.int .i64), (.int .i64), (.int .i64), (.int .i64), (.int .i64), (.int .i64), (.int .i64), (.int .i64), (.int .i64), (.int .i64), .bool, .bool]), (.sl [(.int .i64), (.int .i64), .bool]), (.int .i64), (.int .i64)], .sc (.int .i64)], [.sc (.int .i64)], tree_37) := by kernel_rfl
/- impl.OnField -/
def tree_39 : T :=
(.know (.o1 (.fld 0) (.var 0))
(.loop 0 [(.int 0), .nil]
 (.br (.o2 .lt (.var 2) (.o1 .len (.o1 (.fld 0) (.var 0))))
  (.need [] (.o2 .le (.int 0) (.var 2))
  (.need [] (.o2 .lt (.var 2) (.o1 .len (.o1 (.fld 0) (.var 0))))
  (.br (.o2 .band (.o2 .eq (.o1 (.fld 3) (.o2 .idx (.o1 (.fld 0) (.var 0)) (.var 2))) (.int 2)) (.o2 .bor (.o2 .eq (.var 1) (.int (-1))) (.o2 .eq (.o1 (.fld 2) (.o2 .idx (.o1 (.fld 0) (.var 0)) (.var 2))) (.var 1))))
   (.need [] (.o2 (.fits 8) (.o1 .len (.var 3)) (.o1 .len (.o2 .cons (.o2 .cons (.o1 (.fld 0) (.o2 .idx (.o1 (.fld 0) (.var 0)) (.var 2))) .nil) .nil)))
   (.cont 0 [(.o2 (.add .i64) (.var 2) (.int 1)), (.o2 .app (.var 3) (.o2 .cons (.o2 .cons (.o1 (.fld 0) (.o2 .idx (.o1 (.fld 0) (.var 0)) (.var 2))) .nil) .nil))]))
   (.cont 0 [(.o2 (.add .i64) (.var 2) (.int 1)), (.var 3)]))))
  (.ret [(.var 3)]))))
theorem sig_39 : sigOf Try.prog md 39 [] = some ([.st [(.sl [(.int .i64), (.int .i64), (.int .i64), (.int .i64), (.int .i64), (.int .i64), (.int .i64), (.int .i64), (.int .i64), (.int .i64), (.int .i64), .bool, .bool]), (.sl [(.int .i64), (.int .i64), .bool]), (.int .i64), (.int .i64)], .sc (.int .i64)], [.sc (.sl [(.int .i64)])], tree_39) := by kernel_rfl
/- impl.isSide -/
def tree_129 : T :=
(.know (.o1 (.fld 1) (.var 0))
(.call [] (.fn 123) [.sc (.int .i64) (.var 1), .sc (.int .i64) (.int 0), .sc (.int .i64) (.o2 (.sub .i64) (.o1 .len (.o1 (.fld 1) (.var 0))) (.int 1))] [.sc .bool]
(.ret [(.var 2)])))
theorem sig_129 : sigOf Try.prog md 129 [] = some ([.st [(.sl [(.int .i64), (.int .i64), (.int .i64), (.int .i64), (.int .i64), (.int .i64), (.int .i64), (.int .i64), (.int .i64), (.int .i64), (.int .i64), .bool, .bool]), (.sl [(.int .i64), (.int .i64), .bool]), (.int .i64), (.int .i64)], .sc (.int .i64)], [.sc .bool], tree_129) := by kernel_rfl
/- impl.Holds -/
def tree_32 : T :=
(.call [] (.fn 34) [.st [(.int .i64), (.int .i64)] (.o2 .cons (.o1 (.fld 0) (.var 2)) (.o2 .cons (.o1 (.fld 1) (.var 2)) .nil))] [.sc .bool]
(.call [((.o1 .not (.var 3)), false)] (.fn 129) [.st [(.sl [(.int .i64), (.int .i64), (.int .i64), (.int .i64), (.int .i64), (.int .i64), (.int .i64), (.int .i64), (.int .i64), (.int .i64), (.int .i64), .bool, .bool]), (.sl [(.int .i64), (.int .i64), .bool]), (.int .i64), (.int .i64)] (.o2 .cons (.o1 (.fld 0) (.var 0)) (.o2 .cons (.o1 (.fld 1) (.var 0)) (.o2 .cons (.o1 (.fld 2) (.var 0)) (.o2 .cons (.o1 (.fld 3) (.var 0)) .nil)))), .sc (.int .i64) (.var 1)] [.sc .bool]
(.br (.o2 .bor (.o1 .not (.var 3)) (.o1 .not (.var 4)))
 (.ret [(.bool false)])
 (.br (.o2 .eq (.o1 (.fld 0) (.var 2)) (.int 1))
  (.need [] (.o2 .le (.int 0) (.var 1))
  (.need [] (.o2 .lt (.var 1) (.o1 .len (.o1 (.fld 1) (.var 0))))
  (.ret [(.o2 .le (.o1 (.fld 0) (.o2 .idx (.o1 (.fld 1) (.var 0)) (.var 1))) (.o1 (.fld 1) (.var 2)))])))
  (.br (.o2 .eq (.o1 (.fld 0) (.var 2)) (.int 2))
   (.call [] (.fn 39) [.st [(.sl [(.int .i64), (.int .i64), (.int .i64), (.int .i64), (.int .i64), (.int .i64), (.int .i64), (.int .i64), (.int .i64), (.int .i64), (.int .i64), .bool, .bool]), (.sl [(.int .i64), (.int .i64), .bool]), (.int .i64), (.int .i64)] (.o2 .cons (.o1 (.fld 0) (.var 0)) (.o2 .cons (.o1 (.fld 1) (.var 0)) (.o2 .cons (.o1 (.fld 2) (.var 0)) (.o2 .cons (.o1 (.fld 3) (.var 0)) .nil)))), .sc (.int .i64) (.var 1)] [.sc (.sl [(.int .i64)])]
   (.know (.var 5)
   (.ret [(.o2 .ge (.o1 .len (.var 5)) (.o1 (.fld 1) (.var 2)))])))
   (.br (.o2 .eq (.o1 (.fld 0) (.var 2)) (.int 3))
    (.ret [(.o2 .eq (.o1 (.fld 2) (.var 0)) (.var 1))])
    (.br (.o2 .eq (.o1 (.fld 0) (.var 2)) (.int 4))
     (.call [] (.fn 37) [.st [(.sl [(.int .i64), (.int .i64), (.int .i64), (.int .i64), (.int .i64), (.int .i64), (.int .i64), (.int .i64), (.int .i64), (.int .i64), (.int .i64), .bool, .bool]), (.sl [(.int .i64), (.int .i64), .bool]), (.int .i64), (.int .i64)] (.o2 .cons (.o1 (.fld 0) (.var 0)) (.o2 .cons (.o1 (.fld 1) (.var 0)) (.o2 .cons (.o1 (.fld 2) (.var 0)) (.o2 .cons (.o1 (.fld 3) (.var 0)) .nil)))), .sc (.int .i64) (.var 1)] [.sc (.int .i64)]
     (.ret [(.o2 .ge (.var 5) (.o1 (.fld 1) (.var 2)))]))
     (.ret [(.bool true)]))))))))
theorem sig_32 : sigOf Try.prog md 32 [] = some ([.st [(.sl [(.int .i64), (.int .i64), (.int .i64), (.int .i64), (.int .i64), (.int .i64), (.int .i64), (.int .i64), (.int .i64), (.int .i64), (.int .i64), .bool, .bool]), (.sl [(.int .i64), (.int .i64), .bool]), (.int .i64), (.int .i64)], .sc (.int .i64), .st [(.int .i64), (.int .i64)]], [.sc .bool], tree_32) := by kernel_rfl
/- spec.l1In -/
def tree_126 : T :=
(.ret [(.o2 .band (.o2 .ge (.var 0) (.var 1)) (.o2 .le (.var 0) (.var 2)))])
theorem sig_126 : sigOf Try.prog md 126 [] = some ([.sc (.int .i64), .sc (.int .i64), .sc (.int .i64)], [.sc .bool], tree_126) := by kernel_rfl
/- spec.GuardOk -/
def tree_35 : T :=
(.br (.o2 .eq (.o1 (.fld 0) (.var 0)) (.int 0))
 (.br (.o2 .eq (.o1 (.fld 0) (.var 0)) (.int 0))
  (.ret [(.o2 .eq (.o1 (.fld 1) (.var 0)) (.int 0))])
  (.br (.o2 .eq (.o1 (.fld 0) (.var 0)) (.int 1))
   (.call [] (.fn 126) [.sc (.int .i64) (.o1 (.fld 1) (.var 0)), .sc (.int .i64) (.int (-2147483647)), .sc (.int .i64) (.int 2147483647)] [.sc .bool]
   (.ret [(.var 1)]))
   (.call [((.o2 .bor (.o2 .eq (.o1 (.fld 0) (.var 0)) (.int 2)) (.o2 .eq (.o1 (.fld 0) (.var 0)) (.int 4))), true)] (.fn 126) [.sc (.int .i64) (.o1 (.fld 1) (.var 0)), .sc (.int .i64) (.int 0), .sc (.int .i64) (.int 8)] [.sc .bool]
   (.ret [(.o2 .band (.o2 .bor (.o2 .eq (.o1 (.fld 0) (.var 0)) (.int 2)) (.o2 .eq (.o1 (.fld 0) (.var 0)) (.int 4))) (.var 1))]))))
 (.br (.o2 .eq (.o1 (.fld 0) (.var 0)) (.int 3))
  (.ret [(.o2 .eq (.o1 (.fld 1) (.var 0)) (.int 0))])
  (.br (.o2 .eq (.o1 (.fld 0) (.var 0)) (.int 1))
   (.call [] (.fn 126) [.sc (.int .i64) (.o1 (.fld 1) (.var 0)), .sc (.int .i64) (.int (-2147483647)), .sc (.int .i64) (.int 2147483647)] [.sc .bool]
   (.ret [(.var 1)]))
   (.call [((.o2 .bor (.o2 .eq (.o1 (.fld 0) (.var 0)) (.int 2)) (.o2 .eq (.o1 (.fld 0) (.var 0)) (.int 4))), true)] (.fn 126) [.sc (.int .i64) (.o1 (.fld 1) (.var 0)), .sc (.int .i64) (.int 0), .sc (.int .i64) (.int 8)] [.sc .bool]
   (.ret [(.o2 .band (.o2 .bor (.o2 .eq (.o1 (.fld 0) (.var 0)) (.int 2)) (.o2 .eq (.o1 (.fld 0) (.var 0)) (.int 4))) (.var 1))])))))
theorem sig_35 : sigOf Try.prog md 35 [] = some ([.st [(.int .i64), (.int .i64)]], [.sc .bool], tree_35) := by kernel_rfl
/- spec.BentOf -/
def tree_38 : T :=
(.loop 0 [(.int 0), (.int 0)]
 (.know (.o1 (.fld 0) (.var 0))
 (.br (.o2 .lt (.var 3) (.o1 .len (.o1 (.fld 0) (.var 0))))
  (.need [] (.o2 .le (.int 0) (.var 3))
  (.need [] (.o2 .lt (.var 3) (.o1 .len (.o1 (.fld 0) (.var 0))))
  (.need [((.o2 .eq (.o1 (.fld 3) (.o2 .idx (.o1 (.fld 0) (.var 0)) (.var 3))) (.int 2)), true)] (.o2 .le (.int 0) (.var 3))
  (.need [((.o2 .eq (.o1 (.fld 3) (.o2 .idx (.o1 (.fld 0) (.var 0)) (.var 3))) (.int 2)), true)] (.o2 .lt (.var 3) (.o1 .len (.o1 (.fld 0) (.var 0))))
  (.need [((.o2 .band (.o2 .eq (.o1 (.fld 3) (.o2 .idx (.o1 (.fld 0) (.var 0)) (.var 3))) (.int 2)) (.o2 .eq (.o1 (.fld 2) (.o2 .idx (.o1 (.fld 0) (.var 0)) (.var 3))) (.var 1))), true)] (.o2 .le (.int 0) (.var 3))
  (.need [((.o2 .band (.o2 .eq (.o1 (.fld 3) (.o2 .idx (.o1 (.fld 0) (.var 0)) (.var 3))) (.int 2)) (.o2 .eq (.o1 (.fld 2) (.o2 .idx (.o1 (.fld 0) (.var 0)) (.var 3))) (.var 1))), true)] (.o2 .lt (.var 3) (.o1 .len (.o1 (.fld 0) (.var 0))))
  (.br (.o2 .band (.o2 .band (.o2 .eq (.o1 (.fld 3) (.o2 .idx (.o1 (.fld 0) (.var 0)) (.var 3))) (.int 2)) (.o2 .eq (.o1 (.fld 2) (.o2 .idx (.o1 (.fld 0) (.var 0)) (.var 3))) (.var 1))) (.o1 (.fld 12) (.o2 .idx (.o1 (.fld 0) (.var 0)) (.var 3))))
   (.cont 0 [(.o2 (.add .i64) (.var 2) (.int 1)), (.o2 (.add .i64) (.var 3) (.int 1))])
   (.cont 0 [(.var 2), (.o2 (.add .i64) (.var 3) (.int 1))]))))))))
  (.ret [(.var 2)]))))
theorem sig_38 : sigOf Try.prog md 38 [] = some ([.st [(.sl [(.int .i64), (.int .i64), (.int .i64), (.int .i64), (.int .i64), (.int .i64), (.int .i64), (.int .i64), (.int .i64), (.int .i64), (.int .i64), .bool, .bool]), (.sl [(.int .i64), (.int .i64), .bool]), (.int .i64), (.int .i64)], .sc (.int .i64)], [.sc (.int .i64)], tree_38) := by kernel_rfl
/- spec.l8Many -/
def tree_130 : T :=
(.loop 0 [(.int 0), (.int 0)]
 (.know (.o1 (.fld 0) (.var 0))
 (.br (.o2 .lt (.var 3) (.o1 .len (.o1 (.fld 0) (.var 0))))
  (.need [] (.o2 .le (.int 0) (.var 3))
  (.need [] (.o2 .lt (.var 3) (.o1 .len (.o1 (.fld 0) (.var 0))))
  (.need [((.o2 .eq (.o1 (.fld 3) (.o2 .idx (.o1 (.fld 0) (.var 0)) (.var 3))) (.int 2)), true)] (.o2 .le (.int 0) (.var 3))
  (.need [((.o2 .eq (.o1 (.fld 3) (.o2 .idx (.o1 (.fld 0) (.var 0)) (.var 3))) (.int 2)), true)] (.o2 .lt (.var 3) (.o1 .len (.o1 (.fld 0) (.var 0))))
  (.br (.o2 .band (.o2 .eq (.o1 (.fld 3) (.o2 .idx (.o1 (.fld 0) (.var 0)) (.var 3))) (.int 2)) (.o2 .eq (.o1 (.fld 2) (.o2 .idx (.o1 (.fld 0) (.var 0)) (.var 3))) (.var 1)))
   (.cont 0 [(.o2 (.add .i64) (.var 2) (.int 1)), (.o2 (.add .i64) (.var 3) (.int 1))])
   (.cont 0 [(.var 2), (.o2 (.add .i64) (.var 3) (.int 1))]))))))
  (.ret [(.var 2)]))))
theorem sig_130 : sigOf Try.prog md 130 [] = some ([.st [(.sl [(.int .i64), (.int .i64), (.int .i64), (.int .i64), (.int .i64), (.int .i64), (.int .i64), (.int .i64), (.int .i64), (.int .i64), (.int .i64), .bool, .bool]), (.sl [(.int .i64), (.int .i64), .bool]), (.int .i64), (.int .i64)], .sc (.int .i64)], [.sc (.int .i64)], tree_130) := by kernel_rfl
/- spec.Holds -/
def tree_33 : T :=
(.call [] (.fn 35) [.st [(.int .i64), (.int .i64)] (.o2 .cons (.o1 (.fld 0) (.var 2)) (.o2 .cons (.o1 (.fld 1) (.var 2)) .nil))] [.sc .bool]
(.call [((.o1 .not (.var 3)), false)] (.fn 126) [.sc (.int .i64) (.var 1), .sc (.int .i64) (.int 0), .sc (.int .i64) (.o2 (.sub .i64) (.o1 .len (.o1 (.fld 1) (.var 0))) (.int 1))] [.sc .bool]
(.br (.o2 .bor (.o1 .not (.var 3)) (.o1 .not (.var 4)))
 (.ret [(.bool false)])
 (.br (.o2 .eq (.o1 (.fld 0) (.var 2)) (.int 1))
  (.need [] (.o2 .le (.int 0) (.var 1))
  (.need [] (.o2 .lt (.var 1) (.o1 .len (.o1 (.fld 1) (.var 0))))
  (.ret [(.o2 .le (.o1 (.fld 0) (.o2 .idx (.o1 (.fld 1) (.var 0)) (.var 1))) (.o1 (.fld 1) (.var 2)))])))
  (.br (.o2 .eq (.o1 (.fld 0) (.var 2)) (.int 2))
   (.call [] (.fn 130) [.st [(.sl [(.int .i64), (.int .i64), (.int .i64), (.int .i64), (.int .i64), (.int .i64), (.int .i64), (.int .i64), (.int .i64), (.int .i64), (.int .i64), .bool, .bool]), (.sl [(.int .i64), (.int .i64), .bool]), (.int .i64), (.int .i64)] (.o2 .cons (.o1 (.fld 0) (.var 0)) (.o2 .cons (.o1 (.fld 1) (.var 0)) (.o2 .cons (.o1 (.fld 2) (.var 0)) (.o2 .cons (.o1 (.fld 3) (.var 0)) .nil)))), .sc (.int .i64) (.var 1)] [.sc (.int .i64)]
   (.ret [(.o2 .ge (.var 5) (.o1 (.fld 1) (.var 2)))]))
   (.br (.o2 .eq (.o1 (.fld 0) (.var 2)) (.int 3))
    (.ret [(.o2 .eq (.o1 (.fld 2) (.var 0)) (.var 1))])
    (.br (.o2 .eq (.o1 (.fld 0) (.var 2)) (.int 4))
     (.call [] (.fn 38) [.st [(.sl [(.int .i64), (.int .i64), (.int .i64), (.int .i64), (.int .i64), (.int .i64), (.int .i64), (.int .i64), (.int .i64), (.int .i64), (.int .i64), .bool, .bool]), (.sl [(.int .i64), (.int .i64), .bool]), (.int .i64), (.int .i64)] (.o2 .cons (.o1 (.fld 0) (.var 0)) (.o2 .cons (.o1 (.fld 1) (.var 0)) (.o2 .cons (.o1 (.fld 2) (.var 0)) (.o2 .cons (.o1 (.fld 3) (.var 0)) .nil)))), .sc (.int .i64) (.var 1)] [.sc (.int .i64)]
     (.ret [(.o2 .ge (.var 5) (.o1 (.fld 1) (.var 2)))]))
     (.ret [(.bool true)]))))))))
theorem sig_33 : sigOf Try.prog md 33 [] = some ([.st [(.sl [(.int .i64), (.int .i64), (.int .i64), (.int .i64), (.int .i64), (.int .i64), (.int .i64), (.int .i64), (.int .i64), (.int .i64), (.int .i64), .bool, .bool]), (.sl [(.int .i64), (.int .i64), .bool]), (.int .i64), (.int .i64)], .sc (.int .i64), .st [(.int .i64), (.int .i64)]], [.sc .bool], tree_33) := by kernel_rfl
/- spec.Stronger -/
def tree_36 : T :=
(.call [] (.fn 35) [.st [(.int .i64), (.int .i64)] (.o2 .cons (.o1 (.fld 0) (.var 0)) (.o2 .cons (.o1 (.fld 1) (.var 0)) .nil))] [.sc .bool]
(.call [((.o1 .not (.var 2)), false)] (.fn 35) [.st [(.int .i64), (.int .i64)] (.o2 .cons (.o1 (.fld 0) (.var 1)) (.o2 .cons (.o1 (.fld 1) (.var 1)) .nil))] [.sc .bool]
(.br (.o2 .bor (.o1 .not (.var 2)) (.o1 .not (.var 3)))
 (.ret [(.bool false)])
 (.br (.o2 .eq (.o1 (.fld 0) (.var 1)) (.int 0))
  (.ret [(.bool true)])
  (.br (.o2 .ne (.o1 (.fld 0) (.var 0)) (.o1 (.fld 0) (.var 1)))
   (.ret [(.bool false)])
   (.br (.o2 .eq (.o1 (.fld 0) (.var 0)) (.int 1))
    (.ret [(.o2 .le (.o1 (.fld 1) (.var 0)) (.o1 (.fld 1) (.var 1)))])
    (.ret [(.o2 .ge (.o1 (.fld 1) (.var 0)) (.o1 (.fld 1) (.var 1)))])))))))
theorem sig_36 : sigOf Try.prog md 36 [] = some ([.st [(.int .i64), (.int .i64)], .st [(.int .i64), (.int .i64)]], [.sc .bool], tree_36) := by kernel_rfl
/- laws.FnGuards -/
def tree_5 : T :=
(.call [] (.fn 14) [.sc (.sl [(.int .u8)]) (.var 0)] [.sc .bool]
(.br (.var 1)
 (.ret [(.bool true)])
 (.call [] (.fn 28) [.sc (.sl [(.int .u8)]) (.var 0)] [.st [(.sl [(.int .i64), (.int .i64), (.int .i64), (.int .i64), (.int .i64), (.int .i64), (.int .i64), (.int .i64), (.int .i64), (.int .i64), (.int .i64), .bool, .bool]), (.sl [(.int .i64), (.int .i64), .bool]), (.int .i64), (.int .i64)], .sc (.int .i64), .st [(.int .i64), (.int .i64)]]
 (.call [] (.fn 29) [.sc (.sl [(.int .u8)]) (.var 0)] [.st [(.int .i64), (.int .i64)], .st [(.int .i64), (.int .i64)]]
 (.call [] (.fn 30) [.sc (.sl [(.int .u8)]) (.var 0)] [.st [(.sl [(.int .i64), (.int .i64), (.int .i64), (.int .i64), (.int .i64), (.int .i64), (.int .i64), (.int .i64), (.int .i64), (.int .i64), (.int .i64), .bool, .bool]), (.sl [(.int .i64), (.int .i64), .bool]), (.int .i64), (.int .i64)], .sc (.int .i64)]
 (.call [] (.fn 31) [.st [(.int .i64), (.int .i64)] (.o2 .cons (.o1 (.fld 0) (.var 5)) (.o2 .cons (.o1 (.fld 1) (.var 5)) .nil)), .st [(.int .i64), (.int .i64)] (.o2 .cons (.o1 (.fld 0) (.var 6)) (.o2 .cons (.o1 (.fld 1) (.var 6)) .nil))] [.sc .bool]
 (.call [] (.fn 32) [.st [(.sl [(.int .i64), (.int .i64), (.int .i64), (.int .i64), (.int .i64), (.int .i64), (.int .i64), (.int .i64), (.int .i64), (.int .i64), (.int .i64), .bool, .bool]), (.sl [(.int .i64), (.int .i64), .bool]), (.int .i64), (.int .i64)] (.o2 .cons (.o1 (.fld 0) (.var 2)) (.o2 .cons (.o1 (.fld 1) (.var 2)) (.o2 .cons (.o1 (.fld 2) (.var 2)) (.o2 .cons (.o1 (.fld 3) (.var 2)) .nil)))), .sc (.int .i64) (.var 3), .st [(.int .i64), (.int .i64)] (.o2 .cons (.o1 (.fld 0) (.var 4)) (.o2 .cons (.o1 (.fld 1) (.var 4)) .nil))] [.sc .bool]
 (.call [] (.fn 33) [.st [(.sl [(.int .i64), (.int .i64), (.int .i64), (.int .i64), (.int .i64), (.int .i64), (.int .i64), (.int .i64), (.int .i64), (.int .i64), (.int .i64), .bool, .bool]), (.sl [(.int .i64), (.int .i64), .bool]), (.int .i64), (.int .i64)] (.o2 .cons (.o1 (.fld 0) (.var 2)) (.o2 .cons (.o1 (.fld 1) (.var 2)) (.o2 .cons (.o1 (.fld 2) (.var 2)) (.o2 .cons (.o1 (.fld 3) (.var 2)) .nil)))), .sc (.int .i64) (.var 3), .st [(.int .i64), (.int .i64)] (.o2 .cons (.o1 (.fld 0) (.var 4)) (.o2 .cons (.o1 (.fld 1) (.var 4)) .nil))] [.sc .bool]
 (.call [((.o2 .bne (.var 10) (.var 11)), false)] (.fn 34) [.st [(.int .i64), (.int .i64)] (.o2 .cons (.o1 (.fld 0) (.var 4)) (.o2 .cons (.o1 (.fld 1) (.var 4)) .nil))] [.sc .bool]
 (.call [((.o2 .bne (.var 10) (.var 11)), false)] (.fn 35) [.st [(.int .i64), (.int .i64)] (.o2 .cons (.o1 (.fld 0) (.var 4)) (.o2 .cons (.o1 (.fld 1) (.var 4)) .nil))] [.sc .bool]
 (.call [((.o2 .bor (.o2 .bne (.var 10) (.var 11)) (.o2 .bne (.var 12) (.var 13))), false)] (.fn 36) [.st [(.int .i64), (.int .i64)] (.o2 .cons (.o1 (.fld 0) (.var 5)) (.o2 .cons (.o1 (.fld 1) (.var 5)) .nil)), .st [(.int .i64), (.int .i64)] (.o2 .cons (.o1 (.fld 0) (.var 6)) (.o2 .cons (.o1 (.fld 1) (.var 6)) .nil))] [.sc .bool]
 (.call [((.o2 .bor (.o2 .bor (.o2 .bne (.var 10) (.var 11)) (.o2 .bne (.var 12) (.var 13))) (.o2 .bne (.var 9) (.var 14))), false)] (.fn 37) [.st [(.sl [(.int .i64), (.int .i64), (.int .i64), (.int .i64), (.int .i64), (.int .i64), (.int .i64), (.int .i64), (.int .i64), (.int .i64), (.int .i64), .bool, .bool]), (.sl [(.int .i64), (.int .i64), .bool]), (.int .i64), (.int .i64)] (.o2 .cons (.o1 (.fld 0) (.var 7)) (.o2 .cons (.o1 (.fld 1) (.var 7)) (.o2 .cons (.o1 (.fld 2) (.var 7)) (.o2 .cons (.o1 (.fld 3) (.var 7)) .nil)))), .sc (.int .i64) (.var 8)] [.sc (.int .i64)]
 (.call [((.o2 .bor (.o2 .bor (.o2 .bne (.var 10) (.var 11)) (.o2 .bne (.var 12) (.var 13))) (.o2 .bne (.var 9) (.var 14))), false)] (.fn 38) [.st [(.sl [(.int .i64), (.int .i64), (.int .i64), (.int .i64), (.int .i64), (.int .i64), (.int .i64), (.int .i64), (.int .i64), (.int .i64), (.int .i64), .bool, .bool]), (.sl [(.int .i64), (.int .i64), .bool]), (.int .i64), (.int .i64)] (.o2 .cons (.o1 (.fld 0) (.var 7)) (.o2 .cons (.o1 (.fld 1) (.var 7)) (.o2 .cons (.o1 (.fld 2) (.var 7)) (.o2 .cons (.o1 (.fld 3) (.var 7)) .nil)))), .sc (.int .i64) (.var 8)] [.sc (.int .i64)]
 (.call [((.o2 .bor (.o2 .bor (.o2 .bor (.o2 .bne (.var 10) (.var 11)) (.o2 .bne (.var 12) (.var 13))) (.o2 .bne (.var 9) (.var 14))) (.o2 .ne (.var 15) (.var 16))), false)] (.fn 31) [.st [(.int .i64), (.int .i64)] (.o2 .cons (.o1 (.fld 0) (.var 5)) (.o2 .cons (.o1 (.fld 1) (.var 5)) .nil)), .st [(.int .i64), (.int .i64)] (.o2 .cons (.o1 (.fld 0) (.var 5)) (.o2 .cons (.o1 (.fld 1) (.var 5)) .nil))] [.sc .bool]
 (.call [((.o2 .bor (.o2 .bor (.o2 .bor (.o2 .bne (.var 10) (.var 11)) (.o2 .bne (.var 12) (.var 13))) (.o2 .bne (.var 9) (.var 14))) (.o2 .ne (.var 15) (.var 16))), false)] (.fn 34) [.st [(.int .i64), (.int .i64)] (.o2 .cons (.o1 (.fld 0) (.var 5)) (.o2 .cons (.o1 (.fld 1) (.var 5)) .nil))] [.sc .bool]
 (.br (.o2 .bor (.o2 .bor (.o2 .bor (.o2 .bor (.o2 .bne (.var 10) (.var 11)) (.o2 .bne (.var 12) (.var 13))) (.o2 .bne (.var 9) (.var 14))) (.o2 .ne (.var 15) (.var 16))) (.o2 .bne (.var 17) (.var 18)))
  (.ret [(.bool false)])
  (.call [((.o1 .not (.var 9)), false)] (.fn 32) [.st [(.sl [(.int .i64), (.int .i64), (.int .i64), (.int .i64), (.int .i64), (.int .i64), (.int .i64), (.int .i64), (.int .i64), (.int .i64), (.int .i64), .bool, .bool]), (.sl [(.int .i64), (.int .i64), .bool]), (.int .i64), (.int .i64)] (.o2 .cons (.o1 (.fld 0) (.var 2)) (.o2 .cons (.o1 (.fld 1) (.var 2)) (.o2 .cons (.o1 (.fld 2) (.var 2)) (.o2 .cons (.o1 (.fld 3) (.var 2)) .nil)))), .sc (.int .i64) (.var 3), .st [(.int .i64), (.int .i64)] (.o2 .cons (.o1 (.fld 0) (.var 5)) (.o2 .cons (.o1 (.fld 1) (.var 5)) .nil))] [.sc .bool]
  (.call [((.o2 .bor (.o1 .not (.var 9)) (.o1 .not (.var 19))), false)] (.fn 32) [.st [(.sl [(.int .i64), (.int .i64), (.int .i64), (.int .i64), (.int .i64), (.int .i64), (.int .i64), (.int .i64), (.int .i64), (.int .i64), (.int .i64), .bool, .bool]), (.sl [(.int .i64), (.int .i64), .bool]), (.int .i64), (.int .i64)] (.o2 .cons (.o1 (.fld 0) (.var 2)) (.o2 .cons (.o1 (.fld 1) (.var 2)) (.o2 .cons (.o1 (.fld 2) (.var 2)) (.o2 .cons (.o1 (.fld 3) (.var 2)) .nil)))), .sc (.int .i64) (.var 3), .st [(.int .i64), (.int .i64)] (.o2 .cons (.o1 (.fld 0) (.var 6)) (.o2 .cons (.o1 (.fld 1) (.var 6)) .nil))] [.sc .bool]
  (.call [((.o2 .bor (.o2 .bor (.o1 .not (.var 9)) (.o1 .not (.var 19))) (.var 20)), true)] (.fn 37) [.st [(.sl [(.int .i64), (.int .i64), (.int .i64), (.int .i64), (.int .i64), (.int .i64), (.int .i64), (.int .i64), (.int .i64), (.int .i64), (.int .i64), .bool, .bool]), (.sl [(.int .i64), (.int .i64), .bool]), (.int .i64), (.int .i64)] (.o2 .cons (.o1 (.fld 0) (.var 7)) (.o2 .cons (.o1 (.fld 1) (.var 7)) (.o2 .cons (.o1 (.fld 2) (.var 7)) (.o2 .cons (.o1 (.fld 3) (.var 7)) .nil)))), .sc (.int .i64) (.var 8)] [.sc (.int .i64)]
  (.call [((.o2 .bor (.o2 .bor (.o1 .not (.var 9)) (.o1 .not (.var 19))) (.var 20)), true)] (.fn 39) [.st [(.sl [(.int .i64), (.int .i64), (.int .i64), (.int .i64), (.int .i64), (.int .i64), (.int .i64), (.int .i64), (.int .i64), (.int .i64), (.int .i64), .bool, .bool]), (.sl [(.int .i64), (.int .i64), .bool]), (.int .i64), (.int .i64)] (.o2 .cons (.o1 (.fld 0) (.var 7)) (.o2 .cons (.o1 (.fld 1) (.var 7)) (.o2 .cons (.o1 (.fld 2) (.var 7)) (.o2 .cons (.o1 (.fld 3) (.var 7)) .nil)))), .sc (.int .i64) (.var 8)] [.sc (.sl [(.int .i64)])]
  (.ret [(.o2 .band (.o2 .bor (.o2 .bor (.o1 .not (.var 9)) (.o1 .not (.var 19))) (.var 20)) (.o2 .le (.var 21) (.o1 .len (.var 22))))])))))))))))))))))))))
theorem sig_5 : sigOf Try.prog md 5 [] = some ([.sc (.sl [(.int .u8)])], [.sc .bool], tree_5) := by kernel_rfl
theorem mix : Try.prog.follows .mixedOrders = true := by kernel_rfl
end Go.Proofs.Ytammagpahfmenaa
