/- The trees of the functions that this claim reaches. -/
import Derived.Test.YtfbahdalemajcaaRows
import Derived.Test.YtfbahdalemajcaaE6
import Derived.KernelRfl
namespace Go.Proofs.Ytfbahdalemajcaa
open Go.Proofs.Ytfbahdalemajcaa.Eng
def md : Modes := ⟨[(71, 0), (44, 0), (34, 0), (26, 0)], [(116, 0), (99, 0), (91, 0), (86, 0)], []⟩
/- laws.szEventS -/
def tree_118 : T :=
(.know (.var 0)
(.br (.o2 .lt (.o2 (.sub .i64) (.var 1) (.o1 .len (.var 0))) (.int 0))
 (.ret [(.int (-1))])
 (.ret [(.o2 (.sub .i64) (.var 1) (.o1 .len (.var 0)))])))
theorem sig_118 : sigOf Try.prog md 118 [] = some ([.sc (.sl [(.int .i64), (.int .i64), (.int .i64), (.int .i64), (.int .i64), (.int .i64), .bool]), .sc (.int .i64)], [.sc (.int .i64)], tree_118) := by kernel_rfl
/- laws.szAct -/
def tree_58 : T :=
(.call [] (.fn 118) [.sc (.sl [(.int .i64), (.int .i64), (.int .i64), (.int .i64), (.int .i64), (.int .i64), .bool]) (.o1 (.fld 6) (.var 0)), .sc (.int .i64) (.var 1)] [.sc (.int .i64)]
(.br (.o2 .lt (.var 2) (.int 0))
 (.ret [(.int (-1))])
 (.ret [(.var 2)])))
theorem sig_58 : sigOf Try.prog md 58 [] = some ([.st [(.int .i64), (.int .i64), (.int .i64), (.int .i64), (.int .i64), .bool, (.sl [(.int .i64), (.int .i64), (.int .i64), (.int .i64), (.int .i64), (.int .i64), .bool])], .sc (.int .i64)], [.sc (.int .i64)], tree_58) := by kernel_rfl
/- laws.szEffect -/
def tree_21 : T :=
(.call [] (.fn 58) [.st [(.int .i64), (.int .i64), (.int .i64), (.int .i64), (.int .i64), .bool, (.sl [(.int .i64), (.int .i64), (.int .i64), (.int .i64), (.int .i64), (.int .i64), .bool])] (.o2 .cons (.o1 (.fld 13) (.var 0)) (.o2 .cons (.o1 (.fld 14) (.var 0)) (.o2 .cons (.o1 (.fld 15) (.var 0)) (.o2 .cons (.o1 (.fld 16) (.var 0)) (.o2 .cons (.o1 (.fld 17) (.var 0)) (.o2 .cons (.o1 (.fld 18) (.var 0)) (.o2 .cons (.o1 (.fld 19) (.var 0)) .nil))))))), .sc (.int .i64) (.var 1)] [.sc (.int .i64)]
(.br (.o2 .lt (.var 2) (.int 0))
 (.ret [(.int (-1))])
 (.ret [(.var 2)])))
theorem sig_21 : sigOf Try.prog md 21 [] = some ([.st [(.int .i64), (.int .i64), (.int .i64), (.int .i64), (.int .i64), (.int .i64), (.int .i64), (.int .i64), (.int .i64), (.int .i64), (.int .i64), (.int .i64), (.int .i64), (.int .i64), (.int .i64), (.int .i64), (.int .i64), (.int .i64), .bool, (.sl [(.int .i64), (.int .i64), (.int .i64), (.int .i64), (.int .i64), (.int .i64), .bool]), (.int .i64), (.int .i64)], .sc (.int .i64)], [.sc (.int .i64)], tree_21) := by kernel_rfl
/- laws.szEffectS -/
def tree_14 : T :=
(.know (.var 0)
(.br (.o2 .lt (.o2 (.sub .i64) (.var 1) (.o1 .len (.var 0))) (.int 0))
 (.ret [(.int (-1))])
 (.loop 0 [(.o2 (.sub .i64) (.var 1) (.o1 .len (.var 0))), (.int 0)]
  (.know (.var 0)
  (.br (.o2 .lt (.var 3) (.o1 .len (.var 0)))
   (.need [] (.o2 .le (.int 0) (.var 3))
   (.need [] (.o2 .lt (.var 3) (.o1 .len (.var 0)))
   (.call [] (.fn 21) [.st [(.int .i64), (.int .i64), (.int .i64), (.int .i64), (.int .i64), (.int .i64), (.int .i64), (.int .i64), (.int .i64), (.int .i64), (.int .i64), (.int .i64), (.int .i64), (.int .i64), (.int .i64), (.int .i64), (.int .i64), (.int .i64), .bool, (.sl [(.int .i64), (.int .i64), (.int .i64), (.int .i64), (.int .i64), (.int .i64), .bool]), (.int .i64), (.int .i64)] (.o2 .cons (.o1 (.fld 0) (.o2 .idx (.var 0) (.var 3))) (.o2 .cons (.o1 (.fld 1) (.o2 .idx (.var 0) (.var 3))) (.o2 .cons (.o1 (.fld 2) (.o2 .idx (.var 0) (.var 3))) (.o2 .cons (.o1 (.fld 3) (.o2 .idx (.var 0) (.var 3))) (.o2 .cons (.o1 (.fld 4) (.o2 .idx (.var 0) (.var 3))) (.o2 .cons (.o1 (.fld 5) (.o2 .idx (.var 0) (.var 3))) (.o2 .cons (.o1 (.fld 6) (.o2 .idx (.var 0) (.var 3))) (.o2 .cons (.o1 (.fld 7) (.o2 .idx (.var 0) (.var 3))) (.o2 .cons (.o1 (.fld 8) (.o2 .idx (.var 0) (.var 3))) (.o2 .cons (.o1 (.fld 9) (.o2 .idx (.var 0) (.var 3))) (.o2 .cons (.o1 (.fld 10) (.o2 .idx (.var 0) (.var 3))) (.o2 .cons (.o1 (.fld 11) (.o2 .idx (.var 0) (.var 3))) (.o2 .cons (.o1 (.fld 12) (.o2 .idx (.var 0) (.var 3))) (.o2 .cons (.o1 (.fld 13) (.o2 .idx (.var 0) (.var 3))) (.o2 .cons (.o1 (.fld 14) (.o2 .idx (.var 0) (.var 3))) (.o2 .cons (.o1 (.fld 15) (.o2 .idx (.var 0) (.var 3))) (.o2 .cons (.o1 (.fld 16) (.o2 .idx (.var 0) (.var 3))) (.o2 .cons (.o1 (.fld 17) (.o2 .idx (.var 0) (.var 3))) (.o2 .cons (.o1 (.fld 18) (.o2 .idx (.var 0) (.var 3))) (.o2 .cons (.o1 (.fld 19) (.o2 .idx (.var 0) (.var 3))) (.o2 .cons (.o1 (.fld 20) (.o2 .idx (.var 0) (.var 3))) (.o2 .cons (.o1 (.fld 21) (.o2 .idx (.var 0) (.var 3))) .nil)))))))))))))))))))))), .sc (.int .i64) (.var 2)] [.sc (.int .i64)]
   (.br (.o2 .lt (.var 4) (.int 0))
    (.ret [(.int (-1))])
    (.cont 0 [(.var 4), (.o2 (.add .i64) (.var 3) (.int 1))])))))
   (.ret [(.var 2)]))))))
theorem sig_14 : sigOf Try.prog md 14 [] = some ([.sc (.sl [(.int .i64), (.int .i64), (.int .i64), (.int .i64), (.int .i64), (.int .i64), (.int .i64), (.int .i64), (.int .i64), (.int .i64), (.int .i64), (.int .i64), (.int .i64), (.int .i64), (.int .i64), (.int .i64), (.int .i64), (.int .i64), .bool, (.sl [(.int .i64), (.int .i64), (.int .i64), (.int .i64), (.int .i64), (.int .i64), .bool]), (.int .i64), (.int .i64)]), .sc (.int .i64)], [.sc (.int .i64)], tree_14) := by kernel_rfl
/- laws.toPat -/
def tree_62 : T :=
(.ret [(.o2 .cons (.o1 (.fld 0) (.var 0)) (.o2 .cons (.o1 (.fld 1) (.var 0)) (.o2 .cons (.o1 (.fld 2) (.var 0)) (.o2 .cons (.o1 (.fld 3) (.var 0)) (.o2 .cons (.o1 (.fld 4) (.var 0)) (.o2 .cons (.o1 (.fld 5) (.var 0)) (.o2 .cons (.o1 (.fld 6) (.var 0)) .nil)))))))])
theorem sig_62 : sigOf Try.prog md 62 [] = some ([.st [(.int .i64), (.int .i64), (.int .i64), (.int .i64), (.int .i64), (.int .i64), (.int .i64)]], [.st [(.int .i64), (.int .i64), (.int .i64), (.int .i64), (.int .i64), (.int .i64), (.int .i64)]], tree_62) := by kernel_rfl
/- laws.toGuard -/
def tree_63 : T :=
(.ret [(.o2 .cons (.o1 (.fld 0) (.var 0)) (.o2 .cons (.o1 (.fld 1) (.var 0)) .nil))])
theorem sig_63 : sigOf Try.prog md 63 [] = some ([.st [(.int .i64), (.int .i64)]], [.st [(.int .i64), (.int .i64)]], tree_63) := by kernel_rfl
/- laws.toEvent -/
def tree_41 : T :=
(.ret [(.o2 .cons (.o1 (.fld 0) (.var 0)) (.o2 .cons (.o1 (.fld 1) (.var 0)) (.o2 .cons (.o1 (.fld 2) (.var 0)) (.o2 .cons (.o1 (.fld 3) (.var 0)) (.o2 .cons (.o1 (.fld 4) (.var 0)) (.o2 .cons (.o1 (.fld 5) (.var 0)) (.o2 .cons (.o1 (.fld 6) (.var 0)) .nil)))))))])
theorem sig_41 : sigOf Try.prog md 41 [] = some ([.st [(.int .i64), (.int .i64), (.int .i64), (.int .i64), (.int .i64), (.int .i64), .bool]], [.st [(.int .i64), (.int .i64), (.int .i64), (.int .i64), (.int .i64), (.int .i64), .bool]], tree_41) := by kernel_rfl
/- laws.toEventS -/
def tree_121 : T :=
(.know (.var 0)
(.need [] (.o2 .le (.int 0) (.o1 .len (.var 0)))
(.need [] (.o2 (.fits 56) (.o1 .len (.var 0)) (.int 0))
(.loop 0 [(.int 0), (.o2 .rep (.o1 .len (.var 0)) (.o2 .cons (.int 0) (.o2 .cons (.int 0) (.o2 .cons (.int 0) (.o2 .cons (.int 0) (.o2 .cons (.int 0) (.o2 .cons (.int 0) (.o2 .cons (.bool false) .nil))))))))]
 (.know (.var 0)
 (.br (.o2 .lt (.var 1) (.o1 .len (.var 0)))
  (.need [] (.o2 .le (.int 0) (.var 1))
  (.need [] (.o2 .lt (.var 1) (.o1 .len (.var 0)))
  (.call [] (.fn 41) [.st [(.int .i64), (.int .i64), (.int .i64), (.int .i64), (.int .i64), (.int .i64), .bool] (.o2 .cons (.o1 (.fld 0) (.o2 .idx (.var 0) (.var 1))) (.o2 .cons (.o1 (.fld 1) (.o2 .idx (.var 0) (.var 1))) (.o2 .cons (.o1 (.fld 2) (.o2 .idx (.var 0) (.var 1))) (.o2 .cons (.o1 (.fld 3) (.o2 .idx (.var 0) (.var 1))) (.o2 .cons (.o1 (.fld 4) (.o2 .idx (.var 0) (.var 1))) (.o2 .cons (.o1 (.fld 5) (.o2 .idx (.var 0) (.var 1))) (.o2 .cons (.o1 (.fld 6) (.o2 .idx (.var 0) (.var 1))) .nil)))))))] [.st [(.int .i64), (.int .i64), (.int .i64), (.int .i64), (.int .i64), (.int .i64), .bool]]
  (.need [] (.o2 .le (.int 0) (.var 1))
  (.need [] (.o2 .lt (.var 1) (.o1 .len (.var 2)))
  (.cont 0 [(.o2 (.add .i64) (.var 1) (.int 1)), (.o3 .setE (.var 2) (.var 1) (.o2 .cons (.o1 (.fld 0) (.var 3)) (.o2 .cons (.o1 (.fld 1) (.var 3)) (.o2 .cons (.o1 (.fld 2) (.var 3)) (.o2 .cons (.o1 (.fld 3) (.var 3)) (.o2 .cons (.o1 (.fld 4) (.var 3)) (.o2 .cons (.o1 (.fld 5) (.var 3)) (.o2 .cons (.o1 (.fld 6) (.var 3)) .nil))))))))]))))))
  (.ret [(.var 2)])))))))
theorem sig_121 : sigOf Try.prog md 121 [] = some ([.sc (.sl [(.int .i64), (.int .i64), (.int .i64), (.int .i64), (.int .i64), (.int .i64), .bool])], [.sc (.sl [(.int .i64), (.int .i64), (.int .i64), (.int .i64), (.int .i64), (.int .i64), .bool])], tree_121) := by kernel_rfl
/- laws.toAct -/
def tree_64 : T :=
(.call [] (.fn 121) [.sc (.sl [(.int .i64), (.int .i64), (.int .i64), (.int .i64), (.int .i64), (.int .i64), .bool]) (.o1 (.fld 6) (.var 0))] [.sc (.sl [(.int .i64), (.int .i64), (.int .i64), (.int .i64), (.int .i64), (.int .i64), .bool])]
(.ret [(.o2 .cons (.o1 (.fld 0) (.var 0)) (.o2 .cons (.o1 (.fld 1) (.var 0)) (.o2 .cons (.o1 (.fld 2) (.var 0)) (.o2 .cons (.o1 (.fld 3) (.var 0)) (.o2 .cons (.o1 (.fld 4) (.var 0)) (.o2 .cons (.o1 (.fld 5) (.var 0)) (.o2 .cons (.var 1) .nil)))))))]))
theorem sig_64 : sigOf Try.prog md 64 [] = some ([.st [(.int .i64), (.int .i64), (.int .i64), (.int .i64), (.int .i64), .bool, (.sl [(.int .i64), (.int .i64), (.int .i64), (.int .i64), (.int .i64), (.int .i64), .bool])]], [.st [(.int .i64), (.int .i64), (.int .i64), (.int .i64), (.int .i64), .bool, (.sl [(.int .i64), (.int .i64), (.int .i64), (.int .i64), (.int .i64), (.int .i64), .bool])]], tree_64) := by kernel_rfl
/- laws.toEffect -/
def tree_23 : T :=
(.call [] (.fn 62) [.st [(.int .i64), (.int .i64), (.int .i64), (.int .i64), (.int .i64), (.int .i64), (.int .i64)] (.o2 .cons (.o1 (.fld 4) (.var 0)) (.o2 .cons (.o1 (.fld 5) (.var 0)) (.o2 .cons (.o1 (.fld 6) (.var 0)) (.o2 .cons (.o1 (.fld 7) (.var 0)) (.o2 .cons (.o1 (.fld 8) (.var 0)) (.o2 .cons (.o1 (.fld 9) (.var 0)) (.o2 .cons (.o1 (.fld 10) (.var 0)) .nil)))))))] [.st [(.int .i64), (.int .i64), (.int .i64), (.int .i64), (.int .i64), (.int .i64), (.int .i64)]]
(.call [] (.fn 63) [.st [(.int .i64), (.int .i64)] (.o2 .cons (.o1 (.fld 11) (.var 0)) (.o2 .cons (.o1 (.fld 12) (.var 0)) .nil))] [.st [(.int .i64), (.int .i64)]]
(.call [] (.fn 64) [.st [(.int .i64), (.int .i64), (.int .i64), (.int .i64), (.int .i64), .bool, (.sl [(.int .i64), (.int .i64), (.int .i64), (.int .i64), (.int .i64), (.int .i64), .bool])] (.o2 .cons (.o1 (.fld 13) (.var 0)) (.o2 .cons (.o1 (.fld 14) (.var 0)) (.o2 .cons (.o1 (.fld 15) (.var 0)) (.o2 .cons (.o1 (.fld 16) (.var 0)) (.o2 .cons (.o1 (.fld 17) (.var 0)) (.o2 .cons (.o1 (.fld 18) (.var 0)) (.o2 .cons (.o1 (.fld 19) (.var 0)) .nil)))))))] [.st [(.int .i64), (.int .i64), (.int .i64), (.int .i64), (.int .i64), .bool, (.sl [(.int .i64), (.int .i64), (.int .i64), (.int .i64), (.int .i64), (.int .i64), .bool])]]
(.ret [(.o2 .cons (.o1 (.fld 0) (.var 0)) (.o2 .cons (.o1 (.fld 1) (.var 0)) (.o2 .cons (.o1 (.fld 2) (.var 0)) (.o2 .cons (.o1 (.fld 3) (.var 0)) (.o2 .cons (.o1 (.fld 0) (.var 1)) (.o2 .cons (.o1 (.fld 1) (.var 1)) (.o2 .cons (.o1 (.fld 2) (.var 1)) (.o2 .cons (.o1 (.fld 3) (.var 1)) (.o2 .cons (.o1 (.fld 4) (.var 1)) (.o2 .cons (.o1 (.fld 5) (.var 1)) (.o2 .cons (.o1 (.fld 6) (.var 1)) (.o2 .cons (.o1 (.fld 0) (.var 2)) (.o2 .cons (.o1 (.fld 1) (.var 2)) (.o2 .cons (.o1 (.fld 0) (.var 3)) (.o2 .cons (.o1 (.fld 1) (.var 3)) (.o2 .cons (.o1 (.fld 2) (.var 3)) (.o2 .cons (.o1 (.fld 3) (.var 3)) (.o2 .cons (.o1 (.fld 4) (.var 3)) (.o2 .cons (.o1 (.fld 5) (.var 3)) (.o2 .cons (.o1 (.fld 6) (.var 3)) (.o2 .cons (.o1 (.fld 20) (.var 0)) (.o2 .cons (.o1 (.fld 21) (.var 0)) .nil))))))))))))))))))))))]))))
theorem sig_23 : sigOf Try.prog md 23 [] = some ([.st [(.int .i64), (.int .i64), (.int .i64), (.int .i64), (.int .i64), (.int .i64), (.int .i64), (.int .i64), (.int .i64), (.int .i64), (.int .i64), (.int .i64), (.int .i64), (.int .i64), (.int .i64), (.int .i64), (.int .i64), (.int .i64), .bool, (.sl [(.int .i64), (.int .i64), (.int .i64), (.int .i64), (.int .i64), (.int .i64), .bool]), (.int .i64), (.int .i64)]], [.st [(.int .i64), (.int .i64), (.int .i64), (.int .i64), (.int .i64), (.int .i64), (.int .i64), (.int .i64), (.int .i64), (.int .i64), (.int .i64), (.int .i64), (.int .i64), (.int .i64), (.int .i64), (.int .i64), (.int .i64), (.int .i64), .bool, (.sl [(.int .i64), (.int .i64), (.int .i64), (.int .i64), (.int .i64), (.int .i64), .bool]), (.int .i64), (.int .i64)]], tree_23) := by kernel_rfl
/- laws.toEffectS -/
def tree_16 : T :=
(.know (.var 0)
(.need [] (.o2 .le (.int 0) (.o1 .len (.var 0)))
(.need [] (.o2 (.fits 192) (.o1 .len (.var 0)) (.int 0))
(.loop 0 [(.int 0), (.o2 .rep (.o1 .len (.var 0)) (.o2 .cons (.int 0) (.o2 .cons (.int 0) (.o2 .cons (.int 0) (.o2 .cons (.int 0) (.o2 .cons (.int 0) (.o2 .cons (.int 0) (.o2 .cons (.int 0) (.o2 .cons (.int 0) (.o2 .cons (.int 0) (.o2 .cons (.int 0) (.o2 .cons (.int 0) (.o2 .cons (.int 0) (.o2 .cons (.int 0) (.o2 .cons (.int 0) (.o2 .cons (.int 0) (.o2 .cons (.int 0) (.o2 .cons (.int 0) (.o2 .cons (.int 0) (.o2 .cons (.bool false) (.o2 .cons .nil (.o2 .cons (.int 0) (.o2 .cons (.int 0) .nil)))))))))))))))))))))))]
 (.know (.var 0)
 (.br (.o2 .lt (.var 1) (.o1 .len (.var 0)))
  (.need [] (.o2 .le (.int 0) (.var 1))
  (.need [] (.o2 .lt (.var 1) (.o1 .len (.var 0)))
  (.call [] (.fn 23) [.st [(.int .i64), (.int .i64), (.int .i64), (.int .i64), (.int .i64), (.int .i64), (.int .i64), (.int .i64), (.int .i64), (.int .i64), (.int .i64), (.int .i64), (.int .i64), (.int .i64), (.int .i64), (.int .i64), (.int .i64), (.int .i64), .bool, (.sl [(.int .i64), (.int .i64), (.int .i64), (.int .i64), (.int .i64), (.int .i64), .bool]), (.int .i64), (.int .i64)] (.o2 .cons (.o1 (.fld 0) (.o2 .idx (.var 0) (.var 1))) (.o2 .cons (.o1 (.fld 1) (.o2 .idx (.var 0) (.var 1))) (.o2 .cons (.o1 (.fld 2) (.o2 .idx (.var 0) (.var 1))) (.o2 .cons (.o1 (.fld 3) (.o2 .idx (.var 0) (.var 1))) (.o2 .cons (.o1 (.fld 4) (.o2 .idx (.var 0) (.var 1))) (.o2 .cons (.o1 (.fld 5) (.o2 .idx (.var 0) (.var 1))) (.o2 .cons (.o1 (.fld 6) (.o2 .idx (.var 0) (.var 1))) (.o2 .cons (.o1 (.fld 7) (.o2 .idx (.var 0) (.var 1))) (.o2 .cons (.o1 (.fld 8) (.o2 .idx (.var 0) (.var 1))) (.o2 .cons (.o1 (.fld 9) (.o2 .idx (.var 0) (.var 1))) (.o2 .cons (.o1 (.fld 10) (.o2 .idx (.var 0) (.var 1))) (.o2 .cons (.o1 (.fld 11) (.o2 .idx (.var 0) (.var 1))) (.o2 .cons (.o1 (.fld 12) (.o2 .idx (.var 0) (.var 1))) (.o2 .cons (.o1 (.fld 13) (.o2 .idx (.var 0) (.var 1))) (.o2 .cons (.o1 (.fld 14) (.o2 .idx (.var 0) (.var 1))) (.o2 .cons (.o1 (.fld 15) (.o2 .idx (.var 0) (.var 1))) (.o2 .cons (.o1 (.fld 16) (.o2 .idx (.var 0) (.var 1))) (.o2 .cons (.o1 (.fld 17) (.o2 .idx (.var 0) (.var 1))) (.o2 .cons (.o1 (.fld 18) (.o2 .idx (.var 0) (.var 1))) (.o2 .cons (.o1 (.fld 19) (.o2 .idx (.var 0) (.var 1))) (.o2 .cons (.o1 (.fld 20) (.o2 .idx (.var 0) (.var 1))) (.o2 .cons (.o1 (.fld 21) (.o2 .idx (.var 0) (.var 1))) .nil))))))))))))))))))))))] [.st [(.int .i64), (.int .i64), (.int .i64), (.int .i64), (.int .i64), (.int .i64), (.int .i64), (.int .i64), (.int .i64), (.int .i64), (.int .i64), (.int .i64), (.int .i64), (.int .i64), (.int .i64), (.int .i64), (.int .i64), (.int .i64), .bool, (.sl [(.int .i64), (.int .i64), (.int .i64), (.int .i64), (.int .i64), (.int .i64), .bool]), (.int .i64), (.int .i64)]]
  (.need [] (.o2 .le (.int 0) (.var 1))
  (.need [] (.o2 .lt (.var 1) (.o1 .len (.var 2)))
  (.cont 0 [(.o2 (.add .i64) (.var 1) (.int 1)), (.o3 .setE (.var 2) (.var 1) (.o2 .cons (.o1 (.fld 0) (.var 3)) (.o2 .cons (.o1 (.fld 1) (.var 3)) (.o2 .cons (.o1 (.fld 2) (.var 3)) (.o2 .cons (.o1 (.fld 3) (.var 3)) (.o2 .cons (.o1 (.fld 4) (.var 3)) (.o2 .cons (.o1 (.fld 5) (.var 3)) (.o2 .cons (.o1 (.fld 6) (.var 3)) (.o2 .cons (.o1 (.fld 7) (.var 3)) (.o2 .cons (.o1 (.fld 8) (.var 3)) (.o2 .cons (.o1 (.fld 9) (.var 3)) (.o2 .cons (.o1 (.fld 10) (.var 3)) (.o2 .cons (.o1 (.fld 11) (.var 3)) (.o2 .cons (.o1 (.fld 12) (.var 3)) (.o2 .cons (.o1 (.fld 13) (.var 3)) (.o2 .cons (.o1 (.fld 14) (.var 3)) (.o2 .cons (.o1 (.fld 15) (.var 3)) (.o2 .cons (.o1 (.fld 16) (.var 3)) (.o2 .cons (.o1 (.fld 17) (.var 3)) (.o2 .cons (.o1 (.fld 18) (.var 3)) (.o2 .cons (.o1 (.fld 19) (.var 3)) (.o2 .cons (.o1 (.fld 20) (.var 3)) (.o2 .cons (.o1 (.fld 21) (.var 3)) .nil)))))))))))))))))))))))]))))))
  (.ret [(.var 2)])))))))
theorem sig_16 : sigOf Try.prog md 16 [] = some ([.sc (.sl [(.int .i64), (.int .i64), (.int .i64), (.int .i64), (.int .i64), (.int .i64), (.int .i64), (.int .i64), (.int .i64), (.int .i64), (.int .i64), (.int .i64), (.int .i64), (.int .i64), (.int .i64), (.int .i64), (.int .i64), (.int .i64), .bool, (.sl [(.int .i64), (.int .i64), (.int .i64), (.int .i64), (.int .i64), (.int .i64), .bool]), (.int .i64), (.int .i64)])], [.sc (.sl [(.int .i64), (.int .i64), (.int .i64), (.int .i64), (.int .i64), (.int .i64), (.int .i64), (.int .i64), (.int .i64), (.int .i64), (.int .i64), (.int .i64), (.int .i64), (.int .i64), (.int .i64), (.int .i64), (.int .i64), (.int .i64), .bool, (.sl [(.int .i64), (.int .i64), (.int .i64), (.int .i64), (.int .i64), (.int .i64), .bool]), (.int .i64), (.int .i64)])], tree_16) := by kernel_rfl
/- laws.eqPat -/
def tree_68 : T :=
(.br (.o2 .ne (.o1 (.fld 0) (.var 0)) (.o1 (.fld 0) (.var 1)))
 (.ret [(.bool false)])
 (.br (.o2 .ne (.o1 (.fld 1) (.var 0)) (.o1 (.fld 1) (.var 1)))
  (.ret [(.bool false)])
  (.br (.o2 .ne (.o1 (.fld 2) (.var 0)) (.o1 (.fld 2) (.var 1)))
   (.ret [(.bool false)])
   (.br (.o2 .ne (.o1 (.fld 3) (.var 0)) (.o1 (.fld 3) (.var 1)))
    (.ret [(.bool false)])
    (.br (.o2 .ne (.o1 (.fld 4) (.var 0)) (.o1 (.fld 4) (.var 1)))
     (.ret [(.bool false)])
     (.br (.o2 .ne (.o1 (.fld 5) (.var 0)) (.o1 (.fld 5) (.var 1)))
      (.ret [(.bool false)])
      (.br (.o2 .ne (.o1 (.fld 6) (.var 0)) (.o1 (.fld 6) (.var 1)))
       (.ret [(.bool false)])
       (.ret [(.bool true)]))))))))
theorem sig_68 : sigOf Try.prog md 68 [] = some ([.st [(.int .i64), (.int .i64), (.int .i64), (.int .i64), (.int .i64), (.int .i64), (.int .i64)], .st [(.int .i64), (.int .i64), (.int .i64), (.int .i64), (.int .i64), (.int .i64), (.int .i64)]], [.sc .bool], tree_68) := by kernel_rfl
/- laws.eqGuard -/
def tree_69 : T :=
(.br (.o2 .ne (.o1 (.fld 0) (.var 0)) (.o1 (.fld 0) (.var 1)))
 (.ret [(.bool false)])
 (.br (.o2 .ne (.o1 (.fld 1) (.var 0)) (.o1 (.fld 1) (.var 1)))
  (.ret [(.bool false)])
  (.ret [(.bool true)])))
theorem sig_69 : sigOf Try.prog md 69 [] = some ([.st [(.int .i64), (.int .i64)], .st [(.int .i64), (.int .i64)]], [.sc .bool], tree_69) := by kernel_rfl
/- laws.eqEvent -/
def tree_102 : T :=
(.br (.o2 .ne (.o1 (.fld 0) (.var 0)) (.o1 (.fld 0) (.var 1)))
 (.ret [(.bool false)])
 (.br (.o2 .ne (.o1 (.fld 1) (.var 0)) (.o1 (.fld 1) (.var 1)))
  (.ret [(.bool false)])
  (.br (.o2 .ne (.o1 (.fld 2) (.var 0)) (.o1 (.fld 2) (.var 1)))
   (.ret [(.bool false)])
   (.br (.o2 .ne (.o1 (.fld 3) (.var 0)) (.o1 (.fld 3) (.var 1)))
    (.ret [(.bool false)])
    (.br (.o2 .ne (.o1 (.fld 4) (.var 0)) (.o1 (.fld 4) (.var 1)))
     (.ret [(.bool false)])
     (.br (.o2 .ne (.o1 (.fld 5) (.var 0)) (.o1 (.fld 5) (.var 1)))
      (.ret [(.bool false)])
      (.br (.o2 .bne (.o1 (.fld 6) (.var 0)) (.o1 (.fld 6) (.var 1)))
       (.ret [(.bool false)])
       (.ret [(.bool true)]))))))))
theorem sig_102 : sigOf Try.prog md 102 [] = some ([.st [(.int .i64), (.int .i64), (.int .i64), (.int .i64), (.int .i64), (.int .i64), .bool], .st [(.int .i64), (.int .i64), (.int .i64), (.int .i64), (.int .i64), (.int .i64), .bool]], [.sc .bool], tree_102) := by kernel_rfl
/- laws.eqEventS -/
def tree_43 : T :=
(.know (.var 0)
(.know (.var 1)
(.br (.o2 .ne (.o1 .len (.var 0)) (.o1 .len (.var 1)))
 (.ret [(.bool false)])
 (.loop 0 [(.int 0)]
  (.know (.var 0)
  (.br (.o2 .lt (.var 2) (.o1 .len (.var 0)))
   (.need [] (.o2 .le (.int 0) (.var 2))
   (.need [] (.o2 .lt (.var 2) (.o1 .len (.var 0)))
   (.need [] (.o2 .le (.int 0) (.var 2))
   (.need [] (.o2 .lt (.var 2) (.o1 .len (.var 1)))
   (.call [] (.fn 102) [.st [(.int .i64), (.int .i64), (.int .i64), (.int .i64), (.int .i64), (.int .i64), .bool] (.o2 .cons (.o1 (.fld 0) (.o2 .idx (.var 0) (.var 2))) (.o2 .cons (.o1 (.fld 1) (.o2 .idx (.var 0) (.var 2))) (.o2 .cons (.o1 (.fld 2) (.o2 .idx (.var 0) (.var 2))) (.o2 .cons (.o1 (.fld 3) (.o2 .idx (.var 0) (.var 2))) (.o2 .cons (.o1 (.fld 4) (.o2 .idx (.var 0) (.var 2))) (.o2 .cons (.o1 (.fld 5) (.o2 .idx (.var 0) (.var 2))) (.o2 .cons (.o1 (.fld 6) (.o2 .idx (.var 0) (.var 2))) .nil))))))), .st [(.int .i64), (.int .i64), (.int .i64), (.int .i64), (.int .i64), (.int .i64), .bool] (.o2 .cons (.o1 (.fld 0) (.o2 .idx (.var 1) (.var 2))) (.o2 .cons (.o1 (.fld 1) (.o2 .idx (.var 1) (.var 2))) (.o2 .cons (.o1 (.fld 2) (.o2 .idx (.var 1) (.var 2))) (.o2 .cons (.o1 (.fld 3) (.o2 .idx (.var 1) (.var 2))) (.o2 .cons (.o1 (.fld 4) (.o2 .idx (.var 1) (.var 2))) (.o2 .cons (.o1 (.fld 5) (.o2 .idx (.var 1) (.var 2))) (.o2 .cons (.o1 (.fld 6) (.o2 .idx (.var 1) (.var 2))) .nil)))))))] [.sc .bool]
   (.br (.o1 .not (.var 3))
    (.ret [(.bool false)])
    (.cont 0 [(.o2 (.add .i64) (.var 2) (.int 1))])))))))
   (.ret [(.bool true)])))))))
theorem sig_43 : sigOf Try.prog md 43 [] = some ([.sc (.sl [(.int .i64), (.int .i64), (.int .i64), (.int .i64), (.int .i64), (.int .i64), .bool]), .sc (.sl [(.int .i64), (.int .i64), (.int .i64), (.int .i64), (.int .i64), (.int .i64), .bool])], [.sc .bool], tree_43) := by kernel_rfl
/- laws.eqAct -/
def tree_70 : T :=
(.br (.o2 .ne (.o1 (.fld 0) (.var 0)) (.o1 (.fld 0) (.var 1)))
 (.ret [(.bool false)])
 (.br (.o2 .ne (.o1 (.fld 1) (.var 0)) (.o1 (.fld 1) (.var 1)))
  (.ret [(.bool false)])
  (.br (.o2 .ne (.o1 (.fld 2) (.var 0)) (.o1 (.fld 2) (.var 1)))
   (.ret [(.bool false)])
   (.br (.o2 .ne (.o1 (.fld 3) (.var 0)) (.o1 (.fld 3) (.var 1)))
    (.ret [(.bool false)])
    (.br (.o2 .ne (.o1 (.fld 4) (.var 0)) (.o1 (.fld 4) (.var 1)))
     (.ret [(.bool false)])
     (.br (.o2 .bne (.o1 (.fld 5) (.var 0)) (.o1 (.fld 5) (.var 1)))
      (.ret [(.bool false)])
      (.call [] (.fn 43) [.sc (.sl [(.int .i64), (.int .i64), (.int .i64), (.int .i64), (.int .i64), (.int .i64), .bool]) (.o1 (.fld 6) (.var 0)), .sc (.sl [(.int .i64), (.int .i64), (.int .i64), (.int .i64), (.int .i64), (.int .i64), .bool]) (.o1 (.fld 6) (.var 1))] [.sc .bool]
      (.br (.o1 .not (.var 2))
       (.ret [(.bool false)])
       (.ret [(.bool true)])))))))))
theorem sig_70 : sigOf Try.prog md 70 [] = some ([.st [(.int .i64), (.int .i64), (.int .i64), (.int .i64), (.int .i64), .bool, (.sl [(.int .i64), (.int .i64), (.int .i64), (.int .i64), (.int .i64), (.int .i64), .bool])], .st [(.int .i64), (.int .i64), (.int .i64), (.int .i64), (.int .i64), .bool, (.sl [(.int .i64), (.int .i64), (.int .i64), (.int .i64), (.int .i64), (.int .i64), .bool])]], [.sc .bool], tree_70) := by kernel_rfl
/- laws.eqEffect -/
def tree_25 : T :=
(.br (.o2 .ne (.o1 (.fld 0) (.var 0)) (.o1 (.fld 0) (.var 1)))
 (.ret [(.bool false)])
 (.br (.o2 .ne (.o1 (.fld 1) (.var 0)) (.o1 (.fld 1) (.var 1)))
  (.ret [(.bool false)])
  (.br (.o2 .ne (.o1 (.fld 2) (.var 0)) (.o1 (.fld 2) (.var 1)))
   (.ret [(.bool false)])
   (.br (.o2 .ne (.o1 (.fld 3) (.var 0)) (.o1 (.fld 3) (.var 1)))
    (.ret [(.bool false)])
    (.call [] (.fn 68) [.st [(.int .i64), (.int .i64), (.int .i64), (.int .i64), (.int .i64), (.int .i64), (.int .i64)] (.o2 .cons (.o1 (.fld 4) (.var 0)) (.o2 .cons (.o1 (.fld 5) (.var 0)) (.o2 .cons (.o1 (.fld 6) (.var 0)) (.o2 .cons (.o1 (.fld 7) (.var 0)) (.o2 .cons (.o1 (.fld 8) (.var 0)) (.o2 .cons (.o1 (.fld 9) (.var 0)) (.o2 .cons (.o1 (.fld 10) (.var 0)) .nil))))))), .st [(.int .i64), (.int .i64), (.int .i64), (.int .i64), (.int .i64), (.int .i64), (.int .i64)] (.o2 .cons (.o1 (.fld 4) (.var 1)) (.o2 .cons (.o1 (.fld 5) (.var 1)) (.o2 .cons (.o1 (.fld 6) (.var 1)) (.o2 .cons (.o1 (.fld 7) (.var 1)) (.o2 .cons (.o1 (.fld 8) (.var 1)) (.o2 .cons (.o1 (.fld 9) (.var 1)) (.o2 .cons (.o1 (.fld 10) (.var 1)) .nil)))))))] [.sc .bool]
    (.br (.o1 .not (.var 2))
     (.ret [(.bool false)])
     (.call [] (.fn 69) [.st [(.int .i64), (.int .i64)] (.o2 .cons (.o1 (.fld 11) (.var 0)) (.o2 .cons (.o1 (.fld 12) (.var 0)) .nil)), .st [(.int .i64), (.int .i64)] (.o2 .cons (.o1 (.fld 11) (.var 1)) (.o2 .cons (.o1 (.fld 12) (.var 1)) .nil))] [.sc .bool]
     (.br (.o1 .not (.var 3))
      (.ret [(.bool false)])
      (.call [] (.fn 70) [.st [(.int .i64), (.int .i64), (.int .i64), (.int .i64), (.int .i64), .bool, (.sl [(.int .i64), (.int .i64), (.int .i64), (.int .i64), (.int .i64), (.int .i64), .bool])] (.o2 .cons (.o1 (.fld 13) (.var 0)) (.o2 .cons (.o1 (.fld 14) (.var 0)) (.o2 .cons (.o1 (.fld 15) (.var 0)) (.o2 .cons (.o1 (.fld 16) (.var 0)) (.o2 .cons (.o1 (.fld 17) (.var 0)) (.o2 .cons (.o1 (.fld 18) (.var 0)) (.o2 .cons (.o1 (.fld 19) (.var 0)) .nil))))))), .st [(.int .i64), (.int .i64), (.int .i64), (.int .i64), (.int .i64), .bool, (.sl [(.int .i64), (.int .i64), (.int .i64), (.int .i64), (.int .i64), (.int .i64), .bool])] (.o2 .cons (.o1 (.fld 13) (.var 1)) (.o2 .cons (.o1 (.fld 14) (.var 1)) (.o2 .cons (.o1 (.fld 15) (.var 1)) (.o2 .cons (.o1 (.fld 16) (.var 1)) (.o2 .cons (.o1 (.fld 17) (.var 1)) (.o2 .cons (.o1 (.fld 18) (.var 1)) (.o2 .cons (.o1 (.fld 19) (.var 1)) .nil)))))))] [.sc .bool]
      (.br (.o1 .not (.var 4))
       (.ret [(.bool false)])
       (.br (.o2 .ne (.o1 (.fld 20) (.var 0)) (.o1 (.fld 20) (.var 1)))
        (.ret [(.bool false)])
        (.br (.o2 .ne (.o1 (.fld 21) (.var 0)) (.o1 (.fld 21) (.var 1)))
         (.ret [(.bool false)])
         (.ret [(.bool true)])))))))))))))
theorem sig_25 : sigOf Try.prog md 25 [] = some ([.st [(.int .i64), (.int .i64), (.int .i64), (.int .i64), (.int .i64), (.int .i64), (.int .i64), (.int .i64), (.int .i64), (.int .i64), (.int .i64), (.int .i64), (.int .i64), (.int .i64), (.int .i64), (.int .i64), (.int .i64), (.int .i64), .bool, (.sl [(.int .i64), (.int .i64), (.int .i64), (.int .i64), (.int .i64), (.int .i64), .bool]), (.int .i64), (.int .i64)], .st [(.int .i64), (.int .i64), (.int .i64), (.int .i64), (.int .i64), (.int .i64), (.int .i64), (.int .i64), (.int .i64), (.int .i64), (.int .i64), (.int .i64), (.int .i64), (.int .i64), (.int .i64), (.int .i64), (.int .i64), (.int .i64), .bool, (.sl [(.int .i64), (.int .i64), (.int .i64), (.int .i64), (.int .i64), (.int .i64), .bool]), (.int .i64), (.int .i64)]], [.sc .bool], tree_25) := by kernel_rfl
/- laws.eqEffectS -/
def tree_18 : T :=
(.know (.var 0)
(.know (.var 1)
(.br (.o2 .ne (.o1 .len (.var 0)) (.o1 .len (.var 1)))
 (.ret [(.bool false)])
 (.loop 0 [(.int 0)]
  (.know (.var 0)
  (.br (.o2 .lt (.var 2) (.o1 .len (.var 0)))
   (.need [] (.o2 .le (.int 0) (.var 2))
   (.need [] (.o2 .lt (.var 2) (.o1 .len (.var 0)))
   (.need [] (.o2 .le (.int 0) (.var 2))
   (.need [] (.o2 .lt (.var 2) (.o1 .len (.var 1)))
   (.call [] (.fn 25) [.st [(.int .i64), (.int .i64), (.int .i64), (.int .i64), (.int .i64), (.int .i64), (.int .i64), (.int .i64), (.int .i64), (.int .i64), (.int .i64), (.int .i64), (.int .i64), (.int .i64), (.int .i64), (.int .i64), (.int .i64), (.int .i64), .bool, (.sl [(.int .i64), (.int .i64), (.int .i64), (.int .i64), (.int .i64), (.int .i64), .bool]), (.int .i64), (.int .i64)] (.o2 .cons (.o1 (.fld 0) (.o2 .idx (.var 0) (.var 2))) (.o2 .cons (.o1 (.fld 1) (.o2 .idx (.var 0) (.var 2))) (.o2 .cons (.o1 (.fld 2) (.o2 .idx (.var 0) (.var 2))) (.o2 .cons (.o1 (.fld 3) (.o2 .idx (.var 0) (.var 2))) (.o2 .cons (.o1 (.fld 4) (.o2 .idx (.var 0) (.var 2))) (.o2 .cons (.o1 (.fld 5) (.o2 .idx (.var 0) (.var 2))) (.o2 .cons (.o1 (.fld 6) (.o2 .idx (.var 0) (.var 2))) (.o2 .cons (.o1 (.fld 7) (.o2 .idx (.var 0) (.var 2))) (.o2 .cons (.o1 (.fld 8) (.o2 .idx (.var 0) (.var 2))) (.o2 .cons (.o1 (.fld 9) (.o2 .idx (.var 0) (.var 2))) (.o2 .cons (.o1 (.fld 10) (.o2 .idx (.var 0) (.var 2))) (.o2 .cons (.o1 (.fld 11) (.o2 .idx (.var 0) (.var 2))) (.o2 .cons (.o1 (.fld 12) (.o2 .idx (.var 0) (.var 2))) (.o2 .cons (.o1 (.fld 13) (.o2 .idx (.var 0) (.var 2))) (.o2 .cons (.o1 (.fld 14) (.o2 .idx (.var 0) (.var 2))) (.o2 .cons (.o1 (.fld 15) (.o2 .idx (.var 0) (.var 2))) (.o2 .cons (.o1 (.fld 16) (.o2 .idx (.var 0) (.var 2))) (.o2 .cons (.o1 (.fld 17) (.o2 .idx (.var 0) (.var 2))) (.o2 .cons (.o1 (.fld 18) (.o2 .idx (.var 0) (.var 2))) (.o2 .cons (.o1 (.fld 19) (.o2 .idx (.var 0) (.var 2))) (.o2 .cons (.o1 (.fld 20) (.o2 .idx (.var 0) (.var 2))) (.o2 .cons (.o1 (.fld 21) (.o2 .idx (.var 0) (.var 2))) .nil)))))))))))))))))))))), .st [(.int .i64), (.int .i64), (.int .i64), (.int .i64), (.int .i64), (.int .i64), (.int .i64), (.int .i64), (.int .i64), (.int .i64), (.int .i64), (.int .i64), (.int .i64), (.int .i64), (.int .i64), (.int .i64), (.int .i64), (.int .i64), .bool, (.sl [(.int .i64), (.int .i64), (.int .i64), (.int .i64), (.int .i64), (.int .i64), .bool]), (.int .i64), (.int .i64)] (.o2 .cons (.o1 (.fld 0) (.o2 .idx (.var 1) (.var 2))) (.o2 .cons (.o1 (.fld 1) (.o2 .idx (.var 1) (.var 2))) (.o2 .cons (.o1 (.fld 2) (.o2 .idx (.var 1) (.var 2))) (.o2 .cons (.o1 (.fld 3) (.o2 .idx (.var 1) (.var 2))) (.o2 .cons (.o1 (.fld 4) (.o2 .idx (.var 1) (.var 2))) (.o2 .cons (.o1 (.fld 5) (.o2 .idx (.var 1) (.var 2))) (.o2 .cons (.o1 (.fld 6) (.o2 .idx (.var 1) (.var 2))) (.o2 .cons (.o1 (.fld 7) (.o2 .idx (.var 1) (.var 2))) (.o2 .cons (.o1 (.fld 8) (.o2 .idx (.var 1) (.var 2))) (.o2 .cons (.o1 (.fld 9) (.o2 .idx (.var 1) (.var 2))) (.o2 .cons (.o1 (.fld 10) (.o2 .idx (.var 1) (.var 2))) (.o2 .cons (.o1 (.fld 11) (.o2 .idx (.var 1) (.var 2))) (.o2 .cons (.o1 (.fld 12) (.o2 .idx (.var 1) (.var 2))) (.o2 .cons (.o1 (.fld 13) (.o2 .idx (.var 1) (.var 2))) (.o2 .cons (.o1 (.fld 14) (.o2 .idx (.var 1) (.var 2))) (.o2 .cons (.o1 (.fld 15) (.o2 .idx (.var 1) (.var 2))) (.o2 .cons (.o1 (.fld 16) (.o2 .idx (.var 1) (.var 2))) (.o2 .cons (.o1 (.fld 17) (.o2 .idx (.var 1) (.var 2))) (.o2 .cons (.o1 (.fld 18) (.o2 .idx (.var 1) (.var 2))) (.o2 .cons (.o1 (.fld 19) (.o2 .idx (.var 1) (.var 2))) (.o2 .cons (.o1 (.fld 20) (.o2 .idx (.var 1) (.var 2))) (.o2 .cons (.o1 (.fld 21) (.o2 .idx (.var 1) (.var 2))) .nil))))))))))))))))))))))] [.sc .bool]
   (.br (.o1 .not (.var 3))
    (.ret [(.bool false)])
    (.cont 0 [(.o2 (.add .i64) (.var 2) (.int 1))])))))))
   (.ret [(.bool true)])))))))
theorem sig_18 : sigOf Try.prog md 18 [] = some ([.sc (.sl [(.int .i64), (.int .i64), (.int .i64), (.int .i64), (.int .i64), (.int .i64), (.int .i64), (.int .i64), (.int .i64), (.int .i64), (.int .i64), (.int .i64), (.int .i64), (.int .i64), (.int .i64), (.int .i64), (.int .i64), (.int .i64), .bool, (.sl [(.int .i64), (.int .i64), (.int .i64), (.int .i64), (.int .i64), (.int .i64), .bool]), (.int .i64), (.int .i64)]), .sc (.sl [(.int .i64), (.int .i64), (.int .i64), (.int .i64), (.int .i64), (.int .i64), (.int .i64), (.int .i64), (.int .i64), (.int .i64), (.int .i64), (.int .i64), (.int .i64), (.int .i64), (.int .i64), (.int .i64), (.int .i64), (.int .i64), .bool, (.sl [(.int .i64), (.int .i64), (.int .i64), (.int .i64), (.int .i64), (.int .i64), .bool]), (.int .i64), (.int .i64)])], [.sc .bool], tree_18) := by kernel_rfl
/- spec.SameEffect -/
def tree_55 : T :=
(.br (.o2 .bor (.o2 .bor (.o2 .bor (.o2 .bor (.o2 .bor (.o2 .bor (.o2 .bor (.o2 .ne (.o1 (.fld 0) (.var 0)) (.o1 (.fld 0) (.var 1))) (.o2 .ne (.o1 (.fld 1) (.var 0)) (.o1 (.fld 1) (.var 1)))) (.o2 .ne (.o1 (.fld 2) (.var 0)) (.o1 (.fld 2) (.var 1)))) (.o2 .ne (.o1 (.fld 3) (.var 0)) (.o1 (.fld 3) (.var 1)))) (.o1 .not (.o2 .band (.o2 .eq (.o1 (.fld 4) (.var 0)) (.o1 (.fld 4) (.var 1))) (.o2 .band (.o2 .eq (.o1 (.fld 5) (.var 0)) (.o1 (.fld 5) (.var 1))) (.o2 .band (.o2 .eq (.o1 (.fld 6) (.var 0)) (.o1 (.fld 6) (.var 1))) (.o2 .band (.o2 .eq (.o1 (.fld 7) (.var 0)) (.o1 (.fld 7) (.var 1))) (.o2 .band (.o2 .eq (.o1 (.fld 8) (.var 0)) (.o1 (.fld 8) (.var 1))) (.o2 .band (.o2 .eq (.o1 (.fld 9) (.var 0)) (.o1 (.fld 9) (.var 1))) (.o2 .band (.o2 .eq (.o1 (.fld 10) (.var 0)) (.o1 (.fld 10) (.var 1))) (.bool true)))))))))) (.o1 .not (.o2 .band (.o2 .eq (.o1 (.fld 11) (.var 0)) (.o1 (.fld 11) (.var 1))) (.o2 .band (.o2 .eq (.o1 (.fld 12) (.var 0)) (.o1 (.fld 12) (.var 1))) (.bool true))))) (.o2 .ne (.o1 (.fld 20) (.var 0)) (.o1 (.fld 20) (.var 1)))) (.o2 .ne (.o1 (.fld 21) (.var 0)) (.o1 (.fld 21) (.var 1))))
 (.ret [(.bool false)])
 (.br (.o2 .bor (.o2 .bor (.o2 .bor (.o2 .bor (.o2 .bor (.o2 .bor (.o2 .ne (.o1 (.fld 13) (.var 0)) (.o1 (.fld 13) (.var 1))) (.o2 .ne (.o1 (.fld 14) (.var 0)) (.o1 (.fld 14) (.var 1)))) (.o2 .ne (.o1 (.fld 15) (.var 0)) (.o1 (.fld 15) (.var 1)))) (.o2 .ne (.o1 (.fld 16) (.var 0)) (.o1 (.fld 16) (.var 1)))) (.o2 .ne (.o1 (.fld 17) (.var 0)) (.o1 (.fld 17) (.var 1)))) (.o2 .bne (.o1 (.fld 18) (.var 0)) (.o1 (.fld 18) (.var 1)))) (.o2 .ne (.o1 .len (.o1 (.fld 19) (.var 0))) (.o1 .len (.o1 (.fld 19) (.var 1)))))
  (.ret [(.bool false)])
  (.loop 0 [(.int 0)]
   (.know (.o1 (.fld 19) (.var 0))
   (.br (.o2 .lt (.var 2) (.o1 .len (.o1 (.fld 19) (.var 0))))
    (.need [] (.o2 .le (.int 0) (.var 2))
    (.need [] (.o2 .lt (.var 2) (.o1 .len (.o1 (.fld 19) (.var 0))))
    (.need [] (.o2 .le (.int 0) (.var 2))
    (.need [] (.o2 .lt (.var 2) (.o1 .len (.o1 (.fld 19) (.var 1))))
    (.br (.o1 .not (.o2 .band (.o2 .eq (.o1 (.fld 0) (.o2 .idx (.o1 (.fld 19) (.var 0)) (.var 2))) (.o1 (.fld 0) (.o2 .idx (.o1 (.fld 19) (.var 1)) (.var 2)))) (.o2 .band (.o2 .eq (.o1 (.fld 1) (.o2 .idx (.o1 (.fld 19) (.var 0)) (.var 2))) (.o1 (.fld 1) (.o2 .idx (.o1 (.fld 19) (.var 1)) (.var 2)))) (.o2 .band (.o2 .eq (.o1 (.fld 2) (.o2 .idx (.o1 (.fld 19) (.var 0)) (.var 2))) (.o1 (.fld 2) (.o2 .idx (.o1 (.fld 19) (.var 1)) (.var 2)))) (.o2 .band (.o2 .eq (.o1 (.fld 3) (.o2 .idx (.o1 (.fld 19) (.var 0)) (.var 2))) (.o1 (.fld 3) (.o2 .idx (.o1 (.fld 19) (.var 1)) (.var 2)))) (.o2 .band (.o2 .eq (.o1 (.fld 4) (.o2 .idx (.o1 (.fld 19) (.var 0)) (.var 2))) (.o1 (.fld 4) (.o2 .idx (.o1 (.fld 19) (.var 1)) (.var 2)))) (.o2 .band (.o2 .eq (.o1 (.fld 5) (.o2 .idx (.o1 (.fld 19) (.var 0)) (.var 2))) (.o1 (.fld 5) (.o2 .idx (.o1 (.fld 19) (.var 1)) (.var 2)))) (.o2 .band (.o2 .beq (.o1 (.fld 6) (.o2 .idx (.o1 (.fld 19) (.var 0)) (.var 2))) (.o1 (.fld 6) (.o2 .idx (.o1 (.fld 19) (.var 1)) (.var 2)))) (.bool true)))))))))
     (.ret [(.bool false)])
     (.cont 0 [(.o2 (.add .i64) (.var 2) (.int 1))]))))))
    (.ret [(.bool true)]))))))
theorem sig_55 : sigOf Try.prog md 55 [] = some ([.st [(.int .i64), (.int .i64), (.int .i64), (.int .i64), (.int .i64), (.int .i64), (.int .i64), (.int .i64), (.int .i64), (.int .i64), (.int .i64), (.int .i64), (.int .i64), (.int .i64), (.int .i64), (.int .i64), (.int .i64), (.int .i64), .bool, (.sl [(.int .i64), (.int .i64), (.int .i64), (.int .i64), (.int .i64), (.int .i64), .bool]), (.int .i64), (.int .i64)], .st [(.int .i64), (.int .i64), (.int .i64), (.int .i64), (.int .i64), (.int .i64), (.int .i64), (.int .i64), (.int .i64), (.int .i64), (.int .i64), (.int .i64), (.int .i64), (.int .i64), (.int .i64), (.int .i64), (.int .i64), (.int .i64), .bool, (.sl [(.int .i64), (.int .i64), (.int .i64), (.int .i64), (.int .i64), (.int .i64), .bool]), (.int .i64), (.int .i64)]], [.sc .bool], tree_55) := by kernel_rfl
/- spec.SameTable -/
def tree_19 : T :=
(.know (.var 0)
(.know (.var 1)
(.br (.o2 .ne (.o1 .len (.var 0)) (.o1 .len (.var 1)))
 (.ret [(.bool false)])
 (.loop 0 [(.int 0)]
  (.know (.var 0)
  (.br (.o2 .lt (.var 2) (.o1 .len (.var 0)))
   (.need [] (.o2 .le (.int 0) (.var 2))
   (.need [] (.o2 .lt (.var 2) (.o1 .len (.var 0)))
   (.need [] (.o2 .le (.int 0) (.var 2))
   (.need [] (.o2 .lt (.var 2) (.o1 .len (.var 1)))
   (.call [] (.fn 55) [.st [(.int .i64), (.int .i64), (.int .i64), (.int .i64), (.int .i64), (.int .i64), (.int .i64), (.int .i64), (.int .i64), (.int .i64), (.int .i64), (.int .i64), (.int .i64), (.int .i64), (.int .i64), (.int .i64), (.int .i64), (.int .i64), .bool, (.sl [(.int .i64), (.int .i64), (.int .i64), (.int .i64), (.int .i64), (.int .i64), .bool]), (.int .i64), (.int .i64)] (.o2 .cons (.o1 (.fld 0) (.o2 .idx (.var 0) (.var 2))) (.o2 .cons (.o1 (.fld 1) (.o2 .idx (.var 0) (.var 2))) (.o2 .cons (.o1 (.fld 2) (.o2 .idx (.var 0) (.var 2))) (.o2 .cons (.o1 (.fld 3) (.o2 .idx (.var 0) (.var 2))) (.o2 .cons (.o1 (.fld 4) (.o2 .idx (.var 0) (.var 2))) (.o2 .cons (.o1 (.fld 5) (.o2 .idx (.var 0) (.var 2))) (.o2 .cons (.o1 (.fld 6) (.o2 .idx (.var 0) (.var 2))) (.o2 .cons (.o1 (.fld 7) (.o2 .idx (.var 0) (.var 2))) (.o2 .cons (.o1 (.fld 8) (.o2 .idx (.var 0) (.var 2))) (.o2 .cons (.o1 (.fld 9) (.o2 .idx (.var 0) (.var 2))) (.o2 .cons (.o1 (.fld 10) (.o2 .idx (.var 0) (.var 2))) (.o2 .cons (.o1 (.fld 11) (.o2 .idx (.var 0) (.var 2))) (.o2 .cons (.o1 (.fld 12) (.o2 .idx (.var 0) (.var 2))) (.o2 .cons (.o1 (.fld 13) (.o2 .idx (.var 0) (.var 2))) (.o2 .cons (.o1 (.fld 14) (.o2 .idx (.var 0) (.var 2))) (.o2 .cons (.o1 (.fld 15) (.o2 .idx (.var 0) (.var 2))) (.o2 .cons (.o1 (.fld 16) (.o2 .idx (.var 0) (.var 2))) (.o2 .cons (.o1 (.fld 17) (.o2 .idx (.var 0) (.var 2))) (.o2 .cons (.o1 (.fld 18) (.o2 .idx (.var 0) (.var 2))) (.o2 .cons (.o1 (.fld 19) (.o2 .idx (.var 0) (.var 2))) (.o2 .cons (.o1 (.fld 20) (.o2 .idx (.var 0) (.var 2))) (.o2 .cons (.o1 (.fld 21) (.o2 .idx (.var 0) (.var 2))) .nil)))))))))))))))))))))), .st [(.int .i64), (.int .i64), (.int .i64), (.int .i64), (.int .i64), (.int .i64), (.int .i64), (.int .i64), (.int .i64), (.int .i64), (.int .i64), (.int .i64), (.int .i64), (.int .i64), (.int .i64), (.int .i64), (.int .i64), (.int .i64), .bool, (.sl [(.int .i64), (.int .i64), (.int .i64), (.int .i64), (.int .i64), (.int .i64), .bool]), (.int .i64), (.int .i64)] (.o2 .cons (.o1 (.fld 0) (.o2 .idx (.var 1) (.var 2))) (.o2 .cons (.o1 (.fld 1) (.o2 .idx (.var 1) (.var 2))) (.o2 .cons (.o1 (.fld 2) (.o2 .idx (.var 1) (.var 2))) (.o2 .cons (.o1 (.fld 3) (.o2 .idx (.var 1) (.var 2))) (.o2 .cons (.o1 (.fld 4) (.o2 .idx (.var 1) (.var 2))) (.o2 .cons (.o1 (.fld 5) (.o2 .idx (.var 1) (.var 2))) (.o2 .cons (.o1 (.fld 6) (.o2 .idx (.var 1) (.var 2))) (.o2 .cons (.o1 (.fld 7) (.o2 .idx (.var 1) (.var 2))) (.o2 .cons (.o1 (.fld 8) (.o2 .idx (.var 1) (.var 2))) (.o2 .cons (.o1 (.fld 9) (.o2 .idx (.var 1) (.var 2))) (.o2 .cons (.o1 (.fld 10) (.o2 .idx (.var 1) (.var 2))) (.o2 .cons (.o1 (.fld 11) (.o2 .idx (.var 1) (.var 2))) (.o2 .cons (.o1 (.fld 12) (.o2 .idx (.var 1) (.var 2))) (.o2 .cons (.o1 (.fld 13) (.o2 .idx (.var 1) (.var 2))) (.o2 .cons (.o1 (.fld 14) (.o2 .idx (.var 1) (.var 2))) (.o2 .cons (.o1 (.fld 15) (.o2 .idx (.var 1) (.var 2))) (.o2 .cons (.o1 (.fld 16) (.o2 .idx (.var 1) (.var 2))) (.o2 .cons (.o1 (.fld 17) (.o2 .idx (.var 1) (.var 2))) (.o2 .cons (.o1 (.fld 18) (.o2 .idx (.var 1) (.var 2))) (.o2 .cons (.o1 (.fld 19) (.o2 .idx (.var 1) (.var 2))) (.o2 .cons (.o1 (.fld 20) (.o2 .idx (.var 1) (.var 2))) (.o2 .cons (.o1 (.fld 21) (.o2 .idx (.var 1) (.var 2))) .nil))))))))))))))))))))))] [.sc .bool]
   (.br (.o1 .not (.var 3))
    (.ret [(.bool false)])
    (.cont 0 [(.o2 (.add .i64) (.var 2) (.int 1))])))))))
   (.ret [(.bool true)])))))))
theorem sig_19 : sigOf Try.prog md 19 [] = some ([.sc (.sl [(.int .i64), (.int .i64), (.int .i64), (.int .i64), (.int .i64), (.int .i64), (.int .i64), (.int .i64), (.int .i64), (.int .i64), (.int .i64), (.int .i64), (.int .i64), (.int .i64), (.int .i64), (.int .i64), (.int .i64), (.int .i64), .bool, (.sl [(.int .i64), (.int .i64), (.int .i64), (.int .i64), (.int .i64), (.int .i64), .bool]), (.int .i64), (.int .i64)]), .sc (.sl [(.int .i64), (.int .i64), (.int .i64), (.int .i64), (.int .i64), (.int .i64), (.int .i64), (.int .i64), (.int .i64), (.int .i64), (.int .i64), (.int .i64), (.int .i64), (.int .i64), (.int .i64), (.int .i64), (.int .i64), (.int .i64), .bool, (.sl [(.int .i64), (.int .i64), (.int .i64), (.int .i64), (.int .i64), (.int .i64), .bool]), (.int .i64), (.int .i64)])], [.sc .bool], tree_19) := by kernel_rfl
/- slices.Equal[[]impl.Event,impl.Event] -/
def tree_155 : T :=
(.know (.var 0)
(.know (.var 1)
(.br (.o2 .ne (.o1 .len (.var 0)) (.o1 .len (.var 1)))
 (.ret [(.bool false)])
 (.know (.var 0)
 (.loop 0 [(.int 0)]
  (.br (.o2 .lt (.var 2) (.o1 .len (.var 0)))
   (.need [] (.o2 .le (.int 0) (.var 2))
   (.need [] (.o2 .lt (.var 2) (.o1 .len (.var 0)))
   (.need [] (.o2 .le (.int 0) (.var 2))
   (.need [] (.o2 .lt (.var 2) (.o1 .len (.var 1)))
   (.br (.o1 .not (.o2 .band (.o2 .eq (.o1 (.fld 0) (.o2 .idx (.var 0) (.var 2))) (.o1 (.fld 0) (.o2 .idx (.var 1) (.var 2)))) (.o2 .band (.o2 .eq (.o1 (.fld 1) (.o2 .idx (.var 0) (.var 2))) (.o1 (.fld 1) (.o2 .idx (.var 1) (.var 2)))) (.o2 .band (.o2 .eq (.o1 (.fld 2) (.o2 .idx (.var 0) (.var 2))) (.o1 (.fld 2) (.o2 .idx (.var 1) (.var 2)))) (.o2 .band (.o2 .eq (.o1 (.fld 3) (.o2 .idx (.var 0) (.var 2))) (.o1 (.fld 3) (.o2 .idx (.var 1) (.var 2)))) (.o2 .band (.o2 .eq (.o1 (.fld 4) (.o2 .idx (.var 0) (.var 2))) (.o1 (.fld 4) (.o2 .idx (.var 1) (.var 2)))) (.o2 .band (.o2 .eq (.o1 (.fld 5) (.o2 .idx (.var 0) (.var 2))) (.o1 (.fld 5) (.o2 .idx (.var 1) (.var 2)))) (.o2 .band (.o2 .beq (.o1 (.fld 6) (.o2 .idx (.var 0) (.var 2))) (.o1 (.fld 6) (.o2 .idx (.var 1) (.var 2)))) (.bool true)))))))))
    (.ret [(.bool false)])
    (.cont 0 [(.o2 (.add .i64) (.var 2) (.int 1))]))))))
   (.ret [(.bool true)])))))))
theorem sig_155 : sigOf Try.prog md 155 [] = some ([.sc (.sl [(.int .i64), (.int .i64), (.int .i64), (.int .i64), (.int .i64), (.int .i64), .bool]), .sc (.sl [(.int .i64), (.int .i64), (.int .i64), (.int .i64), (.int .i64), (.int .i64), .bool])], [.sc .bool], tree_155) := by kernel_rfl
/- impl.sameAct -/
def tree_117 : T :=
(.call [((.o2 .band (.o2 .band (.o2 .band (.o2 .band (.o2 .band (.o2 .eq (.o1 (.fld 0) (.var 0)) (.o1 (.fld 0) (.var 1))) (.o2 .eq (.o1 (.fld 1) (.var 0)) (.o1 (.fld 1) (.var 1)))) (.o2 .eq (.o1 (.fld 2) (.var 0)) (.o1 (.fld 2) (.var 1)))) (.o2 .eq (.o1 (.fld 3) (.var 0)) (.o1 (.fld 3) (.var 1)))) (.o2 .eq (.o1 (.fld 4) (.var 0)) (.o1 (.fld 4) (.var 1)))) (.o2 .beq (.o1 (.fld 5) (.var 0)) (.o1 (.fld 5) (.var 1)))), true)] (.fn 155) [.sc (.sl [(.int .i64), (.int .i64), (.int .i64), (.int .i64), (.int .i64), (.int .i64), .bool]) (.o1 (.fld 6) (.var 0)), .sc (.sl [(.int .i64), (.int .i64), (.int .i64), (.int .i64), (.int .i64), (.int .i64), .bool]) (.o1 (.fld 6) (.var 1))] [.sc .bool]
(.ret [(.o2 .band (.o2 .band (.o2 .band (.o2 .band (.o2 .band (.o2 .band (.o2 .eq (.o1 (.fld 0) (.var 0)) (.o1 (.fld 0) (.var 1))) (.o2 .eq (.o1 (.fld 1) (.var 0)) (.o1 (.fld 1) (.var 1)))) (.o2 .eq (.o1 (.fld 2) (.var 0)) (.o1 (.fld 2) (.var 1)))) (.o2 .eq (.o1 (.fld 3) (.var 0)) (.o1 (.fld 3) (.var 1)))) (.o2 .eq (.o1 (.fld 4) (.var 0)) (.o1 (.fld 4) (.var 1)))) (.o2 .beq (.o1 (.fld 5) (.var 0)) (.o1 (.fld 5) (.var 1)))) (.var 2))]))
theorem sig_117 : sigOf Try.prog md 117 [] = some ([.st [(.int .i64), (.int .i64), (.int .i64), (.int .i64), (.int .i64), .bool, (.sl [(.int .i64), (.int .i64), (.int .i64), (.int .i64), (.int .i64), (.int .i64), .bool])], .st [(.int .i64), (.int .i64), (.int .i64), (.int .i64), (.int .i64), .bool, (.sl [(.int .i64), (.int .i64), (.int .i64), (.int .i64), (.int .i64), (.int .i64), .bool])]], [.sc .bool], tree_117) := by kernel_rfl
/- impl.SameEffect -/
def tree_57 : T :=
(.call [((.o2 .band (.o2 .band (.o2 .band (.o2 .band (.o2 .band (.o2 .eq (.o1 (.fld 0) (.var 0)) (.o1 (.fld 0) (.var 1))) (.o2 .eq (.o1 (.fld 1) (.var 0)) (.o1 (.fld 1) (.var 1)))) (.o2 .eq (.o1 (.fld 2) (.var 0)) (.o1 (.fld 2) (.var 1)))) (.o2 .eq (.o1 (.fld 3) (.var 0)) (.o1 (.fld 3) (.var 1)))) (.o2 .band (.o2 .eq (.o1 (.fld 4) (.var 0)) (.o1 (.fld 4) (.var 1))) (.o2 .band (.o2 .eq (.o1 (.fld 5) (.var 0)) (.o1 (.fld 5) (.var 1))) (.o2 .band (.o2 .eq (.o1 (.fld 6) (.var 0)) (.o1 (.fld 6) (.var 1))) (.o2 .band (.o2 .eq (.o1 (.fld 7) (.var 0)) (.o1 (.fld 7) (.var 1))) (.o2 .band (.o2 .eq (.o1 (.fld 8) (.var 0)) (.o1 (.fld 8) (.var 1))) (.o2 .band (.o2 .eq (.o1 (.fld 9) (.var 0)) (.o1 (.fld 9) (.var 1))) (.o2 .band (.o2 .eq (.o1 (.fld 10) (.var 0)) (.o1 (.fld 10) (.var 1))) (.bool true))))))))) (.o2 .band (.o2 .eq (.o1 (.fld 11) (.var 0)) (.o1 (.fld 11) (.var 1))) (.o2 .band (.o2 .eq (.o1 (.fld 12) (.var 0)) (.o1 (.fld 12) (.var 1))) (.bool true)))), true)] (.fn 117) [.st [(.int .i64), (.int .i64), (.int .i64), (.int .i64), (.int .i64), .bool, (.sl [(.int .i64), (.int .i64), (.int .i64), (.int .i64), (.int .i64), (.int .i64), .bool])] (.o2 .cons (.o1 (.fld 13) (.var 0)) (.o2 .cons (.o1 (.fld 14) (.var 0)) (.o2 .cons (.o1 (.fld 15) (.var 0)) (.o2 .cons (.o1 (.fld 16) (.var 0)) (.o2 .cons (.o1 (.fld 17) (.var 0)) (.o2 .cons (.o1 (.fld 18) (.var 0)) (.o2 .cons (.o1 (.fld 19) (.var 0)) .nil))))))), .st [(.int .i64), (.int .i64), (.int .i64), (.int .i64), (.int .i64), .bool, (.sl [(.int .i64), (.int .i64), (.int .i64), (.int .i64), (.int .i64), (.int .i64), .bool])] (.o2 .cons (.o1 (.fld 13) (.var 1)) (.o2 .cons (.o1 (.fld 14) (.var 1)) (.o2 .cons (.o1 (.fld 15) (.var 1)) (.o2 .cons (.o1 (.fld 16) (.var 1)) (.o2 .cons (.o1 (.fld 17) (.var 1)) (.o2 .cons (.o1 (.fld 18) (.var 1)) (.o2 .cons (.o1 (.fld 19) (.var 1)) .nil)))))))] [.sc .bool]
(.ret [(.o2 .band (.o2 .band (.o2 .band (.o2 .band (.o2 .band (.o2 .band (.o2 .band (.o2 .band (.o2 .eq (.o1 (.fld 0) (.var 0)) (.o1 (.fld 0) (.var 1))) (.o2 .eq (.o1 (.fld 1) (.var 0)) (.o1 (.fld 1) (.var 1)))) (.o2 .eq (.o1 (.fld 2) (.var 0)) (.o1 (.fld 2) (.var 1)))) (.o2 .eq (.o1 (.fld 3) (.var 0)) (.o1 (.fld 3) (.var 1)))) (.o2 .band (.o2 .eq (.o1 (.fld 4) (.var 0)) (.o1 (.fld 4) (.var 1))) (.o2 .band (.o2 .eq (.o1 (.fld 5) (.var 0)) (.o1 (.fld 5) (.var 1))) (.o2 .band (.o2 .eq (.o1 (.fld 6) (.var 0)) (.o1 (.fld 6) (.var 1))) (.o2 .band (.o2 .eq (.o1 (.fld 7) (.var 0)) (.o1 (.fld 7) (.var 1))) (.o2 .band (.o2 .eq (.o1 (.fld 8) (.var 0)) (.o1 (.fld 8) (.var 1))) (.o2 .band (.o2 .eq (.o1 (.fld 9) (.var 0)) (.o1 (.fld 9) (.var 1))) (.o2 .band (.o2 .eq (.o1 (.fld 10) (.var 0)) (.o1 (.fld 10) (.var 1))) (.bool true))))))))) (.o2 .band (.o2 .eq (.o1 (.fld 11) (.var 0)) (.o1 (.fld 11) (.var 1))) (.o2 .band (.o2 .eq (.o1 (.fld 12) (.var 0)) (.o1 (.fld 12) (.var 1))) (.bool true)))) (.var 2)) (.o2 .eq (.o1 (.fld 20) (.var 0)) (.o1 (.fld 20) (.var 1)))) (.o2 .eq (.o1 (.fld 21) (.var 0)) (.o1 (.fld 21) (.var 1))))]))
theorem sig_57 : sigOf Try.prog md 57 [] = some ([.st [(.int .i64), (.int .i64), (.int .i64), (.int .i64), (.int .i64), (.int .i64), (.int .i64), (.int .i64), (.int .i64), (.int .i64), (.int .i64), (.int .i64), (.int .i64), (.int .i64), (.int .i64), (.int .i64), (.int .i64), (.int .i64), .bool, (.sl [(.int .i64), (.int .i64), (.int .i64), (.int .i64), (.int .i64), (.int .i64), .bool]), (.int .i64), (.int .i64)], .st [(.int .i64), (.int .i64), (.int .i64), (.int .i64), (.int .i64), (.int .i64), (.int .i64), (.int .i64), (.int .i64), (.int .i64), (.int .i64), (.int .i64), (.int .i64), (.int .i64), (.int .i64), (.int .i64), (.int .i64), (.int .i64), .bool, (.sl [(.int .i64), (.int .i64), (.int .i64), (.int .i64), (.int .i64), (.int .i64), .bool]), (.int .i64), (.int .i64)]], [.sc .bool], tree_57) := by kernel_rfl
/- slices.EqualFunc[[]impl.Effect,[]impl.Effect,impl.Effect,impl.Effect] -/
def tree_56 : T :=
(.know (.var 0)
(.know (.var 1)
(.br (.o2 .ne (.o1 .len (.var 0)) (.o1 .len (.var 1)))
 (.ret [(.bool false)])
 (.know (.var 0)
 (.loop 0 [(.int 0)]
  (.br (.o2 .lt (.var 3) (.o1 .len (.var 0)))
   (.need [] (.o2 .le (.int 0) (.var 3))
   (.need [] (.o2 .lt (.var 3) (.o1 .len (.var 0)))
   (.need [] (.o2 .le (.int 0) (.var 3))
   (.need [] (.o2 .lt (.var 3) (.o1 .len (.var 1)))
   (.call [] (.par 2) [.st [(.int .i64), (.int .i64), (.int .i64), (.int .i64), (.int .i64), (.int .i64), (.int .i64), (.int .i64), (.int .i64), (.int .i64), (.int .i64), (.int .i64), (.int .i64), (.int .i64), (.int .i64), (.int .i64), (.int .i64), (.int .i64), .bool, (.sl [(.int .i64), (.int .i64), (.int .i64), (.int .i64), (.int .i64), (.int .i64), .bool]), (.int .i64), (.int .i64)] (.o2 .cons (.o1 (.fld 0) (.o2 .idx (.var 0) (.var 3))) (.o2 .cons (.o1 (.fld 1) (.o2 .idx (.var 0) (.var 3))) (.o2 .cons (.o1 (.fld 2) (.o2 .idx (.var 0) (.var 3))) (.o2 .cons (.o1 (.fld 3) (.o2 .idx (.var 0) (.var 3))) (.o2 .cons (.o1 (.fld 4) (.o2 .idx (.var 0) (.var 3))) (.o2 .cons (.o1 (.fld 5) (.o2 .idx (.var 0) (.var 3))) (.o2 .cons (.o1 (.fld 6) (.o2 .idx (.var 0) (.var 3))) (.o2 .cons (.o1 (.fld 7) (.o2 .idx (.var 0) (.var 3))) (.o2 .cons (.o1 (.fld 8) (.o2 .idx (.var 0) (.var 3))) (.o2 .cons (.o1 (.fld 9) (.o2 .idx (.var 0) (.var 3))) (.o2 .cons (.o1 (.fld 10) (.o2 .idx (.var 0) (.var 3))) (.o2 .cons (.o1 (.fld 11) (.o2 .idx (.var 0) (.var 3))) (.o2 .cons (.o1 (.fld 12) (.o2 .idx (.var 0) (.var 3))) (.o2 .cons (.o1 (.fld 13) (.o2 .idx (.var 0) (.var 3))) (.o2 .cons (.o1 (.fld 14) (.o2 .idx (.var 0) (.var 3))) (.o2 .cons (.o1 (.fld 15) (.o2 .idx (.var 0) (.var 3))) (.o2 .cons (.o1 (.fld 16) (.o2 .idx (.var 0) (.var 3))) (.o2 .cons (.o1 (.fld 17) (.o2 .idx (.var 0) (.var 3))) (.o2 .cons (.o1 (.fld 18) (.o2 .idx (.var 0) (.var 3))) (.o2 .cons (.o1 (.fld 19) (.o2 .idx (.var 0) (.var 3))) (.o2 .cons (.o1 (.fld 20) (.o2 .idx (.var 0) (.var 3))) (.o2 .cons (.o1 (.fld 21) (.o2 .idx (.var 0) (.var 3))) .nil)))))))))))))))))))))), .st [(.int .i64), (.int .i64), (.int .i64), (.int .i64), (.int .i64), (.int .i64), (.int .i64), (.int .i64), (.int .i64), (.int .i64), (.int .i64), (.int .i64), (.int .i64), (.int .i64), (.int .i64), (.int .i64), (.int .i64), (.int .i64), .bool, (.sl [(.int .i64), (.int .i64), (.int .i64), (.int .i64), (.int .i64), (.int .i64), .bool]), (.int .i64), (.int .i64)] (.o2 .cons (.o1 (.fld 0) (.o2 .idx (.var 1) (.var 3))) (.o2 .cons (.o1 (.fld 1) (.o2 .idx (.var 1) (.var 3))) (.o2 .cons (.o1 (.fld 2) (.o2 .idx (.var 1) (.var 3))) (.o2 .cons (.o1 (.fld 3) (.o2 .idx (.var 1) (.var 3))) (.o2 .cons (.o1 (.fld 4) (.o2 .idx (.var 1) (.var 3))) (.o2 .cons (.o1 (.fld 5) (.o2 .idx (.var 1) (.var 3))) (.o2 .cons (.o1 (.fld 6) (.o2 .idx (.var 1) (.var 3))) (.o2 .cons (.o1 (.fld 7) (.o2 .idx (.var 1) (.var 3))) (.o2 .cons (.o1 (.fld 8) (.o2 .idx (.var 1) (.var 3))) (.o2 .cons (.o1 (.fld 9) (.o2 .idx (.var 1) (.var 3))) (.o2 .cons (.o1 (.fld 10) (.o2 .idx (.var 1) (.var 3))) (.o2 .cons (.o1 (.fld 11) (.o2 .idx (.var 1) (.var 3))) (.o2 .cons (.o1 (.fld 12) (.o2 .idx (.var 1) (.var 3))) (.o2 .cons (.o1 (.fld 13) (.o2 .idx (.var 1) (.var 3))) (.o2 .cons (.o1 (.fld 14) (.o2 .idx (.var 1) (.var 3))) (.o2 .cons (.o1 (.fld 15) (.o2 .idx (.var 1) (.var 3))) (.o2 .cons (.o1 (.fld 16) (.o2 .idx (.var 1) (.var 3))) (.o2 .cons (.o1 (.fld 17) (.o2 .idx (.var 1) (.var 3))) (.o2 .cons (.o1 (.fld 18) (.o2 .idx (.var 1) (.var 3))) (.o2 .cons (.o1 (.fld 19) (.o2 .idx (.var 1) (.var 3))) (.o2 .cons (.o1 (.fld 20) (.o2 .idx (.var 1) (.var 3))) (.o2 .cons (.o1 (.fld 21) (.o2 .idx (.var 1) (.var 3))) .nil))))))))))))))))))))))] [.sc .bool]
   (.br (.o1 .not (.var 4))
    (.ret [(.bool false)])
    (.cont 0 [(.o2 (.add .i64) (.var 3) (.int 1))])))))))
   (.ret [(.bool true)])))))))
theorem sig_56 : sigOf Try.prog md 56 [] = some ([.sc (.sl [(.int .i64), (.int .i64), (.int .i64), (.int .i64), (.int .i64), (.int .i64), (.int .i64), (.int .i64), (.int .i64), (.int .i64), (.int .i64), (.int .i64), (.int .i64), (.int .i64), (.int .i64), (.int .i64), (.int .i64), (.int .i64), .bool, (.sl [(.int .i64), (.int .i64), (.int .i64), (.int .i64), (.int .i64), (.int .i64), .bool]), (.int .i64), (.int .i64)]), .sc (.sl [(.int .i64), (.int .i64), (.int .i64), (.int .i64), (.int .i64), (.int .i64), (.int .i64), (.int .i64), (.int .i64), (.int .i64), (.int .i64), (.int .i64), (.int .i64), (.int .i64), (.int .i64), (.int .i64), (.int .i64), (.int .i64), .bool, (.sl [(.int .i64), (.int .i64), (.int .i64), (.int .i64), (.int .i64), (.int .i64), .bool]), (.int .i64), (.int .i64)]), .clo], [.sc .bool], tree_56) := by kernel_rfl
/- impl.SameTable -/
def tree_20 : T :=
(.call [] (.fn 56) [.sc (.sl [(.int .i64), (.int .i64), (.int .i64), (.int .i64), (.int .i64), (.int .i64), (.int .i64), (.int .i64), (.int .i64), (.int .i64), (.int .i64), (.int .i64), (.int .i64), (.int .i64), (.int .i64), (.int .i64), (.int .i64), (.int .i64), .bool, (.sl [(.int .i64), (.int .i64), (.int .i64), (.int .i64), (.int .i64), (.int .i64), .bool]), (.int .i64), (.int .i64)]) (.var 0), .sc (.sl [(.int .i64), (.int .i64), (.int .i64), (.int .i64), (.int .i64), (.int .i64), (.int .i64), (.int .i64), (.int .i64), (.int .i64), (.int .i64), (.int .i64), (.int .i64), (.int .i64), (.int .i64), (.int .i64), (.int .i64), (.int .i64), .bool, (.sl [(.int .i64), (.int .i64), (.int .i64), (.int .i64), (.int .i64), (.int .i64), .bool]), (.int .i64), (.int .i64)]) (.var 1), .clo 57 []] [.sc .bool]
(.ret [(.var 2)]))
theorem sig_20 : sigOf Try.prog md 20 [] = some ([.sc (.sl [(.int .i64), (.int .i64), (.int .i64), (.int .i64), (.int .i64), (.int .i64), (.int .i64), (.int .i64), (.int .i64), (.int .i64), (.int .i64), (.int .i64), (.int .i64), (.int .i64), (.int .i64), (.int .i64), (.int .i64), (.int .i64), .bool, (.sl [(.int .i64), (.int .i64), (.int .i64), (.int .i64), (.int .i64), (.int .i64), .bool]), (.int .i64), (.int .i64)]), .sc (.sl [(.int .i64), (.int .i64), (.int .i64), (.int .i64), (.int .i64), (.int .i64), (.int .i64), (.int .i64), (.int .i64), (.int .i64), (.int .i64), (.int .i64), (.int .i64), (.int .i64), (.int .i64), (.int .i64), (.int .i64), (.int .i64), .bool, (.sl [(.int .i64), (.int .i64), (.int .i64), (.int .i64), (.int .i64), (.int .i64), .bool]), (.int .i64), (.int .i64)])], [.sc .bool], tree_20) := by kernel_rfl
/- laws.FnExactSameTable -/
def tree_4 : T :=
(.call [] (.fn 14) [.sc (.sl [(.int .i64), (.int .i64), (.int .i64), (.int .i64), (.int .i64), (.int .i64), (.int .i64), (.int .i64), (.int .i64), (.int .i64), (.int .i64), (.int .i64), (.int .i64), (.int .i64), (.int .i64), (.int .i64), (.int .i64), (.int .i64), .bool, (.sl [(.int .i64), (.int .i64), (.int .i64), (.int .i64), (.int .i64), (.int .i64), .bool]), (.int .i64), (.int .i64)]) (.var 0), .sc (.int .i64) (.int 1048576)] [.sc (.int .i64)]
(.br (.o2 .lt (.var 2) (.int 0))
 (.ret [(.bool true)])
 (.call [] (.fn 14) [.sc (.sl [(.int .i64), (.int .i64), (.int .i64), (.int .i64), (.int .i64), (.int .i64), (.int .i64), (.int .i64), (.int .i64), (.int .i64), (.int .i64), (.int .i64), (.int .i64), (.int .i64), (.int .i64), (.int .i64), (.int .i64), (.int .i64), .bool, (.sl [(.int .i64), (.int .i64), (.int .i64), (.int .i64), (.int .i64), (.int .i64), .bool]), (.int .i64), (.int .i64)]) (.var 1), .sc (.int .i64) (.var 2)] [.sc (.int .i64)]
 (.br (.o2 .lt (.var 3) (.int 0))
  (.ret [(.bool true)])
  (.call [] (.fn 16) [.sc (.sl [(.int .i64), (.int .i64), (.int .i64), (.int .i64), (.int .i64), (.int .i64), (.int .i64), (.int .i64), (.int .i64), (.int .i64), (.int .i64), (.int .i64), (.int .i64), (.int .i64), (.int .i64), (.int .i64), (.int .i64), (.int .i64), .bool, (.sl [(.int .i64), (.int .i64), (.int .i64), (.int .i64), (.int .i64), (.int .i64), .bool]), (.int .i64), (.int .i64)]) (.var 0)] [.sc (.sl [(.int .i64), (.int .i64), (.int .i64), (.int .i64), (.int .i64), (.int .i64), (.int .i64), (.int .i64), (.int .i64), (.int .i64), (.int .i64), (.int .i64), (.int .i64), (.int .i64), (.int .i64), (.int .i64), (.int .i64), (.int .i64), .bool, (.sl [(.int .i64), (.int .i64), (.int .i64), (.int .i64), (.int .i64), (.int .i64), .bool]), (.int .i64), (.int .i64)])]
  (.call [] (.fn 16) [.sc (.sl [(.int .i64), (.int .i64), (.int .i64), (.int .i64), (.int .i64), (.int .i64), (.int .i64), (.int .i64), (.int .i64), (.int .i64), (.int .i64), (.int .i64), (.int .i64), (.int .i64), (.int .i64), (.int .i64), (.int .i64), (.int .i64), .bool, (.sl [(.int .i64), (.int .i64), (.int .i64), (.int .i64), (.int .i64), (.int .i64), .bool]), (.int .i64), (.int .i64)]) (.var 1)] [.sc (.sl [(.int .i64), (.int .i64), (.int .i64), (.int .i64), (.int .i64), (.int .i64), (.int .i64), (.int .i64), (.int .i64), (.int .i64), (.int .i64), (.int .i64), (.int .i64), (.int .i64), (.int .i64), (.int .i64), (.int .i64), (.int .i64), .bool, (.sl [(.int .i64), (.int .i64), (.int .i64), (.int .i64), (.int .i64), (.int .i64), .bool]), (.int .i64), (.int .i64)])]
  (.call [] (.fn 19) [.sc (.sl [(.int .i64), (.int .i64), (.int .i64), (.int .i64), (.int .i64), (.int .i64), (.int .i64), (.int .i64), (.int .i64), (.int .i64), (.int .i64), (.int .i64), (.int .i64), (.int .i64), (.int .i64), (.int .i64), (.int .i64), (.int .i64), .bool, (.sl [(.int .i64), (.int .i64), (.int .i64), (.int .i64), (.int .i64), (.int .i64), .bool]), (.int .i64), (.int .i64)]) (.var 4), .sc (.sl [(.int .i64), (.int .i64), (.int .i64), (.int .i64), (.int .i64), (.int .i64), (.int .i64), (.int .i64), (.int .i64), (.int .i64), (.int .i64), (.int .i64), (.int .i64), (.int .i64), (.int .i64), (.int .i64), (.int .i64), (.int .i64), .bool, (.sl [(.int .i64), (.int .i64), (.int .i64), (.int .i64), (.int .i64), (.int .i64), .bool]), (.int .i64), (.int .i64)]) (.var 5)] [.sc .bool]
  (.call [] (.fn 16) [.sc (.sl [(.int .i64), (.int .i64), (.int .i64), (.int .i64), (.int .i64), (.int .i64), (.int .i64), (.int .i64), (.int .i64), (.int .i64), (.int .i64), (.int .i64), (.int .i64), (.int .i64), (.int .i64), (.int .i64), (.int .i64), (.int .i64), .bool, (.sl [(.int .i64), (.int .i64), (.int .i64), (.int .i64), (.int .i64), (.int .i64), .bool]), (.int .i64), (.int .i64)]) (.var 0)] [.sc (.sl [(.int .i64), (.int .i64), (.int .i64), (.int .i64), (.int .i64), (.int .i64), (.int .i64), (.int .i64), (.int .i64), (.int .i64), (.int .i64), (.int .i64), (.int .i64), (.int .i64), (.int .i64), (.int .i64), (.int .i64), (.int .i64), .bool, (.sl [(.int .i64), (.int .i64), (.int .i64), (.int .i64), (.int .i64), (.int .i64), .bool]), (.int .i64), (.int .i64)])]
  (.call [] (.fn 16) [.sc (.sl [(.int .i64), (.int .i64), (.int .i64), (.int .i64), (.int .i64), (.int .i64), (.int .i64), (.int .i64), (.int .i64), (.int .i64), (.int .i64), (.int .i64), (.int .i64), (.int .i64), (.int .i64), (.int .i64), (.int .i64), (.int .i64), .bool, (.sl [(.int .i64), (.int .i64), (.int .i64), (.int .i64), (.int .i64), (.int .i64), .bool]), (.int .i64), (.int .i64)]) (.var 1)] [.sc (.sl [(.int .i64), (.int .i64), (.int .i64), (.int .i64), (.int .i64), (.int .i64), (.int .i64), (.int .i64), (.int .i64), (.int .i64), (.int .i64), (.int .i64), (.int .i64), (.int .i64), (.int .i64), (.int .i64), (.int .i64), (.int .i64), .bool, (.sl [(.int .i64), (.int .i64), (.int .i64), (.int .i64), (.int .i64), (.int .i64), .bool]), (.int .i64), (.int .i64)])]
  (.call [] (.fn 20) [.sc (.sl [(.int .i64), (.int .i64), (.int .i64), (.int .i64), (.int .i64), (.int .i64), (.int .i64), (.int .i64), (.int .i64), (.int .i64), (.int .i64), (.int .i64), (.int .i64), (.int .i64), (.int .i64), (.int .i64), (.int .i64), (.int .i64), .bool, (.sl [(.int .i64), (.int .i64), (.int .i64), (.int .i64), (.int .i64), (.int .i64), .bool]), (.int .i64), (.int .i64)]) (.var 7), .sc (.sl [(.int .i64), (.int .i64), (.int .i64), (.int .i64), (.int .i64), (.int .i64), (.int .i64), (.int .i64), (.int .i64), (.int .i64), (.int .i64), (.int .i64), (.int .i64), (.int .i64), (.int .i64), (.int .i64), (.int .i64), (.int .i64), .bool, (.sl [(.int .i64), (.int .i64), (.int .i64), (.int .i64), (.int .i64), (.int .i64), .bool]), (.int .i64), (.int .i64)]) (.var 8)] [.sc .bool]
  (.br (.o2 .bne (.var 9) (.var 6))
   (.ret [(.bool false)])
   (.call [] (.fn 16) [.sc (.sl [(.int .i64), (.int .i64), (.int .i64), (.int .i64), (.int .i64), (.int .i64), (.int .i64), (.int .i64), (.int .i64), (.int .i64), (.int .i64), (.int .i64), (.int .i64), (.int .i64), (.int .i64), (.int .i64), (.int .i64), (.int .i64), .bool, (.sl [(.int .i64), (.int .i64), (.int .i64), (.int .i64), (.int .i64), (.int .i64), .bool]), (.int .i64), (.int .i64)]) (.var 0)] [.sc (.sl [(.int .i64), (.int .i64), (.int .i64), (.int .i64), (.int .i64), (.int .i64), (.int .i64), (.int .i64), (.int .i64), (.int .i64), (.int .i64), (.int .i64), (.int .i64), (.int .i64), (.int .i64), (.int .i64), (.int .i64), (.int .i64), .bool, (.sl [(.int .i64), (.int .i64), (.int .i64), (.int .i64), (.int .i64), (.int .i64), .bool]), (.int .i64), (.int .i64)])]
   (.call [] (.fn 18) [.sc (.sl [(.int .i64), (.int .i64), (.int .i64), (.int .i64), (.int .i64), (.int .i64), (.int .i64), (.int .i64), (.int .i64), (.int .i64), (.int .i64), (.int .i64), (.int .i64), (.int .i64), (.int .i64), (.int .i64), (.int .i64), (.int .i64), .bool, (.sl [(.int .i64), (.int .i64), (.int .i64), (.int .i64), (.int .i64), (.int .i64), .bool]), (.int .i64), (.int .i64)]) (.var 7), .sc (.sl [(.int .i64), (.int .i64), (.int .i64), (.int .i64), (.int .i64), (.int .i64), (.int .i64), (.int .i64), (.int .i64), (.int .i64), (.int .i64), (.int .i64), (.int .i64), (.int .i64), (.int .i64), (.int .i64), (.int .i64), (.int .i64), .bool, (.sl [(.int .i64), (.int .i64), (.int .i64), (.int .i64), (.int .i64), (.int .i64), .bool]), (.int .i64), (.int .i64)]) (.var 10)] [.sc .bool]
   (.br (.o1 .not (.var 11))
    (.ret [(.bool false)])
    (.call [] (.fn 16) [.sc (.sl [(.int .i64), (.int .i64), (.int .i64), (.int .i64), (.int .i64), (.int .i64), (.int .i64), (.int .i64), (.int .i64), (.int .i64), (.int .i64), (.int .i64), (.int .i64), (.int .i64), (.int .i64), (.int .i64), (.int .i64), (.int .i64), .bool, (.sl [(.int .i64), (.int .i64), (.int .i64), (.int .i64), (.int .i64), (.int .i64), .bool]), (.int .i64), (.int .i64)]) (.var 1)] [.sc (.sl [(.int .i64), (.int .i64), (.int .i64), (.int .i64), (.int .i64), (.int .i64), (.int .i64), (.int .i64), (.int .i64), (.int .i64), (.int .i64), (.int .i64), (.int .i64), (.int .i64), (.int .i64), (.int .i64), (.int .i64), (.int .i64), .bool, (.sl [(.int .i64), (.int .i64), (.int .i64), (.int .i64), (.int .i64), (.int .i64), .bool]), (.int .i64), (.int .i64)])]
    (.call [] (.fn 18) [.sc (.sl [(.int .i64), (.int .i64), (.int .i64), (.int .i64), (.int .i64), (.int .i64), (.int .i64), (.int .i64), (.int .i64), (.int .i64), (.int .i64), (.int .i64), (.int .i64), (.int .i64), (.int .i64), (.int .i64), (.int .i64), (.int .i64), .bool, (.sl [(.int .i64), (.int .i64), (.int .i64), (.int .i64), (.int .i64), (.int .i64), .bool]), (.int .i64), (.int .i64)]) (.var 8), .sc (.sl [(.int .i64), (.int .i64), (.int .i64), (.int .i64), (.int .i64), (.int .i64), (.int .i64), (.int .i64), (.int .i64), (.int .i64), (.int .i64), (.int .i64), (.int .i64), (.int .i64), (.int .i64), (.int .i64), (.int .i64), (.int .i64), .bool, (.sl [(.int .i64), (.int .i64), (.int .i64), (.int .i64), (.int .i64), (.int .i64), .bool]), (.int .i64), (.int .i64)]) (.var 12)] [.sc .bool]
    (.br (.o1 .not (.var 13))
     (.ret [(.bool false)])
     (.ret [(.bool true)]))))))))))))))))))
theorem sig_4 : sigOf Try.prog md 4 [] = some ([.sc (.sl [(.int .i64), (.int .i64), (.int .i64), (.int .i64), (.int .i64), (.int .i64), (.int .i64), (.int .i64), (.int .i64), (.int .i64), (.int .i64), (.int .i64), (.int .i64), (.int .i64), (.int .i64), (.int .i64), (.int .i64), (.int .i64), .bool, (.sl [(.int .i64), (.int .i64), (.int .i64), (.int .i64), (.int .i64), (.int .i64), .bool]), (.int .i64), (.int .i64)]), .sc (.sl [(.int .i64), (.int .i64), (.int .i64), (.int .i64), (.int .i64), (.int .i64), (.int .i64), (.int .i64), (.int .i64), (.int .i64), (.int .i64), (.int .i64), (.int .i64), (.int .i64), (.int .i64), (.int .i64), (.int .i64), (.int .i64), .bool, (.sl [(.int .i64), (.int .i64), (.int .i64), (.int .i64), (.int .i64), (.int .i64), .bool]), (.int .i64), (.int .i64)])], [.sc .bool], tree_4) := by kernel_rfl
theorem mix : Try.prog.follows .mixedOrders = true := by kernel_rfl
end Go.Proofs.Ytfbahdalemajcaa
