/- The trees of the functions that this claim reaches. -/
import Derived.Test.YtfbahdalemajcaaRows
import Derived.Test.YtfbahdalemajcaaE6
import Derived.KernelRfl
namespace Go.Proofs.Ytfbahdalemajcaa
open Go.Proofs.Ytfbahdalemajcaa.Eng
def md : Modes := ⟨[(71, 0), (44, 0), (34, 0), (26, 0)], [(116, 0), (99, 0), (91, 0), (86, 0)], []⟩
/- laws.szEventS -/
def tree_118 : T :=
(.know (.var 0)
(.br (.o2 .lt (.o2 (.sub .i64) (.var 1) (.o1 .len (.var 0))) (.int 0))
 (.ret [(.int (-1))])
 (.ret [(.o2 (.sub .i64) (.var 1) (.o1 .len (.var 0)))])))
theorem sig_118 : sigOf Try.prog md 118 [] = some ([.sc (.sl [(.int .i64), (.int .i64), (.int .i64), (.int .i64), (.int .i64), (.int .i64), .bool]), .sc (.int .i64)], [.sc (.int .i64)], tree_118) := by kernel_rfl
/- laws.szAct -/
def tree_58 : T :=
(.call [] (.fn 118) [.sc (.sl [(.int .i64), (.int .i64), (.int .i64), (.int .i64), (.int .i64), (.int .i64), .bool]) (.o1 (.fld 6) (.var 0)), .sc (.int .i64) (.var 1)] [.sc (.int .i64)]
(.br (.o2 .lt (.var 2) (.int 0))
 (.ret [(.int (-1))])
 (.ret [(.var 2)])))
theorem sig_58 : sigOf Try.prog md 58 [] = some ([.st [(.int .i64), (.int .i64), (.int .i64), (.int .i64), (.int .i64), .bool, (.sl [(.int .i64), (.int .i64), (.int .i64), (.int .i64), (.int .i64), (.int .i64), .bool])], .sc (.int .i64)], [.sc (.int .i64)], tree_58) := by kernel_rfl
/- laws.szEffect -/
def tree_21 : T :=
(.call [] (.fn 58) [.st [(.int .i64), (.int .i64), (.int .i64), (.int .i64), (.int .i64), .bool, (.sl [(.int .i64), (.int .i64), (.int .i64), (.int .i64), (.int .i64), (.int .i64), .bool])] (.o2 .cons (.o1 (.fld 13) (.var 0)) (.o2 .cons (.o1 (.fld 14) (.var 0)) (.o2 .cons (.o1 (.fld 15) (.var 0)) (.o2 .cons (.o1 (.fld 16) (.var 0)) (.o2 .cons (.o1 (.fld 17) (.var 0)) (.o2 .cons (.o1 (.fld 18) (.var 0)) (.o2 .cons (.o1 (.fld 19) (.var 0)) .nil))))))), .sc (.int .i64) (.var 1)] [.sc (.int .i64)]
(.br (.o2 .lt (.var 2) (.int 0))
 (.ret [(.int (-1))])
 (.ret [(.var 2)])))
theorem sig_21 : sigOf Try.prog md 21 [] = some ([.st [(.int .i64), (.int .i64), (.int .i64), (.int .i64), (.int .i64), (.int .i64), (.int .i64), (.int .i64), (.int .i64), (.int .i64), (.int .i64), (.int .i64), (.int .i64), (.int .i64), (.int .i64), (.int .i64), (.int .i64), (.int .i64), .bool, (.sl [(.int .i64), (.int .i64), (.int .i64), (.int .i64), (.int .i64), (.int .i64), .bool]), (.int .i64), (.int .i64)], .sc (.int .i64)], [.sc (.int .i64)], tree_21) := by kernel_rfl
/- laws.szEffectS -/
def tree_14 : T :=
(.know (.var 0)
(.br (.o2 .lt (.o2 (.sub .i64) (.var 1) (.o1 .len (.var 0))) (.int 0))
 (.ret [(.int (-1))])
 (.loop 0 [(.o2 (.sub .i64) (.var 1) (.o1 .len (.var 0))), (.int 0)]
  (.know (.var 0)
  (.br (.o2 .lt (.var 3) (.o1 .len (.var 0)))
   (.need [] (.o2 .le (.int 0) (.var 3))
   (.need [] (.o2 .lt (.var 3) (.o1 .len (.var 0)))
   (.call [] (.fn 21) [.st [(.int .i64), (.int .i64), (.int .i64), (.int .i64), (.int .i64), (.int .i64), (.int .i64), (.int .i64), (.int .i64), (.int .i64), (.int .i64), (.int .i64), (.int .i64), (.int .i64), (.int .i64), (.int .i64), (.int .i64), (.int .i64), .bool, (.sl [(.int .i64), (.int .i64), (.int .i64), (.int .i64), (.int .i64), (.int .i64), .bool]), (.int .i64), (.int .i64)] (.o2 .cons (.o1 (.fld 0) (.o2 .idx (.var 0) (.var 3))) (.o2 .cons (.o1 (.fld 1) (.o2 .idx (.var 0) (.var 3))) (.o2 .cons (.o1 (.fld 2) (.o2 .idx (.var 0) (.var 3))) (.o2 .cons (.o1 (.fld 3) (.o2 .idx (.var 0) (.var 3))) (.o2 .cons (.o1 (.fld 4) (.o2 .idx (.var 0) (.var 3))) (.o2 .cons (.o1 (.fld 5) (.o2 .idx (.var 0) (.var 3))) (.o2 .cons (.o1 (.fld 6) (.o2 .idx (.var 0) (.var 3))) (.o2 .cons (.o1 (.fld 7) (.o2 .idx (.var 0) (.var 3))) (.o2 .cons (.o1 (.fld 8) (.o2 .idx (.var 0) (.var 3))) (.o2 .cons (.o1 (.fld 9) (.o2 .idx (.var 0) (.var 3))) (.o2 .cons (.o1 (.fld 10) (.o2 .idx (.var 0) (.var 3))) (.o2 .cons (.o1 (.fld 11) (.o2 .idx (.var 0) (.var 3))) (.o2 .cons (.o1 (.fld 12) (.o2 .idx (.var 0) (.var 3))) (.o2 .cons (.o1 (.fld 13) (.o2 .idx (.var 0) (.var 3))) (.o2 .cons (.o1 (.fld 14) (.o2 .idx (.var 0) (.var 3))) (.o2 .cons (.o1 (.fld 15) (.o2 .idx (.var 0) (.var 3))) (.o2 .cons (.o1 (.fld 16) (.o2 .idx (.var 0) (.var 3))) (.o2 .cons (.o1 (.fld 17) (.o2 .idx (.var 0) (.var 3))) (.o2 .cons (.o1 (.fld 18) (.o2 .idx (.var 0) (.var 3))) (.o2 .cons (.o1 (.fld 19) (.o2 .idx (.var 0) (.var 3))) (.o2 .cons (.o1 (.fld 20) (.o2 .idx (.var 0) (.var 3))) (.o2 .cons (.o1 (.fld 21) (.o2 .idx (.var 0) (.var 3))) .nil)))))))))))))))))))))), .sc (.int .i64) (.var 2)] [.sc (.int .i64)]
   (.br (.o2 .lt (.var 4) (.int 0))
    (.ret [(.int (-1))])
    (.cont 0 [(.var 4), (.o2 (.add .i64) (.var 3) (.int 1))])))))
   (.ret [(.var 2)]))))))
theorem sig_14 : sigOf Try.prog md 14 [] = some ([.sc (.sl [(.int .i64), (.int .i64), (.int .i64), (.int .i64), (.int .i64), (.int .i64), (.int .i64), (.int .i64), (.int .i64), (.int .i64), (.int .i64), (.int .i64), (.int .i64), (.int .i64), (.int .i64), (.int .i64), (.int .i64), (.int .i64), .bool, (.sl [(.int .i64), (.int .i64), (.int .i64), (.int .i64), (.int .i64), (.int .i64), .bool]), (.int .i64), (.int .i64)]), .sc (.int .i64)], [.sc (.int .i64)], tree_14) := by kernel_rfl
/- laws.toPat -/
def tree_62 : T :=
(.ret [(.o2 .cons (.o1 (.fld 0) (.var 0)) (.o2 .cons (.o1 (.fld 1) (.var 0)) (.o2 .cons (.o1 (.fld 2) (.var 0)) (.o2 .cons (.o1 (.fld 3) (.var 0)) (.o2 .cons (.o1 (.fld 4) (.var 0)) (.o2 .cons (.o1 (.fld 5) (.var 0)) (.o2 .cons (.o1 (.fld 6) (.var 0)) .nil)))))))])
theorem sig_62 : sigOf Try.prog md 62 [] = some ([.st [(.int .i64), (.int .i64), (.int .i64), (.int .i64), (.int .i64), (.int .i64), (.int .i64)]], [.st [(.int .i64), (.int .i64), (.int .i64), (.int .i64), (.int .i64), (.int .i64), (.int .i64)]], tree_62) := by kernel_rfl
/- laws.toGuard -/
def tree_63 : T :=
(.ret [(.o2 .cons (.o1 (.fld 0) (.var 0)) (.o2 .cons (.o1 (.fld 1) (.var 0)) .nil))])
theorem sig_63 : sigOf Try.prog md 63 [] = some ([.st [(.int .i64), (.int .i64)]], [.st [(.int .i64), (.int .i64)]], tree_63) := by kernel_rfl
/- laws.toEvent -/
def tree_41 : T :=
(.ret [(.o2 .cons (.o1 (.fld 0) (.var 0)) (.o2 .cons (.o1 (.fld 1) (.var 0)) (.o2 .cons (.o1 (.fld 2) (.var 0)) (.o2 .cons (.o1 (.fld 3) (.var 0)) (.o2 .cons (.o1 (.fld 4) (.var 0)) (.o2 .cons (.o1 (.fld 5) (.var 0)) (.o2 .cons (.o1 (.fld 6) (.var 0)) .nil)))))))])
theorem sig_41 : sigOf Try.prog md 41 [] = some ([.st [(.int .i64), (.int .i64), (.int .i64), (.int .i64), (.int .i64), (.int .i64), .bool]], [.st [(.int .i64), (.int .i64), (.int .i64), (.int .i64), (.int .i64), (.int .i64), .bool]], tree_41) := by kernel_rfl
/- laws.toEventS -/
def tree_121 : T :=
(.know (.var 0)
(.need [] (.o2 .le (.int 0) (.o1 .len (.var 0)))
(.need [] (.o2 (.fits 56) (.o1 .len (.var 0)) (.int 0))
(.loop 0 [(.int 0), (.o2 .rep (.o1 .len (.var 0)) (.o2 .cons (.int 0) (.o2 .cons (.int 0) (.o2 .cons (.int 0) (.o2 .cons (.int 0) (.o2 .cons (.int 0) (.o2 .cons (.int 0) (.o2 .cons (.bool false) .nil))))))))]
 (.know (.var 0)
 (.br (.o2 .lt (.var 1) (.o1 .len (.var 0)))
  (.need [] (.o2 .le (.int 0) (.var 1))
  (.need [] (.o2 .lt (.var 1) (.o1 .len (.var 0)))
  (.call [] (.fn 41) [.st [(.int .i64), (.int .i64), (.int .i64), (.int .i64), (.int .i64), (.int .i64), .bool] (.o2 .cons (.o1 (.fld 0) (.o2 .idx (.var 0) (.var 1))) (.o2 .cons (.o1 (.fld 1) (.o2 .idx (.var 0) (.var 1))) (.o2 .cons (.o1 (.fld 2) (.o2 .idx (.var 0) (.var 1))) (.o2 .cons (.o1 (.fld 3) (.o2 .idx (.var 0) (.var 1))) (.o2 .cons (.o1 (.fld 4) (.o2 .idx (.var 0) (.var 1))) (.o2 .cons (.o1 (.fld 5) (.o2 .idx (.var 0) (.var 1))) (.o2 .cons (.o1 (.fld 6) (.o2 .idx (.var 0) (.var 1))) .nil)))))))] [.st [(.int .i64), (.int .i64), (.int .i64), (.int .i64), (.int .i64), (.int .i64), .bool]]
  (.need [] (.o2 .le (.int 0) (.var 1))
  (.need [] (.o2 .lt (.var 1) (.o1 .len (.var 2)))
  (.cont 0 [(.o2 (.add .i64) (.var 1) (.int 1)), (.o3 .setE (.var 2) (.var 1) (.o2 .cons (.o1 (.fld 0) (.var 3)) (.o2 .cons (.o1 (.fld 1) (.var 3)) (.o2 .cons (.o1 (.fld 2) (.var 3)) (.o2 .cons (.o1 (.fld 3) (.var 3)) (.o2 .cons (.o1 (.fld 4) (.var 3)) (.o2 .cons (.o1 (.fld 5) (.var 3)) (.o2 .cons (.o1 (.fld 6) (.var 3)) .nil))))))))]))))))
  (.ret [(.var 2)])))))))
theorem sig_121 : sigOf Try.prog md 121 [] = some ([.sc (.sl [(.int .i64), (.int .i64), (.int .i64), (.int .i64), (.int .i64), (.int .i64), .bool])], [.sc (.sl [(.int .i64), (.int .i64), (.int .i64), (.int .i64), (.int .i64), (.int .i64), .bool])], tree_121) := by kernel_rfl
/- laws.toAct -/
def tree_64 : T :=
(.call [] (.fn 121) [.sc (.sl [(.int .i64), (.int .i64), (.int .i64), (.int .i64), (.int .i64), (.int .i64), .bool]) (.o1 (.fld 6) (.var 0))] [.sc (.sl [(.int .i64), (.int .i64), (.int .i64), (.int .i64), (.int .i64), (.int .i64), .bool])]
(.ret [(.o2 .cons (.o1 (.fld 0) (.var 0)) (.o2 .cons (.o1 (.fld 1) (.var 0)) (.o2 .cons (.o1 (.fld 2) (.var 0)) (.o2 .cons (.o1 (.fld 3) (.var 0)) (.o2 .cons (.o1 (.fld 4) (.var 0)) (.o2 .cons (.o1 (.fld 5) (.var 0)) (.o2 .cons (.var 1) .nil)))))))]))
theorem sig_64 : sigOf Try.prog md 64 [] = some ([.st [(.int .i64), (.int .i64), (.int .i64), (.int .i64), (.int .i64), .bool, (.sl [(.int .i64), (.int .i64), (.int .i64), (.int .i64), (.int .i64), (.int .i64), .bool])]], [.st [(.int .i64), (.int .i64), (.int .i64), (.int .i64), (.int .i64), .bool, (.sl [(.int .i64), (.int .i64), (.int .i64), (.int .i64), (.int .i64), (.int .i64), .bool])]], tree_64) := by kernel_rfl
/- laws.toEffect -/
def tree_23 : T :=
(.call [] (.fn 62) [.st [(.int .i64), (.int .i64), (.int .i64), (.int .i64), (.int .i64), (.int .i64), (.int .i64)] (.o2 .cons (.o1 (.fld 4) (.var 0)) (.o2 .cons (.o1 (.fld 5) (.var 0)) (.o2 .cons (.o1 (.fld 6) (.var 0)) (.o2 .cons (.o1 (.fld 7) (.var 0)) (.o2 .cons (.o1 (.fld 8) (.var 0)) (.o2 .cons (.o1 (.fld 9) (.var 0)) (.o2 .cons (.o1 (.fld 10) (.var 0)) .nil)))))))] [.st [(.int .i64), (.int .i64), (.int .i64), (.int .i64), (.int .i64), (.int .i64), (.int .i64)]]
(.call [] (.fn 63) [.st [(.int .i64), (.int .i64)] (.o2 .cons (.o1 (.fld 11) (.var 0)) (.o2 .cons (.o1 (.fld 12) (.var 0)) .nil))] [.st [(.int .i64), (.int .i64)]]
(.call [] (.fn 64) [.st [(.int .i64), (.int .i64), (.int .i64), (.int .i64), (.int .i64), .bool, (.sl [(.int .i64), (.int .i64), (.int .i64), (.int .i64), (.int .i64), (.int .i64), .bool])] (.o2 .cons (.o1 (.fld 13) (.var 0)) (.o2 .cons (.o1 (.fld 14) (.var 0)) (.o2 .cons (.o1 (.fld 15) (.var 0)) (.o2 .cons (.o1 (.fld 16) (.var 0)) (.o2 .cons (.o1 (.fld 17) (.var 0)) (.o2 .cons (.o1 (.fld 18) (.var 0)) (.o2 .cons (.o1 (.fld 19) (.var 0)) .nil)))))))] [.st [(.int .i64), (.int .i64), (.int .i64), (.int .i64), (.int .i64), .bool, (.sl [(.int .i64), (.int .i64), (.int .i64), (.int .i64), (.int .i64), (.int .i64), .bool])]]
(.ret [(.o2 .cons (.o1 (.fld 0) (.var 0)) (.o2 .cons (.o1 (.fld 1) (.var 0)) (.o2 .cons (.o1 (.fld 2) (.var 0)) (.o2 .cons (.o1 (.fld 3) (.var 0)) (.o2 .cons (.o1 (.fld 0) (.var 1)) (.o2 .cons (.o1 (.fld 1) (.var 1)) (.o2 .cons (.o1 (.fld 2) (.var 1)) (.o2 .cons (.o1 (.fld 3) (.var 1)) (.o2 .cons (.o1 (.fld 4) (.var 1)) (.o2 .cons (.o1 (.fld 5) (.var 1)) (.o2 .cons (.o1 (.fld 6) (.var 1)) (.o2 .cons (.o1 (.fld 0) (.var 2)) (.o2 .cons (.o1 (.fld 1) (.var 2)) (.o2 .cons (.o1 (.fld 0) (.var 3)) (.o2 .cons (.o1 (.fld 1) (.var 3)) (.o2 .cons (.o1 (.fld 2) (.var 3)) (.o2 .cons (.o1 (.fld 3) (.var 3)) (.o2 .cons (.o1 (.fld 4) (.var 3)) (.o2 .cons (.o1 (.fld 5) (.var 3)) (.o2 .cons (.o1 (.fld 6) (.var 3)) (.o2 .cons (.o1 (.fld 20) (.var 0)) (.o2 .cons (.o1 (.fld 21) (.var 0)) .nil))))))))))))))))))))))]))))
theorem sig_23 : sigOf Try.prog md 23 [] = some ([.st [(.int .i64), (.int .i64), (.int .i64), (.int .i64), (.int .i64), (.int .i64), (.int .i64), (.int .i64), (.int .i64), (.int .i64), (.int .i64), (.int .i64), (.int .i64), (.int .i64), (.int .i64), (.int .i64), (.int .i64), (.int .i64), .bool, (.sl [(.int .i64), (.int .i64), (.int .i64), (.int .i64), (.int .i64), (.int .i64), .bool]), (.int .i64), (.int .i64)]], [.st [(.int .i64), (.int .i64), (.int .i64), (.int .i64), (.int .i64), (.int .i64), (.int .i64), (.int .i64), (.int .i64), (.int .i64), (.int .i64), (.int .i64), (.int .i64), (.int .i64), (.int .i64), (.int .i64), (.int .i64), (.int .i64), .bool, (.sl [(.int .i64), (.int .i64), (.int .i64), (.int .i64), (.int .i64), (.int .i64), .bool]), (.int .i64), (.int .i64)]], tree_23) := by kernel_rfl
/- laws.toEffectS -/
def tree_16 : T :=
(.know (.var 0)
(.need [] (.o2 .le (.int 0) (.o1 .len (.var 0)))
(.need [] (.o2 (.fits 192) (.o1 .len (.var 0)) (.int 0))
(.loop 0 [(.int 0), (.o2 .rep (.o1 .len (.var 0)) (.o2 .cons (.int 0) (.o2 .cons (.int 0) (.o2 .cons (.int 0) (.o2 .cons (.int 0) (.o2 .cons (.int 0) (.o2 .cons (.int 0) (.o2 .cons (.int 0) (.o2 .cons (.int 0) (.o2 .cons (.int 0) (.o2 .cons (.int 0) (.o2 .cons (.int 0) (.o2 .cons (.int 0) (.o2 .cons (.int 0) (.o2 .cons (.int 0) (.o2 .cons (.int 0) (.o2 .cons (.int 0) (.o2 .cons (.int 0) (.o2 .cons (.int 0) (.o2 .cons (.bool false) (.o2 .cons .nil (.o2 .cons (.int 0) (.o2 .cons (.int 0) .nil)))))))))))))))))))))))]
 (.know (.var 0)
 (.br (.o2 .lt (.var 1) (.o1 .len (.var 0)))
  (.need [] (.o2 .le (.int 0) (.var 1))
  (.need [] (.o2 .lt (.var 1) (.o1 .len (.var 0)))
  (.call [] (.fn 23) [.st [(.int .i64), (.int .i64), (.int .i64), (.int .i64), (.int .i64), (.int .i64), (.int .i64), (.int .i64), (.int .i64), (.int .i64), (.int .i64), (.int .i64), (.int .i64), (.int .i64), (.int .i64), (.int .i64), (.int .i64), (.int .i64), .bool, (.sl [(.int .i64), (.int .i64), (.int .i64), (.int .i64), (.int .i64), (.int .i64), .bool]), (.int .i64), (.int .i64)] (.o2 .cons (.o1 (.fld 0) (.o2 .idx (.var 0) (.var 1))) (.o2 .cons (.o1 (.fld 1) (.o2 .idx (.var 0) (.var 1))) (.o2 .cons (.o1 (.fld 2) (.o2 .idx (.var 0) (.var 1))) (.o2 .cons (.o1 (.fld 3) (.o2 .idx (.var 0) (.var 1))) (.o2 .cons (.o1 (.fld 4) (.o2 .idx (.var 0) (.var 1))) (.o2 .cons (.o1 (.fld 5) (.o2 .idx (.var 0) (.var 1))) (.o2 .cons (.o1 (.fld 6) (.o2 .idx (.var 0) (.var 1))) (.o2 .cons (.o1 (.fld 7) (.o2 .idx (.var 0) (.var 1))) (.o2 .cons (.o1 (.fld 8) (.o2 .idx (.var 0) (.var 1))) (.o2 .cons (.o1 (.fld 9) (.o2 .idx (.var 0) (.var 1))) (.o2 .cons (.o1 (.fld 10) (.o2 .idx (.var 0) (.var 1))) (.o2 .cons (.o1 (.fld 11) (.o2 .idx (.var 0) (.var 1))) (.o2 .cons (.o1 (.fld 12) (.o2 .idx (.var 0) (.var 1))) (.o2 .cons (.o1 (.fld 13) (.o2 .idx (.var 0) (.var 1))) (.o2 .cons (.o1 (.fld 14) (.o2 .idx (.var 0) (.var 1))) (.o2 .cons (.o1 (.fld 15) (.o2 .idx (.var 0) (.var 1))) (.o2 .cons (.o1 (.fld 16) (.o2 .idx (.var 0) (.var 1))) (.o2 .cons (.o1 (.fld 17) (.o2 .idx (.var 0) (.var 1))) (.o2 .cons (.o1 (.fld 18) (.o2 .idx (.var 0) (.var 1))) (.o2 .cons (.o1 (.fld 19) (.o2 .idx (.var 0) (.var 1))) (.o2 .cons (.o1 (.fld 20) (.o2 .idx (.var 0) (.var 1))) (.o2 .cons (.o1 (.fld 21) (.o2 .idx (.var 0) (.var 1))) .nil))))))))))))))))))))))] [.st [(.int .i64), (.int .i64), (.int .i64), (.int .i64), (.int .i64), (.int .i64), (.int .i64), (.int .i64), (.int .i64), (.int .i64), (.int .i64), (.int .i64), (.int .i64), (.int .i64), (.int .i64), (.int .i64), (.int .i64), (.int .i64), .bool, (.sl [(.int .i64), (.int .i64), (.int .i64), (.int .i64), (.int .i64), (.int .i64), .bool]), (.int .i64), (.int .i64)]]
  (.need [] (.o2 .le (.int 0) (.var 1))
  (.need [] (.o2 .lt (.var 1) (.o1 .len (.var 2)))
  (.cont 0 [(.o2 (.add .i64) (.var 1) (.int 1)), (.o3 .setE (.var 2) (.var 1) (.o2 .cons (.o1 (.fld 0) (.var 3)) (.o2 .cons (.o1 (.fld 1) (.var 3)) (.o2 .cons (.o1 (.fld 2) (.var 3)) (.o2 .cons (.o1 (.fld 3) (.var 3)) (.o2 .cons (.o1 (.fld 4) (.var 3)) (.o2 .cons (.o1 (.fld 5) (.var 3)) (.o2 .cons (.o1 (.fld 6) (.var 3)) (.o2 .cons (.o1 (.fld 7) (.var 3)) (.o2 .cons (.o1 (.fld 8) (.var 3)) (.o2 .cons (.o1 (.fld 9) (.var 3)) (.o2 .cons (.o1 (.fld 10) (.var 3)) (.o2 .cons (.o1 (.fld 11) (.var 3)) (.o2 .cons (.o1 (.fld 12) (.var 3)) (.o2 .cons (.o1 (.fld 13) (.var 3)) (.o2 .cons (.o1 (.fld 14) (.var 3)) (.o2 .cons (.o1 (.fld 15) (.var 3)) (.o2 .cons (.o1 (.fld 16) (.var 3)) (.o2 .cons (.o1 (.fld 17) (.var 3)) (.o2 .cons (.o1 (.fld 18) (.var 3)) (.o2 .cons (.o1 (.fld 19) (.var 3)) (.o2 .cons (.o1 (.fld 20) (.var 3)) (.o2 .cons (.o1 (.fld 21) (.var 3)) .nil)))))))))))))))))))))))]))))))
  (.ret [(.var 2)])))))))
theorem sig_16 : sigOf Try.prog md 16 [] = some ([.sc (.sl [(.int .i64), (.int .i64), (.int .i64), (.int .i64), (.int .i64), (.int .i64), (.int .i64), (.int .i64), (.int .i64), (.int .i64), (.int .i64), (.int .i64), (.int .i64), (.int .i64), (.int .i64), (.int .i64), (.int .i64), (.int .i64), .bool, (.sl [(.int .i64), (.int .i64), (.int .i64), (.int .i64), (.int .i64), (.int .i64), .bool]), (.int .i64), (.int .i64)])], [.sc (.sl [(.int .i64), (.int .i64), (.int .i64), (.int .i64), (.int .i64), (.int .i64), (.int .i64), (.int .i64), (.int .i64), (.int .i64), (.int .i64), (.int .i64), (.int .i64), (.int .i64), (.int .i64), (.int .i64), (.int .i64), (.int .i64), .bool, (.sl [(.int .i64), (.int .i64), (.int .i64), (.int .i64), (.int .i64), (.int .i64), .bool]), (.int .i64), (.int .i64)])], tree_16) := by kernel_rfl
/- laws.eqPat -/
def tree_68 : T :=
(.br (.o2 .ne (.o1 (.fld 0) (.var 0)) (.o1 (.fld 0) (.var 1)))
 (.ret [(.bool false)])
 (.br (.o2 .ne (.o1 (.fld 1) (.var 0)) (.o1 (.fld 1) (.var 1)))
  (.ret [(.bool false)])
  (.br (.o2 .ne (.o1 (.fld 2) (.var 0)) (.o1 (.fld 2) (.var 1)))
   (.ret [(.bool false)])
   (.br (.o2 .ne (.o1 (.fld 3) (.var 0)) (.o1 (.fld 3) (.var 1)))
    (.ret [(.bool false)])
    (.br (.o2 .ne (.o1 (.fld 4) (.var 0)) (.o1 (.fld 4) (.var 1)))
     (.ret [(.bool false)])
     (.br (.o2 .ne (.o1 (.fld 5) (.var 0)) (.o1 (.fld 5) (.var 1)))
      (.ret [(.bool false)])
      (.br (.o2 .ne (.o1 (.fld 6) (.var 0)) (.o1 (.fld 6) (.var 1)))
       (.ret [(.bool false)])
       (.ret [(.bool true)]))))))))
theorem sig_68 : sigOf Try.prog md 68 [] = some ([.st [(.int .i64), (.int .i64), (.int .i64), (.int .i64), (.int .i64), (.int .i64), (.int .i64)], .st [(.int .i64), (.int .i64), (.int .i64), (.int .i64), (.int .i64), (.int .i64), (.int .i64)]], [.sc .bool], tree_68) := by kernel_rfl
/- laws.eqGuard -/
def tree_69 : T :=
(.br (.o2 .ne (.o1 (.fld 0) (.var 0)) (.o1 (.fld 0) (.var 1)))
 (.ret [(.bool false)])
 (.br (.o2 .ne (.o1 (.fld 1) (.var 0)) (.o1 (.fld 1) (.var 1)))
  (.ret [(.bool false)])
  (.ret [(.bool true)])))
theorem sig_69 : sigOf Try.prog md 69 [] = some ([.st [(.int .i64), (.int .i64)], .st [(.int .i64), (.int .i64)]], [.sc .bool], tree_69) := by kernel_rfl
/- laws.eqEvent -/
def tree_102 : T :=
(.br (.o2 .ne (.o1 (.fld 0) (.var 0)) (.o1 (.fld 0) (.var 1)))
 (.ret [(.bool false)])
 (.br (.o2 .ne (.o1 (.fld 1) (.var 0)) (.o1 (.fld 1) (.var 1)))
  (.ret [(.bool false)])
  (.br (.o2 .ne (.o1 (.fld 2) (.var 0)) (.o1 (.fld 2) (.var 1)))
   (.ret [(.bool false)])
   (.br (.o2 .ne (.o1 (.fld 3) (.var 0)) (.o1 (.fld 3) (.var 1)))
    (.ret [(.bool false)])
    (.br (.o2 .ne (.o1 (.fld 4) (.var 0)) (.o1 (.fld 4) (.var 1)))
     (.ret [(.bool false)])
     (.br (.o2 .ne (.o1 (.fld 5) (.var 0)) (.o1 (.fld 5) (.var 1)))
      (.ret [(.bool false)])
      (.br (.o2 .bne (.o1 (.fld 6) (.var 0)) (.o1 (.fld 6) (.var 1)))
       (.ret [(.bool false)])
       (.ret [(.bool true)]))))))))
theorem sig_102 : sigOf Try.prog md 102 [] = some ([.st [(.int .i64), (.int .i64), (.int .i64), (.int .i64), (.int .i64), (.int .i64), .bool], .st [(.int .i64), (.int .i64), (.int .i64), (.int .i64), (.int .i64), (.int .i64), .bool]], [.sc .bool], tree_102) := by kernel_rfl
/- laws.eqEventS -/
def tree_43 : T :=
(.know (.var 0)
(.know (.var 1)
(.br (.o2 .ne (.o1 .len (.var 0)) (.o1 .len (.var 1)))
 (.ret [(.bool false)])
 (.loop 0 [(.int 0)]
  (.know (.var 0)
  (.br (.o2 .lt (.var 2) (.o1 .len (.var 0)))
   (.need [] (.o2 .le (.int 0) (.var 2))
   (.need [] (.o2 .lt (.var 2) (.o1 .len (.var 0)))
   (.need [] (.o2 .le (.int 0) (.var 2))
   (.need [] (.o2 .lt (.var 2) (.o1 .len (.var 1)))
   (.call [] (.fn 102) [.st [(.int .i64), (.int .i64), (.int .i64), (.int .i64), (.int .i64), (.int .i64), .bool] (.o2 .cons (.o1 (.fld 0) (.o2 .idx (.var 0) (.var 2))) (.o2 .cons (.o1 (.fld 1) (.o2 .idx (.var 0) (.var 2))) (.o2 .cons (.o1 (.fld 2) (.o2 .idx (.var 0) (.var 2))) (.o2 .cons (.o1 (.fld 3) (.o2 .idx (.var 0) (.var 2))) (.o2 .cons (.o1 (.fld 4) (.o2 .idx (.var 0) (.var 2))) (.o2 .cons (.o1 (.fld 5) (.o2 .idx (.var 0) (.var 2))) (.o2 .cons (.o1 (.fld 6) (.o2 .idx (.var 0) (.var 2))) .nil))))))), .st [(.int .i64), (.int .i64), (.int .i64), (.int .i64), (.int .i64), (.int .i64), .bool] (.o2 .cons (.o1 (.fld 0) (.o2 .idx (.var 1) (.var 2))) (.o2 .cons (.o1 (.fld 1) (.o2 .idx (.var 1) (.var 2))) (.o2 .cons (.o1 (.fld 2) (.o2 .idx (.var 1) (.var 2))) (.o2 .cons (.o1 (.fld 3) (.o2 .idx (.var 1) (.var 2))) (.o2 .cons (.o1 (.fld 4) (.o2 .idx (.var 1) (.var 2))) (.o2 .cons (.o1 (.fld 5) (.o2 .idx (.var 1) (.var 2))) (.o2 .cons (.o1 (.fld 6) (.o2 .idx (.var 1) (.var 2))) .nil)))))))] [.sc .bool]
   (.br (.o1 .not (.var 3))
    (.ret [(.bool false)])
    (.cont 0 [(.o2 (.add .i64) (.var 2) (.int 1))])))))))
   (.ret [(.bool true)])))))))
theorem sig_43 : sigOf Try.prog md 43 [] = some ([.sc (.sl [(.int .i64), (.int .i64), (.int .i64), (.int .i64), (.int .i64), (.int .i64), .bool]), .sc (.sl [(.int .i64), (.int .i64), (.int .i64), (.int .i64), (.int .i64), (.int .i64), .bool])], [.sc .bool], tree_43) := by kernel_rfl
/- laws.eqAct -/
def tree_70 : T :=
(.br (.o2 .ne (.o1 (.fld 0) (.var 0)) (.o1 (.fld 0) (.var 1)))
 (.ret [(.bool false)])
 (.br (.o2 .ne (.o1 (.fld 1) (.var 0)) (.o1 (.fld 1) (.var 1)))
  (.ret [(.bool false)])
  (.br (.o2 .ne (.o1 (.fld 2) (.var 0)) (.o1 (.fld 2) (.var 1)))
   (.ret [(.bool false)])
   (.br (.o2 .ne (.o1 (.fld 3) (.var 0)) (.o1 (.fld 3) (.var 1)))
    (.ret [(.bool false)])
    (.br (.o2 .ne (.o1 (.fld 4) (.var 0)) (.o1 (.fld 4) (.var 1)))
     (.ret [(.bool false)])
     (.br (.o2 .bne (.o1 (.fld 5) (.var 0)) (.o1 (.fld 5) (.var 1)))
      (.ret [(.bool false)])
      (.call [] (.fn 43) [.sc (.sl [(.int .i64), (.int .i64), (.int .i64), (.int .i64), (.int .i64), (.int .i64), .bool]) (.o1 (.fld 6) (.var 0)), .sc (.sl [(.int .i64), (.int .i64), (.int .i64), (.int .i64), (.int .i64), (.int .i64), .bool]) (.o1 (.fld 6) (.var 1))] [.sc .bool]
      (.br (.o1 .not (.var 2))
       (.ret [(.bool false)])
       (.ret [(.bool true)])))))))))
theorem sig_70 : sigOf Try.prog md 70 [] = some ([.st [(.int .i64), (.int .i64), (.int .i64), (.int .i64), (.int .i64), .bool, (.sl [(.int .i64), (.int .i64), (.int .i64), (.int .i64), (.int .i64), (.int .i64), .bool])], .st [(.int .i64), (.int .i64), (.int .i64), (.int .i64), (.int .i64), .bool, (.sl [(.int .i64), (.int .i64), (.int .i64), (.int .i64), (.int .i64), (.int .i64), .bool])]], [.sc .bool], tree_70) := by kernel_rfl
/- laws.eqEffect -/
def tree_25 : T :=
(.br (.o2 .ne (.o1 (.fld 0) (.var 0)) (.o1 (.fld 0) (.var 1)))
 (.ret [(.bool false)])
 (.br (.o2 .ne (.o1 (.fld 1) (.var 0)) (.o1 (.fld 1) (.var 1)))
  (.ret [(.bool false)])
  (.br (.o2 .ne (.o1 (.fld 2) (.var 0)) (.o1 (.fld 2) (.var 1)))
   (.ret [(.bool false)])
   (.br (.o2 .ne (.o1 (.fld 3) (.var 0)) (.o1 (.fld 3) (.var 1)))
    (.ret [(.bool false)])
    (.call [] (.fn 68) [.st [(.int .i64), (.int .i64), (.int .i64), (.int .i64), (.int .i64), (.int .i64), (.int .i64)] (.o2 .cons (.o1 (.fld 4) (.var 0)) (.o2 .cons (.o1 (.fld 5) (.var 0)) (.o2 .cons (.o1 (.fld 6) (.var 0)) (.o2 .cons (.o1 (.fld 7) (.var 0)) (.o2 .cons (.o1 (.fld 8) (.var 0)) (.o2 .cons (.o1 (.fld 9) (.var 0)) (.o2 .cons (.o1 (.fld 10) (.var 0)) .nil))))))), .st [(.int .i64), (.int .i64), (.int .i64), (.int .i64), (.int .i64), (.int .i64), (.int .i64)] (.o2 .cons (.o1 (.fld 4) (.var 1)) (.o2 .cons (.o1 (.fld 5) (.var 1)) (.o2 .cons (.o1 (.fld 6) (.var 1)) (.o2 .cons (.o1 (.fld 7) (.var 1)) (.o2 .cons (.o1 (.fld 8) (.var 1)) (.o2 .cons (.o1 (.fld 9) (.var 1)) (.o2 .cons (.o1 (.fld 10) (.var 1)) .nil)))))))] [.sc .bool]
    (.br (.o1 .not (.var 2))
     (.ret [(.bool false)])
     (.call [] (.fn 69) [.st [(.int .i64), (.int .i64)] (.o2 .cons (.o1 (.fld 11) (.var 0)) (.o2 .cons (.o1 (.fld 12) (.var 0)) .nil)), .st [(.int .i64), (.int .i64)] (.o2 .cons (.o1 (.fld 11) (.var 1)) (.o2 .cons (.o1 (.fld 12) (.var 1)) .nil))] [.sc .bool]
     (.br (.o1 .not (.var 3))
      (.ret [(.bool false)])
      (.call [] (.fn 70) [.st [(.int .i64), (.int .i64), (.int .i64), (.int .i64), (.int .i64), .bool, (.sl [(.int .i64), (.int .i64), (.int .i64), (.int .i64), (.int .i64), (.int .i64), .bool])] (.o2 .cons (.o1 (.fld 13) (.var 0)) (.o2 .cons (.o1 (.fld 14) (.var 0)) (.o2 .cons (.o1 (.fld 15) (.var 0)) (.o2 .cons (.o1 (.fld 16) (.var 0)) (.o2 .cons (.o1 (.fld 17) (.var 0)) (.o2 .cons (.o1 (.fld 18) (.var 0)) (.o2 .cons (.o1 (.fld 19) (.var 0)) .nil))))))), .st [(.int .i64), (.int .i64), (.int .i64), (.int .i64), (.int .i64), .bool, (.sl [(.int .i64), (.int .i64), (.int .i64), (.int .i64), (.int .i64), (.int .i64), .bool])] (.o2 .cons (.o1 (.fld 13) (.var 1)) (.o2 .cons (.o1 (.fld 14) (.var 1)) (.o2 .cons (.o1 (.fld 15) (.var 1)) (.o2 .cons (.o1 (.fld 16) (.var 1)) (.o2 .cons (.o1 (.fld 17) (.var 1)) (.o2 .cons (.o1 (.fld 18) (.var 1)) (.o2 .cons (.o1 (.fld 19) (.var 1)) .nil)))))))] [.sc .bool]
      (.br (.o1 .not (.var 4))
       (.ret [(.bool false)])
       (.br (.o2 .ne (.o1 (.fld 20) (.var 0)) (.o1 (.fld 20) (.var 1)))
        (.ret [(.bool false)])
        (.br (.o2 .ne (.o1 (.fld 21) (.var 0)) (.o1 (.fld 21) (.var 1)))
         (.ret [(.bool false)])
         (.ret [(.bool true)])))))))))))))
theorem sig_25 : sigOf Try.prog md 25 [] = some ([.st [(.int .i64), (.int .i64), (.int .i64), (.int .i64), (.int .i64), (.int .i64), (.int .i64), (.int .i64), (.int .i64), (.int .i64), (.int .i64), (.int .i64), (.int .i64), (.int .i64), (.int .i64), (.int .i64), (.int .i64), (.int .i64), .bool, (.sl [(.int .i64), (.int .i64), (.int .i64), (.int .i64), (.int .i64), (.int .i64), .bool]), (.int .i64), (.int .i64)], .st [(.int .i64), (.int .i64), (.int .i64), (.int .i64), (.int .i64), (.int .i64), (.int .i64), (.int .i64), (.int .i64), (.int .i64), (.int .i64), (.int .i64), (.int .i64), (.int .i64), (.int .i64), (.int .i64), (.int .i64), (.int .i64), .bool, (.sl [(.int .i64), (.int .i64), (.int .i64), (.int .i64), (.int .i64), (.int .i64), .bool]), (.int .i64), (.int .i64)]], [.sc .bool], tree_25) := by kernel_rfl
/- laws.eqEffectS -/
def tree_18 : T :=
(.know (.var 0)
(.know (.var 1)
(.br (.o2 .ne (.o1 .len (.var 0)) (.o1 .len (.var 1)))
 (.ret [(.bool false)])
 (.loop 0 [(.int 0)]
  (.know (.var 0)
  (.br (.o2 .lt (.var 2) (.o1 .len (.var 0)))
   (.need [] (.o2 .le (.int 0) (.var 2))
   (.need [] (.o2 .lt (.var 2) (.o1 .len (.var 0)))
   (.need [] (.o2 .le (.int 0) (.var 2))
   (.need [] (.o2 .lt (.var 2) (.o1 .len (.var 1)))
   (.call [] (.fn 25) [.st [(.int .i64), (.int .i64), (.int .i64), (.int .i64), (.int .i64), (.int .i64), (.int .i64), (.int .i64), (.int .i64), (.int .i64), (.int .i64), (.int .i64), (.int .i64), (.int .i64), (.int .i64), (.int .i64), (.int .i64), (.int .i64), .bool, (.sl [(.int .i64), (.int .i64), (.int .i64), (.int .i64), (.int .i64), (.int .i64), .bool]), (.int .i64), (.int .i64)] (.o2 .cons (.o1 (.fld 0) (.o2 .idx (.var 0) (.var 2))) (.o2 .cons (.o1 (.fld 1) (.o2 .idx (.var 0) (.var 2))) (.o2 .cons (.o1 (.fld 2) (.o2 .idx (.var 0) (.var 2))) (.o2 .cons (.o1 (.fld 3) (.o2 .idx (.var 0) (.var 2))) (.o2 .cons (.o1 (.fld 4) (.o2 .idx (.var 0) (.var 2))) (.o2 .cons (.o1 (.fld 5) (.o2 .idx (.var 0) (.var 2))) (.o2 .cons (.o1 (.fld 6) (.o2 .idx (.var 0) (.var 2))) (.o2 .cons (.o1 (.fld 7) (.o2 .idx (.var 0) (.var 2))) (.o2 .cons (.o1 (.fld 8) (.o2 .idx (.var 0) (.var 2))) (.o2 .cons (.o1 (.fld 9) (.o2 .idx (.var 0) (.var 2))) (.o2 .cons (.o1 (.fld 10) (.o2 .idx (.var 0) (.var 2))) (.o2 .cons (.o1 (.fld 11) (.o2 .idx (.var 0) (.var 2))) (.o2 .cons (.o1 (.fld 12) (.o2 .idx (.var 0) (.var 2))) (.o2 .cons (.o1 (.fld 13) (.o2 .idx (.var 0) (.var 2))) (.o2 .cons (.o1 (.fld 14) (.o2 .idx (.var 0) (.var 2))) (.o2 .cons (.o1 (.fld 15) (.o2 .idx (.var 0) (.var 2))) (.o2 .cons (.o1 (.fld 16) (.o2 .idx (.var 0) (.var 2))) (.o2 .cons (.o1 (.fld 17) (.o2 .idx (.var 0) (.var 2))) (.o2 .cons (.o1 (.fld 18) (.o2 .idx (.var 0) (.var 2))) (.o2 .cons (.o1 (.fld 19) (.o2 .idx (.var 0) (.var 2))) (.o2 .cons (.o1 (.fld 20) (.o2 .idx (.var 0) (.var 2))) (.o2 .cons (.o1 (.fld 21) (.o2 .idx (.var 0) (.var 2))) .nil)))))))))))))))))))))), .st [(.int .i64), (.int .i64), (.int .i64), (.int .i64), (.int .i64), (.int .i64), (.int .i64), (.int .i64), (.int .i64), (.int .i64), (.int .i64), (.int .i64), (.int .i64), (.int .i64), (.int .i64), (.int .i64), (.int .i64), (.int .i64), .bool, (.sl [(.int .i64), (.int .i64), (.int .i64), (.int .i64), (.int .i64), (.int .i64), .bool]), (.int .i64), (.int .i64)] (.o2 .cons (.o1 (.fld 0) (.o2 .idx (.var 1) (.var 2))) (.o2 .cons (.o1 (.fld 1) (.o2 .idx (.var 1) (.var 2))) (.o2 .cons (.o1 (.fld 2) (.o2 .idx (.var 1) (.var 2))) (.o2 .cons (.o1 (.fld 3) (.o2 .idx (.var 1) (.var 2))) (.o2 .cons (.o1 (.fld 4) (.o2 .idx (.var 1) (.var 2))) (.o2 .cons (.o1 (.fld 5) (.o2 .idx (.var 1) (.var 2))) (.o2 .cons (.o1 (.fld 6) (.o2 .idx (.var 1) (.var 2))) (.o2 .cons (.o1 (.fld 7) (.o2 .idx (.var 1) (.var 2))) (.o2 .cons (.o1 (.fld 8) (.o2 .idx (.var 1) (.var 2))) (.o2 .cons (.o1 (.fld 9) (.o2 .idx (.var 1) (.var 2))) (.o2 .cons (.o1 (.fld 10) (.o2 .idx (.var 1) (.var 2))) (.o2 .cons (.o1 (.fld 11) (.o2 .idx (.var 1) (.var 2))) (.o2 .cons (.o1 (.fld 12) (.o2 .idx (.var 1) (.var 2))) (.o2 .cons (.o1 (.fld 13) (.o2 .idx (.var 1) (.var 2))) (.o2 .cons (.o1 (.fld 14) (.o2 .idx (.var 1) (.var 2))) (.o2 .cons (.o1 (.fld 15) (.o2 .idx (.var 1) (.var 2))) (.o2 .cons (.o1 (.fld 16) (.o2 .idx (.var 1) (.var 2))) (.o2 .cons (.o1 (.fld 17) (.o2 .idx (.var 1) (.var 2))) (.o2 .cons (.o1 (.fld 18) (.o2 .idx (.var 1) (.var 2))) (.o2 .cons (.o1 (.fld 19) (.o2 .idx (.var 1) (.var 2))) (.o2 .cons (.o1 (.fld 20) (.o2 .idx (.var 1) (.var 2))) (.o2 .cons (.o1 (.fld 21) (.o2 .idx (.var 1) (.var 2))) .nil))))))))))))))))))))))] [.sc .bool]
   (.br (.o1 .not (.var 3))
    (.ret [(.bool false)])
    (.cont 0 [(.o2 (.add .i64) (.var 2) (.int 1))])))))))
   (.ret [(.bool true)])))))))
theorem sig_18 : sigOf Try.prog md 18 [] = some ([.sc (.sl [(.int .i64), (.int .i64), (.int .i64), (.int .i64), (.int .i64), (.int .i64), (.int .i64), (.int .i64), (.int .i64), (.int .i64), (.int .i64), (.int .i64), (.int .i64), (.int .i64), (.int .i64), (.int .i64), (.int .i64), (.int .i64), .bool, (.sl [(.int .i64), (.int .i64), (.int .i64), (.int .i64), (.int .i64), (.int .i64), .bool]), (.int .i64), (.int .i64)]), .sc (.sl [(.int .i64), (.int .i64), (.int .i64), (.int .i64), (.int .i64), (.int .i64), (.int .i64), (.int .i64), (.int .i64), (.int .i64), (.int .i64), (.int .i64), (.int .i64), (.int .i64), (.int .i64), (.int .i64), (.int .i64), (.int .i64), .bool, (.sl [(.int .i64), (.int .i64), (.int .i64), (.int .i64), (.int .i64), (.int .i64), .bool]), (.int .i64), (.int .i64)])], [.sc .bool], tree_18) := by kernel_rfl
/- spec.l1In -/
def tree_73 : T :=
(.ret [(.o2 .band (.o2 .ge (.var 0) (.var 1)) (.o2 .le (.var 0) (.var 2)))])
theorem sig_73 : sigOf Try.prog md 73 [] = some ([.sc (.int .i64), .sc (.int .i64), .sc (.int .i64)], [.sc .bool], tree_73) := by kernel_rfl
/- spec.PatOk -/
def tree_74 : T :=
(.call [] (.fn 73) [.sc (.int .i64) (.o1 (.fld 0) (.var 0)), .sc (.int .i64) (.int 1), .sc (.int .i64) (.int 6)] [.sc .bool]
(.call [((.o1 .not (.var 1)), false)] (.fn 73) [.sc (.int .i64) (.o1 (.fld 1) (.var 0)), .sc (.int .i64) (.int 0), .sc (.int .i64) (.int 2)] [.sc .bool]
(.call [((.o2 .bor (.o1 .not (.var 1)) (.o1 .not (.var 2))), false)] (.fn 73) [.sc (.int .i64) (.o1 (.fld 4) (.var 0)), .sc (.int .i64) (.int 0), .sc (.int .i64) (.int 99)] [.sc .bool]
(.call [((.o2 .bor (.o2 .bor (.o1 .not (.var 1)) (.o1 .not (.var 2))) (.o1 .not (.var 3))), false)] (.fn 73) [.sc (.int .i64) (.o1 (.fld 5) (.var 0)), .sc (.int .i64) (.int 0), .sc (.int .i64) (.int 2147483647)] [.sc .bool]
(.call [((.o2 .bor (.o2 .bor (.o2 .bor (.o1 .not (.var 1)) (.o1 .not (.var 2))) (.o1 .not (.var 3))) (.o1 .not (.var 4))), false)] (.fn 73) [.sc (.int .i64) (.o1 (.fld 2) (.var 0)), .sc (.int .i64) (.int 0), .sc (.int .i64) (.int 99)] [.sc .bool]
(.call [((.o2 .bor (.o2 .bor (.o2 .bor (.o2 .bor (.o1 .not (.var 1)) (.o1 .not (.var 2))) (.o1 .not (.var 3))) (.o1 .not (.var 4))) (.o1 .not (.var 5))), false)] (.fn 73) [.sc (.int .i64) (.o1 (.fld 3) (.var 0)), .sc (.int .i64) (.int 0), .sc (.int .i64) (.int 63)] [.sc .bool]
(.call [((.o2 .bor (.o2 .bor (.o2 .bor (.o2 .bor (.o2 .bor (.o1 .not (.var 1)) (.o1 .not (.var 2))) (.o1 .not (.var 3))) (.o1 .not (.var 4))) (.o1 .not (.var 5))) (.o1 .not (.var 6))), false)] (.fn 73) [.sc (.int .i64) (.o1 (.fld 6) (.var 0)), .sc (.int .i64) (.int 0), .sc (.int .i64) (.int 4)] [.sc .bool]
(.br (.o2 .bor (.o2 .bor (.o2 .bor (.o2 .bor (.o2 .bor (.o2 .bor (.o1 .not (.var 1)) (.o1 .not (.var 2))) (.o1 .not (.var 3))) (.o1 .not (.var 4))) (.o1 .not (.var 5))) (.o1 .not (.var 6))) (.o1 .not (.var 7)))
 (.ret [(.bool false)])
 (.br (.o2 .bor (.o2 .band (.o2 .ne (.o1 (.fld 0) (.var 0)) (.int 1)) (.o2 .bor (.o2 .ne (.o1 (.fld 2) (.var 0)) (.int 0)) (.o2 .ne (.o1 (.fld 3) (.var 0)) (.int 0)))) (.o2 .band (.o2 .ne (.o1 (.fld 0) (.var 0)) (.int 2)) (.o2 .ne (.o1 (.fld 6) (.var 0)) (.int 0))))
  (.ret [(.bool false)])
  (.ret [(.o2 .bor (.o2 .band (.o2 .ne (.o1 (.fld 0) (.var 0)) (.int 3)) (.o2 .ne (.o1 (.fld 0) (.var 0)) (.int 4))) (.o2 .eq (.o1 (.fld 4) (.var 0)) (.int 0)))]))))))))))
theorem sig_74 : sigOf Try.prog md 74 [] = some ([.st [(.int .i64), (.int .i64), (.int .i64), (.int .i64), (.int .i64), (.int .i64), (.int .i64)]], [.sc .bool], tree_74) := by kernel_rfl
/- spec.GuardOk -/
def tree_75 : T :=
(.br (.o2 .eq (.o1 (.fld 0) (.var 0)) (.int 0))
 (.br (.o2 .eq (.o1 (.fld 0) (.var 0)) (.int 0))
  (.ret [(.o2 .eq (.o1 (.fld 1) (.var 0)) (.int 0))])
  (.br (.o2 .eq (.o1 (.fld 0) (.var 0)) (.int 1))
   (.call [] (.fn 73) [.sc (.int .i64) (.o1 (.fld 1) (.var 0)), .sc (.int .i64) (.int (-2147483647)), .sc (.int .i64) (.int 2147483647)] [.sc .bool]
   (.ret [(.var 1)]))
   (.call [((.o2 .bor (.o2 .eq (.o1 (.fld 0) (.var 0)) (.int 2)) (.o2 .eq (.o1 (.fld 0) (.var 0)) (.int 4))), true)] (.fn 73) [.sc (.int .i64) (.o1 (.fld 1) (.var 0)), .sc (.int .i64) (.int 0), .sc (.int .i64) (.int 8)] [.sc .bool]
   (.ret [(.o2 .band (.o2 .bor (.o2 .eq (.o1 (.fld 0) (.var 0)) (.int 2)) (.o2 .eq (.o1 (.fld 0) (.var 0)) (.int 4))) (.var 1))]))))
 (.br (.o2 .eq (.o1 (.fld 0) (.var 0)) (.int 3))
  (.ret [(.o2 .eq (.o1 (.fld 1) (.var 0)) (.int 0))])
  (.br (.o2 .eq (.o1 (.fld 0) (.var 0)) (.int 1))
   (.call [] (.fn 73) [.sc (.int .i64) (.o1 (.fld 1) (.var 0)), .sc (.int .i64) (.int (-2147483647)), .sc (.int .i64) (.int 2147483647)] [.sc .bool]
   (.ret [(.var 1)]))
   (.call [((.o2 .bor (.o2 .eq (.o1 (.fld 0) (.var 0)) (.int 2)) (.o2 .eq (.o1 (.fld 0) (.var 0)) (.int 4))), true)] (.fn 73) [.sc (.int .i64) (.o1 (.fld 1) (.var 0)), .sc (.int .i64) (.int 0), .sc (.int .i64) (.int 8)] [.sc .bool]
   (.ret [(.o2 .band (.o2 .bor (.o2 .eq (.o1 (.fld 0) (.var 0)) (.int 2)) (.o2 .eq (.o1 (.fld 0) (.var 0)) (.int 4))) (.var 1))])))))
theorem sig_75 : sigOf Try.prog md 75 [] = some ([.st [(.int .i64), (.int .i64)]], [.sc .bool], tree_75) := by kernel_rfl
/- spec.l9Plain -/
def tree_124 : T :=
(.ret [(.o2 .band (.o2 .band (.o2 .band (.o2 .band (.o2 .eq (.o1 (.fld 2) (.var 0)) (.int 0)) (.o2 .eq (.o1 (.fld 3) (.var 0)) (.int (-1)))) (.o2 .eq (.o1 (.fld 4) (.var 0)) (.int 0))) (.o1 .not (.o1 (.fld 5) (.var 0)))) (.o2 .eq (.o1 .len (.o1 (.fld 6) (.var 0))) (.int 0)))])
theorem sig_124 : sigOf Try.prog md 124 [] = some ([.st [(.int .i64), (.int .i64), (.int .i64), (.int .i64), (.int .i64), .bool, (.sl [(.int .i64), (.int .i64), (.int .i64), (.int .i64), (.int .i64), (.int .i64), .bool])]], [.sc .bool], tree_124) := by kernel_rfl
/- spec.EventOk -/
def tree_92 : T :=
(.call [] (.fn 73) [.sc (.int .i64) (.o1 (.fld 2) (.var 0)), .sc (.int .i64) (.int 1), .sc (.int .i64) (.int 99)] [.sc .bool]
(.call [((.o2 .eq (.o1 (.fld 2) (.var 0)) (.int 0)), true)] (.fn 73) [.sc (.int .i64) (.o1 (.fld 3) (.var 0)), .sc (.int .i64) (.int 0), .sc (.int .i64) (.int 2)] [.sc .bool]
(.call [] (.fn 73) [.sc (.int .i64) (.o1 (.fld 4) (.var 0)), .sc (.int .i64) (.int 0), .sc (.int .i64) (.int 2147483647)] [.sc .bool]
(.br (.o1 .not (.var 3))
 (.ret [(.bool false)])
 (.br (.o2 .eq (.o1 (.fld 0) (.var 0)) (.int 1))
  (.call [] (.fn 73) [.sc (.int .i64) (.o1 (.fld 1) (.var 0)), .sc (.int .i64) (.int 1), .sc (.int .i64) (.int 99)] [.sc .bool]
  (.ret [(.o2 .band (.o2 .band (.o2 .band (.var 4) (.o2 .bor (.o2 .band (.var 1) (.o2 .eq (.o1 (.fld 3) (.var 0)) (.int (-1)))) (.o2 .band (.o2 .eq (.o1 (.fld 2) (.var 0)) (.int 0)) (.var 2)))) (.o2 .eq (.o1 (.fld 5) (.var 0)) (.int 0))) (.o1 .not (.o1 (.fld 6) (.var 0))))]))
  (.br (.o2 .eq (.o1 (.fld 0) (.var 0)) (.int 2))
   (.call [((.o2 .band (.o2 .eq (.o1 (.fld 1) (.var 0)) (.int 0)) (.o2 .band (.var 1) (.o2 .eq (.o1 (.fld 3) (.var 0)) (.int (-1))))), true)] (.fn 73) [.sc (.int .i64) (.o1 (.fld 5) (.var 0)), .sc (.int .i64) (.int 1), .sc (.int .i64) (.int 4)] [.sc .bool]
   (.ret [(.o2 .band (.o2 .band (.o2 .band (.o2 .band (.o2 .eq (.o1 (.fld 1) (.var 0)) (.int 0)) (.o2 .band (.var 1) (.o2 .eq (.o1 (.fld 3) (.var 0)) (.int (-1))))) (.var 4)) (.o2 .le (.o1 (.fld 4) (.var 0)) (.int 99))) (.o2 .bor (.o2 .eq (.o1 (.fld 5) (.var 0)) (.int 2)) (.o2 .band (.o2 .eq (.o1 (.fld 4) (.var 0)) (.int 0)) (.o1 .not (.o1 (.fld 6) (.var 0))))))]))
   (.br (.o2 .eq (.o1 (.fld 0) (.var 0)) (.int 3))
    (.br (.o2 .eq (.o1 (.fld 0) (.var 0)) (.int 3))
     (.ret [(.o2 .band (.o2 .band (.o2 .band (.o2 .eq (.o1 (.fld 1) (.var 0)) (.int 0)) (.o2 .band (.o2 .eq (.o1 (.fld 2) (.var 0)) (.int 0)) (.var 2))) (.o2 .eq (.o1 (.fld 5) (.var 0)) (.int 0))) (.o1 .not (.o1 (.fld 6) (.var 0))))])
     (.br (.o2 .eq (.o1 (.fld 0) (.var 0)) (.int 5))
      (.br (.o2 .eq (.o1 (.fld 0) (.var 0)) (.int 5))
       (.ret [(.o2 .band (.o2 .band (.o2 .band (.o2 .eq (.o1 (.fld 1) (.var 0)) (.int 0)) (.o2 .band (.var 1) (.o2 .eq (.o1 (.fld 3) (.var 0)) (.int (-1))))) (.o2 .eq (.o1 (.fld 5) (.var 0)) (.int 0))) (.o1 .not (.o1 (.fld 6) (.var 0))))])
       (.ret [(.bool false)]))
      (.br (.o2 .eq (.o1 (.fld 0) (.var 0)) (.int 6))
       (.ret [(.o2 .band (.o2 .band (.o2 .band (.o2 .eq (.o1 (.fld 1) (.var 0)) (.int 0)) (.o2 .band (.var 1) (.o2 .eq (.o1 (.fld 3) (.var 0)) (.int (-1))))) (.o2 .eq (.o1 (.fld 5) (.var 0)) (.int 0))) (.o1 .not (.o1 (.fld 6) (.var 0))))])
       (.ret [(.bool false)]))))
    (.br (.o2 .eq (.o1 (.fld 0) (.var 0)) (.int 4))
     (.ret [(.o2 .band (.o2 .band (.o2 .band (.o2 .eq (.o1 (.fld 1) (.var 0)) (.int 0)) (.o2 .band (.o2 .eq (.o1 (.fld 2) (.var 0)) (.int 0)) (.var 2))) (.o2 .eq (.o1 (.fld 5) (.var 0)) (.int 0))) (.o1 .not (.o1 (.fld 6) (.var 0))))])
     (.br (.o2 .eq (.o1 (.fld 0) (.var 0)) (.int 5))
      (.br (.o2 .eq (.o1 (.fld 0) (.var 0)) (.int 5))
       (.ret [(.o2 .band (.o2 .band (.o2 .band (.o2 .eq (.o1 (.fld 1) (.var 0)) (.int 0)) (.o2 .band (.var 1) (.o2 .eq (.o1 (.fld 3) (.var 0)) (.int (-1))))) (.o2 .eq (.o1 (.fld 5) (.var 0)) (.int 0))) (.o1 .not (.o1 (.fld 6) (.var 0))))])
       (.ret [(.bool false)]))
      (.br (.o2 .eq (.o1 (.fld 0) (.var 0)) (.int 6))
       (.ret [(.o2 .band (.o2 .band (.o2 .band (.o2 .eq (.o1 (.fld 1) (.var 0)) (.int 0)) (.o2 .band (.var 1) (.o2 .eq (.o1 (.fld 3) (.var 0)) (.int (-1))))) (.o2 .eq (.o1 (.fld 5) (.var 0)) (.int 0))) (.o1 .not (.o1 (.fld 6) (.var 0))))])
       (.ret [(.bool false)])))))))))))
theorem sig_92 : sigOf Try.prog md 92 [] = some ([.st [(.int .i64), (.int .i64), (.int .i64), (.int .i64), (.int .i64), (.int .i64), .bool]], [.sc .bool], tree_92) := by kernel_rfl
/- spec.l9Part -/
def tree_125 : T :=
(.br (.o2 .band (.o2 .eq (.o1 (.fld 4) (.var 0)) (.int (-1))) (.o2 .ne (.o1 (.fld 0) (.var 0)) (.int 2)))
 (.call [] (.fn 92) [.st [(.int .i64), (.int .i64), (.int .i64), (.int .i64), (.int .i64), (.int .i64), .bool] (.o2 .cons (.o1 (.fld 0) (.var 0)) (.o2 .cons (.o1 (.fld 1) (.var 0)) (.o2 .cons (.o1 (.fld 2) (.var 0)) (.o2 .cons (.o1 (.fld 3) (.var 0)) (.o2 .cons (.int 0) (.o2 .cons (.o1 (.fld 5) (.var 0)) (.o2 .cons (.o1 (.fld 6) (.var 0)) .nil)))))))] [.sc .bool]
 (.ret [(.var 1)]))
 (.call [] (.fn 92) [.st [(.int .i64), (.int .i64), (.int .i64), (.int .i64), (.int .i64), (.int .i64), .bool] (.o2 .cons (.o1 (.fld 0) (.var 0)) (.o2 .cons (.o1 (.fld 1) (.var 0)) (.o2 .cons (.o1 (.fld 2) (.var 0)) (.o2 .cons (.o1 (.fld 3) (.var 0)) (.o2 .cons (.o1 (.fld 4) (.var 0)) (.o2 .cons (.o1 (.fld 5) (.var 0)) (.o2 .cons (.o1 (.fld 6) (.var 0)) .nil)))))))] [.sc .bool]
 (.ret [(.var 1)])))
theorem sig_125 : sigOf Try.prog md 125 [] = some ([.st [(.int .i64), (.int .i64), (.int .i64), (.int .i64), (.int .i64), (.int .i64), .bool]], [.sc .bool], tree_125) := by kernel_rfl
/- spec.ActOk -/
def tree_76 : T :=
(.br (.o2 .eq (.o1 (.fld 0) (.var 0)) (.int 1))
 (.br (.o2 .eq (.o1 (.fld 0) (.var 0)) (.int 1))
  (.call [] (.fn 124) [.st [(.int .i64), (.int .i64), (.int .i64), (.int .i64), (.int .i64), .bool, (.sl [(.int .i64), (.int .i64), (.int .i64), (.int .i64), (.int .i64), (.int .i64), .bool])] (.o2 .cons (.o1 (.fld 0) (.var 0)) (.o2 .cons (.o1 (.fld 1) (.var 0)) (.o2 .cons (.o1 (.fld 2) (.var 0)) (.o2 .cons (.o1 (.fld 3) (.var 0)) (.o2 .cons (.o1 (.fld 4) (.var 0)) (.o2 .cons (.o1 (.fld 5) (.var 0)) (.o2 .cons (.o1 (.fld 6) (.var 0)) .nil)))))))] [.sc .bool]
  (.ret [(.o2 .band (.var 1) (.o2 .eq (.o1 (.fld 1) (.var 0)) (.int 0)))]))
  (.br (.o2 .eq (.o1 (.fld 0) (.var 0)) (.int 3))
   (.call [] (.fn 124) [.st [(.int .i64), (.int .i64), (.int .i64), (.int .i64), (.int .i64), .bool, (.sl [(.int .i64), (.int .i64), (.int .i64), (.int .i64), (.int .i64), (.int .i64), .bool])] (.o2 .cons (.o1 (.fld 0) (.var 0)) (.o2 .cons (.o1 (.fld 1) (.var 0)) (.o2 .cons (.o1 (.fld 2) (.var 0)) (.o2 .cons (.o1 (.fld 3) (.var 0)) (.o2 .cons (.o1 (.fld 4) (.var 0)) (.o2 .cons (.o1 (.fld 5) (.var 0)) (.o2 .cons (.o1 (.fld 6) (.var 0)) .nil)))))))] [.sc .bool]
   (.call [((.var 1), true)] (.fn 73) [.sc (.int .i64) (.o1 (.fld 1) (.var 0)), .sc (.int .i64) (.int 1), .sc (.int .i64) (.int 2147483647)] [.sc .bool]
   (.ret [(.o2 .band (.var 1) (.var 2))])))
   (.br (.o2 .eq (.o1 (.fld 0) (.var 0)) (.int 6))
    (.call [((.o2 .band (.o2 .band (.o2 .band (.o2 .eq (.o1 (.fld 1) (.var 0)) (.int 0)) (.o2 .eq (.o1 (.fld 4) (.var 0)) (.int 0))) (.o1 .not (.o1 (.fld 5) (.var 0)))) (.o2 .eq (.o1 .len (.o1 (.fld 6) (.var 0))) (.int 0))), true)] (.fn 73) [.sc (.int .i64) (.o1 (.fld 2) (.var 0)), .sc (.int .i64) (.int 1), .sc (.int .i64) (.int 99)] [.sc .bool]
    (.call [((.o2 .band (.o2 .band (.o2 .band (.o2 .eq (.o1 (.fld 1) (.var 0)) (.int 0)) (.o2 .eq (.o1 (.fld 4) (.var 0)) (.int 0))) (.o1 .not (.o1 (.fld 5) (.var 0)))) (.o2 .eq (.o1 .len (.o1 (.fld 6) (.var 0))) (.int 0))), true), ((.o2 .band (.var 1) (.o2 .eq (.o1 (.fld 3) (.var 0)) (.int (-1)))), false), ((.o2 .eq (.o1 (.fld 2) (.var 0)) (.int 0)), true)] (.fn 73) [.sc (.int .i64) (.o1 (.fld 3) (.var 0)), .sc (.int .i64) (.int 0), .sc (.int .i64) (.int 2)] [.sc .bool]
    (.ret [(.o2 .band (.o2 .band (.o2 .band (.o2 .band (.o2 .eq (.o1 (.fld 1) (.var 0)) (.int 0)) (.o2 .eq (.o1 (.fld 4) (.var 0)) (.int 0))) (.o1 .not (.o1 (.fld 5) (.var 0)))) (.o2 .eq (.o1 .len (.o1 (.fld 6) (.var 0))) (.int 0))) (.o2 .bor (.o2 .band (.var 1) (.o2 .eq (.o1 (.fld 3) (.var 0)) (.int (-1)))) (.o2 .band (.o2 .eq (.o1 (.fld 2) (.var 0)) (.int 0)) (.var 2))))])))
    (.br (.o2 .eq (.o1 (.fld 0) (.var 0)) (.int 7))
     (.call [((.o2 .band (.o2 .band (.o2 .band (.o2 .band (.o2 .eq (.o1 (.fld 1) (.var 0)) (.int 0)) (.o2 .eq (.o1 (.fld 2) (.var 0)) (.int 0))) (.o2 .eq (.o1 (.fld 3) (.var 0)) (.int (-1)))) (.o1 .not (.o1 (.fld 5) (.var 0)))) (.o2 .eq (.o1 .len (.o1 (.fld 6) (.var 0))) (.int 0))), true)] (.fn 73) [.sc (.int .i64) (.o1 (.fld 4) (.var 0)), .sc (.int .i64) (.int 1), .sc (.int .i64) (.int 4)] [.sc .bool]
     (.ret [(.o2 .band (.o2 .band (.o2 .band (.o2 .band (.o2 .band (.o2 .eq (.o1 (.fld 1) (.var 0)) (.int 0)) (.o2 .eq (.o1 (.fld 2) (.var 0)) (.int 0))) (.o2 .eq (.o1 (.fld 3) (.var 0)) (.int (-1)))) (.o1 .not (.o1 (.fld 5) (.var 0)))) (.o2 .eq (.o1 .len (.o1 (.fld 6) (.var 0))) (.int 0))) (.var 1))]))
     (.br (.o2 .eq (.o1 (.fld 0) (.var 0)) (.int 8))
      (.call [] (.fn 73) [.sc (.int .i64) (.o1 (.fld 1) (.var 0)), .sc (.int .i64) (.int 0), .sc (.int .i64) (.int 99)] [.sc .bool]
      (.ret [(.o2 .band (.o2 .band (.o2 .band (.o2 .band (.var 1) (.o2 .eq (.o1 (.fld 2) (.var 0)) (.int 0))) (.o2 .eq (.o1 (.fld 3) (.var 0)) (.int (-1)))) (.o2 .eq (.o1 (.fld 4) (.var 0)) (.int 0))) (.o2 .eq (.o1 .len (.o1 (.fld 6) (.var 0))) (.int 0)))]))
      (.br (.o2 .eq (.o1 (.fld 0) (.var 0)) (.int 9))
       (.loop 0 [(.int 0)]
        (.know (.o1 (.fld 6) (.var 0))
        (.br (.o2 .lt (.var 1) (.o1 .len (.o1 (.fld 6) (.var 0))))
         (.need [] (.o2 .le (.int 0) (.var 1))
         (.need [] (.o2 .lt (.var 1) (.o1 .len (.o1 (.fld 6) (.var 0))))
         (.call [] (.fn 125) [.st [(.int .i64), (.int .i64), (.int .i64), (.int .i64), (.int .i64), (.int .i64), .bool] (.o2 .cons (.o1 (.fld 0) (.o2 .idx (.o1 (.fld 6) (.var 0)) (.var 1))) (.o2 .cons (.o1 (.fld 1) (.o2 .idx (.o1 (.fld 6) (.var 0)) (.var 1))) (.o2 .cons (.o1 (.fld 2) (.o2 .idx (.o1 (.fld 6) (.var 0)) (.var 1))) (.o2 .cons (.o1 (.fld 3) (.o2 .idx (.o1 (.fld 6) (.var 0)) (.var 1))) (.o2 .cons (.o1 (.fld 4) (.o2 .idx (.o1 (.fld 6) (.var 0)) (.var 1))) (.o2 .cons (.o1 (.fld 5) (.o2 .idx (.o1 (.fld 6) (.var 0)) (.var 1))) (.o2 .cons (.o1 (.fld 6) (.o2 .idx (.o1 (.fld 6) (.var 0)) (.var 1))) .nil)))))))] [.sc .bool]
         (.br (.o1 .not (.var 2))
          (.ret [(.bool false)])
          (.cont 0 [(.o2 (.add .i64) (.var 1) (.int 1))])))))
         (.call [((.o2 .band (.o2 .band (.o2 .band (.o2 .band (.o2 .eq (.o1 (.fld 1) (.var 0)) (.int 0)) (.o2 .eq (.o1 (.fld 2) (.var 0)) (.int 0))) (.o2 .eq (.o1 (.fld 3) (.var 0)) (.int (-1)))) (.o2 .eq (.o1 (.fld 4) (.var 0)) (.int 0))) (.o1 .not (.o1 (.fld 5) (.var 0)))), true)] (.fn 73) [.sc (.int .i64) (.o1 .len (.o1 (.fld 6) (.var 0))), .sc (.int .i64) (.int 1), .sc (.int .i64) (.int 3)] [.sc .bool]
         (.ret [(.o2 .band (.o2 .band (.o2 .band (.o2 .band (.o2 .band (.o2 .eq (.o1 (.fld 1) (.var 0)) (.int 0)) (.o2 .eq (.o1 (.fld 2) (.var 0)) (.int 0))) (.o2 .eq (.o1 (.fld 3) (.var 0)) (.int (-1)))) (.o2 .eq (.o1 (.fld 4) (.var 0)) (.int 0))) (.o1 .not (.o1 (.fld 5) (.var 0)))) (.var 2))])))))
       (.ret [(.bool false)])))))))
 (.br (.o2 .eq (.o1 (.fld 0) (.var 0)) (.int 2))
  (.br (.o2 .eq (.o1 (.fld 0) (.var 0)) (.int 2))
   (.call [] (.fn 124) [.st [(.int .i64), (.int .i64), (.int .i64), (.int .i64), (.int .i64), .bool, (.sl [(.int .i64), (.int .i64), (.int .i64), (.int .i64), (.int .i64), (.int .i64), .bool])] (.o2 .cons (.o1 (.fld 0) (.var 0)) (.o2 .cons (.o1 (.fld 1) (.var 0)) (.o2 .cons (.o1 (.fld 2) (.var 0)) (.o2 .cons (.o1 (.fld 3) (.var 0)) (.o2 .cons (.o1 (.fld 4) (.var 0)) (.o2 .cons (.o1 (.fld 5) (.var 0)) (.o2 .cons (.o1 (.fld 6) (.var 0)) .nil)))))))] [.sc .bool]
   (.ret [(.o2 .band (.var 1) (.o2 .eq (.o1 (.fld 1) (.var 0)) (.int 0)))]))
   (.br (.o2 .eq (.o1 (.fld 0) (.var 0)) (.int 3))
    (.call [] (.fn 124) [.st [(.int .i64), (.int .i64), (.int .i64), (.int .i64), (.int .i64), .bool, (.sl [(.int .i64), (.int .i64), (.int .i64), (.int .i64), (.int .i64), (.int .i64), .bool])] (.o2 .cons (.o1 (.fld 0) (.var 0)) (.o2 .cons (.o1 (.fld 1) (.var 0)) (.o2 .cons (.o1 (.fld 2) (.var 0)) (.o2 .cons (.o1 (.fld 3) (.var 0)) (.o2 .cons (.o1 (.fld 4) (.var 0)) (.o2 .cons (.o1 (.fld 5) (.var 0)) (.o2 .cons (.o1 (.fld 6) (.var 0)) .nil)))))))] [.sc .bool]
    (.call [((.var 1), true)] (.fn 73) [.sc (.int .i64) (.o1 (.fld 1) (.var 0)), .sc (.int .i64) (.int 1), .sc (.int .i64) (.int 2147483647)] [.sc .bool]
    (.ret [(.o2 .band (.var 1) (.var 2))])))
    (.br (.o2 .eq (.o1 (.fld 0) (.var 0)) (.int 6))
     (.call [((.o2 .band (.o2 .band (.o2 .band (.o2 .eq (.o1 (.fld 1) (.var 0)) (.int 0)) (.o2 .eq (.o1 (.fld 4) (.var 0)) (.int 0))) (.o1 .not (.o1 (.fld 5) (.var 0)))) (.o2 .eq (.o1 .len (.o1 (.fld 6) (.var 0))) (.int 0))), true)] (.fn 73) [.sc (.int .i64) (.o1 (.fld 2) (.var 0)), .sc (.int .i64) (.int 1), .sc (.int .i64) (.int 99)] [.sc .bool]
     (.call [((.o2 .band (.o2 .band (.o2 .band (.o2 .eq (.o1 (.fld 1) (.var 0)) (.int 0)) (.o2 .eq (.o1 (.fld 4) (.var 0)) (.int 0))) (.o1 .not (.o1 (.fld 5) (.var 0)))) (.o2 .eq (.o1 .len (.o1 (.fld 6) (.var 0))) (.int 0))), true), ((.o2 .band (.var 1) (.o2 .eq (.o1 (.fld 3) (.var 0)) (.int (-1)))), false), ((.o2 .eq (.o1 (.fld 2) (.var 0)) (.int 0)), true)] (.fn 73) [.sc (.int .i64) (.o1 (.fld 3) (.var 0)), .sc (.int .i64) (.int 0), .sc (.int .i64) (.int 2)] [.sc .bool]
     (.ret [(.o2 .band (.o2 .band (.o2 .band (.o2 .band (.o2 .eq (.o1 (.fld 1) (.var 0)) (.int 0)) (.o2 .eq (.o1 (.fld 4) (.var 0)) (.int 0))) (.o1 .not (.o1 (.fld 5) (.var 0)))) (.o2 .eq (.o1 .len (.o1 (.fld 6) (.var 0))) (.int 0))) (.o2 .bor (.o2 .band (.var 1) (.o2 .eq (.o1 (.fld 3) (.var 0)) (.int (-1)))) (.o2 .band (.o2 .eq (.o1 (.fld 2) (.var 0)) (.int 0)) (.var 2))))])))
     (.br (.o2 .eq (.o1 (.fld 0) (.var 0)) (.int 7))
      (.call [((.o2 .band (.o2 .band (.o2 .band (.o2 .band (.o2 .eq (.o1 (.fld 1) (.var 0)) (.int 0)) (.o2 .eq (.o1 (.fld 2) (.var 0)) (.int 0))) (.o2 .eq (.o1 (.fld 3) (.var 0)) (.int (-1)))) (.o1 .not (.o1 (.fld 5) (.var 0)))) (.o2 .eq (.o1 .len (.o1 (.fld 6) (.var 0))) (.int 0))), true)] (.fn 73) [.sc (.int .i64) (.o1 (.fld 4) (.var 0)), .sc (.int .i64) (.int 1), .sc (.int .i64) (.int 4)] [.sc .bool]
      (.ret [(.o2 .band (.o2 .band (.o2 .band (.o2 .band (.o2 .band (.o2 .eq (.o1 (.fld 1) (.var 0)) (.int 0)) (.o2 .eq (.o1 (.fld 2) (.var 0)) (.int 0))) (.o2 .eq (.o1 (.fld 3) (.var 0)) (.int (-1)))) (.o1 .not (.o1 (.fld 5) (.var 0)))) (.o2 .eq (.o1 .len (.o1 (.fld 6) (.var 0))) (.int 0))) (.var 1))]))
      (.br (.o2 .eq (.o1 (.fld 0) (.var 0)) (.int 8))
       (.call [] (.fn 73) [.sc (.int .i64) (.o1 (.fld 1) (.var 0)), .sc (.int .i64) (.int 0), .sc (.int .i64) (.int 99)] [.sc .bool]
       (.ret [(.o2 .band (.o2 .band (.o2 .band (.o2 .band (.var 1) (.o2 .eq (.o1 (.fld 2) (.var 0)) (.int 0))) (.o2 .eq (.o1 (.fld 3) (.var 0)) (.int (-1)))) (.o2 .eq (.o1 (.fld 4) (.var 0)) (.int 0))) (.o2 .eq (.o1 .len (.o1 (.fld 6) (.var 0))) (.int 0)))]))
       (.br (.o2 .eq (.o1 (.fld 0) (.var 0)) (.int 9))
        (.loop 0 [(.int 0)]
         (.know (.o1 (.fld 6) (.var 0))
         (.br (.o2 .lt (.var 1) (.o1 .len (.o1 (.fld 6) (.var 0))))
          (.need [] (.o2 .le (.int 0) (.var 1))
          (.need [] (.o2 .lt (.var 1) (.o1 .len (.o1 (.fld 6) (.var 0))))
          (.call [] (.fn 125) [.st [(.int .i64), (.int .i64), (.int .i64), (.int .i64), (.int .i64), (.int .i64), .bool] (.o2 .cons (.o1 (.fld 0) (.o2 .idx (.o1 (.fld 6) (.var 0)) (.var 1))) (.o2 .cons (.o1 (.fld 1) (.o2 .idx (.o1 (.fld 6) (.var 0)) (.var 1))) (.o2 .cons (.o1 (.fld 2) (.o2 .idx (.o1 (.fld 6) (.var 0)) (.var 1))) (.o2 .cons (.o1 (.fld 3) (.o2 .idx (.o1 (.fld 6) (.var 0)) (.var 1))) (.o2 .cons (.o1 (.fld 4) (.o2 .idx (.o1 (.fld 6) (.var 0)) (.var 1))) (.o2 .cons (.o1 (.fld 5) (.o2 .idx (.o1 (.fld 6) (.var 0)) (.var 1))) (.o2 .cons (.o1 (.fld 6) (.o2 .idx (.o1 (.fld 6) (.var 0)) (.var 1))) .nil)))))))] [.sc .bool]
          (.br (.o1 .not (.var 2))
           (.ret [(.bool false)])
           (.cont 0 [(.o2 (.add .i64) (.var 1) (.int 1))])))))
          (.call [((.o2 .band (.o2 .band (.o2 .band (.o2 .band (.o2 .eq (.o1 (.fld 1) (.var 0)) (.int 0)) (.o2 .eq (.o1 (.fld 2) (.var 0)) (.int 0))) (.o2 .eq (.o1 (.fld 3) (.var 0)) (.int (-1)))) (.o2 .eq (.o1 (.fld 4) (.var 0)) (.int 0))) (.o1 .not (.o1 (.fld 5) (.var 0)))), true)] (.fn 73) [.sc (.int .i64) (.o1 .len (.o1 (.fld 6) (.var 0))), .sc (.int .i64) (.int 1), .sc (.int .i64) (.int 3)] [.sc .bool]
          (.ret [(.o2 .band (.o2 .band (.o2 .band (.o2 .band (.o2 .band (.o2 .eq (.o1 (.fld 1) (.var 0)) (.int 0)) (.o2 .eq (.o1 (.fld 2) (.var 0)) (.int 0))) (.o2 .eq (.o1 (.fld 3) (.var 0)) (.int (-1)))) (.o2 .eq (.o1 (.fld 4) (.var 0)) (.int 0))) (.o1 .not (.o1 (.fld 5) (.var 0)))) (.var 2))])))))
        (.ret [(.bool false)])))))))
  (.br (.o2 .eq (.o1 (.fld 0) (.var 0)) (.int 4))
   (.br (.o2 .eq (.o1 (.fld 0) (.var 0)) (.int 4))
    (.call [] (.fn 124) [.st [(.int .i64), (.int .i64), (.int .i64), (.int .i64), (.int .i64), .bool, (.sl [(.int .i64), (.int .i64), (.int .i64), (.int .i64), (.int .i64), (.int .i64), .bool])] (.o2 .cons (.o1 (.fld 0) (.var 0)) (.o2 .cons (.o1 (.fld 1) (.var 0)) (.o2 .cons (.o1 (.fld 2) (.var 0)) (.o2 .cons (.o1 (.fld 3) (.var 0)) (.o2 .cons (.o1 (.fld 4) (.var 0)) (.o2 .cons (.o1 (.fld 5) (.var 0)) (.o2 .cons (.o1 (.fld 6) (.var 0)) .nil)))))))] [.sc .bool]
    (.ret [(.o2 .band (.var 1) (.o2 .eq (.o1 (.fld 1) (.var 0)) (.int 0)))]))
    (.br (.o2 .eq (.o1 (.fld 0) (.var 0)) (.int 3))
     (.call [] (.fn 124) [.st [(.int .i64), (.int .i64), (.int .i64), (.int .i64), (.int .i64), .bool, (.sl [(.int .i64), (.int .i64), (.int .i64), (.int .i64), (.int .i64), (.int .i64), .bool])] (.o2 .cons (.o1 (.fld 0) (.var 0)) (.o2 .cons (.o1 (.fld 1) (.var 0)) (.o2 .cons (.o1 (.fld 2) (.var 0)) (.o2 .cons (.o1 (.fld 3) (.var 0)) (.o2 .cons (.o1 (.fld 4) (.var 0)) (.o2 .cons (.o1 (.fld 5) (.var 0)) (.o2 .cons (.o1 (.fld 6) (.var 0)) .nil)))))))] [.sc .bool]
     (.call [((.var 1), true)] (.fn 73) [.sc (.int .i64) (.o1 (.fld 1) (.var 0)), .sc (.int .i64) (.int 1), .sc (.int .i64) (.int 2147483647)] [.sc .bool]
     (.ret [(.o2 .band (.var 1) (.var 2))])))
     (.br (.o2 .eq (.o1 (.fld 0) (.var 0)) (.int 6))
      (.call [((.o2 .band (.o2 .band (.o2 .band (.o2 .eq (.o1 (.fld 1) (.var 0)) (.int 0)) (.o2 .eq (.o1 (.fld 4) (.var 0)) (.int 0))) (.o1 .not (.o1 (.fld 5) (.var 0)))) (.o2 .eq (.o1 .len (.o1 (.fld 6) (.var 0))) (.int 0))), true)] (.fn 73) [.sc (.int .i64) (.o1 (.fld 2) (.var 0)), .sc (.int .i64) (.int 1), .sc (.int .i64) (.int 99)] [.sc .bool]
      (.call [((.o2 .band (.o2 .band (.o2 .band (.o2 .eq (.o1 (.fld 1) (.var 0)) (.int 0)) (.o2 .eq (.o1 (.fld 4) (.var 0)) (.int 0))) (.o1 .not (.o1 (.fld 5) (.var 0)))) (.o2 .eq (.o1 .len (.o1 (.fld 6) (.var 0))) (.int 0))), true), ((.o2 .band (.var 1) (.o2 .eq (.o1 (.fld 3) (.var 0)) (.int (-1)))), false), ((.o2 .eq (.o1 (.fld 2) (.var 0)) (.int 0)), true)] (.fn 73) [.sc (.int .i64) (.o1 (.fld 3) (.var 0)), .sc (.int .i64) (.int 0), .sc (.int .i64) (.int 2)] [.sc .bool]
      (.ret [(.o2 .band (.o2 .band (.o2 .band (.o2 .band (.o2 .eq (.o1 (.fld 1) (.var 0)) (.int 0)) (.o2 .eq (.o1 (.fld 4) (.var 0)) (.int 0))) (.o1 .not (.o1 (.fld 5) (.var 0)))) (.o2 .eq (.o1 .len (.o1 (.fld 6) (.var 0))) (.int 0))) (.o2 .bor (.o2 .band (.var 1) (.o2 .eq (.o1 (.fld 3) (.var 0)) (.int (-1)))) (.o2 .band (.o2 .eq (.o1 (.fld 2) (.var 0)) (.int 0)) (.var 2))))])))
      (.br (.o2 .eq (.o1 (.fld 0) (.var 0)) (.int 7))
       (.call [((.o2 .band (.o2 .band (.o2 .band (.o2 .band (.o2 .eq (.o1 (.fld 1) (.var 0)) (.int 0)) (.o2 .eq (.o1 (.fld 2) (.var 0)) (.int 0))) (.o2 .eq (.o1 (.fld 3) (.var 0)) (.int (-1)))) (.o1 .not (.o1 (.fld 5) (.var 0)))) (.o2 .eq (.o1 .len (.o1 (.fld 6) (.var 0))) (.int 0))), true)] (.fn 73) [.sc (.int .i64) (.o1 (.fld 4) (.var 0)), .sc (.int .i64) (.int 1), .sc (.int .i64) (.int 4)] [.sc .bool]
       (.ret [(.o2 .band (.o2 .band (.o2 .band (.o2 .band (.o2 .band (.o2 .eq (.o1 (.fld 1) (.var 0)) (.int 0)) (.o2 .eq (.o1 (.fld 2) (.var 0)) (.int 0))) (.o2 .eq (.o1 (.fld 3) (.var 0)) (.int (-1)))) (.o1 .not (.o1 (.fld 5) (.var 0)))) (.o2 .eq (.o1 .len (.o1 (.fld 6) (.var 0))) (.int 0))) (.var 1))]))
       (.br (.o2 .eq (.o1 (.fld 0) (.var 0)) (.int 8))
        (.call [] (.fn 73) [.sc (.int .i64) (.o1 (.fld 1) (.var 0)), .sc (.int .i64) (.int 0), .sc (.int .i64) (.int 99)] [.sc .bool]
        (.ret [(.o2 .band (.o2 .band (.o2 .band (.o2 .band (.var 1) (.o2 .eq (.o1 (.fld 2) (.var 0)) (.int 0))) (.o2 .eq (.o1 (.fld 3) (.var 0)) (.int (-1)))) (.o2 .eq (.o1 (.fld 4) (.var 0)) (.int 0))) (.o2 .eq (.o1 .len (.o1 (.fld 6) (.var 0))) (.int 0)))]))
        (.br (.o2 .eq (.o1 (.fld 0) (.var 0)) (.int 9))
         (.loop 0 [(.int 0)]
          (.know (.o1 (.fld 6) (.var 0))
          (.br (.o2 .lt (.var 1) (.o1 .len (.o1 (.fld 6) (.var 0))))
           (.need [] (.o2 .le (.int 0) (.var 1))
           (.need [] (.o2 .lt (.var 1) (.o1 .len (.o1 (.fld 6) (.var 0))))
           (.call [] (.fn 125) [.st [(.int .i64), (.int .i64), (.int .i64), (.int .i64), (.int .i64), (.int .i64), .bool] (.o2 .cons (.o1 (.fld 0) (.o2 .idx (.o1 (.fld 6) (.var 0)) (.var 1))) (.o2 .cons (.o1 (.fld 1) (.o2 .idx (.o1 (.fld 6) (.var 0)) (.var 1))) (.o2 .cons (.o1 (.fld 2) (.o2 .idx (.o1 (.fld 6) (.var 0)) (.var 1))) (.o2 .cons (.o1 (.fld 3) (.o2 .idx (.o1 (.fld 6) (.var 0)) (.var 1))) (.o2 .cons (.o1 (.fld 4) (.o2 .idx (.o1 (.fld 6) (.var 0)) (.var 1))) (.o2 .cons (.o1 (.fld 5) (.o2 .idx (.o1 (.fld 6) (.var 0)) (.var 1))) (.o2 .cons (.o1 (.fld 6) (.o2 .idx (.o1 (.fld 6) (.var 0)) (.var 1))) .nil)))))))] [.sc .bool]
           (.br (.o1 .not (.var 2))
            (.ret [(.bool false)])
            (.cont 0 [(.o2 (.add .i64) (.var 1) (.int 1))])))))
           (.call [((.o2 .band (.o2 .band (.o2 .band (.o2 .band (.o2 .eq (.o1 (.fld 1) (.var 0)) (.int 0)) (.o2 .eq (.o1 (.fld 2) (.var 0)) (.int 0))) (.o2 .eq (.o1 (.fld 3) (.var 0)) (.int (-1)))) (.o2 .eq (.o1 (.fld 4) (.var 0)) (.int 0))) (.o1 .not (.o1 (.fld 5) (.var 0)))), true)] (.fn 73) [.sc (.int .i64) (.o1 .len (.o1 (.fld 6) (.var 0))), .sc (.int .i64) (.int 1), .sc (.int .i64) (.int 3)] [.sc .bool]
           (.ret [(.o2 .band (.o2 .band (.o2 .band (.o2 .band (.o2 .band (.o2 .eq (.o1 (.fld 1) (.var 0)) (.int 0)) (.o2 .eq (.o1 (.fld 2) (.var 0)) (.int 0))) (.o2 .eq (.o1 (.fld 3) (.var 0)) (.int (-1)))) (.o2 .eq (.o1 (.fld 4) (.var 0)) (.int 0))) (.o1 .not (.o1 (.fld 5) (.var 0)))) (.var 2))])))))
         (.ret [(.bool false)])))))))
   (.br (.o2 .eq (.o1 (.fld 0) (.var 0)) (.int 5))
    (.call [] (.fn 124) [.st [(.int .i64), (.int .i64), (.int .i64), (.int .i64), (.int .i64), .bool, (.sl [(.int .i64), (.int .i64), (.int .i64), (.int .i64), (.int .i64), (.int .i64), .bool])] (.o2 .cons (.o1 (.fld 0) (.var 0)) (.o2 .cons (.o1 (.fld 1) (.var 0)) (.o2 .cons (.o1 (.fld 2) (.var 0)) (.o2 .cons (.o1 (.fld 3) (.var 0)) (.o2 .cons (.o1 (.fld 4) (.var 0)) (.o2 .cons (.o1 (.fld 5) (.var 0)) (.o2 .cons (.o1 (.fld 6) (.var 0)) .nil)))))))] [.sc .bool]
    (.ret [(.o2 .band (.var 1) (.o2 .eq (.o1 (.fld 1) (.var 0)) (.int 0)))]))
    (.br (.o2 .eq (.o1 (.fld 0) (.var 0)) (.int 3))
     (.call [] (.fn 124) [.st [(.int .i64), (.int .i64), (.int .i64), (.int .i64), (.int .i64), .bool, (.sl [(.int .i64), (.int .i64), (.int .i64), (.int .i64), (.int .i64), (.int .i64), .bool])] (.o2 .cons (.o1 (.fld 0) (.var 0)) (.o2 .cons (.o1 (.fld 1) (.var 0)) (.o2 .cons (.o1 (.fld 2) (.var 0)) (.o2 .cons (.o1 (.fld 3) (.var 0)) (.o2 .cons (.o1 (.fld 4) (.var 0)) (.o2 .cons (.o1 (.fld 5) (.var 0)) (.o2 .cons (.o1 (.fld 6) (.var 0)) .nil)))))))] [.sc .bool]
     (.call [((.var 1), true)] (.fn 73) [.sc (.int .i64) (.o1 (.fld 1) (.var 0)), .sc (.int .i64) (.int 1), .sc (.int .i64) (.int 2147483647)] [.sc .bool]
     (.ret [(.o2 .band (.var 1) (.var 2))])))
     (.br (.o2 .eq (.o1 (.fld 0) (.var 0)) (.int 6))
      (.call [((.o2 .band (.o2 .band (.o2 .band (.o2 .eq (.o1 (.fld 1) (.var 0)) (.int 0)) (.o2 .eq (.o1 (.fld 4) (.var 0)) (.int 0))) (.o1 .not (.o1 (.fld 5) (.var 0)))) (.o2 .eq (.o1 .len (.o1 (.fld 6) (.var 0))) (.int 0))), true)] (.fn 73) [.sc (.int .i64) (.o1 (.fld 2) (.var 0)), .sc (.int .i64) (.int 1), .sc (.int .i64) (.int 99)] [.sc .bool]
      (.call [((.o2 .band (.o2 .band (.o2 .band (.o2 .eq (.o1 (.fld 1) (.var 0)) (.int 0)) (.o2 .eq (.o1 (.fld 4) (.var 0)) (.int 0))) (.o1 .not (.o1 (.fld 5) (.var 0)))) (.o2 .eq (.o1 .len (.o1 (.fld 6) (.var 0))) (.int 0))), true), ((.o2 .band (.var 1) (.o2 .eq (.o1 (.fld 3) (.var 0)) (.int (-1)))), false), ((.o2 .eq (.o1 (.fld 2) (.var 0)) (.int 0)), true)] (.fn 73) [.sc (.int .i64) (.o1 (.fld 3) (.var 0)), .sc (.int .i64) (.int 0), .sc (.int .i64) (.int 2)] [.sc .bool]
      (.ret [(.o2 .band (.o2 .band (.o2 .band (.o2 .band (.o2 .eq (.o1 (.fld 1) (.var 0)) (.int 0)) (.o2 .eq (.o1 (.fld 4) (.var 0)) (.int 0))) (.o1 .not (.o1 (.fld 5) (.var 0)))) (.o2 .eq (.o1 .len (.o1 (.fld 6) (.var 0))) (.int 0))) (.o2 .bor (.o2 .band (.var 1) (.o2 .eq (.o1 (.fld 3) (.var 0)) (.int (-1)))) (.o2 .band (.o2 .eq (.o1 (.fld 2) (.var 0)) (.int 0)) (.var 2))))])))
      (.br (.o2 .eq (.o1 (.fld 0) (.var 0)) (.int 7))
       (.call [((.o2 .band (.o2 .band (.o2 .band (.o2 .band (.o2 .eq (.o1 (.fld 1) (.var 0)) (.int 0)) (.o2 .eq (.o1 (.fld 2) (.var 0)) (.int 0))) (.o2 .eq (.o1 (.fld 3) (.var 0)) (.int (-1)))) (.o1 .not (.o1 (.fld 5) (.var 0)))) (.o2 .eq (.o1 .len (.o1 (.fld 6) (.var 0))) (.int 0))), true)] (.fn 73) [.sc (.int .i64) (.o1 (.fld 4) (.var 0)), .sc (.int .i64) (.int 1), .sc (.int .i64) (.int 4)] [.sc .bool]
       (.ret [(.o2 .band (.o2 .band (.o2 .band (.o2 .band (.o2 .band (.o2 .eq (.o1 (.fld 1) (.var 0)) (.int 0)) (.o2 .eq (.o1 (.fld 2) (.var 0)) (.int 0))) (.o2 .eq (.o1 (.fld 3) (.var 0)) (.int (-1)))) (.o1 .not (.o1 (.fld 5) (.var 0)))) (.o2 .eq (.o1 .len (.o1 (.fld 6) (.var 0))) (.int 0))) (.var 1))]))
       (.br (.o2 .eq (.o1 (.fld 0) (.var 0)) (.int 8))
        (.call [] (.fn 73) [.sc (.int .i64) (.o1 (.fld 1) (.var 0)), .sc (.int .i64) (.int 0), .sc (.int .i64) (.int 99)] [.sc .bool]
        (.ret [(.o2 .band (.o2 .band (.o2 .band (.o2 .band (.var 1) (.o2 .eq (.o1 (.fld 2) (.var 0)) (.int 0))) (.o2 .eq (.o1 (.fld 3) (.var 0)) (.int (-1)))) (.o2 .eq (.o1 (.fld 4) (.var 0)) (.int 0))) (.o2 .eq (.o1 .len (.o1 (.fld 6) (.var 0))) (.int 0)))]))
        (.br (.o2 .eq (.o1 (.fld 0) (.var 0)) (.int 9))
         (.loop 0 [(.int 0)]
          (.know (.o1 (.fld 6) (.var 0))
          (.br (.o2 .lt (.var 1) (.o1 .len (.o1 (.fld 6) (.var 0))))
           (.need [] (.o2 .le (.int 0) (.var 1))
           (.need [] (.o2 .lt (.var 1) (.o1 .len (.o1 (.fld 6) (.var 0))))
           (.call [] (.fn 125) [.st [(.int .i64), (.int .i64), (.int .i64), (.int .i64), (.int .i64), (.int .i64), .bool] (.o2 .cons (.o1 (.fld 0) (.o2 .idx (.o1 (.fld 6) (.var 0)) (.var 1))) (.o2 .cons (.o1 (.fld 1) (.o2 .idx (.o1 (.fld 6) (.var 0)) (.var 1))) (.o2 .cons (.o1 (.fld 2) (.o2 .idx (.o1 (.fld 6) (.var 0)) (.var 1))) (.o2 .cons (.o1 (.fld 3) (.o2 .idx (.o1 (.fld 6) (.var 0)) (.var 1))) (.o2 .cons (.o1 (.fld 4) (.o2 .idx (.o1 (.fld 6) (.var 0)) (.var 1))) (.o2 .cons (.o1 (.fld 5) (.o2 .idx (.o1 (.fld 6) (.var 0)) (.var 1))) (.o2 .cons (.o1 (.fld 6) (.o2 .idx (.o1 (.fld 6) (.var 0)) (.var 1))) .nil)))))))] [.sc .bool]
           (.br (.o1 .not (.var 2))
            (.ret [(.bool false)])
            (.cont 0 [(.o2 (.add .i64) (.var 1) (.int 1))])))))
           (.call [((.o2 .band (.o2 .band (.o2 .band (.o2 .band (.o2 .eq (.o1 (.fld 1) (.var 0)) (.int 0)) (.o2 .eq (.o1 (.fld 2) (.var 0)) (.int 0))) (.o2 .eq (.o1 (.fld 3) (.var 0)) (.int (-1)))) (.o2 .eq (.o1 (.fld 4) (.var 0)) (.int 0))) (.o1 .not (.o1 (.fld 5) (.var 0)))), true)] (.fn 73) [.sc (.int .i64) (.o1 .len (.o1 (.fld 6) (.var 0))), .sc (.int .i64) (.int 1), .sc (.int .i64) (.int 3)] [.sc .bool]
           (.ret [(.o2 .band (.o2 .band (.o2 .band (.o2 .band (.o2 .band (.o2 .eq (.o1 (.fld 1) (.var 0)) (.int 0)) (.o2 .eq (.o1 (.fld 2) (.var 0)) (.int 0))) (.o2 .eq (.o1 (.fld 3) (.var 0)) (.int (-1)))) (.o2 .eq (.o1 (.fld 4) (.var 0)) (.int 0))) (.o1 .not (.o1 (.fld 5) (.var 0)))) (.var 2))])))))
         (.ret [(.bool false)]))))))))))
theorem sig_76 : sigOf Try.prog md 76 [] = some ([.st [(.int .i64), (.int .i64), (.int .i64), (.int .i64), (.int .i64), .bool, (.sl [(.int .i64), (.int .i64), (.int .i64), (.int .i64), (.int .i64), (.int .i64), .bool])]], [.sc .bool], tree_76) := by kernel_rfl
/- spec.ActFits -/
def tree_77 : T :=
(.call [] (.fn 73) [.sc (.int .i64) (.var 1), .sc (.int .i64) (.int 1), .sc (.int .i64) (.int 6)] [.sc .bool]
(.br (.o1 .not (.var 2))
 (.ret [(.bool false)])
 (.br (.o2 .eq (.o1 (.fld 0) (.var 0)) (.int 2))
  (.br (.o2 .eq (.o1 (.fld 0) (.var 0)) (.int 2))
   (.ret [(.o2 .eq (.var 1) (.int 1))])
   (.br (.o2 .eq (.o1 (.fld 0) (.var 0)) (.int 3))
    (.br (.o2 .eq (.o1 (.fld 0) (.var 0)) (.int 3))
     (.ret [(.o2 .ne (.var 1) (.int 2))])
     (.br (.o2 .eq (.o1 (.fld 0) (.var 0)) (.int 7))
      (.br (.o2 .eq (.o1 (.fld 0) (.var 0)) (.int 7))
       (.ret [(.o2 .eq (.var 1) (.int 2))])
       (.ret [(.o2 .bor (.o2 .eq (.o1 (.fld 0) (.var 0)) (.int 1)) (.o2 .eq (.o1 (.fld 0) (.var 0)) (.int 9)))]))
      (.br (.o2 .eq (.o1 (.fld 0) (.var 0)) (.int 8))
       (.ret [(.o2 .eq (.var 1) (.int 2))])
       (.ret [(.o2 .bor (.o2 .eq (.o1 (.fld 0) (.var 0)) (.int 1)) (.o2 .eq (.o1 (.fld 0) (.var 0)) (.int 9)))]))))
    (.br (.o2 .eq (.o1 (.fld 0) (.var 0)) (.int 4))
     (.br (.o2 .eq (.o1 (.fld 0) (.var 0)) (.int 4))
      (.ret [(.o2 .ne (.var 1) (.int 2))])
      (.br (.o2 .eq (.o1 (.fld 0) (.var 0)) (.int 7))
       (.br (.o2 .eq (.o1 (.fld 0) (.var 0)) (.int 7))
        (.ret [(.o2 .eq (.var 1) (.int 2))])
        (.ret [(.o2 .bor (.o2 .eq (.o1 (.fld 0) (.var 0)) (.int 1)) (.o2 .eq (.o1 (.fld 0) (.var 0)) (.int 9)))]))
       (.br (.o2 .eq (.o1 (.fld 0) (.var 0)) (.int 8))
        (.ret [(.o2 .eq (.var 1) (.int 2))])
        (.ret [(.o2 .bor (.o2 .eq (.o1 (.fld 0) (.var 0)) (.int 1)) (.o2 .eq (.o1 (.fld 0) (.var 0)) (.int 9)))]))))
     (.br (.o2 .eq (.o1 (.fld 0) (.var 0)) (.int 5))
      (.ret [(.o2 .ne (.var 1) (.int 2))])
      (.br (.o2 .eq (.o1 (.fld 0) (.var 0)) (.int 7))
       (.br (.o2 .eq (.o1 (.fld 0) (.var 0)) (.int 7))
        (.ret [(.o2 .eq (.var 1) (.int 2))])
        (.ret [(.o2 .bor (.o2 .eq (.o1 (.fld 0) (.var 0)) (.int 1)) (.o2 .eq (.o1 (.fld 0) (.var 0)) (.int 9)))]))
       (.br (.o2 .eq (.o1 (.fld 0) (.var 0)) (.int 8))
        (.ret [(.o2 .eq (.var 1) (.int 2))])
        (.ret [(.o2 .bor (.o2 .eq (.o1 (.fld 0) (.var 0)) (.int 1)) (.o2 .eq (.o1 (.fld 0) (.var 0)) (.int 9)))])))))))
  (.br (.o2 .eq (.o1 (.fld 0) (.var 0)) (.int 6))
   (.ret [(.o2 .eq (.var 1) (.int 1))])
   (.br (.o2 .eq (.o1 (.fld 0) (.var 0)) (.int 3))
    (.br (.o2 .eq (.o1 (.fld 0) (.var 0)) (.int 3))
     (.ret [(.o2 .ne (.var 1) (.int 2))])
     (.br (.o2 .eq (.o1 (.fld 0) (.var 0)) (.int 7))
      (.br (.o2 .eq (.o1 (.fld 0) (.var 0)) (.int 7))
       (.ret [(.o2 .eq (.var 1) (.int 2))])
       (.ret [(.o2 .bor (.o2 .eq (.o1 (.fld 0) (.var 0)) (.int 1)) (.o2 .eq (.o1 (.fld 0) (.var 0)) (.int 9)))]))
      (.br (.o2 .eq (.o1 (.fld 0) (.var 0)) (.int 8))
       (.ret [(.o2 .eq (.var 1) (.int 2))])
       (.ret [(.o2 .bor (.o2 .eq (.o1 (.fld 0) (.var 0)) (.int 1)) (.o2 .eq (.o1 (.fld 0) (.var 0)) (.int 9)))]))))
    (.br (.o2 .eq (.o1 (.fld 0) (.var 0)) (.int 4))
     (.br (.o2 .eq (.o1 (.fld 0) (.var 0)) (.int 4))
      (.ret [(.o2 .ne (.var 1) (.int 2))])
      (.br (.o2 .eq (.o1 (.fld 0) (.var 0)) (.int 7))
       (.br (.o2 .eq (.o1 (.fld 0) (.var 0)) (.int 7))
        (.ret [(.o2 .eq (.var 1) (.int 2))])
        (.ret [(.o2 .bor (.o2 .eq (.o1 (.fld 0) (.var 0)) (.int 1)) (.o2 .eq (.o1 (.fld 0) (.var 0)) (.int 9)))]))
       (.br (.o2 .eq (.o1 (.fld 0) (.var 0)) (.int 8))
        (.ret [(.o2 .eq (.var 1) (.int 2))])
        (.ret [(.o2 .bor (.o2 .eq (.o1 (.fld 0) (.var 0)) (.int 1)) (.o2 .eq (.o1 (.fld 0) (.var 0)) (.int 9)))]))))
     (.br (.o2 .eq (.o1 (.fld 0) (.var 0)) (.int 5))
      (.ret [(.o2 .ne (.var 1) (.int 2))])
      (.br (.o2 .eq (.o1 (.fld 0) (.var 0)) (.int 7))
       (.br (.o2 .eq (.o1 (.fld 0) (.var 0)) (.int 7))
        (.ret [(.o2 .eq (.var 1) (.int 2))])
        (.ret [(.o2 .bor (.o2 .eq (.o1 (.fld 0) (.var 0)) (.int 1)) (.o2 .eq (.o1 (.fld 0) (.var 0)) (.int 9)))]))
       (.br (.o2 .eq (.o1 (.fld 0) (.var 0)) (.int 8))
        (.ret [(.o2 .eq (.var 1) (.int 2))])
        (.ret [(.o2 .bor (.o2 .eq (.o1 (.fld 0) (.var 0)) (.int 1)) (.o2 .eq (.o1 (.fld 0) (.var 0)) (.int 9)))]))))))))))
theorem sig_77 : sigOf Try.prog md 77 [] = some ([.st [(.int .i64), (.int .i64), (.int .i64), (.int .i64), (.int .i64), .bool, (.sl [(.int .i64), (.int .i64), (.int .i64), (.int .i64), (.int .i64), (.int .i64), .bool])], .sc (.int .i64)], [.sc .bool], tree_77) := by kernel_rfl
/- spec.EffectOk -/
def tree_28 : T :=
(.call [] (.fn 73) [.sc (.int .i64) (.o1 (.fld 0) (.var 0)), .sc (.int .i64) (.int 1), .sc (.int .i64) (.int 99)] [.sc .bool]
(.call [((.o1 .not (.var 1)), false)] (.fn 73) [.sc (.int .i64) (.o1 (.fld 1) (.var 0)), .sc (.int .i64) (.int 0), .sc (.int .i64) (.int 2)] [.sc .bool]
(.call [((.o2 .bor (.o1 .not (.var 1)) (.o1 .not (.var 2))), false)] (.fn 73) [.sc (.int .i64) (.o1 (.fld 2) (.var 0)), .sc (.int .i64) (.int 0), .sc (.int .i64) (.int 99)] [.sc .bool]
(.call [((.o2 .bor (.o2 .bor (.o1 .not (.var 1)) (.o1 .not (.var 2))) (.o1 .not (.var 3))), false)] (.fn 73) [.sc (.int .i64) (.o1 (.fld 3) (.var 0)), .sc (.int .i64) (.int 0), .sc (.int .i64) (.int 4)] [.sc .bool]
(.call [((.o2 .bor (.o2 .bor (.o2 .bor (.o1 .not (.var 1)) (.o1 .not (.var 2))) (.o1 .not (.var 3))) (.o1 .not (.var 4))), false)] (.fn 73) [.sc (.int .i64) (.o1 (.fld 20) (.var 0)), .sc (.int .i64) (.int (-1)), .sc (.int .i64) (.int 9999)] [.sc .bool]
(.call [((.o2 .bor (.o2 .bor (.o2 .bor (.o2 .bor (.o1 .not (.var 1)) (.o1 .not (.var 2))) (.o1 .not (.var 3))) (.o1 .not (.var 4))) (.o1 .not (.var 5))), false)] (.fn 73) [.sc (.int .i64) (.o1 (.fld 21) (.var 0)), .sc (.int .i64) (.int (-1)), .sc (.int .i64) (.int 2147483647)] [.sc .bool]
(.br (.o2 .bor (.o2 .bor (.o2 .bor (.o2 .bor (.o2 .bor (.o1 .not (.var 1)) (.o1 .not (.var 2))) (.o1 .not (.var 3))) (.o1 .not (.var 4))) (.o1 .not (.var 5))) (.o1 .not (.var 6)))
 (.ret [(.bool false)])
 (.br (.o2 .bor (.o2 .band (.o2 .eq (.o1 (.fld 3) (.var 0)) (.int 0)) (.o2 .eq (.o1 (.fld 2) (.var 0)) (.int 0))) (.o2 .band (.o2 .eq (.o1 (.fld 13) (.var 0)) (.int 2)) (.o2 .lt (.o1 (.fld 21) (.var 0)) (.int 0))))
  (.ret [(.bool false)])
  (.call [] (.fn 74) [.st [(.int .i64), (.int .i64), (.int .i64), (.int .i64), (.int .i64), (.int .i64), (.int .i64)] (.o2 .cons (.o1 (.fld 4) (.var 0)) (.o2 .cons (.o1 (.fld 5) (.var 0)) (.o2 .cons (.o1 (.fld 6) (.var 0)) (.o2 .cons (.o1 (.fld 7) (.var 0)) (.o2 .cons (.o1 (.fld 8) (.var 0)) (.o2 .cons (.o1 (.fld 9) (.var 0)) (.o2 .cons (.o1 (.fld 10) (.var 0)) .nil)))))))] [.sc .bool]
  (.call [((.var 7), true)] (.fn 75) [.st [(.int .i64), (.int .i64)] (.o2 .cons (.o1 (.fld 11) (.var 0)) (.o2 .cons (.o1 (.fld 12) (.var 0)) .nil))] [.sc .bool]
  (.call [((.o2 .band (.var 7) (.var 8)), true)] (.fn 76) [.st [(.int .i64), (.int .i64), (.int .i64), (.int .i64), (.int .i64), .bool, (.sl [(.int .i64), (.int .i64), (.int .i64), (.int .i64), (.int .i64), (.int .i64), .bool])] (.o2 .cons (.o1 (.fld 13) (.var 0)) (.o2 .cons (.o1 (.fld 14) (.var 0)) (.o2 .cons (.o1 (.fld 15) (.var 0)) (.o2 .cons (.o1 (.fld 16) (.var 0)) (.o2 .cons (.o1 (.fld 17) (.var 0)) (.o2 .cons (.o1 (.fld 18) (.var 0)) (.o2 .cons (.o1 (.fld 19) (.var 0)) .nil)))))))] [.sc .bool]
  (.call [((.o2 .band (.o2 .band (.var 7) (.var 8)) (.var 9)), true)] (.fn 77) [.st [(.int .i64), (.int .i64), (.int .i64), (.int .i64), (.int .i64), .bool, (.sl [(.int .i64), (.int .i64), (.int .i64), (.int .i64), (.int .i64), (.int .i64), .bool])] (.o2 .cons (.o1 (.fld 13) (.var 0)) (.o2 .cons (.o1 (.fld 14) (.var 0)) (.o2 .cons (.o1 (.fld 15) (.var 0)) (.o2 .cons (.o1 (.fld 16) (.var 0)) (.o2 .cons (.o1 (.fld 17) (.var 0)) (.o2 .cons (.o1 (.fld 18) (.var 0)) (.o2 .cons (.o1 (.fld 19) (.var 0)) .nil))))))), .sc (.int .i64) (.o1 (.fld 4) (.var 0))] [.sc .bool]
  (.ret [(.o2 .band (.o2 .band (.o2 .band (.var 7) (.var 8)) (.var 9)) (.var 10))])))))))))))))
theorem sig_28 : sigOf Try.prog md 28 [] = some ([.st [(.int .i64), (.int .i64), (.int .i64), (.int .i64), (.int .i64), (.int .i64), (.int .i64), (.int .i64), (.int .i64), (.int .i64), (.int .i64), (.int .i64), (.int .i64), (.int .i64), (.int .i64), (.int .i64), (.int .i64), (.int .i64), .bool, (.sl [(.int .i64), (.int .i64), (.int .i64), (.int .i64), (.int .i64), (.int .i64), .bool]), (.int .i64), (.int .i64)]], [.sc .bool], tree_28) := by kernel_rfl
/- spec.TableOk -/
def tree_30 : T :=
(.loop 0 [(.int 0)]
 (.know (.var 0)
 (.br (.o2 .lt (.var 1) (.o1 .len (.var 0)))
  (.need [] (.o2 .le (.int 0) (.var 1))
  (.need [] (.o2 .lt (.var 1) (.o1 .len (.var 0)))
  (.call [] (.fn 28) [.st [(.int .i64), (.int .i64), (.int .i64), (.int .i64), (.int .i64), (.int .i64), (.int .i64), (.int .i64), (.int .i64), (.int .i64), (.int .i64), (.int .i64), (.int .i64), (.int .i64), (.int .i64), (.int .i64), (.int .i64), (.int .i64), .bool, (.sl [(.int .i64), (.int .i64), (.int .i64), (.int .i64), (.int .i64), (.int .i64), .bool]), (.int .i64), (.int .i64)] (.o2 .cons (.o1 (.fld 0) (.o2 .idx (.var 0) (.var 1))) (.o2 .cons (.o1 (.fld 1) (.o2 .idx (.var 0) (.var 1))) (.o2 .cons (.o1 (.fld 2) (.o2 .idx (.var 0) (.var 1))) (.o2 .cons (.o1 (.fld 3) (.o2 .idx (.var 0) (.var 1))) (.o2 .cons (.o1 (.fld 4) (.o2 .idx (.var 0) (.var 1))) (.o2 .cons (.o1 (.fld 5) (.o2 .idx (.var 0) (.var 1))) (.o2 .cons (.o1 (.fld 6) (.o2 .idx (.var 0) (.var 1))) (.o2 .cons (.o1 (.fld 7) (.o2 .idx (.var 0) (.var 1))) (.o2 .cons (.o1 (.fld 8) (.o2 .idx (.var 0) (.var 1))) (.o2 .cons (.o1 (.fld 9) (.o2 .idx (.var 0) (.var 1))) (.o2 .cons (.o1 (.fld 10) (.o2 .idx (.var 0) (.var 1))) (.o2 .cons (.o1 (.fld 11) (.o2 .idx (.var 0) (.var 1))) (.o2 .cons (.o1 (.fld 12) (.o2 .idx (.var 0) (.var 1))) (.o2 .cons (.o1 (.fld 13) (.o2 .idx (.var 0) (.var 1))) (.o2 .cons (.o1 (.fld 14) (.o2 .idx (.var 0) (.var 1))) (.o2 .cons (.o1 (.fld 15) (.o2 .idx (.var 0) (.var 1))) (.o2 .cons (.o1 (.fld 16) (.o2 .idx (.var 0) (.var 1))) (.o2 .cons (.o1 (.fld 17) (.o2 .idx (.var 0) (.var 1))) (.o2 .cons (.o1 (.fld 18) (.o2 .idx (.var 0) (.var 1))) (.o2 .cons (.o1 (.fld 19) (.o2 .idx (.var 0) (.var 1))) (.o2 .cons (.o1 (.fld 20) (.o2 .idx (.var 0) (.var 1))) (.o2 .cons (.o1 (.fld 21) (.o2 .idx (.var 0) (.var 1))) .nil))))))))))))))))))))))] [.sc .bool]
  (.need [((.o1 .not (.var 2)), false), ((.o2 .gt (.var 1) (.int 0)), true)] (.o2 .le (.int 0) (.o2 (.sub .i64) (.var 1) (.int 1)))
  (.need [((.o1 .not (.var 2)), false), ((.o2 .gt (.var 1) (.int 0)), true)] (.o2 .lt (.o2 (.sub .i64) (.var 1) (.int 1)) (.o1 .len (.var 0)))
  (.need [((.o1 .not (.var 2)), false), ((.o2 .gt (.var 1) (.int 0)), true)] (.o2 .le (.int 0) (.var 1))
  (.need [((.o1 .not (.var 2)), false), ((.o2 .gt (.var 1) (.int 0)), true)] (.o2 .lt (.var 1) (.o1 .len (.var 0)))
  (.br (.o2 .bor (.o1 .not (.var 2)) (.o2 .band (.o2 .gt (.var 1) (.int 0)) (.o2 .ge (.o1 (.fld 0) (.o2 .idx (.var 0) (.o2 (.sub .i64) (.var 1) (.int 1)))) (.o1 (.fld 0) (.o2 .idx (.var 0) (.var 1))))))
   (.ret [(.bool false)])
   (.cont 0 [(.o2 (.add .i64) (.var 1) (.int 1))])))))))))
  (.know (.var 0)
  (.ret [(.o2 .le (.o1 .len (.var 0)) (.int 5))])))))
theorem sig_30 : sigOf Try.prog md 30 [] = some ([.sc (.sl [(.int .i64), (.int .i64), (.int .i64), (.int .i64), (.int .i64), (.int .i64), (.int .i64), (.int .i64), (.int .i64), (.int .i64), (.int .i64), (.int .i64), (.int .i64), (.int .i64), (.int .i64), (.int .i64), (.int .i64), (.int .i64), .bool, (.sl [(.int .i64), (.int .i64), (.int .i64), (.int .i64), (.int .i64), (.int .i64), .bool]), (.int .i64), (.int .i64)])], [.sc .bool], tree_30) := by kernel_rfl
/- impl.from -/
def tree_80 : T :=
(.ret [(.o2 .band (.o2 .ge (.var 0) (.var 1)) (.o2 .le (.var 0) (.var 2)))])
theorem sig_80 : sigOf Try.prog md 80 [] = some ([.sc (.int .i64), .sc (.int .i64), .sc (.int .i64)], [.sc .bool], tree_80) := by kernel_rfl
/- impl.isId -/
def tree_78 : T :=
(.call [] (.fn 80) [.sc (.int .i64) (.var 0), .sc (.int .i64) (.int 1), .sc (.int .i64) (.int 99)] [.sc .bool]
(.ret [(.var 1)]))
theorem sig_78 : sigOf Try.prog md 78 [] = some ([.sc (.int .i64)], [.sc .bool], tree_78) := by kernel_rfl
/- impl.isPlayer -/
def tree_79 : T :=
(.call [] (.fn 80) [.sc (.int .i64) (.var 0), .sc (.int .i64) (.int 0), .sc (.int .i64) (.int 2)] [.sc .bool]
(.ret [(.var 1)]))
theorem sig_79 : sigOf Try.prog md 79 [] = some ([.sc (.int .i64)], [.sc .bool], tree_79) := by kernel_rfl
/- impl.isKind -/
def tree_126 : T :=
(.call [] (.fn 80) [.sc (.int .i64) (.var 0), .sc (.int .i64) (.int 1), .sc (.int .i64) (.int 6)] [.sc .bool]
(.ret [(.var 1)]))
theorem sig_126 : sigOf Try.prog md 126 [] = some ([.sc (.int .i64)], [.sc .bool], tree_126) := by kernel_rfl
/- impl.isTraits -/
def tree_127 : T :=
(.call [] (.fn 80) [.sc (.int .i64) (.var 0), .sc (.int .i64) (.int 0), .sc (.int .i64) (.int 63)] [.sc .bool]
(.ret [(.var 1)]))
theorem sig_127 : sigOf Try.prog md 127 [] = some ([.sc (.int .i64)], [.sc .bool], tree_127) := by kernel_rfl
/- impl.isAmount -/
def tree_128 : T :=
(.call [] (.fn 80) [.sc (.int .i64) (.var 0), .sc (.int .i64) (.int 0), .sc (.int .i64) (.int 2147483647)] [.sc .bool]
(.ret [(.var 1)]))
theorem sig_128 : sigOf Try.prog md 128 [] = some ([.sc (.int .i64)], [.sc .bool], tree_128) := by kernel_rfl
/- impl.PatOk -/
def tree_81 : T :=
(.call [] (.fn 126) [.sc (.int .i64) (.o1 (.fld 0) (.var 0))] [.sc .bool]
(.call [((.o1 .not (.var 1)), false)] (.fn 80) [.sc (.int .i64) (.o1 (.fld 1) (.var 0)), .sc (.int .i64) (.int 0), .sc (.int .i64) (.int 2)] [.sc .bool]
(.call [((.o2 .bor (.o1 .not (.var 1)) (.o1 .not (.var 2))), false)] (.fn 80) [.sc (.int .i64) (.o1 (.fld 2) (.var 0)), .sc (.int .i64) (.int 0), .sc (.int .i64) (.int 99)] [.sc .bool]
(.call [((.o2 .bor (.o2 .bor (.o1 .not (.var 1)) (.o1 .not (.var 2))) (.o1 .not (.var 3))), false)] (.fn 127) [.sc (.int .i64) (.o1 (.fld 3) (.var 0))] [.sc .bool]
(.call [((.o2 .bor (.o2 .bor (.o2 .bor (.o1 .not (.var 1)) (.o1 .not (.var 2))) (.o1 .not (.var 3))) (.o1 .not (.var 4))), false)] (.fn 80) [.sc (.int .i64) (.o1 (.fld 4) (.var 0)), .sc (.int .i64) (.int 0), .sc (.int .i64) (.int 99)] [.sc .bool]
(.call [((.o2 .bor (.o2 .bor (.o2 .bor (.o2 .bor (.o1 .not (.var 1)) (.o1 .not (.var 2))) (.o1 .not (.var 3))) (.o1 .not (.var 4))) (.o1 .not (.var 5))), false)] (.fn 128) [.sc (.int .i64) (.o1 (.fld 5) (.var 0))] [.sc .bool]
(.call [((.o2 .bor (.o2 .bor (.o2 .bor (.o2 .bor (.o2 .bor (.o1 .not (.var 1)) (.o1 .not (.var 2))) (.o1 .not (.var 3))) (.o1 .not (.var 4))) (.o1 .not (.var 5))) (.o1 .not (.var 6))), false)] (.fn 80) [.sc (.int .i64) (.o1 (.fld 6) (.var 0)), .sc (.int .i64) (.int 0), .sc (.int .i64) (.int 4)] [.sc .bool]
(.br (.o2 .bor (.o2 .bor (.o2 .bor (.o2 .bor (.o2 .bor (.o2 .bor (.o1 .not (.var 1)) (.o1 .not (.var 2))) (.o1 .not (.var 3))) (.o1 .not (.var 4))) (.o1 .not (.var 5))) (.o1 .not (.var 6))) (.o1 .not (.var 7)))
 (.ret [(.bool false)])
 (.br (.o2 .bor (.o2 .band (.o2 .ne (.o1 (.fld 0) (.var 0)) (.int 1)) (.o2 .bor (.o2 .ne (.o1 (.fld 2) (.var 0)) (.int 0)) (.o2 .ne (.o1 (.fld 3) (.var 0)) (.int 0)))) (.o2 .band (.o2 .ne (.o1 (.fld 0) (.var 0)) (.int 2)) (.o2 .ne (.o1 (.fld 6) (.var 0)) (.int 0))))
  (.ret [(.bool false)])
  (.ret [(.o2 .bor (.o2 .eq (.o1 (.fld 4) (.var 0)) (.int 0)) (.o2 .band (.o2 .ne (.o1 (.fld 0) (.var 0)) (.int 3)) (.o2 .ne (.o1 (.fld 0) (.var 0)) (.int 4))))]))))))))))
theorem sig_81 : sigOf Try.prog md 81 [] = some ([.st [(.int .i64), (.int .i64), (.int .i64), (.int .i64), (.int .i64), (.int .i64), (.int .i64)]], [.sc .bool], tree_81) := by kernel_rfl
/- impl.Bound -/
def tree_123 : T :=
(.ret [(.o2 .max (.int (-2147483647)) (.o2 .min (.var 0) (.int 2147483647)))])
theorem sig_123 : sigOf Try.prog md 123 [] = some ([.sc (.int .i64)], [.sc (.int .i64)], tree_123) := by kernel_rfl
/- impl.GuardOk -/
def tree_82 : T :=
(.br (.o2 .eq (.o1 (.fld 0) (.var 0)) (.int 0))
 (.br (.o2 .eq (.o1 (.fld 0) (.var 0)) (.int 0))
  (.ret [(.o2 .eq (.o1 (.fld 1) (.var 0)) (.int 0))])
  (.br (.o2 .eq (.o1 (.fld 0) (.var 0)) (.int 1))
   (.call [] (.fn 123) [.sc (.int .i64) (.o1 (.fld 1) (.var 0))] [.sc (.int .i64)]
   (.ret [(.o2 .eq (.var 1) (.o1 (.fld 1) (.var 0)))]))
   (.br (.o2 .eq (.o1 (.fld 0) (.var 0)) (.int 2))
    (.br (.o2 .eq (.o1 (.fld 0) (.var 0)) (.int 2))
     (.call [] (.fn 80) [.sc (.int .i64) (.o1 (.fld 1) (.var 0)), .sc (.int .i64) (.int 0), .sc (.int .i64) (.int 8)] [.sc .bool]
     (.ret [(.var 1)]))
     (.ret [(.bool false)]))
    (.br (.o2 .eq (.o1 (.fld 0) (.var 0)) (.int 4))
     (.call [] (.fn 80) [.sc (.int .i64) (.o1 (.fld 1) (.var 0)), .sc (.int .i64) (.int 0), .sc (.int .i64) (.int 8)] [.sc .bool]
     (.ret [(.var 1)]))
     (.ret [(.bool false)])))))
 (.br (.o2 .eq (.o1 (.fld 0) (.var 0)) (.int 3))
  (.ret [(.o2 .eq (.o1 (.fld 1) (.var 0)) (.int 0))])
  (.br (.o2 .eq (.o1 (.fld 0) (.var 0)) (.int 1))
   (.call [] (.fn 123) [.sc (.int .i64) (.o1 (.fld 1) (.var 0))] [.sc (.int .i64)]
   (.ret [(.o2 .eq (.var 1) (.o1 (.fld 1) (.var 0)))]))
   (.br (.o2 .eq (.o1 (.fld 0) (.var 0)) (.int 2))
    (.br (.o2 .eq (.o1 (.fld 0) (.var 0)) (.int 2))
     (.call [] (.fn 80) [.sc (.int .i64) (.o1 (.fld 1) (.var 0)), .sc (.int .i64) (.int 0), .sc (.int .i64) (.int 8)] [.sc .bool]
     (.ret [(.var 1)]))
     (.ret [(.bool false)]))
    (.br (.o2 .eq (.o1 (.fld 0) (.var 0)) (.int 4))
     (.call [] (.fn 80) [.sc (.int .i64) (.o1 (.fld 1) (.var 0)), .sc (.int .i64) (.int 0), .sc (.int .i64) (.int 8)] [.sc .bool]
     (.ret [(.var 1)]))
     (.ret [(.bool false)]))))))
theorem sig_82 : sigOf Try.prog md 82 [] = some ([.st [(.int .i64), (.int .i64)]], [.sc .bool], tree_82) := by kernel_rfl
/- impl.isZone -/
def tree_129 : T :=
(.call [] (.fn 80) [.sc (.int .i64) (.var 0), .sc (.int .i64) (.int 1), .sc (.int .i64) (.int 4)] [.sc .bool]
(.ret [(.var 1)]))
theorem sig_129 : sigOf Try.prog md 129 [] = some ([.sc (.int .i64)], [.sc .bool], tree_129) := by kernel_rfl
/- impl.onPiece -/
def tree_134 : T :=
(.call [] (.fn 78) [.sc (.int .i64) (.o1 (.fld 2) (.var 0))] [.sc .bool]
(.ret [(.o2 .band (.var 1) (.o2 .eq (.o1 (.fld 3) (.var 0)) (.int (-1))))]))
theorem sig_134 : sigOf Try.prog md 134 [] = some ([.st [(.int .i64), (.int .i64), (.int .i64), (.int .i64), (.int .i64), (.int .i64), .bool]], [.sc .bool], tree_134) := by kernel_rfl
/- impl.onPlayer -/
def tree_135 : T :=
(.call [((.o2 .eq (.o1 (.fld 2) (.var 0)) (.int 0)), true)] (.fn 79) [.sc (.int .i64) (.o1 (.fld 3) (.var 0))] [.sc .bool]
(.ret [(.o2 .band (.o2 .eq (.o1 (.fld 2) (.var 0)) (.int 0)) (.var 1))]))
theorem sig_135 : sigOf Try.prog md 135 [] = some ([.st [(.int .i64), (.int .i64), (.int .i64), (.int .i64), (.int .i64), (.int .i64), .bool]], [.sc .bool], tree_135) := by kernel_rfl
/- impl.EventOk -/
def tree_97 : T :=
(.call [] (.fn 128) [.sc (.int .i64) (.o1 (.fld 4) (.var 0))] [.sc .bool]
(.br (.o2 .bor (.o2 .bor (.o1 .not (.var 1)) (.o2 .band (.o2 .ne (.o1 (.fld 0) (.var 0)) (.int 1)) (.o2 .ne (.o1 (.fld 1) (.var 0)) (.int 0)))) (.o2 .band (.o2 .ne (.o1 (.fld 0) (.var 0)) (.int 2)) (.o2 .bor (.o2 .ne (.o1 (.fld 5) (.var 0)) (.int 0)) (.o1 (.fld 6) (.var 0)))))
 (.ret [(.bool false)])
 (.br (.o2 .eq (.o1 (.fld 0) (.var 0)) (.int 1))
  (.call [] (.fn 78) [.sc (.int .i64) (.o1 (.fld 1) (.var 0))] [.sc .bool]
  (.call [((.var 2), true)] (.fn 134) [.st [(.int .i64), (.int .i64), (.int .i64), (.int .i64), (.int .i64), (.int .i64), .bool] (.o2 .cons (.o1 (.fld 0) (.var 0)) (.o2 .cons (.o1 (.fld 1) (.var 0)) (.o2 .cons (.o1 (.fld 2) (.var 0)) (.o2 .cons (.o1 (.fld 3) (.var 0)) (.o2 .cons (.o1 (.fld 4) (.var 0)) (.o2 .cons (.o1 (.fld 5) (.var 0)) (.o2 .cons (.o1 (.fld 6) (.var 0)) .nil)))))))] [.sc .bool]
  (.call [((.var 2), true), ((.var 3), false)] (.fn 135) [.st [(.int .i64), (.int .i64), (.int .i64), (.int .i64), (.int .i64), (.int .i64), .bool] (.o2 .cons (.o1 (.fld 0) (.var 0)) (.o2 .cons (.o1 (.fld 1) (.var 0)) (.o2 .cons (.o1 (.fld 2) (.var 0)) (.o2 .cons (.o1 (.fld 3) (.var 0)) (.o2 .cons (.o1 (.fld 4) (.var 0)) (.o2 .cons (.o1 (.fld 5) (.var 0)) (.o2 .cons (.o1 (.fld 6) (.var 0)) .nil)))))))] [.sc .bool]
  (.ret [(.o2 .band (.var 2) (.o2 .bor (.var 3) (.var 4)))]))))
  (.br (.o2 .eq (.o1 (.fld 0) (.var 0)) (.int 2))
   (.br (.o2 .eq (.o1 (.fld 5) (.var 0)) (.int 2))
    (.call [] (.fn 134) [.st [(.int .i64), (.int .i64), (.int .i64), (.int .i64), (.int .i64), (.int .i64), .bool] (.o2 .cons (.o1 (.fld 0) (.var 0)) (.o2 .cons (.o1 (.fld 1) (.var 0)) (.o2 .cons (.o1 (.fld 2) (.var 0)) (.o2 .cons (.o1 (.fld 3) (.var 0)) (.o2 .cons (.o1 (.fld 4) (.var 0)) (.o2 .cons (.o1 (.fld 5) (.var 0)) (.o2 .cons (.o1 (.fld 6) (.var 0)) .nil)))))))] [.sc .bool]
    (.ret [(.o2 .band (.var 2) (.o2 .le (.o1 (.fld 4) (.var 0)) (.int 99)))]))
    (.call [] (.fn 134) [.st [(.int .i64), (.int .i64), (.int .i64), (.int .i64), (.int .i64), (.int .i64), .bool] (.o2 .cons (.o1 (.fld 0) (.var 0)) (.o2 .cons (.o1 (.fld 1) (.var 0)) (.o2 .cons (.o1 (.fld 2) (.var 0)) (.o2 .cons (.o1 (.fld 3) (.var 0)) (.o2 .cons (.o1 (.fld 4) (.var 0)) (.o2 .cons (.o1 (.fld 5) (.var 0)) (.o2 .cons (.o1 (.fld 6) (.var 0)) .nil)))))))] [.sc .bool]
    (.call [((.var 2), true)] (.fn 129) [.sc (.int .i64) (.o1 (.fld 5) (.var 0))] [.sc .bool]
    (.ret [(.o2 .band (.o2 .band (.o2 .band (.var 2) (.var 3)) (.o2 .eq (.o1 (.fld 4) (.var 0)) (.int 0))) (.o1 .not (.o1 (.fld 6) (.var 0))))]))))
   (.br (.o2 .eq (.o1 (.fld 0) (.var 0)) (.int 3))
    (.br (.o2 .eq (.o1 (.fld 0) (.var 0)) (.int 3))
     (.call [] (.fn 135) [.st [(.int .i64), (.int .i64), (.int .i64), (.int .i64), (.int .i64), (.int .i64), .bool] (.o2 .cons (.o1 (.fld 0) (.var 0)) (.o2 .cons (.o1 (.fld 1) (.var 0)) (.o2 .cons (.o1 (.fld 2) (.var 0)) (.o2 .cons (.o1 (.fld 3) (.var 0)) (.o2 .cons (.o1 (.fld 4) (.var 0)) (.o2 .cons (.o1 (.fld 5) (.var 0)) (.o2 .cons (.o1 (.fld 6) (.var 0)) .nil)))))))] [.sc .bool]
     (.ret [(.var 2)]))
     (.br (.o2 .eq (.o1 (.fld 0) (.var 0)) (.int 5))
      (.br (.o2 .eq (.o1 (.fld 0) (.var 0)) (.int 5))
       (.call [] (.fn 134) [.st [(.int .i64), (.int .i64), (.int .i64), (.int .i64), (.int .i64), (.int .i64), .bool] (.o2 .cons (.o1 (.fld 0) (.var 0)) (.o2 .cons (.o1 (.fld 1) (.var 0)) (.o2 .cons (.o1 (.fld 2) (.var 0)) (.o2 .cons (.o1 (.fld 3) (.var 0)) (.o2 .cons (.o1 (.fld 4) (.var 0)) (.o2 .cons (.o1 (.fld 5) (.var 0)) (.o2 .cons (.o1 (.fld 6) (.var 0)) .nil)))))))] [.sc .bool]
       (.ret [(.var 2)]))
       (.ret [(.bool false)]))
      (.br (.o2 .eq (.o1 (.fld 0) (.var 0)) (.int 6))
       (.call [] (.fn 134) [.st [(.int .i64), (.int .i64), (.int .i64), (.int .i64), (.int .i64), (.int .i64), .bool] (.o2 .cons (.o1 (.fld 0) (.var 0)) (.o2 .cons (.o1 (.fld 1) (.var 0)) (.o2 .cons (.o1 (.fld 2) (.var 0)) (.o2 .cons (.o1 (.fld 3) (.var 0)) (.o2 .cons (.o1 (.fld 4) (.var 0)) (.o2 .cons (.o1 (.fld 5) (.var 0)) (.o2 .cons (.o1 (.fld 6) (.var 0)) .nil)))))))] [.sc .bool]
       (.ret [(.var 2)]))
       (.ret [(.bool false)]))))
    (.br (.o2 .eq (.o1 (.fld 0) (.var 0)) (.int 4))
     (.call [] (.fn 135) [.st [(.int .i64), (.int .i64), (.int .i64), (.int .i64), (.int .i64), (.int .i64), .bool] (.o2 .cons (.o1 (.fld 0) (.var 0)) (.o2 .cons (.o1 (.fld 1) (.var 0)) (.o2 .cons (.o1 (.fld 2) (.var 0)) (.o2 .cons (.o1 (.fld 3) (.var 0)) (.o2 .cons (.o1 (.fld 4) (.var 0)) (.o2 .cons (.o1 (.fld 5) (.var 0)) (.o2 .cons (.o1 (.fld 6) (.var 0)) .nil)))))))] [.sc .bool]
     (.ret [(.var 2)]))
     (.br (.o2 .eq (.o1 (.fld 0) (.var 0)) (.int 5))
      (.br (.o2 .eq (.o1 (.fld 0) (.var 0)) (.int 5))
       (.call [] (.fn 134) [.st [(.int .i64), (.int .i64), (.int .i64), (.int .i64), (.int .i64), (.int .i64), .bool] (.o2 .cons (.o1 (.fld 0) (.var 0)) (.o2 .cons (.o1 (.fld 1) (.var 0)) (.o2 .cons (.o1 (.fld 2) (.var 0)) (.o2 .cons (.o1 (.fld 3) (.var 0)) (.o2 .cons (.o1 (.fld 4) (.var 0)) (.o2 .cons (.o1 (.fld 5) (.var 0)) (.o2 .cons (.o1 (.fld 6) (.var 0)) .nil)))))))] [.sc .bool]
       (.ret [(.var 2)]))
       (.ret [(.bool false)]))
      (.br (.o2 .eq (.o1 (.fld 0) (.var 0)) (.int 6))
       (.call [] (.fn 134) [.st [(.int .i64), (.int .i64), (.int .i64), (.int .i64), (.int .i64), (.int .i64), .bool] (.o2 .cons (.o1 (.fld 0) (.var 0)) (.o2 .cons (.o1 (.fld 1) (.var 0)) (.o2 .cons (.o1 (.fld 2) (.var 0)) (.o2 .cons (.o1 (.fld 3) (.var 0)) (.o2 .cons (.o1 (.fld 4) (.var 0)) (.o2 .cons (.o1 (.fld 5) (.var 0)) (.o2 .cons (.o1 (.fld 6) (.var 0)) .nil)))))))] [.sc .bool]
       (.ret [(.var 2)]))
       (.ret [(.bool false)])))))))))
theorem sig_97 : sigOf Try.prog md 97 [] = some ([.st [(.int .i64), (.int .i64), (.int .i64), (.int .i64), (.int .i64), (.int .i64), .bool]], [.sc .bool], tree_97) := by kernel_rfl
/- impl.partOk -/
def tree_132 : T :=
(.call [] (.fn 97) [.st [(.int .i64), (.int .i64), (.int .i64), (.int .i64), (.int .i64), (.int .i64), .bool] (.o2 .cons (.o1 (.fld 0) (.var 0)) (.o2 .cons (.o1 (.fld 1) (.var 0)) (.o2 .cons (.o1 (.fld 2) (.var 0)) (.o2 .cons (.o1 (.fld 3) (.var 0)) (.o2 .cons (.o1 (.fld 4) (.var 0)) (.o2 .cons (.o1 (.fld 5) (.var 0)) (.o2 .cons (.o1 (.fld 6) (.var 0)) .nil)))))))] [.sc .bool]
(.br (.var 1)
 (.ret [(.bool true)])
 (.call [((.o2 .band (.o2 .ne (.o1 (.fld 0) (.var 0)) (.int 2)) (.o2 .eq (.o1 (.fld 4) (.var 0)) (.int (-1)))), true)] (.fn 97) [.st [(.int .i64), (.int .i64), (.int .i64), (.int .i64), (.int .i64), (.int .i64), .bool] (.o2 .cons (.o1 (.fld 0) (.var 0)) (.o2 .cons (.o1 (.fld 1) (.var 0)) (.o2 .cons (.o1 (.fld 2) (.var 0)) (.o2 .cons (.o1 (.fld 3) (.var 0)) (.o2 .cons (.int 0) (.o2 .cons (.o1 (.fld 5) (.var 0)) (.o2 .cons (.o1 (.fld 6) (.var 0)) .nil)))))))] [.sc .bool]
 (.ret [(.o2 .band (.o2 .band (.o2 .ne (.o1 (.fld 0) (.var 0)) (.int 2)) (.o2 .eq (.o1 (.fld 4) (.var 0)) (.int (-1)))) (.var 2))]))))
theorem sig_132 : sigOf Try.prog md 132 [] = some ([.st [(.int .i64), (.int .i64), (.int .i64), (.int .i64), (.int .i64), (.int .i64), .bool]], [.sc .bool], tree_132) := by kernel_rfl
/- impl.ActOk$1 -/
def tree_131 : T :=
(.call [] (.fn 132) [.st [(.int .i64), (.int .i64), (.int .i64), (.int .i64), (.int .i64), (.int .i64), .bool] (.o2 .cons (.o1 (.fld 0) (.var 0)) (.o2 .cons (.o1 (.fld 1) (.var 0)) (.o2 .cons (.o1 (.fld 2) (.var 0)) (.o2 .cons (.o1 (.fld 3) (.var 0)) (.o2 .cons (.o1 (.fld 4) (.var 0)) (.o2 .cons (.o1 (.fld 5) (.var 0)) (.o2 .cons (.o1 (.fld 6) (.var 0)) .nil)))))))] [.sc .bool]
(.ret [(.o1 .not (.var 1))]))
theorem sig_131 : sigOf Try.prog md 131 [] = some ([.st [(.int .i64), (.int .i64), (.int .i64), (.int .i64), (.int .i64), (.int .i64), .bool]], [.sc .bool], tree_131) := by kernel_rfl
/- slices.IndexFunc[[]impl.Event,impl.Event] -/
def tree_139 : T :=
(.know (.var 0)
(.loop 0 [(.int 0)]
 (.br (.o2 .lt (.var 2) (.o1 .len (.var 0)))
  (.need [] (.o2 .le (.int 0) (.var 2))
  (.need [] (.o2 .lt (.var 2) (.o1 .len (.var 0)))
  (.call [] (.par 1) [.st [(.int .i64), (.int .i64), (.int .i64), (.int .i64), (.int .i64), (.int .i64), .bool] (.o2 .cons (.o1 (.fld 0) (.o2 .idx (.var 0) (.var 2))) (.o2 .cons (.o1 (.fld 1) (.o2 .idx (.var 0) (.var 2))) (.o2 .cons (.o1 (.fld 2) (.o2 .idx (.var 0) (.var 2))) (.o2 .cons (.o1 (.fld 3) (.o2 .idx (.var 0) (.var 2))) (.o2 .cons (.o1 (.fld 4) (.o2 .idx (.var 0) (.var 2))) (.o2 .cons (.o1 (.fld 5) (.o2 .idx (.var 0) (.var 2))) (.o2 .cons (.o1 (.fld 6) (.o2 .idx (.var 0) (.var 2))) .nil)))))))] [.sc .bool]
  (.br (.var 3)
   (.ret [(.var 2)])
   (.cont 0 [(.o2 (.add .i64) (.var 2) (.int 1))])))))
  (.ret [(.int (-1))]))))
theorem sig_139 : sigOf Try.prog md 139 [] = some ([.sc (.sl [(.int .i64), (.int .i64), (.int .i64), (.int .i64), (.int .i64), (.int .i64), .bool]), .clo], [.sc (.int .i64)], tree_139) := by kernel_rfl
/- slices.ContainsFunc[[]impl.Event,impl.Event] -/
def tree_130 : T :=
(.call [] (.fn 139) [.sc (.sl [(.int .i64), (.int .i64), (.int .i64), (.int .i64), (.int .i64), (.int .i64), .bool]) (.var 0), .clop 1] [.sc (.int .i64)]
(.ret [(.o2 .ge (.var 2) (.int 0))]))
theorem sig_130 : sigOf Try.prog md 130 [] = some ([.sc (.sl [(.int .i64), (.int .i64), (.int .i64), (.int .i64), (.int .i64), (.int .i64), .bool]), .clo], [.sc .bool], tree_130) := by kernel_rfl
/- impl.ActOk -/
def tree_83 : T :=
(.br (.o2 .bor (.o2 .bor (.o2 .bor (.o2 .bor (.o2 .band (.o2 .band (.o2 .ne (.o1 (.fld 0) (.var 0)) (.int 3)) (.o2 .ne (.o1 (.fld 0) (.var 0)) (.int 8))) (.o2 .ne (.o1 (.fld 1) (.var 0)) (.int 0))) (.o2 .band (.o2 .ne (.o1 (.fld 0) (.var 0)) (.int 6)) (.o2 .bor (.o2 .ne (.o1 (.fld 2) (.var 0)) (.int 0)) (.o2 .ne (.o1 (.fld 3) (.var 0)) (.int (-1)))))) (.o2 .band (.o2 .ne (.o1 (.fld 0) (.var 0)) (.int 7)) (.o2 .ne (.o1 (.fld 4) (.var 0)) (.int 0)))) (.o2 .band (.o2 .ne (.o1 (.fld 0) (.var 0)) (.int 8)) (.o1 (.fld 5) (.var 0)))) (.o2 .band (.o2 .ne (.o1 (.fld 0) (.var 0)) (.int 9)) (.o2 .gt (.o1 .len (.o1 (.fld 6) (.var 0))) (.int 0))))
 (.ret [(.bool false)])
 (.br (.o2 .eq (.o1 (.fld 0) (.var 0)) (.int 1))
  (.br (.o2 .eq (.o1 (.fld 0) (.var 0)) (.int 1))
   (.ret [(.bool true)])
   (.br (.o2 .eq (.o1 (.fld 0) (.var 0)) (.int 3))
    (.call [] (.fn 80) [.sc (.int .i64) (.o1 (.fld 1) (.var 0)), .sc (.int .i64) (.int 1), .sc (.int .i64) (.int 2147483647)] [.sc .bool]
    (.ret [(.var 1)]))
    (.br (.o2 .eq (.o1 (.fld 0) (.var 0)) (.int 6))
     (.call [] (.fn 78) [.sc (.int .i64) (.o1 (.fld 2) (.var 0))] [.sc .bool]
     (.call [((.o2 .band (.var 1) (.o2 .eq (.o1 (.fld 3) (.var 0)) (.int (-1)))), false), ((.o2 .eq (.o1 (.fld 2) (.var 0)) (.int 0)), true)] (.fn 79) [.sc (.int .i64) (.o1 (.fld 3) (.var 0))] [.sc .bool]
     (.ret [(.o2 .bor (.o2 .band (.var 1) (.o2 .eq (.o1 (.fld 3) (.var 0)) (.int (-1)))) (.o2 .band (.o2 .eq (.o1 (.fld 2) (.var 0)) (.int 0)) (.var 2)))])))
     (.br (.o2 .eq (.o1 (.fld 0) (.var 0)) (.int 7))
      (.call [] (.fn 129) [.sc (.int .i64) (.o1 (.fld 4) (.var 0))] [.sc .bool]
      (.ret [(.var 1)]))
      (.br (.o2 .eq (.o1 (.fld 0) (.var 0)) (.int 8))
       (.call [] (.fn 80) [.sc (.int .i64) (.o1 (.fld 1) (.var 0)), .sc (.int .i64) (.int 0), .sc (.int .i64) (.int 99)] [.sc .bool]
       (.ret [(.var 1)]))
       (.br (.o2 .eq (.o1 (.fld 0) (.var 0)) (.int 9))
        (.know (.o1 (.fld 6) (.var 0))
        (.call [] (.fn 80) [.sc (.int .i64) (.o1 .len (.o1 (.fld 6) (.var 0))), .sc (.int .i64) (.int 1), .sc (.int .i64) (.int 3)] [.sc .bool]
        (.call [((.var 1), true)] (.fn 130) [.sc (.sl [(.int .i64), (.int .i64), (.int .i64), (.int .i64), (.int .i64), (.int .i64), .bool]) (.o1 (.fld 6) (.var 0)), .clo 131 []] [.sc .bool]
        (.ret [(.o2 .band (.var 1) (.o1 .not (.var 2)))]))))
        (.ret [(.bool false)])))))))
  (.br (.o2 .eq (.o1 (.fld 0) (.var 0)) (.int 2))
   (.br (.o2 .eq (.o1 (.fld 0) (.var 0)) (.int 2))
    (.ret [(.bool true)])
    (.br (.o2 .eq (.o1 (.fld 0) (.var 0)) (.int 3))
     (.call [] (.fn 80) [.sc (.int .i64) (.o1 (.fld 1) (.var 0)), .sc (.int .i64) (.int 1), .sc (.int .i64) (.int 2147483647)] [.sc .bool]
     (.ret [(.var 1)]))
     (.br (.o2 .eq (.o1 (.fld 0) (.var 0)) (.int 6))
      (.call [] (.fn 78) [.sc (.int .i64) (.o1 (.fld 2) (.var 0))] [.sc .bool]
      (.call [((.o2 .band (.var 1) (.o2 .eq (.o1 (.fld 3) (.var 0)) (.int (-1)))), false), ((.o2 .eq (.o1 (.fld 2) (.var 0)) (.int 0)), true)] (.fn 79) [.sc (.int .i64) (.o1 (.fld 3) (.var 0))] [.sc .bool]
      (.ret [(.o2 .bor (.o2 .band (.var 1) (.o2 .eq (.o1 (.fld 3) (.var 0)) (.int (-1)))) (.o2 .band (.o2 .eq (.o1 (.fld 2) (.var 0)) (.int 0)) (.var 2)))])))
      (.br (.o2 .eq (.o1 (.fld 0) (.var 0)) (.int 7))
       (.call [] (.fn 129) [.sc (.int .i64) (.o1 (.fld 4) (.var 0))] [.sc .bool]
       (.ret [(.var 1)]))
       (.br (.o2 .eq (.o1 (.fld 0) (.var 0)) (.int 8))
        (.call [] (.fn 80) [.sc (.int .i64) (.o1 (.fld 1) (.var 0)), .sc (.int .i64) (.int 0), .sc (.int .i64) (.int 99)] [.sc .bool]
        (.ret [(.var 1)]))
        (.br (.o2 .eq (.o1 (.fld 0) (.var 0)) (.int 9))
         (.know (.o1 (.fld 6) (.var 0))
         (.call [] (.fn 80) [.sc (.int .i64) (.o1 .len (.o1 (.fld 6) (.var 0))), .sc (.int .i64) (.int 1), .sc (.int .i64) (.int 3)] [.sc .bool]
         (.call [((.var 1), true)] (.fn 130) [.sc (.sl [(.int .i64), (.int .i64), (.int .i64), (.int .i64), (.int .i64), (.int .i64), .bool]) (.o1 (.fld 6) (.var 0)), .clo 131 []] [.sc .bool]
         (.ret [(.o2 .band (.var 1) (.o1 .not (.var 2)))]))))
         (.ret [(.bool false)])))))))
   (.br (.o2 .eq (.o1 (.fld 0) (.var 0)) (.int 4))
    (.br (.o2 .eq (.o1 (.fld 0) (.var 0)) (.int 4))
     (.ret [(.bool true)])
     (.br (.o2 .eq (.o1 (.fld 0) (.var 0)) (.int 3))
      (.call [] (.fn 80) [.sc (.int .i64) (.o1 (.fld 1) (.var 0)), .sc (.int .i64) (.int 1), .sc (.int .i64) (.int 2147483647)] [.sc .bool]
      (.ret [(.var 1)]))
      (.br (.o2 .eq (.o1 (.fld 0) (.var 0)) (.int 6))
       (.call [] (.fn 78) [.sc (.int .i64) (.o1 (.fld 2) (.var 0))] [.sc .bool]
       (.call [((.o2 .band (.var 1) (.o2 .eq (.o1 (.fld 3) (.var 0)) (.int (-1)))), false), ((.o2 .eq (.o1 (.fld 2) (.var 0)) (.int 0)), true)] (.fn 79) [.sc (.int .i64) (.o1 (.fld 3) (.var 0))] [.sc .bool]
       (.ret [(.o2 .bor (.o2 .band (.var 1) (.o2 .eq (.o1 (.fld 3) (.var 0)) (.int (-1)))) (.o2 .band (.o2 .eq (.o1 (.fld 2) (.var 0)) (.int 0)) (.var 2)))])))
       (.br (.o2 .eq (.o1 (.fld 0) (.var 0)) (.int 7))
        (.call [] (.fn 129) [.sc (.int .i64) (.o1 (.fld 4) (.var 0))] [.sc .bool]
        (.ret [(.var 1)]))
        (.br (.o2 .eq (.o1 (.fld 0) (.var 0)) (.int 8))
         (.call [] (.fn 80) [.sc (.int .i64) (.o1 (.fld 1) (.var 0)), .sc (.int .i64) (.int 0), .sc (.int .i64) (.int 99)] [.sc .bool]
         (.ret [(.var 1)]))
         (.br (.o2 .eq (.o1 (.fld 0) (.var 0)) (.int 9))
          (.know (.o1 (.fld 6) (.var 0))
          (.call [] (.fn 80) [.sc (.int .i64) (.o1 .len (.o1 (.fld 6) (.var 0))), .sc (.int .i64) (.int 1), .sc (.int .i64) (.int 3)] [.sc .bool]
          (.call [((.var 1), true)] (.fn 130) [.sc (.sl [(.int .i64), (.int .i64), (.int .i64), (.int .i64), (.int .i64), (.int .i64), .bool]) (.o1 (.fld 6) (.var 0)), .clo 131 []] [.sc .bool]
          (.ret [(.o2 .band (.var 1) (.o1 .not (.var 2)))]))))
          (.ret [(.bool false)])))))))
    (.br (.o2 .eq (.o1 (.fld 0) (.var 0)) (.int 5))
     (.ret [(.bool true)])
     (.br (.o2 .eq (.o1 (.fld 0) (.var 0)) (.int 3))
      (.call [] (.fn 80) [.sc (.int .i64) (.o1 (.fld 1) (.var 0)), .sc (.int .i64) (.int 1), .sc (.int .i64) (.int 2147483647)] [.sc .bool]
      (.ret [(.var 1)]))
      (.br (.o2 .eq (.o1 (.fld 0) (.var 0)) (.int 6))
       (.call [] (.fn 78) [.sc (.int .i64) (.o1 (.fld 2) (.var 0))] [.sc .bool]
       (.call [((.o2 .band (.var 1) (.o2 .eq (.o1 (.fld 3) (.var 0)) (.int (-1)))), false), ((.o2 .eq (.o1 (.fld 2) (.var 0)) (.int 0)), true)] (.fn 79) [.sc (.int .i64) (.o1 (.fld 3) (.var 0))] [.sc .bool]
       (.ret [(.o2 .bor (.o2 .band (.var 1) (.o2 .eq (.o1 (.fld 3) (.var 0)) (.int (-1)))) (.o2 .band (.o2 .eq (.o1 (.fld 2) (.var 0)) (.int 0)) (.var 2)))])))
       (.br (.o2 .eq (.o1 (.fld 0) (.var 0)) (.int 7))
        (.call [] (.fn 129) [.sc (.int .i64) (.o1 (.fld 4) (.var 0))] [.sc .bool]
        (.ret [(.var 1)]))
        (.br (.o2 .eq (.o1 (.fld 0) (.var 0)) (.int 8))
         (.call [] (.fn 80) [.sc (.int .i64) (.o1 (.fld 1) (.var 0)), .sc (.int .i64) (.int 0), .sc (.int .i64) (.int 99)] [.sc .bool]
         (.ret [(.var 1)]))
         (.br (.o2 .eq (.o1 (.fld 0) (.var 0)) (.int 9))
          (.know (.o1 (.fld 6) (.var 0))
          (.call [] (.fn 80) [.sc (.int .i64) (.o1 .len (.o1 (.fld 6) (.var 0))), .sc (.int .i64) (.int 1), .sc (.int .i64) (.int 3)] [.sc .bool]
          (.call [((.var 1), true)] (.fn 130) [.sc (.sl [(.int .i64), (.int .i64), (.int .i64), (.int .i64), (.int .i64), (.int .i64), .bool]) (.o1 (.fld 6) (.var 0)), .clo 131 []] [.sc .bool]
          (.ret [(.o2 .band (.var 1) (.o1 .not (.var 2)))]))))
          (.ret [(.bool false)])))))))))))
theorem sig_83 : sigOf Try.prog md 83 [] = some ([.st [(.int .i64), (.int .i64), (.int .i64), (.int .i64), (.int .i64), .bool, (.sl [(.int .i64), (.int .i64), (.int .i64), (.int .i64), (.int .i64), (.int .i64), .bool])]], [.sc .bool], tree_83) := by kernel_rfl
/- impl.ActFits -/
def tree_84 : T :=
(.call [] (.fn 126) [.sc (.int .i64) (.var 1)] [.sc .bool]
(.br (.o1 .not (.var 2))
 (.ret [(.bool false)])
 (.br (.o2 .eq (.o1 (.fld 0) (.var 0)) (.int 1))
  (.br (.o2 .eq (.o1 (.fld 0) (.var 0)) (.int 1))
   (.ret [(.bool true)])
   (.br (.o2 .eq (.o1 (.fld 0) (.var 0)) (.int 2))
    (.br (.o2 .eq (.o1 (.fld 0) (.var 0)) (.int 2))
     (.ret [(.o2 .eq (.var 1) (.int 1))])
     (.br (.o2 .eq (.o1 (.fld 0) (.var 0)) (.int 3))
      (.br (.o2 .eq (.o1 (.fld 0) (.var 0)) (.int 3))
       (.ret [(.o2 .ne (.var 1) (.int 2))])
       (.br (.o2 .eq (.o1 (.fld 0) (.var 0)) (.int 7))
        (.br (.o2 .eq (.o1 (.fld 0) (.var 0)) (.int 7))
         (.ret [(.o2 .eq (.var 1) (.int 2))])
         (.ret [(.bool false)]))
        (.br (.o2 .eq (.o1 (.fld 0) (.var 0)) (.int 8))
         (.ret [(.o2 .eq (.var 1) (.int 2))])
         (.ret [(.bool false)]))))
      (.br (.o2 .eq (.o1 (.fld 0) (.var 0)) (.int 4))
       (.br (.o2 .eq (.o1 (.fld 0) (.var 0)) (.int 4))
        (.ret [(.o2 .ne (.var 1) (.int 2))])
        (.br (.o2 .eq (.o1 (.fld 0) (.var 0)) (.int 7))
         (.br (.o2 .eq (.o1 (.fld 0) (.var 0)) (.int 7))
          (.ret [(.o2 .eq (.var 1) (.int 2))])
          (.ret [(.bool false)]))
         (.br (.o2 .eq (.o1 (.fld 0) (.var 0)) (.int 8))
          (.ret [(.o2 .eq (.var 1) (.int 2))])
          (.ret [(.bool false)]))))
       (.br (.o2 .eq (.o1 (.fld 0) (.var 0)) (.int 5))
        (.ret [(.o2 .ne (.var 1) (.int 2))])
        (.br (.o2 .eq (.o1 (.fld 0) (.var 0)) (.int 7))
         (.br (.o2 .eq (.o1 (.fld 0) (.var 0)) (.int 7))
          (.ret [(.o2 .eq (.var 1) (.int 2))])
          (.ret [(.bool false)]))
         (.br (.o2 .eq (.o1 (.fld 0) (.var 0)) (.int 8))
          (.ret [(.o2 .eq (.var 1) (.int 2))])
          (.ret [(.bool false)])))))))
    (.br (.o2 .eq (.o1 (.fld 0) (.var 0)) (.int 6))
     (.ret [(.o2 .eq (.var 1) (.int 1))])
     (.br (.o2 .eq (.o1 (.fld 0) (.var 0)) (.int 3))
      (.br (.o2 .eq (.o1 (.fld 0) (.var 0)) (.int 3))
       (.ret [(.o2 .ne (.var 1) (.int 2))])
       (.br (.o2 .eq (.o1 (.fld 0) (.var 0)) (.int 7))
        (.br (.o2 .eq (.o1 (.fld 0) (.var 0)) (.int 7))
         (.ret [(.o2 .eq (.var 1) (.int 2))])
         (.ret [(.bool false)]))
        (.br (.o2 .eq (.o1 (.fld 0) (.var 0)) (.int 8))
         (.ret [(.o2 .eq (.var 1) (.int 2))])
         (.ret [(.bool false)]))))
      (.br (.o2 .eq (.o1 (.fld 0) (.var 0)) (.int 4))
       (.br (.o2 .eq (.o1 (.fld 0) (.var 0)) (.int 4))
        (.ret [(.o2 .ne (.var 1) (.int 2))])
        (.br (.o2 .eq (.o1 (.fld 0) (.var 0)) (.int 7))
         (.br (.o2 .eq (.o1 (.fld 0) (.var 0)) (.int 7))
          (.ret [(.o2 .eq (.var 1) (.int 2))])
          (.ret [(.bool false)]))
         (.br (.o2 .eq (.o1 (.fld 0) (.var 0)) (.int 8))
          (.ret [(.o2 .eq (.var 1) (.int 2))])
          (.ret [(.bool false)]))))
       (.br (.o2 .eq (.o1 (.fld 0) (.var 0)) (.int 5))
        (.ret [(.o2 .ne (.var 1) (.int 2))])
        (.br (.o2 .eq (.o1 (.fld 0) (.var 0)) (.int 7))
         (.br (.o2 .eq (.o1 (.fld 0) (.var 0)) (.int 7))
          (.ret [(.o2 .eq (.var 1) (.int 2))])
          (.ret [(.bool false)]))
         (.br (.o2 .eq (.o1 (.fld 0) (.var 0)) (.int 8))
          (.ret [(.o2 .eq (.var 1) (.int 2))])
          (.ret [(.bool false)])))))))))
  (.br (.o2 .eq (.o1 (.fld 0) (.var 0)) (.int 9))
   (.ret [(.bool true)])
   (.br (.o2 .eq (.o1 (.fld 0) (.var 0)) (.int 2))
    (.br (.o2 .eq (.o1 (.fld 0) (.var 0)) (.int 2))
     (.ret [(.o2 .eq (.var 1) (.int 1))])
     (.br (.o2 .eq (.o1 (.fld 0) (.var 0)) (.int 3))
      (.br (.o2 .eq (.o1 (.fld 0) (.var 0)) (.int 3))
       (.ret [(.o2 .ne (.var 1) (.int 2))])
       (.br (.o2 .eq (.o1 (.fld 0) (.var 0)) (.int 7))
        (.br (.o2 .eq (.o1 (.fld 0) (.var 0)) (.int 7))
         (.ret [(.o2 .eq (.var 1) (.int 2))])
         (.ret [(.bool false)]))
        (.br (.o2 .eq (.o1 (.fld 0) (.var 0)) (.int 8))
         (.ret [(.o2 .eq (.var 1) (.int 2))])
         (.ret [(.bool false)]))))
      (.br (.o2 .eq (.o1 (.fld 0) (.var 0)) (.int 4))
       (.br (.o2 .eq (.o1 (.fld 0) (.var 0)) (.int 4))
        (.ret [(.o2 .ne (.var 1) (.int 2))])
        (.br (.o2 .eq (.o1 (.fld 0) (.var 0)) (.int 7))
         (.br (.o2 .eq (.o1 (.fld 0) (.var 0)) (.int 7))
          (.ret [(.o2 .eq (.var 1) (.int 2))])
          (.ret [(.bool false)]))
         (.br (.o2 .eq (.o1 (.fld 0) (.var 0)) (.int 8))
          (.ret [(.o2 .eq (.var 1) (.int 2))])
          (.ret [(.bool false)]))))
       (.br (.o2 .eq (.o1 (.fld 0) (.var 0)) (.int 5))
        (.ret [(.o2 .ne (.var 1) (.int 2))])
        (.br (.o2 .eq (.o1 (.fld 0) (.var 0)) (.int 7))
         (.br (.o2 .eq (.o1 (.fld 0) (.var 0)) (.int 7))
          (.ret [(.o2 .eq (.var 1) (.int 2))])
          (.ret [(.bool false)]))
         (.br (.o2 .eq (.o1 (.fld 0) (.var 0)) (.int 8))
          (.ret [(.o2 .eq (.var 1) (.int 2))])
          (.ret [(.bool false)])))))))
    (.br (.o2 .eq (.o1 (.fld 0) (.var 0)) (.int 6))
     (.ret [(.o2 .eq (.var 1) (.int 1))])
     (.br (.o2 .eq (.o1 (.fld 0) (.var 0)) (.int 3))
      (.br (.o2 .eq (.o1 (.fld 0) (.var 0)) (.int 3))
       (.ret [(.o2 .ne (.var 1) (.int 2))])
       (.br (.o2 .eq (.o1 (.fld 0) (.var 0)) (.int 7))
        (.br (.o2 .eq (.o1 (.fld 0) (.var 0)) (.int 7))
         (.ret [(.o2 .eq (.var 1) (.int 2))])
         (.ret [(.bool false)]))
        (.br (.o2 .eq (.o1 (.fld 0) (.var 0)) (.int 8))
         (.ret [(.o2 .eq (.var 1) (.int 2))])
         (.ret [(.bool false)]))))
      (.br (.o2 .eq (.o1 (.fld 0) (.var 0)) (.int 4))
       (.br (.o2 .eq (.o1 (.fld 0) (.var 0)) (.int 4))
        (.ret [(.o2 .ne (.var 1) (.int 2))])
        (.br (.o2 .eq (.o1 (.fld 0) (.var 0)) (.int 7))
         (.br (.o2 .eq (.o1 (.fld 0) (.var 0)) (.int 7))
          (.ret [(.o2 .eq (.var 1) (.int 2))])
          (.ret [(.bool false)]))
         (.br (.o2 .eq (.o1 (.fld 0) (.var 0)) (.int 8))
          (.ret [(.o2 .eq (.var 1) (.int 2))])
          (.ret [(.bool false)]))))
       (.br (.o2 .eq (.o1 (.fld 0) (.var 0)) (.int 5))
        (.ret [(.o2 .ne (.var 1) (.int 2))])
        (.br (.o2 .eq (.o1 (.fld 0) (.var 0)) (.int 7))
         (.br (.o2 .eq (.o1 (.fld 0) (.var 0)) (.int 7))
          (.ret [(.o2 .eq (.var 1) (.int 2))])
          (.ret [(.bool false)]))
         (.br (.o2 .eq (.o1 (.fld 0) (.var 0)) (.int 8))
          (.ret [(.o2 .eq (.var 1) (.int 2))])
          (.ret [(.bool false)]))))))))))))
theorem sig_84 : sigOf Try.prog md 84 [] = some ([.st [(.int .i64), (.int .i64), (.int .i64), (.int .i64), (.int .i64), .bool, (.sl [(.int .i64), (.int .i64), (.int .i64), (.int .i64), (.int .i64), (.int .i64), .bool])], .sc (.int .i64)], [.sc .bool], tree_84) := by kernel_rfl
/- impl.EffectOk -/
def tree_29 : T :=
(.br (.o2 .eq (.o1 (.fld 13) (.var 0)) (.int 2))
 (.call [] (.fn 78) [.sc (.int .i64) (.o1 (.fld 0) (.var 0))] [.sc .bool]
 (.call [((.var 1), true)] (.fn 79) [.sc (.int .i64) (.o1 (.fld 1) (.var 0))] [.sc .bool]
 (.call [((.o2 .band (.var 1) (.var 2)), true)] (.fn 80) [.sc (.int .i64) (.o1 (.fld 2) (.var 0)), .sc (.int .i64) (.int 0), .sc (.int .i64) (.int 99)] [.sc .bool]
 (.call [((.o2 .band (.o2 .band (.var 1) (.var 2)) (.var 3)), true)] (.fn 80) [.sc (.int .i64) (.o1 (.fld 3) (.var 0)), .sc (.int .i64) (.int 0), .sc (.int .i64) (.int 4)] [.sc .bool]
 (.call [((.o2 .band (.o2 .band (.o2 .band (.o2 .band (.var 1) (.var 2)) (.var 3)) (.var 4)) (.o2 .bor (.o2 .ne (.o1 (.fld 3) (.var 0)) (.int 0)) (.o2 .ne (.o1 (.fld 2) (.var 0)) (.int 0)))), true)] (.fn 81) [.st [(.int .i64), (.int .i64), (.int .i64), (.int .i64), (.int .i64), (.int .i64), (.int .i64)] (.o2 .cons (.o1 (.fld 4) (.var 0)) (.o2 .cons (.o1 (.fld 5) (.var 0)) (.o2 .cons (.o1 (.fld 6) (.var 0)) (.o2 .cons (.o1 (.fld 7) (.var 0)) (.o2 .cons (.o1 (.fld 8) (.var 0)) (.o2 .cons (.o1 (.fld 9) (.var 0)) (.o2 .cons (.o1 (.fld 10) (.var 0)) .nil)))))))] [.sc .bool]
 (.call [((.o2 .band (.o2 .band (.o2 .band (.o2 .band (.o2 .band (.var 1) (.var 2)) (.var 3)) (.var 4)) (.o2 .bor (.o2 .ne (.o1 (.fld 3) (.var 0)) (.int 0)) (.o2 .ne (.o1 (.fld 2) (.var 0)) (.int 0)))) (.var 5)), true)] (.fn 82) [.st [(.int .i64), (.int .i64)] (.o2 .cons (.o1 (.fld 11) (.var 0)) (.o2 .cons (.o1 (.fld 12) (.var 0)) .nil))] [.sc .bool]
 (.call [((.o2 .band (.o2 .band (.o2 .band (.o2 .band (.o2 .band (.o2 .band (.var 1) (.var 2)) (.var 3)) (.var 4)) (.o2 .bor (.o2 .ne (.o1 (.fld 3) (.var 0)) (.int 0)) (.o2 .ne (.o1 (.fld 2) (.var 0)) (.int 0)))) (.var 5)) (.var 6)), true)] (.fn 83) [.st [(.int .i64), (.int .i64), (.int .i64), (.int .i64), (.int .i64), .bool, (.sl [(.int .i64), (.int .i64), (.int .i64), (.int .i64), (.int .i64), (.int .i64), .bool])] (.o2 .cons (.o1 (.fld 13) (.var 0)) (.o2 .cons (.o1 (.fld 14) (.var 0)) (.o2 .cons (.o1 (.fld 15) (.var 0)) (.o2 .cons (.o1 (.fld 16) (.var 0)) (.o2 .cons (.o1 (.fld 17) (.var 0)) (.o2 .cons (.o1 (.fld 18) (.var 0)) (.o2 .cons (.o1 (.fld 19) (.var 0)) .nil)))))))] [.sc .bool]
 (.call [((.o2 .band (.o2 .band (.o2 .band (.o2 .band (.o2 .band (.o2 .band (.o2 .band (.var 1) (.var 2)) (.var 3)) (.var 4)) (.o2 .bor (.o2 .ne (.o1 (.fld 3) (.var 0)) (.int 0)) (.o2 .ne (.o1 (.fld 2) (.var 0)) (.int 0)))) (.var 5)) (.var 6)) (.var 7)), true)] (.fn 84) [.st [(.int .i64), (.int .i64), (.int .i64), (.int .i64), (.int .i64), .bool, (.sl [(.int .i64), (.int .i64), (.int .i64), (.int .i64), (.int .i64), (.int .i64), .bool])] (.o2 .cons (.o1 (.fld 13) (.var 0)) (.o2 .cons (.o1 (.fld 14) (.var 0)) (.o2 .cons (.o1 (.fld 15) (.var 0)) (.o2 .cons (.o1 (.fld 16) (.var 0)) (.o2 .cons (.o1 (.fld 17) (.var 0)) (.o2 .cons (.o1 (.fld 18) (.var 0)) (.o2 .cons (.o1 (.fld 19) (.var 0)) .nil))))))), .sc (.int .i64) (.o1 (.fld 4) (.var 0))] [.sc .bool]
 (.call [((.o2 .band (.o2 .band (.o2 .band (.o2 .band (.o2 .band (.o2 .band (.o2 .band (.o2 .band (.var 1) (.var 2)) (.var 3)) (.var 4)) (.o2 .bor (.o2 .ne (.o1 (.fld 3) (.var 0)) (.int 0)) (.o2 .ne (.o1 (.fld 2) (.var 0)) (.int 0)))) (.var 5)) (.var 6)) (.var 7)) (.var 8)), true)] (.fn 80) [.sc (.int .i64) (.o1 (.fld 20) (.var 0)), .sc (.int .i64) (.int (-1)), .sc (.int .i64) (.int 9999)] [.sc .bool]
 (.call [((.o2 .band (.o2 .band (.o2 .band (.o2 .band (.o2 .band (.o2 .band (.o2 .band (.o2 .band (.o2 .band (.var 1) (.var 2)) (.var 3)) (.var 4)) (.o2 .bor (.o2 .ne (.o1 (.fld 3) (.var 0)) (.int 0)) (.o2 .ne (.o1 (.fld 2) (.var 0)) (.int 0)))) (.var 5)) (.var 6)) (.var 7)) (.var 8)) (.var 9)), true)] (.fn 80) [.sc (.int .i64) (.o1 (.fld 21) (.var 0)), .sc (.int .i64) (.int 0), .sc (.int .i64) (.int 2147483647)] [.sc .bool]
 (.ret [(.o2 .band (.o2 .band (.o2 .band (.o2 .band (.o2 .band (.o2 .band (.o2 .band (.o2 .band (.o2 .band (.o2 .band (.var 1) (.var 2)) (.var 3)) (.var 4)) (.o2 .bor (.o2 .ne (.o1 (.fld 3) (.var 0)) (.int 0)) (.o2 .ne (.o1 (.fld 2) (.var 0)) (.int 0)))) (.var 5)) (.var 6)) (.var 7)) (.var 8)) (.var 9)) (.var 10))])))))))))))
 (.call [] (.fn 78) [.sc (.int .i64) (.o1 (.fld 0) (.var 0))] [.sc .bool]
 (.call [((.var 1), true)] (.fn 79) [.sc (.int .i64) (.o1 (.fld 1) (.var 0))] [.sc .bool]
 (.call [((.o2 .band (.var 1) (.var 2)), true)] (.fn 80) [.sc (.int .i64) (.o1 (.fld 2) (.var 0)), .sc (.int .i64) (.int 0), .sc (.int .i64) (.int 99)] [.sc .bool]
 (.call [((.o2 .band (.o2 .band (.var 1) (.var 2)) (.var 3)), true)] (.fn 80) [.sc (.int .i64) (.o1 (.fld 3) (.var 0)), .sc (.int .i64) (.int 0), .sc (.int .i64) (.int 4)] [.sc .bool]
 (.call [((.o2 .band (.o2 .band (.o2 .band (.o2 .band (.var 1) (.var 2)) (.var 3)) (.var 4)) (.o2 .bor (.o2 .ne (.o1 (.fld 3) (.var 0)) (.int 0)) (.o2 .ne (.o1 (.fld 2) (.var 0)) (.int 0)))), true)] (.fn 81) [.st [(.int .i64), (.int .i64), (.int .i64), (.int .i64), (.int .i64), (.int .i64), (.int .i64)] (.o2 .cons (.o1 (.fld 4) (.var 0)) (.o2 .cons (.o1 (.fld 5) (.var 0)) (.o2 .cons (.o1 (.fld 6) (.var 0)) (.o2 .cons (.o1 (.fld 7) (.var 0)) (.o2 .cons (.o1 (.fld 8) (.var 0)) (.o2 .cons (.o1 (.fld 9) (.var 0)) (.o2 .cons (.o1 (.fld 10) (.var 0)) .nil)))))))] [.sc .bool]
 (.call [((.o2 .band (.o2 .band (.o2 .band (.o2 .band (.o2 .band (.var 1) (.var 2)) (.var 3)) (.var 4)) (.o2 .bor (.o2 .ne (.o1 (.fld 3) (.var 0)) (.int 0)) (.o2 .ne (.o1 (.fld 2) (.var 0)) (.int 0)))) (.var 5)), true)] (.fn 82) [.st [(.int .i64), (.int .i64)] (.o2 .cons (.o1 (.fld 11) (.var 0)) (.o2 .cons (.o1 (.fld 12) (.var 0)) .nil))] [.sc .bool]
 (.call [((.o2 .band (.o2 .band (.o2 .band (.o2 .band (.o2 .band (.o2 .band (.var 1) (.var 2)) (.var 3)) (.var 4)) (.o2 .bor (.o2 .ne (.o1 (.fld 3) (.var 0)) (.int 0)) (.o2 .ne (.o1 (.fld 2) (.var 0)) (.int 0)))) (.var 5)) (.var 6)), true)] (.fn 83) [.st [(.int .i64), (.int .i64), (.int .i64), (.int .i64), (.int .i64), .bool, (.sl [(.int .i64), (.int .i64), (.int .i64), (.int .i64), (.int .i64), (.int .i64), .bool])] (.o2 .cons (.o1 (.fld 13) (.var 0)) (.o2 .cons (.o1 (.fld 14) (.var 0)) (.o2 .cons (.o1 (.fld 15) (.var 0)) (.o2 .cons (.o1 (.fld 16) (.var 0)) (.o2 .cons (.o1 (.fld 17) (.var 0)) (.o2 .cons (.o1 (.fld 18) (.var 0)) (.o2 .cons (.o1 (.fld 19) (.var 0)) .nil)))))))] [.sc .bool]
 (.call [((.o2 .band (.o2 .band (.o2 .band (.o2 .band (.o2 .band (.o2 .band (.o2 .band (.var 1) (.var 2)) (.var 3)) (.var 4)) (.o2 .bor (.o2 .ne (.o1 (.fld 3) (.var 0)) (.int 0)) (.o2 .ne (.o1 (.fld 2) (.var 0)) (.int 0)))) (.var 5)) (.var 6)) (.var 7)), true)] (.fn 84) [.st [(.int .i64), (.int .i64), (.int .i64), (.int .i64), (.int .i64), .bool, (.sl [(.int .i64), (.int .i64), (.int .i64), (.int .i64), (.int .i64), (.int .i64), .bool])] (.o2 .cons (.o1 (.fld 13) (.var 0)) (.o2 .cons (.o1 (.fld 14) (.var 0)) (.o2 .cons (.o1 (.fld 15) (.var 0)) (.o2 .cons (.o1 (.fld 16) (.var 0)) (.o2 .cons (.o1 (.fld 17) (.var 0)) (.o2 .cons (.o1 (.fld 18) (.var 0)) (.o2 .cons (.o1 (.fld 19) (.var 0)) .nil))))))), .sc (.int .i64) (.o1 (.fld 4) (.var 0))] [.sc .bool]
 (.call [((.o2 .band (.o2 .band (.o2 .band (.o2 .band (.o2 .band (.o2 .band (.o2 .band (.o2 .band (.var 1) (.var 2)) (.var 3)) (.var 4)) (.o2 .bor (.o2 .ne (.o1 (.fld 3) (.var 0)) (.int 0)) (.o2 .ne (.o1 (.fld 2) (.var 0)) (.int 0)))) (.var 5)) (.var 6)) (.var 7)) (.var 8)), true)] (.fn 80) [.sc (.int .i64) (.o1 (.fld 20) (.var 0)), .sc (.int .i64) (.int (-1)), .sc (.int .i64) (.int 9999)] [.sc .bool]
 (.call [((.o2 .band (.o2 .band (.o2 .band (.o2 .band (.o2 .band (.o2 .band (.o2 .band (.o2 .band (.o2 .band (.var 1) (.var 2)) (.var 3)) (.var 4)) (.o2 .bor (.o2 .ne (.o1 (.fld 3) (.var 0)) (.int 0)) (.o2 .ne (.o1 (.fld 2) (.var 0)) (.int 0)))) (.var 5)) (.var 6)) (.var 7)) (.var 8)) (.var 9)), true)] (.fn 80) [.sc (.int .i64) (.o1 (.fld 21) (.var 0)), .sc (.int .i64) (.int (-1)), .sc (.int .i64) (.int 2147483647)] [.sc .bool]
 (.ret [(.o2 .band (.o2 .band (.o2 .band (.o2 .band (.o2 .band (.o2 .band (.o2 .band (.o2 .band (.o2 .band (.o2 .band (.var 1) (.var 2)) (.var 3)) (.var 4)) (.o2 .bor (.o2 .ne (.o1 (.fld 3) (.var 0)) (.int 0)) (.o2 .ne (.o1 (.fld 2) (.var 0)) (.int 0)))) (.var 5)) (.var 6)) (.var 7)) (.var 8)) (.var 9)) (.var 10))]))))))))))))
theorem sig_29 : sigOf Try.prog md 29 [] = some ([.st [(.int .i64), (.int .i64), (.int .i64), (.int .i64), (.int .i64), (.int .i64), (.int .i64), (.int .i64), (.int .i64), (.int .i64), (.int .i64), (.int .i64), (.int .i64), (.int .i64), (.int .i64), (.int .i64), (.int .i64), (.int .i64), .bool, (.sl [(.int .i64), (.int .i64), (.int .i64), (.int .i64), (.int .i64), (.int .i64), .bool]), (.int .i64), (.int .i64)]], [.sc .bool], tree_29) := by kernel_rfl
/- impl.TableOk -/
def tree_31 : T :=
(.know (.var 0)
(.loop 0 [(.int 0)]
 (.br (.o2 .lt (.var 1) (.o1 .len (.var 0)))
  (.need [] (.o2 .le (.int 0) (.var 1))
  (.need [] (.o2 .lt (.var 1) (.o1 .len (.var 0)))
  (.call [] (.fn 29) [.st [(.int .i64), (.int .i64), (.int .i64), (.int .i64), (.int .i64), (.int .i64), (.int .i64), (.int .i64), (.int .i64), (.int .i64), (.int .i64), (.int .i64), (.int .i64), (.int .i64), (.int .i64), (.int .i64), (.int .i64), (.int .i64), .bool, (.sl [(.int .i64), (.int .i64), (.int .i64), (.int .i64), (.int .i64), (.int .i64), .bool]), (.int .i64), (.int .i64)] (.o2 .cons (.o1 (.fld 0) (.o2 .idx (.var 0) (.var 1))) (.o2 .cons (.o1 (.fld 1) (.o2 .idx (.var 0) (.var 1))) (.o2 .cons (.o1 (.fld 2) (.o2 .idx (.var 0) (.var 1))) (.o2 .cons (.o1 (.fld 3) (.o2 .idx (.var 0) (.var 1))) (.o2 .cons (.o1 (.fld 4) (.o2 .idx (.var 0) (.var 1))) (.o2 .cons (.o1 (.fld 5) (.o2 .idx (.var 0) (.var 1))) (.o2 .cons (.o1 (.fld 6) (.o2 .idx (.var 0) (.var 1))) (.o2 .cons (.o1 (.fld 7) (.o2 .idx (.var 0) (.var 1))) (.o2 .cons (.o1 (.fld 8) (.o2 .idx (.var 0) (.var 1))) (.o2 .cons (.o1 (.fld 9) (.o2 .idx (.var 0) (.var 1))) (.o2 .cons (.o1 (.fld 10) (.o2 .idx (.var 0) (.var 1))) (.o2 .cons (.o1 (.fld 11) (.o2 .idx (.var 0) (.var 1))) (.o2 .cons (.o1 (.fld 12) (.o2 .idx (.var 0) (.var 1))) (.o2 .cons (.o1 (.fld 13) (.o2 .idx (.var 0) (.var 1))) (.o2 .cons (.o1 (.fld 14) (.o2 .idx (.var 0) (.var 1))) (.o2 .cons (.o1 (.fld 15) (.o2 .idx (.var 0) (.var 1))) (.o2 .cons (.o1 (.fld 16) (.o2 .idx (.var 0) (.var 1))) (.o2 .cons (.o1 (.fld 17) (.o2 .idx (.var 0) (.var 1))) (.o2 .cons (.o1 (.fld 18) (.o2 .idx (.var 0) (.var 1))) (.o2 .cons (.o1 (.fld 19) (.o2 .idx (.var 0) (.var 1))) (.o2 .cons (.o1 (.fld 20) (.o2 .idx (.var 0) (.var 1))) (.o2 .cons (.o1 (.fld 21) (.o2 .idx (.var 0) (.var 1))) .nil))))))))))))))))))))))] [.sc .bool]
  (.need [((.o1 .not (.var 2)), false), ((.o2 .gt (.var 1) (.int 0)), true)] (.o2 .le (.int 0) (.o2 (.sub .i64) (.var 1) (.int 1)))
  (.need [((.o1 .not (.var 2)), false), ((.o2 .gt (.var 1) (.int 0)), true)] (.o2 .lt (.o2 (.sub .i64) (.var 1) (.int 1)) (.o1 .len (.var 0)))
  (.br (.o2 .bor (.o1 .not (.var 2)) (.o2 .band (.o2 .gt (.var 1) (.int 0)) (.o2 .ge (.o1 (.fld 0) (.o2 .idx (.var 0) (.o2 (.sub .i64) (.var 1) (.int 1)))) (.o1 (.fld 0) (.o2 .idx (.var 0) (.var 1))))))
   (.ret [(.bool false)])
   (.cont 0 [(.o2 (.add .i64) (.var 1) (.int 1))])))))))
  (.know (.var 0)
  (.ret [(.o2 .le (.o1 .len (.var 0)) (.int 5))])))))
theorem sig_31 : sigOf Try.prog md 31 [] = some ([.sc (.sl [(.int .i64), (.int .i64), (.int .i64), (.int .i64), (.int .i64), (.int .i64), (.int .i64), (.int .i64), (.int .i64), (.int .i64), (.int .i64), (.int .i64), (.int .i64), (.int .i64), (.int .i64), (.int .i64), (.int .i64), (.int .i64), .bool, (.sl [(.int .i64), (.int .i64), (.int .i64), (.int .i64), (.int .i64), (.int .i64), .bool]), (.int .i64), (.int .i64)])], [.sc .bool], tree_31) := by kernel_rfl
/- laws.FnExactTableOk -/
def tree_7 : T :=
(.call [] (.fn 14) [.sc (.sl [(.int .i64), (.int .i64), (.int .i64), (.int .i64), (.int .i64), (.int .i64), (.int .i64), (.int .i64), (.int .i64), (.int .i64), (.int .i64), (.int .i64), (.int .i64), (.int .i64), (.int .i64), (.int .i64), (.int .i64), (.int .i64), .bool, (.sl [(.int .i64), (.int .i64), (.int .i64), (.int .i64), (.int .i64), (.int .i64), .bool]), (.int .i64), (.int .i64)]) (.var 0), .sc (.int .i64) (.int 1048576)] [.sc (.int .i64)]
(.br (.o2 .lt (.var 1) (.int 0))
 (.ret [(.bool true)])
 (.call [] (.fn 16) [.sc (.sl [(.int .i64), (.int .i64), (.int .i64), (.int .i64), (.int .i64), (.int .i64), (.int .i64), (.int .i64), (.int .i64), (.int .i64), (.int .i64), (.int .i64), (.int .i64), (.int .i64), (.int .i64), (.int .i64), (.int .i64), (.int .i64), .bool, (.sl [(.int .i64), (.int .i64), (.int .i64), (.int .i64), (.int .i64), (.int .i64), .bool]), (.int .i64), (.int .i64)]) (.var 0)] [.sc (.sl [(.int .i64), (.int .i64), (.int .i64), (.int .i64), (.int .i64), (.int .i64), (.int .i64), (.int .i64), (.int .i64), (.int .i64), (.int .i64), (.int .i64), (.int .i64), (.int .i64), (.int .i64), (.int .i64), (.int .i64), (.int .i64), .bool, (.sl [(.int .i64), (.int .i64), (.int .i64), (.int .i64), (.int .i64), (.int .i64), .bool]), (.int .i64), (.int .i64)])]
 (.call [] (.fn 30) [.sc (.sl [(.int .i64), (.int .i64), (.int .i64), (.int .i64), (.int .i64), (.int .i64), (.int .i64), (.int .i64), (.int .i64), (.int .i64), (.int .i64), (.int .i64), (.int .i64), (.int .i64), (.int .i64), (.int .i64), (.int .i64), (.int .i64), .bool, (.sl [(.int .i64), (.int .i64), (.int .i64), (.int .i64), (.int .i64), (.int .i64), .bool]), (.int .i64), (.int .i64)]) (.var 2)] [.sc .bool]
 (.call [] (.fn 16) [.sc (.sl [(.int .i64), (.int .i64), (.int .i64), (.int .i64), (.int .i64), (.int .i64), (.int .i64), (.int .i64), (.int .i64), (.int .i64), (.int .i64), (.int .i64), (.int .i64), (.int .i64), (.int .i64), (.int .i64), (.int .i64), (.int .i64), .bool, (.sl [(.int .i64), (.int .i64), (.int .i64), (.int .i64), (.int .i64), (.int .i64), .bool]), (.int .i64), (.int .i64)]) (.var 0)] [.sc (.sl [(.int .i64), (.int .i64), (.int .i64), (.int .i64), (.int .i64), (.int .i64), (.int .i64), (.int .i64), (.int .i64), (.int .i64), (.int .i64), (.int .i64), (.int .i64), (.int .i64), (.int .i64), (.int .i64), (.int .i64), (.int .i64), .bool, (.sl [(.int .i64), (.int .i64), (.int .i64), (.int .i64), (.int .i64), (.int .i64), .bool]), (.int .i64), (.int .i64)])]
 (.call [] (.fn 31) [.sc (.sl [(.int .i64), (.int .i64), (.int .i64), (.int .i64), (.int .i64), (.int .i64), (.int .i64), (.int .i64), (.int .i64), (.int .i64), (.int .i64), (.int .i64), (.int .i64), (.int .i64), (.int .i64), (.int .i64), (.int .i64), (.int .i64), .bool, (.sl [(.int .i64), (.int .i64), (.int .i64), (.int .i64), (.int .i64), (.int .i64), .bool]), (.int .i64), (.int .i64)]) (.var 4)] [.sc .bool]
 (.br (.o2 .bne (.var 5) (.var 3))
  (.ret [(.bool false)])
  (.call [] (.fn 16) [.sc (.sl [(.int .i64), (.int .i64), (.int .i64), (.int .i64), (.int .i64), (.int .i64), (.int .i64), (.int .i64), (.int .i64), (.int .i64), (.int .i64), (.int .i64), (.int .i64), (.int .i64), (.int .i64), (.int .i64), (.int .i64), (.int .i64), .bool, (.sl [(.int .i64), (.int .i64), (.int .i64), (.int .i64), (.int .i64), (.int .i64), .bool]), (.int .i64), (.int .i64)]) (.var 0)] [.sc (.sl [(.int .i64), (.int .i64), (.int .i64), (.int .i64), (.int .i64), (.int .i64), (.int .i64), (.int .i64), (.int .i64), (.int .i64), (.int .i64), (.int .i64), (.int .i64), (.int .i64), (.int .i64), (.int .i64), (.int .i64), (.int .i64), .bool, (.sl [(.int .i64), (.int .i64), (.int .i64), (.int .i64), (.int .i64), (.int .i64), .bool]), (.int .i64), (.int .i64)])]
  (.call [] (.fn 18) [.sc (.sl [(.int .i64), (.int .i64), (.int .i64), (.int .i64), (.int .i64), (.int .i64), (.int .i64), (.int .i64), (.int .i64), (.int .i64), (.int .i64), (.int .i64), (.int .i64), (.int .i64), (.int .i64), (.int .i64), (.int .i64), (.int .i64), .bool, (.sl [(.int .i64), (.int .i64), (.int .i64), (.int .i64), (.int .i64), (.int .i64), .bool]), (.int .i64), (.int .i64)]) (.var 4), .sc (.sl [(.int .i64), (.int .i64), (.int .i64), (.int .i64), (.int .i64), (.int .i64), (.int .i64), (.int .i64), (.int .i64), (.int .i64), (.int .i64), (.int .i64), (.int .i64), (.int .i64), (.int .i64), (.int .i64), (.int .i64), (.int .i64), .bool, (.sl [(.int .i64), (.int .i64), (.int .i64), (.int .i64), (.int .i64), (.int .i64), .bool]), (.int .i64), (.int .i64)]) (.var 6)] [.sc .bool]
  (.br (.o1 .not (.var 7))
   (.ret [(.bool false)])
   (.ret [(.bool true)])))))))))))
theorem sig_7 : sigOf Try.prog md 7 [] = some ([.sc (.sl [(.int .i64), (.int .i64), (.int .i64), (.int .i64), (.int .i64), (.int .i64), (.int .i64), (.int .i64), (.int .i64), (.int .i64), (.int .i64), (.int .i64), (.int .i64), (.int .i64), (.int .i64), (.int .i64), (.int .i64), (.int .i64), .bool, (.sl [(.int .i64), (.int .i64), (.int .i64), (.int .i64), (.int .i64), (.int .i64), .bool]), (.int .i64), (.int .i64)])], [.sc .bool], tree_7) := by kernel_rfl
theorem mix : Try.prog.follows .mixedOrders = true := by kernel_rfl
end Go.Proofs.Ytfbahdalemajcaa
