/- The trees of the functions that this claim reaches. -/
import Derived.Test.YtfbahdalemajcaaRows
import Derived.Test.YtfbahdalemajcaaE6
import Derived.KernelRfl
namespace Go.Proofs.Ytfbahdalemajcaa
open Go.Proofs.Ytfbahdalemajcaa.Eng
def md : Modes := ⟨[(71, 0), (44, 0), (34, 0), (26, 0)], [(116, 0), (99, 0), (91, 0), (86, 0)], []⟩
/- laws.szEventS -/
def tree_118 : T :=
(.know (.var 0)
(.br (.o2 .lt (.o2 (.sub .i64) (.var 1) (.o1 .len (.var 0))) (.int 0))
 (.ret [(.int (-1))])
 (.ret [(.o2 (.sub .i64) (.var 1) (.o1 .len (.var 0)))])))
theorem sig_118 : sigOf Try.prog md 118 [] = some ([.sc (.sl [(.int .i64), (.int .i64), (.int .i64), (.int .i64), (.int .i64), (.int .i64), .bool]), .sc (.int .i64)], [.sc (.int .i64)], tree_118) := by kernel_rfl
/- laws.szAct -/
def tree_58 : T :=
(.call [] (.fn 118) [.sc (.sl [(.int .i64), (.int .i64), (.int .i64), (.int .i64), (.int .i64), (.int .i64), .bool]) (.o1 (.fld 6) (.var 0)), .sc (.int .i64) (.var 1)] [.sc (.int .i64)]
(.br (.o2 .lt (.var 2) (.int 0))
 (.ret [(.int (-1))])
 (.ret [(.var 2)])))
theorem sig_58 : sigOf Try.prog md 58 [] = some ([.st [(.int .i64), (.int .i64), (.int .i64), (.int .i64), (.int .i64), .bool, (.sl [(.int .i64), (.int .i64), (.int .i64), (.int .i64), (.int .i64), (.int .i64), .bool])], .sc (.int .i64)], [.sc (.int .i64)], tree_58) := by kernel_rfl
/- laws.szEffect -/
def tree_21 : T :=
(.call [] (.fn 58) [.st [(.int .i64), (.int .i64), (.int .i64), (.int .i64), (.int .i64), .bool, (.sl [(.int .i64), (.int .i64), (.int .i64), (.int .i64), (.int .i64), (.int .i64), .bool])] (.o2 .cons (.o1 (.fld 13) (.var 0)) (.o2 .cons (.o1 (.fld 14) (.var 0)) (.o2 .cons (.o1 (.fld 15) (.var 0)) (.o2 .cons (.o1 (.fld 16) (.var 0)) (.o2 .cons (.o1 (.fld 17) (.var 0)) (.o2 .cons (.o1 (.fld 18) (.var 0)) (.o2 .cons (.o1 (.fld 19) (.var 0)) .nil))))))), .sc (.int .i64) (.var 1)] [.sc (.int .i64)]
(.br (.o2 .lt (.var 2) (.int 0))
 (.ret [(.int (-1))])
 (.ret [(.var 2)])))
theorem sig_21 : sigOf Try.prog md 21 [] = some ([.st [(.int .i64), (.int .i64), (.int .i64), (.int .i64), (.int .i64), (.int .i64), (.int .i64), (.int .i64), (.int .i64), (.int .i64), (.int .i64), (.int .i64), (.int .i64), (.int .i64), (.int .i64), (.int .i64), (.int .i64), (.int .i64), .bool, (.sl [(.int .i64), (.int .i64), (.int .i64), (.int .i64), (.int .i64), (.int .i64), .bool]), (.int .i64), (.int .i64)], .sc (.int .i64)], [.sc (.int .i64)], tree_21) := by kernel_rfl
/- spec.l9Copy -/
def tree_119 : T :=
(.need [] (.o2 (.fits 56) (.o1 .len .nil) (.o1 .len (.o1 (.fld 6) (.var 0))))
(.ret [(.o2 .cons (.o1 (.fld 0) (.var 0)) (.o2 .cons (.o1 (.fld 1) (.var 0)) (.o2 .cons (.o1 (.fld 2) (.var 0)) (.o2 .cons (.o1 (.fld 3) (.var 0)) (.o2 .cons (.o1 (.fld 4) (.var 0)) (.o2 .cons (.o1 (.fld 5) (.var 0)) (.o2 .cons (.o2 .app .nil (.o1 (.fld 6) (.var 0))) .nil)))))))]))
theorem sig_119 : sigOf Try.prog md 119 [] = some ([.st [(.int .i64), (.int .i64), (.int .i64), (.int .i64), (.int .i64), .bool, (.sl [(.int .i64), (.int .i64), (.int .i64), (.int .i64), (.int .i64), (.int .i64), .bool])]], [.st [(.int .i64), (.int .i64), (.int .i64), (.int .i64), (.int .i64), .bool, (.sl [(.int .i64), (.int .i64), (.int .i64), (.int .i64), (.int .i64), (.int .i64), .bool])]], tree_119) := by kernel_rfl
/- spec.l10Copy -/
def tree_59 : T :=
(.call [] (.fn 119) [.st [(.int .i64), (.int .i64), (.int .i64), (.int .i64), (.int .i64), .bool, (.sl [(.int .i64), (.int .i64), (.int .i64), (.int .i64), (.int .i64), (.int .i64), .bool])] (.o2 .cons (.o1 (.fld 13) (.var 0)) (.o2 .cons (.o1 (.fld 14) (.var 0)) (.o2 .cons (.o1 (.fld 15) (.var 0)) (.o2 .cons (.o1 (.fld 16) (.var 0)) (.o2 .cons (.o1 (.fld 17) (.var 0)) (.o2 .cons (.o1 (.fld 18) (.var 0)) (.o2 .cons (.o1 (.fld 19) (.var 0)) .nil)))))))] [.st [(.int .i64), (.int .i64), (.int .i64), (.int .i64), (.int .i64), .bool, (.sl [(.int .i64), (.int .i64), (.int .i64), (.int .i64), (.int .i64), (.int .i64), .bool])]]
(.ret [(.o2 .cons (.o1 (.fld 0) (.var 0)) (.o2 .cons (.o1 (.fld 1) (.var 0)) (.o2 .cons (.o1 (.fld 2) (.var 0)) (.o2 .cons (.o1 (.fld 3) (.var 0)) (.o2 .cons (.o1 (.fld 4) (.var 0)) (.o2 .cons (.o1 (.fld 5) (.var 0)) (.o2 .cons (.o1 (.fld 6) (.var 0)) (.o2 .cons (.o1 (.fld 7) (.var 0)) (.o2 .cons (.o1 (.fld 8) (.var 0)) (.o2 .cons (.o1 (.fld 9) (.var 0)) (.o2 .cons (.o1 (.fld 10) (.var 0)) (.o2 .cons (.o1 (.fld 11) (.var 0)) (.o2 .cons (.o1 (.fld 12) (.var 0)) (.o2 .cons (.o1 (.fld 0) (.var 1)) (.o2 .cons (.o1 (.fld 1) (.var 1)) (.o2 .cons (.o1 (.fld 2) (.var 1)) (.o2 .cons (.o1 (.fld 3) (.var 1)) (.o2 .cons (.o1 (.fld 4) (.var 1)) (.o2 .cons (.o1 (.fld 5) (.var 1)) (.o2 .cons (.o1 (.fld 6) (.var 1)) (.o2 .cons (.o1 (.fld 20) (.var 0)) (.o2 .cons (.o1 (.fld 21) (.var 0)) .nil))))))))))))))))))))))]))
theorem sig_59 : sigOf Try.prog md 59 [] = some ([.st [(.int .i64), (.int .i64), (.int .i64), (.int .i64), (.int .i64), (.int .i64), (.int .i64), (.int .i64), (.int .i64), (.int .i64), (.int .i64), (.int .i64), (.int .i64), (.int .i64), (.int .i64), (.int .i64), (.int .i64), (.int .i64), .bool, (.sl [(.int .i64), (.int .i64), (.int .i64), (.int .i64), (.int .i64), (.int .i64), .bool]), (.int .i64), (.int .i64)]], [.st [(.int .i64), (.int .i64), (.int .i64), (.int .i64), (.int .i64), (.int .i64), (.int .i64), (.int .i64), (.int .i64), (.int .i64), (.int .i64), (.int .i64), (.int .i64), (.int .i64), (.int .i64), (.int .i64), (.int .i64), (.int .i64), .bool, (.sl [(.int .i64), (.int .i64), (.int .i64), (.int .i64), (.int .i64), (.int .i64), .bool]), (.int .i64), (.int .i64)]], tree_59) := by kernel_rfl
/- spec.Upto -/
def tree_60 : T :=
(.br (.o2 .lt (.var 1) (.var 0))
 (.br (.o2 .lt (.var 1) (.int 0))
  (.ret [(.int 0)])
  (.ret [(.var 1)]))
 (.br (.o2 .lt (.var 0) (.int 0))
  (.ret [(.int 0)])
  (.ret [(.var 0)])))
theorem sig_60 : sigOf Try.prog md 60 [] = some ([.sc (.int .i64), .sc (.int .i64)], [.sc (.int .i64)], tree_60) := by kernel_rfl
/- spec.Bound -/
def tree_120 : T :=
(.br (.o2 .gt (.var 0) (.int 2147483647))
 (.ret [(.int 2147483647)])
 (.br (.o2 .lt (.var 0) (.int (-2147483647)))
  (.ret [(.int (-2147483647))])
  (.ret [(.var 0)])))
theorem sig_120 : sigOf Try.prog md 120 [] = some ([.sc (.int .i64)], [.sc (.int .i64)], tree_120) := by kernel_rfl
/- spec.Less -/
def tree_61 : T :=
(.call [] (.fn 120) [.sc (.int .i64) (.var 0)] [.sc (.int .i64)]
(.call [] (.fn 120) [.sc (.int .i64) (.var 1)] [.sc (.int .i64)]
(.call [] (.fn 120) [.sc (.int .i64) (.o2 (.sub .i64) (.var 2) (.var 3))] [.sc (.int .i64)]
(.ret [(.var 4)]))))
theorem sig_61 : sigOf Try.prog md 61 [] = some ([.sc (.int .i64), .sc (.int .i64)], [.sc (.int .i64)], tree_61) := by kernel_rfl
/- spec.Spent -/
def tree_22 : T :=
(.call [] (.fn 59) [.st [(.int .i64), (.int .i64), (.int .i64), (.int .i64), (.int .i64), (.int .i64), (.int .i64), (.int .i64), (.int .i64), (.int .i64), (.int .i64), (.int .i64), (.int .i64), (.int .i64), (.int .i64), (.int .i64), (.int .i64), (.int .i64), .bool, (.sl [(.int .i64), (.int .i64), (.int .i64), (.int .i64), (.int .i64), (.int .i64), .bool]), (.int .i64), (.int .i64)] (.o2 .cons (.o1 (.fld 0) (.var 0)) (.o2 .cons (.o1 (.fld 1) (.var 0)) (.o2 .cons (.o1 (.fld 2) (.var 0)) (.o2 .cons (.o1 (.fld 3) (.var 0)) (.o2 .cons (.o1 (.fld 4) (.var 0)) (.o2 .cons (.o1 (.fld 5) (.var 0)) (.o2 .cons (.o1 (.fld 6) (.var 0)) (.o2 .cons (.o1 (.fld 7) (.var 0)) (.o2 .cons (.o1 (.fld 8) (.var 0)) (.o2 .cons (.o1 (.fld 9) (.var 0)) (.o2 .cons (.o1 (.fld 10) (.var 0)) (.o2 .cons (.o1 (.fld 11) (.var 0)) (.o2 .cons (.o1 (.fld 12) (.var 0)) (.o2 .cons (.o1 (.fld 13) (.var 0)) (.o2 .cons (.o1 (.fld 14) (.var 0)) (.o2 .cons (.o1 (.fld 15) (.var 0)) (.o2 .cons (.o1 (.fld 16) (.var 0)) (.o2 .cons (.o1 (.fld 17) (.var 0)) (.o2 .cons (.o1 (.fld 18) (.var 0)) (.o2 .cons (.o1 (.fld 19) (.var 0)) (.o2 .cons (.o1 (.fld 20) (.var 0)) (.o2 .cons (.o1 (.fld 21) (.var 0)) .nil))))))))))))))))))))))] [.st [(.int .i64), (.int .i64), (.int .i64), (.int .i64), (.int .i64), (.int .i64), (.int .i64), (.int .i64), (.int .i64), (.int .i64), (.int .i64), (.int .i64), (.int .i64), (.int .i64), (.int .i64), (.int .i64), (.int .i64), (.int .i64), .bool, (.sl [(.int .i64), (.int .i64), (.int .i64), (.int .i64), (.int .i64), (.int .i64), .bool]), (.int .i64), (.int .i64)]]
(.br (.o2 .eq (.o1 (.fld 13) (.var 0)) (.int 2))
 (.call [] (.fn 61) [.sc (.int .i64) (.o1 (.fld 21) (.var 0)), .sc (.int .i64) (.var 1)] [.sc (.int .i64)]
 (.call [] (.fn 60) [.sc (.int .i64) (.var 3), .sc (.int .i64) (.int 2147483647)] [.sc (.int .i64)]
 (.ret [(.o2 .cons (.o1 (.fld 0) (.var 2)) (.o2 .cons (.o1 (.fld 1) (.var 2)) (.o2 .cons (.o1 (.fld 2) (.var 2)) (.o2 .cons (.o1 (.fld 3) (.var 2)) (.o2 .cons (.o1 (.fld 4) (.var 2)) (.o2 .cons (.o1 (.fld 5) (.var 2)) (.o2 .cons (.o1 (.fld 6) (.var 2)) (.o2 .cons (.o1 (.fld 7) (.var 2)) (.o2 .cons (.o1 (.fld 8) (.var 2)) (.o2 .cons (.o1 (.fld 9) (.var 2)) (.o2 .cons (.o1 (.fld 10) (.var 2)) (.o2 .cons (.o1 (.fld 11) (.var 2)) (.o2 .cons (.o1 (.fld 12) (.var 2)) (.o2 .cons (.o1 (.fld 13) (.var 2)) (.o2 .cons (.o1 (.fld 14) (.var 2)) (.o2 .cons (.o1 (.fld 15) (.var 2)) (.o2 .cons (.o1 (.fld 16) (.var 2)) (.o2 .cons (.o1 (.fld 17) (.var 2)) (.o2 .cons (.o1 (.fld 18) (.var 2)) (.o2 .cons (.o1 (.fld 19) (.var 2)) (.o2 .cons (.o1 (.fld 20) (.var 2)) (.o2 .cons (.var 4) .nil))))))))))))))))))))))])))
 (.br (.o2 .gt (.o1 (.fld 21) (.var 0)) (.int 0))
  (.ret [(.o2 .cons (.o1 (.fld 0) (.var 2)) (.o2 .cons (.o1 (.fld 1) (.var 2)) (.o2 .cons (.o1 (.fld 2) (.var 2)) (.o2 .cons (.o1 (.fld 3) (.var 2)) (.o2 .cons (.o1 (.fld 4) (.var 2)) (.o2 .cons (.o1 (.fld 5) (.var 2)) (.o2 .cons (.o1 (.fld 6) (.var 2)) (.o2 .cons (.o1 (.fld 7) (.var 2)) (.o2 .cons (.o1 (.fld 8) (.var 2)) (.o2 .cons (.o1 (.fld 9) (.var 2)) (.o2 .cons (.o1 (.fld 10) (.var 2)) (.o2 .cons (.o1 (.fld 11) (.var 2)) (.o2 .cons (.o1 (.fld 12) (.var 2)) (.o2 .cons (.o1 (.fld 13) (.var 2)) (.o2 .cons (.o1 (.fld 14) (.var 2)) (.o2 .cons (.o1 (.fld 15) (.var 2)) (.o2 .cons (.o1 (.fld 16) (.var 2)) (.o2 .cons (.o1 (.fld 17) (.var 2)) (.o2 .cons (.o1 (.fld 18) (.var 2)) (.o2 .cons (.o1 (.fld 19) (.var 2)) (.o2 .cons (.o1 (.fld 20) (.var 2)) (.o2 .cons (.o2 (.sub .i64) (.o1 (.fld 21) (.var 0)) (.int 1)) .nil))))))))))))))))))))))])
  (.ret [(.o2 .cons (.o1 (.fld 0) (.var 2)) (.o2 .cons (.o1 (.fld 1) (.var 2)) (.o2 .cons (.o1 (.fld 2) (.var 2)) (.o2 .cons (.o1 (.fld 3) (.var 2)) (.o2 .cons (.o1 (.fld 4) (.var 2)) (.o2 .cons (.o1 (.fld 5) (.var 2)) (.o2 .cons (.o1 (.fld 6) (.var 2)) (.o2 .cons (.o1 (.fld 7) (.var 2)) (.o2 .cons (.o1 (.fld 8) (.var 2)) (.o2 .cons (.o1 (.fld 9) (.var 2)) (.o2 .cons (.o1 (.fld 10) (.var 2)) (.o2 .cons (.o1 (.fld 11) (.var 2)) (.o2 .cons (.o1 (.fld 12) (.var 2)) (.o2 .cons (.o1 (.fld 13) (.var 2)) (.o2 .cons (.o1 (.fld 14) (.var 2)) (.o2 .cons (.o1 (.fld 15) (.var 2)) (.o2 .cons (.o1 (.fld 16) (.var 2)) (.o2 .cons (.o1 (.fld 17) (.var 2)) (.o2 .cons (.o1 (.fld 18) (.var 2)) (.o2 .cons (.o1 (.fld 19) (.var 2)) (.o2 .cons (.o1 (.fld 20) (.var 2)) (.o2 .cons (.o1 (.fld 21) (.var 2)) .nil))))))))))))))))))))))]))))
theorem sig_22 : sigOf Try.prog md 22 [] = some ([.st [(.int .i64), (.int .i64), (.int .i64), (.int .i64), (.int .i64), (.int .i64), (.int .i64), (.int .i64), (.int .i64), (.int .i64), (.int .i64), (.int .i64), (.int .i64), (.int .i64), (.int .i64), (.int .i64), (.int .i64), (.int .i64), .bool, (.sl [(.int .i64), (.int .i64), (.int .i64), (.int .i64), (.int .i64), (.int .i64), .bool]), (.int .i64), (.int .i64)], .sc (.int .i64)], [.st [(.int .i64), (.int .i64), (.int .i64), (.int .i64), (.int .i64), (.int .i64), (.int .i64), (.int .i64), (.int .i64), (.int .i64), (.int .i64), (.int .i64), (.int .i64), (.int .i64), (.int .i64), (.int .i64), (.int .i64), (.int .i64), .bool, (.sl [(.int .i64), (.int .i64), (.int .i64), (.int .i64), (.int .i64), (.int .i64), .bool]), (.int .i64), (.int .i64)]], tree_22) := by kernel_rfl
/- laws.toPat -/
def tree_62 : T :=
(.ret [(.o2 .cons (.o1 (.fld 0) (.var 0)) (.o2 .cons (.o1 (.fld 1) (.var 0)) (.o2 .cons (.o1 (.fld 2) (.var 0)) (.o2 .cons (.o1 (.fld 3) (.var 0)) (.o2 .cons (.o1 (.fld 4) (.var 0)) (.o2 .cons (.o1 (.fld 5) (.var 0)) (.o2 .cons (.o1 (.fld 6) (.var 0)) .nil)))))))])
theorem sig_62 : sigOf Try.prog md 62 [] = some ([.st [(.int .i64), (.int .i64), (.int .i64), (.int .i64), (.int .i64), (.int .i64), (.int .i64)]], [.st [(.int .i64), (.int .i64), (.int .i64), (.int .i64), (.int .i64), (.int .i64), (.int .i64)]], tree_62) := by kernel_rfl
/- laws.toGuard -/
def tree_63 : T :=
(.ret [(.o2 .cons (.o1 (.fld 0) (.var 0)) (.o2 .cons (.o1 (.fld 1) (.var 0)) .nil))])
theorem sig_63 : sigOf Try.prog md 63 [] = some ([.st [(.int .i64), (.int .i64)]], [.st [(.int .i64), (.int .i64)]], tree_63) := by kernel_rfl
/- laws.toEvent -/
def tree_41 : T :=
(.ret [(.o2 .cons (.o1 (.fld 0) (.var 0)) (.o2 .cons (.o1 (.fld 1) (.var 0)) (.o2 .cons (.o1 (.fld 2) (.var 0)) (.o2 .cons (.o1 (.fld 3) (.var 0)) (.o2 .cons (.o1 (.fld 4) (.var 0)) (.o2 .cons (.o1 (.fld 5) (.var 0)) (.o2 .cons (.o1 (.fld 6) (.var 0)) .nil)))))))])
theorem sig_41 : sigOf Try.prog md 41 [] = some ([.st [(.int .i64), (.int .i64), (.int .i64), (.int .i64), (.int .i64), (.int .i64), .bool]], [.st [(.int .i64), (.int .i64), (.int .i64), (.int .i64), (.int .i64), (.int .i64), .bool]], tree_41) := by kernel_rfl
/- laws.toEventS -/
def tree_121 : T :=
(.know (.var 0)
(.need [] (.o2 .le (.int 0) (.o1 .len (.var 0)))
(.need [] (.o2 (.fits 56) (.o1 .len (.var 0)) (.int 0))
(.loop 0 [(.int 0), (.o2 .rep (.o1 .len (.var 0)) (.o2 .cons (.int 0) (.o2 .cons (.int 0) (.o2 .cons (.int 0) (.o2 .cons (.int 0) (.o2 .cons (.int 0) (.o2 .cons (.int 0) (.o2 .cons (.bool false) .nil))))))))]
 (.know (.var 0)
 (.br (.o2 .lt (.var 1) (.o1 .len (.var 0)))
  (.need [] (.o2 .le (.int 0) (.var 1))
  (.need [] (.o2 .lt (.var 1) (.o1 .len (.var 0)))
  (.call [] (.fn 41) [.st [(.int .i64), (.int .i64), (.int .i64), (.int .i64), (.int .i64), (.int .i64), .bool] (.o2 .cons (.o1 (.fld 0) (.o2 .idx (.var 0) (.var 1))) (.o2 .cons (.o1 (.fld 1) (.o2 .idx (.var 0) (.var 1))) (.o2 .cons (.o1 (.fld 2) (.o2 .idx (.var 0) (.var 1))) (.o2 .cons (.o1 (.fld 3) (.o2 .idx (.var 0) (.var 1))) (.o2 .cons (.o1 (.fld 4) (.o2 .idx (.var 0) (.var 1))) (.o2 .cons (.o1 (.fld 5) (.o2 .idx (.var 0) (.var 1))) (.o2 .cons (.o1 (.fld 6) (.o2 .idx (.var 0) (.var 1))) .nil)))))))] [.st [(.int .i64), (.int .i64), (.int .i64), (.int .i64), (.int .i64), (.int .i64), .bool]]
  (.need [] (.o2 .le (.int 0) (.var 1))
  (.need [] (.o2 .lt (.var 1) (.o1 .len (.var 2)))
  (.cont 0 [(.o2 (.add .i64) (.var 1) (.int 1)), (.o3 .setE (.var 2) (.var 1) (.o2 .cons (.o1 (.fld 0) (.var 3)) (.o2 .cons (.o1 (.fld 1) (.var 3)) (.o2 .cons (.o1 (.fld 2) (.var 3)) (.o2 .cons (.o1 (.fld 3) (.var 3)) (.o2 .cons (.o1 (.fld 4) (.var 3)) (.o2 .cons (.o1 (.fld 5) (.var 3)) (.o2 .cons (.o1 (.fld 6) (.var 3)) .nil))))))))]))))))
  (.ret [(.var 2)])))))))
theorem sig_121 : sigOf Try.prog md 121 [] = some ([.sc (.sl [(.int .i64), (.int .i64), (.int .i64), (.int .i64), (.int .i64), (.int .i64), .bool])], [.sc (.sl [(.int .i64), (.int .i64), (.int .i64), (.int .i64), (.int .i64), (.int .i64), .bool])], tree_121) := by kernel_rfl
/- laws.toAct -/
def tree_64 : T :=
(.call [] (.fn 121) [.sc (.sl [(.int .i64), (.int .i64), (.int .i64), (.int .i64), (.int .i64), (.int .i64), .bool]) (.o1 (.fld 6) (.var 0))] [.sc (.sl [(.int .i64), (.int .i64), (.int .i64), (.int .i64), (.int .i64), (.int .i64), .bool])]
(.ret [(.o2 .cons (.o1 (.fld 0) (.var 0)) (.o2 .cons (.o1 (.fld 1) (.var 0)) (.o2 .cons (.o1 (.fld 2) (.var 0)) (.o2 .cons (.o1 (.fld 3) (.var 0)) (.o2 .cons (.o1 (.fld 4) (.var 0)) (.o2 .cons (.o1 (.fld 5) (.var 0)) (.o2 .cons (.var 1) .nil)))))))]))
theorem sig_64 : sigOf Try.prog md 64 [] = some ([.st [(.int .i64), (.int .i64), (.int .i64), (.int .i64), (.int .i64), .bool, (.sl [(.int .i64), (.int .i64), (.int .i64), (.int .i64), (.int .i64), (.int .i64), .bool])]], [.st [(.int .i64), (.int .i64), (.int .i64), (.int .i64), (.int .i64), .bool, (.sl [(.int .i64), (.int .i64), (.int .i64), (.int .i64), (.int .i64), (.int .i64), .bool])]], tree_64) := by kernel_rfl
/- laws.toEffect -/
def tree_23 : T :=
(.call [] (.fn 62) [.st [(.int .i64), (.int .i64), (.int .i64), (.int .i64), (.int .i64), (.int .i64), (.int .i64)] (.o2 .cons (.o1 (.fld 4) (.var 0)) (.o2 .cons (.o1 (.fld 5) (.var 0)) (.o2 .cons (.o1 (.fld 6) (.var 0)) (.o2 .cons (.o1 (.fld 7) (.var 0)) (.o2 .cons (.o1 (.fld 8) (.var 0)) (.o2 .cons (.o1 (.fld 9) (.var 0)) (.o2 .cons (.o1 (.fld 10) (.var 0)) .nil)))))))] [.st [(.int .i64), (.int .i64), (.int .i64), (.int .i64), (.int .i64), (.int .i64), (.int .i64)]]
(.call [] (.fn 63) [.st [(.int .i64), (.int .i64)] (.o2 .cons (.o1 (.fld 11) (.var 0)) (.o2 .cons (.o1 (.fld 12) (.var 0)) .nil))] [.st [(.int .i64), (.int .i64)]]
(.call [] (.fn 64) [.st [(.int .i64), (.int .i64), (.int .i64), (.int .i64), (.int .i64), .bool, (.sl [(.int .i64), (.int .i64), (.int .i64), (.int .i64), (.int .i64), (.int .i64), .bool])] (.o2 .cons (.o1 (.fld 13) (.var 0)) (.o2 .cons (.o1 (.fld 14) (.var 0)) (.o2 .cons (.o1 (.fld 15) (.var 0)) (.o2 .cons (.o1 (.fld 16) (.var 0)) (.o2 .cons (.o1 (.fld 17) (.var 0)) (.o2 .cons (.o1 (.fld 18) (.var 0)) (.o2 .cons (.o1 (.fld 19) (.var 0)) .nil)))))))] [.st [(.int .i64), (.int .i64), (.int .i64), (.int .i64), (.int .i64), .bool, (.sl [(.int .i64), (.int .i64), (.int .i64), (.int .i64), (.int .i64), (.int .i64), .bool])]]
(.ret [(.o2 .cons (.o1 (.fld 0) (.var 0)) (.o2 .cons (.o1 (.fld 1) (.var 0)) (.o2 .cons (.o1 (.fld 2) (.var 0)) (.o2 .cons (.o1 (.fld 3) (.var 0)) (.o2 .cons (.o1 (.fld 0) (.var 1)) (.o2 .cons (.o1 (.fld 1) (.var 1)) (.o2 .cons (.o1 (.fld 2) (.var 1)) (.o2 .cons (.o1 (.fld 3) (.var 1)) (.o2 .cons (.o1 (.fld 4) (.var 1)) (.o2 .cons (.o1 (.fld 5) (.var 1)) (.o2 .cons (.o1 (.fld 6) (.var 1)) (.o2 .cons (.o1 (.fld 0) (.var 2)) (.o2 .cons (.o1 (.fld 1) (.var 2)) (.o2 .cons (.o1 (.fld 0) (.var 3)) (.o2 .cons (.o1 (.fld 1) (.var 3)) (.o2 .cons (.o1 (.fld 2) (.var 3)) (.o2 .cons (.o1 (.fld 3) (.var 3)) (.o2 .cons (.o1 (.fld 4) (.var 3)) (.o2 .cons (.o1 (.fld 5) (.var 3)) (.o2 .cons (.o1 (.fld 6) (.var 3)) (.o2 .cons (.o1 (.fld 20) (.var 0)) (.o2 .cons (.o1 (.fld 21) (.var 0)) .nil))))))))))))))))))))))]))))
theorem sig_23 : sigOf Try.prog md 23 [] = some ([.st [(.int .i64), (.int .i64), (.int .i64), (.int .i64), (.int .i64), (.int .i64), (.int .i64), (.int .i64), (.int .i64), (.int .i64), (.int .i64), (.int .i64), (.int .i64), (.int .i64), (.int .i64), (.int .i64), (.int .i64), (.int .i64), .bool, (.sl [(.int .i64), (.int .i64), (.int .i64), (.int .i64), (.int .i64), (.int .i64), .bool]), (.int .i64), (.int .i64)]], [.st [(.int .i64), (.int .i64), (.int .i64), (.int .i64), (.int .i64), (.int .i64), (.int .i64), (.int .i64), (.int .i64), (.int .i64), (.int .i64), (.int .i64), (.int .i64), (.int .i64), (.int .i64), (.int .i64), (.int .i64), (.int .i64), .bool, (.sl [(.int .i64), (.int .i64), (.int .i64), (.int .i64), (.int .i64), (.int .i64), .bool]), (.int .i64), (.int .i64)]], tree_23) := by kernel_rfl
/- slices.Clone[[]impl.Event,impl.Event] -/
def tree_122 : T :=
(.nilq (.var 0)
(.br (.var 1)
 (.ret [.nil])
 (.need [] (.o2 (.fits 56) (.o1 .len .nil) (.o1 .len (.var 0)))
 (.ret [(.o2 .app .nil (.var 0))]))))
theorem sig_122 : sigOf Try.prog md 122 [] = some ([.sc (.sl [(.int .i64), (.int .i64), (.int .i64), (.int .i64), (.int .i64), (.int .i64), .bool])], [.sc (.sl [(.int .i64), (.int .i64), (.int .i64), (.int .i64), (.int .i64), (.int .i64), .bool])], tree_122) := by kernel_rfl
/- impl.copyEffect -/
def tree_65 : T :=
(.call [] (.fn 122) [.sc (.sl [(.int .i64), (.int .i64), (.int .i64), (.int .i64), (.int .i64), (.int .i64), .bool]) (.o1 (.fld 19) (.var 0))] [.sc (.sl [(.int .i64), (.int .i64), (.int .i64), (.int .i64), (.int .i64), (.int .i64), .bool])]
(.ret [(.o2 .cons (.o1 (.fld 0) (.var 0)) (.o2 .cons (.o1 (.fld 1) (.var 0)) (.o2 .cons (.o1 (.fld 2) (.var 0)) (.o2 .cons (.o1 (.fld 3) (.var 0)) (.o2 .cons (.o1 (.fld 4) (.var 0)) (.o2 .cons (.o1 (.fld 5) (.var 0)) (.o2 .cons (.o1 (.fld 6) (.var 0)) (.o2 .cons (.o1 (.fld 7) (.var 0)) (.o2 .cons (.o1 (.fld 8) (.var 0)) (.o2 .cons (.o1 (.fld 9) (.var 0)) (.o2 .cons (.o1 (.fld 10) (.var 0)) (.o2 .cons (.o1 (.fld 11) (.var 0)) (.o2 .cons (.o1 (.fld 12) (.var 0)) (.o2 .cons (.o1 (.fld 13) (.var 0)) (.o2 .cons (.o1 (.fld 14) (.var 0)) (.o2 .cons (.o1 (.fld 15) (.var 0)) (.o2 .cons (.o1 (.fld 16) (.var 0)) (.o2 .cons (.o1 (.fld 17) (.var 0)) (.o2 .cons (.o1 (.fld 18) (.var 0)) (.o2 .cons (.var 1) (.o2 .cons (.o1 (.fld 20) (.var 0)) (.o2 .cons (.o1 (.fld 21) (.var 0)) .nil))))))))))))))))))))))]))
theorem sig_65 : sigOf Try.prog md 65 [] = some ([.st [(.int .i64), (.int .i64), (.int .i64), (.int .i64), (.int .i64), (.int .i64), (.int .i64), (.int .i64), (.int .i64), (.int .i64), (.int .i64), (.int .i64), (.int .i64), (.int .i64), (.int .i64), (.int .i64), (.int .i64), (.int .i64), .bool, (.sl [(.int .i64), (.int .i64), (.int .i64), (.int .i64), (.int .i64), (.int .i64), .bool]), (.int .i64), (.int .i64)]], [.st [(.int .i64), (.int .i64), (.int .i64), (.int .i64), (.int .i64), (.int .i64), (.int .i64), (.int .i64), (.int .i64), (.int .i64), (.int .i64), (.int .i64), (.int .i64), (.int .i64), (.int .i64), (.int .i64), (.int .i64), (.int .i64), .bool, (.sl [(.int .i64), (.int .i64), (.int .i64), (.int .i64), (.int .i64), (.int .i64), .bool]), (.int .i64), (.int .i64)]], tree_65) := by kernel_rfl
/- impl.Upto -/
def tree_66 : T :=
(.ret [(.o2 .max (.int 0) (.o2 .min (.var 0) (.var 1)))])
theorem sig_66 : sigOf Try.prog md 66 [] = some ([.sc (.int .i64), .sc (.int .i64)], [.sc (.int .i64)], tree_66) := by kernel_rfl
/- impl.Bound -/
def tree_123 : T :=
(.ret [(.o2 .max (.int (-2147483647)) (.o2 .min (.var 0) (.int 2147483647)))])
theorem sig_123 : sigOf Try.prog md 123 [] = some ([.sc (.int .i64)], [.sc (.int .i64)], tree_123) := by kernel_rfl
/- impl.Less -/
def tree_67 : T :=
(.call [] (.fn 123) [.sc (.int .i64) (.var 0)] [.sc (.int .i64)]
(.call [] (.fn 123) [.sc (.int .i64) (.var 1)] [.sc (.int .i64)]
(.call [] (.fn 123) [.sc (.int .i64) (.o2 (.sub .i64) (.var 2) (.var 3))] [.sc (.int .i64)]
(.ret [(.var 4)]))))
theorem sig_67 : sigOf Try.prog md 67 [] = some ([.sc (.int .i64), .sc (.int .i64)], [.sc (.int .i64)], tree_67) := by kernel_rfl
/- impl.Spent -/
def tree_24 : T :=
(.call [] (.fn 65) [.st [(.int .i64), (.int .i64), (.int .i64), (.int .i64), (.int .i64), (.int .i64), (.int .i64), (.int .i64), (.int .i64), (.int .i64), (.int .i64), (.int .i64), (.int .i64), (.int .i64), (.int .i64), (.int .i64), (.int .i64), (.int .i64), .bool, (.sl [(.int .i64), (.int .i64), (.int .i64), (.int .i64), (.int .i64), (.int .i64), .bool]), (.int .i64), (.int .i64)] (.o2 .cons (.o1 (.fld 0) (.var 0)) (.o2 .cons (.o1 (.fld 1) (.var 0)) (.o2 .cons (.o1 (.fld 2) (.var 0)) (.o2 .cons (.o1 (.fld 3) (.var 0)) (.o2 .cons (.o1 (.fld 4) (.var 0)) (.o2 .cons (.o1 (.fld 5) (.var 0)) (.o2 .cons (.o1 (.fld 6) (.var 0)) (.o2 .cons (.o1 (.fld 7) (.var 0)) (.o2 .cons (.o1 (.fld 8) (.var 0)) (.o2 .cons (.o1 (.fld 9) (.var 0)) (.o2 .cons (.o1 (.fld 10) (.var 0)) (.o2 .cons (.o1 (.fld 11) (.var 0)) (.o2 .cons (.o1 (.fld 12) (.var 0)) (.o2 .cons (.o1 (.fld 13) (.var 0)) (.o2 .cons (.o1 (.fld 14) (.var 0)) (.o2 .cons (.o1 (.fld 15) (.var 0)) (.o2 .cons (.o1 (.fld 16) (.var 0)) (.o2 .cons (.o1 (.fld 17) (.var 0)) (.o2 .cons (.o1 (.fld 18) (.var 0)) (.o2 .cons (.o1 (.fld 19) (.var 0)) (.o2 .cons (.o1 (.fld 20) (.var 0)) (.o2 .cons (.o1 (.fld 21) (.var 0)) .nil))))))))))))))))))))))] [.st [(.int .i64), (.int .i64), (.int .i64), (.int .i64), (.int .i64), (.int .i64), (.int .i64), (.int .i64), (.int .i64), (.int .i64), (.int .i64), (.int .i64), (.int .i64), (.int .i64), (.int .i64), (.int .i64), (.int .i64), (.int .i64), .bool, (.sl [(.int .i64), (.int .i64), (.int .i64), (.int .i64), (.int .i64), (.int .i64), .bool]), (.int .i64), (.int .i64)]]
(.br (.o2 .eq (.o1 (.fld 13) (.var 2)) (.int 2))
 (.call [] (.fn 67) [.sc (.int .i64) (.o1 (.fld 21) (.var 2)), .sc (.int .i64) (.var 1)] [.sc (.int .i64)]
 (.call [] (.fn 66) [.sc (.int .i64) (.var 3), .sc (.int .i64) (.int 2147483647)] [.sc (.int .i64)]
 (.ret [(.o2 .cons (.o1 (.fld 0) (.var 2)) (.o2 .cons (.o1 (.fld 1) (.var 2)) (.o2 .cons (.o1 (.fld 2) (.var 2)) (.o2 .cons (.o1 (.fld 3) (.var 2)) (.o2 .cons (.o1 (.fld 4) (.var 2)) (.o2 .cons (.o1 (.fld 5) (.var 2)) (.o2 .cons (.o1 (.fld 6) (.var 2)) (.o2 .cons (.o1 (.fld 7) (.var 2)) (.o2 .cons (.o1 (.fld 8) (.var 2)) (.o2 .cons (.o1 (.fld 9) (.var 2)) (.o2 .cons (.o1 (.fld 10) (.var 2)) (.o2 .cons (.o1 (.fld 11) (.var 2)) (.o2 .cons (.o1 (.fld 12) (.var 2)) (.o2 .cons (.o1 (.fld 13) (.var 2)) (.o2 .cons (.o1 (.fld 14) (.var 2)) (.o2 .cons (.o1 (.fld 15) (.var 2)) (.o2 .cons (.o1 (.fld 16) (.var 2)) (.o2 .cons (.o1 (.fld 17) (.var 2)) (.o2 .cons (.o1 (.fld 18) (.var 2)) (.o2 .cons (.o1 (.fld 19) (.var 2)) (.o2 .cons (.o1 (.fld 20) (.var 2)) (.o2 .cons (.var 4) .nil))))))))))))))))))))))])))
 (.br (.o2 .gt (.o1 (.fld 21) (.var 2)) (.int 0))
  (.ret [(.o2 .cons (.o1 (.fld 0) (.var 2)) (.o2 .cons (.o1 (.fld 1) (.var 2)) (.o2 .cons (.o1 (.fld 2) (.var 2)) (.o2 .cons (.o1 (.fld 3) (.var 2)) (.o2 .cons (.o1 (.fld 4) (.var 2)) (.o2 .cons (.o1 (.fld 5) (.var 2)) (.o2 .cons (.o1 (.fld 6) (.var 2)) (.o2 .cons (.o1 (.fld 7) (.var 2)) (.o2 .cons (.o1 (.fld 8) (.var 2)) (.o2 .cons (.o1 (.fld 9) (.var 2)) (.o2 .cons (.o1 (.fld 10) (.var 2)) (.o2 .cons (.o1 (.fld 11) (.var 2)) (.o2 .cons (.o1 (.fld 12) (.var 2)) (.o2 .cons (.o1 (.fld 13) (.var 2)) (.o2 .cons (.o1 (.fld 14) (.var 2)) (.o2 .cons (.o1 (.fld 15) (.var 2)) (.o2 .cons (.o1 (.fld 16) (.var 2)) (.o2 .cons (.o1 (.fld 17) (.var 2)) (.o2 .cons (.o1 (.fld 18) (.var 2)) (.o2 .cons (.o1 (.fld 19) (.var 2)) (.o2 .cons (.o1 (.fld 20) (.var 2)) (.o2 .cons (.o2 (.sub .i64) (.o1 (.fld 21) (.var 2)) (.int 1)) .nil))))))))))))))))))))))])
  (.ret [(.o2 .cons (.o1 (.fld 0) (.var 2)) (.o2 .cons (.o1 (.fld 1) (.var 2)) (.o2 .cons (.o1 (.fld 2) (.var 2)) (.o2 .cons (.o1 (.fld 3) (.var 2)) (.o2 .cons (.o1 (.fld 4) (.var 2)) (.o2 .cons (.o1 (.fld 5) (.var 2)) (.o2 .cons (.o1 (.fld 6) (.var 2)) (.o2 .cons (.o1 (.fld 7) (.var 2)) (.o2 .cons (.o1 (.fld 8) (.var 2)) (.o2 .cons (.o1 (.fld 9) (.var 2)) (.o2 .cons (.o1 (.fld 10) (.var 2)) (.o2 .cons (.o1 (.fld 11) (.var 2)) (.o2 .cons (.o1 (.fld 12) (.var 2)) (.o2 .cons (.o1 (.fld 13) (.var 2)) (.o2 .cons (.o1 (.fld 14) (.var 2)) (.o2 .cons (.o1 (.fld 15) (.var 2)) (.o2 .cons (.o1 (.fld 16) (.var 2)) (.o2 .cons (.o1 (.fld 17) (.var 2)) (.o2 .cons (.o1 (.fld 18) (.var 2)) (.o2 .cons (.o1 (.fld 19) (.var 2)) (.o2 .cons (.o1 (.fld 20) (.var 2)) (.o2 .cons (.o1 (.fld 21) (.var 2)) .nil))))))))))))))))))))))]))))
theorem sig_24 : sigOf Try.prog md 24 [] = some ([.st [(.int .i64), (.int .i64), (.int .i64), (.int .i64), (.int .i64), (.int .i64), (.int .i64), (.int .i64), (.int .i64), (.int .i64), (.int .i64), (.int .i64), (.int .i64), (.int .i64), (.int .i64), (.int .i64), (.int .i64), (.int .i64), .bool, (.sl [(.int .i64), (.int .i64), (.int .i64), (.int .i64), (.int .i64), (.int .i64), .bool]), (.int .i64), (.int .i64)], .sc (.int .i64)], [.st [(.int .i64), (.int .i64), (.int .i64), (.int .i64), (.int .i64), (.int .i64), (.int .i64), (.int .i64), (.int .i64), (.int .i64), (.int .i64), (.int .i64), (.int .i64), (.int .i64), (.int .i64), (.int .i64), (.int .i64), (.int .i64), .bool, (.sl [(.int .i64), (.int .i64), (.int .i64), (.int .i64), (.int .i64), (.int .i64), .bool]), (.int .i64), (.int .i64)]], tree_24) := by kernel_rfl
/- laws.eqPat -/
def tree_68 : T :=
(.br (.o2 .ne (.o1 (.fld 0) (.var 0)) (.o1 (.fld 0) (.var 1)))
 (.ret [(.bool false)])
 (.br (.o2 .ne (.o1 (.fld 1) (.var 0)) (.o1 (.fld 1) (.var 1)))
  (.ret [(.bool false)])
  (.br (.o2 .ne (.o1 (.fld 2) (.var 0)) (.o1 (.fld 2) (.var 1)))
   (.ret [(.bool false)])
   (.br (.o2 .ne (.o1 (.fld 3) (.var 0)) (.o1 (.fld 3) (.var 1)))
    (.ret [(.bool false)])
    (.br (.o2 .ne (.o1 (.fld 4) (.var 0)) (.o1 (.fld 4) (.var 1)))
     (.ret [(.bool false)])
     (.br (.o2 .ne (.o1 (.fld 5) (.var 0)) (.o1 (.fld 5) (.var 1)))
      (.ret [(.bool false)])
      (.br (.o2 .ne (.o1 (.fld 6) (.var 0)) (.o1 (.fld 6) (.var 1)))
       (.ret [(.bool false)])
       (.ret [(.bool true)]))))))))
theorem sig_68 : sigOf Try.prog md 68 [] = some ([.st [(.int .i64), (.int .i64), (.int .i64), (.int .i64), (.int .i64), (.int .i64), (.int .i64)], .st [(.int .i64), (.int .i64), (.int .i64), (.int .i64), (.int .i64), (.int .i64), (.int .i64)]], [.sc .bool], tree_68) := by kernel_rfl
/- laws.eqGuard -/
def tree_69 : T :=
(.br (.o2 .ne (.o1 (.fld 0) (.var 0)) (.o1 (.fld 0) (.var 1)))
 (.ret [(.bool false)])
 (.br (.o2 .ne (.o1 (.fld 1) (.var 0)) (.o1 (.fld 1) (.var 1)))
  (.ret [(.bool false)])
  (.ret [(.bool true)])))
theorem sig_69 : sigOf Try.prog md 69 [] = some ([.st [(.int .i64), (.int .i64)], .st [(.int .i64), (.int .i64)]], [.sc .bool], tree_69) := by kernel_rfl
/- laws.eqEvent -/
def tree_102 : T :=
(.br (.o2 .ne (.o1 (.fld 0) (.var 0)) (.o1 (.fld 0) (.var 1)))
 (.ret [(.bool false)])
 (.br (.o2 .ne (.o1 (.fld 1) (.var 0)) (.o1 (.fld 1) (.var 1)))
  (.ret [(.bool false)])
  (.br (.o2 .ne (.o1 (.fld 2) (.var 0)) (.o1 (.fld 2) (.var 1)))
   (.ret [(.bool false)])
   (.br (.o2 .ne (.o1 (.fld 3) (.var 0)) (.o1 (.fld 3) (.var 1)))
    (.ret [(.bool false)])
    (.br (.o2 .ne (.o1 (.fld 4) (.var 0)) (.o1 (.fld 4) (.var 1)))
     (.ret [(.bool false)])
     (.br (.o2 .ne (.o1 (.fld 5) (.var 0)) (.o1 (.fld 5) (.var 1)))
      (.ret [(.bool false)])
      (.br (.o2 .bne (.o1 (.fld 6) (.var 0)) (.o1 (.fld 6) (.var 1)))
       (.ret [(.bool false)])
       (.ret [(.bool true)]))))))))
theorem sig_102 : sigOf Try.prog md 102 [] = some ([.st [(.int .i64), (.int .i64), (.int .i64), (.int .i64), (.int .i64), (.int .i64), .bool], .st [(.int .i64), (.int .i64), (.int .i64), (.int .i64), (.int .i64), (.int .i64), .bool]], [.sc .bool], tree_102) := by kernel_rfl
/- laws.eqEventS -/
def tree_43 : T :=
(.know (.var 0)
(.know (.var 1)
(.br (.o2 .ne (.o1 .len (.var 0)) (.o1 .len (.var 1)))
 (.ret [(.bool false)])
 (.loop 0 [(.int 0)]
  (.know (.var 0)
  (.br (.o2 .lt (.var 2) (.o1 .len (.var 0)))
   (.need [] (.o2 .le (.int 0) (.var 2))
   (.need [] (.o2 .lt (.var 2) (.o1 .len (.var 0)))
   (.need [] (.o2 .le (.int 0) (.var 2))
   (.need [] (.o2 .lt (.var 2) (.o1 .len (.var 1)))
   (.call [] (.fn 102) [.st [(.int .i64), (.int .i64), (.int .i64), (.int .i64), (.int .i64), (.int .i64), .bool] (.o2 .cons (.o1 (.fld 0) (.o2 .idx (.var 0) (.var 2))) (.o2 .cons (.o1 (.fld 1) (.o2 .idx (.var 0) (.var 2))) (.o2 .cons (.o1 (.fld 2) (.o2 .idx (.var 0) (.var 2))) (.o2 .cons (.o1 (.fld 3) (.o2 .idx (.var 0) (.var 2))) (.o2 .cons (.o1 (.fld 4) (.o2 .idx (.var 0) (.var 2))) (.o2 .cons (.o1 (.fld 5) (.o2 .idx (.var 0) (.var 2))) (.o2 .cons (.o1 (.fld 6) (.o2 .idx (.var 0) (.var 2))) .nil))))))), .st [(.int .i64), (.int .i64), (.int .i64), (.int .i64), (.int .i64), (.int .i64), .bool] (.o2 .cons (.o1 (.fld 0) (.o2 .idx (.var 1) (.var 2))) (.o2 .cons (.o1 (.fld 1) (.o2 .idx (.var 1) (.var 2))) (.o2 .cons (.o1 (.fld 2) (.o2 .idx (.var 1) (.var 2))) (.o2 .cons (.o1 (.fld 3) (.o2 .idx (.var 1) (.var 2))) (.o2 .cons (.o1 (.fld 4) (.o2 .idx (.var 1) (.var 2))) (.o2 .cons (.o1 (.fld 5) (.o2 .idx (.var 1) (.var 2))) (.o2 .cons (.o1 (.fld 6) (.o2 .idx (.var 1) (.var 2))) .nil)))))))] [.sc .bool]
   (.br (.o1 .not (.var 3))
    (.ret [(.bool false)])
    (.cont 0 [(.o2 (.add .i64) (.var 2) (.int 1))])))))))
   (.ret [(.bool true)])))))))
theorem sig_43 : sigOf Try.prog md 43 [] = some ([.sc (.sl [(.int .i64), (.int .i64), (.int .i64), (.int .i64), (.int .i64), (.int .i64), .bool]), .sc (.sl [(.int .i64), (.int .i64), (.int .i64), (.int .i64), (.int .i64), (.int .i64), .bool])], [.sc .bool], tree_43) := by kernel_rfl
/- laws.eqAct -/
def tree_70 : T :=
(.br (.o2 .ne (.o1 (.fld 0) (.var 0)) (.o1 (.fld 0) (.var 1)))
 (.ret [(.bool false)])
 (.br (.o2 .ne (.o1 (.fld 1) (.var 0)) (.o1 (.fld 1) (.var 1)))
  (.ret [(.bool false)])
  (.br (.o2 .ne (.o1 (.fld 2) (.var 0)) (.o1 (.fld 2) (.var 1)))
   (.ret [(.bool false)])
   (.br (.o2 .ne (.o1 (.fld 3) (.var 0)) (.o1 (.fld 3) (.var 1)))
    (.ret [(.bool false)])
    (.br (.o2 .ne (.o1 (.fld 4) (.var 0)) (.o1 (.fld 4) (.var 1)))
     (.ret [(.bool false)])
     (.br (.o2 .bne (.o1 (.fld 5) (.var 0)) (.o1 (.fld 5) (.var 1)))
      (.ret [(.bool false)])
      (.call [] (.fn 43) [.sc (.sl [(.int .i64), (.int .i64), (.int .i64), (.int .i64), (.int .i64), (.int .i64), .bool]) (.o1 (.fld 6) (.var 0)), .sc (.sl [(.int .i64), (.int .i64), (.int .i64), (.int .i64), (.int .i64), (.int .i64), .bool]) (.o1 (.fld 6) (.var 1))] [.sc .bool]
      (.br (.o1 .not (.var 2))
       (.ret [(.bool false)])
       (.ret [(.bool true)])))))))))
theorem sig_70 : sigOf Try.prog md 70 [] = some ([.st [(.int .i64), (.int .i64), (.int .i64), (.int .i64), (.int .i64), .bool, (.sl [(.int .i64), (.int .i64), (.int .i64), (.int .i64), (.int .i64), (.int .i64), .bool])], .st [(.int .i64), (.int .i64), (.int .i64), (.int .i64), (.int .i64), .bool, (.sl [(.int .i64), (.int .i64), (.int .i64), (.int .i64), (.int .i64), (.int .i64), .bool])]], [.sc .bool], tree_70) := by kernel_rfl
/- laws.eqEffect -/
def tree_25 : T :=
(.br (.o2 .ne (.o1 (.fld 0) (.var 0)) (.o1 (.fld 0) (.var 1)))
 (.ret [(.bool false)])
 (.br (.o2 .ne (.o1 (.fld 1) (.var 0)) (.o1 (.fld 1) (.var 1)))
  (.ret [(.bool false)])
  (.br (.o2 .ne (.o1 (.fld 2) (.var 0)) (.o1 (.fld 2) (.var 1)))
   (.ret [(.bool false)])
   (.br (.o2 .ne (.o1 (.fld 3) (.var 0)) (.o1 (.fld 3) (.var 1)))
    (.ret [(.bool false)])
    (.call [] (.fn 68) [.st [(.int .i64), (.int .i64), (.int .i64), (.int .i64), (.int .i64), (.int .i64), (.int .i64)] (.o2 .cons (.o1 (.fld 4) (.var 0)) (.o2 .cons (.o1 (.fld 5) (.var 0)) (.o2 .cons (.o1 (.fld 6) (.var 0)) (.o2 .cons (.o1 (.fld 7) (.var 0)) (.o2 .cons (.o1 (.fld 8) (.var 0)) (.o2 .cons (.o1 (.fld 9) (.var 0)) (.o2 .cons (.o1 (.fld 10) (.var 0)) .nil))))))), .st [(.int .i64), (.int .i64), (.int .i64), (.int .i64), (.int .i64), (.int .i64), (.int .i64)] (.o2 .cons (.o1 (.fld 4) (.var 1)) (.o2 .cons (.o1 (.fld 5) (.var 1)) (.o2 .cons (.o1 (.fld 6) (.var 1)) (.o2 .cons (.o1 (.fld 7) (.var 1)) (.o2 .cons (.o1 (.fld 8) (.var 1)) (.o2 .cons (.o1 (.fld 9) (.var 1)) (.o2 .cons (.o1 (.fld 10) (.var 1)) .nil)))))))] [.sc .bool]
    (.br (.o1 .not (.var 2))
     (.ret [(.bool false)])
     (.call [] (.fn 69) [.st [(.int .i64), (.int .i64)] (.o2 .cons (.o1 (.fld 11) (.var 0)) (.o2 .cons (.o1 (.fld 12) (.var 0)) .nil)), .st [(.int .i64), (.int .i64)] (.o2 .cons (.o1 (.fld 11) (.var 1)) (.o2 .cons (.o1 (.fld 12) (.var 1)) .nil))] [.sc .bool]
     (.br (.o1 .not (.var 3))
      (.ret [(.bool false)])
      (.call [] (.fn 70) [.st [(.int .i64), (.int .i64), (.int .i64), (.int .i64), (.int .i64), .bool, (.sl [(.int .i64), (.int .i64), (.int .i64), (.int .i64), (.int .i64), (.int .i64), .bool])] (.o2 .cons (.o1 (.fld 13) (.var 0)) (.o2 .cons (.o1 (.fld 14) (.var 0)) (.o2 .cons (.o1 (.fld 15) (.var 0)) (.o2 .cons (.o1 (.fld 16) (.var 0)) (.o2 .cons (.o1 (.fld 17) (.var 0)) (.o2 .cons (.o1 (.fld 18) (.var 0)) (.o2 .cons (.o1 (.fld 19) (.var 0)) .nil))))))), .st [(.int .i64), (.int .i64), (.int .i64), (.int .i64), (.int .i64), .bool, (.sl [(.int .i64), (.int .i64), (.int .i64), (.int .i64), (.int .i64), (.int .i64), .bool])] (.o2 .cons (.o1 (.fld 13) (.var 1)) (.o2 .cons (.o1 (.fld 14) (.var 1)) (.o2 .cons (.o1 (.fld 15) (.var 1)) (.o2 .cons (.o1 (.fld 16) (.var 1)) (.o2 .cons (.o1 (.fld 17) (.var 1)) (.o2 .cons (.o1 (.fld 18) (.var 1)) (.o2 .cons (.o1 (.fld 19) (.var 1)) .nil)))))))] [.sc .bool]
      (.br (.o1 .not (.var 4))
       (.ret [(.bool false)])
       (.br (.o2 .ne (.o1 (.fld 20) (.var 0)) (.o1 (.fld 20) (.var 1)))
        (.ret [(.bool false)])
        (.br (.o2 .ne (.o1 (.fld 21) (.var 0)) (.o1 (.fld 21) (.var 1)))
         (.ret [(.bool false)])
         (.ret [(.bool true)])))))))))))))
theorem sig_25 : sigOf Try.prog md 25 [] = some ([.st [(.int .i64), (.int .i64), (.int .i64), (.int .i64), (.int .i64), (.int .i64), (.int .i64), (.int .i64), (.int .i64), (.int .i64), (.int .i64), (.int .i64), (.int .i64), (.int .i64), (.int .i64), (.int .i64), (.int .i64), (.int .i64), .bool, (.sl [(.int .i64), (.int .i64), (.int .i64), (.int .i64), (.int .i64), (.int .i64), .bool]), (.int .i64), (.int .i64)], .st [(.int .i64), (.int .i64), (.int .i64), (.int .i64), (.int .i64), (.int .i64), (.int .i64), (.int .i64), (.int .i64), (.int .i64), (.int .i64), (.int .i64), (.int .i64), (.int .i64), (.int .i64), (.int .i64), (.int .i64), (.int .i64), .bool, (.sl [(.int .i64), (.int .i64), (.int .i64), (.int .i64), (.int .i64), (.int .i64), .bool]), (.int .i64), (.int .i64)]], [.sc .bool], tree_25) := by kernel_rfl
/- laws.markEventS -/
def tree_44 : T :=
(.loop 0 [(.var 1), (.int 0), (.var 0)]
 (.know (.var 4)
 (.br (.o2 .lt (.var 3) (.o1 .len (.var 4)))
  (.need [] (.o2 .le (.int 0) (.var 3))
  (.need [] (.o2 .lt (.var 3) (.o1 .len (.var 4)))
  (.need [] (.o2 .le (.int 0) (.var 3))
  (.need [] (.o2 .lt (.var 3) (.o1 .len (.o3 (.setC 0) (.var 4) (.var 3) (.var 2))))
  (.need [] (.o2 .le (.int 0) (.var 3))
  (.need [] (.o2 .lt (.var 3) (.o1 .len (.o3 (.setC 1) (.o3 (.setC 0) (.var 4) (.var 3) (.var 2)) (.var 3) (.o2 (.add .i64) (.var 2) (.int 1)))))
  (.need [] (.o2 .le (.int 0) (.var 3))
  (.need [] (.o2 .lt (.var 3) (.o1 .len (.o3 (.setC 2) (.o3 (.setC 1) (.o3 (.setC 0) (.var 4) (.var 3) (.var 2)) (.var 3) (.o2 (.add .i64) (.var 2) (.int 1))) (.var 3) (.o2 (.add .i64) (.o2 (.add .i64) (.var 2) (.int 1)) (.int 1)))))
  (.need [] (.o2 .le (.int 0) (.var 3))
  (.need [] (.o2 .lt (.var 3) (.o1 .len (.o3 (.setC 3) (.o3 (.setC 2) (.o3 (.setC 1) (.o3 (.setC 0) (.var 4) (.var 3) (.var 2)) (.var 3) (.o2 (.add .i64) (.var 2) (.int 1))) (.var 3) (.o2 (.add .i64) (.o2 (.add .i64) (.var 2) (.int 1)) (.int 1))) (.var 3) (.o2 (.add .i64) (.o2 (.add .i64) (.o2 (.add .i64) (.var 2) (.int 1)) (.int 1)) (.int 1)))))
  (.need [] (.o2 .le (.int 0) (.var 3))
  (.need [] (.o2 .lt (.var 3) (.o1 .len (.o3 (.setC 4) (.o3 (.setC 3) (.o3 (.setC 2) (.o3 (.setC 1) (.o3 (.setC 0) (.var 4) (.var 3) (.var 2)) (.var 3) (.o2 (.add .i64) (.var 2) (.int 1))) (.var 3) (.o2 (.add .i64) (.o2 (.add .i64) (.var 2) (.int 1)) (.int 1))) (.var 3) (.o2 (.add .i64) (.o2 (.add .i64) (.o2 (.add .i64) (.var 2) (.int 1)) (.int 1)) (.int 1))) (.var 3) (.o2 (.add .i64) (.o2 (.add .i64) (.o2 (.add .i64) (.o2 (.add .i64) (.var 2) (.int 1)) (.int 1)) (.int 1)) (.int 1)))))
  (.need [] (.o2 .ne (.int 3) (.int 0))
  (.need [] (.o2 .le (.int 0) (.var 3))
  (.need [] (.o2 .lt (.var 3) (.o1 .len (.o3 (.setC 5) (.o3 (.setC 4) (.o3 (.setC 3) (.o3 (.setC 2) (.o3 (.setC 1) (.o3 (.setC 0) (.var 4) (.var 3) (.var 2)) (.var 3) (.o2 (.add .i64) (.var 2) (.int 1))) (.var 3) (.o2 (.add .i64) (.o2 (.add .i64) (.var 2) (.int 1)) (.int 1))) (.var 3) (.o2 (.add .i64) (.o2 (.add .i64) (.o2 (.add .i64) (.var 2) (.int 1)) (.int 1)) (.int 1))) (.var 3) (.o2 (.add .i64) (.o2 (.add .i64) (.o2 (.add .i64) (.o2 (.add .i64) (.var 2) (.int 1)) (.int 1)) (.int 1)) (.int 1))) (.var 3) (.o2 (.add .i64) (.o2 (.add .i64) (.o2 (.add .i64) (.o2 (.add .i64) (.o2 (.add .i64) (.var 2) (.int 1)) (.int 1)) (.int 1)) (.int 1)) (.int 1)))))
  (.cont 0 [(.o2 (.add .i64) (.o2 (.add .i64) (.o2 (.add .i64) (.o2 (.add .i64) (.o2 (.add .i64) (.o2 (.add .i64) (.o2 (.add .i64) (.var 2) (.int 1)) (.int 1)) (.int 1)) (.int 1)) (.int 1)) (.int 1)) (.int 1)), (.o2 (.add .i64) (.var 3) (.int 1)), (.o3 (.setC 6) (.o3 (.setC 5) (.o3 (.setC 4) (.o3 (.setC 3) (.o3 (.setC 2) (.o3 (.setC 1) (.o3 (.setC 0) (.var 4) (.var 3) (.var 2)) (.var 3) (.o2 (.add .i64) (.var 2) (.int 1))) (.var 3) (.o2 (.add .i64) (.o2 (.add .i64) (.var 2) (.int 1)) (.int 1))) (.var 3) (.o2 (.add .i64) (.o2 (.add .i64) (.o2 (.add .i64) (.var 2) (.int 1)) (.int 1)) (.int 1))) (.var 3) (.o2 (.add .i64) (.o2 (.add .i64) (.o2 (.add .i64) (.o2 (.add .i64) (.var 2) (.int 1)) (.int 1)) (.int 1)) (.int 1))) (.var 3) (.o2 (.add .i64) (.o2 (.add .i64) (.o2 (.add .i64) (.o2 (.add .i64) (.o2 (.add .i64) (.var 2) (.int 1)) (.int 1)) (.int 1)) (.int 1)) (.int 1))) (.var 3) (.o2 .eq (.o2 .rem (.o2 (.add .i64) (.o2 (.add .i64) (.o2 (.add .i64) (.o2 (.add .i64) (.o2 (.add .i64) (.o2 (.add .i64) (.var 2) (.int 1)) (.int 1)) (.int 1)) (.int 1)) (.int 1)) (.int 1)) (.int 3)) (.int 0)))]))))))))))))))))
  (.ret [(.var 2), (.var 4)]))))
theorem sig_44 : sigOf Try.prog md 44 [] = some ([.row [(.int .i64), (.int .i64), (.int .i64), (.int .i64), (.int .i64), (.int .i64), .bool], .sc (.int .i64)], [.sc (.int .i64)], tree_44) := by kernel_rfl
/- laws.markAct -/
def tree_71 : T :=
(.call [] (.fn 44) [.row [(.int .i64), (.int .i64), (.int .i64), (.int .i64), (.int .i64), (.int .i64), .bool] (.o1 (.fld 6) (.var 0)), .sc (.int .i64) (.var 1)] [.sc (.int .i64)]
(.ret [(.var 2), (.o2 .cons (.o1 (.fld 0) (.var 0)) (.o2 .cons (.o1 (.fld 1) (.var 0)) (.o2 .cons (.o1 (.fld 2) (.var 0)) (.o2 .cons (.o1 (.fld 3) (.var 0)) (.o2 .cons (.o1 (.fld 4) (.var 0)) (.o2 .cons (.o1 (.fld 5) (.var 0)) (.o2 .cons (.var 3) .nil)))))))]))
theorem sig_71 : sigOf Try.prog md 71 [] = some ([.stw [(.int .i64), (.int .i64), (.int .i64), (.int .i64), (.int .i64), .bool, (.sl [(.int .i64), (.int .i64), (.int .i64), (.int .i64), (.int .i64), (.int .i64), .bool])], .sc (.int .i64)], [.sc (.int .i64)], tree_71) := by kernel_rfl
/- laws.markEffect -/
def tree_26 : T :=
(.call [] (.fn 71) [.stw [(.int .i64), (.int .i64), (.int .i64), (.int .i64), (.int .i64), .bool, (.sl [(.int .i64), (.int .i64), (.int .i64), (.int .i64), (.int .i64), (.int .i64), .bool])] (.o2 .cons (.o1 (.fld 13) (.var 0)) (.o2 .cons (.o1 (.fld 14) (.var 0)) (.o2 .cons (.o1 (.fld 15) (.var 0)) (.o2 .cons (.o1 (.fld 16) (.var 0)) (.o2 .cons (.o1 (.fld 17) (.var 0)) (.o2 .cons (.o1 (.fld 18) (.var 0)) (.o2 .cons (.o1 (.fld 19) (.var 0)) .nil))))))), .sc (.int .i64) (.var 1)] [.sc (.int .i64)]
(.ret [(.var 2), (.o2 .cons (.o1 (.fld 0) (.var 0)) (.o2 .cons (.o1 (.fld 1) (.var 0)) (.o2 .cons (.o1 (.fld 2) (.var 0)) (.o2 .cons (.o1 (.fld 3) (.var 0)) (.o2 .cons (.o1 (.fld 4) (.var 0)) (.o2 .cons (.o1 (.fld 5) (.var 0)) (.o2 .cons (.o1 (.fld 6) (.var 0)) (.o2 .cons (.o1 (.fld 7) (.var 0)) (.o2 .cons (.o1 (.fld 8) (.var 0)) (.o2 .cons (.o1 (.fld 9) (.var 0)) (.o2 .cons (.o1 (.fld 10) (.var 0)) (.o2 .cons (.o1 (.fld 11) (.var 0)) (.o2 .cons (.o1 (.fld 12) (.var 0)) (.o2 .cons (.o1 (.fld 13) (.var 0)) (.o2 .cons (.o1 (.fld 14) (.var 0)) (.o2 .cons (.o1 (.fld 15) (.var 0)) (.o2 .cons (.o1 (.fld 16) (.var 0)) (.o2 .cons (.o1 (.fld 17) (.var 0)) (.o2 .cons (.o1 (.fld 18) (.var 0)) (.o2 .cons (.o1 (.fld 6) (.var 3)) (.o2 .cons (.o1 (.fld 20) (.var 0)) (.o2 .cons (.o1 (.fld 21) (.var 0)) .nil))))))))))))))))))))))]))
theorem sig_26 : sigOf Try.prog md 26 [] = some ([.stw [(.int .i64), (.int .i64), (.int .i64), (.int .i64), (.int .i64), (.int .i64), (.int .i64), (.int .i64), (.int .i64), (.int .i64), (.int .i64), (.int .i64), (.int .i64), (.int .i64), (.int .i64), (.int .i64), (.int .i64), (.int .i64), .bool, (.sl [(.int .i64), (.int .i64), (.int .i64), (.int .i64), (.int .i64), (.int .i64), .bool]), (.int .i64), (.int .i64)], .sc (.int .i64)], [.sc (.int .i64)], tree_26) := by kernel_rfl
/- laws.heldEventS -/
def tree_45 : T :=
(.loop 0 [(.var 1), (.int 0)]
 (.know (.var 0)
 (.br (.o2 .lt (.var 3) (.o1 .len (.var 0)))
  (.need [] (.o2 .le (.int 0) (.var 3))
  (.need [] (.o2 .lt (.var 3) (.o1 .len (.var 0)))
  (.br (.o2 .ne (.o1 (.fld 0) (.o2 .idx (.var 0) (.var 3))) (.var 2))
   (.ret [(.int (-1))])
   (.need [] (.o2 .le (.int 0) (.var 3))
   (.need [] (.o2 .lt (.var 3) (.o1 .len (.var 0)))
   (.br (.o2 .ne (.o1 (.fld 1) (.o2 .idx (.var 0) (.var 3))) (.o2 (.add .i64) (.var 2) (.int 1)))
    (.ret [(.int (-1))])
    (.need [] (.o2 .le (.int 0) (.var 3))
    (.need [] (.o2 .lt (.var 3) (.o1 .len (.var 0)))
    (.br (.o2 .ne (.o1 (.fld 2) (.o2 .idx (.var 0) (.var 3))) (.o2 (.add .i64) (.o2 (.add .i64) (.var 2) (.int 1)) (.int 1)))
     (.ret [(.int (-1))])
     (.need [] (.o2 .le (.int 0) (.var 3))
     (.need [] (.o2 .lt (.var 3) (.o1 .len (.var 0)))
     (.br (.o2 .ne (.o1 (.fld 3) (.o2 .idx (.var 0) (.var 3))) (.o2 (.add .i64) (.o2 (.add .i64) (.o2 (.add .i64) (.var 2) (.int 1)) (.int 1)) (.int 1)))
      (.ret [(.int (-1))])
      (.need [] (.o2 .le (.int 0) (.var 3))
      (.need [] (.o2 .lt (.var 3) (.o1 .len (.var 0)))
      (.br (.o2 .ne (.o1 (.fld 4) (.o2 .idx (.var 0) (.var 3))) (.o2 (.add .i64) (.o2 (.add .i64) (.o2 (.add .i64) (.o2 (.add .i64) (.var 2) (.int 1)) (.int 1)) (.int 1)) (.int 1)))
       (.ret [(.int (-1))])
       (.need [] (.o2 .le (.int 0) (.var 3))
       (.need [] (.o2 .lt (.var 3) (.o1 .len (.var 0)))
       (.br (.o2 .ne (.o1 (.fld 5) (.o2 .idx (.var 0) (.var 3))) (.o2 (.add .i64) (.o2 (.add .i64) (.o2 (.add .i64) (.o2 (.add .i64) (.o2 (.add .i64) (.var 2) (.int 1)) (.int 1)) (.int 1)) (.int 1)) (.int 1)))
        (.ret [(.int (-1))])
        (.need [] (.o2 .le (.int 0) (.var 3))
        (.need [] (.o2 .lt (.var 3) (.o1 .len (.var 0)))
        (.need [] (.o2 .ne (.int 3) (.int 0))
        (.br (.o2 .bne (.o1 (.fld 6) (.o2 .idx (.var 0) (.var 3))) (.o2 .eq (.o2 .rem (.o2 (.add .i64) (.o2 (.add .i64) (.o2 (.add .i64) (.o2 (.add .i64) (.o2 (.add .i64) (.o2 (.add .i64) (.var 2) (.int 1)) (.int 1)) (.int 1)) (.int 1)) (.int 1)) (.int 1)) (.int 3)) (.int 0)))
         (.ret [(.int (-1))])
         (.cont 0 [(.o2 (.add .i64) (.o2 (.add .i64) (.o2 (.add .i64) (.o2 (.add .i64) (.o2 (.add .i64) (.o2 (.add .i64) (.o2 (.add .i64) (.var 2) (.int 1)) (.int 1)) (.int 1)) (.int 1)) (.int 1)) (.int 1)) (.int 1)), (.o2 (.add .i64) (.var 3) (.int 1))])))))))))))))))))))))))
  (.ret [(.var 2)]))))
theorem sig_45 : sigOf Try.prog md 45 [] = some ([.sc (.sl [(.int .i64), (.int .i64), (.int .i64), (.int .i64), (.int .i64), (.int .i64), .bool]), .sc (.int .i64)], [.sc (.int .i64)], tree_45) := by kernel_rfl
/- laws.heldAct -/
def tree_72 : T :=
(.call [] (.fn 45) [.sc (.sl [(.int .i64), (.int .i64), (.int .i64), (.int .i64), (.int .i64), (.int .i64), .bool]) (.o1 (.fld 6) (.var 0)), .sc (.int .i64) (.var 1)] [.sc (.int .i64)]
(.br (.o2 .lt (.var 2) (.int 0))
 (.ret [(.int (-1))])
 (.ret [(.var 2)])))
theorem sig_72 : sigOf Try.prog md 72 [] = some ([.st [(.int .i64), (.int .i64), (.int .i64), (.int .i64), (.int .i64), .bool, (.sl [(.int .i64), (.int .i64), (.int .i64), (.int .i64), (.int .i64), (.int .i64), .bool])], .sc (.int .i64)], [.sc (.int .i64)], tree_72) := by kernel_rfl
/- laws.heldEffect -/
def tree_27 : T :=
(.call [] (.fn 72) [.st [(.int .i64), (.int .i64), (.int .i64), (.int .i64), (.int .i64), .bool, (.sl [(.int .i64), (.int .i64), (.int .i64), (.int .i64), (.int .i64), (.int .i64), .bool])] (.o2 .cons (.o1 (.fld 13) (.var 0)) (.o2 .cons (.o1 (.fld 14) (.var 0)) (.o2 .cons (.o1 (.fld 15) (.var 0)) (.o2 .cons (.o1 (.fld 16) (.var 0)) (.o2 .cons (.o1 (.fld 17) (.var 0)) (.o2 .cons (.o1 (.fld 18) (.var 0)) (.o2 .cons (.o1 (.fld 19) (.var 0)) .nil))))))), .sc (.int .i64) (.var 1)] [.sc (.int .i64)]
(.br (.o2 .lt (.var 2) (.int 0))
 (.ret [(.int (-1))])
 (.ret [(.var 2)])))
theorem sig_27 : sigOf Try.prog md 27 [] = some ([.st [(.int .i64), (.int .i64), (.int .i64), (.int .i64), (.int .i64), (.int .i64), (.int .i64), (.int .i64), (.int .i64), (.int .i64), (.int .i64), (.int .i64), (.int .i64), (.int .i64), (.int .i64), (.int .i64), (.int .i64), (.int .i64), .bool, (.sl [(.int .i64), (.int .i64), (.int .i64), (.int .i64), (.int .i64), (.int .i64), .bool]), (.int .i64), (.int .i64)], .sc (.int .i64)], [.sc (.int .i64)], tree_27) := by kernel_rfl
/- laws.FnExactSpent -/
def tree_5 : T :=
(.call [] (.fn 21) [.st [(.int .i64), (.int .i64), (.int .i64), (.int .i64), (.int .i64), (.int .i64), (.int .i64), (.int .i64), (.int .i64), (.int .i64), (.int .i64), (.int .i64), (.int .i64), (.int .i64), (.int .i64), (.int .i64), (.int .i64), (.int .i64), .bool, (.sl [(.int .i64), (.int .i64), (.int .i64), (.int .i64), (.int .i64), (.int .i64), .bool]), (.int .i64), (.int .i64)] (.o2 .cons (.o1 (.fld 0) (.var 0)) (.o2 .cons (.o1 (.fld 1) (.var 0)) (.o2 .cons (.o1 (.fld 2) (.var 0)) (.o2 .cons (.o1 (.fld 3) (.var 0)) (.o2 .cons (.o1 (.fld 4) (.var 0)) (.o2 .cons (.o1 (.fld 5) (.var 0)) (.o2 .cons (.o1 (.fld 6) (.var 0)) (.o2 .cons (.o1 (.fld 7) (.var 0)) (.o2 .cons (.o1 (.fld 8) (.var 0)) (.o2 .cons (.o1 (.fld 9) (.var 0)) (.o2 .cons (.o1 (.fld 10) (.var 0)) (.o2 .cons (.o1 (.fld 11) (.var 0)) (.o2 .cons (.o1 (.fld 12) (.var 0)) (.o2 .cons (.o1 (.fld 13) (.var 0)) (.o2 .cons (.o1 (.fld 14) (.var 0)) (.o2 .cons (.o1 (.fld 15) (.var 0)) (.o2 .cons (.o1 (.fld 16) (.var 0)) (.o2 .cons (.o1 (.fld 17) (.var 0)) (.o2 .cons (.o1 (.fld 18) (.var 0)) (.o2 .cons (.o1 (.fld 19) (.var 0)) (.o2 .cons (.o1 (.fld 20) (.var 0)) (.o2 .cons (.o1 (.fld 21) (.var 0)) .nil)))))))))))))))))))))), .sc (.int .i64) (.int 1048576)] [.sc (.int .i64)]
(.br (.o2 .lt (.var 2) (.int 0))
 (.ret [(.bool true)])
 (.call [] (.fn 23) [.st [(.int .i64), (.int .i64), (.int .i64), (.int .i64), (.int .i64), (.int .i64), (.int .i64), (.int .i64), (.int .i64), (.int .i64), (.int .i64), (.int .i64), (.int .i64), (.int .i64), (.int .i64), (.int .i64), (.int .i64), (.int .i64), .bool, (.sl [(.int .i64), (.int .i64), (.int .i64), (.int .i64), (.int .i64), (.int .i64), .bool]), (.int .i64), (.int .i64)] (.o2 .cons (.o1 (.fld 0) (.var 0)) (.o2 .cons (.o1 (.fld 1) (.var 0)) (.o2 .cons (.o1 (.fld 2) (.var 0)) (.o2 .cons (.o1 (.fld 3) (.var 0)) (.o2 .cons (.o1 (.fld 4) (.var 0)) (.o2 .cons (.o1 (.fld 5) (.var 0)) (.o2 .cons (.o1 (.fld 6) (.var 0)) (.o2 .cons (.o1 (.fld 7) (.var 0)) (.o2 .cons (.o1 (.fld 8) (.var 0)) (.o2 .cons (.o1 (.fld 9) (.var 0)) (.o2 .cons (.o1 (.fld 10) (.var 0)) (.o2 .cons (.o1 (.fld 11) (.var 0)) (.o2 .cons (.o1 (.fld 12) (.var 0)) (.o2 .cons (.o1 (.fld 13) (.var 0)) (.o2 .cons (.o1 (.fld 14) (.var 0)) (.o2 .cons (.o1 (.fld 15) (.var 0)) (.o2 .cons (.o1 (.fld 16) (.var 0)) (.o2 .cons (.o1 (.fld 17) (.var 0)) (.o2 .cons (.o1 (.fld 18) (.var 0)) (.o2 .cons (.o1 (.fld 19) (.var 0)) (.o2 .cons (.o1 (.fld 20) (.var 0)) (.o2 .cons (.o1 (.fld 21) (.var 0)) .nil))))))))))))))))))))))] [.st [(.int .i64), (.int .i64), (.int .i64), (.int .i64), (.int .i64), (.int .i64), (.int .i64), (.int .i64), (.int .i64), (.int .i64), (.int .i64), (.int .i64), (.int .i64), (.int .i64), (.int .i64), (.int .i64), (.int .i64), (.int .i64), .bool, (.sl [(.int .i64), (.int .i64), (.int .i64), (.int .i64), (.int .i64), (.int .i64), .bool]), (.int .i64), (.int .i64)]]
 (.call [] (.fn 22) [.st [(.int .i64), (.int .i64), (.int .i64), (.int .i64), (.int .i64), (.int .i64), (.int .i64), (.int .i64), (.int .i64), (.int .i64), (.int .i64), (.int .i64), (.int .i64), (.int .i64), (.int .i64), (.int .i64), (.int .i64), (.int .i64), .bool, (.sl [(.int .i64), (.int .i64), (.int .i64), (.int .i64), (.int .i64), (.int .i64), .bool]), (.int .i64), (.int .i64)] (.o2 .cons (.o1 (.fld 0) (.var 3)) (.o2 .cons (.o1 (.fld 1) (.var 3)) (.o2 .cons (.o1 (.fld 2) (.var 3)) (.o2 .cons (.o1 (.fld 3) (.var 3)) (.o2 .cons (.o1 (.fld 4) (.var 3)) (.o2 .cons (.o1 (.fld 5) (.var 3)) (.o2 .cons (.o1 (.fld 6) (.var 3)) (.o2 .cons (.o1 (.fld 7) (.var 3)) (.o2 .cons (.o1 (.fld 8) (.var 3)) (.o2 .cons (.o1 (.fld 9) (.var 3)) (.o2 .cons (.o1 (.fld 10) (.var 3)) (.o2 .cons (.o1 (.fld 11) (.var 3)) (.o2 .cons (.o1 (.fld 12) (.var 3)) (.o2 .cons (.o1 (.fld 13) (.var 3)) (.o2 .cons (.o1 (.fld 14) (.var 3)) (.o2 .cons (.o1 (.fld 15) (.var 3)) (.o2 .cons (.o1 (.fld 16) (.var 3)) (.o2 .cons (.o1 (.fld 17) (.var 3)) (.o2 .cons (.o1 (.fld 18) (.var 3)) (.o2 .cons (.o1 (.fld 19) (.var 3)) (.o2 .cons (.o1 (.fld 20) (.var 3)) (.o2 .cons (.o1 (.fld 21) (.var 3)) .nil)))))))))))))))))))))), .sc (.int .i64) (.var 1)] [.st [(.int .i64), (.int .i64), (.int .i64), (.int .i64), (.int .i64), (.int .i64), (.int .i64), (.int .i64), (.int .i64), (.int .i64), (.int .i64), (.int .i64), (.int .i64), (.int .i64), (.int .i64), (.int .i64), (.int .i64), (.int .i64), .bool, (.sl [(.int .i64), (.int .i64), (.int .i64), (.int .i64), (.int .i64), (.int .i64), .bool]), (.int .i64), (.int .i64)]]
 (.call [] (.fn 23) [.st [(.int .i64), (.int .i64), (.int .i64), (.int .i64), (.int .i64), (.int .i64), (.int .i64), (.int .i64), (.int .i64), (.int .i64), (.int .i64), (.int .i64), (.int .i64), (.int .i64), (.int .i64), (.int .i64), (.int .i64), (.int .i64), .bool, (.sl [(.int .i64), (.int .i64), (.int .i64), (.int .i64), (.int .i64), (.int .i64), .bool]), (.int .i64), (.int .i64)] (.o2 .cons (.o1 (.fld 0) (.var 0)) (.o2 .cons (.o1 (.fld 1) (.var 0)) (.o2 .cons (.o1 (.fld 2) (.var 0)) (.o2 .cons (.o1 (.fld 3) (.var 0)) (.o2 .cons (.o1 (.fld 4) (.var 0)) (.o2 .cons (.o1 (.fld 5) (.var 0)) (.o2 .cons (.o1 (.fld 6) (.var 0)) (.o2 .cons (.o1 (.fld 7) (.var 0)) (.o2 .cons (.o1 (.fld 8) (.var 0)) (.o2 .cons (.o1 (.fld 9) (.var 0)) (.o2 .cons (.o1 (.fld 10) (.var 0)) (.o2 .cons (.o1 (.fld 11) (.var 0)) (.o2 .cons (.o1 (.fld 12) (.var 0)) (.o2 .cons (.o1 (.fld 13) (.var 0)) (.o2 .cons (.o1 (.fld 14) (.var 0)) (.o2 .cons (.o1 (.fld 15) (.var 0)) (.o2 .cons (.o1 (.fld 16) (.var 0)) (.o2 .cons (.o1 (.fld 17) (.var 0)) (.o2 .cons (.o1 (.fld 18) (.var 0)) (.o2 .cons (.o1 (.fld 19) (.var 0)) (.o2 .cons (.o1 (.fld 20) (.var 0)) (.o2 .cons (.o1 (.fld 21) (.var 0)) .nil))))))))))))))))))))))] [.st [(.int .i64), (.int .i64), (.int .i64), (.int .i64), (.int .i64), (.int .i64), (.int .i64), (.int .i64), (.int .i64), (.int .i64), (.int .i64), (.int .i64), (.int .i64), (.int .i64), (.int .i64), (.int .i64), (.int .i64), (.int .i64), .bool, (.sl [(.int .i64), (.int .i64), (.int .i64), (.int .i64), (.int .i64), (.int .i64), .bool]), (.int .i64), (.int .i64)]]
 (.call [] (.fn 24) [.st [(.int .i64), (.int .i64), (.int .i64), (.int .i64), (.int .i64), (.int .i64), (.int .i64), (.int .i64), (.int .i64), (.int .i64), (.int .i64), (.int .i64), (.int .i64), (.int .i64), (.int .i64), (.int .i64), (.int .i64), (.int .i64), .bool, (.sl [(.int .i64), (.int .i64), (.int .i64), (.int .i64), (.int .i64), (.int .i64), .bool]), (.int .i64), (.int .i64)] (.o2 .cons (.o1 (.fld 0) (.var 5)) (.o2 .cons (.o1 (.fld 1) (.var 5)) (.o2 .cons (.o1 (.fld 2) (.var 5)) (.o2 .cons (.o1 (.fld 3) (.var 5)) (.o2 .cons (.o1 (.fld 4) (.var 5)) (.o2 .cons (.o1 (.fld 5) (.var 5)) (.o2 .cons (.o1 (.fld 6) (.var 5)) (.o2 .cons (.o1 (.fld 7) (.var 5)) (.o2 .cons (.o1 (.fld 8) (.var 5)) (.o2 .cons (.o1 (.fld 9) (.var 5)) (.o2 .cons (.o1 (.fld 10) (.var 5)) (.o2 .cons (.o1 (.fld 11) (.var 5)) (.o2 .cons (.o1 (.fld 12) (.var 5)) (.o2 .cons (.o1 (.fld 13) (.var 5)) (.o2 .cons (.o1 (.fld 14) (.var 5)) (.o2 .cons (.o1 (.fld 15) (.var 5)) (.o2 .cons (.o1 (.fld 16) (.var 5)) (.o2 .cons (.o1 (.fld 17) (.var 5)) (.o2 .cons (.o1 (.fld 18) (.var 5)) (.o2 .cons (.o1 (.fld 19) (.var 5)) (.o2 .cons (.o1 (.fld 20) (.var 5)) (.o2 .cons (.o1 (.fld 21) (.var 5)) .nil)))))))))))))))))))))), .sc (.int .i64) (.var 1)] [.st [(.int .i64), (.int .i64), (.int .i64), (.int .i64), (.int .i64), (.int .i64), (.int .i64), (.int .i64), (.int .i64), (.int .i64), (.int .i64), (.int .i64), (.int .i64), (.int .i64), (.int .i64), (.int .i64), (.int .i64), (.int .i64), .bool, (.sl [(.int .i64), (.int .i64), (.int .i64), (.int .i64), (.int .i64), (.int .i64), .bool]), (.int .i64), (.int .i64)]]
 (.call [] (.fn 25) [.st [(.int .i64), (.int .i64), (.int .i64), (.int .i64), (.int .i64), (.int .i64), (.int .i64), (.int .i64), (.int .i64), (.int .i64), (.int .i64), (.int .i64), (.int .i64), (.int .i64), (.int .i64), (.int .i64), (.int .i64), (.int .i64), .bool, (.sl [(.int .i64), (.int .i64), (.int .i64), (.int .i64), (.int .i64), (.int .i64), .bool]), (.int .i64), (.int .i64)] (.o2 .cons (.o1 (.fld 0) (.var 6)) (.o2 .cons (.o1 (.fld 1) (.var 6)) (.o2 .cons (.o1 (.fld 2) (.var 6)) (.o2 .cons (.o1 (.fld 3) (.var 6)) (.o2 .cons (.o1 (.fld 4) (.var 6)) (.o2 .cons (.o1 (.fld 5) (.var 6)) (.o2 .cons (.o1 (.fld 6) (.var 6)) (.o2 .cons (.o1 (.fld 7) (.var 6)) (.o2 .cons (.o1 (.fld 8) (.var 6)) (.o2 .cons (.o1 (.fld 9) (.var 6)) (.o2 .cons (.o1 (.fld 10) (.var 6)) (.o2 .cons (.o1 (.fld 11) (.var 6)) (.o2 .cons (.o1 (.fld 12) (.var 6)) (.o2 .cons (.o1 (.fld 13) (.var 6)) (.o2 .cons (.o1 (.fld 14) (.var 6)) (.o2 .cons (.o1 (.fld 15) (.var 6)) (.o2 .cons (.o1 (.fld 16) (.var 6)) (.o2 .cons (.o1 (.fld 17) (.var 6)) (.o2 .cons (.o1 (.fld 18) (.var 6)) (.o2 .cons (.o1 (.fld 19) (.var 6)) (.o2 .cons (.o1 (.fld 20) (.var 6)) (.o2 .cons (.o1 (.fld 21) (.var 6)) .nil)))))))))))))))))))))), .st [(.int .i64), (.int .i64), (.int .i64), (.int .i64), (.int .i64), (.int .i64), (.int .i64), (.int .i64), (.int .i64), (.int .i64), (.int .i64), (.int .i64), (.int .i64), (.int .i64), (.int .i64), (.int .i64), (.int .i64), (.int .i64), .bool, (.sl [(.int .i64), (.int .i64), (.int .i64), (.int .i64), (.int .i64), (.int .i64), .bool]), (.int .i64), (.int .i64)] (.o2 .cons (.o1 (.fld 0) (.var 4)) (.o2 .cons (.o1 (.fld 1) (.var 4)) (.o2 .cons (.o1 (.fld 2) (.var 4)) (.o2 .cons (.o1 (.fld 3) (.var 4)) (.o2 .cons (.o1 (.fld 4) (.var 4)) (.o2 .cons (.o1 (.fld 5) (.var 4)) (.o2 .cons (.o1 (.fld 6) (.var 4)) (.o2 .cons (.o1 (.fld 7) (.var 4)) (.o2 .cons (.o1 (.fld 8) (.var 4)) (.o2 .cons (.o1 (.fld 9) (.var 4)) (.o2 .cons (.o1 (.fld 10) (.var 4)) (.o2 .cons (.o1 (.fld 11) (.var 4)) (.o2 .cons (.o1 (.fld 12) (.var 4)) (.o2 .cons (.o1 (.fld 13) (.var 4)) (.o2 .cons (.o1 (.fld 14) (.var 4)) (.o2 .cons (.o1 (.fld 15) (.var 4)) (.o2 .cons (.o1 (.fld 16) (.var 4)) (.o2 .cons (.o1 (.fld 17) (.var 4)) (.o2 .cons (.o1 (.fld 18) (.var 4)) (.o2 .cons (.o1 (.fld 19) (.var 4)) (.o2 .cons (.o1 (.fld 20) (.var 4)) (.o2 .cons (.o1 (.fld 21) (.var 4)) .nil))))))))))))))))))))))] [.sc .bool]
 (.br (.o1 .not (.var 7))
  (.ret [(.bool false)])
  (.call [] (.fn 23) [.st [(.int .i64), (.int .i64), (.int .i64), (.int .i64), (.int .i64), (.int .i64), (.int .i64), (.int .i64), (.int .i64), (.int .i64), (.int .i64), (.int .i64), (.int .i64), (.int .i64), (.int .i64), (.int .i64), (.int .i64), (.int .i64), .bool, (.sl [(.int .i64), (.int .i64), (.int .i64), (.int .i64), (.int .i64), (.int .i64), .bool]), (.int .i64), (.int .i64)] (.o2 .cons (.o1 (.fld 0) (.var 0)) (.o2 .cons (.o1 (.fld 1) (.var 0)) (.o2 .cons (.o1 (.fld 2) (.var 0)) (.o2 .cons (.o1 (.fld 3) (.var 0)) (.o2 .cons (.o1 (.fld 4) (.var 0)) (.o2 .cons (.o1 (.fld 5) (.var 0)) (.o2 .cons (.o1 (.fld 6) (.var 0)) (.o2 .cons (.o1 (.fld 7) (.var 0)) (.o2 .cons (.o1 (.fld 8) (.var 0)) (.o2 .cons (.o1 (.fld 9) (.var 0)) (.o2 .cons (.o1 (.fld 10) (.var 0)) (.o2 .cons (.o1 (.fld 11) (.var 0)) (.o2 .cons (.o1 (.fld 12) (.var 0)) (.o2 .cons (.o1 (.fld 13) (.var 0)) (.o2 .cons (.o1 (.fld 14) (.var 0)) (.o2 .cons (.o1 (.fld 15) (.var 0)) (.o2 .cons (.o1 (.fld 16) (.var 0)) (.o2 .cons (.o1 (.fld 17) (.var 0)) (.o2 .cons (.o1 (.fld 18) (.var 0)) (.o2 .cons (.o1 (.fld 19) (.var 0)) (.o2 .cons (.o1 (.fld 20) (.var 0)) (.o2 .cons (.o1 (.fld 21) (.var 0)) .nil))))))))))))))))))))))] [.st [(.int .i64), (.int .i64), (.int .i64), (.int .i64), (.int .i64), (.int .i64), (.int .i64), (.int .i64), (.int .i64), (.int .i64), (.int .i64), (.int .i64), (.int .i64), (.int .i64), (.int .i64), (.int .i64), (.int .i64), (.int .i64), .bool, (.sl [(.int .i64), (.int .i64), (.int .i64), (.int .i64), (.int .i64), (.int .i64), .bool]), (.int .i64), (.int .i64)]]
  (.call [] (.fn 25) [.st [(.int .i64), (.int .i64), (.int .i64), (.int .i64), (.int .i64), (.int .i64), (.int .i64), (.int .i64), (.int .i64), (.int .i64), (.int .i64), (.int .i64), (.int .i64), (.int .i64), (.int .i64), (.int .i64), (.int .i64), (.int .i64), .bool, (.sl [(.int .i64), (.int .i64), (.int .i64), (.int .i64), (.int .i64), (.int .i64), .bool]), (.int .i64), (.int .i64)] (.o2 .cons (.o1 (.fld 0) (.var 5)) (.o2 .cons (.o1 (.fld 1) (.var 5)) (.o2 .cons (.o1 (.fld 2) (.var 5)) (.o2 .cons (.o1 (.fld 3) (.var 5)) (.o2 .cons (.o1 (.fld 4) (.var 5)) (.o2 .cons (.o1 (.fld 5) (.var 5)) (.o2 .cons (.o1 (.fld 6) (.var 5)) (.o2 .cons (.o1 (.fld 7) (.var 5)) (.o2 .cons (.o1 (.fld 8) (.var 5)) (.o2 .cons (.o1 (.fld 9) (.var 5)) (.o2 .cons (.o1 (.fld 10) (.var 5)) (.o2 .cons (.o1 (.fld 11) (.var 5)) (.o2 .cons (.o1 (.fld 12) (.var 5)) (.o2 .cons (.o1 (.fld 13) (.var 5)) (.o2 .cons (.o1 (.fld 14) (.var 5)) (.o2 .cons (.o1 (.fld 15) (.var 5)) (.o2 .cons (.o1 (.fld 16) (.var 5)) (.o2 .cons (.o1 (.fld 17) (.var 5)) (.o2 .cons (.o1 (.fld 18) (.var 5)) (.o2 .cons (.o1 (.fld 19) (.var 5)) (.o2 .cons (.o1 (.fld 20) (.var 5)) (.o2 .cons (.o1 (.fld 21) (.var 5)) .nil)))))))))))))))))))))), .st [(.int .i64), (.int .i64), (.int .i64), (.int .i64), (.int .i64), (.int .i64), (.int .i64), (.int .i64), (.int .i64), (.int .i64), (.int .i64), (.int .i64), (.int .i64), (.int .i64), (.int .i64), (.int .i64), (.int .i64), (.int .i64), .bool, (.sl [(.int .i64), (.int .i64), (.int .i64), (.int .i64), (.int .i64), (.int .i64), .bool]), (.int .i64), (.int .i64)] (.o2 .cons (.o1 (.fld 0) (.var 8)) (.o2 .cons (.o1 (.fld 1) (.var 8)) (.o2 .cons (.o1 (.fld 2) (.var 8)) (.o2 .cons (.o1 (.fld 3) (.var 8)) (.o2 .cons (.o1 (.fld 4) (.var 8)) (.o2 .cons (.o1 (.fld 5) (.var 8)) (.o2 .cons (.o1 (.fld 6) (.var 8)) (.o2 .cons (.o1 (.fld 7) (.var 8)) (.o2 .cons (.o1 (.fld 8) (.var 8)) (.o2 .cons (.o1 (.fld 9) (.var 8)) (.o2 .cons (.o1 (.fld 10) (.var 8)) (.o2 .cons (.o1 (.fld 11) (.var 8)) (.o2 .cons (.o1 (.fld 12) (.var 8)) (.o2 .cons (.o1 (.fld 13) (.var 8)) (.o2 .cons (.o1 (.fld 14) (.var 8)) (.o2 .cons (.o1 (.fld 15) (.var 8)) (.o2 .cons (.o1 (.fld 16) (.var 8)) (.o2 .cons (.o1 (.fld 17) (.var 8)) (.o2 .cons (.o1 (.fld 18) (.var 8)) (.o2 .cons (.o1 (.fld 19) (.var 8)) (.o2 .cons (.o1 (.fld 20) (.var 8)) (.o2 .cons (.o1 (.fld 21) (.var 8)) .nil))))))))))))))))))))))] [.sc .bool]
  (.br (.o1 .not (.var 9))
   (.ret [(.bool false)])
   (.call [] (.fn 26) [.stw [(.int .i64), (.int .i64), (.int .i64), (.int .i64), (.int .i64), (.int .i64), (.int .i64), (.int .i64), (.int .i64), (.int .i64), (.int .i64), (.int .i64), (.int .i64), (.int .i64), (.int .i64), (.int .i64), (.int .i64), (.int .i64), .bool, (.sl [(.int .i64), (.int .i64), (.int .i64), (.int .i64), (.int .i64), (.int .i64), .bool]), (.int .i64), (.int .i64)] (.o2 .cons (.o1 (.fld 0) (.var 5)) (.o2 .cons (.o1 (.fld 1) (.var 5)) (.o2 .cons (.o1 (.fld 2) (.var 5)) (.o2 .cons (.o1 (.fld 3) (.var 5)) (.o2 .cons (.o1 (.fld 4) (.var 5)) (.o2 .cons (.o1 (.fld 5) (.var 5)) (.o2 .cons (.o1 (.fld 6) (.var 5)) (.o2 .cons (.o1 (.fld 7) (.var 5)) (.o2 .cons (.o1 (.fld 8) (.var 5)) (.o2 .cons (.o1 (.fld 9) (.var 5)) (.o2 .cons (.o1 (.fld 10) (.var 5)) (.o2 .cons (.o1 (.fld 11) (.var 5)) (.o2 .cons (.o1 (.fld 12) (.var 5)) (.o2 .cons (.o1 (.fld 13) (.var 5)) (.o2 .cons (.o1 (.fld 14) (.var 5)) (.o2 .cons (.o1 (.fld 15) (.var 5)) (.o2 .cons (.o1 (.fld 16) (.var 5)) (.o2 .cons (.o1 (.fld 17) (.var 5)) (.o2 .cons (.o1 (.fld 18) (.var 5)) (.o2 .cons (.o1 (.fld 19) (.var 5)) (.o2 .cons (.o1 (.fld 20) (.var 5)) (.o2 .cons (.o1 (.fld 21) (.var 5)) .nil)))))))))))))))))))))), .sc (.int .i64) (.int 1)] [.sc (.int .i64)]
   (.call [((.o2 .lt (.var 10) (.int 0)), false)] (.fn 25) [.st [(.int .i64), (.int .i64), (.int .i64), (.int .i64), (.int .i64), (.int .i64), (.int .i64), (.int .i64), (.int .i64), (.int .i64), (.int .i64), (.int .i64), (.int .i64), (.int .i64), (.int .i64), (.int .i64), (.int .i64), (.int .i64), .bool, (.sl [(.int .i64), (.int .i64), (.int .i64), (.int .i64), (.int .i64), (.int .i64), .bool]), (.int .i64), (.int .i64)] (.o2 .cons (.o1 (.fld 0) (.var 6)) (.o2 .cons (.o1 (.fld 1) (.var 6)) (.o2 .cons (.o1 (.fld 2) (.var 6)) (.o2 .cons (.o1 (.fld 3) (.var 6)) (.o2 .cons (.o1 (.fld 4) (.var 6)) (.o2 .cons (.o1 (.fld 5) (.var 6)) (.o2 .cons (.o1 (.fld 6) (.var 6)) (.o2 .cons (.o1 (.fld 7) (.var 6)) (.o2 .cons (.o1 (.fld 8) (.var 6)) (.o2 .cons (.o1 (.fld 9) (.var 6)) (.o2 .cons (.o1 (.fld 10) (.var 6)) (.o2 .cons (.o1 (.fld 11) (.var 6)) (.o2 .cons (.o1 (.fld 12) (.var 6)) (.o2 .cons (.o1 (.fld 13) (.var 6)) (.o2 .cons (.o1 (.fld 14) (.var 6)) (.o2 .cons (.o1 (.fld 15) (.var 6)) (.o2 .cons (.o1 (.fld 16) (.var 6)) (.o2 .cons (.o1 (.fld 17) (.var 6)) (.o2 .cons (.o1 (.fld 18) (.var 6)) (.o2 .cons (.o1 (.fld 19) (.var 6)) (.o2 .cons (.o1 (.fld 20) (.var 6)) (.o2 .cons (.o1 (.fld 21) (.var 6)) .nil)))))))))))))))))))))), .st [(.int .i64), (.int .i64), (.int .i64), (.int .i64), (.int .i64), (.int .i64), (.int .i64), (.int .i64), (.int .i64), (.int .i64), (.int .i64), (.int .i64), (.int .i64), (.int .i64), (.int .i64), (.int .i64), (.int .i64), (.int .i64), .bool, (.sl [(.int .i64), (.int .i64), (.int .i64), (.int .i64), (.int .i64), (.int .i64), .bool]), (.int .i64), (.int .i64)] (.o2 .cons (.o1 (.fld 0) (.var 4)) (.o2 .cons (.o1 (.fld 1) (.var 4)) (.o2 .cons (.o1 (.fld 2) (.var 4)) (.o2 .cons (.o1 (.fld 3) (.var 4)) (.o2 .cons (.o1 (.fld 4) (.var 4)) (.o2 .cons (.o1 (.fld 5) (.var 4)) (.o2 .cons (.o1 (.fld 6) (.var 4)) (.o2 .cons (.o1 (.fld 7) (.var 4)) (.o2 .cons (.o1 (.fld 8) (.var 4)) (.o2 .cons (.o1 (.fld 9) (.var 4)) (.o2 .cons (.o1 (.fld 10) (.var 4)) (.o2 .cons (.o1 (.fld 11) (.var 4)) (.o2 .cons (.o1 (.fld 12) (.var 4)) (.o2 .cons (.o1 (.fld 13) (.var 4)) (.o2 .cons (.o1 (.fld 14) (.var 4)) (.o2 .cons (.o1 (.fld 15) (.var 4)) (.o2 .cons (.o1 (.fld 16) (.var 4)) (.o2 .cons (.o1 (.fld 17) (.var 4)) (.o2 .cons (.o1 (.fld 18) (.var 4)) (.o2 .cons (.o1 (.fld 19) (.var 4)) (.o2 .cons (.o1 (.fld 20) (.var 4)) (.o2 .cons (.o1 (.fld 21) (.var 4)) .nil))))))))))))))))))))))] [.sc .bool]
   (.br (.o2 .bor (.o2 .lt (.var 10) (.int 0)) (.o1 .not (.var 12)))
    (.ret [(.bool false)])
    (.call [] (.fn 26) [.stw [(.int .i64), (.int .i64), (.int .i64), (.int .i64), (.int .i64), (.int .i64), (.int .i64), (.int .i64), (.int .i64), (.int .i64), (.int .i64), (.int .i64), (.int .i64), (.int .i64), (.int .i64), (.int .i64), (.int .i64), (.int .i64), .bool, (.sl [(.int .i64), (.int .i64), (.int .i64), (.int .i64), (.int .i64), (.int .i64), .bool]), (.int .i64), (.int .i64)] (.o2 .cons (.o1 (.fld 0) (.var 6)) (.o2 .cons (.o1 (.fld 1) (.var 6)) (.o2 .cons (.o1 (.fld 2) (.var 6)) (.o2 .cons (.o1 (.fld 3) (.var 6)) (.o2 .cons (.o1 (.fld 4) (.var 6)) (.o2 .cons (.o1 (.fld 5) (.var 6)) (.o2 .cons (.o1 (.fld 6) (.var 6)) (.o2 .cons (.o1 (.fld 7) (.var 6)) (.o2 .cons (.o1 (.fld 8) (.var 6)) (.o2 .cons (.o1 (.fld 9) (.var 6)) (.o2 .cons (.o1 (.fld 10) (.var 6)) (.o2 .cons (.o1 (.fld 11) (.var 6)) (.o2 .cons (.o1 (.fld 12) (.var 6)) (.o2 .cons (.o1 (.fld 13) (.var 6)) (.o2 .cons (.o1 (.fld 14) (.var 6)) (.o2 .cons (.o1 (.fld 15) (.var 6)) (.o2 .cons (.o1 (.fld 16) (.var 6)) (.o2 .cons (.o1 (.fld 17) (.var 6)) (.o2 .cons (.o1 (.fld 18) (.var 6)) (.o2 .cons (.o1 (.fld 19) (.var 6)) (.o2 .cons (.o1 (.fld 20) (.var 6)) (.o2 .cons (.o1 (.fld 21) (.var 6)) .nil)))))))))))))))))))))), .sc (.int .i64) (.int 1)] [.sc (.int .i64)]
    (.call [] (.fn 27) [.st [(.int .i64), (.int .i64), (.int .i64), (.int .i64), (.int .i64), (.int .i64), (.int .i64), (.int .i64), (.int .i64), (.int .i64), (.int .i64), (.int .i64), (.int .i64), (.int .i64), (.int .i64), (.int .i64), (.int .i64), (.int .i64), .bool, (.sl [(.int .i64), (.int .i64), (.int .i64), (.int .i64), (.int .i64), (.int .i64), .bool]), (.int .i64), (.int .i64)] (.o2 .cons (.o1 (.fld 0) (.var 6)) (.o2 .cons (.o1 (.fld 1) (.var 6)) (.o2 .cons (.o1 (.fld 2) (.var 6)) (.o2 .cons (.o1 (.fld 3) (.var 6)) (.o2 .cons (.o1 (.fld 4) (.var 6)) (.o2 .cons (.o1 (.fld 5) (.var 6)) (.o2 .cons (.o1 (.fld 6) (.var 6)) (.o2 .cons (.o1 (.fld 7) (.var 6)) (.o2 .cons (.o1 (.fld 8) (.var 6)) (.o2 .cons (.o1 (.fld 9) (.var 6)) (.o2 .cons (.o1 (.fld 10) (.var 6)) (.o2 .cons (.o1 (.fld 11) (.var 6)) (.o2 .cons (.o1 (.fld 12) (.var 6)) (.o2 .cons (.o1 (.fld 13) (.var 6)) (.o2 .cons (.o1 (.fld 14) (.var 6)) (.o2 .cons (.o1 (.fld 15) (.var 6)) (.o2 .cons (.o1 (.fld 16) (.var 6)) (.o2 .cons (.o1 (.fld 17) (.var 6)) (.o2 .cons (.o1 (.fld 18) (.var 6)) (.o2 .cons (.o1 (.fld 19) (.var 14)) (.o2 .cons (.o1 (.fld 20) (.var 6)) (.o2 .cons (.o1 (.fld 21) (.var 6)) .nil)))))))))))))))))))))), .sc (.int .i64) (.int 1)] [.sc (.int .i64)]
    (.br (.o2 .lt (.var 15) (.int 0))
     (.ret [(.bool false)])
     (.br (.o2 .ne (.var 15) (.var 13))
      (.ret [(.bool false)])
      (.call [] (.fn 23) [.st [(.int .i64), (.int .i64), (.int .i64), (.int .i64), (.int .i64), (.int .i64), (.int .i64), (.int .i64), (.int .i64), (.int .i64), (.int .i64), (.int .i64), (.int .i64), (.int .i64), (.int .i64), (.int .i64), (.int .i64), (.int .i64), .bool, (.sl [(.int .i64), (.int .i64), (.int .i64), (.int .i64), (.int .i64), (.int .i64), .bool]), (.int .i64), (.int .i64)] (.o2 .cons (.o1 (.fld 0) (.var 0)) (.o2 .cons (.o1 (.fld 1) (.var 0)) (.o2 .cons (.o1 (.fld 2) (.var 0)) (.o2 .cons (.o1 (.fld 3) (.var 0)) (.o2 .cons (.o1 (.fld 4) (.var 0)) (.o2 .cons (.o1 (.fld 5) (.var 0)) (.o2 .cons (.o1 (.fld 6) (.var 0)) (.o2 .cons (.o1 (.fld 7) (.var 0)) (.o2 .cons (.o1 (.fld 8) (.var 0)) (.o2 .cons (.o1 (.fld 9) (.var 0)) (.o2 .cons (.o1 (.fld 10) (.var 0)) (.o2 .cons (.o1 (.fld 11) (.var 0)) (.o2 .cons (.o1 (.fld 12) (.var 0)) (.o2 .cons (.o1 (.fld 13) (.var 0)) (.o2 .cons (.o1 (.fld 14) (.var 0)) (.o2 .cons (.o1 (.fld 15) (.var 0)) (.o2 .cons (.o1 (.fld 16) (.var 0)) (.o2 .cons (.o1 (.fld 17) (.var 0)) (.o2 .cons (.o1 (.fld 18) (.var 0)) (.o2 .cons (.o1 (.fld 19) (.var 0)) (.o2 .cons (.o1 (.fld 20) (.var 0)) (.o2 .cons (.o1 (.fld 21) (.var 0)) .nil))))))))))))))))))))))] [.st [(.int .i64), (.int .i64), (.int .i64), (.int .i64), (.int .i64), (.int .i64), (.int .i64), (.int .i64), (.int .i64), (.int .i64), (.int .i64), (.int .i64), (.int .i64), (.int .i64), (.int .i64), (.int .i64), (.int .i64), (.int .i64), .bool, (.sl [(.int .i64), (.int .i64), (.int .i64), (.int .i64), (.int .i64), (.int .i64), .bool]), (.int .i64), (.int .i64)]]
      (.call [] (.fn 24) [.st [(.int .i64), (.int .i64), (.int .i64), (.int .i64), (.int .i64), (.int .i64), (.int .i64), (.int .i64), (.int .i64), (.int .i64), (.int .i64), (.int .i64), (.int .i64), (.int .i64), (.int .i64), (.int .i64), (.int .i64), (.int .i64), .bool, (.sl [(.int .i64), (.int .i64), (.int .i64), (.int .i64), (.int .i64), (.int .i64), .bool]), (.int .i64), (.int .i64)] (.o2 .cons (.o1 (.fld 0) (.var 16)) (.o2 .cons (.o1 (.fld 1) (.var 16)) (.o2 .cons (.o1 (.fld 2) (.var 16)) (.o2 .cons (.o1 (.fld 3) (.var 16)) (.o2 .cons (.o1 (.fld 4) (.var 16)) (.o2 .cons (.o1 (.fld 5) (.var 16)) (.o2 .cons (.o1 (.fld 6) (.var 16)) (.o2 .cons (.o1 (.fld 7) (.var 16)) (.o2 .cons (.o1 (.fld 8) (.var 16)) (.o2 .cons (.o1 (.fld 9) (.var 16)) (.o2 .cons (.o1 (.fld 10) (.var 16)) (.o2 .cons (.o1 (.fld 11) (.var 16)) (.o2 .cons (.o1 (.fld 12) (.var 16)) (.o2 .cons (.o1 (.fld 13) (.var 16)) (.o2 .cons (.o1 (.fld 14) (.var 16)) (.o2 .cons (.o1 (.fld 15) (.var 16)) (.o2 .cons (.o1 (.fld 16) (.var 16)) (.o2 .cons (.o1 (.fld 17) (.var 16)) (.o2 .cons (.o1 (.fld 18) (.var 16)) (.o2 .cons (.o1 (.fld 19) (.var 16)) (.o2 .cons (.o1 (.fld 20) (.var 16)) (.o2 .cons (.o1 (.fld 21) (.var 16)) .nil)))))))))))))))))))))), .sc (.int .i64) (.var 1)] [.st [(.int .i64), (.int .i64), (.int .i64), (.int .i64), (.int .i64), (.int .i64), (.int .i64), (.int .i64), (.int .i64), (.int .i64), (.int .i64), (.int .i64), (.int .i64), (.int .i64), (.int .i64), (.int .i64), (.int .i64), (.int .i64), .bool, (.sl [(.int .i64), (.int .i64), (.int .i64), (.int .i64), (.int .i64), (.int .i64), .bool]), (.int .i64), (.int .i64)]]
      (.call [] (.fn 25) [.st [(.int .i64), (.int .i64), (.int .i64), (.int .i64), (.int .i64), (.int .i64), (.int .i64), (.int .i64), (.int .i64), (.int .i64), (.int .i64), (.int .i64), (.int .i64), (.int .i64), (.int .i64), (.int .i64), (.int .i64), (.int .i64), .bool, (.sl [(.int .i64), (.int .i64), (.int .i64), (.int .i64), (.int .i64), (.int .i64), .bool]), (.int .i64), (.int .i64)] (.o2 .cons (.o1 (.fld 0) (.var 17)) (.o2 .cons (.o1 (.fld 1) (.var 17)) (.o2 .cons (.o1 (.fld 2) (.var 17)) (.o2 .cons (.o1 (.fld 3) (.var 17)) (.o2 .cons (.o1 (.fld 4) (.var 17)) (.o2 .cons (.o1 (.fld 5) (.var 17)) (.o2 .cons (.o1 (.fld 6) (.var 17)) (.o2 .cons (.o1 (.fld 7) (.var 17)) (.o2 .cons (.o1 (.fld 8) (.var 17)) (.o2 .cons (.o1 (.fld 9) (.var 17)) (.o2 .cons (.o1 (.fld 10) (.var 17)) (.o2 .cons (.o1 (.fld 11) (.var 17)) (.o2 .cons (.o1 (.fld 12) (.var 17)) (.o2 .cons (.o1 (.fld 13) (.var 17)) (.o2 .cons (.o1 (.fld 14) (.var 17)) (.o2 .cons (.o1 (.fld 15) (.var 17)) (.o2 .cons (.o1 (.fld 16) (.var 17)) (.o2 .cons (.o1 (.fld 17) (.var 17)) (.o2 .cons (.o1 (.fld 18) (.var 17)) (.o2 .cons (.o1 (.fld 19) (.var 17)) (.o2 .cons (.o1 (.fld 20) (.var 17)) (.o2 .cons (.o1 (.fld 21) (.var 17)) .nil)))))))))))))))))))))), .st [(.int .i64), (.int .i64), (.int .i64), (.int .i64), (.int .i64), (.int .i64), (.int .i64), (.int .i64), (.int .i64), (.int .i64), (.int .i64), (.int .i64), (.int .i64), (.int .i64), (.int .i64), (.int .i64), (.int .i64), (.int .i64), .bool, (.sl [(.int .i64), (.int .i64), (.int .i64), (.int .i64), (.int .i64), (.int .i64), .bool]), (.int .i64), (.int .i64)] (.o2 .cons (.o1 (.fld 0) (.var 4)) (.o2 .cons (.o1 (.fld 1) (.var 4)) (.o2 .cons (.o1 (.fld 2) (.var 4)) (.o2 .cons (.o1 (.fld 3) (.var 4)) (.o2 .cons (.o1 (.fld 4) (.var 4)) (.o2 .cons (.o1 (.fld 5) (.var 4)) (.o2 .cons (.o1 (.fld 6) (.var 4)) (.o2 .cons (.o1 (.fld 7) (.var 4)) (.o2 .cons (.o1 (.fld 8) (.var 4)) (.o2 .cons (.o1 (.fld 9) (.var 4)) (.o2 .cons (.o1 (.fld 10) (.var 4)) (.o2 .cons (.o1 (.fld 11) (.var 4)) (.o2 .cons (.o1 (.fld 12) (.var 4)) (.o2 .cons (.o1 (.fld 13) (.var 4)) (.o2 .cons (.o1 (.fld 14) (.var 4)) (.o2 .cons (.o1 (.fld 15) (.var 4)) (.o2 .cons (.o1 (.fld 16) (.var 4)) (.o2 .cons (.o1 (.fld 17) (.var 4)) (.o2 .cons (.o1 (.fld 18) (.var 4)) (.o2 .cons (.o1 (.fld 19) (.var 4)) (.o2 .cons (.o1 (.fld 20) (.var 4)) (.o2 .cons (.o1 (.fld 21) (.var 4)) .nil))))))))))))))))))))))] [.sc .bool]
      (.br (.o1 .not (.var 18))
       (.ret [(.bool false)])
       (.call [] (.fn 27) [.st [(.int .i64), (.int .i64), (.int .i64), (.int .i64), (.int .i64), (.int .i64), (.int .i64), (.int .i64), (.int .i64), (.int .i64), (.int .i64), (.int .i64), (.int .i64), (.int .i64), (.int .i64), (.int .i64), (.int .i64), (.int .i64), .bool, (.sl [(.int .i64), (.int .i64), (.int .i64), (.int .i64), (.int .i64), (.int .i64), .bool]), (.int .i64), (.int .i64)] (.o2 .cons (.o1 (.fld 0) (.var 6)) (.o2 .cons (.o1 (.fld 1) (.var 6)) (.o2 .cons (.o1 (.fld 2) (.var 6)) (.o2 .cons (.o1 (.fld 3) (.var 6)) (.o2 .cons (.o1 (.fld 4) (.var 6)) (.o2 .cons (.o1 (.fld 5) (.var 6)) (.o2 .cons (.o1 (.fld 6) (.var 6)) (.o2 .cons (.o1 (.fld 7) (.var 6)) (.o2 .cons (.o1 (.fld 8) (.var 6)) (.o2 .cons (.o1 (.fld 9) (.var 6)) (.o2 .cons (.o1 (.fld 10) (.var 6)) (.o2 .cons (.o1 (.fld 11) (.var 6)) (.o2 .cons (.o1 (.fld 12) (.var 6)) (.o2 .cons (.o1 (.fld 13) (.var 6)) (.o2 .cons (.o1 (.fld 14) (.var 6)) (.o2 .cons (.o1 (.fld 15) (.var 6)) (.o2 .cons (.o1 (.fld 16) (.var 6)) (.o2 .cons (.o1 (.fld 17) (.var 6)) (.o2 .cons (.o1 (.fld 18) (.var 6)) (.o2 .cons (.o1 (.fld 19) (.var 14)) (.o2 .cons (.o1 (.fld 20) (.var 6)) (.o2 .cons (.o1 (.fld 21) (.var 6)) .nil)))))))))))))))))))))), .sc (.int .i64) (.int 1)] [.sc (.int .i64)]
       (.br (.o2 .lt (.var 19) (.int 0))
        (.ret [(.bool false)])
        (.br (.o2 .ne (.var 19) (.var 13))
         (.ret [(.bool false)])
         (.ret [(.bool true)]))))))))))))))))))))))))))
theorem sig_5 : sigOf Try.prog md 5 [] = some ([.st [(.int .i64), (.int .i64), (.int .i64), (.int .i64), (.int .i64), (.int .i64), (.int .i64), (.int .i64), (.int .i64), (.int .i64), (.int .i64), (.int .i64), (.int .i64), (.int .i64), (.int .i64), (.int .i64), (.int .i64), (.int .i64), .bool, (.sl [(.int .i64), (.int .i64), (.int .i64), (.int .i64), (.int .i64), (.int .i64), .bool]), (.int .i64), (.int .i64)], .sc (.int .i64)], [.sc .bool], tree_5) := by kernel_rfl
theorem mix : Try.prog.follows .mixedOrders = true := by kernel_rfl
end Go.Proofs.Ytfbahdalemajcaa
