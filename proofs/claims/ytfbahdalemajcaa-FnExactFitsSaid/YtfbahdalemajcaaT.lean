/- The trees of the functions that this claim reaches. -/
import Derived.Test.YtfbahdalemajcaaRows
import Derived.Test.YtfbahdalemajcaaE6
import Derived.KernelRfl
namespace Go.Proofs.Ytfbahdalemajcaa
open Go.Proofs.Ytfbahdalemajcaa.Eng
def md : Modes := ⟨[(71, 0), (44, 0), (34, 0), (26, 0)], [(116, 0), (99, 0), (91, 0), (86, 0)], []⟩
/- laws.szEventS -/
def tree_118 : T :=
(.know (.var 0)
(.br (.o2 .lt (.o2 (.sub .i64) (.var 1) (.o1 .len (.var 0))) (.int 0))
 (.ret [(.int (-1))])
 (.ret [(.o2 (.sub .i64) (.var 1) (.o1 .len (.var 0)))])))
theorem sig_118 : sigOf Try.prog md 118 [] = some ([.sc (.sl [(.int .i64), (.int .i64), (.int .i64), (.int .i64), (.int .i64), (.int .i64), .bool]), .sc (.int .i64)], [.sc (.int .i64)], tree_118) := by kernel_rfl
/- laws.szAct -/
def tree_58 : T :=
(.call [] (.fn 118) [.sc (.sl [(.int .i64), (.int .i64), (.int .i64), (.int .i64), (.int .i64), (.int .i64), .bool]) (.o1 (.fld 6) (.var 0)), .sc (.int .i64) (.var 1)] [.sc (.int .i64)]
(.br (.o2 .lt (.var 2) (.int 0))
 (.ret [(.int (-1))])
 (.ret [(.var 2)])))
theorem sig_58 : sigOf Try.prog md 58 [] = some ([.st [(.int .i64), (.int .i64), (.int .i64), (.int .i64), (.int .i64), .bool, (.sl [(.int .i64), (.int .i64), (.int .i64), (.int .i64), (.int .i64), (.int .i64), .bool])], .sc (.int .i64)], [.sc (.int .i64)], tree_58) := by kernel_rfl
/- laws.szEffect -/
def tree_21 : T :=
(.call [] (.fn 58) [.st [(.int .i64), (.int .i64), (.int .i64), (.int .i64), (.int .i64), .bool, (.sl [(.int .i64), (.int .i64), (.int .i64), (.int .i64), (.int .i64), (.int .i64), .bool])] (.o2 .cons (.o1 (.fld 13) (.var 0)) (.o2 .cons (.o1 (.fld 14) (.var 0)) (.o2 .cons (.o1 (.fld 15) (.var 0)) (.o2 .cons (.o1 (.fld 16) (.var 0)) (.o2 .cons (.o1 (.fld 17) (.var 0)) (.o2 .cons (.o1 (.fld 18) (.var 0)) (.o2 .cons (.o1 (.fld 19) (.var 0)) .nil))))))), .sc (.int .i64) (.var 1)] [.sc (.int .i64)]
(.br (.o2 .lt (.var 2) (.int 0))
 (.ret [(.int (-1))])
 (.ret [(.var 2)])))
theorem sig_21 : sigOf Try.prog md 21 [] = some ([.st [(.int .i64), (.int .i64), (.int .i64), (.int .i64), (.int .i64), (.int .i64), (.int .i64), (.int .i64), (.int .i64), (.int .i64), (.int .i64), (.int .i64), (.int .i64), (.int .i64), (.int .i64), (.int .i64), (.int .i64), (.int .i64), .bool, (.sl [(.int .i64), (.int .i64), (.int .i64), (.int .i64), (.int .i64), (.int .i64), .bool]), (.int .i64), (.int .i64)], .sc (.int .i64)], [.sc (.int .i64)], tree_21) := by kernel_rfl
/- laws.toPat -/
def tree_62 : T :=
(.ret [(.o2 .cons (.o1 (.fld 0) (.var 0)) (.o2 .cons (.o1 (.fld 1) (.var 0)) (.o2 .cons (.o1 (.fld 2) (.var 0)) (.o2 .cons (.o1 (.fld 3) (.var 0)) (.o2 .cons (.o1 (.fld 4) (.var 0)) (.o2 .cons (.o1 (.fld 5) (.var 0)) (.o2 .cons (.o1 (.fld 6) (.var 0)) .nil)))))))])
theorem sig_62 : sigOf Try.prog md 62 [] = some ([.st [(.int .i64), (.int .i64), (.int .i64), (.int .i64), (.int .i64), (.int .i64), (.int .i64)]], [.st [(.int .i64), (.int .i64), (.int .i64), (.int .i64), (.int .i64), (.int .i64), (.int .i64)]], tree_62) := by kernel_rfl
/- laws.toGuard -/
def tree_63 : T :=
(.ret [(.o2 .cons (.o1 (.fld 0) (.var 0)) (.o2 .cons (.o1 (.fld 1) (.var 0)) .nil))])
theorem sig_63 : sigOf Try.prog md 63 [] = some ([.st [(.int .i64), (.int .i64)]], [.st [(.int .i64), (.int .i64)]], tree_63) := by kernel_rfl
/- laws.toEvent -/
def tree_41 : T :=
(.ret [(.o2 .cons (.o1 (.fld 0) (.var 0)) (.o2 .cons (.o1 (.fld 1) (.var 0)) (.o2 .cons (.o1 (.fld 2) (.var 0)) (.o2 .cons (.o1 (.fld 3) (.var 0)) (.o2 .cons (.o1 (.fld 4) (.var 0)) (.o2 .cons (.o1 (.fld 5) (.var 0)) (.o2 .cons (.o1 (.fld 6) (.var 0)) .nil)))))))])
theorem sig_41 : sigOf Try.prog md 41 [] = some ([.st [(.int .i64), (.int .i64), (.int .i64), (.int .i64), (.int .i64), (.int .i64), .bool]], [.st [(.int .i64), (.int .i64), (.int .i64), (.int .i64), (.int .i64), (.int .i64), .bool]], tree_41) := by kernel_rfl
/- laws.toEventS -/
def tree_121 : T :=
(.know (.var 0)
(.need [] (.o2 .le (.int 0) (.o1 .len (.var 0)))
(.need [] (.o2 (.fits 56) (.o1 .len (.var 0)) (.int 0))
(.loop 0 [(.int 0), (.o2 .rep (.o1 .len (.var 0)) (.o2 .cons (.int 0) (.o2 .cons (.int 0) (.o2 .cons (.int 0) (.o2 .cons (.int 0) (.o2 .cons (.int 0) (.o2 .cons (.int 0) (.o2 .cons (.bool false) .nil))))))))]
 (.know (.var 0)
 (.br (.o2 .lt (.var 1) (.o1 .len (.var 0)))
  (.need [] (.o2 .le (.int 0) (.var 1))
  (.need [] (.o2 .lt (.var 1) (.o1 .len (.var 0)))
  (.call [] (.fn 41) [.st [(.int .i64), (.int .i64), (.int .i64), (.int .i64), (.int .i64), (.int .i64), .bool] (.o2 .cons (.o1 (.fld 0) (.o2 .idx (.var 0) (.var 1))) (.o2 .cons (.o1 (.fld 1) (.o2 .idx (.var 0) (.var 1))) (.o2 .cons (.o1 (.fld 2) (.o2 .idx (.var 0) (.var 1))) (.o2 .cons (.o1 (.fld 3) (.o2 .idx (.var 0) (.var 1))) (.o2 .cons (.o1 (.fld 4) (.o2 .idx (.var 0) (.var 1))) (.o2 .cons (.o1 (.fld 5) (.o2 .idx (.var 0) (.var 1))) (.o2 .cons (.o1 (.fld 6) (.o2 .idx (.var 0) (.var 1))) .nil)))))))] [.st [(.int .i64), (.int .i64), (.int .i64), (.int .i64), (.int .i64), (.int .i64), .bool]]
  (.need [] (.o2 .le (.int 0) (.var 1))
  (.need [] (.o2 .lt (.var 1) (.o1 .len (.var 2)))
  (.cont 0 [(.o2 (.add .i64) (.var 1) (.int 1)), (.o3 .setE (.var 2) (.var 1) (.o2 .cons (.o1 (.fld 0) (.var 3)) (.o2 .cons (.o1 (.fld 1) (.var 3)) (.o2 .cons (.o1 (.fld 2) (.var 3)) (.o2 .cons (.o1 (.fld 3) (.var 3)) (.o2 .cons (.o1 (.fld 4) (.var 3)) (.o2 .cons (.o1 (.fld 5) (.var 3)) (.o2 .cons (.o1 (.fld 6) (.var 3)) .nil))))))))]))))))
  (.ret [(.var 2)])))))))
theorem sig_121 : sigOf Try.prog md 121 [] = some ([.sc (.sl [(.int .i64), (.int .i64), (.int .i64), (.int .i64), (.int .i64), (.int .i64), .bool])], [.sc (.sl [(.int .i64), (.int .i64), (.int .i64), (.int .i64), (.int .i64), (.int .i64), .bool])], tree_121) := by kernel_rfl
/- laws.toAct -/
def tree_64 : T :=
(.call [] (.fn 121) [.sc (.sl [(.int .i64), (.int .i64), (.int .i64), (.int .i64), (.int .i64), (.int .i64), .bool]) (.o1 (.fld 6) (.var 0))] [.sc (.sl [(.int .i64), (.int .i64), (.int .i64), (.int .i64), (.int .i64), (.int .i64), .bool])]
(.ret [(.o2 .cons (.o1 (.fld 0) (.var 0)) (.o2 .cons (.o1 (.fld 1) (.var 0)) (.o2 .cons (.o1 (.fld 2) (.var 0)) (.o2 .cons (.o1 (.fld 3) (.var 0)) (.o2 .cons (.o1 (.fld 4) (.var 0)) (.o2 .cons (.o1 (.fld 5) (.var 0)) (.o2 .cons (.var 1) .nil)))))))]))
theorem sig_64 : sigOf Try.prog md 64 [] = some ([.st [(.int .i64), (.int .i64), (.int .i64), (.int .i64), (.int .i64), .bool, (.sl [(.int .i64), (.int .i64), (.int .i64), (.int .i64), (.int .i64), (.int .i64), .bool])]], [.st [(.int .i64), (.int .i64), (.int .i64), (.int .i64), (.int .i64), .bool, (.sl [(.int .i64), (.int .i64), (.int .i64), (.int .i64), (.int .i64), (.int .i64), .bool])]], tree_64) := by kernel_rfl
/- laws.toEffect -/
def tree_23 : T :=
(.call [] (.fn 62) [.st [(.int .i64), (.int .i64), (.int .i64), (.int .i64), (.int .i64), (.int .i64), (.int .i64)] (.o2 .cons (.o1 (.fld 4) (.var 0)) (.o2 .cons (.o1 (.fld 5) (.var 0)) (.o2 .cons (.o1 (.fld 6) (.var 0)) (.o2 .cons (.o1 (.fld 7) (.var 0)) (.o2 .cons (.o1 (.fld 8) (.var 0)) (.o2 .cons (.o1 (.fld 9) (.var 0)) (.o2 .cons (.o1 (.fld 10) (.var 0)) .nil)))))))] [.st [(.int .i64), (.int .i64), (.int .i64), (.int .i64), (.int .i64), (.int .i64), (.int .i64)]]
(.call [] (.fn 63) [.st [(.int .i64), (.int .i64)] (.o2 .cons (.o1 (.fld 11) (.var 0)) (.o2 .cons (.o1 (.fld 12) (.var 0)) .nil))] [.st [(.int .i64), (.int .i64)]]
(.call [] (.fn 64) [.st [(.int .i64), (.int .i64), (.int .i64), (.int .i64), (.int .i64), .bool, (.sl [(.int .i64), (.int .i64), (.int .i64), (.int .i64), (.int .i64), (.int .i64), .bool])] (.o2 .cons (.o1 (.fld 13) (.var 0)) (.o2 .cons (.o1 (.fld 14) (.var 0)) (.o2 .cons (.o1 (.fld 15) (.var 0)) (.o2 .cons (.o1 (.fld 16) (.var 0)) (.o2 .cons (.o1 (.fld 17) (.var 0)) (.o2 .cons (.o1 (.fld 18) (.var 0)) (.o2 .cons (.o1 (.fld 19) (.var 0)) .nil)))))))] [.st [(.int .i64), (.int .i64), (.int .i64), (.int .i64), (.int .i64), .bool, (.sl [(.int .i64), (.int .i64), (.int .i64), (.int .i64), (.int .i64), (.int .i64), .bool])]]
(.ret [(.o2 .cons (.o1 (.fld 0) (.var 0)) (.o2 .cons (.o1 (.fld 1) (.var 0)) (.o2 .cons (.o1 (.fld 2) (.var 0)) (.o2 .cons (.o1 (.fld 3) (.var 0)) (.o2 .cons (.o1 (.fld 0) (.var 1)) (.o2 .cons (.o1 (.fld 1) (.var 1)) (.o2 .cons (.o1 (.fld 2) (.var 1)) (.o2 .cons (.o1 (.fld 3) (.var 1)) (.o2 .cons (.o1 (.fld 4) (.var 1)) (.o2 .cons (.o1 (.fld 5) (.var 1)) (.o2 .cons (.o1 (.fld 6) (.var 1)) (.o2 .cons (.o1 (.fld 0) (.var 2)) (.o2 .cons (.o1 (.fld 1) (.var 2)) (.o2 .cons (.o1 (.fld 0) (.var 3)) (.o2 .cons (.o1 (.fld 1) (.var 3)) (.o2 .cons (.o1 (.fld 2) (.var 3)) (.o2 .cons (.o1 (.fld 3) (.var 3)) (.o2 .cons (.o1 (.fld 4) (.var 3)) (.o2 .cons (.o1 (.fld 5) (.var 3)) (.o2 .cons (.o1 (.fld 6) (.var 3)) (.o2 .cons (.o1 (.fld 20) (.var 0)) (.o2 .cons (.o1 (.fld 21) (.var 0)) .nil))))))))))))))))))))))]))))
theorem sig_23 : sigOf Try.prog md 23 [] = some ([.st [(.int .i64), (.int .i64), (.int .i64), (.int .i64), (.int .i64), (.int .i64), (.int .i64), (.int .i64), (.int .i64), (.int .i64), (.int .i64), (.int .i64), (.int .i64), (.int .i64), (.int .i64), (.int .i64), (.int .i64), (.int .i64), .bool, (.sl [(.int .i64), (.int .i64), (.int .i64), (.int .i64), (.int .i64), (.int .i64), .bool]), (.int .i64), (.int .i64)]], [.st [(.int .i64), (.int .i64), (.int .i64), (.int .i64), (.int .i64), (.int .i64), (.int .i64), (.int .i64), (.int .i64), (.int .i64), (.int .i64), (.int .i64), (.int .i64), (.int .i64), (.int .i64), (.int .i64), (.int .i64), (.int .i64), .bool, (.sl [(.int .i64), (.int .i64), (.int .i64), (.int .i64), (.int .i64), (.int .i64), .bool]), (.int .i64), (.int .i64)]], tree_23) := by kernel_rfl
/- laws.eqPat -/
def tree_68 : T :=
(.br (.o2 .ne (.o1 (.fld 0) (.var 0)) (.o1 (.fld 0) (.var 1)))
 (.ret [(.bool false)])
 (.br (.o2 .ne (.o1 (.fld 1) (.var 0)) (.o1 (.fld 1) (.var 1)))
  (.ret [(.bool false)])
  (.br (.o2 .ne (.o1 (.fld 2) (.var 0)) (.o1 (.fld 2) (.var 1)))
   (.ret [(.bool false)])
   (.br (.o2 .ne (.o1 (.fld 3) (.var 0)) (.o1 (.fld 3) (.var 1)))
    (.ret [(.bool false)])
    (.br (.o2 .ne (.o1 (.fld 4) (.var 0)) (.o1 (.fld 4) (.var 1)))
     (.ret [(.bool false)])
     (.br (.o2 .ne (.o1 (.fld 5) (.var 0)) (.o1 (.fld 5) (.var 1)))
      (.ret [(.bool false)])
      (.br (.o2 .ne (.o1 (.fld 6) (.var 0)) (.o1 (.fld 6) (.var 1)))
       (.ret [(.bool false)])
       (.ret [(.bool true)]))))))))
theorem sig_68 : sigOf Try.prog md 68 [] = some ([.st [(.int .i64), (.int .i64), (.int .i64), (.int .i64), (.int .i64), (.int .i64), (.int .i64)], .st [(.int .i64), (.int .i64), (.int .i64), (.int .i64), (.int .i64), (.int .i64), (.int .i64)]], [.sc .bool], tree_68) := by kernel_rfl
/- laws.eqGuard -/
def tree_69 : T :=
(.br (.o2 .ne (.o1 (.fld 0) (.var 0)) (.o1 (.fld 0) (.var 1)))
 (.ret [(.bool false)])
 (.br (.o2 .ne (.o1 (.fld 1) (.var 0)) (.o1 (.fld 1) (.var 1)))
  (.ret [(.bool false)])
  (.ret [(.bool true)])))
theorem sig_69 : sigOf Try.prog md 69 [] = some ([.st [(.int .i64), (.int .i64)], .st [(.int .i64), (.int .i64)]], [.sc .bool], tree_69) := by kernel_rfl
/- laws.eqEvent -/
def tree_102 : T :=
(.br (.o2 .ne (.o1 (.fld 0) (.var 0)) (.o1 (.fld 0) (.var 1)))
 (.ret [(.bool false)])
 (.br (.o2 .ne (.o1 (.fld 1) (.var 0)) (.o1 (.fld 1) (.var 1)))
  (.ret [(.bool false)])
  (.br (.o2 .ne (.o1 (.fld 2) (.var 0)) (.o1 (.fld 2) (.var 1)))
   (.ret [(.bool false)])
   (.br (.o2 .ne (.o1 (.fld 3) (.var 0)) (.o1 (.fld 3) (.var 1)))
    (.ret [(.bool false)])
    (.br (.o2 .ne (.o1 (.fld 4) (.var 0)) (.o1 (.fld 4) (.var 1)))
     (.ret [(.bool false)])
     (.br (.o2 .ne (.o1 (.fld 5) (.var 0)) (.o1 (.fld 5) (.var 1)))
      (.ret [(.bool false)])
      (.br (.o2 .bne (.o1 (.fld 6) (.var 0)) (.o1 (.fld 6) (.var 1)))
       (.ret [(.bool false)])
       (.ret [(.bool true)]))))))))
theorem sig_102 : sigOf Try.prog md 102 [] = some ([.st [(.int .i64), (.int .i64), (.int .i64), (.int .i64), (.int .i64), (.int .i64), .bool], .st [(.int .i64), (.int .i64), (.int .i64), (.int .i64), (.int .i64), (.int .i64), .bool]], [.sc .bool], tree_102) := by kernel_rfl
/- laws.eqEventS -/
def tree_43 : T :=
(.know (.var 0)
(.know (.var 1)
(.br (.o2 .ne (.o1 .len (.var 0)) (.o1 .len (.var 1)))
 (.ret [(.bool false)])
 (.loop 0 [(.int 0)]
  (.know (.var 0)
  (.br (.o2 .lt (.var 2) (.o1 .len (.var 0)))
   (.need [] (.o2 .le (.int 0) (.var 2))
   (.need [] (.o2 .lt (.var 2) (.o1 .len (.var 0)))
   (.need [] (.o2 .le (.int 0) (.var 2))
   (.need [] (.o2 .lt (.var 2) (.o1 .len (.var 1)))
   (.call [] (.fn 102) [.st [(.int .i64), (.int .i64), (.int .i64), (.int .i64), (.int .i64), (.int .i64), .bool] (.o2 .cons (.o1 (.fld 0) (.o2 .idx (.var 0) (.var 2))) (.o2 .cons (.o1 (.fld 1) (.o2 .idx (.var 0) (.var 2))) (.o2 .cons (.o1 (.fld 2) (.o2 .idx (.var 0) (.var 2))) (.o2 .cons (.o1 (.fld 3) (.o2 .idx (.var 0) (.var 2))) (.o2 .cons (.o1 (.fld 4) (.o2 .idx (.var 0) (.var 2))) (.o2 .cons (.o1 (.fld 5) (.o2 .idx (.var 0) (.var 2))) (.o2 .cons (.o1 (.fld 6) (.o2 .idx (.var 0) (.var 2))) .nil))))))), .st [(.int .i64), (.int .i64), (.int .i64), (.int .i64), (.int .i64), (.int .i64), .bool] (.o2 .cons (.o1 (.fld 0) (.o2 .idx (.var 1) (.var 2))) (.o2 .cons (.o1 (.fld 1) (.o2 .idx (.var 1) (.var 2))) (.o2 .cons (.o1 (.fld 2) (.o2 .idx (.var 1) (.var 2))) (.o2 .cons (.o1 (.fld 3) (.o2 .idx (.var 1) (.var 2))) (.o2 .cons (.o1 (.fld 4) (.o2 .idx (.var 1) (.var 2))) (.o2 .cons (.o1 (.fld 5) (.o2 .idx (.var 1) (.var 2))) (.o2 .cons (.o1 (.fld 6) (.o2 .idx (.var 1) (.var 2))) .nil)))))))] [.sc .bool]
   (.br (.o1 .not (.var 3))
    (.ret [(.bool false)])
    (.cont 0 [(.o2 (.add .i64) (.var 2) (.int 1))])))))))
   (.ret [(.bool true)])))))))
theorem sig_43 : sigOf Try.prog md 43 [] = some ([.sc (.sl [(.int .i64), (.int .i64), (.int .i64), (.int .i64), (.int .i64), (.int .i64), .bool]), .sc (.sl [(.int .i64), (.int .i64), (.int .i64), (.int .i64), (.int .i64), (.int .i64), .bool])], [.sc .bool], tree_43) := by kernel_rfl
/- laws.eqAct -/
def tree_70 : T :=
(.br (.o2 .ne (.o1 (.fld 0) (.var 0)) (.o1 (.fld 0) (.var 1)))
 (.ret [(.bool false)])
 (.br (.o2 .ne (.o1 (.fld 1) (.var 0)) (.o1 (.fld 1) (.var 1)))
  (.ret [(.bool false)])
  (.br (.o2 .ne (.o1 (.fld 2) (.var 0)) (.o1 (.fld 2) (.var 1)))
   (.ret [(.bool false)])
   (.br (.o2 .ne (.o1 (.fld 3) (.var 0)) (.o1 (.fld 3) (.var 1)))
    (.ret [(.bool false)])
    (.br (.o2 .ne (.o1 (.fld 4) (.var 0)) (.o1 (.fld 4) (.var 1)))
     (.ret [(.bool false)])
     (.br (.o2 .bne (.o1 (.fld 5) (.var 0)) (.o1 (.fld 5) (.var 1)))
      (.ret [(.bool false)])
      (.call [] (.fn 43) [.sc (.sl [(.int .i64), (.int .i64), (.int .i64), (.int .i64), (.int .i64), (.int .i64), .bool]) (.o1 (.fld 6) (.var 0)), .sc (.sl [(.int .i64), (.int .i64), (.int .i64), (.int .i64), (.int .i64), (.int .i64), .bool]) (.o1 (.fld 6) (.var 1))] [.sc .bool]
      (.br (.o1 .not (.var 2))
       (.ret [(.bool false)])
       (.ret [(.bool true)])))))))))
theorem sig_70 : sigOf Try.prog md 70 [] = some ([.st [(.int .i64), (.int .i64), (.int .i64), (.int .i64), (.int .i64), .bool, (.sl [(.int .i64), (.int .i64), (.int .i64), (.int .i64), (.int .i64), (.int .i64), .bool])], .st [(.int .i64), (.int .i64), (.int .i64), (.int .i64), (.int .i64), .bool, (.sl [(.int .i64), (.int .i64), (.int .i64), (.int .i64), (.int .i64), (.int .i64), .bool])]], [.sc .bool], tree_70) := by kernel_rfl
/- laws.eqEffect -/
def tree_25 : T :=
(.br (.o2 .ne (.o1 (.fld 0) (.var 0)) (.o1 (.fld 0) (.var 1)))
 (.ret [(.bool false)])
 (.br (.o2 .ne (.o1 (.fld 1) (.var 0)) (.o1 (.fld 1) (.var 1)))
  (.ret [(.bool false)])
  (.br (.o2 .ne (.o1 (.fld 2) (.var 0)) (.o1 (.fld 2) (.var 1)))
   (.ret [(.bool false)])
   (.br (.o2 .ne (.o1 (.fld 3) (.var 0)) (.o1 (.fld 3) (.var 1)))
    (.ret [(.bool false)])
    (.call [] (.fn 68) [.st [(.int .i64), (.int .i64), (.int .i64), (.int .i64), (.int .i64), (.int .i64), (.int .i64)] (.o2 .cons (.o1 (.fld 4) (.var 0)) (.o2 .cons (.o1 (.fld 5) (.var 0)) (.o2 .cons (.o1 (.fld 6) (.var 0)) (.o2 .cons (.o1 (.fld 7) (.var 0)) (.o2 .cons (.o1 (.fld 8) (.var 0)) (.o2 .cons (.o1 (.fld 9) (.var 0)) (.o2 .cons (.o1 (.fld 10) (.var 0)) .nil))))))), .st [(.int .i64), (.int .i64), (.int .i64), (.int .i64), (.int .i64), (.int .i64), (.int .i64)] (.o2 .cons (.o1 (.fld 4) (.var 1)) (.o2 .cons (.o1 (.fld 5) (.var 1)) (.o2 .cons (.o1 (.fld 6) (.var 1)) (.o2 .cons (.o1 (.fld 7) (.var 1)) (.o2 .cons (.o1 (.fld 8) (.var 1)) (.o2 .cons (.o1 (.fld 9) (.var 1)) (.o2 .cons (.o1 (.fld 10) (.var 1)) .nil)))))))] [.sc .bool]
    (.br (.o1 .not (.var 2))
     (.ret [(.bool false)])
     (.call [] (.fn 69) [.st [(.int .i64), (.int .i64)] (.o2 .cons (.o1 (.fld 11) (.var 0)) (.o2 .cons (.o1 (.fld 12) (.var 0)) .nil)), .st [(.int .i64), (.int .i64)] (.o2 .cons (.o1 (.fld 11) (.var 1)) (.o2 .cons (.o1 (.fld 12) (.var 1)) .nil))] [.sc .bool]
     (.br (.o1 .not (.var 3))
      (.ret [(.bool false)])
      (.call [] (.fn 70) [.st [(.int .i64), (.int .i64), (.int .i64), (.int .i64), (.int .i64), .bool, (.sl [(.int .i64), (.int .i64), (.int .i64), (.int .i64), (.int .i64), (.int .i64), .bool])] (.o2 .cons (.o1 (.fld 13) (.var 0)) (.o2 .cons (.o1 (.fld 14) (.var 0)) (.o2 .cons (.o1 (.fld 15) (.var 0)) (.o2 .cons (.o1 (.fld 16) (.var 0)) (.o2 .cons (.o1 (.fld 17) (.var 0)) (.o2 .cons (.o1 (.fld 18) (.var 0)) (.o2 .cons (.o1 (.fld 19) (.var 0)) .nil))))))), .st [(.int .i64), (.int .i64), (.int .i64), (.int .i64), (.int .i64), .bool, (.sl [(.int .i64), (.int .i64), (.int .i64), (.int .i64), (.int .i64), (.int .i64), .bool])] (.o2 .cons (.o1 (.fld 13) (.var 1)) (.o2 .cons (.o1 (.fld 14) (.var 1)) (.o2 .cons (.o1 (.fld 15) (.var 1)) (.o2 .cons (.o1 (.fld 16) (.var 1)) (.o2 .cons (.o1 (.fld 17) (.var 1)) (.o2 .cons (.o1 (.fld 18) (.var 1)) (.o2 .cons (.o1 (.fld 19) (.var 1)) .nil)))))))] [.sc .bool]
      (.br (.o1 .not (.var 4))
       (.ret [(.bool false)])
       (.br (.o2 .ne (.o1 (.fld 20) (.var 0)) (.o1 (.fld 20) (.var 1)))
        (.ret [(.bool false)])
        (.br (.o2 .ne (.o1 (.fld 21) (.var 0)) (.o1 (.fld 21) (.var 1)))
         (.ret [(.bool false)])
         (.ret [(.bool true)])))))))))))))
theorem sig_25 : sigOf Try.prog md 25 [] = some ([.st [(.int .i64), (.int .i64), (.int .i64), (.int .i64), (.int .i64), (.int .i64), (.int .i64), (.int .i64), (.int .i64), (.int .i64), (.int .i64), (.int .i64), (.int .i64), (.int .i64), (.int .i64), (.int .i64), (.int .i64), (.int .i64), .bool, (.sl [(.int .i64), (.int .i64), (.int .i64), (.int .i64), (.int .i64), (.int .i64), .bool]), (.int .i64), (.int .i64)], .st [(.int .i64), (.int .i64), (.int .i64), (.int .i64), (.int .i64), (.int .i64), (.int .i64), (.int .i64), (.int .i64), (.int .i64), (.int .i64), (.int .i64), (.int .i64), (.int .i64), (.int .i64), (.int .i64), (.int .i64), (.int .i64), .bool, (.sl [(.int .i64), (.int .i64), (.int .i64), (.int .i64), (.int .i64), (.int .i64), .bool]), (.int .i64), (.int .i64)]], [.sc .bool], tree_25) := by kernel_rfl
/- laws.szPieceS -/
def tree_103 : T :=
(.know (.var 0)
(.br (.o2 .lt (.o2 (.sub .i64) (.var 1) (.o1 .len (.var 0))) (.int 0))
 (.ret [(.int (-1))])
 (.ret [(.o2 (.sub .i64) (.var 1) (.o1 .len (.var 0)))])))
theorem sig_103 : sigOf Try.prog md 103 [] = some ([.sc (.sl [(.int .i64), (.int .i64), (.int .i64), (.int .i64), (.int .i64), (.int .i64), (.int .i64), (.int .i64), (.int .i64), (.int .i64), (.int .i64), .bool, .bool]), .sc (.int .i64)], [.sc (.int .i64)], tree_103) := by kernel_rfl
/- laws.szSideS -/
def tree_104 : T :=
(.know (.var 0)
(.br (.o2 .lt (.o2 (.sub .i64) (.var 1) (.o1 .len (.var 0))) (.int 0))
 (.ret [(.int (-1))])
 (.ret [(.o2 (.sub .i64) (.var 1) (.o1 .len (.var 0)))])))
theorem sig_104 : sigOf Try.prog md 104 [] = some ([.sc (.sl [(.int .i64), (.int .i64), .bool]), .sc (.int .i64)], [.sc (.int .i64)], tree_104) := by kernel_rfl
/- laws.szState -/
def tree_46 : T :=
(.call [] (.fn 103) [.sc (.sl [(.int .i64), (.int .i64), (.int .i64), (.int .i64), (.int .i64), (.int .i64), (.int .i64), (.int .i64), (.int .i64), (.int .i64), (.int .i64), .bool, .bool]) (.o1 (.fld 0) (.var 0)), .sc (.int .i64) (.var 1)] [.sc (.int .i64)]
(.br (.o2 .lt (.var 2) (.int 0))
 (.ret [(.int (-1))])
 (.call [] (.fn 104) [.sc (.sl [(.int .i64), (.int .i64), .bool]) (.o1 (.fld 1) (.var 0)), .sc (.int .i64) (.var 2)] [.sc (.int .i64)]
 (.br (.o2 .lt (.var 3) (.int 0))
  (.ret [(.int (-1))])
  (.ret [(.var 3)])))))
theorem sig_46 : sigOf Try.prog md 46 [] = some ([.st [(.sl [(.int .i64), (.int .i64), (.int .i64), (.int .i64), (.int .i64), (.int .i64), (.int .i64), (.int .i64), (.int .i64), (.int .i64), (.int .i64), .bool, .bool]), (.sl [(.int .i64), (.int .i64), .bool]), (.int .i64), (.int .i64)], .sc (.int .i64)], [.sc (.int .i64)], tree_46) := by kernel_rfl
/- spec.l1In -/
def tree_73 : T :=
(.ret [(.o2 .band (.o2 .ge (.var 0) (.var 1)) (.o2 .le (.var 0) (.var 2)))])
theorem sig_73 : sigOf Try.prog md 73 [] = some ([.sc (.int .i64), .sc (.int .i64), .sc (.int .i64)], [.sc .bool], tree_73) := by kernel_rfl
/- spec.PatOk -/
def tree_74 : T :=
(.call [] (.fn 73) [.sc (.int .i64) (.o1 (.fld 0) (.var 0)), .sc (.int .i64) (.int 1), .sc (.int .i64) (.int 6)] [.sc .bool]
(.call [((.o1 .not (.var 1)), false)] (.fn 73) [.sc (.int .i64) (.o1 (.fld 1) (.var 0)), .sc (.int .i64) (.int 0), .sc (.int .i64) (.int 2)] [.sc .bool]
(.call [((.o2 .bor (.o1 .not (.var 1)) (.o1 .not (.var 2))), false)] (.fn 73) [.sc (.int .i64) (.o1 (.fld 4) (.var 0)), .sc (.int .i64) (.int 0), .sc (.int .i64) (.int 99)] [.sc .bool]
(.call [((.o2 .bor (.o2 .bor (.o1 .not (.var 1)) (.o1 .not (.var 2))) (.o1 .not (.var 3))), false)] (.fn 73) [.sc (.int .i64) (.o1 (.fld 5) (.var 0)), .sc (.int .i64) (.int 0), .sc (.int .i64) (.int 2147483647)] [.sc .bool]
(.call [((.o2 .bor (.o2 .bor (.o2 .bor (.o1 .not (.var 1)) (.o1 .not (.var 2))) (.o1 .not (.var 3))) (.o1 .not (.var 4))), false)] (.fn 73) [.sc (.int .i64) (.o1 (.fld 2) (.var 0)), .sc (.int .i64) (.int 0), .sc (.int .i64) (.int 99)] [.sc .bool]
(.call [((.o2 .bor (.o2 .bor (.o2 .bor (.o2 .bor (.o1 .not (.var 1)) (.o1 .not (.var 2))) (.o1 .not (.var 3))) (.o1 .not (.var 4))) (.o1 .not (.var 5))), false)] (.fn 73) [.sc (.int .i64) (.o1 (.fld 3) (.var 0)), .sc (.int .i64) (.int 0), .sc (.int .i64) (.int 63)] [.sc .bool]
(.call [((.o2 .bor (.o2 .bor (.o2 .bor (.o2 .bor (.o2 .bor (.o1 .not (.var 1)) (.o1 .not (.var 2))) (.o1 .not (.var 3))) (.o1 .not (.var 4))) (.o1 .not (.var 5))) (.o1 .not (.var 6))), false)] (.fn 73) [.sc (.int .i64) (.o1 (.fld 6) (.var 0)), .sc (.int .i64) (.int 0), .sc (.int .i64) (.int 4)] [.sc .bool]
(.br (.o2 .bor (.o2 .bor (.o2 .bor (.o2 .bor (.o2 .bor (.o2 .bor (.o1 .not (.var 1)) (.o1 .not (.var 2))) (.o1 .not (.var 3))) (.o1 .not (.var 4))) (.o1 .not (.var 5))) (.o1 .not (.var 6))) (.o1 .not (.var 7)))
 (.ret [(.bool false)])
 (.br (.o2 .bor (.o2 .band (.o2 .ne (.o1 (.fld 0) (.var 0)) (.int 1)) (.o2 .bor (.o2 .ne (.o1 (.fld 2) (.var 0)) (.int 0)) (.o2 .ne (.o1 (.fld 3) (.var 0)) (.int 0)))) (.o2 .band (.o2 .ne (.o1 (.fld 0) (.var 0)) (.int 2)) (.o2 .ne (.o1 (.fld 6) (.var 0)) (.int 0))))
  (.ret [(.bool false)])
  (.ret [(.o2 .bor (.o2 .band (.o2 .ne (.o1 (.fld 0) (.var 0)) (.int 3)) (.o2 .ne (.o1 (.fld 0) (.var 0)) (.int 4))) (.o2 .eq (.o1 (.fld 4) (.var 0)) (.int 0)))]))))))))))
theorem sig_74 : sigOf Try.prog md 74 [] = some ([.st [(.int .i64), (.int .i64), (.int .i64), (.int .i64), (.int .i64), (.int .i64), (.int .i64)]], [.sc .bool], tree_74) := by kernel_rfl
/- spec.GuardOk -/
def tree_75 : T :=
(.br (.o2 .eq (.o1 (.fld 0) (.var 0)) (.int 0))
 (.br (.o2 .eq (.o1 (.fld 0) (.var 0)) (.int 0))
  (.ret [(.o2 .eq (.o1 (.fld 1) (.var 0)) (.int 0))])
  (.br (.o2 .eq (.o1 (.fld 0) (.var 0)) (.int 1))
   (.call [] (.fn 73) [.sc (.int .i64) (.o1 (.fld 1) (.var 0)), .sc (.int .i64) (.int (-2147483647)), .sc (.int .i64) (.int 2147483647)] [.sc .bool]
   (.ret [(.var 1)]))
   (.call [((.o2 .bor (.o2 .eq (.o1 (.fld 0) (.var 0)) (.int 2)) (.o2 .eq (.o1 (.fld 0) (.var 0)) (.int 4))), true)] (.fn 73) [.sc (.int .i64) (.o1 (.fld 1) (.var 0)), .sc (.int .i64) (.int 0), .sc (.int .i64) (.int 8)] [.sc .bool]
   (.ret [(.o2 .band (.o2 .bor (.o2 .eq (.o1 (.fld 0) (.var 0)) (.int 2)) (.o2 .eq (.o1 (.fld 0) (.var 0)) (.int 4))) (.var 1))]))))
 (.br (.o2 .eq (.o1 (.fld 0) (.var 0)) (.int 3))
  (.ret [(.o2 .eq (.o1 (.fld 1) (.var 0)) (.int 0))])
  (.br (.o2 .eq (.o1 (.fld 0) (.var 0)) (.int 1))
   (.call [] (.fn 73) [.sc (.int .i64) (.o1 (.fld 1) (.var 0)), .sc (.int .i64) (.int (-2147483647)), .sc (.int .i64) (.int 2147483647)] [.sc .bool]
   (.ret [(.var 1)]))
   (.call [((.o2 .bor (.o2 .eq (.o1 (.fld 0) (.var 0)) (.int 2)) (.o2 .eq (.o1 (.fld 0) (.var 0)) (.int 4))), true)] (.fn 73) [.sc (.int .i64) (.o1 (.fld 1) (.var 0)), .sc (.int .i64) (.int 0), .sc (.int .i64) (.int 8)] [.sc .bool]
   (.ret [(.o2 .band (.o2 .bor (.o2 .eq (.o1 (.fld 0) (.var 0)) (.int 2)) (.o2 .eq (.o1 (.fld 0) (.var 0)) (.int 4))) (.var 1))])))))
theorem sig_75 : sigOf Try.prog md 75 [] = some ([.st [(.int .i64), (.int .i64)]], [.sc .bool], tree_75) := by kernel_rfl
/- spec.l9Plain -/
def tree_124 : T :=
(.ret [(.o2 .band (.o2 .band (.o2 .band (.o2 .band (.o2 .eq (.o1 (.fld 2) (.var 0)) (.int 0)) (.o2 .eq (.o1 (.fld 3) (.var 0)) (.int (-1)))) (.o2 .eq (.o1 (.fld 4) (.var 0)) (.int 0))) (.o1 .not (.o1 (.fld 5) (.var 0)))) (.o2 .eq (.o1 .len (.o1 (.fld 6) (.var 0))) (.int 0)))])
theorem sig_124 : sigOf Try.prog md 124 [] = some ([.st [(.int .i64), (.int .i64), (.int .i64), (.int .i64), (.int .i64), .bool, (.sl [(.int .i64), (.int .i64), (.int .i64), (.int .i64), (.int .i64), (.int .i64), .bool])]], [.sc .bool], tree_124) := by kernel_rfl
/- spec.EventOk -/
def tree_92 : T :=
(.call [] (.fn 73) [.sc (.int .i64) (.o1 (.fld 2) (.var 0)), .sc (.int .i64) (.int 1), .sc (.int .i64) (.int 99)] [.sc .bool]
(.call [((.o2 .eq (.o1 (.fld 2) (.var 0)) (.int 0)), true)] (.fn 73) [.sc (.int .i64) (.o1 (.fld 3) (.var 0)), .sc (.int .i64) (.int 0), .sc (.int .i64) (.int 2)] [.sc .bool]
(.call [] (.fn 73) [.sc (.int .i64) (.o1 (.fld 4) (.var 0)), .sc (.int .i64) (.int 0), .sc (.int .i64) (.int 2147483647)] [.sc .bool]
(.br (.o1 .not (.var 3))
 (.ret [(.bool false)])
 (.br (.o2 .eq (.o1 (.fld 0) (.var 0)) (.int 1))
  (.call [] (.fn 73) [.sc (.int .i64) (.o1 (.fld 1) (.var 0)), .sc (.int .i64) (.int 1), .sc (.int .i64) (.int 99)] [.sc .bool]
  (.ret [(.o2 .band (.o2 .band (.o2 .band (.var 4) (.o2 .bor (.o2 .band (.var 1) (.o2 .eq (.o1 (.fld 3) (.var 0)) (.int (-1)))) (.o2 .band (.o2 .eq (.o1 (.fld 2) (.var 0)) (.int 0)) (.var 2)))) (.o2 .eq (.o1 (.fld 5) (.var 0)) (.int 0))) (.o1 .not (.o1 (.fld 6) (.var 0))))]))
  (.br (.o2 .eq (.o1 (.fld 0) (.var 0)) (.int 2))
   (.call [((.o2 .band (.o2 .eq (.o1 (.fld 1) (.var 0)) (.int 0)) (.o2 .band (.var 1) (.o2 .eq (.o1 (.fld 3) (.var 0)) (.int (-1))))), true)] (.fn 73) [.sc (.int .i64) (.o1 (.fld 5) (.var 0)), .sc (.int .i64) (.int 1), .sc (.int .i64) (.int 4)] [.sc .bool]
   (.ret [(.o2 .band (.o2 .band (.o2 .band (.o2 .band (.o2 .eq (.o1 (.fld 1) (.var 0)) (.int 0)) (.o2 .band (.var 1) (.o2 .eq (.o1 (.fld 3) (.var 0)) (.int (-1))))) (.var 4)) (.o2 .le (.o1 (.fld 4) (.var 0)) (.int 99))) (.o2 .bor (.o2 .eq (.o1 (.fld 5) (.var 0)) (.int 2)) (.o2 .band (.o2 .eq (.o1 (.fld 4) (.var 0)) (.int 0)) (.o1 .not (.o1 (.fld 6) (.var 0))))))]))
   (.br (.o2 .eq (.o1 (.fld 0) (.var 0)) (.int 3))
    (.br (.o2 .eq (.o1 (.fld 0) (.var 0)) (.int 3))
     (.ret [(.o2 .band (.o2 .band (.o2 .band (.o2 .eq (.o1 (.fld 1) (.var 0)) (.int 0)) (.o2 .band (.o2 .eq (.o1 (.fld 2) (.var 0)) (.int 0)) (.var 2))) (.o2 .eq (.o1 (.fld 5) (.var 0)) (.int 0))) (.o1 .not (.o1 (.fld 6) (.var 0))))])
     (.br (.o2 .eq (.o1 (.fld 0) (.var 0)) (.int 5))
      (.br (.o2 .eq (.o1 (.fld 0) (.var 0)) (.int 5))
       (.ret [(.o2 .band (.o2 .band (.o2 .band (.o2 .eq (.o1 (.fld 1) (.var 0)) (.int 0)) (.o2 .band (.var 1) (.o2 .eq (.o1 (.fld 3) (.var 0)) (.int (-1))))) (.o2 .eq (.o1 (.fld 5) (.var 0)) (.int 0))) (.o1 .not (.o1 (.fld 6) (.var 0))))])
       (.ret [(.bool false)]))
      (.br (.o2 .eq (.o1 (.fld 0) (.var 0)) (.int 6))
       (.ret [(.o2 .band (.o2 .band (.o2 .band (.o2 .eq (.o1 (.fld 1) (.var 0)) (.int 0)) (.o2 .band (.var 1) (.o2 .eq (.o1 (.fld 3) (.var 0)) (.int (-1))))) (.o2 .eq (.o1 (.fld 5) (.var 0)) (.int 0))) (.o1 .not (.o1 (.fld 6) (.var 0))))])
       (.ret [(.bool false)]))))
    (.br (.o2 .eq (.o1 (.fld 0) (.var 0)) (.int 4))
     (.ret [(.o2 .band (.o2 .band (.o2 .band (.o2 .eq (.o1 (.fld 1) (.var 0)) (.int 0)) (.o2 .band (.o2 .eq (.o1 (.fld 2) (.var 0)) (.int 0)) (.var 2))) (.o2 .eq (.o1 (.fld 5) (.var 0)) (.int 0))) (.o1 .not (.o1 (.fld 6) (.var 0))))])
     (.br (.o2 .eq (.o1 (.fld 0) (.var 0)) (.int 5))
      (.br (.o2 .eq (.o1 (.fld 0) (.var 0)) (.int 5))
       (.ret [(.o2 .band (.o2 .band (.o2 .band (.o2 .eq (.o1 (.fld 1) (.var 0)) (.int 0)) (.o2 .band (.var 1) (.o2 .eq (.o1 (.fld 3) (.var 0)) (.int (-1))))) (.o2 .eq (.o1 (.fld 5) (.var 0)) (.int 0))) (.o1 .not (.o1 (.fld 6) (.var 0))))])
       (.ret [(.bool false)]))
      (.br (.o2 .eq (.o1 (.fld 0) (.var 0)) (.int 6))
       (.ret [(.o2 .band (.o2 .band (.o2 .band (.o2 .eq (.o1 (.fld 1) (.var 0)) (.int 0)) (.o2 .band (.var 1) (.o2 .eq (.o1 (.fld 3) (.var 0)) (.int (-1))))) (.o2 .eq (.o1 (.fld 5) (.var 0)) (.int 0))) (.o1 .not (.o1 (.fld 6) (.var 0))))])
       (.ret [(.bool false)])))))))))))
theorem sig_92 : sigOf Try.prog md 92 [] = some ([.st [(.int .i64), (.int .i64), (.int .i64), (.int .i64), (.int .i64), (.int .i64), .bool]], [.sc .bool], tree_92) := by kernel_rfl
/- spec.l9Part -/
def tree_125 : T :=
(.br (.o2 .band (.o2 .eq (.o1 (.fld 4) (.var 0)) (.int (-1))) (.o2 .ne (.o1 (.fld 0) (.var 0)) (.int 2)))
 (.call [] (.fn 92) [.st [(.int .i64), (.int .i64), (.int .i64), (.int .i64), (.int .i64), (.int .i64), .bool] (.o2 .cons (.o1 (.fld 0) (.var 0)) (.o2 .cons (.o1 (.fld 1) (.var 0)) (.o2 .cons (.o1 (.fld 2) (.var 0)) (.o2 .cons (.o1 (.fld 3) (.var 0)) (.o2 .cons (.int 0) (.o2 .cons (.o1 (.fld 5) (.var 0)) (.o2 .cons (.o1 (.fld 6) (.var 0)) .nil)))))))] [.sc .bool]
 (.ret [(.var 1)]))
 (.call [] (.fn 92) [.st [(.int .i64), (.int .i64), (.int .i64), (.int .i64), (.int .i64), (.int .i64), .bool] (.o2 .cons (.o1 (.fld 0) (.var 0)) (.o2 .cons (.o1 (.fld 1) (.var 0)) (.o2 .cons (.o1 (.fld 2) (.var 0)) (.o2 .cons (.o1 (.fld 3) (.var 0)) (.o2 .cons (.o1 (.fld 4) (.var 0)) (.o2 .cons (.o1 (.fld 5) (.var 0)) (.o2 .cons (.o1 (.fld 6) (.var 0)) .nil)))))))] [.sc .bool]
 (.ret [(.var 1)])))
theorem sig_125 : sigOf Try.prog md 125 [] = some ([.st [(.int .i64), (.int .i64), (.int .i64), (.int .i64), (.int .i64), (.int .i64), .bool]], [.sc .bool], tree_125) := by kernel_rfl
/- spec.ActOk -/
def tree_76 : T :=
(.br (.o2 .eq (.o1 (.fld 0) (.var 0)) (.int 1))
 (.br (.o2 .eq (.o1 (.fld 0) (.var 0)) (.int 1))
  (.call [] (.fn 124) [.st [(.int .i64), (.int .i64), (.int .i64), (.int .i64), (.int .i64), .bool, (.sl [(.int .i64), (.int .i64), (.int .i64), (.int .i64), (.int .i64), (.int .i64), .bool])] (.o2 .cons (.o1 (.fld 0) (.var 0)) (.o2 .cons (.o1 (.fld 1) (.var 0)) (.o2 .cons (.o1 (.fld 2) (.var 0)) (.o2 .cons (.o1 (.fld 3) (.var 0)) (.o2 .cons (.o1 (.fld 4) (.var 0)) (.o2 .cons (.o1 (.fld 5) (.var 0)) (.o2 .cons (.o1 (.fld 6) (.var 0)) .nil)))))))] [.sc .bool]
  (.ret [(.o2 .band (.var 1) (.o2 .eq (.o1 (.fld 1) (.var 0)) (.int 0)))]))
  (.br (.o2 .eq (.o1 (.fld 0) (.var 0)) (.int 3))
   (.call [] (.fn 124) [.st [(.int .i64), (.int .i64), (.int .i64), (.int .i64), (.int .i64), .bool, (.sl [(.int .i64), (.int .i64), (.int .i64), (.int .i64), (.int .i64), (.int .i64), .bool])] (.o2 .cons (.o1 (.fld 0) (.var 0)) (.o2 .cons (.o1 (.fld 1) (.var 0)) (.o2 .cons (.o1 (.fld 2) (.var 0)) (.o2 .cons (.o1 (.fld 3) (.var 0)) (.o2 .cons (.o1 (.fld 4) (.var 0)) (.o2 .cons (.o1 (.fld 5) (.var 0)) (.o2 .cons (.o1 (.fld 6) (.var 0)) .nil)))))))] [.sc .bool]
   (.call [((.var 1), true)] (.fn 73) [.sc (.int .i64) (.o1 (.fld 1) (.var 0)), .sc (.int .i64) (.int 1), .sc (.int .i64) (.int 2147483647)] [.sc .bool]
   (.ret [(.o2 .band (.var 1) (.var 2))])))
   (.br (.o2 .eq (.o1 (.fld 0) (.var 0)) (.int 6))
    (.call [((.o2 .band (.o2 .band (.o2 .band (.o2 .eq (.o1 (.fld 1) (.var 0)) (.int 0)) (.o2 .eq (.o1 (.fld 4) (.var 0)) (.int 0))) (.o1 .not (.o1 (.fld 5) (.var 0)))) (.o2 .eq (.o1 .len (.o1 (.fld 6) (.var 0))) (.int 0))), true)] (.fn 73) [.sc (.int .i64) (.o1 (.fld 2) (.var 0)), .sc (.int .i64) (.int 1), .sc (.int .i64) (.int 99)] [.sc .bool]
    (.call [((.o2 .band (.o2 .band (.o2 .band (.o2 .eq (.o1 (.fld 1) (.var 0)) (.int 0)) (.o2 .eq (.o1 (.fld 4) (.var 0)) (.int 0))) (.o1 .not (.o1 (.fld 5) (.var 0)))) (.o2 .eq (.o1 .len (.o1 (.fld 6) (.var 0))) (.int 0))), true), ((.o2 .band (.var 1) (.o2 .eq (.o1 (.fld 3) (.var 0)) (.int (-1)))), false), ((.o2 .eq (.o1 (.fld 2) (.var 0)) (.int 0)), true)] (.fn 73) [.sc (.int .i64) (.o1 (.fld 3) (.var 0)), .sc (.int .i64) (.int 0), .sc (.int .i64) (.int 2)] [.sc .bool]
    (.ret [(.o2 .band (.o2 .band (.o2 .band (.o2 .band (.o2 .eq (.o1 (.fld 1) (.var 0)) (.int 0)) (.o2 .eq (.o1 (.fld 4) (.var 0)) (.int 0))) (.o1 .not (.o1 (.fld 5) (.var 0)))) (.o2 .eq (.o1 .len (.o1 (.fld 6) (.var 0))) (.int 0))) (.o2 .bor (.o2 .band (.var 1) (.o2 .eq (.o1 (.fld 3) (.var 0)) (.int (-1)))) (.o2 .band (.o2 .eq (.o1 (.fld 2) (.var 0)) (.int 0)) (.var 2))))])))
    (.br (.o2 .eq (.o1 (.fld 0) (.var 0)) (.int 7))
     (.call [((.o2 .band (.o2 .band (.o2 .band (.o2 .band (.o2 .eq (.o1 (.fld 1) (.var 0)) (.int 0)) (.o2 .eq (.o1 (.fld 2) (.var 0)) (.int 0))) (.o2 .eq (.o1 (.fld 3) (.var 0)) (.int (-1)))) (.o1 .not (.o1 (.fld 5) (.var 0)))) (.o2 .eq (.o1 .len (.o1 (.fld 6) (.var 0))) (.int 0))), true)] (.fn 73) [.sc (.int .i64) (.o1 (.fld 4) (.var 0)), .sc (.int .i64) (.int 1), .sc (.int .i64) (.int 4)] [.sc .bool]
     (.ret [(.o2 .band (.o2 .band (.o2 .band (.o2 .band (.o2 .band (.o2 .eq (.o1 (.fld 1) (.var 0)) (.int 0)) (.o2 .eq (.o1 (.fld 2) (.var 0)) (.int 0))) (.o2 .eq (.o1 (.fld 3) (.var 0)) (.int (-1)))) (.o1 .not (.o1 (.fld 5) (.var 0)))) (.o2 .eq (.o1 .len (.o1 (.fld 6) (.var 0))) (.int 0))) (.var 1))]))
     (.br (.o2 .eq (.o1 (.fld 0) (.var 0)) (.int 8))
      (.call [] (.fn 73) [.sc (.int .i64) (.o1 (.fld 1) (.var 0)), .sc (.int .i64) (.int 0), .sc (.int .i64) (.int 99)] [.sc .bool]
      (.ret [(.o2 .band (.o2 .band (.o2 .band (.o2 .band (.var 1) (.o2 .eq (.o1 (.fld 2) (.var 0)) (.int 0))) (.o2 .eq (.o1 (.fld 3) (.var 0)) (.int (-1)))) (.o2 .eq (.o1 (.fld 4) (.var 0)) (.int 0))) (.o2 .eq (.o1 .len (.o1 (.fld 6) (.var 0))) (.int 0)))]))
      (.br (.o2 .eq (.o1 (.fld 0) (.var 0)) (.int 9))
       (.loop 0 [(.int 0)]
        (.know (.o1 (.fld 6) (.var 0))
        (.br (.o2 .lt (.var 1) (.o1 .len (.o1 (.fld 6) (.var 0))))
         (.need [] (.o2 .le (.int 0) (.var 1))
         (.need [] (.o2 .lt (.var 1) (.o1 .len (.o1 (.fld 6) (.var 0))))
         (.call [] (.fn 125) [.st [(.int .i64), (.int .i64), (.int .i64), (.int .i64), (.int .i64), (.int .i64), .bool] (.o2 .cons (.o1 (.fld 0) (.o2 .idx (.o1 (.fld 6) (.var 0)) (.var 1))) (.o2 .cons (.o1 (.fld 1) (.o2 .idx (.o1 (.fld 6) (.var 0)) (.var 1))) (.o2 .cons (.o1 (.fld 2) (.o2 .idx (.o1 (.fld 6) (.var 0)) (.var 1))) (.o2 .cons (.o1 (.fld 3) (.o2 .idx (.o1 (.fld 6) (.var 0)) (.var 1))) (.o2 .cons (.o1 (.fld 4) (.o2 .idx (.o1 (.fld 6) (.var 0)) (.var 1))) (.o2 .cons (.o1 (.fld 5) (.o2 .idx (.o1 (.fld 6) (.var 0)) (.var 1))) (.o2 .cons (.o1 (.fld 6) (.o2 .idx (.o1 (.fld 6) (.var 0)) (.var 1))) .nil)))))))] [.sc .bool]
         (.br (.o1 .not (.var 2))
          (.ret [(.bool false)])
          (.cont 0 [(.o2 (.add .i64) (.var 1) (.int 1))])))))
         (.call [((.o2 .band (.o2 .band (.o2 .band (.o2 .band (.o2 .eq (.o1 (.fld 1) (.var 0)) (.int 0)) (.o2 .eq (.o1 (.fld 2) (.var 0)) (.int 0))) (.o2 .eq (.o1 (.fld 3) (.var 0)) (.int (-1)))) (.o2 .eq (.o1 (.fld 4) (.var 0)) (.int 0))) (.o1 .not (.o1 (.fld 5) (.var 0)))), true)] (.fn 73) [.sc (.int .i64) (.o1 .len (.o1 (.fld 6) (.var 0))), .sc (.int .i64) (.int 1), .sc (.int .i64) (.int 3)] [.sc .bool]
         (.ret [(.o2 .band (.o2 .band (.o2 .band (.o2 .band (.o2 .band (.o2 .eq (.o1 (.fld 1) (.var 0)) (.int 0)) (.o2 .eq (.o1 (.fld 2) (.var 0)) (.int 0))) (.o2 .eq (.o1 (.fld 3) (.var 0)) (.int (-1)))) (.o2 .eq (.o1 (.fld 4) (.var 0)) (.int 0))) (.o1 .not (.o1 (.fld 5) (.var 0)))) (.var 2))])))))
       (.ret [(.bool false)])))))))
 (.br (.o2 .eq (.o1 (.fld 0) (.var 0)) (.int 2))
  (.br (.o2 .eq (.o1 (.fld 0) (.var 0)) (.int 2))
   (.call [] (.fn 124) [.st [(.int .i64), (.int .i64), (.int .i64), (.int .i64), (.int .i64), .bool, (.sl [(.int .i64), (.int .i64), (.int .i64), (.int .i64), (.int .i64), (.int .i64), .bool])] (.o2 .cons (.o1 (.fld 0) (.var 0)) (.o2 .cons (.o1 (.fld 1) (.var 0)) (.o2 .cons (.o1 (.fld 2) (.var 0)) (.o2 .cons (.o1 (.fld 3) (.var 0)) (.o2 .cons (.o1 (.fld 4) (.var 0)) (.o2 .cons (.o1 (.fld 5) (.var 0)) (.o2 .cons (.o1 (.fld 6) (.var 0)) .nil)))))))] [.sc .bool]
   (.ret [(.o2 .band (.var 1) (.o2 .eq (.o1 (.fld 1) (.var 0)) (.int 0)))]))
   (.br (.o2 .eq (.o1 (.fld 0) (.var 0)) (.int 3))
    (.call [] (.fn 124) [.st [(.int .i64), (.int .i64), (.int .i64), (.int .i64), (.int .i64), .bool, (.sl [(.int .i64), (.int .i64), (.int .i64), (.int .i64), (.int .i64), (.int .i64), .bool])] (.o2 .cons (.o1 (.fld 0) (.var 0)) (.o2 .cons (.o1 (.fld 1) (.var 0)) (.o2 .cons (.o1 (.fld 2) (.var 0)) (.o2 .cons (.o1 (.fld 3) (.var 0)) (.o2 .cons (.o1 (.fld 4) (.var 0)) (.o2 .cons (.o1 (.fld 5) (.var 0)) (.o2 .cons (.o1 (.fld 6) (.var 0)) .nil)))))))] [.sc .bool]
    (.call [((.var 1), true)] (.fn 73) [.sc (.int .i64) (.o1 (.fld 1) (.var 0)), .sc (.int .i64) (.int 1), .sc (.int .i64) (.int 2147483647)] [.sc .bool]
    (.ret [(.o2 .band (.var 1) (.var 2))])))
    (.br (.o2 .eq (.o1 (.fld 0) (.var 0)) (.int 6))
     (.call [((.o2 .band (.o2 .band (.o2 .band (.o2 .eq (.o1 (.fld 1) (.var 0)) (.int 0)) (.o2 .eq (.o1 (.fld 4) (.var 0)) (.int 0))) (.o1 .not (.o1 (.fld 5) (.var 0)))) (.o2 .eq (.o1 .len (.o1 (.fld 6) (.var 0))) (.int 0))), true)] (.fn 73) [.sc (.int .i64) (.o1 (.fld 2) (.var 0)), .sc (.int .i64) (.int 1), .sc (.int .i64) (.int 99)] [.sc .bool]
     (.call [((.o2 .band (.o2 .band (.o2 .band (.o2 .eq (.o1 (.fld 1) (.var 0)) (.int 0)) (.o2 .eq (.o1 (.fld 4) (.var 0)) (.int 0))) (.o1 .not (.o1 (.fld 5) (.var 0)))) (.o2 .eq (.o1 .len (.o1 (.fld 6) (.var 0))) (.int 0))), true), ((.o2 .band (.var 1) (.o2 .eq (.o1 (.fld 3) (.var 0)) (.int (-1)))), false), ((.o2 .eq (.o1 (.fld 2) (.var 0)) (.int 0)), true)] (.fn 73) [.sc (.int .i64) (.o1 (.fld 3) (.var 0)), .sc (.int .i64) (.int 0), .sc (.int .i64) (.int 2)] [.sc .bool]
     (.ret [(.o2 .band (.o2 .band (.o2 .band (.o2 .band (.o2 .eq (.o1 (.fld 1) (.var 0)) (.int 0)) (.o2 .eq (.o1 (.fld 4) (.var 0)) (.int 0))) (.o1 .not (.o1 (.fld 5) (.var 0)))) (.o2 .eq (.o1 .len (.o1 (.fld 6) (.var 0))) (.int 0))) (.o2 .bor (.o2 .band (.var 1) (.o2 .eq (.o1 (.fld 3) (.var 0)) (.int (-1)))) (.o2 .band (.o2 .eq (.o1 (.fld 2) (.var 0)) (.int 0)) (.var 2))))])))
     (.br (.o2 .eq (.o1 (.fld 0) (.var 0)) (.int 7))
      (.call [((.o2 .band (.o2 .band (.o2 .band (.o2 .band (.o2 .eq (.o1 (.fld 1) (.var 0)) (.int 0)) (.o2 .eq (.o1 (.fld 2) (.var 0)) (.int 0))) (.o2 .eq (.o1 (.fld 3) (.var 0)) (.int (-1)))) (.o1 .not (.o1 (.fld 5) (.var 0)))) (.o2 .eq (.o1 .len (.o1 (.fld 6) (.var 0))) (.int 0))), true)] (.fn 73) [.sc (.int .i64) (.o1 (.fld 4) (.var 0)), .sc (.int .i64) (.int 1), .sc (.int .i64) (.int 4)] [.sc .bool]
      (.ret [(.o2 .band (.o2 .band (.o2 .band (.o2 .band (.o2 .band (.o2 .eq (.o1 (.fld 1) (.var 0)) (.int 0)) (.o2 .eq (.o1 (.fld 2) (.var 0)) (.int 0))) (.o2 .eq (.o1 (.fld 3) (.var 0)) (.int (-1)))) (.o1 .not (.o1 (.fld 5) (.var 0)))) (.o2 .eq (.o1 .len (.o1 (.fld 6) (.var 0))) (.int 0))) (.var 1))]))
      (.br (.o2 .eq (.o1 (.fld 0) (.var 0)) (.int 8))
       (.call [] (.fn 73) [.sc (.int .i64) (.o1 (.fld 1) (.var 0)), .sc (.int .i64) (.int 0), .sc (.int .i64) (.int 99)] [.sc .bool]
       (.ret [(.o2 .band (.o2 .band (.o2 .band (.o2 .band (.var 1) (.o2 .eq (.o1 (.fld 2) (.var 0)) (.int 0))) (.o2 .eq (.o1 (.fld 3) (.var 0)) (.int (-1)))) (.o2 .eq (.o1 (.fld 4) (.var 0)) (.int 0))) (.o2 .eq (.o1 .len (.o1 (.fld 6) (.var 0))) (.int 0)))]))
       (.br (.o2 .eq (.o1 (.fld 0) (.var 0)) (.int 9))
        (.loop 0 [(.int 0)]
         (.know (.o1 (.fld 6) (.var 0))
         (.br (.o2 .lt (.var 1) (.o1 .len (.o1 (.fld 6) (.var 0))))
          (.need [] (.o2 .le (.int 0) (.var 1))
          (.need [] (.o2 .lt (.var 1) (.o1 .len (.o1 (.fld 6) (.var 0))))
          (.call [] (.fn 125) [.st [(.int .i64), (.int .i64), (.int .i64), (.int .i64), (.int .i64), (.int .i64), .bool] (.o2 .cons (.o1 (.fld 0) (.o2 .idx (.o1 (.fld 6) (.var 0)) (.var 1))) (.o2 .cons (.o1 (.fld 1) (.o2 .idx (.o1 (.fld 6) (.var 0)) (.var 1))) (.o2 .cons (.o1 (.fld 2) (.o2 .idx (.o1 (.fld 6) (.var 0)) (.var 1))) (.o2 .cons (.o1 (.fld 3) (.o2 .idx (.o1 (.fld 6) (.var 0)) (.var 1))) (.o2 .cons (.o1 (.fld 4) (.o2 .idx (.o1 (.fld 6) (.var 0)) (.var 1))) (.o2 .cons (.o1 (.fld 5) (.o2 .idx (.o1 (.fld 6) (.var 0)) (.var 1))) (.o2 .cons (.o1 (.fld 6) (.o2 .idx (.o1 (.fld 6) (.var 0)) (.var 1))) .nil)))))))] [.sc .bool]
          (.br (.o1 .not (.var 2))
           (.ret [(.bool false)])
           (.cont 0 [(.o2 (.add .i64) (.var 1) (.int 1))])))))
          (.call [((.o2 .band (.o2 .band (.o2 .band (.o2 .band (.o2 .eq (.o1 (.fld 1) (.var 0)) (.int 0)) (.o2 .eq (.o1 (.fld 2) (.var 0)) (.int 0))) (.o2 .eq (.o1 (.fld 3) (.var 0)) (.int (-1)))) (.o2 .eq (.o1 (.fld 4) (.var 0)) (.int 0))) (.o1 .not (.o1 (.fld 5) (.var 0)))), true)] (.fn 73) [.sc (.int .i64) (.o1 .len (.o1 (.fld 6) (.var 0))), .sc (.int .i64) (.int 1), .sc (.int .i64) (.int 3)] [.sc .bool]
          (.ret [(.o2 .band (.o2 .band (.o2 .band (.o2 .band (.o2 .band (.o2 .eq (.o1 (.fld 1) (.var 0)) (.int 0)) (.o2 .eq (.o1 (.fld 2) (.var 0)) (.int 0))) (.o2 .eq (.o1 (.fld 3) (.var 0)) (.int (-1)))) (.o2 .eq (.o1 (.fld 4) (.var 0)) (.int 0))) (.o1 .not (.o1 (.fld 5) (.var 0)))) (.var 2))])))))
        (.ret [(.bool false)])))))))
  (.br (.o2 .eq (.o1 (.fld 0) (.var 0)) (.int 4))
   (.br (.o2 .eq (.o1 (.fld 0) (.var 0)) (.int 4))
    (.call [] (.fn 124) [.st [(.int .i64), (.int .i64), (.int .i64), (.int .i64), (.int .i64), .bool, (.sl [(.int .i64), (.int .i64), (.int .i64), (.int .i64), (.int .i64), (.int .i64), .bool])] (.o2 .cons (.o1 (.fld 0) (.var 0)) (.o2 .cons (.o1 (.fld 1) (.var 0)) (.o2 .cons (.o1 (.fld 2) (.var 0)) (.o2 .cons (.o1 (.fld 3) (.var 0)) (.o2 .cons (.o1 (.fld 4) (.var 0)) (.o2 .cons (.o1 (.fld 5) (.var 0)) (.o2 .cons (.o1 (.fld 6) (.var 0)) .nil)))))))] [.sc .bool]
    (.ret [(.o2 .band (.var 1) (.o2 .eq (.o1 (.fld 1) (.var 0)) (.int 0)))]))
    (.br (.o2 .eq (.o1 (.fld 0) (.var 0)) (.int 3))
     (.call [] (.fn 124) [.st [(.int .i64), (.int .i64), (.int .i64), (.int .i64), (.int .i64), .bool, (.sl [(.int .i64), (.int .i64), (.int .i64), (.int .i64), (.int .i64), (.int .i64), .bool])] (.o2 .cons (.o1 (.fld 0) (.var 0)) (.o2 .cons (.o1 (.fld 1) (.var 0)) (.o2 .cons (.o1 (.fld 2) (.var 0)) (.o2 .cons (.o1 (.fld 3) (.var 0)) (.o2 .cons (.o1 (.fld 4) (.var 0)) (.o2 .cons (.o1 (.fld 5) (.var 0)) (.o2 .cons (.o1 (.fld 6) (.var 0)) .nil)))))))] [.sc .bool]
     (.call [((.var 1), true)] (.fn 73) [.sc (.int .i64) (.o1 (.fld 1) (.var 0)), .sc (.int .i64) (.int 1), .sc (.int .i64) (.int 2147483647)] [.sc .bool]
     (.ret [(.o2 .band (.var 1) (.var 2))])))
     (.br (.o2 .eq (.o1 (.fld 0) (.var 0)) (.int 6))
      (.call [((.o2 .band (.o2 .band (.o2 .band (.o2 .eq (.o1 (.fld 1) (.var 0)) (.int 0)) (.o2 .eq (.o1 (.fld 4) (.var 0)) (.int 0))) (.o1 .not (.o1 (.fld 5) (.var 0)))) (.o2 .eq (.o1 .len (.o1 (.fld 6) (.var 0))) (.int 0))), true)] (.fn 73) [.sc (.int .i64) (.o1 (.fld 2) (.var 0)), .sc (.int .i64) (.int 1), .sc (.int .i64) (.int 99)] [.sc .bool]
      (.call [((.o2 .band (.o2 .band (.o2 .band (.o2 .eq (.o1 (.fld 1) (.var 0)) (.int 0)) (.o2 .eq (.o1 (.fld 4) (.var 0)) (.int 0))) (.o1 .not (.o1 (.fld 5) (.var 0)))) (.o2 .eq (.o1 .len (.o1 (.fld 6) (.var 0))) (.int 0))), true), ((.o2 .band (.var 1) (.o2 .eq (.o1 (.fld 3) (.var 0)) (.int (-1)))), false), ((.o2 .eq (.o1 (.fld 2) (.var 0)) (.int 0)), true)] (.fn 73) [.sc (.int .i64) (.o1 (.fld 3) (.var 0)), .sc (.int .i64) (.int 0), .sc (.int .i64) (.int 2)] [.sc .bool]
      (.ret [(.o2 .band (.o2 .band (.o2 .band (.o2 .band (.o2 .eq (.o1 (.fld 1) (.var 0)) (.int 0)) (.o2 .eq (.o1 (.fld 4) (.var 0)) (.int 0))) (.o1 .not (.o1 (.fld 5) (.var 0)))) (.o2 .eq (.o1 .len (.o1 (.fld 6) (.var 0))) (.int 0))) (.o2 .bor (.o2 .band (.var 1) (.o2 .eq (.o1 (.fld 3) (.var 0)) (.int (-1)))) (.o2 .band (.o2 .eq (.o1 (.fld 2) (.var 0)) (.int 0)) (.var 2))))])))
      (.br (.o2 .eq (.o1 (.fld 0) (.var 0)) (.int 7))
       (.call [((.o2 .band (.o2 .band (.o2 .band (.o2 .band (.o2 .eq (.o1 (.fld 1) (.var 0)) (.int 0)) (.o2 .eq (.o1 (.fld 2) (.var 0)) (.int 0))) (.o2 .eq (.o1 (.fld 3) (.var 0)) (.int (-1)))) (.o1 .not (.o1 (.fld 5) (.var 0)))) (.o2 .eq (.o1 .len (.o1 (.fld 6) (.var 0))) (.int 0))), true)] (.fn 73) [.sc (.int .i64) (.o1 (.fld 4) (.var 0)), .sc (.int .i64) (.int 1), .sc (.int .i64) (.int 4)] [.sc .bool]
       (.ret [(.o2 .band (.o2 .band (.o2 .band (.o2 .band (.o2 .band (.o2 .eq (.o1 (.fld 1) (.var 0)) (.int 0)) (.o2 .eq (.o1 (.fld 2) (.var 0)) (.int 0))) (.o2 .eq (.o1 (.fld 3) (.var 0)) (.int (-1)))) (.o1 .not (.o1 (.fld 5) (.var 0)))) (.o2 .eq (.o1 .len (.o1 (.fld 6) (.var 0))) (.int 0))) (.var 1))]))
       (.br (.o2 .eq (.o1 (.fld 0) (.var 0)) (.int 8))
        (.call [] (.fn 73) [.sc (.int .i64) (.o1 (.fld 1) (.var 0)), .sc (.int .i64) (.int 0), .sc (.int .i64) (.int 99)] [.sc .bool]
        (.ret [(.o2 .band (.o2 .band (.o2 .band (.o2 .band (.var 1) (.o2 .eq (.o1 (.fld 2) (.var 0)) (.int 0))) (.o2 .eq (.o1 (.fld 3) (.var 0)) (.int (-1)))) (.o2 .eq (.o1 (.fld 4) (.var 0)) (.int 0))) (.o2 .eq (.o1 .len (.o1 (.fld 6) (.var 0))) (.int 0)))]))
        (.br (.o2 .eq (.o1 (.fld 0) (.var 0)) (.int 9))
         (.loop 0 [(.int 0)]
          (.know (.o1 (.fld 6) (.var 0))
          (.br (.o2 .lt (.var 1) (.o1 .len (.o1 (.fld 6) (.var 0))))
           (.need [] (.o2 .le (.int 0) (.var 1))
           (.need [] (.o2 .lt (.var 1) (.o1 .len (.o1 (.fld 6) (.var 0))))
           (.call [] (.fn 125) [.st [(.int .i64), (.int .i64), (.int .i64), (.int .i64), (.int .i64), (.int .i64), .bool] (.o2 .cons (.o1 (.fld 0) (.o2 .idx (.o1 (.fld 6) (.var 0)) (.var 1))) (.o2 .cons (.o1 (.fld 1) (.o2 .idx (.o1 (.fld 6) (.var 0)) (.var 1))) (.o2 .cons (.o1 (.fld 2) (.o2 .idx (.o1 (.fld 6) (.var 0)) (.var 1))) (.o2 .cons (.o1 (.fld 3) (.o2 .idx (.o1 (.fld 6) (.var 0)) (.var 1))) (.o2 .cons (.o1 (.fld 4) (.o2 .idx (.o1 (.fld 6) (.var 0)) (.var 1))) (.o2 .cons (.o1 (.fld 5) (.o2 .idx (.o1 (.fld 6) (.var 0)) (.var 1))) (.o2 .cons (.o1 (.fld 6) (.o2 .idx (.o1 (.fld 6) (.var 0)) (.var 1))) .nil)))))))] [.sc .bool]
           (.br (.o1 .not (.var 2))
            (.ret [(.bool false)])
            (.cont 0 [(.o2 (.add .i64) (.var 1) (.int 1))])))))
           (.call [((.o2 .band (.o2 .band (.o2 .band (.o2 .band (.o2 .eq (.o1 (.fld 1) (.var 0)) (.int 0)) (.o2 .eq (.o1 (.fld 2) (.var 0)) (.int 0))) (.o2 .eq (.o1 (.fld 3) (.var 0)) (.int (-1)))) (.o2 .eq (.o1 (.fld 4) (.var 0)) (.int 0))) (.o1 .not (.o1 (.fld 5) (.var 0)))), true)] (.fn 73) [.sc (.int .i64) (.o1 .len (.o1 (.fld 6) (.var 0))), .sc (.int .i64) (.int 1), .sc (.int .i64) (.int 3)] [.sc .bool]
           (.ret [(.o2 .band (.o2 .band (.o2 .band (.o2 .band (.o2 .band (.o2 .eq (.o1 (.fld 1) (.var 0)) (.int 0)) (.o2 .eq (.o1 (.fld 2) (.var 0)) (.int 0))) (.o2 .eq (.o1 (.fld 3) (.var 0)) (.int (-1)))) (.o2 .eq (.o1 (.fld 4) (.var 0)) (.int 0))) (.o1 .not (.o1 (.fld 5) (.var 0)))) (.var 2))])))))
         (.ret [(.bool false)])))))))
   (.br (.o2 .eq (.o1 (.fld 0) (.var 0)) (.int 5))
    (.call [] (.fn 124) [.st [(.int .i64), (.int .i64), (.int .i64), (.int .i64), (.int .i64), .bool, (.sl [(.int .i64), (.int .i64), (.int .i64), (.int .i64), (.int .i64), (.int .i64), .bool])] (.o2 .cons (.o1 (.fld 0) (.var 0)) (.o2 .cons (.o1 (.fld 1) (.var 0)) (.o2 .cons (.o1 (.fld 2) (.var 0)) (.o2 .cons (.o1 (.fld 3) (.var 0)) (.o2 .cons (.o1 (.fld 4) (.var 0)) (.o2 .cons (.o1 (.fld 5) (.var 0)) (.o2 .cons (.o1 (.fld 6) (.var 0)) .nil)))))))] [.sc .bool]
    (.ret [(.o2 .band (.var 1) (.o2 .eq (.o1 (.fld 1) (.var 0)) (.int 0)))]))
    (.br (.o2 .eq (.o1 (.fld 0) (.var 0)) (.int 3))
     (.call [] (.fn 124) [.st [(.int .i64), (.int .i64), (.int .i64), (.int .i64), (.int .i64), .bool, (.sl [(.int .i64), (.int .i64), (.int .i64), (.int .i64), (.int .i64), (.int .i64), .bool])] (.o2 .cons (.o1 (.fld 0) (.var 0)) (.o2 .cons (.o1 (.fld 1) (.var 0)) (.o2 .cons (.o1 (.fld 2) (.var 0)) (.o2 .cons (.o1 (.fld 3) (.var 0)) (.o2 .cons (.o1 (.fld 4) (.var 0)) (.o2 .cons (.o1 (.fld 5) (.var 0)) (.o2 .cons (.o1 (.fld 6) (.var 0)) .nil)))))))] [.sc .bool]
     (.call [((.var 1), true)] (.fn 73) [.sc (.int .i64) (.o1 (.fld 1) (.var 0)), .sc (.int .i64) (.int 1), .sc (.int .i64) (.int 2147483647)] [.sc .bool]
     (.ret [(.o2 .band (.var 1) (.var 2))])))
     (.br (.o2 .eq (.o1 (.fld 0) (.var 0)) (.int 6))
      (.call [((.o2 .band (.o2 .band (.o2 .band (.o2 .eq (.o1 (.fld 1) (.var 0)) (.int 0)) (.o2 .eq (.o1 (.fld 4) (.var 0)) (.int 0))) (.o1 .not (.o1 (.fld 5) (.var 0)))) (.o2 .eq (.o1 .len (.o1 (.fld 6) (.var 0))) (.int 0))), true)] (.fn 73) [.sc (.int .i64) (.o1 (.fld 2) (.var 0)), .sc (.int .i64) (.int 1), .sc (.int .i64) (.int 99)] [.sc .bool]
      (.call [((.o2 .band (.o2 .band (.o2 .band (.o2 .eq (.o1 (.fld 1) (.var 0)) (.int 0)) (.o2 .eq (.o1 (.fld 4) (.var 0)) (.int 0))) (.o1 .not (.o1 (.fld 5) (.var 0)))) (.o2 .eq (.o1 .len (.o1 (.fld 6) (.var 0))) (.int 0))), true), ((.o2 .band (.var 1) (.o2 .eq (.o1 (.fld 3) (.var 0)) (.int (-1)))), false), ((.o2 .eq (.o1 (.fld 2) (.var 0)) (.int 0)), true)] (.fn 73) [.sc (.int .i64) (.o1 (.fld 3) (.var 0)), .sc (.int .i64) (.int 0), .sc (.int .i64) (.int 2)] [.sc .bool]
      (.ret [(.o2 .band (.o2 .band (.o2 .band (.o2 .band (.o2 .eq (.o1 (.fld 1) (.var 0)) (.int 0)) (.o2 .eq (.o1 (.fld 4) (.var 0)) (.int 0))) (.o1 .not (.o1 (.fld 5) (.var 0)))) (.o2 .eq (.o1 .len (.o1 (.fld 6) (.var 0))) (.int 0))) (.o2 .bor (.o2 .band (.var 1) (.o2 .eq (.o1 (.fld 3) (.var 0)) (.int (-1)))) (.o2 .band (.o2 .eq (.o1 (.fld 2) (.var 0)) (.int 0)) (.var 2))))])))
      (.br (.o2 .eq (.o1 (.fld 0) (.var 0)) (.int 7))
       (.call [((.o2 .band (.o2 .band (.o2 .band (.o2 .band (.o2 .eq (.o1 (.fld 1) (.var 0)) (.int 0)) (.o2 .eq (.o1 (.fld 2) (.var 0)) (.int 0))) (.o2 .eq (.o1 (.fld 3) (.var 0)) (.int (-1)))) (.o1 .not (.o1 (.fld 5) (.var 0)))) (.o2 .eq (.o1 .len (.o1 (.fld 6) (.var 0))) (.int 0))), true)] (.fn 73) [.sc (.int .i64) (.o1 (.fld 4) (.var 0)), .sc (.int .i64) (.int 1), .sc (.int .i64) (.int 4)] [.sc .bool]
       (.ret [(.o2 .band (.o2 .band (.o2 .band (.o2 .band (.o2 .band (.o2 .eq (.o1 (.fld 1) (.var 0)) (.int 0)) (.o2 .eq (.o1 (.fld 2) (.var 0)) (.int 0))) (.o2 .eq (.o1 (.fld 3) (.var 0)) (.int (-1)))) (.o1 .not (.o1 (.fld 5) (.var 0)))) (.o2 .eq (.o1 .len (.o1 (.fld 6) (.var 0))) (.int 0))) (.var 1))]))
       (.br (.o2 .eq (.o1 (.fld 0) (.var 0)) (.int 8))
        (.call [] (.fn 73) [.sc (.int .i64) (.o1 (.fld 1) (.var 0)), .sc (.int .i64) (.int 0), .sc (.int .i64) (.int 99)] [.sc .bool]
        (.ret [(.o2 .band (.o2 .band (.o2 .band (.o2 .band (.var 1) (.o2 .eq (.o1 (.fld 2) (.var 0)) (.int 0))) (.o2 .eq (.o1 (.fld 3) (.var 0)) (.int (-1)))) (.o2 .eq (.o1 (.fld 4) (.var 0)) (.int 0))) (.o2 .eq (.o1 .len (.o1 (.fld 6) (.var 0))) (.int 0)))]))
        (.br (.o2 .eq (.o1 (.fld 0) (.var 0)) (.int 9))
         (.loop 0 [(.int 0)]
          (.know (.o1 (.fld 6) (.var 0))
          (.br (.o2 .lt (.var 1) (.o1 .len (.o1 (.fld 6) (.var 0))))
           (.need [] (.o2 .le (.int 0) (.var 1))
           (.need [] (.o2 .lt (.var 1) (.o1 .len (.o1 (.fld 6) (.var 0))))
           (.call [] (.fn 125) [.st [(.int .i64), (.int .i64), (.int .i64), (.int .i64), (.int .i64), (.int .i64), .bool] (.o2 .cons (.o1 (.fld 0) (.o2 .idx (.o1 (.fld 6) (.var 0)) (.var 1))) (.o2 .cons (.o1 (.fld 1) (.o2 .idx (.o1 (.fld 6) (.var 0)) (.var 1))) (.o2 .cons (.o1 (.fld 2) (.o2 .idx (.o1 (.fld 6) (.var 0)) (.var 1))) (.o2 .cons (.o1 (.fld 3) (.o2 .idx (.o1 (.fld 6) (.var 0)) (.var 1))) (.o2 .cons (.o1 (.fld 4) (.o2 .idx (.o1 (.fld 6) (.var 0)) (.var 1))) (.o2 .cons (.o1 (.fld 5) (.o2 .idx (.o1 (.fld 6) (.var 0)) (.var 1))) (.o2 .cons (.o1 (.fld 6) (.o2 .idx (.o1 (.fld 6) (.var 0)) (.var 1))) .nil)))))))] [.sc .bool]
           (.br (.o1 .not (.var 2))
            (.ret [(.bool false)])
            (.cont 0 [(.o2 (.add .i64) (.var 1) (.int 1))])))))
           (.call [((.o2 .band (.o2 .band (.o2 .band (.o2 .band (.o2 .eq (.o1 (.fld 1) (.var 0)) (.int 0)) (.o2 .eq (.o1 (.fld 2) (.var 0)) (.int 0))) (.o2 .eq (.o1 (.fld 3) (.var 0)) (.int (-1)))) (.o2 .eq (.o1 (.fld 4) (.var 0)) (.int 0))) (.o1 .not (.o1 (.fld 5) (.var 0)))), true)] (.fn 73) [.sc (.int .i64) (.o1 .len (.o1 (.fld 6) (.var 0))), .sc (.int .i64) (.int 1), .sc (.int .i64) (.int 3)] [.sc .bool]
           (.ret [(.o2 .band (.o2 .band (.o2 .band (.o2 .band (.o2 .band (.o2 .eq (.o1 (.fld 1) (.var 0)) (.int 0)) (.o2 .eq (.o1 (.fld 2) (.var 0)) (.int 0))) (.o2 .eq (.o1 (.fld 3) (.var 0)) (.int (-1)))) (.o2 .eq (.o1 (.fld 4) (.var 0)) (.int 0))) (.o1 .not (.o1 (.fld 5) (.var 0)))) (.var 2))])))))
         (.ret [(.bool false)]))))))))))
theorem sig_76 : sigOf Try.prog md 76 [] = some ([.st [(.int .i64), (.int .i64), (.int .i64), (.int .i64), (.int .i64), .bool, (.sl [(.int .i64), (.int .i64), (.int .i64), (.int .i64), (.int .i64), (.int .i64), .bool])]], [.sc .bool], tree_76) := by kernel_rfl
/- spec.ActFits -/
def tree_77 : T :=
(.call [] (.fn 73) [.sc (.int .i64) (.var 1), .sc (.int .i64) (.int 1), .sc (.int .i64) (.int 6)] [.sc .bool]
(.br (.o1 .not (.var 2))
 (.ret [(.bool false)])
 (.br (.o2 .eq (.o1 (.fld 0) (.var 0)) (.int 2))
  (.br (.o2 .eq (.o1 (.fld 0) (.var 0)) (.int 2))
   (.ret [(.o2 .eq (.var 1) (.int 1))])
   (.br (.o2 .eq (.o1 (.fld 0) (.var 0)) (.int 3))
    (.br (.o2 .eq (.o1 (.fld 0) (.var 0)) (.int 3))
     (.ret [(.o2 .ne (.var 1) (.int 2))])
     (.br (.o2 .eq (.o1 (.fld 0) (.var 0)) (.int 7))
      (.br (.o2 .eq (.o1 (.fld 0) (.var 0)) (.int 7))
       (.ret [(.o2 .eq (.var 1) (.int 2))])
       (.ret [(.o2 .bor (.o2 .eq (.o1 (.fld 0) (.var 0)) (.int 1)) (.o2 .eq (.o1 (.fld 0) (.var 0)) (.int 9)))]))
      (.br (.o2 .eq (.o1 (.fld 0) (.var 0)) (.int 8))
       (.ret [(.o2 .eq (.var 1) (.int 2))])
       (.ret [(.o2 .bor (.o2 .eq (.o1 (.fld 0) (.var 0)) (.int 1)) (.o2 .eq (.o1 (.fld 0) (.var 0)) (.int 9)))]))))
    (.br (.o2 .eq (.o1 (.fld 0) (.var 0)) (.int 4))
     (.br (.o2 .eq (.o1 (.fld 0) (.var 0)) (.int 4))
      (.ret [(.o2 .ne (.var 1) (.int 2))])
      (.br (.o2 .eq (.o1 (.fld 0) (.var 0)) (.int 7))
       (.br (.o2 .eq (.o1 (.fld 0) (.var 0)) (.int 7))
        (.ret [(.o2 .eq (.var 1) (.int 2))])
        (.ret [(.o2 .bor (.o2 .eq (.o1 (.fld 0) (.var 0)) (.int 1)) (.o2 .eq (.o1 (.fld 0) (.var 0)) (.int 9)))]))
       (.br (.o2 .eq (.o1 (.fld 0) (.var 0)) (.int 8))
        (.ret [(.o2 .eq (.var 1) (.int 2))])
        (.ret [(.o2 .bor (.o2 .eq (.o1 (.fld 0) (.var 0)) (.int 1)) (.o2 .eq (.o1 (.fld 0) (.var 0)) (.int 9)))]))))
     (.br (.o2 .eq (.o1 (.fld 0) (.var 0)) (.int 5))
      (.ret [(.o2 .ne (.var 1) (.int 2))])
      (.br (.o2 .eq (.o1 (.fld 0) (.var 0)) (.int 7))
       (.br (.o2 .eq (.o1 (.fld 0) (.var 0)) (.int 7))
        (.ret [(.o2 .eq (.var 1) (.int 2))])
        (.ret [(.o2 .bor (.o2 .eq (.o1 (.fld 0) (.var 0)) (.int 1)) (.o2 .eq (.o1 (.fld 0) (.var 0)) (.int 9)))]))
       (.br (.o2 .eq (.o1 (.fld 0) (.var 0)) (.int 8))
        (.ret [(.o2 .eq (.var 1) (.int 2))])
        (.ret [(.o2 .bor (.o2 .eq (.o1 (.fld 0) (.var 0)) (.int 1)) (.o2 .eq (.o1 (.fld 0) (.var 0)) (.int 9)))])))))))
  (.br (.o2 .eq (.o1 (.fld 0) (.var 0)) (.int 6))
   (.ret [(.o2 .eq (.var 1) (.int 1))])
   (.br (.o2 .eq (.o1 (.fld 0) (.var 0)) (.int 3))
    (.br (.o2 .eq (.o1 (.fld 0) (.var 0)) (.int 3))
     (.ret [(.o2 .ne (.var 1) (.int 2))])
     (.br (.o2 .eq (.o1 (.fld 0) (.var 0)) (.int 7))
      (.br (.o2 .eq (.o1 (.fld 0) (.var 0)) (.int 7))
       (.ret [(.o2 .eq (.var 1) (.int 2))])
       (.ret [(.o2 .bor (.o2 .eq (.o1 (.fld 0) (.var 0)) (.int 1)) (.o2 .eq (.o1 (.fld 0) (.var 0)) (.int 9)))]))
      (.br (.o2 .eq (.o1 (.fld 0) (.var 0)) (.int 8))
       (.ret [(.o2 .eq (.var 1) (.int 2))])
       (.ret [(.o2 .bor (.o2 .eq (.o1 (.fld 0) (.var 0)) (.int 1)) (.o2 .eq (.o1 (.fld 0) (.var 0)) (.int 9)))]))))
    (.br (.o2 .eq (.o1 (.fld 0) (.var 0)) (.int 4))
     (.br (.o2 .eq (.o1 (.fld 0) (.var 0)) (.int 4))
      (.ret [(.o2 .ne (.var 1) (.int 2))])
      (.br (.o2 .eq (.o1 (.fld 0) (.var 0)) (.int 7))
       (.br (.o2 .eq (.o1 (.fld 0) (.var 0)) (.int 7))
        (.ret [(.o2 .eq (.var 1) (.int 2))])
        (.ret [(.o2 .bor (.o2 .eq (.o1 (.fld 0) (.var 0)) (.int 1)) (.o2 .eq (.o1 (.fld 0) (.var 0)) (.int 9)))]))
       (.br (.o2 .eq (.o1 (.fld 0) (.var 0)) (.int 8))
        (.ret [(.o2 .eq (.var 1) (.int 2))])
        (.ret [(.o2 .bor (.o2 .eq (.o1 (.fld 0) (.var 0)) (.int 1)) (.o2 .eq (.o1 (.fld 0) (.var 0)) (.int 9)))]))))
     (.br (.o2 .eq (.o1 (.fld 0) (.var 0)) (.int 5))
      (.ret [(.o2 .ne (.var 1) (.int 2))])
      (.br (.o2 .eq (.o1 (.fld 0) (.var 0)) (.int 7))
       (.br (.o2 .eq (.o1 (.fld 0) (.var 0)) (.int 7))
        (.ret [(.o2 .eq (.var 1) (.int 2))])
        (.ret [(.o2 .bor (.o2 .eq (.o1 (.fld 0) (.var 0)) (.int 1)) (.o2 .eq (.o1 (.fld 0) (.var 0)) (.int 9)))]))
       (.br (.o2 .eq (.o1 (.fld 0) (.var 0)) (.int 8))
        (.ret [(.o2 .eq (.var 1) (.int 2))])
        (.ret [(.o2 .bor (.o2 .eq (.o1 (.fld 0) (.var 0)) (.int 1)) (.o2 .eq (.o1 (.fld 0) (.var 0)) (.int 9)))]))))))))))
theorem sig_77 : sigOf Try.prog md 77 [] = some ([.st [(.int .i64), (.int .i64), (.int .i64), (.int .i64), (.int .i64), .bool, (.sl [(.int .i64), (.int .i64), (.int .i64), (.int .i64), (.int .i64), (.int .i64), .bool])], .sc (.int .i64)], [.sc .bool], tree_77) := by kernel_rfl
/- spec.EffectOk -/
def tree_28 : T :=
(.call [] (.fn 73) [.sc (.int .i64) (.o1 (.fld 0) (.var 0)), .sc (.int .i64) (.int 1), .sc (.int .i64) (.int 99)] [.sc .bool]
(.call [((.o1 .not (.var 1)), false)] (.fn 73) [.sc (.int .i64) (.o1 (.fld 1) (.var 0)), .sc (.int .i64) (.int 0), .sc (.int .i64) (.int 2)] [.sc .bool]
(.call [((.o2 .bor (.o1 .not (.var 1)) (.o1 .not (.var 2))), false)] (.fn 73) [.sc (.int .i64) (.o1 (.fld 2) (.var 0)), .sc (.int .i64) (.int 0), .sc (.int .i64) (.int 99)] [.sc .bool]
(.call [((.o2 .bor (.o2 .bor (.o1 .not (.var 1)) (.o1 .not (.var 2))) (.o1 .not (.var 3))), false)] (.fn 73) [.sc (.int .i64) (.o1 (.fld 3) (.var 0)), .sc (.int .i64) (.int 0), .sc (.int .i64) (.int 4)] [.sc .bool]
(.call [((.o2 .bor (.o2 .bor (.o2 .bor (.o1 .not (.var 1)) (.o1 .not (.var 2))) (.o1 .not (.var 3))) (.o1 .not (.var 4))), false)] (.fn 73) [.sc (.int .i64) (.o1 (.fld 20) (.var 0)), .sc (.int .i64) (.int (-1)), .sc (.int .i64) (.int 9999)] [.sc .bool]
(.call [((.o2 .bor (.o2 .bor (.o2 .bor (.o2 .bor (.o1 .not (.var 1)) (.o1 .not (.var 2))) (.o1 .not (.var 3))) (.o1 .not (.var 4))) (.o1 .not (.var 5))), false)] (.fn 73) [.sc (.int .i64) (.o1 (.fld 21) (.var 0)), .sc (.int .i64) (.int (-1)), .sc (.int .i64) (.int 2147483647)] [.sc .bool]
(.br (.o2 .bor (.o2 .bor (.o2 .bor (.o2 .bor (.o2 .bor (.o1 .not (.var 1)) (.o1 .not (.var 2))) (.o1 .not (.var 3))) (.o1 .not (.var 4))) (.o1 .not (.var 5))) (.o1 .not (.var 6)))
 (.ret [(.bool false)])
 (.br (.o2 .bor (.o2 .band (.o2 .eq (.o1 (.fld 3) (.var 0)) (.int 0)) (.o2 .eq (.o1 (.fld 2) (.var 0)) (.int 0))) (.o2 .band (.o2 .eq (.o1 (.fld 13) (.var 0)) (.int 2)) (.o2 .lt (.o1 (.fld 21) (.var 0)) (.int 0))))
  (.ret [(.bool false)])
  (.call [] (.fn 74) [.st [(.int .i64), (.int .i64), (.int .i64), (.int .i64), (.int .i64), (.int .i64), (.int .i64)] (.o2 .cons (.o1 (.fld 4) (.var 0)) (.o2 .cons (.o1 (.fld 5) (.var 0)) (.o2 .cons (.o1 (.fld 6) (.var 0)) (.o2 .cons (.o1 (.fld 7) (.var 0)) (.o2 .cons (.o1 (.fld 8) (.var 0)) (.o2 .cons (.o1 (.fld 9) (.var 0)) (.o2 .cons (.o1 (.fld 10) (.var 0)) .nil)))))))] [.sc .bool]
  (.call [((.var 7), true)] (.fn 75) [.st [(.int .i64), (.int .i64)] (.o2 .cons (.o1 (.fld 11) (.var 0)) (.o2 .cons (.o1 (.fld 12) (.var 0)) .nil))] [.sc .bool]
  (.call [((.o2 .band (.var 7) (.var 8)), true)] (.fn 76) [.st [(.int .i64), (.int .i64), (.int .i64), (.int .i64), (.int .i64), .bool, (.sl [(.int .i64), (.int .i64), (.int .i64), (.int .i64), (.int .i64), (.int .i64), .bool])] (.o2 .cons (.o1 (.fld 13) (.var 0)) (.o2 .cons (.o1 (.fld 14) (.var 0)) (.o2 .cons (.o1 (.fld 15) (.var 0)) (.o2 .cons (.o1 (.fld 16) (.var 0)) (.o2 .cons (.o1 (.fld 17) (.var 0)) (.o2 .cons (.o1 (.fld 18) (.var 0)) (.o2 .cons (.o1 (.fld 19) (.var 0)) .nil)))))))] [.sc .bool]
  (.call [((.o2 .band (.o2 .band (.var 7) (.var 8)) (.var 9)), true)] (.fn 77) [.st [(.int .i64), (.int .i64), (.int .i64), (.int .i64), (.int .i64), .bool, (.sl [(.int .i64), (.int .i64), (.int .i64), (.int .i64), (.int .i64), (.int .i64), .bool])] (.o2 .cons (.o1 (.fld 13) (.var 0)) (.o2 .cons (.o1 (.fld 14) (.var 0)) (.o2 .cons (.o1 (.fld 15) (.var 0)) (.o2 .cons (.o1 (.fld 16) (.var 0)) (.o2 .cons (.o1 (.fld 17) (.var 0)) (.o2 .cons (.o1 (.fld 18) (.var 0)) (.o2 .cons (.o1 (.fld 19) (.var 0)) .nil))))))), .sc (.int .i64) (.o1 (.fld 4) (.var 0))] [.sc .bool]
  (.ret [(.o2 .band (.o2 .band (.o2 .band (.var 7) (.var 8)) (.var 9)) (.var 10))])))))))))))))
theorem sig_28 : sigOf Try.prog md 28 [] = some ([.st [(.int .i64), (.int .i64), (.int .i64), (.int .i64), (.int .i64), (.int .i64), (.int .i64), (.int .i64), (.int .i64), (.int .i64), (.int .i64), (.int .i64), (.int .i64), (.int .i64), (.int .i64), (.int .i64), (.int .i64), (.int .i64), .bool, (.sl [(.int .i64), (.int .i64), (.int .i64), (.int .i64), (.int .i64), (.int .i64), .bool]), (.int .i64), (.int .i64)]], [.sc .bool], tree_28) := by kernel_rfl
/- spec.Lives -/
def tree_85 : T :=
(.ret [(.o2 .band (.o2 .ne (.o1 (.fld 21) (.var 0)) (.int 0)) (.o2 .bor (.o2 .eq (.o1 (.fld 20) (.var 0)) (.int (-1))) (.o2 .ge (.o1 (.fld 20) (.var 0)) (.var 1))))])
theorem sig_85 : sigOf Try.prog md 85 [] = some ([.st [(.int .i64), (.int .i64), (.int .i64), (.int .i64), (.int .i64), (.int .i64), (.int .i64), (.int .i64), (.int .i64), (.int .i64), (.int .i64), (.int .i64), (.int .i64), (.int .i64), (.int .i64), (.int .i64), (.int .i64), (.int .i64), .bool, (.sl [(.int .i64), (.int .i64), (.int .i64), (.int .i64), (.int .i64), (.int .i64), .bool]), (.int .i64), (.int .i64)], .sc (.int .i64)], [.sc .bool], tree_85) := by kernel_rfl
/- spec.Near -/
def tree_105 : T :=
(.ret [(.o2 .bor (.o2 .bor (.o2 .ne (.o1 (.fld 3) (.var 0)) (.int 0)) (.o2 .eq (.o1 (.fld 2) (.var 0)) (.o1 (.fld 1) (.var 1)))) (.o2 .eq (.o1 (.fld 2) (.var 0)) (.o1 (.fld 2) (.var 1))))])
theorem sig_105 : sigOf Try.prog md 105 [] = some ([.st [(.int .i64), (.int .i64), (.int .i64), (.int .i64), (.int .i64), (.int .i64), (.int .i64), (.int .i64), (.int .i64), (.int .i64), (.int .i64), (.int .i64), (.int .i64), (.int .i64), (.int .i64), (.int .i64), (.int .i64), (.int .i64), .bool, (.sl [(.int .i64), (.int .i64), (.int .i64), (.int .i64), (.int .i64), (.int .i64), .bool]), (.int .i64), (.int .i64)], .st [(.int .i64), (.int .i64), (.int .i64), (.int .i64), (.int .i64), (.int .i64), .bool]], [.sc .bool], tree_105) := by kernel_rfl
/- spec.l8Many -/
def tree_140 : T :=
(.loop 0 [(.int 0), (.int 0)]
 (.know (.o1 (.fld 0) (.var 0))
 (.br (.o2 .lt (.var 3) (.o1 .len (.o1 (.fld 0) (.var 0))))
  (.need [] (.o2 .le (.int 0) (.var 3))
  (.need [] (.o2 .lt (.var 3) (.o1 .len (.o1 (.fld 0) (.var 0))))
  (.need [((.o2 .eq (.o1 (.fld 3) (.o2 .idx (.o1 (.fld 0) (.var 0)) (.var 3))) (.int 2)), true)] (.o2 .le (.int 0) (.var 3))
  (.need [((.o2 .eq (.o1 (.fld 3) (.o2 .idx (.o1 (.fld 0) (.var 0)) (.var 3))) (.int 2)), true)] (.o2 .lt (.var 3) (.o1 .len (.o1 (.fld 0) (.var 0))))
  (.br (.o2 .band (.o2 .eq (.o1 (.fld 3) (.o2 .idx (.o1 (.fld 0) (.var 0)) (.var 3))) (.int 2)) (.o2 .eq (.o1 (.fld 2) (.o2 .idx (.o1 (.fld 0) (.var 0)) (.var 3))) (.var 1)))
   (.cont 0 [(.o2 (.add .i64) (.var 2) (.int 1)), (.o2 (.add .i64) (.var 3) (.int 1))])
   (.cont 0 [(.var 2), (.o2 (.add .i64) (.var 3) (.int 1))]))))))
  (.ret [(.var 2)]))))
theorem sig_140 : sigOf Try.prog md 140 [] = some ([.st [(.sl [(.int .i64), (.int .i64), (.int .i64), (.int .i64), (.int .i64), (.int .i64), (.int .i64), (.int .i64), (.int .i64), (.int .i64), (.int .i64), .bool, .bool]), (.sl [(.int .i64), (.int .i64), .bool]), (.int .i64), (.int .i64)], .sc (.int .i64)], [.sc (.int .i64)], tree_140) := by kernel_rfl
/- spec.BentOf -/
def tree_141 : T :=
(.loop 0 [(.int 0), (.int 0)]
 (.know (.o1 (.fld 0) (.var 0))
 (.br (.o2 .lt (.var 3) (.o1 .len (.o1 (.fld 0) (.var 0))))
  (.need [] (.o2 .le (.int 0) (.var 3))
  (.need [] (.o2 .lt (.var 3) (.o1 .len (.o1 (.fld 0) (.var 0))))
  (.need [((.o2 .eq (.o1 (.fld 3) (.o2 .idx (.o1 (.fld 0) (.var 0)) (.var 3))) (.int 2)), true)] (.o2 .le (.int 0) (.var 3))
  (.need [((.o2 .eq (.o1 (.fld 3) (.o2 .idx (.o1 (.fld 0) (.var 0)) (.var 3))) (.int 2)), true)] (.o2 .lt (.var 3) (.o1 .len (.o1 (.fld 0) (.var 0))))
  (.need [((.o2 .band (.o2 .eq (.o1 (.fld 3) (.o2 .idx (.o1 (.fld 0) (.var 0)) (.var 3))) (.int 2)) (.o2 .eq (.o1 (.fld 2) (.o2 .idx (.o1 (.fld 0) (.var 0)) (.var 3))) (.var 1))), true)] (.o2 .le (.int 0) (.var 3))
  (.need [((.o2 .band (.o2 .eq (.o1 (.fld 3) (.o2 .idx (.o1 (.fld 0) (.var 0)) (.var 3))) (.int 2)) (.o2 .eq (.o1 (.fld 2) (.o2 .idx (.o1 (.fld 0) (.var 0)) (.var 3))) (.var 1))), true)] (.o2 .lt (.var 3) (.o1 .len (.o1 (.fld 0) (.var 0))))
  (.br (.o2 .band (.o2 .band (.o2 .eq (.o1 (.fld 3) (.o2 .idx (.o1 (.fld 0) (.var 0)) (.var 3))) (.int 2)) (.o2 .eq (.o1 (.fld 2) (.o2 .idx (.o1 (.fld 0) (.var 0)) (.var 3))) (.var 1))) (.o1 (.fld 12) (.o2 .idx (.o1 (.fld 0) (.var 0)) (.var 3))))
   (.cont 0 [(.o2 (.add .i64) (.var 2) (.int 1)), (.o2 (.add .i64) (.var 3) (.int 1))])
   (.cont 0 [(.var 2), (.o2 (.add .i64) (.var 3) (.int 1))]))))))))
  (.ret [(.var 2)]))))
theorem sig_141 : sigOf Try.prog md 141 [] = some ([.st [(.sl [(.int .i64), (.int .i64), (.int .i64), (.int .i64), (.int .i64), (.int .i64), (.int .i64), (.int .i64), (.int .i64), (.int .i64), (.int .i64), .bool, .bool]), (.sl [(.int .i64), (.int .i64), .bool]), (.int .i64), (.int .i64)], .sc (.int .i64)], [.sc (.int .i64)], tree_141) := by kernel_rfl
/- spec.Holds -/
def tree_106 : T :=
(.call [] (.fn 75) [.st [(.int .i64), (.int .i64)] (.o2 .cons (.o1 (.fld 0) (.var 2)) (.o2 .cons (.o1 (.fld 1) (.var 2)) .nil))] [.sc .bool]
(.call [((.o1 .not (.var 3)), false)] (.fn 73) [.sc (.int .i64) (.var 1), .sc (.int .i64) (.int 0), .sc (.int .i64) (.o2 (.sub .i64) (.o1 .len (.o1 (.fld 1) (.var 0))) (.int 1))] [.sc .bool]
(.br (.o2 .bor (.o1 .not (.var 3)) (.o1 .not (.var 4)))
 (.ret [(.bool false)])
 (.br (.o2 .eq (.o1 (.fld 0) (.var 2)) (.int 1))
  (.need [] (.o2 .le (.int 0) (.var 1))
  (.need [] (.o2 .lt (.var 1) (.o1 .len (.o1 (.fld 1) (.var 0))))
  (.ret [(.o2 .le (.o1 (.fld 0) (.o2 .idx (.o1 (.fld 1) (.var 0)) (.var 1))) (.o1 (.fld 1) (.var 2)))])))
  (.br (.o2 .eq (.o1 (.fld 0) (.var 2)) (.int 2))
   (.call [] (.fn 140) [.st [(.sl [(.int .i64), (.int .i64), (.int .i64), (.int .i64), (.int .i64), (.int .i64), (.int .i64), (.int .i64), (.int .i64), (.int .i64), (.int .i64), .bool, .bool]), (.sl [(.int .i64), (.int .i64), .bool]), (.int .i64), (.int .i64)] (.o2 .cons (.o1 (.fld 0) (.var 0)) (.o2 .cons (.o1 (.fld 1) (.var 0)) (.o2 .cons (.o1 (.fld 2) (.var 0)) (.o2 .cons (.o1 (.fld 3) (.var 0)) .nil)))), .sc (.int .i64) (.var 1)] [.sc (.int .i64)]
   (.ret [(.o2 .ge (.var 5) (.o1 (.fld 1) (.var 2)))]))
   (.br (.o2 .eq (.o1 (.fld 0) (.var 2)) (.int 3))
    (.ret [(.o2 .eq (.o1 (.fld 2) (.var 0)) (.var 1))])
    (.br (.o2 .eq (.o1 (.fld 0) (.var 2)) (.int 4))
     (.call [] (.fn 141) [.st [(.sl [(.int .i64), (.int .i64), (.int .i64), (.int .i64), (.int .i64), (.int .i64), (.int .i64), (.int .i64), (.int .i64), (.int .i64), (.int .i64), .bool, .bool]), (.sl [(.int .i64), (.int .i64), .bool]), (.int .i64), (.int .i64)] (.o2 .cons (.o1 (.fld 0) (.var 0)) (.o2 .cons (.o1 (.fld 1) (.var 0)) (.o2 .cons (.o1 (.fld 2) (.var 0)) (.o2 .cons (.o1 (.fld 3) (.var 0)) .nil)))), .sc (.int .i64) (.var 1)] [.sc (.int .i64)]
     (.ret [(.o2 .ge (.var 5) (.o1 (.fld 1) (.var 2)))]))
     (.ret [(.bool true)]))))))))
theorem sig_106 : sigOf Try.prog md 106 [] = some ([.st [(.sl [(.int .i64), (.int .i64), (.int .i64), (.int .i64), (.int .i64), (.int .i64), (.int .i64), (.int .i64), (.int .i64), (.int .i64), (.int .i64), .bool, .bool]), (.sl [(.int .i64), (.int .i64), .bool]), (.int .i64), (.int .i64)], .sc (.int .i64), .st [(.int .i64), (.int .i64)]], [.sc .bool], tree_106) := by kernel_rfl
/- spec.PieceAt -/
def tree_167 : T :=
(.loop 0 [(.int 0)]
 (.know (.o1 (.fld 0) (.var 0))
 (.br (.o2 .lt (.var 2) (.o1 .len (.o1 (.fld 0) (.var 0))))
  (.need [] (.o2 .le (.int 0) (.var 2))
  (.need [] (.o2 .lt (.var 2) (.o1 .len (.o1 (.fld 0) (.var 0))))
  (.br (.o2 .eq (.o1 (.fld 0) (.o2 .idx (.o1 (.fld 0) (.var 0)) (.var 2))) (.var 1))
   (.ret [(.var 2)])
   (.cont 0 [(.o2 (.add .i64) (.var 2) (.int 1))]))))
  (.ret [(.int (-1))]))))
theorem sig_167 : sigOf Try.prog md 167 [] = some ([.st [(.sl [(.int .i64), (.int .i64), (.int .i64), (.int .i64), (.int .i64), (.int .i64), (.int .i64), (.int .i64), (.int .i64), (.int .i64), (.int .i64), .bool, .bool]), (.sl [(.int .i64), (.int .i64), .bool]), (.int .i64), (.int .i64)], .sc (.int .i64)], [.sc (.int .i64)], tree_167) := by kernel_rfl
/- spec.Target -/
def tree_162 : T :=
(.br (.o2 .eq (.o1 (.fld 2) (.var 1)) (.int 0))
 (.know (.o1 (.fld 1) (.var 0))
 (.call [] (.fn 73) [.sc (.int .i64) (.o1 (.fld 3) (.var 1)), .sc (.int .i64) (.int 0), .sc (.int .i64) (.o2 (.sub .i64) (.o1 .len (.o1 (.fld 1) (.var 0))) (.int 1))] [.sc .bool]
 (.br (.o1 .not (.var 2))
  (.ret [(.int (-1))])
  (.ret [(.o1 (.fld 3) (.var 1))]))))
 (.call [] (.fn 167) [.st [(.sl [(.int .i64), (.int .i64), (.int .i64), (.int .i64), (.int .i64), (.int .i64), (.int .i64), (.int .i64), (.int .i64), (.int .i64), (.int .i64), .bool, .bool]), (.sl [(.int .i64), (.int .i64), .bool]), (.int .i64), (.int .i64)] (.o2 .cons (.o1 (.fld 0) (.var 0)) (.o2 .cons (.o1 (.fld 1) (.var 0)) (.o2 .cons (.o1 (.fld 2) (.var 0)) (.o2 .cons (.o1 (.fld 3) (.var 0)) .nil)))), .sc (.int .i64) (.o1 (.fld 2) (.var 1))] [.sc (.int .i64)]
 (.br (.o2 .lt (.var 2) (.int 0))
  (.ret [(.int (-1))])
  (.need [] (.o2 .le (.int 0) (.var 2))
  (.need [] (.o2 .lt (.var 2) (.o1 .len (.o1 (.fld 0) (.var 0))))
  (.ret [(.o1 (.fld 2) (.o2 .idx (.o1 (.fld 0) (.var 0)) (.var 2)))]))))))
theorem sig_162 : sigOf Try.prog md 162 [] = some ([.st [(.sl [(.int .i64), (.int .i64), (.int .i64), (.int .i64), (.int .i64), (.int .i64), (.int .i64), (.int .i64), (.int .i64), (.int .i64), (.int .i64), .bool, .bool]), (.sl [(.int .i64), (.int .i64), .bool]), (.int .i64), (.int .i64)], .st [(.int .i64), (.int .i64), (.int .i64), (.int .i64), (.int .i64), (.int .i64), .bool]], [.sc (.int .i64)], tree_162) := by kernel_rfl
/- spec.TargetFits -/
def tree_142 : T :=
(.call [] (.fn 162) [.st [(.sl [(.int .i64), (.int .i64), (.int .i64), (.int .i64), (.int .i64), (.int .i64), (.int .i64), (.int .i64), (.int .i64), (.int .i64), (.int .i64), .bool, .bool]), (.sl [(.int .i64), (.int .i64), .bool]), (.int .i64), (.int .i64)] (.o2 .cons (.o1 (.fld 0) (.var 0)) (.o2 .cons (.o1 (.fld 1) (.var 0)) (.o2 .cons (.o1 (.fld 2) (.var 0)) (.o2 .cons (.o1 (.fld 3) (.var 0)) .nil)))), .st [(.int .i64), (.int .i64), (.int .i64), (.int .i64), (.int .i64), (.int .i64), .bool] (.o2 .cons (.o1 (.fld 0) (.var 3)) (.o2 .cons (.o1 (.fld 1) (.var 3)) (.o2 .cons (.o1 (.fld 2) (.var 3)) (.o2 .cons (.o1 (.fld 3) (.var 3)) (.o2 .cons (.o1 (.fld 4) (.var 3)) (.o2 .cons (.o1 (.fld 5) (.var 3)) (.o2 .cons (.o1 (.fld 6) (.var 3)) .nil)))))))] [.sc (.int .i64)]
(.br (.o2 .bor (.o2 .bor (.o2 .eq (.var 4) (.int (-1))) (.o2 .band (.o2 .eq (.o1 (.fld 1) (.var 2)) (.int 1)) (.o2 .ne (.var 4) (.var 1)))) (.o2 .band (.o2 .eq (.o1 (.fld 1) (.var 2)) (.int 2)) (.o2 .eq (.var 4) (.var 1))))
 (.ret [(.bool false)])
 (.ret [(.o2 .bor (.o2 .eq (.o1 (.fld 4) (.var 2)) (.int 0)) (.o2 .eq (.o1 (.fld 4) (.var 2)) (.o1 (.fld 2) (.var 3))))])))
theorem sig_142 : sigOf Try.prog md 142 [] = some ([.st [(.sl [(.int .i64), (.int .i64), (.int .i64), (.int .i64), (.int .i64), (.int .i64), (.int .i64), (.int .i64), (.int .i64), (.int .i64), (.int .i64), .bool, .bool]), (.sl [(.int .i64), (.int .i64), .bool]), (.int .i64), (.int .i64)], .sc (.int .i64), .st [(.int .i64), (.int .i64), (.int .i64), (.int .i64), (.int .i64), (.int .i64), (.int .i64)], .st [(.int .i64), (.int .i64), (.int .i64), (.int .i64), (.int .i64), (.int .i64), .bool]], [.sc .bool], tree_142) := by kernel_rfl
/- spec.Source -/
def tree_163 : T :=
(.call [] (.fn 167) [.st [(.sl [(.int .i64), (.int .i64), (.int .i64), (.int .i64), (.int .i64), (.int .i64), (.int .i64), (.int .i64), (.int .i64), (.int .i64), (.int .i64), .bool, .bool]), (.sl [(.int .i64), (.int .i64), .bool]), (.int .i64), (.int .i64)] (.o2 .cons (.o1 (.fld 0) (.var 0)) (.o2 .cons (.o1 (.fld 1) (.var 0)) (.o2 .cons (.o1 (.fld 2) (.var 0)) (.o2 .cons (.o1 (.fld 3) (.var 0)) .nil)))), .sc (.int .i64) (.o1 (.fld 1) (.var 1))] [.sc (.int .i64)]
(.br (.o2 .bor (.o2 .ne (.o1 (.fld 0) (.var 1)) (.int 1)) (.o2 .lt (.var 2) (.int 0)))
 (.ret [(.o2 .cons (.int 0) (.o2 .cons (.int 0) (.o2 .cons (.int 0) (.o2 .cons (.int 0) (.o2 .cons (.int 0) (.o2 .cons (.int 0) (.o2 .cons (.int 0) (.o2 .cons (.int 0) (.o2 .cons (.int 0) (.o2 .cons (.int 0) (.o2 .cons (.int 0) (.o2 .cons (.bool false) (.o2 .cons (.bool false) .nil)))))))))))))])
 (.need [] (.o2 .le (.int 0) (.var 2))
 (.need [] (.o2 .lt (.var 2) (.o1 .len (.o1 (.fld 0) (.var 0))))
 (.ret [(.o2 .cons (.o1 (.fld 0) (.o2 .idx (.o1 (.fld 0) (.var 0)) (.var 2))) (.o2 .cons (.o1 (.fld 1) (.o2 .idx (.o1 (.fld 0) (.var 0)) (.var 2))) (.o2 .cons (.o1 (.fld 2) (.o2 .idx (.o1 (.fld 0) (.var 0)) (.var 2))) (.o2 .cons (.o1 (.fld 3) (.o2 .idx (.o1 (.fld 0) (.var 0)) (.var 2))) (.o2 .cons (.o1 (.fld 4) (.o2 .idx (.o1 (.fld 0) (.var 0)) (.var 2))) (.o2 .cons (.o1 (.fld 5) (.o2 .idx (.o1 (.fld 0) (.var 0)) (.var 2))) (.o2 .cons (.o1 (.fld 6) (.o2 .idx (.o1 (.fld 0) (.var 0)) (.var 2))) (.o2 .cons (.o1 (.fld 7) (.o2 .idx (.o1 (.fld 0) (.var 0)) (.var 2))) (.o2 .cons (.o1 (.fld 8) (.o2 .idx (.o1 (.fld 0) (.var 0)) (.var 2))) (.o2 .cons (.o1 (.fld 9) (.o2 .idx (.o1 (.fld 0) (.var 0)) (.var 2))) (.o2 .cons (.o1 (.fld 10) (.o2 .idx (.o1 (.fld 0) (.var 0)) (.var 2))) (.o2 .cons (.o1 (.fld 11) (.o2 .idx (.o1 (.fld 0) (.var 0)) (.var 2))) (.o2 .cons (.o1 (.fld 12) (.o2 .idx (.o1 (.fld 0) (.var 0)) (.var 2))) .nil)))))))))))))])))))
theorem sig_163 : sigOf Try.prog md 163 [] = some ([.st [(.sl [(.int .i64), (.int .i64), (.int .i64), (.int .i64), (.int .i64), (.int .i64), (.int .i64), (.int .i64), (.int .i64), (.int .i64), (.int .i64), .bool, .bool]), (.sl [(.int .i64), (.int .i64), .bool]), (.int .i64), (.int .i64)], .st [(.int .i64), (.int .i64), (.int .i64), (.int .i64), (.int .i64), (.int .i64), .bool]], [.st [(.int .i64), (.int .i64), (.int .i64), (.int .i64), (.int .i64), (.int .i64), (.int .i64), (.int .i64), (.int .i64), (.int .i64), (.int .i64), .bool, .bool]], tree_163) := by kernel_rfl
/- spec.SourceFits -/
def tree_143 : T :=
(.call [((.o2 .bor (.o2 .eq (.o1 (.fld 2) (.var 1)) (.int 0)) (.o2 .eq (.o1 (.fld 2) (.var 1)) (.o1 (.fld 1) (.var 2)))), true)] (.fn 163) [.st [(.sl [(.int .i64), (.int .i64), (.int .i64), (.int .i64), (.int .i64), (.int .i64), (.int .i64), (.int .i64), (.int .i64), (.int .i64), (.int .i64), .bool, .bool]), (.sl [(.int .i64), (.int .i64), .bool]), (.int .i64), (.int .i64)] (.o2 .cons (.o1 (.fld 0) (.var 0)) (.o2 .cons (.o1 (.fld 1) (.var 0)) (.o2 .cons (.o1 (.fld 2) (.var 0)) (.o2 .cons (.o1 (.fld 3) (.var 0)) .nil)))), .st [(.int .i64), (.int .i64), (.int .i64), (.int .i64), (.int .i64), (.int .i64), .bool] (.o2 .cons (.o1 (.fld 0) (.var 2)) (.o2 .cons (.o1 (.fld 1) (.var 2)) (.o2 .cons (.o1 (.fld 2) (.var 2)) (.o2 .cons (.o1 (.fld 3) (.var 2)) (.o2 .cons (.o1 (.fld 4) (.var 2)) (.o2 .cons (.o1 (.fld 5) (.var 2)) (.o2 .cons (.o1 (.fld 6) (.var 2)) .nil)))))))] [.st [(.int .i64), (.int .i64), (.int .i64), (.int .i64), (.int .i64), (.int .i64), (.int .i64), (.int .i64), (.int .i64), (.int .i64), (.int .i64), .bool, .bool]]
(.ret [(.o2 .band (.o2 .bor (.o2 .eq (.o1 (.fld 2) (.var 1)) (.int 0)) (.o2 .eq (.o1 (.fld 2) (.var 1)) (.o1 (.fld 1) (.var 2)))) (.o2 .eq (.o2 (.and .i64) (.o1 (.fld 7) (.var 3)) (.o1 (.fld 3) (.var 1))) (.o1 (.fld 3) (.var 1))))]))
theorem sig_143 : sigOf Try.prog md 143 [] = some ([.st [(.sl [(.int .i64), (.int .i64), (.int .i64), (.int .i64), (.int .i64), (.int .i64), (.int .i64), (.int .i64), (.int .i64), (.int .i64), (.int .i64), .bool, .bool]), (.sl [(.int .i64), (.int .i64), .bool]), (.int .i64), (.int .i64)], .st [(.int .i64), (.int .i64), (.int .i64), (.int .i64), (.int .i64), (.int .i64), (.int .i64)], .st [(.int .i64), (.int .i64), (.int .i64), (.int .i64), (.int .i64), (.int .i64), .bool]], [.sc .bool], tree_143) := by kernel_rfl
/- spec.PatFits -/
def tree_107 : T :=
(.call [] (.fn 74) [.st [(.int .i64), (.int .i64), (.int .i64), (.int .i64), (.int .i64), (.int .i64), (.int .i64)] (.o2 .cons (.o1 (.fld 0) (.var 2)) (.o2 .cons (.o1 (.fld 1) (.var 2)) (.o2 .cons (.o1 (.fld 2) (.var 2)) (.o2 .cons (.o1 (.fld 3) (.var 2)) (.o2 .cons (.o1 (.fld 4) (.var 2)) (.o2 .cons (.o1 (.fld 5) (.var 2)) (.o2 .cons (.o1 (.fld 6) (.var 2)) .nil)))))))] [.sc .bool]
(.call [((.var 4), true)] (.fn 92) [.st [(.int .i64), (.int .i64), (.int .i64), (.int .i64), (.int .i64), (.int .i64), .bool] (.o2 .cons (.o1 (.fld 0) (.var 3)) (.o2 .cons (.o1 (.fld 1) (.var 3)) (.o2 .cons (.o1 (.fld 2) (.var 3)) (.o2 .cons (.o1 (.fld 3) (.var 3)) (.o2 .cons (.o1 (.fld 4) (.var 3)) (.o2 .cons (.o1 (.fld 5) (.var 3)) (.o2 .cons (.o1 (.fld 6) (.var 3)) .nil)))))))] [.sc .bool]
(.call [((.o2 .band (.o2 .band (.var 4) (.var 5)) (.o2 .eq (.o1 (.fld 0) (.var 2)) (.o1 (.fld 0) (.var 3)))), true)] (.fn 142) [.st [(.sl [(.int .i64), (.int .i64), (.int .i64), (.int .i64), (.int .i64), (.int .i64), (.int .i64), (.int .i64), (.int .i64), (.int .i64), (.int .i64), .bool, .bool]), (.sl [(.int .i64), (.int .i64), .bool]), (.int .i64), (.int .i64)] (.o2 .cons (.o1 (.fld 0) (.var 0)) (.o2 .cons (.o1 (.fld 1) (.var 0)) (.o2 .cons (.o1 (.fld 2) (.var 0)) (.o2 .cons (.o1 (.fld 3) (.var 0)) .nil)))), .sc (.int .i64) (.var 1), .st [(.int .i64), (.int .i64), (.int .i64), (.int .i64), (.int .i64), (.int .i64), (.int .i64)] (.o2 .cons (.o1 (.fld 0) (.var 2)) (.o2 .cons (.o1 (.fld 1) (.var 2)) (.o2 .cons (.o1 (.fld 2) (.var 2)) (.o2 .cons (.o1 (.fld 3) (.var 2)) (.o2 .cons (.o1 (.fld 4) (.var 2)) (.o2 .cons (.o1 (.fld 5) (.var 2)) (.o2 .cons (.o1 (.fld 6) (.var 2)) .nil))))))), .st [(.int .i64), (.int .i64), (.int .i64), (.int .i64), (.int .i64), (.int .i64), .bool] (.o2 .cons (.o1 (.fld 0) (.var 3)) (.o2 .cons (.o1 (.fld 1) (.var 3)) (.o2 .cons (.o1 (.fld 2) (.var 3)) (.o2 .cons (.o1 (.fld 3) (.var 3)) (.o2 .cons (.o1 (.fld 4) (.var 3)) (.o2 .cons (.o1 (.fld 5) (.var 3)) (.o2 .cons (.o1 (.fld 6) (.var 3)) .nil)))))))] [.sc .bool]
(.call [((.o2 .band (.o2 .band (.o2 .band (.var 4) (.var 5)) (.o2 .eq (.o1 (.fld 0) (.var 2)) (.o1 (.fld 0) (.var 3)))) (.var 6)), true)] (.fn 143) [.st [(.sl [(.int .i64), (.int .i64), (.int .i64), (.int .i64), (.int .i64), (.int .i64), (.int .i64), (.int .i64), (.int .i64), (.int .i64), (.int .i64), .bool, .bool]), (.sl [(.int .i64), (.int .i64), .bool]), (.int .i64), (.int .i64)] (.o2 .cons (.o1 (.fld 0) (.var 0)) (.o2 .cons (.o1 (.fld 1) (.var 0)) (.o2 .cons (.o1 (.fld 2) (.var 0)) (.o2 .cons (.o1 (.fld 3) (.var 0)) .nil)))), .st [(.int .i64), (.int .i64), (.int .i64), (.int .i64), (.int .i64), (.int .i64), (.int .i64)] (.o2 .cons (.o1 (.fld 0) (.var 2)) (.o2 .cons (.o1 (.fld 1) (.var 2)) (.o2 .cons (.o1 (.fld 2) (.var 2)) (.o2 .cons (.o1 (.fld 3) (.var 2)) (.o2 .cons (.o1 (.fld 4) (.var 2)) (.o2 .cons (.o1 (.fld 5) (.var 2)) (.o2 .cons (.o1 (.fld 6) (.var 2)) .nil))))))), .st [(.int .i64), (.int .i64), (.int .i64), (.int .i64), (.int .i64), (.int .i64), .bool] (.o2 .cons (.o1 (.fld 0) (.var 3)) (.o2 .cons (.o1 (.fld 1) (.var 3)) (.o2 .cons (.o1 (.fld 2) (.var 3)) (.o2 .cons (.o1 (.fld 3) (.var 3)) (.o2 .cons (.o1 (.fld 4) (.var 3)) (.o2 .cons (.o1 (.fld 5) (.var 3)) (.o2 .cons (.o1 (.fld 6) (.var 3)) .nil)))))))] [.sc .bool]
(.ret [(.o2 .band (.o2 .band (.o2 .band (.o2 .band (.o2 .band (.o2 .band (.var 4) (.var 5)) (.o2 .eq (.o1 (.fld 0) (.var 2)) (.o1 (.fld 0) (.var 3)))) (.var 6)) (.var 7)) (.o2 .ge (.o1 (.fld 4) (.var 3)) (.o1 (.fld 5) (.var 2)))) (.o2 .bor (.o2 .eq (.o1 (.fld 6) (.var 2)) (.int 0)) (.o2 .eq (.o1 (.fld 6) (.var 2)) (.o1 (.fld 5) (.var 3)))))])))))
theorem sig_107 : sigOf Try.prog md 107 [] = some ([.st [(.sl [(.int .i64), (.int .i64), (.int .i64), (.int .i64), (.int .i64), (.int .i64), (.int .i64), (.int .i64), (.int .i64), (.int .i64), (.int .i64), .bool, .bool]), (.sl [(.int .i64), (.int .i64), .bool]), (.int .i64), (.int .i64)], .sc (.int .i64), .st [(.int .i64), (.int .i64), (.int .i64), (.int .i64), (.int .i64), (.int .i64), (.int .i64)], .st [(.int .i64), (.int .i64), (.int .i64), (.int .i64), (.int .i64), (.int .i64), .bool]], [.sc .bool], tree_107) := by kernel_rfl
/- spec.Fits -/
def tree_47 : T :=
(.call [] (.fn 28) [.st [(.int .i64), (.int .i64), (.int .i64), (.int .i64), (.int .i64), (.int .i64), (.int .i64), (.int .i64), (.int .i64), (.int .i64), (.int .i64), (.int .i64), (.int .i64), (.int .i64), (.int .i64), (.int .i64), (.int .i64), (.int .i64), .bool, (.sl [(.int .i64), (.int .i64), (.int .i64), (.int .i64), (.int .i64), (.int .i64), .bool]), (.int .i64), (.int .i64)] (.o2 .cons (.o1 (.fld 0) (.var 1)) (.o2 .cons (.o1 (.fld 1) (.var 1)) (.o2 .cons (.o1 (.fld 2) (.var 1)) (.o2 .cons (.o1 (.fld 3) (.var 1)) (.o2 .cons (.o1 (.fld 4) (.var 1)) (.o2 .cons (.o1 (.fld 5) (.var 1)) (.o2 .cons (.o1 (.fld 6) (.var 1)) (.o2 .cons (.o1 (.fld 7) (.var 1)) (.o2 .cons (.o1 (.fld 8) (.var 1)) (.o2 .cons (.o1 (.fld 9) (.var 1)) (.o2 .cons (.o1 (.fld 10) (.var 1)) (.o2 .cons (.o1 (.fld 11) (.var 1)) (.o2 .cons (.o1 (.fld 12) (.var 1)) (.o2 .cons (.o1 (.fld 13) (.var 1)) (.o2 .cons (.o1 (.fld 14) (.var 1)) (.o2 .cons (.o1 (.fld 15) (.var 1)) (.o2 .cons (.o1 (.fld 16) (.var 1)) (.o2 .cons (.o1 (.fld 17) (.var 1)) (.o2 .cons (.o1 (.fld 18) (.var 1)) (.o2 .cons (.o1 (.fld 19) (.var 1)) (.o2 .cons (.o1 (.fld 20) (.var 1)) (.o2 .cons (.o1 (.fld 21) (.var 1)) .nil))))))))))))))))))))))] [.sc .bool]
(.call [((.var 3), true)] (.fn 85) [.st [(.int .i64), (.int .i64), (.int .i64), (.int .i64), (.int .i64), (.int .i64), (.int .i64), (.int .i64), (.int .i64), (.int .i64), (.int .i64), (.int .i64), (.int .i64), (.int .i64), (.int .i64), (.int .i64), (.int .i64), (.int .i64), .bool, (.sl [(.int .i64), (.int .i64), (.int .i64), (.int .i64), (.int .i64), (.int .i64), .bool]), (.int .i64), (.int .i64)] (.o2 .cons (.o1 (.fld 0) (.var 1)) (.o2 .cons (.o1 (.fld 1) (.var 1)) (.o2 .cons (.o1 (.fld 2) (.var 1)) (.o2 .cons (.o1 (.fld 3) (.var 1)) (.o2 .cons (.o1 (.fld 4) (.var 1)) (.o2 .cons (.o1 (.fld 5) (.var 1)) (.o2 .cons (.o1 (.fld 6) (.var 1)) (.o2 .cons (.o1 (.fld 7) (.var 1)) (.o2 .cons (.o1 (.fld 8) (.var 1)) (.o2 .cons (.o1 (.fld 9) (.var 1)) (.o2 .cons (.o1 (.fld 10) (.var 1)) (.o2 .cons (.o1 (.fld 11) (.var 1)) (.o2 .cons (.o1 (.fld 12) (.var 1)) (.o2 .cons (.o1 (.fld 13) (.var 1)) (.o2 .cons (.o1 (.fld 14) (.var 1)) (.o2 .cons (.o1 (.fld 15) (.var 1)) (.o2 .cons (.o1 (.fld 16) (.var 1)) (.o2 .cons (.o1 (.fld 17) (.var 1)) (.o2 .cons (.o1 (.fld 18) (.var 1)) (.o2 .cons (.o1 (.fld 19) (.var 1)) (.o2 .cons (.o1 (.fld 20) (.var 1)) (.o2 .cons (.o1 (.fld 21) (.var 1)) .nil)))))))))))))))))))))), .sc (.int .i64) (.o1 (.fld 3) (.var 0))] [.sc .bool]
(.call [((.o2 .band (.var 3) (.var 4)), true)] (.fn 105) [.st [(.int .i64), (.int .i64), (.int .i64), (.int .i64), (.int .i64), (.int .i64), (.int .i64), (.int .i64), (.int .i64), (.int .i64), (.int .i64), (.int .i64), (.int .i64), (.int .i64), (.int .i64), (.int .i64), (.int .i64), (.int .i64), .bool, (.sl [(.int .i64), (.int .i64), (.int .i64), (.int .i64), (.int .i64), (.int .i64), .bool]), (.int .i64), (.int .i64)] (.o2 .cons (.o1 (.fld 0) (.var 1)) (.o2 .cons (.o1 (.fld 1) (.var 1)) (.o2 .cons (.o1 (.fld 2) (.var 1)) (.o2 .cons (.o1 (.fld 3) (.var 1)) (.o2 .cons (.o1 (.fld 4) (.var 1)) (.o2 .cons (.o1 (.fld 5) (.var 1)) (.o2 .cons (.o1 (.fld 6) (.var 1)) (.o2 .cons (.o1 (.fld 7) (.var 1)) (.o2 .cons (.o1 (.fld 8) (.var 1)) (.o2 .cons (.o1 (.fld 9) (.var 1)) (.o2 .cons (.o1 (.fld 10) (.var 1)) (.o2 .cons (.o1 (.fld 11) (.var 1)) (.o2 .cons (.o1 (.fld 12) (.var 1)) (.o2 .cons (.o1 (.fld 13) (.var 1)) (.o2 .cons (.o1 (.fld 14) (.var 1)) (.o2 .cons (.o1 (.fld 15) (.var 1)) (.o2 .cons (.o1 (.fld 16) (.var 1)) (.o2 .cons (.o1 (.fld 17) (.var 1)) (.o2 .cons (.o1 (.fld 18) (.var 1)) (.o2 .cons (.o1 (.fld 19) (.var 1)) (.o2 .cons (.o1 (.fld 20) (.var 1)) (.o2 .cons (.o1 (.fld 21) (.var 1)) .nil)))))))))))))))))))))), .st [(.int .i64), (.int .i64), (.int .i64), (.int .i64), (.int .i64), (.int .i64), .bool] (.o2 .cons (.o1 (.fld 0) (.var 2)) (.o2 .cons (.o1 (.fld 1) (.var 2)) (.o2 .cons (.o1 (.fld 2) (.var 2)) (.o2 .cons (.o1 (.fld 3) (.var 2)) (.o2 .cons (.o1 (.fld 4) (.var 2)) (.o2 .cons (.o1 (.fld 5) (.var 2)) (.o2 .cons (.o1 (.fld 6) (.var 2)) .nil)))))))] [.sc .bool]
(.call [((.o2 .band (.o2 .band (.var 3) (.var 4)) (.var 5)), true)] (.fn 106) [.st [(.sl [(.int .i64), (.int .i64), (.int .i64), (.int .i64), (.int .i64), (.int .i64), (.int .i64), (.int .i64), (.int .i64), (.int .i64), (.int .i64), .bool, .bool]), (.sl [(.int .i64), (.int .i64), .bool]), (.int .i64), (.int .i64)] (.o2 .cons (.o1 (.fld 0) (.var 0)) (.o2 .cons (.o1 (.fld 1) (.var 0)) (.o2 .cons (.o1 (.fld 2) (.var 0)) (.o2 .cons (.o1 (.fld 3) (.var 0)) .nil)))), .sc (.int .i64) (.o1 (.fld 1) (.var 1)), .st [(.int .i64), (.int .i64)] (.o2 .cons (.o1 (.fld 11) (.var 1)) (.o2 .cons (.o1 (.fld 12) (.var 1)) .nil))] [.sc .bool]
(.call [((.o2 .band (.o2 .band (.o2 .band (.var 3) (.var 4)) (.var 5)) (.var 6)), true)] (.fn 107) [.st [(.sl [(.int .i64), (.int .i64), (.int .i64), (.int .i64), (.int .i64), (.int .i64), (.int .i64), (.int .i64), (.int .i64), (.int .i64), (.int .i64), .bool, .bool]), (.sl [(.int .i64), (.int .i64), .bool]), (.int .i64), (.int .i64)] (.o2 .cons (.o1 (.fld 0) (.var 0)) (.o2 .cons (.o1 (.fld 1) (.var 0)) (.o2 .cons (.o1 (.fld 2) (.var 0)) (.o2 .cons (.o1 (.fld 3) (.var 0)) .nil)))), .sc (.int .i64) (.o1 (.fld 1) (.var 1)), .st [(.int .i64), (.int .i64), (.int .i64), (.int .i64), (.int .i64), (.int .i64), (.int .i64)] (.o2 .cons (.o1 (.fld 4) (.var 1)) (.o2 .cons (.o1 (.fld 5) (.var 1)) (.o2 .cons (.o1 (.fld 6) (.var 1)) (.o2 .cons (.o1 (.fld 7) (.var 1)) (.o2 .cons (.o1 (.fld 8) (.var 1)) (.o2 .cons (.o1 (.fld 9) (.var 1)) (.o2 .cons (.o1 (.fld 10) (.var 1)) .nil))))))), .st [(.int .i64), (.int .i64), (.int .i64), (.int .i64), (.int .i64), (.int .i64), .bool] (.o2 .cons (.o1 (.fld 0) (.var 2)) (.o2 .cons (.o1 (.fld 1) (.var 2)) (.o2 .cons (.o1 (.fld 2) (.var 2)) (.o2 .cons (.o1 (.fld 3) (.var 2)) (.o2 .cons (.o1 (.fld 4) (.var 2)) (.o2 .cons (.o1 (.fld 5) (.var 2)) (.o2 .cons (.o1 (.fld 6) (.var 2)) .nil)))))))] [.sc .bool]
(.ret [(.o2 .band (.o2 .band (.o2 .band (.o2 .band (.var 3) (.var 4)) (.var 5)) (.var 6)) (.var 7))]))))))
theorem sig_47 : sigOf Try.prog md 47 [] = some ([.st [(.sl [(.int .i64), (.int .i64), (.int .i64), (.int .i64), (.int .i64), (.int .i64), (.int .i64), (.int .i64), (.int .i64), (.int .i64), (.int .i64), .bool, .bool]), (.sl [(.int .i64), (.int .i64), .bool]), (.int .i64), (.int .i64)], .st [(.int .i64), (.int .i64), (.int .i64), (.int .i64), (.int .i64), (.int .i64), (.int .i64), (.int .i64), (.int .i64), (.int .i64), (.int .i64), (.int .i64), (.int .i64), (.int .i64), (.int .i64), (.int .i64), (.int .i64), (.int .i64), .bool, (.sl [(.int .i64), (.int .i64), (.int .i64), (.int .i64), (.int .i64), (.int .i64), .bool]), (.int .i64), (.int .i64)], .st [(.int .i64), (.int .i64), (.int .i64), (.int .i64), (.int .i64), (.int .i64), .bool]], [.sc .bool], tree_47) := by kernel_rfl
/- laws.toPiece -/
def tree_144 : T :=
(.ret [(.o2 .cons (.o1 (.fld 0) (.var 0)) (.o2 .cons (.o1 (.fld 1) (.var 0)) (.o2 .cons (.o1 (.fld 2) (.var 0)) (.o2 .cons (.o1 (.fld 3) (.var 0)) (.o2 .cons (.o1 (.fld 4) (.var 0)) (.o2 .cons (.o1 (.fld 5) (.var 0)) (.o2 .cons (.o1 (.fld 6) (.var 0)) (.o2 .cons (.o1 (.fld 7) (.var 0)) (.o2 .cons (.o1 (.fld 8) (.var 0)) (.o2 .cons (.o1 (.fld 9) (.var 0)) (.o2 .cons (.o1 (.fld 10) (.var 0)) (.o2 .cons (.o1 (.fld 11) (.var 0)) (.o2 .cons (.o1 (.fld 12) (.var 0)) .nil)))))))))))))])
theorem sig_144 : sigOf Try.prog md 144 [] = some ([.st [(.int .i64), (.int .i64), (.int .i64), (.int .i64), (.int .i64), (.int .i64), (.int .i64), (.int .i64), (.int .i64), (.int .i64), (.int .i64), .bool, .bool]], [.st [(.int .i64), (.int .i64), (.int .i64), (.int .i64), (.int .i64), (.int .i64), (.int .i64), (.int .i64), (.int .i64), (.int .i64), (.int .i64), .bool, .bool]], tree_144) := by kernel_rfl
/- laws.toPieceS -/
def tree_108 : T :=
(.know (.var 0)
(.need [] (.o2 .le (.int 0) (.o1 .len (.var 0)))
(.need [] (.o2 (.fits 96) (.o1 .len (.var 0)) (.int 0))
(.loop 0 [(.int 0), (.o2 .rep (.o1 .len (.var 0)) (.o2 .cons (.int 0) (.o2 .cons (.int 0) (.o2 .cons (.int 0) (.o2 .cons (.int 0) (.o2 .cons (.int 0) (.o2 .cons (.int 0) (.o2 .cons (.int 0) (.o2 .cons (.int 0) (.o2 .cons (.int 0) (.o2 .cons (.int 0) (.o2 .cons (.int 0) (.o2 .cons (.bool false) (.o2 .cons (.bool false) .nil))))))))))))))]
 (.know (.var 0)
 (.br (.o2 .lt (.var 1) (.o1 .len (.var 0)))
  (.need [] (.o2 .le (.int 0) (.var 1))
  (.need [] (.o2 .lt (.var 1) (.o1 .len (.var 0)))
  (.call [] (.fn 144) [.st [(.int .i64), (.int .i64), (.int .i64), (.int .i64), (.int .i64), (.int .i64), (.int .i64), (.int .i64), (.int .i64), (.int .i64), (.int .i64), .bool, .bool] (.o2 .cons (.o1 (.fld 0) (.o2 .idx (.var 0) (.var 1))) (.o2 .cons (.o1 (.fld 1) (.o2 .idx (.var 0) (.var 1))) (.o2 .cons (.o1 (.fld 2) (.o2 .idx (.var 0) (.var 1))) (.o2 .cons (.o1 (.fld 3) (.o2 .idx (.var 0) (.var 1))) (.o2 .cons (.o1 (.fld 4) (.o2 .idx (.var 0) (.var 1))) (.o2 .cons (.o1 (.fld 5) (.o2 .idx (.var 0) (.var 1))) (.o2 .cons (.o1 (.fld 6) (.o2 .idx (.var 0) (.var 1))) (.o2 .cons (.o1 (.fld 7) (.o2 .idx (.var 0) (.var 1))) (.o2 .cons (.o1 (.fld 8) (.o2 .idx (.var 0) (.var 1))) (.o2 .cons (.o1 (.fld 9) (.o2 .idx (.var 0) (.var 1))) (.o2 .cons (.o1 (.fld 10) (.o2 .idx (.var 0) (.var 1))) (.o2 .cons (.o1 (.fld 11) (.o2 .idx (.var 0) (.var 1))) (.o2 .cons (.o1 (.fld 12) (.o2 .idx (.var 0) (.var 1))) .nil)))))))))))))] [.st [(.int .i64), (.int .i64), (.int .i64), (.int .i64), (.int .i64), (.int .i64), (.int .i64), (.int .i64), (.int .i64), (.int .i64), (.int .i64), .bool, .bool]]
  (.need [] (.o2 .le (.int 0) (.var 1))
  (.need [] (.o2 .lt (.var 1) (.o1 .len (.var 2)))
  (.cont 0 [(.o2 (.add .i64) (.var 1) (.int 1)), (.o3 .setE (.var 2) (.var 1) (.o2 .cons (.o1 (.fld 0) (.var 3)) (.o2 .cons (.o1 (.fld 1) (.var 3)) (.o2 .cons (.o1 (.fld 2) (.var 3)) (.o2 .cons (.o1 (.fld 3) (.var 3)) (.o2 .cons (.o1 (.fld 4) (.var 3)) (.o2 .cons (.o1 (.fld 5) (.var 3)) (.o2 .cons (.o1 (.fld 6) (.var 3)) (.o2 .cons (.o1 (.fld 7) (.var 3)) (.o2 .cons (.o1 (.fld 8) (.var 3)) (.o2 .cons (.o1 (.fld 9) (.var 3)) (.o2 .cons (.o1 (.fld 10) (.var 3)) (.o2 .cons (.o1 (.fld 11) (.var 3)) (.o2 .cons (.o1 (.fld 12) (.var 3)) .nil))))))))))))))]))))))
  (.ret [(.var 2)])))))))
theorem sig_108 : sigOf Try.prog md 108 [] = some ([.sc (.sl [(.int .i64), (.int .i64), (.int .i64), (.int .i64), (.int .i64), (.int .i64), (.int .i64), (.int .i64), (.int .i64), (.int .i64), (.int .i64), .bool, .bool])], [.sc (.sl [(.int .i64), (.int .i64), (.int .i64), (.int .i64), (.int .i64), (.int .i64), (.int .i64), (.int .i64), (.int .i64), (.int .i64), (.int .i64), .bool, .bool])], tree_108) := by kernel_rfl
/- laws.toSide -/
def tree_145 : T :=
(.ret [(.o2 .cons (.o1 (.fld 0) (.var 0)) (.o2 .cons (.o1 (.fld 1) (.var 0)) (.o2 .cons (.o1 (.fld 2) (.var 0)) .nil)))])
theorem sig_145 : sigOf Try.prog md 145 [] = some ([.st [(.int .i64), (.int .i64), .bool]], [.st [(.int .i64), (.int .i64), .bool]], tree_145) := by kernel_rfl
/- laws.toSideS -/
def tree_109 : T :=
(.know (.var 0)
(.need [] (.o2 .le (.int 0) (.o1 .len (.var 0)))
(.need [] (.o2 (.fits 24) (.o1 .len (.var 0)) (.int 0))
(.loop 0 [(.int 0), (.o2 .rep (.o1 .len (.var 0)) (.o2 .cons (.int 0) (.o2 .cons (.int 0) (.o2 .cons (.bool false) .nil))))]
 (.know (.var 0)
 (.br (.o2 .lt (.var 1) (.o1 .len (.var 0)))
  (.need [] (.o2 .le (.int 0) (.var 1))
  (.need [] (.o2 .lt (.var 1) (.o1 .len (.var 0)))
  (.call [] (.fn 145) [.st [(.int .i64), (.int .i64), .bool] (.o2 .cons (.o1 (.fld 0) (.o2 .idx (.var 0) (.var 1))) (.o2 .cons (.o1 (.fld 1) (.o2 .idx (.var 0) (.var 1))) (.o2 .cons (.o1 (.fld 2) (.o2 .idx (.var 0) (.var 1))) .nil)))] [.st [(.int .i64), (.int .i64), .bool]]
  (.need [] (.o2 .le (.int 0) (.var 1))
  (.need [] (.o2 .lt (.var 1) (.o1 .len (.var 2)))
  (.cont 0 [(.o2 (.add .i64) (.var 1) (.int 1)), (.o3 .setE (.var 2) (.var 1) (.o2 .cons (.o1 (.fld 0) (.var 3)) (.o2 .cons (.o1 (.fld 1) (.var 3)) (.o2 .cons (.o1 (.fld 2) (.var 3)) .nil))))]))))))
  (.ret [(.var 2)])))))))
theorem sig_109 : sigOf Try.prog md 109 [] = some ([.sc (.sl [(.int .i64), (.int .i64), .bool])], [.sc (.sl [(.int .i64), (.int .i64), .bool])], tree_109) := by kernel_rfl
/- laws.toState -/
def tree_48 : T :=
(.call [] (.fn 108) [.sc (.sl [(.int .i64), (.int .i64), (.int .i64), (.int .i64), (.int .i64), (.int .i64), (.int .i64), (.int .i64), (.int .i64), (.int .i64), (.int .i64), .bool, .bool]) (.o1 (.fld 0) (.var 0))] [.sc (.sl [(.int .i64), (.int .i64), (.int .i64), (.int .i64), (.int .i64), (.int .i64), (.int .i64), (.int .i64), (.int .i64), (.int .i64), (.int .i64), .bool, .bool])]
(.call [] (.fn 109) [.sc (.sl [(.int .i64), (.int .i64), .bool]) (.o1 (.fld 1) (.var 0))] [.sc (.sl [(.int .i64), (.int .i64), .bool])]
(.ret [(.o2 .cons (.var 1) (.o2 .cons (.var 2) (.o2 .cons (.o1 (.fld 2) (.var 0)) (.o2 .cons (.o1 (.fld 3) (.var 0)) .nil))))])))
theorem sig_48 : sigOf Try.prog md 48 [] = some ([.st [(.sl [(.int .i64), (.int .i64), (.int .i64), (.int .i64), (.int .i64), (.int .i64), (.int .i64), (.int .i64), (.int .i64), (.int .i64), (.int .i64), .bool, .bool]), (.sl [(.int .i64), (.int .i64), .bool]), (.int .i64), (.int .i64)]], [.st [(.sl [(.int .i64), (.int .i64), (.int .i64), (.int .i64), (.int .i64), (.int .i64), (.int .i64), (.int .i64), (.int .i64), (.int .i64), (.int .i64), .bool, .bool]), (.sl [(.int .i64), (.int .i64), .bool]), (.int .i64), (.int .i64)]], tree_48) := by kernel_rfl
/- impl.from -/
def tree_80 : T :=
(.ret [(.o2 .band (.o2 .ge (.var 0) (.var 1)) (.o2 .le (.var 0) (.var 2)))])
theorem sig_80 : sigOf Try.prog md 80 [] = some ([.sc (.int .i64), .sc (.int .i64), .sc (.int .i64)], [.sc .bool], tree_80) := by kernel_rfl
/- impl.isId -/
def tree_78 : T :=
(.call [] (.fn 80) [.sc (.int .i64) (.var 0), .sc (.int .i64) (.int 1), .sc (.int .i64) (.int 99)] [.sc .bool]
(.ret [(.var 1)]))
theorem sig_78 : sigOf Try.prog md 78 [] = some ([.sc (.int .i64)], [.sc .bool], tree_78) := by kernel_rfl
/- impl.isPlayer -/
def tree_79 : T :=
(.call [] (.fn 80) [.sc (.int .i64) (.var 0), .sc (.int .i64) (.int 0), .sc (.int .i64) (.int 2)] [.sc .bool]
(.ret [(.var 1)]))
theorem sig_79 : sigOf Try.prog md 79 [] = some ([.sc (.int .i64)], [.sc .bool], tree_79) := by kernel_rfl
/- impl.isKind -/
def tree_126 : T :=
(.call [] (.fn 80) [.sc (.int .i64) (.var 0), .sc (.int .i64) (.int 1), .sc (.int .i64) (.int 6)] [.sc .bool]
(.ret [(.var 1)]))
theorem sig_126 : sigOf Try.prog md 126 [] = some ([.sc (.int .i64)], [.sc .bool], tree_126) := by kernel_rfl
/- impl.isTraits -/
def tree_127 : T :=
(.call [] (.fn 80) [.sc (.int .i64) (.var 0), .sc (.int .i64) (.int 0), .sc (.int .i64) (.int 63)] [.sc .bool]
(.ret [(.var 1)]))
theorem sig_127 : sigOf Try.prog md 127 [] = some ([.sc (.int .i64)], [.sc .bool], tree_127) := by kernel_rfl
/- impl.isAmount -/
def tree_128 : T :=
(.call [] (.fn 80) [.sc (.int .i64) (.var 0), .sc (.int .i64) (.int 0), .sc (.int .i64) (.int 2147483647)] [.sc .bool]
(.ret [(.var 1)]))
theorem sig_128 : sigOf Try.prog md 128 [] = some ([.sc (.int .i64)], [.sc .bool], tree_128) := by kernel_rfl
/- impl.PatOk -/
def tree_81 : T :=
(.call [] (.fn 126) [.sc (.int .i64) (.o1 (.fld 0) (.var 0))] [.sc .bool]
(.call [((.o1 .not (.var 1)), false)] (.fn 80) [.sc (.int .i64) (.o1 (.fld 1) (.var 0)), .sc (.int .i64) (.int 0), .sc (.int .i64) (.int 2)] [.sc .bool]
(.call [((.o2 .bor (.o1 .not (.var 1)) (.o1 .not (.var 2))), false)] (.fn 80) [.sc (.int .i64) (.o1 (.fld 2) (.var 0)), .sc (.int .i64) (.int 0), .sc (.int .i64) (.int 99)] [.sc .bool]
(.call [((.o2 .bor (.o2 .bor (.o1 .not (.var 1)) (.o1 .not (.var 2))) (.o1 .not (.var 3))), false)] (.fn 127) [.sc (.int .i64) (.o1 (.fld 3) (.var 0))] [.sc .bool]
(.call [((.o2 .bor (.o2 .bor (.o2 .bor (.o1 .not (.var 1)) (.o1 .not (.var 2))) (.o1 .not (.var 3))) (.o1 .not (.var 4))), false)] (.fn 80) [.sc (.int .i64) (.o1 (.fld 4) (.var 0)), .sc (.int .i64) (.int 0), .sc (.int .i64) (.int 99)] [.sc .bool]
(.call [((.o2 .bor (.o2 .bor (.o2 .bor (.o2 .bor (.o1 .not (.var 1)) (.o1 .not (.var 2))) (.o1 .not (.var 3))) (.o1 .not (.var 4))) (.o1 .not (.var 5))), false)] (.fn 128) [.sc (.int .i64) (.o1 (.fld 5) (.var 0))] [.sc .bool]
(.call [((.o2 .bor (.o2 .bor (.o2 .bor (.o2 .bor (.o2 .bor (.o1 .not (.var 1)) (.o1 .not (.var 2))) (.o1 .not (.var 3))) (.o1 .not (.var 4))) (.o1 .not (.var 5))) (.o1 .not (.var 6))), false)] (.fn 80) [.sc (.int .i64) (.o1 (.fld 6) (.var 0)), .sc (.int .i64) (.int 0), .sc (.int .i64) (.int 4)] [.sc .bool]
(.br (.o2 .bor (.o2 .bor (.o2 .bor (.o2 .bor (.o2 .bor (.o2 .bor (.o1 .not (.var 1)) (.o1 .not (.var 2))) (.o1 .not (.var 3))) (.o1 .not (.var 4))) (.o1 .not (.var 5))) (.o1 .not (.var 6))) (.o1 .not (.var 7)))
 (.ret [(.bool false)])
 (.br (.o2 .bor (.o2 .band (.o2 .ne (.o1 (.fld 0) (.var 0)) (.int 1)) (.o2 .bor (.o2 .ne (.o1 (.fld 2) (.var 0)) (.int 0)) (.o2 .ne (.o1 (.fld 3) (.var 0)) (.int 0)))) (.o2 .band (.o2 .ne (.o1 (.fld 0) (.var 0)) (.int 2)) (.o2 .ne (.o1 (.fld 6) (.var 0)) (.int 0))))
  (.ret [(.bool false)])
  (.ret [(.o2 .bor (.o2 .eq (.o1 (.fld 4) (.var 0)) (.int 0)) (.o2 .band (.o2 .ne (.o1 (.fld 0) (.var 0)) (.int 3)) (.o2 .ne (.o1 (.fld 0) (.var 0)) (.int 4))))]))))))))))
theorem sig_81 : sigOf Try.prog md 81 [] = some ([.st [(.int .i64), (.int .i64), (.int .i64), (.int .i64), (.int .i64), (.int .i64), (.int .i64)]], [.sc .bool], tree_81) := by kernel_rfl
/- impl.Bound -/
def tree_123 : T :=
(.ret [(.o2 .max (.int (-2147483647)) (.o2 .min (.var 0) (.int 2147483647)))])
theorem sig_123 : sigOf Try.prog md 123 [] = some ([.sc (.int .i64)], [.sc (.int .i64)], tree_123) := by kernel_rfl
/- impl.GuardOk -/
def tree_82 : T :=
(.br (.o2 .eq (.o1 (.fld 0) (.var 0)) (.int 0))
 (.br (.o2 .eq (.o1 (.fld 0) (.var 0)) (.int 0))
  (.ret [(.o2 .eq (.o1 (.fld 1) (.var 0)) (.int 0))])
  (.br (.o2 .eq (.o1 (.fld 0) (.var 0)) (.int 1))
   (.call [] (.fn 123) [.sc (.int .i64) (.o1 (.fld 1) (.var 0))] [.sc (.int .i64)]
   (.ret [(.o2 .eq (.var 1) (.o1 (.fld 1) (.var 0)))]))
   (.br (.o2 .eq (.o1 (.fld 0) (.var 0)) (.int 2))
    (.br (.o2 .eq (.o1 (.fld 0) (.var 0)) (.int 2))
     (.call [] (.fn 80) [.sc (.int .i64) (.o1 (.fld 1) (.var 0)), .sc (.int .i64) (.int 0), .sc (.int .i64) (.int 8)] [.sc .bool]
     (.ret [(.var 1)]))
     (.ret [(.bool false)]))
    (.br (.o2 .eq (.o1 (.fld 0) (.var 0)) (.int 4))
     (.call [] (.fn 80) [.sc (.int .i64) (.o1 (.fld 1) (.var 0)), .sc (.int .i64) (.int 0), .sc (.int .i64) (.int 8)] [.sc .bool]
     (.ret [(.var 1)]))
     (.ret [(.bool false)])))))
 (.br (.o2 .eq (.o1 (.fld 0) (.var 0)) (.int 3))
  (.ret [(.o2 .eq (.o1 (.fld 1) (.var 0)) (.int 0))])
  (.br (.o2 .eq (.o1 (.fld 0) (.var 0)) (.int 1))
   (.call [] (.fn 123) [.sc (.int .i64) (.o1 (.fld 1) (.var 0))] [.sc (.int .i64)]
   (.ret [(.o2 .eq (.var 1) (.o1 (.fld 1) (.var 0)))]))
   (.br (.o2 .eq (.o1 (.fld 0) (.var 0)) (.int 2))
    (.br (.o2 .eq (.o1 (.fld 0) (.var 0)) (.int 2))
     (.call [] (.fn 80) [.sc (.int .i64) (.o1 (.fld 1) (.var 0)), .sc (.int .i64) (.int 0), .sc (.int .i64) (.int 8)] [.sc .bool]
     (.ret [(.var 1)]))
     (.ret [(.bool false)]))
    (.br (.o2 .eq (.o1 (.fld 0) (.var 0)) (.int 4))
     (.call [] (.fn 80) [.sc (.int .i64) (.o1 (.fld 1) (.var 0)), .sc (.int .i64) (.int 0), .sc (.int .i64) (.int 8)] [.sc .bool]
     (.ret [(.var 1)]))
     (.ret [(.bool false)]))))))
theorem sig_82 : sigOf Try.prog md 82 [] = some ([.st [(.int .i64), (.int .i64)]], [.sc .bool], tree_82) := by kernel_rfl
/- impl.isZone -/
def tree_129 : T :=
(.call [] (.fn 80) [.sc (.int .i64) (.var 0), .sc (.int .i64) (.int 1), .sc (.int .i64) (.int 4)] [.sc .bool]
(.ret [(.var 1)]))
theorem sig_129 : sigOf Try.prog md 129 [] = some ([.sc (.int .i64)], [.sc .bool], tree_129) := by kernel_rfl
/- impl.onPiece -/
def tree_134 : T :=
(.call [] (.fn 78) [.sc (.int .i64) (.o1 (.fld 2) (.var 0))] [.sc .bool]
(.ret [(.o2 .band (.var 1) (.o2 .eq (.o1 (.fld 3) (.var 0)) (.int (-1))))]))
theorem sig_134 : sigOf Try.prog md 134 [] = some ([.st [(.int .i64), (.int .i64), (.int .i64), (.int .i64), (.int .i64), (.int .i64), .bool]], [.sc .bool], tree_134) := by kernel_rfl
/- impl.onPlayer -/
def tree_135 : T :=
(.call [((.o2 .eq (.o1 (.fld 2) (.var 0)) (.int 0)), true)] (.fn 79) [.sc (.int .i64) (.o1 (.fld 3) (.var 0))] [.sc .bool]
(.ret [(.o2 .band (.o2 .eq (.o1 (.fld 2) (.var 0)) (.int 0)) (.var 1))]))
theorem sig_135 : sigOf Try.prog md 135 [] = some ([.st [(.int .i64), (.int .i64), (.int .i64), (.int .i64), (.int .i64), (.int .i64), .bool]], [.sc .bool], tree_135) := by kernel_rfl
/- impl.EventOk -/
def tree_97 : T :=
(.call [] (.fn 128) [.sc (.int .i64) (.o1 (.fld 4) (.var 0))] [.sc .bool]
(.br (.o2 .bor (.o2 .bor (.o1 .not (.var 1)) (.o2 .band (.o2 .ne (.o1 (.fld 0) (.var 0)) (.int 1)) (.o2 .ne (.o1 (.fld 1) (.var 0)) (.int 0)))) (.o2 .band (.o2 .ne (.o1 (.fld 0) (.var 0)) (.int 2)) (.o2 .bor (.o2 .ne (.o1 (.fld 5) (.var 0)) (.int 0)) (.o1 (.fld 6) (.var 0)))))
 (.ret [(.bool false)])
 (.br (.o2 .eq (.o1 (.fld 0) (.var 0)) (.int 1))
  (.call [] (.fn 78) [.sc (.int .i64) (.o1 (.fld 1) (.var 0))] [.sc .bool]
  (.call [((.var 2), true)] (.fn 134) [.st [(.int .i64), (.int .i64), (.int .i64), (.int .i64), (.int .i64), (.int .i64), .bool] (.o2 .cons (.o1 (.fld 0) (.var 0)) (.o2 .cons (.o1 (.fld 1) (.var 0)) (.o2 .cons (.o1 (.fld 2) (.var 0)) (.o2 .cons (.o1 (.fld 3) (.var 0)) (.o2 .cons (.o1 (.fld 4) (.var 0)) (.o2 .cons (.o1 (.fld 5) (.var 0)) (.o2 .cons (.o1 (.fld 6) (.var 0)) .nil)))))))] [.sc .bool]
  (.call [((.var 2), true), ((.var 3), false)] (.fn 135) [.st [(.int .i64), (.int .i64), (.int .i64), (.int .i64), (.int .i64), (.int .i64), .bool] (.o2 .cons (.o1 (.fld 0) (.var 0)) (.o2 .cons (.o1 (.fld 1) (.var 0)) (.o2 .cons (.o1 (.fld 2) (.var 0)) (.o2 .cons (.o1 (.fld 3) (.var 0)) (.o2 .cons (.o1 (.fld 4) (.var 0)) (.o2 .cons (.o1 (.fld 5) (.var 0)) (.o2 .cons (.o1 (.fld 6) (.var 0)) .nil)))))))] [.sc .bool]
  (.ret [(.o2 .band (.var 2) (.o2 .bor (.var 3) (.var 4)))]))))
  (.br (.o2 .eq (.o1 (.fld 0) (.var 0)) (.int 2))
   (.br (.o2 .eq (.o1 (.fld 5) (.var 0)) (.int 2))
    (.call [] (.fn 134) [.st [(.int .i64), (.int .i64), (.int .i64), (.int .i64), (.int .i64), (.int .i64), .bool] (.o2 .cons (.o1 (.fld 0) (.var 0)) (.o2 .cons (.o1 (.fld 1) (.var 0)) (.o2 .cons (.o1 (.fld 2) (.var 0)) (.o2 .cons (.o1 (.fld 3) (.var 0)) (.o2 .cons (.o1 (.fld 4) (.var 0)) (.o2 .cons (.o1 (.fld 5) (.var 0)) (.o2 .cons (.o1 (.fld 6) (.var 0)) .nil)))))))] [.sc .bool]
    (.ret [(.o2 .band (.var 2) (.o2 .le (.o1 (.fld 4) (.var 0)) (.int 99)))]))
    (.call [] (.fn 134) [.st [(.int .i64), (.int .i64), (.int .i64), (.int .i64), (.int .i64), (.int .i64), .bool] (.o2 .cons (.o1 (.fld 0) (.var 0)) (.o2 .cons (.o1 (.fld 1) (.var 0)) (.o2 .cons (.o1 (.fld 2) (.var 0)) (.o2 .cons (.o1 (.fld 3) (.var 0)) (.o2 .cons (.o1 (.fld 4) (.var 0)) (.o2 .cons (.o1 (.fld 5) (.var 0)) (.o2 .cons (.o1 (.fld 6) (.var 0)) .nil)))))))] [.sc .bool]
    (.call [((.var 2), true)] (.fn 129) [.sc (.int .i64) (.o1 (.fld 5) (.var 0))] [.sc .bool]
    (.ret [(.o2 .band (.o2 .band (.o2 .band (.var 2) (.var 3)) (.o2 .eq (.o1 (.fld 4) (.var 0)) (.int 0))) (.o1 .not (.o1 (.fld 6) (.var 0))))]))))
   (.br (.o2 .eq (.o1 (.fld 0) (.var 0)) (.int 3))
    (.br (.o2 .eq (.o1 (.fld 0) (.var 0)) (.int 3))
     (.call [] (.fn 135) [.st [(.int .i64), (.int .i64), (.int .i64), (.int .i64), (.int .i64), (.int .i64), .bool] (.o2 .cons (.o1 (.fld 0) (.var 0)) (.o2 .cons (.o1 (.fld 1) (.var 0)) (.o2 .cons (.o1 (.fld 2) (.var 0)) (.o2 .cons (.o1 (.fld 3) (.var 0)) (.o2 .cons (.o1 (.fld 4) (.var 0)) (.o2 .cons (.o1 (.fld 5) (.var 0)) (.o2 .cons (.o1 (.fld 6) (.var 0)) .nil)))))))] [.sc .bool]
     (.ret [(.var 2)]))
     (.br (.o2 .eq (.o1 (.fld 0) (.var 0)) (.int 5))
      (.br (.o2 .eq (.o1 (.fld 0) (.var 0)) (.int 5))
       (.call [] (.fn 134) [.st [(.int .i64), (.int .i64), (.int .i64), (.int .i64), (.int .i64), (.int .i64), .bool] (.o2 .cons (.o1 (.fld 0) (.var 0)) (.o2 .cons (.o1 (.fld 1) (.var 0)) (.o2 .cons (.o1 (.fld 2) (.var 0)) (.o2 .cons (.o1 (.fld 3) (.var 0)) (.o2 .cons (.o1 (.fld 4) (.var 0)) (.o2 .cons (.o1 (.fld 5) (.var 0)) (.o2 .cons (.o1 (.fld 6) (.var 0)) .nil)))))))] [.sc .bool]
       (.ret [(.var 2)]))
       (.ret [(.bool false)]))
      (.br (.o2 .eq (.o1 (.fld 0) (.var 0)) (.int 6))
       (.call [] (.fn 134) [.st [(.int .i64), (.int .i64), (.int .i64), (.int .i64), (.int .i64), (.int .i64), .bool] (.o2 .cons (.o1 (.fld 0) (.var 0)) (.o2 .cons (.o1 (.fld 1) (.var 0)) (.o2 .cons (.o1 (.fld 2) (.var 0)) (.o2 .cons (.o1 (.fld 3) (.var 0)) (.o2 .cons (.o1 (.fld 4) (.var 0)) (.o2 .cons (.o1 (.fld 5) (.var 0)) (.o2 .cons (.o1 (.fld 6) (.var 0)) .nil)))))))] [.sc .bool]
       (.ret [(.var 2)]))
       (.ret [(.bool false)]))))
    (.br (.o2 .eq (.o1 (.fld 0) (.var 0)) (.int 4))
     (.call [] (.fn 135) [.st [(.int .i64), (.int .i64), (.int .i64), (.int .i64), (.int .i64), (.int .i64), .bool] (.o2 .cons (.o1 (.fld 0) (.var 0)) (.o2 .cons (.o1 (.fld 1) (.var 0)) (.o2 .cons (.o1 (.fld 2) (.var 0)) (.o2 .cons (.o1 (.fld 3) (.var 0)) (.o2 .cons (.o1 (.fld 4) (.var 0)) (.o2 .cons (.o1 (.fld 5) (.var 0)) (.o2 .cons (.o1 (.fld 6) (.var 0)) .nil)))))))] [.sc .bool]
     (.ret [(.var 2)]))
     (.br (.o2 .eq (.o1 (.fld 0) (.var 0)) (.int 5))
      (.br (.o2 .eq (.o1 (.fld 0) (.var 0)) (.int 5))
       (.call [] (.fn 134) [.st [(.int .i64), (.int .i64), (.int .i64), (.int .i64), (.int .i64), (.int .i64), .bool] (.o2 .cons (.o1 (.fld 0) (.var 0)) (.o2 .cons (.o1 (.fld 1) (.var 0)) (.o2 .cons (.o1 (.fld 2) (.var 0)) (.o2 .cons (.o1 (.fld 3) (.var 0)) (.o2 .cons (.o1 (.fld 4) (.var 0)) (.o2 .cons (.o1 (.fld 5) (.var 0)) (.o2 .cons (.o1 (.fld 6) (.var 0)) .nil)))))))] [.sc .bool]
       (.ret [(.var 2)]))
       (.ret [(.bool false)]))
      (.br (.o2 .eq (.o1 (.fld 0) (.var 0)) (.int 6))
       (.call [] (.fn 134) [.st [(.int .i64), (.int .i64), (.int .i64), (.int .i64), (.int .i64), (.int .i64), .bool] (.o2 .cons (.o1 (.fld 0) (.var 0)) (.o2 .cons (.o1 (.fld 1) (.var 0)) (.o2 .cons (.o1 (.fld 2) (.var 0)) (.o2 .cons (.o1 (.fld 3) (.var 0)) (.o2 .cons (.o1 (.fld 4) (.var 0)) (.o2 .cons (.o1 (.fld 5) (.var 0)) (.o2 .cons (.o1 (.fld 6) (.var 0)) .nil)))))))] [.sc .bool]
       (.ret [(.var 2)]))
       (.ret [(.bool false)])))))))))
theorem sig_97 : sigOf Try.prog md 97 [] = some ([.st [(.int .i64), (.int .i64), (.int .i64), (.int .i64), (.int .i64), (.int .i64), .bool]], [.sc .bool], tree_97) := by kernel_rfl
/- impl.partOk -/
def tree_132 : T :=
(.call [] (.fn 97) [.st [(.int .i64), (.int .i64), (.int .i64), (.int .i64), (.int .i64), (.int .i64), .bool] (.o2 .cons (.o1 (.fld 0) (.var 0)) (.o2 .cons (.o1 (.fld 1) (.var 0)) (.o2 .cons (.o1 (.fld 2) (.var 0)) (.o2 .cons (.o1 (.fld 3) (.var 0)) (.o2 .cons (.o1 (.fld 4) (.var 0)) (.o2 .cons (.o1 (.fld 5) (.var 0)) (.o2 .cons (.o1 (.fld 6) (.var 0)) .nil)))))))] [.sc .bool]
(.br (.var 1)
 (.ret [(.bool true)])
 (.call [((.o2 .band (.o2 .ne (.o1 (.fld 0) (.var 0)) (.int 2)) (.o2 .eq (.o1 (.fld 4) (.var 0)) (.int (-1)))), true)] (.fn 97) [.st [(.int .i64), (.int .i64), (.int .i64), (.int .i64), (.int .i64), (.int .i64), .bool] (.o2 .cons (.o1 (.fld 0) (.var 0)) (.o2 .cons (.o1 (.fld 1) (.var 0)) (.o2 .cons (.o1 (.fld 2) (.var 0)) (.o2 .cons (.o1 (.fld 3) (.var 0)) (.o2 .cons (.int 0) (.o2 .cons (.o1 (.fld 5) (.var 0)) (.o2 .cons (.o1 (.fld 6) (.var 0)) .nil)))))))] [.sc .bool]
 (.ret [(.o2 .band (.o2 .band (.o2 .ne (.o1 (.fld 0) (.var 0)) (.int 2)) (.o2 .eq (.o1 (.fld 4) (.var 0)) (.int (-1)))) (.var 2))]))))
theorem sig_132 : sigOf Try.prog md 132 [] = some ([.st [(.int .i64), (.int .i64), (.int .i64), (.int .i64), (.int .i64), (.int .i64), .bool]], [.sc .bool], tree_132) := by kernel_rfl
/- impl.ActOk$1 -/
def tree_131 : T :=
(.call [] (.fn 132) [.st [(.int .i64), (.int .i64), (.int .i64), (.int .i64), (.int .i64), (.int .i64), .bool] (.o2 .cons (.o1 (.fld 0) (.var 0)) (.o2 .cons (.o1 (.fld 1) (.var 0)) (.o2 .cons (.o1 (.fld 2) (.var 0)) (.o2 .cons (.o1 (.fld 3) (.var 0)) (.o2 .cons (.o1 (.fld 4) (.var 0)) (.o2 .cons (.o1 (.fld 5) (.var 0)) (.o2 .cons (.o1 (.fld 6) (.var 0)) .nil)))))))] [.sc .bool]
(.ret [(.o1 .not (.var 1))]))
theorem sig_131 : sigOf Try.prog md 131 [] = some ([.st [(.int .i64), (.int .i64), (.int .i64), (.int .i64), (.int .i64), (.int .i64), .bool]], [.sc .bool], tree_131) := by kernel_rfl
/- slices.IndexFunc[[]impl.Event,impl.Event] -/
def tree_139 : T :=
(.know (.var 0)
(.loop 0 [(.int 0)]
 (.br (.o2 .lt (.var 2) (.o1 .len (.var 0)))
  (.need [] (.o2 .le (.int 0) (.var 2))
  (.need [] (.o2 .lt (.var 2) (.o1 .len (.var 0)))
  (.call [] (.par 1) [.st [(.int .i64), (.int .i64), (.int .i64), (.int .i64), (.int .i64), (.int .i64), .bool] (.o2 .cons (.o1 (.fld 0) (.o2 .idx (.var 0) (.var 2))) (.o2 .cons (.o1 (.fld 1) (.o2 .idx (.var 0) (.var 2))) (.o2 .cons (.o1 (.fld 2) (.o2 .idx (.var 0) (.var 2))) (.o2 .cons (.o1 (.fld 3) (.o2 .idx (.var 0) (.var 2))) (.o2 .cons (.o1 (.fld 4) (.o2 .idx (.var 0) (.var 2))) (.o2 .cons (.o1 (.fld 5) (.o2 .idx (.var 0) (.var 2))) (.o2 .cons (.o1 (.fld 6) (.o2 .idx (.var 0) (.var 2))) .nil)))))))] [.sc .bool]
  (.br (.var 3)
   (.ret [(.var 2)])
   (.cont 0 [(.o2 (.add .i64) (.var 2) (.int 1))])))))
  (.ret [(.int (-1))]))))
theorem sig_139 : sigOf Try.prog md 139 [] = some ([.sc (.sl [(.int .i64), (.int .i64), (.int .i64), (.int .i64), (.int .i64), (.int .i64), .bool]), .clo], [.sc (.int .i64)], tree_139) := by kernel_rfl
/- slices.ContainsFunc[[]impl.Event,impl.Event] -/
def tree_130 : T :=
(.call [] (.fn 139) [.sc (.sl [(.int .i64), (.int .i64), (.int .i64), (.int .i64), (.int .i64), (.int .i64), .bool]) (.var 0), .clop 1] [.sc (.int .i64)]
(.ret [(.o2 .ge (.var 2) (.int 0))]))
theorem sig_130 : sigOf Try.prog md 130 [] = some ([.sc (.sl [(.int .i64), (.int .i64), (.int .i64), (.int .i64), (.int .i64), (.int .i64), .bool]), .clo], [.sc .bool], tree_130) := by kernel_rfl
/- impl.ActOk -/
def tree_83 : T :=
(.br (.o2 .bor (.o2 .bor (.o2 .bor (.o2 .bor (.o2 .band (.o2 .band (.o2 .ne (.o1 (.fld 0) (.var 0)) (.int 3)) (.o2 .ne (.o1 (.fld 0) (.var 0)) (.int 8))) (.o2 .ne (.o1 (.fld 1) (.var 0)) (.int 0))) (.o2 .band (.o2 .ne (.o1 (.fld 0) (.var 0)) (.int 6)) (.o2 .bor (.o2 .ne (.o1 (.fld 2) (.var 0)) (.int 0)) (.o2 .ne (.o1 (.fld 3) (.var 0)) (.int (-1)))))) (.o2 .band (.o2 .ne (.o1 (.fld 0) (.var 0)) (.int 7)) (.o2 .ne (.o1 (.fld 4) (.var 0)) (.int 0)))) (.o2 .band (.o2 .ne (.o1 (.fld 0) (.var 0)) (.int 8)) (.o1 (.fld 5) (.var 0)))) (.o2 .band (.o2 .ne (.o1 (.fld 0) (.var 0)) (.int 9)) (.o2 .gt (.o1 .len (.o1 (.fld 6) (.var 0))) (.int 0))))
 (.ret [(.bool false)])
 (.br (.o2 .eq (.o1 (.fld 0) (.var 0)) (.int 1))
  (.br (.o2 .eq (.o1 (.fld 0) (.var 0)) (.int 1))
   (.ret [(.bool true)])
   (.br (.o2 .eq (.o1 (.fld 0) (.var 0)) (.int 3))
    (.call [] (.fn 80) [.sc (.int .i64) (.o1 (.fld 1) (.var 0)), .sc (.int .i64) (.int 1), .sc (.int .i64) (.int 2147483647)] [.sc .bool]
    (.ret [(.var 1)]))
    (.br (.o2 .eq (.o1 (.fld 0) (.var 0)) (.int 6))
     (.call [] (.fn 78) [.sc (.int .i64) (.o1 (.fld 2) (.var 0))] [.sc .bool]
     (.call [((.o2 .band (.var 1) (.o2 .eq (.o1 (.fld 3) (.var 0)) (.int (-1)))), false), ((.o2 .eq (.o1 (.fld 2) (.var 0)) (.int 0)), true)] (.fn 79) [.sc (.int .i64) (.o1 (.fld 3) (.var 0))] [.sc .bool]
     (.ret [(.o2 .bor (.o2 .band (.var 1) (.o2 .eq (.o1 (.fld 3) (.var 0)) (.int (-1)))) (.o2 .band (.o2 .eq (.o1 (.fld 2) (.var 0)) (.int 0)) (.var 2)))])))
     (.br (.o2 .eq (.o1 (.fld 0) (.var 0)) (.int 7))
      (.call [] (.fn 129) [.sc (.int .i64) (.o1 (.fld 4) (.var 0))] [.sc .bool]
      (.ret [(.var 1)]))
      (.br (.o2 .eq (.o1 (.fld 0) (.var 0)) (.int 8))
       (.call [] (.fn 80) [.sc (.int .i64) (.o1 (.fld 1) (.var 0)), .sc (.int .i64) (.int 0), .sc (.int .i64) (.int 99)] [.sc .bool]
       (.ret [(.var 1)]))
       (.br (.o2 .eq (.o1 (.fld 0) (.var 0)) (.int 9))
        (.know (.o1 (.fld 6) (.var 0))
        (.call [] (.fn 80) [.sc (.int .i64) (.o1 .len (.o1 (.fld 6) (.var 0))), .sc (.int .i64) (.int 1), .sc (.int .i64) (.int 3)] [.sc .bool]
        (.call [((.var 1), true)] (.fn 130) [.sc (.sl [(.int .i64), (.int .i64), (.int .i64), (.int .i64), (.int .i64), (.int .i64), .bool]) (.o1 (.fld 6) (.var 0)), .clo 131 []] [.sc .bool]
        (.ret [(.o2 .band (.var 1) (.o1 .not (.var 2)))]))))
        (.ret [(.bool false)])))))))
  (.br (.o2 .eq (.o1 (.fld 0) (.var 0)) (.int 2))
   (.br (.o2 .eq (.o1 (.fld 0) (.var 0)) (.int 2))
    (.ret [(.bool true)])
    (.br (.o2 .eq (.o1 (.fld 0) (.var 0)) (.int 3))
     (.call [] (.fn 80) [.sc (.int .i64) (.o1 (.fld 1) (.var 0)), .sc (.int .i64) (.int 1), .sc (.int .i64) (.int 2147483647)] [.sc .bool]
     (.ret [(.var 1)]))
     (.br (.o2 .eq (.o1 (.fld 0) (.var 0)) (.int 6))
      (.call [] (.fn 78) [.sc (.int .i64) (.o1 (.fld 2) (.var 0))] [.sc .bool]
      (.call [((.o2 .band (.var 1) (.o2 .eq (.o1 (.fld 3) (.var 0)) (.int (-1)))), false), ((.o2 .eq (.o1 (.fld 2) (.var 0)) (.int 0)), true)] (.fn 79) [.sc (.int .i64) (.o1 (.fld 3) (.var 0))] [.sc .bool]
      (.ret [(.o2 .bor (.o2 .band (.var 1) (.o2 .eq (.o1 (.fld 3) (.var 0)) (.int (-1)))) (.o2 .band (.o2 .eq (.o1 (.fld 2) (.var 0)) (.int 0)) (.var 2)))])))
      (.br (.o2 .eq (.o1 (.fld 0) (.var 0)) (.int 7))
       (.call [] (.fn 129) [.sc (.int .i64) (.o1 (.fld 4) (.var 0))] [.sc .bool]
       (.ret [(.var 1)]))
       (.br (.o2 .eq (.o1 (.fld 0) (.var 0)) (.int 8))
        (.call [] (.fn 80) [.sc (.int .i64) (.o1 (.fld 1) (.var 0)), .sc (.int .i64) (.int 0), .sc (.int .i64) (.int 99)] [.sc .bool]
        (.ret [(.var 1)]))
        (.br (.o2 .eq (.o1 (.fld 0) (.var 0)) (.int 9))
         (.know (.o1 (.fld 6) (.var 0))
         (.call [] (.fn 80) [.sc (.int .i64) (.o1 .len (.o1 (.fld 6) (.var 0))), .sc (.int .i64) (.int 1), .sc (.int .i64) (.int 3)] [.sc .bool]
         (.call [((.var 1), true)] (.fn 130) [.sc (.sl [(.int .i64), (.int .i64), (.int .i64), (.int .i64), (.int .i64), (.int .i64), .bool]) (.o1 (.fld 6) (.var 0)), .clo 131 []] [.sc .bool]
         (.ret [(.o2 .band (.var 1) (.o1 .not (.var 2)))]))))
         (.ret [(.bool false)])))))))
   (.br (.o2 .eq (.o1 (.fld 0) (.var 0)) (.int 4))
    (.br (.o2 .eq (.o1 (.fld 0) (.var 0)) (.int 4))
     (.ret [(.bool true)])
     (.br (.o2 .eq (.o1 (.fld 0) (.var 0)) (.int 3))
      (.call [] (.fn 80) [.sc (.int .i64) (.o1 (.fld 1) (.var 0)), .sc (.int .i64) (.int 1), .sc (.int .i64) (.int 2147483647)] [.sc .bool]
      (.ret [(.var 1)]))
      (.br (.o2 .eq (.o1 (.fld 0) (.var 0)) (.int 6))
       (.call [] (.fn 78) [.sc (.int .i64) (.o1 (.fld 2) (.var 0))] [.sc .bool]
       (.call [((.o2 .band (.var 1) (.o2 .eq (.o1 (.fld 3) (.var 0)) (.int (-1)))), false), ((.o2 .eq (.o1 (.fld 2) (.var 0)) (.int 0)), true)] (.fn 79) [.sc (.int .i64) (.o1 (.fld 3) (.var 0))] [.sc .bool]
       (.ret [(.o2 .bor (.o2 .band (.var 1) (.o2 .eq (.o1 (.fld 3) (.var 0)) (.int (-1)))) (.o2 .band (.o2 .eq (.o1 (.fld 2) (.var 0)) (.int 0)) (.var 2)))])))
       (.br (.o2 .eq (.o1 (.fld 0) (.var 0)) (.int 7))
        (.call [] (.fn 129) [.sc (.int .i64) (.o1 (.fld 4) (.var 0))] [.sc .bool]
        (.ret [(.var 1)]))
        (.br (.o2 .eq (.o1 (.fld 0) (.var 0)) (.int 8))
         (.call [] (.fn 80) [.sc (.int .i64) (.o1 (.fld 1) (.var 0)), .sc (.int .i64) (.int 0), .sc (.int .i64) (.int 99)] [.sc .bool]
         (.ret [(.var 1)]))
         (.br (.o2 .eq (.o1 (.fld 0) (.var 0)) (.int 9))
          (.know (.o1 (.fld 6) (.var 0))
          (.call [] (.fn 80) [.sc (.int .i64) (.o1 .len (.o1 (.fld 6) (.var 0))), .sc (.int .i64) (.int 1), .sc (.int .i64) (.int 3)] [.sc .bool]
          (.call [((.var 1), true)] (.fn 130) [.sc (.sl [(.int .i64), (.int .i64), (.int .i64), (.int .i64), (.int .i64), (.int .i64), .bool]) (.o1 (.fld 6) (.var 0)), .clo 131 []] [.sc .bool]
          (.ret [(.o2 .band (.var 1) (.o1 .not (.var 2)))]))))
          (.ret [(.bool false)])))))))
    (.br (.o2 .eq (.o1 (.fld 0) (.var 0)) (.int 5))
     (.ret [(.bool true)])
     (.br (.o2 .eq (.o1 (.fld 0) (.var 0)) (.int 3))
      (.call [] (.fn 80) [.sc (.int .i64) (.o1 (.fld 1) (.var 0)), .sc (.int .i64) (.int 1), .sc (.int .i64) (.int 2147483647)] [.sc .bool]
      (.ret [(.var 1)]))
      (.br (.o2 .eq (.o1 (.fld 0) (.var 0)) (.int 6))
       (.call [] (.fn 78) [.sc (.int .i64) (.o1 (.fld 2) (.var 0))] [.sc .bool]
       (.call [((.o2 .band (.var 1) (.o2 .eq (.o1 (.fld 3) (.var 0)) (.int (-1)))), false), ((.o2 .eq (.o1 (.fld 2) (.var 0)) (.int 0)), true)] (.fn 79) [.sc (.int .i64) (.o1 (.fld 3) (.var 0))] [.sc .bool]
       (.ret [(.o2 .bor (.o2 .band (.var 1) (.o2 .eq (.o1 (.fld 3) (.var 0)) (.int (-1)))) (.o2 .band (.o2 .eq (.o1 (.fld 2) (.var 0)) (.int 0)) (.var 2)))])))
       (.br (.o2 .eq (.o1 (.fld 0) (.var 0)) (.int 7))
        (.call [] (.fn 129) [.sc (.int .i64) (.o1 (.fld 4) (.var 0))] [.sc .bool]
        (.ret [(.var 1)]))
        (.br (.o2 .eq (.o1 (.fld 0) (.var 0)) (.int 8))
         (.call [] (.fn 80) [.sc (.int .i64) (.o1 (.fld 1) (.var 0)), .sc (.int .i64) (.int 0), .sc (.int .i64) (.int 99)] [.sc .bool]
         (.ret [(.var 1)]))
         (.br (.o2 .eq (.o1 (.fld 0) (.var 0)) (.int 9))
          (.know (.o1 (.fld 6) (.var 0))
          (.call [] (.fn 80) [.sc (.int .i64) (.o1 .len (.o1 (.fld 6) (.var 0))), .sc (.int .i64) (.int 1), .sc (.int .i64) (.int 3)] [.sc .bool]
          (.call [((.var 1), true)] (.fn 130) [.sc (.sl [(.int .i64), (.int .i64), (.int .i64), (.int .i64), (.int .i64), (.int .i64), .bool]) (.o1 (.fld 6) (.var 0)), .clo 131 []] [.sc .bool]
          (.ret [(.o2 .band (.var 1) (.o1 .not (.var 2)))]))))
          (.ret [(.bool false)])))))))))))
theorem sig_83 : sigOf Try.prog md 83 [] = some ([.st [(.int .i64), (.int .i64), (.int .i64), (.int .i64), (.int .i64), .bool, (.sl [(.int .i64), (.int .i64), (.int .i64), (.int .i64), (.int .i64), (.int .i64), .bool])]], [.sc .bool], tree_83) := by kernel_rfl
/- impl.ActFits -/
def tree_84 : T :=
(.call [] (.fn 126) [.sc (.int .i64) (.var 1)] [.sc .bool]
(.br (.o1 .not (.var 2))
 (.ret [(.bool false)])
 (.br (.o2 .eq (.o1 (.fld 0) (.var 0)) (.int 1))
  (.br (.o2 .eq (.o1 (.fld 0) (.var 0)) (.int 1))
   (.ret [(.bool true)])
   (.br (.o2 .eq (.o1 (.fld 0) (.var 0)) (.int 2))
    (.br (.o2 .eq (.o1 (.fld 0) (.var 0)) (.int 2))
     (.ret [(.o2 .eq (.var 1) (.int 1))])
     (.br (.o2 .eq (.o1 (.fld 0) (.var 0)) (.int 3))
      (.br (.o2 .eq (.o1 (.fld 0) (.var 0)) (.int 3))
       (.ret [(.o2 .ne (.var 1) (.int 2))])
       (.br (.o2 .eq (.o1 (.fld 0) (.var 0)) (.int 7))
        (.br (.o2 .eq (.o1 (.fld 0) (.var 0)) (.int 7))
         (.ret [(.o2 .eq (.var 1) (.int 2))])
         (.ret [(.bool false)]))
        (.br (.o2 .eq (.o1 (.fld 0) (.var 0)) (.int 8))
         (.ret [(.o2 .eq (.var 1) (.int 2))])
         (.ret [(.bool false)]))))
      (.br (.o2 .eq (.o1 (.fld 0) (.var 0)) (.int 4))
       (.br (.o2 .eq (.o1 (.fld 0) (.var 0)) (.int 4))
        (.ret [(.o2 .ne (.var 1) (.int 2))])
        (.br (.o2 .eq (.o1 (.fld 0) (.var 0)) (.int 7))
         (.br (.o2 .eq (.o1 (.fld 0) (.var 0)) (.int 7))
          (.ret [(.o2 .eq (.var 1) (.int 2))])
          (.ret [(.bool false)]))
         (.br (.o2 .eq (.o1 (.fld 0) (.var 0)) (.int 8))
          (.ret [(.o2 .eq (.var 1) (.int 2))])
          (.ret [(.bool false)]))))
       (.br (.o2 .eq (.o1 (.fld 0) (.var 0)) (.int 5))
        (.ret [(.o2 .ne (.var 1) (.int 2))])
        (.br (.o2 .eq (.o1 (.fld 0) (.var 0)) (.int 7))
         (.br (.o2 .eq (.o1 (.fld 0) (.var 0)) (.int 7))
          (.ret [(.o2 .eq (.var 1) (.int 2))])
          (.ret [(.bool false)]))
         (.br (.o2 .eq (.o1 (.fld 0) (.var 0)) (.int 8))
          (.ret [(.o2 .eq (.var 1) (.int 2))])
          (.ret [(.bool false)])))))))
    (.br (.o2 .eq (.o1 (.fld 0) (.var 0)) (.int 6))
     (.ret [(.o2 .eq (.var 1) (.int 1))])
     (.br (.o2 .eq (.o1 (.fld 0) (.var 0)) (.int 3))
      (.br (.o2 .eq (.o1 (.fld 0) (.var 0)) (.int 3))
       (.ret [(.o2 .ne (.var 1) (.int 2))])
       (.br (.o2 .eq (.o1 (.fld 0) (.var 0)) (.int 7))
        (.br (.o2 .eq (.o1 (.fld 0) (.var 0)) (.int 7))
         (.ret [(.o2 .eq (.var 1) (.int 2))])
         (.ret [(.bool false)]))
        (.br (.o2 .eq (.o1 (.fld 0) (.var 0)) (.int 8))
         (.ret [(.o2 .eq (.var 1) (.int 2))])
         (.ret [(.bool false)]))))
      (.br (.o2 .eq (.o1 (.fld 0) (.var 0)) (.int 4))
       (.br (.o2 .eq (.o1 (.fld 0) (.var 0)) (.int 4))
        (.ret [(.o2 .ne (.var 1) (.int 2))])
        (.br (.o2 .eq (.o1 (.fld 0) (.var 0)) (.int 7))
         (.br (.o2 .eq (.o1 (.fld 0) (.var 0)) (.int 7))
          (.ret [(.o2 .eq (.var 1) (.int 2))])
          (.ret [(.bool false)]))
         (.br (.o2 .eq (.o1 (.fld 0) (.var 0)) (.int 8))
          (.ret [(.o2 .eq (.var 1) (.int 2))])
          (.ret [(.bool false)]))))
       (.br (.o2 .eq (.o1 (.fld 0) (.var 0)) (.int 5))
        (.ret [(.o2 .ne (.var 1) (.int 2))])
        (.br (.o2 .eq (.o1 (.fld 0) (.var 0)) (.int 7))
         (.br (.o2 .eq (.o1 (.fld 0) (.var 0)) (.int 7))
          (.ret [(.o2 .eq (.var 1) (.int 2))])
          (.ret [(.bool false)]))
         (.br (.o2 .eq (.o1 (.fld 0) (.var 0)) (.int 8))
          (.ret [(.o2 .eq (.var 1) (.int 2))])
          (.ret [(.bool false)])))))))))
  (.br (.o2 .eq (.o1 (.fld 0) (.var 0)) (.int 9))
   (.ret [(.bool true)])
   (.br (.o2 .eq (.o1 (.fld 0) (.var 0)) (.int 2))
    (.br (.o2 .eq (.o1 (.fld 0) (.var 0)) (.int 2))
     (.ret [(.o2 .eq (.var 1) (.int 1))])
     (.br (.o2 .eq (.o1 (.fld 0) (.var 0)) (.int 3))
      (.br (.o2 .eq (.o1 (.fld 0) (.var 0)) (.int 3))
       (.ret [(.o2 .ne (.var 1) (.int 2))])
       (.br (.o2 .eq (.o1 (.fld 0) (.var 0)) (.int 7))
        (.br (.o2 .eq (.o1 (.fld 0) (.var 0)) (.int 7))
         (.ret [(.o2 .eq (.var 1) (.int 2))])
         (.ret [(.bool false)]))
        (.br (.o2 .eq (.o1 (.fld 0) (.var 0)) (.int 8))
         (.ret [(.o2 .eq (.var 1) (.int 2))])
         (.ret [(.bool false)]))))
      (.br (.o2 .eq (.o1 (.fld 0) (.var 0)) (.int 4))
       (.br (.o2 .eq (.o1 (.fld 0) (.var 0)) (.int 4))
        (.ret [(.o2 .ne (.var 1) (.int 2))])
        (.br (.o2 .eq (.o1 (.fld 0) (.var 0)) (.int 7))
         (.br (.o2 .eq (.o1 (.fld 0) (.var 0)) (.int 7))
          (.ret [(.o2 .eq (.var 1) (.int 2))])
          (.ret [(.bool false)]))
         (.br (.o2 .eq (.o1 (.fld 0) (.var 0)) (.int 8))
          (.ret [(.o2 .eq (.var 1) (.int 2))])
          (.ret [(.bool false)]))))
       (.br (.o2 .eq (.o1 (.fld 0) (.var 0)) (.int 5))
        (.ret [(.o2 .ne (.var 1) (.int 2))])
        (.br (.o2 .eq (.o1 (.fld 0) (.var 0)) (.int 7))
         (.br (.o2 .eq (.o1 (.fld 0) (.var 0)) (.int 7))
          (.ret [(.o2 .eq (.var 1) (.int 2))])
          (.ret [(.bool false)]))
         (.br (.o2 .eq (.o1 (.fld 0) (.var 0)) (.int 8))
          (.ret [(.o2 .eq (.var 1) (.int 2))])
          (.ret [(.bool false)])))))))
    (.br (.o2 .eq (.o1 (.fld 0) (.var 0)) (.int 6))
     (.ret [(.o2 .eq (.var 1) (.int 1))])
     (.br (.o2 .eq (.o1 (.fld 0) (.var 0)) (.int 3))
      (.br (.o2 .eq (.o1 (.fld 0) (.var 0)) (.int 3))
       (.ret [(.o2 .ne (.var 1) (.int 2))])
       (.br (.o2 .eq (.o1 (.fld 0) (.var 0)) (.int 7))
        (.br (.o2 .eq (.o1 (.fld 0) (.var 0)) (.int 7))
         (.ret [(.o2 .eq (.var 1) (.int 2))])
         (.ret [(.bool false)]))
        (.br (.o2 .eq (.o1 (.fld 0) (.var 0)) (.int 8))
         (.ret [(.o2 .eq (.var 1) (.int 2))])
         (.ret [(.bool false)]))))
      (.br (.o2 .eq (.o1 (.fld 0) (.var 0)) (.int 4))
       (.br (.o2 .eq (.o1 (.fld 0) (.var 0)) (.int 4))
        (.ret [(.o2 .ne (.var 1) (.int 2))])
        (.br (.o2 .eq (.o1 (.fld 0) (.var 0)) (.int 7))
         (.br (.o2 .eq (.o1 (.fld 0) (.var 0)) (.int 7))
          (.ret [(.o2 .eq (.var 1) (.int 2))])
          (.ret [(.bool false)]))
         (.br (.o2 .eq (.o1 (.fld 0) (.var 0)) (.int 8))
          (.ret [(.o2 .eq (.var 1) (.int 2))])
          (.ret [(.bool false)]))))
       (.br (.o2 .eq (.o1 (.fld 0) (.var 0)) (.int 5))
        (.ret [(.o2 .ne (.var 1) (.int 2))])
        (.br (.o2 .eq (.o1 (.fld 0) (.var 0)) (.int 7))
         (.br (.o2 .eq (.o1 (.fld 0) (.var 0)) (.int 7))
          (.ret [(.o2 .eq (.var 1) (.int 2))])
          (.ret [(.bool false)]))
         (.br (.o2 .eq (.o1 (.fld 0) (.var 0)) (.int 8))
          (.ret [(.o2 .eq (.var 1) (.int 2))])
          (.ret [(.bool false)]))))))))))))
theorem sig_84 : sigOf Try.prog md 84 [] = some ([.st [(.int .i64), (.int .i64), (.int .i64), (.int .i64), (.int .i64), .bool, (.sl [(.int .i64), (.int .i64), (.int .i64), (.int .i64), (.int .i64), (.int .i64), .bool])], .sc (.int .i64)], [.sc .bool], tree_84) := by kernel_rfl
/- impl.EffectOk -/
def tree_29 : T :=
(.br (.o2 .eq (.o1 (.fld 13) (.var 0)) (.int 2))
 (.call [] (.fn 78) [.sc (.int .i64) (.o1 (.fld 0) (.var 0))] [.sc .bool]
 (.call [((.var 1), true)] (.fn 79) [.sc (.int .i64) (.o1 (.fld 1) (.var 0))] [.sc .bool]
 (.call [((.o2 .band (.var 1) (.var 2)), true)] (.fn 80) [.sc (.int .i64) (.o1 (.fld 2) (.var 0)), .sc (.int .i64) (.int 0), .sc (.int .i64) (.int 99)] [.sc .bool]
 (.call [((.o2 .band (.o2 .band (.var 1) (.var 2)) (.var 3)), true)] (.fn 80) [.sc (.int .i64) (.o1 (.fld 3) (.var 0)), .sc (.int .i64) (.int 0), .sc (.int .i64) (.int 4)] [.sc .bool]
 (.call [((.o2 .band (.o2 .band (.o2 .band (.o2 .band (.var 1) (.var 2)) (.var 3)) (.var 4)) (.o2 .bor (.o2 .ne (.o1 (.fld 3) (.var 0)) (.int 0)) (.o2 .ne (.o1 (.fld 2) (.var 0)) (.int 0)))), true)] (.fn 81) [.st [(.int .i64), (.int .i64), (.int .i64), (.int .i64), (.int .i64), (.int .i64), (.int .i64)] (.o2 .cons (.o1 (.fld 4) (.var 0)) (.o2 .cons (.o1 (.fld 5) (.var 0)) (.o2 .cons (.o1 (.fld 6) (.var 0)) (.o2 .cons (.o1 (.fld 7) (.var 0)) (.o2 .cons (.o1 (.fld 8) (.var 0)) (.o2 .cons (.o1 (.fld 9) (.var 0)) (.o2 .cons (.o1 (.fld 10) (.var 0)) .nil)))))))] [.sc .bool]
 (.call [((.o2 .band (.o2 .band (.o2 .band (.o2 .band (.o2 .band (.var 1) (.var 2)) (.var 3)) (.var 4)) (.o2 .bor (.o2 .ne (.o1 (.fld 3) (.var 0)) (.int 0)) (.o2 .ne (.o1 (.fld 2) (.var 0)) (.int 0)))) (.var 5)), true)] (.fn 82) [.st [(.int .i64), (.int .i64)] (.o2 .cons (.o1 (.fld 11) (.var 0)) (.o2 .cons (.o1 (.fld 12) (.var 0)) .nil))] [.sc .bool]
 (.call [((.o2 .band (.o2 .band (.o2 .band (.o2 .band (.o2 .band (.o2 .band (.var 1) (.var 2)) (.var 3)) (.var 4)) (.o2 .bor (.o2 .ne (.o1 (.fld 3) (.var 0)) (.int 0)) (.o2 .ne (.o1 (.fld 2) (.var 0)) (.int 0)))) (.var 5)) (.var 6)), true)] (.fn 83) [.st [(.int .i64), (.int .i64), (.int .i64), (.int .i64), (.int .i64), .bool, (.sl [(.int .i64), (.int .i64), (.int .i64), (.int .i64), (.int .i64), (.int .i64), .bool])] (.o2 .cons (.o1 (.fld 13) (.var 0)) (.o2 .cons (.o1 (.fld 14) (.var 0)) (.o2 .cons (.o1 (.fld 15) (.var 0)) (.o2 .cons (.o1 (.fld 16) (.var 0)) (.o2 .cons (.o1 (.fld 17) (.var 0)) (.o2 .cons (.o1 (.fld 18) (.var 0)) (.o2 .cons (.o1 (.fld 19) (.var 0)) .nil)))))))] [.sc .bool]
 (.call [((.o2 .band (.o2 .band (.o2 .band (.o2 .band (.o2 .band (.o2 .band (.o2 .band (.var 1) (.var 2)) (.var 3)) (.var 4)) (.o2 .bor (.o2 .ne (.o1 (.fld 3) (.var 0)) (.int 0)) (.o2 .ne (.o1 (.fld 2) (.var 0)) (.int 0)))) (.var 5)) (.var 6)) (.var 7)), true)] (.fn 84) [.st [(.int .i64), (.int .i64), (.int .i64), (.int .i64), (.int .i64), .bool, (.sl [(.int .i64), (.int .i64), (.int .i64), (.int .i64), (.int .i64), (.int .i64), .bool])] (.o2 .cons (.o1 (.fld 13) (.var 0)) (.o2 .cons (.o1 (.fld 14) (.var 0)) (.o2 .cons (.o1 (.fld 15) (.var 0)) (.o2 .cons (.o1 (.fld 16) (.var 0)) (.o2 .cons (.o1 (.fld 17) (.var 0)) (.o2 .cons (.o1 (.fld 18) (.var 0)) (.o2 .cons (.o1 (.fld 19) (.var 0)) .nil))))))), .sc (.int .i64) (.o1 (.fld 4) (.var 0))] [.sc .bool]
 (.call [((.o2 .band (.o2 .band (.o2 .band (.o2 .band (.o2 .band (.o2 .band (.o2 .band (.o2 .band (.var 1) (.var 2)) (.var 3)) (.var 4)) (.o2 .bor (.o2 .ne (.o1 (.fld 3) (.var 0)) (.int 0)) (.o2 .ne (.o1 (.fld 2) (.var 0)) (.int 0)))) (.var 5)) (.var 6)) (.var 7)) (.var 8)), true)] (.fn 80) [.sc (.int .i64) (.o1 (.fld 20) (.var 0)), .sc (.int .i64) (.int (-1)), .sc (.int .i64) (.int 9999)] [.sc .bool]
 (.call [((.o2 .band (.o2 .band (.o2 .band (.o2 .band (.o2 .band (.o2 .band (.o2 .band (.o2 .band (.o2 .band (.var 1) (.var 2)) (.var 3)) (.var 4)) (.o2 .bor (.o2 .ne (.o1 (.fld 3) (.var 0)) (.int 0)) (.o2 .ne (.o1 (.fld 2) (.var 0)) (.int 0)))) (.var 5)) (.var 6)) (.var 7)) (.var 8)) (.var 9)), true)] (.fn 80) [.sc (.int .i64) (.o1 (.fld 21) (.var 0)), .sc (.int .i64) (.int 0), .sc (.int .i64) (.int 2147483647)] [.sc .bool]
 (.ret [(.o2 .band (.o2 .band (.o2 .band (.o2 .band (.o2 .band (.o2 .band (.o2 .band (.o2 .band (.o2 .band (.o2 .band (.var 1) (.var 2)) (.var 3)) (.var 4)) (.o2 .bor (.o2 .ne (.o1 (.fld 3) (.var 0)) (.int 0)) (.o2 .ne (.o1 (.fld 2) (.var 0)) (.int 0)))) (.var 5)) (.var 6)) (.var 7)) (.var 8)) (.var 9)) (.var 10))])))))))))))
 (.call [] (.fn 78) [.sc (.int .i64) (.o1 (.fld 0) (.var 0))] [.sc .bool]
 (.call [((.var 1), true)] (.fn 79) [.sc (.int .i64) (.o1 (.fld 1) (.var 0))] [.sc .bool]
 (.call [((.o2 .band (.var 1) (.var 2)), true)] (.fn 80) [.sc (.int .i64) (.o1 (.fld 2) (.var 0)), .sc (.int .i64) (.int 0), .sc (.int .i64) (.int 99)] [.sc .bool]
 (.call [((.o2 .band (.o2 .band (.var 1) (.var 2)) (.var 3)), true)] (.fn 80) [.sc (.int .i64) (.o1 (.fld 3) (.var 0)), .sc (.int .i64) (.int 0), .sc (.int .i64) (.int 4)] [.sc .bool]
 (.call [((.o2 .band (.o2 .band (.o2 .band (.o2 .band (.var 1) (.var 2)) (.var 3)) (.var 4)) (.o2 .bor (.o2 .ne (.o1 (.fld 3) (.var 0)) (.int 0)) (.o2 .ne (.o1 (.fld 2) (.var 0)) (.int 0)))), true)] (.fn 81) [.st [(.int .i64), (.int .i64), (.int .i64), (.int .i64), (.int .i64), (.int .i64), (.int .i64)] (.o2 .cons (.o1 (.fld 4) (.var 0)) (.o2 .cons (.o1 (.fld 5) (.var 0)) (.o2 .cons (.o1 (.fld 6) (.var 0)) (.o2 .cons (.o1 (.fld 7) (.var 0)) (.o2 .cons (.o1 (.fld 8) (.var 0)) (.o2 .cons (.o1 (.fld 9) (.var 0)) (.o2 .cons (.o1 (.fld 10) (.var 0)) .nil)))))))] [.sc .bool]
 (.call [((.o2 .band (.o2 .band (.o2 .band (.o2 .band (.o2 .band (.var 1) (.var 2)) (.var 3)) (.var 4)) (.o2 .bor (.o2 .ne (.o1 (.fld 3) (.var 0)) (.int 0)) (.o2 .ne (.o1 (.fld 2) (.var 0)) (.int 0)))) (.var 5)), true)] (.fn 82) [.st [(.int .i64), (.int .i64)] (.o2 .cons (.o1 (.fld 11) (.var 0)) (.o2 .cons (.o1 (.fld 12) (.var 0)) .nil))] [.sc .bool]
 (.call [((.o2 .band (.o2 .band (.o2 .band (.o2 .band (.o2 .band (.o2 .band (.var 1) (.var 2)) (.var 3)) (.var 4)) (.o2 .bor (.o2 .ne (.o1 (.fld 3) (.var 0)) (.int 0)) (.o2 .ne (.o1 (.fld 2) (.var 0)) (.int 0)))) (.var 5)) (.var 6)), true)] (.fn 83) [.st [(.int .i64), (.int .i64), (.int .i64), (.int .i64), (.int .i64), .bool, (.sl [(.int .i64), (.int .i64), (.int .i64), (.int .i64), (.int .i64), (.int .i64), .bool])] (.o2 .cons (.o1 (.fld 13) (.var 0)) (.o2 .cons (.o1 (.fld 14) (.var 0)) (.o2 .cons (.o1 (.fld 15) (.var 0)) (.o2 .cons (.o1 (.fld 16) (.var 0)) (.o2 .cons (.o1 (.fld 17) (.var 0)) (.o2 .cons (.o1 (.fld 18) (.var 0)) (.o2 .cons (.o1 (.fld 19) (.var 0)) .nil)))))))] [.sc .bool]
 (.call [((.o2 .band (.o2 .band (.o2 .band (.o2 .band (.o2 .band (.o2 .band (.o2 .band (.var 1) (.var 2)) (.var 3)) (.var 4)) (.o2 .bor (.o2 .ne (.o1 (.fld 3) (.var 0)) (.int 0)) (.o2 .ne (.o1 (.fld 2) (.var 0)) (.int 0)))) (.var 5)) (.var 6)) (.var 7)), true)] (.fn 84) [.st [(.int .i64), (.int .i64), (.int .i64), (.int .i64), (.int .i64), .bool, (.sl [(.int .i64), (.int .i64), (.int .i64), (.int .i64), (.int .i64), (.int .i64), .bool])] (.o2 .cons (.o1 (.fld 13) (.var 0)) (.o2 .cons (.o1 (.fld 14) (.var 0)) (.o2 .cons (.o1 (.fld 15) (.var 0)) (.o2 .cons (.o1 (.fld 16) (.var 0)) (.o2 .cons (.o1 (.fld 17) (.var 0)) (.o2 .cons (.o1 (.fld 18) (.var 0)) (.o2 .cons (.o1 (.fld 19) (.var 0)) .nil))))))), .sc (.int .i64) (.o1 (.fld 4) (.var 0))] [.sc .bool]
 (.call [((.o2 .band (.o2 .band (.o2 .band (.o2 .band (.o2 .band (.o2 .band (.o2 .band (.o2 .band (.var 1) (.var 2)) (.var 3)) (.var 4)) (.o2 .bor (.o2 .ne (.o1 (.fld 3) (.var 0)) (.int 0)) (.o2 .ne (.o1 (.fld 2) (.var 0)) (.int 0)))) (.var 5)) (.var 6)) (.var 7)) (.var 8)), true)] (.fn 80) [.sc (.int .i64) (.o1 (.fld 20) (.var 0)), .sc (.int .i64) (.int (-1)), .sc (.int .i64) (.int 9999)] [.sc .bool]
 (.call [((.o2 .band (.o2 .band (.o2 .band (.o2 .band (.o2 .band (.o2 .band (.o2 .band (.o2 .band (.o2 .band (.var 1) (.var 2)) (.var 3)) (.var 4)) (.o2 .bor (.o2 .ne (.o1 (.fld 3) (.var 0)) (.int 0)) (.o2 .ne (.o1 (.fld 2) (.var 0)) (.int 0)))) (.var 5)) (.var 6)) (.var 7)) (.var 8)) (.var 9)), true)] (.fn 80) [.sc (.int .i64) (.o1 (.fld 21) (.var 0)), .sc (.int .i64) (.int (-1)), .sc (.int .i64) (.int 2147483647)] [.sc .bool]
 (.ret [(.o2 .band (.o2 .band (.o2 .band (.o2 .band (.o2 .band (.o2 .band (.o2 .band (.o2 .band (.o2 .band (.o2 .band (.var 1) (.var 2)) (.var 3)) (.var 4)) (.o2 .bor (.o2 .ne (.o1 (.fld 3) (.var 0)) (.int 0)) (.o2 .ne (.o1 (.fld 2) (.var 0)) (.int 0)))) (.var 5)) (.var 6)) (.var 7)) (.var 8)) (.var 9)) (.var 10))]))))))))))))
theorem sig_29 : sigOf Try.prog md 29 [] = some ([.st [(.int .i64), (.int .i64), (.int .i64), (.int .i64), (.int .i64), (.int .i64), (.int .i64), (.int .i64), (.int .i64), (.int .i64), (.int .i64), (.int .i64), (.int .i64), (.int .i64), (.int .i64), (.int .i64), (.int .i64), (.int .i64), .bool, (.sl [(.int .i64), (.int .i64), (.int .i64), (.int .i64), (.int .i64), (.int .i64), .bool]), (.int .i64), (.int .i64)]], [.sc .bool], tree_29) := by kernel_rfl
/- impl.Lives -/
def tree_89 : T :=
(.ret [(.o2 .band (.o2 .ne (.o1 (.fld 21) (.var 0)) (.int 0)) (.o2 .bor (.o2 .eq (.o1 (.fld 20) (.var 0)) (.int (-1))) (.o2 .ge (.o1 (.fld 20) (.var 0)) (.var 1))))])
theorem sig_89 : sigOf Try.prog md 89 [] = some ([.st [(.int .i64), (.int .i64), (.int .i64), (.int .i64), (.int .i64), (.int .i64), (.int .i64), (.int .i64), (.int .i64), (.int .i64), (.int .i64), (.int .i64), (.int .i64), (.int .i64), (.int .i64), (.int .i64), (.int .i64), (.int .i64), .bool, (.sl [(.int .i64), (.int .i64), (.int .i64), (.int .i64), (.int .i64), (.int .i64), .bool]), (.int .i64), (.int .i64)], .sc (.int .i64)], [.sc .bool], tree_89) := by kernel_rfl
/- impl.Near -/
def tree_110 : T :=
(.ret [(.o2 .bor (.o2 .bor (.o2 .ne (.o1 (.fld 3) (.var 0)) (.int 0)) (.o2 .eq (.o1 (.fld 2) (.var 0)) (.o1 (.fld 1) (.var 1)))) (.o2 .eq (.o1 (.fld 2) (.var 0)) (.o1 (.fld 2) (.var 1))))])
theorem sig_110 : sigOf Try.prog md 110 [] = some ([.st [(.int .i64), (.int .i64), (.int .i64), (.int .i64), (.int .i64), (.int .i64), (.int .i64), (.int .i64), (.int .i64), (.int .i64), (.int .i64), (.int .i64), (.int .i64), (.int .i64), (.int .i64), (.int .i64), (.int .i64), (.int .i64), .bool, (.sl [(.int .i64), (.int .i64), (.int .i64), (.int .i64), (.int .i64), (.int .i64), .bool]), (.int .i64), (.int .i64)], .st [(.int .i64), (.int .i64), (.int .i64), (.int .i64), (.int .i64), (.int .i64), .bool]], [.sc .bool], tree_110) := by kernel_rfl
/- impl.isSide -/
def tree_146 : T :=
(.know (.o1 (.fld 1) (.var 0))
(.call [] (.fn 80) [.sc (.int .i64) (.var 1), .sc (.int .i64) (.int 0), .sc (.int .i64) (.o2 (.sub .i64) (.o1 .len (.o1 (.fld 1) (.var 0))) (.int 1))] [.sc .bool]
(.ret [(.var 2)])))
theorem sig_146 : sigOf Try.prog md 146 [] = some ([.st [(.sl [(.int .i64), (.int .i64), (.int .i64), (.int .i64), (.int .i64), (.int .i64), (.int .i64), (.int .i64), (.int .i64), (.int .i64), (.int .i64), .bool, .bool]), (.sl [(.int .i64), (.int .i64), .bool]), (.int .i64), (.int .i64)], .sc (.int .i64)], [.sc .bool], tree_146) := by kernel_rfl
/- impl.OnField -/
def tree_147 : T :=
(.know (.o1 (.fld 0) (.var 0))
(.loop 0 [(.int 0), .nil]
 (.br (.o2 .lt (.var 2) (.o1 .len (.o1 (.fld 0) (.var 0))))
  (.need [] (.o2 .le (.int 0) (.var 2))
  (.need [] (.o2 .lt (.var 2) (.o1 .len (.o1 (.fld 0) (.var 0))))
  (.br (.o2 .band (.o2 .eq (.o1 (.fld 3) (.o2 .idx (.o1 (.fld 0) (.var 0)) (.var 2))) (.int 2)) (.o2 .bor (.o2 .eq (.var 1) (.int (-1))) (.o2 .eq (.o1 (.fld 2) (.o2 .idx (.o1 (.fld 0) (.var 0)) (.var 2))) (.var 1))))
   (.need [] (.o2 (.fits 8) (.o1 .len (.var 3)) (.o1 .len (.o2 .cons (.o2 .cons (.o1 (.fld 0) (.o2 .idx (.o1 (.fld 0) (.var 0)) (.var 2))) .nil) .nil)))
   (.cont 0 [(.o2 (.add .i64) (.var 2) (.int 1)), (.o2 .app (.var 3) (.o2 .cons (.o2 .cons (.o1 (.fld 0) (.o2 .idx (.o1 (.fld 0) (.var 0)) (.var 2))) .nil) .nil))]))
   (.cont 0 [(.o2 (.add .i64) (.var 2) (.int 1)), (.var 3)]))))
  (.ret [(.var 3)]))))
theorem sig_147 : sigOf Try.prog md 147 [] = some ([.st [(.sl [(.int .i64), (.int .i64), (.int .i64), (.int .i64), (.int .i64), (.int .i64), (.int .i64), (.int .i64), (.int .i64), (.int .i64), (.int .i64), .bool, .bool]), (.sl [(.int .i64), (.int .i64), .bool]), (.int .i64), (.int .i64)], .sc (.int .i64)], [.sc (.sl [(.int .i64)])], tree_147) := by kernel_rfl
/- impl.BentOf -/
def tree_148 : T :=
(.know (.o1 (.fld 0) (.var 0))
(.loop 0 [(.int 0), (.int 0)]
 (.br (.o2 .lt (.var 3) (.o1 .len (.o1 (.fld 0) (.var 0))))
  (.need [] (.o2 .le (.int 0) (.var 3))
  (.need [] (.o2 .lt (.var 3) (.o1 .len (.o1 (.fld 0) (.var 0))))
  (.br (.o2 .band (.o2 .band (.o2 .eq (.o1 (.fld 3) (.o2 .idx (.o1 (.fld 0) (.var 0)) (.var 3))) (.int 2)) (.o2 .eq (.o1 (.fld 2) (.o2 .idx (.o1 (.fld 0) (.var 0)) (.var 3))) (.var 1))) (.o1 (.fld 12) (.o2 .idx (.o1 (.fld 0) (.var 0)) (.var 3))))
   (.cont 0 [(.o2 (.add .i64) (.var 2) (.int 1)), (.o2 (.add .i64) (.var 3) (.int 1))])
   (.cont 0 [(.var 2), (.o2 (.add .i64) (.var 3) (.int 1))]))))
  (.ret [(.var 2)]))))
theorem sig_148 : sigOf Try.prog md 148 [] = some ([.st [(.sl [(.int .i64), (.int .i64), (.int .i64), (.int .i64), (.int .i64), (.int .i64), (.int .i64), (.int .i64), (.int .i64), (.int .i64), (.int .i64), .bool, .bool]), (.sl [(.int .i64), (.int .i64), .bool]), (.int .i64), (.int .i64)], .sc (.int .i64)], [.sc (.int .i64)], tree_148) := by kernel_rfl
/- impl.Holds -/
def tree_111 : T :=
(.call [] (.fn 82) [.st [(.int .i64), (.int .i64)] (.o2 .cons (.o1 (.fld 0) (.var 2)) (.o2 .cons (.o1 (.fld 1) (.var 2)) .nil))] [.sc .bool]
(.call [((.o1 .not (.var 3)), false)] (.fn 146) [.st [(.sl [(.int .i64), (.int .i64), (.int .i64), (.int .i64), (.int .i64), (.int .i64), (.int .i64), (.int .i64), (.int .i64), (.int .i64), (.int .i64), .bool, .bool]), (.sl [(.int .i64), (.int .i64), .bool]), (.int .i64), (.int .i64)] (.o2 .cons (.o1 (.fld 0) (.var 0)) (.o2 .cons (.o1 (.fld 1) (.var 0)) (.o2 .cons (.o1 (.fld 2) (.var 0)) (.o2 .cons (.o1 (.fld 3) (.var 0)) .nil)))), .sc (.int .i64) (.var 1)] [.sc .bool]
(.br (.o2 .bor (.o1 .not (.var 3)) (.o1 .not (.var 4)))
 (.ret [(.bool false)])
 (.br (.o2 .eq (.o1 (.fld 0) (.var 2)) (.int 1))
  (.need [] (.o2 .le (.int 0) (.var 1))
  (.need [] (.o2 .lt (.var 1) (.o1 .len (.o1 (.fld 1) (.var 0))))
  (.ret [(.o2 .le (.o1 (.fld 0) (.o2 .idx (.o1 (.fld 1) (.var 0)) (.var 1))) (.o1 (.fld 1) (.var 2)))])))
  (.br (.o2 .eq (.o1 (.fld 0) (.var 2)) (.int 2))
   (.call [] (.fn 147) [.st [(.sl [(.int .i64), (.int .i64), (.int .i64), (.int .i64), (.int .i64), (.int .i64), (.int .i64), (.int .i64), (.int .i64), (.int .i64), (.int .i64), .bool, .bool]), (.sl [(.int .i64), (.int .i64), .bool]), (.int .i64), (.int .i64)] (.o2 .cons (.o1 (.fld 0) (.var 0)) (.o2 .cons (.o1 (.fld 1) (.var 0)) (.o2 .cons (.o1 (.fld 2) (.var 0)) (.o2 .cons (.o1 (.fld 3) (.var 0)) .nil)))), .sc (.int .i64) (.var 1)] [.sc (.sl [(.int .i64)])]
   (.know (.var 5)
   (.ret [(.o2 .ge (.o1 .len (.var 5)) (.o1 (.fld 1) (.var 2)))])))
   (.br (.o2 .eq (.o1 (.fld 0) (.var 2)) (.int 3))
    (.ret [(.o2 .eq (.o1 (.fld 2) (.var 0)) (.var 1))])
    (.br (.o2 .eq (.o1 (.fld 0) (.var 2)) (.int 4))
     (.call [] (.fn 148) [.st [(.sl [(.int .i64), (.int .i64), (.int .i64), (.int .i64), (.int .i64), (.int .i64), (.int .i64), (.int .i64), (.int .i64), (.int .i64), (.int .i64), .bool, .bool]), (.sl [(.int .i64), (.int .i64), .bool]), (.int .i64), (.int .i64)] (.o2 .cons (.o1 (.fld 0) (.var 0)) (.o2 .cons (.o1 (.fld 1) (.var 0)) (.o2 .cons (.o1 (.fld 2) (.var 0)) (.o2 .cons (.o1 (.fld 3) (.var 0)) .nil)))), .sc (.int .i64) (.var 1)] [.sc (.int .i64)]
     (.ret [(.o2 .ge (.var 5) (.o1 (.fld 1) (.var 2)))]))
     (.ret [(.bool true)]))))))))
theorem sig_111 : sigOf Try.prog md 111 [] = some ([.st [(.sl [(.int .i64), (.int .i64), (.int .i64), (.int .i64), (.int .i64), (.int .i64), (.int .i64), (.int .i64), (.int .i64), (.int .i64), (.int .i64), .bool, .bool]), (.sl [(.int .i64), (.int .i64), .bool]), (.int .i64), (.int .i64)], .sc (.int .i64), .st [(.int .i64), (.int .i64)]], [.sc .bool], tree_111) := by kernel_rfl
/- impl.PieceAt$1 -/
def tree_171 : T :=
(.ret [(.o2 .eq (.o1 (.fld 0) (.var 0)) (.o1 (.fld 0) (.var 1)))])
theorem sig_171 : sigOf Try.prog md 171 [[(.int .i64)]] = some ([.st [(.int .i64), (.int .i64), (.int .i64), (.int .i64), (.int .i64), (.int .i64), (.int .i64), (.int .i64), (.int .i64), (.int .i64), (.int .i64), .bool, .bool]], [.sc .bool], tree_171) := by kernel_rfl
/- slices.IndexFunc[[]impl.Piece,impl.Piece] -/
def tree_170 : T :=
(.know (.var 0)
(.loop 0 [(.int 0)]
 (.br (.o2 .lt (.var 2) (.o1 .len (.var 0)))
  (.need [] (.o2 .le (.int 0) (.var 2))
  (.need [] (.o2 .lt (.var 2) (.o1 .len (.var 0)))
  (.call [] (.par 1) [.st [(.int .i64), (.int .i64), (.int .i64), (.int .i64), (.int .i64), (.int .i64), (.int .i64), (.int .i64), (.int .i64), (.int .i64), (.int .i64), .bool, .bool] (.o2 .cons (.o1 (.fld 0) (.o2 .idx (.var 0) (.var 2))) (.o2 .cons (.o1 (.fld 1) (.o2 .idx (.var 0) (.var 2))) (.o2 .cons (.o1 (.fld 2) (.o2 .idx (.var 0) (.var 2))) (.o2 .cons (.o1 (.fld 3) (.o2 .idx (.var 0) (.var 2))) (.o2 .cons (.o1 (.fld 4) (.o2 .idx (.var 0) (.var 2))) (.o2 .cons (.o1 (.fld 5) (.o2 .idx (.var 0) (.var 2))) (.o2 .cons (.o1 (.fld 6) (.o2 .idx (.var 0) (.var 2))) (.o2 .cons (.o1 (.fld 7) (.o2 .idx (.var 0) (.var 2))) (.o2 .cons (.o1 (.fld 8) (.o2 .idx (.var 0) (.var 2))) (.o2 .cons (.o1 (.fld 9) (.o2 .idx (.var 0) (.var 2))) (.o2 .cons (.o1 (.fld 10) (.o2 .idx (.var 0) (.var 2))) (.o2 .cons (.o1 (.fld 11) (.o2 .idx (.var 0) (.var 2))) (.o2 .cons (.o1 (.fld 12) (.o2 .idx (.var 0) (.var 2))) .nil)))))))))))))] [.sc .bool]
  (.br (.var 3)
   (.ret [(.var 2)])
   (.cont 0 [(.o2 (.add .i64) (.var 2) (.int 1))])))))
  (.ret [(.int (-1))]))))
theorem sig_170 : sigOf Try.prog md 170 [] = some ([.sc (.sl [(.int .i64), (.int .i64), (.int .i64), (.int .i64), (.int .i64), (.int .i64), (.int .i64), (.int .i64), (.int .i64), (.int .i64), (.int .i64), .bool, .bool]), .clo], [.sc (.int .i64)], tree_170) := by kernel_rfl
/- impl.PieceAt -/
def tree_168 : T :=
(.call [] (.fn 170) [.sc (.sl [(.int .i64), (.int .i64), (.int .i64), (.int .i64), (.int .i64), (.int .i64), (.int .i64), (.int .i64), (.int .i64), (.int .i64), (.int .i64), .bool, .bool]) (.o1 (.fld 0) (.var 0)), .clo 171 [([(.int .i64)], (.o2 .cons (.var 1) .nil))]] [.sc (.int .i64)]
(.ret [(.var 2)]))
theorem sig_168 : sigOf Try.prog md 168 [] = some ([.st [(.sl [(.int .i64), (.int .i64), (.int .i64), (.int .i64), (.int .i64), (.int .i64), (.int .i64), (.int .i64), (.int .i64), (.int .i64), (.int .i64), .bool, .bool]), (.sl [(.int .i64), (.int .i64), .bool]), (.int .i64), (.int .i64)], .sc (.int .i64)], [.sc (.int .i64)], tree_168) := by kernel_rfl
/- impl.Target -/
def tree_164 : T :=
(.br (.o2 .eq (.o1 (.fld 2) (.var 1)) (.int 0))
 (.call [] (.fn 146) [.st [(.sl [(.int .i64), (.int .i64), (.int .i64), (.int .i64), (.int .i64), (.int .i64), (.int .i64), (.int .i64), (.int .i64), (.int .i64), (.int .i64), .bool, .bool]), (.sl [(.int .i64), (.int .i64), .bool]), (.int .i64), (.int .i64)] (.o2 .cons (.o1 (.fld 0) (.var 0)) (.o2 .cons (.o1 (.fld 1) (.var 0)) (.o2 .cons (.o1 (.fld 2) (.var 0)) (.o2 .cons (.o1 (.fld 3) (.var 0)) .nil)))), .sc (.int .i64) (.o1 (.fld 3) (.var 1))] [.sc .bool]
 (.br (.var 2)
  (.ret [(.o1 (.fld 3) (.var 1))])
  (.ret [(.int (-1))])))
 (.call [] (.fn 168) [.st [(.sl [(.int .i64), (.int .i64), (.int .i64), (.int .i64), (.int .i64), (.int .i64), (.int .i64), (.int .i64), (.int .i64), (.int .i64), (.int .i64), .bool, .bool]), (.sl [(.int .i64), (.int .i64), .bool]), (.int .i64), (.int .i64)] (.o2 .cons (.o1 (.fld 0) (.var 0)) (.o2 .cons (.o1 (.fld 1) (.var 0)) (.o2 .cons (.o1 (.fld 2) (.var 0)) (.o2 .cons (.o1 (.fld 3) (.var 0)) .nil)))), .sc (.int .i64) (.o1 (.fld 2) (.var 1))] [.sc (.int .i64)]
 (.br (.o2 .lt (.var 2) (.int 0))
  (.ret [(.int (-1))])
  (.need [] (.o2 .le (.int 0) (.var 2))
  (.need [] (.o2 .lt (.var 2) (.o1 .len (.o1 (.fld 0) (.var 0))))
  (.ret [(.o1 (.fld 2) (.o2 .idx (.o1 (.fld 0) (.var 0)) (.var 2)))]))))))
theorem sig_164 : sigOf Try.prog md 164 [] = some ([.st [(.sl [(.int .i64), (.int .i64), (.int .i64), (.int .i64), (.int .i64), (.int .i64), (.int .i64), (.int .i64), (.int .i64), (.int .i64), (.int .i64), .bool, .bool]), (.sl [(.int .i64), (.int .i64), .bool]), (.int .i64), (.int .i64)], .st [(.int .i64), (.int .i64), (.int .i64), (.int .i64), (.int .i64), (.int .i64), .bool]], [.sc (.int .i64)], tree_164) := by kernel_rfl
/- impl.TargetFits -/
def tree_149 : T :=
(.call [] (.fn 164) [.st [(.sl [(.int .i64), (.int .i64), (.int .i64), (.int .i64), (.int .i64), (.int .i64), (.int .i64), (.int .i64), (.int .i64), (.int .i64), (.int .i64), .bool, .bool]), (.sl [(.int .i64), (.int .i64), .bool]), (.int .i64), (.int .i64)] (.o2 .cons (.o1 (.fld 0) (.var 0)) (.o2 .cons (.o1 (.fld 1) (.var 0)) (.o2 .cons (.o1 (.fld 2) (.var 0)) (.o2 .cons (.o1 (.fld 3) (.var 0)) .nil)))), .st [(.int .i64), (.int .i64), (.int .i64), (.int .i64), (.int .i64), (.int .i64), .bool] (.o2 .cons (.o1 (.fld 0) (.var 3)) (.o2 .cons (.o1 (.fld 1) (.var 3)) (.o2 .cons (.o1 (.fld 2) (.var 3)) (.o2 .cons (.o1 (.fld 3) (.var 3)) (.o2 .cons (.o1 (.fld 4) (.var 3)) (.o2 .cons (.o1 (.fld 5) (.var 3)) (.o2 .cons (.o1 (.fld 6) (.var 3)) .nil)))))))] [.sc (.int .i64)]
(.br (.o2 .bor (.o2 .bor (.o2 .eq (.var 4) (.int (-1))) (.o2 .band (.o2 .eq (.o1 (.fld 1) (.var 2)) (.int 1)) (.o2 .ne (.var 4) (.var 1)))) (.o2 .band (.o2 .eq (.o1 (.fld 1) (.var 2)) (.int 2)) (.o2 .eq (.var 4) (.var 1))))
 (.ret [(.bool false)])
 (.ret [(.o2 .bor (.o2 .eq (.o1 (.fld 4) (.var 2)) (.int 0)) (.o2 .eq (.o1 (.fld 4) (.var 2)) (.o1 (.fld 2) (.var 3))))])))
theorem sig_149 : sigOf Try.prog md 149 [] = some ([.st [(.sl [(.int .i64), (.int .i64), (.int .i64), (.int .i64), (.int .i64), (.int .i64), (.int .i64), (.int .i64), (.int .i64), (.int .i64), (.int .i64), .bool, .bool]), (.sl [(.int .i64), (.int .i64), .bool]), (.int .i64), (.int .i64)], .sc (.int .i64), .st [(.int .i64), (.int .i64), (.int .i64), (.int .i64), (.int .i64), (.int .i64), (.int .i64)], .st [(.int .i64), (.int .i64), (.int .i64), (.int .i64), (.int .i64), (.int .i64), .bool]], [.sc .bool], tree_149) := by kernel_rfl
/- impl.Source -/
def tree_165 : T :=
(.call [] (.fn 168) [.st [(.sl [(.int .i64), (.int .i64), (.int .i64), (.int .i64), (.int .i64), (.int .i64), (.int .i64), (.int .i64), (.int .i64), (.int .i64), (.int .i64), .bool, .bool]), (.sl [(.int .i64), (.int .i64), .bool]), (.int .i64), (.int .i64)] (.o2 .cons (.o1 (.fld 0) (.var 0)) (.o2 .cons (.o1 (.fld 1) (.var 0)) (.o2 .cons (.o1 (.fld 2) (.var 0)) (.o2 .cons (.o1 (.fld 3) (.var 0)) .nil)))), .sc (.int .i64) (.o1 (.fld 1) (.var 1))] [.sc (.int .i64)]
(.br (.o2 .bor (.o2 .ne (.o1 (.fld 0) (.var 1)) (.int 1)) (.o2 .lt (.var 2) (.int 0)))
 (.ret [(.o2 .cons (.int 0) (.o2 .cons (.int 0) (.o2 .cons (.int 0) (.o2 .cons (.int 0) (.o2 .cons (.int 0) (.o2 .cons (.int 0) (.o2 .cons (.int 0) (.o2 .cons (.int 0) (.o2 .cons (.int 0) (.o2 .cons (.int 0) (.o2 .cons (.int 0) (.o2 .cons (.bool false) (.o2 .cons (.bool false) .nil)))))))))))))])
 (.need [] (.o2 .le (.int 0) (.var 2))
 (.need [] (.o2 .lt (.var 2) (.o1 .len (.o1 (.fld 0) (.var 0))))
 (.ret [(.o2 .cons (.o1 (.fld 0) (.o2 .idx (.o1 (.fld 0) (.var 0)) (.var 2))) (.o2 .cons (.o1 (.fld 1) (.o2 .idx (.o1 (.fld 0) (.var 0)) (.var 2))) (.o2 .cons (.o1 (.fld 2) (.o2 .idx (.o1 (.fld 0) (.var 0)) (.var 2))) (.o2 .cons (.o1 (.fld 3) (.o2 .idx (.o1 (.fld 0) (.var 0)) (.var 2))) (.o2 .cons (.o1 (.fld 4) (.o2 .idx (.o1 (.fld 0) (.var 0)) (.var 2))) (.o2 .cons (.o1 (.fld 5) (.o2 .idx (.o1 (.fld 0) (.var 0)) (.var 2))) (.o2 .cons (.o1 (.fld 6) (.o2 .idx (.o1 (.fld 0) (.var 0)) (.var 2))) (.o2 .cons (.o1 (.fld 7) (.o2 .idx (.o1 (.fld 0) (.var 0)) (.var 2))) (.o2 .cons (.o1 (.fld 8) (.o2 .idx (.o1 (.fld 0) (.var 0)) (.var 2))) (.o2 .cons (.o1 (.fld 9) (.o2 .idx (.o1 (.fld 0) (.var 0)) (.var 2))) (.o2 .cons (.o1 (.fld 10) (.o2 .idx (.o1 (.fld 0) (.var 0)) (.var 2))) (.o2 .cons (.o1 (.fld 11) (.o2 .idx (.o1 (.fld 0) (.var 0)) (.var 2))) (.o2 .cons (.o1 (.fld 12) (.o2 .idx (.o1 (.fld 0) (.var 0)) (.var 2))) .nil)))))))))))))])))))
theorem sig_165 : sigOf Try.prog md 165 [] = some ([.st [(.sl [(.int .i64), (.int .i64), (.int .i64), (.int .i64), (.int .i64), (.int .i64), (.int .i64), (.int .i64), (.int .i64), (.int .i64), (.int .i64), .bool, .bool]), (.sl [(.int .i64), (.int .i64), .bool]), (.int .i64), (.int .i64)], .st [(.int .i64), (.int .i64), (.int .i64), (.int .i64), (.int .i64), (.int .i64), .bool]], [.st [(.int .i64), (.int .i64), (.int .i64), (.int .i64), (.int .i64), (.int .i64), (.int .i64), (.int .i64), (.int .i64), (.int .i64), (.int .i64), .bool, .bool]], tree_165) := by kernel_rfl
/- impl.SourceFits -/
def tree_150 : T :=
(.call [((.o2 .bor (.o2 .eq (.o1 (.fld 2) (.var 1)) (.int 0)) (.o2 .eq (.o1 (.fld 2) (.var 1)) (.o1 (.fld 1) (.var 2)))), true)] (.fn 165) [.st [(.sl [(.int .i64), (.int .i64), (.int .i64), (.int .i64), (.int .i64), (.int .i64), (.int .i64), (.int .i64), (.int .i64), (.int .i64), (.int .i64), .bool, .bool]), (.sl [(.int .i64), (.int .i64), .bool]), (.int .i64), (.int .i64)] (.o2 .cons (.o1 (.fld 0) (.var 0)) (.o2 .cons (.o1 (.fld 1) (.var 0)) (.o2 .cons (.o1 (.fld 2) (.var 0)) (.o2 .cons (.o1 (.fld 3) (.var 0)) .nil)))), .st [(.int .i64), (.int .i64), (.int .i64), (.int .i64), (.int .i64), (.int .i64), .bool] (.o2 .cons (.o1 (.fld 0) (.var 2)) (.o2 .cons (.o1 (.fld 1) (.var 2)) (.o2 .cons (.o1 (.fld 2) (.var 2)) (.o2 .cons (.o1 (.fld 3) (.var 2)) (.o2 .cons (.o1 (.fld 4) (.var 2)) (.o2 .cons (.o1 (.fld 5) (.var 2)) (.o2 .cons (.o1 (.fld 6) (.var 2)) .nil)))))))] [.st [(.int .i64), (.int .i64), (.int .i64), (.int .i64), (.int .i64), (.int .i64), (.int .i64), (.int .i64), (.int .i64), (.int .i64), (.int .i64), .bool, .bool]]
(.ret [(.o2 .band (.o2 .bor (.o2 .eq (.o1 (.fld 2) (.var 1)) (.int 0)) (.o2 .eq (.o1 (.fld 2) (.var 1)) (.o1 (.fld 1) (.var 2)))) (.o2 .eq (.o2 (.and .i64) (.o1 (.fld 7) (.var 3)) (.o1 (.fld 3) (.var 1))) (.o1 (.fld 3) (.var 1))))]))
theorem sig_150 : sigOf Try.prog md 150 [] = some ([.st [(.sl [(.int .i64), (.int .i64), (.int .i64), (.int .i64), (.int .i64), (.int .i64), (.int .i64), (.int .i64), (.int .i64), (.int .i64), (.int .i64), .bool, .bool]), (.sl [(.int .i64), (.int .i64), .bool]), (.int .i64), (.int .i64)], .st [(.int .i64), (.int .i64), (.int .i64), (.int .i64), (.int .i64), (.int .i64), (.int .i64)], .st [(.int .i64), (.int .i64), (.int .i64), (.int .i64), (.int .i64), (.int .i64), .bool]], [.sc .bool], tree_150) := by kernel_rfl
/- impl.PatFits -/
def tree_112 : T :=
(.call [] (.fn 81) [.st [(.int .i64), (.int .i64), (.int .i64), (.int .i64), (.int .i64), (.int .i64), (.int .i64)] (.o2 .cons (.o1 (.fld 0) (.var 2)) (.o2 .cons (.o1 (.fld 1) (.var 2)) (.o2 .cons (.o1 (.fld 2) (.var 2)) (.o2 .cons (.o1 (.fld 3) (.var 2)) (.o2 .cons (.o1 (.fld 4) (.var 2)) (.o2 .cons (.o1 (.fld 5) (.var 2)) (.o2 .cons (.o1 (.fld 6) (.var 2)) .nil)))))))] [.sc .bool]
(.call [((.var 4), true)] (.fn 97) [.st [(.int .i64), (.int .i64), (.int .i64), (.int .i64), (.int .i64), (.int .i64), .bool] (.o2 .cons (.o1 (.fld 0) (.var 3)) (.o2 .cons (.o1 (.fld 1) (.var 3)) (.o2 .cons (.o1 (.fld 2) (.var 3)) (.o2 .cons (.o1 (.fld 3) (.var 3)) (.o2 .cons (.o1 (.fld 4) (.var 3)) (.o2 .cons (.o1 (.fld 5) (.var 3)) (.o2 .cons (.o1 (.fld 6) (.var 3)) .nil)))))))] [.sc .bool]
(.call [((.o2 .band (.o2 .band (.var 4) (.var 5)) (.o2 .eq (.o1 (.fld 0) (.var 2)) (.o1 (.fld 0) (.var 3)))), true)] (.fn 149) [.st [(.sl [(.int .i64), (.int .i64), (.int .i64), (.int .i64), (.int .i64), (.int .i64), (.int .i64), (.int .i64), (.int .i64), (.int .i64), (.int .i64), .bool, .bool]), (.sl [(.int .i64), (.int .i64), .bool]), (.int .i64), (.int .i64)] (.o2 .cons (.o1 (.fld 0) (.var 0)) (.o2 .cons (.o1 (.fld 1) (.var 0)) (.o2 .cons (.o1 (.fld 2) (.var 0)) (.o2 .cons (.o1 (.fld 3) (.var 0)) .nil)))), .sc (.int .i64) (.var 1), .st [(.int .i64), (.int .i64), (.int .i64), (.int .i64), (.int .i64), (.int .i64), (.int .i64)] (.o2 .cons (.o1 (.fld 0) (.var 2)) (.o2 .cons (.o1 (.fld 1) (.var 2)) (.o2 .cons (.o1 (.fld 2) (.var 2)) (.o2 .cons (.o1 (.fld 3) (.var 2)) (.o2 .cons (.o1 (.fld 4) (.var 2)) (.o2 .cons (.o1 (.fld 5) (.var 2)) (.o2 .cons (.o1 (.fld 6) (.var 2)) .nil))))))), .st [(.int .i64), (.int .i64), (.int .i64), (.int .i64), (.int .i64), (.int .i64), .bool] (.o2 .cons (.o1 (.fld 0) (.var 3)) (.o2 .cons (.o1 (.fld 1) (.var 3)) (.o2 .cons (.o1 (.fld 2) (.var 3)) (.o2 .cons (.o1 (.fld 3) (.var 3)) (.o2 .cons (.o1 (.fld 4) (.var 3)) (.o2 .cons (.o1 (.fld 5) (.var 3)) (.o2 .cons (.o1 (.fld 6) (.var 3)) .nil)))))))] [.sc .bool]
(.call [((.o2 .band (.o2 .band (.o2 .band (.var 4) (.var 5)) (.o2 .eq (.o1 (.fld 0) (.var 2)) (.o1 (.fld 0) (.var 3)))) (.var 6)), true)] (.fn 150) [.st [(.sl [(.int .i64), (.int .i64), (.int .i64), (.int .i64), (.int .i64), (.int .i64), (.int .i64), (.int .i64), (.int .i64), (.int .i64), (.int .i64), .bool, .bool]), (.sl [(.int .i64), (.int .i64), .bool]), (.int .i64), (.int .i64)] (.o2 .cons (.o1 (.fld 0) (.var 0)) (.o2 .cons (.o1 (.fld 1) (.var 0)) (.o2 .cons (.o1 (.fld 2) (.var 0)) (.o2 .cons (.o1 (.fld 3) (.var 0)) .nil)))), .st [(.int .i64), (.int .i64), (.int .i64), (.int .i64), (.int .i64), (.int .i64), (.int .i64)] (.o2 .cons (.o1 (.fld 0) (.var 2)) (.o2 .cons (.o1 (.fld 1) (.var 2)) (.o2 .cons (.o1 (.fld 2) (.var 2)) (.o2 .cons (.o1 (.fld 3) (.var 2)) (.o2 .cons (.o1 (.fld 4) (.var 2)) (.o2 .cons (.o1 (.fld 5) (.var 2)) (.o2 .cons (.o1 (.fld 6) (.var 2)) .nil))))))), .st [(.int .i64), (.int .i64), (.int .i64), (.int .i64), (.int .i64), (.int .i64), .bool] (.o2 .cons (.o1 (.fld 0) (.var 3)) (.o2 .cons (.o1 (.fld 1) (.var 3)) (.o2 .cons (.o1 (.fld 2) (.var 3)) (.o2 .cons (.o1 (.fld 3) (.var 3)) (.o2 .cons (.o1 (.fld 4) (.var 3)) (.o2 .cons (.o1 (.fld 5) (.var 3)) (.o2 .cons (.o1 (.fld 6) (.var 3)) .nil)))))))] [.sc .bool]
(.ret [(.o2 .band (.o2 .band (.o2 .band (.o2 .band (.o2 .band (.o2 .band (.var 4) (.var 5)) (.o2 .eq (.o1 (.fld 0) (.var 2)) (.o1 (.fld 0) (.var 3)))) (.var 6)) (.var 7)) (.o2 .ge (.o1 (.fld 4) (.var 3)) (.o1 (.fld 5) (.var 2)))) (.o2 .bor (.o2 .eq (.o1 (.fld 6) (.var 2)) (.int 0)) (.o2 .eq (.o1 (.fld 6) (.var 2)) (.o1 (.fld 5) (.var 3)))))])))))
theorem sig_112 : sigOf Try.prog md 112 [] = some ([.st [(.sl [(.int .i64), (.int .i64), (.int .i64), (.int .i64), (.int .i64), (.int .i64), (.int .i64), (.int .i64), (.int .i64), (.int .i64), (.int .i64), .bool, .bool]), (.sl [(.int .i64), (.int .i64), .bool]), (.int .i64), (.int .i64)], .sc (.int .i64), .st [(.int .i64), (.int .i64), (.int .i64), (.int .i64), (.int .i64), (.int .i64), (.int .i64)], .st [(.int .i64), (.int .i64), (.int .i64), (.int .i64), (.int .i64), (.int .i64), .bool]], [.sc .bool], tree_112) := by kernel_rfl
/- impl.Fits -/
def tree_49 : T :=
(.call [] (.fn 29) [.st [(.int .i64), (.int .i64), (.int .i64), (.int .i64), (.int .i64), (.int .i64), (.int .i64), (.int .i64), (.int .i64), (.int .i64), (.int .i64), (.int .i64), (.int .i64), (.int .i64), (.int .i64), (.int .i64), (.int .i64), (.int .i64), .bool, (.sl [(.int .i64), (.int .i64), (.int .i64), (.int .i64), (.int .i64), (.int .i64), .bool]), (.int .i64), (.int .i64)] (.o2 .cons (.o1 (.fld 0) (.var 1)) (.o2 .cons (.o1 (.fld 1) (.var 1)) (.o2 .cons (.o1 (.fld 2) (.var 1)) (.o2 .cons (.o1 (.fld 3) (.var 1)) (.o2 .cons (.o1 (.fld 4) (.var 1)) (.o2 .cons (.o1 (.fld 5) (.var 1)) (.o2 .cons (.o1 (.fld 6) (.var 1)) (.o2 .cons (.o1 (.fld 7) (.var 1)) (.o2 .cons (.o1 (.fld 8) (.var 1)) (.o2 .cons (.o1 (.fld 9) (.var 1)) (.o2 .cons (.o1 (.fld 10) (.var 1)) (.o2 .cons (.o1 (.fld 11) (.var 1)) (.o2 .cons (.o1 (.fld 12) (.var 1)) (.o2 .cons (.o1 (.fld 13) (.var 1)) (.o2 .cons (.o1 (.fld 14) (.var 1)) (.o2 .cons (.o1 (.fld 15) (.var 1)) (.o2 .cons (.o1 (.fld 16) (.var 1)) (.o2 .cons (.o1 (.fld 17) (.var 1)) (.o2 .cons (.o1 (.fld 18) (.var 1)) (.o2 .cons (.o1 (.fld 19) (.var 1)) (.o2 .cons (.o1 (.fld 20) (.var 1)) (.o2 .cons (.o1 (.fld 21) (.var 1)) .nil))))))))))))))))))))))] [.sc .bool]
(.call [((.var 3), true)] (.fn 89) [.st [(.int .i64), (.int .i64), (.int .i64), (.int .i64), (.int .i64), (.int .i64), (.int .i64), (.int .i64), (.int .i64), (.int .i64), (.int .i64), (.int .i64), (.int .i64), (.int .i64), (.int .i64), (.int .i64), (.int .i64), (.int .i64), .bool, (.sl [(.int .i64), (.int .i64), (.int .i64), (.int .i64), (.int .i64), (.int .i64), .bool]), (.int .i64), (.int .i64)] (.o2 .cons (.o1 (.fld 0) (.var 1)) (.o2 .cons (.o1 (.fld 1) (.var 1)) (.o2 .cons (.o1 (.fld 2) (.var 1)) (.o2 .cons (.o1 (.fld 3) (.var 1)) (.o2 .cons (.o1 (.fld 4) (.var 1)) (.o2 .cons (.o1 (.fld 5) (.var 1)) (.o2 .cons (.o1 (.fld 6) (.var 1)) (.o2 .cons (.o1 (.fld 7) (.var 1)) (.o2 .cons (.o1 (.fld 8) (.var 1)) (.o2 .cons (.o1 (.fld 9) (.var 1)) (.o2 .cons (.o1 (.fld 10) (.var 1)) (.o2 .cons (.o1 (.fld 11) (.var 1)) (.o2 .cons (.o1 (.fld 12) (.var 1)) (.o2 .cons (.o1 (.fld 13) (.var 1)) (.o2 .cons (.o1 (.fld 14) (.var 1)) (.o2 .cons (.o1 (.fld 15) (.var 1)) (.o2 .cons (.o1 (.fld 16) (.var 1)) (.o2 .cons (.o1 (.fld 17) (.var 1)) (.o2 .cons (.o1 (.fld 18) (.var 1)) (.o2 .cons (.o1 (.fld 19) (.var 1)) (.o2 .cons (.o1 (.fld 20) (.var 1)) (.o2 .cons (.o1 (.fld 21) (.var 1)) .nil)))))))))))))))))))))), .sc (.int .i64) (.o1 (.fld 3) (.var 0))] [.sc .bool]
(.call [((.o2 .band (.var 3) (.var 4)), true)] (.fn 110) [.st [(.int .i64), (.int .i64), (.int .i64), (.int .i64), (.int .i64), (.int .i64), (.int .i64), (.int .i64), (.int .i64), (.int .i64), (.int .i64), (.int .i64), (.int .i64), (.int .i64), (.int .i64), (.int .i64), (.int .i64), (.int .i64), .bool, (.sl [(.int .i64), (.int .i64), (.int .i64), (.int .i64), (.int .i64), (.int .i64), .bool]), (.int .i64), (.int .i64)] (.o2 .cons (.o1 (.fld 0) (.var 1)) (.o2 .cons (.o1 (.fld 1) (.var 1)) (.o2 .cons (.o1 (.fld 2) (.var 1)) (.o2 .cons (.o1 (.fld 3) (.var 1)) (.o2 .cons (.o1 (.fld 4) (.var 1)) (.o2 .cons (.o1 (.fld 5) (.var 1)) (.o2 .cons (.o1 (.fld 6) (.var 1)) (.o2 .cons (.o1 (.fld 7) (.var 1)) (.o2 .cons (.o1 (.fld 8) (.var 1)) (.o2 .cons (.o1 (.fld 9) (.var 1)) (.o2 .cons (.o1 (.fld 10) (.var 1)) (.o2 .cons (.o1 (.fld 11) (.var 1)) (.o2 .cons (.o1 (.fld 12) (.var 1)) (.o2 .cons (.o1 (.fld 13) (.var 1)) (.o2 .cons (.o1 (.fld 14) (.var 1)) (.o2 .cons (.o1 (.fld 15) (.var 1)) (.o2 .cons (.o1 (.fld 16) (.var 1)) (.o2 .cons (.o1 (.fld 17) (.var 1)) (.o2 .cons (.o1 (.fld 18) (.var 1)) (.o2 .cons (.o1 (.fld 19) (.var 1)) (.o2 .cons (.o1 (.fld 20) (.var 1)) (.o2 .cons (.o1 (.fld 21) (.var 1)) .nil)))))))))))))))))))))), .st [(.int .i64), (.int .i64), (.int .i64), (.int .i64), (.int .i64), (.int .i64), .bool] (.o2 .cons (.o1 (.fld 0) (.var 2)) (.o2 .cons (.o1 (.fld 1) (.var 2)) (.o2 .cons (.o1 (.fld 2) (.var 2)) (.o2 .cons (.o1 (.fld 3) (.var 2)) (.o2 .cons (.o1 (.fld 4) (.var 2)) (.o2 .cons (.o1 (.fld 5) (.var 2)) (.o2 .cons (.o1 (.fld 6) (.var 2)) .nil)))))))] [.sc .bool]
(.call [((.o2 .band (.o2 .band (.var 3) (.var 4)) (.var 5)), true)] (.fn 111) [.st [(.sl [(.int .i64), (.int .i64), (.int .i64), (.int .i64), (.int .i64), (.int .i64), (.int .i64), (.int .i64), (.int .i64), (.int .i64), (.int .i64), .bool, .bool]), (.sl [(.int .i64), (.int .i64), .bool]), (.int .i64), (.int .i64)] (.o2 .cons (.o1 (.fld 0) (.var 0)) (.o2 .cons (.o1 (.fld 1) (.var 0)) (.o2 .cons (.o1 (.fld 2) (.var 0)) (.o2 .cons (.o1 (.fld 3) (.var 0)) .nil)))), .sc (.int .i64) (.o1 (.fld 1) (.var 1)), .st [(.int .i64), (.int .i64)] (.o2 .cons (.o1 (.fld 11) (.var 1)) (.o2 .cons (.o1 (.fld 12) (.var 1)) .nil))] [.sc .bool]
(.call [((.o2 .band (.o2 .band (.o2 .band (.var 3) (.var 4)) (.var 5)) (.var 6)), true)] (.fn 112) [.st [(.sl [(.int .i64), (.int .i64), (.int .i64), (.int .i64), (.int .i64), (.int .i64), (.int .i64), (.int .i64), (.int .i64), (.int .i64), (.int .i64), .bool, .bool]), (.sl [(.int .i64), (.int .i64), .bool]), (.int .i64), (.int .i64)] (.o2 .cons (.o1 (.fld 0) (.var 0)) (.o2 .cons (.o1 (.fld 1) (.var 0)) (.o2 .cons (.o1 (.fld 2) (.var 0)) (.o2 .cons (.o1 (.fld 3) (.var 0)) .nil)))), .sc (.int .i64) (.o1 (.fld 1) (.var 1)), .st [(.int .i64), (.int .i64), (.int .i64), (.int .i64), (.int .i64), (.int .i64), (.int .i64)] (.o2 .cons (.o1 (.fld 4) (.var 1)) (.o2 .cons (.o1 (.fld 5) (.var 1)) (.o2 .cons (.o1 (.fld 6) (.var 1)) (.o2 .cons (.o1 (.fld 7) (.var 1)) (.o2 .cons (.o1 (.fld 8) (.var 1)) (.o2 .cons (.o1 (.fld 9) (.var 1)) (.o2 .cons (.o1 (.fld 10) (.var 1)) .nil))))))), .st [(.int .i64), (.int .i64), (.int .i64), (.int .i64), (.int .i64), (.int .i64), .bool] (.o2 .cons (.o1 (.fld 0) (.var 2)) (.o2 .cons (.o1 (.fld 1) (.var 2)) (.o2 .cons (.o1 (.fld 2) (.var 2)) (.o2 .cons (.o1 (.fld 3) (.var 2)) (.o2 .cons (.o1 (.fld 4) (.var 2)) (.o2 .cons (.o1 (.fld 5) (.var 2)) (.o2 .cons (.o1 (.fld 6) (.var 2)) .nil)))))))] [.sc .bool]
(.ret [(.o2 .band (.o2 .band (.o2 .band (.o2 .band (.var 3) (.var 4)) (.var 5)) (.var 6)) (.var 7))]))))))
theorem sig_49 : sigOf Try.prog md 49 [] = some ([.st [(.sl [(.int .i64), (.int .i64), (.int .i64), (.int .i64), (.int .i64), (.int .i64), (.int .i64), (.int .i64), (.int .i64), (.int .i64), (.int .i64), .bool, .bool]), (.sl [(.int .i64), (.int .i64), .bool]), (.int .i64), (.int .i64)], .st [(.int .i64), (.int .i64), (.int .i64), (.int .i64), (.int .i64), (.int .i64), (.int .i64), (.int .i64), (.int .i64), (.int .i64), (.int .i64), (.int .i64), (.int .i64), (.int .i64), (.int .i64), (.int .i64), (.int .i64), (.int .i64), .bool, (.sl [(.int .i64), (.int .i64), (.int .i64), (.int .i64), (.int .i64), (.int .i64), .bool]), (.int .i64), (.int .i64)], .st [(.int .i64), (.int .i64), (.int .i64), (.int .i64), (.int .i64), (.int .i64), .bool]], [.sc .bool], tree_49) := by kernel_rfl
/- laws.eqPiece -/
def tree_151 : T :=
(.br (.o2 .ne (.o1 (.fld 0) (.var 0)) (.o1 (.fld 0) (.var 1)))
 (.ret [(.bool false)])
 (.br (.o2 .ne (.o1 (.fld 1) (.var 0)) (.o1 (.fld 1) (.var 1)))
  (.ret [(.bool false)])
  (.br (.o2 .ne (.o1 (.fld 2) (.var 0)) (.o1 (.fld 2) (.var 1)))
   (.ret [(.bool false)])
   (.br (.o2 .ne (.o1 (.fld 3) (.var 0)) (.o1 (.fld 3) (.var 1)))
    (.ret [(.bool false)])
    (.br (.o2 .ne (.o1 (.fld 4) (.var 0)) (.o1 (.fld 4) (.var 1)))
     (.ret [(.bool false)])
     (.br (.o2 .ne (.o1 (.fld 5) (.var 0)) (.o1 (.fld 5) (.var 1)))
      (.ret [(.bool false)])
      (.br (.o2 .ne (.o1 (.fld 6) (.var 0)) (.o1 (.fld 6) (.var 1)))
       (.ret [(.bool false)])
       (.br (.o2 .ne (.o1 (.fld 7) (.var 0)) (.o1 (.fld 7) (.var 1)))
        (.ret [(.bool false)])
        (.br (.o2 .ne (.o1 (.fld 8) (.var 0)) (.o1 (.fld 8) (.var 1)))
         (.ret [(.bool false)])
         (.br (.o2 .ne (.o1 (.fld 9) (.var 0)) (.o1 (.fld 9) (.var 1)))
          (.ret [(.bool false)])
          (.br (.o2 .ne (.o1 (.fld 10) (.var 0)) (.o1 (.fld 10) (.var 1)))
           (.ret [(.bool false)])
           (.br (.o2 .bne (.o1 (.fld 11) (.var 0)) (.o1 (.fld 11) (.var 1)))
            (.ret [(.bool false)])
            (.br (.o2 .bne (.o1 (.fld 12) (.var 0)) (.o1 (.fld 12) (.var 1)))
             (.ret [(.bool false)])
             (.ret [(.bool true)]))))))))))))))
theorem sig_151 : sigOf Try.prog md 151 [] = some ([.st [(.int .i64), (.int .i64), (.int .i64), (.int .i64), (.int .i64), (.int .i64), (.int .i64), (.int .i64), (.int .i64), (.int .i64), (.int .i64), .bool, .bool], .st [(.int .i64), (.int .i64), (.int .i64), (.int .i64), (.int .i64), (.int .i64), (.int .i64), (.int .i64), (.int .i64), (.int .i64), (.int .i64), .bool, .bool]], [.sc .bool], tree_151) := by kernel_rfl
/- laws.eqPieceS -/
def tree_113 : T :=
(.know (.var 0)
(.know (.var 1)
(.br (.o2 .ne (.o1 .len (.var 0)) (.o1 .len (.var 1)))
 (.ret [(.bool false)])
 (.loop 0 [(.int 0)]
  (.know (.var 0)
  (.br (.o2 .lt (.var 2) (.o1 .len (.var 0)))
   (.need [] (.o2 .le (.int 0) (.var 2))
   (.need [] (.o2 .lt (.var 2) (.o1 .len (.var 0)))
   (.need [] (.o2 .le (.int 0) (.var 2))
   (.need [] (.o2 .lt (.var 2) (.o1 .len (.var 1)))
   (.call [] (.fn 151) [.st [(.int .i64), (.int .i64), (.int .i64), (.int .i64), (.int .i64), (.int .i64), (.int .i64), (.int .i64), (.int .i64), (.int .i64), (.int .i64), .bool, .bool] (.o2 .cons (.o1 (.fld 0) (.o2 .idx (.var 0) (.var 2))) (.o2 .cons (.o1 (.fld 1) (.o2 .idx (.var 0) (.var 2))) (.o2 .cons (.o1 (.fld 2) (.o2 .idx (.var 0) (.var 2))) (.o2 .cons (.o1 (.fld 3) (.o2 .idx (.var 0) (.var 2))) (.o2 .cons (.o1 (.fld 4) (.o2 .idx (.var 0) (.var 2))) (.o2 .cons (.o1 (.fld 5) (.o2 .idx (.var 0) (.var 2))) (.o2 .cons (.o1 (.fld 6) (.o2 .idx (.var 0) (.var 2))) (.o2 .cons (.o1 (.fld 7) (.o2 .idx (.var 0) (.var 2))) (.o2 .cons (.o1 (.fld 8) (.o2 .idx (.var 0) (.var 2))) (.o2 .cons (.o1 (.fld 9) (.o2 .idx (.var 0) (.var 2))) (.o2 .cons (.o1 (.fld 10) (.o2 .idx (.var 0) (.var 2))) (.o2 .cons (.o1 (.fld 11) (.o2 .idx (.var 0) (.var 2))) (.o2 .cons (.o1 (.fld 12) (.o2 .idx (.var 0) (.var 2))) .nil))))))))))))), .st [(.int .i64), (.int .i64), (.int .i64), (.int .i64), (.int .i64), (.int .i64), (.int .i64), (.int .i64), (.int .i64), (.int .i64), (.int .i64), .bool, .bool] (.o2 .cons (.o1 (.fld 0) (.o2 .idx (.var 1) (.var 2))) (.o2 .cons (.o1 (.fld 1) (.o2 .idx (.var 1) (.var 2))) (.o2 .cons (.o1 (.fld 2) (.o2 .idx (.var 1) (.var 2))) (.o2 .cons (.o1 (.fld 3) (.o2 .idx (.var 1) (.var 2))) (.o2 .cons (.o1 (.fld 4) (.o2 .idx (.var 1) (.var 2))) (.o2 .cons (.o1 (.fld 5) (.o2 .idx (.var 1) (.var 2))) (.o2 .cons (.o1 (.fld 6) (.o2 .idx (.var 1) (.var 2))) (.o2 .cons (.o1 (.fld 7) (.o2 .idx (.var 1) (.var 2))) (.o2 .cons (.o1 (.fld 8) (.o2 .idx (.var 1) (.var 2))) (.o2 .cons (.o1 (.fld 9) (.o2 .idx (.var 1) (.var 2))) (.o2 .cons (.o1 (.fld 10) (.o2 .idx (.var 1) (.var 2))) (.o2 .cons (.o1 (.fld 11) (.o2 .idx (.var 1) (.var 2))) (.o2 .cons (.o1 (.fld 12) (.o2 .idx (.var 1) (.var 2))) .nil)))))))))))))] [.sc .bool]
   (.br (.o1 .not (.var 3))
    (.ret [(.bool false)])
    (.cont 0 [(.o2 (.add .i64) (.var 2) (.int 1))])))))))
   (.ret [(.bool true)])))))))
theorem sig_113 : sigOf Try.prog md 113 [] = some ([.sc (.sl [(.int .i64), (.int .i64), (.int .i64), (.int .i64), (.int .i64), (.int .i64), (.int .i64), (.int .i64), (.int .i64), (.int .i64), (.int .i64), .bool, .bool]), .sc (.sl [(.int .i64), (.int .i64), (.int .i64), (.int .i64), (.int .i64), (.int .i64), (.int .i64), (.int .i64), (.int .i64), (.int .i64), (.int .i64), .bool, .bool])], [.sc .bool], tree_113) := by kernel_rfl
/- laws.eqSide -/
def tree_152 : T :=
(.br (.o2 .ne (.o1 (.fld 0) (.var 0)) (.o1 (.fld 0) (.var 1)))
 (.ret [(.bool false)])
 (.br (.o2 .ne (.o1 (.fld 1) (.var 0)) (.o1 (.fld 1) (.var 1)))
  (.ret [(.bool false)])
  (.br (.o2 .bne (.o1 (.fld 2) (.var 0)) (.o1 (.fld 2) (.var 1)))
   (.ret [(.bool false)])
   (.ret [(.bool true)]))))
theorem sig_152 : sigOf Try.prog md 152 [] = some ([.st [(.int .i64), (.int .i64), .bool], .st [(.int .i64), (.int .i64), .bool]], [.sc .bool], tree_152) := by kernel_rfl
/- laws.eqSideS -/
def tree_114 : T :=
(.know (.var 0)
(.know (.var 1)
(.br (.o2 .ne (.o1 .len (.var 0)) (.o1 .len (.var 1)))
 (.ret [(.bool false)])
 (.loop 0 [(.int 0)]
  (.know (.var 0)
  (.br (.o2 .lt (.var 2) (.o1 .len (.var 0)))
   (.need [] (.o2 .le (.int 0) (.var 2))
   (.need [] (.o2 .lt (.var 2) (.o1 .len (.var 0)))
   (.need [] (.o2 .le (.int 0) (.var 2))
   (.need [] (.o2 .lt (.var 2) (.o1 .len (.var 1)))
   (.call [] (.fn 152) [.st [(.int .i64), (.int .i64), .bool] (.o2 .cons (.o1 (.fld 0) (.o2 .idx (.var 0) (.var 2))) (.o2 .cons (.o1 (.fld 1) (.o2 .idx (.var 0) (.var 2))) (.o2 .cons (.o1 (.fld 2) (.o2 .idx (.var 0) (.var 2))) .nil))), .st [(.int .i64), (.int .i64), .bool] (.o2 .cons (.o1 (.fld 0) (.o2 .idx (.var 1) (.var 2))) (.o2 .cons (.o1 (.fld 1) (.o2 .idx (.var 1) (.var 2))) (.o2 .cons (.o1 (.fld 2) (.o2 .idx (.var 1) (.var 2))) .nil)))] [.sc .bool]
   (.br (.o1 .not (.var 3))
    (.ret [(.bool false)])
    (.cont 0 [(.o2 (.add .i64) (.var 2) (.int 1))])))))))
   (.ret [(.bool true)])))))))
theorem sig_114 : sigOf Try.prog md 114 [] = some ([.sc (.sl [(.int .i64), (.int .i64), .bool]), .sc (.sl [(.int .i64), (.int .i64), .bool])], [.sc .bool], tree_114) := by kernel_rfl
/- laws.eqState -/
def tree_50 : T :=
(.call [] (.fn 113) [.sc (.sl [(.int .i64), (.int .i64), (.int .i64), (.int .i64), (.int .i64), (.int .i64), (.int .i64), (.int .i64), (.int .i64), (.int .i64), (.int .i64), .bool, .bool]) (.o1 (.fld 0) (.var 0)), .sc (.sl [(.int .i64), (.int .i64), (.int .i64), (.int .i64), (.int .i64), (.int .i64), (.int .i64), (.int .i64), (.int .i64), (.int .i64), (.int .i64), .bool, .bool]) (.o1 (.fld 0) (.var 1))] [.sc .bool]
(.br (.o1 .not (.var 2))
 (.ret [(.bool false)])
 (.call [] (.fn 114) [.sc (.sl [(.int .i64), (.int .i64), .bool]) (.o1 (.fld 1) (.var 0)), .sc (.sl [(.int .i64), (.int .i64), .bool]) (.o1 (.fld 1) (.var 1))] [.sc .bool]
 (.br (.o1 .not (.var 3))
  (.ret [(.bool false)])
  (.br (.o2 .ne (.o1 (.fld 2) (.var 0)) (.o1 (.fld 2) (.var 1)))
   (.ret [(.bool false)])
   (.br (.o2 .ne (.o1 (.fld 3) (.var 0)) (.o1 (.fld 3) (.var 1)))
    (.ret [(.bool false)])
    (.ret [(.bool true)])))))))
theorem sig_50 : sigOf Try.prog md 50 [] = some ([.st [(.sl [(.int .i64), (.int .i64), (.int .i64), (.int .i64), (.int .i64), (.int .i64), (.int .i64), (.int .i64), (.int .i64), (.int .i64), (.int .i64), .bool, .bool]), (.sl [(.int .i64), (.int .i64), .bool]), (.int .i64), (.int .i64)], .st [(.sl [(.int .i64), (.int .i64), (.int .i64), (.int .i64), (.int .i64), (.int .i64), (.int .i64), (.int .i64), (.int .i64), (.int .i64), (.int .i64), .bool, .bool]), (.sl [(.int .i64), (.int .i64), .bool]), (.int .i64), (.int .i64)]], [.sc .bool], tree_50) := by kernel_rfl
/- laws.FnExactFits -/
def tree_12 : T :=
(.call [] (.fn 46) [.st [(.sl [(.int .i64), (.int .i64), (.int .i64), (.int .i64), (.int .i64), (.int .i64), (.int .i64), (.int .i64), (.int .i64), (.int .i64), (.int .i64), .bool, .bool]), (.sl [(.int .i64), (.int .i64), .bool]), (.int .i64), (.int .i64)] (.o2 .cons (.o1 (.fld 0) (.var 0)) (.o2 .cons (.o1 (.fld 1) (.var 0)) (.o2 .cons (.o1 (.fld 2) (.var 0)) (.o2 .cons (.o1 (.fld 3) (.var 0)) .nil)))), .sc (.int .i64) (.int 1048576)] [.sc (.int .i64)]
(.br (.o2 .lt (.var 3) (.int 0))
 (.ret [(.bool true)])
 (.call [] (.fn 21) [.st [(.int .i64), (.int .i64), (.int .i64), (.int .i64), (.int .i64), (.int .i64), (.int .i64), (.int .i64), (.int .i64), (.int .i64), (.int .i64), (.int .i64), (.int .i64), (.int .i64), (.int .i64), (.int .i64), (.int .i64), (.int .i64), .bool, (.sl [(.int .i64), (.int .i64), (.int .i64), (.int .i64), (.int .i64), (.int .i64), .bool]), (.int .i64), (.int .i64)] (.o2 .cons (.o1 (.fld 0) (.var 1)) (.o2 .cons (.o1 (.fld 1) (.var 1)) (.o2 .cons (.o1 (.fld 2) (.var 1)) (.o2 .cons (.o1 (.fld 3) (.var 1)) (.o2 .cons (.o1 (.fld 4) (.var 1)) (.o2 .cons (.o1 (.fld 5) (.var 1)) (.o2 .cons (.o1 (.fld 6) (.var 1)) (.o2 .cons (.o1 (.fld 7) (.var 1)) (.o2 .cons (.o1 (.fld 8) (.var 1)) (.o2 .cons (.o1 (.fld 9) (.var 1)) (.o2 .cons (.o1 (.fld 10) (.var 1)) (.o2 .cons (.o1 (.fld 11) (.var 1)) (.o2 .cons (.o1 (.fld 12) (.var 1)) (.o2 .cons (.o1 (.fld 13) (.var 1)) (.o2 .cons (.o1 (.fld 14) (.var 1)) (.o2 .cons (.o1 (.fld 15) (.var 1)) (.o2 .cons (.o1 (.fld 16) (.var 1)) (.o2 .cons (.o1 (.fld 17) (.var 1)) (.o2 .cons (.o1 (.fld 18) (.var 1)) (.o2 .cons (.o1 (.fld 19) (.var 1)) (.o2 .cons (.o1 (.fld 20) (.var 1)) (.o2 .cons (.o1 (.fld 21) (.var 1)) .nil)))))))))))))))))))))), .sc (.int .i64) (.var 3)] [.sc (.int .i64)]
 (.br (.o2 .lt (.var 4) (.int 0))
  (.ret [(.bool true)])
  (.call [] (.fn 48) [.st [(.sl [(.int .i64), (.int .i64), (.int .i64), (.int .i64), (.int .i64), (.int .i64), (.int .i64), (.int .i64), (.int .i64), (.int .i64), (.int .i64), .bool, .bool]), (.sl [(.int .i64), (.int .i64), .bool]), (.int .i64), (.int .i64)] (.o2 .cons (.o1 (.fld 0) (.var 0)) (.o2 .cons (.o1 (.fld 1) (.var 0)) (.o2 .cons (.o1 (.fld 2) (.var 0)) (.o2 .cons (.o1 (.fld 3) (.var 0)) .nil))))] [.st [(.sl [(.int .i64), (.int .i64), (.int .i64), (.int .i64), (.int .i64), (.int .i64), (.int .i64), (.int .i64), (.int .i64), (.int .i64), (.int .i64), .bool, .bool]), (.sl [(.int .i64), (.int .i64), .bool]), (.int .i64), (.int .i64)]]
  (.call [] (.fn 23) [.st [(.int .i64), (.int .i64), (.int .i64), (.int .i64), (.int .i64), (.int .i64), (.int .i64), (.int .i64), (.int .i64), (.int .i64), (.int .i64), (.int .i64), (.int .i64), (.int .i64), (.int .i64), (.int .i64), (.int .i64), (.int .i64), .bool, (.sl [(.int .i64), (.int .i64), (.int .i64), (.int .i64), (.int .i64), (.int .i64), .bool]), (.int .i64), (.int .i64)] (.o2 .cons (.o1 (.fld 0) (.var 1)) (.o2 .cons (.o1 (.fld 1) (.var 1)) (.o2 .cons (.o1 (.fld 2) (.var 1)) (.o2 .cons (.o1 (.fld 3) (.var 1)) (.o2 .cons (.o1 (.fld 4) (.var 1)) (.o2 .cons (.o1 (.fld 5) (.var 1)) (.o2 .cons (.o1 (.fld 6) (.var 1)) (.o2 .cons (.o1 (.fld 7) (.var 1)) (.o2 .cons (.o1 (.fld 8) (.var 1)) (.o2 .cons (.o1 (.fld 9) (.var 1)) (.o2 .cons (.o1 (.fld 10) (.var 1)) (.o2 .cons (.o1 (.fld 11) (.var 1)) (.o2 .cons (.o1 (.fld 12) (.var 1)) (.o2 .cons (.o1 (.fld 13) (.var 1)) (.o2 .cons (.o1 (.fld 14) (.var 1)) (.o2 .cons (.o1 (.fld 15) (.var 1)) (.o2 .cons (.o1 (.fld 16) (.var 1)) (.o2 .cons (.o1 (.fld 17) (.var 1)) (.o2 .cons (.o1 (.fld 18) (.var 1)) (.o2 .cons (.o1 (.fld 19) (.var 1)) (.o2 .cons (.o1 (.fld 20) (.var 1)) (.o2 .cons (.o1 (.fld 21) (.var 1)) .nil))))))))))))))))))))))] [.st [(.int .i64), (.int .i64), (.int .i64), (.int .i64), (.int .i64), (.int .i64), (.int .i64), (.int .i64), (.int .i64), (.int .i64), (.int .i64), (.int .i64), (.int .i64), (.int .i64), (.int .i64), (.int .i64), (.int .i64), (.int .i64), .bool, (.sl [(.int .i64), (.int .i64), (.int .i64), (.int .i64), (.int .i64), (.int .i64), .bool]), (.int .i64), (.int .i64)]]
  (.call [] (.fn 41) [.st [(.int .i64), (.int .i64), (.int .i64), (.int .i64), (.int .i64), (.int .i64), .bool] (.o2 .cons (.o1 (.fld 0) (.var 2)) (.o2 .cons (.o1 (.fld 1) (.var 2)) (.o2 .cons (.o1 (.fld 2) (.var 2)) (.o2 .cons (.o1 (.fld 3) (.var 2)) (.o2 .cons (.o1 (.fld 4) (.var 2)) (.o2 .cons (.o1 (.fld 5) (.var 2)) (.o2 .cons (.o1 (.fld 6) (.var 2)) .nil)))))))] [.st [(.int .i64), (.int .i64), (.int .i64), (.int .i64), (.int .i64), (.int .i64), .bool]]
  (.call [] (.fn 47) [.st [(.sl [(.int .i64), (.int .i64), (.int .i64), (.int .i64), (.int .i64), (.int .i64), (.int .i64), (.int .i64), (.int .i64), (.int .i64), (.int .i64), .bool, .bool]), (.sl [(.int .i64), (.int .i64), .bool]), (.int .i64), (.int .i64)] (.o2 .cons (.o1 (.fld 0) (.var 5)) (.o2 .cons (.o1 (.fld 1) (.var 5)) (.o2 .cons (.o1 (.fld 2) (.var 5)) (.o2 .cons (.o1 (.fld 3) (.var 5)) .nil)))), .st [(.int .i64), (.int .i64), (.int .i64), (.int .i64), (.int .i64), (.int .i64), (.int .i64), (.int .i64), (.int .i64), (.int .i64), (.int .i64), (.int .i64), (.int .i64), (.int .i64), (.int .i64), (.int .i64), (.int .i64), (.int .i64), .bool, (.sl [(.int .i64), (.int .i64), (.int .i64), (.int .i64), (.int .i64), (.int .i64), .bool]), (.int .i64), (.int .i64)] (.o2 .cons (.o1 (.fld 0) (.var 6)) (.o2 .cons (.o1 (.fld 1) (.var 6)) (.o2 .cons (.o1 (.fld 2) (.var 6)) (.o2 .cons (.o1 (.fld 3) (.var 6)) (.o2 .cons (.o1 (.fld 4) (.var 6)) (.o2 .cons (.o1 (.fld 5) (.var 6)) (.o2 .cons (.o1 (.fld 6) (.var 6)) (.o2 .cons (.o1 (.fld 7) (.var 6)) (.o2 .cons (.o1 (.fld 8) (.var 6)) (.o2 .cons (.o1 (.fld 9) (.var 6)) (.o2 .cons (.o1 (.fld 10) (.var 6)) (.o2 .cons (.o1 (.fld 11) (.var 6)) (.o2 .cons (.o1 (.fld 12) (.var 6)) (.o2 .cons (.o1 (.fld 13) (.var 6)) (.o2 .cons (.o1 (.fld 14) (.var 6)) (.o2 .cons (.o1 (.fld 15) (.var 6)) (.o2 .cons (.o1 (.fld 16) (.var 6)) (.o2 .cons (.o1 (.fld 17) (.var 6)) (.o2 .cons (.o1 (.fld 18) (.var 6)) (.o2 .cons (.o1 (.fld 19) (.var 6)) (.o2 .cons (.o1 (.fld 20) (.var 6)) (.o2 .cons (.o1 (.fld 21) (.var 6)) .nil)))))))))))))))))))))), .st [(.int .i64), (.int .i64), (.int .i64), (.int .i64), (.int .i64), (.int .i64), .bool] (.o2 .cons (.o1 (.fld 0) (.var 7)) (.o2 .cons (.o1 (.fld 1) (.var 7)) (.o2 .cons (.o1 (.fld 2) (.var 7)) (.o2 .cons (.o1 (.fld 3) (.var 7)) (.o2 .cons (.o1 (.fld 4) (.var 7)) (.o2 .cons (.o1 (.fld 5) (.var 7)) (.o2 .cons (.o1 (.fld 6) (.var 7)) .nil)))))))] [.sc .bool]
  (.call [] (.fn 48) [.st [(.sl [(.int .i64), (.int .i64), (.int .i64), (.int .i64), (.int .i64), (.int .i64), (.int .i64), (.int .i64), (.int .i64), (.int .i64), (.int .i64), .bool, .bool]), (.sl [(.int .i64), (.int .i64), .bool]), (.int .i64), (.int .i64)] (.o2 .cons (.o1 (.fld 0) (.var 0)) (.o2 .cons (.o1 (.fld 1) (.var 0)) (.o2 .cons (.o1 (.fld 2) (.var 0)) (.o2 .cons (.o1 (.fld 3) (.var 0)) .nil))))] [.st [(.sl [(.int .i64), (.int .i64), (.int .i64), (.int .i64), (.int .i64), (.int .i64), (.int .i64), (.int .i64), (.int .i64), (.int .i64), (.int .i64), .bool, .bool]), (.sl [(.int .i64), (.int .i64), .bool]), (.int .i64), (.int .i64)]]
  (.call [] (.fn 23) [.st [(.int .i64), (.int .i64), (.int .i64), (.int .i64), (.int .i64), (.int .i64), (.int .i64), (.int .i64), (.int .i64), (.int .i64), (.int .i64), (.int .i64), (.int .i64), (.int .i64), (.int .i64), (.int .i64), (.int .i64), (.int .i64), .bool, (.sl [(.int .i64), (.int .i64), (.int .i64), (.int .i64), (.int .i64), (.int .i64), .bool]), (.int .i64), (.int .i64)] (.o2 .cons (.o1 (.fld 0) (.var 1)) (.o2 .cons (.o1 (.fld 1) (.var 1)) (.o2 .cons (.o1 (.fld 2) (.var 1)) (.o2 .cons (.o1 (.fld 3) (.var 1)) (.o2 .cons (.o1 (.fld 4) (.var 1)) (.o2 .cons (.o1 (.fld 5) (.var 1)) (.o2 .cons (.o1 (.fld 6) (.var 1)) (.o2 .cons (.o1 (.fld 7) (.var 1)) (.o2 .cons (.o1 (.fld 8) (.var 1)) (.o2 .cons (.o1 (.fld 9) (.var 1)) (.o2 .cons (.o1 (.fld 10) (.var 1)) (.o2 .cons (.o1 (.fld 11) (.var 1)) (.o2 .cons (.o1 (.fld 12) (.var 1)) (.o2 .cons (.o1 (.fld 13) (.var 1)) (.o2 .cons (.o1 (.fld 14) (.var 1)) (.o2 .cons (.o1 (.fld 15) (.var 1)) (.o2 .cons (.o1 (.fld 16) (.var 1)) (.o2 .cons (.o1 (.fld 17) (.var 1)) (.o2 .cons (.o1 (.fld 18) (.var 1)) (.o2 .cons (.o1 (.fld 19) (.var 1)) (.o2 .cons (.o1 (.fld 20) (.var 1)) (.o2 .cons (.o1 (.fld 21) (.var 1)) .nil))))))))))))))))))))))] [.st [(.int .i64), (.int .i64), (.int .i64), (.int .i64), (.int .i64), (.int .i64), (.int .i64), (.int .i64), (.int .i64), (.int .i64), (.int .i64), (.int .i64), (.int .i64), (.int .i64), (.int .i64), (.int .i64), (.int .i64), (.int .i64), .bool, (.sl [(.int .i64), (.int .i64), (.int .i64), (.int .i64), (.int .i64), (.int .i64), .bool]), (.int .i64), (.int .i64)]]
  (.call [] (.fn 41) [.st [(.int .i64), (.int .i64), (.int .i64), (.int .i64), (.int .i64), (.int .i64), .bool] (.o2 .cons (.o1 (.fld 0) (.var 2)) (.o2 .cons (.o1 (.fld 1) (.var 2)) (.o2 .cons (.o1 (.fld 2) (.var 2)) (.o2 .cons (.o1 (.fld 3) (.var 2)) (.o2 .cons (.o1 (.fld 4) (.var 2)) (.o2 .cons (.o1 (.fld 5) (.var 2)) (.o2 .cons (.o1 (.fld 6) (.var 2)) .nil)))))))] [.st [(.int .i64), (.int .i64), (.int .i64), (.int .i64), (.int .i64), (.int .i64), .bool]]
  (.call [] (.fn 49) [.st [(.sl [(.int .i64), (.int .i64), (.int .i64), (.int .i64), (.int .i64), (.int .i64), (.int .i64), (.int .i64), (.int .i64), (.int .i64), (.int .i64), .bool, .bool]), (.sl [(.int .i64), (.int .i64), .bool]), (.int .i64), (.int .i64)] (.o2 .cons (.o1 (.fld 0) (.var 9)) (.o2 .cons (.o1 (.fld 1) (.var 9)) (.o2 .cons (.o1 (.fld 2) (.var 9)) (.o2 .cons (.o1 (.fld 3) (.var 9)) .nil)))), .st [(.int .i64), (.int .i64), (.int .i64), (.int .i64), (.int .i64), (.int .i64), (.int .i64), (.int .i64), (.int .i64), (.int .i64), (.int .i64), (.int .i64), (.int .i64), (.int .i64), (.int .i64), (.int .i64), (.int .i64), (.int .i64), .bool, (.sl [(.int .i64), (.int .i64), (.int .i64), (.int .i64), (.int .i64), (.int .i64), .bool]), (.int .i64), (.int .i64)] (.o2 .cons (.o1 (.fld 0) (.var 10)) (.o2 .cons (.o1 (.fld 1) (.var 10)) (.o2 .cons (.o1 (.fld 2) (.var 10)) (.o2 .cons (.o1 (.fld 3) (.var 10)) (.o2 .cons (.o1 (.fld 4) (.var 10)) (.o2 .cons (.o1 (.fld 5) (.var 10)) (.o2 .cons (.o1 (.fld 6) (.var 10)) (.o2 .cons (.o1 (.fld 7) (.var 10)) (.o2 .cons (.o1 (.fld 8) (.var 10)) (.o2 .cons (.o1 (.fld 9) (.var 10)) (.o2 .cons (.o1 (.fld 10) (.var 10)) (.o2 .cons (.o1 (.fld 11) (.var 10)) (.o2 .cons (.o1 (.fld 12) (.var 10)) (.o2 .cons (.o1 (.fld 13) (.var 10)) (.o2 .cons (.o1 (.fld 14) (.var 10)) (.o2 .cons (.o1 (.fld 15) (.var 10)) (.o2 .cons (.o1 (.fld 16) (.var 10)) (.o2 .cons (.o1 (.fld 17) (.var 10)) (.o2 .cons (.o1 (.fld 18) (.var 10)) (.o2 .cons (.o1 (.fld 19) (.var 10)) (.o2 .cons (.o1 (.fld 20) (.var 10)) (.o2 .cons (.o1 (.fld 21) (.var 10)) .nil)))))))))))))))))))))), .st [(.int .i64), (.int .i64), (.int .i64), (.int .i64), (.int .i64), (.int .i64), .bool] (.o2 .cons (.o1 (.fld 0) (.var 11)) (.o2 .cons (.o1 (.fld 1) (.var 11)) (.o2 .cons (.o1 (.fld 2) (.var 11)) (.o2 .cons (.o1 (.fld 3) (.var 11)) (.o2 .cons (.o1 (.fld 4) (.var 11)) (.o2 .cons (.o1 (.fld 5) (.var 11)) (.o2 .cons (.o1 (.fld 6) (.var 11)) .nil)))))))] [.sc .bool]
  (.br (.o2 .bne (.var 12) (.var 8))
   (.ret [(.bool false)])
   (.call [] (.fn 48) [.st [(.sl [(.int .i64), (.int .i64), (.int .i64), (.int .i64), (.int .i64), (.int .i64), (.int .i64), (.int .i64), (.int .i64), (.int .i64), (.int .i64), .bool, .bool]), (.sl [(.int .i64), (.int .i64), .bool]), (.int .i64), (.int .i64)] (.o2 .cons (.o1 (.fld 0) (.var 0)) (.o2 .cons (.o1 (.fld 1) (.var 0)) (.o2 .cons (.o1 (.fld 2) (.var 0)) (.o2 .cons (.o1 (.fld 3) (.var 0)) .nil))))] [.st [(.sl [(.int .i64), (.int .i64), (.int .i64), (.int .i64), (.int .i64), (.int .i64), (.int .i64), (.int .i64), (.int .i64), (.int .i64), (.int .i64), .bool, .bool]), (.sl [(.int .i64), (.int .i64), .bool]), (.int .i64), (.int .i64)]]
   (.call [] (.fn 50) [.st [(.sl [(.int .i64), (.int .i64), (.int .i64), (.int .i64), (.int .i64), (.int .i64), (.int .i64), (.int .i64), (.int .i64), (.int .i64), (.int .i64), .bool, .bool]), (.sl [(.int .i64), (.int .i64), .bool]), (.int .i64), (.int .i64)] (.o2 .cons (.o1 (.fld 0) (.var 9)) (.o2 .cons (.o1 (.fld 1) (.var 9)) (.o2 .cons (.o1 (.fld 2) (.var 9)) (.o2 .cons (.o1 (.fld 3) (.var 9)) .nil)))), .st [(.sl [(.int .i64), (.int .i64), (.int .i64), (.int .i64), (.int .i64), (.int .i64), (.int .i64), (.int .i64), (.int .i64), (.int .i64), (.int .i64), .bool, .bool]), (.sl [(.int .i64), (.int .i64), .bool]), (.int .i64), (.int .i64)] (.o2 .cons (.o1 (.fld 0) (.var 13)) (.o2 .cons (.o1 (.fld 1) (.var 13)) (.o2 .cons (.o1 (.fld 2) (.var 13)) (.o2 .cons (.o1 (.fld 3) (.var 13)) .nil))))] [.sc .bool]
   (.br (.o1 .not (.var 14))
    (.ret [(.bool false)])
    (.call [] (.fn 23) [.st [(.int .i64), (.int .i64), (.int .i64), (.int .i64), (.int .i64), (.int .i64), (.int .i64), (.int .i64), (.int .i64), (.int .i64), (.int .i64), (.int .i64), (.int .i64), (.int .i64), (.int .i64), (.int .i64), (.int .i64), (.int .i64), .bool, (.sl [(.int .i64), (.int .i64), (.int .i64), (.int .i64), (.int .i64), (.int .i64), .bool]), (.int .i64), (.int .i64)] (.o2 .cons (.o1 (.fld 0) (.var 1)) (.o2 .cons (.o1 (.fld 1) (.var 1)) (.o2 .cons (.o1 (.fld 2) (.var 1)) (.o2 .cons (.o1 (.fld 3) (.var 1)) (.o2 .cons (.o1 (.fld 4) (.var 1)) (.o2 .cons (.o1 (.fld 5) (.var 1)) (.o2 .cons (.o1 (.fld 6) (.var 1)) (.o2 .cons (.o1 (.fld 7) (.var 1)) (.o2 .cons (.o1 (.fld 8) (.var 1)) (.o2 .cons (.o1 (.fld 9) (.var 1)) (.o2 .cons (.o1 (.fld 10) (.var 1)) (.o2 .cons (.o1 (.fld 11) (.var 1)) (.o2 .cons (.o1 (.fld 12) (.var 1)) (.o2 .cons (.o1 (.fld 13) (.var 1)) (.o2 .cons (.o1 (.fld 14) (.var 1)) (.o2 .cons (.o1 (.fld 15) (.var 1)) (.o2 .cons (.o1 (.fld 16) (.var 1)) (.o2 .cons (.o1 (.fld 17) (.var 1)) (.o2 .cons (.o1 (.fld 18) (.var 1)) (.o2 .cons (.o1 (.fld 19) (.var 1)) (.o2 .cons (.o1 (.fld 20) (.var 1)) (.o2 .cons (.o1 (.fld 21) (.var 1)) .nil))))))))))))))))))))))] [.st [(.int .i64), (.int .i64), (.int .i64), (.int .i64), (.int .i64), (.int .i64), (.int .i64), (.int .i64), (.int .i64), (.int .i64), (.int .i64), (.int .i64), (.int .i64), (.int .i64), (.int .i64), (.int .i64), (.int .i64), (.int .i64), .bool, (.sl [(.int .i64), (.int .i64), (.int .i64), (.int .i64), (.int .i64), (.int .i64), .bool]), (.int .i64), (.int .i64)]]
    (.call [] (.fn 25) [.st [(.int .i64), (.int .i64), (.int .i64), (.int .i64), (.int .i64), (.int .i64), (.int .i64), (.int .i64), (.int .i64), (.int .i64), (.int .i64), (.int .i64), (.int .i64), (.int .i64), (.int .i64), (.int .i64), (.int .i64), (.int .i64), .bool, (.sl [(.int .i64), (.int .i64), (.int .i64), (.int .i64), (.int .i64), (.int .i64), .bool]), (.int .i64), (.int .i64)] (.o2 .cons (.o1 (.fld 0) (.var 10)) (.o2 .cons (.o1 (.fld 1) (.var 10)) (.o2 .cons (.o1 (.fld 2) (.var 10)) (.o2 .cons (.o1 (.fld 3) (.var 10)) (.o2 .cons (.o1 (.fld 4) (.var 10)) (.o2 .cons (.o1 (.fld 5) (.var 10)) (.o2 .cons (.o1 (.fld 6) (.var 10)) (.o2 .cons (.o1 (.fld 7) (.var 10)) (.o2 .cons (.o1 (.fld 8) (.var 10)) (.o2 .cons (.o1 (.fld 9) (.var 10)) (.o2 .cons (.o1 (.fld 10) (.var 10)) (.o2 .cons (.o1 (.fld 11) (.var 10)) (.o2 .cons (.o1 (.fld 12) (.var 10)) (.o2 .cons (.o1 (.fld 13) (.var 10)) (.o2 .cons (.o1 (.fld 14) (.var 10)) (.o2 .cons (.o1 (.fld 15) (.var 10)) (.o2 .cons (.o1 (.fld 16) (.var 10)) (.o2 .cons (.o1 (.fld 17) (.var 10)) (.o2 .cons (.o1 (.fld 18) (.var 10)) (.o2 .cons (.o1 (.fld 19) (.var 10)) (.o2 .cons (.o1 (.fld 20) (.var 10)) (.o2 .cons (.o1 (.fld 21) (.var 10)) .nil)))))))))))))))))))))), .st [(.int .i64), (.int .i64), (.int .i64), (.int .i64), (.int .i64), (.int .i64), (.int .i64), (.int .i64), (.int .i64), (.int .i64), (.int .i64), (.int .i64), (.int .i64), (.int .i64), (.int .i64), (.int .i64), (.int .i64), (.int .i64), .bool, (.sl [(.int .i64), (.int .i64), (.int .i64), (.int .i64), (.int .i64), (.int .i64), .bool]), (.int .i64), (.int .i64)] (.o2 .cons (.o1 (.fld 0) (.var 15)) (.o2 .cons (.o1 (.fld 1) (.var 15)) (.o2 .cons (.o1 (.fld 2) (.var 15)) (.o2 .cons (.o1 (.fld 3) (.var 15)) (.o2 .cons (.o1 (.fld 4) (.var 15)) (.o2 .cons (.o1 (.fld 5) (.var 15)) (.o2 .cons (.o1 (.fld 6) (.var 15)) (.o2 .cons (.o1 (.fld 7) (.var 15)) (.o2 .cons (.o1 (.fld 8) (.var 15)) (.o2 .cons (.o1 (.fld 9) (.var 15)) (.o2 .cons (.o1 (.fld 10) (.var 15)) (.o2 .cons (.o1 (.fld 11) (.var 15)) (.o2 .cons (.o1 (.fld 12) (.var 15)) (.o2 .cons (.o1 (.fld 13) (.var 15)) (.o2 .cons (.o1 (.fld 14) (.var 15)) (.o2 .cons (.o1 (.fld 15) (.var 15)) (.o2 .cons (.o1 (.fld 16) (.var 15)) (.o2 .cons (.o1 (.fld 17) (.var 15)) (.o2 .cons (.o1 (.fld 18) (.var 15)) (.o2 .cons (.o1 (.fld 19) (.var 15)) (.o2 .cons (.o1 (.fld 20) (.var 15)) (.o2 .cons (.o1 (.fld 21) (.var 15)) .nil))))))))))))))))))))))] [.sc .bool]
    (.br (.o1 .not (.var 16))
     (.ret [(.bool false)])
     (.ret [(.bool true)]))))))))))))))))))))
theorem sig_12 : sigOf Try.prog md 12 [] = some ([.st [(.sl [(.int .i64), (.int .i64), (.int .i64), (.int .i64), (.int .i64), (.int .i64), (.int .i64), (.int .i64), (.int .i64), (.int .i64), (.int .i64), .bool, .bool]), (.sl [(.int .i64), (.int .i64), .bool]), (.int .i64), (.int .i64)], .st [(.int .i64), (.int .i64), (.int .i64), (.int .i64), (.int .i64), (.int .i64), (.int .i64), (.int .i64), (.int .i64), (.int .i64), (.int .i64), (.int .i64), (.int .i64), (.int .i64), (.int .i64), (.int .i64), (.int .i64), (.int .i64), .bool, (.sl [(.int .i64), (.int .i64), (.int .i64), (.int .i64), (.int .i64), (.int .i64), .bool]), (.int .i64), (.int .i64)], .st [(.int .i64), (.int .i64), (.int .i64), (.int .i64), (.int .i64), (.int .i64), .bool]], [.sc .bool], tree_12) := by kernel_rfl
theorem mix : Try.prog.follows .mixedOrders = true := by kernel_rfl
end Go.Proofs.Ytfbahdalemajcaa
