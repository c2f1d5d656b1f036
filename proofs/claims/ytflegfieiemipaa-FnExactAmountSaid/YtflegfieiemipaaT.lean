/- The trees of the functions that this claim reaches. -/
import Derived.Test.YtflegfieiemipaaRows
import Derived.Test.YtflegfieiemipaaE6
import Derived.KernelRfl
namespace Go.Proofs.Ytflegfieiemipaa
open Go.Proofs.Ytflegfieiemipaa.Eng
def md : Modes := ⟨[(30, 0)], [], []⟩
/- laws.szEventS -/
def tree_36 : T :=
(.know (.var 0)
(.br (.o2 .lt (.o2 (.sub .i64) (.var 1) (.o1 .len (.var 0))) (.int 0))
 (.ret [(.int (-1))])
 (.ret [(.o2 (.sub .i64) (.var 1) (.o1 .len (.var 0)))])))
theorem sig_36 : sigOf Try.prog md 36 [] = some ([.sc (.sl [(.int .i64), (.int .i64), (.int .i64), (.int .i64), (.int .i64), (.int .i64), .bool]), .sc (.int .i64)], [.sc (.int .i64)], tree_36) := by kernel_rfl
/- laws.szAct -/
def tree_46 : T :=
(.call [] (.fn 36) [.sc (.sl [(.int .i64), (.int .i64), (.int .i64), (.int .i64), (.int .i64), (.int .i64), .bool]) (.o1 (.fld 6) (.var 0)), .sc (.int .i64) (.var 1)] [.sc (.int .i64)]
(.br (.o2 .lt (.var 2) (.int 0))
 (.ret [(.int (-1))])
 (.ret [(.var 2)])))
theorem sig_46 : sigOf Try.prog md 46 [] = some ([.st [(.int .i64), (.int .i64), (.int .i64), (.int .i64), (.int .i64), .bool, (.sl [(.int .i64), (.int .i64), (.int .i64), (.int .i64), (.int .i64), (.int .i64), .bool])], .sc (.int .i64)], [.sc (.int .i64)], tree_46) := by kernel_rfl
/- laws.toEvent -/
def tree_16 : T :=
(.ret [(.o2 .cons (.o1 (.fld 0) (.var 0)) (.o2 .cons (.o1 (.fld 1) (.var 0)) (.o2 .cons (.o1 (.fld 2) (.var 0)) (.o2 .cons (.o1 (.fld 3) (.var 0)) (.o2 .cons (.o1 (.fld 4) (.var 0)) (.o2 .cons (.o1 (.fld 5) (.var 0)) (.o2 .cons (.o1 (.fld 6) (.var 0)) .nil)))))))])
theorem sig_16 : sigOf Try.prog md 16 [] = some ([.st [(.int .i64), (.int .i64), (.int .i64), (.int .i64), (.int .i64), (.int .i64), .bool]], [.st [(.int .i64), (.int .i64), (.int .i64), (.int .i64), (.int .i64), (.int .i64), .bool]], tree_16) := by kernel_rfl
/- laws.toEventS -/
def tree_38 : T :=
(.know (.var 0)
(.need [] (.o2 .le (.int 0) (.o1 .len (.var 0)))
(.need [] (.o2 (.fits 56) (.o1 .len (.var 0)) (.int 0))
(.loop 0 [(.int 0), (.o2 .rep (.o1 .len (.var 0)) (.o2 .cons (.int 0) (.o2 .cons (.int 0) (.o2 .cons (.int 0) (.o2 .cons (.int 0) (.o2 .cons (.int 0) (.o2 .cons (.int 0) (.o2 .cons (.bool false) .nil))))))))]
 (.know (.var 0)
 (.br (.o2 .lt (.var 1) (.o1 .len (.var 0)))
  (.need [] (.o2 .le (.int 0) (.var 1))
  (.need [] (.o2 .lt (.var 1) (.o1 .len (.var 0)))
  (.call [] (.fn 16) [.st [(.int .i64), (.int .i64), (.int .i64), (.int .i64), (.int .i64), (.int .i64), .bool] (.o2 .cons (.o1 (.fld 0) (.o2 .idx (.var 0) (.var 1))) (.o2 .cons (.o1 (.fld 1) (.o2 .idx (.var 0) (.var 1))) (.o2 .cons (.o1 (.fld 2) (.o2 .idx (.var 0) (.var 1))) (.o2 .cons (.o1 (.fld 3) (.o2 .idx (.var 0) (.var 1))) (.o2 .cons (.o1 (.fld 4) (.o2 .idx (.var 0) (.var 1))) (.o2 .cons (.o1 (.fld 5) (.o2 .idx (.var 0) (.var 1))) (.o2 .cons (.o1 (.fld 6) (.o2 .idx (.var 0) (.var 1))) .nil)))))))] [.st [(.int .i64), (.int .i64), (.int .i64), (.int .i64), (.int .i64), (.int .i64), .bool]]
  (.need [] (.o2 .le (.int 0) (.var 1))
  (.need [] (.o2 .lt (.var 1) (.o1 .len (.var 2)))
  (.cont 0 [(.o2 (.add .i64) (.var 1) (.int 1)), (.o3 .setE (.var 2) (.var 1) (.o2 .cons (.o1 (.fld 0) (.var 3)) (.o2 .cons (.o1 (.fld 1) (.var 3)) (.o2 .cons (.o1 (.fld 2) (.var 3)) (.o2 .cons (.o1 (.fld 3) (.var 3)) (.o2 .cons (.o1 (.fld 4) (.var 3)) (.o2 .cons (.o1 (.fld 5) (.var 3)) (.o2 .cons (.o1 (.fld 6) (.var 3)) .nil))))))))]))))))
  (.ret [(.var 2)])))))))
theorem sig_38 : sigOf Try.prog md 38 [] = some ([.sc (.sl [(.int .i64), (.int .i64), (.int .i64), (.int .i64), (.int .i64), (.int .i64), .bool])], [.sc (.sl [(.int .i64), (.int .i64), (.int .i64), (.int .i64), (.int .i64), (.int .i64), .bool])], tree_38) := by kernel_rfl
/- laws.toAct -/
def tree_48 : T :=
(.call [] (.fn 38) [.sc (.sl [(.int .i64), (.int .i64), (.int .i64), (.int .i64), (.int .i64), (.int .i64), .bool]) (.o1 (.fld 6) (.var 0))] [.sc (.sl [(.int .i64), (.int .i64), (.int .i64), (.int .i64), (.int .i64), (.int .i64), .bool])]
(.ret [(.o2 .cons (.o1 (.fld 0) (.var 0)) (.o2 .cons (.o1 (.fld 1) (.var 0)) (.o2 .cons (.o1 (.fld 2) (.var 0)) (.o2 .cons (.o1 (.fld 3) (.var 0)) (.o2 .cons (.o1 (.fld 4) (.var 0)) (.o2 .cons (.o1 (.fld 5) (.var 0)) (.o2 .cons (.var 1) .nil)))))))]))
theorem sig_48 : sigOf Try.prog md 48 [] = some ([.st [(.int .i64), (.int .i64), (.int .i64), (.int .i64), (.int .i64), .bool, (.sl [(.int .i64), (.int .i64), (.int .i64), (.int .i64), (.int .i64), (.int .i64), .bool])]], [.st [(.int .i64), (.int .i64), (.int .i64), (.int .i64), (.int .i64), .bool, (.sl [(.int .i64), (.int .i64), (.int .i64), (.int .i64), (.int .i64), (.int .i64), .bool])]], tree_48) := by kernel_rfl
/- laws.eqEvent -/
def tree_65 : T :=
(.br (.o2 .ne (.o1 (.fld 0) (.var 0)) (.o1 (.fld 0) (.var 1)))
 (.ret [(.bool false)])
 (.br (.o2 .ne (.o1 (.fld 1) (.var 0)) (.o1 (.fld 1) (.var 1)))
  (.ret [(.bool false)])
  (.br (.o2 .ne (.o1 (.fld 2) (.var 0)) (.o1 (.fld 2) (.var 1)))
   (.ret [(.bool false)])
   (.br (.o2 .ne (.o1 (.fld 3) (.var 0)) (.o1 (.fld 3) (.var 1)))
    (.ret [(.bool false)])
    (.br (.o2 .ne (.o1 (.fld 4) (.var 0)) (.o1 (.fld 4) (.var 1)))
     (.ret [(.bool false)])
     (.br (.o2 .ne (.o1 (.fld 5) (.var 0)) (.o1 (.fld 5) (.var 1)))
      (.ret [(.bool false)])
      (.br (.o2 .bne (.o1 (.fld 6) (.var 0)) (.o1 (.fld 6) (.var 1)))
       (.ret [(.bool false)])
       (.ret [(.bool true)]))))))))
theorem sig_65 : sigOf Try.prog md 65 [] = some ([.st [(.int .i64), (.int .i64), (.int .i64), (.int .i64), (.int .i64), (.int .i64), .bool], .st [(.int .i64), (.int .i64), (.int .i64), (.int .i64), (.int .i64), (.int .i64), .bool]], [.sc .bool], tree_65) := by kernel_rfl
/- laws.eqEventS -/
def tree_40 : T :=
(.know (.var 0)
(.know (.var 1)
(.br (.o2 .ne (.o1 .len (.var 0)) (.o1 .len (.var 1)))
 (.ret [(.bool false)])
 (.loop 0 [(.int 0)]
  (.know (.var 0)
  (.br (.o2 .lt (.var 2) (.o1 .len (.var 0)))
   (.need [] (.o2 .le (.int 0) (.var 2))
   (.need [] (.o2 .lt (.var 2) (.o1 .len (.var 0)))
   (.need [] (.o2 .le (.int 0) (.var 2))
   (.need [] (.o2 .lt (.var 2) (.o1 .len (.var 1)))
   (.call [] (.fn 65) [.st [(.int .i64), (.int .i64), (.int .i64), (.int .i64), (.int .i64), (.int .i64), .bool] (.o2 .cons (.o1 (.fld 0) (.o2 .idx (.var 0) (.var 2))) (.o2 .cons (.o1 (.fld 1) (.o2 .idx (.var 0) (.var 2))) (.o2 .cons (.o1 (.fld 2) (.o2 .idx (.var 0) (.var 2))) (.o2 .cons (.o1 (.fld 3) (.o2 .idx (.var 0) (.var 2))) (.o2 .cons (.o1 (.fld 4) (.o2 .idx (.var 0) (.var 2))) (.o2 .cons (.o1 (.fld 5) (.o2 .idx (.var 0) (.var 2))) (.o2 .cons (.o1 (.fld 6) (.o2 .idx (.var 0) (.var 2))) .nil))))))), .st [(.int .i64), (.int .i64), (.int .i64), (.int .i64), (.int .i64), (.int .i64), .bool] (.o2 .cons (.o1 (.fld 0) (.o2 .idx (.var 1) (.var 2))) (.o2 .cons (.o1 (.fld 1) (.o2 .idx (.var 1) (.var 2))) (.o2 .cons (.o1 (.fld 2) (.o2 .idx (.var 1) (.var 2))) (.o2 .cons (.o1 (.fld 3) (.o2 .idx (.var 1) (.var 2))) (.o2 .cons (.o1 (.fld 4) (.o2 .idx (.var 1) (.var 2))) (.o2 .cons (.o1 (.fld 5) (.o2 .idx (.var 1) (.var 2))) (.o2 .cons (.o1 (.fld 6) (.o2 .idx (.var 1) (.var 2))) .nil)))))))] [.sc .bool]
   (.br (.o1 .not (.var 3))
    (.ret [(.bool false)])
    (.cont 0 [(.o2 (.add .i64) (.var 2) (.int 1))])))))))
   (.ret [(.bool true)])))))))
theorem sig_40 : sigOf Try.prog md 40 [] = some ([.sc (.sl [(.int .i64), (.int .i64), (.int .i64), (.int .i64), (.int .i64), (.int .i64), .bool]), .sc (.sl [(.int .i64), (.int .i64), (.int .i64), (.int .i64), (.int .i64), (.int .i64), .bool])], [.sc .bool], tree_40) := by kernel_rfl
/- laws.eqAct -/
def tree_50 : T :=
(.br (.o2 .ne (.o1 (.fld 0) (.var 0)) (.o1 (.fld 0) (.var 1)))
 (.ret [(.bool false)])
 (.br (.o2 .ne (.o1 (.fld 1) (.var 0)) (.o1 (.fld 1) (.var 1)))
  (.ret [(.bool false)])
  (.br (.o2 .ne (.o1 (.fld 2) (.var 0)) (.o1 (.fld 2) (.var 1)))
   (.ret [(.bool false)])
   (.br (.o2 .ne (.o1 (.fld 3) (.var 0)) (.o1 (.fld 3) (.var 1)))
    (.ret [(.bool false)])
    (.br (.o2 .ne (.o1 (.fld 4) (.var 0)) (.o1 (.fld 4) (.var 1)))
     (.ret [(.bool false)])
     (.br (.o2 .bne (.o1 (.fld 5) (.var 0)) (.o1 (.fld 5) (.var 1)))
      (.ret [(.bool false)])
      (.call [] (.fn 40) [.sc (.sl [(.int .i64), (.int .i64), (.int .i64), (.int .i64), (.int .i64), (.int .i64), .bool]) (.o1 (.fld 6) (.var 0)), .sc (.sl [(.int .i64), (.int .i64), (.int .i64), (.int .i64), (.int .i64), (.int .i64), .bool]) (.o1 (.fld 6) (.var 1))] [.sc .bool]
      (.br (.o1 .not (.var 2))
       (.ret [(.bool false)])
       (.ret [(.bool true)])))))))))
theorem sig_50 : sigOf Try.prog md 50 [] = some ([.st [(.int .i64), (.int .i64), (.int .i64), (.int .i64), (.int .i64), .bool, (.sl [(.int .i64), (.int .i64), (.int .i64), (.int .i64), (.int .i64), (.int .i64), .bool])], .st [(.int .i64), (.int .i64), (.int .i64), (.int .i64), (.int .i64), .bool, (.sl [(.int .i64), (.int .i64), (.int .i64), (.int .i64), (.int .i64), (.int .i64), .bool])]], [.sc .bool], tree_50) := by kernel_rfl
/- spec.Upto -/
def tree_63 : T :=
(.br (.o2 .lt (.var 1) (.var 0))
 (.br (.o2 .lt (.var 1) (.int 0))
  (.ret [(.int 0)])
  (.ret [(.var 1)]))
 (.br (.o2 .lt (.var 0) (.int 0))
  (.ret [(.int 0)])
  (.ret [(.var 0)])))
theorem sig_63 : sigOf Try.prog md 63 [] = some ([.sc (.int .i64), .sc (.int .i64)], [.sc (.int .i64)], tree_63) := by kernel_rfl
/- spec.Bound -/
def tree_79 : T :=
(.br (.o2 .gt (.var 0) (.int 2147483647))
 (.ret [(.int 2147483647)])
 (.br (.o2 .lt (.var 0) (.int (-2147483647)))
  (.ret [(.int (-2147483647))])
  (.ret [(.var 0)])))
theorem sig_79 : sigOf Try.prog md 79 [] = some ([.sc (.int .i64)], [.sc (.int .i64)], tree_79) := by kernel_rfl
/- spec.Plus -/
def tree_67 : T :=
(.call [] (.fn 79) [.sc (.int .i64) (.var 0)] [.sc (.int .i64)]
(.call [] (.fn 79) [.sc (.int .i64) (.var 1)] [.sc (.int .i64)]
(.call [] (.fn 79) [.sc (.int .i64) (.o2 (.add .i64) (.var 2) (.var 3))] [.sc (.int .i64)]
(.ret [(.var 4)]))))
theorem sig_67 : sigOf Try.prog md 67 [] = some ([.sc (.int .i64), .sc (.int .i64)], [.sc (.int .i64)], tree_67) := by kernel_rfl
/- spec.Twice -/
def tree_68 : T :=
(.call [] (.fn 79) [.sc (.int .i64) (.var 0)] [.sc (.int .i64)]
(.call [] (.fn 79) [.sc (.int .i64) (.o2 (.mul .i64) (.int 2) (.var 1))] [.sc (.int .i64)]
(.ret [(.var 2)])))
theorem sig_68 : sigOf Try.prog md 68 [] = some ([.sc (.int .i64)], [.sc (.int .i64)], tree_68) := by kernel_rfl
/- spec.Half -/
def tree_69 : T :=
(.call [] (.fn 79) [.sc (.int .i64) (.var 0)] [.sc (.int .i64)]
(.need [] (.o2 .ne (.int 2) (.int 0))
(.ret [(.o2 (.quo .i64) (.var 1) (.int 2))])))
theorem sig_69 : sigOf Try.prog md 69 [] = some ([.sc (.int .i64)], [.sc (.int .i64)], tree_69) := by kernel_rfl
/- spec.Amount -/
def tree_51 : T :=
(.call [] (.fn 63) [.sc (.int .i64) (.var 1), .sc (.int .i64) (.int 2147483647)] [.sc (.int .i64)]
(.br (.o2 .eq (.o1 (.fld 0) (.var 0)) (.int 1))
 (.ret [(.int 0)])
 (.br (.o2 .eq (.o1 (.fld 0) (.var 0)) (.int 3))
  (.call [] (.fn 67) [.sc (.int .i64) (.var 2), .sc (.int .i64) (.o1 (.fld 1) (.var 0))] [.sc (.int .i64)]
  (.ret [(.var 3)]))
  (.br (.o2 .eq (.o1 (.fld 0) (.var 0)) (.int 4))
   (.call [] (.fn 68) [.sc (.int .i64) (.var 2)] [.sc (.int .i64)]
   (.ret [(.var 3)]))
   (.br (.o2 .eq (.o1 (.fld 0) (.var 0)) (.int 5))
    (.call [] (.fn 69) [.sc (.int .i64) (.var 2)] [.sc (.int .i64)]
    (.ret [(.var 3)]))
    (.ret [(.var 2)]))))))
theorem sig_51 : sigOf Try.prog md 51 [] = some ([.st [(.int .i64), (.int .i64), (.int .i64), (.int .i64), (.int .i64), .bool, (.sl [(.int .i64), (.int .i64), (.int .i64), (.int .i64), (.int .i64), (.int .i64), .bool])], .sc (.int .i64)], [.sc (.int .i64)], tree_51) := by kernel_rfl
/- impl.Upto -/
def tree_64 : T :=
(.ret [(.o2 .max (.int 0) (.o2 .min (.var 0) (.var 1)))])
theorem sig_64 : sigOf Try.prog md 64 [] = some ([.sc (.int .i64), .sc (.int .i64)], [.sc (.int .i64)], tree_64) := by kernel_rfl
/- impl.Bound -/
def tree_56 : T :=
(.ret [(.o2 .max (.int (-2147483647)) (.o2 .min (.var 0) (.int 2147483647)))])
theorem sig_56 : sigOf Try.prog md 56 [] = some ([.sc (.int .i64)], [.sc (.int .i64)], tree_56) := by kernel_rfl
/- impl.Plus -/
def tree_70 : T :=
(.call [] (.fn 56) [.sc (.int .i64) (.var 0)] [.sc (.int .i64)]
(.call [] (.fn 56) [.sc (.int .i64) (.var 1)] [.sc (.int .i64)]
(.call [] (.fn 56) [.sc (.int .i64) (.o2 (.add .i64) (.var 2) (.var 3))] [.sc (.int .i64)]
(.ret [(.var 4)]))))
theorem sig_70 : sigOf Try.prog md 70 [] = some ([.sc (.int .i64), .sc (.int .i64)], [.sc (.int .i64)], tree_70) := by kernel_rfl
/- impl.Twice -/
def tree_71 : T :=
(.call [] (.fn 56) [.sc (.int .i64) (.var 0)] [.sc (.int .i64)]
(.call [] (.fn 56) [.sc (.int .i64) (.o2 (.mul .i64) (.int 2) (.var 1))] [.sc (.int .i64)]
(.ret [(.var 2)])))
theorem sig_71 : sigOf Try.prog md 71 [] = some ([.sc (.int .i64)], [.sc (.int .i64)], tree_71) := by kernel_rfl
/- impl.Half -/
def tree_72 : T :=
(.call [] (.fn 56) [.sc (.int .i64) (.var 0)] [.sc (.int .i64)]
(.need [] (.o2 .ne (.int 2) (.int 0))
(.ret [(.o2 (.quo .i64) (.var 1) (.int 2))])))
theorem sig_72 : sigOf Try.prog md 72 [] = some ([.sc (.int .i64)], [.sc (.int .i64)], tree_72) := by kernel_rfl
/- impl.Amount -/
def tree_52 : T :=
(.call [] (.fn 64) [.sc (.int .i64) (.var 1), .sc (.int .i64) (.int 2147483647)] [.sc (.int .i64)]
(.br (.o2 .eq (.o1 (.fld 0) (.var 0)) (.int 1))
 (.ret [(.int 0)])
 (.br (.o2 .eq (.o1 (.fld 0) (.var 0)) (.int 3))
  (.call [] (.fn 70) [.sc (.int .i64) (.var 2), .sc (.int .i64) (.o1 (.fld 1) (.var 0))] [.sc (.int .i64)]
  (.ret [(.var 3)]))
  (.br (.o2 .eq (.o1 (.fld 0) (.var 0)) (.int 4))
   (.call [] (.fn 71) [.sc (.int .i64) (.var 2)] [.sc (.int .i64)]
   (.ret [(.var 3)]))
   (.br (.o2 .eq (.o1 (.fld 0) (.var 0)) (.int 5))
    (.call [] (.fn 72) [.sc (.int .i64) (.var 2)] [.sc (.int .i64)]
    (.ret [(.var 3)]))
    (.ret [(.var 2)]))))))
theorem sig_52 : sigOf Try.prog md 52 [] = some ([.st [(.int .i64), (.int .i64), (.int .i64), (.int .i64), (.int .i64), .bool, (.sl [(.int .i64), (.int .i64), (.int .i64), (.int .i64), (.int .i64), (.int .i64), .bool])], .sc (.int .i64)], [.sc (.int .i64)], tree_52) := by kernel_rfl
/- laws.FnExactAmount -/
def tree_13 : T :=
(.call [] (.fn 46) [.st [(.int .i64), (.int .i64), (.int .i64), (.int .i64), (.int .i64), .bool, (.sl [(.int .i64), (.int .i64), (.int .i64), (.int .i64), (.int .i64), (.int .i64), .bool])] (.o2 .cons (.o1 (.fld 0) (.var 0)) (.o2 .cons (.o1 (.fld 1) (.var 0)) (.o2 .cons (.o1 (.fld 2) (.var 0)) (.o2 .cons (.o1 (.fld 3) (.var 0)) (.o2 .cons (.o1 (.fld 4) (.var 0)) (.o2 .cons (.o1 (.fld 5) (.var 0)) (.o2 .cons (.o1 (.fld 6) (.var 0)) .nil))))))), .sc (.int .i64) (.int 1048576)] [.sc (.int .i64)]
(.br (.o2 .lt (.var 2) (.int 0))
 (.ret [(.bool true)])
 (.call [] (.fn 48) [.st [(.int .i64), (.int .i64), (.int .i64), (.int .i64), (.int .i64), .bool, (.sl [(.int .i64), (.int .i64), (.int .i64), (.int .i64), (.int .i64), (.int .i64), .bool])] (.o2 .cons (.o1 (.fld 0) (.var 0)) (.o2 .cons (.o1 (.fld 1) (.var 0)) (.o2 .cons (.o1 (.fld 2) (.var 0)) (.o2 .cons (.o1 (.fld 3) (.var 0)) (.o2 .cons (.o1 (.fld 4) (.var 0)) (.o2 .cons (.o1 (.fld 5) (.var 0)) (.o2 .cons (.o1 (.fld 6) (.var 0)) .nil)))))))] [.st [(.int .i64), (.int .i64), (.int .i64), (.int .i64), (.int .i64), .bool, (.sl [(.int .i64), (.int .i64), (.int .i64), (.int .i64), (.int .i64), (.int .i64), .bool])]]
 (.call [] (.fn 51) [.st [(.int .i64), (.int .i64), (.int .i64), (.int .i64), (.int .i64), .bool, (.sl [(.int .i64), (.int .i64), (.int .i64), (.int .i64), (.int .i64), (.int .i64), .bool])] (.o2 .cons (.o1 (.fld 0) (.var 3)) (.o2 .cons (.o1 (.fld 1) (.var 3)) (.o2 .cons (.o1 (.fld 2) (.var 3)) (.o2 .cons (.o1 (.fld 3) (.var 3)) (.o2 .cons (.o1 (.fld 4) (.var 3)) (.o2 .cons (.o1 (.fld 5) (.var 3)) (.o2 .cons (.o1 (.fld 6) (.var 3)) .nil))))))), .sc (.int .i64) (.var 1)] [.sc (.int .i64)]
 (.call [] (.fn 48) [.st [(.int .i64), (.int .i64), (.int .i64), (.int .i64), (.int .i64), .bool, (.sl [(.int .i64), (.int .i64), (.int .i64), (.int .i64), (.int .i64), (.int .i64), .bool])] (.o2 .cons (.o1 (.fld 0) (.var 0)) (.o2 .cons (.o1 (.fld 1) (.var 0)) (.o2 .cons (.o1 (.fld 2) (.var 0)) (.o2 .cons (.o1 (.fld 3) (.var 0)) (.o2 .cons (.o1 (.fld 4) (.var 0)) (.o2 .cons (.o1 (.fld 5) (.var 0)) (.o2 .cons (.o1 (.fld 6) (.var 0)) .nil)))))))] [.st [(.int .i64), (.int .i64), (.int .i64), (.int .i64), (.int .i64), .bool, (.sl [(.int .i64), (.int .i64), (.int .i64), (.int .i64), (.int .i64), (.int .i64), .bool])]]
 (.call [] (.fn 52) [.st [(.int .i64), (.int .i64), (.int .i64), (.int .i64), (.int .i64), .bool, (.sl [(.int .i64), (.int .i64), (.int .i64), (.int .i64), (.int .i64), (.int .i64), .bool])] (.o2 .cons (.o1 (.fld 0) (.var 5)) (.o2 .cons (.o1 (.fld 1) (.var 5)) (.o2 .cons (.o1 (.fld 2) (.var 5)) (.o2 .cons (.o1 (.fld 3) (.var 5)) (.o2 .cons (.o1 (.fld 4) (.var 5)) (.o2 .cons (.o1 (.fld 5) (.var 5)) (.o2 .cons (.o1 (.fld 6) (.var 5)) .nil))))))), .sc (.int .i64) (.var 1)] [.sc (.int .i64)]
 (.br (.o2 .ne (.var 6) (.var 4))
  (.ret [(.bool false)])
  (.call [] (.fn 48) [.st [(.int .i64), (.int .i64), (.int .i64), (.int .i64), (.int .i64), .bool, (.sl [(.int .i64), (.int .i64), (.int .i64), (.int .i64), (.int .i64), (.int .i64), .bool])] (.o2 .cons (.o1 (.fld 0) (.var 0)) (.o2 .cons (.o1 (.fld 1) (.var 0)) (.o2 .cons (.o1 (.fld 2) (.var 0)) (.o2 .cons (.o1 (.fld 3) (.var 0)) (.o2 .cons (.o1 (.fld 4) (.var 0)) (.o2 .cons (.o1 (.fld 5) (.var 0)) (.o2 .cons (.o1 (.fld 6) (.var 0)) .nil)))))))] [.st [(.int .i64), (.int .i64), (.int .i64), (.int .i64), (.int .i64), .bool, (.sl [(.int .i64), (.int .i64), (.int .i64), (.int .i64), (.int .i64), (.int .i64), .bool])]]
  (.call [] (.fn 50) [.st [(.int .i64), (.int .i64), (.int .i64), (.int .i64), (.int .i64), .bool, (.sl [(.int .i64), (.int .i64), (.int .i64), (.int .i64), (.int .i64), (.int .i64), .bool])] (.o2 .cons (.o1 (.fld 0) (.var 5)) (.o2 .cons (.o1 (.fld 1) (.var 5)) (.o2 .cons (.o1 (.fld 2) (.var 5)) (.o2 .cons (.o1 (.fld 3) (.var 5)) (.o2 .cons (.o1 (.fld 4) (.var 5)) (.o2 .cons (.o1 (.fld 5) (.var 5)) (.o2 .cons (.o1 (.fld 6) (.var 5)) .nil))))))), .st [(.int .i64), (.int .i64), (.int .i64), (.int .i64), (.int .i64), .bool, (.sl [(.int .i64), (.int .i64), (.int .i64), (.int .i64), (.int .i64), (.int .i64), .bool])] (.o2 .cons (.o1 (.fld 0) (.var 7)) (.o2 .cons (.o1 (.fld 1) (.var 7)) (.o2 .cons (.o1 (.fld 2) (.var 7)) (.o2 .cons (.o1 (.fld 3) (.var 7)) (.o2 .cons (.o1 (.fld 4) (.var 7)) (.o2 .cons (.o1 (.fld 5) (.var 7)) (.o2 .cons (.o1 (.fld 6) (.var 7)) .nil)))))))] [.sc .bool]
  (.br (.o1 .not (.var 8))
   (.ret [(.bool false)])
   (.ret [(.bool true)])))))))))))
theorem sig_13 : sigOf Try.prog md 13 [] = some ([.st [(.int .i64), (.int .i64), (.int .i64), (.int .i64), (.int .i64), .bool, (.sl [(.int .i64), (.int .i64), (.int .i64), (.int .i64), (.int .i64), (.int .i64), .bool])], .sc (.int .i64)], [.sc .bool], tree_13) := by kernel_rfl
theorem mix : Try.prog.follows .mixedOrders = true := by kernel_rfl
end Go.Proofs.Ytflegfieiemipaa
