/- The trees of the functions that this claim reaches. -/
import Derived.Test.YtflegfieiemipaaRows
import Derived.Test.YtflegfieiemipaaE6
import Derived.KernelRfl
namespace Go.Proofs.Ytflegfieiemipaa
open Go.Proofs.Ytflegfieiemipaa.Eng
def md : Modes := ⟨[(30, 0)], [], []⟩
/- laws.szEventS -/
def tree_36 : T :=
(.know (.var 0)
(.br (.o2 .lt (.o2 (.sub .i64) (.var 1) (.o1 .len (.var 0))) (.int 0))
 (.ret [(.int (-1))])
 (.ret [(.o2 (.sub .i64) (.var 1) (.o1 .len (.var 0)))])))
theorem sig_36 : sigOf Try.prog md 36 [] = some ([.sc (.sl [(.int .i64), (.int .i64), (.int .i64), (.int .i64), (.int .i64), (.int .i64), .bool]), .sc (.int .i64)], [.sc (.int .i64)], tree_36) := by kernel_rfl
/- spec.Upto -/
def tree_63 : T :=
(.br (.o2 .lt (.var 1) (.var 0))
 (.br (.o2 .lt (.var 1) (.int 0))
  (.ret [(.int 0)])
  (.ret [(.var 1)]))
 (.br (.o2 .lt (.var 0) (.int 0))
  (.ret [(.int 0)])
  (.ret [(.var 0)])))
theorem sig_63 : sigOf Try.prog md 63 [] = some ([.sc (.int .i64), .sc (.int .i64)], [.sc (.int .i64)], tree_63) := by kernel_rfl
/- spec.Total -/
def tree_37 : T :=
(.loop 0 [(.int 0), (.int 0)]
 (.know (.var 0)
 (.br (.o2 .lt (.var 2) (.o1 .len (.var 0)))
  (.need [] (.o2 .le (.int 0) (.var 2))
  (.need [] (.o2 .lt (.var 2) (.o1 .len (.var 0)))
  (.br (.o2 .eq (.o1 (.fld 0) (.o2 .idx (.var 0) (.var 2))) (.int 1))
   (.need [] (.o2 .le (.int 0) (.var 2))
   (.need [] (.o2 .lt (.var 2) (.o1 .len (.var 0)))
   (.call [] (.fn 63) [.sc (.int .i64) (.o1 (.fld 4) (.o2 .idx (.var 0) (.var 2))), .sc (.int .i64) (.int 2147483647)] [.sc (.int .i64)]
   (.cont 0 [(.o2 (.add .i64) (.var 1) (.var 3)), (.o2 (.add .i64) (.var 2) (.int 1))]))))
   (.cont 0 [(.var 1), (.o2 (.add .i64) (.var 2) (.int 1))]))))
  (.ret [(.var 1)]))))
theorem sig_37 : sigOf Try.prog md 37 [] = some ([.sc (.sl [(.int .i64), (.int .i64), (.int .i64), (.int .i64), (.int .i64), (.int .i64), .bool])], [.sc (.int .i64)], tree_37) := by kernel_rfl
/- laws.toEvent -/
def tree_16 : T :=
(.ret [(.o2 .cons (.o1 (.fld 0) (.var 0)) (.o2 .cons (.o1 (.fld 1) (.var 0)) (.o2 .cons (.o1 (.fld 2) (.var 0)) (.o2 .cons (.o1 (.fld 3) (.var 0)) (.o2 .cons (.o1 (.fld 4) (.var 0)) (.o2 .cons (.o1 (.fld 5) (.var 0)) (.o2 .cons (.o1 (.fld 6) (.var 0)) .nil)))))))])
theorem sig_16 : sigOf Try.prog md 16 [] = some ([.st [(.int .i64), (.int .i64), (.int .i64), (.int .i64), (.int .i64), (.int .i64), .bool]], [.st [(.int .i64), (.int .i64), (.int .i64), (.int .i64), (.int .i64), (.int .i64), .bool]], tree_16) := by kernel_rfl
/- laws.toEventS -/
def tree_38 : T :=
(.know (.var 0)
(.need [] (.o2 .le (.int 0) (.o1 .len (.var 0)))
(.need [] (.o2 (.fits 56) (.o1 .len (.var 0)) (.int 0))
(.loop 0 [(.int 0), (.o2 .rep (.o1 .len (.var 0)) (.o2 .cons (.int 0) (.o2 .cons (.int 0) (.o2 .cons (.int 0) (.o2 .cons (.int 0) (.o2 .cons (.int 0) (.o2 .cons (.int 0) (.o2 .cons (.bool false) .nil))))))))]
 (.know (.var 0)
 (.br (.o2 .lt (.var 1) (.o1 .len (.var 0)))
  (.need [] (.o2 .le (.int 0) (.var 1))
  (.need [] (.o2 .lt (.var 1) (.o1 .len (.var 0)))
  (.call [] (.fn 16) [.st [(.int .i64), (.int .i64), (.int .i64), (.int .i64), (.int .i64), (.int .i64), .bool] (.o2 .cons (.o1 (.fld 0) (.o2 .idx (.var 0) (.var 1))) (.o2 .cons (.o1 (.fld 1) (.o2 .idx (.var 0) (.var 1))) (.o2 .cons (.o1 (.fld 2) (.o2 .idx (.var 0) (.var 1))) (.o2 .cons (.o1 (.fld 3) (.o2 .idx (.var 0) (.var 1))) (.o2 .cons (.o1 (.fld 4) (.o2 .idx (.var 0) (.var 1))) (.o2 .cons (.o1 (.fld 5) (.o2 .idx (.var 0) (.var 1))) (.o2 .cons (.o1 (.fld 6) (.o2 .idx (.var 0) (.var 1))) .nil)))))))] [.st [(.int .i64), (.int .i64), (.int .i64), (.int .i64), (.int .i64), (.int .i64), .bool]]
  (.need [] (.o2 .le (.int 0) (.var 1))
  (.need [] (.o2 .lt (.var 1) (.o1 .len (.var 2)))
  (.cont 0 [(.o2 (.add .i64) (.var 1) (.int 1)), (.o3 .setE (.var 2) (.var 1) (.o2 .cons (.o1 (.fld 0) (.var 3)) (.o2 .cons (.o1 (.fld 1) (.var 3)) (.o2 .cons (.o1 (.fld 2) (.var 3)) (.o2 .cons (.o1 (.fld 3) (.var 3)) (.o2 .cons (.o1 (.fld 4) (.var 3)) (.o2 .cons (.o1 (.fld 5) (.var 3)) (.o2 .cons (.o1 (.fld 6) (.var 3)) .nil))))))))]))))))
  (.ret [(.var 2)])))))))
theorem sig_38 : sigOf Try.prog md 38 [] = some ([.sc (.sl [(.int .i64), (.int .i64), (.int .i64), (.int .i64), (.int .i64), (.int .i64), .bool])], [.sc (.sl [(.int .i64), (.int .i64), (.int .i64), (.int .i64), (.int .i64), (.int .i64), .bool])], tree_38) := by kernel_rfl
/- impl.Upto -/
def tree_64 : T :=
(.ret [(.o2 .max (.int 0) (.o2 .min (.var 0) (.var 1)))])
theorem sig_64 : sigOf Try.prog md 64 [] = some ([.sc (.int .i64), .sc (.int .i64)], [.sc (.int .i64)], tree_64) := by kernel_rfl
/- impl.Total -/
def tree_39 : T :=
(.know (.var 0)
(.loop 0 [(.int 0), (.int 0)]
 (.br (.o2 .lt (.var 2) (.o1 .len (.var 0)))
  (.need [] (.o2 .le (.int 0) (.var 2))
  (.need [] (.o2 .lt (.var 2) (.o1 .len (.var 0)))
  (.br (.o2 .eq (.o1 (.fld 0) (.o2 .idx (.var 0) (.var 2))) (.int 1))
   (.call [] (.fn 64) [.sc (.int .i64) (.o1 (.fld 4) (.o2 .idx (.var 0) (.var 2))), .sc (.int .i64) (.int 2147483647)] [.sc (.int .i64)]
   (.cont 0 [(.o2 (.add .i64) (.var 1) (.var 3)), (.o2 (.add .i64) (.var 2) (.int 1))]))
   (.cont 0 [(.var 1), (.o2 (.add .i64) (.var 2) (.int 1))]))))
  (.ret [(.var 1)]))))
theorem sig_39 : sigOf Try.prog md 39 [] = some ([.sc (.sl [(.int .i64), (.int .i64), (.int .i64), (.int .i64), (.int .i64), (.int .i64), .bool])], [.sc (.int .i64)], tree_39) := by kernel_rfl
/- laws.eqEvent -/
def tree_65 : T :=
(.br (.o2 .ne (.o1 (.fld 0) (.var 0)) (.o1 (.fld 0) (.var 1)))
 (.ret [(.bool false)])
 (.br (.o2 .ne (.o1 (.fld 1) (.var 0)) (.o1 (.fld 1) (.var 1)))
  (.ret [(.bool false)])
  (.br (.o2 .ne (.o1 (.fld 2) (.var 0)) (.o1 (.fld 2) (.var 1)))
   (.ret [(.bool false)])
   (.br (.o2 .ne (.o1 (.fld 3) (.var 0)) (.o1 (.fld 3) (.var 1)))
    (.ret [(.bool false)])
    (.br (.o2 .ne (.o1 (.fld 4) (.var 0)) (.o1 (.fld 4) (.var 1)))
     (.ret [(.bool false)])
     (.br (.o2 .ne (.o1 (.fld 5) (.var 0)) (.o1 (.fld 5) (.var 1)))
      (.ret [(.bool false)])
      (.br (.o2 .bne (.o1 (.fld 6) (.var 0)) (.o1 (.fld 6) (.var 1)))
       (.ret [(.bool false)])
       (.ret [(.bool true)]))))))))
theorem sig_65 : sigOf Try.prog md 65 [] = some ([.st [(.int .i64), (.int .i64), (.int .i64), (.int .i64), (.int .i64), (.int .i64), .bool], .st [(.int .i64), (.int .i64), (.int .i64), (.int .i64), (.int .i64), (.int .i64), .bool]], [.sc .bool], tree_65) := by kernel_rfl
/- laws.eqEventS -/
def tree_40 : T :=
(.know (.var 0)
(.know (.var 1)
(.br (.o2 .ne (.o1 .len (.var 0)) (.o1 .len (.var 1)))
 (.ret [(.bool false)])
 (.loop 0 [(.int 0)]
  (.know (.var 0)
  (.br (.o2 .lt (.var 2) (.o1 .len (.var 0)))
   (.need [] (.o2 .le (.int 0) (.var 2))
   (.need [] (.o2 .lt (.var 2) (.o1 .len (.var 0)))
   (.need [] (.o2 .le (.int 0) (.var 2))
   (.need [] (.o2 .lt (.var 2) (.o1 .len (.var 1)))
   (.call [] (.fn 65) [.st [(.int .i64), (.int .i64), (.int .i64), (.int .i64), (.int .i64), (.int .i64), .bool] (.o2 .cons (.o1 (.fld 0) (.o2 .idx (.var 0) (.var 2))) (.o2 .cons (.o1 (.fld 1) (.o2 .idx (.var 0) (.var 2))) (.o2 .cons (.o1 (.fld 2) (.o2 .idx (.var 0) (.var 2))) (.o2 .cons (.o1 (.fld 3) (.o2 .idx (.var 0) (.var 2))) (.o2 .cons (.o1 (.fld 4) (.o2 .idx (.var 0) (.var 2))) (.o2 .cons (.o1 (.fld 5) (.o2 .idx (.var 0) (.var 2))) (.o2 .cons (.o1 (.fld 6) (.o2 .idx (.var 0) (.var 2))) .nil))))))), .st [(.int .i64), (.int .i64), (.int .i64), (.int .i64), (.int .i64), (.int .i64), .bool] (.o2 .cons (.o1 (.fld 0) (.o2 .idx (.var 1) (.var 2))) (.o2 .cons (.o1 (.fld 1) (.o2 .idx (.var 1) (.var 2))) (.o2 .cons (.o1 (.fld 2) (.o2 .idx (.var 1) (.var 2))) (.o2 .cons (.o1 (.fld 3) (.o2 .idx (.var 1) (.var 2))) (.o2 .cons (.o1 (.fld 4) (.o2 .idx (.var 1) (.var 2))) (.o2 .cons (.o1 (.fld 5) (.o2 .idx (.var 1) (.var 2))) (.o2 .cons (.o1 (.fld 6) (.o2 .idx (.var 1) (.var 2))) .nil)))))))] [.sc .bool]
   (.br (.o1 .not (.var 3))
    (.ret [(.bool false)])
    (.cont 0 [(.o2 (.add .i64) (.var 2) (.int 1))])))))))
   (.ret [(.bool true)])))))))
theorem sig_40 : sigOf Try.prog md 40 [] = some ([.sc (.sl [(.int .i64), (.int .i64), (.int .i64), (.int .i64), (.int .i64), (.int .i64), .bool]), .sc (.sl [(.int .i64), (.int .i64), (.int .i64), (.int .i64), (.int .i64), (.int .i64), .bool])], [.sc .bool], tree_40) := by kernel_rfl
/- laws.FnExactTotal -/
def tree_10 : T :=
(.call [] (.fn 36) [.sc (.sl [(.int .i64), (.int .i64), (.int .i64), (.int .i64), (.int .i64), (.int .i64), .bool]) (.var 0), .sc (.int .i64) (.int 1048576)] [.sc (.int .i64)]
(.br (.o2 .lt (.var 1) (.int 0))
 (.ret [(.bool true)])
 (.call [] (.fn 38) [.sc (.sl [(.int .i64), (.int .i64), (.int .i64), (.int .i64), (.int .i64), (.int .i64), .bool]) (.var 0)] [.sc (.sl [(.int .i64), (.int .i64), (.int .i64), (.int .i64), (.int .i64), (.int .i64), .bool])]
 (.call [] (.fn 37) [.sc (.sl [(.int .i64), (.int .i64), (.int .i64), (.int .i64), (.int .i64), (.int .i64), .bool]) (.var 2)] [.sc (.int .i64)]
 (.call [] (.fn 38) [.sc (.sl [(.int .i64), (.int .i64), (.int .i64), (.int .i64), (.int .i64), (.int .i64), .bool]) (.var 0)] [.sc (.sl [(.int .i64), (.int .i64), (.int .i64), (.int .i64), (.int .i64), (.int .i64), .bool])]
 (.call [] (.fn 39) [.sc (.sl [(.int .i64), (.int .i64), (.int .i64), (.int .i64), (.int .i64), (.int .i64), .bool]) (.var 4)] [.sc (.int .i64)]
 (.br (.o2 .ne (.var 5) (.var 3))
  (.ret [(.bool false)])
  (.call [] (.fn 38) [.sc (.sl [(.int .i64), (.int .i64), (.int .i64), (.int .i64), (.int .i64), (.int .i64), .bool]) (.var 0)] [.sc (.sl [(.int .i64), (.int .i64), (.int .i64), (.int .i64), (.int .i64), (.int .i64), .bool])]
  (.call [] (.fn 40) [.sc (.sl [(.int .i64), (.int .i64), (.int .i64), (.int .i64), (.int .i64), (.int .i64), .bool]) (.var 4), .sc (.sl [(.int .i64), (.int .i64), (.int .i64), (.int .i64), (.int .i64), (.int .i64), .bool]) (.var 6)] [.sc .bool]
  (.br (.o1 .not (.var 7))
   (.ret [(.bool false)])
   (.ret [(.bool true)])))))))))))
theorem sig_10 : sigOf Try.prog md 10 [] = some ([.sc (.sl [(.int .i64), (.int .i64), (.int .i64), (.int .i64), (.int .i64), (.int .i64), .bool])], [.sc .bool], tree_10) := by kernel_rfl
theorem mix : Try.prog.follows .mixedOrders = true := by kernel_rfl
end Go.Proofs.Ytflegfieiemipaa
