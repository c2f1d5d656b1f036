/- The trees of the functions that this claim reaches. -/
import Derived.Test.YtbfhdfpbijpbbaaRows
import Derived.Test.YtbfhdfpbijpbbaaE6
import Derived.KernelRfl
namespace Go.Proofs.Ytbfhdfpbijpbbaa
open Go.Proofs.Ytbfhdfpbijpbbaa.Eng
def md : Modes := ⟨[(47, 0), (46, 0)], [], []⟩
/- laws.toEvent -/
def tree_21 : T :=
(.ret [(.o2 .cons (.o1 (.fld 0) (.var 0)) (.o2 .cons (.o1 (.fld 1) (.var 0)) (.o2 .cons (.o1 (.fld 2) (.var 0)) (.o2 .cons (.o1 (.fld 3) (.var 0)) (.o2 .cons (.o1 (.fld 4) (.var 0)) (.o2 .cons (.o1 (.fld 5) (.var 0)) (.o2 .cons (.o1 (.fld 6) (.var 0)) .nil)))))))])
theorem sig_21 : sigOf Try.prog md 21 [] = some ([.st [(.int .i64), (.int .i64), (.int .i64), (.int .i64), (.int .i64), (.int .i64), .bool]], [.st [(.int .i64), (.int .i64), (.int .i64), (.int .i64), (.int .i64), (.int .i64), .bool]], tree_21) := by kernel_rfl
/- laws.szEventS -/
def tree_77 : T :=
(.know (.var 0)
(.br (.o2 .lt (.o2 (.sub .i64) (.var 1) (.o1 .len (.var 0))) (.int 0))
 (.ret [(.int (-1))])
 (.ret [(.o2 (.sub .i64) (.var 1) (.o1 .len (.var 0)))])))
theorem sig_77 : sigOf Try.prog md 77 [] = some ([.sc (.sl [(.int .i64), (.int .i64), (.int .i64), (.int .i64), (.int .i64), (.int .i64), .bool]), .sc (.int .i64)], [.sc (.int .i64)], tree_77) := by kernel_rfl
/- laws.szAct -/
def tree_38 : T :=
(.call [] (.fn 77) [.sc (.sl [(.int .i64), (.int .i64), (.int .i64), (.int .i64), (.int .i64), (.int .i64), .bool]) (.o1 (.fld 6) (.var 0)), .sc (.int .i64) (.var 1)] [.sc (.int .i64)]
(.br (.o2 .lt (.var 2) (.int 0))
 (.ret [(.int (-1))])
 (.ret [(.var 2)])))
theorem sig_38 : sigOf Try.prog md 38 [] = some ([.st [(.int .i64), (.int .i64), (.int .i64), (.int .i64), (.int .i64), .bool, (.sl [(.int .i64), (.int .i64), (.int .i64), (.int .i64), (.int .i64), (.int .i64), .bool])], .sc (.int .i64)], [.sc (.int .i64)], tree_38) := by kernel_rfl
/- laws.toEventS -/
def tree_80 : T :=
(.know (.var 0)
(.need [] (.o2 .le (.int 0) (.o1 .len (.var 0)))
(.need [] (.o2 (.fits 56) (.o1 .len (.var 0)) (.int 0))
(.loop 0 [(.int 0), (.o2 .rep (.o1 .len (.var 0)) (.o2 .cons (.int 0) (.o2 .cons (.int 0) (.o2 .cons (.int 0) (.o2 .cons (.int 0) (.o2 .cons (.int 0) (.o2 .cons (.int 0) (.o2 .cons (.bool false) .nil))))))))]
 (.know (.var 0)
 (.br (.o2 .lt (.var 1) (.o1 .len (.var 0)))
  (.need [] (.o2 .le (.int 0) (.var 1))
  (.need [] (.o2 .lt (.var 1) (.o1 .len (.var 0)))
  (.call [] (.fn 21) [.st [(.int .i64), (.int .i64), (.int .i64), (.int .i64), (.int .i64), (.int .i64), .bool] (.o2 .cons (.o1 (.fld 0) (.o2 .idx (.var 0) (.var 1))) (.o2 .cons (.o1 (.fld 1) (.o2 .idx (.var 0) (.var 1))) (.o2 .cons (.o1 (.fld 2) (.o2 .idx (.var 0) (.var 1))) (.o2 .cons (.o1 (.fld 3) (.o2 .idx (.var 0) (.var 1))) (.o2 .cons (.o1 (.fld 4) (.o2 .idx (.var 0) (.var 1))) (.o2 .cons (.o1 (.fld 5) (.o2 .idx (.var 0) (.var 1))) (.o2 .cons (.o1 (.fld 6) (.o2 .idx (.var 0) (.var 1))) .nil)))))))] [.st [(.int .i64), (.int .i64), (.int .i64), (.int .i64), (.int .i64), (.int .i64), .bool]]
  (.need [] (.o2 .le (.int 0) (.var 1))
  (.need [] (.o2 .lt (.var 1) (.o1 .len (.var 2)))
  (.cont 0 [(.o2 (.add .i64) (.var 1) (.int 1)), (.o3 .setE (.var 2) (.var 1) (.o2 .cons (.o1 (.fld 0) (.var 3)) (.o2 .cons (.o1 (.fld 1) (.var 3)) (.o2 .cons (.o1 (.fld 2) (.var 3)) (.o2 .cons (.o1 (.fld 3) (.var 3)) (.o2 .cons (.o1 (.fld 4) (.var 3)) (.o2 .cons (.o1 (.fld 5) (.var 3)) (.o2 .cons (.o1 (.fld 6) (.var 3)) .nil))))))))]))))))
  (.ret [(.var 2)])))))))
theorem sig_80 : sigOf Try.prog md 80 [] = some ([.sc (.sl [(.int .i64), (.int .i64), (.int .i64), (.int .i64), (.int .i64), (.int .i64), .bool])], [.sc (.sl [(.int .i64), (.int .i64), (.int .i64), (.int .i64), (.int .i64), (.int .i64), .bool])], tree_80) := by kernel_rfl
/- laws.toAct -/
def tree_40 : T :=
(.call [] (.fn 80) [.sc (.sl [(.int .i64), (.int .i64), (.int .i64), (.int .i64), (.int .i64), (.int .i64), .bool]) (.o1 (.fld 6) (.var 0))] [.sc (.sl [(.int .i64), (.int .i64), (.int .i64), (.int .i64), (.int .i64), (.int .i64), .bool])]
(.ret [(.o2 .cons (.o1 (.fld 0) (.var 0)) (.o2 .cons (.o1 (.fld 1) (.var 0)) (.o2 .cons (.o1 (.fld 2) (.var 0)) (.o2 .cons (.o1 (.fld 3) (.var 0)) (.o2 .cons (.o1 (.fld 4) (.var 0)) (.o2 .cons (.o1 (.fld 5) (.var 0)) (.o2 .cons (.var 1) .nil)))))))]))
theorem sig_40 : sigOf Try.prog md 40 [] = some ([.st [(.int .i64), (.int .i64), (.int .i64), (.int .i64), (.int .i64), .bool, (.sl [(.int .i64), (.int .i64), (.int .i64), (.int .i64), (.int .i64), (.int .i64), .bool])]], [.st [(.int .i64), (.int .i64), (.int .i64), (.int .i64), (.int .i64), .bool, (.sl [(.int .i64), (.int .i64), (.int .i64), (.int .i64), (.int .i64), (.int .i64), .bool])]], tree_40) := by kernel_rfl
/- laws.eqEvent -/
def tree_90 : T :=
(.br (.o2 .ne (.o1 (.fld 0) (.var 0)) (.o1 (.fld 0) (.var 1)))
 (.ret [(.bool false)])
 (.br (.o2 .ne (.o1 (.fld 1) (.var 0)) (.o1 (.fld 1) (.var 1)))
  (.ret [(.bool false)])
  (.br (.o2 .ne (.o1 (.fld 2) (.var 0)) (.o1 (.fld 2) (.var 1)))
   (.ret [(.bool false)])
   (.br (.o2 .ne (.o1 (.fld 3) (.var 0)) (.o1 (.fld 3) (.var 1)))
    (.ret [(.bool false)])
    (.br (.o2 .ne (.o1 (.fld 4) (.var 0)) (.o1 (.fld 4) (.var 1)))
     (.ret [(.bool false)])
     (.br (.o2 .ne (.o1 (.fld 5) (.var 0)) (.o1 (.fld 5) (.var 1)))
      (.ret [(.bool false)])
      (.br (.o2 .bne (.o1 (.fld 6) (.var 0)) (.o1 (.fld 6) (.var 1)))
       (.ret [(.bool false)])
       (.ret [(.bool true)]))))))))
theorem sig_90 : sigOf Try.prog md 90 [] = some ([.st [(.int .i64), (.int .i64), (.int .i64), (.int .i64), (.int .i64), (.int .i64), .bool], .st [(.int .i64), (.int .i64), (.int .i64), (.int .i64), (.int .i64), (.int .i64), .bool]], [.sc .bool], tree_90) := by kernel_rfl
/- laws.eqEventS -/
def tree_45 : T :=
(.know (.var 0)
(.know (.var 1)
(.br (.o2 .ne (.o1 .len (.var 0)) (.o1 .len (.var 1)))
 (.ret [(.bool false)])
 (.loop 0 [(.int 0)]
  (.know (.var 0)
  (.br (.o2 .lt (.var 2) (.o1 .len (.var 0)))
   (.need [] (.o2 .le (.int 0) (.var 2))
   (.need [] (.o2 .lt (.var 2) (.o1 .len (.var 0)))
   (.need [] (.o2 .le (.int 0) (.var 2))
   (.need [] (.o2 .lt (.var 2) (.o1 .len (.var 1)))
   (.call [] (.fn 90) [.st [(.int .i64), (.int .i64), (.int .i64), (.int .i64), (.int .i64), (.int .i64), .bool] (.o2 .cons (.o1 (.fld 0) (.o2 .idx (.var 0) (.var 2))) (.o2 .cons (.o1 (.fld 1) (.o2 .idx (.var 0) (.var 2))) (.o2 .cons (.o1 (.fld 2) (.o2 .idx (.var 0) (.var 2))) (.o2 .cons (.o1 (.fld 3) (.o2 .idx (.var 0) (.var 2))) (.o2 .cons (.o1 (.fld 4) (.o2 .idx (.var 0) (.var 2))) (.o2 .cons (.o1 (.fld 5) (.o2 .idx (.var 0) (.var 2))) (.o2 .cons (.o1 (.fld 6) (.o2 .idx (.var 0) (.var 2))) .nil))))))), .st [(.int .i64), (.int .i64), (.int .i64), (.int .i64), (.int .i64), (.int .i64), .bool] (.o2 .cons (.o1 (.fld 0) (.o2 .idx (.var 1) (.var 2))) (.o2 .cons (.o1 (.fld 1) (.o2 .idx (.var 1) (.var 2))) (.o2 .cons (.o1 (.fld 2) (.o2 .idx (.var 1) (.var 2))) (.o2 .cons (.o1 (.fld 3) (.o2 .idx (.var 1) (.var 2))) (.o2 .cons (.o1 (.fld 4) (.o2 .idx (.var 1) (.var 2))) (.o2 .cons (.o1 (.fld 5) (.o2 .idx (.var 1) (.var 2))) (.o2 .cons (.o1 (.fld 6) (.o2 .idx (.var 1) (.var 2))) .nil)))))))] [.sc .bool]
   (.br (.o1 .not (.var 3))
    (.ret [(.bool false)])
    (.cont 0 [(.o2 (.add .i64) (.var 2) (.int 1))])))))))
   (.ret [(.bool true)])))))))
theorem sig_45 : sigOf Try.prog md 45 [] = some ([.sc (.sl [(.int .i64), (.int .i64), (.int .i64), (.int .i64), (.int .i64), (.int .i64), .bool]), .sc (.sl [(.int .i64), (.int .i64), (.int .i64), (.int .i64), (.int .i64), (.int .i64), .bool])], [.sc .bool], tree_45) := by kernel_rfl
/- laws.eqAct -/
def tree_42 : T :=
(.br (.o2 .ne (.o1 (.fld 0) (.var 0)) (.o1 (.fld 0) (.var 1)))
 (.ret [(.bool false)])
 (.br (.o2 .ne (.o1 (.fld 1) (.var 0)) (.o1 (.fld 1) (.var 1)))
  (.ret [(.bool false)])
  (.br (.o2 .ne (.o1 (.fld 2) (.var 0)) (.o1 (.fld 2) (.var 1)))
   (.ret [(.bool false)])
   (.br (.o2 .ne (.o1 (.fld 3) (.var 0)) (.o1 (.fld 3) (.var 1)))
    (.ret [(.bool false)])
    (.br (.o2 .ne (.o1 (.fld 4) (.var 0)) (.o1 (.fld 4) (.var 1)))
     (.ret [(.bool false)])
     (.br (.o2 .bne (.o1 (.fld 5) (.var 0)) (.o1 (.fld 5) (.var 1)))
      (.ret [(.bool false)])
      (.call [] (.fn 45) [.sc (.sl [(.int .i64), (.int .i64), (.int .i64), (.int .i64), (.int .i64), (.int .i64), .bool]) (.o1 (.fld 6) (.var 0)), .sc (.sl [(.int .i64), (.int .i64), (.int .i64), (.int .i64), (.int .i64), (.int .i64), .bool]) (.o1 (.fld 6) (.var 1))] [.sc .bool]
      (.br (.o1 .not (.var 2))
       (.ret [(.bool false)])
       (.ret [(.bool true)])))))))))
theorem sig_42 : sigOf Try.prog md 42 [] = some ([.st [(.int .i64), (.int .i64), (.int .i64), (.int .i64), (.int .i64), .bool, (.sl [(.int .i64), (.int .i64), (.int .i64), (.int .i64), (.int .i64), (.int .i64), .bool])], .st [(.int .i64), (.int .i64), (.int .i64), (.int .i64), (.int .i64), .bool, (.sl [(.int .i64), (.int .i64), (.int .i64), (.int .i64), (.int .i64), (.int .i64), .bool])]], [.sc .bool], tree_42) := by kernel_rfl
/- spec.Upto -/
def tree_88 : T :=
(.br (.o2 .lt (.var 1) (.var 0))
 (.br (.o2 .lt (.var 1) (.int 0))
  (.ret [(.int 0)])
  (.ret [(.var 1)]))
 (.br (.o2 .lt (.var 0) (.int 0))
  (.ret [(.int 0)])
  (.ret [(.var 0)])))
theorem sig_88 : sigOf Try.prog md 88 [] = some ([.sc (.int .i64), .sc (.int .i64)], [.sc (.int .i64)], tree_88) := by kernel_rfl
/- spec.Parts -/
def tree_43 : T :=
(.loop 0 [(.int 0), .nil]
 (.know (.o1 (.fld 6) (.var 0))
 (.br (.o2 .band (.o2 .lt (.var 2) (.o1 .len (.o1 (.fld 6) (.var 0)))) (.o2 .eq (.o1 (.fld 0) (.var 0)) (.int 9)))
  (.need [] (.o2 .le (.int 0) (.var 2))
  (.need [] (.o2 .lt (.var 2) (.o1 .len (.o1 (.fld 6) (.var 0))))
  (.br (.o2 .eq (.o1 (.fld 4) (.o2 .idx (.o1 (.fld 6) (.var 0)) (.var 2))) (.int (-1)))
   (.call [] (.fn 88) [.sc (.int .i64) (.o1 (.fld 4) (.var 1)), .sc (.int .i64) (.int 2147483647)] [.sc (.int .i64)]
   (.need [] (.o2 (.fits 56) (.o1 .len (.var 3)) (.o1 .len (.o2 .cons (.o2 .cons (.o1 (.fld 0) (.o2 .idx (.o1 (.fld 6) (.var 0)) (.var 2))) (.o2 .cons (.o1 (.fld 1) (.o2 .idx (.o1 (.fld 6) (.var 0)) (.var 2))) (.o2 .cons (.o1 (.fld 2) (.o2 .idx (.o1 (.fld 6) (.var 0)) (.var 2))) (.o2 .cons (.o1 (.fld 3) (.o2 .idx (.o1 (.fld 6) (.var 0)) (.var 2))) (.o2 .cons (.var 4) (.o2 .cons (.o1 (.fld 5) (.o2 .idx (.o1 (.fld 6) (.var 0)) (.var 2))) (.o2 .cons (.o1 (.fld 6) (.o2 .idx (.o1 (.fld 6) (.var 0)) (.var 2))) .nil))))))) .nil)))
   (.cont 0 [(.o2 (.add .i64) (.var 2) (.int 1)), (.o2 .app (.var 3) (.o2 .cons (.o2 .cons (.o1 (.fld 0) (.o2 .idx (.o1 (.fld 6) (.var 0)) (.var 2))) (.o2 .cons (.o1 (.fld 1) (.o2 .idx (.o1 (.fld 6) (.var 0)) (.var 2))) (.o2 .cons (.o1 (.fld 2) (.o2 .idx (.o1 (.fld 6) (.var 0)) (.var 2))) (.o2 .cons (.o1 (.fld 3) (.o2 .idx (.o1 (.fld 6) (.var 0)) (.var 2))) (.o2 .cons (.var 4) (.o2 .cons (.o1 (.fld 5) (.o2 .idx (.o1 (.fld 6) (.var 0)) (.var 2))) (.o2 .cons (.o1 (.fld 6) (.o2 .idx (.o1 (.fld 6) (.var 0)) (.var 2))) .nil))))))) .nil))])))
   (.need [] (.o2 (.fits 56) (.o1 .len (.var 3)) (.o1 .len (.o2 .cons (.o2 .cons (.o1 (.fld 0) (.o2 .idx (.o1 (.fld 6) (.var 0)) (.var 2))) (.o2 .cons (.o1 (.fld 1) (.o2 .idx (.o1 (.fld 6) (.var 0)) (.var 2))) (.o2 .cons (.o1 (.fld 2) (.o2 .idx (.o1 (.fld 6) (.var 0)) (.var 2))) (.o2 .cons (.o1 (.fld 3) (.o2 .idx (.o1 (.fld 6) (.var 0)) (.var 2))) (.o2 .cons (.o1 (.fld 4) (.o2 .idx (.o1 (.fld 6) (.var 0)) (.var 2))) (.o2 .cons (.o1 (.fld 5) (.o2 .idx (.o1 (.fld 6) (.var 0)) (.var 2))) (.o2 .cons (.o1 (.fld 6) (.o2 .idx (.o1 (.fld 6) (.var 0)) (.var 2))) .nil))))))) .nil)))
   (.cont 0 [(.o2 (.add .i64) (.var 2) (.int 1)), (.o2 .app (.var 3) (.o2 .cons (.o2 .cons (.o1 (.fld 0) (.o2 .idx (.o1 (.fld 6) (.var 0)) (.var 2))) (.o2 .cons (.o1 (.fld 1) (.o2 .idx (.o1 (.fld 6) (.var 0)) (.var 2))) (.o2 .cons (.o1 (.fld 2) (.o2 .idx (.o1 (.fld 6) (.var 0)) (.var 2))) (.o2 .cons (.o1 (.fld 3) (.o2 .idx (.o1 (.fld 6) (.var 0)) (.var 2))) (.o2 .cons (.o1 (.fld 4) (.o2 .idx (.o1 (.fld 6) (.var 0)) (.var 2))) (.o2 .cons (.o1 (.fld 5) (.o2 .idx (.o1 (.fld 6) (.var 0)) (.var 2))) (.o2 .cons (.o1 (.fld 6) (.o2 .idx (.o1 (.fld 6) (.var 0)) (.var 2))) .nil))))))) .nil))])))))
  (.ret [(.var 3)]))))
theorem sig_43 : sigOf Try.prog md 43 [] = some ([.st [(.int .i64), (.int .i64), (.int .i64), (.int .i64), (.int .i64), .bool, (.sl [(.int .i64), (.int .i64), (.int .i64), (.int .i64), (.int .i64), (.int .i64), .bool])], .st [(.int .i64), (.int .i64), (.int .i64), (.int .i64), (.int .i64), (.int .i64), .bool]], [.sc (.sl [(.int .i64), (.int .i64), (.int .i64), (.int .i64), (.int .i64), (.int .i64), .bool])], tree_43) := by kernel_rfl
/- impl.Upto -/
def tree_89 : T :=
(.ret [(.o2 .max (.int 0) (.o2 .min (.var 0) (.var 1)))])
theorem sig_89 : sigOf Try.prog md 89 [] = some ([.sc (.int .i64), .sc (.int .i64)], [.sc (.int .i64)], tree_89) := by kernel_rfl
/- impl.Parts -/
def tree_44 : T :=
(.br (.o2 .ne (.o1 (.fld 0) (.var 0)) (.int 9))
 (.ret [.nil])
 (.know (.o1 (.fld 6) (.var 0))
 (.loop 0 [(.int 0), .nil]
  (.br (.o2 .lt (.var 2) (.o1 .len (.o1 (.fld 6) (.var 0))))
   (.need [] (.o2 .le (.int 0) (.var 2))
   (.need [] (.o2 .lt (.var 2) (.o1 .len (.o1 (.fld 6) (.var 0))))
   (.br (.o2 .eq (.o1 (.fld 4) (.o2 .idx (.o1 (.fld 6) (.var 0)) (.var 2))) (.int (-1)))
    (.call [] (.fn 89) [.sc (.int .i64) (.o1 (.fld 4) (.var 1)), .sc (.int .i64) (.int 2147483647)] [.sc (.int .i64)]
    (.need [] (.o2 (.fits 56) (.o1 .len (.var 3)) (.o1 .len (.o2 .cons (.o2 .cons (.o1 (.fld 0) (.o2 .idx (.o1 (.fld 6) (.var 0)) (.var 2))) (.o2 .cons (.o1 (.fld 1) (.o2 .idx (.o1 (.fld 6) (.var 0)) (.var 2))) (.o2 .cons (.o1 (.fld 2) (.o2 .idx (.o1 (.fld 6) (.var 0)) (.var 2))) (.o2 .cons (.o1 (.fld 3) (.o2 .idx (.o1 (.fld 6) (.var 0)) (.var 2))) (.o2 .cons (.var 4) (.o2 .cons (.o1 (.fld 5) (.o2 .idx (.o1 (.fld 6) (.var 0)) (.var 2))) (.o2 .cons (.o1 (.fld 6) (.o2 .idx (.o1 (.fld 6) (.var 0)) (.var 2))) .nil))))))) .nil)))
    (.cont 0 [(.o2 (.add .i64) (.var 2) (.int 1)), (.o2 .app (.var 3) (.o2 .cons (.o2 .cons (.o1 (.fld 0) (.o2 .idx (.o1 (.fld 6) (.var 0)) (.var 2))) (.o2 .cons (.o1 (.fld 1) (.o2 .idx (.o1 (.fld 6) (.var 0)) (.var 2))) (.o2 .cons (.o1 (.fld 2) (.o2 .idx (.o1 (.fld 6) (.var 0)) (.var 2))) (.o2 .cons (.o1 (.fld 3) (.o2 .idx (.o1 (.fld 6) (.var 0)) (.var 2))) (.o2 .cons (.var 4) (.o2 .cons (.o1 (.fld 5) (.o2 .idx (.o1 (.fld 6) (.var 0)) (.var 2))) (.o2 .cons (.o1 (.fld 6) (.o2 .idx (.o1 (.fld 6) (.var 0)) (.var 2))) .nil))))))) .nil))])))
    (.need [] (.o2 (.fits 56) (.o1 .len (.var 3)) (.o1 .len (.o2 .cons (.o2 .cons (.o1 (.fld 0) (.o2 .idx (.o1 (.fld 6) (.var 0)) (.var 2))) (.o2 .cons (.o1 (.fld 1) (.o2 .idx (.o1 (.fld 6) (.var 0)) (.var 2))) (.o2 .cons (.o1 (.fld 2) (.o2 .idx (.o1 (.fld 6) (.var 0)) (.var 2))) (.o2 .cons (.o1 (.fld 3) (.o2 .idx (.o1 (.fld 6) (.var 0)) (.var 2))) (.o2 .cons (.o1 (.fld 4) (.o2 .idx (.o1 (.fld 6) (.var 0)) (.var 2))) (.o2 .cons (.o1 (.fld 5) (.o2 .idx (.o1 (.fld 6) (.var 0)) (.var 2))) (.o2 .cons (.o1 (.fld 6) (.o2 .idx (.o1 (.fld 6) (.var 0)) (.var 2))) .nil))))))) .nil)))
    (.cont 0 [(.o2 (.add .i64) (.var 2) (.int 1)), (.o2 .app (.var 3) (.o2 .cons (.o2 .cons (.o1 (.fld 0) (.o2 .idx (.o1 (.fld 6) (.var 0)) (.var 2))) (.o2 .cons (.o1 (.fld 1) (.o2 .idx (.o1 (.fld 6) (.var 0)) (.var 2))) (.o2 .cons (.o1 (.fld 2) (.o2 .idx (.o1 (.fld 6) (.var 0)) (.var 2))) (.o2 .cons (.o1 (.fld 3) (.o2 .idx (.o1 (.fld 6) (.var 0)) (.var 2))) (.o2 .cons (.o1 (.fld 4) (.o2 .idx (.o1 (.fld 6) (.var 0)) (.var 2))) (.o2 .cons (.o1 (.fld 5) (.o2 .idx (.o1 (.fld 6) (.var 0)) (.var 2))) (.o2 .cons (.o1 (.fld 6) (.o2 .idx (.o1 (.fld 6) (.var 0)) (.var 2))) .nil))))))) .nil))])))))
   (.ret [(.var 3)])))))
theorem sig_44 : sigOf Try.prog md 44 [] = some ([.st [(.int .i64), (.int .i64), (.int .i64), (.int .i64), (.int .i64), .bool, (.sl [(.int .i64), (.int .i64), (.int .i64), (.int .i64), (.int .i64), (.int .i64), .bool])], .st [(.int .i64), (.int .i64), (.int .i64), (.int .i64), (.int .i64), (.int .i64), .bool]], [.sc (.sl [(.int .i64), (.int .i64), (.int .i64), (.int .i64), (.int .i64), (.int .i64), .bool])], tree_44) := by kernel_rfl
/- laws.markEventS -/
def tree_47 : T :=
(.loop 0 [(.var 1), (.int 0), (.var 0)]
 (.know (.var 4)
 (.br (.o2 .lt (.var 3) (.o1 .len (.var 4)))
  (.need [] (.o2 .le (.int 0) (.var 3))
  (.need [] (.o2 .lt (.var 3) (.o1 .len (.var 4)))
  (.need [] (.o2 .le (.int 0) (.var 3))
  (.need [] (.o2 .lt (.var 3) (.o1 .len (.o3 (.setC 0) (.var 4) (.var 3) (.var 2))))
  (.need [] (.o2 .le (.int 0) (.var 3))
  (.need [] (.o2 .lt (.var 3) (.o1 .len (.o3 (.setC 1) (.o3 (.setC 0) (.var 4) (.var 3) (.var 2)) (.var 3) (.o2 (.add .i64) (.var 2) (.int 1)))))
  (.need [] (.o2 .le (.int 0) (.var 3))
  (.need [] (.o2 .lt (.var 3) (.o1 .len (.o3 (.setC 2) (.o3 (.setC 1) (.o3 (.setC 0) (.var 4) (.var 3) (.var 2)) (.var 3) (.o2 (.add .i64) (.var 2) (.int 1))) (.var 3) (.o2 (.add .i64) (.o2 (.add .i64) (.var 2) (.int 1)) (.int 1)))))
  (.need [] (.o2 .le (.int 0) (.var 3))
  (.need [] (.o2 .lt (.var 3) (.o1 .len (.o3 (.setC 3) (.o3 (.setC 2) (.o3 (.setC 1) (.o3 (.setC 0) (.var 4) (.var 3) (.var 2)) (.var 3) (.o2 (.add .i64) (.var 2) (.int 1))) (.var 3) (.o2 (.add .i64) (.o2 (.add .i64) (.var 2) (.int 1)) (.int 1))) (.var 3) (.o2 (.add .i64) (.o2 (.add .i64) (.o2 (.add .i64) (.var 2) (.int 1)) (.int 1)) (.int 1)))))
  (.need [] (.o2 .le (.int 0) (.var 3))
  (.need [] (.o2 .lt (.var 3) (.o1 .len (.o3 (.setC 4) (.o3 (.setC 3) (.o3 (.setC 2) (.o3 (.setC 1) (.o3 (.setC 0) (.var 4) (.var 3) (.var 2)) (.var 3) (.o2 (.add .i64) (.var 2) (.int 1))) (.var 3) (.o2 (.add .i64) (.o2 (.add .i64) (.var 2) (.int 1)) (.int 1))) (.var 3) (.o2 (.add .i64) (.o2 (.add .i64) (.o2 (.add .i64) (.var 2) (.int 1)) (.int 1)) (.int 1))) (.var 3) (.o2 (.add .i64) (.o2 (.add .i64) (.o2 (.add .i64) (.o2 (.add .i64) (.var 2) (.int 1)) (.int 1)) (.int 1)) (.int 1)))))
  (.need [] (.o2 .ne (.int 3) (.int 0))
  (.need [] (.o2 .le (.int 0) (.var 3))
  (.need [] (.o2 .lt (.var 3) (.o1 .len (.o3 (.setC 5) (.o3 (.setC 4) (.o3 (.setC 3) (.o3 (.setC 2) (.o3 (.setC 1) (.o3 (.setC 0) (.var 4) (.var 3) (.var 2)) (.var 3) (.o2 (.add .i64) (.var 2) (.int 1))) (.var 3) (.o2 (.add .i64) (.o2 (.add .i64) (.var 2) (.int 1)) (.int 1))) (.var 3) (.o2 (.add .i64) (.o2 (.add .i64) (.o2 (.add .i64) (.var 2) (.int 1)) (.int 1)) (.int 1))) (.var 3) (.o2 (.add .i64) (.o2 (.add .i64) (.o2 (.add .i64) (.o2 (.add .i64) (.var 2) (.int 1)) (.int 1)) (.int 1)) (.int 1))) (.var 3) (.o2 (.add .i64) (.o2 (.add .i64) (.o2 (.add .i64) (.o2 (.add .i64) (.o2 (.add .i64) (.var 2) (.int 1)) (.int 1)) (.int 1)) (.int 1)) (.int 1)))))
  (.cont 0 [(.o2 (.add .i64) (.o2 (.add .i64) (.o2 (.add .i64) (.o2 (.add .i64) (.o2 (.add .i64) (.o2 (.add .i64) (.o2 (.add .i64) (.var 2) (.int 1)) (.int 1)) (.int 1)) (.int 1)) (.int 1)) (.int 1)) (.int 1)), (.o2 (.add .i64) (.var 3) (.int 1)), (.o3 (.setC 6) (.o3 (.setC 5) (.o3 (.setC 4) (.o3 (.setC 3) (.o3 (.setC 2) (.o3 (.setC 1) (.o3 (.setC 0) (.var 4) (.var 3) (.var 2)) (.var 3) (.o2 (.add .i64) (.var 2) (.int 1))) (.var 3) (.o2 (.add .i64) (.o2 (.add .i64) (.var 2) (.int 1)) (.int 1))) (.var 3) (.o2 (.add .i64) (.o2 (.add .i64) (.o2 (.add .i64) (.var 2) (.int 1)) (.int 1)) (.int 1))) (.var 3) (.o2 (.add .i64) (.o2 (.add .i64) (.o2 (.add .i64) (.o2 (.add .i64) (.var 2) (.int 1)) (.int 1)) (.int 1)) (.int 1))) (.var 3) (.o2 (.add .i64) (.o2 (.add .i64) (.o2 (.add .i64) (.o2 (.add .i64) (.o2 (.add .i64) (.var 2) (.int 1)) (.int 1)) (.int 1)) (.int 1)) (.int 1))) (.var 3) (.o2 .eq (.o2 .rem (.o2 (.add .i64) (.o2 (.add .i64) (.o2 (.add .i64) (.o2 (.add .i64) (.o2 (.add .i64) (.o2 (.add .i64) (.var 2) (.int 1)) (.int 1)) (.int 1)) (.int 1)) (.int 1)) (.int 1)) (.int 3)) (.int 0)))]))))))))))))))))
  (.ret [(.var 2), (.var 4)]))))
theorem sig_47 : sigOf Try.prog md 47 [] = some ([.row [(.int .i64), (.int .i64), (.int .i64), (.int .i64), (.int .i64), (.int .i64), .bool], .sc (.int .i64)], [.sc (.int .i64)], tree_47) := by kernel_rfl
/- laws.markAct -/
def tree_46 : T :=
(.call [] (.fn 47) [.row [(.int .i64), (.int .i64), (.int .i64), (.int .i64), (.int .i64), (.int .i64), .bool] (.o1 (.fld 6) (.var 0)), .sc (.int .i64) (.var 1)] [.sc (.int .i64)]
(.ret [(.var 2), (.o2 .cons (.o1 (.fld 0) (.var 0)) (.o2 .cons (.o1 (.fld 1) (.var 0)) (.o2 .cons (.o1 (.fld 2) (.var 0)) (.o2 .cons (.o1 (.fld 3) (.var 0)) (.o2 .cons (.o1 (.fld 4) (.var 0)) (.o2 .cons (.o1 (.fld 5) (.var 0)) (.o2 .cons (.var 3) .nil)))))))]))
theorem sig_46 : sigOf Try.prog md 46 [] = some ([.stw [(.int .i64), (.int .i64), (.int .i64), (.int .i64), (.int .i64), .bool, (.sl [(.int .i64), (.int .i64), (.int .i64), (.int .i64), (.int .i64), (.int .i64), .bool])], .sc (.int .i64)], [.sc (.int .i64)], tree_46) := by kernel_rfl
/- laws.heldEventS -/
def tree_48 : T :=
(.loop 0 [(.var 1), (.int 0)]
 (.know (.var 0)
 (.br (.o2 .lt (.var 3) (.o1 .len (.var 0)))
  (.need [] (.o2 .le (.int 0) (.var 3))
  (.need [] (.o2 .lt (.var 3) (.o1 .len (.var 0)))
  (.br (.o2 .ne (.o1 (.fld 0) (.o2 .idx (.var 0) (.var 3))) (.var 2))
   (.ret [(.int (-1))])
   (.need [] (.o2 .le (.int 0) (.var 3))
   (.need [] (.o2 .lt (.var 3) (.o1 .len (.var 0)))
   (.br (.o2 .ne (.o1 (.fld 1) (.o2 .idx (.var 0) (.var 3))) (.o2 (.add .i64) (.var 2) (.int 1)))
    (.ret [(.int (-1))])
    (.need [] (.o2 .le (.int 0) (.var 3))
    (.need [] (.o2 .lt (.var 3) (.o1 .len (.var 0)))
    (.br (.o2 .ne (.o1 (.fld 2) (.o2 .idx (.var 0) (.var 3))) (.o2 (.add .i64) (.o2 (.add .i64) (.var 2) (.int 1)) (.int 1)))
     (.ret [(.int (-1))])
     (.need [] (.o2 .le (.int 0) (.var 3))
     (.need [] (.o2 .lt (.var 3) (.o1 .len (.var 0)))
     (.br (.o2 .ne (.o1 (.fld 3) (.o2 .idx (.var 0) (.var 3))) (.o2 (.add .i64) (.o2 (.add .i64) (.o2 (.add .i64) (.var 2) (.int 1)) (.int 1)) (.int 1)))
      (.ret [(.int (-1))])
      (.need [] (.o2 .le (.int 0) (.var 3))
      (.need [] (.o2 .lt (.var 3) (.o1 .len (.var 0)))
      (.br (.o2 .ne (.o1 (.fld 4) (.o2 .idx (.var 0) (.var 3))) (.o2 (.add .i64) (.o2 (.add .i64) (.o2 (.add .i64) (.o2 (.add .i64) (.var 2) (.int 1)) (.int 1)) (.int 1)) (.int 1)))
       (.ret [(.int (-1))])
       (.need [] (.o2 .le (.int 0) (.var 3))
       (.need [] (.o2 .lt (.var 3) (.o1 .len (.var 0)))
       (.br (.o2 .ne (.o1 (.fld 5) (.o2 .idx (.var 0) (.var 3))) (.o2 (.add .i64) (.o2 (.add .i64) (.o2 (.add .i64) (.o2 (.add .i64) (.o2 (.add .i64) (.var 2) (.int 1)) (.int 1)) (.int 1)) (.int 1)) (.int 1)))
        (.ret [(.int (-1))])
        (.need [] (.o2 .le (.int 0) (.var 3))
        (.need [] (.o2 .lt (.var 3) (.o1 .len (.var 0)))
        (.need [] (.o2 .ne (.int 3) (.int 0))
        (.br (.o2 .bne (.o1 (.fld 6) (.o2 .idx (.var 0) (.var 3))) (.o2 .eq (.o2 .rem (.o2 (.add .i64) (.o2 (.add .i64) (.o2 (.add .i64) (.o2 (.add .i64) (.o2 (.add .i64) (.o2 (.add .i64) (.var 2) (.int 1)) (.int 1)) (.int 1)) (.int 1)) (.int 1)) (.int 1)) (.int 3)) (.int 0)))
         (.ret [(.int (-1))])
         (.cont 0 [(.o2 (.add .i64) (.o2 (.add .i64) (.o2 (.add .i64) (.o2 (.add .i64) (.o2 (.add .i64) (.o2 (.add .i64) (.o2 (.add .i64) (.var 2) (.int 1)) (.int 1)) (.int 1)) (.int 1)) (.int 1)) (.int 1)) (.int 1)), (.o2 (.add .i64) (.var 3) (.int 1))])))))))))))))))))))))))
  (.ret [(.var 2)]))))
theorem sig_48 : sigOf Try.prog md 48 [] = some ([.sc (.sl [(.int .i64), (.int .i64), (.int .i64), (.int .i64), (.int .i64), (.int .i64), .bool]), .sc (.int .i64)], [.sc (.int .i64)], tree_48) := by kernel_rfl
/- laws.FnExactParts -/
def tree_12 : T :=
(.call [] (.fn 38) [.st [(.int .i64), (.int .i64), (.int .i64), (.int .i64), (.int .i64), .bool, (.sl [(.int .i64), (.int .i64), (.int .i64), (.int .i64), (.int .i64), (.int .i64), .bool])] (.o2 .cons (.o1 (.fld 0) (.var 0)) (.o2 .cons (.o1 (.fld 1) (.var 0)) (.o2 .cons (.o1 (.fld 2) (.var 0)) (.o2 .cons (.o1 (.fld 3) (.var 0)) (.o2 .cons (.o1 (.fld 4) (.var 0)) (.o2 .cons (.o1 (.fld 5) (.var 0)) (.o2 .cons (.o1 (.fld 6) (.var 0)) .nil))))))), .sc (.int .i64) (.int 1048576)] [.sc (.int .i64)]
(.br (.o2 .lt (.var 2) (.int 0))
 (.ret [(.bool true)])
 (.call [] (.fn 40) [.st [(.int .i64), (.int .i64), (.int .i64), (.int .i64), (.int .i64), .bool, (.sl [(.int .i64), (.int .i64), (.int .i64), (.int .i64), (.int .i64), (.int .i64), .bool])] (.o2 .cons (.o1 (.fld 0) (.var 0)) (.o2 .cons (.o1 (.fld 1) (.var 0)) (.o2 .cons (.o1 (.fld 2) (.var 0)) (.o2 .cons (.o1 (.fld 3) (.var 0)) (.o2 .cons (.o1 (.fld 4) (.var 0)) (.o2 .cons (.o1 (.fld 5) (.var 0)) (.o2 .cons (.o1 (.fld 6) (.var 0)) .nil)))))))] [.st [(.int .i64), (.int .i64), (.int .i64), (.int .i64), (.int .i64), .bool, (.sl [(.int .i64), (.int .i64), (.int .i64), (.int .i64), (.int .i64), (.int .i64), .bool])]]
 (.call [] (.fn 21) [.st [(.int .i64), (.int .i64), (.int .i64), (.int .i64), (.int .i64), (.int .i64), .bool] (.o2 .cons (.o1 (.fld 0) (.var 1)) (.o2 .cons (.o1 (.fld 1) (.var 1)) (.o2 .cons (.o1 (.fld 2) (.var 1)) (.o2 .cons (.o1 (.fld 3) (.var 1)) (.o2 .cons (.o1 (.fld 4) (.var 1)) (.o2 .cons (.o1 (.fld 5) (.var 1)) (.o2 .cons (.o1 (.fld 6) (.var 1)) .nil)))))))] [.st [(.int .i64), (.int .i64), (.int .i64), (.int .i64), (.int .i64), (.int .i64), .bool]]
 (.call [] (.fn 43) [.st [(.int .i64), (.int .i64), (.int .i64), (.int .i64), (.int .i64), .bool, (.sl [(.int .i64), (.int .i64), (.int .i64), (.int .i64), (.int .i64), (.int .i64), .bool])] (.o2 .cons (.o1 (.fld 0) (.var 3)) (.o2 .cons (.o1 (.fld 1) (.var 3)) (.o2 .cons (.o1 (.fld 2) (.var 3)) (.o2 .cons (.o1 (.fld 3) (.var 3)) (.o2 .cons (.o1 (.fld 4) (.var 3)) (.o2 .cons (.o1 (.fld 5) (.var 3)) (.o2 .cons (.o1 (.fld 6) (.var 3)) .nil))))))), .st [(.int .i64), (.int .i64), (.int .i64), (.int .i64), (.int .i64), (.int .i64), .bool] (.o2 .cons (.o1 (.fld 0) (.var 4)) (.o2 .cons (.o1 (.fld 1) (.var 4)) (.o2 .cons (.o1 (.fld 2) (.var 4)) (.o2 .cons (.o1 (.fld 3) (.var 4)) (.o2 .cons (.o1 (.fld 4) (.var 4)) (.o2 .cons (.o1 (.fld 5) (.var 4)) (.o2 .cons (.o1 (.fld 6) (.var 4)) .nil)))))))] [.sc (.sl [(.int .i64), (.int .i64), (.int .i64), (.int .i64), (.int .i64), (.int .i64), .bool])]
 (.call [] (.fn 40) [.st [(.int .i64), (.int .i64), (.int .i64), (.int .i64), (.int .i64), .bool, (.sl [(.int .i64), (.int .i64), (.int .i64), (.int .i64), (.int .i64), (.int .i64), .bool])] (.o2 .cons (.o1 (.fld 0) (.var 0)) (.o2 .cons (.o1 (.fld 1) (.var 0)) (.o2 .cons (.o1 (.fld 2) (.var 0)) (.o2 .cons (.o1 (.fld 3) (.var 0)) (.o2 .cons (.o1 (.fld 4) (.var 0)) (.o2 .cons (.o1 (.fld 5) (.var 0)) (.o2 .cons (.o1 (.fld 6) (.var 0)) .nil)))))))] [.st [(.int .i64), (.int .i64), (.int .i64), (.int .i64), (.int .i64), .bool, (.sl [(.int .i64), (.int .i64), (.int .i64), (.int .i64), (.int .i64), (.int .i64), .bool])]]
 (.call [] (.fn 21) [.st [(.int .i64), (.int .i64), (.int .i64), (.int .i64), (.int .i64), (.int .i64), .bool] (.o2 .cons (.o1 (.fld 0) (.var 1)) (.o2 .cons (.o1 (.fld 1) (.var 1)) (.o2 .cons (.o1 (.fld 2) (.var 1)) (.o2 .cons (.o1 (.fld 3) (.var 1)) (.o2 .cons (.o1 (.fld 4) (.var 1)) (.o2 .cons (.o1 (.fld 5) (.var 1)) (.o2 .cons (.o1 (.fld 6) (.var 1)) .nil)))))))] [.st [(.int .i64), (.int .i64), (.int .i64), (.int .i64), (.int .i64), (.int .i64), .bool]]
 (.call [] (.fn 44) [.st [(.int .i64), (.int .i64), (.int .i64), (.int .i64), (.int .i64), .bool, (.sl [(.int .i64), (.int .i64), (.int .i64), (.int .i64), (.int .i64), (.int .i64), .bool])] (.o2 .cons (.o1 (.fld 0) (.var 6)) (.o2 .cons (.o1 (.fld 1) (.var 6)) (.o2 .cons (.o1 (.fld 2) (.var 6)) (.o2 .cons (.o1 (.fld 3) (.var 6)) (.o2 .cons (.o1 (.fld 4) (.var 6)) (.o2 .cons (.o1 (.fld 5) (.var 6)) (.o2 .cons (.o1 (.fld 6) (.var 6)) .nil))))))), .st [(.int .i64), (.int .i64), (.int .i64), (.int .i64), (.int .i64), (.int .i64), .bool] (.o2 .cons (.o1 (.fld 0) (.var 7)) (.o2 .cons (.o1 (.fld 1) (.var 7)) (.o2 .cons (.o1 (.fld 2) (.var 7)) (.o2 .cons (.o1 (.fld 3) (.var 7)) (.o2 .cons (.o1 (.fld 4) (.var 7)) (.o2 .cons (.o1 (.fld 5) (.var 7)) (.o2 .cons (.o1 (.fld 6) (.var 7)) .nil)))))))] [.sc (.sl [(.int .i64), (.int .i64), (.int .i64), (.int .i64), (.int .i64), (.int .i64), .bool])]
 (.call [] (.fn 45) [.sc (.sl [(.int .i64), (.int .i64), (.int .i64), (.int .i64), (.int .i64), (.int .i64), .bool]) (.var 8), .sc (.sl [(.int .i64), (.int .i64), (.int .i64), (.int .i64), (.int .i64), (.int .i64), .bool]) (.var 5)] [.sc .bool]
 (.br (.o1 .not (.var 9))
  (.ret [(.bool false)])
  (.call [] (.fn 40) [.st [(.int .i64), (.int .i64), (.int .i64), (.int .i64), (.int .i64), .bool, (.sl [(.int .i64), (.int .i64), (.int .i64), (.int .i64), (.int .i64), (.int .i64), .bool])] (.o2 .cons (.o1 (.fld 0) (.var 0)) (.o2 .cons (.o1 (.fld 1) (.var 0)) (.o2 .cons (.o1 (.fld 2) (.var 0)) (.o2 .cons (.o1 (.fld 3) (.var 0)) (.o2 .cons (.o1 (.fld 4) (.var 0)) (.o2 .cons (.o1 (.fld 5) (.var 0)) (.o2 .cons (.o1 (.fld 6) (.var 0)) .nil)))))))] [.st [(.int .i64), (.int .i64), (.int .i64), (.int .i64), (.int .i64), .bool, (.sl [(.int .i64), (.int .i64), (.int .i64), (.int .i64), (.int .i64), (.int .i64), .bool])]]
  (.call [] (.fn 42) [.st [(.int .i64), (.int .i64), (.int .i64), (.int .i64), (.int .i64), .bool, (.sl [(.int .i64), (.int .i64), (.int .i64), (.int .i64), (.int .i64), (.int .i64), .bool])] (.o2 .cons (.o1 (.fld 0) (.var 6)) (.o2 .cons (.o1 (.fld 1) (.var 6)) (.o2 .cons (.o1 (.fld 2) (.var 6)) (.o2 .cons (.o1 (.fld 3) (.var 6)) (.o2 .cons (.o1 (.fld 4) (.var 6)) (.o2 .cons (.o1 (.fld 5) (.var 6)) (.o2 .cons (.o1 (.fld 6) (.var 6)) .nil))))))), .st [(.int .i64), (.int .i64), (.int .i64), (.int .i64), (.int .i64), .bool, (.sl [(.int .i64), (.int .i64), (.int .i64), (.int .i64), (.int .i64), (.int .i64), .bool])] (.o2 .cons (.o1 (.fld 0) (.var 10)) (.o2 .cons (.o1 (.fld 1) (.var 10)) (.o2 .cons (.o1 (.fld 2) (.var 10)) (.o2 .cons (.o1 (.fld 3) (.var 10)) (.o2 .cons (.o1 (.fld 4) (.var 10)) (.o2 .cons (.o1 (.fld 5) (.var 10)) (.o2 .cons (.o1 (.fld 6) (.var 10)) .nil)))))))] [.sc .bool]
  (.br (.o1 .not (.var 11))
   (.ret [(.bool false)])
   (.call [] (.fn 46) [.stw [(.int .i64), (.int .i64), (.int .i64), (.int .i64), (.int .i64), .bool, (.sl [(.int .i64), (.int .i64), (.int .i64), (.int .i64), (.int .i64), (.int .i64), .bool])] (.o2 .cons (.o1 (.fld 0) (.var 6)) (.o2 .cons (.o1 (.fld 1) (.var 6)) (.o2 .cons (.o1 (.fld 2) (.var 6)) (.o2 .cons (.o1 (.fld 3) (.var 6)) (.o2 .cons (.o1 (.fld 4) (.var 6)) (.o2 .cons (.o1 (.fld 5) (.var 6)) (.o2 .cons (.o1 (.fld 6) (.var 6)) .nil))))))), .sc (.int .i64) (.int 1)] [.sc (.int .i64)]
   (.call [((.o2 .lt (.var 12) (.int 0)), false)] (.fn 45) [.sc (.sl [(.int .i64), (.int .i64), (.int .i64), (.int .i64), (.int .i64), (.int .i64), .bool]) (.var 8), .sc (.sl [(.int .i64), (.int .i64), (.int .i64), (.int .i64), (.int .i64), (.int .i64), .bool]) (.var 5)] [.sc .bool]
   (.br (.o2 .bor (.o2 .lt (.var 12) (.int 0)) (.o1 .not (.var 14)))
    (.ret [(.bool false)])
    (.call [] (.fn 47) [.row [(.int .i64), (.int .i64), (.int .i64), (.int .i64), (.int .i64), (.int .i64), .bool] (.var 8), .sc (.int .i64) (.int 1)] [.sc (.int .i64)]
    (.call [] (.fn 48) [.sc (.sl [(.int .i64), (.int .i64), (.int .i64), (.int .i64), (.int .i64), (.int .i64), .bool]) (.var 16), .sc (.int .i64) (.int 1)] [.sc (.int .i64)]
    (.br (.o2 .lt (.var 17) (.int 0))
     (.ret [(.bool false)])
     (.br (.o2 .ne (.var 17) (.var 15))
      (.ret [(.bool false)])
      (.call [] (.fn 40) [.st [(.int .i64), (.int .i64), (.int .i64), (.int .i64), (.int .i64), .bool, (.sl [(.int .i64), (.int .i64), (.int .i64), (.int .i64), (.int .i64), (.int .i64), .bool])] (.o2 .cons (.o1 (.fld 0) (.var 0)) (.o2 .cons (.o1 (.fld 1) (.var 0)) (.o2 .cons (.o1 (.fld 2) (.var 0)) (.o2 .cons (.o1 (.fld 3) (.var 0)) (.o2 .cons (.o1 (.fld 4) (.var 0)) (.o2 .cons (.o1 (.fld 5) (.var 0)) (.o2 .cons (.o1 (.fld 6) (.var 0)) .nil)))))))] [.st [(.int .i64), (.int .i64), (.int .i64), (.int .i64), (.int .i64), .bool, (.sl [(.int .i64), (.int .i64), (.int .i64), (.int .i64), (.int .i64), (.int .i64), .bool])]]
      (.call [] (.fn 21) [.st [(.int .i64), (.int .i64), (.int .i64), (.int .i64), (.int .i64), (.int .i64), .bool] (.o2 .cons (.o1 (.fld 0) (.var 1)) (.o2 .cons (.o1 (.fld 1) (.var 1)) (.o2 .cons (.o1 (.fld 2) (.var 1)) (.o2 .cons (.o1 (.fld 3) (.var 1)) (.o2 .cons (.o1 (.fld 4) (.var 1)) (.o2 .cons (.o1 (.fld 5) (.var 1)) (.o2 .cons (.o1 (.fld 6) (.var 1)) .nil)))))))] [.st [(.int .i64), (.int .i64), (.int .i64), (.int .i64), (.int .i64), (.int .i64), .bool]]
      (.call [] (.fn 44) [.st [(.int .i64), (.int .i64), (.int .i64), (.int .i64), (.int .i64), .bool, (.sl [(.int .i64), (.int .i64), (.int .i64), (.int .i64), (.int .i64), (.int .i64), .bool])] (.o2 .cons (.o1 (.fld 0) (.var 18)) (.o2 .cons (.o1 (.fld 1) (.var 18)) (.o2 .cons (.o1 (.fld 2) (.var 18)) (.o2 .cons (.o1 (.fld 3) (.var 18)) (.o2 .cons (.o1 (.fld 4) (.var 18)) (.o2 .cons (.o1 (.fld 5) (.var 18)) (.o2 .cons (.o1 (.fld 6) (.var 18)) .nil))))))), .st [(.int .i64), (.int .i64), (.int .i64), (.int .i64), (.int .i64), (.int .i64), .bool] (.o2 .cons (.o1 (.fld 0) (.var 19)) (.o2 .cons (.o1 (.fld 1) (.var 19)) (.o2 .cons (.o1 (.fld 2) (.var 19)) (.o2 .cons (.o1 (.fld 3) (.var 19)) (.o2 .cons (.o1 (.fld 4) (.var 19)) (.o2 .cons (.o1 (.fld 5) (.var 19)) (.o2 .cons (.o1 (.fld 6) (.var 19)) .nil)))))))] [.sc (.sl [(.int .i64), (.int .i64), (.int .i64), (.int .i64), (.int .i64), (.int .i64), .bool])]
      (.call [] (.fn 45) [.sc (.sl [(.int .i64), (.int .i64), (.int .i64), (.int .i64), (.int .i64), (.int .i64), .bool]) (.var 20), .sc (.sl [(.int .i64), (.int .i64), (.int .i64), (.int .i64), (.int .i64), (.int .i64), .bool]) (.var 5)] [.sc .bool]
      (.br (.o1 .not (.var 21))
       (.ret [(.bool false)])
       (.call [] (.fn 48) [.sc (.sl [(.int .i64), (.int .i64), (.int .i64), (.int .i64), (.int .i64), (.int .i64), .bool]) (.var 16), .sc (.int .i64) (.int 1)] [.sc (.int .i64)]
       (.br (.o2 .lt (.var 22) (.int 0))
        (.ret [(.bool false)])
        (.br (.o2 .ne (.var 22) (.var 15))
         (.ret [(.bool false)])
         (.ret [(.bool true)])))))))))))))))))))))))))))))
theorem sig_12 : sigOf Try.prog md 12 [] = some ([.st [(.int .i64), (.int .i64), (.int .i64), (.int .i64), (.int .i64), .bool, (.sl [(.int .i64), (.int .i64), (.int .i64), (.int .i64), (.int .i64), (.int .i64), .bool])], .st [(.int .i64), (.int .i64), (.int .i64), (.int .i64), (.int .i64), (.int .i64), .bool]], [.sc .bool], tree_12) := by kernel_rfl
theorem mix : Try.prog.follows .mixedOrders = true := by kernel_rfl
end Go.Proofs.Ytbfhdfpbijpbbaa
