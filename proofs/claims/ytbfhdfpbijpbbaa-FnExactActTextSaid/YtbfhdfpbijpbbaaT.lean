/- The trees of the functions that this claim reaches. -/
import Derived.Test.YtbfhdfpbijpbbaaRows
import Derived.Test.YtbfhdfpbijpbbaaE6
import Derived.KernelRfl
namespace Go.Proofs.Ytbfhdfpbijpbbaa
open Go.Proofs.Ytbfhdfpbijpbbaa.Eng
def md : Modes := ⟨[(47, 0), (46, 0)], [], []⟩
/- laws.szEventS -/
def tree_77 : T :=
(.know (.var 0)
(.br (.o2 .lt (.o2 (.sub .i64) (.var 1) (.o1 .len (.var 0))) (.int 0))
 (.ret [(.int (-1))])
 (.ret [(.o2 (.sub .i64) (.var 1) (.o1 .len (.var 0)))])))
theorem sig_77 : sigOf Try.prog md 77 [] = some ([.sc (.sl [(.int .i64), (.int .i64), (.int .i64), (.int .i64), (.int .i64), (.int .i64), .bool]), .sc (.int .i64)], [.sc (.int .i64)], tree_77) := by kernel_rfl
/- laws.szAct -/
def tree_38 : T :=
(.call [] (.fn 77) [.sc (.sl [(.int .i64), (.int .i64), (.int .i64), (.int .i64), (.int .i64), (.int .i64), .bool]) (.o1 (.fld 6) (.var 0)), .sc (.int .i64) (.var 1)] [.sc (.int .i64)]
(.br (.o2 .lt (.var 2) (.int 0))
 (.ret [(.int (-1))])
 (.ret [(.var 2)])))
theorem sig_38 : sigOf Try.prog md 38 [] = some ([.st [(.int .i64), (.int .i64), (.int .i64), (.int .i64), (.int .i64), .bool, (.sl [(.int .i64), (.int .i64), (.int .i64), (.int .i64), (.int .i64), (.int .i64), .bool])], .sc (.int .i64)], [.sc (.int .i64)], tree_38) := by kernel_rfl
/- laws.toEvent -/
def tree_21 : T :=
(.ret [(.o2 .cons (.o1 (.fld 0) (.var 0)) (.o2 .cons (.o1 (.fld 1) (.var 0)) (.o2 .cons (.o1 (.fld 2) (.var 0)) (.o2 .cons (.o1 (.fld 3) (.var 0)) (.o2 .cons (.o1 (.fld 4) (.var 0)) (.o2 .cons (.o1 (.fld 5) (.var 0)) (.o2 .cons (.o1 (.fld 6) (.var 0)) .nil)))))))])
theorem sig_21 : sigOf Try.prog md 21 [] = some ([.st [(.int .i64), (.int .i64), (.int .i64), (.int .i64), (.int .i64), (.int .i64), .bool]], [.st [(.int .i64), (.int .i64), (.int .i64), (.int .i64), (.int .i64), (.int .i64), .bool]], tree_21) := by kernel_rfl
/- laws.toEventS -/
def tree_80 : T :=
(.know (.var 0)
(.need [] (.o2 .le (.int 0) (.o1 .len (.var 0)))
(.need [] (.o2 (.fits 56) (.o1 .len (.var 0)) (.int 0))
(.loop 0 [(.int 0), (.o2 .rep (.o1 .len (.var 0)) (.o2 .cons (.int 0) (.o2 .cons (.int 0) (.o2 .cons (.int 0) (.o2 .cons (.int 0) (.o2 .cons (.int 0) (.o2 .cons (.int 0) (.o2 .cons (.bool false) .nil))))))))]
 (.know (.var 0)
 (.br (.o2 .lt (.var 1) (.o1 .len (.var 0)))
  (.need [] (.o2 .le (.int 0) (.var 1))
  (.need [] (.o2 .lt (.var 1) (.o1 .len (.var 0)))
  (.call [] (.fn 21) [.st [(.int .i64), (.int .i64), (.int .i64), (.int .i64), (.int .i64), (.int .i64), .bool] (.o2 .cons (.o1 (.fld 0) (.o2 .idx (.var 0) (.var 1))) (.o2 .cons (.o1 (.fld 1) (.o2 .idx (.var 0) (.var 1))) (.o2 .cons (.o1 (.fld 2) (.o2 .idx (.var 0) (.var 1))) (.o2 .cons (.o1 (.fld 3) (.o2 .idx (.var 0) (.var 1))) (.o2 .cons (.o1 (.fld 4) (.o2 .idx (.var 0) (.var 1))) (.o2 .cons (.o1 (.fld 5) (.o2 .idx (.var 0) (.var 1))) (.o2 .cons (.o1 (.fld 6) (.o2 .idx (.var 0) (.var 1))) .nil)))))))] [.st [(.int .i64), (.int .i64), (.int .i64), (.int .i64), (.int .i64), (.int .i64), .bool]]
  (.need [] (.o2 .le (.int 0) (.var 1))
  (.need [] (.o2 .lt (.var 1) (.o1 .len (.var 2)))
  (.cont 0 [(.o2 (.add .i64) (.var 1) (.int 1)), (.o3 .setE (.var 2) (.var 1) (.o2 .cons (.o1 (.fld 0) (.var 3)) (.o2 .cons (.o1 (.fld 1) (.var 3)) (.o2 .cons (.o1 (.fld 2) (.var 3)) (.o2 .cons (.o1 (.fld 3) (.var 3)) (.o2 .cons (.o1 (.fld 4) (.var 3)) (.o2 .cons (.o1 (.fld 5) (.var 3)) (.o2 .cons (.o1 (.fld 6) (.var 3)) .nil))))))))]))))))
  (.ret [(.var 2)])))))))
theorem sig_80 : sigOf Try.prog md 80 [] = some ([.sc (.sl [(.int .i64), (.int .i64), (.int .i64), (.int .i64), (.int .i64), (.int .i64), .bool])], [.sc (.sl [(.int .i64), (.int .i64), (.int .i64), (.int .i64), (.int .i64), (.int .i64), .bool])], tree_80) := by kernel_rfl
/- laws.toAct -/
def tree_40 : T :=
(.call [] (.fn 80) [.sc (.sl [(.int .i64), (.int .i64), (.int .i64), (.int .i64), (.int .i64), (.int .i64), .bool]) (.o1 (.fld 6) (.var 0))] [.sc (.sl [(.int .i64), (.int .i64), (.int .i64), (.int .i64), (.int .i64), (.int .i64), .bool])]
(.ret [(.o2 .cons (.o1 (.fld 0) (.var 0)) (.o2 .cons (.o1 (.fld 1) (.var 0)) (.o2 .cons (.o1 (.fld 2) (.var 0)) (.o2 .cons (.o1 (.fld 3) (.var 0)) (.o2 .cons (.o1 (.fld 4) (.var 0)) (.o2 .cons (.o1 (.fld 5) (.var 0)) (.o2 .cons (.var 1) .nil)))))))]))
theorem sig_40 : sigOf Try.prog md 40 [] = some ([.st [(.int .i64), (.int .i64), (.int .i64), (.int .i64), (.int .i64), .bool, (.sl [(.int .i64), (.int .i64), (.int .i64), (.int .i64), (.int .i64), (.int .i64), .bool])]], [.st [(.int .i64), (.int .i64), (.int .i64), (.int .i64), (.int .i64), .bool, (.sl [(.int .i64), (.int .i64), (.int .i64), (.int .i64), (.int .i64), (.int .i64), .bool])]], tree_40) := by kernel_rfl
/- laws.eqEvent -/
def tree_90 : T :=
(.br (.o2 .ne (.o1 (.fld 0) (.var 0)) (.o1 (.fld 0) (.var 1)))
 (.ret [(.bool false)])
 (.br (.o2 .ne (.o1 (.fld 1) (.var 0)) (.o1 (.fld 1) (.var 1)))
  (.ret [(.bool false)])
  (.br (.o2 .ne (.o1 (.fld 2) (.var 0)) (.o1 (.fld 2) (.var 1)))
   (.ret [(.bool false)])
   (.br (.o2 .ne (.o1 (.fld 3) (.var 0)) (.o1 (.fld 3) (.var 1)))
    (.ret [(.bool false)])
    (.br (.o2 .ne (.o1 (.fld 4) (.var 0)) (.o1 (.fld 4) (.var 1)))
     (.ret [(.bool false)])
     (.br (.o2 .ne (.o1 (.fld 5) (.var 0)) (.o1 (.fld 5) (.var 1)))
      (.ret [(.bool false)])
      (.br (.o2 .bne (.o1 (.fld 6) (.var 0)) (.o1 (.fld 6) (.var 1)))
       (.ret [(.bool false)])
       (.ret [(.bool true)]))))))))
theorem sig_90 : sigOf Try.prog md 90 [] = some ([.st [(.int .i64), (.int .i64), (.int .i64), (.int .i64), (.int .i64), (.int .i64), .bool], .st [(.int .i64), (.int .i64), (.int .i64), (.int .i64), (.int .i64), (.int .i64), .bool]], [.sc .bool], tree_90) := by kernel_rfl
/- laws.eqEventS -/
def tree_45 : T :=
(.know (.var 0)
(.know (.var 1)
(.br (.o2 .ne (.o1 .len (.var 0)) (.o1 .len (.var 1)))
 (.ret [(.bool false)])
 (.loop 0 [(.int 0)]
  (.know (.var 0)
  (.br (.o2 .lt (.var 2) (.o1 .len (.var 0)))
   (.need [] (.o2 .le (.int 0) (.var 2))
   (.need [] (.o2 .lt (.var 2) (.o1 .len (.var 0)))
   (.need [] (.o2 .le (.int 0) (.var 2))
   (.need [] (.o2 .lt (.var 2) (.o1 .len (.var 1)))
   (.call [] (.fn 90) [.st [(.int .i64), (.int .i64), (.int .i64), (.int .i64), (.int .i64), (.int .i64), .bool] (.o2 .cons (.o1 (.fld 0) (.o2 .idx (.var 0) (.var 2))) (.o2 .cons (.o1 (.fld 1) (.o2 .idx (.var 0) (.var 2))) (.o2 .cons (.o1 (.fld 2) (.o2 .idx (.var 0) (.var 2))) (.o2 .cons (.o1 (.fld 3) (.o2 .idx (.var 0) (.var 2))) (.o2 .cons (.o1 (.fld 4) (.o2 .idx (.var 0) (.var 2))) (.o2 .cons (.o1 (.fld 5) (.o2 .idx (.var 0) (.var 2))) (.o2 .cons (.o1 (.fld 6) (.o2 .idx (.var 0) (.var 2))) .nil))))))), .st [(.int .i64), (.int .i64), (.int .i64), (.int .i64), (.int .i64), (.int .i64), .bool] (.o2 .cons (.o1 (.fld 0) (.o2 .idx (.var 1) (.var 2))) (.o2 .cons (.o1 (.fld 1) (.o2 .idx (.var 1) (.var 2))) (.o2 .cons (.o1 (.fld 2) (.o2 .idx (.var 1) (.var 2))) (.o2 .cons (.o1 (.fld 3) (.o2 .idx (.var 1) (.var 2))) (.o2 .cons (.o1 (.fld 4) (.o2 .idx (.var 1) (.var 2))) (.o2 .cons (.o1 (.fld 5) (.o2 .idx (.var 1) (.var 2))) (.o2 .cons (.o1 (.fld 6) (.o2 .idx (.var 1) (.var 2))) .nil)))))))] [.sc .bool]
   (.br (.o1 .not (.var 3))
    (.ret [(.bool false)])
    (.cont 0 [(.o2 (.add .i64) (.var 2) (.int 1))])))))))
   (.ret [(.bool true)])))))))
theorem sig_45 : sigOf Try.prog md 45 [] = some ([.sc (.sl [(.int .i64), (.int .i64), (.int .i64), (.int .i64), (.int .i64), (.int .i64), .bool]), .sc (.sl [(.int .i64), (.int .i64), (.int .i64), (.int .i64), (.int .i64), (.int .i64), .bool])], [.sc .bool], tree_45) := by kernel_rfl
/- laws.eqAct -/
def tree_42 : T :=
(.br (.o2 .ne (.o1 (.fld 0) (.var 0)) (.o1 (.fld 0) (.var 1)))
 (.ret [(.bool false)])
 (.br (.o2 .ne (.o1 (.fld 1) (.var 0)) (.o1 (.fld 1) (.var 1)))
  (.ret [(.bool false)])
  (.br (.o2 .ne (.o1 (.fld 2) (.var 0)) (.o1 (.fld 2) (.var 1)))
   (.ret [(.bool false)])
   (.br (.o2 .ne (.o1 (.fld 3) (.var 0)) (.o1 (.fld 3) (.var 1)))
    (.ret [(.bool false)])
    (.br (.o2 .ne (.o1 (.fld 4) (.var 0)) (.o1 (.fld 4) (.var 1)))
     (.ret [(.bool false)])
     (.br (.o2 .bne (.o1 (.fld 5) (.var 0)) (.o1 (.fld 5) (.var 1)))
      (.ret [(.bool false)])
      (.call [] (.fn 45) [.sc (.sl [(.int .i64), (.int .i64), (.int .i64), (.int .i64), (.int .i64), (.int .i64), .bool]) (.o1 (.fld 6) (.var 0)), .sc (.sl [(.int .i64), (.int .i64), (.int .i64), (.int .i64), (.int .i64), (.int .i64), .bool]) (.o1 (.fld 6) (.var 1))] [.sc .bool]
      (.br (.o1 .not (.var 2))
       (.ret [(.bool false)])
       (.ret [(.bool true)])))))))))
theorem sig_42 : sigOf Try.prog md 42 [] = some ([.st [(.int .i64), (.int .i64), (.int .i64), (.int .i64), (.int .i64), .bool, (.sl [(.int .i64), (.int .i64), (.int .i64), (.int .i64), (.int .i64), (.int .i64), .bool])], .st [(.int .i64), (.int .i64), (.int .i64), (.int .i64), (.int .i64), .bool, (.sl [(.int .i64), (.int .i64), (.int .i64), (.int .i64), (.int .i64), (.int .i64), .bool])]], [.sc .bool], tree_42) := by kernel_rfl
/- spec.l1In -/
def tree_64 : T :=
(.ret [(.o2 .band (.o2 .ge (.var 0) (.var 1)) (.o2 .le (.var 0) (.var 2)))])
theorem sig_64 : sigOf Try.prog md 64 [] = some ([.sc (.int .i64), .sc (.int .i64), .sc (.int .i64)], [.sc .bool], tree_64) := by kernel_rfl
/- spec.l9Plain -/
def tree_78 : T :=
(.ret [(.o2 .band (.o2 .band (.o2 .band (.o2 .band (.o2 .eq (.o1 (.fld 2) (.var 0)) (.int 0)) (.o2 .eq (.o1 (.fld 3) (.var 0)) (.int (-1)))) (.o2 .eq (.o1 (.fld 4) (.var 0)) (.int 0))) (.o1 .not (.o1 (.fld 5) (.var 0)))) (.o2 .eq (.o1 .len (.o1 (.fld 6) (.var 0))) (.int 0)))])
theorem sig_78 : sigOf Try.prog md 78 [] = some ([.st [(.int .i64), (.int .i64), (.int .i64), (.int .i64), (.int .i64), .bool, (.sl [(.int .i64), (.int .i64), (.int .i64), (.int .i64), (.int .i64), (.int .i64), .bool])]], [.sc .bool], tree_78) := by kernel_rfl
/- spec.EventOk -/
def tree_71 : T :=
(.call [] (.fn 64) [.sc (.int .i64) (.o1 (.fld 2) (.var 0)), .sc (.int .i64) (.int 1), .sc (.int .i64) (.int 99)] [.sc .bool]
(.call [((.o2 .eq (.o1 (.fld 2) (.var 0)) (.int 0)), true)] (.fn 64) [.sc (.int .i64) (.o1 (.fld 3) (.var 0)), .sc (.int .i64) (.int 0), .sc (.int .i64) (.int 2)] [.sc .bool]
(.call [] (.fn 64) [.sc (.int .i64) (.o1 (.fld 4) (.var 0)), .sc (.int .i64) (.int 0), .sc (.int .i64) (.int 2147483647)] [.sc .bool]
(.br (.o1 .not (.var 3))
 (.ret [(.bool false)])
 (.br (.o2 .eq (.o1 (.fld 0) (.var 0)) (.int 1))
  (.call [] (.fn 64) [.sc (.int .i64) (.o1 (.fld 1) (.var 0)), .sc (.int .i64) (.int 1), .sc (.int .i64) (.int 99)] [.sc .bool]
  (.ret [(.o2 .band (.o2 .band (.o2 .band (.var 4) (.o2 .bor (.o2 .band (.var 1) (.o2 .eq (.o1 (.fld 3) (.var 0)) (.int (-1)))) (.o2 .band (.o2 .eq (.o1 (.fld 2) (.var 0)) (.int 0)) (.var 2)))) (.o2 .eq (.o1 (.fld 5) (.var 0)) (.int 0))) (.o1 .not (.o1 (.fld 6) (.var 0))))]))
  (.br (.o2 .eq (.o1 (.fld 0) (.var 0)) (.int 2))
   (.call [((.o2 .band (.o2 .eq (.o1 (.fld 1) (.var 0)) (.int 0)) (.o2 .band (.var 1) (.o2 .eq (.o1 (.fld 3) (.var 0)) (.int (-1))))), true)] (.fn 64) [.sc (.int .i64) (.o1 (.fld 5) (.var 0)), .sc (.int .i64) (.int 1), .sc (.int .i64) (.int 4)] [.sc .bool]
   (.ret [(.o2 .band (.o2 .band (.o2 .band (.o2 .band (.o2 .eq (.o1 (.fld 1) (.var 0)) (.int 0)) (.o2 .band (.var 1) (.o2 .eq (.o1 (.fld 3) (.var 0)) (.int (-1))))) (.var 4)) (.o2 .le (.o1 (.fld 4) (.var 0)) (.int 99))) (.o2 .bor (.o2 .eq (.o1 (.fld 5) (.var 0)) (.int 2)) (.o2 .band (.o2 .eq (.o1 (.fld 4) (.var 0)) (.int 0)) (.o1 .not (.o1 (.fld 6) (.var 0))))))]))
   (.br (.o2 .eq (.o1 (.fld 0) (.var 0)) (.int 3))
    (.br (.o2 .eq (.o1 (.fld 0) (.var 0)) (.int 3))
     (.ret [(.o2 .band (.o2 .band (.o2 .band (.o2 .eq (.o1 (.fld 1) (.var 0)) (.int 0)) (.o2 .band (.o2 .eq (.o1 (.fld 2) (.var 0)) (.int 0)) (.var 2))) (.o2 .eq (.o1 (.fld 5) (.var 0)) (.int 0))) (.o1 .not (.o1 (.fld 6) (.var 0))))])
     (.br (.o2 .eq (.o1 (.fld 0) (.var 0)) (.int 5))
      (.br (.o2 .eq (.o1 (.fld 0) (.var 0)) (.int 5))
       (.ret [(.o2 .band (.o2 .band (.o2 .band (.o2 .eq (.o1 (.fld 1) (.var 0)) (.int 0)) (.o2 .band (.var 1) (.o2 .eq (.o1 (.fld 3) (.var 0)) (.int (-1))))) (.o2 .eq (.o1 (.fld 5) (.var 0)) (.int 0))) (.o1 .not (.o1 (.fld 6) (.var 0))))])
       (.ret [(.bool false)]))
      (.br (.o2 .eq (.o1 (.fld 0) (.var 0)) (.int 6))
       (.ret [(.o2 .band (.o2 .band (.o2 .band (.o2 .eq (.o1 (.fld 1) (.var 0)) (.int 0)) (.o2 .band (.var 1) (.o2 .eq (.o1 (.fld 3) (.var 0)) (.int (-1))))) (.o2 .eq (.o1 (.fld 5) (.var 0)) (.int 0))) (.o1 .not (.o1 (.fld 6) (.var 0))))])
       (.ret [(.bool false)]))))
    (.br (.o2 .eq (.o1 (.fld 0) (.var 0)) (.int 4))
     (.ret [(.o2 .band (.o2 .band (.o2 .band (.o2 .eq (.o1 (.fld 1) (.var 0)) (.int 0)) (.o2 .band (.o2 .eq (.o1 (.fld 2) (.var 0)) (.int 0)) (.var 2))) (.o2 .eq (.o1 (.fld 5) (.var 0)) (.int 0))) (.o1 .not (.o1 (.fld 6) (.var 0))))])
     (.br (.o2 .eq (.o1 (.fld 0) (.var 0)) (.int 5))
      (.br (.o2 .eq (.o1 (.fld 0) (.var 0)) (.int 5))
       (.ret [(.o2 .band (.o2 .band (.o2 .band (.o2 .eq (.o1 (.fld 1) (.var 0)) (.int 0)) (.o2 .band (.var 1) (.o2 .eq (.o1 (.fld 3) (.var 0)) (.int (-1))))) (.o2 .eq (.o1 (.fld 5) (.var 0)) (.int 0))) (.o1 .not (.o1 (.fld 6) (.var 0))))])
       (.ret [(.bool false)]))
      (.br (.o2 .eq (.o1 (.fld 0) (.var 0)) (.int 6))
       (.ret [(.o2 .band (.o2 .band (.o2 .band (.o2 .eq (.o1 (.fld 1) (.var 0)) (.int 0)) (.o2 .band (.var 1) (.o2 .eq (.o1 (.fld 3) (.var 0)) (.int (-1))))) (.o2 .eq (.o1 (.fld 5) (.var 0)) (.int 0))) (.o1 .not (.o1 (.fld 6) (.var 0))))])
       (.ret [(.bool false)])))))))))))
theorem sig_71 : sigOf Try.prog md 71 [] = some ([.st [(.int .i64), (.int .i64), (.int .i64), (.int .i64), (.int .i64), (.int .i64), .bool]], [.sc .bool], tree_71) := by kernel_rfl
/- spec.l9Part -/
def tree_79 : T :=
(.br (.o2 .band (.o2 .eq (.o1 (.fld 4) (.var 0)) (.int (-1))) (.o2 .ne (.o1 (.fld 0) (.var 0)) (.int 2)))
 (.call [] (.fn 71) [.st [(.int .i64), (.int .i64), (.int .i64), (.int .i64), (.int .i64), (.int .i64), .bool] (.o2 .cons (.o1 (.fld 0) (.var 0)) (.o2 .cons (.o1 (.fld 1) (.var 0)) (.o2 .cons (.o1 (.fld 2) (.var 0)) (.o2 .cons (.o1 (.fld 3) (.var 0)) (.o2 .cons (.int 0) (.o2 .cons (.o1 (.fld 5) (.var 0)) (.o2 .cons (.o1 (.fld 6) (.var 0)) .nil)))))))] [.sc .bool]
 (.ret [(.var 1)]))
 (.call [] (.fn 71) [.st [(.int .i64), (.int .i64), (.int .i64), (.int .i64), (.int .i64), (.int .i64), .bool] (.o2 .cons (.o1 (.fld 0) (.var 0)) (.o2 .cons (.o1 (.fld 1) (.var 0)) (.o2 .cons (.o1 (.fld 2) (.var 0)) (.o2 .cons (.o1 (.fld 3) (.var 0)) (.o2 .cons (.o1 (.fld 4) (.var 0)) (.o2 .cons (.o1 (.fld 5) (.var 0)) (.o2 .cons (.o1 (.fld 6) (.var 0)) .nil)))))))] [.sc .bool]
 (.ret [(.var 1)])))
theorem sig_79 : sigOf Try.prog md 79 [] = some ([.st [(.int .i64), (.int .i64), (.int .i64), (.int .i64), (.int .i64), (.int .i64), .bool]], [.sc .bool], tree_79) := by kernel_rfl
/- spec.ActOk -/
def tree_39 : T :=
(.br (.o2 .eq (.o1 (.fld 0) (.var 0)) (.int 1))
 (.br (.o2 .eq (.o1 (.fld 0) (.var 0)) (.int 1))
  (.call [] (.fn 78) [.st [(.int .i64), (.int .i64), (.int .i64), (.int .i64), (.int .i64), .bool, (.sl [(.int .i64), (.int .i64), (.int .i64), (.int .i64), (.int .i64), (.int .i64), .bool])] (.o2 .cons (.o1 (.fld 0) (.var 0)) (.o2 .cons (.o1 (.fld 1) (.var 0)) (.o2 .cons (.o1 (.fld 2) (.var 0)) (.o2 .cons (.o1 (.fld 3) (.var 0)) (.o2 .cons (.o1 (.fld 4) (.var 0)) (.o2 .cons (.o1 (.fld 5) (.var 0)) (.o2 .cons (.o1 (.fld 6) (.var 0)) .nil)))))))] [.sc .bool]
  (.ret [(.o2 .band (.var 1) (.o2 .eq (.o1 (.fld 1) (.var 0)) (.int 0)))]))
  (.br (.o2 .eq (.o1 (.fld 0) (.var 0)) (.int 3))
   (.call [] (.fn 78) [.st [(.int .i64), (.int .i64), (.int .i64), (.int .i64), (.int .i64), .bool, (.sl [(.int .i64), (.int .i64), (.int .i64), (.int .i64), (.int .i64), (.int .i64), .bool])] (.o2 .cons (.o1 (.fld 0) (.var 0)) (.o2 .cons (.o1 (.fld 1) (.var 0)) (.o2 .cons (.o1 (.fld 2) (.var 0)) (.o2 .cons (.o1 (.fld 3) (.var 0)) (.o2 .cons (.o1 (.fld 4) (.var 0)) (.o2 .cons (.o1 (.fld 5) (.var 0)) (.o2 .cons (.o1 (.fld 6) (.var 0)) .nil)))))))] [.sc .bool]
   (.call [((.var 1), true)] (.fn 64) [.sc (.int .i64) (.o1 (.fld 1) (.var 0)), .sc (.int .i64) (.int 1), .sc (.int .i64) (.int 2147483647)] [.sc .bool]
   (.ret [(.o2 .band (.var 1) (.var 2))])))
   (.br (.o2 .eq (.o1 (.fld 0) (.var 0)) (.int 6))
    (.call [((.o2 .band (.o2 .band (.o2 .band (.o2 .eq (.o1 (.fld 1) (.var 0)) (.int 0)) (.o2 .eq (.o1 (.fld 4) (.var 0)) (.int 0))) (.o1 .not (.o1 (.fld 5) (.var 0)))) (.o2 .eq (.o1 .len (.o1 (.fld 6) (.var 0))) (.int 0))), true)] (.fn 64) [.sc (.int .i64) (.o1 (.fld 2) (.var 0)), .sc (.int .i64) (.int 1), .sc (.int .i64) (.int 99)] [.sc .bool]
    (.call [((.o2 .band (.o2 .band (.o2 .band (.o2 .eq (.o1 (.fld 1) (.var 0)) (.int 0)) (.o2 .eq (.o1 (.fld 4) (.var 0)) (.int 0))) (.o1 .not (.o1 (.fld 5) (.var 0)))) (.o2 .eq (.o1 .len (.o1 (.fld 6) (.var 0))) (.int 0))), true), ((.o2 .band (.var 1) (.o2 .eq (.o1 (.fld 3) (.var 0)) (.int (-1)))), false), ((.o2 .eq (.o1 (.fld 2) (.var 0)) (.int 0)), true)] (.fn 64) [.sc (.int .i64) (.o1 (.fld 3) (.var 0)), .sc (.int .i64) (.int 0), .sc (.int .i64) (.int 2)] [.sc .bool]
    (.ret [(.o2 .band (.o2 .band (.o2 .band (.o2 .band (.o2 .eq (.o1 (.fld 1) (.var 0)) (.int 0)) (.o2 .eq (.o1 (.fld 4) (.var 0)) (.int 0))) (.o1 .not (.o1 (.fld 5) (.var 0)))) (.o2 .eq (.o1 .len (.o1 (.fld 6) (.var 0))) (.int 0))) (.o2 .bor (.o2 .band (.var 1) (.o2 .eq (.o1 (.fld 3) (.var 0)) (.int (-1)))) (.o2 .band (.o2 .eq (.o1 (.fld 2) (.var 0)) (.int 0)) (.var 2))))])))
    (.br (.o2 .eq (.o1 (.fld 0) (.var 0)) (.int 7))
     (.call [((.o2 .band (.o2 .band (.o2 .band (.o2 .band (.o2 .eq (.o1 (.fld 1) (.var 0)) (.int 0)) (.o2 .eq (.o1 (.fld 2) (.var 0)) (.int 0))) (.o2 .eq (.o1 (.fld 3) (.var 0)) (.int (-1)))) (.o1 .not (.o1 (.fld 5) (.var 0)))) (.o2 .eq (.o1 .len (.o1 (.fld 6) (.var 0))) (.int 0))), true)] (.fn 64) [.sc (.int .i64) (.o1 (.fld 4) (.var 0)), .sc (.int .i64) (.int 1), .sc (.int .i64) (.int 4)] [.sc .bool]
     (.ret [(.o2 .band (.o2 .band (.o2 .band (.o2 .band (.o2 .band (.o2 .eq (.o1 (.fld 1) (.var 0)) (.int 0)) (.o2 .eq (.o1 (.fld 2) (.var 0)) (.int 0))) (.o2 .eq (.o1 (.fld 3) (.var 0)) (.int (-1)))) (.o1 .not (.o1 (.fld 5) (.var 0)))) (.o2 .eq (.o1 .len (.o1 (.fld 6) (.var 0))) (.int 0))) (.var 1))]))
     (.br (.o2 .eq (.o1 (.fld 0) (.var 0)) (.int 8))
      (.call [] (.fn 64) [.sc (.int .i64) (.o1 (.fld 1) (.var 0)), .sc (.int .i64) (.int 0), .sc (.int .i64) (.int 99)] [.sc .bool]
      (.ret [(.o2 .band (.o2 .band (.o2 .band (.o2 .band (.var 1) (.o2 .eq (.o1 (.fld 2) (.var 0)) (.int 0))) (.o2 .eq (.o1 (.fld 3) (.var 0)) (.int (-1)))) (.o2 .eq (.o1 (.fld 4) (.var 0)) (.int 0))) (.o2 .eq (.o1 .len (.o1 (.fld 6) (.var 0))) (.int 0)))]))
      (.br (.o2 .eq (.o1 (.fld 0) (.var 0)) (.int 9))
       (.loop 0 [(.int 0)]
        (.know (.o1 (.fld 6) (.var 0))
        (.br (.o2 .lt (.var 1) (.o1 .len (.o1 (.fld 6) (.var 0))))
         (.need [] (.o2 .le (.int 0) (.var 1))
         (.need [] (.o2 .lt (.var 1) (.o1 .len (.o1 (.fld 6) (.var 0))))
         (.call [] (.fn 79) [.st [(.int .i64), (.int .i64), (.int .i64), (.int .i64), (.int .i64), (.int .i64), .bool] (.o2 .cons (.o1 (.fld 0) (.o2 .idx (.o1 (.fld 6) (.var 0)) (.var 1))) (.o2 .cons (.o1 (.fld 1) (.o2 .idx (.o1 (.fld 6) (.var 0)) (.var 1))) (.o2 .cons (.o1 (.fld 2) (.o2 .idx (.o1 (.fld 6) (.var 0)) (.var 1))) (.o2 .cons (.o1 (.fld 3) (.o2 .idx (.o1 (.fld 6) (.var 0)) (.var 1))) (.o2 .cons (.o1 (.fld 4) (.o2 .idx (.o1 (.fld 6) (.var 0)) (.var 1))) (.o2 .cons (.o1 (.fld 5) (.o2 .idx (.o1 (.fld 6) (.var 0)) (.var 1))) (.o2 .cons (.o1 (.fld 6) (.o2 .idx (.o1 (.fld 6) (.var 0)) (.var 1))) .nil)))))))] [.sc .bool]
         (.br (.o1 .not (.var 2))
          (.ret [(.bool false)])
          (.cont 0 [(.o2 (.add .i64) (.var 1) (.int 1))])))))
         (.call [((.o2 .band (.o2 .band (.o2 .band (.o2 .band (.o2 .eq (.o1 (.fld 1) (.var 0)) (.int 0)) (.o2 .eq (.o1 (.fld 2) (.var 0)) (.int 0))) (.o2 .eq (.o1 (.fld 3) (.var 0)) (.int (-1)))) (.o2 .eq (.o1 (.fld 4) (.var 0)) (.int 0))) (.o1 .not (.o1 (.fld 5) (.var 0)))), true)] (.fn 64) [.sc (.int .i64) (.o1 .len (.o1 (.fld 6) (.var 0))), .sc (.int .i64) (.int 1), .sc (.int .i64) (.int 3)] [.sc .bool]
         (.ret [(.o2 .band (.o2 .band (.o2 .band (.o2 .band (.o2 .band (.o2 .eq (.o1 (.fld 1) (.var 0)) (.int 0)) (.o2 .eq (.o1 (.fld 2) (.var 0)) (.int 0))) (.o2 .eq (.o1 (.fld 3) (.var 0)) (.int (-1)))) (.o2 .eq (.o1 (.fld 4) (.var 0)) (.int 0))) (.o1 .not (.o1 (.fld 5) (.var 0)))) (.var 2))])))))
       (.ret [(.bool false)])))))))
 (.br (.o2 .eq (.o1 (.fld 0) (.var 0)) (.int 2))
  (.br (.o2 .eq (.o1 (.fld 0) (.var 0)) (.int 2))
   (.call [] (.fn 78) [.st [(.int .i64), (.int .i64), (.int .i64), (.int .i64), (.int .i64), .bool, (.sl [(.int .i64), (.int .i64), (.int .i64), (.int .i64), (.int .i64), (.int .i64), .bool])] (.o2 .cons (.o1 (.fld 0) (.var 0)) (.o2 .cons (.o1 (.fld 1) (.var 0)) (.o2 .cons (.o1 (.fld 2) (.var 0)) (.o2 .cons (.o1 (.fld 3) (.var 0)) (.o2 .cons (.o1 (.fld 4) (.var 0)) (.o2 .cons (.o1 (.fld 5) (.var 0)) (.o2 .cons (.o1 (.fld 6) (.var 0)) .nil)))))))] [.sc .bool]
   (.ret [(.o2 .band (.var 1) (.o2 .eq (.o1 (.fld 1) (.var 0)) (.int 0)))]))
   (.br (.o2 .eq (.o1 (.fld 0) (.var 0)) (.int 3))
    (.call [] (.fn 78) [.st [(.int .i64), (.int .i64), (.int .i64), (.int .i64), (.int .i64), .bool, (.sl [(.int .i64), (.int .i64), (.int .i64), (.int .i64), (.int .i64), (.int .i64), .bool])] (.o2 .cons (.o1 (.fld 0) (.var 0)) (.o2 .cons (.o1 (.fld 1) (.var 0)) (.o2 .cons (.o1 (.fld 2) (.var 0)) (.o2 .cons (.o1 (.fld 3) (.var 0)) (.o2 .cons (.o1 (.fld 4) (.var 0)) (.o2 .cons (.o1 (.fld 5) (.var 0)) (.o2 .cons (.o1 (.fld 6) (.var 0)) .nil)))))))] [.sc .bool]
    (.call [((.var 1), true)] (.fn 64) [.sc (.int .i64) (.o1 (.fld 1) (.var 0)), .sc (.int .i64) (.int 1), .sc (.int .i64) (.int 2147483647)] [.sc .bool]
    (.ret [(.o2 .band (.var 1) (.var 2))])))
    (.br (.o2 .eq (.o1 (.fld 0) (.var 0)) (.int 6))
     (.call [((.o2 .band (.o2 .band (.o2 .band (.o2 .eq (.o1 (.fld 1) (.var 0)) (.int 0)) (.o2 .eq (.o1 (.fld 4) (.var 0)) (.int 0))) (.o1 .not (.o1 (.fld 5) (.var 0)))) (.o2 .eq (.o1 .len (.o1 (.fld 6) (.var 0))) (.int 0))), true)] (.fn 64) [.sc (.int .i64) (.o1 (.fld 2) (.var 0)), .sc (.int .i64) (.int 1), .sc (.int .i64) (.int 99)] [.sc .bool]
     (.call [((.o2 .band (.o2 .band (.o2 .band (.o2 .eq (.o1 (.fld 1) (.var 0)) (.int 0)) (.o2 .eq (.o1 (.fld 4) (.var 0)) (.int 0))) (.o1 .not (.o1 (.fld 5) (.var 0)))) (.o2 .eq (.o1 .len (.o1 (.fld 6) (.var 0))) (.int 0))), true), ((.o2 .band (.var 1) (.o2 .eq (.o1 (.fld 3) (.var 0)) (.int (-1)))), false), ((.o2 .eq (.o1 (.fld 2) (.var 0)) (.int 0)), true)] (.fn 64) [.sc (.int .i64) (.o1 (.fld 3) (.var 0)), .sc (.int .i64) (.int 0), .sc (.int .i64) (.int 2)] [.sc .bool]
     (.ret [(.o2 .band (.o2 .band (.o2 .band (.o2 .band (.o2 .eq (.o1 (.fld 1) (.var 0)) (.int 0)) (.o2 .eq (.o1 (.fld 4) (.var 0)) (.int 0))) (.o1 .not (.o1 (.fld 5) (.var 0)))) (.o2 .eq (.o1 .len (.o1 (.fld 6) (.var 0))) (.int 0))) (.o2 .bor (.o2 .band (.var 1) (.o2 .eq (.o1 (.fld 3) (.var 0)) (.int (-1)))) (.o2 .band (.o2 .eq (.o1 (.fld 2) (.var 0)) (.int 0)) (.var 2))))])))
     (.br (.o2 .eq (.o1 (.fld 0) (.var 0)) (.int 7))
      (.call [((.o2 .band (.o2 .band (.o2 .band (.o2 .band (.o2 .eq (.o1 (.fld 1) (.var 0)) (.int 0)) (.o2 .eq (.o1 (.fld 2) (.var 0)) (.int 0))) (.o2 .eq (.o1 (.fld 3) (.var 0)) (.int (-1)))) (.o1 .not (.o1 (.fld 5) (.var 0)))) (.o2 .eq (.o1 .len (.o1 (.fld 6) (.var 0))) (.int 0))), true)] (.fn 64) [.sc (.int .i64) (.o1 (.fld 4) (.var 0)), .sc (.int .i64) (.int 1), .sc (.int .i64) (.int 4)] [.sc .bool]
      (.ret [(.o2 .band (.o2 .band (.o2 .band (.o2 .band (.o2 .band (.o2 .eq (.o1 (.fld 1) (.var 0)) (.int 0)) (.o2 .eq (.o1 (.fld 2) (.var 0)) (.int 0))) (.o2 .eq (.o1 (.fld 3) (.var 0)) (.int (-1)))) (.o1 .not (.o1 (.fld 5) (.var 0)))) (.o2 .eq (.o1 .len (.o1 (.fld 6) (.var 0))) (.int 0))) (.var 1))]))
      (.br (.o2 .eq (.o1 (.fld 0) (.var 0)) (.int 8))
       (.call [] (.fn 64) [.sc (.int .i64) (.o1 (.fld 1) (.var 0)), .sc (.int .i64) (.int 0), .sc (.int .i64) (.int 99)] [.sc .bool]
       (.ret [(.o2 .band (.o2 .band (.o2 .band (.o2 .band (.var 1) (.o2 .eq (.o1 (.fld 2) (.var 0)) (.int 0))) (.o2 .eq (.o1 (.fld 3) (.var 0)) (.int (-1)))) (.o2 .eq (.o1 (.fld 4) (.var 0)) (.int 0))) (.o2 .eq (.o1 .len (.o1 (.fld 6) (.var 0))) (.int 0)))]))
       (.br (.o2 .eq (.o1 (.fld 0) (.var 0)) (.int 9))
        (.loop 0 [(.int 0)]
         (.know (.o1 (.fld 6) (.var 0))
         (.br (.o2 .lt (.var 1) (.o1 .len (.o1 (.fld 6) (.var 0))))
          (.need [] (.o2 .le (.int 0) (.var 1))
          (.need [] (.o2 .lt (.var 1) (.o1 .len (.o1 (.fld 6) (.var 0))))
          (.call [] (.fn 79) [.st [(.int .i64), (.int .i64), (.int .i64), (.int .i64), (.int .i64), (.int .i64), .bool] (.o2 .cons (.o1 (.fld 0) (.o2 .idx (.o1 (.fld 6) (.var 0)) (.var 1))) (.o2 .cons (.o1 (.fld 1) (.o2 .idx (.o1 (.fld 6) (.var 0)) (.var 1))) (.o2 .cons (.o1 (.fld 2) (.o2 .idx (.o1 (.fld 6) (.var 0)) (.var 1))) (.o2 .cons (.o1 (.fld 3) (.o2 .idx (.o1 (.fld 6) (.var 0)) (.var 1))) (.o2 .cons (.o1 (.fld 4) (.o2 .idx (.o1 (.fld 6) (.var 0)) (.var 1))) (.o2 .cons (.o1 (.fld 5) (.o2 .idx (.o1 (.fld 6) (.var 0)) (.var 1))) (.o2 .cons (.o1 (.fld 6) (.o2 .idx (.o1 (.fld 6) (.var 0)) (.var 1))) .nil)))))))] [.sc .bool]
          (.br (.o1 .not (.var 2))
           (.ret [(.bool false)])
           (.cont 0 [(.o2 (.add .i64) (.var 1) (.int 1))])))))
          (.call [((.o2 .band (.o2 .band (.o2 .band (.o2 .band (.o2 .eq (.o1 (.fld 1) (.var 0)) (.int 0)) (.o2 .eq (.o1 (.fld 2) (.var 0)) (.int 0))) (.o2 .eq (.o1 (.fld 3) (.var 0)) (.int (-1)))) (.o2 .eq (.o1 (.fld 4) (.var 0)) (.int 0))) (.o1 .not (.o1 (.fld 5) (.var 0)))), true)] (.fn 64) [.sc (.int .i64) (.o1 .len (.o1 (.fld 6) (.var 0))), .sc (.int .i64) (.int 1), .sc (.int .i64) (.int 3)] [.sc .bool]
          (.ret [(.o2 .band (.o2 .band (.o2 .band (.o2 .band (.o2 .band (.o2 .eq (.o1 (.fld 1) (.var 0)) (.int 0)) (.o2 .eq (.o1 (.fld 2) (.var 0)) (.int 0))) (.o2 .eq (.o1 (.fld 3) (.var 0)) (.int (-1)))) (.o2 .eq (.o1 (.fld 4) (.var 0)) (.int 0))) (.o1 .not (.o1 (.fld 5) (.var 0)))) (.var 2))])))))
        (.ret [(.bool false)])))))))
  (.br (.o2 .eq (.o1 (.fld 0) (.var 0)) (.int 4))
   (.br (.o2 .eq (.o1 (.fld 0) (.var 0)) (.int 4))
    (.call [] (.fn 78) [.st [(.int .i64), (.int .i64), (.int .i64), (.int .i64), (.int .i64), .bool, (.sl [(.int .i64), (.int .i64), (.int .i64), (.int .i64), (.int .i64), (.int .i64), .bool])] (.o2 .cons (.o1 (.fld 0) (.var 0)) (.o2 .cons (.o1 (.fld 1) (.var 0)) (.o2 .cons (.o1 (.fld 2) (.var 0)) (.o2 .cons (.o1 (.fld 3) (.var 0)) (.o2 .cons (.o1 (.fld 4) (.var 0)) (.o2 .cons (.o1 (.fld 5) (.var 0)) (.o2 .cons (.o1 (.fld 6) (.var 0)) .nil)))))))] [.sc .bool]
    (.ret [(.o2 .band (.var 1) (.o2 .eq (.o1 (.fld 1) (.var 0)) (.int 0)))]))
    (.br (.o2 .eq (.o1 (.fld 0) (.var 0)) (.int 3))
     (.call [] (.fn 78) [.st [(.int .i64), (.int .i64), (.int .i64), (.int .i64), (.int .i64), .bool, (.sl [(.int .i64), (.int .i64), (.int .i64), (.int .i64), (.int .i64), (.int .i64), .bool])] (.o2 .cons (.o1 (.fld 0) (.var 0)) (.o2 .cons (.o1 (.fld 1) (.var 0)) (.o2 .cons (.o1 (.fld 2) (.var 0)) (.o2 .cons (.o1 (.fld 3) (.var 0)) (.o2 .cons (.o1 (.fld 4) (.var 0)) (.o2 .cons (.o1 (.fld 5) (.var 0)) (.o2 .cons (.o1 (.fld 6) (.var 0)) .nil)))))))] [.sc .bool]
     (.call [((.var 1), true)] (.fn 64) [.sc (.int .i64) (.o1 (.fld 1) (.var 0)), .sc (.int .i64) (.int 1), .sc (.int .i64) (.int 2147483647)] [.sc .bool]
     (.ret [(.o2 .band (.var 1) (.var 2))])))
     (.br (.o2 .eq (.o1 (.fld 0) (.var 0)) (.int 6))
      (.call [((.o2 .band (.o2 .band (.o2 .band (.o2 .eq (.o1 (.fld 1) (.var 0)) (.int 0)) (.o2 .eq (.o1 (.fld 4) (.var 0)) (.int 0))) (.o1 .not (.o1 (.fld 5) (.var 0)))) (.o2 .eq (.o1 .len (.o1 (.fld 6) (.var 0))) (.int 0))), true)] (.fn 64) [.sc (.int .i64) (.o1 (.fld 2) (.var 0)), .sc (.int .i64) (.int 1), .sc (.int .i64) (.int 99)] [.sc .bool]
      (.call [((.o2 .band (.o2 .band (.o2 .band (.o2 .eq (.o1 (.fld 1) (.var 0)) (.int 0)) (.o2 .eq (.o1 (.fld 4) (.var 0)) (.int 0))) (.o1 .not (.o1 (.fld 5) (.var 0)))) (.o2 .eq (.o1 .len (.o1 (.fld 6) (.var 0))) (.int 0))), true), ((.o2 .band (.var 1) (.o2 .eq (.o1 (.fld 3) (.var 0)) (.int (-1)))), false), ((.o2 .eq (.o1 (.fld 2) (.var 0)) (.int 0)), true)] (.fn 64) [.sc (.int .i64) (.o1 (.fld 3) (.var 0)), .sc (.int .i64) (.int 0), .sc (.int .i64) (.int 2)] [.sc .bool]
      (.ret [(.o2 .band (.o2 .band (.o2 .band (.o2 .band (.o2 .eq (.o1 (.fld 1) (.var 0)) (.int 0)) (.o2 .eq (.o1 (.fld 4) (.var 0)) (.int 0))) (.o1 .not (.o1 (.fld 5) (.var 0)))) (.o2 .eq (.o1 .len (.o1 (.fld 6) (.var 0))) (.int 0))) (.o2 .bor (.o2 .band (.var 1) (.o2 .eq (.o1 (.fld 3) (.var 0)) (.int (-1)))) (.o2 .band (.o2 .eq (.o1 (.fld 2) (.var 0)) (.int 0)) (.var 2))))])))
      (.br (.o2 .eq (.o1 (.fld 0) (.var 0)) (.int 7))
       (.call [((.o2 .band (.o2 .band (.o2 .band (.o2 .band (.o2 .eq (.o1 (.fld 1) (.var 0)) (.int 0)) (.o2 .eq (.o1 (.fld 2) (.var 0)) (.int 0))) (.o2 .eq (.o1 (.fld 3) (.var 0)) (.int (-1)))) (.o1 .not (.o1 (.fld 5) (.var 0)))) (.o2 .eq (.o1 .len (.o1 (.fld 6) (.var 0))) (.int 0))), true)] (.fn 64) [.sc (.int .i64) (.o1 (.fld 4) (.var 0)), .sc (.int .i64) (.int 1), .sc (.int .i64) (.int 4)] [.sc .bool]
       (.ret [(.o2 .band (.o2 .band (.o2 .band (.o2 .band (.o2 .band (.o2 .eq (.o1 (.fld 1) (.var 0)) (.int 0)) (.o2 .eq (.o1 (.fld 2) (.var 0)) (.int 0))) (.o2 .eq (.o1 (.fld 3) (.var 0)) (.int (-1)))) (.o1 .not (.o1 (.fld 5) (.var 0)))) (.o2 .eq (.o1 .len (.o1 (.fld 6) (.var 0))) (.int 0))) (.var 1))]))
       (.br (.o2 .eq (.o1 (.fld 0) (.var 0)) (.int 8))
        (.call [] (.fn 64) [.sc (.int .i64) (.o1 (.fld 1) (.var 0)), .sc (.int .i64) (.int 0), .sc (.int .i64) (.int 99)] [.sc .bool]
        (.ret [(.o2 .band (.o2 .band (.o2 .band (.o2 .band (.var 1) (.o2 .eq (.o1 (.fld 2) (.var 0)) (.int 0))) (.o2 .eq (.o1 (.fld 3) (.var 0)) (.int (-1)))) (.o2 .eq (.o1 (.fld 4) (.var 0)) (.int 0))) (.o2 .eq (.o1 .len (.o1 (.fld 6) (.var 0))) (.int 0)))]))
        (.br (.o2 .eq (.o1 (.fld 0) (.var 0)) (.int 9))
         (.loop 0 [(.int 0)]
          (.know (.o1 (.fld 6) (.var 0))
          (.br (.o2 .lt (.var 1) (.o1 .len (.o1 (.fld 6) (.var 0))))
           (.need [] (.o2 .le (.int 0) (.var 1))
           (.need [] (.o2 .lt (.var 1) (.o1 .len (.o1 (.fld 6) (.var 0))))
           (.call [] (.fn 79) [.st [(.int .i64), (.int .i64), (.int .i64), (.int .i64), (.int .i64), (.int .i64), .bool] (.o2 .cons (.o1 (.fld 0) (.o2 .idx (.o1 (.fld 6) (.var 0)) (.var 1))) (.o2 .cons (.o1 (.fld 1) (.o2 .idx (.o1 (.fld 6) (.var 0)) (.var 1))) (.o2 .cons (.o1 (.fld 2) (.o2 .idx (.o1 (.fld 6) (.var 0)) (.var 1))) (.o2 .cons (.o1 (.fld 3) (.o2 .idx (.o1 (.fld 6) (.var 0)) (.var 1))) (.o2 .cons (.o1 (.fld 4) (.o2 .idx (.o1 (.fld 6) (.var 0)) (.var 1))) (.o2 .cons (.o1 (.fld 5) (.o2 .idx (.o1 (.fld 6) (.var 0)) (.var 1))) (.o2 .cons (.o1 (.fld 6) (.o2 .idx (.o1 (.fld 6) (.var 0)) (.var 1))) .nil)))))))] [.sc .bool]
           (.br (.o1 .not (.var 2))
            (.ret [(.bool false)])
            (.cont 0 [(.o2 (.add .i64) (.var 1) (.int 1))])))))
           (.call [((.o2 .band (.o2 .band (.o2 .band (.o2 .band (.o2 .eq (.o1 (.fld 1) (.var 0)) (.int 0)) (.o2 .eq (.o1 (.fld 2) (.var 0)) (.int 0))) (.o2 .eq (.o1 (.fld 3) (.var 0)) (.int (-1)))) (.o2 .eq (.o1 (.fld 4) (.var 0)) (.int 0))) (.o1 .not (.o1 (.fld 5) (.var 0)))), true)] (.fn 64) [.sc (.int .i64) (.o1 .len (.o1 (.fld 6) (.var 0))), .sc (.int .i64) (.int 1), .sc (.int .i64) (.int 3)] [.sc .bool]
           (.ret [(.o2 .band (.o2 .band (.o2 .band (.o2 .band (.o2 .band (.o2 .eq (.o1 (.fld 1) (.var 0)) (.int 0)) (.o2 .eq (.o1 (.fld 2) (.var 0)) (.int 0))) (.o2 .eq (.o1 (.fld 3) (.var 0)) (.int (-1)))) (.o2 .eq (.o1 (.fld 4) (.var 0)) (.int 0))) (.o1 .not (.o1 (.fld 5) (.var 0)))) (.var 2))])))))
         (.ret [(.bool false)])))))))
   (.br (.o2 .eq (.o1 (.fld 0) (.var 0)) (.int 5))
    (.call [] (.fn 78) [.st [(.int .i64), (.int .i64), (.int .i64), (.int .i64), (.int .i64), .bool, (.sl [(.int .i64), (.int .i64), (.int .i64), (.int .i64), (.int .i64), (.int .i64), .bool])] (.o2 .cons (.o1 (.fld 0) (.var 0)) (.o2 .cons (.o1 (.fld 1) (.var 0)) (.o2 .cons (.o1 (.fld 2) (.var 0)) (.o2 .cons (.o1 (.fld 3) (.var 0)) (.o2 .cons (.o1 (.fld 4) (.var 0)) (.o2 .cons (.o1 (.fld 5) (.var 0)) (.o2 .cons (.o1 (.fld 6) (.var 0)) .nil)))))))] [.sc .bool]
    (.ret [(.o2 .band (.var 1) (.o2 .eq (.o1 (.fld 1) (.var 0)) (.int 0)))]))
    (.br (.o2 .eq (.o1 (.fld 0) (.var 0)) (.int 3))
     (.call [] (.fn 78) [.st [(.int .i64), (.int .i64), (.int .i64), (.int .i64), (.int .i64), .bool, (.sl [(.int .i64), (.int .i64), (.int .i64), (.int .i64), (.int .i64), (.int .i64), .bool])] (.o2 .cons (.o1 (.fld 0) (.var 0)) (.o2 .cons (.o1 (.fld 1) (.var 0)) (.o2 .cons (.o1 (.fld 2) (.var 0)) (.o2 .cons (.o1 (.fld 3) (.var 0)) (.o2 .cons (.o1 (.fld 4) (.var 0)) (.o2 .cons (.o1 (.fld 5) (.var 0)) (.o2 .cons (.o1 (.fld 6) (.var 0)) .nil)))))))] [.sc .bool]
     (.call [((.var 1), true)] (.fn 64) [.sc (.int .i64) (.o1 (.fld 1) (.var 0)), .sc (.int .i64) (.int 1), .sc (.int .i64) (.int 2147483647)] [.sc .bool]
     (.ret [(.o2 .band (.var 1) (.var 2))])))
     (.br (.o2 .eq (.o1 (.fld 0) (.var 0)) (.int 6))
      (.call [((.o2 .band (.o2 .band (.o2 .band (.o2 .eq (.o1 (.fld 1) (.var 0)) (.int 0)) (.o2 .eq (.o1 (.fld 4) (.var 0)) (.int 0))) (.o1 .not (.o1 (.fld 5) (.var 0)))) (.o2 .eq (.o1 .len (.o1 (.fld 6) (.var 0))) (.int 0))), true)] (.fn 64) [.sc (.int .i64) (.o1 (.fld 2) (.var 0)), .sc (.int .i64) (.int 1), .sc (.int .i64) (.int 99)] [.sc .bool]
      (.call [((.o2 .band (.o2 .band (.o2 .band (.o2 .eq (.o1 (.fld 1) (.var 0)) (.int 0)) (.o2 .eq (.o1 (.fld 4) (.var 0)) (.int 0))) (.o1 .not (.o1 (.fld 5) (.var 0)))) (.o2 .eq (.o1 .len (.o1 (.fld 6) (.var 0))) (.int 0))), true), ((.o2 .band (.var 1) (.o2 .eq (.o1 (.fld 3) (.var 0)) (.int (-1)))), false), ((.o2 .eq (.o1 (.fld 2) (.var 0)) (.int 0)), true)] (.fn 64) [.sc (.int .i64) (.o1 (.fld 3) (.var 0)), .sc (.int .i64) (.int 0), .sc (.int .i64) (.int 2)] [.sc .bool]
      (.ret [(.o2 .band (.o2 .band (.o2 .band (.o2 .band (.o2 .eq (.o1 (.fld 1) (.var 0)) (.int 0)) (.o2 .eq (.o1 (.fld 4) (.var 0)) (.int 0))) (.o1 .not (.o1 (.fld 5) (.var 0)))) (.o2 .eq (.o1 .len (.o1 (.fld 6) (.var 0))) (.int 0))) (.o2 .bor (.o2 .band (.var 1) (.o2 .eq (.o1 (.fld 3) (.var 0)) (.int (-1)))) (.o2 .band (.o2 .eq (.o1 (.fld 2) (.var 0)) (.int 0)) (.var 2))))])))
      (.br (.o2 .eq (.o1 (.fld 0) (.var 0)) (.int 7))
       (.call [((.o2 .band (.o2 .band (.o2 .band (.o2 .band (.o2 .eq (.o1 (.fld 1) (.var 0)) (.int 0)) (.o2 .eq (.o1 (.fld 2) (.var 0)) (.int 0))) (.o2 .eq (.o1 (.fld 3) (.var 0)) (.int (-1)))) (.o1 .not (.o1 (.fld 5) (.var 0)))) (.o2 .eq (.o1 .len (.o1 (.fld 6) (.var 0))) (.int 0))), true)] (.fn 64) [.sc (.int .i64) (.o1 (.fld 4) (.var 0)), .sc (.int .i64) (.int 1), .sc (.int .i64) (.int 4)] [.sc .bool]
       (.ret [(.o2 .band (.o2 .band (.o2 .band (.o2 .band (.o2 .band (.o2 .eq (.o1 (.fld 1) (.var 0)) (.int 0)) (.o2 .eq (.o1 (.fld 2) (.var 0)) (.int 0))) (.o2 .eq (.o1 (.fld 3) (.var 0)) (.int (-1)))) (.o1 .not (.o1 (.fld 5) (.var 0)))) (.o2 .eq (.o1 .len (.o1 (.fld 6) (.var 0))) (.int 0))) (.var 1))]))
       (.br (.o2 .eq (.o1 (.fld 0) (.var 0)) (.int 8))
        (.call [] (.fn 64) [.sc (.int .i64) (.o1 (.fld 1) (.var 0)), .sc (.int .i64) (.int 0), .sc (.int .i64) (.int 99)] [.sc .bool]
        (.ret [(.o2 .band (.o2 .band (.o2 .band (.o2 .band (.var 1) (.o2 .eq (.o1 (.fld 2) (.var 0)) (.int 0))) (.o2 .eq (.o1 (.fld 3) (.var 0)) (.int (-1)))) (.o2 .eq (.o1 (.fld 4) (.var 0)) (.int 0))) (.o2 .eq (.o1 .len (.o1 (.fld 6) (.var 0))) (.int 0)))]))
        (.br (.o2 .eq (.o1 (.fld 0) (.var 0)) (.int 9))
         (.loop 0 [(.int 0)]
          (.know (.o1 (.fld 6) (.var 0))
          (.br (.o2 .lt (.var 1) (.o1 .len (.o1 (.fld 6) (.var 0))))
           (.need [] (.o2 .le (.int 0) (.var 1))
           (.need [] (.o2 .lt (.var 1) (.o1 .len (.o1 (.fld 6) (.var 0))))
           (.call [] (.fn 79) [.st [(.int .i64), (.int .i64), (.int .i64), (.int .i64), (.int .i64), (.int .i64), .bool] (.o2 .cons (.o1 (.fld 0) (.o2 .idx (.o1 (.fld 6) (.var 0)) (.var 1))) (.o2 .cons (.o1 (.fld 1) (.o2 .idx (.o1 (.fld 6) (.var 0)) (.var 1))) (.o2 .cons (.o1 (.fld 2) (.o2 .idx (.o1 (.fld 6) (.var 0)) (.var 1))) (.o2 .cons (.o1 (.fld 3) (.o2 .idx (.o1 (.fld 6) (.var 0)) (.var 1))) (.o2 .cons (.o1 (.fld 4) (.o2 .idx (.o1 (.fld 6) (.var 0)) (.var 1))) (.o2 .cons (.o1 (.fld 5) (.o2 .idx (.o1 (.fld 6) (.var 0)) (.var 1))) (.o2 .cons (.o1 (.fld 6) (.o2 .idx (.o1 (.fld 6) (.var 0)) (.var 1))) .nil)))))))] [.sc .bool]
           (.br (.o1 .not (.var 2))
            (.ret [(.bool false)])
            (.cont 0 [(.o2 (.add .i64) (.var 1) (.int 1))])))))
           (.call [((.o2 .band (.o2 .band (.o2 .band (.o2 .band (.o2 .eq (.o1 (.fld 1) (.var 0)) (.int 0)) (.o2 .eq (.o1 (.fld 2) (.var 0)) (.int 0))) (.o2 .eq (.o1 (.fld 3) (.var 0)) (.int (-1)))) (.o2 .eq (.o1 (.fld 4) (.var 0)) (.int 0))) (.o1 .not (.o1 (.fld 5) (.var 0)))), true)] (.fn 64) [.sc (.int .i64) (.o1 .len (.o1 (.fld 6) (.var 0))), .sc (.int .i64) (.int 1), .sc (.int .i64) (.int 3)] [.sc .bool]
           (.ret [(.o2 .band (.o2 .band (.o2 .band (.o2 .band (.o2 .band (.o2 .eq (.o1 (.fld 1) (.var 0)) (.int 0)) (.o2 .eq (.o1 (.fld 2) (.var 0)) (.int 0))) (.o2 .eq (.o1 (.fld 3) (.var 0)) (.int (-1)))) (.o2 .eq (.o1 (.fld 4) (.var 0)) (.int 0))) (.o1 .not (.o1 (.fld 5) (.var 0)))) (.var 2))])))))
         (.ret [(.bool false)]))))))))))
theorem sig_39 : sigOf Try.prog md 39 [] = some ([.st [(.int .i64), (.int .i64), (.int .i64), (.int .i64), (.int .i64), .bool, (.sl [(.int .i64), (.int .i64), (.int .i64), (.int .i64), (.int .i64), (.int .i64), .bool])]], [.sc .bool], tree_39) := by kernel_rfl
/- spec.NumText -/
def tree_74 : T :=
(.br (.o2 .eq (.var 0) (.int 0))
 (.ret [(.str [48])])
 (.loop 0 [(.str []), (.var 0)]
  (.br (.o2 .ne (.var 2) (.int 0))
   (.need [] (.o2 .ne (.int 10) (.int 0))
   (.br (.o2 .lt (.o2 .rem (.var 2) (.int 10)) (.int 0))
    (.need [] (.o2 .sfits (.o1 .b2s (.o2 .cons (.o2 .cons (.o1 (.conv .u8) (.o2 (.add .i64) (.int 48) (.o1 (.neg .i64) (.o2 .rem (.var 2) (.int 10))))) .nil) .nil)) (.var 1))
    (.need [] (.o2 .ne (.int 10) (.int 0))
    (.cont 0 [(.o2 .scat (.o1 .b2s (.o2 .cons (.o2 .cons (.o1 (.conv .u8) (.o2 (.add .i64) (.int 48) (.o1 (.neg .i64) (.o2 .rem (.var 2) (.int 10))))) .nil) .nil)) (.var 1)), (.o2 (.quo .i64) (.var 2) (.int 10))])))
    (.need [] (.o2 .sfits (.o1 .b2s (.o2 .cons (.o2 .cons (.o1 (.conv .u8) (.o2 (.add .i64) (.int 48) (.o2 .rem (.var 2) (.int 10)))) .nil) .nil)) (.var 1))
    (.need [] (.o2 .ne (.int 10) (.int 0))
    (.cont 0 [(.o2 .scat (.o1 .b2s (.o2 .cons (.o2 .cons (.o1 (.conv .u8) (.o2 (.add .i64) (.int 48) (.o2 .rem (.var 2) (.int 10)))) .nil) .nil)) (.var 1)), (.o2 (.quo .i64) (.var 2) (.int 10))])))))
   (.br (.o2 .lt (.var 0) (.int 0))
    (.need [] (.o2 .sfits (.str [45]) (.var 1))
    (.ret [(.o2 .scat (.str [45]) (.var 1))]))
    (.ret [(.var 1)])))))
theorem sig_74 : sigOf Try.prog md 74 [] = some ([.sc (.int .i64)], [.sc .str], tree_74) := by kernel_rfl
/- spec.ActText -/
def tree_54 : T :=
(.call [] (.fn 39) [.st [(.int .i64), (.int .i64), (.int .i64), (.int .i64), (.int .i64), .bool, (.sl [(.int .i64), (.int .i64), (.int .i64), (.int .i64), (.int .i64), (.int .i64), .bool])] (.o2 .cons (.o1 (.fld 0) (.var 0)) (.o2 .cons (.o1 (.fld 1) (.var 0)) (.o2 .cons (.o1 (.fld 2) (.var 0)) (.o2 .cons (.o1 (.fld 3) (.var 0)) (.o2 .cons (.o1 (.fld 4) (.var 0)) (.o2 .cons (.o1 (.fld 5) (.var 0)) (.o2 .cons (.o1 (.fld 6) (.var 0)) .nil)))))))] [.sc .bool]
(.br (.o1 .not (.var 1))
 (.ret [(.str [])])
 (.br (.o2 .eq (.o1 (.fld 0) (.var 0)) (.int 1))
  (.ret [(.str [115, 116, 111, 112])])
  (.br (.o2 .eq (.o1 (.fld 0) (.var 0)) (.int 2))
   (.ret [(.str [115, 104, 105, 101, 108, 100])])
   (.br (.o2 .eq (.o1 (.fld 0) (.var 0)) (.int 3))
    (.call [] (.fn 74) [.sc (.int .i64) (.o1 (.fld 1) (.var 0))] [.sc .str]
    (.need [] (.o2 .sfits (.str [109, 111, 114, 101, 32]) (.var 2))
    (.ret [(.o2 .scat (.str [109, 111, 114, 101, 32]) (.var 2))])))
    (.br (.o2 .eq (.o1 (.fld 0) (.var 0)) (.int 4))
     (.ret [(.str [116, 119, 105, 99, 101])])
     (.br (.o2 .eq (.o1 (.fld 0) (.var 0)) (.int 5))
      (.ret [(.str [104, 97, 108, 102])])
      (.br (.o2 .eq (.o1 (.fld 0) (.var 0)) (.int 6))
       (.br (.o2 .eq (.o1 (.fld 2) (.var 0)) (.int 0))
        (.call [] (.fn 74) [.sc (.int .i64) (.o1 (.fld 3) (.var 0))] [.sc .str]
        (.need [] (.o2 .sfits (.str [116, 117, 114, 110, 32, 115, 105, 100, 101, 32]) (.var 2))
        (.ret [(.o2 .scat (.str [116, 117, 114, 110, 32, 115, 105, 100, 101, 32]) (.var 2))])))
        (.call [] (.fn 74) [.sc (.int .i64) (.o1 (.fld 2) (.var 0))] [.sc .str]
        (.need [] (.o2 .sfits (.str [116, 117, 114, 110, 32, 112, 105, 101, 99, 101, 32]) (.var 2))
        (.ret [(.o2 .scat (.str [116, 117, 114, 110, 32, 112, 105, 101, 99, 101, 32]) (.var 2))]))))
       (.br (.o2 .eq (.o1 (.fld 0) (.var 0)) (.int 7))
        (.call [] (.fn 74) [.sc (.int .i64) (.o1 (.fld 4) (.var 0))] [.sc .str]
        (.need [] (.o2 .sfits (.str [122, 111, 110, 101, 32]) (.var 2))
        (.ret [(.o2 .scat (.str [122, 111, 110, 101, 32]) (.var 2))])))
        (.br (.o2 .eq (.o1 (.fld 0) (.var 0)) (.int 8))
         (.br (.o1 (.fld 5) (.var 0))
          (.call [] (.fn 74) [.sc (.int .i64) (.o1 (.fld 1) (.var 0))] [.sc .str]
          (.need [] (.o2 .sfits (.str [101, 110, 116, 101, 114, 32]) (.var 2))
          (.need [] (.o2 .sfits (.o2 .scat (.str [101, 110, 116, 101, 114, 32]) (.var 2)) (.str [32, 98, 101, 110, 116]))
          (.ret [(.o2 .scat (.o2 .scat (.str [101, 110, 116, 101, 114, 32]) (.var 2)) (.str [32, 98, 101, 110, 116]))]))))
          (.call [] (.fn 74) [.sc (.int .i64) (.o1 (.fld 1) (.var 0))] [.sc .str]
          (.need [] (.o2 .sfits (.str [101, 110, 116, 101, 114, 32]) (.var 2))
          (.ret [(.o2 .scat (.str [101, 110, 116, 101, 114, 32]) (.var 2))]))))
         (.know (.o1 (.fld 6) (.var 0))
         (.call [] (.fn 74) [.sc (.int .i64) (.o1 .len (.o1 (.fld 6) (.var 0)))] [.sc .str]
         (.need [] (.o2 .sfits (.str [112, 97, 114, 116, 115, 32]) (.var 2))
         (.ret [(.o2 .scat (.str [112, 97, 114, 116, 115, 32]) (.var 2))]))))))))))))))
theorem sig_54 : sigOf Try.prog md 54 [] = some ([.st [(.int .i64), (.int .i64), (.int .i64), (.int .i64), (.int .i64), .bool, (.sl [(.int .i64), (.int .i64), (.int .i64), (.int .i64), (.int .i64), (.int .i64), .bool])]], [.sc .str], tree_54) := by kernel_rfl
/- impl.from -/
def tree_81 : T :=
(.ret [(.o2 .band (.o2 .ge (.var 0) (.var 1)) (.o2 .le (.var 0) (.var 2)))])
theorem sig_81 : sigOf Try.prog md 81 [] = some ([.sc (.int .i64), .sc (.int .i64), .sc (.int .i64)], [.sc .bool], tree_81) := by kernel_rfl
/- impl.isId -/
def tree_82 : T :=
(.call [] (.fn 81) [.sc (.int .i64) (.var 0), .sc (.int .i64) (.int 1), .sc (.int .i64) (.int 99)] [.sc .bool]
(.ret [(.var 1)]))
theorem sig_82 : sigOf Try.prog md 82 [] = some ([.sc (.int .i64)], [.sc .bool], tree_82) := by kernel_rfl
/- impl.isPlayer -/
def tree_83 : T :=
(.call [] (.fn 81) [.sc (.int .i64) (.var 0), .sc (.int .i64) (.int 0), .sc (.int .i64) (.int 2)] [.sc .bool]
(.ret [(.var 1)]))
theorem sig_83 : sigOf Try.prog md 83 [] = some ([.sc (.int .i64)], [.sc .bool], tree_83) := by kernel_rfl
/- impl.isZone -/
def tree_84 : T :=
(.call [] (.fn 81) [.sc (.int .i64) (.var 0), .sc (.int .i64) (.int 1), .sc (.int .i64) (.int 4)] [.sc .bool]
(.ret [(.var 1)]))
theorem sig_84 : sigOf Try.prog md 84 [] = some ([.sc (.int .i64)], [.sc .bool], tree_84) := by kernel_rfl
/- impl.isAmount -/
def tree_102 : T :=
(.call [] (.fn 81) [.sc (.int .i64) (.var 0), .sc (.int .i64) (.int 0), .sc (.int .i64) (.int 2147483647)] [.sc .bool]
(.ret [(.var 1)]))
theorem sig_102 : sigOf Try.prog md 102 [] = some ([.sc (.int .i64)], [.sc .bool], tree_102) := by kernel_rfl
/- impl.onPiece -/
def tree_103 : T :=
(.call [] (.fn 82) [.sc (.int .i64) (.o1 (.fld 2) (.var 0))] [.sc .bool]
(.ret [(.o2 .band (.var 1) (.o2 .eq (.o1 (.fld 3) (.var 0)) (.int (-1))))]))
theorem sig_103 : sigOf Try.prog md 103 [] = some ([.st [(.int .i64), (.int .i64), (.int .i64), (.int .i64), (.int .i64), (.int .i64), .bool]], [.sc .bool], tree_103) := by kernel_rfl
/- impl.onPlayer -/
def tree_104 : T :=
(.call [((.o2 .eq (.o1 (.fld 2) (.var 0)) (.int 0)), true)] (.fn 83) [.sc (.int .i64) (.o1 (.fld 3) (.var 0))] [.sc .bool]
(.ret [(.o2 .band (.o2 .eq (.o1 (.fld 2) (.var 0)) (.int 0)) (.var 1))]))
theorem sig_104 : sigOf Try.prog md 104 [] = some ([.st [(.int .i64), (.int .i64), (.int .i64), (.int .i64), (.int .i64), (.int .i64), .bool]], [.sc .bool], tree_104) := by kernel_rfl
/- impl.EventOk -/
def tree_73 : T :=
(.call [] (.fn 102) [.sc (.int .i64) (.o1 (.fld 4) (.var 0))] [.sc .bool]
(.br (.o2 .bor (.o2 .bor (.o1 .not (.var 1)) (.o2 .band (.o2 .ne (.o1 (.fld 0) (.var 0)) (.int 1)) (.o2 .ne (.o1 (.fld 1) (.var 0)) (.int 0)))) (.o2 .band (.o2 .ne (.o1 (.fld 0) (.var 0)) (.int 2)) (.o2 .bor (.o2 .ne (.o1 (.fld 5) (.var 0)) (.int 0)) (.o1 (.fld 6) (.var 0)))))
 (.ret [(.bool false)])
 (.br (.o2 .eq (.o1 (.fld 0) (.var 0)) (.int 1))
  (.call [] (.fn 82) [.sc (.int .i64) (.o1 (.fld 1) (.var 0))] [.sc .bool]
  (.call [((.var 2), true)] (.fn 103) [.st [(.int .i64), (.int .i64), (.int .i64), (.int .i64), (.int .i64), (.int .i64), .bool] (.o2 .cons (.o1 (.fld 0) (.var 0)) (.o2 .cons (.o1 (.fld 1) (.var 0)) (.o2 .cons (.o1 (.fld 2) (.var 0)) (.o2 .cons (.o1 (.fld 3) (.var 0)) (.o2 .cons (.o1 (.fld 4) (.var 0)) (.o2 .cons (.o1 (.fld 5) (.var 0)) (.o2 .cons (.o1 (.fld 6) (.var 0)) .nil)))))))] [.sc .bool]
  (.call [((.var 2), true), ((.var 3), false)] (.fn 104) [.st [(.int .i64), (.int .i64), (.int .i64), (.int .i64), (.int .i64), (.int .i64), .bool] (.o2 .cons (.o1 (.fld 0) (.var 0)) (.o2 .cons (.o1 (.fld 1) (.var 0)) (.o2 .cons (.o1 (.fld 2) (.var 0)) (.o2 .cons (.o1 (.fld 3) (.var 0)) (.o2 .cons (.o1 (.fld 4) (.var 0)) (.o2 .cons (.o1 (.fld 5) (.var 0)) (.o2 .cons (.o1 (.fld 6) (.var 0)) .nil)))))))] [.sc .bool]
  (.ret [(.o2 .band (.var 2) (.o2 .bor (.var 3) (.var 4)))]))))
  (.br (.o2 .eq (.o1 (.fld 0) (.var 0)) (.int 2))
   (.br (.o2 .eq (.o1 (.fld 5) (.var 0)) (.int 2))
    (.call [] (.fn 103) [.st [(.int .i64), (.int .i64), (.int .i64), (.int .i64), (.int .i64), (.int .i64), .bool] (.o2 .cons (.o1 (.fld 0) (.var 0)) (.o2 .cons (.o1 (.fld 1) (.var 0)) (.o2 .cons (.o1 (.fld 2) (.var 0)) (.o2 .cons (.o1 (.fld 3) (.var 0)) (.o2 .cons (.o1 (.fld 4) (.var 0)) (.o2 .cons (.o1 (.fld 5) (.var 0)) (.o2 .cons (.o1 (.fld 6) (.var 0)) .nil)))))))] [.sc .bool]
    (.ret [(.o2 .band (.var 2) (.o2 .le (.o1 (.fld 4) (.var 0)) (.int 99)))]))
    (.call [] (.fn 103) [.st [(.int .i64), (.int .i64), (.int .i64), (.int .i64), (.int .i64), (.int .i64), .bool] (.o2 .cons (.o1 (.fld 0) (.var 0)) (.o2 .cons (.o1 (.fld 1) (.var 0)) (.o2 .cons (.o1 (.fld 2) (.var 0)) (.o2 .cons (.o1 (.fld 3) (.var 0)) (.o2 .cons (.o1 (.fld 4) (.var 0)) (.o2 .cons (.o1 (.fld 5) (.var 0)) (.o2 .cons (.o1 (.fld 6) (.var 0)) .nil)))))))] [.sc .bool]
    (.call [((.var 2), true)] (.fn 84) [.sc (.int .i64) (.o1 (.fld 5) (.var 0))] [.sc .bool]
    (.ret [(.o2 .band (.o2 .band (.o2 .band (.var 2) (.var 3)) (.o2 .eq (.o1 (.fld 4) (.var 0)) (.int 0))) (.o1 .not (.o1 (.fld 6) (.var 0))))]))))
   (.br (.o2 .eq (.o1 (.fld 0) (.var 0)) (.int 3))
    (.br (.o2 .eq (.o1 (.fld 0) (.var 0)) (.int 3))
     (.call [] (.fn 104) [.st [(.int .i64), (.int .i64), (.int .i64), (.int .i64), (.int .i64), (.int .i64), .bool] (.o2 .cons (.o1 (.fld 0) (.var 0)) (.o2 .cons (.o1 (.fld 1) (.var 0)) (.o2 .cons (.o1 (.fld 2) (.var 0)) (.o2 .cons (.o1 (.fld 3) (.var 0)) (.o2 .cons (.o1 (.fld 4) (.var 0)) (.o2 .cons (.o1 (.fld 5) (.var 0)) (.o2 .cons (.o1 (.fld 6) (.var 0)) .nil)))))))] [.sc .bool]
     (.ret [(.var 2)]))
     (.br (.o2 .eq (.o1 (.fld 0) (.var 0)) (.int 5))
      (.br (.o2 .eq (.o1 (.fld 0) (.var 0)) (.int 5))
       (.call [] (.fn 103) [.st [(.int .i64), (.int .i64), (.int .i64), (.int .i64), (.int .i64), (.int .i64), .bool] (.o2 .cons (.o1 (.fld 0) (.var 0)) (.o2 .cons (.o1 (.fld 1) (.var 0)) (.o2 .cons (.o1 (.fld 2) (.var 0)) (.o2 .cons (.o1 (.fld 3) (.var 0)) (.o2 .cons (.o1 (.fld 4) (.var 0)) (.o2 .cons (.o1 (.fld 5) (.var 0)) (.o2 .cons (.o1 (.fld 6) (.var 0)) .nil)))))))] [.sc .bool]
       (.ret [(.var 2)]))
       (.ret [(.bool false)]))
      (.br (.o2 .eq (.o1 (.fld 0) (.var 0)) (.int 6))
       (.call [] (.fn 103) [.st [(.int .i64), (.int .i64), (.int .i64), (.int .i64), (.int .i64), (.int .i64), .bool] (.o2 .cons (.o1 (.fld 0) (.var 0)) (.o2 .cons (.o1 (.fld 1) (.var 0)) (.o2 .cons (.o1 (.fld 2) (.var 0)) (.o2 .cons (.o1 (.fld 3) (.var 0)) (.o2 .cons (.o1 (.fld 4) (.var 0)) (.o2 .cons (.o1 (.fld 5) (.var 0)) (.o2 .cons (.o1 (.fld 6) (.var 0)) .nil)))))))] [.sc .bool]
       (.ret [(.var 2)]))
       (.ret [(.bool false)]))))
    (.br (.o2 .eq (.o1 (.fld 0) (.var 0)) (.int 4))
     (.call [] (.fn 104) [.st [(.int .i64), (.int .i64), (.int .i64), (.int .i64), (.int .i64), (.int .i64), .bool] (.o2 .cons (.o1 (.fld 0) (.var 0)) (.o2 .cons (.o1 (.fld 1) (.var 0)) (.o2 .cons (.o1 (.fld 2) (.var 0)) (.o2 .cons (.o1 (.fld 3) (.var 0)) (.o2 .cons (.o1 (.fld 4) (.var 0)) (.o2 .cons (.o1 (.fld 5) (.var 0)) (.o2 .cons (.o1 (.fld 6) (.var 0)) .nil)))))))] [.sc .bool]
     (.ret [(.var 2)]))
     (.br (.o2 .eq (.o1 (.fld 0) (.var 0)) (.int 5))
      (.br (.o2 .eq (.o1 (.fld 0) (.var 0)) (.int 5))
       (.call [] (.fn 103) [.st [(.int .i64), (.int .i64), (.int .i64), (.int .i64), (.int .i64), (.int .i64), .bool] (.o2 .cons (.o1 (.fld 0) (.var 0)) (.o2 .cons (.o1 (.fld 1) (.var 0)) (.o2 .cons (.o1 (.fld 2) (.var 0)) (.o2 .cons (.o1 (.fld 3) (.var 0)) (.o2 .cons (.o1 (.fld 4) (.var 0)) (.o2 .cons (.o1 (.fld 5) (.var 0)) (.o2 .cons (.o1 (.fld 6) (.var 0)) .nil)))))))] [.sc .bool]
       (.ret [(.var 2)]))
       (.ret [(.bool false)]))
      (.br (.o2 .eq (.o1 (.fld 0) (.var 0)) (.int 6))
       (.call [] (.fn 103) [.st [(.int .i64), (.int .i64), (.int .i64), (.int .i64), (.int .i64), (.int .i64), .bool] (.o2 .cons (.o1 (.fld 0) (.var 0)) (.o2 .cons (.o1 (.fld 1) (.var 0)) (.o2 .cons (.o1 (.fld 2) (.var 0)) (.o2 .cons (.o1 (.fld 3) (.var 0)) (.o2 .cons (.o1 (.fld 4) (.var 0)) (.o2 .cons (.o1 (.fld 5) (.var 0)) (.o2 .cons (.o1 (.fld 6) (.var 0)) .nil)))))))] [.sc .bool]
       (.ret [(.var 2)]))
       (.ret [(.bool false)])))))))))
theorem sig_73 : sigOf Try.prog md 73 [] = some ([.st [(.int .i64), (.int .i64), (.int .i64), (.int .i64), (.int .i64), (.int .i64), .bool]], [.sc .bool], tree_73) := by kernel_rfl
/- impl.partOk -/
def tree_87 : T :=
(.call [] (.fn 73) [.st [(.int .i64), (.int .i64), (.int .i64), (.int .i64), (.int .i64), (.int .i64), .bool] (.o2 .cons (.o1 (.fld 0) (.var 0)) (.o2 .cons (.o1 (.fld 1) (.var 0)) (.o2 .cons (.o1 (.fld 2) (.var 0)) (.o2 .cons (.o1 (.fld 3) (.var 0)) (.o2 .cons (.o1 (.fld 4) (.var 0)) (.o2 .cons (.o1 (.fld 5) (.var 0)) (.o2 .cons (.o1 (.fld 6) (.var 0)) .nil)))))))] [.sc .bool]
(.br (.var 1)
 (.ret [(.bool true)])
 (.call [((.o2 .band (.o2 .ne (.o1 (.fld 0) (.var 0)) (.int 2)) (.o2 .eq (.o1 (.fld 4) (.var 0)) (.int (-1)))), true)] (.fn 73) [.st [(.int .i64), (.int .i64), (.int .i64), (.int .i64), (.int .i64), (.int .i64), .bool] (.o2 .cons (.o1 (.fld 0) (.var 0)) (.o2 .cons (.o1 (.fld 1) (.var 0)) (.o2 .cons (.o1 (.fld 2) (.var 0)) (.o2 .cons (.o1 (.fld 3) (.var 0)) (.o2 .cons (.int 0) (.o2 .cons (.o1 (.fld 5) (.var 0)) (.o2 .cons (.o1 (.fld 6) (.var 0)) .nil)))))))] [.sc .bool]
 (.ret [(.o2 .band (.o2 .band (.o2 .ne (.o1 (.fld 0) (.var 0)) (.int 2)) (.o2 .eq (.o1 (.fld 4) (.var 0)) (.int (-1)))) (.var 2))]))))
theorem sig_87 : sigOf Try.prog md 87 [] = some ([.st [(.int .i64), (.int .i64), (.int .i64), (.int .i64), (.int .i64), (.int .i64), .bool]], [.sc .bool], tree_87) := by kernel_rfl
/- impl.ActOk$1 -/
def tree_86 : T :=
(.call [] (.fn 87) [.st [(.int .i64), (.int .i64), (.int .i64), (.int .i64), (.int .i64), (.int .i64), .bool] (.o2 .cons (.o1 (.fld 0) (.var 0)) (.o2 .cons (.o1 (.fld 1) (.var 0)) (.o2 .cons (.o1 (.fld 2) (.var 0)) (.o2 .cons (.o1 (.fld 3) (.var 0)) (.o2 .cons (.o1 (.fld 4) (.var 0)) (.o2 .cons (.o1 (.fld 5) (.var 0)) (.o2 .cons (.o1 (.fld 6) (.var 0)) .nil)))))))] [.sc .bool]
(.ret [(.o1 .not (.var 1))]))
theorem sig_86 : sigOf Try.prog md 86 [] = some ([.st [(.int .i64), (.int .i64), (.int .i64), (.int .i64), (.int .i64), (.int .i64), .bool]], [.sc .bool], tree_86) := by kernel_rfl
/- slices.IndexFunc[[]impl.Event,impl.Event] -/
def tree_108 : T :=
(.know (.var 0)
(.loop 0 [(.int 0)]
 (.br (.o2 .lt (.var 2) (.o1 .len (.var 0)))
  (.need [] (.o2 .le (.int 0) (.var 2))
  (.need [] (.o2 .lt (.var 2) (.o1 .len (.var 0)))
  (.call [] (.par 1) [.st [(.int .i64), (.int .i64), (.int .i64), (.int .i64), (.int .i64), (.int .i64), .bool] (.o2 .cons (.o1 (.fld 0) (.o2 .idx (.var 0) (.var 2))) (.o2 .cons (.o1 (.fld 1) (.o2 .idx (.var 0) (.var 2))) (.o2 .cons (.o1 (.fld 2) (.o2 .idx (.var 0) (.var 2))) (.o2 .cons (.o1 (.fld 3) (.o2 .idx (.var 0) (.var 2))) (.o2 .cons (.o1 (.fld 4) (.o2 .idx (.var 0) (.var 2))) (.o2 .cons (.o1 (.fld 5) (.o2 .idx (.var 0) (.var 2))) (.o2 .cons (.o1 (.fld 6) (.o2 .idx (.var 0) (.var 2))) .nil)))))))] [.sc .bool]
  (.br (.var 3)
   (.ret [(.var 2)])
   (.cont 0 [(.o2 (.add .i64) (.var 2) (.int 1))])))))
  (.ret [(.int (-1))]))))
theorem sig_108 : sigOf Try.prog md 108 [] = some ([.sc (.sl [(.int .i64), (.int .i64), (.int .i64), (.int .i64), (.int .i64), (.int .i64), .bool]), .clo], [.sc (.int .i64)], tree_108) := by kernel_rfl
/- slices.ContainsFunc[[]impl.Event,impl.Event] -/
def tree_85 : T :=
(.call [] (.fn 108) [.sc (.sl [(.int .i64), (.int .i64), (.int .i64), (.int .i64), (.int .i64), (.int .i64), .bool]) (.var 0), .clop 1] [.sc (.int .i64)]
(.ret [(.o2 .ge (.var 2) (.int 0))]))
theorem sig_85 : sigOf Try.prog md 85 [] = some ([.sc (.sl [(.int .i64), (.int .i64), (.int .i64), (.int .i64), (.int .i64), (.int .i64), .bool]), .clo], [.sc .bool], tree_85) := by kernel_rfl
/- impl.ActOk -/
def tree_41 : T :=
(.br (.o2 .bor (.o2 .bor (.o2 .bor (.o2 .bor (.o2 .band (.o2 .band (.o2 .ne (.o1 (.fld 0) (.var 0)) (.int 3)) (.o2 .ne (.o1 (.fld 0) (.var 0)) (.int 8))) (.o2 .ne (.o1 (.fld 1) (.var 0)) (.int 0))) (.o2 .band (.o2 .ne (.o1 (.fld 0) (.var 0)) (.int 6)) (.o2 .bor (.o2 .ne (.o1 (.fld 2) (.var 0)) (.int 0)) (.o2 .ne (.o1 (.fld 3) (.var 0)) (.int (-1)))))) (.o2 .band (.o2 .ne (.o1 (.fld 0) (.var 0)) (.int 7)) (.o2 .ne (.o1 (.fld 4) (.var 0)) (.int 0)))) (.o2 .band (.o2 .ne (.o1 (.fld 0) (.var 0)) (.int 8)) (.o1 (.fld 5) (.var 0)))) (.o2 .band (.o2 .ne (.o1 (.fld 0) (.var 0)) (.int 9)) (.o2 .gt (.o1 .len (.o1 (.fld 6) (.var 0))) (.int 0))))
 (.ret [(.bool false)])
 (.br (.o2 .eq (.o1 (.fld 0) (.var 0)) (.int 1))
  (.br (.o2 .eq (.o1 (.fld 0) (.var 0)) (.int 1))
   (.ret [(.bool true)])
   (.br (.o2 .eq (.o1 (.fld 0) (.var 0)) (.int 3))
    (.call [] (.fn 81) [.sc (.int .i64) (.o1 (.fld 1) (.var 0)), .sc (.int .i64) (.int 1), .sc (.int .i64) (.int 2147483647)] [.sc .bool]
    (.ret [(.var 1)]))
    (.br (.o2 .eq (.o1 (.fld 0) (.var 0)) (.int 6))
     (.call [] (.fn 82) [.sc (.int .i64) (.o1 (.fld 2) (.var 0))] [.sc .bool]
     (.call [((.o2 .band (.var 1) (.o2 .eq (.o1 (.fld 3) (.var 0)) (.int (-1)))), false), ((.o2 .eq (.o1 (.fld 2) (.var 0)) (.int 0)), true)] (.fn 83) [.sc (.int .i64) (.o1 (.fld 3) (.var 0))] [.sc .bool]
     (.ret [(.o2 .bor (.o2 .band (.var 1) (.o2 .eq (.o1 (.fld 3) (.var 0)) (.int (-1)))) (.o2 .band (.o2 .eq (.o1 (.fld 2) (.var 0)) (.int 0)) (.var 2)))])))
     (.br (.o2 .eq (.o1 (.fld 0) (.var 0)) (.int 7))
      (.call [] (.fn 84) [.sc (.int .i64) (.o1 (.fld 4) (.var 0))] [.sc .bool]
      (.ret [(.var 1)]))
      (.br (.o2 .eq (.o1 (.fld 0) (.var 0)) (.int 8))
       (.call [] (.fn 81) [.sc (.int .i64) (.o1 (.fld 1) (.var 0)), .sc (.int .i64) (.int 0), .sc (.int .i64) (.int 99)] [.sc .bool]
       (.ret [(.var 1)]))
       (.br (.o2 .eq (.o1 (.fld 0) (.var 0)) (.int 9))
        (.know (.o1 (.fld 6) (.var 0))
        (.call [] (.fn 81) [.sc (.int .i64) (.o1 .len (.o1 (.fld 6) (.var 0))), .sc (.int .i64) (.int 1), .sc (.int .i64) (.int 3)] [.sc .bool]
        (.call [((.var 1), true)] (.fn 85) [.sc (.sl [(.int .i64), (.int .i64), (.int .i64), (.int .i64), (.int .i64), (.int .i64), .bool]) (.o1 (.fld 6) (.var 0)), .clo 86 []] [.sc .bool]
        (.ret [(.o2 .band (.var 1) (.o1 .not (.var 2)))]))))
        (.ret [(.bool false)])))))))
  (.br (.o2 .eq (.o1 (.fld 0) (.var 0)) (.int 2))
   (.br (.o2 .eq (.o1 (.fld 0) (.var 0)) (.int 2))
    (.ret [(.bool true)])
    (.br (.o2 .eq (.o1 (.fld 0) (.var 0)) (.int 3))
     (.call [] (.fn 81) [.sc (.int .i64) (.o1 (.fld 1) (.var 0)), .sc (.int .i64) (.int 1), .sc (.int .i64) (.int 2147483647)] [.sc .bool]
     (.ret [(.var 1)]))
     (.br (.o2 .eq (.o1 (.fld 0) (.var 0)) (.int 6))
      (.call [] (.fn 82) [.sc (.int .i64) (.o1 (.fld 2) (.var 0))] [.sc .bool]
      (.call [((.o2 .band (.var 1) (.o2 .eq (.o1 (.fld 3) (.var 0)) (.int (-1)))), false), ((.o2 .eq (.o1 (.fld 2) (.var 0)) (.int 0)), true)] (.fn 83) [.sc (.int .i64) (.o1 (.fld 3) (.var 0))] [.sc .bool]
      (.ret [(.o2 .bor (.o2 .band (.var 1) (.o2 .eq (.o1 (.fld 3) (.var 0)) (.int (-1)))) (.o2 .band (.o2 .eq (.o1 (.fld 2) (.var 0)) (.int 0)) (.var 2)))])))
      (.br (.o2 .eq (.o1 (.fld 0) (.var 0)) (.int 7))
       (.call [] (.fn 84) [.sc (.int .i64) (.o1 (.fld 4) (.var 0))] [.sc .bool]
       (.ret [(.var 1)]))
       (.br (.o2 .eq (.o1 (.fld 0) (.var 0)) (.int 8))
        (.call [] (.fn 81) [.sc (.int .i64) (.o1 (.fld 1) (.var 0)), .sc (.int .i64) (.int 0), .sc (.int .i64) (.int 99)] [.sc .bool]
        (.ret [(.var 1)]))
        (.br (.o2 .eq (.o1 (.fld 0) (.var 0)) (.int 9))
         (.know (.o1 (.fld 6) (.var 0))
         (.call [] (.fn 81) [.sc (.int .i64) (.o1 .len (.o1 (.fld 6) (.var 0))), .sc (.int .i64) (.int 1), .sc (.int .i64) (.int 3)] [.sc .bool]
         (.call [((.var 1), true)] (.fn 85) [.sc (.sl [(.int .i64), (.int .i64), (.int .i64), (.int .i64), (.int .i64), (.int .i64), .bool]) (.o1 (.fld 6) (.var 0)), .clo 86 []] [.sc .bool]
         (.ret [(.o2 .band (.var 1) (.o1 .not (.var 2)))]))))
         (.ret [(.bool false)])))))))
   (.br (.o2 .eq (.o1 (.fld 0) (.var 0)) (.int 4))
    (.br (.o2 .eq (.o1 (.fld 0) (.var 0)) (.int 4))
     (.ret [(.bool true)])
     (.br (.o2 .eq (.o1 (.fld 0) (.var 0)) (.int 3))
      (.call [] (.fn 81) [.sc (.int .i64) (.o1 (.fld 1) (.var 0)), .sc (.int .i64) (.int 1), .sc (.int .i64) (.int 2147483647)] [.sc .bool]
      (.ret [(.var 1)]))
      (.br (.o2 .eq (.o1 (.fld 0) (.var 0)) (.int 6))
       (.call [] (.fn 82) [.sc (.int .i64) (.o1 (.fld 2) (.var 0))] [.sc .bool]
       (.call [((.o2 .band (.var 1) (.o2 .eq (.o1 (.fld 3) (.var 0)) (.int (-1)))), false), ((.o2 .eq (.o1 (.fld 2) (.var 0)) (.int 0)), true)] (.fn 83) [.sc (.int .i64) (.o1 (.fld 3) (.var 0))] [.sc .bool]
       (.ret [(.o2 .bor (.o2 .band (.var 1) (.o2 .eq (.o1 (.fld 3) (.var 0)) (.int (-1)))) (.o2 .band (.o2 .eq (.o1 (.fld 2) (.var 0)) (.int 0)) (.var 2)))])))
       (.br (.o2 .eq (.o1 (.fld 0) (.var 0)) (.int 7))
        (.call [] (.fn 84) [.sc (.int .i64) (.o1 (.fld 4) (.var 0))] [.sc .bool]
        (.ret [(.var 1)]))
        (.br (.o2 .eq (.o1 (.fld 0) (.var 0)) (.int 8))
         (.call [] (.fn 81) [.sc (.int .i64) (.o1 (.fld 1) (.var 0)), .sc (.int .i64) (.int 0), .sc (.int .i64) (.int 99)] [.sc .bool]
         (.ret [(.var 1)]))
         (.br (.o2 .eq (.o1 (.fld 0) (.var 0)) (.int 9))
          (.know (.o1 (.fld 6) (.var 0))
          (.call [] (.fn 81) [.sc (.int .i64) (.o1 .len (.o1 (.fld 6) (.var 0))), .sc (.int .i64) (.int 1), .sc (.int .i64) (.int 3)] [.sc .bool]
          (.call [((.var 1), true)] (.fn 85) [.sc (.sl [(.int .i64), (.int .i64), (.int .i64), (.int .i64), (.int .i64), (.int .i64), .bool]) (.o1 (.fld 6) (.var 0)), .clo 86 []] [.sc .bool]
          (.ret [(.o2 .band (.var 1) (.o1 .not (.var 2)))]))))
          (.ret [(.bool false)])))))))
    (.br (.o2 .eq (.o1 (.fld 0) (.var 0)) (.int 5))
     (.ret [(.bool true)])
     (.br (.o2 .eq (.o1 (.fld 0) (.var 0)) (.int 3))
      (.call [] (.fn 81) [.sc (.int .i64) (.o1 (.fld 1) (.var 0)), .sc (.int .i64) (.int 1), .sc (.int .i64) (.int 2147483647)] [.sc .bool]
      (.ret [(.var 1)]))
      (.br (.o2 .eq (.o1 (.fld 0) (.var 0)) (.int 6))
       (.call [] (.fn 82) [.sc (.int .i64) (.o1 (.fld 2) (.var 0))] [.sc .bool]
       (.call [((.o2 .band (.var 1) (.o2 .eq (.o1 (.fld 3) (.var 0)) (.int (-1)))), false), ((.o2 .eq (.o1 (.fld 2) (.var 0)) (.int 0)), true)] (.fn 83) [.sc (.int .i64) (.o1 (.fld 3) (.var 0))] [.sc .bool]
       (.ret [(.o2 .bor (.o2 .band (.var 1) (.o2 .eq (.o1 (.fld 3) (.var 0)) (.int (-1)))) (.o2 .band (.o2 .eq (.o1 (.fld 2) (.var 0)) (.int 0)) (.var 2)))])))
       (.br (.o2 .eq (.o1 (.fld 0) (.var 0)) (.int 7))
        (.call [] (.fn 84) [.sc (.int .i64) (.o1 (.fld 4) (.var 0))] [.sc .bool]
        (.ret [(.var 1)]))
        (.br (.o2 .eq (.o1 (.fld 0) (.var 0)) (.int 8))
         (.call [] (.fn 81) [.sc (.int .i64) (.o1 (.fld 1) (.var 0)), .sc (.int .i64) (.int 0), .sc (.int .i64) (.int 99)] [.sc .bool]
         (.ret [(.var 1)]))
         (.br (.o2 .eq (.o1 (.fld 0) (.var 0)) (.int 9))
          (.know (.o1 (.fld 6) (.var 0))
          (.call [] (.fn 81) [.sc (.int .i64) (.o1 .len (.o1 (.fld 6) (.var 0))), .sc (.int .i64) (.int 1), .sc (.int .i64) (.int 3)] [.sc .bool]
          (.call [((.var 1), true)] (.fn 85) [.sc (.sl [(.int .i64), (.int .i64), (.int .i64), (.int .i64), (.int .i64), (.int .i64), .bool]) (.o1 (.fld 6) (.var 0)), .clo 86 []] [.sc .bool]
          (.ret [(.o2 .band (.var 1) (.o1 .not (.var 2)))]))))
          (.ret [(.bool false)])))))))))))
theorem sig_41 : sigOf Try.prog md 41 [] = some ([.st [(.int .i64), (.int .i64), (.int .i64), (.int .i64), (.int .i64), .bool, (.sl [(.int .i64), (.int .i64), (.int .i64), (.int .i64), (.int .i64), (.int .i64), .bool])]], [.sc .bool], tree_41) := by kernel_rfl
/- impl.NumText -/
def tree_75 : T :=
(.br (.o2 .band (.o2 .lt (.var 0) (.int 0)) (.o2 .gt (.var 0) (.int (-10))))
 (.call [] (.fn 75) [.sc (.int .i64) (.o1 (.neg .i64) (.var 0))] [.sc .str]
 (.need [] (.o2 .sfits (.str [45]) (.var 1))
 (.ret [(.o2 .scat (.str [45]) (.var 1))])))
 (.br (.o2 .lt (.var 0) (.int 0))
  (.need [] (.o2 .ne (.int 10) (.int 0))
  (.call [] (.fn 75) [.sc (.int .i64) (.o2 (.quo .i64) (.var 0) (.int 10))] [.sc .str]
  (.need [] (.o2 .ne (.int 10) (.int 0))
  (.call [] (.fn 75) [.sc (.int .i64) (.o1 (.neg .i64) (.o2 .rem (.var 0) (.int 10)))] [.sc .str]
  (.need [] (.o2 .sfits (.var 1) (.var 2))
  (.ret [(.o2 .scat (.var 1) (.var 2))]))))))
  (.br (.o2 .lt (.var 0) (.int 10))
   (.ret [(.o1 .chr (.o1 (.conv .i32) (.o2 (.add .i64) (.int 48) (.var 0))))])
   (.need [] (.o2 .ne (.int 10) (.int 0))
   (.call [] (.fn 75) [.sc (.int .i64) (.o2 (.quo .i64) (.var 0) (.int 10))] [.sc .str]
   (.need [] (.o2 .ne (.int 10) (.int 0))
   (.need [] (.o2 .sfits (.var 1) (.o1 .chr (.o1 (.conv .i32) (.o2 (.add .i64) (.int 48) (.o2 .rem (.var 0) (.int 10))))))
   (.ret [(.o2 .scat (.var 1) (.o1 .chr (.o1 (.conv .i32) (.o2 (.add .i64) (.int 48) (.o2 .rem (.var 0) (.int 10))))))]))))))))
theorem sig_75 : sigOf Try.prog md 75 [] = some ([.sc (.int .i64)], [.sc .str], tree_75) := by kernel_rfl
/- impl.ActText -/
def tree_55 : T :=
(.call [] (.fn 41) [.st [(.int .i64), (.int .i64), (.int .i64), (.int .i64), (.int .i64), .bool, (.sl [(.int .i64), (.int .i64), (.int .i64), (.int .i64), (.int .i64), (.int .i64), .bool])] (.o2 .cons (.o1 (.fld 0) (.var 0)) (.o2 .cons (.o1 (.fld 1) (.var 0)) (.o2 .cons (.o1 (.fld 2) (.var 0)) (.o2 .cons (.o1 (.fld 3) (.var 0)) (.o2 .cons (.o1 (.fld 4) (.var 0)) (.o2 .cons (.o1 (.fld 5) (.var 0)) (.o2 .cons (.o1 (.fld 6) (.var 0)) .nil)))))))] [.sc .bool]
(.br (.o1 .not (.var 1))
 (.ret [(.str [])])
 (.br (.o2 .eq (.o1 (.fld 0) (.var 0)) (.int 1))
  (.ret [(.str [115, 116, 111, 112])])
  (.br (.o2 .eq (.o1 (.fld 0) (.var 0)) (.int 2))
   (.ret [(.str [115, 104, 105, 101, 108, 100])])
   (.br (.o2 .eq (.o1 (.fld 0) (.var 0)) (.int 3))
    (.call [] (.fn 75) [.sc (.int .i64) (.o1 (.fld 1) (.var 0))] [.sc .str]
    (.need [] (.o2 .sfits (.str [109, 111, 114, 101, 32]) (.var 2))
    (.ret [(.o2 .scat (.str [109, 111, 114, 101, 32]) (.var 2))])))
    (.br (.o2 .eq (.o1 (.fld 0) (.var 0)) (.int 4))
     (.ret [(.str [116, 119, 105, 99, 101])])
     (.br (.o2 .eq (.o1 (.fld 0) (.var 0)) (.int 5))
      (.ret [(.str [104, 97, 108, 102])])
      (.br (.o2 .eq (.o1 (.fld 0) (.var 0)) (.int 6))
       (.br (.o2 .ne (.o1 (.fld 2) (.var 0)) (.int 0))
        (.call [] (.fn 75) [.sc (.int .i64) (.o1 (.fld 2) (.var 0))] [.sc .str]
        (.need [] (.o2 .sfits (.str [116, 117, 114, 110, 32, 112, 105, 101, 99, 101, 32]) (.var 2))
        (.ret [(.o2 .scat (.str [116, 117, 114, 110, 32, 112, 105, 101, 99, 101, 32]) (.var 2))])))
        (.call [] (.fn 75) [.sc (.int .i64) (.o1 (.fld 3) (.var 0))] [.sc .str]
        (.need [] (.o2 .sfits (.str [116, 117, 114, 110, 32, 115, 105, 100, 101, 32]) (.var 2))
        (.ret [(.o2 .scat (.str [116, 117, 114, 110, 32, 115, 105, 100, 101, 32]) (.var 2))]))))
       (.br (.o2 .eq (.o1 (.fld 0) (.var 0)) (.int 7))
        (.call [] (.fn 75) [.sc (.int .i64) (.o1 (.fld 4) (.var 0))] [.sc .str]
        (.need [] (.o2 .sfits (.str [122, 111, 110, 101, 32]) (.var 2))
        (.ret [(.o2 .scat (.str [122, 111, 110, 101, 32]) (.var 2))])))
        (.br (.o2 .eq (.o1 (.fld 0) (.var 0)) (.int 8))
         (.br (.o1 (.fld 5) (.var 0))
          (.call [] (.fn 75) [.sc (.int .i64) (.o1 (.fld 1) (.var 0))] [.sc .str]
          (.need [] (.o2 .sfits (.str [101, 110, 116, 101, 114, 32]) (.var 2))
          (.need [] (.o2 .sfits (.o2 .scat (.str [101, 110, 116, 101, 114, 32]) (.var 2)) (.str [32, 98, 101, 110, 116]))
          (.ret [(.o2 .scat (.o2 .scat (.str [101, 110, 116, 101, 114, 32]) (.var 2)) (.str [32, 98, 101, 110, 116]))]))))
          (.call [] (.fn 75) [.sc (.int .i64) (.o1 (.fld 1) (.var 0))] [.sc .str]
          (.need [] (.o2 .sfits (.str [101, 110, 116, 101, 114, 32]) (.var 2))
          (.ret [(.o2 .scat (.str [101, 110, 116, 101, 114, 32]) (.var 2))]))))
         (.know (.o1 (.fld 6) (.var 0))
         (.call [] (.fn 75) [.sc (.int .i64) (.o1 .len (.o1 (.fld 6) (.var 0)))] [.sc .str]
         (.need [] (.o2 .sfits (.str [112, 97, 114, 116, 115, 32]) (.var 2))
         (.ret [(.o2 .scat (.str [112, 97, 114, 116, 115, 32]) (.var 2))]))))))))))))))
theorem sig_55 : sigOf Try.prog md 55 [] = some ([.st [(.int .i64), (.int .i64), (.int .i64), (.int .i64), (.int .i64), .bool, (.sl [(.int .i64), (.int .i64), (.int .i64), (.int .i64), (.int .i64), (.int .i64), .bool])]], [.sc .str], tree_55) := by kernel_rfl
/- laws.FnExactActText -/
def tree_14 : T :=
(.call [] (.fn 38) [.st [(.int .i64), (.int .i64), (.int .i64), (.int .i64), (.int .i64), .bool, (.sl [(.int .i64), (.int .i64), (.int .i64), (.int .i64), (.int .i64), (.int .i64), .bool])] (.o2 .cons (.o1 (.fld 0) (.var 0)) (.o2 .cons (.o1 (.fld 1) (.var 0)) (.o2 .cons (.o1 (.fld 2) (.var 0)) (.o2 .cons (.o1 (.fld 3) (.var 0)) (.o2 .cons (.o1 (.fld 4) (.var 0)) (.o2 .cons (.o1 (.fld 5) (.var 0)) (.o2 .cons (.o1 (.fld 6) (.var 0)) .nil))))))), .sc (.int .i64) (.int 1048576)] [.sc (.int .i64)]
(.br (.o2 .lt (.var 1) (.int 0))
 (.ret [(.bool true)])
 (.call [] (.fn 40) [.st [(.int .i64), (.int .i64), (.int .i64), (.int .i64), (.int .i64), .bool, (.sl [(.int .i64), (.int .i64), (.int .i64), (.int .i64), (.int .i64), (.int .i64), .bool])] (.o2 .cons (.o1 (.fld 0) (.var 0)) (.o2 .cons (.o1 (.fld 1) (.var 0)) (.o2 .cons (.o1 (.fld 2) (.var 0)) (.o2 .cons (.o1 (.fld 3) (.var 0)) (.o2 .cons (.o1 (.fld 4) (.var 0)) (.o2 .cons (.o1 (.fld 5) (.var 0)) (.o2 .cons (.o1 (.fld 6) (.var 0)) .nil)))))))] [.st [(.int .i64), (.int .i64), (.int .i64), (.int .i64), (.int .i64), .bool, (.sl [(.int .i64), (.int .i64), (.int .i64), (.int .i64), (.int .i64), (.int .i64), .bool])]]
 (.call [] (.fn 54) [.st [(.int .i64), (.int .i64), (.int .i64), (.int .i64), (.int .i64), .bool, (.sl [(.int .i64), (.int .i64), (.int .i64), (.int .i64), (.int .i64), (.int .i64), .bool])] (.o2 .cons (.o1 (.fld 0) (.var 2)) (.o2 .cons (.o1 (.fld 1) (.var 2)) (.o2 .cons (.o1 (.fld 2) (.var 2)) (.o2 .cons (.o1 (.fld 3) (.var 2)) (.o2 .cons (.o1 (.fld 4) (.var 2)) (.o2 .cons (.o1 (.fld 5) (.var 2)) (.o2 .cons (.o1 (.fld 6) (.var 2)) .nil)))))))] [.sc .str]
 (.call [] (.fn 40) [.st [(.int .i64), (.int .i64), (.int .i64), (.int .i64), (.int .i64), .bool, (.sl [(.int .i64), (.int .i64), (.int .i64), (.int .i64), (.int .i64), (.int .i64), .bool])] (.o2 .cons (.o1 (.fld 0) (.var 0)) (.o2 .cons (.o1 (.fld 1) (.var 0)) (.o2 .cons (.o1 (.fld 2) (.var 0)) (.o2 .cons (.o1 (.fld 3) (.var 0)) (.o2 .cons (.o1 (.fld 4) (.var 0)) (.o2 .cons (.o1 (.fld 5) (.var 0)) (.o2 .cons (.o1 (.fld 6) (.var 0)) .nil)))))))] [.st [(.int .i64), (.int .i64), (.int .i64), (.int .i64), (.int .i64), .bool, (.sl [(.int .i64), (.int .i64), (.int .i64), (.int .i64), (.int .i64), (.int .i64), .bool])]]
 (.call [] (.fn 55) [.st [(.int .i64), (.int .i64), (.int .i64), (.int .i64), (.int .i64), .bool, (.sl [(.int .i64), (.int .i64), (.int .i64), (.int .i64), (.int .i64), (.int .i64), .bool])] (.o2 .cons (.o1 (.fld 0) (.var 4)) (.o2 .cons (.o1 (.fld 1) (.var 4)) (.o2 .cons (.o1 (.fld 2) (.var 4)) (.o2 .cons (.o1 (.fld 3) (.var 4)) (.o2 .cons (.o1 (.fld 4) (.var 4)) (.o2 .cons (.o1 (.fld 5) (.var 4)) (.o2 .cons (.o1 (.fld 6) (.var 4)) .nil)))))))] [.sc .str]
 (.br (.o2 .sne (.var 5) (.var 3))
  (.ret [(.bool false)])
  (.call [] (.fn 40) [.st [(.int .i64), (.int .i64), (.int .i64), (.int .i64), (.int .i64), .bool, (.sl [(.int .i64), (.int .i64), (.int .i64), (.int .i64), (.int .i64), (.int .i64), .bool])] (.o2 .cons (.o1 (.fld 0) (.var 0)) (.o2 .cons (.o1 (.fld 1) (.var 0)) (.o2 .cons (.o1 (.fld 2) (.var 0)) (.o2 .cons (.o1 (.fld 3) (.var 0)) (.o2 .cons (.o1 (.fld 4) (.var 0)) (.o2 .cons (.o1 (.fld 5) (.var 0)) (.o2 .cons (.o1 (.fld 6) (.var 0)) .nil)))))))] [.st [(.int .i64), (.int .i64), (.int .i64), (.int .i64), (.int .i64), .bool, (.sl [(.int .i64), (.int .i64), (.int .i64), (.int .i64), (.int .i64), (.int .i64), .bool])]]
  (.call [] (.fn 42) [.st [(.int .i64), (.int .i64), (.int .i64), (.int .i64), (.int .i64), .bool, (.sl [(.int .i64), (.int .i64), (.int .i64), (.int .i64), (.int .i64), (.int .i64), .bool])] (.o2 .cons (.o1 (.fld 0) (.var 4)) (.o2 .cons (.o1 (.fld 1) (.var 4)) (.o2 .cons (.o1 (.fld 2) (.var 4)) (.o2 .cons (.o1 (.fld 3) (.var 4)) (.o2 .cons (.o1 (.fld 4) (.var 4)) (.o2 .cons (.o1 (.fld 5) (.var 4)) (.o2 .cons (.o1 (.fld 6) (.var 4)) .nil))))))), .st [(.int .i64), (.int .i64), (.int .i64), (.int .i64), (.int .i64), .bool, (.sl [(.int .i64), (.int .i64), (.int .i64), (.int .i64), (.int .i64), (.int .i64), .bool])] (.o2 .cons (.o1 (.fld 0) (.var 6)) (.o2 .cons (.o1 (.fld 1) (.var 6)) (.o2 .cons (.o1 (.fld 2) (.var 6)) (.o2 .cons (.o1 (.fld 3) (.var 6)) (.o2 .cons (.o1 (.fld 4) (.var 6)) (.o2 .cons (.o1 (.fld 5) (.var 6)) (.o2 .cons (.o1 (.fld 6) (.var 6)) .nil)))))))] [.sc .bool]
  (.br (.o1 .not (.var 7))
   (.ret [(.bool false)])
   (.ret [(.bool true)])))))))))))
theorem sig_14 : sigOf Try.prog md 14 [] = some ([.st [(.int .i64), (.int .i64), (.int .i64), (.int .i64), (.int .i64), .bool, (.sl [(.int .i64), (.int .i64), (.int .i64), (.int .i64), (.int .i64), (.int .i64), .bool])]], [.sc .bool], tree_14) := by kernel_rfl
theorem mix : Try.prog.follows .mixedOrders = true := by kernel_rfl
end Go.Proofs.Ytbfhdfpbijpbbaa
