/- The trees of the functions that this claim reaches. -/
import Derived.Test.YtflegfieiemipaaRows
import Derived.Test.YtflegfieiemipaaE6
import Derived.KernelRfl
namespace Go.Proofs.Ytflegfieiemipaa
open Go.Proofs.Ytflegfieiemipaa.Eng
def md : Modes := ⟨[(30, 0)], [], []⟩
/- laws.szEventS -/
def tree_36 : T :=
(.know (.var 0)
(.br (.o2 .lt (.o2 (.sub .i64) (.var 1) (.o1 .len (.var 0))) (.int 0))
 (.ret [(.int (-1))])
 (.ret [(.o2 (.sub .i64) (.var 1) (.o1 .len (.var 0)))])))
theorem sig_36 : sigOf Try.prog md 36 [] = some ([.sc (.sl [(.int .i64), (.int .i64), (.int .i64), (.int .i64), (.int .i64), (.int .i64), .bool]), .sc (.int .i64)], [.sc (.int .i64)], tree_36) := by kernel_rfl
/- laws.szTurn -/
def tree_41 : T :=
(.call [] (.fn 36) [.sc (.sl [(.int .i64), (.int .i64), (.int .i64), (.int .i64), (.int .i64), (.int .i64), .bool]) (.o1 (.fld 11) (.var 0)), .sc (.int .i64) (.var 1)] [.sc (.int .i64)]
(.br (.o2 .lt (.var 2) (.int 0))
 (.ret [(.int (-1))])
 (.ret [(.var 2)])))
theorem sig_41 : sigOf Try.prog md 41 [] = some ([.st [(.int .i64), (.int .i64), (.int .i64), (.int .i64), (.int .i64), (.int .i64), (.int .i64), (.int .i64), (.int .i64), (.int .i64), .bool, (.sl [(.int .i64), (.int .i64), (.int .i64), (.int .i64), (.int .i64), (.int .i64), .bool]), (.int .i64), (.int .i64)], .sc (.int .i64)], [.sc (.int .i64)], tree_41) := by kernel_rfl
/- laws.toEvent -/
def tree_16 : T :=
(.ret [(.o2 .cons (.o1 (.fld 0) (.var 0)) (.o2 .cons (.o1 (.fld 1) (.var 0)) (.o2 .cons (.o1 (.fld 2) (.var 0)) (.o2 .cons (.o1 (.fld 3) (.var 0)) (.o2 .cons (.o1 (.fld 4) (.var 0)) (.o2 .cons (.o1 (.fld 5) (.var 0)) (.o2 .cons (.o1 (.fld 6) (.var 0)) .nil)))))))])
theorem sig_16 : sigOf Try.prog md 16 [] = some ([.st [(.int .i64), (.int .i64), (.int .i64), (.int .i64), (.int .i64), (.int .i64), .bool]], [.st [(.int .i64), (.int .i64), (.int .i64), (.int .i64), (.int .i64), (.int .i64), .bool]], tree_16) := by kernel_rfl
/- laws.toEventS -/
def tree_38 : T :=
(.know (.var 0)
(.need [] (.o2 .le (.int 0) (.o1 .len (.var 0)))
(.need [] (.o2 (.fits 56) (.o1 .len (.var 0)) (.int 0))
(.loop 0 [(.int 0), (.o2 .rep (.o1 .len (.var 0)) (.o2 .cons (.int 0) (.o2 .cons (.int 0) (.o2 .cons (.int 0) (.o2 .cons (.int 0) (.o2 .cons (.int 0) (.o2 .cons (.int 0) (.o2 .cons (.bool false) .nil))))))))]
 (.know (.var 0)
 (.br (.o2 .lt (.var 1) (.o1 .len (.var 0)))
  (.need [] (.o2 .le (.int 0) (.var 1))
  (.need [] (.o2 .lt (.var 1) (.o1 .len (.var 0)))
  (.call [] (.fn 16) [.st [(.int .i64), (.int .i64), (.int .i64), (.int .i64), (.int .i64), (.int .i64), .bool] (.o2 .cons (.o1 (.fld 0) (.o2 .idx (.var 0) (.var 1))) (.o2 .cons (.o1 (.fld 1) (.o2 .idx (.var 0) (.var 1))) (.o2 .cons (.o1 (.fld 2) (.o2 .idx (.var 0) (.var 1))) (.o2 .cons (.o1 (.fld 3) (.o2 .idx (.var 0) (.var 1))) (.o2 .cons (.o1 (.fld 4) (.o2 .idx (.var 0) (.var 1))) (.o2 .cons (.o1 (.fld 5) (.o2 .idx (.var 0) (.var 1))) (.o2 .cons (.o1 (.fld 6) (.o2 .idx (.var 0) (.var 1))) .nil)))))))] [.st [(.int .i64), (.int .i64), (.int .i64), (.int .i64), (.int .i64), (.int .i64), .bool]]
  (.need [] (.o2 .le (.int 0) (.var 1))
  (.need [] (.o2 .lt (.var 1) (.o1 .len (.var 2)))
  (.cont 0 [(.o2 (.add .i64) (.var 1) (.int 1)), (.o3 .setE (.var 2) (.var 1) (.o2 .cons (.o1 (.fld 0) (.var 3)) (.o2 .cons (.o1 (.fld 1) (.var 3)) (.o2 .cons (.o1 (.fld 2) (.var 3)) (.o2 .cons (.o1 (.fld 3) (.var 3)) (.o2 .cons (.o1 (.fld 4) (.var 3)) (.o2 .cons (.o1 (.fld 5) (.var 3)) (.o2 .cons (.o1 (.fld 6) (.var 3)) .nil))))))))]))))))
  (.ret [(.var 2)])))))))
theorem sig_38 : sigOf Try.prog md 38 [] = some ([.sc (.sl [(.int .i64), (.int .i64), (.int .i64), (.int .i64), (.int .i64), (.int .i64), .bool])], [.sc (.sl [(.int .i64), (.int .i64), (.int .i64), (.int .i64), (.int .i64), (.int .i64), .bool])], tree_38) := by kernel_rfl
/- laws.toTurn -/
def tree_43 : T :=
(.call [] (.fn 16) [.st [(.int .i64), (.int .i64), (.int .i64), (.int .i64), (.int .i64), (.int .i64), .bool] (.o2 .cons (.o1 (.fld 4) (.var 0)) (.o2 .cons (.o1 (.fld 5) (.var 0)) (.o2 .cons (.o1 (.fld 6) (.var 0)) (.o2 .cons (.o1 (.fld 7) (.var 0)) (.o2 .cons (.o1 (.fld 8) (.var 0)) (.o2 .cons (.o1 (.fld 9) (.var 0)) (.o2 .cons (.o1 (.fld 10) (.var 0)) .nil)))))))] [.st [(.int .i64), (.int .i64), (.int .i64), (.int .i64), (.int .i64), (.int .i64), .bool]]
(.call [] (.fn 38) [.sc (.sl [(.int .i64), (.int .i64), (.int .i64), (.int .i64), (.int .i64), (.int .i64), .bool]) (.o1 (.fld 11) (.var 0))] [.sc (.sl [(.int .i64), (.int .i64), (.int .i64), (.int .i64), (.int .i64), (.int .i64), .bool])]
(.ret [(.o2 .cons (.o1 (.fld 0) (.var 0)) (.o2 .cons (.o1 (.fld 1) (.var 0)) (.o2 .cons (.o1 (.fld 2) (.var 0)) (.o2 .cons (.o1 (.fld 3) (.var 0)) (.o2 .cons (.o1 (.fld 0) (.var 1)) (.o2 .cons (.o1 (.fld 1) (.var 1)) (.o2 .cons (.o1 (.fld 2) (.var 1)) (.o2 .cons (.o1 (.fld 3) (.var 1)) (.o2 .cons (.o1 (.fld 4) (.var 1)) (.o2 .cons (.o1 (.fld 5) (.var 1)) (.o2 .cons (.o1 (.fld 6) (.var 1)) (.o2 .cons (.var 2) (.o2 .cons (.o1 (.fld 12) (.var 0)) (.o2 .cons (.o1 (.fld 13) (.var 0)) .nil))))))))))))))])))
theorem sig_43 : sigOf Try.prog md 43 [] = some ([.st [(.int .i64), (.int .i64), (.int .i64), (.int .i64), (.int .i64), (.int .i64), (.int .i64), (.int .i64), (.int .i64), (.int .i64), .bool, (.sl [(.int .i64), (.int .i64), (.int .i64), (.int .i64), (.int .i64), (.int .i64), .bool]), (.int .i64), (.int .i64)]], [.st [(.int .i64), (.int .i64), (.int .i64), (.int .i64), (.int .i64), (.int .i64), (.int .i64), (.int .i64), (.int .i64), (.int .i64), .bool, (.sl [(.int .i64), (.int .i64), (.int .i64), (.int .i64), (.int .i64), (.int .i64), .bool]), (.int .i64), (.int .i64)]], tree_43) := by kernel_rfl
/- laws.eqEvent -/
def tree_65 : T :=
(.br (.o2 .ne (.o1 (.fld 0) (.var 0)) (.o1 (.fld 0) (.var 1)))
 (.ret [(.bool false)])
 (.br (.o2 .ne (.o1 (.fld 1) (.var 0)) (.o1 (.fld 1) (.var 1)))
  (.ret [(.bool false)])
  (.br (.o2 .ne (.o1 (.fld 2) (.var 0)) (.o1 (.fld 2) (.var 1)))
   (.ret [(.bool false)])
   (.br (.o2 .ne (.o1 (.fld 3) (.var 0)) (.o1 (.fld 3) (.var 1)))
    (.ret [(.bool false)])
    (.br (.o2 .ne (.o1 (.fld 4) (.var 0)) (.o1 (.fld 4) (.var 1)))
     (.ret [(.bool false)])
     (.br (.o2 .ne (.o1 (.fld 5) (.var 0)) (.o1 (.fld 5) (.var 1)))
      (.ret [(.bool false)])
      (.br (.o2 .bne (.o1 (.fld 6) (.var 0)) (.o1 (.fld 6) (.var 1)))
       (.ret [(.bool false)])
       (.ret [(.bool true)]))))))))
theorem sig_65 : sigOf Try.prog md 65 [] = some ([.st [(.int .i64), (.int .i64), (.int .i64), (.int .i64), (.int .i64), (.int .i64), .bool], .st [(.int .i64), (.int .i64), (.int .i64), (.int .i64), (.int .i64), (.int .i64), .bool]], [.sc .bool], tree_65) := by kernel_rfl
/- laws.eqEventS -/
def tree_40 : T :=
(.know (.var 0)
(.know (.var 1)
(.br (.o2 .ne (.o1 .len (.var 0)) (.o1 .len (.var 1)))
 (.ret [(.bool false)])
 (.loop 0 [(.int 0)]
  (.know (.var 0)
  (.br (.o2 .lt (.var 2) (.o1 .len (.var 0)))
   (.need [] (.o2 .le (.int 0) (.var 2))
   (.need [] (.o2 .lt (.var 2) (.o1 .len (.var 0)))
   (.need [] (.o2 .le (.int 0) (.var 2))
   (.need [] (.o2 .lt (.var 2) (.o1 .len (.var 1)))
   (.call [] (.fn 65) [.st [(.int .i64), (.int .i64), (.int .i64), (.int .i64), (.int .i64), (.int .i64), .bool] (.o2 .cons (.o1 (.fld 0) (.o2 .idx (.var 0) (.var 2))) (.o2 .cons (.o1 (.fld 1) (.o2 .idx (.var 0) (.var 2))) (.o2 .cons (.o1 (.fld 2) (.o2 .idx (.var 0) (.var 2))) (.o2 .cons (.o1 (.fld 3) (.o2 .idx (.var 0) (.var 2))) (.o2 .cons (.o1 (.fld 4) (.o2 .idx (.var 0) (.var 2))) (.o2 .cons (.o1 (.fld 5) (.o2 .idx (.var 0) (.var 2))) (.o2 .cons (.o1 (.fld 6) (.o2 .idx (.var 0) (.var 2))) .nil))))))), .st [(.int .i64), (.int .i64), (.int .i64), (.int .i64), (.int .i64), (.int .i64), .bool] (.o2 .cons (.o1 (.fld 0) (.o2 .idx (.var 1) (.var 2))) (.o2 .cons (.o1 (.fld 1) (.o2 .idx (.var 1) (.var 2))) (.o2 .cons (.o1 (.fld 2) (.o2 .idx (.var 1) (.var 2))) (.o2 .cons (.o1 (.fld 3) (.o2 .idx (.var 1) (.var 2))) (.o2 .cons (.o1 (.fld 4) (.o2 .idx (.var 1) (.var 2))) (.o2 .cons (.o1 (.fld 5) (.o2 .idx (.var 1) (.var 2))) (.o2 .cons (.o1 (.fld 6) (.o2 .idx (.var 1) (.var 2))) .nil)))))))] [.sc .bool]
   (.br (.o1 .not (.var 3))
    (.ret [(.bool false)])
    (.cont 0 [(.o2 (.add .i64) (.var 2) (.int 1))])))))))
   (.ret [(.bool true)])))))))
theorem sig_40 : sigOf Try.prog md 40 [] = some ([.sc (.sl [(.int .i64), (.int .i64), (.int .i64), (.int .i64), (.int .i64), (.int .i64), .bool]), .sc (.sl [(.int .i64), (.int .i64), (.int .i64), (.int .i64), (.int .i64), (.int .i64), .bool])], [.sc .bool], tree_40) := by kernel_rfl
/- laws.eqTurn -/
def tree_45 : T :=
(.br (.o2 .ne (.o1 (.fld 0) (.var 0)) (.o1 (.fld 0) (.var 1)))
 (.ret [(.bool false)])
 (.br (.o2 .ne (.o1 (.fld 1) (.var 0)) (.o1 (.fld 1) (.var 1)))
  (.ret [(.bool false)])
  (.br (.o2 .ne (.o1 (.fld 2) (.var 0)) (.o1 (.fld 2) (.var 1)))
   (.ret [(.bool false)])
   (.br (.o2 .ne (.o1 (.fld 3) (.var 0)) (.o1 (.fld 3) (.var 1)))
    (.ret [(.bool false)])
    (.call [] (.fn 65) [.st [(.int .i64), (.int .i64), (.int .i64), (.int .i64), (.int .i64), (.int .i64), .bool] (.o2 .cons (.o1 (.fld 4) (.var 0)) (.o2 .cons (.o1 (.fld 5) (.var 0)) (.o2 .cons (.o1 (.fld 6) (.var 0)) (.o2 .cons (.o1 (.fld 7) (.var 0)) (.o2 .cons (.o1 (.fld 8) (.var 0)) (.o2 .cons (.o1 (.fld 9) (.var 0)) (.o2 .cons (.o1 (.fld 10) (.var 0)) .nil))))))), .st [(.int .i64), (.int .i64), (.int .i64), (.int .i64), (.int .i64), (.int .i64), .bool] (.o2 .cons (.o1 (.fld 4) (.var 1)) (.o2 .cons (.o1 (.fld 5) (.var 1)) (.o2 .cons (.o1 (.fld 6) (.var 1)) (.o2 .cons (.o1 (.fld 7) (.var 1)) (.o2 .cons (.o1 (.fld 8) (.var 1)) (.o2 .cons (.o1 (.fld 9) (.var 1)) (.o2 .cons (.o1 (.fld 10) (.var 1)) .nil)))))))] [.sc .bool]
    (.br (.o1 .not (.var 2))
     (.ret [(.bool false)])
     (.call [] (.fn 40) [.sc (.sl [(.int .i64), (.int .i64), (.int .i64), (.int .i64), (.int .i64), (.int .i64), .bool]) (.o1 (.fld 11) (.var 0)), .sc (.sl [(.int .i64), (.int .i64), (.int .i64), (.int .i64), (.int .i64), (.int .i64), .bool]) (.o1 (.fld 11) (.var 1))] [.sc .bool]
     (.br (.o1 .not (.var 3))
      (.ret [(.bool false)])
      (.br (.o2 .ne (.o1 (.fld 12) (.var 0)) (.o1 (.fld 12) (.var 1)))
       (.ret [(.bool false)])
       (.br (.o2 .ne (.o1 (.fld 13) (.var 0)) (.o1 (.fld 13) (.var 1)))
        (.ret [(.bool false)])
        (.ret [(.bool true)])))))))))))
theorem sig_45 : sigOf Try.prog md 45 [] = some ([.st [(.int .i64), (.int .i64), (.int .i64), (.int .i64), (.int .i64), (.int .i64), (.int .i64), (.int .i64), (.int .i64), (.int .i64), .bool, (.sl [(.int .i64), (.int .i64), (.int .i64), (.int .i64), (.int .i64), (.int .i64), .bool]), (.int .i64), (.int .i64)], .st [(.int .i64), (.int .i64), (.int .i64), (.int .i64), (.int .i64), (.int .i64), (.int .i64), (.int .i64), (.int .i64), (.int .i64), .bool, (.sl [(.int .i64), (.int .i64), (.int .i64), (.int .i64), (.int .i64), (.int .i64), .bool]), (.int .i64), (.int .i64)]], [.sc .bool], tree_45) := by kernel_rfl
/- spec.l1In -/
def tree_55 : T :=
(.ret [(.o2 .band (.o2 .ge (.var 0) (.var 1)) (.o2 .le (.var 0) (.var 2)))])
theorem sig_55 : sigOf Try.prog md 55 [] = some ([.sc (.int .i64), .sc (.int .i64), .sc (.int .i64)], [.sc .bool], tree_55) := by kernel_rfl
/- spec.EventOk -/
def tree_73 : T :=
(.call [] (.fn 55) [.sc (.int .i64) (.o1 (.fld 2) (.var 0)), .sc (.int .i64) (.int 1), .sc (.int .i64) (.int 99)] [.sc .bool]
(.call [((.o2 .eq (.o1 (.fld 2) (.var 0)) (.int 0)), true)] (.fn 55) [.sc (.int .i64) (.o1 (.fld 3) (.var 0)), .sc (.int .i64) (.int 0), .sc (.int .i64) (.int 2)] [.sc .bool]
(.call [] (.fn 55) [.sc (.int .i64) (.o1 (.fld 4) (.var 0)), .sc (.int .i64) (.int 0), .sc (.int .i64) (.int 2147483647)] [.sc .bool]
(.br (.o1 .not (.var 3))
 (.ret [(.bool false)])
 (.br (.o2 .eq (.o1 (.fld 0) (.var 0)) (.int 1))
  (.call [] (.fn 55) [.sc (.int .i64) (.o1 (.fld 1) (.var 0)), .sc (.int .i64) (.int 1), .sc (.int .i64) (.int 99)] [.sc .bool]
  (.ret [(.o2 .band (.o2 .band (.o2 .band (.var 4) (.o2 .bor (.o2 .band (.var 1) (.o2 .eq (.o1 (.fld 3) (.var 0)) (.int (-1)))) (.o2 .band (.o2 .eq (.o1 (.fld 2) (.var 0)) (.int 0)) (.var 2)))) (.o2 .eq (.o1 (.fld 5) (.var 0)) (.int 0))) (.o1 .not (.o1 (.fld 6) (.var 0))))]))
  (.br (.o2 .eq (.o1 (.fld 0) (.var 0)) (.int 2))
   (.call [((.o2 .band (.o2 .eq (.o1 (.fld 1) (.var 0)) (.int 0)) (.o2 .band (.var 1) (.o2 .eq (.o1 (.fld 3) (.var 0)) (.int (-1))))), true)] (.fn 55) [.sc (.int .i64) (.o1 (.fld 5) (.var 0)), .sc (.int .i64) (.int 1), .sc (.int .i64) (.int 4)] [.sc .bool]
   (.ret [(.o2 .band (.o2 .band (.o2 .band (.o2 .band (.o2 .eq (.o1 (.fld 1) (.var 0)) (.int 0)) (.o2 .band (.var 1) (.o2 .eq (.o1 (.fld 3) (.var 0)) (.int (-1))))) (.var 4)) (.o2 .le (.o1 (.fld 4) (.var 0)) (.int 99))) (.o2 .bor (.o2 .eq (.o1 (.fld 5) (.var 0)) (.int 2)) (.o2 .band (.o2 .eq (.o1 (.fld 4) (.var 0)) (.int 0)) (.o1 .not (.o1 (.fld 6) (.var 0))))))]))
   (.br (.o2 .eq (.o1 (.fld 0) (.var 0)) (.int 3))
    (.br (.o2 .eq (.o1 (.fld 0) (.var 0)) (.int 3))
     (.ret [(.o2 .band (.o2 .band (.o2 .band (.o2 .eq (.o1 (.fld 1) (.var 0)) (.int 0)) (.o2 .band (.o2 .eq (.o1 (.fld 2) (.var 0)) (.int 0)) (.var 2))) (.o2 .eq (.o1 (.fld 5) (.var 0)) (.int 0))) (.o1 .not (.o1 (.fld 6) (.var 0))))])
     (.br (.o2 .eq (.o1 (.fld 0) (.var 0)) (.int 5))
      (.br (.o2 .eq (.o1 (.fld 0) (.var 0)) (.int 5))
       (.ret [(.o2 .band (.o2 .band (.o2 .band (.o2 .eq (.o1 (.fld 1) (.var 0)) (.int 0)) (.o2 .band (.var 1) (.o2 .eq (.o1 (.fld 3) (.var 0)) (.int (-1))))) (.o2 .eq (.o1 (.fld 5) (.var 0)) (.int 0))) (.o1 .not (.o1 (.fld 6) (.var 0))))])
       (.ret [(.bool false)]))
      (.br (.o2 .eq (.o1 (.fld 0) (.var 0)) (.int 6))
       (.ret [(.o2 .band (.o2 .band (.o2 .band (.o2 .eq (.o1 (.fld 1) (.var 0)) (.int 0)) (.o2 .band (.var 1) (.o2 .eq (.o1 (.fld 3) (.var 0)) (.int (-1))))) (.o2 .eq (.o1 (.fld 5) (.var 0)) (.int 0))) (.o1 .not (.o1 (.fld 6) (.var 0))))])
       (.ret [(.bool false)]))))
    (.br (.o2 .eq (.o1 (.fld 0) (.var 0)) (.int 4))
     (.ret [(.o2 .band (.o2 .band (.o2 .band (.o2 .eq (.o1 (.fld 1) (.var 0)) (.int 0)) (.o2 .band (.o2 .eq (.o1 (.fld 2) (.var 0)) (.int 0)) (.var 2))) (.o2 .eq (.o1 (.fld 5) (.var 0)) (.int 0))) (.o1 .not (.o1 (.fld 6) (.var 0))))])
     (.br (.o2 .eq (.o1 (.fld 0) (.var 0)) (.int 5))
      (.br (.o2 .eq (.o1 (.fld 0) (.var 0)) (.int 5))
       (.ret [(.o2 .band (.o2 .band (.o2 .band (.o2 .eq (.o1 (.fld 1) (.var 0)) (.int 0)) (.o2 .band (.var 1) (.o2 .eq (.o1 (.fld 3) (.var 0)) (.int (-1))))) (.o2 .eq (.o1 (.fld 5) (.var 0)) (.int 0))) (.o1 .not (.o1 (.fld 6) (.var 0))))])
       (.ret [(.bool false)]))
      (.br (.o2 .eq (.o1 (.fld 0) (.var 0)) (.int 6))
       (.ret [(.o2 .band (.o2 .band (.o2 .band (.o2 .eq (.o1 (.fld 1) (.var 0)) (.int 0)) (.o2 .band (.var 1) (.o2 .eq (.o1 (.fld 3) (.var 0)) (.int (-1))))) (.o2 .eq (.o1 (.fld 5) (.var 0)) (.int 0))) (.o1 .not (.o1 (.fld 6) (.var 0))))])
       (.ret [(.bool false)])))))))))))
theorem sig_73 : sigOf Try.prog md 73 [] = some ([.st [(.int .i64), (.int .i64), (.int .i64), (.int .i64), (.int .i64), (.int .i64), .bool]], [.sc .bool], tree_73) := by kernel_rfl
/- spec.TurnOk -/
def tree_53 : T :=
(.call [] (.fn 55) [.sc (.int .i64) (.o1 (.fld 0) (.var 0)), .sc (.int .i64) (.int 1), .sc (.int .i64) (.int 99)] [.sc .bool]
(.call [((.o1 .not (.var 1)), false)] (.fn 55) [.sc (.int .i64) (.o1 (.fld 1) (.var 0)), .sc (.int .i64) (.int 0), .sc (.int .i64) (.int 2)] [.sc .bool]
(.call [((.o2 .bor (.o1 .not (.var 1)) (.o1 .not (.var 2))), false)] (.fn 55) [.sc (.int .i64) (.o1 (.fld 3) (.var 0)), .sc (.int .i64) (.int 1), .sc (.int .i64) (.int 5)] [.sc .bool]
(.call [((.o2 .bor (.o2 .bor (.o1 .not (.var 1)) (.o1 .not (.var 2))) (.o1 .not (.var 3))), false)] (.fn 55) [.sc (.int .i64) (.o1 (.fld 2) (.var 0)), .sc (.int .i64) (.int 0), .sc (.int .i64) (.o2 (.sub .i64) (.o1 (.fld 3) (.var 0)) (.int 1))] [.sc .bool]
(.call [((.o2 .bor (.o2 .bor (.o2 .bor (.o1 .not (.var 1)) (.o1 .not (.var 2))) (.o1 .not (.var 3))) (.o1 .not (.var 4))), false)] (.fn 73) [.st [(.int .i64), (.int .i64), (.int .i64), (.int .i64), (.int .i64), (.int .i64), .bool] (.o2 .cons (.o1 (.fld 4) (.var 0)) (.o2 .cons (.o1 (.fld 5) (.var 0)) (.o2 .cons (.o1 (.fld 6) (.var 0)) (.o2 .cons (.o1 (.fld 7) (.var 0)) (.o2 .cons (.o1 (.fld 8) (.var 0)) (.o2 .cons (.o1 (.fld 9) (.var 0)) (.o2 .cons (.o1 (.fld 10) (.var 0)) .nil)))))))] [.sc .bool]
(.call [((.o2 .bor (.o2 .bor (.o2 .bor (.o2 .bor (.o2 .bor (.o1 .not (.var 1)) (.o1 .not (.var 2))) (.o1 .not (.var 3))) (.o1 .not (.var 4))) (.o1 .not (.var 5))) (.o2 .gt (.o1 .len (.o1 (.fld 11) (.var 0))) (.int 3))), false)] (.fn 55) [.sc (.int .i64) (.o1 (.fld 12) (.var 0)), .sc (.int .i64) (.int 0), .sc (.int .i64) (.int 2147483647)] [.sc .bool]
(.call [((.o2 .bor (.o2 .bor (.o2 .bor (.o2 .bor (.o2 .bor (.o2 .bor (.o1 .not (.var 1)) (.o1 .not (.var 2))) (.o1 .not (.var 3))) (.o1 .not (.var 4))) (.o1 .not (.var 5))) (.o2 .gt (.o1 .len (.o1 (.fld 11) (.var 0))) (.int 3))) (.o1 .not (.var 6))), false)] (.fn 55) [.sc (.int .i64) (.o1 (.fld 13) (.var 0)), .sc (.int .i64) (.int 0), .sc (.int .i64) (.int 4)] [.sc .bool]
(.br (.o2 .bor (.o2 .bor (.o2 .bor (.o2 .bor (.o2 .bor (.o2 .bor (.o2 .bor (.o1 .not (.var 1)) (.o1 .not (.var 2))) (.o1 .not (.var 3))) (.o1 .not (.var 4))) (.o1 .not (.var 5))) (.o2 .gt (.o1 .len (.o1 (.fld 11) (.var 0))) (.int 3))) (.o1 .not (.var 6))) (.o1 .not (.var 7)))
 (.ret [(.bool false)])
 (.loop 0 [(.int 0)]
  (.know (.o1 (.fld 11) (.var 0))
  (.br (.o2 .lt (.var 8) (.o1 .len (.o1 (.fld 11) (.var 0))))
   (.need [] (.o2 .le (.int 0) (.var 8))
   (.need [] (.o2 .lt (.var 8) (.o1 .len (.o1 (.fld 11) (.var 0))))
   (.call [] (.fn 73) [.st [(.int .i64), (.int .i64), (.int .i64), (.int .i64), (.int .i64), (.int .i64), .bool] (.o2 .cons (.o1 (.fld 0) (.o2 .idx (.o1 (.fld 11) (.var 0)) (.var 8))) (.o2 .cons (.o1 (.fld 1) (.o2 .idx (.o1 (.fld 11) (.var 0)) (.var 8))) (.o2 .cons (.o1 (.fld 2) (.o2 .idx (.o1 (.fld 11) (.var 0)) (.var 8))) (.o2 .cons (.o1 (.fld 3) (.o2 .idx (.o1 (.fld 11) (.var 0)) (.var 8))) (.o2 .cons (.o1 (.fld 4) (.o2 .idx (.o1 (.fld 11) (.var 0)) (.var 8))) (.o2 .cons (.o1 (.fld 5) (.o2 .idx (.o1 (.fld 11) (.var 0)) (.var 8))) (.o2 .cons (.o1 (.fld 6) (.o2 .idx (.o1 (.fld 11) (.var 0)) (.var 8))) .nil)))))))] [.sc .bool]
   (.br (.o1 .not (.var 9))
    (.ret [(.bool false)])
    (.cont 0 [(.o2 (.add .i64) (.var 8) (.int 1))])))))
   (.ret [(.bool true)]))))))))))))
theorem sig_53 : sigOf Try.prog md 53 [] = some ([.st [(.int .i64), (.int .i64), (.int .i64), (.int .i64), (.int .i64), (.int .i64), (.int .i64), (.int .i64), (.int .i64), (.int .i64), .bool, (.sl [(.int .i64), (.int .i64), (.int .i64), (.int .i64), (.int .i64), (.int .i64), .bool]), (.int .i64), (.int .i64)]], [.sc .bool], tree_53) := by kernel_rfl
/- impl.from -/
def tree_57 : T :=
(.ret [(.o2 .band (.o2 .ge (.var 0) (.var 1)) (.o2 .le (.var 0) (.var 2)))])
theorem sig_57 : sigOf Try.prog md 57 [] = some ([.sc (.int .i64), .sc (.int .i64), .sc (.int .i64)], [.sc .bool], tree_57) := by kernel_rfl
/- impl.isAmount -/
def tree_60 : T :=
(.call [] (.fn 57) [.sc (.int .i64) (.var 0), .sc (.int .i64) (.int 0), .sc (.int .i64) (.int 2147483647)] [.sc .bool]
(.ret [(.var 1)]))
theorem sig_60 : sigOf Try.prog md 60 [] = some ([.sc (.int .i64)], [.sc .bool], tree_60) := by kernel_rfl
/- impl.isId -/
def tree_74 : T :=
(.call [] (.fn 57) [.sc (.int .i64) (.var 0), .sc (.int .i64) (.int 1), .sc (.int .i64) (.int 99)] [.sc .bool]
(.ret [(.var 1)]))
theorem sig_74 : sigOf Try.prog md 74 [] = some ([.sc (.int .i64)], [.sc .bool], tree_74) := by kernel_rfl
/- impl.isPlayer -/
def tree_75 : T :=
(.call [] (.fn 57) [.sc (.int .i64) (.var 0), .sc (.int .i64) (.int 0), .sc (.int .i64) (.int 2)] [.sc .bool]
(.ret [(.var 1)]))
theorem sig_75 : sigOf Try.prog md 75 [] = some ([.sc (.int .i64)], [.sc .bool], tree_75) := by kernel_rfl
/- impl.onPiece -/
def tree_80 : T :=
(.call [] (.fn 74) [.sc (.int .i64) (.o1 (.fld 2) (.var 0))] [.sc .bool]
(.ret [(.o2 .band (.var 1) (.o2 .eq (.o1 (.fld 3) (.var 0)) (.int (-1))))]))
theorem sig_80 : sigOf Try.prog md 80 [] = some ([.st [(.int .i64), (.int .i64), (.int .i64), (.int .i64), (.int .i64), (.int .i64), .bool]], [.sc .bool], tree_80) := by kernel_rfl
/- impl.onPlayer -/
def tree_81 : T :=
(.call [((.o2 .eq (.o1 (.fld 2) (.var 0)) (.int 0)), true)] (.fn 75) [.sc (.int .i64) (.o1 (.fld 3) (.var 0))] [.sc .bool]
(.ret [(.o2 .band (.o2 .eq (.o1 (.fld 2) (.var 0)) (.int 0)) (.var 1))]))
theorem sig_81 : sigOf Try.prog md 81 [] = some ([.st [(.int .i64), (.int .i64), (.int .i64), (.int .i64), (.int .i64), (.int .i64), .bool]], [.sc .bool], tree_81) := by kernel_rfl
/- impl.isZone -/
def tree_82 : T :=
(.call [] (.fn 57) [.sc (.int .i64) (.var 0), .sc (.int .i64) (.int 1), .sc (.int .i64) (.int 4)] [.sc .bool]
(.ret [(.var 1)]))
theorem sig_82 : sigOf Try.prog md 82 [] = some ([.sc (.int .i64)], [.sc .bool], tree_82) := by kernel_rfl
/- impl.EventOk -/
def tree_76 : T :=
(.call [] (.fn 60) [.sc (.int .i64) (.o1 (.fld 4) (.var 0))] [.sc .bool]
(.br (.o2 .bor (.o2 .bor (.o1 .not (.var 1)) (.o2 .band (.o2 .ne (.o1 (.fld 0) (.var 0)) (.int 1)) (.o2 .ne (.o1 (.fld 1) (.var 0)) (.int 0)))) (.o2 .band (.o2 .ne (.o1 (.fld 0) (.var 0)) (.int 2)) (.o2 .bor (.o2 .ne (.o1 (.fld 5) (.var 0)) (.int 0)) (.o1 (.fld 6) (.var 0)))))
 (.ret [(.bool false)])
 (.br (.o2 .eq (.o1 (.fld 0) (.var 0)) (.int 1))
  (.call [] (.fn 74) [.sc (.int .i64) (.o1 (.fld 1) (.var 0))] [.sc .bool]
  (.call [((.var 2), true)] (.fn 80) [.st [(.int .i64), (.int .i64), (.int .i64), (.int .i64), (.int .i64), (.int .i64), .bool] (.o2 .cons (.o1 (.fld 0) (.var 0)) (.o2 .cons (.o1 (.fld 1) (.var 0)) (.o2 .cons (.o1 (.fld 2) (.var 0)) (.o2 .cons (.o1 (.fld 3) (.var 0)) (.o2 .cons (.o1 (.fld 4) (.var 0)) (.o2 .cons (.o1 (.fld 5) (.var 0)) (.o2 .cons (.o1 (.fld 6) (.var 0)) .nil)))))))] [.sc .bool]
  (.call [((.var 2), true), ((.var 3), false)] (.fn 81) [.st [(.int .i64), (.int .i64), (.int .i64), (.int .i64), (.int .i64), (.int .i64), .bool] (.o2 .cons (.o1 (.fld 0) (.var 0)) (.o2 .cons (.o1 (.fld 1) (.var 0)) (.o2 .cons (.o1 (.fld 2) (.var 0)) (.o2 .cons (.o1 (.fld 3) (.var 0)) (.o2 .cons (.o1 (.fld 4) (.var 0)) (.o2 .cons (.o1 (.fld 5) (.var 0)) (.o2 .cons (.o1 (.fld 6) (.var 0)) .nil)))))))] [.sc .bool]
  (.ret [(.o2 .band (.var 2) (.o2 .bor (.var 3) (.var 4)))]))))
  (.br (.o2 .eq (.o1 (.fld 0) (.var 0)) (.int 2))
   (.br (.o2 .eq (.o1 (.fld 5) (.var 0)) (.int 2))
    (.call [] (.fn 80) [.st [(.int .i64), (.int .i64), (.int .i64), (.int .i64), (.int .i64), (.int .i64), .bool] (.o2 .cons (.o1 (.fld 0) (.var 0)) (.o2 .cons (.o1 (.fld 1) (.var 0)) (.o2 .cons (.o1 (.fld 2) (.var 0)) (.o2 .cons (.o1 (.fld 3) (.var 0)) (.o2 .cons (.o1 (.fld 4) (.var 0)) (.o2 .cons (.o1 (.fld 5) (.var 0)) (.o2 .cons (.o1 (.fld 6) (.var 0)) .nil)))))))] [.sc .bool]
    (.ret [(.o2 .band (.var 2) (.o2 .le (.o1 (.fld 4) (.var 0)) (.int 99)))]))
    (.call [] (.fn 80) [.st [(.int .i64), (.int .i64), (.int .i64), (.int .i64), (.int .i64), (.int .i64), .bool] (.o2 .cons (.o1 (.fld 0) (.var 0)) (.o2 .cons (.o1 (.fld 1) (.var 0)) (.o2 .cons (.o1 (.fld 2) (.var 0)) (.o2 .cons (.o1 (.fld 3) (.var 0)) (.o2 .cons (.o1 (.fld 4) (.var 0)) (.o2 .cons (.o1 (.fld 5) (.var 0)) (.o2 .cons (.o1 (.fld 6) (.var 0)) .nil)))))))] [.sc .bool]
    (.call [((.var 2), true)] (.fn 82) [.sc (.int .i64) (.o1 (.fld 5) (.var 0))] [.sc .bool]
    (.ret [(.o2 .band (.o2 .band (.o2 .band (.var 2) (.var 3)) (.o2 .eq (.o1 (.fld 4) (.var 0)) (.int 0))) (.o1 .not (.o1 (.fld 6) (.var 0))))]))))
   (.br (.o2 .eq (.o1 (.fld 0) (.var 0)) (.int 3))
    (.br (.o2 .eq (.o1 (.fld 0) (.var 0)) (.int 3))
     (.call [] (.fn 81) [.st [(.int .i64), (.int .i64), (.int .i64), (.int .i64), (.int .i64), (.int .i64), .bool] (.o2 .cons (.o1 (.fld 0) (.var 0)) (.o2 .cons (.o1 (.fld 1) (.var 0)) (.o2 .cons (.o1 (.fld 2) (.var 0)) (.o2 .cons (.o1 (.fld 3) (.var 0)) (.o2 .cons (.o1 (.fld 4) (.var 0)) (.o2 .cons (.o1 (.fld 5) (.var 0)) (.o2 .cons (.o1 (.fld 6) (.var 0)) .nil)))))))] [.sc .bool]
     (.ret [(.var 2)]))
     (.br (.o2 .eq (.o1 (.fld 0) (.var 0)) (.int 5))
      (.br (.o2 .eq (.o1 (.fld 0) (.var 0)) (.int 5))
       (.call [] (.fn 80) [.st [(.int .i64), (.int .i64), (.int .i64), (.int .i64), (.int .i64), (.int .i64), .bool] (.o2 .cons (.o1 (.fld 0) (.var 0)) (.o2 .cons (.o1 (.fld 1) (.var 0)) (.o2 .cons (.o1 (.fld 2) (.var 0)) (.o2 .cons (.o1 (.fld 3) (.var 0)) (.o2 .cons (.o1 (.fld 4) (.var 0)) (.o2 .cons (.o1 (.fld 5) (.var 0)) (.o2 .cons (.o1 (.fld 6) (.var 0)) .nil)))))))] [.sc .bool]
       (.ret [(.var 2)]))
       (.ret [(.bool false)]))
      (.br (.o2 .eq (.o1 (.fld 0) (.var 0)) (.int 6))
       (.call [] (.fn 80) [.st [(.int .i64), (.int .i64), (.int .i64), (.int .i64), (.int .i64), (.int .i64), .bool] (.o2 .cons (.o1 (.fld 0) (.var 0)) (.o2 .cons (.o1 (.fld 1) (.var 0)) (.o2 .cons (.o1 (.fld 2) (.var 0)) (.o2 .cons (.o1 (.fld 3) (.var 0)) (.o2 .cons (.o1 (.fld 4) (.var 0)) (.o2 .cons (.o1 (.fld 5) (.var 0)) (.o2 .cons (.o1 (.fld 6) (.var 0)) .nil)))))))] [.sc .bool]
       (.ret [(.var 2)]))
       (.ret [(.bool false)]))))
    (.br (.o2 .eq (.o1 (.fld 0) (.var 0)) (.int 4))
     (.call [] (.fn 81) [.st [(.int .i64), (.int .i64), (.int .i64), (.int .i64), (.int .i64), (.int .i64), .bool] (.o2 .cons (.o1 (.fld 0) (.var 0)) (.o2 .cons (.o1 (.fld 1) (.var 0)) (.o2 .cons (.o1 (.fld 2) (.var 0)) (.o2 .cons (.o1 (.fld 3) (.var 0)) (.o2 .cons (.o1 (.fld 4) (.var 0)) (.o2 .cons (.o1 (.fld 5) (.var 0)) (.o2 .cons (.o1 (.fld 6) (.var 0)) .nil)))))))] [.sc .bool]
     (.ret [(.var 2)]))
     (.br (.o2 .eq (.o1 (.fld 0) (.var 0)) (.int 5))
      (.br (.o2 .eq (.o1 (.fld 0) (.var 0)) (.int 5))
       (.call [] (.fn 80) [.st [(.int .i64), (.int .i64), (.int .i64), (.int .i64), (.int .i64), (.int .i64), .bool] (.o2 .cons (.o1 (.fld 0) (.var 0)) (.o2 .cons (.o1 (.fld 1) (.var 0)) (.o2 .cons (.o1 (.fld 2) (.var 0)) (.o2 .cons (.o1 (.fld 3) (.var 0)) (.o2 .cons (.o1 (.fld 4) (.var 0)) (.o2 .cons (.o1 (.fld 5) (.var 0)) (.o2 .cons (.o1 (.fld 6) (.var 0)) .nil)))))))] [.sc .bool]
       (.ret [(.var 2)]))
       (.ret [(.bool false)]))
      (.br (.o2 .eq (.o1 (.fld 0) (.var 0)) (.int 6))
       (.call [] (.fn 80) [.st [(.int .i64), (.int .i64), (.int .i64), (.int .i64), (.int .i64), (.int .i64), .bool] (.o2 .cons (.o1 (.fld 0) (.var 0)) (.o2 .cons (.o1 (.fld 1) (.var 0)) (.o2 .cons (.o1 (.fld 2) (.var 0)) (.o2 .cons (.o1 (.fld 3) (.var 0)) (.o2 .cons (.o1 (.fld 4) (.var 0)) (.o2 .cons (.o1 (.fld 5) (.var 0)) (.o2 .cons (.o1 (.fld 6) (.var 0)) .nil)))))))] [.sc .bool]
       (.ret [(.var 2)]))
       (.ret [(.bool false)])))))))))
theorem sig_76 : sigOf Try.prog md 76 [] = some ([.st [(.int .i64), (.int .i64), (.int .i64), (.int .i64), (.int .i64), (.int .i64), .bool]], [.sc .bool], tree_76) := by kernel_rfl
/- impl.TurnOk$1 -/
def tree_78 : T :=
(.call [] (.fn 76) [.st [(.int .i64), (.int .i64), (.int .i64), (.int .i64), (.int .i64), (.int .i64), .bool] (.o2 .cons (.o1 (.fld 0) (.var 0)) (.o2 .cons (.o1 (.fld 1) (.var 0)) (.o2 .cons (.o1 (.fld 2) (.var 0)) (.o2 .cons (.o1 (.fld 3) (.var 0)) (.o2 .cons (.o1 (.fld 4) (.var 0)) (.o2 .cons (.o1 (.fld 5) (.var 0)) (.o2 .cons (.o1 (.fld 6) (.var 0)) .nil)))))))] [.sc .bool]
(.ret [(.o1 .not (.var 1))]))
theorem sig_78 : sigOf Try.prog md 78 [] = some ([.st [(.int .i64), (.int .i64), (.int .i64), (.int .i64), (.int .i64), (.int .i64), .bool]], [.sc .bool], tree_78) := by kernel_rfl
/- slices.IndexFunc[[]impl.Event,impl.Event] -/
def tree_83 : T :=
(.know (.var 0)
(.loop 0 [(.int 0)]
 (.br (.o2 .lt (.var 2) (.o1 .len (.var 0)))
  (.need [] (.o2 .le (.int 0) (.var 2))
  (.need [] (.o2 .lt (.var 2) (.o1 .len (.var 0)))
  (.call [] (.par 1) [.st [(.int .i64), (.int .i64), (.int .i64), (.int .i64), (.int .i64), (.int .i64), .bool] (.o2 .cons (.o1 (.fld 0) (.o2 .idx (.var 0) (.var 2))) (.o2 .cons (.o1 (.fld 1) (.o2 .idx (.var 0) (.var 2))) (.o2 .cons (.o1 (.fld 2) (.o2 .idx (.var 0) (.var 2))) (.o2 .cons (.o1 (.fld 3) (.o2 .idx (.var 0) (.var 2))) (.o2 .cons (.o1 (.fld 4) (.o2 .idx (.var 0) (.var 2))) (.o2 .cons (.o1 (.fld 5) (.o2 .idx (.var 0) (.var 2))) (.o2 .cons (.o1 (.fld 6) (.o2 .idx (.var 0) (.var 2))) .nil)))))))] [.sc .bool]
  (.br (.var 3)
   (.ret [(.var 2)])
   (.cont 0 [(.o2 (.add .i64) (.var 2) (.int 1))])))))
  (.ret [(.int (-1))]))))
theorem sig_83 : sigOf Try.prog md 83 [] = some ([.sc (.sl [(.int .i64), (.int .i64), (.int .i64), (.int .i64), (.int .i64), (.int .i64), .bool]), .clo], [.sc (.int .i64)], tree_83) := by kernel_rfl
/- slices.ContainsFunc[[]impl.Event,impl.Event] -/
def tree_77 : T :=
(.call [] (.fn 83) [.sc (.sl [(.int .i64), (.int .i64), (.int .i64), (.int .i64), (.int .i64), (.int .i64), .bool]) (.var 0), .clop 1] [.sc (.int .i64)]
(.ret [(.o2 .ge (.var 2) (.int 0))]))
theorem sig_77 : sigOf Try.prog md 77 [] = some ([.sc (.sl [(.int .i64), (.int .i64), (.int .i64), (.int .i64), (.int .i64), (.int .i64), .bool]), .clo], [.sc .bool], tree_77) := by kernel_rfl
/- impl.TurnOk -/
def tree_54 : T :=
(.call [] (.fn 74) [.sc (.int .i64) (.o1 (.fld 0) (.var 0))] [.sc .bool]
(.call [((.var 1), true)] (.fn 75) [.sc (.int .i64) (.o1 (.fld 1) (.var 0))] [.sc .bool]
(.call [((.o2 .band (.var 1) (.var 2)), true)] (.fn 57) [.sc (.int .i64) (.o1 (.fld 3) (.var 0)), .sc (.int .i64) (.int 1), .sc (.int .i64) (.int 5)] [.sc .bool]
(.call [((.o2 .band (.o2 .band (.var 1) (.var 2)) (.var 3)), true)] (.fn 57) [.sc (.int .i64) (.o1 (.fld 2) (.var 0)), .sc (.int .i64) (.int 0), .sc (.int .i64) (.o2 (.sub .i64) (.o1 (.fld 3) (.var 0)) (.int 1))] [.sc .bool]
(.call [((.o2 .band (.o2 .band (.o2 .band (.var 1) (.var 2)) (.var 3)) (.var 4)), true)] (.fn 60) [.sc (.int .i64) (.o1 (.fld 12) (.var 0))] [.sc .bool]
(.call [((.o2 .band (.o2 .band (.o2 .band (.o2 .band (.var 1) (.var 2)) (.var 3)) (.var 4)) (.var 5)), true)] (.fn 57) [.sc (.int .i64) (.o1 (.fld 13) (.var 0)), .sc (.int .i64) (.int 0), .sc (.int .i64) (.int 4)] [.sc .bool]
(.call [((.o2 .band (.o2 .band (.o2 .band (.o2 .band (.o2 .band (.var 1) (.var 2)) (.var 3)) (.var 4)) (.var 5)) (.var 6)), true)] (.fn 76) [.st [(.int .i64), (.int .i64), (.int .i64), (.int .i64), (.int .i64), (.int .i64), .bool] (.o2 .cons (.o1 (.fld 4) (.var 0)) (.o2 .cons (.o1 (.fld 5) (.var 0)) (.o2 .cons (.o1 (.fld 6) (.var 0)) (.o2 .cons (.o1 (.fld 7) (.var 0)) (.o2 .cons (.o1 (.fld 8) (.var 0)) (.o2 .cons (.o1 (.fld 9) (.var 0)) (.o2 .cons (.o1 (.fld 10) (.var 0)) .nil)))))))] [.sc .bool]
(.call [((.o2 .band (.o2 .band (.o2 .band (.o2 .band (.o2 .band (.o2 .band (.o2 .band (.var 1) (.var 2)) (.var 3)) (.var 4)) (.var 5)) (.var 6)) (.var 7)) (.o2 .le (.o1 .len (.o1 (.fld 11) (.var 0))) (.int 3))), true)] (.fn 77) [.sc (.sl [(.int .i64), (.int .i64), (.int .i64), (.int .i64), (.int .i64), (.int .i64), .bool]) (.o1 (.fld 11) (.var 0)), .clo 78 []] [.sc .bool]
(.ret [(.o2 .band (.o2 .band (.o2 .band (.o2 .band (.o2 .band (.o2 .band (.o2 .band (.o2 .band (.var 1) (.var 2)) (.var 3)) (.var 4)) (.var 5)) (.var 6)) (.var 7)) (.o2 .le (.o1 .len (.o1 (.fld 11) (.var 0))) (.int 3))) (.o1 .not (.var 8)))])))))))))
theorem sig_54 : sigOf Try.prog md 54 [] = some ([.st [(.int .i64), (.int .i64), (.int .i64), (.int .i64), (.int .i64), (.int .i64), (.int .i64), (.int .i64), (.int .i64), (.int .i64), .bool, (.sl [(.int .i64), (.int .i64), (.int .i64), (.int .i64), (.int .i64), (.int .i64), .bool]), (.int .i64), (.int .i64)]], [.sc .bool], tree_54) := by kernel_rfl
/- laws.FnExactTurnOk -/
def tree_14 : T :=
(.call [] (.fn 41) [.st [(.int .i64), (.int .i64), (.int .i64), (.int .i64), (.int .i64), (.int .i64), (.int .i64), (.int .i64), (.int .i64), (.int .i64), .bool, (.sl [(.int .i64), (.int .i64), (.int .i64), (.int .i64), (.int .i64), (.int .i64), .bool]), (.int .i64), (.int .i64)] (.o2 .cons (.o1 (.fld 0) (.var 0)) (.o2 .cons (.o1 (.fld 1) (.var 0)) (.o2 .cons (.o1 (.fld 2) (.var 0)) (.o2 .cons (.o1 (.fld 3) (.var 0)) (.o2 .cons (.o1 (.fld 4) (.var 0)) (.o2 .cons (.o1 (.fld 5) (.var 0)) (.o2 .cons (.o1 (.fld 6) (.var 0)) (.o2 .cons (.o1 (.fld 7) (.var 0)) (.o2 .cons (.o1 (.fld 8) (.var 0)) (.o2 .cons (.o1 (.fld 9) (.var 0)) (.o2 .cons (.o1 (.fld 10) (.var 0)) (.o2 .cons (.o1 (.fld 11) (.var 0)) (.o2 .cons (.o1 (.fld 12) (.var 0)) (.o2 .cons (.o1 (.fld 13) (.var 0)) .nil)))))))))))))), .sc (.int .i64) (.int 1048576)] [.sc (.int .i64)]
(.br (.o2 .lt (.var 1) (.int 0))
 (.ret [(.bool true)])
 (.call [] (.fn 43) [.st [(.int .i64), (.int .i64), (.int .i64), (.int .i64), (.int .i64), (.int .i64), (.int .i64), (.int .i64), (.int .i64), (.int .i64), .bool, (.sl [(.int .i64), (.int .i64), (.int .i64), (.int .i64), (.int .i64), (.int .i64), .bool]), (.int .i64), (.int .i64)] (.o2 .cons (.o1 (.fld 0) (.var 0)) (.o2 .cons (.o1 (.fld 1) (.var 0)) (.o2 .cons (.o1 (.fld 2) (.var 0)) (.o2 .cons (.o1 (.fld 3) (.var 0)) (.o2 .cons (.o1 (.fld 4) (.var 0)) (.o2 .cons (.o1 (.fld 5) (.var 0)) (.o2 .cons (.o1 (.fld 6) (.var 0)) (.o2 .cons (.o1 (.fld 7) (.var 0)) (.o2 .cons (.o1 (.fld 8) (.var 0)) (.o2 .cons (.o1 (.fld 9) (.var 0)) (.o2 .cons (.o1 (.fld 10) (.var 0)) (.o2 .cons (.o1 (.fld 11) (.var 0)) (.o2 .cons (.o1 (.fld 12) (.var 0)) (.o2 .cons (.o1 (.fld 13) (.var 0)) .nil))))))))))))))] [.st [(.int .i64), (.int .i64), (.int .i64), (.int .i64), (.int .i64), (.int .i64), (.int .i64), (.int .i64), (.int .i64), (.int .i64), .bool, (.sl [(.int .i64), (.int .i64), (.int .i64), (.int .i64), (.int .i64), (.int .i64), .bool]), (.int .i64), (.int .i64)]]
 (.call [] (.fn 53) [.st [(.int .i64), (.int .i64), (.int .i64), (.int .i64), (.int .i64), (.int .i64), (.int .i64), (.int .i64), (.int .i64), (.int .i64), .bool, (.sl [(.int .i64), (.int .i64), (.int .i64), (.int .i64), (.int .i64), (.int .i64), .bool]), (.int .i64), (.int .i64)] (.o2 .cons (.o1 (.fld 0) (.var 2)) (.o2 .cons (.o1 (.fld 1) (.var 2)) (.o2 .cons (.o1 (.fld 2) (.var 2)) (.o2 .cons (.o1 (.fld 3) (.var 2)) (.o2 .cons (.o1 (.fld 4) (.var 2)) (.o2 .cons (.o1 (.fld 5) (.var 2)) (.o2 .cons (.o1 (.fld 6) (.var 2)) (.o2 .cons (.o1 (.fld 7) (.var 2)) (.o2 .cons (.o1 (.fld 8) (.var 2)) (.o2 .cons (.o1 (.fld 9) (.var 2)) (.o2 .cons (.o1 (.fld 10) (.var 2)) (.o2 .cons (.o1 (.fld 11) (.var 2)) (.o2 .cons (.o1 (.fld 12) (.var 2)) (.o2 .cons (.o1 (.fld 13) (.var 2)) .nil))))))))))))))] [.sc .bool]
 (.call [] (.fn 43) [.st [(.int .i64), (.int .i64), (.int .i64), (.int .i64), (.int .i64), (.int .i64), (.int .i64), (.int .i64), (.int .i64), (.int .i64), .bool, (.sl [(.int .i64), (.int .i64), (.int .i64), (.int .i64), (.int .i64), (.int .i64), .bool]), (.int .i64), (.int .i64)] (.o2 .cons (.o1 (.fld 0) (.var 0)) (.o2 .cons (.o1 (.fld 1) (.var 0)) (.o2 .cons (.o1 (.fld 2) (.var 0)) (.o2 .cons (.o1 (.fld 3) (.var 0)) (.o2 .cons (.o1 (.fld 4) (.var 0)) (.o2 .cons (.o1 (.fld 5) (.var 0)) (.o2 .cons (.o1 (.fld 6) (.var 0)) (.o2 .cons (.o1 (.fld 7) (.var 0)) (.o2 .cons (.o1 (.fld 8) (.var 0)) (.o2 .cons (.o1 (.fld 9) (.var 0)) (.o2 .cons (.o1 (.fld 10) (.var 0)) (.o2 .cons (.o1 (.fld 11) (.var 0)) (.o2 .cons (.o1 (.fld 12) (.var 0)) (.o2 .cons (.o1 (.fld 13) (.var 0)) .nil))))))))))))))] [.st [(.int .i64), (.int .i64), (.int .i64), (.int .i64), (.int .i64), (.int .i64), (.int .i64), (.int .i64), (.int .i64), (.int .i64), .bool, (.sl [(.int .i64), (.int .i64), (.int .i64), (.int .i64), (.int .i64), (.int .i64), .bool]), (.int .i64), (.int .i64)]]
 (.call [] (.fn 54) [.st [(.int .i64), (.int .i64), (.int .i64), (.int .i64), (.int .i64), (.int .i64), (.int .i64), (.int .i64), (.int .i64), (.int .i64), .bool, (.sl [(.int .i64), (.int .i64), (.int .i64), (.int .i64), (.int .i64), (.int .i64), .bool]), (.int .i64), (.int .i64)] (.o2 .cons (.o1 (.fld 0) (.var 4)) (.o2 .cons (.o1 (.fld 1) (.var 4)) (.o2 .cons (.o1 (.fld 2) (.var 4)) (.o2 .cons (.o1 (.fld 3) (.var 4)) (.o2 .cons (.o1 (.fld 4) (.var 4)) (.o2 .cons (.o1 (.fld 5) (.var 4)) (.o2 .cons (.o1 (.fld 6) (.var 4)) (.o2 .cons (.o1 (.fld 7) (.var 4)) (.o2 .cons (.o1 (.fld 8) (.var 4)) (.o2 .cons (.o1 (.fld 9) (.var 4)) (.o2 .cons (.o1 (.fld 10) (.var 4)) (.o2 .cons (.o1 (.fld 11) (.var 4)) (.o2 .cons (.o1 (.fld 12) (.var 4)) (.o2 .cons (.o1 (.fld 13) (.var 4)) .nil))))))))))))))] [.sc .bool]
 (.br (.o2 .bne (.var 5) (.var 3))
  (.ret [(.bool false)])
  (.call [] (.fn 43) [.st [(.int .i64), (.int .i64), (.int .i64), (.int .i64), (.int .i64), (.int .i64), (.int .i64), (.int .i64), (.int .i64), (.int .i64), .bool, (.sl [(.int .i64), (.int .i64), (.int .i64), (.int .i64), (.int .i64), (.int .i64), .bool]), (.int .i64), (.int .i64)] (.o2 .cons (.o1 (.fld 0) (.var 0)) (.o2 .cons (.o1 (.fld 1) (.var 0)) (.o2 .cons (.o1 (.fld 2) (.var 0)) (.o2 .cons (.o1 (.fld 3) (.var 0)) (.o2 .cons (.o1 (.fld 4) (.var 0)) (.o2 .cons (.o1 (.fld 5) (.var 0)) (.o2 .cons (.o1 (.fld 6) (.var 0)) (.o2 .cons (.o1 (.fld 7) (.var 0)) (.o2 .cons (.o1 (.fld 8) (.var 0)) (.o2 .cons (.o1 (.fld 9) (.var 0)) (.o2 .cons (.o1 (.fld 10) (.var 0)) (.o2 .cons (.o1 (.fld 11) (.var 0)) (.o2 .cons (.o1 (.fld 12) (.var 0)) (.o2 .cons (.o1 (.fld 13) (.var 0)) .nil))))))))))))))] [.st [(.int .i64), (.int .i64), (.int .i64), (.int .i64), (.int .i64), (.int .i64), (.int .i64), (.int .i64), (.int .i64), (.int .i64), .bool, (.sl [(.int .i64), (.int .i64), (.int .i64), (.int .i64), (.int .i64), (.int .i64), .bool]), (.int .i64), (.int .i64)]]
  (.call [] (.fn 45) [.st [(.int .i64), (.int .i64), (.int .i64), (.int .i64), (.int .i64), (.int .i64), (.int .i64), (.int .i64), (.int .i64), (.int .i64), .bool, (.sl [(.int .i64), (.int .i64), (.int .i64), (.int .i64), (.int .i64), (.int .i64), .bool]), (.int .i64), (.int .i64)] (.o2 .cons (.o1 (.fld 0) (.var 4)) (.o2 .cons (.o1 (.fld 1) (.var 4)) (.o2 .cons (.o1 (.fld 2) (.var 4)) (.o2 .cons (.o1 (.fld 3) (.var 4)) (.o2 .cons (.o1 (.fld 4) (.var 4)) (.o2 .cons (.o1 (.fld 5) (.var 4)) (.o2 .cons (.o1 (.fld 6) (.var 4)) (.o2 .cons (.o1 (.fld 7) (.var 4)) (.o2 .cons (.o1 (.fld 8) (.var 4)) (.o2 .cons (.o1 (.fld 9) (.var 4)) (.o2 .cons (.o1 (.fld 10) (.var 4)) (.o2 .cons (.o1 (.fld 11) (.var 4)) (.o2 .cons (.o1 (.fld 12) (.var 4)) (.o2 .cons (.o1 (.fld 13) (.var 4)) .nil)))))))))))))), .st [(.int .i64), (.int .i64), (.int .i64), (.int .i64), (.int .i64), (.int .i64), (.int .i64), (.int .i64), (.int .i64), (.int .i64), .bool, (.sl [(.int .i64), (.int .i64), (.int .i64), (.int .i64), (.int .i64), (.int .i64), .bool]), (.int .i64), (.int .i64)] (.o2 .cons (.o1 (.fld 0) (.var 6)) (.o2 .cons (.o1 (.fld 1) (.var 6)) (.o2 .cons (.o1 (.fld 2) (.var 6)) (.o2 .cons (.o1 (.fld 3) (.var 6)) (.o2 .cons (.o1 (.fld 4) (.var 6)) (.o2 .cons (.o1 (.fld 5) (.var 6)) (.o2 .cons (.o1 (.fld 6) (.var 6)) (.o2 .cons (.o1 (.fld 7) (.var 6)) (.o2 .cons (.o1 (.fld 8) (.var 6)) (.o2 .cons (.o1 (.fld 9) (.var 6)) (.o2 .cons (.o1 (.fld 10) (.var 6)) (.o2 .cons (.o1 (.fld 11) (.var 6)) (.o2 .cons (.o1 (.fld 12) (.var 6)) (.o2 .cons (.o1 (.fld 13) (.var 6)) .nil))))))))))))))] [.sc .bool]
  (.br (.o1 .not (.var 7))
   (.ret [(.bool false)])
   (.ret [(.bool true)])))))))))))
theorem sig_14 : sigOf Try.prog md 14 [] = some ([.st [(.int .i64), (.int .i64), (.int .i64), (.int .i64), (.int .i64), (.int .i64), (.int .i64), (.int .i64), (.int .i64), (.int .i64), .bool, (.sl [(.int .i64), (.int .i64), (.int .i64), (.int .i64), (.int .i64), (.int .i64), .bool]), (.int .i64), (.int .i64)]], [.sc .bool], tree_14) := by kernel_rfl
theorem mix : Try.prog.follows .mixedOrders = true := by kernel_rfl
end Go.Proofs.Ytflegfieiemipaa
