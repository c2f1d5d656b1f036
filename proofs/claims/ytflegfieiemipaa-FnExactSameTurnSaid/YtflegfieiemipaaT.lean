/- The trees of the functions that this claim reaches. -/
import Derived.Test.YtflegfieiemipaaRows
import Derived.Test.YtflegfieiemipaaE6
import Derived.KernelRfl
namespace Go.Proofs.Ytflegfieiemipaa
open Go.Proofs.Ytflegfieiemipaa.Eng
def md : Modes := ⟨[(30, 0)], [], []⟩
/- laws.szEventS -/
def tree_36 : T :=
(.know (.var 0)
(.br (.o2 .lt (.o2 (.sub .i64) (.var 1) (.o1 .len (.var 0))) (.int 0))
 (.ret [(.int (-1))])
 (.ret [(.o2 (.sub .i64) (.var 1) (.o1 .len (.var 0)))])))
theorem sig_36 : sigOf Try.prog md 36 [] = some ([.sc (.sl [(.int .i64), (.int .i64), (.int .i64), (.int .i64), (.int .i64), (.int .i64), .bool]), .sc (.int .i64)], [.sc (.int .i64)], tree_36) := by kernel_rfl
/- laws.szTurn -/
def tree_41 : T :=
(.call [] (.fn 36) [.sc (.sl [(.int .i64), (.int .i64), (.int .i64), (.int .i64), (.int .i64), (.int .i64), .bool]) (.o1 (.fld 11) (.var 0)), .sc (.int .i64) (.var 1)] [.sc (.int .i64)]
(.br (.o2 .lt (.var 2) (.int 0))
 (.ret [(.int (-1))])
 (.ret [(.var 2)])))
theorem sig_41 : sigOf Try.prog md 41 [] = some ([.st [(.int .i64), (.int .i64), (.int .i64), (.int .i64), (.int .i64), (.int .i64), (.int .i64), (.int .i64), (.int .i64), (.int .i64), .bool, (.sl [(.int .i64), (.int .i64), (.int .i64), (.int .i64), (.int .i64), (.int .i64), .bool]), (.int .i64), (.int .i64)], .sc (.int .i64)], [.sc (.int .i64)], tree_41) := by kernel_rfl
/- spec.SameTurn -/
def tree_42 : T :=
(.br (.o2 .bor (.o2 .bor (.o2 .bor (.o2 .bor (.o2 .bor (.o2 .bor (.o2 .bor (.o2 .ne (.o1 (.fld 0) (.var 0)) (.o1 (.fld 0) (.var 1))) (.o2 .ne (.o1 (.fld 1) (.var 0)) (.o1 (.fld 1) (.var 1)))) (.o2 .ne (.o1 (.fld 2) (.var 0)) (.o1 (.fld 2) (.var 1)))) (.o2 .ne (.o1 (.fld 3) (.var 0)) (.o1 (.fld 3) (.var 1)))) (.o1 .not (.o2 .band (.o2 .eq (.o1 (.fld 4) (.var 0)) (.o1 (.fld 4) (.var 1))) (.o2 .band (.o2 .eq (.o1 (.fld 5) (.var 0)) (.o1 (.fld 5) (.var 1))) (.o2 .band (.o2 .eq (.o1 (.fld 6) (.var 0)) (.o1 (.fld 6) (.var 1))) (.o2 .band (.o2 .eq (.o1 (.fld 7) (.var 0)) (.o1 (.fld 7) (.var 1))) (.o2 .band (.o2 .eq (.o1 (.fld 8) (.var 0)) (.o1 (.fld 8) (.var 1))) (.o2 .band (.o2 .eq (.o1 (.fld 9) (.var 0)) (.o1 (.fld 9) (.var 1))) (.o2 .band (.o2 .beq (.o1 (.fld 10) (.var 0)) (.o1 (.fld 10) (.var 1))) (.bool true)))))))))) (.o2 .ne (.o1 (.fld 12) (.var 0)) (.o1 (.fld 12) (.var 1)))) (.o2 .ne (.o1 (.fld 13) (.var 0)) (.o1 (.fld 13) (.var 1)))) (.o2 .ne (.o1 .len (.o1 (.fld 11) (.var 0))) (.o1 .len (.o1 (.fld 11) (.var 1)))))
 (.ret [(.bool false)])
 (.loop 0 [(.int 0)]
  (.know (.o1 (.fld 11) (.var 0))
  (.br (.o2 .lt (.var 2) (.o1 .len (.o1 (.fld 11) (.var 0))))
   (.need [] (.o2 .le (.int 0) (.var 2))
   (.need [] (.o2 .lt (.var 2) (.o1 .len (.o1 (.fld 11) (.var 0))))
   (.need [] (.o2 .le (.int 0) (.var 2))
   (.need [] (.o2 .lt (.var 2) (.o1 .len (.o1 (.fld 11) (.var 1))))
   (.br (.o1 .not (.o2 .band (.o2 .eq (.o1 (.fld 0) (.o2 .idx (.o1 (.fld 11) (.var 0)) (.var 2))) (.o1 (.fld 0) (.o2 .idx (.o1 (.fld 11) (.var 1)) (.var 2)))) (.o2 .band (.o2 .eq (.o1 (.fld 1) (.o2 .idx (.o1 (.fld 11) (.var 0)) (.var 2))) (.o1 (.fld 1) (.o2 .idx (.o1 (.fld 11) (.var 1)) (.var 2)))) (.o2 .band (.o2 .eq (.o1 (.fld 2) (.o2 .idx (.o1 (.fld 11) (.var 0)) (.var 2))) (.o1 (.fld 2) (.o2 .idx (.o1 (.fld 11) (.var 1)) (.var 2)))) (.o2 .band (.o2 .eq (.o1 (.fld 3) (.o2 .idx (.o1 (.fld 11) (.var 0)) (.var 2))) (.o1 (.fld 3) (.o2 .idx (.o1 (.fld 11) (.var 1)) (.var 2)))) (.o2 .band (.o2 .eq (.o1 (.fld 4) (.o2 .idx (.o1 (.fld 11) (.var 0)) (.var 2))) (.o1 (.fld 4) (.o2 .idx (.o1 (.fld 11) (.var 1)) (.var 2)))) (.o2 .band (.o2 .eq (.o1 (.fld 5) (.o2 .idx (.o1 (.fld 11) (.var 0)) (.var 2))) (.o1 (.fld 5) (.o2 .idx (.o1 (.fld 11) (.var 1)) (.var 2)))) (.o2 .band (.o2 .beq (.o1 (.fld 6) (.o2 .idx (.o1 (.fld 11) (.var 0)) (.var 2))) (.o1 (.fld 6) (.o2 .idx (.o1 (.fld 11) (.var 1)) (.var 2)))) (.bool true)))))))))
    (.ret [(.bool false)])
    (.cont 0 [(.o2 (.add .i64) (.var 2) (.int 1))]))))))
   (.ret [(.bool true)])))))
theorem sig_42 : sigOf Try.prog md 42 [] = some ([.st [(.int .i64), (.int .i64), (.int .i64), (.int .i64), (.int .i64), (.int .i64), (.int .i64), (.int .i64), (.int .i64), (.int .i64), .bool, (.sl [(.int .i64), (.int .i64), (.int .i64), (.int .i64), (.int .i64), (.int .i64), .bool]), (.int .i64), (.int .i64)], .st [(.int .i64), (.int .i64), (.int .i64), (.int .i64), (.int .i64), (.int .i64), (.int .i64), (.int .i64), (.int .i64), (.int .i64), .bool, (.sl [(.int .i64), (.int .i64), (.int .i64), (.int .i64), (.int .i64), (.int .i64), .bool]), (.int .i64), (.int .i64)]], [.sc .bool], tree_42) := by kernel_rfl
/- laws.toEvent -/
def tree_16 : T :=
(.ret [(.o2 .cons (.o1 (.fld 0) (.var 0)) (.o2 .cons (.o1 (.fld 1) (.var 0)) (.o2 .cons (.o1 (.fld 2) (.var 0)) (.o2 .cons (.o1 (.fld 3) (.var 0)) (.o2 .cons (.o1 (.fld 4) (.var 0)) (.o2 .cons (.o1 (.fld 5) (.var 0)) (.o2 .cons (.o1 (.fld 6) (.var 0)) .nil)))))))])
theorem sig_16 : sigOf Try.prog md 16 [] = some ([.st [(.int .i64), (.int .i64), (.int .i64), (.int .i64), (.int .i64), (.int .i64), .bool]], [.st [(.int .i64), (.int .i64), (.int .i64), (.int .i64), (.int .i64), (.int .i64), .bool]], tree_16) := by kernel_rfl
/- laws.toEventS -/
def tree_38 : T :=
(.know (.var 0)
(.need [] (.o2 .le (.int 0) (.o1 .len (.var 0)))
(.need [] (.o2 (.fits 56) (.o1 .len (.var 0)) (.int 0))
(.loop 0 [(.int 0), (.o2 .rep (.o1 .len (.var 0)) (.o2 .cons (.int 0) (.o2 .cons (.int 0) (.o2 .cons (.int 0) (.o2 .cons (.int 0) (.o2 .cons (.int 0) (.o2 .cons (.int 0) (.o2 .cons (.bool false) .nil))))))))]
 (.know (.var 0)
 (.br (.o2 .lt (.var 1) (.o1 .len (.var 0)))
  (.need [] (.o2 .le (.int 0) (.var 1))
  (.need [] (.o2 .lt (.var 1) (.o1 .len (.var 0)))
  (.call [] (.fn 16) [.st [(.int .i64), (.int .i64), (.int .i64), (.int .i64), (.int .i64), (.int .i64), .bool] (.o2 .cons (.o1 (.fld 0) (.o2 .idx (.var 0) (.var 1))) (.o2 .cons (.o1 (.fld 1) (.o2 .idx (.var 0) (.var 1))) (.o2 .cons (.o1 (.fld 2) (.o2 .idx (.var 0) (.var 1))) (.o2 .cons (.o1 (.fld 3) (.o2 .idx (.var 0) (.var 1))) (.o2 .cons (.o1 (.fld 4) (.o2 .idx (.var 0) (.var 1))) (.o2 .cons (.o1 (.fld 5) (.o2 .idx (.var 0) (.var 1))) (.o2 .cons (.o1 (.fld 6) (.o2 .idx (.var 0) (.var 1))) .nil)))))))] [.st [(.int .i64), (.int .i64), (.int .i64), (.int .i64), (.int .i64), (.int .i64), .bool]]
  (.need [] (.o2 .le (.int 0) (.var 1))
  (.need [] (.o2 .lt (.var 1) (.o1 .len (.var 2)))
  (.cont 0 [(.o2 (.add .i64) (.var 1) (.int 1)), (.o3 .setE (.var 2) (.var 1) (.o2 .cons (.o1 (.fld 0) (.var 3)) (.o2 .cons (.o1 (.fld 1) (.var 3)) (.o2 .cons (.o1 (.fld 2) (.var 3)) (.o2 .cons (.o1 (.fld 3) (.var 3)) (.o2 .cons (.o1 (.fld 4) (.var 3)) (.o2 .cons (.o1 (.fld 5) (.var 3)) (.o2 .cons (.o1 (.fld 6) (.var 3)) .nil))))))))]))))))
  (.ret [(.var 2)])))))))
theorem sig_38 : sigOf Try.prog md 38 [] = some ([.sc (.sl [(.int .i64), (.int .i64), (.int .i64), (.int .i64), (.int .i64), (.int .i64), .bool])], [.sc (.sl [(.int .i64), (.int .i64), (.int .i64), (.int .i64), (.int .i64), (.int .i64), .bool])], tree_38) := by kernel_rfl
/- laws.toTurn -/
def tree_43 : T :=
(.call [] (.fn 16) [.st [(.int .i64), (.int .i64), (.int .i64), (.int .i64), (.int .i64), (.int .i64), .bool] (.o2 .cons (.o1 (.fld 4) (.var 0)) (.o2 .cons (.o1 (.fld 5) (.var 0)) (.o2 .cons (.o1 (.fld 6) (.var 0)) (.o2 .cons (.o1 (.fld 7) (.var 0)) (.o2 .cons (.o1 (.fld 8) (.var 0)) (.o2 .cons (.o1 (.fld 9) (.var 0)) (.o2 .cons (.o1 (.fld 10) (.var 0)) .nil)))))))] [.st [(.int .i64), (.int .i64), (.int .i64), (.int .i64), (.int .i64), (.int .i64), .bool]]
(.call [] (.fn 38) [.sc (.sl [(.int .i64), (.int .i64), (.int .i64), (.int .i64), (.int .i64), (.int .i64), .bool]) (.o1 (.fld 11) (.var 0))] [.sc (.sl [(.int .i64), (.int .i64), (.int .i64), (.int .i64), (.int .i64), (.int .i64), .bool])]
(.ret [(.o2 .cons (.o1 (.fld 0) (.var 0)) (.o2 .cons (.o1 (.fld 1) (.var 0)) (.o2 .cons (.o1 (.fld 2) (.var 0)) (.o2 .cons (.o1 (.fld 3) (.var 0)) (.o2 .cons (.o1 (.fld 0) (.var 1)) (.o2 .cons (.o1 (.fld 1) (.var 1)) (.o2 .cons (.o1 (.fld 2) (.var 1)) (.o2 .cons (.o1 (.fld 3) (.var 1)) (.o2 .cons (.o1 (.fld 4) (.var 1)) (.o2 .cons (.o1 (.fld 5) (.var 1)) (.o2 .cons (.o1 (.fld 6) (.var 1)) (.o2 .cons (.var 2) (.o2 .cons (.o1 (.fld 12) (.var 0)) (.o2 .cons (.o1 (.fld 13) (.var 0)) .nil))))))))))))))])))
theorem sig_43 : sigOf Try.prog md 43 [] = some ([.st [(.int .i64), (.int .i64), (.int .i64), (.int .i64), (.int .i64), (.int .i64), (.int .i64), (.int .i64), (.int .i64), (.int .i64), .bool, (.sl [(.int .i64), (.int .i64), (.int .i64), (.int .i64), (.int .i64), (.int .i64), .bool]), (.int .i64), (.int .i64)]], [.st [(.int .i64), (.int .i64), (.int .i64), (.int .i64), (.int .i64), (.int .i64), (.int .i64), (.int .i64), (.int .i64), (.int .i64), .bool, (.sl [(.int .i64), (.int .i64), (.int .i64), (.int .i64), (.int .i64), (.int .i64), .bool]), (.int .i64), (.int .i64)]], tree_43) := by kernel_rfl
/- slices.Equal[[]impl.Event,impl.Event] -/
def tree_66 : T :=
(.know (.var 0)
(.know (.var 1)
(.br (.o2 .ne (.o1 .len (.var 0)) (.o1 .len (.var 1)))
 (.ret [(.bool false)])
 (.know (.var 0)
 (.loop 0 [(.int 0)]
  (.br (.o2 .lt (.var 2) (.o1 .len (.var 0)))
   (.need [] (.o2 .le (.int 0) (.var 2))
   (.need [] (.o2 .lt (.var 2) (.o1 .len (.var 0)))
   (.need [] (.o2 .le (.int 0) (.var 2))
   (.need [] (.o2 .lt (.var 2) (.o1 .len (.var 1)))
   (.br (.o1 .not (.o2 .band (.o2 .eq (.o1 (.fld 0) (.o2 .idx (.var 0) (.var 2))) (.o1 (.fld 0) (.o2 .idx (.var 1) (.var 2)))) (.o2 .band (.o2 .eq (.o1 (.fld 1) (.o2 .idx (.var 0) (.var 2))) (.o1 (.fld 1) (.o2 .idx (.var 1) (.var 2)))) (.o2 .band (.o2 .eq (.o1 (.fld 2) (.o2 .idx (.var 0) (.var 2))) (.o1 (.fld 2) (.o2 .idx (.var 1) (.var 2)))) (.o2 .band (.o2 .eq (.o1 (.fld 3) (.o2 .idx (.var 0) (.var 2))) (.o1 (.fld 3) (.o2 .idx (.var 1) (.var 2)))) (.o2 .band (.o2 .eq (.o1 (.fld 4) (.o2 .idx (.var 0) (.var 2))) (.o1 (.fld 4) (.o2 .idx (.var 1) (.var 2)))) (.o2 .band (.o2 .eq (.o1 (.fld 5) (.o2 .idx (.var 0) (.var 2))) (.o1 (.fld 5) (.o2 .idx (.var 1) (.var 2)))) (.o2 .band (.o2 .beq (.o1 (.fld 6) (.o2 .idx (.var 0) (.var 2))) (.o1 (.fld 6) (.o2 .idx (.var 1) (.var 2)))) (.bool true)))))))))
    (.ret [(.bool false)])
    (.cont 0 [(.o2 (.add .i64) (.var 2) (.int 1))]))))))
   (.ret [(.bool true)])))))))
theorem sig_66 : sigOf Try.prog md 66 [] = some ([.sc (.sl [(.int .i64), (.int .i64), (.int .i64), (.int .i64), (.int .i64), (.int .i64), .bool]), .sc (.sl [(.int .i64), (.int .i64), (.int .i64), (.int .i64), (.int .i64), (.int .i64), .bool])], [.sc .bool], tree_66) := by kernel_rfl
/- impl.SameTurn -/
def tree_44 : T :=
(.call [((.o2 .band (.o2 .band (.o2 .band (.o2 .band (.o2 .eq (.o1 (.fld 0) (.var 0)) (.o1 (.fld 0) (.var 1))) (.o2 .eq (.o1 (.fld 1) (.var 0)) (.o1 (.fld 1) (.var 1)))) (.o2 .eq (.o1 (.fld 2) (.var 0)) (.o1 (.fld 2) (.var 1)))) (.o2 .eq (.o1 (.fld 3) (.var 0)) (.o1 (.fld 3) (.var 1)))) (.o2 .band (.o2 .eq (.o1 (.fld 4) (.var 0)) (.o1 (.fld 4) (.var 1))) (.o2 .band (.o2 .eq (.o1 (.fld 5) (.var 0)) (.o1 (.fld 5) (.var 1))) (.o2 .band (.o2 .eq (.o1 (.fld 6) (.var 0)) (.o1 (.fld 6) (.var 1))) (.o2 .band (.o2 .eq (.o1 (.fld 7) (.var 0)) (.o1 (.fld 7) (.var 1))) (.o2 .band (.o2 .eq (.o1 (.fld 8) (.var 0)) (.o1 (.fld 8) (.var 1))) (.o2 .band (.o2 .eq (.o1 (.fld 9) (.var 0)) (.o1 (.fld 9) (.var 1))) (.o2 .band (.o2 .beq (.o1 (.fld 10) (.var 0)) (.o1 (.fld 10) (.var 1))) (.bool true))))))))), true)] (.fn 66) [.sc (.sl [(.int .i64), (.int .i64), (.int .i64), (.int .i64), (.int .i64), (.int .i64), .bool]) (.o1 (.fld 11) (.var 0)), .sc (.sl [(.int .i64), (.int .i64), (.int .i64), (.int .i64), (.int .i64), (.int .i64), .bool]) (.o1 (.fld 11) (.var 1))] [.sc .bool]
(.ret [(.o2 .band (.o2 .band (.o2 .band (.o2 .band (.o2 .band (.o2 .band (.o2 .band (.o2 .eq (.o1 (.fld 0) (.var 0)) (.o1 (.fld 0) (.var 1))) (.o2 .eq (.o1 (.fld 1) (.var 0)) (.o1 (.fld 1) (.var 1)))) (.o2 .eq (.o1 (.fld 2) (.var 0)) (.o1 (.fld 2) (.var 1)))) (.o2 .eq (.o1 (.fld 3) (.var 0)) (.o1 (.fld 3) (.var 1)))) (.o2 .band (.o2 .eq (.o1 (.fld 4) (.var 0)) (.o1 (.fld 4) (.var 1))) (.o2 .band (.o2 .eq (.o1 (.fld 5) (.var 0)) (.o1 (.fld 5) (.var 1))) (.o2 .band (.o2 .eq (.o1 (.fld 6) (.var 0)) (.o1 (.fld 6) (.var 1))) (.o2 .band (.o2 .eq (.o1 (.fld 7) (.var 0)) (.o1 (.fld 7) (.var 1))) (.o2 .band (.o2 .eq (.o1 (.fld 8) (.var 0)) (.o1 (.fld 8) (.var 1))) (.o2 .band (.o2 .eq (.o1 (.fld 9) (.var 0)) (.o1 (.fld 9) (.var 1))) (.o2 .band (.o2 .beq (.o1 (.fld 10) (.var 0)) (.o1 (.fld 10) (.var 1))) (.bool true))))))))) (.var 2)) (.o2 .eq (.o1 (.fld 12) (.var 0)) (.o1 (.fld 12) (.var 1)))) (.o2 .eq (.o1 (.fld 13) (.var 0)) (.o1 (.fld 13) (.var 1))))]))
theorem sig_44 : sigOf Try.prog md 44 [] = some ([.st [(.int .i64), (.int .i64), (.int .i64), (.int .i64), (.int .i64), (.int .i64), (.int .i64), (.int .i64), (.int .i64), (.int .i64), .bool, (.sl [(.int .i64), (.int .i64), (.int .i64), (.int .i64), (.int .i64), (.int .i64), .bool]), (.int .i64), (.int .i64)], .st [(.int .i64), (.int .i64), (.int .i64), (.int .i64), (.int .i64), (.int .i64), (.int .i64), (.int .i64), (.int .i64), (.int .i64), .bool, (.sl [(.int .i64), (.int .i64), (.int .i64), (.int .i64), (.int .i64), (.int .i64), .bool]), (.int .i64), (.int .i64)]], [.sc .bool], tree_44) := by kernel_rfl
/- laws.eqEvent -/
def tree_65 : T :=
(.br (.o2 .ne (.o1 (.fld 0) (.var 0)) (.o1 (.fld 0) (.var 1)))
 (.ret [(.bool false)])
 (.br (.o2 .ne (.o1 (.fld 1) (.var 0)) (.o1 (.fld 1) (.var 1)))
  (.ret [(.bool false)])
  (.br (.o2 .ne (.o1 (.fld 2) (.var 0)) (.o1 (.fld 2) (.var 1)))
   (.ret [(.bool false)])
   (.br (.o2 .ne (.o1 (.fld 3) (.var 0)) (.o1 (.fld 3) (.var 1)))
    (.ret [(.bool false)])
    (.br (.o2 .ne (.o1 (.fld 4) (.var 0)) (.o1 (.fld 4) (.var 1)))
     (.ret [(.bool false)])
     (.br (.o2 .ne (.o1 (.fld 5) (.var 0)) (.o1 (.fld 5) (.var 1)))
      (.ret [(.bool false)])
      (.br (.o2 .bne (.o1 (.fld 6) (.var 0)) (.o1 (.fld 6) (.var 1)))
       (.ret [(.bool false)])
       (.ret [(.bool true)]))))))))
theorem sig_65 : sigOf Try.prog md 65 [] = some ([.st [(.int .i64), (.int .i64), (.int .i64), (.int .i64), (.int .i64), (.int .i64), .bool], .st [(.int .i64), (.int .i64), (.int .i64), (.int .i64), (.int .i64), (.int .i64), .bool]], [.sc .bool], tree_65) := by kernel_rfl
/- laws.eqEventS -/
def tree_40 : T :=
(.know (.var 0)
(.know (.var 1)
(.br (.o2 .ne (.o1 .len (.var 0)) (.o1 .len (.var 1)))
 (.ret [(.bool false)])
 (.loop 0 [(.int 0)]
  (.know (.var 0)
  (.br (.o2 .lt (.var 2) (.o1 .len (.var 0)))
   (.need [] (.o2 .le (.int 0) (.var 2))
   (.need [] (.o2 .lt (.var 2) (.o1 .len (.var 0)))
   (.need [] (.o2 .le (.int 0) (.var 2))
   (.need [] (.o2 .lt (.var 2) (.o1 .len (.var 1)))
   (.call [] (.fn 65) [.st [(.int .i64), (.int .i64), (.int .i64), (.int .i64), (.int .i64), (.int .i64), .bool] (.o2 .cons (.o1 (.fld 0) (.o2 .idx (.var 0) (.var 2))) (.o2 .cons (.o1 (.fld 1) (.o2 .idx (.var 0) (.var 2))) (.o2 .cons (.o1 (.fld 2) (.o2 .idx (.var 0) (.var 2))) (.o2 .cons (.o1 (.fld 3) (.o2 .idx (.var 0) (.var 2))) (.o2 .cons (.o1 (.fld 4) (.o2 .idx (.var 0) (.var 2))) (.o2 .cons (.o1 (.fld 5) (.o2 .idx (.var 0) (.var 2))) (.o2 .cons (.o1 (.fld 6) (.o2 .idx (.var 0) (.var 2))) .nil))))))), .st [(.int .i64), (.int .i64), (.int .i64), (.int .i64), (.int .i64), (.int .i64), .bool] (.o2 .cons (.o1 (.fld 0) (.o2 .idx (.var 1) (.var 2))) (.o2 .cons (.o1 (.fld 1) (.o2 .idx (.var 1) (.var 2))) (.o2 .cons (.o1 (.fld 2) (.o2 .idx (.var 1) (.var 2))) (.o2 .cons (.o1 (.fld 3) (.o2 .idx (.var 1) (.var 2))) (.o2 .cons (.o1 (.fld 4) (.o2 .idx (.var 1) (.var 2))) (.o2 .cons (.o1 (.fld 5) (.o2 .idx (.var 1) (.var 2))) (.o2 .cons (.o1 (.fld 6) (.o2 .idx (.var 1) (.var 2))) .nil)))))))] [.sc .bool]
   (.br (.o1 .not (.var 3))
    (.ret [(.bool false)])
    (.cont 0 [(.o2 (.add .i64) (.var 2) (.int 1))])))))))
   (.ret [(.bool true)])))))))
theorem sig_40 : sigOf Try.prog md 40 [] = some ([.sc (.sl [(.int .i64), (.int .i64), (.int .i64), (.int .i64), (.int .i64), (.int .i64), .bool]), .sc (.sl [(.int .i64), (.int .i64), (.int .i64), (.int .i64), (.int .i64), (.int .i64), .bool])], [.sc .bool], tree_40) := by kernel_rfl
/- laws.eqTurn -/
def tree_45 : T :=
(.br (.o2 .ne (.o1 (.fld 0) (.var 0)) (.o1 (.fld 0) (.var 1)))
 (.ret [(.bool false)])
 (.br (.o2 .ne (.o1 (.fld 1) (.var 0)) (.o1 (.fld 1) (.var 1)))
  (.ret [(.bool false)])
  (.br (.o2 .ne (.o1 (.fld 2) (.var 0)) (.o1 (.fld 2) (.var 1)))
   (.ret [(.bool false)])
   (.br (.o2 .ne (.o1 (.fld 3) (.var 0)) (.o1 (.fld 3) (.var 1)))
    (.ret [(.bool false)])
    (.call [] (.fn 65) [.st [(.int .i64), (.int .i64), (.int .i64), (.int .i64), (.int .i64), (.int .i64), .bool] (.o2 .cons (.o1 (.fld 4) (.var 0)) (.o2 .cons (.o1 (.fld 5) (.var 0)) (.o2 .cons (.o1 (.fld 6) (.var 0)) (.o2 .cons (.o1 (.fld 7) (.var 0)) (.o2 .cons (.o1 (.fld 8) (.var 0)) (.o2 .cons (.o1 (.fld 9) (.var 0)) (.o2 .cons (.o1 (.fld 10) (.var 0)) .nil))))))), .st [(.int .i64), (.int .i64), (.int .i64), (.int .i64), (.int .i64), (.int .i64), .bool] (.o2 .cons (.o1 (.fld 4) (.var 1)) (.o2 .cons (.o1 (.fld 5) (.var 1)) (.o2 .cons (.o1 (.fld 6) (.var 1)) (.o2 .cons (.o1 (.fld 7) (.var 1)) (.o2 .cons (.o1 (.fld 8) (.var 1)) (.o2 .cons (.o1 (.fld 9) (.var 1)) (.o2 .cons (.o1 (.fld 10) (.var 1)) .nil)))))))] [.sc .bool]
    (.br (.o1 .not (.var 2))
     (.ret [(.bool false)])
     (.call [] (.fn 40) [.sc (.sl [(.int .i64), (.int .i64), (.int .i64), (.int .i64), (.int .i64), (.int .i64), .bool]) (.o1 (.fld 11) (.var 0)), .sc (.sl [(.int .i64), (.int .i64), (.int .i64), (.int .i64), (.int .i64), (.int .i64), .bool]) (.o1 (.fld 11) (.var 1))] [.sc .bool]
     (.br (.o1 .not (.var 3))
      (.ret [(.bool false)])
      (.br (.o2 .ne (.o1 (.fld 12) (.var 0)) (.o1 (.fld 12) (.var 1)))
       (.ret [(.bool false)])
       (.br (.o2 .ne (.o1 (.fld 13) (.var 0)) (.o1 (.fld 13) (.var 1)))
        (.ret [(.bool false)])
        (.ret [(.bool true)])))))))))))
theorem sig_45 : sigOf Try.prog md 45 [] = some ([.st [(.int .i64), (.int .i64), (.int .i64), (.int .i64), (.int .i64), (.int .i64), (.int .i64), (.int .i64), (.int .i64), (.int .i64), .bool, (.sl [(.int .i64), (.int .i64), (.int .i64), (.int .i64), (.int .i64), (.int .i64), .bool]), (.int .i64), (.int .i64)], .st [(.int .i64), (.int .i64), (.int .i64), (.int .i64), (.int .i64), (.int .i64), (.int .i64), (.int .i64), (.int .i64), (.int .i64), .bool, (.sl [(.int .i64), (.int .i64), (.int .i64), (.int .i64), (.int .i64), (.int .i64), .bool]), (.int .i64), (.int .i64)]], [.sc .bool], tree_45) := by kernel_rfl
/- laws.FnExactSameTurn -/
def tree_11 : T :=
(.call [] (.fn 41) [.st [(.int .i64), (.int .i64), (.int .i64), (.int .i64), (.int .i64), (.int .i64), (.int .i64), (.int .i64), (.int .i64), (.int .i64), .bool, (.sl [(.int .i64), (.int .i64), (.int .i64), (.int .i64), (.int .i64), (.int .i64), .bool]), (.int .i64), (.int .i64)] (.o2 .cons (.o1 (.fld 0) (.var 0)) (.o2 .cons (.o1 (.fld 1) (.var 0)) (.o2 .cons (.o1 (.fld 2) (.var 0)) (.o2 .cons (.o1 (.fld 3) (.var 0)) (.o2 .cons (.o1 (.fld 4) (.var 0)) (.o2 .cons (.o1 (.fld 5) (.var 0)) (.o2 .cons (.o1 (.fld 6) (.var 0)) (.o2 .cons (.o1 (.fld 7) (.var 0)) (.o2 .cons (.o1 (.fld 8) (.var 0)) (.o2 .cons (.o1 (.fld 9) (.var 0)) (.o2 .cons (.o1 (.fld 10) (.var 0)) (.o2 .cons (.o1 (.fld 11) (.var 0)) (.o2 .cons (.o1 (.fld 12) (.var 0)) (.o2 .cons (.o1 (.fld 13) (.var 0)) .nil)))))))))))))), .sc (.int .i64) (.int 1048576)] [.sc (.int .i64)]
(.br (.o2 .lt (.var 2) (.int 0))
 (.ret [(.bool true)])
 (.call [] (.fn 41) [.st [(.int .i64), (.int .i64), (.int .i64), (.int .i64), (.int .i64), (.int .i64), (.int .i64), (.int .i64), (.int .i64), (.int .i64), .bool, (.sl [(.int .i64), (.int .i64), (.int .i64), (.int .i64), (.int .i64), (.int .i64), .bool]), (.int .i64), (.int .i64)] (.o2 .cons (.o1 (.fld 0) (.var 1)) (.o2 .cons (.o1 (.fld 1) (.var 1)) (.o2 .cons (.o1 (.fld 2) (.var 1)) (.o2 .cons (.o1 (.fld 3) (.var 1)) (.o2 .cons (.o1 (.fld 4) (.var 1)) (.o2 .cons (.o1 (.fld 5) (.var 1)) (.o2 .cons (.o1 (.fld 6) (.var 1)) (.o2 .cons (.o1 (.fld 7) (.var 1)) (.o2 .cons (.o1 (.fld 8) (.var 1)) (.o2 .cons (.o1 (.fld 9) (.var 1)) (.o2 .cons (.o1 (.fld 10) (.var 1)) (.o2 .cons (.o1 (.fld 11) (.var 1)) (.o2 .cons (.o1 (.fld 12) (.var 1)) (.o2 .cons (.o1 (.fld 13) (.var 1)) .nil)))))))))))))), .sc (.int .i64) (.var 2)] [.sc (.int .i64)]
 (.br (.o2 .lt (.var 3) (.int 0))
  (.ret [(.bool true)])
  (.call [] (.fn 43) [.st [(.int .i64), (.int .i64), (.int .i64), (.int .i64), (.int .i64), (.int .i64), (.int .i64), (.int .i64), (.int .i64), (.int .i64), .bool, (.sl [(.int .i64), (.int .i64), (.int .i64), (.int .i64), (.int .i64), (.int .i64), .bool]), (.int .i64), (.int .i64)] (.o2 .cons (.o1 (.fld 0) (.var 0)) (.o2 .cons (.o1 (.fld 1) (.var 0)) (.o2 .cons (.o1 (.fld 2) (.var 0)) (.o2 .cons (.o1 (.fld 3) (.var 0)) (.o2 .cons (.o1 (.fld 4) (.var 0)) (.o2 .cons (.o1 (.fld 5) (.var 0)) (.o2 .cons (.o1 (.fld 6) (.var 0)) (.o2 .cons (.o1 (.fld 7) (.var 0)) (.o2 .cons (.o1 (.fld 8) (.var 0)) (.o2 .cons (.o1 (.fld 9) (.var 0)) (.o2 .cons (.o1 (.fld 10) (.var 0)) (.o2 .cons (.o1 (.fld 11) (.var 0)) (.o2 .cons (.o1 (.fld 12) (.var 0)) (.o2 .cons (.o1 (.fld 13) (.var 0)) .nil))))))))))))))] [.st [(.int .i64), (.int .i64), (.int .i64), (.int .i64), (.int .i64), (.int .i64), (.int .i64), (.int .i64), (.int .i64), (.int .i64), .bool, (.sl [(.int .i64), (.int .i64), (.int .i64), (.int .i64), (.int .i64), (.int .i64), .bool]), (.int .i64), (.int .i64)]]
  (.call [] (.fn 43) [.st [(.int .i64), (.int .i64), (.int .i64), (.int .i64), (.int .i64), (.int .i64), (.int .i64), (.int .i64), (.int .i64), (.int .i64), .bool, (.sl [(.int .i64), (.int .i64), (.int .i64), (.int .i64), (.int .i64), (.int .i64), .bool]), (.int .i64), (.int .i64)] (.o2 .cons (.o1 (.fld 0) (.var 1)) (.o2 .cons (.o1 (.fld 1) (.var 1)) (.o2 .cons (.o1 (.fld 2) (.var 1)) (.o2 .cons (.o1 (.fld 3) (.var 1)) (.o2 .cons (.o1 (.fld 4) (.var 1)) (.o2 .cons (.o1 (.fld 5) (.var 1)) (.o2 .cons (.o1 (.fld 6) (.var 1)) (.o2 .cons (.o1 (.fld 7) (.var 1)) (.o2 .cons (.o1 (.fld 8) (.var 1)) (.o2 .cons (.o1 (.fld 9) (.var 1)) (.o2 .cons (.o1 (.fld 10) (.var 1)) (.o2 .cons (.o1 (.fld 11) (.var 1)) (.o2 .cons (.o1 (.fld 12) (.var 1)) (.o2 .cons (.o1 (.fld 13) (.var 1)) .nil))))))))))))))] [.st [(.int .i64), (.int .i64), (.int .i64), (.int .i64), (.int .i64), (.int .i64), (.int .i64), (.int .i64), (.int .i64), (.int .i64), .bool, (.sl [(.int .i64), (.int .i64), (.int .i64), (.int .i64), (.int .i64), (.int .i64), .bool]), (.int .i64), (.int .i64)]]
  (.call [] (.fn 42) [.st [(.int .i64), (.int .i64), (.int .i64), (.int .i64), (.int .i64), (.int .i64), (.int .i64), (.int .i64), (.int .i64), (.int .i64), .bool, (.sl [(.int .i64), (.int .i64), (.int .i64), (.int .i64), (.int .i64), (.int .i64), .bool]), (.int .i64), (.int .i64)] (.o2 .cons (.o1 (.fld 0) (.var 4)) (.o2 .cons (.o1 (.fld 1) (.var 4)) (.o2 .cons (.o1 (.fld 2) (.var 4)) (.o2 .cons (.o1 (.fld 3) (.var 4)) (.o2 .cons (.o1 (.fld 4) (.var 4)) (.o2 .cons (.o1 (.fld 5) (.var 4)) (.o2 .cons (.o1 (.fld 6) (.var 4)) (.o2 .cons (.o1 (.fld 7) (.var 4)) (.o2 .cons (.o1 (.fld 8) (.var 4)) (.o2 .cons (.o1 (.fld 9) (.var 4)) (.o2 .cons (.o1 (.fld 10) (.var 4)) (.o2 .cons (.o1 (.fld 11) (.var 4)) (.o2 .cons (.o1 (.fld 12) (.var 4)) (.o2 .cons (.o1 (.fld 13) (.var 4)) .nil)))))))))))))), .st [(.int .i64), (.int .i64), (.int .i64), (.int .i64), (.int .i64), (.int .i64), (.int .i64), (.int .i64), (.int .i64), (.int .i64), .bool, (.sl [(.int .i64), (.int .i64), (.int .i64), (.int .i64), (.int .i64), (.int .i64), .bool]), (.int .i64), (.int .i64)] (.o2 .cons (.o1 (.fld 0) (.var 5)) (.o2 .cons (.o1 (.fld 1) (.var 5)) (.o2 .cons (.o1 (.fld 2) (.var 5)) (.o2 .cons (.o1 (.fld 3) (.var 5)) (.o2 .cons (.o1 (.fld 4) (.var 5)) (.o2 .cons (.o1 (.fld 5) (.var 5)) (.o2 .cons (.o1 (.fld 6) (.var 5)) (.o2 .cons (.o1 (.fld 7) (.var 5)) (.o2 .cons (.o1 (.fld 8) (.var 5)) (.o2 .cons (.o1 (.fld 9) (.var 5)) (.o2 .cons (.o1 (.fld 10) (.var 5)) (.o2 .cons (.o1 (.fld 11) (.var 5)) (.o2 .cons (.o1 (.fld 12) (.var 5)) (.o2 .cons (.o1 (.fld 13) (.var 5)) .nil))))))))))))))] [.sc .bool]
  (.call [] (.fn 43) [.st [(.int .i64), (.int .i64), (.int .i64), (.int .i64), (.int .i64), (.int .i64), (.int .i64), (.int .i64), (.int .i64), (.int .i64), .bool, (.sl [(.int .i64), (.int .i64), (.int .i64), (.int .i64), (.int .i64), (.int .i64), .bool]), (.int .i64), (.int .i64)] (.o2 .cons (.o1 (.fld 0) (.var 0)) (.o2 .cons (.o1 (.fld 1) (.var 0)) (.o2 .cons (.o1 (.fld 2) (.var 0)) (.o2 .cons (.o1 (.fld 3) (.var 0)) (.o2 .cons (.o1 (.fld 4) (.var 0)) (.o2 .cons (.o1 (.fld 5) (.var 0)) (.o2 .cons (.o1 (.fld 6) (.var 0)) (.o2 .cons (.o1 (.fld 7) (.var 0)) (.o2 .cons (.o1 (.fld 8) (.var 0)) (.o2 .cons (.o1 (.fld 9) (.var 0)) (.o2 .cons (.o1 (.fld 10) (.var 0)) (.o2 .cons (.o1 (.fld 11) (.var 0)) (.o2 .cons (.o1 (.fld 12) (.var 0)) (.o2 .cons (.o1 (.fld 13) (.var 0)) .nil))))))))))))))] [.st [(.int .i64), (.int .i64), (.int .i64), (.int .i64), (.int .i64), (.int .i64), (.int .i64), (.int .i64), (.int .i64), (.int .i64), .bool, (.sl [(.int .i64), (.int .i64), (.int .i64), (.int .i64), (.int .i64), (.int .i64), .bool]), (.int .i64), (.int .i64)]]
  (.call [] (.fn 43) [.st [(.int .i64), (.int .i64), (.int .i64), (.int .i64), (.int .i64), (.int .i64), (.int .i64), (.int .i64), (.int .i64), (.int .i64), .bool, (.sl [(.int .i64), (.int .i64), (.int .i64), (.int .i64), (.int .i64), (.int .i64), .bool]), (.int .i64), (.int .i64)] (.o2 .cons (.o1 (.fld 0) (.var 1)) (.o2 .cons (.o1 (.fld 1) (.var 1)) (.o2 .cons (.o1 (.fld 2) (.var 1)) (.o2 .cons (.o1 (.fld 3) (.var 1)) (.o2 .cons (.o1 (.fld 4) (.var 1)) (.o2 .cons (.o1 (.fld 5) (.var 1)) (.o2 .cons (.o1 (.fld 6) (.var 1)) (.o2 .cons (.o1 (.fld 7) (.var 1)) (.o2 .cons (.o1 (.fld 8) (.var 1)) (.o2 .cons (.o1 (.fld 9) (.var 1)) (.o2 .cons (.o1 (.fld 10) (.var 1)) (.o2 .cons (.o1 (.fld 11) (.var 1)) (.o2 .cons (.o1 (.fld 12) (.var 1)) (.o2 .cons (.o1 (.fld 13) (.var 1)) .nil))))))))))))))] [.st [(.int .i64), (.int .i64), (.int .i64), (.int .i64), (.int .i64), (.int .i64), (.int .i64), (.int .i64), (.int .i64), (.int .i64), .bool, (.sl [(.int .i64), (.int .i64), (.int .i64), (.int .i64), (.int .i64), (.int .i64), .bool]), (.int .i64), (.int .i64)]]
  (.call [] (.fn 44) [.st [(.int .i64), (.int .i64), (.int .i64), (.int .i64), (.int .i64), (.int .i64), (.int .i64), (.int .i64), (.int .i64), (.int .i64), .bool, (.sl [(.int .i64), (.int .i64), (.int .i64), (.int .i64), (.int .i64), (.int .i64), .bool]), (.int .i64), (.int .i64)] (.o2 .cons (.o1 (.fld 0) (.var 7)) (.o2 .cons (.o1 (.fld 1) (.var 7)) (.o2 .cons (.o1 (.fld 2) (.var 7)) (.o2 .cons (.o1 (.fld 3) (.var 7)) (.o2 .cons (.o1 (.fld 4) (.var 7)) (.o2 .cons (.o1 (.fld 5) (.var 7)) (.o2 .cons (.o1 (.fld 6) (.var 7)) (.o2 .cons (.o1 (.fld 7) (.var 7)) (.o2 .cons (.o1 (.fld 8) (.var 7)) (.o2 .cons (.o1 (.fld 9) (.var 7)) (.o2 .cons (.o1 (.fld 10) (.var 7)) (.o2 .cons (.o1 (.fld 11) (.var 7)) (.o2 .cons (.o1 (.fld 12) (.var 7)) (.o2 .cons (.o1 (.fld 13) (.var 7)) .nil)))))))))))))), .st [(.int .i64), (.int .i64), (.int .i64), (.int .i64), (.int .i64), (.int .i64), (.int .i64), (.int .i64), (.int .i64), (.int .i64), .bool, (.sl [(.int .i64), (.int .i64), (.int .i64), (.int .i64), (.int .i64), (.int .i64), .bool]), (.int .i64), (.int .i64)] (.o2 .cons (.o1 (.fld 0) (.var 8)) (.o2 .cons (.o1 (.fld 1) (.var 8)) (.o2 .cons (.o1 (.fld 2) (.var 8)) (.o2 .cons (.o1 (.fld 3) (.var 8)) (.o2 .cons (.o1 (.fld 4) (.var 8)) (.o2 .cons (.o1 (.fld 5) (.var 8)) (.o2 .cons (.o1 (.fld 6) (.var 8)) (.o2 .cons (.o1 (.fld 7) (.var 8)) (.o2 .cons (.o1 (.fld 8) (.var 8)) (.o2 .cons (.o1 (.fld 9) (.var 8)) (.o2 .cons (.o1 (.fld 10) (.var 8)) (.o2 .cons (.o1 (.fld 11) (.var 8)) (.o2 .cons (.o1 (.fld 12) (.var 8)) (.o2 .cons (.o1 (.fld 13) (.var 8)) .nil))))))))))))))] [.sc .bool]
  (.br (.o2 .bne (.var 9) (.var 6))
   (.ret [(.bool false)])
   (.call [] (.fn 43) [.st [(.int .i64), (.int .i64), (.int .i64), (.int .i64), (.int .i64), (.int .i64), (.int .i64), (.int .i64), (.int .i64), (.int .i64), .bool, (.sl [(.int .i64), (.int .i64), (.int .i64), (.int .i64), (.int .i64), (.int .i64), .bool]), (.int .i64), (.int .i64)] (.o2 .cons (.o1 (.fld 0) (.var 0)) (.o2 .cons (.o1 (.fld 1) (.var 0)) (.o2 .cons (.o1 (.fld 2) (.var 0)) (.o2 .cons (.o1 (.fld 3) (.var 0)) (.o2 .cons (.o1 (.fld 4) (.var 0)) (.o2 .cons (.o1 (.fld 5) (.var 0)) (.o2 .cons (.o1 (.fld 6) (.var 0)) (.o2 .cons (.o1 (.fld 7) (.var 0)) (.o2 .cons (.o1 (.fld 8) (.var 0)) (.o2 .cons (.o1 (.fld 9) (.var 0)) (.o2 .cons (.o1 (.fld 10) (.var 0)) (.o2 .cons (.o1 (.fld 11) (.var 0)) (.o2 .cons (.o1 (.fld 12) (.var 0)) (.o2 .cons (.o1 (.fld 13) (.var 0)) .nil))))))))))))))] [.st [(.int .i64), (.int .i64), (.int .i64), (.int .i64), (.int .i64), (.int .i64), (.int .i64), (.int .i64), (.int .i64), (.int .i64), .bool, (.sl [(.int .i64), (.int .i64), (.int .i64), (.int .i64), (.int .i64), (.int .i64), .bool]), (.int .i64), (.int .i64)]]
   (.call [] (.fn 45) [.st [(.int .i64), (.int .i64), (.int .i64), (.int .i64), (.int .i64), (.int .i64), (.int .i64), (.int .i64), (.int .i64), (.int .i64), .bool, (.sl [(.int .i64), (.int .i64), (.int .i64), (.int .i64), (.int .i64), (.int .i64), .bool]), (.int .i64), (.int .i64)] (.o2 .cons (.o1 (.fld 0) (.var 7)) (.o2 .cons (.o1 (.fld 1) (.var 7)) (.o2 .cons (.o1 (.fld 2) (.var 7)) (.o2 .cons (.o1 (.fld 3) (.var 7)) (.o2 .cons (.o1 (.fld 4) (.var 7)) (.o2 .cons (.o1 (.fld 5) (.var 7)) (.o2 .cons (.o1 (.fld 6) (.var 7)) (.o2 .cons (.o1 (.fld 7) (.var 7)) (.o2 .cons (.o1 (.fld 8) (.var 7)) (.o2 .cons (.o1 (.fld 9) (.var 7)) (.o2 .cons (.o1 (.fld 10) (.var 7)) (.o2 .cons (.o1 (.fld 11) (.var 7)) (.o2 .cons (.o1 (.fld 12) (.var 7)) (.o2 .cons (.o1 (.fld 13) (.var 7)) .nil)))))))))))))), .st [(.int .i64), (.int .i64), (.int .i64), (.int .i64), (.int .i64), (.int .i64), (.int .i64), (.int .i64), (.int .i64), (.int .i64), .bool, (.sl [(.int .i64), (.int .i64), (.int .i64), (.int .i64), (.int .i64), (.int .i64), .bool]), (.int .i64), (.int .i64)] (.o2 .cons (.o1 (.fld 0) (.var 10)) (.o2 .cons (.o1 (.fld 1) (.var 10)) (.o2 .cons (.o1 (.fld 2) (.var 10)) (.o2 .cons (.o1 (.fld 3) (.var 10)) (.o2 .cons (.o1 (.fld 4) (.var 10)) (.o2 .cons (.o1 (.fld 5) (.var 10)) (.o2 .cons (.o1 (.fld 6) (.var 10)) (.o2 .cons (.o1 (.fld 7) (.var 10)) (.o2 .cons (.o1 (.fld 8) (.var 10)) (.o2 .cons (.o1 (.fld 9) (.var 10)) (.o2 .cons (.o1 (.fld 10) (.var 10)) (.o2 .cons (.o1 (.fld 11) (.var 10)) (.o2 .cons (.o1 (.fld 12) (.var 10)) (.o2 .cons (.o1 (.fld 13) (.var 10)) .nil))))))))))))))] [.sc .bool]
   (.br (.o1 .not (.var 11))
    (.ret [(.bool false)])
    (.call [] (.fn 43) [.st [(.int .i64), (.int .i64), (.int .i64), (.int .i64), (.int .i64), (.int .i64), (.int .i64), (.int .i64), (.int .i64), (.int .i64), .bool, (.sl [(.int .i64), (.int .i64), (.int .i64), (.int .i64), (.int .i64), (.int .i64), .bool]), (.int .i64), (.int .i64)] (.o2 .cons (.o1 (.fld 0) (.var 1)) (.o2 .cons (.o1 (.fld 1) (.var 1)) (.o2 .cons (.o1 (.fld 2) (.var 1)) (.o2 .cons (.o1 (.fld 3) (.var 1)) (.o2 .cons (.o1 (.fld 4) (.var 1)) (.o2 .cons (.o1 (.fld 5) (.var 1)) (.o2 .cons (.o1 (.fld 6) (.var 1)) (.o2 .cons (.o1 (.fld 7) (.var 1)) (.o2 .cons (.o1 (.fld 8) (.var 1)) (.o2 .cons (.o1 (.fld 9) (.var 1)) (.o2 .cons (.o1 (.fld 10) (.var 1)) (.o2 .cons (.o1 (.fld 11) (.var 1)) (.o2 .cons (.o1 (.fld 12) (.var 1)) (.o2 .cons (.o1 (.fld 13) (.var 1)) .nil))))))))))))))] [.st [(.int .i64), (.int .i64), (.int .i64), (.int .i64), (.int .i64), (.int .i64), (.int .i64), (.int .i64), (.int .i64), (.int .i64), .bool, (.sl [(.int .i64), (.int .i64), (.int .i64), (.int .i64), (.int .i64), (.int .i64), .bool]), (.int .i64), (.int .i64)]]
    (.call [] (.fn 45) [.st [(.int .i64), (.int .i64), (.int .i64), (.int .i64), (.int .i64), (.int .i64), (.int .i64), (.int .i64), (.int .i64), (.int .i64), .bool, (.sl [(.int .i64), (.int .i64), (.int .i64), (.int .i64), (.int .i64), (.int .i64), .bool]), (.int .i64), (.int .i64)] (.o2 .cons (.o1 (.fld 0) (.var 8)) (.o2 .cons (.o1 (.fld 1) (.var 8)) (.o2 .cons (.o1 (.fld 2) (.var 8)) (.o2 .cons (.o1 (.fld 3) (.var 8)) (.o2 .cons (.o1 (.fld 4) (.var 8)) (.o2 .cons (.o1 (.fld 5) (.var 8)) (.o2 .cons (.o1 (.fld 6) (.var 8)) (.o2 .cons (.o1 (.fld 7) (.var 8)) (.o2 .cons (.o1 (.fld 8) (.var 8)) (.o2 .cons (.o1 (.fld 9) (.var 8)) (.o2 .cons (.o1 (.fld 10) (.var 8)) (.o2 .cons (.o1 (.fld 11) (.var 8)) (.o2 .cons (.o1 (.fld 12) (.var 8)) (.o2 .cons (.o1 (.fld 13) (.var 8)) .nil)))))))))))))), .st [(.int .i64), (.int .i64), (.int .i64), (.int .i64), (.int .i64), (.int .i64), (.int .i64), (.int .i64), (.int .i64), (.int .i64), .bool, (.sl [(.int .i64), (.int .i64), (.int .i64), (.int .i64), (.int .i64), (.int .i64), .bool]), (.int .i64), (.int .i64)] (.o2 .cons (.o1 (.fld 0) (.var 12)) (.o2 .cons (.o1 (.fld 1) (.var 12)) (.o2 .cons (.o1 (.fld 2) (.var 12)) (.o2 .cons (.o1 (.fld 3) (.var 12)) (.o2 .cons (.o1 (.fld 4) (.var 12)) (.o2 .cons (.o1 (.fld 5) (.var 12)) (.o2 .cons (.o1 (.fld 6) (.var 12)) (.o2 .cons (.o1 (.fld 7) (.var 12)) (.o2 .cons (.o1 (.fld 8) (.var 12)) (.o2 .cons (.o1 (.fld 9) (.var 12)) (.o2 .cons (.o1 (.fld 10) (.var 12)) (.o2 .cons (.o1 (.fld 11) (.var 12)) (.o2 .cons (.o1 (.fld 12) (.var 12)) (.o2 .cons (.o1 (.fld 13) (.var 12)) .nil))))))))))))))] [.sc .bool]
    (.br (.o1 .not (.var 13))
     (.ret [(.bool false)])
     (.ret [(.bool true)]))))))))))))))))))
theorem sig_11 : sigOf Try.prog md 11 [] = some ([.st [(.int .i64), (.int .i64), (.int .i64), (.int .i64), (.int .i64), (.int .i64), (.int .i64), (.int .i64), (.int .i64), (.int .i64), .bool, (.sl [(.int .i64), (.int .i64), (.int .i64), (.int .i64), (.int .i64), (.int .i64), .bool]), (.int .i64), (.int .i64)], .st [(.int .i64), (.int .i64), (.int .i64), (.int .i64), (.int .i64), (.int .i64), (.int .i64), (.int .i64), (.int .i64), (.int .i64), .bool, (.sl [(.int .i64), (.int .i64), (.int .i64), (.int .i64), (.int .i64), (.int .i64), .bool]), (.int .i64), (.int .i64)]], [.sc .bool], tree_11) := by kernel_rfl
theorem mix : Try.prog.follows .mixedOrders = true := by kernel_rfl
end Go.Proofs.Ytflegfieiemipaa
