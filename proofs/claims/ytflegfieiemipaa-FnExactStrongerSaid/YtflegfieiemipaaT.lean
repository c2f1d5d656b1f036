/- The trees of the functions that this claim reaches. -/
import Derived.Test.YtflegfieiemipaaRows
import Derived.Test.YtflegfieiemipaaE6
import Derived.KernelRfl
namespace Go.Proofs.Ytflegfieiemipaa
open Go.Proofs.Ytflegfieiemipaa.Eng
def md : Modes := ⟨[(30, 0)], [], []⟩
/- laws.toGuard -/
def tree_19 : T :=
(.ret [(.o2 .cons (.o1 (.fld 0) (.var 0)) (.o2 .cons (.o1 (.fld 1) (.var 0)) .nil))])
theorem sig_19 : sigOf Try.prog md 19 [] = some ([.st [(.int .i64), (.int .i64)]], [.st [(.int .i64), (.int .i64)]], tree_19) := by kernel_rfl
/- spec.l1In -/
def tree_55 : T :=
(.ret [(.o2 .band (.o2 .ge (.var 0) (.var 1)) (.o2 .le (.var 0) (.var 2)))])
theorem sig_55 : sigOf Try.prog md 55 [] = some ([.sc (.int .i64), .sc (.int .i64), .sc (.int .i64)], [.sc .bool], tree_55) := by kernel_rfl
/- spec.GuardOk -/
def tree_18 : T :=
(.br (.o2 .eq (.o1 (.fld 0) (.var 0)) (.int 0))
 (.br (.o2 .eq (.o1 (.fld 0) (.var 0)) (.int 0))
  (.ret [(.o2 .eq (.o1 (.fld 1) (.var 0)) (.int 0))])
  (.br (.o2 .eq (.o1 (.fld 0) (.var 0)) (.int 1))
   (.call [] (.fn 55) [.sc (.int .i64) (.o1 (.fld 1) (.var 0)), .sc (.int .i64) (.int (-2147483647)), .sc (.int .i64) (.int 2147483647)] [.sc .bool]
   (.ret [(.var 1)]))
   (.call [((.o2 .bor (.o2 .eq (.o1 (.fld 0) (.var 0)) (.int 2)) (.o2 .eq (.o1 (.fld 0) (.var 0)) (.int 4))), true)] (.fn 55) [.sc (.int .i64) (.o1 (.fld 1) (.var 0)), .sc (.int .i64) (.int 0), .sc (.int .i64) (.int 8)] [.sc .bool]
   (.ret [(.o2 .band (.o2 .bor (.o2 .eq (.o1 (.fld 0) (.var 0)) (.int 2)) (.o2 .eq (.o1 (.fld 0) (.var 0)) (.int 4))) (.var 1))]))))
 (.br (.o2 .eq (.o1 (.fld 0) (.var 0)) (.int 3))
  (.ret [(.o2 .eq (.o1 (.fld 1) (.var 0)) (.int 0))])
  (.br (.o2 .eq (.o1 (.fld 0) (.var 0)) (.int 1))
   (.call [] (.fn 55) [.sc (.int .i64) (.o1 (.fld 1) (.var 0)), .sc (.int .i64) (.int (-2147483647)), .sc (.int .i64) (.int 2147483647)] [.sc .bool]
   (.ret [(.var 1)]))
   (.call [((.o2 .bor (.o2 .eq (.o1 (.fld 0) (.var 0)) (.int 2)) (.o2 .eq (.o1 (.fld 0) (.var 0)) (.int 4))), true)] (.fn 55) [.sc (.int .i64) (.o1 (.fld 1) (.var 0)), .sc (.int .i64) (.int 0), .sc (.int .i64) (.int 8)] [.sc .bool]
   (.ret [(.o2 .band (.o2 .bor (.o2 .eq (.o1 (.fld 0) (.var 0)) (.int 2)) (.o2 .eq (.o1 (.fld 0) (.var 0)) (.int 4))) (.var 1))])))))
theorem sig_18 : sigOf Try.prog md 18 [] = some ([.st [(.int .i64), (.int .i64)]], [.sc .bool], tree_18) := by kernel_rfl
/- spec.Stronger -/
def tree_32 : T :=
(.call [] (.fn 18) [.st [(.int .i64), (.int .i64)] (.o2 .cons (.o1 (.fld 0) (.var 0)) (.o2 .cons (.o1 (.fld 1) (.var 0)) .nil))] [.sc .bool]
(.call [((.o1 .not (.var 2)), false)] (.fn 18) [.st [(.int .i64), (.int .i64)] (.o2 .cons (.o1 (.fld 0) (.var 1)) (.o2 .cons (.o1 (.fld 1) (.var 1)) .nil))] [.sc .bool]
(.br (.o2 .bor (.o1 .not (.var 2)) (.o1 .not (.var 3)))
 (.ret [(.bool false)])
 (.br (.o2 .eq (.o1 (.fld 0) (.var 1)) (.int 0))
  (.ret [(.bool true)])
  (.br (.o2 .ne (.o1 (.fld 0) (.var 0)) (.o1 (.fld 0) (.var 1)))
   (.ret [(.bool false)])
   (.br (.o2 .eq (.o1 (.fld 0) (.var 0)) (.int 1))
    (.ret [(.o2 .le (.o1 (.fld 1) (.var 0)) (.o1 (.fld 1) (.var 1)))])
    (.ret [(.o2 .ge (.o1 (.fld 1) (.var 0)) (.o1 (.fld 1) (.var 1)))])))))))
theorem sig_32 : sigOf Try.prog md 32 [] = some ([.st [(.int .i64), (.int .i64)], .st [(.int .i64), (.int .i64)]], [.sc .bool], tree_32) := by kernel_rfl
/- impl.Bound -/
def tree_56 : T :=
(.ret [(.o2 .max (.int (-2147483647)) (.o2 .min (.var 0) (.int 2147483647)))])
theorem sig_56 : sigOf Try.prog md 56 [] = some ([.sc (.int .i64)], [.sc (.int .i64)], tree_56) := by kernel_rfl
/- impl.from -/
def tree_57 : T :=
(.ret [(.o2 .band (.o2 .ge (.var 0) (.var 1)) (.o2 .le (.var 0) (.var 2)))])
theorem sig_57 : sigOf Try.prog md 57 [] = some ([.sc (.int .i64), .sc (.int .i64), .sc (.int .i64)], [.sc .bool], tree_57) := by kernel_rfl
/- impl.GuardOk -/
def tree_20 : T :=
(.br (.o2 .eq (.o1 (.fld 0) (.var 0)) (.int 0))
 (.br (.o2 .eq (.o1 (.fld 0) (.var 0)) (.int 0))
  (.ret [(.o2 .eq (.o1 (.fld 1) (.var 0)) (.int 0))])
  (.br (.o2 .eq (.o1 (.fld 0) (.var 0)) (.int 1))
   (.call [] (.fn 56) [.sc (.int .i64) (.o1 (.fld 1) (.var 0))] [.sc (.int .i64)]
   (.ret [(.o2 .eq (.var 1) (.o1 (.fld 1) (.var 0)))]))
   (.br (.o2 .eq (.o1 (.fld 0) (.var 0)) (.int 2))
    (.br (.o2 .eq (.o1 (.fld 0) (.var 0)) (.int 2))
     (.call [] (.fn 57) [.sc (.int .i64) (.o1 (.fld 1) (.var 0)), .sc (.int .i64) (.int 0), .sc (.int .i64) (.int 8)] [.sc .bool]
     (.ret [(.var 1)]))
     (.ret [(.bool false)]))
    (.br (.o2 .eq (.o1 (.fld 0) (.var 0)) (.int 4))
     (.call [] (.fn 57) [.sc (.int .i64) (.o1 (.fld 1) (.var 0)), .sc (.int .i64) (.int 0), .sc (.int .i64) (.int 8)] [.sc .bool]
     (.ret [(.var 1)]))
     (.ret [(.bool false)])))))
 (.br (.o2 .eq (.o1 (.fld 0) (.var 0)) (.int 3))
  (.ret [(.o2 .eq (.o1 (.fld 1) (.var 0)) (.int 0))])
  (.br (.o2 .eq (.o1 (.fld 0) (.var 0)) (.int 1))
   (.call [] (.fn 56) [.sc (.int .i64) (.o1 (.fld 1) (.var 0))] [.sc (.int .i64)]
   (.ret [(.o2 .eq (.var 1) (.o1 (.fld 1) (.var 0)))]))
   (.br (.o2 .eq (.o1 (.fld 0) (.var 0)) (.int 2))
    (.br (.o2 .eq (.o1 (.fld 0) (.var 0)) (.int 2))
     (.call [] (.fn 57) [.sc (.int .i64) (.o1 (.fld 1) (.var 0)), .sc (.int .i64) (.int 0), .sc (.int .i64) (.int 8)] [.sc .bool]
     (.ret [(.var 1)]))
     (.ret [(.bool false)]))
    (.br (.o2 .eq (.o1 (.fld 0) (.var 0)) (.int 4))
     (.call [] (.fn 57) [.sc (.int .i64) (.o1 (.fld 1) (.var 0)), .sc (.int .i64) (.int 0), .sc (.int .i64) (.int 8)] [.sc .bool]
     (.ret [(.var 1)]))
     (.ret [(.bool false)]))))))
theorem sig_20 : sigOf Try.prog md 20 [] = some ([.st [(.int .i64), (.int .i64)]], [.sc .bool], tree_20) := by kernel_rfl
/- impl.Stronger -/
def tree_33 : T :=
(.call [] (.fn 20) [.st [(.int .i64), (.int .i64)] (.o2 .cons (.o1 (.fld 0) (.var 0)) (.o2 .cons (.o1 (.fld 1) (.var 0)) .nil))] [.sc .bool]
(.call [((.o1 .not (.var 2)), false)] (.fn 20) [.st [(.int .i64), (.int .i64)] (.o2 .cons (.o1 (.fld 0) (.var 1)) (.o2 .cons (.o1 (.fld 1) (.var 1)) .nil))] [.sc .bool]
(.br (.o2 .bor (.o1 .not (.var 2)) (.o1 .not (.var 3)))
 (.ret [(.bool false)])
 (.br (.o2 .eq (.o1 (.fld 0) (.var 1)) (.int 0))
  (.ret [(.bool true)])
  (.br (.o2 .ne (.o1 (.fld 0) (.var 0)) (.o1 (.fld 0) (.var 1)))
   (.ret [(.bool false)])
   (.br (.o2 .eq (.o1 (.fld 0) (.var 0)) (.int 1))
    (.ret [(.o2 .le (.o1 (.fld 1) (.var 0)) (.o1 (.fld 1) (.var 1)))])
    (.ret [(.o2 .ge (.o1 (.fld 1) (.var 0)) (.o1 (.fld 1) (.var 1)))])))))))
theorem sig_33 : sigOf Try.prog md 33 [] = some ([.st [(.int .i64), (.int .i64)], .st [(.int .i64), (.int .i64)]], [.sc .bool], tree_33) := by kernel_rfl
/- laws.FnExactStronger -/
def tree_8 : T :=
(.call [] (.fn 19) [.st [(.int .i64), (.int .i64)] (.o2 .cons (.o1 (.fld 0) (.var 0)) (.o2 .cons (.o1 (.fld 1) (.var 0)) .nil))] [.st [(.int .i64), (.int .i64)]]
(.call [] (.fn 19) [.st [(.int .i64), (.int .i64)] (.o2 .cons (.o1 (.fld 0) (.var 1)) (.o2 .cons (.o1 (.fld 1) (.var 1)) .nil))] [.st [(.int .i64), (.int .i64)]]
(.call [] (.fn 32) [.st [(.int .i64), (.int .i64)] (.o2 .cons (.o1 (.fld 0) (.var 2)) (.o2 .cons (.o1 (.fld 1) (.var 2)) .nil)), .st [(.int .i64), (.int .i64)] (.o2 .cons (.o1 (.fld 0) (.var 3)) (.o2 .cons (.o1 (.fld 1) (.var 3)) .nil))] [.sc .bool]
(.call [] (.fn 19) [.st [(.int .i64), (.int .i64)] (.o2 .cons (.o1 (.fld 0) (.var 0)) (.o2 .cons (.o1 (.fld 1) (.var 0)) .nil))] [.st [(.int .i64), (.int .i64)]]
(.call [] (.fn 19) [.st [(.int .i64), (.int .i64)] (.o2 .cons (.o1 (.fld 0) (.var 1)) (.o2 .cons (.o1 (.fld 1) (.var 1)) .nil))] [.st [(.int .i64), (.int .i64)]]
(.call [] (.fn 33) [.st [(.int .i64), (.int .i64)] (.o2 .cons (.o1 (.fld 0) (.var 5)) (.o2 .cons (.o1 (.fld 1) (.var 5)) .nil)), .st [(.int .i64), (.int .i64)] (.o2 .cons (.o1 (.fld 0) (.var 6)) (.o2 .cons (.o1 (.fld 1) (.var 6)) .nil))] [.sc .bool]
(.br (.o2 .bne (.var 7) (.var 4))
 (.ret [(.bool false)])
 (.ret [(.bool true)]))))))))
theorem sig_8 : sigOf Try.prog md 8 [] = some ([.st [(.int .i64), (.int .i64)], .st [(.int .i64), (.int .i64)]], [.sc .bool], tree_8) := by kernel_rfl
theorem mix : Try.prog.follows .mixedOrders = true := by kernel_rfl
end Go.Proofs.Ytflegfieiemipaa
