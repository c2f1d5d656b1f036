/- The trees of the functions that this claim reaches. -/
import Derived.Test.YtflegfieiemipaaRows
import Derived.Test.YtflegfieiemipaaE6
import Derived.KernelRfl
namespace Go.Proofs.Ytflegfieiemipaa
open Go.Proofs.Ytflegfieiemipaa.Eng
def md : Modes := ⟨[(30, 0)], [], []⟩
/- laws.toPat -/
def tree_22 : T :=
(.ret [(.o2 .cons (.o1 (.fld 0) (.var 0)) (.o2 .cons (.o1 (.fld 1) (.var 0)) (.o2 .cons (.o1 (.fld 2) (.var 0)) (.o2 .cons (.o1 (.fld 3) (.var 0)) (.o2 .cons (.o1 (.fld 4) (.var 0)) (.o2 .cons (.o1 (.fld 5) (.var 0)) (.o2 .cons (.o1 (.fld 6) (.var 0)) .nil)))))))])
theorem sig_22 : sigOf Try.prog md 22 [] = some ([.st [(.int .i64), (.int .i64), (.int .i64), (.int .i64), (.int .i64), (.int .i64), (.int .i64)]], [.st [(.int .i64), (.int .i64), (.int .i64), (.int .i64), (.int .i64), (.int .i64), (.int .i64)]], tree_22) := by kernel_rfl
/- spec.l1In -/
def tree_55 : T :=
(.ret [(.o2 .band (.o2 .ge (.var 0) (.var 1)) (.o2 .le (.var 0) (.var 2)))])
theorem sig_55 : sigOf Try.prog md 55 [] = some ([.sc (.int .i64), .sc (.int .i64), .sc (.int .i64)], [.sc .bool], tree_55) := by kernel_rfl
/- spec.PatOk -/
def tree_21 : T :=
(.call [] (.fn 55) [.sc (.int .i64) (.o1 (.fld 0) (.var 0)), .sc (.int .i64) (.int 1), .sc (.int .i64) (.int 6)] [.sc .bool]
(.call [((.o1 .not (.var 1)), false)] (.fn 55) [.sc (.int .i64) (.o1 (.fld 1) (.var 0)), .sc (.int .i64) (.int 0), .sc (.int .i64) (.int 2)] [.sc .bool]
(.call [((.o2 .bor (.o1 .not (.var 1)) (.o1 .not (.var 2))), false)] (.fn 55) [.sc (.int .i64) (.o1 (.fld 4) (.var 0)), .sc (.int .i64) (.int 0), .sc (.int .i64) (.int 99)] [.sc .bool]
(.call [((.o2 .bor (.o2 .bor (.o1 .not (.var 1)) (.o1 .not (.var 2))) (.o1 .not (.var 3))), false)] (.fn 55) [.sc (.int .i64) (.o1 (.fld 5) (.var 0)), .sc (.int .i64) (.int 0), .sc (.int .i64) (.int 2147483647)] [.sc .bool]
(.call [((.o2 .bor (.o2 .bor (.o2 .bor (.o1 .not (.var 1)) (.o1 .not (.var 2))) (.o1 .not (.var 3))) (.o1 .not (.var 4))), false)] (.fn 55) [.sc (.int .i64) (.o1 (.fld 2) (.var 0)), .sc (.int .i64) (.int 0), .sc (.int .i64) (.int 99)] [.sc .bool]
(.call [((.o2 .bor (.o2 .bor (.o2 .bor (.o2 .bor (.o1 .not (.var 1)) (.o1 .not (.var 2))) (.o1 .not (.var 3))) (.o1 .not (.var 4))) (.o1 .not (.var 5))), false)] (.fn 55) [.sc (.int .i64) (.o1 (.fld 3) (.var 0)), .sc (.int .i64) (.int 0), .sc (.int .i64) (.int 63)] [.sc .bool]
(.call [((.o2 .bor (.o2 .bor (.o2 .bor (.o2 .bor (.o2 .bor (.o1 .not (.var 1)) (.o1 .not (.var 2))) (.o1 .not (.var 3))) (.o1 .not (.var 4))) (.o1 .not (.var 5))) (.o1 .not (.var 6))), false)] (.fn 55) [.sc (.int .i64) (.o1 (.fld 6) (.var 0)), .sc (.int .i64) (.int 0), .sc (.int .i64) (.int 4)] [.sc .bool]
(.br (.o2 .bor (.o2 .bor (.o2 .bor (.o2 .bor (.o2 .bor (.o2 .bor (.o1 .not (.var 1)) (.o1 .not (.var 2))) (.o1 .not (.var 3))) (.o1 .not (.var 4))) (.o1 .not (.var 5))) (.o1 .not (.var 6))) (.o1 .not (.var 7)))
 (.ret [(.bool false)])
 (.br (.o2 .bor (.o2 .band (.o2 .ne (.o1 (.fld 0) (.var 0)) (.int 1)) (.o2 .bor (.o2 .ne (.o1 (.fld 2) (.var 0)) (.int 0)) (.o2 .ne (.o1 (.fld 3) (.var 0)) (.int 0)))) (.o2 .band (.o2 .ne (.o1 (.fld 0) (.var 0)) (.int 2)) (.o2 .ne (.o1 (.fld 6) (.var 0)) (.int 0))))
  (.ret [(.bool false)])
  (.ret [(.o2 .bor (.o2 .band (.o2 .ne (.o1 (.fld 0) (.var 0)) (.int 3)) (.o2 .ne (.o1 (.fld 0) (.var 0)) (.int 4))) (.o2 .eq (.o1 (.fld 4) (.var 0)) (.int 0)))]))))))))))
theorem sig_21 : sigOf Try.prog md 21 [] = some ([.st [(.int .i64), (.int .i64), (.int .i64), (.int .i64), (.int .i64), (.int .i64), (.int .i64)]], [.sc .bool], tree_21) := by kernel_rfl
/- spec.Narrower -/
def tree_24 : T :=
(.call [] (.fn 21) [.st [(.int .i64), (.int .i64), (.int .i64), (.int .i64), (.int .i64), (.int .i64), (.int .i64)] (.o2 .cons (.o1 (.fld 0) (.var 0)) (.o2 .cons (.o1 (.fld 1) (.var 0)) (.o2 .cons (.o1 (.fld 2) (.var 0)) (.o2 .cons (.o1 (.fld 3) (.var 0)) (.o2 .cons (.o1 (.fld 4) (.var 0)) (.o2 .cons (.o1 (.fld 5) (.var 0)) (.o2 .cons (.o1 (.fld 6) (.var 0)) .nil)))))))] [.sc .bool]
(.call [((.o1 .not (.var 2)), false)] (.fn 21) [.st [(.int .i64), (.int .i64), (.int .i64), (.int .i64), (.int .i64), (.int .i64), (.int .i64)] (.o2 .cons (.o1 (.fld 0) (.var 1)) (.o2 .cons (.o1 (.fld 1) (.var 1)) (.o2 .cons (.o1 (.fld 2) (.var 1)) (.o2 .cons (.o1 (.fld 3) (.var 1)) (.o2 .cons (.o1 (.fld 4) (.var 1)) (.o2 .cons (.o1 (.fld 5) (.var 1)) (.o2 .cons (.o1 (.fld 6) (.var 1)) .nil)))))))] [.sc .bool]
(.br (.o2 .bor (.o2 .bor (.o2 .bor (.o2 .bor (.o1 .not (.var 2)) (.o1 .not (.var 3))) (.o2 .ne (.o1 (.fld 0) (.var 0)) (.o1 (.fld 0) (.var 1)))) (.o2 .ne (.o2 (.and .i64) (.o1 (.fld 3) (.var 0)) (.o1 (.fld 3) (.var 1))) (.o1 (.fld 3) (.var 1)))) (.o2 .gt (.o1 (.fld 5) (.var 1)) (.o1 (.fld 5) (.var 0))))
 (.ret [(.bool false)])
 (.ret [(.o2 .band (.o2 .band (.o2 .band (.o2 .bor (.o2 .eq (.o1 (.fld 1) (.var 1)) (.int 0)) (.o2 .eq (.o1 (.fld 1) (.var 1)) (.o1 (.fld 1) (.var 0)))) (.o2 .bor (.o2 .eq (.o1 (.fld 2) (.var 1)) (.int 0)) (.o2 .eq (.o1 (.fld 2) (.var 1)) (.o1 (.fld 2) (.var 0))))) (.o2 .bor (.o2 .eq (.o1 (.fld 4) (.var 1)) (.int 0)) (.o2 .eq (.o1 (.fld 4) (.var 1)) (.o1 (.fld 4) (.var 0))))) (.o2 .bor (.o2 .eq (.o1 (.fld 6) (.var 1)) (.int 0)) (.o2 .eq (.o1 (.fld 6) (.var 1)) (.o1 (.fld 6) (.var 0)))))]))))
theorem sig_24 : sigOf Try.prog md 24 [] = some ([.st [(.int .i64), (.int .i64), (.int .i64), (.int .i64), (.int .i64), (.int .i64), (.int .i64)], .st [(.int .i64), (.int .i64), (.int .i64), (.int .i64), (.int .i64), (.int .i64), (.int .i64)]], [.sc .bool], tree_24) := by kernel_rfl
/- impl.from -/
def tree_57 : T :=
(.ret [(.o2 .band (.o2 .ge (.var 0) (.var 1)) (.o2 .le (.var 0) (.var 2)))])
theorem sig_57 : sigOf Try.prog md 57 [] = some ([.sc (.int .i64), .sc (.int .i64), .sc (.int .i64)], [.sc .bool], tree_57) := by kernel_rfl
/- impl.isKind -/
def tree_58 : T :=
(.call [] (.fn 57) [.sc (.int .i64) (.var 0), .sc (.int .i64) (.int 1), .sc (.int .i64) (.int 6)] [.sc .bool]
(.ret [(.var 1)]))
theorem sig_58 : sigOf Try.prog md 58 [] = some ([.sc (.int .i64)], [.sc .bool], tree_58) := by kernel_rfl
/- impl.isTraits -/
def tree_59 : T :=
(.call [] (.fn 57) [.sc (.int .i64) (.var 0), .sc (.int .i64) (.int 0), .sc (.int .i64) (.int 63)] [.sc .bool]
(.ret [(.var 1)]))
theorem sig_59 : sigOf Try.prog md 59 [] = some ([.sc (.int .i64)], [.sc .bool], tree_59) := by kernel_rfl
/- impl.isAmount -/
def tree_60 : T :=
(.call [] (.fn 57) [.sc (.int .i64) (.var 0), .sc (.int .i64) (.int 0), .sc (.int .i64) (.int 2147483647)] [.sc .bool]
(.ret [(.var 1)]))
theorem sig_60 : sigOf Try.prog md 60 [] = some ([.sc (.int .i64)], [.sc .bool], tree_60) := by kernel_rfl
/- impl.PatOk -/
def tree_23 : T :=
(.call [] (.fn 58) [.sc (.int .i64) (.o1 (.fld 0) (.var 0))] [.sc .bool]
(.call [((.o1 .not (.var 1)), false)] (.fn 57) [.sc (.int .i64) (.o1 (.fld 1) (.var 0)), .sc (.int .i64) (.int 0), .sc (.int .i64) (.int 2)] [.sc .bool]
(.call [((.o2 .bor (.o1 .not (.var 1)) (.o1 .not (.var 2))), false)] (.fn 57) [.sc (.int .i64) (.o1 (.fld 2) (.var 0)), .sc (.int .i64) (.int 0), .sc (.int .i64) (.int 99)] [.sc .bool]
(.call [((.o2 .bor (.o2 .bor (.o1 .not (.var 1)) (.o1 .not (.var 2))) (.o1 .not (.var 3))), false)] (.fn 59) [.sc (.int .i64) (.o1 (.fld 3) (.var 0))] [.sc .bool]
(.call [((.o2 .bor (.o2 .bor (.o2 .bor (.o1 .not (.var 1)) (.o1 .not (.var 2))) (.o1 .not (.var 3))) (.o1 .not (.var 4))), false)] (.fn 57) [.sc (.int .i64) (.o1 (.fld 4) (.var 0)), .sc (.int .i64) (.int 0), .sc (.int .i64) (.int 99)] [.sc .bool]
(.call [((.o2 .bor (.o2 .bor (.o2 .bor (.o2 .bor (.o1 .not (.var 1)) (.o1 .not (.var 2))) (.o1 .not (.var 3))) (.o1 .not (.var 4))) (.o1 .not (.var 5))), false)] (.fn 60) [.sc (.int .i64) (.o1 (.fld 5) (.var 0))] [.sc .bool]
(.call [((.o2 .bor (.o2 .bor (.o2 .bor (.o2 .bor (.o2 .bor (.o1 .not (.var 1)) (.o1 .not (.var 2))) (.o1 .not (.var 3))) (.o1 .not (.var 4))) (.o1 .not (.var 5))) (.o1 .not (.var 6))), false)] (.fn 57) [.sc (.int .i64) (.o1 (.fld 6) (.var 0)), .sc (.int .i64) (.int 0), .sc (.int .i64) (.int 4)] [.sc .bool]
(.br (.o2 .bor (.o2 .bor (.o2 .bor (.o2 .bor (.o2 .bor (.o2 .bor (.o1 .not (.var 1)) (.o1 .not (.var 2))) (.o1 .not (.var 3))) (.o1 .not (.var 4))) (.o1 .not (.var 5))) (.o1 .not (.var 6))) (.o1 .not (.var 7)))
 (.ret [(.bool false)])
 (.br (.o2 .bor (.o2 .band (.o2 .ne (.o1 (.fld 0) (.var 0)) (.int 1)) (.o2 .bor (.o2 .ne (.o1 (.fld 2) (.var 0)) (.int 0)) (.o2 .ne (.o1 (.fld 3) (.var 0)) (.int 0)))) (.o2 .band (.o2 .ne (.o1 (.fld 0) (.var 0)) (.int 2)) (.o2 .ne (.o1 (.fld 6) (.var 0)) (.int 0))))
  (.ret [(.bool false)])
  (.ret [(.o2 .bor (.o2 .eq (.o1 (.fld 4) (.var 0)) (.int 0)) (.o2 .band (.o2 .ne (.o1 (.fld 0) (.var 0)) (.int 3)) (.o2 .ne (.o1 (.fld 0) (.var 0)) (.int 4))))]))))))))))
theorem sig_23 : sigOf Try.prog md 23 [] = some ([.st [(.int .i64), (.int .i64), (.int .i64), (.int .i64), (.int .i64), (.int .i64), (.int .i64)]], [.sc .bool], tree_23) := by kernel_rfl
/- impl.demands -/
def tree_61 : T :=
(.ret [(.o2 .bor (.o2 .eq (.var 1) (.int 0)) (.o2 .eq (.var 0) (.var 1)))])
theorem sig_61 : sigOf Try.prog md 61 [] = some ([.sc (.int .i64), .sc (.int .i64)], [.sc .bool], tree_61) := by kernel_rfl
/- impl.Narrower -/
def tree_25 : T :=
(.call [] (.fn 23) [.st [(.int .i64), (.int .i64), (.int .i64), (.int .i64), (.int .i64), (.int .i64), (.int .i64)] (.o2 .cons (.o1 (.fld 0) (.var 0)) (.o2 .cons (.o1 (.fld 1) (.var 0)) (.o2 .cons (.o1 (.fld 2) (.var 0)) (.o2 .cons (.o1 (.fld 3) (.var 0)) (.o2 .cons (.o1 (.fld 4) (.var 0)) (.o2 .cons (.o1 (.fld 5) (.var 0)) (.o2 .cons (.o1 (.fld 6) (.var 0)) .nil)))))))] [.sc .bool]
(.call [((.var 2), true)] (.fn 23) [.st [(.int .i64), (.int .i64), (.int .i64), (.int .i64), (.int .i64), (.int .i64), (.int .i64)] (.o2 .cons (.o1 (.fld 0) (.var 1)) (.o2 .cons (.o1 (.fld 1) (.var 1)) (.o2 .cons (.o1 (.fld 2) (.var 1)) (.o2 .cons (.o1 (.fld 3) (.var 1)) (.o2 .cons (.o1 (.fld 4) (.var 1)) (.o2 .cons (.o1 (.fld 5) (.var 1)) (.o2 .cons (.o1 (.fld 6) (.var 1)) .nil)))))))] [.sc .bool]
(.call [((.o2 .band (.o2 .band (.var 2) (.var 3)) (.o2 .eq (.o1 (.fld 0) (.var 0)) (.o1 (.fld 0) (.var 1)))), true)] (.fn 61) [.sc (.int .i64) (.o1 (.fld 1) (.var 0)), .sc (.int .i64) (.o1 (.fld 1) (.var 1))] [.sc .bool]
(.call [((.o2 .band (.o2 .band (.o2 .band (.var 2) (.var 3)) (.o2 .eq (.o1 (.fld 0) (.var 0)) (.o1 (.fld 0) (.var 1)))) (.var 4)), true)] (.fn 61) [.sc (.int .i64) (.o1 (.fld 2) (.var 0)), .sc (.int .i64) (.o1 (.fld 2) (.var 1))] [.sc .bool]
(.call [((.o2 .band (.o2 .band (.o2 .band (.o2 .band (.var 2) (.var 3)) (.o2 .eq (.o1 (.fld 0) (.var 0)) (.o1 (.fld 0) (.var 1)))) (.var 4)) (.var 5)), true)] (.fn 61) [.sc (.int .i64) (.o1 (.fld 4) (.var 0)), .sc (.int .i64) (.o1 (.fld 4) (.var 1))] [.sc .bool]
(.call [((.o2 .band (.o2 .band (.o2 .band (.o2 .band (.o2 .band (.var 2) (.var 3)) (.o2 .eq (.o1 (.fld 0) (.var 0)) (.o1 (.fld 0) (.var 1)))) (.var 4)) (.var 5)) (.var 6)), true)] (.fn 61) [.sc (.int .i64) (.o1 (.fld 6) (.var 0)), .sc (.int .i64) (.o1 (.fld 6) (.var 1))] [.sc .bool]
(.ret [(.o2 .band (.o2 .band (.o2 .band (.o2 .band (.o2 .band (.o2 .band (.o2 .band (.o2 .band (.var 2) (.var 3)) (.o2 .eq (.o1 (.fld 0) (.var 0)) (.o1 (.fld 0) (.var 1)))) (.var 4)) (.var 5)) (.var 6)) (.var 7)) (.o2 .eq (.o2 (.and .i64) (.o1 (.fld 3) (.var 0)) (.o1 (.fld 3) (.var 1))) (.o1 (.fld 3) (.var 1)))) (.o2 .le (.o1 (.fld 5) (.var 1)) (.o1 (.fld 5) (.var 0))))])))))))
theorem sig_25 : sigOf Try.prog md 25 [] = some ([.st [(.int .i64), (.int .i64), (.int .i64), (.int .i64), (.int .i64), (.int .i64), (.int .i64)], .st [(.int .i64), (.int .i64), (.int .i64), (.int .i64), (.int .i64), (.int .i64), (.int .i64)]], [.sc .bool], tree_25) := by kernel_rfl
/- laws.FnExactNarrower -/
def tree_6 : T :=
(.call [] (.fn 22) [.st [(.int .i64), (.int .i64), (.int .i64), (.int .i64), (.int .i64), (.int .i64), (.int .i64)] (.o2 .cons (.o1 (.fld 0) (.var 0)) (.o2 .cons (.o1 (.fld 1) (.var 0)) (.o2 .cons (.o1 (.fld 2) (.var 0)) (.o2 .cons (.o1 (.fld 3) (.var 0)) (.o2 .cons (.o1 (.fld 4) (.var 0)) (.o2 .cons (.o1 (.fld 5) (.var 0)) (.o2 .cons (.o1 (.fld 6) (.var 0)) .nil)))))))] [.st [(.int .i64), (.int .i64), (.int .i64), (.int .i64), (.int .i64), (.int .i64), (.int .i64)]]
(.call [] (.fn 22) [.st [(.int .i64), (.int .i64), (.int .i64), (.int .i64), (.int .i64), (.int .i64), (.int .i64)] (.o2 .cons (.o1 (.fld 0) (.var 1)) (.o2 .cons (.o1 (.fld 1) (.var 1)) (.o2 .cons (.o1 (.fld 2) (.var 1)) (.o2 .cons (.o1 (.fld 3) (.var 1)) (.o2 .cons (.o1 (.fld 4) (.var 1)) (.o2 .cons (.o1 (.fld 5) (.var 1)) (.o2 .cons (.o1 (.fld 6) (.var 1)) .nil)))))))] [.st [(.int .i64), (.int .i64), (.int .i64), (.int .i64), (.int .i64), (.int .i64), (.int .i64)]]
(.call [] (.fn 24) [.st [(.int .i64), (.int .i64), (.int .i64), (.int .i64), (.int .i64), (.int .i64), (.int .i64)] (.o2 .cons (.o1 (.fld 0) (.var 2)) (.o2 .cons (.o1 (.fld 1) (.var 2)) (.o2 .cons (.o1 (.fld 2) (.var 2)) (.o2 .cons (.o1 (.fld 3) (.var 2)) (.o2 .cons (.o1 (.fld 4) (.var 2)) (.o2 .cons (.o1 (.fld 5) (.var 2)) (.o2 .cons (.o1 (.fld 6) (.var 2)) .nil))))))), .st [(.int .i64), (.int .i64), (.int .i64), (.int .i64), (.int .i64), (.int .i64), (.int .i64)] (.o2 .cons (.o1 (.fld 0) (.var 3)) (.o2 .cons (.o1 (.fld 1) (.var 3)) (.o2 .cons (.o1 (.fld 2) (.var 3)) (.o2 .cons (.o1 (.fld 3) (.var 3)) (.o2 .cons (.o1 (.fld 4) (.var 3)) (.o2 .cons (.o1 (.fld 5) (.var 3)) (.o2 .cons (.o1 (.fld 6) (.var 3)) .nil)))))))] [.sc .bool]
(.call [] (.fn 22) [.st [(.int .i64), (.int .i64), (.int .i64), (.int .i64), (.int .i64), (.int .i64), (.int .i64)] (.o2 .cons (.o1 (.fld 0) (.var 0)) (.o2 .cons (.o1 (.fld 1) (.var 0)) (.o2 .cons (.o1 (.fld 2) (.var 0)) (.o2 .cons (.o1 (.fld 3) (.var 0)) (.o2 .cons (.o1 (.fld 4) (.var 0)) (.o2 .cons (.o1 (.fld 5) (.var 0)) (.o2 .cons (.o1 (.fld 6) (.var 0)) .nil)))))))] [.st [(.int .i64), (.int .i64), (.int .i64), (.int .i64), (.int .i64), (.int .i64), (.int .i64)]]
(.call [] (.fn 22) [.st [(.int .i64), (.int .i64), (.int .i64), (.int .i64), (.int .i64), (.int .i64), (.int .i64)] (.o2 .cons (.o1 (.fld 0) (.var 1)) (.o2 .cons (.o1 (.fld 1) (.var 1)) (.o2 .cons (.o1 (.fld 2) (.var 1)) (.o2 .cons (.o1 (.fld 3) (.var 1)) (.o2 .cons (.o1 (.fld 4) (.var 1)) (.o2 .cons (.o1 (.fld 5) (.var 1)) (.o2 .cons (.o1 (.fld 6) (.var 1)) .nil)))))))] [.st [(.int .i64), (.int .i64), (.int .i64), (.int .i64), (.int .i64), (.int .i64), (.int .i64)]]
(.call [] (.fn 25) [.st [(.int .i64), (.int .i64), (.int .i64), (.int .i64), (.int .i64), (.int .i64), (.int .i64)] (.o2 .cons (.o1 (.fld 0) (.var 5)) (.o2 .cons (.o1 (.fld 1) (.var 5)) (.o2 .cons (.o1 (.fld 2) (.var 5)) (.o2 .cons (.o1 (.fld 3) (.var 5)) (.o2 .cons (.o1 (.fld 4) (.var 5)) (.o2 .cons (.o1 (.fld 5) (.var 5)) (.o2 .cons (.o1 (.fld 6) (.var 5)) .nil))))))), .st [(.int .i64), (.int .i64), (.int .i64), (.int .i64), (.int .i64), (.int .i64), (.int .i64)] (.o2 .cons (.o1 (.fld 0) (.var 6)) (.o2 .cons (.o1 (.fld 1) (.var 6)) (.o2 .cons (.o1 (.fld 2) (.var 6)) (.o2 .cons (.o1 (.fld 3) (.var 6)) (.o2 .cons (.o1 (.fld 4) (.var 6)) (.o2 .cons (.o1 (.fld 5) (.var 6)) (.o2 .cons (.o1 (.fld 6) (.var 6)) .nil)))))))] [.sc .bool]
(.br (.o2 .bne (.var 7) (.var 4))
 (.ret [(.bool false)])
 (.ret [(.bool true)]))))))))
theorem sig_6 : sigOf Try.prog md 6 [] = some ([.st [(.int .i64), (.int .i64), (.int .i64), (.int .i64), (.int .i64), (.int .i64), (.int .i64)], .st [(.int .i64), (.int .i64), (.int .i64), (.int .i64), (.int .i64), (.int .i64), (.int .i64)]], [.sc .bool], tree_6) := by kernel_rfl
theorem mix : Try.prog.follows .mixedOrders = true := by kernel_rfl
end Go.Proofs.Ytflegfieiemipaa
