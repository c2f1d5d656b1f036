/- The trees of the functions that this claim reaches. -/
import Derived.Test.YtfbahdalemajcaaGreatRows
import Derived.Test.YtfbahdalemajcaaGreatE6
import Derived.KernelRfl
namespace Go.Proofs.YtfbahdalemajcaaGreat
open Go.Proofs.YtfbahdalemajcaaGreat.Eng
def md : Modes := ⟨[(37, 0), (36, 0), (35, 0), (18, 0), (17, 0), (16, 0)], [], []⟩
/- laws.szPieceS -/
def tree_22 : T :=
(.know (.var 0)
(.br (.o2 .lt (.o2 (.sub .i64) (.var 1) (.o1 .len (.var 0))) (.int 0))
 (.ret [(.int (-1))])
 (.ret [(.o2 (.sub .i64) (.var 1) (.o1 .len (.var 0)))])))
theorem sig_22 : sigOf Tryz.prog md 22 [] = some ([.sc (.sl [(.int .i64), (.int .i64), (.int .i64), (.int .i64), (.int .i64), (.int .i64), (.int .i64), (.int .i64), (.int .i64), (.int .i64), (.int .i64), .bool, .bool]), .sc (.int .i64)], [.sc (.int .i64)], tree_22) := by kernel_rfl
/- laws.szSideS -/
def tree_23 : T :=
(.know (.var 0)
(.br (.o2 .lt (.o2 (.sub .i64) (.var 1) (.o1 .len (.var 0))) (.int 0))
 (.ret [(.int (-1))])
 (.ret [(.o2 (.sub .i64) (.var 1) (.o1 .len (.var 0)))])))
theorem sig_23 : sigOf Tryz.prog md 23 [] = some ([.sc (.sl [(.int .i64), (.int .i64), .bool]), .sc (.int .i64)], [.sc (.int .i64)], tree_23) := by kernel_rfl
/- laws.szState -/
def tree_5 : T :=
(.call [] (.fn 22) [.sc (.sl [(.int .i64), (.int .i64), (.int .i64), (.int .i64), (.int .i64), (.int .i64), (.int .i64), (.int .i64), (.int .i64), (.int .i64), (.int .i64), .bool, .bool]) (.o1 (.fld 0) (.var 0)), .sc (.int .i64) (.var 1)] [.sc (.int .i64)]
(.br (.o2 .lt (.var 2) (.int 0))
 (.ret [(.int (-1))])
 (.call [] (.fn 23) [.sc (.sl [(.int .i64), (.int .i64), .bool]) (.o1 (.fld 1) (.var 0)), .sc (.int .i64) (.var 2)] [.sc (.int .i64)]
 (.br (.o2 .lt (.var 3) (.int 0))
  (.ret [(.int (-1))])
  (.ret [(.var 3)])))))
theorem sig_5 : sigOf Tryz.prog md 5 [] = some ([.st [(.sl [(.int .i64), (.int .i64), (.int .i64), (.int .i64), (.int .i64), (.int .i64), (.int .i64), (.int .i64), (.int .i64), (.int .i64), (.int .i64), .bool, .bool]), (.sl [(.int .i64), (.int .i64), .bool]), (.int .i64), (.int .i64)], .sc (.int .i64)], [.sc (.int .i64)], tree_5) := by kernel_rfl
/- laws.szEventS -/
def tree_60 : T :=
(.know (.var 0)
(.br (.o2 .lt (.o2 (.sub .i64) (.var 1) (.o1 .len (.var 0))) (.int 0))
 (.ret [(.int (-1))])
 (.ret [(.o2 (.sub .i64) (.var 1) (.o1 .len (.var 0)))])))
theorem sig_60 : sigOf Tryz.prog md 60 [] = some ([.sc (.sl [(.int .i64), (.int .i64), (.int .i64), (.int .i64), (.int .i64), (.int .i64), .bool]), .sc (.int .i64)], [.sc (.int .i64)], tree_60) := by kernel_rfl
/- laws.szAct -/
def tree_38 : T :=
(.call [] (.fn 60) [.sc (.sl [(.int .i64), (.int .i64), (.int .i64), (.int .i64), (.int .i64), (.int .i64), .bool]) (.o1 (.fld 6) (.var 0)), .sc (.int .i64) (.var 1)] [.sc (.int .i64)]
(.br (.o2 .lt (.var 2) (.int 0))
 (.ret [(.int (-1))])
 (.ret [(.var 2)])))
theorem sig_38 : sigOf Tryz.prog md 38 [] = some ([.st [(.int .i64), (.int .i64), (.int .i64), (.int .i64), (.int .i64), .bool, (.sl [(.int .i64), (.int .i64), (.int .i64), (.int .i64), (.int .i64), (.int .i64), .bool])], .sc (.int .i64)], [.sc (.int .i64)], tree_38) := by kernel_rfl
/- laws.szEffect -/
def tree_24 : T :=
(.call [] (.fn 38) [.st [(.int .i64), (.int .i64), (.int .i64), (.int .i64), (.int .i64), .bool, (.sl [(.int .i64), (.int .i64), (.int .i64), (.int .i64), (.int .i64), (.int .i64), .bool])] (.o2 .cons (.o1 (.fld 13) (.var 0)) (.o2 .cons (.o1 (.fld 14) (.var 0)) (.o2 .cons (.o1 (.fld 15) (.var 0)) (.o2 .cons (.o1 (.fld 16) (.var 0)) (.o2 .cons (.o1 (.fld 17) (.var 0)) (.o2 .cons (.o1 (.fld 18) (.var 0)) (.o2 .cons (.o1 (.fld 19) (.var 0)) .nil))))))), .sc (.int .i64) (.var 1)] [.sc (.int .i64)]
(.br (.o2 .lt (.var 2) (.int 0))
 (.ret [(.int (-1))])
 (.ret [(.var 2)])))
theorem sig_24 : sigOf Tryz.prog md 24 [] = some ([.st [(.int .i64), (.int .i64), (.int .i64), (.int .i64), (.int .i64), (.int .i64), (.int .i64), (.int .i64), (.int .i64), (.int .i64), (.int .i64), (.int .i64), (.int .i64), (.int .i64), (.int .i64), (.int .i64), (.int .i64), (.int .i64), .bool, (.sl [(.int .i64), (.int .i64), (.int .i64), (.int .i64), (.int .i64), (.int .i64), .bool]), (.int .i64), (.int .i64)], .sc (.int .i64)], [.sc (.int .i64)], tree_24) := by kernel_rfl
/- laws.szEffectS -/
def tree_6 : T :=
(.know (.var 0)
(.br (.o2 .lt (.o2 (.sub .i64) (.var 1) (.o1 .len (.var 0))) (.int 0))
 (.ret [(.int (-1))])
 (.loop 0 [(.o2 (.sub .i64) (.var 1) (.o1 .len (.var 0))), (.int 0)]
  (.know (.var 0)
  (.br (.o2 .lt (.var 3) (.o1 .len (.var 0)))
   (.need [] (.o2 .le (.int 0) (.var 3))
   (.need [] (.o2 .lt (.var 3) (.o1 .len (.var 0)))
   (.call [] (.fn 24) [.st [(.int .i64), (.int .i64), (.int .i64), (.int .i64), (.int .i64), (.int .i64), (.int .i64), (.int .i64), (.int .i64), (.int .i64), (.int .i64), (.int .i64), (.int .i64), (.int .i64), (.int .i64), (.int .i64), (.int .i64), (.int .i64), .bool, (.sl [(.int .i64), (.int .i64), (.int .i64), (.int .i64), (.int .i64), (.int .i64), .bool]), (.int .i64), (.int .i64)] (.o2 .cons (.o1 (.fld 0) (.o2 .idx (.var 0) (.var 3))) (.o2 .cons (.o1 (.fld 1) (.o2 .idx (.var 0) (.var 3))) (.o2 .cons (.o1 (.fld 2) (.o2 .idx (.var 0) (.var 3))) (.o2 .cons (.o1 (.fld 3) (.o2 .idx (.var 0) (.var 3))) (.o2 .cons (.o1 (.fld 4) (.o2 .idx (.var 0) (.var 3))) (.o2 .cons (.o1 (.fld 5) (.o2 .idx (.var 0) (.var 3))) (.o2 .cons (.o1 (.fld 6) (.o2 .idx (.var 0) (.var 3))) (.o2 .cons (.o1 (.fld 7) (.o2 .idx (.var 0) (.var 3))) (.o2 .cons (.o1 (.fld 8) (.o2 .idx (.var 0) (.var 3))) (.o2 .cons (.o1 (.fld 9) (.o2 .idx (.var 0) (.var 3))) (.o2 .cons (.o1 (.fld 10) (.o2 .idx (.var 0) (.var 3))) (.o2 .cons (.o1 (.fld 11) (.o2 .idx (.var 0) (.var 3))) (.o2 .cons (.o1 (.fld 12) (.o2 .idx (.var 0) (.var 3))) (.o2 .cons (.o1 (.fld 13) (.o2 .idx (.var 0) (.var 3))) (.o2 .cons (.o1 (.fld 14) (.o2 .idx (.var 0) (.var 3))) (.o2 .cons (.o1 (.fld 15) (.o2 .idx (.var 0) (.var 3))) (.o2 .cons (.o1 (.fld 16) (.o2 .idx (.var 0) (.var 3))) (.o2 .cons (.o1 (.fld 17) (.o2 .idx (.var 0) (.var 3))) (.o2 .cons (.o1 (.fld 18) (.o2 .idx (.var 0) (.var 3))) (.o2 .cons (.o1 (.fld 19) (.o2 .idx (.var 0) (.var 3))) (.o2 .cons (.o1 (.fld 20) (.o2 .idx (.var 0) (.var 3))) (.o2 .cons (.o1 (.fld 21) (.o2 .idx (.var 0) (.var 3))) .nil)))))))))))))))))))))), .sc (.int .i64) (.var 2)] [.sc (.int .i64)]
   (.br (.o2 .lt (.var 4) (.int 0))
    (.ret [(.int (-1))])
    (.cont 0 [(.var 4), (.o2 (.add .i64) (.var 3) (.int 1))])))))
   (.ret [(.var 2)]))))))
theorem sig_6 : sigOf Tryz.prog md 6 [] = some ([.sc (.sl [(.int .i64), (.int .i64), (.int .i64), (.int .i64), (.int .i64), (.int .i64), (.int .i64), (.int .i64), (.int .i64), (.int .i64), (.int .i64), (.int .i64), (.int .i64), (.int .i64), (.int .i64), (.int .i64), (.int .i64), (.int .i64), .bool, (.sl [(.int .i64), (.int .i64), (.int .i64), (.int .i64), (.int .i64), (.int .i64), .bool]), (.int .i64), (.int .i64)]), .sc (.int .i64)], [.sc (.int .i64)], tree_6) := by kernel_rfl
/- laws.toPiece -/
def tree_44 : T :=
(.ret [(.o2 .cons (.o1 (.fld 0) (.var 0)) (.o2 .cons (.o1 (.fld 1) (.var 0)) (.o2 .cons (.o1 (.fld 2) (.var 0)) (.o2 .cons (.o1 (.fld 3) (.var 0)) (.o2 .cons (.o1 (.fld 4) (.var 0)) (.o2 .cons (.o1 (.fld 5) (.var 0)) (.o2 .cons (.o1 (.fld 6) (.var 0)) (.o2 .cons (.o1 (.fld 7) (.var 0)) (.o2 .cons (.o1 (.fld 8) (.var 0)) (.o2 .cons (.o1 (.fld 9) (.var 0)) (.o2 .cons (.o1 (.fld 10) (.var 0)) (.o2 .cons (.o1 (.fld 11) (.var 0)) (.o2 .cons (.o1 (.fld 12) (.var 0)) .nil)))))))))))))])
theorem sig_44 : sigOf Tryz.prog md 44 [] = some ([.st [(.int .i64), (.int .i64), (.int .i64), (.int .i64), (.int .i64), (.int .i64), (.int .i64), (.int .i64), (.int .i64), (.int .i64), (.int .i64), .bool, .bool]], [.st [(.int .i64), (.int .i64), (.int .i64), (.int .i64), (.int .i64), (.int .i64), (.int .i64), (.int .i64), (.int .i64), (.int .i64), (.int .i64), .bool, .bool]], tree_44) := by kernel_rfl
/- laws.toPieceS -/
def tree_27 : T :=
(.know (.var 0)
(.need [] (.o2 .le (.int 0) (.o1 .len (.var 0)))
(.need [] (.o2 (.fits 96) (.o1 .len (.var 0)) (.int 0))
(.loop 0 [(.int 0), (.o2 .rep (.o1 .len (.var 0)) (.o2 .cons (.int 0) (.o2 .cons (.int 0) (.o2 .cons (.int 0) (.o2 .cons (.int 0) (.o2 .cons (.int 0) (.o2 .cons (.int 0) (.o2 .cons (.int 0) (.o2 .cons (.int 0) (.o2 .cons (.int 0) (.o2 .cons (.int 0) (.o2 .cons (.int 0) (.o2 .cons (.bool false) (.o2 .cons (.bool false) .nil))))))))))))))]
 (.know (.var 0)
 (.br (.o2 .lt (.var 1) (.o1 .len (.var 0)))
  (.need [] (.o2 .le (.int 0) (.var 1))
  (.need [] (.o2 .lt (.var 1) (.o1 .len (.var 0)))
  (.call [] (.fn 44) [.st [(.int .i64), (.int .i64), (.int .i64), (.int .i64), (.int .i64), (.int .i64), (.int .i64), (.int .i64), (.int .i64), (.int .i64), (.int .i64), .bool, .bool] (.o2 .cons (.o1 (.fld 0) (.o2 .idx (.var 0) (.var 1))) (.o2 .cons (.o1 (.fld 1) (.o2 .idx (.var 0) (.var 1))) (.o2 .cons (.o1 (.fld 2) (.o2 .idx (.var 0) (.var 1))) (.o2 .cons (.o1 (.fld 3) (.o2 .idx (.var 0) (.var 1))) (.o2 .cons (.o1 (.fld 4) (.o2 .idx (.var 0) (.var 1))) (.o2 .cons (.o1 (.fld 5) (.o2 .idx (.var 0) (.var 1))) (.o2 .cons (.o1 (.fld 6) (.o2 .idx (.var 0) (.var 1))) (.o2 .cons (.o1 (.fld 7) (.o2 .idx (.var 0) (.var 1))) (.o2 .cons (.o1 (.fld 8) (.o2 .idx (.var 0) (.var 1))) (.o2 .cons (.o1 (.fld 9) (.o2 .idx (.var 0) (.var 1))) (.o2 .cons (.o1 (.fld 10) (.o2 .idx (.var 0) (.var 1))) (.o2 .cons (.o1 (.fld 11) (.o2 .idx (.var 0) (.var 1))) (.o2 .cons (.o1 (.fld 12) (.o2 .idx (.var 0) (.var 1))) .nil)))))))))))))] [.st [(.int .i64), (.int .i64), (.int .i64), (.int .i64), (.int .i64), (.int .i64), (.int .i64), (.int .i64), (.int .i64), (.int .i64), (.int .i64), .bool, .bool]]
  (.need [] (.o2 .le (.int 0) (.var 1))
  (.need [] (.o2 .lt (.var 1) (.o1 .len (.var 2)))
  (.cont 0 [(.o2 (.add .i64) (.var 1) (.int 1)), (.o3 .setE (.var 2) (.var 1) (.o2 .cons (.o1 (.fld 0) (.var 3)) (.o2 .cons (.o1 (.fld 1) (.var 3)) (.o2 .cons (.o1 (.fld 2) (.var 3)) (.o2 .cons (.o1 (.fld 3) (.var 3)) (.o2 .cons (.o1 (.fld 4) (.var 3)) (.o2 .cons (.o1 (.fld 5) (.var 3)) (.o2 .cons (.o1 (.fld 6) (.var 3)) (.o2 .cons (.o1 (.fld 7) (.var 3)) (.o2 .cons (.o1 (.fld 8) (.var 3)) (.o2 .cons (.o1 (.fld 9) (.var 3)) (.o2 .cons (.o1 (.fld 10) (.var 3)) (.o2 .cons (.o1 (.fld 11) (.var 3)) (.o2 .cons (.o1 (.fld 12) (.var 3)) .nil))))))))))))))]))))))
  (.ret [(.var 2)])))))))
theorem sig_27 : sigOf Tryz.prog md 27 [] = some ([.sc (.sl [(.int .i64), (.int .i64), (.int .i64), (.int .i64), (.int .i64), (.int .i64), (.int .i64), (.int .i64), (.int .i64), (.int .i64), (.int .i64), .bool, .bool])], [.sc (.sl [(.int .i64), (.int .i64), (.int .i64), (.int .i64), (.int .i64), (.int .i64), (.int .i64), (.int .i64), (.int .i64), (.int .i64), (.int .i64), .bool, .bool])], tree_27) := by kernel_rfl
/- laws.toSide -/
def tree_45 : T :=
(.ret [(.o2 .cons (.o1 (.fld 0) (.var 0)) (.o2 .cons (.o1 (.fld 1) (.var 0)) (.o2 .cons (.o1 (.fld 2) (.var 0)) .nil)))])
theorem sig_45 : sigOf Tryz.prog md 45 [] = some ([.st [(.int .i64), (.int .i64), .bool]], [.st [(.int .i64), (.int .i64), .bool]], tree_45) := by kernel_rfl
/- laws.toSideS -/
def tree_28 : T :=
(.know (.var 0)
(.need [] (.o2 .le (.int 0) (.o1 .len (.var 0)))
(.need [] (.o2 (.fits 24) (.o1 .len (.var 0)) (.int 0))
(.loop 0 [(.int 0), (.o2 .rep (.o1 .len (.var 0)) (.o2 .cons (.int 0) (.o2 .cons (.int 0) (.o2 .cons (.bool false) .nil))))]
 (.know (.var 0)
 (.br (.o2 .lt (.var 1) (.o1 .len (.var 0)))
  (.need [] (.o2 .le (.int 0) (.var 1))
  (.need [] (.o2 .lt (.var 1) (.o1 .len (.var 0)))
  (.call [] (.fn 45) [.st [(.int .i64), (.int .i64), .bool] (.o2 .cons (.o1 (.fld 0) (.o2 .idx (.var 0) (.var 1))) (.o2 .cons (.o1 (.fld 1) (.o2 .idx (.var 0) (.var 1))) (.o2 .cons (.o1 (.fld 2) (.o2 .idx (.var 0) (.var 1))) .nil)))] [.st [(.int .i64), (.int .i64), .bool]]
  (.need [] (.o2 .le (.int 0) (.var 1))
  (.need [] (.o2 .lt (.var 1) (.o1 .len (.var 2)))
  (.cont 0 [(.o2 (.add .i64) (.var 1) (.int 1)), (.o3 .setE (.var 2) (.var 1) (.o2 .cons (.o1 (.fld 0) (.var 3)) (.o2 .cons (.o1 (.fld 1) (.var 3)) (.o2 .cons (.o1 (.fld 2) (.var 3)) .nil))))]))))))
  (.ret [(.var 2)])))))))
theorem sig_28 : sigOf Tryz.prog md 28 [] = some ([.sc (.sl [(.int .i64), (.int .i64), .bool])], [.sc (.sl [(.int .i64), (.int .i64), .bool])], tree_28) := by kernel_rfl
/- laws.toState -/
def tree_8 : T :=
(.call [] (.fn 27) [.sc (.sl [(.int .i64), (.int .i64), (.int .i64), (.int .i64), (.int .i64), (.int .i64), (.int .i64), (.int .i64), (.int .i64), (.int .i64), (.int .i64), .bool, .bool]) (.o1 (.fld 0) (.var 0))] [.sc (.sl [(.int .i64), (.int .i64), (.int .i64), (.int .i64), (.int .i64), (.int .i64), (.int .i64), (.int .i64), (.int .i64), (.int .i64), (.int .i64), .bool, .bool])]
(.call [] (.fn 28) [.sc (.sl [(.int .i64), (.int .i64), .bool]) (.o1 (.fld 1) (.var 0))] [.sc (.sl [(.int .i64), (.int .i64), .bool])]
(.ret [(.o2 .cons (.var 1) (.o2 .cons (.var 2) (.o2 .cons (.o1 (.fld 2) (.var 0)) (.o2 .cons (.o1 (.fld 3) (.var 0)) .nil))))])))
theorem sig_8 : sigOf Tryz.prog md 8 [] = some ([.st [(.sl [(.int .i64), (.int .i64), (.int .i64), (.int .i64), (.int .i64), (.int .i64), (.int .i64), (.int .i64), (.int .i64), (.int .i64), (.int .i64), .bool, .bool]), (.sl [(.int .i64), (.int .i64), .bool]), (.int .i64), (.int .i64)]], [.st [(.sl [(.int .i64), (.int .i64), (.int .i64), (.int .i64), (.int .i64), (.int .i64), (.int .i64), (.int .i64), (.int .i64), (.int .i64), (.int .i64), .bool, .bool]), (.sl [(.int .i64), (.int .i64), .bool]), (.int .i64), (.int .i64)]], tree_8) := by kernel_rfl
/- laws.toPat -/
def tree_46 : T :=
(.ret [(.o2 .cons (.o1 (.fld 0) (.var 0)) (.o2 .cons (.o1 (.fld 1) (.var 0)) (.o2 .cons (.o1 (.fld 2) (.var 0)) (.o2 .cons (.o1 (.fld 3) (.var 0)) (.o2 .cons (.o1 (.fld 4) (.var 0)) (.o2 .cons (.o1 (.fld 5) (.var 0)) (.o2 .cons (.o1 (.fld 6) (.var 0)) .nil)))))))])
theorem sig_46 : sigOf Tryz.prog md 46 [] = some ([.st [(.int .i64), (.int .i64), (.int .i64), (.int .i64), (.int .i64), (.int .i64), (.int .i64)]], [.st [(.int .i64), (.int .i64), (.int .i64), (.int .i64), (.int .i64), (.int .i64), (.int .i64)]], tree_46) := by kernel_rfl
/- laws.toGuard -/
def tree_47 : T :=
(.ret [(.o2 .cons (.o1 (.fld 0) (.var 0)) (.o2 .cons (.o1 (.fld 1) (.var 0)) .nil))])
theorem sig_47 : sigOf Tryz.prog md 47 [] = some ([.st [(.int .i64), (.int .i64)]], [.st [(.int .i64), (.int .i64)]], tree_47) := by kernel_rfl
/- laws.toEvent -/
def tree_10 : T :=
(.ret [(.o2 .cons (.o1 (.fld 0) (.var 0)) (.o2 .cons (.o1 (.fld 1) (.var 0)) (.o2 .cons (.o1 (.fld 2) (.var 0)) (.o2 .cons (.o1 (.fld 3) (.var 0)) (.o2 .cons (.o1 (.fld 4) (.var 0)) (.o2 .cons (.o1 (.fld 5) (.var 0)) (.o2 .cons (.o1 (.fld 6) (.var 0)) .nil)))))))])
theorem sig_10 : sigOf Tryz.prog md 10 [] = some ([.st [(.int .i64), (.int .i64), (.int .i64), (.int .i64), (.int .i64), (.int .i64), .bool]], [.st [(.int .i64), (.int .i64), (.int .i64), (.int .i64), (.int .i64), (.int .i64), .bool]], tree_10) := by kernel_rfl
/- laws.toEventS -/
def tree_71 : T :=
(.know (.var 0)
(.need [] (.o2 .le (.int 0) (.o1 .len (.var 0)))
(.need [] (.o2 (.fits 56) (.o1 .len (.var 0)) (.int 0))
(.loop 0 [(.int 0), (.o2 .rep (.o1 .len (.var 0)) (.o2 .cons (.int 0) (.o2 .cons (.int 0) (.o2 .cons (.int 0) (.o2 .cons (.int 0) (.o2 .cons (.int 0) (.o2 .cons (.int 0) (.o2 .cons (.bool false) .nil))))))))]
 (.know (.var 0)
 (.br (.o2 .lt (.var 1) (.o1 .len (.var 0)))
  (.need [] (.o2 .le (.int 0) (.var 1))
  (.need [] (.o2 .lt (.var 1) (.o1 .len (.var 0)))
  (.call [] (.fn 10) [.st [(.int .i64), (.int .i64), (.int .i64), (.int .i64), (.int .i64), (.int .i64), .bool] (.o2 .cons (.o1 (.fld 0) (.o2 .idx (.var 0) (.var 1))) (.o2 .cons (.o1 (.fld 1) (.o2 .idx (.var 0) (.var 1))) (.o2 .cons (.o1 (.fld 2) (.o2 .idx (.var 0) (.var 1))) (.o2 .cons (.o1 (.fld 3) (.o2 .idx (.var 0) (.var 1))) (.o2 .cons (.o1 (.fld 4) (.o2 .idx (.var 0) (.var 1))) (.o2 .cons (.o1 (.fld 5) (.o2 .idx (.var 0) (.var 1))) (.o2 .cons (.o1 (.fld 6) (.o2 .idx (.var 0) (.var 1))) .nil)))))))] [.st [(.int .i64), (.int .i64), (.int .i64), (.int .i64), (.int .i64), (.int .i64), .bool]]
  (.need [] (.o2 .le (.int 0) (.var 1))
  (.need [] (.o2 .lt (.var 1) (.o1 .len (.var 2)))
  (.cont 0 [(.o2 (.add .i64) (.var 1) (.int 1)), (.o3 .setE (.var 2) (.var 1) (.o2 .cons (.o1 (.fld 0) (.var 3)) (.o2 .cons (.o1 (.fld 1) (.var 3)) (.o2 .cons (.o1 (.fld 2) (.var 3)) (.o2 .cons (.o1 (.fld 3) (.var 3)) (.o2 .cons (.o1 (.fld 4) (.var 3)) (.o2 .cons (.o1 (.fld 5) (.var 3)) (.o2 .cons (.o1 (.fld 6) (.var 3)) .nil))))))))]))))))
  (.ret [(.var 2)])))))))
theorem sig_71 : sigOf Tryz.prog md 71 [] = some ([.sc (.sl [(.int .i64), (.int .i64), (.int .i64), (.int .i64), (.int .i64), (.int .i64), .bool])], [.sc (.sl [(.int .i64), (.int .i64), (.int .i64), (.int .i64), (.int .i64), (.int .i64), .bool])], tree_71) := by kernel_rfl
/- laws.toAct -/
def tree_48 : T :=
(.call [] (.fn 71) [.sc (.sl [(.int .i64), (.int .i64), (.int .i64), (.int .i64), (.int .i64), (.int .i64), .bool]) (.o1 (.fld 6) (.var 0))] [.sc (.sl [(.int .i64), (.int .i64), (.int .i64), (.int .i64), (.int .i64), (.int .i64), .bool])]
(.ret [(.o2 .cons (.o1 (.fld 0) (.var 0)) (.o2 .cons (.o1 (.fld 1) (.var 0)) (.o2 .cons (.o1 (.fld 2) (.var 0)) (.o2 .cons (.o1 (.fld 3) (.var 0)) (.o2 .cons (.o1 (.fld 4) (.var 0)) (.o2 .cons (.o1 (.fld 5) (.var 0)) (.o2 .cons (.var 1) .nil)))))))]))
theorem sig_48 : sigOf Tryz.prog md 48 [] = some ([.st [(.int .i64), (.int .i64), (.int .i64), (.int .i64), (.int .i64), .bool, (.sl [(.int .i64), (.int .i64), (.int .i64), (.int .i64), (.int .i64), (.int .i64), .bool])]], [.st [(.int .i64), (.int .i64), (.int .i64), (.int .i64), (.int .i64), .bool, (.sl [(.int .i64), (.int .i64), (.int .i64), (.int .i64), (.int .i64), (.int .i64), .bool])]], tree_48) := by kernel_rfl
/- laws.toEffect -/
def tree_29 : T :=
(.call [] (.fn 46) [.st [(.int .i64), (.int .i64), (.int .i64), (.int .i64), (.int .i64), (.int .i64), (.int .i64)] (.o2 .cons (.o1 (.fld 4) (.var 0)) (.o2 .cons (.o1 (.fld 5) (.var 0)) (.o2 .cons (.o1 (.fld 6) (.var 0)) (.o2 .cons (.o1 (.fld 7) (.var 0)) (.o2 .cons (.o1 (.fld 8) (.var 0)) (.o2 .cons (.o1 (.fld 9) (.var 0)) (.o2 .cons (.o1 (.fld 10) (.var 0)) .nil)))))))] [.st [(.int .i64), (.int .i64), (.int .i64), (.int .i64), (.int .i64), (.int .i64), (.int .i64)]]
(.call [] (.fn 47) [.st [(.int .i64), (.int .i64)] (.o2 .cons (.o1 (.fld 11) (.var 0)) (.o2 .cons (.o1 (.fld 12) (.var 0)) .nil))] [.st [(.int .i64), (.int .i64)]]
(.call [] (.fn 48) [.st [(.int .i64), (.int .i64), (.int .i64), (.int .i64), (.int .i64), .bool, (.sl [(.int .i64), (.int .i64), (.int .i64), (.int .i64), (.int .i64), (.int .i64), .bool])] (.o2 .cons (.o1 (.fld 13) (.var 0)) (.o2 .cons (.o1 (.fld 14) (.var 0)) (.o2 .cons (.o1 (.fld 15) (.var 0)) (.o2 .cons (.o1 (.fld 16) (.var 0)) (.o2 .cons (.o1 (.fld 17) (.var 0)) (.o2 .cons (.o1 (.fld 18) (.var 0)) (.o2 .cons (.o1 (.fld 19) (.var 0)) .nil)))))))] [.st [(.int .i64), (.int .i64), (.int .i64), (.int .i64), (.int .i64), .bool, (.sl [(.int .i64), (.int .i64), (.int .i64), (.int .i64), (.int .i64), (.int .i64), .bool])]]
(.ret [(.o2 .cons (.o1 (.fld 0) (.var 0)) (.o2 .cons (.o1 (.fld 1) (.var 0)) (.o2 .cons (.o1 (.fld 2) (.var 0)) (.o2 .cons (.o1 (.fld 3) (.var 0)) (.o2 .cons (.o1 (.fld 0) (.var 1)) (.o2 .cons (.o1 (.fld 1) (.var 1)) (.o2 .cons (.o1 (.fld 2) (.var 1)) (.o2 .cons (.o1 (.fld 3) (.var 1)) (.o2 .cons (.o1 (.fld 4) (.var 1)) (.o2 .cons (.o1 (.fld 5) (.var 1)) (.o2 .cons (.o1 (.fld 6) (.var 1)) (.o2 .cons (.o1 (.fld 0) (.var 2)) (.o2 .cons (.o1 (.fld 1) (.var 2)) (.o2 .cons (.o1 (.fld 0) (.var 3)) (.o2 .cons (.o1 (.fld 1) (.var 3)) (.o2 .cons (.o1 (.fld 2) (.var 3)) (.o2 .cons (.o1 (.fld 3) (.var 3)) (.o2 .cons (.o1 (.fld 4) (.var 3)) (.o2 .cons (.o1 (.fld 5) (.var 3)) (.o2 .cons (.o1 (.fld 6) (.var 3)) (.o2 .cons (.o1 (.fld 20) (.var 0)) (.o2 .cons (.o1 (.fld 21) (.var 0)) .nil))))))))))))))))))))))]))))
theorem sig_29 : sigOf Tryz.prog md 29 [] = some ([.st [(.int .i64), (.int .i64), (.int .i64), (.int .i64), (.int .i64), (.int .i64), (.int .i64), (.int .i64), (.int .i64), (.int .i64), (.int .i64), (.int .i64), (.int .i64), (.int .i64), (.int .i64), (.int .i64), (.int .i64), (.int .i64), .bool, (.sl [(.int .i64), (.int .i64), (.int .i64), (.int .i64), (.int .i64), (.int .i64), .bool]), (.int .i64), (.int .i64)]], [.st [(.int .i64), (.int .i64), (.int .i64), (.int .i64), (.int .i64), (.int .i64), (.int .i64), (.int .i64), (.int .i64), (.int .i64), (.int .i64), (.int .i64), (.int .i64), (.int .i64), (.int .i64), (.int .i64), (.int .i64), (.int .i64), .bool, (.sl [(.int .i64), (.int .i64), (.int .i64), (.int .i64), (.int .i64), (.int .i64), .bool]), (.int .i64), (.int .i64)]], tree_29) := by kernel_rfl
/- laws.toEffectS -/
def tree_9 : T :=
(.know (.var 0)
(.need [] (.o2 .le (.int 0) (.o1 .len (.var 0)))
(.need [] (.o2 (.fits 192) (.o1 .len (.var 0)) (.int 0))
(.loop 0 [(.int 0), (.o2 .rep (.o1 .len (.var 0)) (.o2 .cons (.int 0) (.o2 .cons (.int 0) (.o2 .cons (.int 0) (.o2 .cons (.int 0) (.o2 .cons (.int 0) (.o2 .cons (.int 0) (.o2 .cons (.int 0) (.o2 .cons (.int 0) (.o2 .cons (.int 0) (.o2 .cons (.int 0) (.o2 .cons (.int 0) (.o2 .cons (.int 0) (.o2 .cons (.int 0) (.o2 .cons (.int 0) (.o2 .cons (.int 0) (.o2 .cons (.int 0) (.o2 .cons (.int 0) (.o2 .cons (.int 0) (.o2 .cons (.bool false) (.o2 .cons .nil (.o2 .cons (.int 0) (.o2 .cons (.int 0) .nil)))))))))))))))))))))))]
 (.know (.var 0)
 (.br (.o2 .lt (.var 1) (.o1 .len (.var 0)))
  (.need [] (.o2 .le (.int 0) (.var 1))
  (.need [] (.o2 .lt (.var 1) (.o1 .len (.var 0)))
  (.call [] (.fn 29) [.st [(.int .i64), (.int .i64), (.int .i64), (.int .i64), (.int .i64), (.int .i64), (.int .i64), (.int .i64), (.int .i64), (.int .i64), (.int .i64), (.int .i64), (.int .i64), (.int .i64), (.int .i64), (.int .i64), (.int .i64), (.int .i64), .bool, (.sl [(.int .i64), (.int .i64), (.int .i64), (.int .i64), (.int .i64), (.int .i64), .bool]), (.int .i64), (.int .i64)] (.o2 .cons (.o1 (.fld 0) (.o2 .idx (.var 0) (.var 1))) (.o2 .cons (.o1 (.fld 1) (.o2 .idx (.var 0) (.var 1))) (.o2 .cons (.o1 (.fld 2) (.o2 .idx (.var 0) (.var 1))) (.o2 .cons (.o1 (.fld 3) (.o2 .idx (.var 0) (.var 1))) (.o2 .cons (.o1 (.fld 4) (.o2 .idx (.var 0) (.var 1))) (.o2 .cons (.o1 (.fld 5) (.o2 .idx (.var 0) (.var 1))) (.o2 .cons (.o1 (.fld 6) (.o2 .idx (.var 0) (.var 1))) (.o2 .cons (.o1 (.fld 7) (.o2 .idx (.var 0) (.var 1))) (.o2 .cons (.o1 (.fld 8) (.o2 .idx (.var 0) (.var 1))) (.o2 .cons (.o1 (.fld 9) (.o2 .idx (.var 0) (.var 1))) (.o2 .cons (.o1 (.fld 10) (.o2 .idx (.var 0) (.var 1))) (.o2 .cons (.o1 (.fld 11) (.o2 .idx (.var 0) (.var 1))) (.o2 .cons (.o1 (.fld 12) (.o2 .idx (.var 0) (.var 1))) (.o2 .cons (.o1 (.fld 13) (.o2 .idx (.var 0) (.var 1))) (.o2 .cons (.o1 (.fld 14) (.o2 .idx (.var 0) (.var 1))) (.o2 .cons (.o1 (.fld 15) (.o2 .idx (.var 0) (.var 1))) (.o2 .cons (.o1 (.fld 16) (.o2 .idx (.var 0) (.var 1))) (.o2 .cons (.o1 (.fld 17) (.o2 .idx (.var 0) (.var 1))) (.o2 .cons (.o1 (.fld 18) (.o2 .idx (.var 0) (.var 1))) (.o2 .cons (.o1 (.fld 19) (.o2 .idx (.var 0) (.var 1))) (.o2 .cons (.o1 (.fld 20) (.o2 .idx (.var 0) (.var 1))) (.o2 .cons (.o1 (.fld 21) (.o2 .idx (.var 0) (.var 1))) .nil))))))))))))))))))))))] [.st [(.int .i64), (.int .i64), (.int .i64), (.int .i64), (.int .i64), (.int .i64), (.int .i64), (.int .i64), (.int .i64), (.int .i64), (.int .i64), (.int .i64), (.int .i64), (.int .i64), (.int .i64), (.int .i64), (.int .i64), (.int .i64), .bool, (.sl [(.int .i64), (.int .i64), (.int .i64), (.int .i64), (.int .i64), (.int .i64), .bool]), (.int .i64), (.int .i64)]]
  (.need [] (.o2 .le (.int 0) (.var 1))
  (.need [] (.o2 .lt (.var 1) (.o1 .len (.var 2)))
  (.cont 0 [(.o2 (.add .i64) (.var 1) (.int 1)), (.o3 .setE (.var 2) (.var 1) (.o2 .cons (.o1 (.fld 0) (.var 3)) (.o2 .cons (.o1 (.fld 1) (.var 3)) (.o2 .cons (.o1 (.fld 2) (.var 3)) (.o2 .cons (.o1 (.fld 3) (.var 3)) (.o2 .cons (.o1 (.fld 4) (.var 3)) (.o2 .cons (.o1 (.fld 5) (.var 3)) (.o2 .cons (.o1 (.fld 6) (.var 3)) (.o2 .cons (.o1 (.fld 7) (.var 3)) (.o2 .cons (.o1 (.fld 8) (.var 3)) (.o2 .cons (.o1 (.fld 9) (.var 3)) (.o2 .cons (.o1 (.fld 10) (.var 3)) (.o2 .cons (.o1 (.fld 11) (.var 3)) (.o2 .cons (.o1 (.fld 12) (.var 3)) (.o2 .cons (.o1 (.fld 13) (.var 3)) (.o2 .cons (.o1 (.fld 14) (.var 3)) (.o2 .cons (.o1 (.fld 15) (.var 3)) (.o2 .cons (.o1 (.fld 16) (.var 3)) (.o2 .cons (.o1 (.fld 17) (.var 3)) (.o2 .cons (.o1 (.fld 18) (.var 3)) (.o2 .cons (.o1 (.fld 19) (.var 3)) (.o2 .cons (.o1 (.fld 20) (.var 3)) (.o2 .cons (.o1 (.fld 21) (.var 3)) .nil)))))))))))))))))))))))]))))))
  (.ret [(.var 2)])))))))
theorem sig_9 : sigOf Tryz.prog md 9 [] = some ([.sc (.sl [(.int .i64), (.int .i64), (.int .i64), (.int .i64), (.int .i64), (.int .i64), (.int .i64), (.int .i64), (.int .i64), (.int .i64), (.int .i64), (.int .i64), (.int .i64), (.int .i64), (.int .i64), (.int .i64), (.int .i64), (.int .i64), .bool, (.sl [(.int .i64), (.int .i64), (.int .i64), (.int .i64), (.int .i64), (.int .i64), .bool]), (.int .i64), (.int .i64)])], [.sc (.sl [(.int .i64), (.int .i64), (.int .i64), (.int .i64), (.int .i64), (.int .i64), (.int .i64), (.int .i64), (.int .i64), (.int .i64), (.int .i64), (.int .i64), (.int .i64), (.int .i64), (.int .i64), (.int .i64), (.int .i64), (.int .i64), .bool, (.sl [(.int .i64), (.int .i64), (.int .i64), (.int .i64), (.int .i64), (.int .i64), .bool]), (.int .i64), (.int .i64)])], tree_9) := by kernel_rfl
/- laws.toIntS -/
def tree_11 : T :=
(.know (.var 0)
(.need [] (.o2 .le (.int 0) (.o1 .len (.var 0)))
(.need [] (.o2 (.fits 8) (.o1 .len (.var 0)) (.int 0))
(.loop 0 [(.int 0), (.o2 .rep (.o1 .len (.var 0)) (.o2 .cons (.int 0) .nil))]
 (.know (.var 0)
 (.br (.o2 .lt (.var 1) (.o1 .len (.var 0)))
  (.need [] (.o2 .le (.int 0) (.var 1))
  (.need [] (.o2 .lt (.var 1) (.o1 .len (.var 0)))
  (.need [] (.o2 .le (.int 0) (.var 1))
  (.need [] (.o2 .lt (.var 1) (.o1 .len (.var 2)))
  (.cont 0 [(.o2 (.add .i64) (.var 1) (.int 1)), (.o3 .setE (.var 2) (.var 1) (.o2 .cons (.o1 (.fld 0) (.o2 .idx (.var 0) (.var 1))) .nil))])))))
  (.ret [(.var 2)])))))))
theorem sig_11 : sigOf Tryz.prog md 11 [] = some ([.sc (.sl [(.int .i64)])], [.sc (.sl [(.int .i64)])], tree_11) := by kernel_rfl
/- laws.eqIntS -/
def tree_13 : T :=
(.know (.var 0)
(.know (.var 1)
(.br (.o2 .ne (.o1 .len (.var 0)) (.o1 .len (.var 1)))
 (.ret [(.bool false)])
 (.loop 0 [(.int 0)]
  (.know (.var 0)
  (.br (.o2 .lt (.var 2) (.o1 .len (.var 0)))
   (.need [] (.o2 .le (.int 0) (.var 2))
   (.need [] (.o2 .lt (.var 2) (.o1 .len (.var 0)))
   (.need [] (.o2 .le (.int 0) (.var 2))
   (.need [] (.o2 .lt (.var 2) (.o1 .len (.var 1)))
   (.br (.o2 .ne (.o1 (.fld 0) (.o2 .idx (.var 0) (.var 2))) (.o1 (.fld 0) (.o2 .idx (.var 1) (.var 2))))
    (.ret [(.bool false)])
    (.cont 0 [(.o2 (.add .i64) (.var 2) (.int 1))]))))))
   (.ret [(.bool true)])))))))
theorem sig_13 : sigOf Tryz.prog md 13 [] = some ([.sc (.sl [(.int .i64)]), .sc (.sl [(.int .i64)])], [.sc .bool], tree_13) := by kernel_rfl
/- laws.eqPiece -/
def tree_55 : T :=
(.br (.o2 .ne (.o1 (.fld 0) (.var 0)) (.o1 (.fld 0) (.var 1)))
 (.ret [(.bool false)])
 (.br (.o2 .ne (.o1 (.fld 1) (.var 0)) (.o1 (.fld 1) (.var 1)))
  (.ret [(.bool false)])
  (.br (.o2 .ne (.o1 (.fld 2) (.var 0)) (.o1 (.fld 2) (.var 1)))
   (.ret [(.bool false)])
   (.br (.o2 .ne (.o1 (.fld 3) (.var 0)) (.o1 (.fld 3) (.var 1)))
    (.ret [(.bool false)])
    (.br (.o2 .ne (.o1 (.fld 4) (.var 0)) (.o1 (.fld 4) (.var 1)))
     (.ret [(.bool false)])
     (.br (.o2 .ne (.o1 (.fld 5) (.var 0)) (.o1 (.fld 5) (.var 1)))
      (.ret [(.bool false)])
      (.br (.o2 .ne (.o1 (.fld 6) (.var 0)) (.o1 (.fld 6) (.var 1)))
       (.ret [(.bool false)])
       (.br (.o2 .ne (.o1 (.fld 7) (.var 0)) (.o1 (.fld 7) (.var 1)))
        (.ret [(.bool false)])
        (.br (.o2 .ne (.o1 (.fld 8) (.var 0)) (.o1 (.fld 8) (.var 1)))
         (.ret [(.bool false)])
         (.br (.o2 .ne (.o1 (.fld 9) (.var 0)) (.o1 (.fld 9) (.var 1)))
          (.ret [(.bool false)])
          (.br (.o2 .ne (.o1 (.fld 10) (.var 0)) (.o1 (.fld 10) (.var 1)))
           (.ret [(.bool false)])
           (.br (.o2 .bne (.o1 (.fld 11) (.var 0)) (.o1 (.fld 11) (.var 1)))
            (.ret [(.bool false)])
            (.br (.o2 .bne (.o1 (.fld 12) (.var 0)) (.o1 (.fld 12) (.var 1)))
             (.ret [(.bool false)])
             (.ret [(.bool true)]))))))))))))))
theorem sig_55 : sigOf Tryz.prog md 55 [] = some ([.st [(.int .i64), (.int .i64), (.int .i64), (.int .i64), (.int .i64), (.int .i64), (.int .i64), (.int .i64), (.int .i64), (.int .i64), (.int .i64), .bool, .bool], .st [(.int .i64), (.int .i64), (.int .i64), (.int .i64), (.int .i64), (.int .i64), (.int .i64), (.int .i64), (.int .i64), (.int .i64), (.int .i64), .bool, .bool]], [.sc .bool], tree_55) := by kernel_rfl
/- laws.eqPieceS -/
def tree_32 : T :=
(.know (.var 0)
(.know (.var 1)
(.br (.o2 .ne (.o1 .len (.var 0)) (.o1 .len (.var 1)))
 (.ret [(.bool false)])
 (.loop 0 [(.int 0)]
  (.know (.var 0)
  (.br (.o2 .lt (.var 2) (.o1 .len (.var 0)))
   (.need [] (.o2 .le (.int 0) (.var 2))
   (.need [] (.o2 .lt (.var 2) (.o1 .len (.var 0)))
   (.need [] (.o2 .le (.int 0) (.var 2))
   (.need [] (.o2 .lt (.var 2) (.o1 .len (.var 1)))
   (.call [] (.fn 55) [.st [(.int .i64), (.int .i64), (.int .i64), (.int .i64), (.int .i64), (.int .i64), (.int .i64), (.int .i64), (.int .i64), (.int .i64), (.int .i64), .bool, .bool] (.o2 .cons (.o1 (.fld 0) (.o2 .idx (.var 0) (.var 2))) (.o2 .cons (.o1 (.fld 1) (.o2 .idx (.var 0) (.var 2))) (.o2 .cons (.o1 (.fld 2) (.o2 .idx (.var 0) (.var 2))) (.o2 .cons (.o1 (.fld 3) (.o2 .idx (.var 0) (.var 2))) (.o2 .cons (.o1 (.fld 4) (.o2 .idx (.var 0) (.var 2))) (.o2 .cons (.o1 (.fld 5) (.o2 .idx (.var 0) (.var 2))) (.o2 .cons (.o1 (.fld 6) (.o2 .idx (.var 0) (.var 2))) (.o2 .cons (.o1 (.fld 7) (.o2 .idx (.var 0) (.var 2))) (.o2 .cons (.o1 (.fld 8) (.o2 .idx (.var 0) (.var 2))) (.o2 .cons (.o1 (.fld 9) (.o2 .idx (.var 0) (.var 2))) (.o2 .cons (.o1 (.fld 10) (.o2 .idx (.var 0) (.var 2))) (.o2 .cons (.o1 (.fld 11) (.o2 .idx (.var 0) (.var 2))) (.o2 .cons (.o1 (.fld 12) (.o2 .idx (.var 0) (.var 2))) .nil))))))))))))), .st [(.int .i64), (.int .i64), (.int .i64), (.int .i64), (.int .i64), (.int .i64), (.int .i64), (.int .i64), (.int .i64), (.int .i64), (.int .i64), .bool, .bool] (.o2 .cons (.o1 (.fld 0) (.o2 .idx (.var 1) (.var 2))) (.o2 .cons (.o1 (.fld 1) (.o2 .idx (.var 1) (.var 2))) (.o2 .cons (.o1 (.fld 2) (.o2 .idx (.var 1) (.var 2))) (.o2 .cons (.o1 (.fld 3) (.o2 .idx (.var 1) (.var 2))) (.o2 .cons (.o1 (.fld 4) (.o2 .idx (.var 1) (.var 2))) (.o2 .cons (.o1 (.fld 5) (.o2 .idx (.var 1) (.var 2))) (.o2 .cons (.o1 (.fld 6) (.o2 .idx (.var 1) (.var 2))) (.o2 .cons (.o1 (.fld 7) (.o2 .idx (.var 1) (.var 2))) (.o2 .cons (.o1 (.fld 8) (.o2 .idx (.var 1) (.var 2))) (.o2 .cons (.o1 (.fld 9) (.o2 .idx (.var 1) (.var 2))) (.o2 .cons (.o1 (.fld 10) (.o2 .idx (.var 1) (.var 2))) (.o2 .cons (.o1 (.fld 11) (.o2 .idx (.var 1) (.var 2))) (.o2 .cons (.o1 (.fld 12) (.o2 .idx (.var 1) (.var 2))) .nil)))))))))))))] [.sc .bool]
   (.br (.o1 .not (.var 3))
    (.ret [(.bool false)])
    (.cont 0 [(.o2 (.add .i64) (.var 2) (.int 1))])))))))
   (.ret [(.bool true)])))))))
theorem sig_32 : sigOf Tryz.prog md 32 [] = some ([.sc (.sl [(.int .i64), (.int .i64), (.int .i64), (.int .i64), (.int .i64), (.int .i64), (.int .i64), (.int .i64), (.int .i64), (.int .i64), (.int .i64), .bool, .bool]), .sc (.sl [(.int .i64), (.int .i64), (.int .i64), (.int .i64), (.int .i64), (.int .i64), (.int .i64), (.int .i64), (.int .i64), (.int .i64), (.int .i64), .bool, .bool])], [.sc .bool], tree_32) := by kernel_rfl
/- laws.eqSide -/
def tree_56 : T :=
(.br (.o2 .ne (.o1 (.fld 0) (.var 0)) (.o1 (.fld 0) (.var 1)))
 (.ret [(.bool false)])
 (.br (.o2 .ne (.o1 (.fld 1) (.var 0)) (.o1 (.fld 1) (.var 1)))
  (.ret [(.bool false)])
  (.br (.o2 .bne (.o1 (.fld 2) (.var 0)) (.o1 (.fld 2) (.var 1)))
   (.ret [(.bool false)])
   (.ret [(.bool true)]))))
theorem sig_56 : sigOf Tryz.prog md 56 [] = some ([.st [(.int .i64), (.int .i64), .bool], .st [(.int .i64), (.int .i64), .bool]], [.sc .bool], tree_56) := by kernel_rfl
/- laws.eqSideS -/
def tree_33 : T :=
(.know (.var 0)
(.know (.var 1)
(.br (.o2 .ne (.o1 .len (.var 0)) (.o1 .len (.var 1)))
 (.ret [(.bool false)])
 (.loop 0 [(.int 0)]
  (.know (.var 0)
  (.br (.o2 .lt (.var 2) (.o1 .len (.var 0)))
   (.need [] (.o2 .le (.int 0) (.var 2))
   (.need [] (.o2 .lt (.var 2) (.o1 .len (.var 0)))
   (.need [] (.o2 .le (.int 0) (.var 2))
   (.need [] (.o2 .lt (.var 2) (.o1 .len (.var 1)))
   (.call [] (.fn 56) [.st [(.int .i64), (.int .i64), .bool] (.o2 .cons (.o1 (.fld 0) (.o2 .idx (.var 0) (.var 2))) (.o2 .cons (.o1 (.fld 1) (.o2 .idx (.var 0) (.var 2))) (.o2 .cons (.o1 (.fld 2) (.o2 .idx (.var 0) (.var 2))) .nil))), .st [(.int .i64), (.int .i64), .bool] (.o2 .cons (.o1 (.fld 0) (.o2 .idx (.var 1) (.var 2))) (.o2 .cons (.o1 (.fld 1) (.o2 .idx (.var 1) (.var 2))) (.o2 .cons (.o1 (.fld 2) (.o2 .idx (.var 1) (.var 2))) .nil)))] [.sc .bool]
   (.br (.o1 .not (.var 3))
    (.ret [(.bool false)])
    (.cont 0 [(.o2 (.add .i64) (.var 2) (.int 1))])))))))
   (.ret [(.bool true)])))))))
theorem sig_33 : sigOf Tryz.prog md 33 [] = some ([.sc (.sl [(.int .i64), (.int .i64), .bool]), .sc (.sl [(.int .i64), (.int .i64), .bool])], [.sc .bool], tree_33) := by kernel_rfl
/- laws.eqState -/
def tree_14 : T :=
(.call [] (.fn 32) [.sc (.sl [(.int .i64), (.int .i64), (.int .i64), (.int .i64), (.int .i64), (.int .i64), (.int .i64), (.int .i64), (.int .i64), (.int .i64), (.int .i64), .bool, .bool]) (.o1 (.fld 0) (.var 0)), .sc (.sl [(.int .i64), (.int .i64), (.int .i64), (.int .i64), (.int .i64), (.int .i64), (.int .i64), (.int .i64), (.int .i64), (.int .i64), (.int .i64), .bool, .bool]) (.o1 (.fld 0) (.var 1))] [.sc .bool]
(.br (.o1 .not (.var 2))
 (.ret [(.bool false)])
 (.call [] (.fn 33) [.sc (.sl [(.int .i64), (.int .i64), .bool]) (.o1 (.fld 1) (.var 0)), .sc (.sl [(.int .i64), (.int .i64), .bool]) (.o1 (.fld 1) (.var 1))] [.sc .bool]
 (.br (.o1 .not (.var 3))
  (.ret [(.bool false)])
  (.br (.o2 .ne (.o1 (.fld 2) (.var 0)) (.o1 (.fld 2) (.var 1)))
   (.ret [(.bool false)])
   (.br (.o2 .ne (.o1 (.fld 3) (.var 0)) (.o1 (.fld 3) (.var 1)))
    (.ret [(.bool false)])
    (.ret [(.bool true)])))))))
theorem sig_14 : sigOf Tryz.prog md 14 [] = some ([.st [(.sl [(.int .i64), (.int .i64), (.int .i64), (.int .i64), (.int .i64), (.int .i64), (.int .i64), (.int .i64), (.int .i64), (.int .i64), (.int .i64), .bool, .bool]), (.sl [(.int .i64), (.int .i64), .bool]), (.int .i64), (.int .i64)], .st [(.sl [(.int .i64), (.int .i64), (.int .i64), (.int .i64), (.int .i64), (.int .i64), (.int .i64), (.int .i64), (.int .i64), (.int .i64), (.int .i64), .bool, .bool]), (.sl [(.int .i64), (.int .i64), .bool]), (.int .i64), (.int .i64)]], [.sc .bool], tree_14) := by kernel_rfl
/- laws.eqPat -/
def tree_57 : T :=
(.br (.o2 .ne (.o1 (.fld 0) (.var 0)) (.o1 (.fld 0) (.var 1)))
 (.ret [(.bool false)])
 (.br (.o2 .ne (.o1 (.fld 1) (.var 0)) (.o1 (.fld 1) (.var 1)))
  (.ret [(.bool false)])
  (.br (.o2 .ne (.o1 (.fld 2) (.var 0)) (.o1 (.fld 2) (.var 1)))
   (.ret [(.bool false)])
   (.br (.o2 .ne (.o1 (.fld 3) (.var 0)) (.o1 (.fld 3) (.var 1)))
    (.ret [(.bool false)])
    (.br (.o2 .ne (.o1 (.fld 4) (.var 0)) (.o1 (.fld 4) (.var 1)))
     (.ret [(.bool false)])
     (.br (.o2 .ne (.o1 (.fld 5) (.var 0)) (.o1 (.fld 5) (.var 1)))
      (.ret [(.bool false)])
      (.br (.o2 .ne (.o1 (.fld 6) (.var 0)) (.o1 (.fld 6) (.var 1)))
       (.ret [(.bool false)])
       (.ret [(.bool true)]))))))))
theorem sig_57 : sigOf Tryz.prog md 57 [] = some ([.st [(.int .i64), (.int .i64), (.int .i64), (.int .i64), (.int .i64), (.int .i64), (.int .i64)], .st [(.int .i64), (.int .i64), (.int .i64), (.int .i64), (.int .i64), (.int .i64), (.int .i64)]], [.sc .bool], tree_57) := by kernel_rfl
/- laws.eqGuard -/
def tree_58 : T :=
(.br (.o2 .ne (.o1 (.fld 0) (.var 0)) (.o1 (.fld 0) (.var 1)))
 (.ret [(.bool false)])
 (.br (.o2 .ne (.o1 (.fld 1) (.var 0)) (.o1 (.fld 1) (.var 1)))
  (.ret [(.bool false)])
  (.ret [(.bool true)])))
theorem sig_58 : sigOf Tryz.prog md 58 [] = some ([.st [(.int .i64), (.int .i64)], .st [(.int .i64), (.int .i64)]], [.sc .bool], tree_58) := by kernel_rfl
/- laws.eqEvent -/
def tree_103 : T :=
(.br (.o2 .ne (.o1 (.fld 0) (.var 0)) (.o1 (.fld 0) (.var 1)))
 (.ret [(.bool false)])
 (.br (.o2 .ne (.o1 (.fld 1) (.var 0)) (.o1 (.fld 1) (.var 1)))
  (.ret [(.bool false)])
  (.br (.o2 .ne (.o1 (.fld 2) (.var 0)) (.o1 (.fld 2) (.var 1)))
   (.ret [(.bool false)])
   (.br (.o2 .ne (.o1 (.fld 3) (.var 0)) (.o1 (.fld 3) (.var 1)))
    (.ret [(.bool false)])
    (.br (.o2 .ne (.o1 (.fld 4) (.var 0)) (.o1 (.fld 4) (.var 1)))
     (.ret [(.bool false)])
     (.br (.o2 .ne (.o1 (.fld 5) (.var 0)) (.o1 (.fld 5) (.var 1)))
      (.ret [(.bool false)])
      (.br (.o2 .bne (.o1 (.fld 6) (.var 0)) (.o1 (.fld 6) (.var 1)))
       (.ret [(.bool false)])
       (.ret [(.bool true)]))))))))
theorem sig_103 : sigOf Tryz.prog md 103 [] = some ([.st [(.int .i64), (.int .i64), (.int .i64), (.int .i64), (.int .i64), (.int .i64), .bool], .st [(.int .i64), (.int .i64), (.int .i64), (.int .i64), (.int .i64), (.int .i64), .bool]], [.sc .bool], tree_103) := by kernel_rfl
/- laws.eqEventS -/
def tree_86 : T :=
(.know (.var 0)
(.know (.var 1)
(.br (.o2 .ne (.o1 .len (.var 0)) (.o1 .len (.var 1)))
 (.ret [(.bool false)])
 (.loop 0 [(.int 0)]
  (.know (.var 0)
  (.br (.o2 .lt (.var 2) (.o1 .len (.var 0)))
   (.need [] (.o2 .le (.int 0) (.var 2))
   (.need [] (.o2 .lt (.var 2) (.o1 .len (.var 0)))
   (.need [] (.o2 .le (.int 0) (.var 2))
   (.need [] (.o2 .lt (.var 2) (.o1 .len (.var 1)))
   (.call [] (.fn 103) [.st [(.int .i64), (.int .i64), (.int .i64), (.int .i64), (.int .i64), (.int .i64), .bool] (.o2 .cons (.o1 (.fld 0) (.o2 .idx (.var 0) (.var 2))) (.o2 .cons (.o1 (.fld 1) (.o2 .idx (.var 0) (.var 2))) (.o2 .cons (.o1 (.fld 2) (.o2 .idx (.var 0) (.var 2))) (.o2 .cons (.o1 (.fld 3) (.o2 .idx (.var 0) (.var 2))) (.o2 .cons (.o1 (.fld 4) (.o2 .idx (.var 0) (.var 2))) (.o2 .cons (.o1 (.fld 5) (.o2 .idx (.var 0) (.var 2))) (.o2 .cons (.o1 (.fld 6) (.o2 .idx (.var 0) (.var 2))) .nil))))))), .st [(.int .i64), (.int .i64), (.int .i64), (.int .i64), (.int .i64), (.int .i64), .bool] (.o2 .cons (.o1 (.fld 0) (.o2 .idx (.var 1) (.var 2))) (.o2 .cons (.o1 (.fld 1) (.o2 .idx (.var 1) (.var 2))) (.o2 .cons (.o1 (.fld 2) (.o2 .idx (.var 1) (.var 2))) (.o2 .cons (.o1 (.fld 3) (.o2 .idx (.var 1) (.var 2))) (.o2 .cons (.o1 (.fld 4) (.o2 .idx (.var 1) (.var 2))) (.o2 .cons (.o1 (.fld 5) (.o2 .idx (.var 1) (.var 2))) (.o2 .cons (.o1 (.fld 6) (.o2 .idx (.var 1) (.var 2))) .nil)))))))] [.sc .bool]
   (.br (.o1 .not (.var 3))
    (.ret [(.bool false)])
    (.cont 0 [(.o2 (.add .i64) (.var 2) (.int 1))])))))))
   (.ret [(.bool true)])))))))
theorem sig_86 : sigOf Tryz.prog md 86 [] = some ([.sc (.sl [(.int .i64), (.int .i64), (.int .i64), (.int .i64), (.int .i64), (.int .i64), .bool]), .sc (.sl [(.int .i64), (.int .i64), (.int .i64), (.int .i64), (.int .i64), (.int .i64), .bool])], [.sc .bool], tree_86) := by kernel_rfl
/- laws.eqAct -/
def tree_59 : T :=
(.br (.o2 .ne (.o1 (.fld 0) (.var 0)) (.o1 (.fld 0) (.var 1)))
 (.ret [(.bool false)])
 (.br (.o2 .ne (.o1 (.fld 1) (.var 0)) (.o1 (.fld 1) (.var 1)))
  (.ret [(.bool false)])
  (.br (.o2 .ne (.o1 (.fld 2) (.var 0)) (.o1 (.fld 2) (.var 1)))
   (.ret [(.bool false)])
   (.br (.o2 .ne (.o1 (.fld 3) (.var 0)) (.o1 (.fld 3) (.var 1)))
    (.ret [(.bool false)])
    (.br (.o2 .ne (.o1 (.fld 4) (.var 0)) (.o1 (.fld 4) (.var 1)))
     (.ret [(.bool false)])
     (.br (.o2 .bne (.o1 (.fld 5) (.var 0)) (.o1 (.fld 5) (.var 1)))
      (.ret [(.bool false)])
      (.call [] (.fn 86) [.sc (.sl [(.int .i64), (.int .i64), (.int .i64), (.int .i64), (.int .i64), (.int .i64), .bool]) (.o1 (.fld 6) (.var 0)), .sc (.sl [(.int .i64), (.int .i64), (.int .i64), (.int .i64), (.int .i64), (.int .i64), .bool]) (.o1 (.fld 6) (.var 1))] [.sc .bool]
      (.br (.o1 .not (.var 2))
       (.ret [(.bool false)])
       (.ret [(.bool true)])))))))))
theorem sig_59 : sigOf Tryz.prog md 59 [] = some ([.st [(.int .i64), (.int .i64), (.int .i64), (.int .i64), (.int .i64), .bool, (.sl [(.int .i64), (.int .i64), (.int .i64), (.int .i64), (.int .i64), (.int .i64), .bool])], .st [(.int .i64), (.int .i64), (.int .i64), (.int .i64), (.int .i64), .bool, (.sl [(.int .i64), (.int .i64), (.int .i64), (.int .i64), (.int .i64), (.int .i64), .bool])]], [.sc .bool], tree_59) := by kernel_rfl
/- laws.eqEffect -/
def tree_34 : T :=
(.br (.o2 .ne (.o1 (.fld 0) (.var 0)) (.o1 (.fld 0) (.var 1)))
 (.ret [(.bool false)])
 (.br (.o2 .ne (.o1 (.fld 1) (.var 0)) (.o1 (.fld 1) (.var 1)))
  (.ret [(.bool false)])
  (.br (.o2 .ne (.o1 (.fld 2) (.var 0)) (.o1 (.fld 2) (.var 1)))
   (.ret [(.bool false)])
   (.br (.o2 .ne (.o1 (.fld 3) (.var 0)) (.o1 (.fld 3) (.var 1)))
    (.ret [(.bool false)])
    (.call [] (.fn 57) [.st [(.int .i64), (.int .i64), (.int .i64), (.int .i64), (.int .i64), (.int .i64), (.int .i64)] (.o2 .cons (.o1 (.fld 4) (.var 0)) (.o2 .cons (.o1 (.fld 5) (.var 0)) (.o2 .cons (.o1 (.fld 6) (.var 0)) (.o2 .cons (.o1 (.fld 7) (.var 0)) (.o2 .cons (.o1 (.fld 8) (.var 0)) (.o2 .cons (.o1 (.fld 9) (.var 0)) (.o2 .cons (.o1 (.fld 10) (.var 0)) .nil))))))), .st [(.int .i64), (.int .i64), (.int .i64), (.int .i64), (.int .i64), (.int .i64), (.int .i64)] (.o2 .cons (.o1 (.fld 4) (.var 1)) (.o2 .cons (.o1 (.fld 5) (.var 1)) (.o2 .cons (.o1 (.fld 6) (.var 1)) (.o2 .cons (.o1 (.fld 7) (.var 1)) (.o2 .cons (.o1 (.fld 8) (.var 1)) (.o2 .cons (.o1 (.fld 9) (.var 1)) (.o2 .cons (.o1 (.fld 10) (.var 1)) .nil)))))))] [.sc .bool]
    (.br (.o1 .not (.var 2))
     (.ret [(.bool false)])
     (.call [] (.fn 58) [.st [(.int .i64), (.int .i64)] (.o2 .cons (.o1 (.fld 11) (.var 0)) (.o2 .cons (.o1 (.fld 12) (.var 0)) .nil)), .st [(.int .i64), (.int .i64)] (.o2 .cons (.o1 (.fld 11) (.var 1)) (.o2 .cons (.o1 (.fld 12) (.var 1)) .nil))] [.sc .bool]
     (.br (.o1 .not (.var 3))
      (.ret [(.bool false)])
      (.call [] (.fn 59) [.st [(.int .i64), (.int .i64), (.int .i64), (.int .i64), (.int .i64), .bool, (.sl [(.int .i64), (.int .i64), (.int .i64), (.int .i64), (.int .i64), (.int .i64), .bool])] (.o2 .cons (.o1 (.fld 13) (.var 0)) (.o2 .cons (.o1 (.fld 14) (.var 0)) (.o2 .cons (.o1 (.fld 15) (.var 0)) (.o2 .cons (.o1 (.fld 16) (.var 0)) (.o2 .cons (.o1 (.fld 17) (.var 0)) (.o2 .cons (.o1 (.fld 18) (.var 0)) (.o2 .cons (.o1 (.fld 19) (.var 0)) .nil))))))), .st [(.int .i64), (.int .i64), (.int .i64), (.int .i64), (.int .i64), .bool, (.sl [(.int .i64), (.int .i64), (.int .i64), (.int .i64), (.int .i64), (.int .i64), .bool])] (.o2 .cons (.o1 (.fld 13) (.var 1)) (.o2 .cons (.o1 (.fld 14) (.var 1)) (.o2 .cons (.o1 (.fld 15) (.var 1)) (.o2 .cons (.o1 (.fld 16) (.var 1)) (.o2 .cons (.o1 (.fld 17) (.var 1)) (.o2 .cons (.o1 (.fld 18) (.var 1)) (.o2 .cons (.o1 (.fld 19) (.var 1)) .nil)))))))] [.sc .bool]
      (.br (.o1 .not (.var 4))
       (.ret [(.bool false)])
       (.br (.o2 .ne (.o1 (.fld 20) (.var 0)) (.o1 (.fld 20) (.var 1)))
        (.ret [(.bool false)])
        (.br (.o2 .ne (.o1 (.fld 21) (.var 0)) (.o1 (.fld 21) (.var 1)))
         (.ret [(.bool false)])
         (.ret [(.bool true)])))))))))))))
theorem sig_34 : sigOf Tryz.prog md 34 [] = some ([.st [(.int .i64), (.int .i64), (.int .i64), (.int .i64), (.int .i64), (.int .i64), (.int .i64), (.int .i64), (.int .i64), (.int .i64), (.int .i64), (.int .i64), (.int .i64), (.int .i64), (.int .i64), (.int .i64), (.int .i64), (.int .i64), .bool, (.sl [(.int .i64), (.int .i64), (.int .i64), (.int .i64), (.int .i64), (.int .i64), .bool]), (.int .i64), (.int .i64)], .st [(.int .i64), (.int .i64), (.int .i64), (.int .i64), (.int .i64), (.int .i64), (.int .i64), (.int .i64), (.int .i64), (.int .i64), (.int .i64), (.int .i64), (.int .i64), (.int .i64), (.int .i64), (.int .i64), (.int .i64), (.int .i64), .bool, (.sl [(.int .i64), (.int .i64), (.int .i64), (.int .i64), (.int .i64), (.int .i64), .bool]), (.int .i64), (.int .i64)]], [.sc .bool], tree_34) := by kernel_rfl
/- laws.eqEffectS -/
def tree_15 : T :=
(.know (.var 0)
(.know (.var 1)
(.br (.o2 .ne (.o1 .len (.var 0)) (.o1 .len (.var 1)))
 (.ret [(.bool false)])
 (.loop 0 [(.int 0)]
  (.know (.var 0)
  (.br (.o2 .lt (.var 2) (.o1 .len (.var 0)))
   (.need [] (.o2 .le (.int 0) (.var 2))
   (.need [] (.o2 .lt (.var 2) (.o1 .len (.var 0)))
   (.need [] (.o2 .le (.int 0) (.var 2))
   (.need [] (.o2 .lt (.var 2) (.o1 .len (.var 1)))
   (.call [] (.fn 34) [.st [(.int .i64), (.int .i64), (.int .i64), (.int .i64), (.int .i64), (.int .i64), (.int .i64), (.int .i64), (.int .i64), (.int .i64), (.int .i64), (.int .i64), (.int .i64), (.int .i64), (.int .i64), (.int .i64), (.int .i64), (.int .i64), .bool, (.sl [(.int .i64), (.int .i64), (.int .i64), (.int .i64), (.int .i64), (.int .i64), .bool]), (.int .i64), (.int .i64)] (.o2 .cons (.o1 (.fld 0) (.o2 .idx (.var 0) (.var 2))) (.o2 .cons (.o1 (.fld 1) (.o2 .idx (.var 0) (.var 2))) (.o2 .cons (.o1 (.fld 2) (.o2 .idx (.var 0) (.var 2))) (.o2 .cons (.o1 (.fld 3) (.o2 .idx (.var 0) (.var 2))) (.o2 .cons (.o1 (.fld 4) (.o2 .idx (.var 0) (.var 2))) (.o2 .cons (.o1 (.fld 5) (.o2 .idx (.var 0) (.var 2))) (.o2 .cons (.o1 (.fld 6) (.o2 .idx (.var 0) (.var 2))) (.o2 .cons (.o1 (.fld 7) (.o2 .idx (.var 0) (.var 2))) (.o2 .cons (.o1 (.fld 8) (.o2 .idx (.var 0) (.var 2))) (.o2 .cons (.o1 (.fld 9) (.o2 .idx (.var 0) (.var 2))) (.o2 .cons (.o1 (.fld 10) (.o2 .idx (.var 0) (.var 2))) (.o2 .cons (.o1 (.fld 11) (.o2 .idx (.var 0) (.var 2))) (.o2 .cons (.o1 (.fld 12) (.o2 .idx (.var 0) (.var 2))) (.o2 .cons (.o1 (.fld 13) (.o2 .idx (.var 0) (.var 2))) (.o2 .cons (.o1 (.fld 14) (.o2 .idx (.var 0) (.var 2))) (.o2 .cons (.o1 (.fld 15) (.o2 .idx (.var 0) (.var 2))) (.o2 .cons (.o1 (.fld 16) (.o2 .idx (.var 0) (.var 2))) (.o2 .cons (.o1 (.fld 17) (.o2 .idx (.var 0) (.var 2))) (.o2 .cons (.o1 (.fld 18) (.o2 .idx (.var 0) (.var 2))) (.o2 .cons (.o1 (.fld 19) (.o2 .idx (.var 0) (.var 2))) (.o2 .cons (.o1 (.fld 20) (.o2 .idx (.var 0) (.var 2))) (.o2 .cons (.o1 (.fld 21) (.o2 .idx (.var 0) (.var 2))) .nil)))))))))))))))))))))), .st [(.int .i64), (.int .i64), (.int .i64), (.int .i64), (.int .i64), (.int .i64), (.int .i64), (.int .i64), (.int .i64), (.int .i64), (.int .i64), (.int .i64), (.int .i64), (.int .i64), (.int .i64), (.int .i64), (.int .i64), (.int .i64), .bool, (.sl [(.int .i64), (.int .i64), (.int .i64), (.int .i64), (.int .i64), (.int .i64), .bool]), (.int .i64), (.int .i64)] (.o2 .cons (.o1 (.fld 0) (.o2 .idx (.var 1) (.var 2))) (.o2 .cons (.o1 (.fld 1) (.o2 .idx (.var 1) (.var 2))) (.o2 .cons (.o1 (.fld 2) (.o2 .idx (.var 1) (.var 2))) (.o2 .cons (.o1 (.fld 3) (.o2 .idx (.var 1) (.var 2))) (.o2 .cons (.o1 (.fld 4) (.o2 .idx (.var 1) (.var 2))) (.o2 .cons (.o1 (.fld 5) (.o2 .idx (.var 1) (.var 2))) (.o2 .cons (.o1 (.fld 6) (.o2 .idx (.var 1) (.var 2))) (.o2 .cons (.o1 (.fld 7) (.o2 .idx (.var 1) (.var 2))) (.o2 .cons (.o1 (.fld 8) (.o2 .idx (.var 1) (.var 2))) (.o2 .cons (.o1 (.fld 9) (.o2 .idx (.var 1) (.var 2))) (.o2 .cons (.o1 (.fld 10) (.o2 .idx (.var 1) (.var 2))) (.o2 .cons (.o1 (.fld 11) (.o2 .idx (.var 1) (.var 2))) (.o2 .cons (.o1 (.fld 12) (.o2 .idx (.var 1) (.var 2))) (.o2 .cons (.o1 (.fld 13) (.o2 .idx (.var 1) (.var 2))) (.o2 .cons (.o1 (.fld 14) (.o2 .idx (.var 1) (.var 2))) (.o2 .cons (.o1 (.fld 15) (.o2 .idx (.var 1) (.var 2))) (.o2 .cons (.o1 (.fld 16) (.o2 .idx (.var 1) (.var 2))) (.o2 .cons (.o1 (.fld 17) (.o2 .idx (.var 1) (.var 2))) (.o2 .cons (.o1 (.fld 18) (.o2 .idx (.var 1) (.var 2))) (.o2 .cons (.o1 (.fld 19) (.o2 .idx (.var 1) (.var 2))) (.o2 .cons (.o1 (.fld 20) (.o2 .idx (.var 1) (.var 2))) (.o2 .cons (.o1 (.fld 21) (.o2 .idx (.var 1) (.var 2))) .nil))))))))))))))))))))))] [.sc .bool]
   (.br (.o1 .not (.var 3))
    (.ret [(.bool false)])
    (.cont 0 [(.o2 (.add .i64) (.var 2) (.int 1))])))))))
   (.ret [(.bool true)])))))))
theorem sig_15 : sigOf Tryz.prog md 15 [] = some ([.sc (.sl [(.int .i64), (.int .i64), (.int .i64), (.int .i64), (.int .i64), (.int .i64), (.int .i64), (.int .i64), (.int .i64), (.int .i64), (.int .i64), (.int .i64), (.int .i64), (.int .i64), (.int .i64), (.int .i64), (.int .i64), (.int .i64), .bool, (.sl [(.int .i64), (.int .i64), (.int .i64), (.int .i64), (.int .i64), (.int .i64), .bool]), (.int .i64), (.int .i64)]), .sc (.sl [(.int .i64), (.int .i64), (.int .i64), (.int .i64), (.int .i64), (.int .i64), (.int .i64), (.int .i64), (.int .i64), (.int .i64), (.int .i64), (.int .i64), (.int .i64), (.int .i64), (.int .i64), (.int .i64), (.int .i64), (.int .i64), .bool, (.sl [(.int .i64), (.int .i64), (.int .i64), (.int .i64), (.int .i64), (.int .i64), .bool]), (.int .i64), (.int .i64)])], [.sc .bool], tree_15) := by kernel_rfl
/- laws.markPieceS -/
def tree_35 : T :=
(.loop 0 [(.var 1), (.int 0), (.var 0)]
 (.know (.var 4)
 (.br (.o2 .lt (.var 3) (.o1 .len (.var 4)))
  (.need [] (.o2 .le (.int 0) (.var 3))
  (.need [] (.o2 .lt (.var 3) (.o1 .len (.var 4)))
  (.need [] (.o2 .le (.int 0) (.var 3))
  (.need [] (.o2 .lt (.var 3) (.o1 .len (.o3 (.setC 0) (.var 4) (.var 3) (.var 2))))
  (.need [] (.o2 .le (.int 0) (.var 3))
  (.need [] (.o2 .lt (.var 3) (.o1 .len (.o3 (.setC 1) (.o3 (.setC 0) (.var 4) (.var 3) (.var 2)) (.var 3) (.o2 (.add .i64) (.var 2) (.int 1)))))
  (.need [] (.o2 .le (.int 0) (.var 3))
  (.need [] (.o2 .lt (.var 3) (.o1 .len (.o3 (.setC 2) (.o3 (.setC 1) (.o3 (.setC 0) (.var 4) (.var 3) (.var 2)) (.var 3) (.o2 (.add .i64) (.var 2) (.int 1))) (.var 3) (.o2 (.add .i64) (.o2 (.add .i64) (.var 2) (.int 1)) (.int 1)))))
  (.need [] (.o2 .le (.int 0) (.var 3))
  (.need [] (.o2 .lt (.var 3) (.o1 .len (.o3 (.setC 3) (.o3 (.setC 2) (.o3 (.setC 1) (.o3 (.setC 0) (.var 4) (.var 3) (.var 2)) (.var 3) (.o2 (.add .i64) (.var 2) (.int 1))) (.var 3) (.o2 (.add .i64) (.o2 (.add .i64) (.var 2) (.int 1)) (.int 1))) (.var 3) (.o2 (.add .i64) (.o2 (.add .i64) (.o2 (.add .i64) (.var 2) (.int 1)) (.int 1)) (.int 1)))))
  (.need [] (.o2 .le (.int 0) (.var 3))
  (.need [] (.o2 .lt (.var 3) (.o1 .len (.o3 (.setC 4) (.o3 (.setC 3) (.o3 (.setC 2) (.o3 (.setC 1) (.o3 (.setC 0) (.var 4) (.var 3) (.var 2)) (.var 3) (.o2 (.add .i64) (.var 2) (.int 1))) (.var 3) (.o2 (.add .i64) (.o2 (.add .i64) (.var 2) (.int 1)) (.int 1))) (.var 3) (.o2 (.add .i64) (.o2 (.add .i64) (.o2 (.add .i64) (.var 2) (.int 1)) (.int 1)) (.int 1))) (.var 3) (.o2 (.add .i64) (.o2 (.add .i64) (.o2 (.add .i64) (.o2 (.add .i64) (.var 2) (.int 1)) (.int 1)) (.int 1)) (.int 1)))))
  (.need [] (.o2 .le (.int 0) (.var 3))
  (.need [] (.o2 .lt (.var 3) (.o1 .len (.o3 (.setC 5) (.o3 (.setC 4) (.o3 (.setC 3) (.o3 (.setC 2) (.o3 (.setC 1) (.o3 (.setC 0) (.var 4) (.var 3) (.var 2)) (.var 3) (.o2 (.add .i64) (.var 2) (.int 1))) (.var 3) (.o2 (.add .i64) (.o2 (.add .i64) (.var 2) (.int 1)) (.int 1))) (.var 3) (.o2 (.add .i64) (.o2 (.add .i64) (.o2 (.add .i64) (.var 2) (.int 1)) (.int 1)) (.int 1))) (.var 3) (.o2 (.add .i64) (.o2 (.add .i64) (.o2 (.add .i64) (.o2 (.add .i64) (.var 2) (.int 1)) (.int 1)) (.int 1)) (.int 1))) (.var 3) (.o2 (.add .i64) (.o2 (.add .i64) (.o2 (.add .i64) (.o2 (.add .i64) (.o2 (.add .i64) (.var 2) (.int 1)) (.int 1)) (.int 1)) (.int 1)) (.int 1)))))
  (.need [] (.o2 .le (.int 0) (.var 3))
  (.need [] (.o2 .lt (.var 3) (.o1 .len (.o3 (.setC 6) (.o3 (.setC 5) (.o3 (.setC 4) (.o3 (.setC 3) (.o3 (.setC 2) (.o3 (.setC 1) (.o3 (.setC 0) (.var 4) (.var 3) (.var 2)) (.var 3) (.o2 (.add .i64) (.var 2) (.int 1))) (.var 3) (.o2 (.add .i64) (.o2 (.add .i64) (.var 2) (.int 1)) (.int 1))) (.var 3) (.o2 (.add .i64) (.o2 (.add .i64) (.o2 (.add .i64) (.var 2) (.int 1)) (.int 1)) (.int 1))) (.var 3) (.o2 (.add .i64) (.o2 (.add .i64) (.o2 (.add .i64) (.o2 (.add .i64) (.var 2) (.int 1)) (.int 1)) (.int 1)) (.int 1))) (.var 3) (.o2 (.add .i64) (.o2 (.add .i64) (.o2 (.add .i64) (.o2 (.add .i64) (.o2 (.add .i64) (.var 2) (.int 1)) (.int 1)) (.int 1)) (.int 1)) (.int 1))) (.var 3) (.o2 (.add .i64) (.o2 (.add .i64) (.o2 (.add .i64) (.o2 (.add .i64) (.o2 (.add .i64) (.o2 (.add .i64) (.var 2) (.int 1)) (.int 1)) (.int 1)) (.int 1)) (.int 1)) (.int 1)))))
  (.need [] (.o2 .le (.int 0) (.var 3))
  (.need [] (.o2 .lt (.var 3) (.o1 .len (.o3 (.setC 7) (.o3 (.setC 6) (.o3 (.setC 5) (.o3 (.setC 4) (.o3 (.setC 3) (.o3 (.setC 2) (.o3 (.setC 1) (.o3 (.setC 0) (.var 4) (.var 3) (.var 2)) (.var 3) (.o2 (.add .i64) (.var 2) (.int 1))) (.var 3) (.o2 (.add .i64) (.o2 (.add .i64) (.var 2) (.int 1)) (.int 1))) (.var 3) (.o2 (.add .i64) (.o2 (.add .i64) (.o2 (.add .i64) (.var 2) (.int 1)) (.int 1)) (.int 1))) (.var 3) (.o2 (.add .i64) (.o2 (.add .i64) (.o2 (.add .i64) (.o2 (.add .i64) (.var 2) (.int 1)) (.int 1)) (.int 1)) (.int 1))) (.var 3) (.o2 (.add .i64) (.o2 (.add .i64) (.o2 (.add .i64) (.o2 (.add .i64) (.o2 (.add .i64) (.var 2) (.int 1)) (.int 1)) (.int 1)) (.int 1)) (.int 1))) (.var 3) (.o2 (.add .i64) (.o2 (.add .i64) (.o2 (.add .i64) (.o2 (.add .i64) (.o2 (.add .i64) (.o2 (.add .i64) (.var 2) (.int 1)) (.int 1)) (.int 1)) (.int 1)) (.int 1)) (.int 1))) (.var 3) (.o2 (.add .i64) (.o2 (.add .i64) (.o2 (.add .i64) (.o2 (.add .i64) (.o2 (.add .i64) (.o2 (.add .i64) (.o2 (.add .i64) (.var 2) (.int 1)) (.int 1)) (.int 1)) (.int 1)) (.int 1)) (.int 1)) (.int 1)))))
  (.need [] (.o2 .le (.int 0) (.var 3))
  (.need [] (.o2 .lt (.var 3) (.o1 .len (.o3 (.setC 8) (.o3 (.setC 7) (.o3 (.setC 6) (.o3 (.setC 5) (.o3 (.setC 4) (.o3 (.setC 3) (.o3 (.setC 2) (.o3 (.setC 1) (.o3 (.setC 0) (.var 4) (.var 3) (.var 2)) (.var 3) (.o2 (.add .i64) (.var 2) (.int 1))) (.var 3) (.o2 (.add .i64) (.o2 (.add .i64) (.var 2) (.int 1)) (.int 1))) (.var 3) (.o2 (.add .i64) (.o2 (.add .i64) (.o2 (.add .i64) (.var 2) (.int 1)) (.int 1)) (.int 1))) (.var 3) (.o2 (.add .i64) (.o2 (.add .i64) (.o2 (.add .i64) (.o2 (.add .i64) (.var 2) (.int 1)) (.int 1)) (.int 1)) (.int 1))) (.var 3) (.o2 (.add .i64) (.o2 (.add .i64) (.o2 (.add .i64) (.o2 (.add .i64) (.o2 (.add .i64) (.var 2) (.int 1)) (.int 1)) (.int 1)) (.int 1)) (.int 1))) (.var 3) (.o2 (.add .i64) (.o2 (.add .i64) (.o2 (.add .i64) (.o2 (.add .i64) (.o2 (.add .i64) (.o2 (.add .i64) (.var 2) (.int 1)) (.int 1)) (.int 1)) (.int 1)) (.int 1)) (.int 1))) (.var 3) (.o2 (.add .i64) (.o2 (.add .i64) (.o2 (.add .i64) (.o2 (.add .i64) (.o2 (.add .i64) (.o2 (.add .i64) (.o2 (.add .i64) (.var 2) (.int 1)) (.int 1)) (.int 1)) (.int 1)) (.int 1)) (.int 1)) (.int 1))) (.var 3) (.o2 (.add .i64) (.o2 (.add .i64) (.o2 (.add .i64) (.o2 (.add .i64) (.o2 (.add .i64) (.o2 (.add .i64) (.o2 (.add .i64) (.o2 (.add .i64) (.var 2) (.int 1)) (.int 1)) (.int 1)) (.int 1)) (.int 1)) (.int 1)) (.int 1)) (.int 1)))))
  (.need [] (.o2 .le (.int 0) (.var 3))
  (.need [] (.o2 .lt (.var 3) (.o1 .len (.o3 (.setC 9) (.o3 (.setC 8) (.o3 (.setC 7) (.o3 (.setC 6) (.o3 (.setC 5) (.o3 (.setC 4) (.o3 (.setC 3) (.o3 (.setC 2) (.o3 (.setC 1) (.o3 (.setC 0) (.var 4) (.var 3) (.var 2)) (.var 3) (.o2 (.add .i64) (.var 2) (.int 1))) (.var 3) (.o2 (.add .i64) (.o2 (.add .i64) (.var 2) (.int 1)) (.int 1))) (.var 3) (.o2 (.add .i64) (.o2 (.add .i64) (.o2 (.add .i64) (.var 2) (.int 1)) (.int 1)) (.int 1))) (.var 3) (.o2 (.add .i64) (.o2 (.add .i64) (.o2 (.add .i64) (.o2 (.add .i64) (.var 2) (.int 1)) (.int 1)) (.int 1)) (.int 1))) (.var 3) (.o2 (.add .i64) (.o2 (.add .i64) (.o2 (.add .i64) (.o2 (.add .i64) (.o2 (.add .i64) (.var 2) (.int 1)) (.int 1)) (.int 1)) (.int 1)) (.int 1))) (.var 3) (.o2 (.add .i64) (.o2 (.add .i64) (.o2 (.add .i64) (.o2 (.add .i64) (.o2 (.add .i64) (.o2 (.add .i64) (.var 2) (.int 1)) (.int 1)) (.int 1)) (.int 1)) (.int 1)) (.int 1))) (.var 3) (.o2 (.add .i64) (.o2 (.add .i64) (.o2 (.add .i64) (.o2 (.add .i64) (.o2 (.add .i64) (.o2 (.add .i64) (.o2 (.add .i64) (.var 2) (.int 1)) (.int 1)) (.int 1)) (.int 1)) (.int 1)) (.int 1)) (.int 1))) (.var 3) (.o2 (.add .i64) (.o2 (.add .i64) (.o2 (.add .i64) (.o2 (.add .i64) (.o2 (.add .i64) (.o2 (.add .i64) (.o2 (.add .i64) (.o2 (.add .i64) (.var 2) (.int 1)) (.int 1)) (.int 1)) (.int 1)) (.int 1)) (.int 1)) (.int 1)) (.int 1))) (.var 3) (.o2 (.add .i64) (.o2 (.add .i64) (.o2 (.add .i64) (.o2 (.add .i64) (.o2 (.add .i64) (.o2 (.add .i64) (.o2 (.add .i64) (.o2 (.add .i64) (.o2 (.add .i64) (.var 2) (.int 1)) (.int 1)) (.int 1)) (.int 1)) (.int 1)) (.int 1)) (.int 1)) (.int 1)) (.int 1)))))
  (.need [] (.o2 .ne (.int 3) (.int 0))
  (.need [] (.o2 .le (.int 0) (.var 3))
  (.need [] (.o2 .lt (.var 3) (.o1 .len (.o3 (.setC 10) (.o3 (.setC 9) (.o3 (.setC 8) (.o3 (.setC 7) (.o3 (.setC 6) (.o3 (.setC 5) (.o3 (.setC 4) (.o3 (.setC 3) (.o3 (.setC 2) (.o3 (.setC 1) (.o3 (.setC 0) (.var 4) (.var 3) (.var 2)) (.var 3) (.o2 (.add .i64) (.var 2) (.int 1))) (.var 3) (.o2 (.add .i64) (.o2 (.add .i64) (.var 2) (.int 1)) (.int 1))) (.var 3) (.o2 (.add .i64) (.o2 (.add .i64) (.o2 (.add .i64) (.var 2) (.int 1)) (.int 1)) (.int 1))) (.var 3) (.o2 (.add .i64) (.o2 (.add .i64) (.o2 (.add .i64) (.o2 (.add .i64) (.var 2) (.int 1)) (.int 1)) (.int 1)) (.int 1))) (.var 3) (.o2 (.add .i64) (.o2 (.add .i64) (.o2 (.add .i64) (.o2 (.add .i64) (.o2 (.add .i64) (.var 2) (.int 1)) (.int 1)) (.int 1)) (.int 1)) (.int 1))) (.var 3) (.o2 (.add .i64) (.o2 (.add .i64) (.o2 (.add .i64) (.o2 (.add .i64) (.o2 (.add .i64) (.o2 (.add .i64) (.var 2) (.int 1)) (.int 1)) (.int 1)) (.int 1)) (.int 1)) (.int 1))) (.var 3) (.o2 (.add .i64) (.o2 (.add .i64) (.o2 (.add .i64) (.o2 (.add .i64) (.o2 (.add .i64) (.o2 (.add .i64) (.o2 (.add .i64) (.var 2) (.int 1)) (.int 1)) (.int 1)) (.int 1)) (.int 1)) (.int 1)) (.int 1))) (.var 3) (.o2 (.add .i64) (.o2 (.add .i64) (.o2 (.add .i64) (.o2 (.add .i64) (.o2 (.add .i64) (.o2 (.add .i64) (.o2 (.add .i64) (.o2 (.add .i64) (.var 2) (.int 1)) (.int 1)) (.int 1)) (.int 1)) (.int 1)) (.int 1)) (.int 1)) (.int 1))) (.var 3) (.o2 (.add .i64) (.o2 (.add .i64) (.o2 (.add .i64) (.o2 (.add .i64) (.o2 (.add .i64) (.o2 (.add .i64) (.o2 (.add .i64) (.o2 (.add .i64) (.o2 (.add .i64) (.var 2) (.int 1)) (.int 1)) (.int 1)) (.int 1)) (.int 1)) (.int 1)) (.int 1)) (.int 1)) (.int 1))) (.var 3) (.o2 (.add .i64) (.o2 (.add .i64) (.o2 (.add .i64) (.o2 (.add .i64) (.o2 (.add .i64) (.o2 (.add .i64) (.o2 (.add .i64) (.o2 (.add .i64) (.o2 (.add .i64) (.o2 (.add .i64) (.var 2) (.int 1)) (.int 1)) (.int 1)) (.int 1)) (.int 1)) (.int 1)) (.int 1)) (.int 1)) (.int 1)) (.int 1)))))
  (.need [] (.o2 .ne (.int 3) (.int 0))
  (.need [] (.o2 .le (.int 0) (.var 3))
  (.need [] (.o2 .lt (.var 3) (.o1 .len (.o3 (.setC 11) (.o3 (.setC 10) (.o3 (.setC 9) (.o3 (.setC 8) (.o3 (.setC 7) (.o3 (.setC 6) (.o3 (.setC 5) (.o3 (.setC 4) (.o3 (.setC 3) (.o3 (.setC 2) (.o3 (.setC 1) (.o3 (.setC 0) (.var 4) (.var 3) (.var 2)) (.var 3) (.o2 (.add .i64) (.var 2) (.int 1))) (.var 3) (.o2 (.add .i64) (.o2 (.add .i64) (.var 2) (.int 1)) (.int 1))) (.var 3) (.o2 (.add .i64) (.o2 (.add .i64) (.o2 (.add .i64) (.var 2) (.int 1)) (.int 1)) (.int 1))) (.var 3) (.o2 (.add .i64) (.o2 (.add .i64) (.o2 (.add .i64) (.o2 (.add .i64) (.var 2) (.int 1)) (.int 1)) (.int 1)) (.int 1))) (.var 3) (.o2 (.add .i64) (.o2 (.add .i64) (.o2 (.add .i64) (.o2 (.add .i64) (.o2 (.add .i64) (.var 2) (.int 1)) (.int 1)) (.int 1)) (.int 1)) (.int 1))) (.var 3) (.o2 (.add .i64) (.o2 (.add .i64) (.o2 (.add .i64) (.o2 (.add .i64) (.o2 (.add .i64) (.o2 (.add .i64) (.var 2) (.int 1)) (.int 1)) (.int 1)) (.int 1)) (.int 1)) (.int 1))) (.var 3) (.o2 (.add .i64) (.o2 (.add .i64) (.o2 (.add .i64) (.o2 (.add .i64) (.o2 (.add .i64) (.o2 (.add .i64) (.o2 (.add .i64) (.var 2) (.int 1)) (.int 1)) (.int 1)) (.int 1)) (.int 1)) (.int 1)) (.int 1))) (.var 3) (.o2 (.add .i64) (.o2 (.add .i64) (.o2 (.add .i64) (.o2 (.add .i64) (.o2 (.add .i64) (.o2 (.add .i64) (.o2 (.add .i64) (.o2 (.add .i64) (.var 2) (.int 1)) (.int 1)) (.int 1)) (.int 1)) (.int 1)) (.int 1)) (.int 1)) (.int 1))) (.var 3) (.o2 (.add .i64) (.o2 (.add .i64) (.o2 (.add .i64) (.o2 (.add .i64) (.o2 (.add .i64) (.o2 (.add .i64) (.o2 (.add .i64) (.o2 (.add .i64) (.o2 (.add .i64) (.var 2) (.int 1)) (.int 1)) (.int 1)) (.int 1)) (.int 1)) (.int 1)) (.int 1)) (.int 1)) (.int 1))) (.var 3) (.o2 (.add .i64) (.o2 (.add .i64) (.o2 (.add .i64) (.o2 (.add .i64) (.o2 (.add .i64) (.o2 (.add .i64) (.o2 (.add .i64) (.o2 (.add .i64) (.o2 (.add .i64) (.o2 (.add .i64) (.var 2) (.int 1)) (.int 1)) (.int 1)) (.int 1)) (.int 1)) (.int 1)) (.int 1)) (.int 1)) (.int 1)) (.int 1))) (.var 3) (.o2 .eq (.o2 .rem (.o2 (.add .i64) (.o2 (.add .i64) (.o2 (.add .i64) (.o2 (.add .i64) (.o2 (.add .i64) (.o2 (.add .i64) (.o2 (.add .i64) (.o2 (.add .i64) (.o2 (.add .i64) (.o2 (.add .i64) (.o2 (.add .i64) (.var 2) (.int 1)) (.int 1)) (.int 1)) (.int 1)) (.int 1)) (.int 1)) (.int 1)) (.int 1)) (.int 1)) (.int 1)) (.int 1)) (.int 3)) (.int 0)))))
  (.cont 0 [(.o2 (.add .i64) (.o2 (.add .i64) (.o2 (.add .i64) (.o2 (.add .i64) (.o2 (.add .i64) (.o2 (.add .i64) (.o2 (.add .i64) (.o2 (.add .i64) (.o2 (.add .i64) (.o2 (.add .i64) (.o2 (.add .i64) (.o2 (.add .i64) (.o2 (.add .i64) (.var 2) (.int 1)) (.int 1)) (.int 1)) (.int 1)) (.int 1)) (.int 1)) (.int 1)) (.int 1)) (.int 1)) (.int 1)) (.int 1)) (.int 1)) (.int 1)), (.o2 (.add .i64) (.var 3) (.int 1)), (.o3 (.setC 12) (.o3 (.setC 11) (.o3 (.setC 10) (.o3 (.setC 9) (.o3 (.setC 8) (.o3 (.setC 7) (.o3 (.setC 6) (.o3 (.setC 5) (.o3 (.setC 4) (.o3 (.setC 3) (.o3 (.setC 2) (.o3 (.setC 1) (.o3 (.setC 0) (.var 4) (.var 3) (.var 2)) (.var 3) (.o2 (.add .i64) (.var 2) (.int 1))) (.var 3) (.o2 (.add .i64) (.o2 (.add .i64) (.var 2) (.int 1)) (.int 1))) (.var 3) (.o2 (.add .i64) (.o2 (.add .i64) (.o2 (.add .i64) (.var 2) (.int 1)) (.int 1)) (.int 1))) (.var 3) (.o2 (.add .i64) (.o2 (.add .i64) (.o2 (.add .i64) (.o2 (.add .i64) (.var 2) (.int 1)) (.int 1)) (.int 1)) (.int 1))) (.var 3) (.o2 (.add .i64) (.o2 (.add .i64) (.o2 (.add .i64) (.o2 (.add .i64) (.o2 (.add .i64) (.var 2) (.int 1)) (.int 1)) (.int 1)) (.int 1)) (.int 1))) (.var 3) (.o2 (.add .i64) (.o2 (.add .i64) (.o2 (.add .i64) (.o2 (.add .i64) (.o2 (.add .i64) (.o2 (.add .i64) (.var 2) (.int 1)) (.int 1)) (.int 1)) (.int 1)) (.int 1)) (.int 1))) (.var 3) (.o2 (.add .i64) (.o2 (.add .i64) (.o2 (.add .i64) (.o2 (.add .i64) (.o2 (.add .i64) (.o2 (.add .i64) (.o2 (.add .i64) (.var 2) (.int 1)) (.int 1)) (.int 1)) (.int 1)) (.int 1)) (.int 1)) (.int 1))) (.var 3) (.o2 (.add .i64) (.o2 (.add .i64) (.o2 (.add .i64) (.o2 (.add .i64) (.o2 (.add .i64) (.o2 (.add .i64) (.o2 (.add .i64) (.o2 (.add .i64) (.var 2) (.int 1)) (.int 1)) (.int 1)) (.int 1)) (.int 1)) (.int 1)) (.int 1)) (.int 1))) (.var 3) (.o2 (.add .i64) (.o2 (.add .i64) (.o2 (.add .i64) (.o2 (.add .i64) (.o2 (.add .i64) (.o2 (.add .i64) (.o2 (.add .i64) (.o2 (.add .i64) (.o2 (.add .i64) (.var 2) (.int 1)) (.int 1)) (.int 1)) (.int 1)) (.int 1)) (.int 1)) (.int 1)) (.int 1)) (.int 1))) (.var 3) (.o2 (.add .i64) (.o2 (.add .i64) (.o2 (.add .i64) (.o2 (.add .i64) (.o2 (.add .i64) (.o2 (.add .i64) (.o2 (.add .i64) (.o2 (.add .i64) (.o2 (.add .i64) (.o2 (.add .i64) (.var 2) (.int 1)) (.int 1)) (.int 1)) (.int 1)) (.int 1)) (.int 1)) (.int 1)) (.int 1)) (.int 1)) (.int 1))) (.var 3) (.o2 .eq (.o2 .rem (.o2 (.add .i64) (.o2 (.add .i64) (.o2 (.add .i64) (.o2 (.add .i64) (.o2 (.add .i64) (.o2 (.add .i64) (.o2 (.add .i64) (.o2 (.add .i64) (.o2 (.add .i64) (.o2 (.add .i64) (.o2 (.add .i64) (.var 2) (.int 1)) (.int 1)) (.int 1)) (.int 1)) (.int 1)) (.int 1)) (.int 1)) (.int 1)) (.int 1)) (.int 1)) (.int 1)) (.int 3)) (.int 0))) (.var 3) (.o2 .eq (.o2 .rem (.o2 (.add .i64) (.o2 (.add .i64) (.o2 (.add .i64) (.o2 (.add .i64) (.o2 (.add .i64) (.o2 (.add .i64) (.o2 (.add .i64) (.o2 (.add .i64) (.o2 (.add .i64) (.o2 (.add .i64) (.o2 (.add .i64) (.o2 (.add .i64) (.var 2) (.int 1)) (.int 1)) (.int 1)) (.int 1)) (.int 1)) (.int 1)) (.int 1)) (.int 1)) (.int 1)) (.int 1)) (.int 1)) (.int 1)) (.int 3)) (.int 0)))])))))))))))))))))))))))))))))
  (.ret [(.var 2), (.var 4)]))))
theorem sig_35 : sigOf Tryz.prog md 35 [] = some ([.row [(.int .i64), (.int .i64), (.int .i64), (.int .i64), (.int .i64), (.int .i64), (.int .i64), (.int .i64), (.int .i64), (.int .i64), (.int .i64), .bool, .bool], .sc (.int .i64)], [.sc (.int .i64)], tree_35) := by kernel_rfl
/- laws.markSideS -/
def tree_36 : T :=
(.loop 0 [(.var 1), (.int 0), (.var 0)]
 (.know (.var 4)
 (.br (.o2 .lt (.var 3) (.o1 .len (.var 4)))
  (.need [] (.o2 .le (.int 0) (.var 3))
  (.need [] (.o2 .lt (.var 3) (.o1 .len (.var 4)))
  (.need [] (.o2 .le (.int 0) (.var 3))
  (.need [] (.o2 .lt (.var 3) (.o1 .len (.o3 (.setC 0) (.var 4) (.var 3) (.var 2))))
  (.need [] (.o2 .ne (.int 3) (.int 0))
  (.need [] (.o2 .le (.int 0) (.var 3))
  (.need [] (.o2 .lt (.var 3) (.o1 .len (.o3 (.setC 1) (.o3 (.setC 0) (.var 4) (.var 3) (.var 2)) (.var 3) (.o2 (.add .i64) (.var 2) (.int 1)))))
  (.cont 0 [(.o2 (.add .i64) (.o2 (.add .i64) (.o2 (.add .i64) (.var 2) (.int 1)) (.int 1)) (.int 1)), (.o2 (.add .i64) (.var 3) (.int 1)), (.o3 (.setC 2) (.o3 (.setC 1) (.o3 (.setC 0) (.var 4) (.var 3) (.var 2)) (.var 3) (.o2 (.add .i64) (.var 2) (.int 1))) (.var 3) (.o2 .eq (.o2 .rem (.o2 (.add .i64) (.o2 (.add .i64) (.var 2) (.int 1)) (.int 1)) (.int 3)) (.int 0)))]))))))))
  (.ret [(.var 2), (.var 4)]))))
theorem sig_36 : sigOf Tryz.prog md 36 [] = some ([.row [(.int .i64), (.int .i64), .bool], .sc (.int .i64)], [.sc (.int .i64)], tree_36) := by kernel_rfl
/- laws.markState -/
def tree_16 : T :=
(.call [] (.fn 35) [.row [(.int .i64), (.int .i64), (.int .i64), (.int .i64), (.int .i64), (.int .i64), (.int .i64), (.int .i64), (.int .i64), (.int .i64), (.int .i64), .bool, .bool] (.o1 (.fld 0) (.var 0)), .sc (.int .i64) (.var 1)] [.sc (.int .i64)]
(.call [] (.fn 36) [.row [(.int .i64), (.int .i64), .bool] (.o1 (.fld 1) (.var 0)), .sc (.int .i64) (.var 2)] [.sc (.int .i64)]
(.ret [(.var 4), (.o2 .cons (.var 3) (.o2 .cons (.var 5) (.o2 .cons (.o1 (.fld 2) (.var 0)) (.o2 .cons (.o1 (.fld 3) (.var 0)) .nil))))])))
theorem sig_16 : sigOf Tryz.prog md 16 [] = some ([.stw [(.sl [(.int .i64), (.int .i64), (.int .i64), (.int .i64), (.int .i64), (.int .i64), (.int .i64), (.int .i64), (.int .i64), (.int .i64), (.int .i64), .bool, .bool]), (.sl [(.int .i64), (.int .i64), .bool]), (.int .i64), (.int .i64)], .sc (.int .i64)], [.sc (.int .i64)], tree_16) := by kernel_rfl
/- laws.markEventS -/
def tree_37 : T :=
(.loop 0 [(.var 1), (.int 0), (.var 0)]
 (.know (.var 4)
 (.br (.o2 .lt (.var 3) (.o1 .len (.var 4)))
  (.need [] (.o2 .le (.int 0) (.var 3))
  (.need [] (.o2 .lt (.var 3) (.o1 .len (.var 4)))
  (.need [] (.o2 .le (.int 0) (.var 3))
  (.need [] (.o2 .lt (.var 3) (.o1 .len (.o3 (.setC 0) (.var 4) (.var 3) (.var 2))))
  (.need [] (.o2 .le (.int 0) (.var 3))
  (.need [] (.o2 .lt (.var 3) (.o1 .len (.o3 (.setC 1) (.o3 (.setC 0) (.var 4) (.var 3) (.var 2)) (.var 3) (.o2 (.add .i64) (.var 2) (.int 1)))))
  (.need [] (.o2 .le (.int 0) (.var 3))
  (.need [] (.o2 .lt (.var 3) (.o1 .len (.o3 (.setC 2) (.o3 (.setC 1) (.o3 (.setC 0) (.var 4) (.var 3) (.var 2)) (.var 3) (.o2 (.add .i64) (.var 2) (.int 1))) (.var 3) (.o2 (.add .i64) (.o2 (.add .i64) (.var 2) (.int 1)) (.int 1)))))
  (.need [] (.o2 .le (.int 0) (.var 3))
  (.need [] (.o2 .lt (.var 3) (.o1 .len (.o3 (.setC 3) (.o3 (.setC 2) (.o3 (.setC 1) (.o3 (.setC 0) (.var 4) (.var 3) (.var 2)) (.var 3) (.o2 (.add .i64) (.var 2) (.int 1))) (.var 3) (.o2 (.add .i64) (.o2 (.add .i64) (.var 2) (.int 1)) (.int 1))) (.var 3) (.o2 (.add .i64) (.o2 (.add .i64) (.o2 (.add .i64) (.var 2) (.int 1)) (.int 1)) (.int 1)))))
  (.need [] (.o2 .le (.int 0) (.var 3))
  (.need [] (.o2 .lt (.var 3) (.o1 .len (.o3 (.setC 4) (.o3 (.setC 3) (.o3 (.setC 2) (.o3 (.setC 1) (.o3 (.setC 0) (.var 4) (.var 3) (.var 2)) (.var 3) (.o2 (.add .i64) (.var 2) (.int 1))) (.var 3) (.o2 (.add .i64) (.o2 (.add .i64) (.var 2) (.int 1)) (.int 1))) (.var 3) (.o2 (.add .i64) (.o2 (.add .i64) (.o2 (.add .i64) (.var 2) (.int 1)) (.int 1)) (.int 1))) (.var 3) (.o2 (.add .i64) (.o2 (.add .i64) (.o2 (.add .i64) (.o2 (.add .i64) (.var 2) (.int 1)) (.int 1)) (.int 1)) (.int 1)))))
  (.need [] (.o2 .ne (.int 3) (.int 0))
  (.need [] (.o2 .le (.int 0) (.var 3))
  (.need [] (.o2 .lt (.var 3) (.o1 .len (.o3 (.setC 5) (.o3 (.setC 4) (.o3 (.setC 3) (.o3 (.setC 2) (.o3 (.setC 1) (.o3 (.setC 0) (.var 4) (.var 3) (.var 2)) (.var 3) (.o2 (.add .i64) (.var 2) (.int 1))) (.var 3) (.o2 (.add .i64) (.o2 (.add .i64) (.var 2) (.int 1)) (.int 1))) (.var 3) (.o2 (.add .i64) (.o2 (.add .i64) (.o2 (.add .i64) (.var 2) (.int 1)) (.int 1)) (.int 1))) (.var 3) (.o2 (.add .i64) (.o2 (.add .i64) (.o2 (.add .i64) (.o2 (.add .i64) (.var 2) (.int 1)) (.int 1)) (.int 1)) (.int 1))) (.var 3) (.o2 (.add .i64) (.o2 (.add .i64) (.o2 (.add .i64) (.o2 (.add .i64) (.o2 (.add .i64) (.var 2) (.int 1)) (.int 1)) (.int 1)) (.int 1)) (.int 1)))))
  (.cont 0 [(.o2 (.add .i64) (.o2 (.add .i64) (.o2 (.add .i64) (.o2 (.add .i64) (.o2 (.add .i64) (.o2 (.add .i64) (.o2 (.add .i64) (.var 2) (.int 1)) (.int 1)) (.int 1)) (.int 1)) (.int 1)) (.int 1)) (.int 1)), (.o2 (.add .i64) (.var 3) (.int 1)), (.o3 (.setC 6) (.o3 (.setC 5) (.o3 (.setC 4) (.o3 (.setC 3) (.o3 (.setC 2) (.o3 (.setC 1) (.o3 (.setC 0) (.var 4) (.var 3) (.var 2)) (.var 3) (.o2 (.add .i64) (.var 2) (.int 1))) (.var 3) (.o2 (.add .i64) (.o2 (.add .i64) (.var 2) (.int 1)) (.int 1))) (.var 3) (.o2 (.add .i64) (.o2 (.add .i64) (.o2 (.add .i64) (.var 2) (.int 1)) (.int 1)) (.int 1))) (.var 3) (.o2 (.add .i64) (.o2 (.add .i64) (.o2 (.add .i64) (.o2 (.add .i64) (.var 2) (.int 1)) (.int 1)) (.int 1)) (.int 1))) (.var 3) (.o2 (.add .i64) (.o2 (.add .i64) (.o2 (.add .i64) (.o2 (.add .i64) (.o2 (.add .i64) (.var 2) (.int 1)) (.int 1)) (.int 1)) (.int 1)) (.int 1))) (.var 3) (.o2 .eq (.o2 .rem (.o2 (.add .i64) (.o2 (.add .i64) (.o2 (.add .i64) (.o2 (.add .i64) (.o2 (.add .i64) (.o2 (.add .i64) (.var 2) (.int 1)) (.int 1)) (.int 1)) (.int 1)) (.int 1)) (.int 1)) (.int 3)) (.int 0)))]))))))))))))))))
  (.ret [(.var 2), (.var 4)]))))
theorem sig_37 : sigOf Tryz.prog md 37 [] = some ([.row [(.int .i64), (.int .i64), (.int .i64), (.int .i64), (.int .i64), (.int .i64), .bool], .sc (.int .i64)], [.sc (.int .i64)], tree_37) := by kernel_rfl
/- laws.markEffectS -/
def tree_17 : T :=
(.loop 0 [(.var 1), (.int 0), (.var 0)]
 (.know (.var 4)
 (.br (.o2 .lt (.var 3) (.o1 .len (.var 4)))
  (.need [] (.o2 .le (.int 0) (.var 3))
  (.need [] (.o2 .lt (.var 3) (.o1 .len (.var 4)))
  (.need [] (.o2 .le (.int 0) (.var 3))
  (.need [] (.o2 .lt (.var 3) (.o1 .len (.o3 (.setC 0) (.var 4) (.var 3) (.var 2))))
  (.need [] (.o2 .le (.int 0) (.var 3))
  (.need [] (.o2 .lt (.var 3) (.o1 .len (.o3 (.setC 1) (.o3 (.setC 0) (.var 4) (.var 3) (.var 2)) (.var 3) (.o2 (.add .i64) (.var 2) (.int 1)))))
  (.need [] (.o2 .le (.int 0) (.var 3))
  (.need [] (.o2 .lt (.var 3) (.o1 .len (.o3 (.setC 2) (.o3 (.setC 1) (.o3 (.setC 0) (.var 4) (.var 3) (.var 2)) (.var 3) (.o2 (.add .i64) (.var 2) (.int 1))) (.var 3) (.o2 (.add .i64) (.o2 (.add .i64) (.var 2) (.int 1)) (.int 1)))))
  (.need [] (.o2 .le (.int 0) (.var 3))
  (.need [] (.o2 .lt (.var 3) (.o1 .len (.o3 (.setC 3) (.o3 (.setC 2) (.o3 (.setC 1) (.o3 (.setC 0) (.var 4) (.var 3) (.var 2)) (.var 3) (.o2 (.add .i64) (.var 2) (.int 1))) (.var 3) (.o2 (.add .i64) (.o2 (.add .i64) (.var 2) (.int 1)) (.int 1))) (.var 3) (.o2 (.add .i64) (.o2 (.add .i64) (.o2 (.add .i64) (.var 2) (.int 1)) (.int 1)) (.int 1)))))
  (.need [] (.o2 .le (.int 0) (.var 3))
  (.need [] (.o2 .lt (.var 3) (.o1 .len (.o3 (.setC 4) (.o3 (.setC 3) (.o3 (.setC 2) (.o3 (.setC 1) (.o3 (.setC 0) (.var 4) (.var 3) (.var 2)) (.var 3) (.o2 (.add .i64) (.var 2) (.int 1))) (.var 3) (.o2 (.add .i64) (.o2 (.add .i64) (.var 2) (.int 1)) (.int 1))) (.var 3) (.o2 (.add .i64) (.o2 (.add .i64) (.o2 (.add .i64) (.var 2) (.int 1)) (.int 1)) (.int 1))) (.var 3) (.o2 (.add .i64) (.o2 (.add .i64) (.o2 (.add .i64) (.o2 (.add .i64) (.var 2) (.int 1)) (.int 1)) (.int 1)) (.int 1)))))
  (.need [] (.o2 .le (.int 0) (.var 3))
  (.need [] (.o2 .lt (.var 3) (.o1 .len (.o3 (.setC 5) (.o3 (.setC 4) (.o3 (.setC 3) (.o3 (.setC 2) (.o3 (.setC 1) (.o3 (.setC 0) (.var 4) (.var 3) (.var 2)) (.var 3) (.o2 (.add .i64) (.var 2) (.int 1))) (.var 3) (.o2 (.add .i64) (.o2 (.add .i64) (.var 2) (.int 1)) (.int 1))) (.var 3) (.o2 (.add .i64) (.o2 (.add .i64) (.o2 (.add .i64) (.var 2) (.int 1)) (.int 1)) (.int 1))) (.var 3) (.o2 (.add .i64) (.o2 (.add .i64) (.o2 (.add .i64) (.o2 (.add .i64) (.var 2) (.int 1)) (.int 1)) (.int 1)) (.int 1))) (.var 3) (.o2 (.add .i64) (.o2 (.add .i64) (.o2 (.add .i64) (.o2 (.add .i64) (.o2 (.add .i64) (.var 2) (.int 1)) (.int 1)) (.int 1)) (.int 1)) (.int 1)))))
  (.need [] (.o2 .le (.int 0) (.var 3))
  (.need [] (.o2 .lt (.var 3) (.o1 .len (.o3 (.setC 6) (.o3 (.setC 5) (.o3 (.setC 4) (.o3 (.setC 3) (.o3 (.setC 2) (.o3 (.setC 1) (.o3 (.setC 0) (.var 4) (.var 3) (.var 2)) (.var 3) (.o2 (.add .i64) (.var 2) (.int 1))) (.var 3) (.o2 (.add .i64) (.o2 (.add .i64) (.var 2) (.int 1)) (.int 1))) (.var 3) (.o2 (.add .i64) (.o2 (.add .i64) (.o2 (.add .i64) (.var 2) (.int 1)) (.int 1)) (.int 1))) (.var 3) (.o2 (.add .i64) (.o2 (.add .i64) (.o2 (.add .i64) (.o2 (.add .i64) (.var 2) (.int 1)) (.int 1)) (.int 1)) (.int 1))) (.var 3) (.o2 (.add .i64) (.o2 (.add .i64) (.o2 (.add .i64) (.o2 (.add .i64) (.o2 (.add .i64) (.var 2) (.int 1)) (.int 1)) (.int 1)) (.int 1)) (.int 1))) (.var 3) (.o2 (.add .i64) (.o2 (.add .i64) (.o2 (.add .i64) (.o2 (.add .i64) (.o2 (.add .i64) (.o2 (.add .i64) (.var 2) (.int 1)) (.int 1)) (.int 1)) (.int 1)) (.int 1)) (.int 1)))))
  (.need [] (.o2 .le (.int 0) (.var 3))
  (.need [] (.o2 .lt (.var 3) (.o1 .len (.o3 (.setC 7) (.o3 (.setC 6) (.o3 (.setC 5) (.o3 (.setC 4) (.o3 (.setC 3) (.o3 (.setC 2) (.o3 (.setC 1) (.o3 (.setC 0) (.var 4) (.var 3) (.var 2)) (.var 3) (.o2 (.add .i64) (.var 2) (.int 1))) (.var 3) (.o2 (.add .i64) (.o2 (.add .i64) (.var 2) (.int 1)) (.int 1))) (.var 3) (.o2 (.add .i64) (.o2 (.add .i64) (.o2 (.add .i64) (.var 2) (.int 1)) (.int 1)) (.int 1))) (.var 3) (.o2 (.add .i64) (.o2 (.add .i64) (.o2 (.add .i64) (.o2 (.add .i64) (.var 2) (.int 1)) (.int 1)) (.int 1)) (.int 1))) (.var 3) (.o2 (.add .i64) (.o2 (.add .i64) (.o2 (.add .i64) (.o2 (.add .i64) (.o2 (.add .i64) (.var 2) (.int 1)) (.int 1)) (.int 1)) (.int 1)) (.int 1))) (.var 3) (.o2 (.add .i64) (.o2 (.add .i64) (.o2 (.add .i64) (.o2 (.add .i64) (.o2 (.add .i64) (.o2 (.add .i64) (.var 2) (.int 1)) (.int 1)) (.int 1)) (.int 1)) (.int 1)) (.int 1))) (.var 3) (.o2 (.add .i64) (.o2 (.add .i64) (.o2 (.add .i64) (.o2 (.add .i64) (.o2 (.add .i64) (.o2 (.add .i64) (.o2 (.add .i64) (.var 2) (.int 1)) (.int 1)) (.int 1)) (.int 1)) (.int 1)) (.int 1)) (.int 1)))))
  (.need [] (.o2 .le (.int 0) (.var 3))
  (.need [] (.o2 .lt (.var 3) (.o1 .len (.o3 (.setC 8) (.o3 (.setC 7) (.o3 (.setC 6) (.o3 (.setC 5) (.o3 (.setC 4) (.o3 (.setC 3) (.o3 (.setC 2) (.o3 (.setC 1) (.o3 (.setC 0) (.var 4) (.var 3) (.var 2)) (.var 3) (.o2 (.add .i64) (.var 2) (.int 1))) (.var 3) (.o2 (.add .i64) (.o2 (.add .i64) (.var 2) (.int 1)) (.int 1))) (.var 3) (.o2 (.add .i64) (.o2 (.add .i64) (.o2 (.add .i64) (.var 2) (.int 1)) (.int 1)) (.int 1))) (.var 3) (.o2 (.add .i64) (.o2 (.add .i64) (.o2 (.add .i64) (.o2 (.add .i64) (.var 2) (.int 1)) (.int 1)) (.int 1)) (.int 1))) (.var 3) (.o2 (.add .i64) (.o2 (.add .i64) (.o2 (.add .i64) (.o2 (.add .i64) (.o2 (.add .i64) (.var 2) (.int 1)) (.int 1)) (.int 1)) (.int 1)) (.int 1))) (.var 3) (.o2 (.add .i64) (.o2 (.add .i64) (.o2 (.add .i64) (.o2 (.add .i64) (.o2 (.add .i64) (.o2 (.add .i64) (.var 2) (.int 1)) (.int 1)) (.int 1)) (.int 1)) (.int 1)) (.int 1))) (.var 3) (.o2 (.add .i64) (.o2 (.add .i64) (.o2 (.add .i64) (.o2 (.add .i64) (.o2 (.add .i64) (.o2 (.add .i64) (.o2 (.add .i64) (.var 2) (.int 1)) (.int 1)) (.int 1)) (.int 1)) (.int 1)) (.int 1)) (.int 1))) (.var 3) (.o2 (.add .i64) (.o2 (.add .i64) (.o2 (.add .i64) (.o2 (.add .i64) (.o2 (.add .i64) (.o2 (.add .i64) (.o2 (.add .i64) (.o2 (.add .i64) (.var 2) (.int 1)) (.int 1)) (.int 1)) (.int 1)) (.int 1)) (.int 1)) (.int 1)) (.int 1)))))
  (.need [] (.o2 .le (.int 0) (.var 3))
  (.need [] (.o2 .lt (.var 3) (.o1 .len (.o3 (.setC 9) (.o3 (.setC 8) (.o3 (.setC 7) (.o3 (.setC 6) (.o3 (.setC 5) (.o3 (.setC 4) (.o3 (.setC 3) (.o3 (.setC 2) (.o3 (.setC 1) (.o3 (.setC 0) (.var 4) (.var 3) (.var 2)) (.var 3) (.o2 (.add .i64) (.var 2) (.int 1))) (.var 3) (.o2 (.add .i64) (.o2 (.add .i64) (.var 2) (.int 1)) (.int 1))) (.var 3) (.o2 (.add .i64) (.o2 (.add .i64) (.o2 (.add .i64) (.var 2) (.int 1)) (.int 1)) (.int 1))) (.var 3) (.o2 (.add .i64) (.o2 (.add .i64) (.o2 (.add .i64) (.o2 (.add .i64) (.var 2) (.int 1)) (.int 1)) (.int 1)) (.int 1))) (.var 3) (.o2 (.add .i64) (.o2 (.add .i64) (.o2 (.add .i64) (.o2 (.add .i64) (.o2 (.add .i64) (.var 2) (.int 1)) (.int 1)) (.int 1)) (.int 1)) (.int 1))) (.var 3) (.o2 (.add .i64) (.o2 (.add .i64) (.o2 (.add .i64) (.o2 (.add .i64) (.o2 (.add .i64) (.o2 (.add .i64) (.var 2) (.int 1)) (.int 1)) (.int 1)) (.int 1)) (.int 1)) (.int 1))) (.var 3) (.o2 (.add .i64) (.o2 (.add .i64) (.o2 (.add .i64) (.o2 (.add .i64) (.o2 (.add .i64) (.o2 (.add .i64) (.o2 (.add .i64) (.var 2) (.int 1)) (.int 1)) (.int 1)) (.int 1)) (.int 1)) (.int 1)) (.int 1))) (.var 3) (.o2 (.add .i64) (.o2 (.add .i64) (.o2 (.add .i64) (.o2 (.add .i64) (.o2 (.add .i64) (.o2 (.add .i64) (.o2 (.add .i64) (.o2 (.add .i64) (.var 2) (.int 1)) (.int 1)) (.int 1)) (.int 1)) (.int 1)) (.int 1)) (.int 1)) (.int 1))) (.var 3) (.o2 (.add .i64) (.o2 (.add .i64) (.o2 (.add .i64) (.o2 (.add .i64) (.o2 (.add .i64) (.o2 (.add .i64) (.o2 (.add .i64) (.o2 (.add .i64) (.o2 (.add .i64) (.var 2) (.int 1)) (.int 1)) (.int 1)) (.int 1)) (.int 1)) (.int 1)) (.int 1)) (.int 1)) (.int 1)))))
  (.need [] (.o2 .le (.int 0) (.var 3))
  (.need [] (.o2 .lt (.var 3) (.o1 .len (.o3 (.setC 10) (.o3 (.setC 9) (.o3 (.setC 8) (.o3 (.setC 7) (.o3 (.setC 6) (.o3 (.setC 5) (.o3 (.setC 4) (.o3 (.setC 3) (.o3 (.setC 2) (.o3 (.setC 1) (.o3 (.setC 0) (.var 4) (.var 3) (.var 2)) (.var 3) (.o2 (.add .i64) (.var 2) (.int 1))) (.var 3) (.o2 (.add .i64) (.o2 (.add .i64) (.var 2) (.int 1)) (.int 1))) (.var 3) (.o2 (.add .i64) (.o2 (.add .i64) (.o2 (.add .i64) (.var 2) (.int 1)) (.int 1)) (.int 1))) (.var 3) (.o2 (.add .i64) (.o2 (.add .i64) (.o2 (.add .i64) (.o2 (.add .i64) (.var 2) (.int 1)) (.int 1)) (.int 1)) (.int 1))) (.var 3) (.o2 (.add .i64) (.o2 (.add .i64) (.o2 (.add .i64) (.o2 (.add .i64) (.o2 (.add .i64) (.var 2) (.int 1)) (.int 1)) (.int 1)) (.int 1)) (.int 1))) (.var 3) (.o2 (.add .i64) (.o2 (.add .i64) (.o2 (.add .i64) (.o2 (.add .i64) (.o2 (.add .i64) (.o2 (.add .i64) (.var 2) (.int 1)) (.int 1)) (.int 1)) (.int 1)) (.int 1)) (.int 1))) (.var 3) (.o2 (.add .i64) (.o2 (.add .i64) (.o2 (.add .i64) (.o2 (.add .i64) (.o2 (.add .i64) (.o2 (.add .i64) (.o2 (.add .i64) (.var 2) (.int 1)) (.int 1)) (.int 1)) (.int 1)) (.int 1)) (.int 1)) (.int 1))) (.var 3) (.o2 (.add .i64) (.o2 (.add .i64) (.o2 (.add .i64) (.o2 (.add .i64) (.o2 (.add .i64) (.o2 (.add .i64) (.o2 (.add .i64) (.o2 (.add .i64) (.var 2) (.int 1)) (.int 1)) (.int 1)) (.int 1)) (.int 1)) (.int 1)) (.int 1)) (.int 1))) (.var 3) (.o2 (.add .i64) (.o2 (.add .i64) (.o2 (.add .i64) (.o2 (.add .i64) (.o2 (.add .i64) (.o2 (.add .i64) (.o2 (.add .i64) (.o2 (.add .i64) (.o2 (.add .i64) (.var 2) (.int 1)) (.int 1)) (.int 1)) (.int 1)) (.int 1)) (.int 1)) (.int 1)) (.int 1)) (.int 1))) (.var 3) (.o2 (.add .i64) (.o2 (.add .i64) (.o2 (.add .i64) (.o2 (.add .i64) (.o2 (.add .i64) (.o2 (.add .i64) (.o2 (.add .i64) (.o2 (.add .i64) (.o2 (.add .i64) (.o2 (.add .i64) (.var 2) (.int 1)) (.int 1)) (.int 1)) (.int 1)) (.int 1)) (.int 1)) (.int 1)) (.int 1)) (.int 1)) (.int 1)))))
  (.need [] (.o2 .le (.int 0) (.var 3))
  (.need [] (.o2 .lt (.var 3) (.o1 .len (.o3 (.setC 11) (.o3 (.setC 10) (.o3 (.setC 9) (.o3 (.setC 8) (.o3 (.setC 7) (.o3 (.setC 6) (.o3 (.setC 5) (.o3 (.setC 4) (.o3 (.setC 3) (.o3 (.setC 2) (.o3 (.setC 1) (.o3 (.setC 0) (.var 4) (.var 3) (.var 2)) (.var 3) (.o2 (.add .i64) (.var 2) (.int 1))) (.var 3) (.o2 (.add .i64) (.o2 (.add .i64) (.var 2) (.int 1)) (.int 1))) (.var 3) (.o2 (.add .i64) (.o2 (.add .i64) (.o2 (.add .i64) (.var 2) (.int 1)) (.int 1)) (.int 1))) (.var 3) (.o2 (.add .i64) (.o2 (.add .i64) (.o2 (.add .i64) (.o2 (.add .i64) (.var 2) (.int 1)) (.int 1)) (.int 1)) (.int 1))) (.var 3) (.o2 (.add .i64) (.o2 (.add .i64) (.o2 (.add .i64) (.o2 (.add .i64) (.o2 (.add .i64) (.var 2) (.int 1)) (.int 1)) (.int 1)) (.int 1)) (.int 1))) (.var 3) (.o2 (.add .i64) (.o2 (.add .i64) (.o2 (.add .i64) (.o2 (.add .i64) (.o2 (.add .i64) (.o2 (.add .i64) (.var 2) (.int 1)) (.int 1)) (.int 1)) (.int 1)) (.int 1)) (.int 1))) (.var 3) (.o2 (.add .i64) (.o2 (.add .i64) (.o2 (.add .i64) (.o2 (.add .i64) (.o2 (.add .i64) (.o2 (.add .i64) (.o2 (.add .i64) (.var 2) (.int 1)) (.int 1)) (.int 1)) (.int 1)) (.int 1)) (.int 1)) (.int 1))) (.var 3) (.o2 (.add .i64) (.o2 (.add .i64) (.o2 (.add .i64) (.o2 (.add .i64) (.o2 (.add .i64) (.o2 (.add .i64) (.o2 (.add .i64) (.o2 (.add .i64) (.var 2) (.int 1)) (.int 1)) (.int 1)) (.int 1)) (.int 1)) (.int 1)) (.int 1)) (.int 1))) (.var 3) (.o2 (.add .i64) (.o2 (.add .i64) (.o2 (.add .i64) (.o2 (.add .i64) (.o2 (.add .i64) (.o2 (.add .i64) (.o2 (.add .i64) (.o2 (.add .i64) (.o2 (.add .i64) (.var 2) (.int 1)) (.int 1)) (.int 1)) (.int 1)) (.int 1)) (.int 1)) (.int 1)) (.int 1)) (.int 1))) (.var 3) (.o2 (.add .i64) (.o2 (.add .i64) (.o2 (.add .i64) (.o2 (.add .i64) (.o2 (.add .i64) (.o2 (.add .i64) (.o2 (.add .i64) (.o2 (.add .i64) (.o2 (.add .i64) (.o2 (.add .i64) (.var 2) (.int 1)) (.int 1)) (.int 1)) (.int 1)) (.int 1)) (.int 1)) (.int 1)) (.int 1)) (.int 1)) (.int 1))) (.var 3) (.o2 (.add .i64) (.o2 (.add .i64) (.o2 (.add .i64) (.o2 (.add .i64) (.o2 (.add .i64) (.o2 (.add .i64) (.o2 (.add .i64) (.o2 (.add .i64) (.o2 (.add .i64) (.o2 (.add .i64) (.o2 (.add .i64) (.var 2) (.int 1)) (.int 1)) (.int 1)) (.int 1)) (.int 1)) (.int 1)) (.int 1)) (.int 1)) (.int 1)) (.int 1)) (.int 1)))))
  (.need [] (.o2 .le (.int 0) (.var 3))
  (.need [] (.o2 .lt (.var 3) (.o1 .len (.o3 (.setC 12) (.o3 (.setC 11) (.o3 (.setC 10) (.o3 (.setC 9) (.o3 (.setC 8) (.o3 (.setC 7) (.o3 (.setC 6) (.o3 (.setC 5) (.o3 (.setC 4) (.o3 (.setC 3) (.o3 (.setC 2) (.o3 (.setC 1) (.o3 (.setC 0) (.var 4) (.var 3) (.var 2)) (.var 3) (.o2 (.add .i64) (.var 2) (.int 1))) (.var 3) (.o2 (.add .i64) (.o2 (.add .i64) (.var 2) (.int 1)) (.int 1))) (.var 3) (.o2 (.add .i64) (.o2 (.add .i64) (.o2 (.add .i64) (.var 2) (.int 1)) (.int 1)) (.int 1))) (.var 3) (.o2 (.add .i64) (.o2 (.add .i64) (.o2 (.add .i64) (.o2 (.add .i64) (.var 2) (.int 1)) (.int 1)) (.int 1)) (.int 1))) (.var 3) (.o2 (.add .i64) (.o2 (.add .i64) (.o2 (.add .i64) (.o2 (.add .i64) (.o2 (.add .i64) (.var 2) (.int 1)) (.int 1)) (.int 1)) (.int 1)) (.int 1))) (.var 3) (.o2 (.add .i64) (.o2 (.add .i64) (.o2 (.add .i64) (.o2 (.add .i64) (.o2 (.add .i64) (.o2 (.add .i64) (.var 2) (.int 1)) (.int 1)) (.int 1)) (.int 1)) (.int 1)) (.int 1))) (.var 3) (.o2 (.add .i64) (.o2 (.add .i64) (.o2 (.add .i64) (.o2 (.add .i64) (.o2 (.add .i64) (.o2 (.add .i64) (.o2 (.add .i64) (.var 2) (.int 1)) (.int 1)) (.int 1)) (.int 1)) (.int 1)) (.int 1)) (.int 1))) (.var 3) (.o2 (.add .i64) (.o2 (.add .i64) (.o2 (.add .i64) (.o2 (.add .i64) (.o2 (.add .i64) (.o2 (.add .i64) (.o2 (.add .i64) (.o2 (.add .i64) (.var 2) (.int 1)) (.int 1)) (.int 1)) (.int 1)) (.int 1)) (.int 1)) (.int 1)) (.int 1))) (.var 3) (.o2 (.add .i64) (.o2 (.add .i64) (.o2 (.add .i64) (.o2 (.add .i64) (.o2 (.add .i64) (.o2 (.add .i64) (.o2 (.add .i64) (.o2 (.add .i64) (.o2 (.add .i64) (.var 2) (.int 1)) (.int 1)) (.int 1)) (.int 1)) (.int 1)) (.int 1)) (.int 1)) (.int 1)) (.int 1))) (.var 3) (.o2 (.add .i64) (.o2 (.add .i64) (.o2 (.add .i64) (.o2 (.add .i64) (.o2 (.add .i64) (.o2 (.add .i64) (.o2 (.add .i64) (.o2 (.add .i64) (.o2 (.add .i64) (.o2 (.add .i64) (.var 2) (.int 1)) (.int 1)) (.int 1)) (.int 1)) (.int 1)) (.int 1)) (.int 1)) (.int 1)) (.int 1)) (.int 1))) (.var 3) (.o2 (.add .i64) (.o2 (.add .i64) (.o2 (.add .i64) (.o2 (.add .i64) (.o2 (.add .i64) (.o2 (.add .i64) (.o2 (.add .i64) (.o2 (.add .i64) (.o2 (.add .i64) (.o2 (.add .i64) (.o2 (.add .i64) (.var 2) (.int 1)) (.int 1)) (.int 1)) (.int 1)) (.int 1)) (.int 1)) (.int 1)) (.int 1)) (.int 1)) (.int 1)) (.int 1))) (.var 3) (.o2 (.add .i64) (.o2 (.add .i64) (.o2 (.add .i64) (.o2 (.add .i64) (.o2 (.add .i64) (.o2 (.add .i64) (.o2 (.add .i64) (.o2 (.add .i64) (.o2 (.add .i64) (.o2 (.add .i64) (.o2 (.add .i64) (.o2 (.add .i64) (.var 2) (.int 1)) (.int 1)) (.int 1)) (.int 1)) (.int 1)) (.int 1)) (.int 1)) (.int 1)) (.int 1)) (.int 1)) (.int 1)) (.int 1)))))
  (.need [] (.o2 .le (.int 0) (.var 3))
  (.need [] (.o2 .lt (.var 3) (.o1 .len (.o3 (.setC 13) (.o3 (.setC 12) (.o3 (.setC 11) (.o3 (.setC 10) (.o3 (.setC 9) (.o3 (.setC 8) (.o3 (.setC 7) (.o3 (.setC 6) (.o3 (.setC 5) (.o3 (.setC 4) (.o3 (.setC 3) (.o3 (.setC 2) (.o3 (.setC 1) (.o3 (.setC 0) (.var 4) (.var 3) (.var 2)) (.var 3) (.o2 (.add .i64) (.var 2) (.int 1))) (.var 3) (.o2 (.add .i64) (.o2 (.add .i64) (.var 2) (.int 1)) (.int 1))) (.var 3) (.o2 (.add .i64) (.o2 (.add .i64) (.o2 (.add .i64) (.var 2) (.int 1)) (.int 1)) (.int 1))) (.var 3) (.o2 (.add .i64) (.o2 (.add .i64) (.o2 (.add .i64) (.o2 (.add .i64) (.var 2) (.int 1)) (.int 1)) (.int 1)) (.int 1))) (.var 3) (.o2 (.add .i64) (.o2 (.add .i64) (.o2 (.add .i64) (.o2 (.add .i64) (.o2 (.add .i64) (.var 2) (.int 1)) (.int 1)) (.int 1)) (.int 1)) (.int 1))) (.var 3) (.o2 (.add .i64) (.o2 (.add .i64) (.o2 (.add .i64) (.o2 (.add .i64) (.o2 (.add .i64) (.o2 (.add .i64) (.var 2) (.int 1)) (.int 1)) (.int 1)) (.int 1)) (.int 1)) (.int 1))) (.var 3) (.o2 (.add .i64) (.o2 (.add .i64) (.o2 (.add .i64) (.o2 (.add .i64) (.o2 (.add .i64) (.o2 (.add .i64) (.o2 (.add .i64) (.var 2) (.int 1)) (.int 1)) (.int 1)) (.int 1)) (.int 1)) (.int 1)) (.int 1))) (.var 3) (.o2 (.add .i64) (.o2 (.add .i64) (.o2 (.add .i64) (.o2 (.add .i64) (.o2 (.add .i64) (.o2 (.add .i64) (.o2 (.add .i64) (.o2 (.add .i64) (.var 2) (.int 1)) (.int 1)) (.int 1)) (.int 1)) (.int 1)) (.int 1)) (.int 1)) (.int 1))) (.var 3) (.o2 (.add .i64) (.o2 (.add .i64) (.o2 (.add .i64) (.o2 (.add .i64) (.o2 (.add .i64) (.o2 (.add .i64) (.o2 (.add .i64) (.o2 (.add .i64) (.o2 (.add .i64) (.var 2) (.int 1)) (.int 1)) (.int 1)) (.int 1)) (.int 1)) (.int 1)) (.int 1)) (.int 1)) (.int 1))) (.var 3) (.o2 (.add .i64) (.o2 (.add .i64) (.o2 (.add .i64) (.o2 (.add .i64) (.o2 (.add .i64) (.o2 (.add .i64) (.o2 (.add .i64) (.o2 (.add .i64) (.o2 (.add .i64) (.o2 (.add .i64) (.var 2) (.int 1)) (.int 1)) (.int 1)) (.int 1)) (.int 1)) (.int 1)) (.int 1)) (.int 1)) (.int 1)) (.int 1))) (.var 3) (.o2 (.add .i64) (.o2 (.add .i64) (.o2 (.add .i64) (.o2 (.add .i64) (.o2 (.add .i64) (.o2 (.add .i64) (.o2 (.add .i64) (.o2 (.add .i64) (.o2 (.add .i64) (.o2 (.add .i64) (.o2 (.add .i64) (.var 2) (.int 1)) (.int 1)) (.int 1)) (.int 1)) (.int 1)) (.int 1)) (.int 1)) (.int 1)) (.int 1)) (.int 1)) (.int 1))) (.var 3) (.o2 (.add .i64) (.o2 (.add .i64) (.o2 (.add .i64) (.o2 (.add .i64) (.o2 (.add .i64) (.o2 (.add .i64) (.o2 (.add .i64) (.o2 (.add .i64) (.o2 (.add .i64) (.o2 (.add .i64) (.o2 (.add .i64) (.o2 (.add .i64) (.var 2) (.int 1)) (.int 1)) (.int 1)) (.int 1)) (.int 1)) (.int 1)) (.int 1)) (.int 1)) (.int 1)) (.int 1)) (.int 1)) (.int 1))) (.var 3) (.o2 (.add .i64) (.o2 (.add .i64) (.o2 (.add .i64) (.o2 (.add .i64) (.o2 (.add .i64) (.o2 (.add .i64) (.o2 (.add .i64) (.o2 (.add .i64) (.o2 (.add .i64) (.o2 (.add .i64) (.o2 (.add .i64) (.o2 (.add .i64) (.o2 (.add .i64) (.var 2) (.int 1)) (.int 1)) (.int 1)) (.int 1)) (.int 1)) (.int 1)) (.int 1)) (.int 1)) (.int 1)) (.int 1)) (.int 1)) (.int 1)) (.int 1)))))
  (.need [] (.o2 .le (.int 0) (.var 3))
  (.need [] (.o2 .lt (.var 3) (.o1 .len (.o3 (.setC 14) (.o3 (.setC 13) (.o3 (.setC 12) (.o3 (.setC 11) (.o3 (.setC 10) (.o3 (.setC 9) (.o3 (.setC 8) (.o3 (.setC 7) (.o3 (.setC 6) (.o3 (.setC 5) (.o3 (.setC 4) (.o3 (.setC 3) (.o3 (.setC 2) (.o3 (.setC 1) (.o3 (.setC 0) (.var 4) (.var 3) (.var 2)) (.var 3) (.o2 (.add .i64) (.var 2) (.int 1))) (.var 3) (.o2 (.add .i64) (.o2 (.add .i64) (.var 2) (.int 1)) (.int 1))) (.var 3) (.o2 (.add .i64) (.o2 (.add .i64) (.o2 (.add .i64) (.var 2) (.int 1)) (.int 1)) (.int 1))) (.var 3) (.o2 (.add .i64) (.o2 (.add .i64) (.o2 (.add .i64) (.o2 (.add .i64) (.var 2) (.int 1)) (.int 1)) (.int 1)) (.int 1))) (.var 3) (.o2 (.add .i64) (.o2 (.add .i64) (.o2 (.add .i64) (.o2 (.add .i64) (.o2 (.add .i64) (.var 2) (.int 1)) (.int 1)) (.int 1)) (.int 1)) (.int 1))) (.var 3) (.o2 (.add .i64) (.o2 (.add .i64) (.o2 (.add .i64) (.o2 (.add .i64) (.o2 (.add .i64) (.o2 (.add .i64) (.var 2) (.int 1)) (.int 1)) (.int 1)) (.int 1)) (.int 1)) (.int 1))) (.var 3) (.o2 (.add .i64) (.o2 (.add .i64) (.o2 (.add .i64) (.o2 (.add .i64) (.o2 (.add .i64) (.o2 (.add .i64) (.o2 (.add .i64) (.var 2) (.int 1)) (.int 1)) (.int 1)) (.int 1)) (.int 1)) (.int 1)) (.int 1))) (.var 3) (.o2 (.add .i64) (.o2 (.add .i64) (.o2 (.add .i64) (.o2 (.add .i64) (.o2 (.add .i64) (.o2 (.add .i64) (.o2 (.add .i64) (.o2 (.add .i64) (.var 2) (.int 1)) (.int 1)) (.int 1)) (.int 1)) (.int 1)) (.int 1)) (.int 1)) (.int 1))) (.var 3) (.o2 (.add .i64) (.o2 (.add .i64) (.o2 (.add .i64) (.o2 (.add .i64) (.o2 (.add .i64) (.o2 (.add .i64) (.o2 (.add .i64) (.o2 (.add .i64) (.o2 (.add .i64) (.var 2) (.int 1)) (.int 1)) (.int 1)) (.int 1)) (.int 1)) (.int 1)) (.int 1)) (.int 1)) (.int 1))) (.var 3) (.o2 (.add .i64) (.o2 (.add .i64) (.o2 (.add .i64) (.o2 (.add .i64) (.o2 (.add .i64) (.o2 (.add .i64) (.o2 (.add .i64) (.o2 (.add .i64) (.o2 (.add .i64) (.o2 (.add .i64) (.var 2) (.int 1)) (.int 1)) (.int 1)) (.int 1)) (.int 1)) (.int 1)) (.int 1)) (.int 1)) (.int 1)) (.int 1))) (.var 3) (.o2 (.add .i64) (.o2 (.add .i64) (.o2 (.add .i64) (.o2 (.add .i64) (.o2 (.add .i64) (.o2 (.add .i64) (.o2 (.add .i64) (.o2 (.add .i64) (.o2 (.add .i64) (.o2 (.add .i64) (.o2 (.add .i64) (.var 2) (.int 1)) (.int 1)) (.int 1)) (.int 1)) (.int 1)) (.int 1)) (.int 1)) (.int 1)) (.int 1)) (.int 1)) (.int 1))) (.var 3) (.o2 (.add .i64) (.o2 (.add .i64) (.o2 (.add .i64) (.o2 (.add .i64) (.o2 (.add .i64) (.o2 (.add .i64) (.o2 (.add .i64) (.o2 (.add .i64) (.o2 (.add .i64) (.o2 (.add .i64) (.o2 (.add .i64) (.o2 (.add .i64) (.var 2) (.int 1)) (.int 1)) (.int 1)) (.int 1)) (.int 1)) (.int 1)) (.int 1)) (.int 1)) (.int 1)) (.int 1)) (.int 1)) (.int 1))) (.var 3) (.o2 (.add .i64) (.o2 (.add .i64) (.o2 (.add .i64) (.o2 (.add .i64) (.o2 (.add .i64) (.o2 (.add .i64) (.o2 (.add .i64) (.o2 (.add .i64) (.o2 (.add .i64) (.o2 (.add .i64) (.o2 (.add .i64) (.o2 (.add .i64) (.o2 (.add .i64) (.var 2) (.int 1)) (.int 1)) (.int 1)) (.int 1)) (.int 1)) (.int 1)) (.int 1)) (.int 1)) (.int 1)) (.int 1)) (.int 1)) (.int 1)) (.int 1))) (.var 3) (.o2 (.add .i64) (.o2 (.add .i64) (.o2 (.add .i64) (.o2 (.add .i64) (.o2 (.add .i64) (.o2 (.add .i64) (.o2 (.add .i64) (.o2 (.add .i64) (.o2 (.add .i64) (.o2 (.add .i64) (.o2 (.add .i64) (.o2 (.add .i64) (.o2 (.add .i64) (.o2 (.add .i64) (.var 2) (.int 1)) (.int 1)) (.int 1)) (.int 1)) (.int 1)) (.int 1)) (.int 1)) (.int 1)) (.int 1)) (.int 1)) (.int 1)) (.int 1)) (.int 1)) (.int 1)))))
  (.need [] (.o2 .le (.int 0) (.var 3))
  (.need [] (.o2 .lt (.var 3) (.o1 .len (.o3 (.setC 15) (.o3 (.setC 14) (.o3 (.setC 13) (.o3 (.setC 12) (.o3 (.setC 11) (.o3 (.setC 10) (.o3 (.setC 9) (.o3 (.setC 8) (.o3 (.setC 7) (.o3 (.setC 6) (.o3 (.setC 5) (.o3 (.setC 4) (.o3 (.setC 3) (.o3 (.setC 2) (.o3 (.setC 1) (.o3 (.setC 0) (.var 4) (.var 3) (.var 2)) (.var 3) (.o2 (.add .i64) (.var 2) (.int 1))) (.var 3) (.o2 (.add .i64) (.o2 (.add .i64) (.var 2) (.int 1)) (.int 1))) (.var 3) (.o2 (.add .i64) (.o2 (.add .i64) (.o2 (.add .i64) (.var 2) (.int 1)) (.int 1)) (.int 1))) (.var 3) (.o2 (.add .i64) (.o2 (.add .i64) (.o2 (.add .i64) (.o2 (.add .i64) (.var 2) (.int 1)) (.int 1)) (.int 1)) (.int 1))) (.var 3) (.o2 (.add .i64) (.o2 (.add .i64) (.o2 (.add .i64) (.o2 (.add .i64) (.o2 (.add .i64) (.var 2) (.int 1)) (.int 1)) (.int 1)) (.int 1)) (.int 1))) (.var 3) (.o2 (.add .i64) (.o2 (.add .i64) (.o2 (.add .i64) (.o2 (.add .i64) (.o2 (.add .i64) (.o2 (.add .i64) (.var 2) (.int 1)) (.int 1)) (.int 1)) (.int 1)) (.int 1)) (.int 1))) (.var 3) (.o2 (.add .i64) (.o2 (.add .i64) (.o2 (.add .i64) (.o2 (.add .i64) (.o2 (.add .i64) (.o2 (.add .i64) (.o2 (.add .i64) (.var 2) (.int 1)) (.int 1)) (.int 1)) (.int 1)) (.int 1)) (.int 1)) (.int 1))) (.var 3) (.o2 (.add .i64) (.o2 (.add .i64) (.o2 (.add .i64) (.o2 (.add .i64) (.o2 (.add .i64) (.o2 (.add .i64) (.o2 (.add .i64) (.o2 (.add .i64) (.var 2) (.int 1)) (.int 1)) (.int 1)) (.int 1)) (.int 1)) (.int 1)) (.int 1)) (.int 1))) (.var 3) (.o2 (.add .i64) (.o2 (.add .i64) (.o2 (.add .i64) (.o2 (.add .i64) (.o2 (.add .i64) (.o2 (.add .i64) (.o2 (.add .i64) (.o2 (.add .i64) (.o2 (.add .i64) (.var 2) (.int 1)) (.int 1)) (.int 1)) (.int 1)) (.int 1)) (.int 1)) (.int 1)) (.int 1)) (.int 1))) (.var 3) (.o2 (.add .i64) (.o2 (.add .i64) (.o2 (.add .i64) (.o2 (.add .i64) (.o2 (.add .i64) (.o2 (.add .i64) (.o2 (.add .i64) (.o2 (.add .i64) (.o2 (.add .i64) (.o2 (.add .i64) (.var 2) (.int 1)) (.int 1)) (.int 1)) (.int 1)) (.int 1)) (.int 1)) (.int 1)) (.int 1)) (.int 1)) (.int 1))) (.var 3) (.o2 (.add .i64) (.o2 (.add .i64) (.o2 (.add .i64) (.o2 (.add .i64) (.o2 (.add .i64) (.o2 (.add .i64) (.o2 (.add .i64) (.o2 (.add .i64) (.o2 (.add .i64) (.o2 (.add .i64) (.o2 (.add .i64) (.var 2) (.int 1)) (.int 1)) (.int 1)) (.int 1)) (.int 1)) (.int 1)) (.int 1)) (.int 1)) (.int 1)) (.int 1)) (.int 1))) (.var 3) (.o2 (.add .i64) (.o2 (.add .i64) (.o2 (.add .i64) (.o2 (.add .i64) (.o2 (.add .i64) (.o2 (.add .i64) (.o2 (.add .i64) (.o2 (.add .i64) (.o2 (.add .i64) (.o2 (.add .i64) (.o2 (.add .i64) (.o2 (.add .i64) (.var 2) (.int 1)) (.int 1)) (.int 1)) (.int 1)) (.int 1)) (.int 1)) (.int 1)) (.int 1)) (.int 1)) (.int 1)) (.int 1)) (.int 1))) (.var 3) (.o2 (.add .i64) (.o2 (.add .i64) (.o2 (.add .i64) (.o2 (.add .i64) (.o2 (.add .i64) (.o2 (.add .i64) (.o2 (.add .i64) (.o2 (.add .i64) (.o2 (.add .i64) (.o2 (.add .i64) (.o2 (.add .i64) (.o2 (.add .i64) (.o2 (.add .i64) (.var 2) (.int 1)) (.int 1)) (.int 1)) (.int 1)) (.int 1)) (.int 1)) (.int 1)) (.int 1)) (.int 1)) (.int 1)) (.int 1)) (.int 1)) (.int 1))) (.var 3) (.o2 (.add .i64) (.o2 (.add .i64) (.o2 (.add .i64) (.o2 (.add .i64) (.o2 (.add .i64) (.o2 (.add .i64) (.o2 (.add .i64) (.o2 (.add .i64) (.o2 (.add .i64) (.o2 (.add .i64) (.o2 (.add .i64) (.o2 (.add .i64) (.o2 (.add .i64) (.o2 (.add .i64) (.var 2) (.int 1)) (.int 1)) (.int 1)) (.int 1)) (.int 1)) (.int 1)) (.int 1)) (.int 1)) (.int 1)) (.int 1)) (.int 1)) (.int 1)) (.int 1)) (.int 1))) (.var 3) (.o2 (.add .i64) (.o2 (.add .i64) (.o2 (.add .i64) (.o2 (.add .i64) (.o2 (.add .i64) (.o2 (.add .i64) (.o2 (.add .i64) (.o2 (.add .i64) (.o2 (.add .i64) (.o2 (.add .i64) (.o2 (.add .i64) (.o2 (.add .i64) (.o2 (.add .i64) (.o2 (.add .i64) (.o2 (.add .i64) (.var 2) (.int 1)) (.int 1)) (.int 1)) (.int 1)) (.int 1)) (.int 1)) (.int 1)) (.int 1)) (.int 1)) (.int 1)) (.int 1)) (.int 1)) (.int 1)) (.int 1)) (.int 1)))))
  (.need [] (.o2 .le (.int 0) (.var 3))
  (.need [] (.o2 .lt (.var 3) (.o1 .len (.o3 (.setC 16) (.o3 (.setC 15) (.o3 (.setC 14) (.o3 (.setC 13) (.o3 (.setC 12) (.o3 (.setC 11) (.o3 (.setC 10) (.o3 (.setC 9) (.o3 (.setC 8) (.o3 (.setC 7) (.o3 (.setC 6) (.o3 (.setC 5) (.o3 (.setC 4) (.o3 (.setC 3) (.o3 (.setC 2) (.o3 (.setC 1) (.o3 (.setC 0) (.var 4) (.var 3) (.var 2)) (.var 3) (.o2 (.add .i64) (.var 2) (.int 1))) (.var 3) (.o2 (.add .i64) (.o2 (.add .i64) (.var 2) (.int 1)) (.int 1))) (.var 3) (.o2 (.add .i64) (.o2 (.add .i64) (.o2 (.add .i64) (.var 2) (.int 1)) (.int 1)) (.int 1))) (.var 3) (.o2 (.add .i64) (.o2 (.add .i64) (.o2 (.add .i64) (.o2 (.add .i64) (.var 2) (.int 1)) (.int 1)) (.int 1)) (.int 1))) (.var 3) (.o2 (.add .i64) (.o2 (.add .i64) (.o2 (.add .i64) (.o2 (.add .i64) (.o2 (.add .i64) (.var 2) (.int 1)) (.int 1)) (.int 1)) (.int 1)) (.int 1))) (.var 3) (.o2 (.add .i64) (.o2 (.add .i64) (.o2 (.add .i64) (.o2 (.add .i64) (.o2 (.add .i64) (.o2 (.add .i64) (.var 2) (.int 1)) (.int 1)) (.int 1)) (.int 1)) (.int 1)) (.int 1))) (.var 3) (.o2 (.add .i64) (.o2 (.add .i64) (.o2 (.add .i64) (.o2 (.add .i64) (.o2 (.add .i64) (.o2 (.add .i64) (.o2 (.add .i64) (.var 2) (.int 1)) (.int 1)) (.int 1)) (.int 1)) (.int 1)) (.int 1)) (.int 1))) (.var 3) (.o2 (.add .i64) (.o2 (.add .i64) (.o2 (.add .i64) (.o2 (.add .i64) (.o2 (.add .i64) (.o2 (.add .i64) (.o2 (.add .i64) (.o2 (.add .i64) (.var 2) (.int 1)) (.int 1)) (.int 1)) (.int 1)) (.int 1)) (.int 1)) (.int 1)) (.int 1))) (.var 3) (.o2 (.add .i64) (.o2 (.add .i64) (.o2 (.add .i64) (.o2 (.add .i64) (.o2 (.add .i64) (.o2 (.add .i64) (.o2 (.add .i64) (.o2 (.add .i64) (.o2 (.add .i64) (.var 2) (.int 1)) (.int 1)) (.int 1)) (.int 1)) (.int 1)) (.int 1)) (.int 1)) (.int 1)) (.int 1))) (.var 3) (.o2 (.add .i64) (.o2 (.add .i64) (.o2 (.add .i64) (.o2 (.add .i64) (.o2 (.add .i64) (.o2 (.add .i64) (.o2 (.add .i64) (.o2 (.add .i64) (.o2 (.add .i64) (.o2 (.add .i64) (.var 2) (.int 1)) (.int 1)) (.int 1)) (.int 1)) (.int 1)) (.int 1)) (.int 1)) (.int 1)) (.int 1)) (.int 1))) (.var 3) (.o2 (.add .i64) (.o2 (.add .i64) (.o2 (.add .i64) (.o2 (.add .i64) (.o2 (.add .i64) (.o2 (.add .i64) (.o2 (.add .i64) (.o2 (.add .i64) (.o2 (.add .i64) (.o2 (.add .i64) (.o2 (.add .i64) (.var 2) (.int 1)) (.int 1)) (.int 1)) (.int 1)) (.int 1)) (.int 1)) (.int 1)) (.int 1)) (.int 1)) (.int 1)) (.int 1))) (.var 3) (.o2 (.add .i64) (.o2 (.add .i64) (.o2 (.add .i64) (.o2 (.add .i64) (.o2 (.add .i64) (.o2 (.add .i64) (.o2 (.add .i64) (.o2 (.add .i64) (.o2 (.add .i64) (.o2 (.add .i64) (.o2 (.add .i64) (.o2 (.add .i64) (.var 2) (.int 1)) (.int 1)) (.int 1)) (.int 1)) (.int 1)) (.int 1)) (.int 1)) (.int 1)) (.int 1)) (.int 1)) (.int 1)) (.int 1))) (.var 3) (.o2 (.add .i64) (.o2 (.add .i64) (.o2 (.add .i64) (.o2 (.add .i64) (.o2 (.add .i64) (.o2 (.add .i64) (.o2 (.add .i64) (.o2 (.add .i64) (.o2 (.add .i64) (.o2 (.add .i64) (.o2 (.add .i64) (.o2 (.add .i64) (.o2 (.add .i64) (.var 2) (.int 1)) (.int 1)) (.int 1)) (.int 1)) (.int 1)) (.int 1)) (.int 1)) (.int 1)) (.int 1)) (.int 1)) (.int 1)) (.int 1)) (.int 1))) (.var 3) (.o2 (.add .i64) (.o2 (.add .i64) (.o2 (.add .i64) (.o2 (.add .i64) (.o2 (.add .i64) (.o2 (.add .i64) (.o2 (.add .i64) (.o2 (.add .i64) (.o2 (.add .i64) (.o2 (.add .i64) (.o2 (.add .i64) (.o2 (.add .i64) (.o2 (.add .i64) (.o2 (.add .i64) (.var 2) (.int 1)) (.int 1)) (.int 1)) (.int 1)) (.int 1)) (.int 1)) (.int 1)) (.int 1)) (.int 1)) (.int 1)) (.int 1)) (.int 1)) (.int 1)) (.int 1))) (.var 3) (.o2 (.add .i64) (.o2 (.add .i64) (.o2 (.add .i64) (.o2 (.add .i64) (.o2 (.add .i64) (.o2 (.add .i64) (.o2 (.add .i64) (.o2 (.add .i64) (.o2 (.add .i64) (.o2 (.add .i64) (.o2 (.add .i64) (.o2 (.add .i64) (.o2 (.add .i64) (.o2 (.add .i64) (.o2 (.add .i64) (.var 2) (.int 1)) (.int 1)) (.int 1)) (.int 1)) (.int 1)) (.int 1)) (.int 1)) (.int 1)) (.int 1)) (.int 1)) (.int 1)) (.int 1)) (.int 1)) (.int 1)) (.int 1))) (.var 3) (.o2 (.add .i64) (.o2 (.add .i64) (.o2 (.add .i64) (.o2 (.add .i64) (.o2 (.add .i64) (.o2 (.add .i64) (.o2 (.add .i64) (.o2 (.add .i64) (.o2 (.add .i64) (.o2 (.add .i64) (.o2 (.add .i64) (.o2 (.add .i64) (.o2 (.add .i64) (.o2 (.add .i64) (.o2 (.add .i64) (.o2 (.add .i64) (.var 2) (.int 1)) (.int 1)) (.int 1)) (.int 1)) (.int 1)) (.int 1)) (.int 1)) (.int 1)) (.int 1)) (.int 1)) (.int 1)) (.int 1)) (.int 1)) (.int 1)) (.int 1)) (.int 1)))))
  (.need [] (.o2 .ne (.int 3) (.int 0))
  (.need [] (.o2 .le (.int 0) (.var 3))
  (.need [] (.o2 .lt (.var 3) (.o1 .len (.o3 (.setC 17) (.o3 (.setC 16) (.o3 (.setC 15) (.o3 (.setC 14) (.o3 (.setC 13) (.o3 (.setC 12) (.o3 (.setC 11) (.o3 (.setC 10) (.o3 (.setC 9) (.o3 (.setC 8) (.o3 (.setC 7) (.o3 (.setC 6) (.o3 (.setC 5) (.o3 (.setC 4) (.o3 (.setC 3) (.o3 (.setC 2) (.o3 (.setC 1) (.o3 (.setC 0) (.var 4) (.var 3) (.var 2)) (.var 3) (.o2 (.add .i64) (.var 2) (.int 1))) (.var 3) (.o2 (.add .i64) (.o2 (.add .i64) (.var 2) (.int 1)) (.int 1))) (.var 3) (.o2 (.add .i64) (.o2 (.add .i64) (.o2 (.add .i64) (.var 2) (.int 1)) (.int 1)) (.int 1))) (.var 3) (.o2 (.add .i64) (.o2 (.add .i64) (.o2 (.add .i64) (.o2 (.add .i64) (.var 2) (.int 1)) (.int 1)) (.int 1)) (.int 1))) (.var 3) (.o2 (.add .i64) (.o2 (.add .i64) (.o2 (.add .i64) (.o2 (.add .i64) (.o2 (.add .i64) (.var 2) (.int 1)) (.int 1)) (.int 1)) (.int 1)) (.int 1))) (.var 3) (.o2 (.add .i64) (.o2 (.add .i64) (.o2 (.add .i64) (.o2 (.add .i64) (.o2 (.add .i64) (.o2 (.add .i64) (.var 2) (.int 1)) (.int 1)) (.int 1)) (.int 1)) (.int 1)) (.int 1))) (.var 3) (.o2 (.add .i64) (.o2 (.add .i64) (.o2 (.add .i64) (.o2 (.add .i64) (.o2 (.add .i64) (.o2 (.add .i64) (.o2 (.add .i64) (.var 2) (.int 1)) (.int 1)) (.int 1)) (.int 1)) (.int 1)) (.int 1)) (.int 1))) (.var 3) (.o2 (.add .i64) (.o2 (.add .i64) (.o2 (.add .i64) (.o2 (.add .i64) (.o2 (.add .i64) (.o2 (.add .i64) (.o2 (.add .i64) (.o2 (.add .i64) (.var 2) (.int 1)) (.int 1)) (.int 1)) (.int 1)) (.int 1)) (.int 1)) (.int 1)) (.int 1))) (.var 3) (.o2 (.add .i64) (.o2 (.add .i64) (.o2 (.add .i64) (.o2 (.add .i64) (.o2 (.add .i64) (.o2 (.add .i64) (.o2 (.add .i64) (.o2 (.add .i64) (.o2 (.add .i64) (.var 2) (.int 1)) (.int 1)) (.int 1)) (.int 1)) (.int 1)) (.int 1)) (.int 1)) (.int 1)) (.int 1))) (.var 3) (.o2 (.add .i64) (.o2 (.add .i64) (.o2 (.add .i64) (.o2 (.add .i64) (.o2 (.add .i64) (.o2 (.add .i64) (.o2 (.add .i64) (.o2 (.add .i64) (.o2 (.add .i64) (.o2 (.add .i64) (.var 2) (.int 1)) (.int 1)) (.int 1)) (.int 1)) (.int 1)) (.int 1)) (.int 1)) (.int 1)) (.int 1)) (.int 1))) (.var 3) (.o2 (.add .i64) (.o2 (.add .i64) (.o2 (.add .i64) (.o2 (.add .i64) (.o2 (.add .i64) (.o2 (.add .i64) (.o2 (.add .i64) (.o2 (.add .i64) (.o2 (.add .i64) (.o2 (.add .i64) (.o2 (.add .i64) (.var 2) (.int 1)) (.int 1)) (.int 1)) (.int 1)) (.int 1)) (.int 1)) (.int 1)) (.int 1)) (.int 1)) (.int 1)) (.int 1))) (.var 3) (.o2 (.add .i64) (.o2 (.add .i64) (.o2 (.add .i64) (.o2 (.add .i64) (.o2 (.add .i64) (.o2 (.add .i64) (.o2 (.add .i64) (.o2 (.add .i64) (.o2 (.add .i64) (.o2 (.add .i64) (.o2 (.add .i64) (.o2 (.add .i64) (.var 2) (.int 1)) (.int 1)) (.int 1)) (.int 1)) (.int 1)) (.int 1)) (.int 1)) (.int 1)) (.int 1)) (.int 1)) (.int 1)) (.int 1))) (.var 3) (.o2 (.add .i64) (.o2 (.add .i64) (.o2 (.add .i64) (.o2 (.add .i64) (.o2 (.add .i64) (.o2 (.add .i64) (.o2 (.add .i64) (.o2 (.add .i64) (.o2 (.add .i64) (.o2 (.add .i64) (.o2 (.add .i64) (.o2 (.add .i64) (.o2 (.add .i64) (.var 2) (.int 1)) (.int 1)) (.int 1)) (.int 1)) (.int 1)) (.int 1)) (.int 1)) (.int 1)) (.int 1)) (.int 1)) (.int 1)) (.int 1)) (.int 1))) (.var 3) (.o2 (.add .i64) (.o2 (.add .i64) (.o2 (.add .i64) (.o2 (.add .i64) (.o2 (.add .i64) (.o2 (.add .i64) (.o2 (.add .i64) (.o2 (.add .i64) (.o2 (.add .i64) (.o2 (.add .i64) (.o2 (.add .i64) (.o2 (.add .i64) (.o2 (.add .i64) (.o2 (.add .i64) (.var 2) (.int 1)) (.int 1)) (.int 1)) (.int 1)) (.int 1)) (.int 1)) (.int 1)) (.int 1)) (.int 1)) (.int 1)) (.int 1)) (.int 1)) (.int 1)) (.int 1))) (.var 3) (.o2 (.add .i64) (.o2 (.add .i64) (.o2 (.add .i64) (.o2 (.add .i64) (.o2 (.add .i64) (.o2 (.add .i64) (.o2 (.add .i64) (.o2 (.add .i64) (.o2 (.add .i64) (.o2 (.add .i64) (.o2 (.add .i64) (.o2 (.add .i64) (.o2 (.add .i64) (.o2 (.add .i64) (.o2 (.add .i64) (.var 2) (.int 1)) (.int 1)) (.int 1)) (.int 1)) (.int 1)) (.int 1)) (.int 1)) (.int 1)) (.int 1)) (.int 1)) (.int 1)) (.int 1)) (.int 1)) (.int 1)) (.int 1))) (.var 3) (.o2 (.add .i64) (.o2 (.add .i64) (.o2 (.add .i64) (.o2 (.add .i64) (.o2 (.add .i64) (.o2 (.add .i64) (.o2 (.add .i64) (.o2 (.add .i64) (.o2 (.add .i64) (.o2 (.add .i64) (.o2 (.add .i64) (.o2 (.add .i64) (.o2 (.add .i64) (.o2 (.add .i64) (.o2 (.add .i64) (.o2 (.add .i64) (.var 2) (.int 1)) (.int 1)) (.int 1)) (.int 1)) (.int 1)) (.int 1)) (.int 1)) (.int 1)) (.int 1)) (.int 1)) (.int 1)) (.int 1)) (.int 1)) (.int 1)) (.int 1)) (.int 1))) (.var 3) (.o2 (.add .i64) (.o2 (.add .i64) (.o2 (.add .i64) (.o2 (.add .i64) (.o2 (.add .i64) (.o2 (.add .i64) (.o2 (.add .i64) (.o2 (.add .i64) (.o2 (.add .i64) (.o2 (.add .i64) (.o2 (.add .i64) (.o2 (.add .i64) (.o2 (.add .i64) (.o2 (.add .i64) (.o2 (.add .i64) (.o2 (.add .i64) (.o2 (.add .i64) (.var 2) (.int 1)) (.int 1)) (.int 1)) (.int 1)) (.int 1)) (.int 1)) (.int 1)) (.int 1)) (.int 1)) (.int 1)) (.int 1)) (.int 1)) (.int 1)) (.int 1)) (.int 1)) (.int 1)) (.int 1)))))
  (.need [] (.o2 .le (.int 0) (.var 3))
  (.need [] (.o2 .lt (.var 3) (.o1 .len (.o3 (.setC 18) (.o3 (.setC 17) (.o3 (.setC 16) (.o3 (.setC 15) (.o3 (.setC 14) (.o3 (.setC 13) (.o3 (.setC 12) (.o3 (.setC 11) (.o3 (.setC 10) (.o3 (.setC 9) (.o3 (.setC 8) (.o3 (.setC 7) (.o3 (.setC 6) (.o3 (.setC 5) (.o3 (.setC 4) (.o3 (.setC 3) (.o3 (.setC 2) (.o3 (.setC 1) (.o3 (.setC 0) (.var 4) (.var 3) (.var 2)) (.var 3) (.o2 (.add .i64) (.var 2) (.int 1))) (.var 3) (.o2 (.add .i64) (.o2 (.add .i64) (.var 2) (.int 1)) (.int 1))) (.var 3) (.o2 (.add .i64) (.o2 (.add .i64) (.o2 (.add .i64) (.var 2) (.int 1)) (.int 1)) (.int 1))) (.var 3) (.o2 (.add .i64) (.o2 (.add .i64) (.o2 (.add .i64) (.o2 (.add .i64) (.var 2) (.int 1)) (.int 1)) (.int 1)) (.int 1))) (.var 3) (.o2 (.add .i64) (.o2 (.add .i64) (.o2 (.add .i64) (.o2 (.add .i64) (.o2 (.add .i64) (.var 2) (.int 1)) (.int 1)) (.int 1)) (.int 1)) (.int 1))) (.var 3) (.o2 (.add .i64) (.o2 (.add .i64) (.o2 (.add .i64) (.o2 (.add .i64) (.o2 (.add .i64) (.o2 (.add .i64) (.var 2) (.int 1)) (.int 1)) (.int 1)) (.int 1)) (.int 1)) (.int 1))) (.var 3) (.o2 (.add .i64) (.o2 (.add .i64) (.o2 (.add .i64) (.o2 (.add .i64) (.o2 (.add .i64) (.o2 (.add .i64) (.o2 (.add .i64) (.var 2) (.int 1)) (.int 1)) (.int 1)) (.int 1)) (.int 1)) (.int 1)) (.int 1))) (.var 3) (.o2 (.add .i64) (.o2 (.add .i64) (.o2 (.add .i64) (.o2 (.add .i64) (.o2 (.add .i64) (.o2 (.add .i64) (.o2 (.add .i64) (.o2 (.add .i64) (.var 2) (.int 1)) (.int 1)) (.int 1)) (.int 1)) (.int 1)) (.int 1)) (.int 1)) (.int 1))) (.var 3) (.o2 (.add .i64) (.o2 (.add .i64) (.o2 (.add .i64) (.o2 (.add .i64) (.o2 (.add .i64) (.o2 (.add .i64) (.o2 (.add .i64) (.o2 (.add .i64) (.o2 (.add .i64) (.var 2) (.int 1)) (.int 1)) (.int 1)) (.int 1)) (.int 1)) (.int 1)) (.int 1)) (.int 1)) (.int 1))) (.var 3) (.o2 (.add .i64) (.o2 (.add .i64) (.o2 (.add .i64) (.o2 (.add .i64) (.o2 (.add .i64) (.o2 (.add .i64) (.o2 (.add .i64) (.o2 (.add .i64) (.o2 (.add .i64) (.o2 (.add .i64) (.var 2) (.int 1)) (.int 1)) (.int 1)) (.int 1)) (.int 1)) (.int 1)) (.int 1)) (.int 1)) (.int 1)) (.int 1))) (.var 3) (.o2 (.add .i64) (.o2 (.add .i64) (.o2 (.add .i64) (.o2 (.add .i64) (.o2 (.add .i64) (.o2 (.add .i64) (.o2 (.add .i64) (.o2 (.add .i64) (.o2 (.add .i64) (.o2 (.add .i64) (.o2 (.add .i64) (.var 2) (.int 1)) (.int 1)) (.int 1)) (.int 1)) (.int 1)) (.int 1)) (.int 1)) (.int 1)) (.int 1)) (.int 1)) (.int 1))) (.var 3) (.o2 (.add .i64) (.o2 (.add .i64) (.o2 (.add .i64) (.o2 (.add .i64) (.o2 (.add .i64) (.o2 (.add .i64) (.o2 (.add .i64) (.o2 (.add .i64) (.o2 (.add .i64) (.o2 (.add .i64) (.o2 (.add .i64) (.o2 (.add .i64) (.var 2) (.int 1)) (.int 1)) (.int 1)) (.int 1)) (.int 1)) (.int 1)) (.int 1)) (.int 1)) (.int 1)) (.int 1)) (.int 1)) (.int 1))) (.var 3) (.o2 (.add .i64) (.o2 (.add .i64) (.o2 (.add .i64) (.o2 (.add .i64) (.o2 (.add .i64) (.o2 (.add .i64) (.o2 (.add .i64) (.o2 (.add .i64) (.o2 (.add .i64) (.o2 (.add .i64) (.o2 (.add .i64) (.o2 (.add .i64) (.o2 (.add .i64) (.var 2) (.int 1)) (.int 1)) (.int 1)) (.int 1)) (.int 1)) (.int 1)) (.int 1)) (.int 1)) (.int 1)) (.int 1)) (.int 1)) (.int 1)) (.int 1))) (.var 3) (.o2 (.add .i64) (.o2 (.add .i64) (.o2 (.add .i64) (.o2 (.add .i64) (.o2 (.add .i64) (.o2 (.add .i64) (.o2 (.add .i64) (.o2 (.add .i64) (.o2 (.add .i64) (.o2 (.add .i64) (.o2 (.add .i64) (.o2 (.add .i64) (.o2 (.add .i64) (.o2 (.add .i64) (.var 2) (.int 1)) (.int 1)) (.int 1)) (.int 1)) (.int 1)) (.int 1)) (.int 1)) (.int 1)) (.int 1)) (.int 1)) (.int 1)) (.int 1)) (.int 1)) (.int 1))) (.var 3) (.o2 (.add .i64) (.o2 (.add .i64) (.o2 (.add .i64) (.o2 (.add .i64) (.o2 (.add .i64) (.o2 (.add .i64) (.o2 (.add .i64) (.o2 (.add .i64) (.o2 (.add .i64) (.o2 (.add .i64) (.o2 (.add .i64) (.o2 (.add .i64) (.o2 (.add .i64) (.o2 (.add .i64) (.o2 (.add .i64) (.var 2) (.int 1)) (.int 1)) (.int 1)) (.int 1)) (.int 1)) (.int 1)) (.int 1)) (.int 1)) (.int 1)) (.int 1)) (.int 1)) (.int 1)) (.int 1)) (.int 1)) (.int 1))) (.var 3) (.o2 (.add .i64) (.o2 (.add .i64) (.o2 (.add .i64) (.o2 (.add .i64) (.o2 (.add .i64) (.o2 (.add .i64) (.o2 (.add .i64) (.o2 (.add .i64) (.o2 (.add .i64) (.o2 (.add .i64) (.o2 (.add .i64) (.o2 (.add .i64) (.o2 (.add .i64) (.o2 (.add .i64) (.o2 (.add .i64) (.o2 (.add .i64) (.var 2) (.int 1)) (.int 1)) (.int 1)) (.int 1)) (.int 1)) (.int 1)) (.int 1)) (.int 1)) (.int 1)) (.int 1)) (.int 1)) (.int 1)) (.int 1)) (.int 1)) (.int 1)) (.int 1))) (.var 3) (.o2 (.add .i64) (.o2 (.add .i64) (.o2 (.add .i64) (.o2 (.add .i64) (.o2 (.add .i64) (.o2 (.add .i64) (.o2 (.add .i64) (.o2 (.add .i64) (.o2 (.add .i64) (.o2 (.add .i64) (.o2 (.add .i64) (.o2 (.add .i64) (.o2 (.add .i64) (.o2 (.add .i64) (.o2 (.add .i64) (.o2 (.add .i64) (.o2 (.add .i64) (.var 2) (.int 1)) (.int 1)) (.int 1)) (.int 1)) (.int 1)) (.int 1)) (.int 1)) (.int 1)) (.int 1)) (.int 1)) (.int 1)) (.int 1)) (.int 1)) (.int 1)) (.int 1)) (.int 1)) (.int 1))) (.var 3) (.o2 .eq (.o2 .rem (.o2 (.add .i64) (.o2 (.add .i64) (.o2 (.add .i64) (.o2 (.add .i64) (.o2 (.add .i64) (.o2 (.add .i64) (.o2 (.add .i64) (.o2 (.add .i64) (.o2 (.add .i64) (.o2 (.add .i64) (.o2 (.add .i64) (.o2 (.add .i64) (.o2 (.add .i64) (.o2 (.add .i64) (.o2 (.add .i64) (.o2 (.add .i64) (.o2 (.add .i64) (.o2 (.add .i64) (.var 2) (.int 1)) (.int 1)) (.int 1)) (.int 1)) (.int 1)) (.int 1)) (.int 1)) (.int 1)) (.int 1)) (.int 1)) (.int 1)) (.int 1)) (.int 1)) (.int 1)) (.int 1)) (.int 1)) (.int 1)) (.int 1)) (.int 3)) (.int 0)))))
  (.call [] (.fn 37) [.row [(.int .i64), (.int .i64), (.int .i64), (.int .i64), (.int .i64), (.int .i64), .bool] (.o1 (.fld 19) (.o2 .idx (.o3 (.setC 18) (.o3 (.setC 17) (.o3 (.setC 16) (.o3 (.setC 15) (.o3 (.setC 14) (.o3 (.setC 13) (.o3 (.setC 12) (.o3 (.setC 11) (.o3 (.setC 10) (.o3 (.setC 9) (.o3 (.setC 8) (.o3 (.setC 7) (.o3 (.setC 6) (.o3 (.setC 5) (.o3 (.setC 4) (.o3 (.setC 3) (.o3 (.setC 2) (.o3 (.setC 1) (.o3 (.setC 0) (.var 4) (.var 3) (.var 2)) (.var 3) (.o2 (.add .i64) (.var 2) (.int 1))) (.var 3) (.o2 (.add .i64) (.o2 (.add .i64) (.var 2) (.int 1)) (.int 1))) (.var 3) (.o2 (.add .i64) (.o2 (.add .i64) (.o2 (.add .i64) (.var 2) (.int 1)) (.int 1)) (.int 1))) (.var 3) (.o2 (.add .i64) (.o2 (.add .i64) (.o2 (.add .i64) (.o2 (.add .i64) (.var 2) (.int 1)) (.int 1)) (.int 1)) (.int 1))) (.var 3) (.o2 (.add .i64) (.o2 (.add .i64) (.o2 (.add .i64) (.o2 (.add .i64) (.o2 (.add .i64) (.var 2) (.int 1)) (.int 1)) (.int 1)) (.int 1)) (.int 1))) (.var 3) (.o2 (.add .i64) (.o2 (.add .i64) (.o2 (.add .i64) (.o2 (.add .i64) (.o2 (.add .i64) (.o2 (.add .i64) (.var 2) (.int 1)) (.int 1)) (.int 1)) (.int 1)) (.int 1)) (.int 1))) (.var 3) (.o2 (.add .i64) (.o2 (.add .i64) (.o2 (.add .i64) (.o2 (.add .i64) (.o2 (.add .i64) (.o2 (.add .i64) (.o2 (.add .i64) (.var 2) (.int 1)) (.int 1)) (.int 1)) (.int 1)) (.int 1)) (.int 1)) (.int 1))) (.var 3) (.o2 (.add .i64) (.o2 (.add .i64) (.o2 (.add .i64) (.o2 (.add .i64) (.o2 (.add .i64) (.o2 (.add .i64) (.o2 (.add .i64) (.o2 (.add .i64) (.var 2) (.int 1)) (.int 1)) (.int 1)) (.int 1)) (.int 1)) (.int 1)) (.int 1)) (.int 1))) (.var 3) (.o2 (.add .i64) (.o2 (.add .i64) (.o2 (.add .i64) (.o2 (.add .i64) (.o2 (.add .i64) (.o2 (.add .i64) (.o2 (.add .i64) (.o2 (.add .i64) (.o2 (.add .i64) (.var 2) (.int 1)) (.int 1)) (.int 1)) (.int 1)) (.int 1)) (.int 1)) (.int 1)) (.int 1)) (.int 1))) (.var 3) (.o2 (.add .i64) (.o2 (.add .i64) (.o2 (.add .i64) (.o2 (.add .i64) (.o2 (.add .i64) (.o2 (.add .i64) (.o2 (.add .i64) (.o2 (.add .i64) (.o2 (.add .i64) (.o2 (.add .i64) (.var 2) (.int 1)) (.int 1)) (.int 1)) (.int 1)) (.int 1)) (.int 1)) (.int 1)) (.int 1)) (.int 1)) (.int 1))) (.var 3) (.o2 (.add .i64) (.o2 (.add .i64) (.o2 (.add .i64) (.o2 (.add .i64) (.o2 (.add .i64) (.o2 (.add .i64) (.o2 (.add .i64) (.o2 (.add .i64) (.o2 (.add .i64) (.o2 (.add .i64) (.o2 (.add .i64) (.var 2) (.int 1)) (.int 1)) (.int 1)) (.int 1)) (.int 1)) (.int 1)) (.int 1)) (.int 1)) (.int 1)) (.int 1)) (.int 1))) (.var 3) (.o2 (.add .i64) (.o2 (.add .i64) (.o2 (.add .i64) (.o2 (.add .i64) (.o2 (.add .i64) (.o2 (.add .i64) (.o2 (.add .i64) (.o2 (.add .i64) (.o2 (.add .i64) (.o2 (.add .i64) (.o2 (.add .i64) (.o2 (.add .i64) (.var 2) (.int 1)) (.int 1)) (.int 1)) (.int 1)) (.int 1)) (.int 1)) (.int 1)) (.int 1)) (.int 1)) (.int 1)) (.int 1)) (.int 1))) (.var 3) (.o2 (.add .i64) (.o2 (.add .i64) (.o2 (.add .i64) (.o2 (.add .i64) (.o2 (.add .i64) (.o2 (.add .i64) (.o2 (.add .i64) (.o2 (.add .i64) (.o2 (.add .i64) (.o2 (.add .i64) (.o2 (.add .i64) (.o2 (.add .i64) (.o2 (.add .i64) (.var 2) (.int 1)) (.int 1)) (.int 1)) (.int 1)) (.int 1)) (.int 1)) (.int 1)) (.int 1)) (.int 1)) (.int 1)) (.int 1)) (.int 1)) (.int 1))) (.var 3) (.o2 (.add .i64) (.o2 (.add .i64) (.o2 (.add .i64) (.o2 (.add .i64) (.o2 (.add .i64) (.o2 (.add .i64) (.o2 (.add .i64) (.o2 (.add .i64) (.o2 (.add .i64) (.o2 (.add .i64) (.o2 (.add .i64) (.o2 (.add .i64) (.o2 (.add .i64) (.o2 (.add .i64) (.var 2) (.int 1)) (.int 1)) (.int 1)) (.int 1)) (.int 1)) (.int 1)) (.int 1)) (.int 1)) (.int 1)) (.int 1)) (.int 1)) (.int 1)) (.int 1)) (.int 1))) (.var 3) (.o2 (.add .i64) (.o2 (.add .i64) (.o2 (.add .i64) (.o2 (.add .i64) (.o2 (.add .i64) (.o2 (.add .i64) (.o2 (.add .i64) (.o2 (.add .i64) (.o2 (.add .i64) (.o2 (.add .i64) (.o2 (.add .i64) (.o2 (.add .i64) (.o2 (.add .i64) (.o2 (.add .i64) (.o2 (.add .i64) (.var 2) (.int 1)) (.int 1)) (.int 1)) (.int 1)) (.int 1)) (.int 1)) (.int 1)) (.int 1)) (.int 1)) (.int 1)) (.int 1)) (.int 1)) (.int 1)) (.int 1)) (.int 1))) (.var 3) (.o2 (.add .i64) (.o2 (.add .i64) (.o2 (.add .i64) (.o2 (.add .i64) (.o2 (.add .i64) (.o2 (.add .i64) (.o2 (.add .i64) (.o2 (.add .i64) (.o2 (.add .i64) (.o2 (.add .i64) (.o2 (.add .i64) (.o2 (.add .i64) (.o2 (.add .i64) (.o2 (.add .i64) (.o2 (.add .i64) (.o2 (.add .i64) (.var 2) (.int 1)) (.int 1)) (.int 1)) (.int 1)) (.int 1)) (.int 1)) (.int 1)) (.int 1)) (.int 1)) (.int 1)) (.int 1)) (.int 1)) (.int 1)) (.int 1)) (.int 1)) (.int 1))) (.var 3) (.o2 (.add .i64) (.o2 (.add .i64) (.o2 (.add .i64) (.o2 (.add .i64) (.o2 (.add .i64) (.o2 (.add .i64) (.o2 (.add .i64) (.o2 (.add .i64) (.o2 (.add .i64) (.o2 (.add .i64) (.o2 (.add .i64) (.o2 (.add .i64) (.o2 (.add .i64) (.o2 (.add .i64) (.o2 (.add .i64) (.o2 (.add .i64) (.o2 (.add .i64) (.var 2) (.int 1)) (.int 1)) (.int 1)) (.int 1)) (.int 1)) (.int 1)) (.int 1)) (.int 1)) (.int 1)) (.int 1)) (.int 1)) (.int 1)) (.int 1)) (.int 1)) (.int 1)) (.int 1)) (.int 1))) (.var 3) (.o2 .eq (.o2 .rem (.o2 (.add .i64) (.o2 (.add .i64) (.o2 (.add .i64) (.o2 (.add .i64) (.o2 (.add .i64) (.o2 (.add .i64) (.o2 (.add .i64) (.o2 (.add .i64) (.o2 (.add .i64) (.o2 (.add .i64) (.o2 (.add .i64) (.o2 (.add .i64) (.o2 (.add .i64) (.o2 (.add .i64) (.o2 (.add .i64) (.o2 (.add .i64) (.o2 (.add .i64) (.o2 (.add .i64) (.var 2) (.int 1)) (.int 1)) (.int 1)) (.int 1)) (.int 1)) (.int 1)) (.int 1)) (.int 1)) (.int 1)) (.int 1)) (.int 1)) (.int 1)) (.int 1)) (.int 1)) (.int 1)) (.int 1)) (.int 1)) (.int 1)) (.int 3)) (.int 0))) (.var 3))), .sc (.int .i64) (.o2 (.add .i64) (.o2 (.add .i64) (.o2 (.add .i64) (.o2 (.add .i64) (.o2 (.add .i64) (.o2 (.add .i64) (.o2 (.add .i64) (.o2 (.add .i64) (.o2 (.add .i64) (.o2 (.add .i64) (.o2 (.add .i64) (.o2 (.add .i64) (.o2 (.add .i64) (.o2 (.add .i64) (.o2 (.add .i64) (.o2 (.add .i64) (.o2 (.add .i64) (.o2 (.add .i64) (.o2 (.add .i64) (.var 2) (.int 1)) (.int 1)) (.int 1)) (.int 1)) (.int 1)) (.int 1)) (.int 1)) (.int 1)) (.int 1)) (.int 1)) (.int 1)) (.int 1)) (.int 1)) (.int 1)) (.int 1)) (.int 1)) (.int 1)) (.int 1)) (.int 1))] [.sc (.int .i64)]
  (.need [] (.o2 .le (.int 0) (.var 3))
  (.need [] (.o2 .lt (.var 3) (.o1 .len (.o3 (.setC 19) (.o3 (.setC 18) (.o3 (.setC 17) (.o3 (.setC 16) (.o3 (.setC 15) (.o3 (.setC 14) (.o3 (.setC 13) (.o3 (.setC 12) (.o3 (.setC 11) (.o3 (.setC 10) (.o3 (.setC 9) (.o3 (.setC 8) (.o3 (.setC 7) (.o3 (.setC 6) (.o3 (.setC 5) (.o3 (.setC 4) (.o3 (.setC 3) (.o3 (.setC 2) (.o3 (.setC 1) (.o3 (.setC 0) (.var 4) (.var 3) (.var 2)) (.var 3) (.o2 (.add .i64) (.var 2) (.int 1))) (.var 3) (.o2 (.add .i64) (.o2 (.add .i64) (.var 2) (.int 1)) (.int 1))) (.var 3) (.o2 (.add .i64) (.o2 (.add .i64) (.o2 (.add .i64) (.var 2) (.int 1)) (.int 1)) (.int 1))) (.var 3) (.o2 (.add .i64) (.o2 (.add .i64) (.o2 (.add .i64) (.o2 (.add .i64) (.var 2) (.int 1)) (.int 1)) (.int 1)) (.int 1))) (.var 3) (.o2 (.add .i64) (.o2 (.add .i64) (.o2 (.add .i64) (.o2 (.add .i64) (.o2 (.add .i64) (.var 2) (.int 1)) (.int 1)) (.int 1)) (.int 1)) (.int 1))) (.var 3) (.o2 (.add .i64) (.o2 (.add .i64) (.o2 (.add .i64) (.o2 (.add .i64) (.o2 (.add .i64) (.o2 (.add .i64) (.var 2) (.int 1)) (.int 1)) (.int 1)) (.int 1)) (.int 1)) (.int 1))) (.var 3) (.o2 (.add .i64) (.o2 (.add .i64) (.o2 (.add .i64) (.o2 (.add .i64) (.o2 (.add .i64) (.o2 (.add .i64) (.o2 (.add .i64) (.var 2) (.int 1)) (.int 1)) (.int 1)) (.int 1)) (.int 1)) (.int 1)) (.int 1))) (.var 3) (.o2 (.add .i64) (.o2 (.add .i64) (.o2 (.add .i64) (.o2 (.add .i64) (.o2 (.add .i64) (.o2 (.add .i64) (.o2 (.add .i64) (.o2 (.add .i64) (.var 2) (.int 1)) (.int 1)) (.int 1)) (.int 1)) (.int 1)) (.int 1)) (.int 1)) (.int 1))) (.var 3) (.o2 (.add .i64) (.o2 (.add .i64) (.o2 (.add .i64) (.o2 (.add .i64) (.o2 (.add .i64) (.o2 (.add .i64) (.o2 (.add .i64) (.o2 (.add .i64) (.o2 (.add .i64) (.var 2) (.int 1)) (.int 1)) (.int 1)) (.int 1)) (.int 1)) (.int 1)) (.int 1)) (.int 1)) (.int 1))) (.var 3) (.o2 (.add .i64) (.o2 (.add .i64) (.o2 (.add .i64) (.o2 (.add .i64) (.o2 (.add .i64) (.o2 (.add .i64) (.o2 (.add .i64) (.o2 (.add .i64) (.o2 (.add .i64) (.o2 (.add .i64) (.var 2) (.int 1)) (.int 1)) (.int 1)) (.int 1)) (.int 1)) (.int 1)) (.int 1)) (.int 1)) (.int 1)) (.int 1))) (.var 3) (.o2 (.add .i64) (.o2 (.add .i64) (.o2 (.add .i64) (.o2 (.add .i64) (.o2 (.add .i64) (.o2 (.add .i64) (.o2 (.add .i64) (.o2 (.add .i64) (.o2 (.add .i64) (.o2 (.add .i64) (.o2 (.add .i64) (.var 2) (.int 1)) (.int 1)) (.int 1)) (.int 1)) (.int 1)) (.int 1)) (.int 1)) (.int 1)) (.int 1)) (.int 1)) (.int 1))) (.var 3) (.o2 (.add .i64) (.o2 (.add .i64) (.o2 (.add .i64) (.o2 (.add .i64) (.o2 (.add .i64) (.o2 (.add .i64) (.o2 (.add .i64) (.o2 (.add .i64) (.o2 (.add .i64) (.o2 (.add .i64) (.o2 (.add .i64) (.o2 (.add .i64) (.var 2) (.int 1)) (.int 1)) (.int 1)) (.int 1)) (.int 1)) (.int 1)) (.int 1)) (.int 1)) (.int 1)) (.int 1)) (.int 1)) (.int 1))) (.var 3) (.o2 (.add .i64) (.o2 (.add .i64) (.o2 (.add .i64) (.o2 (.add .i64) (.o2 (.add .i64) (.o2 (.add .i64) (.o2 (.add .i64) (.o2 (.add .i64) (.o2 (.add .i64) (.o2 (.add .i64) (.o2 (.add .i64) (.o2 (.add .i64) (.o2 (.add .i64) (.var 2) (.int 1)) (.int 1)) (.int 1)) (.int 1)) (.int 1)) (.int 1)) (.int 1)) (.int 1)) (.int 1)) (.int 1)) (.int 1)) (.int 1)) (.int 1))) (.var 3) (.o2 (.add .i64) (.o2 (.add .i64) (.o2 (.add .i64) (.o2 (.add .i64) (.o2 (.add .i64) (.o2 (.add .i64) (.o2 (.add .i64) (.o2 (.add .i64) (.o2 (.add .i64) (.o2 (.add .i64) (.o2 (.add .i64) (.o2 (.add .i64) (.o2 (.add .i64) (.o2 (.add .i64) (.var 2) (.int 1)) (.int 1)) (.int 1)) (.int 1)) (.int 1)) (.int 1)) (.int 1)) (.int 1)) (.int 1)) (.int 1)) (.int 1)) (.int 1)) (.int 1)) (.int 1))) (.var 3) (.o2 (.add .i64) (.o2 (.add .i64) (.o2 (.add .i64) (.o2 (.add .i64) (.o2 (.add .i64) (.o2 (.add .i64) (.o2 (.add .i64) (.o2 (.add .i64) (.o2 (.add .i64) (.o2 (.add .i64) (.o2 (.add .i64) (.o2 (.add .i64) (.o2 (.add .i64) (.o2 (.add .i64) (.o2 (.add .i64) (.var 2) (.int 1)) (.int 1)) (.int 1)) (.int 1)) (.int 1)) (.int 1)) (.int 1)) (.int 1)) (.int 1)) (.int 1)) (.int 1)) (.int 1)) (.int 1)) (.int 1)) (.int 1))) (.var 3) (.o2 (.add .i64) (.o2 (.add .i64) (.o2 (.add .i64) (.o2 (.add .i64) (.o2 (.add .i64) (.o2 (.add .i64) (.o2 (.add .i64) (.o2 (.add .i64) (.o2 (.add .i64) (.o2 (.add .i64) (.o2 (.add .i64) (.o2 (.add .i64) (.o2 (.add .i64) (.o2 (.add .i64) (.o2 (.add .i64) (.o2 (.add .i64) (.var 2) (.int 1)) (.int 1)) (.int 1)) (.int 1)) (.int 1)) (.int 1)) (.int 1)) (.int 1)) (.int 1)) (.int 1)) (.int 1)) (.int 1)) (.int 1)) (.int 1)) (.int 1)) (.int 1))) (.var 3) (.o2 (.add .i64) (.o2 (.add .i64) (.o2 (.add .i64) (.o2 (.add .i64) (.o2 (.add .i64) (.o2 (.add .i64) (.o2 (.add .i64) (.o2 (.add .i64) (.o2 (.add .i64) (.o2 (.add .i64) (.o2 (.add .i64) (.o2 (.add .i64) (.o2 (.add .i64) (.o2 (.add .i64) (.o2 (.add .i64) (.o2 (.add .i64) (.o2 (.add .i64) (.var 2) (.int 1)) (.int 1)) (.int 1)) (.int 1)) (.int 1)) (.int 1)) (.int 1)) (.int 1)) (.int 1)) (.int 1)) (.int 1)) (.int 1)) (.int 1)) (.int 1)) (.int 1)) (.int 1)) (.int 1))) (.var 3) (.o2 .eq (.o2 .rem (.o2 (.add .i64) (.o2 (.add .i64) (.o2 (.add .i64) (.o2 (.add .i64) (.o2 (.add .i64) (.o2 (.add .i64) (.o2 (.add .i64) (.o2 (.add .i64) (.o2 (.add .i64) (.o2 (.add .i64) (.o2 (.add .i64) (.o2 (.add .i64) (.o2 (.add .i64) (.o2 (.add .i64) (.o2 (.add .i64) (.o2 (.add .i64) (.o2 (.add .i64) (.o2 (.add .i64) (.var 2) (.int 1)) (.int 1)) (.int 1)) (.int 1)) (.int 1)) (.int 1)) (.int 1)) (.int 1)) (.int 1)) (.int 1)) (.int 1)) (.int 1)) (.int 1)) (.int 1)) (.int 1)) (.int 1)) (.int 1)) (.int 1)) (.int 3)) (.int 0))) (.var 3) (.var 6))))
  (.need [] (.o2 .le (.int 0) (.var 3))
  (.need [] (.o2 .lt (.var 3) (.o1 .len (.o3 (.setC 20) (.o3 (.setC 19) (.o3 (.setC 18) (.o3 (.setC 17) (.o3 (.setC 16) (.o3 (.setC 15) (.o3 (.setC 14) (.o3 (.setC 13) (.o3 (.setC 12) (.o3 (.setC 11) (.o3 (.setC 10) (.o3 (.setC 9) (.o3 (.setC 8) (.o3 (.setC 7) (.o3 (.setC 6) (.o3 (.setC 5) (.o3 (.setC 4) (.o3 (.setC 3) (.o3 (.setC 2) (.o3 (.setC 1) (.o3 (.setC 0) (.var 4) (.var 3) (.var 2)) (.var 3) (.o2 (.add .i64) (.var 2) (.int 1))) (.var 3) (.o2 (.add .i64) (.o2 (.add .i64) (.var 2) (.int 1)) (.int 1))) (.var 3) (.o2 (.add .i64) (.o2 (.add .i64) (.o2 (.add .i64) (.var 2) (.int 1)) (.int 1)) (.int 1))) (.var 3) (.o2 (.add .i64) (.o2 (.add .i64) (.o2 (.add .i64) (.o2 (.add .i64) (.var 2) (.int 1)) (.int 1)) (.int 1)) (.int 1))) (.var 3) (.o2 (.add .i64) (.o2 (.add .i64) (.o2 (.add .i64) (.o2 (.add .i64) (.o2 (.add .i64) (.var 2) (.int 1)) (.int 1)) (.int 1)) (.int 1)) (.int 1))) (.var 3) (.o2 (.add .i64) (.o2 (.add .i64) (.o2 (.add .i64) (.o2 (.add .i64) (.o2 (.add .i64) (.o2 (.add .i64) (.var 2) (.int 1)) (.int 1)) (.int 1)) (.int 1)) (.int 1)) (.int 1))) (.var 3) (.o2 (.add .i64) (.o2 (.add .i64) (.o2 (.add .i64) (.o2 (.add .i64) (.o2 (.add .i64) (.o2 (.add .i64) (.o2 (.add .i64) (.var 2) (.int 1)) (.int 1)) (.int 1)) (.int 1)) (.int 1)) (.int 1)) (.int 1))) (.var 3) (.o2 (.add .i64) (.o2 (.add .i64) (.o2 (.add .i64) (.o2 (.add .i64) (.o2 (.add .i64) (.o2 (.add .i64) (.o2 (.add .i64) (.o2 (.add .i64) (.var 2) (.int 1)) (.int 1)) (.int 1)) (.int 1)) (.int 1)) (.int 1)) (.int 1)) (.int 1))) (.var 3) (.o2 (.add .i64) (.o2 (.add .i64) (.o2 (.add .i64) (.o2 (.add .i64) (.o2 (.add .i64) (.o2 (.add .i64) (.o2 (.add .i64) (.o2 (.add .i64) (.o2 (.add .i64) (.var 2) (.int 1)) (.int 1)) (.int 1)) (.int 1)) (.int 1)) (.int 1)) (.int 1)) (.int 1)) (.int 1))) (.var 3) (.o2 (.add .i64) (.o2 (.add .i64) (.o2 (.add .i64) (.o2 (.add .i64) (.o2 (.add .i64) (.o2 (.add .i64) (.o2 (.add .i64) (.o2 (.add .i64) (.o2 (.add .i64) (.o2 (.add .i64) (.var 2) (.int 1)) (.int 1)) (.int 1)) (.int 1)) (.int 1)) (.int 1)) (.int 1)) (.int 1)) (.int 1)) (.int 1))) (.var 3) (.o2 (.add .i64) (.o2 (.add .i64) (.o2 (.add .i64) (.o2 (.add .i64) (.o2 (.add .i64) (.o2 (.add .i64) (.o2 (.add .i64) (.o2 (.add .i64) (.o2 (.add .i64) (.o2 (.add .i64) (.o2 (.add .i64) (.var 2) (.int 1)) (.int 1)) (.int 1)) (.int 1)) (.int 1)) (.int 1)) (.int 1)) (.int 1)) (.int 1)) (.int 1)) (.int 1))) (.var 3) (.o2 (.add .i64) (.o2 (.add .i64) (.o2 (.add .i64) (.o2 (.add .i64) (.o2 (.add .i64) (.o2 (.add .i64) (.o2 (.add .i64) (.o2 (.add .i64) (.o2 (.add .i64) (.o2 (.add .i64) (.o2 (.add .i64) (.o2 (.add .i64) (.var 2) (.int 1)) (.int 1)) (.int 1)) (.int 1)) (.int 1)) (.int 1)) (.int 1)) (.int 1)) (.int 1)) (.int 1)) (.int 1)) (.int 1))) (.var 3) (.o2 (.add .i64) (.o2 (.add .i64) (.o2 (.add .i64) (.o2 (.add .i64) (.o2 (.add .i64) (.o2 (.add .i64) (.o2 (.add .i64) (.o2 (.add .i64) (.o2 (.add .i64) (.o2 (.add .i64) (.o2 (.add .i64) (.o2 (.add .i64) (.o2 (.add .i64) (.var 2) (.int 1)) (.int 1)) (.int 1)) (.int 1)) (.int 1)) (.int 1)) (.int 1)) (.int 1)) (.int 1)) (.int 1)) (.int 1)) (.int 1)) (.int 1))) (.var 3) (.o2 (.add .i64) (.o2 (.add .i64) (.o2 (.add .i64) (.o2 (.add .i64) (.o2 (.add .i64) (.o2 (.add .i64) (.o2 (.add .i64) (.o2 (.add .i64) (.o2 (.add .i64) (.o2 (.add .i64) (.o2 (.add .i64) (.o2 (.add .i64) (.o2 (.add .i64) (.o2 (.add .i64) (.var 2) (.int 1)) (.int 1)) (.int 1)) (.int 1)) (.int 1)) (.int 1)) (.int 1)) (.int 1)) (.int 1)) (.int 1)) (.int 1)) (.int 1)) (.int 1)) (.int 1))) (.var 3) (.o2 (.add .i64) (.o2 (.add .i64) (.o2 (.add .i64) (.o2 (.add .i64) (.o2 (.add .i64) (.o2 (.add .i64) (.o2 (.add .i64) (.o2 (.add .i64) (.o2 (.add .i64) (.o2 (.add .i64) (.o2 (.add .i64) (.o2 (.add .i64) (.o2 (.add .i64) (.o2 (.add .i64) (.o2 (.add .i64) (.var 2) (.int 1)) (.int 1)) (.int 1)) (.int 1)) (.int 1)) (.int 1)) (.int 1)) (.int 1)) (.int 1)) (.int 1)) (.int 1)) (.int 1)) (.int 1)) (.int 1)) (.int 1))) (.var 3) (.o2 (.add .i64) (.o2 (.add .i64) (.o2 (.add .i64) (.o2 (.add .i64) (.o2 (.add .i64) (.o2 (.add .i64) (.o2 (.add .i64) (.o2 (.add .i64) (.o2 (.add .i64) (.o2 (.add .i64) (.o2 (.add .i64) (.o2 (.add .i64) (.o2 (.add .i64) (.o2 (.add .i64) (.o2 (.add .i64) (.o2 (.add .i64) (.var 2) (.int 1)) (.int 1)) (.int 1)) (.int 1)) (.int 1)) (.int 1)) (.int 1)) (.int 1)) (.int 1)) (.int 1)) (.int 1)) (.int 1)) (.int 1)) (.int 1)) (.int 1)) (.int 1))) (.var 3) (.o2 (.add .i64) (.o2 (.add .i64) (.o2 (.add .i64) (.o2 (.add .i64) (.o2 (.add .i64) (.o2 (.add .i64) (.o2 (.add .i64) (.o2 (.add .i64) (.o2 (.add .i64) (.o2 (.add .i64) (.o2 (.add .i64) (.o2 (.add .i64) (.o2 (.add .i64) (.o2 (.add .i64) (.o2 (.add .i64) (.o2 (.add .i64) (.o2 (.add .i64) (.var 2) (.int 1)) (.int 1)) (.int 1)) (.int 1)) (.int 1)) (.int 1)) (.int 1)) (.int 1)) (.int 1)) (.int 1)) (.int 1)) (.int 1)) (.int 1)) (.int 1)) (.int 1)) (.int 1)) (.int 1))) (.var 3) (.o2 .eq (.o2 .rem (.o2 (.add .i64) (.o2 (.add .i64) (.o2 (.add .i64) (.o2 (.add .i64) (.o2 (.add .i64) (.o2 (.add .i64) (.o2 (.add .i64) (.o2 (.add .i64) (.o2 (.add .i64) (.o2 (.add .i64) (.o2 (.add .i64) (.o2 (.add .i64) (.o2 (.add .i64) (.o2 (.add .i64) (.o2 (.add .i64) (.o2 (.add .i64) (.o2 (.add .i64) (.o2 (.add .i64) (.var 2) (.int 1)) (.int 1)) (.int 1)) (.int 1)) (.int 1)) (.int 1)) (.int 1)) (.int 1)) (.int 1)) (.int 1)) (.int 1)) (.int 1)) (.int 1)) (.int 1)) (.int 1)) (.int 1)) (.int 1)) (.int 1)) (.int 3)) (.int 0))) (.var 3) (.var 6)) (.var 3) (.var 5))))
  (.cont 0 [(.o2 (.add .i64) (.o2 (.add .i64) (.var 5) (.int 1)) (.int 1)), (.o2 (.add .i64) (.var 3) (.int 1)), (.o3 (.setC 21) (.o3 (.setC 20) (.o3 (.setC 19) (.o3 (.setC 18) (.o3 (.setC 17) (.o3 (.setC 16) (.o3 (.setC 15) (.o3 (.setC 14) (.o3 (.setC 13) (.o3 (.setC 12) (.o3 (.setC 11) (.o3 (.setC 10) (.o3 (.setC 9) (.o3 (.setC 8) (.o3 (.setC 7) (.o3 (.setC 6) (.o3 (.setC 5) (.o3 (.setC 4) (.o3 (.setC 3) (.o3 (.setC 2) (.o3 (.setC 1) (.o3 (.setC 0) (.var 4) (.var 3) (.var 2)) (.var 3) (.o2 (.add .i64) (.var 2) (.int 1))) (.var 3) (.o2 (.add .i64) (.o2 (.add .i64) (.var 2) (.int 1)) (.int 1))) (.var 3) (.o2 (.add .i64) (.o2 (.add .i64) (.o2 (.add .i64) (.var 2) (.int 1)) (.int 1)) (.int 1))) (.var 3) (.o2 (.add .i64) (.o2 (.add .i64) (.o2 (.add .i64) (.o2 (.add .i64) (.var 2) (.int 1)) (.int 1)) (.int 1)) (.int 1))) (.var 3) (.o2 (.add .i64) (.o2 (.add .i64) (.o2 (.add .i64) (.o2 (.add .i64) (.o2 (.add .i64) (.var 2) (.int 1)) (.int 1)) (.int 1)) (.int 1)) (.int 1))) (.var 3) (.o2 (.add .i64) (.o2 (.add .i64) (.o2 (.add .i64) (.o2 (.add .i64) (.o2 (.add .i64) (.o2 (.add .i64) (.var 2) (.int 1)) (.int 1)) (.int 1)) (.int 1)) (.int 1)) (.int 1))) (.var 3) (.o2 (.add .i64) (.o2 (.add .i64) (.o2 (.add .i64) (.o2 (.add .i64) (.o2 (.add .i64) (.o2 (.add .i64) (.o2 (.add .i64) (.var 2) (.int 1)) (.int 1)) (.int 1)) (.int 1)) (.int 1)) (.int 1)) (.int 1))) (.var 3) (.o2 (.add .i64) (.o2 (.add .i64) (.o2 (.add .i64) (.o2 (.add .i64) (.o2 (.add .i64) (.o2 (.add .i64) (.o2 (.add .i64) (.o2 (.add .i64) (.var 2) (.int 1)) (.int 1)) (.int 1)) (.int 1)) (.int 1)) (.int 1)) (.int 1)) (.int 1))) (.var 3) (.o2 (.add .i64) (.o2 (.add .i64) (.o2 (.add .i64) (.o2 (.add .i64) (.o2 (.add .i64) (.o2 (.add .i64) (.o2 (.add .i64) (.o2 (.add .i64) (.o2 (.add .i64) (.var 2) (.int 1)) (.int 1)) (.int 1)) (.int 1)) (.int 1)) (.int 1)) (.int 1)) (.int 1)) (.int 1))) (.var 3) (.o2 (.add .i64) (.o2 (.add .i64) (.o2 (.add .i64) (.o2 (.add .i64) (.o2 (.add .i64) (.o2 (.add .i64) (.o2 (.add .i64) (.o2 (.add .i64) (.o2 (.add .i64) (.o2 (.add .i64) (.var 2) (.int 1)) (.int 1)) (.int 1)) (.int 1)) (.int 1)) (.int 1)) (.int 1)) (.int 1)) (.int 1)) (.int 1))) (.var 3) (.o2 (.add .i64) (.o2 (.add .i64) (.o2 (.add .i64) (.o2 (.add .i64) (.o2 (.add .i64) (.o2 (.add .i64) (.o2 (.add .i64) (.o2 (.add .i64) (.o2 (.add .i64) (.o2 (.add .i64) (.o2 (.add .i64) (.var 2) (.int 1)) (.int 1)) (.int 1)) (.int 1)) (.int 1)) (.int 1)) (.int 1)) (.int 1)) (.int 1)) (.int 1)) (.int 1))) (.var 3) (.o2 (.add .i64) (.o2 (.add .i64) (.o2 (.add .i64) (.o2 (.add .i64) (.o2 (.add .i64) (.o2 (.add .i64) (.o2 (.add .i64) (.o2 (.add .i64) (.o2 (.add .i64) (.o2 (.add .i64) (.o2 (.add .i64) (.o2 (.add .i64) (.var 2) (.int 1)) (.int 1)) (.int 1)) (.int 1)) (.int 1)) (.int 1)) (.int 1)) (.int 1)) (.int 1)) (.int 1)) (.int 1)) (.int 1))) (.var 3) (.o2 (.add .i64) (.o2 (.add .i64) (.o2 (.add .i64) (.o2 (.add .i64) (.o2 (.add .i64) (.o2 (.add .i64) (.o2 (.add .i64) (.o2 (.add .i64) (.o2 (.add .i64) (.o2 (.add .i64) (.o2 (.add .i64) (.o2 (.add .i64) (.o2 (.add .i64) (.var 2) (.int 1)) (.int 1)) (.int 1)) (.int 1)) (.int 1)) (.int 1)) (.int 1)) (.int 1)) (.int 1)) (.int 1)) (.int 1)) (.int 1)) (.int 1))) (.var 3) (.o2 (.add .i64) (.o2 (.add .i64) (.o2 (.add .i64) (.o2 (.add .i64) (.o2 (.add .i64) (.o2 (.add .i64) (.o2 (.add .i64) (.o2 (.add .i64) (.o2 (.add .i64) (.o2 (.add .i64) (.o2 (.add .i64) (.o2 (.add .i64) (.o2 (.add .i64) (.o2 (.add .i64) (.var 2) (.int 1)) (.int 1)) (.int 1)) (.int 1)) (.int 1)) (.int 1)) (.int 1)) (.int 1)) (.int 1)) (.int 1)) (.int 1)) (.int 1)) (.int 1)) (.int 1))) (.var 3) (.o2 (.add .i64) (.o2 (.add .i64) (.o2 (.add .i64) (.o2 (.add .i64) (.o2 (.add .i64) (.o2 (.add .i64) (.o2 (.add .i64) (.o2 (.add .i64) (.o2 (.add .i64) (.o2 (.add .i64) (.o2 (.add .i64) (.o2 (.add .i64) (.o2 (.add .i64) (.o2 (.add .i64) (.o2 (.add .i64) (.var 2) (.int 1)) (.int 1)) (.int 1)) (.int 1)) (.int 1)) (.int 1)) (.int 1)) (.int 1)) (.int 1)) (.int 1)) (.int 1)) (.int 1)) (.int 1)) (.int 1)) (.int 1))) (.var 3) (.o2 (.add .i64) (.o2 (.add .i64) (.o2 (.add .i64) (.o2 (.add .i64) (.o2 (.add .i64) (.o2 (.add .i64) (.o2 (.add .i64) (.o2 (.add .i64) (.o2 (.add .i64) (.o2 (.add .i64) (.o2 (.add .i64) (.o2 (.add .i64) (.o2 (.add .i64) (.o2 (.add .i64) (.o2 (.add .i64) (.o2 (.add .i64) (.var 2) (.int 1)) (.int 1)) (.int 1)) (.int 1)) (.int 1)) (.int 1)) (.int 1)) (.int 1)) (.int 1)) (.int 1)) (.int 1)) (.int 1)) (.int 1)) (.int 1)) (.int 1)) (.int 1))) (.var 3) (.o2 (.add .i64) (.o2 (.add .i64) (.o2 (.add .i64) (.o2 (.add .i64) (.o2 (.add .i64) (.o2 (.add .i64) (.o2 (.add .i64) (.o2 (.add .i64) (.o2 (.add .i64) (.o2 (.add .i64) (.o2 (.add .i64) (.o2 (.add .i64) (.o2 (.add .i64) (.o2 (.add .i64) (.o2 (.add .i64) (.o2 (.add .i64) (.o2 (.add .i64) (.var 2) (.int 1)) (.int 1)) (.int 1)) (.int 1)) (.int 1)) (.int 1)) (.int 1)) (.int 1)) (.int 1)) (.int 1)) (.int 1)) (.int 1)) (.int 1)) (.int 1)) (.int 1)) (.int 1)) (.int 1))) (.var 3) (.o2 .eq (.o2 .rem (.o2 (.add .i64) (.o2 (.add .i64) (.o2 (.add .i64) (.o2 (.add .i64) (.o2 (.add .i64) (.o2 (.add .i64) (.o2 (.add .i64) (.o2 (.add .i64) (.o2 (.add .i64) (.o2 (.add .i64) (.o2 (.add .i64) (.o2 (.add .i64) (.o2 (.add .i64) (.o2 (.add .i64) (.o2 (.add .i64) (.o2 (.add .i64) (.o2 (.add .i64) (.o2 (.add .i64) (.var 2) (.int 1)) (.int 1)) (.int 1)) (.int 1)) (.int 1)) (.int 1)) (.int 1)) (.int 1)) (.int 1)) (.int 1)) (.int 1)) (.int 1)) (.int 1)) (.int 1)) (.int 1)) (.int 1)) (.int 1)) (.int 1)) (.int 3)) (.int 0))) (.var 3) (.var 6)) (.var 3) (.var 5)) (.var 3) (.o2 (.add .i64) (.var 5) (.int 1)))])))))))))))))))))))))))))))))))))))))))))))))))
  (.ret [(.var 2), (.var 4)]))))
theorem sig_17 : sigOf Tryz.prog md 17 [] = some ([.row [(.int .i64), (.int .i64), (.int .i64), (.int .i64), (.int .i64), (.int .i64), (.int .i64), (.int .i64), (.int .i64), (.int .i64), (.int .i64), (.int .i64), (.int .i64), (.int .i64), (.int .i64), (.int .i64), (.int .i64), (.int .i64), .bool, (.sl [(.int .i64), (.int .i64), (.int .i64), (.int .i64), (.int .i64), (.int .i64), .bool]), (.int .i64), (.int .i64)], .sc (.int .i64)], [.sc (.int .i64)], tree_17) := by kernel_rfl
/- laws.markIntS -/
def tree_18 : T :=
(.loop 0 [(.var 1), (.int 0), (.var 0)]
 (.know (.var 4)
 (.br (.o2 .lt (.var 3) (.o1 .len (.var 4)))
  (.need [] (.o2 .le (.int 0) (.var 3))
  (.need [] (.o2 .lt (.var 3) (.o1 .len (.var 4)))
  (.cont 0 [(.o2 (.add .i64) (.var 2) (.int 1)), (.o2 (.add .i64) (.var 3) (.int 1)), (.o3 .setE (.var 4) (.var 3) (.o2 .cons (.var 2) .nil))])))
  (.ret [(.var 2), (.var 4)]))))
theorem sig_18 : sigOf Tryz.prog md 18 [] = some ([.row [(.int .i64)], .sc (.int .i64)], [.sc (.int .i64)], tree_18) := by kernel_rfl
/- laws.heldIntS -/
def tree_19 : T :=
(.loop 0 [(.var 1), (.int 0)]
 (.know (.var 0)
 (.br (.o2 .lt (.var 3) (.o1 .len (.var 0)))
  (.need [] (.o2 .le (.int 0) (.var 3))
  (.need [] (.o2 .lt (.var 3) (.o1 .len (.var 0)))
  (.br (.o2 .ne (.o1 (.fld 0) (.o2 .idx (.var 0) (.var 3))) (.var 2))
   (.ret [(.int (-1))])
   (.cont 0 [(.o2 (.add .i64) (.var 2) (.int 1)), (.o2 (.add .i64) (.var 3) (.int 1))]))))
  (.ret [(.var 2)]))))
theorem sig_19 : sigOf Tryz.prog md 19 [] = some ([.sc (.sl [(.int .i64)]), .sc (.int .i64)], [.sc (.int .i64)], tree_19) := by kernel_rfl
/- spec.Has -/
def tree_25 : T :=
(.loop 0 [(.int 0)]
 (.know (.var 0)
 (.br (.o2 .lt (.var 2) (.o1 .len (.var 0)))
  (.need [] (.o2 .le (.int 0) (.var 2))
  (.need [] (.o2 .lt (.var 2) (.o1 .len (.var 0)))
  (.br (.o2 .eq (.o1 (.fld 0) (.o2 .idx (.var 0) (.var 2))) (.var 1))
   (.ret [(.bool true)])
   (.cont 0 [(.o2 (.add .i64) (.var 2) (.int 1))]))))
  (.ret [(.bool false)]))))
theorem sig_25 : sigOf Tryz.prog md 25 [] = some ([.sc (.sl [(.int .i64)]), .sc (.int .i64)], [.sc .bool], tree_25) := by kernel_rfl
/- spec.l1In -/
def tree_61 : T :=
(.ret [(.o2 .band (.o2 .ge (.var 0) (.var 1)) (.o2 .le (.var 0) (.var 2)))])
theorem sig_61 : sigOf Tryz.prog md 61 [] = some ([.sc (.int .i64), .sc (.int .i64), .sc (.int .i64)], [.sc .bool], tree_61) := by kernel_rfl
/- spec.PatOk -/
def tree_62 : T :=
(.call [] (.fn 61) [.sc (.int .i64) (.o1 (.fld 0) (.var 0)), .sc (.int .i64) (.int 1), .sc (.int .i64) (.int 6)] [.sc .bool]
(.call [((.o1 .not (.var 1)), false)] (.fn 61) [.sc (.int .i64) (.o1 (.fld 1) (.var 0)), .sc (.int .i64) (.int 0), .sc (.int .i64) (.int 2)] [.sc .bool]
(.call [((.o2 .bor (.o1 .not (.var 1)) (.o1 .not (.var 2))), false)] (.fn 61) [.sc (.int .i64) (.o1 (.fld 4) (.var 0)), .sc (.int .i64) (.int 0), .sc (.int .i64) (.int 99)] [.sc .bool]
(.call [((.o2 .bor (.o2 .bor (.o1 .not (.var 1)) (.o1 .not (.var 2))) (.o1 .not (.var 3))), false)] (.fn 61) [.sc (.int .i64) (.o1 (.fld 5) (.var 0)), .sc (.int .i64) (.int 0), .sc (.int .i64) (.int 2147483647)] [.sc .bool]
(.call [((.o2 .bor (.o2 .bor (.o2 .bor (.o1 .not (.var 1)) (.o1 .not (.var 2))) (.o1 .not (.var 3))) (.o1 .not (.var 4))), false)] (.fn 61) [.sc (.int .i64) (.o1 (.fld 2) (.var 0)), .sc (.int .i64) (.int 0), .sc (.int .i64) (.int 99)] [.sc .bool]
(.call [((.o2 .bor (.o2 .bor (.o2 .bor (.o2 .bor (.o1 .not (.var 1)) (.o1 .not (.var 2))) (.o1 .not (.var 3))) (.o1 .not (.var 4))) (.o1 .not (.var 5))), false)] (.fn 61) [.sc (.int .i64) (.o1 (.fld 3) (.var 0)), .sc (.int .i64) (.int 0), .sc (.int .i64) (.int 63)] [.sc .bool]
(.call [((.o2 .bor (.o2 .bor (.o2 .bor (.o2 .bor (.o2 .bor (.o1 .not (.var 1)) (.o1 .not (.var 2))) (.o1 .not (.var 3))) (.o1 .not (.var 4))) (.o1 .not (.var 5))) (.o1 .not (.var 6))), false)] (.fn 61) [.sc (.int .i64) (.o1 (.fld 6) (.var 0)), .sc (.int .i64) (.int 0), .sc (.int .i64) (.int 4)] [.sc .bool]
(.br (.o2 .bor (.o2 .bor (.o2 .bor (.o2 .bor (.o2 .bor (.o2 .bor (.o1 .not (.var 1)) (.o1 .not (.var 2))) (.o1 .not (.var 3))) (.o1 .not (.var 4))) (.o1 .not (.var 5))) (.o1 .not (.var 6))) (.o1 .not (.var 7)))
 (.ret [(.bool false)])
 (.br (.o2 .bor (.o2 .band (.o2 .ne (.o1 (.fld 0) (.var 0)) (.int 1)) (.o2 .bor (.o2 .ne (.o1 (.fld 2) (.var 0)) (.int 0)) (.o2 .ne (.o1 (.fld 3) (.var 0)) (.int 0)))) (.o2 .band (.o2 .ne (.o1 (.fld 0) (.var 0)) (.int 2)) (.o2 .ne (.o1 (.fld 6) (.var 0)) (.int 0))))
  (.ret [(.bool false)])
  (.ret [(.o2 .bor (.o2 .band (.o2 .ne (.o1 (.fld 0) (.var 0)) (.int 3)) (.o2 .ne (.o1 (.fld 0) (.var 0)) (.int 4))) (.o2 .eq (.o1 (.fld 4) (.var 0)) (.int 0)))]))))))))))
theorem sig_62 : sigOf Tryz.prog md 62 [] = some ([.st [(.int .i64), (.int .i64), (.int .i64), (.int .i64), (.int .i64), (.int .i64), (.int .i64)]], [.sc .bool], tree_62) := by kernel_rfl
/- spec.GuardOk -/
def tree_63 : T :=
(.br (.o2 .eq (.o1 (.fld 0) (.var 0)) (.int 0))
 (.br (.o2 .eq (.o1 (.fld 0) (.var 0)) (.int 0))
  (.ret [(.o2 .eq (.o1 (.fld 1) (.var 0)) (.int 0))])
  (.br (.o2 .eq (.o1 (.fld 0) (.var 0)) (.int 1))
   (.call [] (.fn 61) [.sc (.int .i64) (.o1 (.fld 1) (.var 0)), .sc (.int .i64) (.int (-2147483647)), .sc (.int .i64) (.int 2147483647)] [.sc .bool]
   (.ret [(.var 1)]))
   (.call [((.o2 .bor (.o2 .eq (.o1 (.fld 0) (.var 0)) (.int 2)) (.o2 .eq (.o1 (.fld 0) (.var 0)) (.int 4))), true)] (.fn 61) [.sc (.int .i64) (.o1 (.fld 1) (.var 0)), .sc (.int .i64) (.int 0), .sc (.int .i64) (.int 8)] [.sc .bool]
   (.ret [(.o2 .band (.o2 .bor (.o2 .eq (.o1 (.fld 0) (.var 0)) (.int 2)) (.o2 .eq (.o1 (.fld 0) (.var 0)) (.int 4))) (.var 1))]))))
 (.br (.o2 .eq (.o1 (.fld 0) (.var 0)) (.int 3))
  (.ret [(.o2 .eq (.o1 (.fld 1) (.var 0)) (.int 0))])
  (.br (.o2 .eq (.o1 (.fld 0) (.var 0)) (.int 1))
   (.call [] (.fn 61) [.sc (.int .i64) (.o1 (.fld 1) (.var 0)), .sc (.int .i64) (.int (-2147483647)), .sc (.int .i64) (.int 2147483647)] [.sc .bool]
   (.ret [(.var 1)]))
   (.call [((.o2 .bor (.o2 .eq (.o1 (.fld 0) (.var 0)) (.int 2)) (.o2 .eq (.o1 (.fld 0) (.var 0)) (.int 4))), true)] (.fn 61) [.sc (.int .i64) (.o1 (.fld 1) (.var 0)), .sc (.int .i64) (.int 0), .sc (.int .i64) (.int 8)] [.sc .bool]
   (.ret [(.o2 .band (.o2 .bor (.o2 .eq (.o1 (.fld 0) (.var 0)) (.int 2)) (.o2 .eq (.o1 (.fld 0) (.var 0)) (.int 4))) (.var 1))])))))
theorem sig_63 : sigOf Tryz.prog md 63 [] = some ([.st [(.int .i64), (.int .i64)]], [.sc .bool], tree_63) := by kernel_rfl
/- spec.l9Plain -/
def tree_87 : T :=
(.ret [(.o2 .band (.o2 .band (.o2 .band (.o2 .band (.o2 .eq (.o1 (.fld 2) (.var 0)) (.int 0)) (.o2 .eq (.o1 (.fld 3) (.var 0)) (.int (-1)))) (.o2 .eq (.o1 (.fld 4) (.var 0)) (.int 0))) (.o1 .not (.o1 (.fld 5) (.var 0)))) (.o2 .eq (.o1 .len (.o1 (.fld 6) (.var 0))) (.int 0)))])
theorem sig_87 : sigOf Tryz.prog md 87 [] = some ([.st [(.int .i64), (.int .i64), (.int .i64), (.int .i64), (.int .i64), .bool, (.sl [(.int .i64), (.int .i64), (.int .i64), (.int .i64), (.int .i64), (.int .i64), .bool])]], [.sc .bool], tree_87) := by kernel_rfl
/- spec.EventOk -/
def tree_68 : T :=
(.call [] (.fn 61) [.sc (.int .i64) (.o1 (.fld 2) (.var 0)), .sc (.int .i64) (.int 1), .sc (.int .i64) (.int 99)] [.sc .bool]
(.call [((.o2 .eq (.o1 (.fld 2) (.var 0)) (.int 0)), true)] (.fn 61) [.sc (.int .i64) (.o1 (.fld 3) (.var 0)), .sc (.int .i64) (.int 0), .sc (.int .i64) (.int 2)] [.sc .bool]
(.call [] (.fn 61) [.sc (.int .i64) (.o1 (.fld 4) (.var 0)), .sc (.int .i64) (.int 0), .sc (.int .i64) (.int 2147483647)] [.sc .bool]
(.br (.o1 .not (.var 3))
 (.ret [(.bool false)])
 (.br (.o2 .eq (.o1 (.fld 0) (.var 0)) (.int 1))
  (.call [] (.fn 61) [.sc (.int .i64) (.o1 (.fld 1) (.var 0)), .sc (.int .i64) (.int 1), .sc (.int .i64) (.int 99)] [.sc .bool]
  (.ret [(.o2 .band (.o2 .band (.o2 .band (.var 4) (.o2 .bor (.o2 .band (.var 1) (.o2 .eq (.o1 (.fld 3) (.var 0)) (.int (-1)))) (.o2 .band (.o2 .eq (.o1 (.fld 2) (.var 0)) (.int 0)) (.var 2)))) (.o2 .eq (.o1 (.fld 5) (.var 0)) (.int 0))) (.o1 .not (.o1 (.fld 6) (.var 0))))]))
  (.br (.o2 .eq (.o1 (.fld 0) (.var 0)) (.int 2))
   (.call [((.o2 .band (.o2 .eq (.o1 (.fld 1) (.var 0)) (.int 0)) (.o2 .band (.var 1) (.o2 .eq (.o1 (.fld 3) (.var 0)) (.int (-1))))), true)] (.fn 61) [.sc (.int .i64) (.o1 (.fld 5) (.var 0)), .sc (.int .i64) (.int 1), .sc (.int .i64) (.int 4)] [.sc .bool]
   (.ret [(.o2 .band (.o2 .band (.o2 .band (.o2 .band (.o2 .eq (.o1 (.fld 1) (.var 0)) (.int 0)) (.o2 .band (.var 1) (.o2 .eq (.o1 (.fld 3) (.var 0)) (.int (-1))))) (.var 4)) (.o2 .le (.o1 (.fld 4) (.var 0)) (.int 99))) (.o2 .bor (.o2 .eq (.o1 (.fld 5) (.var 0)) (.int 2)) (.o2 .band (.o2 .eq (.o1 (.fld 4) (.var 0)) (.int 0)) (.o1 .not (.o1 (.fld 6) (.var 0))))))]))
   (.br (.o2 .eq (.o1 (.fld 0) (.var 0)) (.int 3))
    (.br (.o2 .eq (.o1 (.fld 0) (.var 0)) (.int 3))
     (.ret [(.o2 .band (.o2 .band (.o2 .band (.o2 .eq (.o1 (.fld 1) (.var 0)) (.int 0)) (.o2 .band (.o2 .eq (.o1 (.fld 2) (.var 0)) (.int 0)) (.var 2))) (.o2 .eq (.o1 (.fld 5) (.var 0)) (.int 0))) (.o1 .not (.o1 (.fld 6) (.var 0))))])
     (.br (.o2 .eq (.o1 (.fld 0) (.var 0)) (.int 5))
      (.br (.o2 .eq (.o1 (.fld 0) (.var 0)) (.int 5))
       (.ret [(.o2 .band (.o2 .band (.o2 .band (.o2 .eq (.o1 (.fld 1) (.var 0)) (.int 0)) (.o2 .band (.var 1) (.o2 .eq (.o1 (.fld 3) (.var 0)) (.int (-1))))) (.o2 .eq (.o1 (.fld 5) (.var 0)) (.int 0))) (.o1 .not (.o1 (.fld 6) (.var 0))))])
       (.ret [(.bool false)]))
      (.br (.o2 .eq (.o1 (.fld 0) (.var 0)) (.int 6))
       (.ret [(.o2 .band (.o2 .band (.o2 .band (.o2 .eq (.o1 (.fld 1) (.var 0)) (.int 0)) (.o2 .band (.var 1) (.o2 .eq (.o1 (.fld 3) (.var 0)) (.int (-1))))) (.o2 .eq (.o1 (.fld 5) (.var 0)) (.int 0))) (.o1 .not (.o1 (.fld 6) (.var 0))))])
       (.ret [(.bool false)]))))
    (.br (.o2 .eq (.o1 (.fld 0) (.var 0)) (.int 4))
     (.ret [(.o2 .band (.o2 .band (.o2 .band (.o2 .eq (.o1 (.fld 1) (.var 0)) (.int 0)) (.o2 .band (.o2 .eq (.o1 (.fld 2) (.var 0)) (.int 0)) (.var 2))) (.o2 .eq (.o1 (.fld 5) (.var 0)) (.int 0))) (.o1 .not (.o1 (.fld 6) (.var 0))))])
     (.br (.o2 .eq (.o1 (.fld 0) (.var 0)) (.int 5))
      (.br (.o2 .eq (.o1 (.fld 0) (.var 0)) (.int 5))
       (.ret [(.o2 .band (.o2 .band (.o2 .band (.o2 .eq (.o1 (.fld 1) (.var 0)) (.int 0)) (.o2 .band (.var 1) (.o2 .eq (.o1 (.fld 3) (.var 0)) (.int (-1))))) (.o2 .eq (.o1 (.fld 5) (.var 0)) (.int 0))) (.o1 .not (.o1 (.fld 6) (.var 0))))])
       (.ret [(.bool false)]))
      (.br (.o2 .eq (.o1 (.fld 0) (.var 0)) (.int 6))
       (.ret [(.o2 .band (.o2 .band (.o2 .band (.o2 .eq (.o1 (.fld 1) (.var 0)) (.int 0)) (.o2 .band (.var 1) (.o2 .eq (.o1 (.fld 3) (.var 0)) (.int (-1))))) (.o2 .eq (.o1 (.fld 5) (.var 0)) (.int 0))) (.o1 .not (.o1 (.fld 6) (.var 0))))])
       (.ret [(.bool false)])))))))))))
theorem sig_68 : sigOf Tryz.prog md 68 [] = some ([.st [(.int .i64), (.int .i64), (.int .i64), (.int .i64), (.int .i64), (.int .i64), .bool]], [.sc .bool], tree_68) := by kernel_rfl
/- spec.l9Part -/
def tree_88 : T :=
(.br (.o2 .band (.o2 .eq (.o1 (.fld 4) (.var 0)) (.int (-1))) (.o2 .ne (.o1 (.fld 0) (.var 0)) (.int 2)))
 (.call [] (.fn 68) [.st [(.int .i64), (.int .i64), (.int .i64), (.int .i64), (.int .i64), (.int .i64), .bool] (.o2 .cons (.o1 (.fld 0) (.var 0)) (.o2 .cons (.o1 (.fld 1) (.var 0)) (.o2 .cons (.o1 (.fld 2) (.var 0)) (.o2 .cons (.o1 (.fld 3) (.var 0)) (.o2 .cons (.int 0) (.o2 .cons (.o1 (.fld 5) (.var 0)) (.o2 .cons (.o1 (.fld 6) (.var 0)) .nil)))))))] [.sc .bool]
 (.ret [(.var 1)]))
 (.call [] (.fn 68) [.st [(.int .i64), (.int .i64), (.int .i64), (.int .i64), (.int .i64), (.int .i64), .bool] (.o2 .cons (.o1 (.fld 0) (.var 0)) (.o2 .cons (.o1 (.fld 1) (.var 0)) (.o2 .cons (.o1 (.fld 2) (.var 0)) (.o2 .cons (.o1 (.fld 3) (.var 0)) (.o2 .cons (.o1 (.fld 4) (.var 0)) (.o2 .cons (.o1 (.fld 5) (.var 0)) (.o2 .cons (.o1 (.fld 6) (.var 0)) .nil)))))))] [.sc .bool]
 (.ret [(.var 1)])))
theorem sig_88 : sigOf Tryz.prog md 88 [] = some ([.st [(.int .i64), (.int .i64), (.int .i64), (.int .i64), (.int .i64), (.int .i64), .bool]], [.sc .bool], tree_88) := by kernel_rfl
/- spec.ActOk -/
def tree_64 : T :=
(.br (.o2 .eq (.o1 (.fld 0) (.var 0)) (.int 1))
 (.br (.o2 .eq (.o1 (.fld 0) (.var 0)) (.int 1))
  (.call [] (.fn 87) [.st [(.int .i64), (.int .i64), (.int .i64), (.int .i64), (.int .i64), .bool, (.sl [(.int .i64), (.int .i64), (.int .i64), (.int .i64), (.int .i64), (.int .i64), .bool])] (.o2 .cons (.o1 (.fld 0) (.var 0)) (.o2 .cons (.o1 (.fld 1) (.var 0)) (.o2 .cons (.o1 (.fld 2) (.var 0)) (.o2 .cons (.o1 (.fld 3) (.var 0)) (.o2 .cons (.o1 (.fld 4) (.var 0)) (.o2 .cons (.o1 (.fld 5) (.var 0)) (.o2 .cons (.o1 (.fld 6) (.var 0)) .nil)))))))] [.sc .bool]
  (.ret [(.o2 .band (.var 1) (.o2 .eq (.o1 (.fld 1) (.var 0)) (.int 0)))]))
  (.br (.o2 .eq (.o1 (.fld 0) (.var 0)) (.int 3))
   (.call [] (.fn 87) [.st [(.int .i64), (.int .i64), (.int .i64), (.int .i64), (.int .i64), .bool, (.sl [(.int .i64), (.int .i64), (.int .i64), (.int .i64), (.int .i64), (.int .i64), .bool])] (.o2 .cons (.o1 (.fld 0) (.var 0)) (.o2 .cons (.o1 (.fld 1) (.var 0)) (.o2 .cons (.o1 (.fld 2) (.var 0)) (.o2 .cons (.o1 (.fld 3) (.var 0)) (.o2 .cons (.o1 (.fld 4) (.var 0)) (.o2 .cons (.o1 (.fld 5) (.var 0)) (.o2 .cons (.o1 (.fld 6) (.var 0)) .nil)))))))] [.sc .bool]
   (.call [((.var 1), true)] (.fn 61) [.sc (.int .i64) (.o1 (.fld 1) (.var 0)), .sc (.int .i64) (.int 1), .sc (.int .i64) (.int 2147483647)] [.sc .bool]
   (.ret [(.o2 .band (.var 1) (.var 2))])))
   (.br (.o2 .eq (.o1 (.fld 0) (.var 0)) (.int 6))
    (.call [((.o2 .band (.o2 .band (.o2 .band (.o2 .eq (.o1 (.fld 1) (.var 0)) (.int 0)) (.o2 .eq (.o1 (.fld 4) (.var 0)) (.int 0))) (.o1 .not (.o1 (.fld 5) (.var 0)))) (.o2 .eq (.o1 .len (.o1 (.fld 6) (.var 0))) (.int 0))), true)] (.fn 61) [.sc (.int .i64) (.o1 (.fld 2) (.var 0)), .sc (.int .i64) (.int 1), .sc (.int .i64) (.int 99)] [.sc .bool]
    (.call [((.o2 .band (.o2 .band (.o2 .band (.o2 .eq (.o1 (.fld 1) (.var 0)) (.int 0)) (.o2 .eq (.o1 (.fld 4) (.var 0)) (.int 0))) (.o1 .not (.o1 (.fld 5) (.var 0)))) (.o2 .eq (.o1 .len (.o1 (.fld 6) (.var 0))) (.int 0))), true), ((.o2 .band (.var 1) (.o2 .eq (.o1 (.fld 3) (.var 0)) (.int (-1)))), false), ((.o2 .eq (.o1 (.fld 2) (.var 0)) (.int 0)), true)] (.fn 61) [.sc (.int .i64) (.o1 (.fld 3) (.var 0)), .sc (.int .i64) (.int 0), .sc (.int .i64) (.int 2)] [.sc .bool]
    (.ret [(.o2 .band (.o2 .band (.o2 .band (.o2 .band (.o2 .eq (.o1 (.fld 1) (.var 0)) (.int 0)) (.o2 .eq (.o1 (.fld 4) (.var 0)) (.int 0))) (.o1 .not (.o1 (.fld 5) (.var 0)))) (.o2 .eq (.o1 .len (.o1 (.fld 6) (.var 0))) (.int 0))) (.o2 .bor (.o2 .band (.var 1) (.o2 .eq (.o1 (.fld 3) (.var 0)) (.int (-1)))) (.o2 .band (.o2 .eq (.o1 (.fld 2) (.var 0)) (.int 0)) (.var 2))))])))
    (.br (.o2 .eq (.o1 (.fld 0) (.var 0)) (.int 7))
     (.call [((.o2 .band (.o2 .band (.o2 .band (.o2 .band (.o2 .eq (.o1 (.fld 1) (.var 0)) (.int 0)) (.o2 .eq (.o1 (.fld 2) (.var 0)) (.int 0))) (.o2 .eq (.o1 (.fld 3) (.var 0)) (.int (-1)))) (.o1 .not (.o1 (.fld 5) (.var 0)))) (.o2 .eq (.o1 .len (.o1 (.fld 6) (.var 0))) (.int 0))), true)] (.fn 61) [.sc (.int .i64) (.o1 (.fld 4) (.var 0)), .sc (.int .i64) (.int 1), .sc (.int .i64) (.int 4)] [.sc .bool]
     (.ret [(.o2 .band (.o2 .band (.o2 .band (.o2 .band (.o2 .band (.o2 .eq (.o1 (.fld 1) (.var 0)) (.int 0)) (.o2 .eq (.o1 (.fld 2) (.var 0)) (.int 0))) (.o2 .eq (.o1 (.fld 3) (.var 0)) (.int (-1)))) (.o1 .not (.o1 (.fld 5) (.var 0)))) (.o2 .eq (.o1 .len (.o1 (.fld 6) (.var 0))) (.int 0))) (.var 1))]))
     (.br (.o2 .eq (.o1 (.fld 0) (.var 0)) (.int 8))
      (.call [] (.fn 61) [.sc (.int .i64) (.o1 (.fld 1) (.var 0)), .sc (.int .i64) (.int 0), .sc (.int .i64) (.int 99)] [.sc .bool]
      (.ret [(.o2 .band (.o2 .band (.o2 .band (.o2 .band (.var 1) (.o2 .eq (.o1 (.fld 2) (.var 0)) (.int 0))) (.o2 .eq (.o1 (.fld 3) (.var 0)) (.int (-1)))) (.o2 .eq (.o1 (.fld 4) (.var 0)) (.int 0))) (.o2 .eq (.o1 .len (.o1 (.fld 6) (.var 0))) (.int 0)))]))
      (.br (.o2 .eq (.o1 (.fld 0) (.var 0)) (.int 9))
       (.loop 0 [(.int 0)]
        (.know (.o1 (.fld 6) (.var 0))
        (.br (.o2 .lt (.var 1) (.o1 .len (.o1 (.fld 6) (.var 0))))
         (.need [] (.o2 .le (.int 0) (.var 1))
         (.need [] (.o2 .lt (.var 1) (.o1 .len (.o1 (.fld 6) (.var 0))))
         (.call [] (.fn 88) [.st [(.int .i64), (.int .i64), (.int .i64), (.int .i64), (.int .i64), (.int .i64), .bool] (.o2 .cons (.o1 (.fld 0) (.o2 .idx (.o1 (.fld 6) (.var 0)) (.var 1))) (.o2 .cons (.o1 (.fld 1) (.o2 .idx (.o1 (.fld 6) (.var 0)) (.var 1))) (.o2 .cons (.o1 (.fld 2) (.o2 .idx (.o1 (.fld 6) (.var 0)) (.var 1))) (.o2 .cons (.o1 (.fld 3) (.o2 .idx (.o1 (.fld 6) (.var 0)) (.var 1))) (.o2 .cons (.o1 (.fld 4) (.o2 .idx (.o1 (.fld 6) (.var 0)) (.var 1))) (.o2 .cons (.o1 (.fld 5) (.o2 .idx (.o1 (.fld 6) (.var 0)) (.var 1))) (.o2 .cons (.o1 (.fld 6) (.o2 .idx (.o1 (.fld 6) (.var 0)) (.var 1))) .nil)))))))] [.sc .bool]
         (.br (.o1 .not (.var 2))
          (.ret [(.bool false)])
          (.cont 0 [(.o2 (.add .i64) (.var 1) (.int 1))])))))
         (.call [((.o2 .band (.o2 .band (.o2 .band (.o2 .band (.o2 .eq (.o1 (.fld 1) (.var 0)) (.int 0)) (.o2 .eq (.o1 (.fld 2) (.var 0)) (.int 0))) (.o2 .eq (.o1 (.fld 3) (.var 0)) (.int (-1)))) (.o2 .eq (.o1 (.fld 4) (.var 0)) (.int 0))) (.o1 .not (.o1 (.fld 5) (.var 0)))), true)] (.fn 61) [.sc (.int .i64) (.o1 .len (.o1 (.fld 6) (.var 0))), .sc (.int .i64) (.int 1), .sc (.int .i64) (.int 3)] [.sc .bool]
         (.ret [(.o2 .band (.o2 .band (.o2 .band (.o2 .band (.o2 .band (.o2 .eq (.o1 (.fld 1) (.var 0)) (.int 0)) (.o2 .eq (.o1 (.fld 2) (.var 0)) (.int 0))) (.o2 .eq (.o1 (.fld 3) (.var 0)) (.int (-1)))) (.o2 .eq (.o1 (.fld 4) (.var 0)) (.int 0))) (.o1 .not (.o1 (.fld 5) (.var 0)))) (.var 2))])))))
       (.ret [(.bool false)])))))))
 (.br (.o2 .eq (.o1 (.fld 0) (.var 0)) (.int 2))
  (.br (.o2 .eq (.o1 (.fld 0) (.var 0)) (.int 2))
   (.call [] (.fn 87) [.st [(.int .i64), (.int .i64), (.int .i64), (.int .i64), (.int .i64), .bool, (.sl [(.int .i64), (.int .i64), (.int .i64), (.int .i64), (.int .i64), (.int .i64), .bool])] (.o2 .cons (.o1 (.fld 0) (.var 0)) (.o2 .cons (.o1 (.fld 1) (.var 0)) (.o2 .cons (.o1 (.fld 2) (.var 0)) (.o2 .cons (.o1 (.fld 3) (.var 0)) (.o2 .cons (.o1 (.fld 4) (.var 0)) (.o2 .cons (.o1 (.fld 5) (.var 0)) (.o2 .cons (.o1 (.fld 6) (.var 0)) .nil)))))))] [.sc .bool]
   (.ret [(.o2 .band (.var 1) (.o2 .eq (.o1 (.fld 1) (.var 0)) (.int 0)))]))
   (.br (.o2 .eq (.o1 (.fld 0) (.var 0)) (.int 3))
    (.call [] (.fn 87) [.st [(.int .i64), (.int .i64), (.int .i64), (.int .i64), (.int .i64), .bool, (.sl [(.int .i64), (.int .i64), (.int .i64), (.int .i64), (.int .i64), (.int .i64), .bool])] (.o2 .cons (.o1 (.fld 0) (.var 0)) (.o2 .cons (.o1 (.fld 1) (.var 0)) (.o2 .cons (.o1 (.fld 2) (.var 0)) (.o2 .cons (.o1 (.fld 3) (.var 0)) (.o2 .cons (.o1 (.fld 4) (.var 0)) (.o2 .cons (.o1 (.fld 5) (.var 0)) (.o2 .cons (.o1 (.fld 6) (.var 0)) .nil)))))))] [.sc .bool]
    (.call [((.var 1), true)] (.fn 61) [.sc (.int .i64) (.o1 (.fld 1) (.var 0)), .sc (.int .i64) (.int 1), .sc (.int .i64) (.int 2147483647)] [.sc .bool]
    (.ret [(.o2 .band (.var 1) (.var 2))])))
    (.br (.o2 .eq (.o1 (.fld 0) (.var 0)) (.int 6))
     (.call [((.o2 .band (.o2 .band (.o2 .band (.o2 .eq (.o1 (.fld 1) (.var 0)) (.int 0)) (.o2 .eq (.o1 (.fld 4) (.var 0)) (.int 0))) (.o1 .not (.o1 (.fld 5) (.var 0)))) (.o2 .eq (.o1 .len (.o1 (.fld 6) (.var 0))) (.int 0))), true)] (.fn 61) [.sc (.int .i64) (.o1 (.fld 2) (.var 0)), .sc (.int .i64) (.int 1), .sc (.int .i64) (.int 99)] [.sc .bool]
     (.call [((.o2 .band (.o2 .band (.o2 .band (.o2 .eq (.o1 (.fld 1) (.var 0)) (.int 0)) (.o2 .eq (.o1 (.fld 4) (.var 0)) (.int 0))) (.o1 .not (.o1 (.fld 5) (.var 0)))) (.o2 .eq (.o1 .len (.o1 (.fld 6) (.var 0))) (.int 0))), true), ((.o2 .band (.var 1) (.o2 .eq (.o1 (.fld 3) (.var 0)) (.int (-1)))), false), ((.o2 .eq (.o1 (.fld 2) (.var 0)) (.int 0)), true)] (.fn 61) [.sc (.int .i64) (.o1 (.fld 3) (.var 0)), .sc (.int .i64) (.int 0), .sc (.int .i64) (.int 2)] [.sc .bool]
     (.ret [(.o2 .band (.o2 .band (.o2 .band (.o2 .band (.o2 .eq (.o1 (.fld 1) (.var 0)) (.int 0)) (.o2 .eq (.o1 (.fld 4) (.var 0)) (.int 0))) (.o1 .not (.o1 (.fld 5) (.var 0)))) (.o2 .eq (.o1 .len (.o1 (.fld 6) (.var 0))) (.int 0))) (.o2 .bor (.o2 .band (.var 1) (.o2 .eq (.o1 (.fld 3) (.var 0)) (.int (-1)))) (.o2 .band (.o2 .eq (.o1 (.fld 2) (.var 0)) (.int 0)) (.var 2))))])))
     (.br (.o2 .eq (.o1 (.fld 0) (.var 0)) (.int 7))
      (.call [((.o2 .band (.o2 .band (.o2 .band (.o2 .band (.o2 .eq (.o1 (.fld 1) (.var 0)) (.int 0)) (.o2 .eq (.o1 (.fld 2) (.var 0)) (.int 0))) (.o2 .eq (.o1 (.fld 3) (.var 0)) (.int (-1)))) (.o1 .not (.o1 (.fld 5) (.var 0)))) (.o2 .eq (.o1 .len (.o1 (.fld 6) (.var 0))) (.int 0))), true)] (.fn 61) [.sc (.int .i64) (.o1 (.fld 4) (.var 0)), .sc (.int .i64) (.int 1), .sc (.int .i64) (.int 4)] [.sc .bool]
      (.ret [(.o2 .band (.o2 .band (.o2 .band (.o2 .band (.o2 .band (.o2 .eq (.o1 (.fld 1) (.var 0)) (.int 0)) (.o2 .eq (.o1 (.fld 2) (.var 0)) (.int 0))) (.o2 .eq (.o1 (.fld 3) (.var 0)) (.int (-1)))) (.o1 .not (.o1 (.fld 5) (.var 0)))) (.o2 .eq (.o1 .len (.o1 (.fld 6) (.var 0))) (.int 0))) (.var 1))]))
      (.br (.o2 .eq (.o1 (.fld 0) (.var 0)) (.int 8))
       (.call [] (.fn 61) [.sc (.int .i64) (.o1 (.fld 1) (.var 0)), .sc (.int .i64) (.int 0), .sc (.int .i64) (.int 99)] [.sc .bool]
       (.ret [(.o2 .band (.o2 .band (.o2 .band (.o2 .band (.var 1) (.o2 .eq (.o1 (.fld 2) (.var 0)) (.int 0))) (.o2 .eq (.o1 (.fld 3) (.var 0)) (.int (-1)))) (.o2 .eq (.o1 (.fld 4) (.var 0)) (.int 0))) (.o2 .eq (.o1 .len (.o1 (.fld 6) (.var 0))) (.int 0)))]))
       (.br (.o2 .eq (.o1 (.fld 0) (.var 0)) (.int 9))
        (.loop 0 [(.int 0)]
         (.know (.o1 (.fld 6) (.var 0))
         (.br (.o2 .lt (.var 1) (.o1 .len (.o1 (.fld 6) (.var 0))))
          (.need [] (.o2 .le (.int 0) (.var 1))
          (.need [] (.o2 .lt (.var 1) (.o1 .len (.o1 (.fld 6) (.var 0))))
          (.call [] (.fn 88) [.st [(.int .i64), (.int .i64), (.int .i64), (.int .i64), (.int .i64), (.int .i64), .bool] (.o2 .cons (.o1 (.fld 0) (.o2 .idx (.o1 (.fld 6) (.var 0)) (.var 1))) (.o2 .cons (.o1 (.fld 1) (.o2 .idx (.o1 (.fld 6) (.var 0)) (.var 1))) (.o2 .cons (.o1 (.fld 2) (.o2 .idx (.o1 (.fld 6) (.var 0)) (.var 1))) (.o2 .cons (.o1 (.fld 3) (.o2 .idx (.o1 (.fld 6) (.var 0)) (.var 1))) (.o2 .cons (.o1 (.fld 4) (.o2 .idx (.o1 (.fld 6) (.var 0)) (.var 1))) (.o2 .cons (.o1 (.fld 5) (.o2 .idx (.o1 (.fld 6) (.var 0)) (.var 1))) (.o2 .cons (.o1 (.fld 6) (.o2 .idx (.o1 (.fld 6) (.var 0)) (.var 1))) .nil)))))))] [.sc .bool]
          (.br (.o1 .not (.var 2))
           (.ret [(.bool false)])
           (.cont 0 [(.o2 (.add .i64) (.var 1) (.int 1))])))))
          (.call [((.o2 .band (.o2 .band (.o2 .band (.o2 .band (.o2 .eq (.o1 (.fld 1) (.var 0)) (.int 0)) (.o2 .eq (.o1 (.fld 2) (.var 0)) (.int 0))) (.o2 .eq (.o1 (.fld 3) (.var 0)) (.int (-1)))) (.o2 .eq (.o1 (.fld 4) (.var 0)) (.int 0))) (.o1 .not (.o1 (.fld 5) (.var 0)))), true)] (.fn 61) [.sc (.int .i64) (.o1 .len (.o1 (.fld 6) (.var 0))), .sc (.int .i64) (.int 1), .sc (.int .i64) (.int 3)] [.sc .bool]
          (.ret [(.o2 .band (.o2 .band (.o2 .band (.o2 .band (.o2 .band (.o2 .eq (.o1 (.fld 1) (.var 0)) (.int 0)) (.o2 .eq (.o1 (.fld 2) (.var 0)) (.int 0))) (.o2 .eq (.o1 (.fld 3) (.var 0)) (.int (-1)))) (.o2 .eq (.o1 (.fld 4) (.var 0)) (.int 0))) (.o1 .not (.o1 (.fld 5) (.var 0)))) (.var 2))])))))
        (.ret [(.bool false)])))))))
  (.br (.o2 .eq (.o1 (.fld 0) (.var 0)) (.int 4))
   (.br (.o2 .eq (.o1 (.fld 0) (.var 0)) (.int 4))
    (.call [] (.fn 87) [.st [(.int .i64), (.int .i64), (.int .i64), (.int .i64), (.int .i64), .bool, (.sl [(.int .i64), (.int .i64), (.int .i64), (.int .i64), (.int .i64), (.int .i64), .bool])] (.o2 .cons (.o1 (.fld 0) (.var 0)) (.o2 .cons (.o1 (.fld 1) (.var 0)) (.o2 .cons (.o1 (.fld 2) (.var 0)) (.o2 .cons (.o1 (.fld 3) (.var 0)) (.o2 .cons (.o1 (.fld 4) (.var 0)) (.o2 .cons (.o1 (.fld 5) (.var 0)) (.o2 .cons (.o1 (.fld 6) (.var 0)) .nil)))))))] [.sc .bool]
    (.ret [(.o2 .band (.var 1) (.o2 .eq (.o1 (.fld 1) (.var 0)) (.int 0)))]))
    (.br (.o2 .eq (.o1 (.fld 0) (.var 0)) (.int 3))
     (.call [] (.fn 87) [.st [(.int .i64), (.int .i64), (.int .i64), (.int .i64), (.int .i64), .bool, (.sl [(.int .i64), (.int .i64), (.int .i64), (.int .i64), (.int .i64), (.int .i64), .bool])] (.o2 .cons (.o1 (.fld 0) (.var 0)) (.o2 .cons (.o1 (.fld 1) (.var 0)) (.o2 .cons (.o1 (.fld 2) (.var 0)) (.o2 .cons (.o1 (.fld 3) (.var 0)) (.o2 .cons (.o1 (.fld 4) (.var 0)) (.o2 .cons (.o1 (.fld 5) (.var 0)) (.o2 .cons (.o1 (.fld 6) (.var 0)) .nil)))))))] [.sc .bool]
     (.call [((.var 1), true)] (.fn 61) [.sc (.int .i64) (.o1 (.fld 1) (.var 0)), .sc (.int .i64) (.int 1), .sc (.int .i64) (.int 2147483647)] [.sc .bool]
     (.ret [(.o2 .band (.var 1) (.var 2))])))
     (.br (.o2 .eq (.o1 (.fld 0) (.var 0)) (.int 6))
      (.call [((.o2 .band (.o2 .band (.o2 .band (.o2 .eq (.o1 (.fld 1) (.var 0)) (.int 0)) (.o2 .eq (.o1 (.fld 4) (.var 0)) (.int 0))) (.o1 .not (.o1 (.fld 5) (.var 0)))) (.o2 .eq (.o1 .len (.o1 (.fld 6) (.var 0))) (.int 0))), true)] (.fn 61) [.sc (.int .i64) (.o1 (.fld 2) (.var 0)), .sc (.int .i64) (.int 1), .sc (.int .i64) (.int 99)] [.sc .bool]
      (.call [((.o2 .band (.o2 .band (.o2 .band (.o2 .eq (.o1 (.fld 1) (.var 0)) (.int 0)) (.o2 .eq (.o1 (.fld 4) (.var 0)) (.int 0))) (.o1 .not (.o1 (.fld 5) (.var 0)))) (.o2 .eq (.o1 .len (.o1 (.fld 6) (.var 0))) (.int 0))), true), ((.o2 .band (.var 1) (.o2 .eq (.o1 (.fld 3) (.var 0)) (.int (-1)))), false), ((.o2 .eq (.o1 (.fld 2) (.var 0)) (.int 0)), true)] (.fn 61) [.sc (.int .i64) (.o1 (.fld 3) (.var 0)), .sc (.int .i64) (.int 0), .sc (.int .i64) (.int 2)] [.sc .bool]
      (.ret [(.o2 .band (.o2 .band (.o2 .band (.o2 .band (.o2 .eq (.o1 (.fld 1) (.var 0)) (.int 0)) (.o2 .eq (.o1 (.fld 4) (.var 0)) (.int 0))) (.o1 .not (.o1 (.fld 5) (.var 0)))) (.o2 .eq (.o1 .len (.o1 (.fld 6) (.var 0))) (.int 0))) (.o2 .bor (.o2 .band (.var 1) (.o2 .eq (.o1 (.fld 3) (.var 0)) (.int (-1)))) (.o2 .band (.o2 .eq (.o1 (.fld 2) (.var 0)) (.int 0)) (.var 2))))])))
      (.br (.o2 .eq (.o1 (.fld 0) (.var 0)) (.int 7))
       (.call [((.o2 .band (.o2 .band (.o2 .band (.o2 .band (.o2 .eq (.o1 (.fld 1) (.var 0)) (.int 0)) (.o2 .eq (.o1 (.fld 2) (.var 0)) (.int 0))) (.o2 .eq (.o1 (.fld 3) (.var 0)) (.int (-1)))) (.o1 .not (.o1 (.fld 5) (.var 0)))) (.o2 .eq (.o1 .len (.o1 (.fld 6) (.var 0))) (.int 0))), true)] (.fn 61) [.sc (.int .i64) (.o1 (.fld 4) (.var 0)), .sc (.int .i64) (.int 1), .sc (.int .i64) (.int 4)] [.sc .bool]
       (.ret [(.o2 .band (.o2 .band (.o2 .band (.o2 .band (.o2 .band (.o2 .eq (.o1 (.fld 1) (.var 0)) (.int 0)) (.o2 .eq (.o1 (.fld 2) (.var 0)) (.int 0))) (.o2 .eq (.o1 (.fld 3) (.var 0)) (.int (-1)))) (.o1 .not (.o1 (.fld 5) (.var 0)))) (.o2 .eq (.o1 .len (.o1 (.fld 6) (.var 0))) (.int 0))) (.var 1))]))
       (.br (.o2 .eq (.o1 (.fld 0) (.var 0)) (.int 8))
        (.call [] (.fn 61) [.sc (.int .i64) (.o1 (.fld 1) (.var 0)), .sc (.int .i64) (.int 0), .sc (.int .i64) (.int 99)] [.sc .bool]
        (.ret [(.o2 .band (.o2 .band (.o2 .band (.o2 .band (.var 1) (.o2 .eq (.o1 (.fld 2) (.var 0)) (.int 0))) (.o2 .eq (.o1 (.fld 3) (.var 0)) (.int (-1)))) (.o2 .eq (.o1 (.fld 4) (.var 0)) (.int 0))) (.o2 .eq (.o1 .len (.o1 (.fld 6) (.var 0))) (.int 0)))]))
        (.br (.o2 .eq (.o1 (.fld 0) (.var 0)) (.int 9))
         (.loop 0 [(.int 0)]
          (.know (.o1 (.fld 6) (.var 0))
          (.br (.o2 .lt (.var 1) (.o1 .len (.o1 (.fld 6) (.var 0))))
           (.need [] (.o2 .le (.int 0) (.var 1))
           (.need [] (.o2 .lt (.var 1) (.o1 .len (.o1 (.fld 6) (.var 0))))
           (.call [] (.fn 88) [.st [(.int .i64), (.int .i64), (.int .i64), (.int .i64), (.int .i64), (.int .i64), .bool] (.o2 .cons (.o1 (.fld 0) (.o2 .idx (.o1 (.fld 6) (.var 0)) (.var 1))) (.o2 .cons (.o1 (.fld 1) (.o2 .idx (.o1 (.fld 6) (.var 0)) (.var 1))) (.o2 .cons (.o1 (.fld 2) (.o2 .idx (.o1 (.fld 6) (.var 0)) (.var 1))) (.o2 .cons (.o1 (.fld 3) (.o2 .idx (.o1 (.fld 6) (.var 0)) (.var 1))) (.o2 .cons (.o1 (.fld 4) (.o2 .idx (.o1 (.fld 6) (.var 0)) (.var 1))) (.o2 .cons (.o1 (.fld 5) (.o2 .idx (.o1 (.fld 6) (.var 0)) (.var 1))) (.o2 .cons (.o1 (.fld 6) (.o2 .idx (.o1 (.fld 6) (.var 0)) (.var 1))) .nil)))))))] [.sc .bool]
           (.br (.o1 .not (.var 2))
            (.ret [(.bool false)])
            (.cont 0 [(.o2 (.add .i64) (.var 1) (.int 1))])))))
           (.call [((.o2 .band (.o2 .band (.o2 .band (.o2 .band (.o2 .eq (.o1 (.fld 1) (.var 0)) (.int 0)) (.o2 .eq (.o1 (.fld 2) (.var 0)) (.int 0))) (.o2 .eq (.o1 (.fld 3) (.var 0)) (.int (-1)))) (.o2 .eq (.o1 (.fld 4) (.var 0)) (.int 0))) (.o1 .not (.o1 (.fld 5) (.var 0)))), true)] (.fn 61) [.sc (.int .i64) (.o1 .len (.o1 (.fld 6) (.var 0))), .sc (.int .i64) (.int 1), .sc (.int .i64) (.int 3)] [.sc .bool]
           (.ret [(.o2 .band (.o2 .band (.o2 .band (.o2 .band (.o2 .band (.o2 .eq (.o1 (.fld 1) (.var 0)) (.int 0)) (.o2 .eq (.o1 (.fld 2) (.var 0)) (.int 0))) (.o2 .eq (.o1 (.fld 3) (.var 0)) (.int (-1)))) (.o2 .eq (.o1 (.fld 4) (.var 0)) (.int 0))) (.o1 .not (.o1 (.fld 5) (.var 0)))) (.var 2))])))))
         (.ret [(.bool false)])))))))
   (.br (.o2 .eq (.o1 (.fld 0) (.var 0)) (.int 5))
    (.call [] (.fn 87) [.st [(.int .i64), (.int .i64), (.int .i64), (.int .i64), (.int .i64), .bool, (.sl [(.int .i64), (.int .i64), (.int .i64), (.int .i64), (.int .i64), (.int .i64), .bool])] (.o2 .cons (.o1 (.fld 0) (.var 0)) (.o2 .cons (.o1 (.fld 1) (.var 0)) (.o2 .cons (.o1 (.fld 2) (.var 0)) (.o2 .cons (.o1 (.fld 3) (.var 0)) (.o2 .cons (.o1 (.fld 4) (.var 0)) (.o2 .cons (.o1 (.fld 5) (.var 0)) (.o2 .cons (.o1 (.fld 6) (.var 0)) .nil)))))))] [.sc .bool]
    (.ret [(.o2 .band (.var 1) (.o2 .eq (.o1 (.fld 1) (.var 0)) (.int 0)))]))
    (.br (.o2 .eq (.o1 (.fld 0) (.var 0)) (.int 3))
     (.call [] (.fn 87) [.st [(.int .i64), (.int .i64), (.int .i64), (.int .i64), (.int .i64), .bool, (.sl [(.int .i64), (.int .i64), (.int .i64), (.int .i64), (.int .i64), (.int .i64), .bool])] (.o2 .cons (.o1 (.fld 0) (.var 0)) (.o2 .cons (.o1 (.fld 1) (.var 0)) (.o2 .cons (.o1 (.fld 2) (.var 0)) (.o2 .cons (.o1 (.fld 3) (.var 0)) (.o2 .cons (.o1 (.fld 4) (.var 0)) (.o2 .cons (.o1 (.fld 5) (.var 0)) (.o2 .cons (.o1 (.fld 6) (.var 0)) .nil)))))))] [.sc .bool]
     (.call [((.var 1), true)] (.fn 61) [.sc (.int .i64) (.o1 (.fld 1) (.var 0)), .sc (.int .i64) (.int 1), .sc (.int .i64) (.int 2147483647)] [.sc .bool]
     (.ret [(.o2 .band (.var 1) (.var 2))])))
     (.br (.o2 .eq (.o1 (.fld 0) (.var 0)) (.int 6))
      (.call [((.o2 .band (.o2 .band (.o2 .band (.o2 .eq (.o1 (.fld 1) (.var 0)) (.int 0)) (.o2 .eq (.o1 (.fld 4) (.var 0)) (.int 0))) (.o1 .not (.o1 (.fld 5) (.var 0)))) (.o2 .eq (.o1 .len (.o1 (.fld 6) (.var 0))) (.int 0))), true)] (.fn 61) [.sc (.int .i64) (.o1 (.fld 2) (.var 0)), .sc (.int .i64) (.int 1), .sc (.int .i64) (.int 99)] [.sc .bool]
      (.call [((.o2 .band (.o2 .band (.o2 .band (.o2 .eq (.o1 (.fld 1) (.var 0)) (.int 0)) (.o2 .eq (.o1 (.fld 4) (.var 0)) (.int 0))) (.o1 .not (.o1 (.fld 5) (.var 0)))) (.o2 .eq (.o1 .len (.o1 (.fld 6) (.var 0))) (.int 0))), true), ((.o2 .band (.var 1) (.o2 .eq (.o1 (.fld 3) (.var 0)) (.int (-1)))), false), ((.o2 .eq (.o1 (.fld 2) (.var 0)) (.int 0)), true)] (.fn 61) [.sc (.int .i64) (.o1 (.fld 3) (.var 0)), .sc (.int .i64) (.int 0), .sc (.int .i64) (.int 2)] [.sc .bool]
      (.ret [(.o2 .band (.o2 .band (.o2 .band (.o2 .band (.o2 .eq (.o1 (.fld 1) (.var 0)) (.int 0)) (.o2 .eq (.o1 (.fld 4) (.var 0)) (.int 0))) (.o1 .not (.o1 (.fld 5) (.var 0)))) (.o2 .eq (.o1 .len (.o1 (.fld 6) (.var 0))) (.int 0))) (.o2 .bor (.o2 .band (.var 1) (.o2 .eq (.o1 (.fld 3) (.var 0)) (.int (-1)))) (.o2 .band (.o2 .eq (.o1 (.fld 2) (.var 0)) (.int 0)) (.var 2))))])))
      (.br (.o2 .eq (.o1 (.fld 0) (.var 0)) (.int 7))
       (.call [((.o2 .band (.o2 .band (.o2 .band (.o2 .band (.o2 .eq (.o1 (.fld 1) (.var 0)) (.int 0)) (.o2 .eq (.o1 (.fld 2) (.var 0)) (.int 0))) (.o2 .eq (.o1 (.fld 3) (.var 0)) (.int (-1)))) (.o1 .not (.o1 (.fld 5) (.var 0)))) (.o2 .eq (.o1 .len (.o1 (.fld 6) (.var 0))) (.int 0))), true)] (.fn 61) [.sc (.int .i64) (.o1 (.fld 4) (.var 0)), .sc (.int .i64) (.int 1), .sc (.int .i64) (.int 4)] [.sc .bool]
       (.ret [(.o2 .band (.o2 .band (.o2 .band (.o2 .band (.o2 .band (.o2 .eq (.o1 (.fld 1) (.var 0)) (.int 0)) (.o2 .eq (.o1 (.fld 2) (.var 0)) (.int 0))) (.o2 .eq (.o1 (.fld 3) (.var 0)) (.int (-1)))) (.o1 .not (.o1 (.fld 5) (.var 0)))) (.o2 .eq (.o1 .len (.o1 (.fld 6) (.var 0))) (.int 0))) (.var 1))]))
       (.br (.o2 .eq (.o1 (.fld 0) (.var 0)) (.int 8))
        (.call [] (.fn 61) [.sc (.int .i64) (.o1 (.fld 1) (.var 0)), .sc (.int .i64) (.int 0), .sc (.int .i64) (.int 99)] [.sc .bool]
        (.ret [(.o2 .band (.o2 .band (.o2 .band (.o2 .band (.var 1) (.o2 .eq (.o1 (.fld 2) (.var 0)) (.int 0))) (.o2 .eq (.o1 (.fld 3) (.var 0)) (.int (-1)))) (.o2 .eq (.o1 (.fld 4) (.var 0)) (.int 0))) (.o2 .eq (.o1 .len (.o1 (.fld 6) (.var 0))) (.int 0)))]))
        (.br (.o2 .eq (.o1 (.fld 0) (.var 0)) (.int 9))
         (.loop 0 [(.int 0)]
          (.know (.o1 (.fld 6) (.var 0))
          (.br (.o2 .lt (.var 1) (.o1 .len (.o1 (.fld 6) (.var 0))))
           (.need [] (.o2 .le (.int 0) (.var 1))
           (.need [] (.o2 .lt (.var 1) (.o1 .len (.o1 (.fld 6) (.var 0))))
           (.call [] (.fn 88) [.st [(.int .i64), (.int .i64), (.int .i64), (.int .i64), (.int .i64), (.int .i64), .bool] (.o2 .cons (.o1 (.fld 0) (.o2 .idx (.o1 (.fld 6) (.var 0)) (.var 1))) (.o2 .cons (.o1 (.fld 1) (.o2 .idx (.o1 (.fld 6) (.var 0)) (.var 1))) (.o2 .cons (.o1 (.fld 2) (.o2 .idx (.o1 (.fld 6) (.var 0)) (.var 1))) (.o2 .cons (.o1 (.fld 3) (.o2 .idx (.o1 (.fld 6) (.var 0)) (.var 1))) (.o2 .cons (.o1 (.fld 4) (.o2 .idx (.o1 (.fld 6) (.var 0)) (.var 1))) (.o2 .cons (.o1 (.fld 5) (.o2 .idx (.o1 (.fld 6) (.var 0)) (.var 1))) (.o2 .cons (.o1 (.fld 6) (.o2 .idx (.o1 (.fld 6) (.var 0)) (.var 1))) .nil)))))))] [.sc .bool]
           (.br (.o1 .not (.var 2))
            (.ret [(.bool false)])
            (.cont 0 [(.o2 (.add .i64) (.var 1) (.int 1))])))))
           (.call [((.o2 .band (.o2 .band (.o2 .band (.o2 .band (.o2 .eq (.o1 (.fld 1) (.var 0)) (.int 0)) (.o2 .eq (.o1 (.fld 2) (.var 0)) (.int 0))) (.o2 .eq (.o1 (.fld 3) (.var 0)) (.int (-1)))) (.o2 .eq (.o1 (.fld 4) (.var 0)) (.int 0))) (.o1 .not (.o1 (.fld 5) (.var 0)))), true)] (.fn 61) [.sc (.int .i64) (.o1 .len (.o1 (.fld 6) (.var 0))), .sc (.int .i64) (.int 1), .sc (.int .i64) (.int 3)] [.sc .bool]
           (.ret [(.o2 .band (.o2 .band (.o2 .band (.o2 .band (.o2 .band (.o2 .eq (.o1 (.fld 1) (.var 0)) (.int 0)) (.o2 .eq (.o1 (.fld 2) (.var 0)) (.int 0))) (.o2 .eq (.o1 (.fld 3) (.var 0)) (.int (-1)))) (.o2 .eq (.o1 (.fld 4) (.var 0)) (.int 0))) (.o1 .not (.o1 (.fld 5) (.var 0)))) (.var 2))])))))
         (.ret [(.bool false)]))))))))))
theorem sig_64 : sigOf Tryz.prog md 64 [] = some ([.st [(.int .i64), (.int .i64), (.int .i64), (.int .i64), (.int .i64), .bool, (.sl [(.int .i64), (.int .i64), (.int .i64), (.int .i64), (.int .i64), (.int .i64), .bool])]], [.sc .bool], tree_64) := by kernel_rfl
/- spec.ActFits -/
def tree_65 : T :=
(.call [] (.fn 61) [.sc (.int .i64) (.var 1), .sc (.int .i64) (.int 1), .sc (.int .i64) (.int 6)] [.sc .bool]
(.br (.o1 .not (.var 2))
 (.ret [(.bool false)])
 (.br (.o2 .eq (.o1 (.fld 0) (.var 0)) (.int 2))
  (.br (.o2 .eq (.o1 (.fld 0) (.var 0)) (.int 2))
   (.ret [(.o2 .eq (.var 1) (.int 1))])
   (.br (.o2 .eq (.o1 (.fld 0) (.var 0)) (.int 3))
    (.br (.o2 .eq (.o1 (.fld 0) (.var 0)) (.int 3))
     (.ret [(.o2 .ne (.var 1) (.int 2))])
     (.br (.o2 .eq (.o1 (.fld 0) (.var 0)) (.int 7))
      (.br (.o2 .eq (.o1 (.fld 0) (.var 0)) (.int 7))
       (.ret [(.o2 .eq (.var 1) (.int 2))])
       (.ret [(.o2 .bor (.o2 .eq (.o1 (.fld 0) (.var 0)) (.int 1)) (.o2 .eq (.o1 (.fld 0) (.var 0)) (.int 9)))]))
      (.br (.o2 .eq (.o1 (.fld 0) (.var 0)) (.int 8))
       (.ret [(.o2 .eq (.var 1) (.int 2))])
       (.ret [(.o2 .bor (.o2 .eq (.o1 (.fld 0) (.var 0)) (.int 1)) (.o2 .eq (.o1 (.fld 0) (.var 0)) (.int 9)))]))))
    (.br (.o2 .eq (.o1 (.fld 0) (.var 0)) (.int 4))
     (.br (.o2 .eq (.o1 (.fld 0) (.var 0)) (.int 4))
      (.ret [(.o2 .ne (.var 1) (.int 2))])
      (.br (.o2 .eq (.o1 (.fld 0) (.var 0)) (.int 7))
       (.br (.o2 .eq (.o1 (.fld 0) (.var 0)) (.int 7))
        (.ret [(.o2 .eq (.var 1) (.int 2))])
        (.ret [(.o2 .bor (.o2 .eq (.o1 (.fld 0) (.var 0)) (.int 1)) (.o2 .eq (.o1 (.fld 0) (.var 0)) (.int 9)))]))
       (.br (.o2 .eq (.o1 (.fld 0) (.var 0)) (.int 8))
        (.ret [(.o2 .eq (.var 1) (.int 2))])
        (.ret [(.o2 .bor (.o2 .eq (.o1 (.fld 0) (.var 0)) (.int 1)) (.o2 .eq (.o1 (.fld 0) (.var 0)) (.int 9)))]))))
     (.br (.o2 .eq (.o1 (.fld 0) (.var 0)) (.int 5))
      (.ret [(.o2 .ne (.var 1) (.int 2))])
      (.br (.o2 .eq (.o1 (.fld 0) (.var 0)) (.int 7))
       (.br (.o2 .eq (.o1 (.fld 0) (.var 0)) (.int 7))
        (.ret [(.o2 .eq (.var 1) (.int 2))])
        (.ret [(.o2 .bor (.o2 .eq (.o1 (.fld 0) (.var 0)) (.int 1)) (.o2 .eq (.o1 (.fld 0) (.var 0)) (.int 9)))]))
       (.br (.o2 .eq (.o1 (.fld 0) (.var 0)) (.int 8))
        (.ret [(.o2 .eq (.var 1) (.int 2))])
        (.ret [(.o2 .bor (.o2 .eq (.o1 (.fld 0) (.var 0)) (.int 1)) (.o2 .eq (.o1 (.fld 0) (.var 0)) (.int 9)))])))))))
  (.br (.o2 .eq (.o1 (.fld 0) (.var 0)) (.int 6))
   (.ret [(.o2 .eq (.var 1) (.int 1))])
   (.br (.o2 .eq (.o1 (.fld 0) (.var 0)) (.int 3))
    (.br (.o2 .eq (.o1 (.fld 0) (.var 0)) (.int 3))
     (.ret [(.o2 .ne (.var 1) (.int 2))])
     (.br (.o2 .eq (.o1 (.fld 0) (.var 0)) (.int 7))
      (.br (.o2 .eq (.o1 (.fld 0) (.var 0)) (.int 7))
       (.ret [(.o2 .eq (.var 1) (.int 2))])
       (.ret [(.o2 .bor (.o2 .eq (.o1 (.fld 0) (.var 0)) (.int 1)) (.o2 .eq (.o1 (.fld 0) (.var 0)) (.int 9)))]))
      (.br (.o2 .eq (.o1 (.fld 0) (.var 0)) (.int 8))
       (.ret [(.o2 .eq (.var 1) (.int 2))])
       (.ret [(.o2 .bor (.o2 .eq (.o1 (.fld 0) (.var 0)) (.int 1)) (.o2 .eq (.o1 (.fld 0) (.var 0)) (.int 9)))]))))
    (.br (.o2 .eq (.o1 (.fld 0) (.var 0)) (.int 4))
     (.br (.o2 .eq (.o1 (.fld 0) (.var 0)) (.int 4))
      (.ret [(.o2 .ne (.var 1) (.int 2))])
      (.br (.o2 .eq (.o1 (.fld 0) (.var 0)) (.int 7))
       (.br (.o2 .eq (.o1 (.fld 0) (.var 0)) (.int 7))
        (.ret [(.o2 .eq (.var 1) (.int 2))])
        (.ret [(.o2 .bor (.o2 .eq (.o1 (.fld 0) (.var 0)) (.int 1)) (.o2 .eq (.o1 (.fld 0) (.var 0)) (.int 9)))]))
       (.br (.o2 .eq (.o1 (.fld 0) (.var 0)) (.int 8))
        (.ret [(.o2 .eq (.var 1) (.int 2))])
        (.ret [(.o2 .bor (.o2 .eq (.o1 (.fld 0) (.var 0)) (.int 1)) (.o2 .eq (.o1 (.fld 0) (.var 0)) (.int 9)))]))))
     (.br (.o2 .eq (.o1 (.fld 0) (.var 0)) (.int 5))
      (.ret [(.o2 .ne (.var 1) (.int 2))])
      (.br (.o2 .eq (.o1 (.fld 0) (.var 0)) (.int 7))
       (.br (.o2 .eq (.o1 (.fld 0) (.var 0)) (.int 7))
        (.ret [(.o2 .eq (.var 1) (.int 2))])
        (.ret [(.o2 .bor (.o2 .eq (.o1 (.fld 0) (.var 0)) (.int 1)) (.o2 .eq (.o1 (.fld 0) (.var 0)) (.int 9)))]))
       (.br (.o2 .eq (.o1 (.fld 0) (.var 0)) (.int 8))
        (.ret [(.o2 .eq (.var 1) (.int 2))])
        (.ret [(.o2 .bor (.o2 .eq (.o1 (.fld 0) (.var 0)) (.int 1)) (.o2 .eq (.o1 (.fld 0) (.var 0)) (.int 9)))]))))))))))
theorem sig_65 : sigOf Tryz.prog md 65 [] = some ([.st [(.int .i64), (.int .i64), (.int .i64), (.int .i64), (.int .i64), .bool, (.sl [(.int .i64), (.int .i64), (.int .i64), (.int .i64), (.int .i64), (.int .i64), .bool])], .sc (.int .i64)], [.sc .bool], tree_65) := by kernel_rfl
/- spec.EffectOk -/
def tree_39 : T :=
(.call [] (.fn 61) [.sc (.int .i64) (.o1 (.fld 0) (.var 0)), .sc (.int .i64) (.int 1), .sc (.int .i64) (.int 99)] [.sc .bool]
(.call [((.o1 .not (.var 1)), false)] (.fn 61) [.sc (.int .i64) (.o1 (.fld 1) (.var 0)), .sc (.int .i64) (.int 0), .sc (.int .i64) (.int 2)] [.sc .bool]
(.call [((.o2 .bor (.o1 .not (.var 1)) (.o1 .not (.var 2))), false)] (.fn 61) [.sc (.int .i64) (.o1 (.fld 2) (.var 0)), .sc (.int .i64) (.int 0), .sc (.int .i64) (.int 99)] [.sc .bool]
(.call [((.o2 .bor (.o2 .bor (.o1 .not (.var 1)) (.o1 .not (.var 2))) (.o1 .not (.var 3))), false)] (.fn 61) [.sc (.int .i64) (.o1 (.fld 3) (.var 0)), .sc (.int .i64) (.int 0), .sc (.int .i64) (.int 4)] [.sc .bool]
(.call [((.o2 .bor (.o2 .bor (.o2 .bor (.o1 .not (.var 1)) (.o1 .not (.var 2))) (.o1 .not (.var 3))) (.o1 .not (.var 4))), false)] (.fn 61) [.sc (.int .i64) (.o1 (.fld 20) (.var 0)), .sc (.int .i64) (.int (-1)), .sc (.int .i64) (.int 9999)] [.sc .bool]
(.call [((.o2 .bor (.o2 .bor (.o2 .bor (.o2 .bor (.o1 .not (.var 1)) (.o1 .not (.var 2))) (.o1 .not (.var 3))) (.o1 .not (.var 4))) (.o1 .not (.var 5))), false)] (.fn 61) [.sc (.int .i64) (.o1 (.fld 21) (.var 0)), .sc (.int .i64) (.int (-1)), .sc (.int .i64) (.int 2147483647)] [.sc .bool]
(.br (.o2 .bor (.o2 .bor (.o2 .bor (.o2 .bor (.o2 .bor (.o1 .not (.var 1)) (.o1 .not (.var 2))) (.o1 .not (.var 3))) (.o1 .not (.var 4))) (.o1 .not (.var 5))) (.o1 .not (.var 6)))
 (.ret [(.bool false)])
 (.br (.o2 .bor (.o2 .band (.o2 .eq (.o1 (.fld 3) (.var 0)) (.int 0)) (.o2 .eq (.o1 (.fld 2) (.var 0)) (.int 0))) (.o2 .band (.o2 .eq (.o1 (.fld 13) (.var 0)) (.int 2)) (.o2 .lt (.o1 (.fld 21) (.var 0)) (.int 0))))
  (.ret [(.bool false)])
  (.call [] (.fn 62) [.st [(.int .i64), (.int .i64), (.int .i64), (.int .i64), (.int .i64), (.int .i64), (.int .i64)] (.o2 .cons (.o1 (.fld 4) (.var 0)) (.o2 .cons (.o1 (.fld 5) (.var 0)) (.o2 .cons (.o1 (.fld 6) (.var 0)) (.o2 .cons (.o1 (.fld 7) (.var 0)) (.o2 .cons (.o1 (.fld 8) (.var 0)) (.o2 .cons (.o1 (.fld 9) (.var 0)) (.o2 .cons (.o1 (.fld 10) (.var 0)) .nil)))))))] [.sc .bool]
  (.call [((.var 7), true)] (.fn 63) [.st [(.int .i64), (.int .i64)] (.o2 .cons (.o1 (.fld 11) (.var 0)) (.o2 .cons (.o1 (.fld 12) (.var 0)) .nil))] [.sc .bool]
  (.call [((.o2 .band (.var 7) (.var 8)), true)] (.fn 64) [.st [(.int .i64), (.int .i64), (.int .i64), (.int .i64), (.int .i64), .bool, (.sl [(.int .i64), (.int .i64), (.int .i64), (.int .i64), (.int .i64), (.int .i64), .bool])] (.o2 .cons (.o1 (.fld 13) (.var 0)) (.o2 .cons (.o1 (.fld 14) (.var 0)) (.o2 .cons (.o1 (.fld 15) (.var 0)) (.o2 .cons (.o1 (.fld 16) (.var 0)) (.o2 .cons (.o1 (.fld 17) (.var 0)) (.o2 .cons (.o1 (.fld 18) (.var 0)) (.o2 .cons (.o1 (.fld 19) (.var 0)) .nil)))))))] [.sc .bool]
  (.call [((.o2 .band (.o2 .band (.var 7) (.var 8)) (.var 9)), true)] (.fn 65) [.st [(.int .i64), (.int .i64), (.int .i64), (.int .i64), (.int .i64), .bool, (.sl [(.int .i64), (.int .i64), (.int .i64), (.int .i64), (.int .i64), (.int .i64), .bool])] (.o2 .cons (.o1 (.fld 13) (.var 0)) (.o2 .cons (.o1 (.fld 14) (.var 0)) (.o2 .cons (.o1 (.fld 15) (.var 0)) (.o2 .cons (.o1 (.fld 16) (.var 0)) (.o2 .cons (.o1 (.fld 17) (.var 0)) (.o2 .cons (.o1 (.fld 18) (.var 0)) (.o2 .cons (.o1 (.fld 19) (.var 0)) .nil))))))), .sc (.int .i64) (.o1 (.fld 4) (.var 0))] [.sc .bool]
  (.ret [(.o2 .band (.o2 .band (.o2 .band (.var 7) (.var 8)) (.var 9)) (.var 10))])))))))))))))
theorem sig_39 : sigOf Tryz.prog md 39 [] = some ([.st [(.int .i64), (.int .i64), (.int .i64), (.int .i64), (.int .i64), (.int .i64), (.int .i64), (.int .i64), (.int .i64), (.int .i64), (.int .i64), (.int .i64), (.int .i64), (.int .i64), (.int .i64), (.int .i64), (.int .i64), (.int .i64), .bool, (.sl [(.int .i64), (.int .i64), (.int .i64), (.int .i64), (.int .i64), (.int .i64), .bool]), (.int .i64), (.int .i64)]], [.sc .bool], tree_39) := by kernel_rfl
/- spec.Lives -/
def tree_40 : T :=
(.ret [(.o2 .band (.o2 .ne (.o1 (.fld 21) (.var 0)) (.int 0)) (.o2 .bor (.o2 .eq (.o1 (.fld 20) (.var 0)) (.int (-1))) (.o2 .ge (.o1 (.fld 20) (.var 0)) (.var 1))))])
theorem sig_40 : sigOf Tryz.prog md 40 [] = some ([.st [(.int .i64), (.int .i64), (.int .i64), (.int .i64), (.int .i64), (.int .i64), (.int .i64), (.int .i64), (.int .i64), (.int .i64), (.int .i64), (.int .i64), (.int .i64), (.int .i64), (.int .i64), (.int .i64), (.int .i64), (.int .i64), .bool, (.sl [(.int .i64), (.int .i64), (.int .i64), (.int .i64), (.int .i64), (.int .i64), .bool]), (.int .i64), (.int .i64)], .sc (.int .i64)], [.sc .bool], tree_40) := by kernel_rfl
/- spec.Near -/
def tree_41 : T :=
(.ret [(.o2 .bor (.o2 .bor (.o2 .ne (.o1 (.fld 3) (.var 0)) (.int 0)) (.o2 .eq (.o1 (.fld 2) (.var 0)) (.o1 (.fld 1) (.var 1)))) (.o2 .eq (.o1 (.fld 2) (.var 0)) (.o1 (.fld 2) (.var 1))))])
theorem sig_41 : sigOf Tryz.prog md 41 [] = some ([.st [(.int .i64), (.int .i64), (.int .i64), (.int .i64), (.int .i64), (.int .i64), (.int .i64), (.int .i64), (.int .i64), (.int .i64), (.int .i64), (.int .i64), (.int .i64), (.int .i64), (.int .i64), (.int .i64), (.int .i64), (.int .i64), .bool, (.sl [(.int .i64), (.int .i64), (.int .i64), (.int .i64), (.int .i64), (.int .i64), .bool]), (.int .i64), (.int .i64)], .st [(.int .i64), (.int .i64), (.int .i64), (.int .i64), (.int .i64), (.int .i64), .bool]], [.sc .bool], tree_41) := by kernel_rfl
/- spec.l8Many -/
def tree_66 : T :=
(.loop 0 [(.int 0), (.int 0)]
 (.know (.o1 (.fld 0) (.var 0))
 (.br (.o2 .lt (.var 3) (.o1 .len (.o1 (.fld 0) (.var 0))))
  (.need [] (.o2 .le (.int 0) (.var 3))
  (.need [] (.o2 .lt (.var 3) (.o1 .len (.o1 (.fld 0) (.var 0))))
  (.need [((.o2 .eq (.o1 (.fld 3) (.o2 .idx (.o1 (.fld 0) (.var 0)) (.var 3))) (.int 2)), true)] (.o2 .le (.int 0) (.var 3))
  (.need [((.o2 .eq (.o1 (.fld 3) (.o2 .idx (.o1 (.fld 0) (.var 0)) (.var 3))) (.int 2)), true)] (.o2 .lt (.var 3) (.o1 .len (.o1 (.fld 0) (.var 0))))
  (.br (.o2 .band (.o2 .eq (.o1 (.fld 3) (.o2 .idx (.o1 (.fld 0) (.var 0)) (.var 3))) (.int 2)) (.o2 .eq (.o1 (.fld 2) (.o2 .idx (.o1 (.fld 0) (.var 0)) (.var 3))) (.var 1)))
   (.cont 0 [(.o2 (.add .i64) (.var 2) (.int 1)), (.o2 (.add .i64) (.var 3) (.int 1))])
   (.cont 0 [(.var 2), (.o2 (.add .i64) (.var 3) (.int 1))]))))))
  (.ret [(.var 2)]))))
theorem sig_66 : sigOf Tryz.prog md 66 [] = some ([.st [(.sl [(.int .i64), (.int .i64), (.int .i64), (.int .i64), (.int .i64), (.int .i64), (.int .i64), (.int .i64), (.int .i64), (.int .i64), (.int .i64), .bool, .bool]), (.sl [(.int .i64), (.int .i64), .bool]), (.int .i64), (.int .i64)], .sc (.int .i64)], [.sc (.int .i64)], tree_66) := by kernel_rfl
/- spec.BentOf -/
def tree_67 : T :=
(.loop 0 [(.int 0), (.int 0)]
 (.know (.o1 (.fld 0) (.var 0))
 (.br (.o2 .lt (.var 3) (.o1 .len (.o1 (.fld 0) (.var 0))))
  (.need [] (.o2 .le (.int 0) (.var 3))
  (.need [] (.o2 .lt (.var 3) (.o1 .len (.o1 (.fld 0) (.var 0))))
  (.need [((.o2 .eq (.o1 (.fld 3) (.o2 .idx (.o1 (.fld 0) (.var 0)) (.var 3))) (.int 2)), true)] (.o2 .le (.int 0) (.var 3))
  (.need [((.o2 .eq (.o1 (.fld 3) (.o2 .idx (.o1 (.fld 0) (.var 0)) (.var 3))) (.int 2)), true)] (.o2 .lt (.var 3) (.o1 .len (.o1 (.fld 0) (.var 0))))
  (.need [((.o2 .band (.o2 .eq (.o1 (.fld 3) (.o2 .idx (.o1 (.fld 0) (.var 0)) (.var 3))) (.int 2)) (.o2 .eq (.o1 (.fld 2) (.o2 .idx (.o1 (.fld 0) (.var 0)) (.var 3))) (.var 1))), true)] (.o2 .le (.int 0) (.var 3))
  (.need [((.o2 .band (.o2 .eq (.o1 (.fld 3) (.o2 .idx (.o1 (.fld 0) (.var 0)) (.var 3))) (.int 2)) (.o2 .eq (.o1 (.fld 2) (.o2 .idx (.o1 (.fld 0) (.var 0)) (.var 3))) (.var 1))), true)] (.o2 .lt (.var 3) (.o1 .len (.o1 (.fld 0) (.var 0))))
  (.br (.o2 .band (.o2 .band (.o2 .eq (.o1 (.fld 3) (.o2 .idx (.o1 (.fld 0) (.var 0)) (.var 3))) (.int 2)) (.o2 .eq (.o1 (.fld 2) (.o2 .idx (.o1 (.fld 0) (.var 0)) (.var 3))) (.var 1))) (.o1 (.fld 12) (.o2 .idx (.o1 (.fld 0) (.var 0)) (.var 3))))
   (.cont 0 [(.o2 (.add .i64) (.var 2) (.int 1)), (.o2 (.add .i64) (.var 3) (.int 1))])
   (.cont 0 [(.var 2), (.o2 (.add .i64) (.var 3) (.int 1))]))))))))
  (.ret [(.var 2)]))))
theorem sig_67 : sigOf Tryz.prog md 67 [] = some ([.st [(.sl [(.int .i64), (.int .i64), (.int .i64), (.int .i64), (.int .i64), (.int .i64), (.int .i64), (.int .i64), (.int .i64), (.int .i64), (.int .i64), .bool, .bool]), (.sl [(.int .i64), (.int .i64), .bool]), (.int .i64), (.int .i64)], .sc (.int .i64)], [.sc (.int .i64)], tree_67) := by kernel_rfl
/- spec.Holds -/
def tree_42 : T :=
(.call [] (.fn 63) [.st [(.int .i64), (.int .i64)] (.o2 .cons (.o1 (.fld 0) (.var 2)) (.o2 .cons (.o1 (.fld 1) (.var 2)) .nil))] [.sc .bool]
(.call [((.o1 .not (.var 3)), false)] (.fn 61) [.sc (.int .i64) (.var 1), .sc (.int .i64) (.int 0), .sc (.int .i64) (.o2 (.sub .i64) (.o1 .len (.o1 (.fld 1) (.var 0))) (.int 1))] [.sc .bool]
(.br (.o2 .bor (.o1 .not (.var 3)) (.o1 .not (.var 4)))
 (.ret [(.bool false)])
 (.br (.o2 .eq (.o1 (.fld 0) (.var 2)) (.int 1))
  (.need [] (.o2 .le (.int 0) (.var 1))
  (.need [] (.o2 .lt (.var 1) (.o1 .len (.o1 (.fld 1) (.var 0))))
  (.ret [(.o2 .le (.o1 (.fld 0) (.o2 .idx (.o1 (.fld 1) (.var 0)) (.var 1))) (.o1 (.fld 1) (.var 2)))])))
  (.br (.o2 .eq (.o1 (.fld 0) (.var 2)) (.int 2))
   (.call [] (.fn 66) [.st [(.sl [(.int .i64), (.int .i64), (.int .i64), (.int .i64), (.int .i64), (.int .i64), (.int .i64), (.int .i64), (.int .i64), (.int .i64), (.int .i64), .bool, .bool]), (.sl [(.int .i64), (.int .i64), .bool]), (.int .i64), (.int .i64)] (.o2 .cons (.o1 (.fld 0) (.var 0)) (.o2 .cons (.o1 (.fld 1) (.var 0)) (.o2 .cons (.o1 (.fld 2) (.var 0)) (.o2 .cons (.o1 (.fld 3) (.var 0)) .nil)))), .sc (.int .i64) (.var 1)] [.sc (.int .i64)]
   (.ret [(.o2 .ge (.var 5) (.o1 (.fld 1) (.var 2)))]))
   (.br (.o2 .eq (.o1 (.fld 0) (.var 2)) (.int 3))
    (.ret [(.o2 .eq (.o1 (.fld 2) (.var 0)) (.var 1))])
    (.br (.o2 .eq (.o1 (.fld 0) (.var 2)) (.int 4))
     (.call [] (.fn 67) [.st [(.sl [(.int .i64), (.int .i64), (.int .i64), (.int .i64), (.int .i64), (.int .i64), (.int .i64), (.int .i64), (.int .i64), (.int .i64), (.int .i64), .bool, .bool]), (.sl [(.int .i64), (.int .i64), .bool]), (.int .i64), (.int .i64)] (.o2 .cons (.o1 (.fld 0) (.var 0)) (.o2 .cons (.o1 (.fld 1) (.var 0)) (.o2 .cons (.o1 (.fld 2) (.var 0)) (.o2 .cons (.o1 (.fld 3) (.var 0)) .nil)))), .sc (.int .i64) (.var 1)] [.sc (.int .i64)]
     (.ret [(.o2 .ge (.var 5) (.o1 (.fld 1) (.var 2)))]))
     (.ret [(.bool true)]))))))))
theorem sig_42 : sigOf Tryz.prog md 42 [] = some ([.st [(.sl [(.int .i64), (.int .i64), (.int .i64), (.int .i64), (.int .i64), (.int .i64), (.int .i64), (.int .i64), (.int .i64), (.int .i64), (.int .i64), .bool, .bool]), (.sl [(.int .i64), (.int .i64), .bool]), (.int .i64), (.int .i64)], .sc (.int .i64), .st [(.int .i64), (.int .i64)]], [.sc .bool], tree_42) := by kernel_rfl
/- spec.PieceAt -/
def tree_104 : T :=
(.loop 0 [(.int 0)]
 (.know (.o1 (.fld 0) (.var 0))
 (.br (.o2 .lt (.var 2) (.o1 .len (.o1 (.fld 0) (.var 0))))
  (.need [] (.o2 .le (.int 0) (.var 2))
  (.need [] (.o2 .lt (.var 2) (.o1 .len (.o1 (.fld 0) (.var 0))))
  (.br (.o2 .eq (.o1 (.fld 0) (.o2 .idx (.o1 (.fld 0) (.var 0)) (.var 2))) (.var 1))
   (.ret [(.var 2)])
   (.cont 0 [(.o2 (.add .i64) (.var 2) (.int 1))]))))
  (.ret [(.int (-1))]))))
theorem sig_104 : sigOf Tryz.prog md 104 [] = some ([.st [(.sl [(.int .i64), (.int .i64), (.int .i64), (.int .i64), (.int .i64), (.int .i64), (.int .i64), (.int .i64), (.int .i64), (.int .i64), (.int .i64), .bool, .bool]), (.sl [(.int .i64), (.int .i64), .bool]), (.int .i64), (.int .i64)], .sc (.int .i64)], [.sc (.int .i64)], tree_104) := by kernel_rfl
/- spec.Target -/
def tree_89 : T :=
(.br (.o2 .eq (.o1 (.fld 2) (.var 1)) (.int 0))
 (.know (.o1 (.fld 1) (.var 0))
 (.call [] (.fn 61) [.sc (.int .i64) (.o1 (.fld 3) (.var 1)), .sc (.int .i64) (.int 0), .sc (.int .i64) (.o2 (.sub .i64) (.o1 .len (.o1 (.fld 1) (.var 0))) (.int 1))] [.sc .bool]
 (.br (.o1 .not (.var 2))
  (.ret [(.int (-1))])
  (.ret [(.o1 (.fld 3) (.var 1))]))))
 (.call [] (.fn 104) [.st [(.sl [(.int .i64), (.int .i64), (.int .i64), (.int .i64), (.int .i64), (.int .i64), (.int .i64), (.int .i64), (.int .i64), (.int .i64), (.int .i64), .bool, .bool]), (.sl [(.int .i64), (.int .i64), .bool]), (.int .i64), (.int .i64)] (.o2 .cons (.o1 (.fld 0) (.var 0)) (.o2 .cons (.o1 (.fld 1) (.var 0)) (.o2 .cons (.o1 (.fld 2) (.var 0)) (.o2 .cons (.o1 (.fld 3) (.var 0)) .nil)))), .sc (.int .i64) (.o1 (.fld 2) (.var 1))] [.sc (.int .i64)]
 (.br (.o2 .lt (.var 2) (.int 0))
  (.ret [(.int (-1))])
  (.need [] (.o2 .le (.int 0) (.var 2))
  (.need [] (.o2 .lt (.var 2) (.o1 .len (.o1 (.fld 0) (.var 0))))
  (.ret [(.o1 (.fld 2) (.o2 .idx (.o1 (.fld 0) (.var 0)) (.var 2)))]))))))
theorem sig_89 : sigOf Tryz.prog md 89 [] = some ([.st [(.sl [(.int .i64), (.int .i64), (.int .i64), (.int .i64), (.int .i64), (.int .i64), (.int .i64), (.int .i64), (.int .i64), (.int .i64), (.int .i64), .bool, .bool]), (.sl [(.int .i64), (.int .i64), .bool]), (.int .i64), (.int .i64)], .st [(.int .i64), (.int .i64), (.int .i64), (.int .i64), (.int .i64), (.int .i64), .bool]], [.sc (.int .i64)], tree_89) := by kernel_rfl
/- spec.TargetFits -/
def tree_69 : T :=
(.call [] (.fn 89) [.st [(.sl [(.int .i64), (.int .i64), (.int .i64), (.int .i64), (.int .i64), (.int .i64), (.int .i64), (.int .i64), (.int .i64), (.int .i64), (.int .i64), .bool, .bool]), (.sl [(.int .i64), (.int .i64), .bool]), (.int .i64), (.int .i64)] (.o2 .cons (.o1 (.fld 0) (.var 0)) (.o2 .cons (.o1 (.fld 1) (.var 0)) (.o2 .cons (.o1 (.fld 2) (.var 0)) (.o2 .cons (.o1 (.fld 3) (.var 0)) .nil)))), .st [(.int .i64), (.int .i64), (.int .i64), (.int .i64), (.int .i64), (.int .i64), .bool] (.o2 .cons (.o1 (.fld 0) (.var 3)) (.o2 .cons (.o1 (.fld 1) (.var 3)) (.o2 .cons (.o1 (.fld 2) (.var 3)) (.o2 .cons (.o1 (.fld 3) (.var 3)) (.o2 .cons (.o1 (.fld 4) (.var 3)) (.o2 .cons (.o1 (.fld 5) (.var 3)) (.o2 .cons (.o1 (.fld 6) (.var 3)) .nil)))))))] [.sc (.int .i64)]
(.br (.o2 .bor (.o2 .bor (.o2 .eq (.var 4) (.int (-1))) (.o2 .band (.o2 .eq (.o1 (.fld 1) (.var 2)) (.int 1)) (.o2 .ne (.var 4) (.var 1)))) (.o2 .band (.o2 .eq (.o1 (.fld 1) (.var 2)) (.int 2)) (.o2 .eq (.var 4) (.var 1))))
 (.ret [(.bool false)])
 (.ret [(.o2 .bor (.o2 .eq (.o1 (.fld 4) (.var 2)) (.int 0)) (.o2 .eq (.o1 (.fld 4) (.var 2)) (.o1 (.fld 2) (.var 3))))])))
theorem sig_69 : sigOf Tryz.prog md 69 [] = some ([.st [(.sl [(.int .i64), (.int .i64), (.int .i64), (.int .i64), (.int .i64), (.int .i64), (.int .i64), (.int .i64), (.int .i64), (.int .i64), (.int .i64), .bool, .bool]), (.sl [(.int .i64), (.int .i64), .bool]), (.int .i64), (.int .i64)], .sc (.int .i64), .st [(.int .i64), (.int .i64), (.int .i64), (.int .i64), (.int .i64), (.int .i64), (.int .i64)], .st [(.int .i64), (.int .i64), (.int .i64), (.int .i64), (.int .i64), (.int .i64), .bool]], [.sc .bool], tree_69) := by kernel_rfl
/- spec.Source -/
def tree_90 : T :=
(.call [] (.fn 104) [.st [(.sl [(.int .i64), (.int .i64), (.int .i64), (.int .i64), (.int .i64), (.int .i64), (.int .i64), (.int .i64), (.int .i64), (.int .i64), (.int .i64), .bool, .bool]), (.sl [(.int .i64), (.int .i64), .bool]), (.int .i64), (.int .i64)] (.o2 .cons (.o1 (.fld 0) (.var 0)) (.o2 .cons (.o1 (.fld 1) (.var 0)) (.o2 .cons (.o1 (.fld 2) (.var 0)) (.o2 .cons (.o1 (.fld 3) (.var 0)) .nil)))), .sc (.int .i64) (.o1 (.fld 1) (.var 1))] [.sc (.int .i64)]
(.br (.o2 .bor (.o2 .ne (.o1 (.fld 0) (.var 1)) (.int 1)) (.o2 .lt (.var 2) (.int 0)))
 (.ret [(.o2 .cons (.int 0) (.o2 .cons (.int 0) (.o2 .cons (.int 0) (.o2 .cons (.int 0) (.o2 .cons (.int 0) (.o2 .cons (.int 0) (.o2 .cons (.int 0) (.o2 .cons (.int 0) (.o2 .cons (.int 0) (.o2 .cons (.int 0) (.o2 .cons (.int 0) (.o2 .cons (.bool false) (.o2 .cons (.bool false) .nil)))))))))))))])
 (.need [] (.o2 .le (.int 0) (.var 2))
 (.need [] (.o2 .lt (.var 2) (.o1 .len (.o1 (.fld 0) (.var 0))))
 (.ret [(.o2 .cons (.o1 (.fld 0) (.o2 .idx (.o1 (.fld 0) (.var 0)) (.var 2))) (.o2 .cons (.o1 (.fld 1) (.o2 .idx (.o1 (.fld 0) (.var 0)) (.var 2))) (.o2 .cons (.o1 (.fld 2) (.o2 .idx (.o1 (.fld 0) (.var 0)) (.var 2))) (.o2 .cons (.o1 (.fld 3) (.o2 .idx (.o1 (.fld 0) (.var 0)) (.var 2))) (.o2 .cons (.o1 (.fld 4) (.o2 .idx (.o1 (.fld 0) (.var 0)) (.var 2))) (.o2 .cons (.o1 (.fld 5) (.o2 .idx (.o1 (.fld 0) (.var 0)) (.var 2))) (.o2 .cons (.o1 (.fld 6) (.o2 .idx (.o1 (.fld 0) (.var 0)) (.var 2))) (.o2 .cons (.o1 (.fld 7) (.o2 .idx (.o1 (.fld 0) (.var 0)) (.var 2))) (.o2 .cons (.o1 (.fld 8) (.o2 .idx (.o1 (.fld 0) (.var 0)) (.var 2))) (.o2 .cons (.o1 (.fld 9) (.o2 .idx (.o1 (.fld 0) (.var 0)) (.var 2))) (.o2 .cons (.o1 (.fld 10) (.o2 .idx (.o1 (.fld 0) (.var 0)) (.var 2))) (.o2 .cons (.o1 (.fld 11) (.o2 .idx (.o1 (.fld 0) (.var 0)) (.var 2))) (.o2 .cons (.o1 (.fld 12) (.o2 .idx (.o1 (.fld 0) (.var 0)) (.var 2))) .nil)))))))))))))])))))
theorem sig_90 : sigOf Tryz.prog md 90 [] = some ([.st [(.sl [(.int .i64), (.int .i64), (.int .i64), (.int .i64), (.int .i64), (.int .i64), (.int .i64), (.int .i64), (.int .i64), (.int .i64), (.int .i64), .bool, .bool]), (.sl [(.int .i64), (.int .i64), .bool]), (.int .i64), (.int .i64)], .st [(.int .i64), (.int .i64), (.int .i64), (.int .i64), (.int .i64), (.int .i64), .bool]], [.st [(.int .i64), (.int .i64), (.int .i64), (.int .i64), (.int .i64), (.int .i64), (.int .i64), (.int .i64), (.int .i64), (.int .i64), (.int .i64), .bool, .bool]], tree_90) := by kernel_rfl
/- spec.SourceFits -/
def tree_70 : T :=
(.call [((.o2 .bor (.o2 .eq (.o1 (.fld 2) (.var 1)) (.int 0)) (.o2 .eq (.o1 (.fld 2) (.var 1)) (.o1 (.fld 1) (.var 2)))), true)] (.fn 90) [.st [(.sl [(.int .i64), (.int .i64), (.int .i64), (.int .i64), (.int .i64), (.int .i64), (.int .i64), (.int .i64), (.int .i64), (.int .i64), (.int .i64), .bool, .bool]), (.sl [(.int .i64), (.int .i64), .bool]), (.int .i64), (.int .i64)] (.o2 .cons (.o1 (.fld 0) (.var 0)) (.o2 .cons (.o1 (.fld 1) (.var 0)) (.o2 .cons (.o1 (.fld 2) (.var 0)) (.o2 .cons (.o1 (.fld 3) (.var 0)) .nil)))), .st [(.int .i64), (.int .i64), (.int .i64), (.int .i64), (.int .i64), (.int .i64), .bool] (.o2 .cons (.o1 (.fld 0) (.var 2)) (.o2 .cons (.o1 (.fld 1) (.var 2)) (.o2 .cons (.o1 (.fld 2) (.var 2)) (.o2 .cons (.o1 (.fld 3) (.var 2)) (.o2 .cons (.o1 (.fld 4) (.var 2)) (.o2 .cons (.o1 (.fld 5) (.var 2)) (.o2 .cons (.o1 (.fld 6) (.var 2)) .nil)))))))] [.st [(.int .i64), (.int .i64), (.int .i64), (.int .i64), (.int .i64), (.int .i64), (.int .i64), (.int .i64), (.int .i64), (.int .i64), (.int .i64), .bool, .bool]]
(.ret [(.o2 .band (.o2 .bor (.o2 .eq (.o1 (.fld 2) (.var 1)) (.int 0)) (.o2 .eq (.o1 (.fld 2) (.var 1)) (.o1 (.fld 1) (.var 2)))) (.o2 .eq (.o2 (.and .i64) (.o1 (.fld 7) (.var 3)) (.o1 (.fld 3) (.var 1))) (.o1 (.fld 3) (.var 1))))]))
theorem sig_70 : sigOf Tryz.prog md 70 [] = some ([.st [(.sl [(.int .i64), (.int .i64), (.int .i64), (.int .i64), (.int .i64), (.int .i64), (.int .i64), (.int .i64), (.int .i64), (.int .i64), (.int .i64), .bool, .bool]), (.sl [(.int .i64), (.int .i64), .bool]), (.int .i64), (.int .i64)], .st [(.int .i64), (.int .i64), (.int .i64), (.int .i64), (.int .i64), (.int .i64), (.int .i64)], .st [(.int .i64), (.int .i64), (.int .i64), (.int .i64), (.int .i64), (.int .i64), .bool]], [.sc .bool], tree_70) := by kernel_rfl
/- spec.PatFits -/
def tree_43 : T :=
(.call [] (.fn 62) [.st [(.int .i64), (.int .i64), (.int .i64), (.int .i64), (.int .i64), (.int .i64), (.int .i64)] (.o2 .cons (.o1 (.fld 0) (.var 2)) (.o2 .cons (.o1 (.fld 1) (.var 2)) (.o2 .cons (.o1 (.fld 2) (.var 2)) (.o2 .cons (.o1 (.fld 3) (.var 2)) (.o2 .cons (.o1 (.fld 4) (.var 2)) (.o2 .cons (.o1 (.fld 5) (.var 2)) (.o2 .cons (.o1 (.fld 6) (.var 2)) .nil)))))))] [.sc .bool]
(.call [((.var 4), true)] (.fn 68) [.st [(.int .i64), (.int .i64), (.int .i64), (.int .i64), (.int .i64), (.int .i64), .bool] (.o2 .cons (.o1 (.fld 0) (.var 3)) (.o2 .cons (.o1 (.fld 1) (.var 3)) (.o2 .cons (.o1 (.fld 2) (.var 3)) (.o2 .cons (.o1 (.fld 3) (.var 3)) (.o2 .cons (.o1 (.fld 4) (.var 3)) (.o2 .cons (.o1 (.fld 5) (.var 3)) (.o2 .cons (.o1 (.fld 6) (.var 3)) .nil)))))))] [.sc .bool]
(.call [((.o2 .band (.o2 .band (.var 4) (.var 5)) (.o2 .eq (.o1 (.fld 0) (.var 2)) (.o1 (.fld 0) (.var 3)))), true)] (.fn 69) [.st [(.sl [(.int .i64), (.int .i64), (.int .i64), (.int .i64), (.int .i64), (.int .i64), (.int .i64), (.int .i64), (.int .i64), (.int .i64), (.int .i64), .bool, .bool]), (.sl [(.int .i64), (.int .i64), .bool]), (.int .i64), (.int .i64)] (.o2 .cons (.o1 (.fld 0) (.var 0)) (.o2 .cons (.o1 (.fld 1) (.var 0)) (.o2 .cons (.o1 (.fld 2) (.var 0)) (.o2 .cons (.o1 (.fld 3) (.var 0)) .nil)))), .sc (.int .i64) (.var 1), .st [(.int .i64), (.int .i64), (.int .i64), (.int .i64), (.int .i64), (.int .i64), (.int .i64)] (.o2 .cons (.o1 (.fld 0) (.var 2)) (.o2 .cons (.o1 (.fld 1) (.var 2)) (.o2 .cons (.o1 (.fld 2) (.var 2)) (.o2 .cons (.o1 (.fld 3) (.var 2)) (.o2 .cons (.o1 (.fld 4) (.var 2)) (.o2 .cons (.o1 (.fld 5) (.var 2)) (.o2 .cons (.o1 (.fld 6) (.var 2)) .nil))))))), .st [(.int .i64), (.int .i64), (.int .i64), (.int .i64), (.int .i64), (.int .i64), .bool] (.o2 .cons (.o1 (.fld 0) (.var 3)) (.o2 .cons (.o1 (.fld 1) (.var 3)) (.o2 .cons (.o1 (.fld 2) (.var 3)) (.o2 .cons (.o1 (.fld 3) (.var 3)) (.o2 .cons (.o1 (.fld 4) (.var 3)) (.o2 .cons (.o1 (.fld 5) (.var 3)) (.o2 .cons (.o1 (.fld 6) (.var 3)) .nil)))))))] [.sc .bool]
(.call [((.o2 .band (.o2 .band (.o2 .band (.var 4) (.var 5)) (.o2 .eq (.o1 (.fld 0) (.var 2)) (.o1 (.fld 0) (.var 3)))) (.var 6)), true)] (.fn 70) [.st [(.sl [(.int .i64), (.int .i64), (.int .i64), (.int .i64), (.int .i64), (.int .i64), (.int .i64), (.int .i64), (.int .i64), (.int .i64), (.int .i64), .bool, .bool]), (.sl [(.int .i64), (.int .i64), .bool]), (.int .i64), (.int .i64)] (.o2 .cons (.o1 (.fld 0) (.var 0)) (.o2 .cons (.o1 (.fld 1) (.var 0)) (.o2 .cons (.o1 (.fld 2) (.var 0)) (.o2 .cons (.o1 (.fld 3) (.var 0)) .nil)))), .st [(.int .i64), (.int .i64), (.int .i64), (.int .i64), (.int .i64), (.int .i64), (.int .i64)] (.o2 .cons (.o1 (.fld 0) (.var 2)) (.o2 .cons (.o1 (.fld 1) (.var 2)) (.o2 .cons (.o1 (.fld 2) (.var 2)) (.o2 .cons (.o1 (.fld 3) (.var 2)) (.o2 .cons (.o1 (.fld 4) (.var 2)) (.o2 .cons (.o1 (.fld 5) (.var 2)) (.o2 .cons (.o1 (.fld 6) (.var 2)) .nil))))))), .st [(.int .i64), (.int .i64), (.int .i64), (.int .i64), (.int .i64), (.int .i64), .bool] (.o2 .cons (.o1 (.fld 0) (.var 3)) (.o2 .cons (.o1 (.fld 1) (.var 3)) (.o2 .cons (.o1 (.fld 2) (.var 3)) (.o2 .cons (.o1 (.fld 3) (.var 3)) (.o2 .cons (.o1 (.fld 4) (.var 3)) (.o2 .cons (.o1 (.fld 5) (.var 3)) (.o2 .cons (.o1 (.fld 6) (.var 3)) .nil)))))))] [.sc .bool]
(.ret [(.o2 .band (.o2 .band (.o2 .band (.o2 .band (.o2 .band (.o2 .band (.var 4) (.var 5)) (.o2 .eq (.o1 (.fld 0) (.var 2)) (.o1 (.fld 0) (.var 3)))) (.var 6)) (.var 7)) (.o2 .ge (.o1 (.fld 4) (.var 3)) (.o1 (.fld 5) (.var 2)))) (.o2 .bor (.o2 .eq (.o1 (.fld 6) (.var 2)) (.int 0)) (.o2 .eq (.o1 (.fld 6) (.var 2)) (.o1 (.fld 5) (.var 3)))))])))))
theorem sig_43 : sigOf Tryz.prog md 43 [] = some ([.st [(.sl [(.int .i64), (.int .i64), (.int .i64), (.int .i64), (.int .i64), (.int .i64), (.int .i64), (.int .i64), (.int .i64), (.int .i64), (.int .i64), .bool, .bool]), (.sl [(.int .i64), (.int .i64), .bool]), (.int .i64), (.int .i64)], .sc (.int .i64), .st [(.int .i64), (.int .i64), (.int .i64), (.int .i64), (.int .i64), (.int .i64), (.int .i64)], .st [(.int .i64), (.int .i64), (.int .i64), (.int .i64), (.int .i64), (.int .i64), .bool]], [.sc .bool], tree_43) := by kernel_rfl
/- spec.Fits -/
def tree_26 : T :=
(.call [] (.fn 39) [.st [(.int .i64), (.int .i64), (.int .i64), (.int .i64), (.int .i64), (.int .i64), (.int .i64), (.int .i64), (.int .i64), (.int .i64), (.int .i64), (.int .i64), (.int .i64), (.int .i64), (.int .i64), (.int .i64), (.int .i64), (.int .i64), .bool, (.sl [(.int .i64), (.int .i64), (.int .i64), (.int .i64), (.int .i64), (.int .i64), .bool]), (.int .i64), (.int .i64)] (.o2 .cons (.o1 (.fld 0) (.var 1)) (.o2 .cons (.o1 (.fld 1) (.var 1)) (.o2 .cons (.o1 (.fld 2) (.var 1)) (.o2 .cons (.o1 (.fld 3) (.var 1)) (.o2 .cons (.o1 (.fld 4) (.var 1)) (.o2 .cons (.o1 (.fld 5) (.var 1)) (.o2 .cons (.o1 (.fld 6) (.var 1)) (.o2 .cons (.o1 (.fld 7) (.var 1)) (.o2 .cons (.o1 (.fld 8) (.var 1)) (.o2 .cons (.o1 (.fld 9) (.var 1)) (.o2 .cons (.o1 (.fld 10) (.var 1)) (.o2 .cons (.o1 (.fld 11) (.var 1)) (.o2 .cons (.o1 (.fld 12) (.var 1)) (.o2 .cons (.o1 (.fld 13) (.var 1)) (.o2 .cons (.o1 (.fld 14) (.var 1)) (.o2 .cons (.o1 (.fld 15) (.var 1)) (.o2 .cons (.o1 (.fld 16) (.var 1)) (.o2 .cons (.o1 (.fld 17) (.var 1)) (.o2 .cons (.o1 (.fld 18) (.var 1)) (.o2 .cons (.o1 (.fld 19) (.var 1)) (.o2 .cons (.o1 (.fld 20) (.var 1)) (.o2 .cons (.o1 (.fld 21) (.var 1)) .nil))))))))))))))))))))))] [.sc .bool]
(.call [((.var 3), true)] (.fn 40) [.st [(.int .i64), (.int .i64), (.int .i64), (.int .i64), (.int .i64), (.int .i64), (.int .i64), (.int .i64), (.int .i64), (.int .i64), (.int .i64), (.int .i64), (.int .i64), (.int .i64), (.int .i64), (.int .i64), (.int .i64), (.int .i64), .bool, (.sl [(.int .i64), (.int .i64), (.int .i64), (.int .i64), (.int .i64), (.int .i64), .bool]), (.int .i64), (.int .i64)] (.o2 .cons (.o1 (.fld 0) (.var 1)) (.o2 .cons (.o1 (.fld 1) (.var 1)) (.o2 .cons (.o1 (.fld 2) (.var 1)) (.o2 .cons (.o1 (.fld 3) (.var 1)) (.o2 .cons (.o1 (.fld 4) (.var 1)) (.o2 .cons (.o1 (.fld 5) (.var 1)) (.o2 .cons (.o1 (.fld 6) (.var 1)) (.o2 .cons (.o1 (.fld 7) (.var 1)) (.o2 .cons (.o1 (.fld 8) (.var 1)) (.o2 .cons (.o1 (.fld 9) (.var 1)) (.o2 .cons (.o1 (.fld 10) (.var 1)) (.o2 .cons (.o1 (.fld 11) (.var 1)) (.o2 .cons (.o1 (.fld 12) (.var 1)) (.o2 .cons (.o1 (.fld 13) (.var 1)) (.o2 .cons (.o1 (.fld 14) (.var 1)) (.o2 .cons (.o1 (.fld 15) (.var 1)) (.o2 .cons (.o1 (.fld 16) (.var 1)) (.o2 .cons (.o1 (.fld 17) (.var 1)) (.o2 .cons (.o1 (.fld 18) (.var 1)) (.o2 .cons (.o1 (.fld 19) (.var 1)) (.o2 .cons (.o1 (.fld 20) (.var 1)) (.o2 .cons (.o1 (.fld 21) (.var 1)) .nil)))))))))))))))))))))), .sc (.int .i64) (.o1 (.fld 3) (.var 0))] [.sc .bool]
(.call [((.o2 .band (.var 3) (.var 4)), true)] (.fn 41) [.st [(.int .i64), (.int .i64), (.int .i64), (.int .i64), (.int .i64), (.int .i64), (.int .i64), (.int .i64), (.int .i64), (.int .i64), (.int .i64), (.int .i64), (.int .i64), (.int .i64), (.int .i64), (.int .i64), (.int .i64), (.int .i64), .bool, (.sl [(.int .i64), (.int .i64), (.int .i64), (.int .i64), (.int .i64), (.int .i64), .bool]), (.int .i64), (.int .i64)] (.o2 .cons (.o1 (.fld 0) (.var 1)) (.o2 .cons (.o1 (.fld 1) (.var 1)) (.o2 .cons (.o1 (.fld 2) (.var 1)) (.o2 .cons (.o1 (.fld 3) (.var 1)) (.o2 .cons (.o1 (.fld 4) (.var 1)) (.o2 .cons (.o1 (.fld 5) (.var 1)) (.o2 .cons (.o1 (.fld 6) (.var 1)) (.o2 .cons (.o1 (.fld 7) (.var 1)) (.o2 .cons (.o1 (.fld 8) (.var 1)) (.o2 .cons (.o1 (.fld 9) (.var 1)) (.o2 .cons (.o1 (.fld 10) (.var 1)) (.o2 .cons (.o1 (.fld 11) (.var 1)) (.o2 .cons (.o1 (.fld 12) (.var 1)) (.o2 .cons (.o1 (.fld 13) (.var 1)) (.o2 .cons (.o1 (.fld 14) (.var 1)) (.o2 .cons (.o1 (.fld 15) (.var 1)) (.o2 .cons (.o1 (.fld 16) (.var 1)) (.o2 .cons (.o1 (.fld 17) (.var 1)) (.o2 .cons (.o1 (.fld 18) (.var 1)) (.o2 .cons (.o1 (.fld 19) (.var 1)) (.o2 .cons (.o1 (.fld 20) (.var 1)) (.o2 .cons (.o1 (.fld 21) (.var 1)) .nil)))))))))))))))))))))), .st [(.int .i64), (.int .i64), (.int .i64), (.int .i64), (.int .i64), (.int .i64), .bool] (.o2 .cons (.o1 (.fld 0) (.var 2)) (.o2 .cons (.o1 (.fld 1) (.var 2)) (.o2 .cons (.o1 (.fld 2) (.var 2)) (.o2 .cons (.o1 (.fld 3) (.var 2)) (.o2 .cons (.o1 (.fld 4) (.var 2)) (.o2 .cons (.o1 (.fld 5) (.var 2)) (.o2 .cons (.o1 (.fld 6) (.var 2)) .nil)))))))] [.sc .bool]
(.call [((.o2 .band (.o2 .band (.var 3) (.var 4)) (.var 5)), true)] (.fn 42) [.st [(.sl [(.int .i64), (.int .i64), (.int .i64), (.int .i64), (.int .i64), (.int .i64), (.int .i64), (.int .i64), (.int .i64), (.int .i64), (.int .i64), .bool, .bool]), (.sl [(.int .i64), (.int .i64), .bool]), (.int .i64), (.int .i64)] (.o2 .cons (.o1 (.fld 0) (.var 0)) (.o2 .cons (.o1 (.fld 1) (.var 0)) (.o2 .cons (.o1 (.fld 2) (.var 0)) (.o2 .cons (.o1 (.fld 3) (.var 0)) .nil)))), .sc (.int .i64) (.o1 (.fld 1) (.var 1)), .st [(.int .i64), (.int .i64)] (.o2 .cons (.o1 (.fld 11) (.var 1)) (.o2 .cons (.o1 (.fld 12) (.var 1)) .nil))] [.sc .bool]
(.call [((.o2 .band (.o2 .band (.o2 .band (.var 3) (.var 4)) (.var 5)) (.var 6)), true)] (.fn 43) [.st [(.sl [(.int .i64), (.int .i64), (.int .i64), (.int .i64), (.int .i64), (.int .i64), (.int .i64), (.int .i64), (.int .i64), (.int .i64), (.int .i64), .bool, .bool]), (.sl [(.int .i64), (.int .i64), .bool]), (.int .i64), (.int .i64)] (.o2 .cons (.o1 (.fld 0) (.var 0)) (.o2 .cons (.o1 (.fld 1) (.var 0)) (.o2 .cons (.o1 (.fld 2) (.var 0)) (.o2 .cons (.o1 (.fld 3) (.var 0)) .nil)))), .sc (.int .i64) (.o1 (.fld 1) (.var 1)), .st [(.int .i64), (.int .i64), (.int .i64), (.int .i64), (.int .i64), (.int .i64), (.int .i64)] (.o2 .cons (.o1 (.fld 4) (.var 1)) (.o2 .cons (.o1 (.fld 5) (.var 1)) (.o2 .cons (.o1 (.fld 6) (.var 1)) (.o2 .cons (.o1 (.fld 7) (.var 1)) (.o2 .cons (.o1 (.fld 8) (.var 1)) (.o2 .cons (.o1 (.fld 9) (.var 1)) (.o2 .cons (.o1 (.fld 10) (.var 1)) .nil))))))), .st [(.int .i64), (.int .i64), (.int .i64), (.int .i64), (.int .i64), (.int .i64), .bool] (.o2 .cons (.o1 (.fld 0) (.var 2)) (.o2 .cons (.o1 (.fld 1) (.var 2)) (.o2 .cons (.o1 (.fld 2) (.var 2)) (.o2 .cons (.o1 (.fld 3) (.var 2)) (.o2 .cons (.o1 (.fld 4) (.var 2)) (.o2 .cons (.o1 (.fld 5) (.var 2)) (.o2 .cons (.o1 (.fld 6) (.var 2)) .nil)))))))] [.sc .bool]
(.ret [(.o2 .band (.o2 .band (.o2 .band (.o2 .band (.var 3) (.var 4)) (.var 5)) (.var 6)) (.var 7))]))))))
theorem sig_26 : sigOf Tryz.prog md 26 [] = some ([.st [(.sl [(.int .i64), (.int .i64), (.int .i64), (.int .i64), (.int .i64), (.int .i64), (.int .i64), (.int .i64), (.int .i64), (.int .i64), (.int .i64), .bool, .bool]), (.sl [(.int .i64), (.int .i64), .bool]), (.int .i64), (.int .i64)], .st [(.int .i64), (.int .i64), (.int .i64), (.int .i64), (.int .i64), (.int .i64), (.int .i64), (.int .i64), (.int .i64), (.int .i64), (.int .i64), (.int .i64), (.int .i64), (.int .i64), (.int .i64), (.int .i64), (.int .i64), (.int .i64), .bool, (.sl [(.int .i64), (.int .i64), (.int .i64), (.int .i64), (.int .i64), (.int .i64), .bool]), (.int .i64), (.int .i64)], .st [(.int .i64), (.int .i64), (.int .i64), (.int .i64), (.int .i64), (.int .i64), .bool]], [.sc .bool], tree_26) := by kernel_rfl
/- spec.Options -/
def tree_20 : T :=
(.loop 0 [(.int 5), (.int 0), .nil]
 (.know (.var 1)
 (.br (.o2 .lt (.var 5) (.o1 .len (.var 1)))
  (.need [] (.o2 .le (.int 0) (.var 5))
  (.need [] (.o2 .lt (.var 5) (.o1 .len (.var 1)))
  (.call [] (.fn 25) [.sc (.sl [(.int .i64)]) (.var 3), .sc (.int .i64) (.o1 (.fld 0) (.o2 .idx (.var 1) (.var 5)))] [.sc .bool]
  (.need [((.var 7), false)] (.o2 .le (.int 0) (.var 5))
  (.need [((.var 7), false)] (.o2 .lt (.var 5) (.o1 .len (.var 1)))
  (.call [((.var 7), false)] (.fn 26) [.st [(.sl [(.int .i64), (.int .i64), (.int .i64), (.int .i64), (.int .i64), (.int .i64), (.int .i64), (.int .i64), (.int .i64), (.int .i64), (.int .i64), .bool, .bool]), (.sl [(.int .i64), (.int .i64), .bool]), (.int .i64), (.int .i64)] (.o2 .cons (.o1 (.fld 0) (.var 0)) (.o2 .cons (.o1 (.fld 1) (.var 0)) (.o2 .cons (.o1 (.fld 2) (.var 0)) (.o2 .cons (.o1 (.fld 3) (.var 0)) .nil)))), .st [(.int .i64), (.int .i64), (.int .i64), (.int .i64), (.int .i64), (.int .i64), (.int .i64), (.int .i64), (.int .i64), (.int .i64), (.int .i64), (.int .i64), (.int .i64), (.int .i64), (.int .i64), (.int .i64), (.int .i64), (.int .i64), .bool, (.sl [(.int .i64), (.int .i64), (.int .i64), (.int .i64), (.int .i64), (.int .i64), .bool]), (.int .i64), (.int .i64)] (.o2 .cons (.o1 (.fld 0) (.o2 .idx (.var 1) (.var 5))) (.o2 .cons (.o1 (.fld 1) (.o2 .idx (.var 1) (.var 5))) (.o2 .cons (.o1 (.fld 2) (.o2 .idx (.var 1) (.var 5))) (.o2 .cons (.o1 (.fld 3) (.o2 .idx (.var 1) (.var 5))) (.o2 .cons (.o1 (.fld 4) (.o2 .idx (.var 1) (.var 5))) (.o2 .cons (.o1 (.fld 5) (.o2 .idx (.var 1) (.var 5))) (.o2 .cons (.o1 (.fld 6) (.o2 .idx (.var 1) (.var 5))) (.o2 .cons (.o1 (.fld 7) (.o2 .idx (.var 1) (.var 5))) (.o2 .cons (.o1 (.fld 8) (.o2 .idx (.var 1) (.var 5))) (.o2 .cons (.o1 (.fld 9) (.o2 .idx (.var 1) (.var 5))) (.o2 .cons (.o1 (.fld 10) (.o2 .idx (.var 1) (.var 5))) (.o2 .cons (.o1 (.fld 11) (.o2 .idx (.var 1) (.var 5))) (.o2 .cons (.o1 (.fld 12) (.o2 .idx (.var 1) (.var 5))) (.o2 .cons (.o1 (.fld 13) (.o2 .idx (.var 1) (.var 5))) (.o2 .cons (.o1 (.fld 14) (.o2 .idx (.var 1) (.var 5))) (.o2 .cons (.o1 (.fld 15) (.o2 .idx (.var 1) (.var 5))) (.o2 .cons (.o1 (.fld 16) (.o2 .idx (.var 1) (.var 5))) (.o2 .cons (.o1 (.fld 17) (.o2 .idx (.var 1) (.var 5))) (.o2 .cons (.o1 (.fld 18) (.o2 .idx (.var 1) (.var 5))) (.o2 .cons (.o1 (.fld 19) (.o2 .idx (.var 1) (.var 5))) (.o2 .cons (.o1 (.fld 20) (.o2 .idx (.var 1) (.var 5))) (.o2 .cons (.o1 (.fld 21) (.o2 .idx (.var 1) (.var 5))) .nil)))))))))))))))))))))), .st [(.int .i64), (.int .i64), (.int .i64), (.int .i64), (.int .i64), (.int .i64), .bool] (.o2 .cons (.o1 (.fld 0) (.var 2)) (.o2 .cons (.o1 (.fld 1) (.var 2)) (.o2 .cons (.o1 (.fld 2) (.var 2)) (.o2 .cons (.o1 (.fld 3) (.var 2)) (.o2 .cons (.o1 (.fld 4) (.var 2)) (.o2 .cons (.o1 (.fld 5) (.var 2)) (.o2 .cons (.o1 (.fld 6) (.var 2)) .nil)))))))] [.sc .bool]
  (.need [((.o2 .bor (.var 7) (.o1 .not (.var 8))), false)] (.o2 .le (.int 0) (.var 5))
  (.need [((.o2 .bor (.var 7) (.o1 .not (.var 8))), false)] (.o2 .lt (.var 5) (.o1 .len (.var 1)))
  (.br (.o2 .bor (.o2 .bor (.var 7) (.o1 .not (.var 8))) (.o2 .gt (.o1 (.fld 3) (.o2 .idx (.var 1) (.var 5))) (.var 4)))
   (.cont 0 [(.var 4), (.o2 (.add .i64) (.var 5) (.int 1)), (.var 6)])
   (.need [] (.o2 .le (.int 0) (.var 5))
   (.need [] (.o2 .lt (.var 5) (.o1 .len (.var 1)))
   (.br (.o2 .lt (.o1 (.fld 3) (.o2 .idx (.var 1) (.var 5))) (.var 4))
    (.need [] (.o2 .le (.int 0) (.var 5))
    (.need [] (.o2 .lt (.var 5) (.o1 .len (.var 1)))
    (.need [] (.o2 .le (.int 0) (.var 5))
    (.need [] (.o2 .lt (.var 5) (.o1 .len (.var 1)))
    (.need [] (.o2 (.fits 8) (.o1 .len .nil) (.o1 .len (.o2 .cons (.o2 .cons (.o1 (.fld 0) (.o2 .idx (.var 1) (.var 5))) .nil) .nil)))
    (.cont 0 [(.o1 (.fld 3) (.o2 .idx (.var 1) (.var 5))), (.o2 (.add .i64) (.var 5) (.int 1)), (.o2 .app .nil (.o2 .cons (.o2 .cons (.o1 (.fld 0) (.o2 .idx (.var 1) (.var 5))) .nil) .nil))]))))))
    (.need [] (.o2 .le (.int 0) (.var 5))
    (.need [] (.o2 .lt (.var 5) (.o1 .len (.var 1)))
    (.need [] (.o2 (.fits 8) (.o1 .len (.var 6)) (.o1 .len (.o2 .cons (.o2 .cons (.o1 (.fld 0) (.o2 .idx (.var 1) (.var 5))) .nil) .nil)))
    (.cont 0 [(.var 4), (.o2 (.add .i64) (.var 5) (.int 1)), (.o2 .app (.var 6) (.o2 .cons (.o2 .cons (.o1 (.fld 0) (.o2 .idx (.var 1) (.var 5))) .nil) .nil))]))))))))))))))))
  (.ret [(.var 6)]))))
theorem sig_20 : sigOf Tryz.prog md 20 [] = some ([.st [(.sl [(.int .i64), (.int .i64), (.int .i64), (.int .i64), (.int .i64), (.int .i64), (.int .i64), (.int .i64), (.int .i64), (.int .i64), (.int .i64), .bool, .bool]), (.sl [(.int .i64), (.int .i64), .bool]), (.int .i64), (.int .i64)], .sc (.sl [(.int .i64), (.int .i64), (.int .i64), (.int .i64), (.int .i64), (.int .i64), (.int .i64), (.int .i64), (.int .i64), (.int .i64), (.int .i64), (.int .i64), (.int .i64), (.int .i64), (.int .i64), (.int .i64), (.int .i64), (.int .i64), .bool, (.sl [(.int .i64), (.int .i64), (.int .i64), (.int .i64), (.int .i64), (.int .i64), .bool]), (.int .i64), (.int .i64)]), .st [(.int .i64), (.int .i64), (.int .i64), (.int .i64), (.int .i64), (.int .i64), .bool], .sc (.sl [(.int .i64)])], [.sc (.sl [(.int .i64)])], tree_20) := by kernel_rfl
/- slices.Index[[]int,int] -/
def tree_72 : T :=
(.know (.var 0)
(.loop 0 [(.int 0)]
 (.br (.o2 .lt (.var 2) (.o1 .len (.var 0)))
  (.need [] (.o2 .le (.int 0) (.var 2))
  (.need [] (.o2 .lt (.var 2) (.o1 .len (.var 0)))
  (.br (.o2 .eq (.var 1) (.o1 (.fld 0) (.o2 .idx (.var 0) (.var 2))))
   (.ret [(.var 2)])
   (.cont 0 [(.o2 (.add .i64) (.var 2) (.int 1))]))))
  (.ret [(.int (-1))]))))
theorem sig_72 : sigOf Tryz.prog md 72 [] = some ([.sc (.sl [(.int .i64)]), .sc (.int .i64)], [.sc (.int .i64)], tree_72) := by kernel_rfl
/- slices.Contains[[]int,int] -/
def tree_49 : T :=
(.call [] (.fn 72) [.sc (.sl [(.int .i64)]) (.var 0), .sc (.int .i64) (.var 1)] [.sc (.int .i64)]
(.ret [(.o2 .ge (.var 2) (.int 0))]))
theorem sig_49 : sigOf Tryz.prog md 49 [] = some ([.sc (.sl [(.int .i64)]), .sc (.int .i64)], [.sc .bool], tree_49) := by kernel_rfl
/- impl.Has -/
def tree_30 : T :=
(.call [] (.fn 49) [.sc (.sl [(.int .i64)]) (.var 0), .sc (.int .i64) (.var 1)] [.sc .bool]
(.ret [(.var 2)]))
theorem sig_30 : sigOf Tryz.prog md 30 [] = some ([.sc (.sl [(.int .i64)]), .sc (.int .i64)], [.sc .bool], tree_30) := by kernel_rfl
/- impl.from -/
def tree_75 : T :=
(.ret [(.o2 .band (.o2 .ge (.var 0) (.var 1)) (.o2 .le (.var 0) (.var 2)))])
theorem sig_75 : sigOf Tryz.prog md 75 [] = some ([.sc (.int .i64), .sc (.int .i64), .sc (.int .i64)], [.sc .bool], tree_75) := by kernel_rfl
/- impl.isId -/
def tree_73 : T :=
(.call [] (.fn 75) [.sc (.int .i64) (.var 0), .sc (.int .i64) (.int 1), .sc (.int .i64) (.int 99)] [.sc .bool]
(.ret [(.var 1)]))
theorem sig_73 : sigOf Tryz.prog md 73 [] = some ([.sc (.int .i64)], [.sc .bool], tree_73) := by kernel_rfl
/- impl.isPlayer -/
def tree_74 : T :=
(.call [] (.fn 75) [.sc (.int .i64) (.var 0), .sc (.int .i64) (.int 0), .sc (.int .i64) (.int 2)] [.sc .bool]
(.ret [(.var 1)]))
theorem sig_74 : sigOf Tryz.prog md 74 [] = some ([.sc (.int .i64)], [.sc .bool], tree_74) := by kernel_rfl
/- impl.isKind -/
def tree_91 : T :=
(.call [] (.fn 75) [.sc (.int .i64) (.var 0), .sc (.int .i64) (.int 1), .sc (.int .i64) (.int 6)] [.sc .bool]
(.ret [(.var 1)]))
theorem sig_91 : sigOf Tryz.prog md 91 [] = some ([.sc (.int .i64)], [.sc .bool], tree_91) := by kernel_rfl
/- impl.isTraits -/
def tree_92 : T :=
(.call [] (.fn 75) [.sc (.int .i64) (.var 0), .sc (.int .i64) (.int 0), .sc (.int .i64) (.int 63)] [.sc .bool]
(.ret [(.var 1)]))
theorem sig_92 : sigOf Tryz.prog md 92 [] = some ([.sc (.int .i64)], [.sc .bool], tree_92) := by kernel_rfl
/- impl.isAmount -/
def tree_93 : T :=
(.call [] (.fn 75) [.sc (.int .i64) (.var 0), .sc (.int .i64) (.int 0), .sc (.int .i64) (.int 2147483647)] [.sc .bool]
(.ret [(.var 1)]))
theorem sig_93 : sigOf Tryz.prog md 93 [] = some ([.sc (.int .i64)], [.sc .bool], tree_93) := by kernel_rfl
/- impl.PatOk -/
def tree_76 : T :=
(.call [] (.fn 91) [.sc (.int .i64) (.o1 (.fld 0) (.var 0))] [.sc .bool]
(.call [((.o1 .not (.var 1)), false)] (.fn 75) [.sc (.int .i64) (.o1 (.fld 1) (.var 0)), .sc (.int .i64) (.int 0), .sc (.int .i64) (.int 2)] [.sc .bool]
(.call [((.o2 .bor (.o1 .not (.var 1)) (.o1 .not (.var 2))), false)] (.fn 75) [.sc (.int .i64) (.o1 (.fld 2) (.var 0)), .sc (.int .i64) (.int 0), .sc (.int .i64) (.int 99)] [.sc .bool]
(.call [((.o2 .bor (.o2 .bor (.o1 .not (.var 1)) (.o1 .not (.var 2))) (.o1 .not (.var 3))), false)] (.fn 92) [.sc (.int .i64) (.o1 (.fld 3) (.var 0))] [.sc .bool]
(.call [((.o2 .bor (.o2 .bor (.o2 .bor (.o1 .not (.var 1)) (.o1 .not (.var 2))) (.o1 .not (.var 3))) (.o1 .not (.var 4))), false)] (.fn 75) [.sc (.int .i64) (.o1 (.fld 4) (.var 0)), .sc (.int .i64) (.int 0), .sc (.int .i64) (.int 99)] [.sc .bool]
(.call [((.o2 .bor (.o2 .bor (.o2 .bor (.o2 .bor (.o1 .not (.var 1)) (.o1 .not (.var 2))) (.o1 .not (.var 3))) (.o1 .not (.var 4))) (.o1 .not (.var 5))), false)] (.fn 93) [.sc (.int .i64) (.o1 (.fld 5) (.var 0))] [.sc .bool]
(.call [((.o2 .bor (.o2 .bor (.o2 .bor (.o2 .bor (.o2 .bor (.o1 .not (.var 1)) (.o1 .not (.var 2))) (.o1 .not (.var 3))) (.o1 .not (.var 4))) (.o1 .not (.var 5))) (.o1 .not (.var 6))), false)] (.fn 75) [.sc (.int .i64) (.o1 (.fld 6) (.var 0)), .sc (.int .i64) (.int 0), .sc (.int .i64) (.int 4)] [.sc .bool]
(.br (.o2 .bor (.o2 .bor (.o2 .bor (.o2 .bor (.o2 .bor (.o2 .bor (.o1 .not (.var 1)) (.o1 .not (.var 2))) (.o1 .not (.var 3))) (.o1 .not (.var 4))) (.o1 .not (.var 5))) (.o1 .not (.var 6))) (.o1 .not (.var 7)))
 (.ret [(.bool false)])
 (.br (.o2 .bor (.o2 .band (.o2 .ne (.o1 (.fld 0) (.var 0)) (.int 1)) (.o2 .bor (.o2 .ne (.o1 (.fld 2) (.var 0)) (.int 0)) (.o2 .ne (.o1 (.fld 3) (.var 0)) (.int 0)))) (.o2 .band (.o2 .ne (.o1 (.fld 0) (.var 0)) (.int 2)) (.o2 .ne (.o1 (.fld 6) (.var 0)) (.int 0))))
  (.ret [(.bool false)])
  (.ret [(.o2 .bor (.o2 .eq (.o1 (.fld 4) (.var 0)) (.int 0)) (.o2 .band (.o2 .ne (.o1 (.fld 0) (.var 0)) (.int 3)) (.o2 .ne (.o1 (.fld 0) (.var 0)) (.int 4))))]))))))))))
theorem sig_76 : sigOf Tryz.prog md 76 [] = some ([.st [(.int .i64), (.int .i64), (.int .i64), (.int .i64), (.int .i64), (.int .i64), (.int .i64)]], [.sc .bool], tree_76) := by kernel_rfl
/- impl.Bound -/
def tree_94 : T :=
(.ret [(.o2 .max (.int (-2147483647)) (.o2 .min (.var 0) (.int 2147483647)))])
theorem sig_94 : sigOf Tryz.prog md 94 [] = some ([.sc (.int .i64)], [.sc (.int .i64)], tree_94) := by kernel_rfl
/- impl.GuardOk -/
def tree_77 : T :=
(.br (.o2 .eq (.o1 (.fld 0) (.var 0)) (.int 0))
 (.br (.o2 .eq (.o1 (.fld 0) (.var 0)) (.int 0))
  (.ret [(.o2 .eq (.o1 (.fld 1) (.var 0)) (.int 0))])
  (.br (.o2 .eq (.o1 (.fld 0) (.var 0)) (.int 1))
   (.call [] (.fn 94) [.sc (.int .i64) (.o1 (.fld 1) (.var 0))] [.sc (.int .i64)]
   (.ret [(.o2 .eq (.var 1) (.o1 (.fld 1) (.var 0)))]))
   (.br (.o2 .eq (.o1 (.fld 0) (.var 0)) (.int 2))
    (.br (.o2 .eq (.o1 (.fld 0) (.var 0)) (.int 2))
     (.call [] (.fn 75) [.sc (.int .i64) (.o1 (.fld 1) (.var 0)), .sc (.int .i64) (.int 0), .sc (.int .i64) (.int 8)] [.sc .bool]
     (.ret [(.var 1)]))
     (.ret [(.bool false)]))
    (.br (.o2 .eq (.o1 (.fld 0) (.var 0)) (.int 4))
     (.call [] (.fn 75) [.sc (.int .i64) (.o1 (.fld 1) (.var 0)), .sc (.int .i64) (.int 0), .sc (.int .i64) (.int 8)] [.sc .bool]
     (.ret [(.var 1)]))
     (.ret [(.bool false)])))))
 (.br (.o2 .eq (.o1 (.fld 0) (.var 0)) (.int 3))
  (.ret [(.o2 .eq (.o1 (.fld 1) (.var 0)) (.int 0))])
  (.br (.o2 .eq (.o1 (.fld 0) (.var 0)) (.int 1))
   (.call [] (.fn 94) [.sc (.int .i64) (.o1 (.fld 1) (.var 0))] [.sc (.int .i64)]
   (.ret [(.o2 .eq (.var 1) (.o1 (.fld 1) (.var 0)))]))
   (.br (.o2 .eq (.o1 (.fld 0) (.var 0)) (.int 2))
    (.br (.o2 .eq (.o1 (.fld 0) (.var 0)) (.int 2))
     (.call [] (.fn 75) [.sc (.int .i64) (.o1 (.fld 1) (.var 0)), .sc (.int .i64) (.int 0), .sc (.int .i64) (.int 8)] [.sc .bool]
     (.ret [(.var 1)]))
     (.ret [(.bool false)]))
    (.br (.o2 .eq (.o1 (.fld 0) (.var 0)) (.int 4))
     (.call [] (.fn 75) [.sc (.int .i64) (.o1 (.fld 1) (.var 0)), .sc (.int .i64) (.int 0), .sc (.int .i64) (.int 8)] [.sc .bool]
     (.ret [(.var 1)]))
     (.ret [(.bool false)]))))))
theorem sig_77 : sigOf Tryz.prog md 77 [] = some ([.st [(.int .i64), (.int .i64)]], [.sc .bool], tree_77) := by kernel_rfl
/- impl.isZone -/
def tree_95 : T :=
(.call [] (.fn 75) [.sc (.int .i64) (.var 0), .sc (.int .i64) (.int 1), .sc (.int .i64) (.int 4)] [.sc .bool]
(.ret [(.var 1)]))
theorem sig_95 : sigOf Tryz.prog md 95 [] = some ([.sc (.int .i64)], [.sc .bool], tree_95) := by kernel_rfl
/- impl.onPiece -/
def tree_99 : T :=
(.call [] (.fn 73) [.sc (.int .i64) (.o1 (.fld 2) (.var 0))] [.sc .bool]
(.ret [(.o2 .band (.var 1) (.o2 .eq (.o1 (.fld 3) (.var 0)) (.int (-1))))]))
theorem sig_99 : sigOf Tryz.prog md 99 [] = some ([.st [(.int .i64), (.int .i64), (.int .i64), (.int .i64), (.int .i64), (.int .i64), .bool]], [.sc .bool], tree_99) := by kernel_rfl
/- impl.onPlayer -/
def tree_100 : T :=
(.call [((.o2 .eq (.o1 (.fld 2) (.var 0)) (.int 0)), true)] (.fn 74) [.sc (.int .i64) (.o1 (.fld 3) (.var 0))] [.sc .bool]
(.ret [(.o2 .band (.o2 .eq (.o1 (.fld 2) (.var 0)) (.int 0)) (.var 1))]))
theorem sig_100 : sigOf Tryz.prog md 100 [] = some ([.st [(.int .i64), (.int .i64), (.int .i64), (.int .i64), (.int .i64), (.int .i64), .bool]], [.sc .bool], tree_100) := by kernel_rfl
/- impl.EventOk -/
def tree_83 : T :=
(.call [] (.fn 93) [.sc (.int .i64) (.o1 (.fld 4) (.var 0))] [.sc .bool]
(.br (.o2 .bor (.o2 .bor (.o1 .not (.var 1)) (.o2 .band (.o2 .ne (.o1 (.fld 0) (.var 0)) (.int 1)) (.o2 .ne (.o1 (.fld 1) (.var 0)) (.int 0)))) (.o2 .band (.o2 .ne (.o1 (.fld 0) (.var 0)) (.int 2)) (.o2 .bor (.o2 .ne (.o1 (.fld 5) (.var 0)) (.int 0)) (.o1 (.fld 6) (.var 0)))))
 (.ret [(.bool false)])
 (.br (.o2 .eq (.o1 (.fld 0) (.var 0)) (.int 1))
  (.call [] (.fn 73) [.sc (.int .i64) (.o1 (.fld 1) (.var 0))] [.sc .bool]
  (.call [((.var 2), true)] (.fn 99) [.st [(.int .i64), (.int .i64), (.int .i64), (.int .i64), (.int .i64), (.int .i64), .bool] (.o2 .cons (.o1 (.fld 0) (.var 0)) (.o2 .cons (.o1 (.fld 1) (.var 0)) (.o2 .cons (.o1 (.fld 2) (.var 0)) (.o2 .cons (.o1 (.fld 3) (.var 0)) (.o2 .cons (.o1 (.fld 4) (.var 0)) (.o2 .cons (.o1 (.fld 5) (.var 0)) (.o2 .cons (.o1 (.fld 6) (.var 0)) .nil)))))))] [.sc .bool]
  (.call [((.var 2), true), ((.var 3), false)] (.fn 100) [.st [(.int .i64), (.int .i64), (.int .i64), (.int .i64), (.int .i64), (.int .i64), .bool] (.o2 .cons (.o1 (.fld 0) (.var 0)) (.o2 .cons (.o1 (.fld 1) (.var 0)) (.o2 .cons (.o1 (.fld 2) (.var 0)) (.o2 .cons (.o1 (.fld 3) (.var 0)) (.o2 .cons (.o1 (.fld 4) (.var 0)) (.o2 .cons (.o1 (.fld 5) (.var 0)) (.o2 .cons (.o1 (.fld 6) (.var 0)) .nil)))))))] [.sc .bool]
  (.ret [(.o2 .band (.var 2) (.o2 .bor (.var 3) (.var 4)))]))))
  (.br (.o2 .eq (.o1 (.fld 0) (.var 0)) (.int 2))
   (.br (.o2 .eq (.o1 (.fld 5) (.var 0)) (.int 2))
    (.call [] (.fn 99) [.st [(.int .i64), (.int .i64), (.int .i64), (.int .i64), (.int .i64), (.int .i64), .bool] (.o2 .cons (.o1 (.fld 0) (.var 0)) (.o2 .cons (.o1 (.fld 1) (.var 0)) (.o2 .cons (.o1 (.fld 2) (.var 0)) (.o2 .cons (.o1 (.fld 3) (.var 0)) (.o2 .cons (.o1 (.fld 4) (.var 0)) (.o2 .cons (.o1 (.fld 5) (.var 0)) (.o2 .cons (.o1 (.fld 6) (.var 0)) .nil)))))))] [.sc .bool]
    (.ret [(.o2 .band (.var 2) (.o2 .le (.o1 (.fld 4) (.var 0)) (.int 99)))]))
    (.call [] (.fn 99) [.st [(.int .i64), (.int .i64), (.int .i64), (.int .i64), (.int .i64), (.int .i64), .bool] (.o2 .cons (.o1 (.fld 0) (.var 0)) (.o2 .cons (.o1 (.fld 1) (.var 0)) (.o2 .cons (.o1 (.fld 2) (.var 0)) (.o2 .cons (.o1 (.fld 3) (.var 0)) (.o2 .cons (.o1 (.fld 4) (.var 0)) (.o2 .cons (.o1 (.fld 5) (.var 0)) (.o2 .cons (.o1 (.fld 6) (.var 0)) .nil)))))))] [.sc .bool]
    (.call [((.var 2), true)] (.fn 95) [.sc (.int .i64) (.o1 (.fld 5) (.var 0))] [.sc .bool]
    (.ret [(.o2 .band (.o2 .band (.o2 .band (.var 2) (.var 3)) (.o2 .eq (.o1 (.fld 4) (.var 0)) (.int 0))) (.o1 .not (.o1 (.fld 6) (.var 0))))]))))
   (.br (.o2 .eq (.o1 (.fld 0) (.var 0)) (.int 3))
    (.br (.o2 .eq (.o1 (.fld 0) (.var 0)) (.int 3))
     (.call [] (.fn 100) [.st [(.int .i64), (.int .i64), (.int .i64), (.int .i64), (.int .i64), (.int .i64), .bool] (.o2 .cons (.o1 (.fld 0) (.var 0)) (.o2 .cons (.o1 (.fld 1) (.var 0)) (.o2 .cons (.o1 (.fld 2) (.var 0)) (.o2 .cons (.o1 (.fld 3) (.var 0)) (.o2 .cons (.o1 (.fld 4) (.var 0)) (.o2 .cons (.o1 (.fld 5) (.var 0)) (.o2 .cons (.o1 (.fld 6) (.var 0)) .nil)))))))] [.sc .bool]
     (.ret [(.var 2)]))
     (.br (.o2 .eq (.o1 (.fld 0) (.var 0)) (.int 5))
      (.br (.o2 .eq (.o1 (.fld 0) (.var 0)) (.int 5))
       (.call [] (.fn 99) [.st [(.int .i64), (.int .i64), (.int .i64), (.int .i64), (.int .i64), (.int .i64), .bool] (.o2 .cons (.o1 (.fld 0) (.var 0)) (.o2 .cons (.o1 (.fld 1) (.var 0)) (.o2 .cons (.o1 (.fld 2) (.var 0)) (.o2 .cons (.o1 (.fld 3) (.var 0)) (.o2 .cons (.o1 (.fld 4) (.var 0)) (.o2 .cons (.o1 (.fld 5) (.var 0)) (.o2 .cons (.o1 (.fld 6) (.var 0)) .nil)))))))] [.sc .bool]
       (.ret [(.var 2)]))
       (.ret [(.bool false)]))
      (.br (.o2 .eq (.o1 (.fld 0) (.var 0)) (.int 6))
       (.call [] (.fn 99) [.st [(.int .i64), (.int .i64), (.int .i64), (.int .i64), (.int .i64), (.int .i64), .bool] (.o2 .cons (.o1 (.fld 0) (.var 0)) (.o2 .cons (.o1 (.fld 1) (.var 0)) (.o2 .cons (.o1 (.fld 2) (.var 0)) (.o2 .cons (.o1 (.fld 3) (.var 0)) (.o2 .cons (.o1 (.fld 4) (.var 0)) (.o2 .cons (.o1 (.fld 5) (.var 0)) (.o2 .cons (.o1 (.fld 6) (.var 0)) .nil)))))))] [.sc .bool]
       (.ret [(.var 2)]))
       (.ret [(.bool false)]))))
    (.br (.o2 .eq (.o1 (.fld 0) (.var 0)) (.int 4))
     (.call [] (.fn 100) [.st [(.int .i64), (.int .i64), (.int .i64), (.int .i64), (.int .i64), (.int .i64), .bool] (.o2 .cons (.o1 (.fld 0) (.var 0)) (.o2 .cons (.o1 (.fld 1) (.var 0)) (.o2 .cons (.o1 (.fld 2) (.var 0)) (.o2 .cons (.o1 (.fld 3) (.var 0)) (.o2 .cons (.o1 (.fld 4) (.var 0)) (.o2 .cons (.o1 (.fld 5) (.var 0)) (.o2 .cons (.o1 (.fld 6) (.var 0)) .nil)))))))] [.sc .bool]
     (.ret [(.var 2)]))
     (.br (.o2 .eq (.o1 (.fld 0) (.var 0)) (.int 5))
      (.br (.o2 .eq (.o1 (.fld 0) (.var 0)) (.int 5))
       (.call [] (.fn 99) [.st [(.int .i64), (.int .i64), (.int .i64), (.int .i64), (.int .i64), (.int .i64), .bool] (.o2 .cons (.o1 (.fld 0) (.var 0)) (.o2 .cons (.o1 (.fld 1) (.var 0)) (.o2 .cons (.o1 (.fld 2) (.var 0)) (.o2 .cons (.o1 (.fld 3) (.var 0)) (.o2 .cons (.o1 (.fld 4) (.var 0)) (.o2 .cons (.o1 (.fld 5) (.var 0)) (.o2 .cons (.o1 (.fld 6) (.var 0)) .nil)))))))] [.sc .bool]
       (.ret [(.var 2)]))
       (.ret [(.bool false)]))
      (.br (.o2 .eq (.o1 (.fld 0) (.var 0)) (.int 6))
       (.call [] (.fn 99) [.st [(.int .i64), (.int .i64), (.int .i64), (.int .i64), (.int .i64), (.int .i64), .bool] (.o2 .cons (.o1 (.fld 0) (.var 0)) (.o2 .cons (.o1 (.fld 1) (.var 0)) (.o2 .cons (.o1 (.fld 2) (.var 0)) (.o2 .cons (.o1 (.fld 3) (.var 0)) (.o2 .cons (.o1 (.fld 4) (.var 0)) (.o2 .cons (.o1 (.fld 5) (.var 0)) (.o2 .cons (.o1 (.fld 6) (.var 0)) .nil)))))))] [.sc .bool]
       (.ret [(.var 2)]))
       (.ret [(.bool false)])))))))))
theorem sig_83 : sigOf Tryz.prog md 83 [] = some ([.st [(.int .i64), (.int .i64), (.int .i64), (.int .i64), (.int .i64), (.int .i64), .bool]], [.sc .bool], tree_83) := by kernel_rfl
/- impl.partOk -/
def tree_98 : T :=
(.call [] (.fn 83) [.st [(.int .i64), (.int .i64), (.int .i64), (.int .i64), (.int .i64), (.int .i64), .bool] (.o2 .cons (.o1 (.fld 0) (.var 0)) (.o2 .cons (.o1 (.fld 1) (.var 0)) (.o2 .cons (.o1 (.fld 2) (.var 0)) (.o2 .cons (.o1 (.fld 3) (.var 0)) (.o2 .cons (.o1 (.fld 4) (.var 0)) (.o2 .cons (.o1 (.fld 5) (.var 0)) (.o2 .cons (.o1 (.fld 6) (.var 0)) .nil)))))))] [.sc .bool]
(.br (.var 1)
 (.ret [(.bool true)])
 (.call [((.o2 .band (.o2 .ne (.o1 (.fld 0) (.var 0)) (.int 2)) (.o2 .eq (.o1 (.fld 4) (.var 0)) (.int (-1)))), true)] (.fn 83) [.st [(.int .i64), (.int .i64), (.int .i64), (.int .i64), (.int .i64), (.int .i64), .bool] (.o2 .cons (.o1 (.fld 0) (.var 0)) (.o2 .cons (.o1 (.fld 1) (.var 0)) (.o2 .cons (.o1 (.fld 2) (.var 0)) (.o2 .cons (.o1 (.fld 3) (.var 0)) (.o2 .cons (.int 0) (.o2 .cons (.o1 (.fld 5) (.var 0)) (.o2 .cons (.o1 (.fld 6) (.var 0)) .nil)))))))] [.sc .bool]
 (.ret [(.o2 .band (.o2 .band (.o2 .ne (.o1 (.fld 0) (.var 0)) (.int 2)) (.o2 .eq (.o1 (.fld 4) (.var 0)) (.int (-1)))) (.var 2))]))))
theorem sig_98 : sigOf Tryz.prog md 98 [] = some ([.st [(.int .i64), (.int .i64), (.int .i64), (.int .i64), (.int .i64), (.int .i64), .bool]], [.sc .bool], tree_98) := by kernel_rfl
/- impl.ActOk$1 -/
def tree_97 : T :=
(.call [] (.fn 98) [.st [(.int .i64), (.int .i64), (.int .i64), (.int .i64), (.int .i64), (.int .i64), .bool] (.o2 .cons (.o1 (.fld 0) (.var 0)) (.o2 .cons (.o1 (.fld 1) (.var 0)) (.o2 .cons (.o1 (.fld 2) (.var 0)) (.o2 .cons (.o1 (.fld 3) (.var 0)) (.o2 .cons (.o1 (.fld 4) (.var 0)) (.o2 .cons (.o1 (.fld 5) (.var 0)) (.o2 .cons (.o1 (.fld 6) (.var 0)) .nil)))))))] [.sc .bool]
(.ret [(.o1 .not (.var 1))]))
theorem sig_97 : sigOf Tryz.prog md 97 [] = some ([.st [(.int .i64), (.int .i64), (.int .i64), (.int .i64), (.int .i64), (.int .i64), .bool]], [.sc .bool], tree_97) := by kernel_rfl
/- slices.IndexFunc[[]impl.Event,impl.Event] -/
def tree_105 : T :=
(.know (.var 0)
(.loop 0 [(.int 0)]
 (.br (.o2 .lt (.var 2) (.o1 .len (.var 0)))
  (.need [] (.o2 .le (.int 0) (.var 2))
  (.need [] (.o2 .lt (.var 2) (.o1 .len (.var 0)))
  (.call [] (.par 1) [.st [(.int .i64), (.int .i64), (.int .i64), (.int .i64), (.int .i64), (.int .i64), .bool] (.o2 .cons (.o1 (.fld 0) (.o2 .idx (.var 0) (.var 2))) (.o2 .cons (.o1 (.fld 1) (.o2 .idx (.var 0) (.var 2))) (.o2 .cons (.o1 (.fld 2) (.o2 .idx (.var 0) (.var 2))) (.o2 .cons (.o1 (.fld 3) (.o2 .idx (.var 0) (.var 2))) (.o2 .cons (.o1 (.fld 4) (.o2 .idx (.var 0) (.var 2))) (.o2 .cons (.o1 (.fld 5) (.o2 .idx (.var 0) (.var 2))) (.o2 .cons (.o1 (.fld 6) (.o2 .idx (.var 0) (.var 2))) .nil)))))))] [.sc .bool]
  (.br (.var 3)
   (.ret [(.var 2)])
   (.cont 0 [(.o2 (.add .i64) (.var 2) (.int 1))])))))
  (.ret [(.int (-1))]))))
theorem sig_105 : sigOf Tryz.prog md 105 [] = some ([.sc (.sl [(.int .i64), (.int .i64), (.int .i64), (.int .i64), (.int .i64), (.int .i64), .bool]), .clo], [.sc (.int .i64)], tree_105) := by kernel_rfl
/- slices.ContainsFunc[[]impl.Event,impl.Event] -/
def tree_96 : T :=
(.call [] (.fn 105) [.sc (.sl [(.int .i64), (.int .i64), (.int .i64), (.int .i64), (.int .i64), (.int .i64), .bool]) (.var 0), .clop 1] [.sc (.int .i64)]
(.ret [(.o2 .ge (.var 2) (.int 0))]))
theorem sig_96 : sigOf Tryz.prog md 96 [] = some ([.sc (.sl [(.int .i64), (.int .i64), (.int .i64), (.int .i64), (.int .i64), (.int .i64), .bool]), .clo], [.sc .bool], tree_96) := by kernel_rfl
/- impl.ActOk -/
def tree_78 : T :=
(.br (.o2 .bor (.o2 .bor (.o2 .bor (.o2 .bor (.o2 .band (.o2 .band (.o2 .ne (.o1 (.fld 0) (.var 0)) (.int 3)) (.o2 .ne (.o1 (.fld 0) (.var 0)) (.int 8))) (.o2 .ne (.o1 (.fld 1) (.var 0)) (.int 0))) (.o2 .band (.o2 .ne (.o1 (.fld 0) (.var 0)) (.int 6)) (.o2 .bor (.o2 .ne (.o1 (.fld 2) (.var 0)) (.int 0)) (.o2 .ne (.o1 (.fld 3) (.var 0)) (.int (-1)))))) (.o2 .band (.o2 .ne (.o1 (.fld 0) (.var 0)) (.int 7)) (.o2 .ne (.o1 (.fld 4) (.var 0)) (.int 0)))) (.o2 .band (.o2 .ne (.o1 (.fld 0) (.var 0)) (.int 8)) (.o1 (.fld 5) (.var 0)))) (.o2 .band (.o2 .ne (.o1 (.fld 0) (.var 0)) (.int 9)) (.o2 .gt (.o1 .len (.o1 (.fld 6) (.var 0))) (.int 0))))
 (.ret [(.bool false)])
 (.br (.o2 .eq (.o1 (.fld 0) (.var 0)) (.int 1))
  (.br (.o2 .eq (.o1 (.fld 0) (.var 0)) (.int 1))
   (.ret [(.bool true)])
   (.br (.o2 .eq (.o1 (.fld 0) (.var 0)) (.int 3))
    (.call [] (.fn 75) [.sc (.int .i64) (.o1 (.fld 1) (.var 0)), .sc (.int .i64) (.int 1), .sc (.int .i64) (.int 2147483647)] [.sc .bool]
    (.ret [(.var 1)]))
    (.br (.o2 .eq (.o1 (.fld 0) (.var 0)) (.int 6))
     (.call [] (.fn 73) [.sc (.int .i64) (.o1 (.fld 2) (.var 0))] [.sc .bool]
     (.call [((.o2 .band (.var 1) (.o2 .eq (.o1 (.fld 3) (.var 0)) (.int (-1)))), false), ((.o2 .eq (.o1 (.fld 2) (.var 0)) (.int 0)), true)] (.fn 74) [.sc (.int .i64) (.o1 (.fld 3) (.var 0))] [.sc .bool]
     (.ret [(.o2 .bor (.o2 .band (.var 1) (.o2 .eq (.o1 (.fld 3) (.var 0)) (.int (-1)))) (.o2 .band (.o2 .eq (.o1 (.fld 2) (.var 0)) (.int 0)) (.var 2)))])))
     (.br (.o2 .eq (.o1 (.fld 0) (.var 0)) (.int 7))
      (.call [] (.fn 95) [.sc (.int .i64) (.o1 (.fld 4) (.var 0))] [.sc .bool]
      (.ret [(.var 1)]))
      (.br (.o2 .eq (.o1 (.fld 0) (.var 0)) (.int 8))
       (.call [] (.fn 75) [.sc (.int .i64) (.o1 (.fld 1) (.var 0)), .sc (.int .i64) (.int 0), .sc (.int .i64) (.int 99)] [.sc .bool]
       (.ret [(.var 1)]))
       (.br (.o2 .eq (.o1 (.fld 0) (.var 0)) (.int 9))
        (.know (.o1 (.fld 6) (.var 0))
        (.call [] (.fn 75) [.sc (.int .i64) (.o1 .len (.o1 (.fld 6) (.var 0))), .sc (.int .i64) (.int 1), .sc (.int .i64) (.int 3)] [.sc .bool]
        (.call [((.var 1), true)] (.fn 96) [.sc (.sl [(.int .i64), (.int .i64), (.int .i64), (.int .i64), (.int .i64), (.int .i64), .bool]) (.o1 (.fld 6) (.var 0)), .clo 97 []] [.sc .bool]
        (.ret [(.o2 .band (.var 1) (.o1 .not (.var 2)))]))))
        (.ret [(.bool false)])))))))
  (.br (.o2 .eq (.o1 (.fld 0) (.var 0)) (.int 2))
   (.br (.o2 .eq (.o1 (.fld 0) (.var 0)) (.int 2))
    (.ret [(.bool true)])
    (.br (.o2 .eq (.o1 (.fld 0) (.var 0)) (.int 3))
     (.call [] (.fn 75) [.sc (.int .i64) (.o1 (.fld 1) (.var 0)), .sc (.int .i64) (.int 1), .sc (.int .i64) (.int 2147483647)] [.sc .bool]
     (.ret [(.var 1)]))
     (.br (.o2 .eq (.o1 (.fld 0) (.var 0)) (.int 6))
      (.call [] (.fn 73) [.sc (.int .i64) (.o1 (.fld 2) (.var 0))] [.sc .bool]
      (.call [((.o2 .band (.var 1) (.o2 .eq (.o1 (.fld 3) (.var 0)) (.int (-1)))), false), ((.o2 .eq (.o1 (.fld 2) (.var 0)) (.int 0)), true)] (.fn 74) [.sc (.int .i64) (.o1 (.fld 3) (.var 0))] [.sc .bool]
      (.ret [(.o2 .bor (.o2 .band (.var 1) (.o2 .eq (.o1 (.fld 3) (.var 0)) (.int (-1)))) (.o2 .band (.o2 .eq (.o1 (.fld 2) (.var 0)) (.int 0)) (.var 2)))])))
      (.br (.o2 .eq (.o1 (.fld 0) (.var 0)) (.int 7))
       (.call [] (.fn 95) [.sc (.int .i64) (.o1 (.fld 4) (.var 0))] [.sc .bool]
       (.ret [(.var 1)]))
       (.br (.o2 .eq (.o1 (.fld 0) (.var 0)) (.int 8))
        (.call [] (.fn 75) [.sc (.int .i64) (.o1 (.fld 1) (.var 0)), .sc (.int .i64) (.int 0), .sc (.int .i64) (.int 99)] [.sc .bool]
        (.ret [(.var 1)]))
        (.br (.o2 .eq (.o1 (.fld 0) (.var 0)) (.int 9))
         (.know (.o1 (.fld 6) (.var 0))
         (.call [] (.fn 75) [.sc (.int .i64) (.o1 .len (.o1 (.fld 6) (.var 0))), .sc (.int .i64) (.int 1), .sc (.int .i64) (.int 3)] [.sc .bool]
         (.call [((.var 1), true)] (.fn 96) [.sc (.sl [(.int .i64), (.int .i64), (.int .i64), (.int .i64), (.int .i64), (.int .i64), .bool]) (.o1 (.fld 6) (.var 0)), .clo 97 []] [.sc .bool]
         (.ret [(.o2 .band (.var 1) (.o1 .not (.var 2)))]))))
         (.ret [(.bool false)])))))))
   (.br (.o2 .eq (.o1 (.fld 0) (.var 0)) (.int 4))
    (.br (.o2 .eq (.o1 (.fld 0) (.var 0)) (.int 4))
     (.ret [(.bool true)])
     (.br (.o2 .eq (.o1 (.fld 0) (.var 0)) (.int 3))
      (.call [] (.fn 75) [.sc (.int .i64) (.o1 (.fld 1) (.var 0)), .sc (.int .i64) (.int 1), .sc (.int .i64) (.int 2147483647)] [.sc .bool]
      (.ret [(.var 1)]))
      (.br (.o2 .eq (.o1 (.fld 0) (.var 0)) (.int 6))
       (.call [] (.fn 73) [.sc (.int .i64) (.o1 (.fld 2) (.var 0))] [.sc .bool]
       (.call [((.o2 .band (.var 1) (.o2 .eq (.o1 (.fld 3) (.var 0)) (.int (-1)))), false), ((.o2 .eq (.o1 (.fld 2) (.var 0)) (.int 0)), true)] (.fn 74) [.sc (.int .i64) (.o1 (.fld 3) (.var 0))] [.sc .bool]
       (.ret [(.o2 .bor (.o2 .band (.var 1) (.o2 .eq (.o1 (.fld 3) (.var 0)) (.int (-1)))) (.o2 .band (.o2 .eq (.o1 (.fld 2) (.var 0)) (.int 0)) (.var 2)))])))
       (.br (.o2 .eq (.o1 (.fld 0) (.var 0)) (.int 7))
        (.call [] (.fn 95) [.sc (.int .i64) (.o1 (.fld 4) (.var 0))] [.sc .bool]
        (.ret [(.var 1)]))
        (.br (.o2 .eq (.o1 (.fld 0) (.var 0)) (.int 8))
         (.call [] (.fn 75) [.sc (.int .i64) (.o1 (.fld 1) (.var 0)), .sc (.int .i64) (.int 0), .sc (.int .i64) (.int 99)] [.sc .bool]
         (.ret [(.var 1)]))
         (.br (.o2 .eq (.o1 (.fld 0) (.var 0)) (.int 9))
          (.know (.o1 (.fld 6) (.var 0))
          (.call [] (.fn 75) [.sc (.int .i64) (.o1 .len (.o1 (.fld 6) (.var 0))), .sc (.int .i64) (.int 1), .sc (.int .i64) (.int 3)] [.sc .bool]
          (.call [((.var 1), true)] (.fn 96) [.sc (.sl [(.int .i64), (.int .i64), (.int .i64), (.int .i64), (.int .i64), (.int .i64), .bool]) (.o1 (.fld 6) (.var 0)), .clo 97 []] [.sc .bool]
          (.ret [(.o2 .band (.var 1) (.o1 .not (.var 2)))]))))
          (.ret [(.bool false)])))))))
    (.br (.o2 .eq (.o1 (.fld 0) (.var 0)) (.int 5))
     (.ret [(.bool true)])
     (.br (.o2 .eq (.o1 (.fld 0) (.var 0)) (.int 3))
      (.call [] (.fn 75) [.sc (.int .i64) (.o1 (.fld 1) (.var 0)), .sc (.int .i64) (.int 1), .sc (.int .i64) (.int 2147483647)] [.sc .bool]
      (.ret [(.var 1)]))
      (.br (.o2 .eq (.o1 (.fld 0) (.var 0)) (.int 6))
       (.call [] (.fn 73) [.sc (.int .i64) (.o1 (.fld 2) (.var 0))] [.sc .bool]
       (.call [((.o2 .band (.var 1) (.o2 .eq (.o1 (.fld 3) (.var 0)) (.int (-1)))), false), ((.o2 .eq (.o1 (.fld 2) (.var 0)) (.int 0)), true)] (.fn 74) [.sc (.int .i64) (.o1 (.fld 3) (.var 0))] [.sc .bool]
       (.ret [(.o2 .bor (.o2 .band (.var 1) (.o2 .eq (.o1 (.fld 3) (.var 0)) (.int (-1)))) (.o2 .band (.o2 .eq (.o1 (.fld 2) (.var 0)) (.int 0)) (.var 2)))])))
       (.br (.o2 .eq (.o1 (.fld 0) (.var 0)) (.int 7))
        (.call [] (.fn 95) [.sc (.int .i64) (.o1 (.fld 4) (.var 0))] [.sc .bool]
        (.ret [(.var 1)]))
        (.br (.o2 .eq (.o1 (.fld 0) (.var 0)) (.int 8))
         (.call [] (.fn 75) [.sc (.int .i64) (.o1 (.fld 1) (.var 0)), .sc (.int .i64) (.int 0), .sc (.int .i64) (.int 99)] [.sc .bool]
         (.ret [(.var 1)]))
         (.br (.o2 .eq (.o1 (.fld 0) (.var 0)) (.int 9))
          (.know (.o1 (.fld 6) (.var 0))
          (.call [] (.fn 75) [.sc (.int .i64) (.o1 .len (.o1 (.fld 6) (.var 0))), .sc (.int .i64) (.int 1), .sc (.int .i64) (.int 3)] [.sc .bool]
          (.call [((.var 1), true)] (.fn 96) [.sc (.sl [(.int .i64), (.int .i64), (.int .i64), (.int .i64), (.int .i64), (.int .i64), .bool]) (.o1 (.fld 6) (.var 0)), .clo 97 []] [.sc .bool]
          (.ret [(.o2 .band (.var 1) (.o1 .not (.var 2)))]))))
          (.ret [(.bool false)])))))))))))
theorem sig_78 : sigOf Tryz.prog md 78 [] = some ([.st [(.int .i64), (.int .i64), (.int .i64), (.int .i64), (.int .i64), .bool, (.sl [(.int .i64), (.int .i64), (.int .i64), (.int .i64), (.int .i64), (.int .i64), .bool])]], [.sc .bool], tree_78) := by kernel_rfl
/- impl.ActFits -/
def tree_79 : T :=
(.call [] (.fn 91) [.sc (.int .i64) (.var 1)] [.sc .bool]
(.br (.o1 .not (.var 2))
 (.ret [(.bool false)])
 (.br (.o2 .eq (.o1 (.fld 0) (.var 0)) (.int 1))
  (.br (.o2 .eq (.o1 (.fld 0) (.var 0)) (.int 1))
   (.ret [(.bool true)])
   (.br (.o2 .eq (.o1 (.fld 0) (.var 0)) (.int 2))
    (.br (.o2 .eq (.o1 (.fld 0) (.var 0)) (.int 2))
     (.ret [(.o2 .eq (.var 1) (.int 1))])
     (.br (.o2 .eq (.o1 (.fld 0) (.var 0)) (.int 3))
      (.br (.o2 .eq (.o1 (.fld 0) (.var 0)) (.int 3))
       (.ret [(.o2 .ne (.var 1) (.int 2))])
       (.br (.o2 .eq (.o1 (.fld 0) (.var 0)) (.int 7))
        (.br (.o2 .eq (.o1 (.fld 0) (.var 0)) (.int 7))
         (.ret [(.o2 .eq (.var 1) (.int 2))])
         (.ret [(.bool false)]))
        (.br (.o2 .eq (.o1 (.fld 0) (.var 0)) (.int 8))
         (.ret [(.o2 .eq (.var 1) (.int 2))])
         (.ret [(.bool false)]))))
      (.br (.o2 .eq (.o1 (.fld 0) (.var 0)) (.int 4))
       (.br (.o2 .eq (.o1 (.fld 0) (.var 0)) (.int 4))
        (.ret [(.o2 .ne (.var 1) (.int 2))])
        (.br (.o2 .eq (.o1 (.fld 0) (.var 0)) (.int 7))
         (.br (.o2 .eq (.o1 (.fld 0) (.var 0)) (.int 7))
          (.ret [(.o2 .eq (.var 1) (.int 2))])
          (.ret [(.bool false)]))
         (.br (.o2 .eq (.o1 (.fld 0) (.var 0)) (.int 8))
          (.ret [(.o2 .eq (.var 1) (.int 2))])
          (.ret [(.bool false)]))))
       (.br (.o2 .eq (.o1 (.fld 0) (.var 0)) (.int 5))
        (.ret [(.o2 .ne (.var 1) (.int 2))])
        (.br (.o2 .eq (.o1 (.fld 0) (.var 0)) (.int 7))
         (.br (.o2 .eq (.o1 (.fld 0) (.var 0)) (.int 7))
          (.ret [(.o2 .eq (.var 1) (.int 2))])
          (.ret [(.bool false)]))
         (.br (.o2 .eq (.o1 (.fld 0) (.var 0)) (.int 8))
          (.ret [(.o2 .eq (.var 1) (.int 2))])
          (.ret [(.bool false)])))))))
    (.br (.o2 .eq (.o1 (.fld 0) (.var 0)) (.int 6))
     (.ret [(.o2 .eq (.var 1) (.int 1))])
     (.br (.o2 .eq (.o1 (.fld 0) (.var 0)) (.int 3))
      (.br (.o2 .eq (.o1 (.fld 0) (.var 0)) (.int 3))
       (.ret [(.o2 .ne (.var 1) (.int 2))])
       (.br (.o2 .eq (.o1 (.fld 0) (.var 0)) (.int 7))
        (.br (.o2 .eq (.o1 (.fld 0) (.var 0)) (.int 7))
         (.ret [(.o2 .eq (.var 1) (.int 2))])
         (.ret [(.bool false)]))
        (.br (.o2 .eq (.o1 (.fld 0) (.var 0)) (.int 8))
         (.ret [(.o2 .eq (.var 1) (.int 2))])
         (.ret [(.bool false)]))))
      (.br (.o2 .eq (.o1 (.fld 0) (.var 0)) (.int 4))
       (.br (.o2 .eq (.o1 (.fld 0) (.var 0)) (.int 4))
        (.ret [(.o2 .ne (.var 1) (.int 2))])
        (.br (.o2 .eq (.o1 (.fld 0) (.var 0)) (.int 7))
         (.br (.o2 .eq (.o1 (.fld 0) (.var 0)) (.int 7))
          (.ret [(.o2 .eq (.var 1) (.int 2))])
          (.ret [(.bool false)]))
         (.br (.o2 .eq (.o1 (.fld 0) (.var 0)) (.int 8))
          (.ret [(.o2 .eq (.var 1) (.int 2))])
          (.ret [(.bool false)]))))
       (.br (.o2 .eq (.o1 (.fld 0) (.var 0)) (.int 5))
        (.ret [(.o2 .ne (.var 1) (.int 2))])
        (.br (.o2 .eq (.o1 (.fld 0) (.var 0)) (.int 7))
         (.br (.o2 .eq (.o1 (.fld 0) (.var 0)) (.int 7))
          (.ret [(.o2 .eq (.var 1) (.int 2))])
          (.ret [(.bool false)]))
         (.br (.o2 .eq (.o1 (.fld 0) (.var 0)) (.int 8))
          (.ret [(.o2 .eq (.var 1) (.int 2))])
          (.ret [(.bool false)])))))))))
  (.br (.o2 .eq (.o1 (.fld 0) (.var 0)) (.int 9))
   (.ret [(.bool true)])
   (.br (.o2 .eq (.o1 (.fld 0) (.var 0)) (.int 2))
    (.br (.o2 .eq (.o1 (.fld 0) (.var 0)) (.int 2))
     (.ret [(.o2 .eq (.var 1) (.int 1))])
     (.br (.o2 .eq (.o1 (.fld 0) (.var 0)) (.int 3))
      (.br (.o2 .eq (.o1 (.fld 0) (.var 0)) (.int 3))
       (.ret [(.o2 .ne (.var 1) (.int 2))])
       (.br (.o2 .eq (.o1 (.fld 0) (.var 0)) (.int 7))
        (.br (.o2 .eq (.o1 (.fld 0) (.var 0)) (.int 7))
         (.ret [(.o2 .eq (.var 1) (.int 2))])
         (.ret [(.bool false)]))
        (.br (.o2 .eq (.o1 (.fld 0) (.var 0)) (.int 8))
         (.ret [(.o2 .eq (.var 1) (.int 2))])
         (.ret [(.bool false)]))))
      (.br (.o2 .eq (.o1 (.fld 0) (.var 0)) (.int 4))
       (.br (.o2 .eq (.o1 (.fld 0) (.var 0)) (.int 4))
        (.ret [(.o2 .ne (.var 1) (.int 2))])
        (.br (.o2 .eq (.o1 (.fld 0) (.var 0)) (.int 7))
         (.br (.o2 .eq (.o1 (.fld 0) (.var 0)) (.int 7))
          (.ret [(.o2 .eq (.var 1) (.int 2))])
          (.ret [(.bool false)]))
         (.br (.o2 .eq (.o1 (.fld 0) (.var 0)) (.int 8))
          (.ret [(.o2 .eq (.var 1) (.int 2))])
          (.ret [(.bool false)]))))
       (.br (.o2 .eq (.o1 (.fld 0) (.var 0)) (.int 5))
        (.ret [(.o2 .ne (.var 1) (.int 2))])
        (.br (.o2 .eq (.o1 (.fld 0) (.var 0)) (.int 7))
         (.br (.o2 .eq (.o1 (.fld 0) (.var 0)) (.int 7))
          (.ret [(.o2 .eq (.var 1) (.int 2))])
          (.ret [(.bool false)]))
         (.br (.o2 .eq (.o1 (.fld 0) (.var 0)) (.int 8))
          (.ret [(.o2 .eq (.var 1) (.int 2))])
          (.ret [(.bool false)])))))))
    (.br (.o2 .eq (.o1 (.fld 0) (.var 0)) (.int 6))
     (.ret [(.o2 .eq (.var 1) (.int 1))])
     (.br (.o2 .eq (.o1 (.fld 0) (.var 0)) (.int 3))
      (.br (.o2 .eq (.o1 (.fld 0) (.var 0)) (.int 3))
       (.ret [(.o2 .ne (.var 1) (.int 2))])
       (.br (.o2 .eq (.o1 (.fld 0) (.var 0)) (.int 7))
        (.br (.o2 .eq (.o1 (.fld 0) (.var 0)) (.int 7))
         (.ret [(.o2 .eq (.var 1) (.int 2))])
         (.ret [(.bool false)]))
        (.br (.o2 .eq (.o1 (.fld 0) (.var 0)) (.int 8))
         (.ret [(.o2 .eq (.var 1) (.int 2))])
         (.ret [(.bool false)]))))
      (.br (.o2 .eq (.o1 (.fld 0) (.var 0)) (.int 4))
       (.br (.o2 .eq (.o1 (.fld 0) (.var 0)) (.int 4))
        (.ret [(.o2 .ne (.var 1) (.int 2))])
        (.br (.o2 .eq (.o1 (.fld 0) (.var 0)) (.int 7))
         (.br (.o2 .eq (.o1 (.fld 0) (.var 0)) (.int 7))
          (.ret [(.o2 .eq (.var 1) (.int 2))])
          (.ret [(.bool false)]))
         (.br (.o2 .eq (.o1 (.fld 0) (.var 0)) (.int 8))
          (.ret [(.o2 .eq (.var 1) (.int 2))])
          (.ret [(.bool false)]))))
       (.br (.o2 .eq (.o1 (.fld 0) (.var 0)) (.int 5))
        (.ret [(.o2 .ne (.var 1) (.int 2))])
        (.br (.o2 .eq (.o1 (.fld 0) (.var 0)) (.int 7))
         (.br (.o2 .eq (.o1 (.fld 0) (.var 0)) (.int 7))
          (.ret [(.o2 .eq (.var 1) (.int 2))])
          (.ret [(.bool false)]))
         (.br (.o2 .eq (.o1 (.fld 0) (.var 0)) (.int 8))
          (.ret [(.o2 .eq (.var 1) (.int 2))])
          (.ret [(.bool false)]))))))))))))
theorem sig_79 : sigOf Tryz.prog md 79 [] = some ([.st [(.int .i64), (.int .i64), (.int .i64), (.int .i64), (.int .i64), .bool, (.sl [(.int .i64), (.int .i64), (.int .i64), (.int .i64), (.int .i64), (.int .i64), .bool])], .sc (.int .i64)], [.sc .bool], tree_79) := by kernel_rfl
/- impl.EffectOk -/
def tree_50 : T :=
(.br (.o2 .eq (.o1 (.fld 13) (.var 0)) (.int 2))
 (.call [] (.fn 73) [.sc (.int .i64) (.o1 (.fld 0) (.var 0))] [.sc .bool]
 (.call [((.var 1), true)] (.fn 74) [.sc (.int .i64) (.o1 (.fld 1) (.var 0))] [.sc .bool]
 (.call [((.o2 .band (.var 1) (.var 2)), true)] (.fn 75) [.sc (.int .i64) (.o1 (.fld 2) (.var 0)), .sc (.int .i64) (.int 0), .sc (.int .i64) (.int 99)] [.sc .bool]
 (.call [((.o2 .band (.o2 .band (.var 1) (.var 2)) (.var 3)), true)] (.fn 75) [.sc (.int .i64) (.o1 (.fld 3) (.var 0)), .sc (.int .i64) (.int 0), .sc (.int .i64) (.int 4)] [.sc .bool]
 (.call [((.o2 .band (.o2 .band (.o2 .band (.o2 .band (.var 1) (.var 2)) (.var 3)) (.var 4)) (.o2 .bor (.o2 .ne (.o1 (.fld 3) (.var 0)) (.int 0)) (.o2 .ne (.o1 (.fld 2) (.var 0)) (.int 0)))), true)] (.fn 76) [.st [(.int .i64), (.int .i64), (.int .i64), (.int .i64), (.int .i64), (.int .i64), (.int .i64)] (.o2 .cons (.o1 (.fld 4) (.var 0)) (.o2 .cons (.o1 (.fld 5) (.var 0)) (.o2 .cons (.o1 (.fld 6) (.var 0)) (.o2 .cons (.o1 (.fld 7) (.var 0)) (.o2 .cons (.o1 (.fld 8) (.var 0)) (.o2 .cons (.o1 (.fld 9) (.var 0)) (.o2 .cons (.o1 (.fld 10) (.var 0)) .nil)))))))] [.sc .bool]
 (.call [((.o2 .band (.o2 .band (.o2 .band (.o2 .band (.o2 .band (.var 1) (.var 2)) (.var 3)) (.var 4)) (.o2 .bor (.o2 .ne (.o1 (.fld 3) (.var 0)) (.int 0)) (.o2 .ne (.o1 (.fld 2) (.var 0)) (.int 0)))) (.var 5)), true)] (.fn 77) [.st [(.int .i64), (.int .i64)] (.o2 .cons (.o1 (.fld 11) (.var 0)) (.o2 .cons (.o1 (.fld 12) (.var 0)) .nil))] [.sc .bool]
 (.call [((.o2 .band (.o2 .band (.o2 .band (.o2 .band (.o2 .band (.o2 .band (.var 1) (.var 2)) (.var 3)) (.var 4)) (.o2 .bor (.o2 .ne (.o1 (.fld 3) (.var 0)) (.int 0)) (.o2 .ne (.o1 (.fld 2) (.var 0)) (.int 0)))) (.var 5)) (.var 6)), true)] (.fn 78) [.st [(.int .i64), (.int .i64), (.int .i64), (.int .i64), (.int .i64), .bool, (.sl [(.int .i64), (.int .i64), (.int .i64), (.int .i64), (.int .i64), (.int .i64), .bool])] (.o2 .cons (.o1 (.fld 13) (.var 0)) (.o2 .cons (.o1 (.fld 14) (.var 0)) (.o2 .cons (.o1 (.fld 15) (.var 0)) (.o2 .cons (.o1 (.fld 16) (.var 0)) (.o2 .cons (.o1 (.fld 17) (.var 0)) (.o2 .cons (.o1 (.fld 18) (.var 0)) (.o2 .cons (.o1 (.fld 19) (.var 0)) .nil)))))))] [.sc .bool]
 (.call [((.o2 .band (.o2 .band (.o2 .band (.o2 .band (.o2 .band (.o2 .band (.o2 .band (.var 1) (.var 2)) (.var 3)) (.var 4)) (.o2 .bor (.o2 .ne (.o1 (.fld 3) (.var 0)) (.int 0)) (.o2 .ne (.o1 (.fld 2) (.var 0)) (.int 0)))) (.var 5)) (.var 6)) (.var 7)), true)] (.fn 79) [.st [(.int .i64), (.int .i64), (.int .i64), (.int .i64), (.int .i64), .bool, (.sl [(.int .i64), (.int .i64), (.int .i64), (.int .i64), (.int .i64), (.int .i64), .bool])] (.o2 .cons (.o1 (.fld 13) (.var 0)) (.o2 .cons (.o1 (.fld 14) (.var 0)) (.o2 .cons (.o1 (.fld 15) (.var 0)) (.o2 .cons (.o1 (.fld 16) (.var 0)) (.o2 .cons (.o1 (.fld 17) (.var 0)) (.o2 .cons (.o1 (.fld 18) (.var 0)) (.o2 .cons (.o1 (.fld 19) (.var 0)) .nil))))))), .sc (.int .i64) (.o1 (.fld 4) (.var 0))] [.sc .bool]
 (.call [((.o2 .band (.o2 .band (.o2 .band (.o2 .band (.o2 .band (.o2 .band (.o2 .band (.o2 .band (.var 1) (.var 2)) (.var 3)) (.var 4)) (.o2 .bor (.o2 .ne (.o1 (.fld 3) (.var 0)) (.int 0)) (.o2 .ne (.o1 (.fld 2) (.var 0)) (.int 0)))) (.var 5)) (.var 6)) (.var 7)) (.var 8)), true)] (.fn 75) [.sc (.int .i64) (.o1 (.fld 20) (.var 0)), .sc (.int .i64) (.int (-1)), .sc (.int .i64) (.int 9999)] [.sc .bool]
 (.call [((.o2 .band (.o2 .band (.o2 .band (.o2 .band (.o2 .band (.o2 .band (.o2 .band (.o2 .band (.o2 .band (.var 1) (.var 2)) (.var 3)) (.var 4)) (.o2 .bor (.o2 .ne (.o1 (.fld 3) (.var 0)) (.int 0)) (.o2 .ne (.o1 (.fld 2) (.var 0)) (.int 0)))) (.var 5)) (.var 6)) (.var 7)) (.var 8)) (.var 9)), true)] (.fn 75) [.sc (.int .i64) (.o1 (.fld 21) (.var 0)), .sc (.int .i64) (.int 0), .sc (.int .i64) (.int 2147483647)] [.sc .bool]
 (.ret [(.o2 .band (.o2 .band (.o2 .band (.o2 .band (.o2 .band (.o2 .band (.o2 .band (.o2 .band (.o2 .band (.o2 .band (.var 1) (.var 2)) (.var 3)) (.var 4)) (.o2 .bor (.o2 .ne (.o1 (.fld 3) (.var 0)) (.int 0)) (.o2 .ne (.o1 (.fld 2) (.var 0)) (.int 0)))) (.var 5)) (.var 6)) (.var 7)) (.var 8)) (.var 9)) (.var 10))])))))))))))
 (.call [] (.fn 73) [.sc (.int .i64) (.o1 (.fld 0) (.var 0))] [.sc .bool]
 (.call [((.var 1), true)] (.fn 74) [.sc (.int .i64) (.o1 (.fld 1) (.var 0))] [.sc .bool]
 (.call [((.o2 .band (.var 1) (.var 2)), true)] (.fn 75) [.sc (.int .i64) (.o1 (.fld 2) (.var 0)), .sc (.int .i64) (.int 0), .sc (.int .i64) (.int 99)] [.sc .bool]
 (.call [((.o2 .band (.o2 .band (.var 1) (.var 2)) (.var 3)), true)] (.fn 75) [.sc (.int .i64) (.o1 (.fld 3) (.var 0)), .sc (.int .i64) (.int 0), .sc (.int .i64) (.int 4)] [.sc .bool]
 (.call [((.o2 .band (.o2 .band (.o2 .band (.o2 .band (.var 1) (.var 2)) (.var 3)) (.var 4)) (.o2 .bor (.o2 .ne (.o1 (.fld 3) (.var 0)) (.int 0)) (.o2 .ne (.o1 (.fld 2) (.var 0)) (.int 0)))), true)] (.fn 76) [.st [(.int .i64), (.int .i64), (.int .i64), (.int .i64), (.int .i64), (.int .i64), (.int .i64)] (.o2 .cons (.o1 (.fld 4) (.var 0)) (.o2 .cons (.o1 (.fld 5) (.var 0)) (.o2 .cons (.o1 (.fld 6) (.var 0)) (.o2 .cons (.o1 (.fld 7) (.var 0)) (.o2 .cons (.o1 (.fld 8) (.var 0)) (.o2 .cons (.o1 (.fld 9) (.var 0)) (.o2 .cons (.o1 (.fld 10) (.var 0)) .nil)))))))] [.sc .bool]
 (.call [((.o2 .band (.o2 .band (.o2 .band (.o2 .band (.o2 .band (.var 1) (.var 2)) (.var 3)) (.var 4)) (.o2 .bor (.o2 .ne (.o1 (.fld 3) (.var 0)) (.int 0)) (.o2 .ne (.o1 (.fld 2) (.var 0)) (.int 0)))) (.var 5)), true)] (.fn 77) [.st [(.int .i64), (.int .i64)] (.o2 .cons (.o1 (.fld 11) (.var 0)) (.o2 .cons (.o1 (.fld 12) (.var 0)) .nil))] [.sc .bool]
 (.call [((.o2 .band (.o2 .band (.o2 .band (.o2 .band (.o2 .band (.o2 .band (.var 1) (.var 2)) (.var 3)) (.var 4)) (.o2 .bor (.o2 .ne (.o1 (.fld 3) (.var 0)) (.int 0)) (.o2 .ne (.o1 (.fld 2) (.var 0)) (.int 0)))) (.var 5)) (.var 6)), true)] (.fn 78) [.st [(.int .i64), (.int .i64), (.int .i64), (.int .i64), (.int .i64), .bool, (.sl [(.int .i64), (.int .i64), (.int .i64), (.int .i64), (.int .i64), (.int .i64), .bool])] (.o2 .cons (.o1 (.fld 13) (.var 0)) (.o2 .cons (.o1 (.fld 14) (.var 0)) (.o2 .cons (.o1 (.fld 15) (.var 0)) (.o2 .cons (.o1 (.fld 16) (.var 0)) (.o2 .cons (.o1 (.fld 17) (.var 0)) (.o2 .cons (.o1 (.fld 18) (.var 0)) (.o2 .cons (.o1 (.fld 19) (.var 0)) .nil)))))))] [.sc .bool]
 (.call [((.o2 .band (.o2 .band (.o2 .band (.o2 .band (.o2 .band (.o2 .band (.o2 .band (.var 1) (.var 2)) (.var 3)) (.var 4)) (.o2 .bor (.o2 .ne (.o1 (.fld 3) (.var 0)) (.int 0)) (.o2 .ne (.o1 (.fld 2) (.var 0)) (.int 0)))) (.var 5)) (.var 6)) (.var 7)), true)] (.fn 79) [.st [(.int .i64), (.int .i64), (.int .i64), (.int .i64), (.int .i64), .bool, (.sl [(.int .i64), (.int .i64), (.int .i64), (.int .i64), (.int .i64), (.int .i64), .bool])] (.o2 .cons (.o1 (.fld 13) (.var 0)) (.o2 .cons (.o1 (.fld 14) (.var 0)) (.o2 .cons (.o1 (.fld 15) (.var 0)) (.o2 .cons (.o1 (.fld 16) (.var 0)) (.o2 .cons (.o1 (.fld 17) (.var 0)) (.o2 .cons (.o1 (.fld 18) (.var 0)) (.o2 .cons (.o1 (.fld 19) (.var 0)) .nil))))))), .sc (.int .i64) (.o1 (.fld 4) (.var 0))] [.sc .bool]
 (.call [((.o2 .band (.o2 .band (.o2 .band (.o2 .band (.o2 .band (.o2 .band (.o2 .band (.o2 .band (.var 1) (.var 2)) (.var 3)) (.var 4)) (.o2 .bor (.o2 .ne (.o1 (.fld 3) (.var 0)) (.int 0)) (.o2 .ne (.o1 (.fld 2) (.var 0)) (.int 0)))) (.var 5)) (.var 6)) (.var 7)) (.var 8)), true)] (.fn 75) [.sc (.int .i64) (.o1 (.fld 20) (.var 0)), .sc (.int .i64) (.int (-1)), .sc (.int .i64) (.int 9999)] [.sc .bool]
 (.call [((.o2 .band (.o2 .band (.o2 .band (.o2 .band (.o2 .band (.o2 .band (.o2 .band (.o2 .band (.o2 .band (.var 1) (.var 2)) (.var 3)) (.var 4)) (.o2 .bor (.o2 .ne (.o1 (.fld 3) (.var 0)) (.int 0)) (.o2 .ne (.o1 (.fld 2) (.var 0)) (.int 0)))) (.var 5)) (.var 6)) (.var 7)) (.var 8)) (.var 9)), true)] (.fn 75) [.sc (.int .i64) (.o1 (.fld 21) (.var 0)), .sc (.int .i64) (.int (-1)), .sc (.int .i64) (.int 2147483647)] [.sc .bool]
 (.ret [(.o2 .band (.o2 .band (.o2 .band (.o2 .band (.o2 .band (.o2 .band (.o2 .band (.o2 .band (.o2 .band (.o2 .band (.var 1) (.var 2)) (.var 3)) (.var 4)) (.o2 .bor (.o2 .ne (.o1 (.fld 3) (.var 0)) (.int 0)) (.o2 .ne (.o1 (.fld 2) (.var 0)) (.int 0)))) (.var 5)) (.var 6)) (.var 7)) (.var 8)) (.var 9)) (.var 10))]))))))))))))
theorem sig_50 : sigOf Tryz.prog md 50 [] = some ([.st [(.int .i64), (.int .i64), (.int .i64), (.int .i64), (.int .i64), (.int .i64), (.int .i64), (.int .i64), (.int .i64), (.int .i64), (.int .i64), (.int .i64), (.int .i64), (.int .i64), (.int .i64), (.int .i64), (.int .i64), (.int .i64), .bool, (.sl [(.int .i64), (.int .i64), (.int .i64), (.int .i64), (.int .i64), (.int .i64), .bool]), (.int .i64), (.int .i64)]], [.sc .bool], tree_50) := by kernel_rfl
/- impl.Lives -/
def tree_51 : T :=
(.ret [(.o2 .band (.o2 .ne (.o1 (.fld 21) (.var 0)) (.int 0)) (.o2 .bor (.o2 .eq (.o1 (.fld 20) (.var 0)) (.int (-1))) (.o2 .ge (.o1 (.fld 20) (.var 0)) (.var 1))))])
theorem sig_51 : sigOf Tryz.prog md 51 [] = some ([.st [(.int .i64), (.int .i64), (.int .i64), (.int .i64), (.int .i64), (.int .i64), (.int .i64), (.int .i64), (.int .i64), (.int .i64), (.int .i64), (.int .i64), (.int .i64), (.int .i64), (.int .i64), (.int .i64), (.int .i64), (.int .i64), .bool, (.sl [(.int .i64), (.int .i64), (.int .i64), (.int .i64), (.int .i64), (.int .i64), .bool]), (.int .i64), (.int .i64)], .sc (.int .i64)], [.sc .bool], tree_51) := by kernel_rfl
/- impl.Near -/
def tree_52 : T :=
(.ret [(.o2 .bor (.o2 .bor (.o2 .ne (.o1 (.fld 3) (.var 0)) (.int 0)) (.o2 .eq (.o1 (.fld 2) (.var 0)) (.o1 (.fld 1) (.var 1)))) (.o2 .eq (.o1 (.fld 2) (.var 0)) (.o1 (.fld 2) (.var 1))))])
theorem sig_52 : sigOf Tryz.prog md 52 [] = some ([.st [(.int .i64), (.int .i64), (.int .i64), (.int .i64), (.int .i64), (.int .i64), (.int .i64), (.int .i64), (.int .i64), (.int .i64), (.int .i64), (.int .i64), (.int .i64), (.int .i64), (.int .i64), (.int .i64), (.int .i64), (.int .i64), .bool, (.sl [(.int .i64), (.int .i64), (.int .i64), (.int .i64), (.int .i64), (.int .i64), .bool]), (.int .i64), (.int .i64)], .st [(.int .i64), (.int .i64), (.int .i64), (.int .i64), (.int .i64), (.int .i64), .bool]], [.sc .bool], tree_52) := by kernel_rfl
/- impl.isSide -/
def tree_80 : T :=
(.know (.o1 (.fld 1) (.var 0))
(.call [] (.fn 75) [.sc (.int .i64) (.var 1), .sc (.int .i64) (.int 0), .sc (.int .i64) (.o2 (.sub .i64) (.o1 .len (.o1 (.fld 1) (.var 0))) (.int 1))] [.sc .bool]
(.ret [(.var 2)])))
theorem sig_80 : sigOf Tryz.prog md 80 [] = some ([.st [(.sl [(.int .i64), (.int .i64), (.int .i64), (.int .i64), (.int .i64), (.int .i64), (.int .i64), (.int .i64), (.int .i64), (.int .i64), (.int .i64), .bool, .bool]), (.sl [(.int .i64), (.int .i64), .bool]), (.int .i64), (.int .i64)], .sc (.int .i64)], [.sc .bool], tree_80) := by kernel_rfl
/- impl.OnField -/
def tree_81 : T :=
(.know (.o1 (.fld 0) (.var 0))
(.loop 0 [(.int 0), .nil]
 (.br (.o2 .lt (.var 2) (.o1 .len (.o1 (.fld 0) (.var 0))))
  (.need [] (.o2 .le (.int 0) (.var 2))
  (.need [] (.o2 .lt (.var 2) (.o1 .len (.o1 (.fld 0) (.var 0))))
  (.br (.o2 .band (.o2 .eq (.o1 (.fld 3) (.o2 .idx (.o1 (.fld 0) (.var 0)) (.var 2))) (.int 2)) (.o2 .bor (.o2 .eq (.var 1) (.int (-1))) (.o2 .eq (.o1 (.fld 2) (.o2 .idx (.o1 (.fld 0) (.var 0)) (.var 2))) (.var 1))))
   (.need [] (.o2 (.fits 8) (.o1 .len (.var 3)) (.o1 .len (.o2 .cons (.o2 .cons (.o1 (.fld 0) (.o2 .idx (.o1 (.fld 0) (.var 0)) (.var 2))) .nil) .nil)))
   (.cont 0 [(.o2 (.add .i64) (.var 2) (.int 1)), (.o2 .app (.var 3) (.o2 .cons (.o2 .cons (.o1 (.fld 0) (.o2 .idx (.o1 (.fld 0) (.var 0)) (.var 2))) .nil) .nil))]))
   (.cont 0 [(.o2 (.add .i64) (.var 2) (.int 1)), (.var 3)]))))
  (.ret [(.var 3)]))))
theorem sig_81 : sigOf Tryz.prog md 81 [] = some ([.st [(.sl [(.int .i64), (.int .i64), (.int .i64), (.int .i64), (.int .i64), (.int .i64), (.int .i64), (.int .i64), (.int .i64), (.int .i64), (.int .i64), .bool, .bool]), (.sl [(.int .i64), (.int .i64), .bool]), (.int .i64), (.int .i64)], .sc (.int .i64)], [.sc (.sl [(.int .i64)])], tree_81) := by kernel_rfl
/- impl.BentOf -/
def tree_82 : T :=
(.know (.o1 (.fld 0) (.var 0))
(.loop 0 [(.int 0), (.int 0)]
 (.br (.o2 .lt (.var 3) (.o1 .len (.o1 (.fld 0) (.var 0))))
  (.need [] (.o2 .le (.int 0) (.var 3))
  (.need [] (.o2 .lt (.var 3) (.o1 .len (.o1 (.fld 0) (.var 0))))
  (.br (.o2 .band (.o2 .band (.o2 .eq (.o1 (.fld 3) (.o2 .idx (.o1 (.fld 0) (.var 0)) (.var 3))) (.int 2)) (.o2 .eq (.o1 (.fld 2) (.o2 .idx (.o1 (.fld 0) (.var 0)) (.var 3))) (.var 1))) (.o1 (.fld 12) (.o2 .idx (.o1 (.fld 0) (.var 0)) (.var 3))))
   (.cont 0 [(.o2 (.add .i64) (.var 2) (.int 1)), (.o2 (.add .i64) (.var 3) (.int 1))])
   (.cont 0 [(.var 2), (.o2 (.add .i64) (.var 3) (.int 1))]))))
  (.ret [(.var 2)]))))
theorem sig_82 : sigOf Tryz.prog md 82 [] = some ([.st [(.sl [(.int .i64), (.int .i64), (.int .i64), (.int .i64), (.int .i64), (.int .i64), (.int .i64), (.int .i64), (.int .i64), (.int .i64), (.int .i64), .bool, .bool]), (.sl [(.int .i64), (.int .i64), .bool]), (.int .i64), (.int .i64)], .sc (.int .i64)], [.sc (.int .i64)], tree_82) := by kernel_rfl
/- impl.Holds -/
def tree_53 : T :=
(.call [] (.fn 77) [.st [(.int .i64), (.int .i64)] (.o2 .cons (.o1 (.fld 0) (.var 2)) (.o2 .cons (.o1 (.fld 1) (.var 2)) .nil))] [.sc .bool]
(.call [((.o1 .not (.var 3)), false)] (.fn 80) [.st [(.sl [(.int .i64), (.int .i64), (.int .i64), (.int .i64), (.int .i64), (.int .i64), (.int .i64), (.int .i64), (.int .i64), (.int .i64), (.int .i64), .bool, .bool]), (.sl [(.int .i64), (.int .i64), .bool]), (.int .i64), (.int .i64)] (.o2 .cons (.o1 (.fld 0) (.var 0)) (.o2 .cons (.o1 (.fld 1) (.var 0)) (.o2 .cons (.o1 (.fld 2) (.var 0)) (.o2 .cons (.o1 (.fld 3) (.var 0)) .nil)))), .sc (.int .i64) (.var 1)] [.sc .bool]
(.br (.o2 .bor (.o1 .not (.var 3)) (.o1 .not (.var 4)))
 (.ret [(.bool false)])
 (.br (.o2 .eq (.o1 (.fld 0) (.var 2)) (.int 1))
  (.need [] (.o2 .le (.int 0) (.var 1))
  (.need [] (.o2 .lt (.var 1) (.o1 .len (.o1 (.fld 1) (.var 0))))
  (.ret [(.o2 .le (.o1 (.fld 0) (.o2 .idx (.o1 (.fld 1) (.var 0)) (.var 1))) (.o1 (.fld 1) (.var 2)))])))
  (.br (.o2 .eq (.o1 (.fld 0) (.var 2)) (.int 2))
   (.call [] (.fn 81) [.st [(.sl [(.int .i64), (.int .i64), (.int .i64), (.int .i64), (.int .i64), (.int .i64), (.int .i64), (.int .i64), (.int .i64), (.int .i64), (.int .i64), .bool, .bool]), (.sl [(.int .i64), (.int .i64), .bool]), (.int .i64), (.int .i64)] (.o2 .cons (.o1 (.fld 0) (.var 0)) (.o2 .cons (.o1 (.fld 1) (.var 0)) (.o2 .cons (.o1 (.fld 2) (.var 0)) (.o2 .cons (.o1 (.fld 3) (.var 0)) .nil)))), .sc (.int .i64) (.var 1)] [.sc (.sl [(.int .i64)])]
   (.know (.var 5)
   (.ret [(.o2 .ge (.o1 .len (.var 5)) (.o1 (.fld 1) (.var 2)))])))
   (.br (.o2 .eq (.o1 (.fld 0) (.var 2)) (.int 3))
    (.ret [(.o2 .eq (.o1 (.fld 2) (.var 0)) (.var 1))])
    (.br (.o2 .eq (.o1 (.fld 0) (.var 2)) (.int 4))
     (.call [] (.fn 82) [.st [(.sl [(.int .i64), (.int .i64), (.int .i64), (.int .i64), (.int .i64), (.int .i64), (.int .i64), (.int .i64), (.int .i64), (.int .i64), (.int .i64), .bool, .bool]), (.sl [(.int .i64), (.int .i64), .bool]), (.int .i64), (.int .i64)] (.o2 .cons (.o1 (.fld 0) (.var 0)) (.o2 .cons (.o1 (.fld 1) (.var 0)) (.o2 .cons (.o1 (.fld 2) (.var 0)) (.o2 .cons (.o1 (.fld 3) (.var 0)) .nil)))), .sc (.int .i64) (.var 1)] [.sc (.int .i64)]
     (.ret [(.o2 .ge (.var 5) (.o1 (.fld 1) (.var 2)))]))
     (.ret [(.bool true)]))))))))
theorem sig_53 : sigOf Tryz.prog md 53 [] = some ([.st [(.sl [(.int .i64), (.int .i64), (.int .i64), (.int .i64), (.int .i64), (.int .i64), (.int .i64), (.int .i64), (.int .i64), (.int .i64), (.int .i64), .bool, .bool]), (.sl [(.int .i64), (.int .i64), .bool]), (.int .i64), (.int .i64)], .sc (.int .i64), .st [(.int .i64), (.int .i64)]], [.sc .bool], tree_53) := by kernel_rfl
/- impl.PieceAt$1 -/
def tree_108 : T :=
(.ret [(.o2 .eq (.o1 (.fld 0) (.var 0)) (.o1 (.fld 0) (.var 1)))])
theorem sig_108 : sigOf Tryz.prog md 108 [[(.int .i64)]] = some ([.st [(.int .i64), (.int .i64), (.int .i64), (.int .i64), (.int .i64), (.int .i64), (.int .i64), (.int .i64), (.int .i64), (.int .i64), (.int .i64), .bool, .bool]], [.sc .bool], tree_108) := by kernel_rfl
/- slices.IndexFunc[[]impl.Piece,impl.Piece] -/
def tree_107 : T :=
(.know (.var 0)
(.loop 0 [(.int 0)]
 (.br (.o2 .lt (.var 2) (.o1 .len (.var 0)))
  (.need [] (.o2 .le (.int 0) (.var 2))
  (.need [] (.o2 .lt (.var 2) (.o1 .len (.var 0)))
  (.call [] (.par 1) [.st [(.int .i64), (.int .i64), (.int .i64), (.int .i64), (.int .i64), (.int .i64), (.int .i64), (.int .i64), (.int .i64), (.int .i64), (.int .i64), .bool, .bool] (.o2 .cons (.o1 (.fld 0) (.o2 .idx (.var 0) (.var 2))) (.o2 .cons (.o1 (.fld 1) (.o2 .idx (.var 0) (.var 2))) (.o2 .cons (.o1 (.fld 2) (.o2 .idx (.var 0) (.var 2))) (.o2 .cons (.o1 (.fld 3) (.o2 .idx (.var 0) (.var 2))) (.o2 .cons (.o1 (.fld 4) (.o2 .idx (.var 0) (.var 2))) (.o2 .cons (.o1 (.fld 5) (.o2 .idx (.var 0) (.var 2))) (.o2 .cons (.o1 (.fld 6) (.o2 .idx (.var 0) (.var 2))) (.o2 .cons (.o1 (.fld 7) (.o2 .idx (.var 0) (.var 2))) (.o2 .cons (.o1 (.fld 8) (.o2 .idx (.var 0) (.var 2))) (.o2 .cons (.o1 (.fld 9) (.o2 .idx (.var 0) (.var 2))) (.o2 .cons (.o1 (.fld 10) (.o2 .idx (.var 0) (.var 2))) (.o2 .cons (.o1 (.fld 11) (.o2 .idx (.var 0) (.var 2))) (.o2 .cons (.o1 (.fld 12) (.o2 .idx (.var 0) (.var 2))) .nil)))))))))))))] [.sc .bool]
  (.br (.var 3)
   (.ret [(.var 2)])
   (.cont 0 [(.o2 (.add .i64) (.var 2) (.int 1))])))))
  (.ret [(.int (-1))]))))
theorem sig_107 : sigOf Tryz.prog md 107 [] = some ([.sc (.sl [(.int .i64), (.int .i64), (.int .i64), (.int .i64), (.int .i64), (.int .i64), (.int .i64), (.int .i64), (.int .i64), (.int .i64), (.int .i64), .bool, .bool]), .clo], [.sc (.int .i64)], tree_107) := by kernel_rfl
/- impl.PieceAt -/
def tree_106 : T :=
(.call [] (.fn 107) [.sc (.sl [(.int .i64), (.int .i64), (.int .i64), (.int .i64), (.int .i64), (.int .i64), (.int .i64), (.int .i64), (.int .i64), (.int .i64), (.int .i64), .bool, .bool]) (.o1 (.fld 0) (.var 0)), .clo 108 [([(.int .i64)], (.o2 .cons (.var 1) .nil))]] [.sc (.int .i64)]
(.ret [(.var 2)]))
theorem sig_106 : sigOf Tryz.prog md 106 [] = some ([.st [(.sl [(.int .i64), (.int .i64), (.int .i64), (.int .i64), (.int .i64), (.int .i64), (.int .i64), (.int .i64), (.int .i64), (.int .i64), (.int .i64), .bool, .bool]), (.sl [(.int .i64), (.int .i64), .bool]), (.int .i64), (.int .i64)], .sc (.int .i64)], [.sc (.int .i64)], tree_106) := by kernel_rfl
/- impl.Target -/
def tree_101 : T :=
(.br (.o2 .eq (.o1 (.fld 2) (.var 1)) (.int 0))
 (.call [] (.fn 80) [.st [(.sl [(.int .i64), (.int .i64), (.int .i64), (.int .i64), (.int .i64), (.int .i64), (.int .i64), (.int .i64), (.int .i64), (.int .i64), (.int .i64), .bool, .bool]), (.sl [(.int .i64), (.int .i64), .bool]), (.int .i64), (.int .i64)] (.o2 .cons (.o1 (.fld 0) (.var 0)) (.o2 .cons (.o1 (.fld 1) (.var 0)) (.o2 .cons (.o1 (.fld 2) (.var 0)) (.o2 .cons (.o1 (.fld 3) (.var 0)) .nil)))), .sc (.int .i64) (.o1 (.fld 3) (.var 1))] [.sc .bool]
 (.br (.var 2)
  (.ret [(.o1 (.fld 3) (.var 1))])
  (.ret [(.int (-1))])))
 (.call [] (.fn 106) [.st [(.sl [(.int .i64), (.int .i64), (.int .i64), (.int .i64), (.int .i64), (.int .i64), (.int .i64), (.int .i64), (.int .i64), (.int .i64), (.int .i64), .bool, .bool]), (.sl [(.int .i64), (.int .i64), .bool]), (.int .i64), (.int .i64)] (.o2 .cons (.o1 (.fld 0) (.var 0)) (.o2 .cons (.o1 (.fld 1) (.var 0)) (.o2 .cons (.o1 (.fld 2) (.var 0)) (.o2 .cons (.o1 (.fld 3) (.var 0)) .nil)))), .sc (.int .i64) (.o1 (.fld 2) (.var 1))] [.sc (.int .i64)]
 (.br (.o2 .lt (.var 2) (.int 0))
  (.ret [(.int (-1))])
  (.need [] (.o2 .le (.int 0) (.var 2))
  (.need [] (.o2 .lt (.var 2) (.o1 .len (.o1 (.fld 0) (.var 0))))
  (.ret [(.o1 (.fld 2) (.o2 .idx (.o1 (.fld 0) (.var 0)) (.var 2)))]))))))
theorem sig_101 : sigOf Tryz.prog md 101 [] = some ([.st [(.sl [(.int .i64), (.int .i64), (.int .i64), (.int .i64), (.int .i64), (.int .i64), (.int .i64), (.int .i64), (.int .i64), (.int .i64), (.int .i64), .bool, .bool]), (.sl [(.int .i64), (.int .i64), .bool]), (.int .i64), (.int .i64)], .st [(.int .i64), (.int .i64), (.int .i64), (.int .i64), (.int .i64), (.int .i64), .bool]], [.sc (.int .i64)], tree_101) := by kernel_rfl
/- impl.TargetFits -/
def tree_84 : T :=
(.call [] (.fn 101) [.st [(.sl [(.int .i64), (.int .i64), (.int .i64), (.int .i64), (.int .i64), (.int .i64), (.int .i64), (.int .i64), (.int .i64), (.int .i64), (.int .i64), .bool, .bool]), (.sl [(.int .i64), (.int .i64), .bool]), (.int .i64), (.int .i64)] (.o2 .cons (.o1 (.fld 0) (.var 0)) (.o2 .cons (.o1 (.fld 1) (.var 0)) (.o2 .cons (.o1 (.fld 2) (.var 0)) (.o2 .cons (.o1 (.fld 3) (.var 0)) .nil)))), .st [(.int .i64), (.int .i64), (.int .i64), (.int .i64), (.int .i64), (.int .i64), .bool] (.o2 .cons (.o1 (.fld 0) (.var 3)) (.o2 .cons (.o1 (.fld 1) (.var 3)) (.o2 .cons (.o1 (.fld 2) (.var 3)) (.o2 .cons (.o1 (.fld 3) (.var 3)) (.o2 .cons (.o1 (.fld 4) (.var 3)) (.o2 .cons (.o1 (.fld 5) (.var 3)) (.o2 .cons (.o1 (.fld 6) (.var 3)) .nil)))))))] [.sc (.int .i64)]
(.br (.o2 .bor (.o2 .bor (.o2 .eq (.var 4) (.int (-1))) (.o2 .band (.o2 .eq (.o1 (.fld 1) (.var 2)) (.int 1)) (.o2 .ne (.var 4) (.var 1)))) (.o2 .band (.o2 .eq (.o1 (.fld 1) (.var 2)) (.int 2)) (.o2 .eq (.var 4) (.var 1))))
 (.ret [(.bool false)])
 (.ret [(.o2 .bor (.o2 .eq (.o1 (.fld 4) (.var 2)) (.int 0)) (.o2 .eq (.o1 (.fld 4) (.var 2)) (.o1 (.fld 2) (.var 3))))])))
theorem sig_84 : sigOf Tryz.prog md 84 [] = some ([.st [(.sl [(.int .i64), (.int .i64), (.int .i64), (.int .i64), (.int .i64), (.int .i64), (.int .i64), (.int .i64), (.int .i64), (.int .i64), (.int .i64), .bool, .bool]), (.sl [(.int .i64), (.int .i64), .bool]), (.int .i64), (.int .i64)], .sc (.int .i64), .st [(.int .i64), (.int .i64), (.int .i64), (.int .i64), (.int .i64), (.int .i64), (.int .i64)], .st [(.int .i64), (.int .i64), (.int .i64), (.int .i64), (.int .i64), (.int .i64), .bool]], [.sc .bool], tree_84) := by kernel_rfl
/- impl.Source -/
def tree_102 : T :=
(.call [] (.fn 106) [.st [(.sl [(.int .i64), (.int .i64), (.int .i64), (.int .i64), (.int .i64), (.int .i64), (.int .i64), (.int .i64), (.int .i64), (.int .i64), (.int .i64), .bool, .bool]), (.sl [(.int .i64), (.int .i64), .bool]), (.int .i64), (.int .i64)] (.o2 .cons (.o1 (.fld 0) (.var 0)) (.o2 .cons (.o1 (.fld 1) (.var 0)) (.o2 .cons (.o1 (.fld 2) (.var 0)) (.o2 .cons (.o1 (.fld 3) (.var 0)) .nil)))), .sc (.int .i64) (.o1 (.fld 1) (.var 1))] [.sc (.int .i64)]
(.br (.o2 .bor (.o2 .ne (.o1 (.fld 0) (.var 1)) (.int 1)) (.o2 .lt (.var 2) (.int 0)))
 (.ret [(.o2 .cons (.int 0) (.o2 .cons (.int 0) (.o2 .cons (.int 0) (.o2 .cons (.int 0) (.o2 .cons (.int 0) (.o2 .cons (.int 0) (.o2 .cons (.int 0) (.o2 .cons (.int 0) (.o2 .cons (.int 0) (.o2 .cons (.int 0) (.o2 .cons (.int 0) (.o2 .cons (.bool false) (.o2 .cons (.bool false) .nil)))))))))))))])
 (.need [] (.o2 .le (.int 0) (.var 2))
 (.need [] (.o2 .lt (.var 2) (.o1 .len (.o1 (.fld 0) (.var 0))))
 (.ret [(.o2 .cons (.o1 (.fld 0) (.o2 .idx (.o1 (.fld 0) (.var 0)) (.var 2))) (.o2 .cons (.o1 (.fld 1) (.o2 .idx (.o1 (.fld 0) (.var 0)) (.var 2))) (.o2 .cons (.o1 (.fld 2) (.o2 .idx (.o1 (.fld 0) (.var 0)) (.var 2))) (.o2 .cons (.o1 (.fld 3) (.o2 .idx (.o1 (.fld 0) (.var 0)) (.var 2))) (.o2 .cons (.o1 (.fld 4) (.o2 .idx (.o1 (.fld 0) (.var 0)) (.var 2))) (.o2 .cons (.o1 (.fld 5) (.o2 .idx (.o1 (.fld 0) (.var 0)) (.var 2))) (.o2 .cons (.o1 (.fld 6) (.o2 .idx (.o1 (.fld 0) (.var 0)) (.var 2))) (.o2 .cons (.o1 (.fld 7) (.o2 .idx (.o1 (.fld 0) (.var 0)) (.var 2))) (.o2 .cons (.o1 (.fld 8) (.o2 .idx (.o1 (.fld 0) (.var 0)) (.var 2))) (.o2 .cons (.o1 (.fld 9) (.o2 .idx (.o1 (.fld 0) (.var 0)) (.var 2))) (.o2 .cons (.o1 (.fld 10) (.o2 .idx (.o1 (.fld 0) (.var 0)) (.var 2))) (.o2 .cons (.o1 (.fld 11) (.o2 .idx (.o1 (.fld 0) (.var 0)) (.var 2))) (.o2 .cons (.o1 (.fld 12) (.o2 .idx (.o1 (.fld 0) (.var 0)) (.var 2))) .nil)))))))))))))])))))
theorem sig_102 : sigOf Tryz.prog md 102 [] = some ([.st [(.sl [(.int .i64), (.int .i64), (.int .i64), (.int .i64), (.int .i64), (.int .i64), (.int .i64), (.int .i64), (.int .i64), (.int .i64), (.int .i64), .bool, .bool]), (.sl [(.int .i64), (.int .i64), .bool]), (.int .i64), (.int .i64)], .st [(.int .i64), (.int .i64), (.int .i64), (.int .i64), (.int .i64), (.int .i64), .bool]], [.st [(.int .i64), (.int .i64), (.int .i64), (.int .i64), (.int .i64), (.int .i64), (.int .i64), (.int .i64), (.int .i64), (.int .i64), (.int .i64), .bool, .bool]], tree_102) := by kernel_rfl
/- impl.SourceFits -/
def tree_85 : T :=
(.call [((.o2 .bor (.o2 .eq (.o1 (.fld 2) (.var 1)) (.int 0)) (.o2 .eq (.o1 (.fld 2) (.var 1)) (.o1 (.fld 1) (.var 2)))), true)] (.fn 102) [.st [(.sl [(.int .i64), (.int .i64), (.int .i64), (.int .i64), (.int .i64), (.int .i64), (.int .i64), (.int .i64), (.int .i64), (.int .i64), (.int .i64), .bool, .bool]), (.sl [(.int .i64), (.int .i64), .bool]), (.int .i64), (.int .i64)] (.o2 .cons (.o1 (.fld 0) (.var 0)) (.o2 .cons (.o1 (.fld 1) (.var 0)) (.o2 .cons (.o1 (.fld 2) (.var 0)) (.o2 .cons (.o1 (.fld 3) (.var 0)) .nil)))), .st [(.int .i64), (.int .i64), (.int .i64), (.int .i64), (.int .i64), (.int .i64), .bool] (.o2 .cons (.o1 (.fld 0) (.var 2)) (.o2 .cons (.o1 (.fld 1) (.var 2)) (.o2 .cons (.o1 (.fld 2) (.var 2)) (.o2 .cons (.o1 (.fld 3) (.var 2)) (.o2 .cons (.o1 (.fld 4) (.var 2)) (.o2 .cons (.o1 (.fld 5) (.var 2)) (.o2 .cons (.o1 (.fld 6) (.var 2)) .nil)))))))] [.st [(.int .i64), (.int .i64), (.int .i64), (.int .i64), (.int .i64), (.int .i64), (.int .i64), (.int .i64), (.int .i64), (.int .i64), (.int .i64), .bool, .bool]]
(.ret [(.o2 .band (.o2 .bor (.o2 .eq (.o1 (.fld 2) (.var 1)) (.int 0)) (.o2 .eq (.o1 (.fld 2) (.var 1)) (.o1 (.fld 1) (.var 2)))) (.o2 .eq (.o2 (.and .i64) (.o1 (.fld 7) (.var 3)) (.o1 (.fld 3) (.var 1))) (.o1 (.fld 3) (.var 1))))]))
theorem sig_85 : sigOf Tryz.prog md 85 [] = some ([.st [(.sl [(.int .i64), (.int .i64), (.int .i64), (.int .i64), (.int .i64), (.int .i64), (.int .i64), (.int .i64), (.int .i64), (.int .i64), (.int .i64), .bool, .bool]), (.sl [(.int .i64), (.int .i64), .bool]), (.int .i64), (.int .i64)], .st [(.int .i64), (.int .i64), (.int .i64), (.int .i64), (.int .i64), (.int .i64), (.int .i64)], .st [(.int .i64), (.int .i64), (.int .i64), (.int .i64), (.int .i64), (.int .i64), .bool]], [.sc .bool], tree_85) := by kernel_rfl
/- impl.PatFits -/
def tree_54 : T :=
(.call [] (.fn 76) [.st [(.int .i64), (.int .i64), (.int .i64), (.int .i64), (.int .i64), (.int .i64), (.int .i64)] (.o2 .cons (.o1 (.fld 0) (.var 2)) (.o2 .cons (.o1 (.fld 1) (.var 2)) (.o2 .cons (.o1 (.fld 2) (.var 2)) (.o2 .cons (.o1 (.fld 3) (.var 2)) (.o2 .cons (.o1 (.fld 4) (.var 2)) (.o2 .cons (.o1 (.fld 5) (.var 2)) (.o2 .cons (.o1 (.fld 6) (.var 2)) .nil)))))))] [.sc .bool]
(.call [((.var 4), true)] (.fn 83) [.st [(.int .i64), (.int .i64), (.int .i64), (.int .i64), (.int .i64), (.int .i64), .bool] (.o2 .cons (.o1 (.fld 0) (.var 3)) (.o2 .cons (.o1 (.fld 1) (.var 3)) (.o2 .cons (.o1 (.fld 2) (.var 3)) (.o2 .cons (.o1 (.fld 3) (.var 3)) (.o2 .cons (.o1 (.fld 4) (.var 3)) (.o2 .cons (.o1 (.fld 5) (.var 3)) (.o2 .cons (.o1 (.fld 6) (.var 3)) .nil)))))))] [.sc .bool]
(.call [((.o2 .band (.o2 .band (.var 4) (.var 5)) (.o2 .eq (.o1 (.fld 0) (.var 2)) (.o1 (.fld 0) (.var 3)))), true)] (.fn 84) [.st [(.sl [(.int .i64), (.int .i64), (.int .i64), (.int .i64), (.int .i64), (.int .i64), (.int .i64), (.int .i64), (.int .i64), (.int .i64), (.int .i64), .bool, .bool]), (.sl [(.int .i64), (.int .i64), .bool]), (.int .i64), (.int .i64)] (.o2 .cons (.o1 (.fld 0) (.var 0)) (.o2 .cons (.o1 (.fld 1) (.var 0)) (.o2 .cons (.o1 (.fld 2) (.var 0)) (.o2 .cons (.o1 (.fld 3) (.var 0)) .nil)))), .sc (.int .i64) (.var 1), .st [(.int .i64), (.int .i64), (.int .i64), (.int .i64), (.int .i64), (.int .i64), (.int .i64)] (.o2 .cons (.o1 (.fld 0) (.var 2)) (.o2 .cons (.o1 (.fld 1) (.var 2)) (.o2 .cons (.o1 (.fld 2) (.var 2)) (.o2 .cons (.o1 (.fld 3) (.var 2)) (.o2 .cons (.o1 (.fld 4) (.var 2)) (.o2 .cons (.o1 (.fld 5) (.var 2)) (.o2 .cons (.o1 (.fld 6) (.var 2)) .nil))))))), .st [(.int .i64), (.int .i64), (.int .i64), (.int .i64), (.int .i64), (.int .i64), .bool] (.o2 .cons (.o1 (.fld 0) (.var 3)) (.o2 .cons (.o1 (.fld 1) (.var 3)) (.o2 .cons (.o1 (.fld 2) (.var 3)) (.o2 .cons (.o1 (.fld 3) (.var 3)) (.o2 .cons (.o1 (.fld 4) (.var 3)) (.o2 .cons (.o1 (.fld 5) (.var 3)) (.o2 .cons (.o1 (.fld 6) (.var 3)) .nil)))))))] [.sc .bool]
(.call [((.o2 .band (.o2 .band (.o2 .band (.var 4) (.var 5)) (.o2 .eq (.o1 (.fld 0) (.var 2)) (.o1 (.fld 0) (.var 3)))) (.var 6)), true)] (.fn 85) [.st [(.sl [(.int .i64), (.int .i64), (.int .i64), (.int .i64), (.int .i64), (.int .i64), (.int .i64), (.int .i64), (.int .i64), (.int .i64), (.int .i64), .bool, .bool]), (.sl [(.int .i64), (.int .i64), .bool]), (.int .i64), (.int .i64)] (.o2 .cons (.o1 (.fld 0) (.var 0)) (.o2 .cons (.o1 (.fld 1) (.var 0)) (.o2 .cons (.o1 (.fld 2) (.var 0)) (.o2 .cons (.o1 (.fld 3) (.var 0)) .nil)))), .st [(.int .i64), (.int .i64), (.int .i64), (.int .i64), (.int .i64), (.int .i64), (.int .i64)] (.o2 .cons (.o1 (.fld 0) (.var 2)) (.o2 .cons (.o1 (.fld 1) (.var 2)) (.o2 .cons (.o1 (.fld 2) (.var 2)) (.o2 .cons (.o1 (.fld 3) (.var 2)) (.o2 .cons (.o1 (.fld 4) (.var 2)) (.o2 .cons (.o1 (.fld 5) (.var 2)) (.o2 .cons (.o1 (.fld 6) (.var 2)) .nil))))))), .st [(.int .i64), (.int .i64), (.int .i64), (.int .i64), (.int .i64), (.int .i64), .bool] (.o2 .cons (.o1 (.fld 0) (.var 3)) (.o2 .cons (.o1 (.fld 1) (.var 3)) (.o2 .cons (.o1 (.fld 2) (.var 3)) (.o2 .cons (.o1 (.fld 3) (.var 3)) (.o2 .cons (.o1 (.fld 4) (.var 3)) (.o2 .cons (.o1 (.fld 5) (.var 3)) (.o2 .cons (.o1 (.fld 6) (.var 3)) .nil)))))))] [.sc .bool]
(.ret [(.o2 .band (.o2 .band (.o2 .band (.o2 .band (.o2 .band (.o2 .band (.var 4) (.var 5)) (.o2 .eq (.o1 (.fld 0) (.var 2)) (.o1 (.fld 0) (.var 3)))) (.var 6)) (.var 7)) (.o2 .ge (.o1 (.fld 4) (.var 3)) (.o1 (.fld 5) (.var 2)))) (.o2 .bor (.o2 .eq (.o1 (.fld 6) (.var 2)) (.int 0)) (.o2 .eq (.o1 (.fld 6) (.var 2)) (.o1 (.fld 5) (.var 3)))))])))))
theorem sig_54 : sigOf Tryz.prog md 54 [] = some ([.st [(.sl [(.int .i64), (.int .i64), (.int .i64), (.int .i64), (.int .i64), (.int .i64), (.int .i64), (.int .i64), (.int .i64), (.int .i64), (.int .i64), .bool, .bool]), (.sl [(.int .i64), (.int .i64), .bool]), (.int .i64), (.int .i64)], .sc (.int .i64), .st [(.int .i64), (.int .i64), (.int .i64), (.int .i64), (.int .i64), (.int .i64), (.int .i64)], .st [(.int .i64), (.int .i64), (.int .i64), (.int .i64), (.int .i64), (.int .i64), .bool]], [.sc .bool], tree_54) := by kernel_rfl
/- impl.Fits -/
def tree_31 : T :=
(.call [] (.fn 50) [.st [(.int .i64), (.int .i64), (.int .i64), (.int .i64), (.int .i64), (.int .i64), (.int .i64), (.int .i64), (.int .i64), (.int .i64), (.int .i64), (.int .i64), (.int .i64), (.int .i64), (.int .i64), (.int .i64), (.int .i64), (.int .i64), .bool, (.sl [(.int .i64), (.int .i64), (.int .i64), (.int .i64), (.int .i64), (.int .i64), .bool]), (.int .i64), (.int .i64)] (.o2 .cons (.o1 (.fld 0) (.var 1)) (.o2 .cons (.o1 (.fld 1) (.var 1)) (.o2 .cons (.o1 (.fld 2) (.var 1)) (.o2 .cons (.o1 (.fld 3) (.var 1)) (.o2 .cons (.o1 (.fld 4) (.var 1)) (.o2 .cons (.o1 (.fld 5) (.var 1)) (.o2 .cons (.o1 (.fld 6) (.var 1)) (.o2 .cons (.o1 (.fld 7) (.var 1)) (.o2 .cons (.o1 (.fld 8) (.var 1)) (.o2 .cons (.o1 (.fld 9) (.var 1)) (.o2 .cons (.o1 (.fld 10) (.var 1)) (.o2 .cons (.o1 (.fld 11) (.var 1)) (.o2 .cons (.o1 (.fld 12) (.var 1)) (.o2 .cons (.o1 (.fld 13) (.var 1)) (.o2 .cons (.o1 (.fld 14) (.var 1)) (.o2 .cons (.o1 (.fld 15) (.var 1)) (.o2 .cons (.o1 (.fld 16) (.var 1)) (.o2 .cons (.o1 (.fld 17) (.var 1)) (.o2 .cons (.o1 (.fld 18) (.var 1)) (.o2 .cons (.o1 (.fld 19) (.var 1)) (.o2 .cons (.o1 (.fld 20) (.var 1)) (.o2 .cons (.o1 (.fld 21) (.var 1)) .nil))))))))))))))))))))))] [.sc .bool]
(.call [((.var 3), true)] (.fn 51) [.st [(.int .i64), (.int .i64), (.int .i64), (.int .i64), (.int .i64), (.int .i64), (.int .i64), (.int .i64), (.int .i64), (.int .i64), (.int .i64), (.int .i64), (.int .i64), (.int .i64), (.int .i64), (.int .i64), (.int .i64), (.int .i64), .bool, (.sl [(.int .i64), (.int .i64), (.int .i64), (.int .i64), (.int .i64), (.int .i64), .bool]), (.int .i64), (.int .i64)] (.o2 .cons (.o1 (.fld 0) (.var 1)) (.o2 .cons (.o1 (.fld 1) (.var 1)) (.o2 .cons (.o1 (.fld 2) (.var 1)) (.o2 .cons (.o1 (.fld 3) (.var 1)) (.o2 .cons (.o1 (.fld 4) (.var 1)) (.o2 .cons (.o1 (.fld 5) (.var 1)) (.o2 .cons (.o1 (.fld 6) (.var 1)) (.o2 .cons (.o1 (.fld 7) (.var 1)) (.o2 .cons (.o1 (.fld 8) (.var 1)) (.o2 .cons (.o1 (.fld 9) (.var 1)) (.o2 .cons (.o1 (.fld 10) (.var 1)) (.o2 .cons (.o1 (.fld 11) (.var 1)) (.o2 .cons (.o1 (.fld 12) (.var 1)) (.o2 .cons (.o1 (.fld 13) (.var 1)) (.o2 .cons (.o1 (.fld 14) (.var 1)) (.o2 .cons (.o1 (.fld 15) (.var 1)) (.o2 .cons (.o1 (.fld 16) (.var 1)) (.o2 .cons (.o1 (.fld 17) (.var 1)) (.o2 .cons (.o1 (.fld 18) (.var 1)) (.o2 .cons (.o1 (.fld 19) (.var 1)) (.o2 .cons (.o1 (.fld 20) (.var 1)) (.o2 .cons (.o1 (.fld 21) (.var 1)) .nil)))))))))))))))))))))), .sc (.int .i64) (.o1 (.fld 3) (.var 0))] [.sc .bool]
(.call [((.o2 .band (.var 3) (.var 4)), true)] (.fn 52) [.st [(.int .i64), (.int .i64), (.int .i64), (.int .i64), (.int .i64), (.int .i64), (.int .i64), (.int .i64), (.int .i64), (.int .i64), (.int .i64), (.int .i64), (.int .i64), (.int .i64), (.int .i64), (.int .i64), (.int .i64), (.int .i64), .bool, (.sl [(.int .i64), (.int .i64), (.int .i64), (.int .i64), (.int .i64), (.int .i64), .bool]), (.int .i64), (.int .i64)] (.o2 .cons (.o1 (.fld 0) (.var 1)) (.o2 .cons (.o1 (.fld 1) (.var 1)) (.o2 .cons (.o1 (.fld 2) (.var 1)) (.o2 .cons (.o1 (.fld 3) (.var 1)) (.o2 .cons (.o1 (.fld 4) (.var 1)) (.o2 .cons (.o1 (.fld 5) (.var 1)) (.o2 .cons (.o1 (.fld 6) (.var 1)) (.o2 .cons (.o1 (.fld 7) (.var 1)) (.o2 .cons (.o1 (.fld 8) (.var 1)) (.o2 .cons (.o1 (.fld 9) (.var 1)) (.o2 .cons (.o1 (.fld 10) (.var 1)) (.o2 .cons (.o1 (.fld 11) (.var 1)) (.o2 .cons (.o1 (.fld 12) (.var 1)) (.o2 .cons (.o1 (.fld 13) (.var 1)) (.o2 .cons (.o1 (.fld 14) (.var 1)) (.o2 .cons (.o1 (.fld 15) (.var 1)) (.o2 .cons (.o1 (.fld 16) (.var 1)) (.o2 .cons (.o1 (.fld 17) (.var 1)) (.o2 .cons (.o1 (.fld 18) (.var 1)) (.o2 .cons (.o1 (.fld 19) (.var 1)) (.o2 .cons (.o1 (.fld 20) (.var 1)) (.o2 .cons (.o1 (.fld 21) (.var 1)) .nil)))))))))))))))))))))), .st [(.int .i64), (.int .i64), (.int .i64), (.int .i64), (.int .i64), (.int .i64), .bool] (.o2 .cons (.o1 (.fld 0) (.var 2)) (.o2 .cons (.o1 (.fld 1) (.var 2)) (.o2 .cons (.o1 (.fld 2) (.var 2)) (.o2 .cons (.o1 (.fld 3) (.var 2)) (.o2 .cons (.o1 (.fld 4) (.var 2)) (.o2 .cons (.o1 (.fld 5) (.var 2)) (.o2 .cons (.o1 (.fld 6) (.var 2)) .nil)))))))] [.sc .bool]
(.call [((.o2 .band (.o2 .band (.var 3) (.var 4)) (.var 5)), true)] (.fn 53) [.st [(.sl [(.int .i64), (.int .i64), (.int .i64), (.int .i64), (.int .i64), (.int .i64), (.int .i64), (.int .i64), (.int .i64), (.int .i64), (.int .i64), .bool, .bool]), (.sl [(.int .i64), (.int .i64), .bool]), (.int .i64), (.int .i64)] (.o2 .cons (.o1 (.fld 0) (.var 0)) (.o2 .cons (.o1 (.fld 1) (.var 0)) (.o2 .cons (.o1 (.fld 2) (.var 0)) (.o2 .cons (.o1 (.fld 3) (.var 0)) .nil)))), .sc (.int .i64) (.o1 (.fld 1) (.var 1)), .st [(.int .i64), (.int .i64)] (.o2 .cons (.o1 (.fld 11) (.var 1)) (.o2 .cons (.o1 (.fld 12) (.var 1)) .nil))] [.sc .bool]
(.call [((.o2 .band (.o2 .band (.o2 .band (.var 3) (.var 4)) (.var 5)) (.var 6)), true)] (.fn 54) [.st [(.sl [(.int .i64), (.int .i64), (.int .i64), (.int .i64), (.int .i64), (.int .i64), (.int .i64), (.int .i64), (.int .i64), (.int .i64), (.int .i64), .bool, .bool]), (.sl [(.int .i64), (.int .i64), .bool]), (.int .i64), (.int .i64)] (.o2 .cons (.o1 (.fld 0) (.var 0)) (.o2 .cons (.o1 (.fld 1) (.var 0)) (.o2 .cons (.o1 (.fld 2) (.var 0)) (.o2 .cons (.o1 (.fld 3) (.var 0)) .nil)))), .sc (.int .i64) (.o1 (.fld 1) (.var 1)), .st [(.int .i64), (.int .i64), (.int .i64), (.int .i64), (.int .i64), (.int .i64), (.int .i64)] (.o2 .cons (.o1 (.fld 4) (.var 1)) (.o2 .cons (.o1 (.fld 5) (.var 1)) (.o2 .cons (.o1 (.fld 6) (.var 1)) (.o2 .cons (.o1 (.fld 7) (.var 1)) (.o2 .cons (.o1 (.fld 8) (.var 1)) (.o2 .cons (.o1 (.fld 9) (.var 1)) (.o2 .cons (.o1 (.fld 10) (.var 1)) .nil))))))), .st [(.int .i64), (.int .i64), (.int .i64), (.int .i64), (.int .i64), (.int .i64), .bool] (.o2 .cons (.o1 (.fld 0) (.var 2)) (.o2 .cons (.o1 (.fld 1) (.var 2)) (.o2 .cons (.o1 (.fld 2) (.var 2)) (.o2 .cons (.o1 (.fld 3) (.var 2)) (.o2 .cons (.o1 (.fld 4) (.var 2)) (.o2 .cons (.o1 (.fld 5) (.var 2)) (.o2 .cons (.o1 (.fld 6) (.var 2)) .nil)))))))] [.sc .bool]
(.ret [(.o2 .band (.o2 .band (.o2 .band (.o2 .band (.var 3) (.var 4)) (.var 5)) (.var 6)) (.var 7))]))))))
theorem sig_31 : sigOf Tryz.prog md 31 [] = some ([.st [(.sl [(.int .i64), (.int .i64), (.int .i64), (.int .i64), (.int .i64), (.int .i64), (.int .i64), (.int .i64), (.int .i64), (.int .i64), (.int .i64), .bool, .bool]), (.sl [(.int .i64), (.int .i64), .bool]), (.int .i64), (.int .i64)], .st [(.int .i64), (.int .i64), (.int .i64), (.int .i64), (.int .i64), (.int .i64), (.int .i64), (.int .i64), (.int .i64), (.int .i64), (.int .i64), (.int .i64), (.int .i64), (.int .i64), (.int .i64), (.int .i64), (.int .i64), (.int .i64), .bool, (.sl [(.int .i64), (.int .i64), (.int .i64), (.int .i64), (.int .i64), (.int .i64), .bool]), (.int .i64), (.int .i64)], .st [(.int .i64), (.int .i64), (.int .i64), (.int .i64), (.int .i64), (.int .i64), .bool]], [.sc .bool], tree_31) := by kernel_rfl
/- impl.Options -/
def tree_21 : T :=
(.know (.var 1)
(.loop 0 [(.int 0), (.int 0), .nil]
 (.br (.o2 .lt (.var 5) (.o1 .len (.var 1)))
  (.need [] (.o2 .le (.int 0) (.var 5))
  (.need [] (.o2 .lt (.var 5) (.o1 .len (.var 1)))
  (.call [] (.fn 30) [.sc (.sl [(.int .i64)]) (.var 3), .sc (.int .i64) (.o1 (.fld 0) (.o2 .idx (.var 1) (.var 5)))] [.sc .bool]
  (.call [((.var 7), false)] (.fn 31) [.st [(.sl [(.int .i64), (.int .i64), (.int .i64), (.int .i64), (.int .i64), (.int .i64), (.int .i64), (.int .i64), (.int .i64), (.int .i64), (.int .i64), .bool, .bool]), (.sl [(.int .i64), (.int .i64), .bool]), (.int .i64), (.int .i64)] (.o2 .cons (.o1 (.fld 0) (.var 0)) (.o2 .cons (.o1 (.fld 1) (.var 0)) (.o2 .cons (.o1 (.fld 2) (.var 0)) (.o2 .cons (.o1 (.fld 3) (.var 0)) .nil)))), .st [(.int .i64), (.int .i64), (.int .i64), (.int .i64), (.int .i64), (.int .i64), (.int .i64), (.int .i64), (.int .i64), (.int .i64), (.int .i64), (.int .i64), (.int .i64), (.int .i64), (.int .i64), (.int .i64), (.int .i64), (.int .i64), .bool, (.sl [(.int .i64), (.int .i64), (.int .i64), (.int .i64), (.int .i64), (.int .i64), .bool]), (.int .i64), (.int .i64)] (.o2 .cons (.o1 (.fld 0) (.o2 .idx (.var 1) (.var 5))) (.o2 .cons (.o1 (.fld 1) (.o2 .idx (.var 1) (.var 5))) (.o2 .cons (.o1 (.fld 2) (.o2 .idx (.var 1) (.var 5))) (.o2 .cons (.o1 (.fld 3) (.o2 .idx (.var 1) (.var 5))) (.o2 .cons (.o1 (.fld 4) (.o2 .idx (.var 1) (.var 5))) (.o2 .cons (.o1 (.fld 5) (.o2 .idx (.var 1) (.var 5))) (.o2 .cons (.o1 (.fld 6) (.o2 .idx (.var 1) (.var 5))) (.o2 .cons (.o1 (.fld 7) (.o2 .idx (.var 1) (.var 5))) (.o2 .cons (.o1 (.fld 8) (.o2 .idx (.var 1) (.var 5))) (.o2 .cons (.o1 (.fld 9) (.o2 .idx (.var 1) (.var 5))) (.o2 .cons (.o1 (.fld 10) (.o2 .idx (.var 1) (.var 5))) (.o2 .cons (.o1 (.fld 11) (.o2 .idx (.var 1) (.var 5))) (.o2 .cons (.o1 (.fld 12) (.o2 .idx (.var 1) (.var 5))) (.o2 .cons (.o1 (.fld 13) (.o2 .idx (.var 1) (.var 5))) (.o2 .cons (.o1 (.fld 14) (.o2 .idx (.var 1) (.var 5))) (.o2 .cons (.o1 (.fld 15) (.o2 .idx (.var 1) (.var 5))) (.o2 .cons (.o1 (.fld 16) (.o2 .idx (.var 1) (.var 5))) (.o2 .cons (.o1 (.fld 17) (.o2 .idx (.var 1) (.var 5))) (.o2 .cons (.o1 (.fld 18) (.o2 .idx (.var 1) (.var 5))) (.o2 .cons (.o1 (.fld 19) (.o2 .idx (.var 1) (.var 5))) (.o2 .cons (.o1 (.fld 20) (.o2 .idx (.var 1) (.var 5))) (.o2 .cons (.o1 (.fld 21) (.o2 .idx (.var 1) (.var 5))) .nil)))))))))))))))))))))), .st [(.int .i64), (.int .i64), (.int .i64), (.int .i64), (.int .i64), (.int .i64), .bool] (.o2 .cons (.o1 (.fld 0) (.var 2)) (.o2 .cons (.o1 (.fld 1) (.var 2)) (.o2 .cons (.o1 (.fld 2) (.var 2)) (.o2 .cons (.o1 (.fld 3) (.var 2)) (.o2 .cons (.o1 (.fld 4) (.var 2)) (.o2 .cons (.o1 (.fld 5) (.var 2)) (.o2 .cons (.o1 (.fld 6) (.var 2)) .nil)))))))] [.sc .bool]
  (.br (.o2 .bor (.var 7) (.o1 .not (.var 8)))
   (.cont 0 [(.var 4), (.o2 (.add .i64) (.var 5) (.int 1)), (.var 6)])
   (.know (.var 6)
   (.br (.o2 .bor (.o2 .eq (.o1 .len (.var 6)) (.int 0)) (.o2 .lt (.o1 (.fld 3) (.o2 .idx (.var 1) (.var 5))) (.var 4)))
    (.need [] (.o2 .le (.int 0) (.int 0))
    (.need [] (.o2 .le (.int 0) (.o1 .len (.var 6)))
    (.br (.o2 .eq (.o1 (.fld 3) (.o2 .idx (.var 1) (.var 5))) (.o1 (.fld 3) (.o2 .idx (.var 1) (.var 5))))
     (.need [] (.o2 (.fits 8) (.o1 .len (.o2 .take (.var 6) (.int 0))) (.o1 .len (.o2 .cons (.o2 .cons (.o1 (.fld 0) (.o2 .idx (.var 1) (.var 5))) .nil) .nil)))
     (.cont 0 [(.o1 (.fld 3) (.o2 .idx (.var 1) (.var 5))), (.o2 (.add .i64) (.var 5) (.int 1)), (.o2 .app (.o2 .take (.var 6) (.int 0)) (.o2 .cons (.o2 .cons (.o1 (.fld 0) (.o2 .idx (.var 1) (.var 5))) .nil) .nil))]))
     (.cont 0 [(.o1 (.fld 3) (.o2 .idx (.var 1) (.var 5))), (.o2 (.add .i64) (.var 5) (.int 1)), (.o2 .take (.var 6) (.int 0))]))))
    (.br (.o2 .eq (.o1 (.fld 3) (.o2 .idx (.var 1) (.var 5))) (.var 4))
     (.need [] (.o2 (.fits 8) (.o1 .len (.var 6)) (.o1 .len (.o2 .cons (.o2 .cons (.o1 (.fld 0) (.o2 .idx (.var 1) (.var 5))) .nil) .nil)))
     (.cont 0 [(.var 4), (.o2 (.add .i64) (.var 5) (.int 1)), (.o2 .app (.var 6) (.o2 .cons (.o2 .cons (.o1 (.fld 0) (.o2 .idx (.var 1) (.var 5))) .nil) .nil))]))
     (.cont 0 [(.var 4), (.o2 (.add .i64) (.var 5) (.int 1)), (.var 6)])))))))))
  (.ret [(.var 6)]))))
theorem sig_21 : sigOf Tryz.prog md 21 [] = some ([.st [(.sl [(.int .i64), (.int .i64), (.int .i64), (.int .i64), (.int .i64), (.int .i64), (.int .i64), (.int .i64), (.int .i64), (.int .i64), (.int .i64), .bool, .bool]), (.sl [(.int .i64), (.int .i64), .bool]), (.int .i64), (.int .i64)], .sc (.sl [(.int .i64), (.int .i64), (.int .i64), (.int .i64), (.int .i64), (.int .i64), (.int .i64), (.int .i64), (.int .i64), (.int .i64), (.int .i64), (.int .i64), (.int .i64), (.int .i64), (.int .i64), (.int .i64), (.int .i64), (.int .i64), .bool, (.sl [(.int .i64), (.int .i64), (.int .i64), (.int .i64), (.int .i64), (.int .i64), .bool]), (.int .i64), (.int .i64)]), .st [(.int .i64), (.int .i64), (.int .i64), (.int .i64), (.int .i64), (.int .i64), .bool], .sc (.sl [(.int .i64)])], [.sc (.sl [(.int .i64)])], tree_21) := by kernel_rfl
/- laws.FnExactOptions -/
def tree_4 : T :=
(.know (.var 3)
(.br (.o2 .gt (.o1 .len (.var 3)) (.int 1048576))
 (.ret [(.bool true)])
 (.call [] (.fn 5) [.st [(.sl [(.int .i64), (.int .i64), (.int .i64), (.int .i64), (.int .i64), (.int .i64), (.int .i64), (.int .i64), (.int .i64), (.int .i64), (.int .i64), .bool, .bool]), (.sl [(.int .i64), (.int .i64), .bool]), (.int .i64), (.int .i64)] (.o2 .cons (.o1 (.fld 0) (.var 0)) (.o2 .cons (.o1 (.fld 1) (.var 0)) (.o2 .cons (.o1 (.fld 2) (.var 0)) (.o2 .cons (.o1 (.fld 3) (.var 0)) .nil)))), .sc (.int .i64) (.int 1048576)] [.sc (.int .i64)]
 (.br (.o2 .lt (.var 4) (.int 0))
  (.ret [(.bool true)])
  (.call [] (.fn 6) [.sc (.sl [(.int .i64), (.int .i64), (.int .i64), (.int .i64), (.int .i64), (.int .i64), (.int .i64), (.int .i64), (.int .i64), (.int .i64), (.int .i64), (.int .i64), (.int .i64), (.int .i64), (.int .i64), (.int .i64), (.int .i64), (.int .i64), .bool, (.sl [(.int .i64), (.int .i64), (.int .i64), (.int .i64), (.int .i64), (.int .i64), .bool]), (.int .i64), (.int .i64)]) (.var 1), .sc (.int .i64) (.var 4)] [.sc (.int .i64)]
  (.br (.o2 .lt (.var 5) (.int 0))
   (.ret [(.bool true)])
   (.call [] (.fn 8) [.st [(.sl [(.int .i64), (.int .i64), (.int .i64), (.int .i64), (.int .i64), (.int .i64), (.int .i64), (.int .i64), (.int .i64), (.int .i64), (.int .i64), .bool, .bool]), (.sl [(.int .i64), (.int .i64), .bool]), (.int .i64), (.int .i64)] (.o2 .cons (.o1 (.fld 0) (.var 0)) (.o2 .cons (.o1 (.fld 1) (.var 0)) (.o2 .cons (.o1 (.fld 2) (.var 0)) (.o2 .cons (.o1 (.fld 3) (.var 0)) .nil))))] [.st [(.sl [(.int .i64), (.int .i64), (.int .i64), (.int .i64), (.int .i64), (.int .i64), (.int .i64), (.int .i64), (.int .i64), (.int .i64), (.int .i64), .bool, .bool]), (.sl [(.int .i64), (.int .i64), .bool]), (.int .i64), (.int .i64)]]
   (.call [] (.fn 9) [.sc (.sl [(.int .i64), (.int .i64), (.int .i64), (.int .i64), (.int .i64), (.int .i64), (.int .i64), (.int .i64), (.int .i64), (.int .i64), (.int .i64), (.int .i64), (.int .i64), (.int .i64), (.int .i64), (.int .i64), (.int .i64), (.int .i64), .bool, (.sl [(.int .i64), (.int .i64), (.int .i64), (.int .i64), (.int .i64), (.int .i64), .bool]), (.int .i64), (.int .i64)]) (.var 1)] [.sc (.sl [(.int .i64), (.int .i64), (.int .i64), (.int .i64), (.int .i64), (.int .i64), (.int .i64), (.int .i64), (.int .i64), (.int .i64), (.int .i64), (.int .i64), (.int .i64), (.int .i64), (.int .i64), (.int .i64), (.int .i64), (.int .i64), .bool, (.sl [(.int .i64), (.int .i64), (.int .i64), (.int .i64), (.int .i64), (.int .i64), .bool]), (.int .i64), (.int .i64)])]
   (.call [] (.fn 10) [.st [(.int .i64), (.int .i64), (.int .i64), (.int .i64), (.int .i64), (.int .i64), .bool] (.o2 .cons (.o1 (.fld 0) (.var 2)) (.o2 .cons (.o1 (.fld 1) (.var 2)) (.o2 .cons (.o1 (.fld 2) (.var 2)) (.o2 .cons (.o1 (.fld 3) (.var 2)) (.o2 .cons (.o1 (.fld 4) (.var 2)) (.o2 .cons (.o1 (.fld 5) (.var 2)) (.o2 .cons (.o1 (.fld 6) (.var 2)) .nil)))))))] [.st [(.int .i64), (.int .i64), (.int .i64), (.int .i64), (.int .i64), (.int .i64), .bool]]
   (.call [] (.fn 11) [.sc (.sl [(.int .i64)]) (.var 3)] [.sc (.sl [(.int .i64)])]
   (.call [] (.fn 20) [.st [(.sl [(.int .i64), (.int .i64), (.int .i64), (.int .i64), (.int .i64), (.int .i64), (.int .i64), (.int .i64), (.int .i64), (.int .i64), (.int .i64), .bool, .bool]), (.sl [(.int .i64), (.int .i64), .bool]), (.int .i64), (.int .i64)] (.o2 .cons (.o1 (.fld 0) (.var 6)) (.o2 .cons (.o1 (.fld 1) (.var 6)) (.o2 .cons (.o1 (.fld 2) (.var 6)) (.o2 .cons (.o1 (.fld 3) (.var 6)) .nil)))), .sc (.sl [(.int .i64), (.int .i64), (.int .i64), (.int .i64), (.int .i64), (.int .i64), (.int .i64), (.int .i64), (.int .i64), (.int .i64), (.int .i64), (.int .i64), (.int .i64), (.int .i64), (.int .i64), (.int .i64), (.int .i64), (.int .i64), .bool, (.sl [(.int .i64), (.int .i64), (.int .i64), (.int .i64), (.int .i64), (.int .i64), .bool]), (.int .i64), (.int .i64)]) (.var 7), .st [(.int .i64), (.int .i64), (.int .i64), (.int .i64), (.int .i64), (.int .i64), .bool] (.o2 .cons (.o1 (.fld 0) (.var 8)) (.o2 .cons (.o1 (.fld 1) (.var 8)) (.o2 .cons (.o1 (.fld 2) (.var 8)) (.o2 .cons (.o1 (.fld 3) (.var 8)) (.o2 .cons (.o1 (.fld 4) (.var 8)) (.o2 .cons (.o1 (.fld 5) (.var 8)) (.o2 .cons (.o1 (.fld 6) (.var 8)) .nil))))))), .sc (.sl [(.int .i64)]) (.var 9)] [.sc (.sl [(.int .i64)])]
   (.call [] (.fn 8) [.st [(.sl [(.int .i64), (.int .i64), (.int .i64), (.int .i64), (.int .i64), (.int .i64), (.int .i64), (.int .i64), (.int .i64), (.int .i64), (.int .i64), .bool, .bool]), (.sl [(.int .i64), (.int .i64), .bool]), (.int .i64), (.int .i64)] (.o2 .cons (.o1 (.fld 0) (.var 0)) (.o2 .cons (.o1 (.fld 1) (.var 0)) (.o2 .cons (.o1 (.fld 2) (.var 0)) (.o2 .cons (.o1 (.fld 3) (.var 0)) .nil))))] [.st [(.sl [(.int .i64), (.int .i64), (.int .i64), (.int .i64), (.int .i64), (.int .i64), (.int .i64), (.int .i64), (.int .i64), (.int .i64), (.int .i64), .bool, .bool]), (.sl [(.int .i64), (.int .i64), .bool]), (.int .i64), (.int .i64)]]
   (.call [] (.fn 9) [.sc (.sl [(.int .i64), (.int .i64), (.int .i64), (.int .i64), (.int .i64), (.int .i64), (.int .i64), (.int .i64), (.int .i64), (.int .i64), (.int .i64), (.int .i64), (.int .i64), (.int .i64), (.int .i64), (.int .i64), (.int .i64), (.int .i64), .bool, (.sl [(.int .i64), (.int .i64), (.int .i64), (.int .i64), (.int .i64), (.int .i64), .bool]), (.int .i64), (.int .i64)]) (.var 1)] [.sc (.sl [(.int .i64), (.int .i64), (.int .i64), (.int .i64), (.int .i64), (.int .i64), (.int .i64), (.int .i64), (.int .i64), (.int .i64), (.int .i64), (.int .i64), (.int .i64), (.int .i64), (.int .i64), (.int .i64), (.int .i64), (.int .i64), .bool, (.sl [(.int .i64), (.int .i64), (.int .i64), (.int .i64), (.int .i64), (.int .i64), .bool]), (.int .i64), (.int .i64)])]
   (.call [] (.fn 11) [.sc (.sl [(.int .i64)]) (.var 3)] [.sc (.sl [(.int .i64)])]
   (.call [] (.fn 10) [.st [(.int .i64), (.int .i64), (.int .i64), (.int .i64), (.int .i64), (.int .i64), .bool] (.o2 .cons (.o1 (.fld 0) (.var 2)) (.o2 .cons (.o1 (.fld 1) (.var 2)) (.o2 .cons (.o1 (.fld 2) (.var 2)) (.o2 .cons (.o1 (.fld 3) (.var 2)) (.o2 .cons (.o1 (.fld 4) (.var 2)) (.o2 .cons (.o1 (.fld 5) (.var 2)) (.o2 .cons (.o1 (.fld 6) (.var 2)) .nil)))))))] [.st [(.int .i64), (.int .i64), (.int .i64), (.int .i64), (.int .i64), (.int .i64), .bool]]
   (.call [] (.fn 21) [.st [(.sl [(.int .i64), (.int .i64), (.int .i64), (.int .i64), (.int .i64), (.int .i64), (.int .i64), (.int .i64), (.int .i64), (.int .i64), (.int .i64), .bool, .bool]), (.sl [(.int .i64), (.int .i64), .bool]), (.int .i64), (.int .i64)] (.o2 .cons (.o1 (.fld 0) (.var 11)) (.o2 .cons (.o1 (.fld 1) (.var 11)) (.o2 .cons (.o1 (.fld 2) (.var 11)) (.o2 .cons (.o1 (.fld 3) (.var 11)) .nil)))), .sc (.sl [(.int .i64), (.int .i64), (.int .i64), (.int .i64), (.int .i64), (.int .i64), (.int .i64), (.int .i64), (.int .i64), (.int .i64), (.int .i64), (.int .i64), (.int .i64), (.int .i64), (.int .i64), (.int .i64), (.int .i64), (.int .i64), .bool, (.sl [(.int .i64), (.int .i64), (.int .i64), (.int .i64), (.int .i64), (.int .i64), .bool]), (.int .i64), (.int .i64)]) (.var 12), .st [(.int .i64), (.int .i64), (.int .i64), (.int .i64), (.int .i64), (.int .i64), .bool] (.o2 .cons (.o1 (.fld 0) (.var 14)) (.o2 .cons (.o1 (.fld 1) (.var 14)) (.o2 .cons (.o1 (.fld 2) (.var 14)) (.o2 .cons (.o1 (.fld 3) (.var 14)) (.o2 .cons (.o1 (.fld 4) (.var 14)) (.o2 .cons (.o1 (.fld 5) (.var 14)) (.o2 .cons (.o1 (.fld 6) (.var 14)) .nil))))))), .sc (.sl [(.int .i64)]) (.var 13)] [.sc (.sl [(.int .i64)])]
   (.call [] (.fn 13) [.sc (.sl [(.int .i64)]) (.var 15), .sc (.sl [(.int .i64)]) (.var 10)] [.sc .bool]
   (.br (.o1 .not (.var 16))
    (.ret [(.bool false)])
    (.call [] (.fn 8) [.st [(.sl [(.int .i64), (.int .i64), (.int .i64), (.int .i64), (.int .i64), (.int .i64), (.int .i64), (.int .i64), (.int .i64), (.int .i64), (.int .i64), .bool, .bool]), (.sl [(.int .i64), (.int .i64), .bool]), (.int .i64), (.int .i64)] (.o2 .cons (.o1 (.fld 0) (.var 0)) (.o2 .cons (.o1 (.fld 1) (.var 0)) (.o2 .cons (.o1 (.fld 2) (.var 0)) (.o2 .cons (.o1 (.fld 3) (.var 0)) .nil))))] [.st [(.sl [(.int .i64), (.int .i64), (.int .i64), (.int .i64), (.int .i64), (.int .i64), (.int .i64), (.int .i64), (.int .i64), (.int .i64), (.int .i64), .bool, .bool]), (.sl [(.int .i64), (.int .i64), .bool]), (.int .i64), (.int .i64)]]
    (.call [] (.fn 14) [.st [(.sl [(.int .i64), (.int .i64), (.int .i64), (.int .i64), (.int .i64), (.int .i64), (.int .i64), (.int .i64), (.int .i64), (.int .i64), (.int .i64), .bool, .bool]), (.sl [(.int .i64), (.int .i64), .bool]), (.int .i64), (.int .i64)] (.o2 .cons (.o1 (.fld 0) (.var 11)) (.o2 .cons (.o1 (.fld 1) (.var 11)) (.o2 .cons (.o1 (.fld 2) (.var 11)) (.o2 .cons (.o1 (.fld 3) (.var 11)) .nil)))), .st [(.sl [(.int .i64), (.int .i64), (.int .i64), (.int .i64), (.int .i64), (.int .i64), (.int .i64), (.int .i64), (.int .i64), (.int .i64), (.int .i64), .bool, .bool]), (.sl [(.int .i64), (.int .i64), .bool]), (.int .i64), (.int .i64)] (.o2 .cons (.o1 (.fld 0) (.var 17)) (.o2 .cons (.o1 (.fld 1) (.var 17)) (.o2 .cons (.o1 (.fld 2) (.var 17)) (.o2 .cons (.o1 (.fld 3) (.var 17)) .nil))))] [.sc .bool]
    (.br (.o1 .not (.var 18))
     (.ret [(.bool false)])
     (.call [] (.fn 9) [.sc (.sl [(.int .i64), (.int .i64), (.int .i64), (.int .i64), (.int .i64), (.int .i64), (.int .i64), (.int .i64), (.int .i64), (.int .i64), (.int .i64), (.int .i64), (.int .i64), (.int .i64), (.int .i64), (.int .i64), (.int .i64), (.int .i64), .bool, (.sl [(.int .i64), (.int .i64), (.int .i64), (.int .i64), (.int .i64), (.int .i64), .bool]), (.int .i64), (.int .i64)]) (.var 1)] [.sc (.sl [(.int .i64), (.int .i64), (.int .i64), (.int .i64), (.int .i64), (.int .i64), (.int .i64), (.int .i64), (.int .i64), (.int .i64), (.int .i64), (.int .i64), (.int .i64), (.int .i64), (.int .i64), (.int .i64), (.int .i64), (.int .i64), .bool, (.sl [(.int .i64), (.int .i64), (.int .i64), (.int .i64), (.int .i64), (.int .i64), .bool]), (.int .i64), (.int .i64)])]
     (.call [] (.fn 15) [.sc (.sl [(.int .i64), (.int .i64), (.int .i64), (.int .i64), (.int .i64), (.int .i64), (.int .i64), (.int .i64), (.int .i64), (.int .i64), (.int .i64), (.int .i64), (.int .i64), (.int .i64), (.int .i64), (.int .i64), (.int .i64), (.int .i64), .bool, (.sl [(.int .i64), (.int .i64), (.int .i64), (.int .i64), (.int .i64), (.int .i64), .bool]), (.int .i64), (.int .i64)]) (.var 12), .sc (.sl [(.int .i64), (.int .i64), (.int .i64), (.int .i64), (.int .i64), (.int .i64), (.int .i64), (.int .i64), (.int .i64), (.int .i64), (.int .i64), (.int .i64), (.int .i64), (.int .i64), (.int .i64), (.int .i64), (.int .i64), (.int .i64), .bool, (.sl [(.int .i64), (.int .i64), (.int .i64), (.int .i64), (.int .i64), (.int .i64), .bool]), (.int .i64), (.int .i64)]) (.var 19)] [.sc .bool]
     (.br (.o1 .not (.var 20))
      (.ret [(.bool false)])
      (.call [] (.fn 11) [.sc (.sl [(.int .i64)]) (.var 3)] [.sc (.sl [(.int .i64)])]
      (.call [] (.fn 13) [.sc (.sl [(.int .i64)]) (.var 13), .sc (.sl [(.int .i64)]) (.var 21)] [.sc .bool]
      (.br (.o1 .not (.var 22))
       (.ret [(.bool false)])
       (.call [] (.fn 16) [.stw [(.sl [(.int .i64), (.int .i64), (.int .i64), (.int .i64), (.int .i64), (.int .i64), (.int .i64), (.int .i64), (.int .i64), (.int .i64), (.int .i64), .bool, .bool]), (.sl [(.int .i64), (.int .i64), .bool]), (.int .i64), (.int .i64)] (.o2 .cons (.o1 (.fld 0) (.var 11)) (.o2 .cons (.o1 (.fld 1) (.var 11)) (.o2 .cons (.o1 (.fld 2) (.var 11)) (.o2 .cons (.o1 (.fld 3) (.var 11)) .nil)))), .sc (.int .i64) (.int 1)] [.sc (.int .i64)]
       (.call [] (.fn 17) [.row [(.int .i64), (.int .i64), (.int .i64), (.int .i64), (.int .i64), (.int .i64), (.int .i64), (.int .i64), (.int .i64), (.int .i64), (.int .i64), (.int .i64), (.int .i64), (.int .i64), (.int .i64), (.int .i64), (.int .i64), (.int .i64), .bool, (.sl [(.int .i64), (.int .i64), (.int .i64), (.int .i64), (.int .i64), (.int .i64), .bool]), (.int .i64), (.int .i64)] (.var 12), .sc (.int .i64) (.var 23)] [.sc (.int .i64)]
       (.call [] (.fn 18) [.row [(.int .i64)] (.var 13), .sc (.int .i64) (.var 25)] [.sc (.int .i64)]
       (.call [((.o2 .lt (.var 27) (.int 0)), false)] (.fn 13) [.sc (.sl [(.int .i64)]) (.var 15), .sc (.sl [(.int .i64)]) (.var 10)] [.sc .bool]
       (.br (.o2 .bor (.o2 .lt (.var 27) (.int 0)) (.o1 .not (.var 29)))
        (.ret [(.bool false)])
        (.call [] (.fn 18) [.row [(.int .i64)] (.var 15), .sc (.int .i64) (.int 1)] [.sc (.int .i64)]
        (.call [] (.fn 19) [.sc (.sl [(.int .i64)]) (.var 31), .sc (.int .i64) (.int 1)] [.sc (.int .i64)]
        (.br (.o2 .lt (.var 32) (.int 0))
         (.ret [(.bool false)])
         (.br (.o2 .ne (.var 32) (.var 30))
          (.ret [(.bool false)])
          (.call [] (.fn 8) [.st [(.sl [(.int .i64), (.int .i64), (.int .i64), (.int .i64), (.int .i64), (.int .i64), (.int .i64), (.int .i64), (.int .i64), (.int .i64), (.int .i64), .bool, .bool]), (.sl [(.int .i64), (.int .i64), .bool]), (.int .i64), (.int .i64)] (.o2 .cons (.o1 (.fld 0) (.var 0)) (.o2 .cons (.o1 (.fld 1) (.var 0)) (.o2 .cons (.o1 (.fld 2) (.var 0)) (.o2 .cons (.o1 (.fld 3) (.var 0)) .nil))))] [.st [(.sl [(.int .i64), (.int .i64), (.int .i64), (.int .i64), (.int .i64), (.int .i64), (.int .i64), (.int .i64), (.int .i64), (.int .i64), (.int .i64), .bool, .bool]), (.sl [(.int .i64), (.int .i64), .bool]), (.int .i64), (.int .i64)]]
          (.call [] (.fn 9) [.sc (.sl [(.int .i64), (.int .i64), (.int .i64), (.int .i64), (.int .i64), (.int .i64), (.int .i64), (.int .i64), (.int .i64), (.int .i64), (.int .i64), (.int .i64), (.int .i64), (.int .i64), (.int .i64), (.int .i64), (.int .i64), (.int .i64), .bool, (.sl [(.int .i64), (.int .i64), (.int .i64), (.int .i64), (.int .i64), (.int .i64), .bool]), (.int .i64), (.int .i64)]) (.var 1)] [.sc (.sl [(.int .i64), (.int .i64), (.int .i64), (.int .i64), (.int .i64), (.int .i64), (.int .i64), (.int .i64), (.int .i64), (.int .i64), (.int .i64), (.int .i64), (.int .i64), (.int .i64), (.int .i64), (.int .i64), (.int .i64), (.int .i64), .bool, (.sl [(.int .i64), (.int .i64), (.int .i64), (.int .i64), (.int .i64), (.int .i64), .bool]), (.int .i64), (.int .i64)])]
          (.call [] (.fn 10) [.st [(.int .i64), (.int .i64), (.int .i64), (.int .i64), (.int .i64), (.int .i64), .bool] (.o2 .cons (.o1 (.fld 0) (.var 2)) (.o2 .cons (.o1 (.fld 1) (.var 2)) (.o2 .cons (.o1 (.fld 2) (.var 2)) (.o2 .cons (.o1 (.fld 3) (.var 2)) (.o2 .cons (.o1 (.fld 4) (.var 2)) (.o2 .cons (.o1 (.fld 5) (.var 2)) (.o2 .cons (.o1 (.fld 6) (.var 2)) .nil)))))))] [.st [(.int .i64), (.int .i64), (.int .i64), (.int .i64), (.int .i64), (.int .i64), .bool]]
          (.call [] (.fn 11) [.sc (.sl [(.int .i64)]) (.var 3)] [.sc (.sl [(.int .i64)])]
          (.call [] (.fn 21) [.st [(.sl [(.int .i64), (.int .i64), (.int .i64), (.int .i64), (.int .i64), (.int .i64), (.int .i64), (.int .i64), (.int .i64), (.int .i64), (.int .i64), .bool, .bool]), (.sl [(.int .i64), (.int .i64), .bool]), (.int .i64), (.int .i64)] (.o2 .cons (.o1 (.fld 0) (.var 33)) (.o2 .cons (.o1 (.fld 1) (.var 33)) (.o2 .cons (.o1 (.fld 2) (.var 33)) (.o2 .cons (.o1 (.fld 3) (.var 33)) .nil)))), .sc (.sl [(.int .i64), (.int .i64), (.int .i64), (.int .i64), (.int .i64), (.int .i64), (.int .i64), (.int .i64), (.int .i64), (.int .i64), (.int .i64), (.int .i64), (.int .i64), (.int .i64), (.int .i64), (.int .i64), (.int .i64), (.int .i64), .bool, (.sl [(.int .i64), (.int .i64), (.int .i64), (.int .i64), (.int .i64), (.int .i64), .bool]), (.int .i64), (.int .i64)]) (.var 34), .st [(.int .i64), (.int .i64), (.int .i64), (.int .i64), (.int .i64), (.int .i64), .bool] (.o2 .cons (.o1 (.fld 0) (.var 35)) (.o2 .cons (.o1 (.fld 1) (.var 35)) (.o2 .cons (.o1 (.fld 2) (.var 35)) (.o2 .cons (.o1 (.fld 3) (.var 35)) (.o2 .cons (.o1 (.fld 4) (.var 35)) (.o2 .cons (.o1 (.fld 5) (.var 35)) (.o2 .cons (.o1 (.fld 6) (.var 35)) .nil))))))), .sc (.sl [(.int .i64)]) (.var 36)] [.sc (.sl [(.int .i64)])]
          (.call [] (.fn 13) [.sc (.sl [(.int .i64)]) (.var 37), .sc (.sl [(.int .i64)]) (.var 10)] [.sc .bool]
          (.br (.o1 .not (.var 38))
           (.ret [(.bool false)])
           (.call [] (.fn 19) [.sc (.sl [(.int .i64)]) (.var 31), .sc (.int .i64) (.int 1)] [.sc (.int .i64)]
           (.br (.o2 .lt (.var 39) (.int 0))
            (.ret [(.bool false)])
            (.br (.o2 .ne (.var 39) (.var 30))
             (.ret [(.bool false)])
             (.ret [(.bool true)])))))))))))))))))))))))))))))))))))))))))))))))
theorem sig_4 : sigOf Tryz.prog md 4 [] = some ([.st [(.sl [(.int .i64), (.int .i64), (.int .i64), (.int .i64), (.int .i64), (.int .i64), (.int .i64), (.int .i64), (.int .i64), (.int .i64), (.int .i64), .bool, .bool]), (.sl [(.int .i64), (.int .i64), .bool]), (.int .i64), (.int .i64)], .sc (.sl [(.int .i64), (.int .i64), (.int .i64), (.int .i64), (.int .i64), (.int .i64), (.int .i64), (.int .i64), (.int .i64), (.int .i64), (.int .i64), (.int .i64), (.int .i64), (.int .i64), (.int .i64), (.int .i64), (.int .i64), (.int .i64), .bool, (.sl [(.int .i64), (.int .i64), (.int .i64), (.int .i64), (.int .i64), (.int .i64), .bool]), (.int .i64), (.int .i64)]), .st [(.int .i64), (.int .i64), (.int .i64), (.int .i64), (.int .i64), (.int .i64), .bool], .sc (.sl [(.int .i64)])], [.sc .bool], tree_4) := by kernel_rfl
theorem mix : Tryz.prog.follows .mixedOrders = true := by kernel_rfl
end Go.Proofs.YtfbahdalemajcaaGreat
