/- The trees of the functions that this claim reaches. -/
import Derived.Test.YtbfhdfpbijpbbaaRows
import Derived.Test.YtbfhdfpbijpbbaaE6
import Derived.KernelRfl
namespace Go.Proofs.Ytbfhdfpbijpbbaa
open Go.Proofs.Ytbfhdfpbijpbbaa.Eng
def md : Modes := ⟨[(47, 0), (46, 0)], [], []⟩
/- laws.szPieceS -/
def tree_56 : T :=
(.know (.var 0)
(.br (.o2 .lt (.o2 (.sub .i64) (.var 1) (.o1 .len (.var 0))) (.int 0))
 (.ret [(.int (-1))])
 (.ret [(.o2 (.sub .i64) (.var 1) (.o1 .len (.var 0)))])))
theorem sig_56 : sigOf Try.prog md 56 [] = some ([.sc (.sl [(.int .i64), (.int .i64), (.int .i64), (.int .i64), (.int .i64), (.int .i64), (.int .i64), (.int .i64), (.int .i64), (.int .i64), (.int .i64), .bool, .bool]), .sc (.int .i64)], [.sc (.int .i64)], tree_56) := by kernel_rfl
/- laws.szSideS -/
def tree_57 : T :=
(.know (.var 0)
(.br (.o2 .lt (.o2 (.sub .i64) (.var 1) (.o1 .len (.var 0))) (.int 0))
 (.ret [(.int (-1))])
 (.ret [(.o2 (.sub .i64) (.var 1) (.o1 .len (.var 0)))])))
theorem sig_57 : sigOf Try.prog md 57 [] = some ([.sc (.sl [(.int .i64), (.int .i64), .bool]), .sc (.int .i64)], [.sc (.int .i64)], tree_57) := by kernel_rfl
/- laws.szState -/
def tree_15 : T :=
(.call [] (.fn 56) [.sc (.sl [(.int .i64), (.int .i64), (.int .i64), (.int .i64), (.int .i64), (.int .i64), (.int .i64), (.int .i64), (.int .i64), (.int .i64), (.int .i64), .bool, .bool]) (.o1 (.fld 0) (.var 0)), .sc (.int .i64) (.var 1)] [.sc (.int .i64)]
(.br (.o2 .lt (.var 2) (.int 0))
 (.ret [(.int (-1))])
 (.call [] (.fn 57) [.sc (.sl [(.int .i64), (.int .i64), .bool]) (.o1 (.fld 1) (.var 0)), .sc (.int .i64) (.var 2)] [.sc (.int .i64)]
 (.br (.o2 .lt (.var 3) (.int 0))
  (.ret [(.int (-1))])
  (.ret [(.var 3)])))))
theorem sig_15 : sigOf Try.prog md 15 [] = some ([.st [(.sl [(.int .i64), (.int .i64), (.int .i64), (.int .i64), (.int .i64), (.int .i64), (.int .i64), (.int .i64), (.int .i64), (.int .i64), (.int .i64), .bool, .bool]), (.sl [(.int .i64), (.int .i64), .bool]), (.int .i64), (.int .i64)], .sc (.int .i64)], [.sc (.int .i64)], tree_15) := by kernel_rfl
/- laws.toPiece -/
def tree_94 : T :=
(.ret [(.o2 .cons (.o1 (.fld 0) (.var 0)) (.o2 .cons (.o1 (.fld 1) (.var 0)) (.o2 .cons (.o1 (.fld 2) (.var 0)) (.o2 .cons (.o1 (.fld 3) (.var 0)) (.o2 .cons (.o1 (.fld 4) (.var 0)) (.o2 .cons (.o1 (.fld 5) (.var 0)) (.o2 .cons (.o1 (.fld 6) (.var 0)) (.o2 .cons (.o1 (.fld 7) (.var 0)) (.o2 .cons (.o1 (.fld 8) (.var 0)) (.o2 .cons (.o1 (.fld 9) (.var 0)) (.o2 .cons (.o1 (.fld 10) (.var 0)) (.o2 .cons (.o1 (.fld 11) (.var 0)) (.o2 .cons (.o1 (.fld 12) (.var 0)) .nil)))))))))))))])
theorem sig_94 : sigOf Try.prog md 94 [] = some ([.st [(.int .i64), (.int .i64), (.int .i64), (.int .i64), (.int .i64), (.int .i64), (.int .i64), (.int .i64), (.int .i64), (.int .i64), (.int .i64), .bool, .bool]], [.st [(.int .i64), (.int .i64), (.int .i64), (.int .i64), (.int .i64), (.int .i64), (.int .i64), (.int .i64), (.int .i64), (.int .i64), (.int .i64), .bool, .bool]], tree_94) := by kernel_rfl
/- laws.toPieceS -/
def tree_58 : T :=
(.know (.var 0)
(.need [] (.o2 .le (.int 0) (.o1 .len (.var 0)))
(.need [] (.o2 (.fits 96) (.o1 .len (.var 0)) (.int 0))
(.loop 0 [(.int 0), (.o2 .rep (.o1 .len (.var 0)) (.o2 .cons (.int 0) (.o2 .cons (.int 0) (.o2 .cons (.int 0) (.o2 .cons (.int 0) (.o2 .cons (.int 0) (.o2 .cons (.int 0) (.o2 .cons (.int 0) (.o2 .cons (.int 0) (.o2 .cons (.int 0) (.o2 .cons (.int 0) (.o2 .cons (.int 0) (.o2 .cons (.bool false) (.o2 .cons (.bool false) .nil))))))))))))))]
 (.know (.var 0)
 (.br (.o2 .lt (.var 1) (.o1 .len (.var 0)))
  (.need [] (.o2 .le (.int 0) (.var 1))
  (.need [] (.o2 .lt (.var 1) (.o1 .len (.var 0)))
  (.call [] (.fn 94) [.st [(.int .i64), (.int .i64), (.int .i64), (.int .i64), (.int .i64), (.int .i64), (.int .i64), (.int .i64), (.int .i64), (.int .i64), (.int .i64), .bool, .bool] (.o2 .cons (.o1 (.fld 0) (.o2 .idx (.var 0) (.var 1))) (.o2 .cons (.o1 (.fld 1) (.o2 .idx (.var 0) (.var 1))) (.o2 .cons (.o1 (.fld 2) (.o2 .idx (.var 0) (.var 1))) (.o2 .cons (.o1 (.fld 3) (.o2 .idx (.var 0) (.var 1))) (.o2 .cons (.o1 (.fld 4) (.o2 .idx (.var 0) (.var 1))) (.o2 .cons (.o1 (.fld 5) (.o2 .idx (.var 0) (.var 1))) (.o2 .cons (.o1 (.fld 6) (.o2 .idx (.var 0) (.var 1))) (.o2 .cons (.o1 (.fld 7) (.o2 .idx (.var 0) (.var 1))) (.o2 .cons (.o1 (.fld 8) (.o2 .idx (.var 0) (.var 1))) (.o2 .cons (.o1 (.fld 9) (.o2 .idx (.var 0) (.var 1))) (.o2 .cons (.o1 (.fld 10) (.o2 .idx (.var 0) (.var 1))) (.o2 .cons (.o1 (.fld 11) (.o2 .idx (.var 0) (.var 1))) (.o2 .cons (.o1 (.fld 12) (.o2 .idx (.var 0) (.var 1))) .nil)))))))))))))] [.st [(.int .i64), (.int .i64), (.int .i64), (.int .i64), (.int .i64), (.int .i64), (.int .i64), (.int .i64), (.int .i64), (.int .i64), (.int .i64), .bool, .bool]]
  (.need [] (.o2 .le (.int 0) (.var 1))
  (.need [] (.o2 .lt (.var 1) (.o1 .len (.var 2)))
  (.cont 0 [(.o2 (.add .i64) (.var 1) (.int 1)), (.o3 .setE (.var 2) (.var 1) (.o2 .cons (.o1 (.fld 0) (.var 3)) (.o2 .cons (.o1 (.fld 1) (.var 3)) (.o2 .cons (.o1 (.fld 2) (.var 3)) (.o2 .cons (.o1 (.fld 3) (.var 3)) (.o2 .cons (.o1 (.fld 4) (.var 3)) (.o2 .cons (.o1 (.fld 5) (.var 3)) (.o2 .cons (.o1 (.fld 6) (.var 3)) (.o2 .cons (.o1 (.fld 7) (.var 3)) (.o2 .cons (.o1 (.fld 8) (.var 3)) (.o2 .cons (.o1 (.fld 9) (.var 3)) (.o2 .cons (.o1 (.fld 10) (.var 3)) (.o2 .cons (.o1 (.fld 11) (.var 3)) (.o2 .cons (.o1 (.fld 12) (.var 3)) .nil))))))))))))))]))))))
  (.ret [(.var 2)])))))))
theorem sig_58 : sigOf Try.prog md 58 [] = some ([.sc (.sl [(.int .i64), (.int .i64), (.int .i64), (.int .i64), (.int .i64), (.int .i64), (.int .i64), (.int .i64), (.int .i64), (.int .i64), (.int .i64), .bool, .bool])], [.sc (.sl [(.int .i64), (.int .i64), (.int .i64), (.int .i64), (.int .i64), (.int .i64), (.int .i64), (.int .i64), (.int .i64), (.int .i64), (.int .i64), .bool, .bool])], tree_58) := by kernel_rfl
/- laws.toSide -/
def tree_95 : T :=
(.ret [(.o2 .cons (.o1 (.fld 0) (.var 0)) (.o2 .cons (.o1 (.fld 1) (.var 0)) (.o2 .cons (.o1 (.fld 2) (.var 0)) .nil)))])
theorem sig_95 : sigOf Try.prog md 95 [] = some ([.st [(.int .i64), (.int .i64), .bool]], [.st [(.int .i64), (.int .i64), .bool]], tree_95) := by kernel_rfl
/- laws.toSideS -/
def tree_59 : T :=
(.know (.var 0)
(.need [] (.o2 .le (.int 0) (.o1 .len (.var 0)))
(.need [] (.o2 (.fits 24) (.o1 .len (.var 0)) (.int 0))
(.loop 0 [(.int 0), (.o2 .rep (.o1 .len (.var 0)) (.o2 .cons (.int 0) (.o2 .cons (.int 0) (.o2 .cons (.bool false) .nil))))]
 (.know (.var 0)
 (.br (.o2 .lt (.var 1) (.o1 .len (.var 0)))
  (.need [] (.o2 .le (.int 0) (.var 1))
  (.need [] (.o2 .lt (.var 1) (.o1 .len (.var 0)))
  (.call [] (.fn 95) [.st [(.int .i64), (.int .i64), .bool] (.o2 .cons (.o1 (.fld 0) (.o2 .idx (.var 0) (.var 1))) (.o2 .cons (.o1 (.fld 1) (.o2 .idx (.var 0) (.var 1))) (.o2 .cons (.o1 (.fld 2) (.o2 .idx (.var 0) (.var 1))) .nil)))] [.st [(.int .i64), (.int .i64), .bool]]
  (.need [] (.o2 .le (.int 0) (.var 1))
  (.need [] (.o2 .lt (.var 1) (.o1 .len (.var 2)))
  (.cont 0 [(.o2 (.add .i64) (.var 1) (.int 1)), (.o3 .setE (.var 2) (.var 1) (.o2 .cons (.o1 (.fld 0) (.var 3)) (.o2 .cons (.o1 (.fld 1) (.var 3)) (.o2 .cons (.o1 (.fld 2) (.var 3)) .nil))))]))))))
  (.ret [(.var 2)])))))))
theorem sig_59 : sigOf Try.prog md 59 [] = some ([.sc (.sl [(.int .i64), (.int .i64), .bool])], [.sc (.sl [(.int .i64), (.int .i64), .bool])], tree_59) := by kernel_rfl
/- laws.toState -/
def tree_17 : T :=
(.call [] (.fn 58) [.sc (.sl [(.int .i64), (.int .i64), (.int .i64), (.int .i64), (.int .i64), (.int .i64), (.int .i64), (.int .i64), (.int .i64), (.int .i64), (.int .i64), .bool, .bool]) (.o1 (.fld 0) (.var 0))] [.sc (.sl [(.int .i64), (.int .i64), (.int .i64), (.int .i64), (.int .i64), (.int .i64), (.int .i64), (.int .i64), (.int .i64), (.int .i64), (.int .i64), .bool, .bool])]
(.call [] (.fn 59) [.sc (.sl [(.int .i64), (.int .i64), .bool]) (.o1 (.fld 1) (.var 0))] [.sc (.sl [(.int .i64), (.int .i64), .bool])]
(.ret [(.o2 .cons (.var 1) (.o2 .cons (.var 2) (.o2 .cons (.o1 (.fld 2) (.var 0)) (.o2 .cons (.o1 (.fld 3) (.var 0)) .nil))))])))
theorem sig_17 : sigOf Try.prog md 17 [] = some ([.st [(.sl [(.int .i64), (.int .i64), (.int .i64), (.int .i64), (.int .i64), (.int .i64), (.int .i64), (.int .i64), (.int .i64), (.int .i64), (.int .i64), .bool, .bool]), (.sl [(.int .i64), (.int .i64), .bool]), (.int .i64), (.int .i64)]], [.st [(.sl [(.int .i64), (.int .i64), (.int .i64), (.int .i64), (.int .i64), (.int .i64), (.int .i64), (.int .i64), (.int .i64), (.int .i64), (.int .i64), .bool, .bool]), (.sl [(.int .i64), (.int .i64), .bool]), (.int .i64), (.int .i64)]], tree_17) := by kernel_rfl
/- laws.eqPiece -/
def tree_23 : T :=
(.br (.o2 .ne (.o1 (.fld 0) (.var 0)) (.o1 (.fld 0) (.var 1)))
 (.ret [(.bool false)])
 (.br (.o2 .ne (.o1 (.fld 1) (.var 0)) (.o1 (.fld 1) (.var 1)))
  (.ret [(.bool false)])
  (.br (.o2 .ne (.o1 (.fld 2) (.var 0)) (.o1 (.fld 2) (.var 1)))
   (.ret [(.bool false)])
   (.br (.o2 .ne (.o1 (.fld 3) (.var 0)) (.o1 (.fld 3) (.var 1)))
    (.ret [(.bool false)])
    (.br (.o2 .ne (.o1 (.fld 4) (.var 0)) (.o1 (.fld 4) (.var 1)))
     (.ret [(.bool false)])
     (.br (.o2 .ne (.o1 (.fld 5) (.var 0)) (.o1 (.fld 5) (.var 1)))
      (.ret [(.bool false)])
      (.br (.o2 .ne (.o1 (.fld 6) (.var 0)) (.o1 (.fld 6) (.var 1)))
       (.ret [(.bool false)])
       (.br (.o2 .ne (.o1 (.fld 7) (.var 0)) (.o1 (.fld 7) (.var 1)))
        (.ret [(.bool false)])
        (.br (.o2 .ne (.o1 (.fld 8) (.var 0)) (.o1 (.fld 8) (.var 1)))
         (.ret [(.bool false)])
         (.br (.o2 .ne (.o1 (.fld 9) (.var 0)) (.o1 (.fld 9) (.var 1)))
          (.ret [(.bool false)])
          (.br (.o2 .ne (.o1 (.fld 10) (.var 0)) (.o1 (.fld 10) (.var 1)))
           (.ret [(.bool false)])
           (.br (.o2 .bne (.o1 (.fld 11) (.var 0)) (.o1 (.fld 11) (.var 1)))
            (.ret [(.bool false)])
            (.br (.o2 .bne (.o1 (.fld 12) (.var 0)) (.o1 (.fld 12) (.var 1)))
             (.ret [(.bool false)])
             (.ret [(.bool true)]))))))))))))))
theorem sig_23 : sigOf Try.prog md 23 [] = some ([.st [(.int .i64), (.int .i64), (.int .i64), (.int .i64), (.int .i64), (.int .i64), (.int .i64), (.int .i64), (.int .i64), (.int .i64), (.int .i64), .bool, .bool], .st [(.int .i64), (.int .i64), (.int .i64), (.int .i64), (.int .i64), (.int .i64), (.int .i64), (.int .i64), (.int .i64), (.int .i64), (.int .i64), .bool, .bool]], [.sc .bool], tree_23) := by kernel_rfl
/- laws.eqPieceS -/
def tree_60 : T :=
(.know (.var 0)
(.know (.var 1)
(.br (.o2 .ne (.o1 .len (.var 0)) (.o1 .len (.var 1)))
 (.ret [(.bool false)])
 (.loop 0 [(.int 0)]
  (.know (.var 0)
  (.br (.o2 .lt (.var 2) (.o1 .len (.var 0)))
   (.need [] (.o2 .le (.int 0) (.var 2))
   (.need [] (.o2 .lt (.var 2) (.o1 .len (.var 0)))
   (.need [] (.o2 .le (.int 0) (.var 2))
   (.need [] (.o2 .lt (.var 2) (.o1 .len (.var 1)))
   (.call [] (.fn 23) [.st [(.int .i64), (.int .i64), (.int .i64), (.int .i64), (.int .i64), (.int .i64), (.int .i64), (.int .i64), (.int .i64), (.int .i64), (.int .i64), .bool, .bool] (.o2 .cons (.o1 (.fld 0) (.o2 .idx (.var 0) (.var 2))) (.o2 .cons (.o1 (.fld 1) (.o2 .idx (.var 0) (.var 2))) (.o2 .cons (.o1 (.fld 2) (.o2 .idx (.var 0) (.var 2))) (.o2 .cons (.o1 (.fld 3) (.o2 .idx (.var 0) (.var 2))) (.o2 .cons (.o1 (.fld 4) (.o2 .idx (.var 0) (.var 2))) (.o2 .cons (.o1 (.fld 5) (.o2 .idx (.var 0) (.var 2))) (.o2 .cons (.o1 (.fld 6) (.o2 .idx (.var 0) (.var 2))) (.o2 .cons (.o1 (.fld 7) (.o2 .idx (.var 0) (.var 2))) (.o2 .cons (.o1 (.fld 8) (.o2 .idx (.var 0) (.var 2))) (.o2 .cons (.o1 (.fld 9) (.o2 .idx (.var 0) (.var 2))) (.o2 .cons (.o1 (.fld 10) (.o2 .idx (.var 0) (.var 2))) (.o2 .cons (.o1 (.fld 11) (.o2 .idx (.var 0) (.var 2))) (.o2 .cons (.o1 (.fld 12) (.o2 .idx (.var 0) (.var 2))) .nil))))))))))))), .st [(.int .i64), (.int .i64), (.int .i64), (.int .i64), (.int .i64), (.int .i64), (.int .i64), (.int .i64), (.int .i64), (.int .i64), (.int .i64), .bool, .bool] (.o2 .cons (.o1 (.fld 0) (.o2 .idx (.var 1) (.var 2))) (.o2 .cons (.o1 (.fld 1) (.o2 .idx (.var 1) (.var 2))) (.o2 .cons (.o1 (.fld 2) (.o2 .idx (.var 1) (.var 2))) (.o2 .cons (.o1 (.fld 3) (.o2 .idx (.var 1) (.var 2))) (.o2 .cons (.o1 (.fld 4) (.o2 .idx (.var 1) (.var 2))) (.o2 .cons (.o1 (.fld 5) (.o2 .idx (.var 1) (.var 2))) (.o2 .cons (.o1 (.fld 6) (.o2 .idx (.var 1) (.var 2))) (.o2 .cons (.o1 (.fld 7) (.o2 .idx (.var 1) (.var 2))) (.o2 .cons (.o1 (.fld 8) (.o2 .idx (.var 1) (.var 2))) (.o2 .cons (.o1 (.fld 9) (.o2 .idx (.var 1) (.var 2))) (.o2 .cons (.o1 (.fld 10) (.o2 .idx (.var 1) (.var 2))) (.o2 .cons (.o1 (.fld 11) (.o2 .idx (.var 1) (.var 2))) (.o2 .cons (.o1 (.fld 12) (.o2 .idx (.var 1) (.var 2))) .nil)))))))))))))] [.sc .bool]
   (.br (.o1 .not (.var 3))
    (.ret [(.bool false)])
    (.cont 0 [(.o2 (.add .i64) (.var 2) (.int 1))])))))))
   (.ret [(.bool true)])))))))
theorem sig_60 : sigOf Try.prog md 60 [] = some ([.sc (.sl [(.int .i64), (.int .i64), (.int .i64), (.int .i64), (.int .i64), (.int .i64), (.int .i64), (.int .i64), (.int .i64), (.int .i64), (.int .i64), .bool, .bool]), .sc (.sl [(.int .i64), (.int .i64), (.int .i64), (.int .i64), (.int .i64), (.int .i64), (.int .i64), (.int .i64), (.int .i64), (.int .i64), (.int .i64), .bool, .bool])], [.sc .bool], tree_60) := by kernel_rfl
/- laws.eqSide -/
def tree_96 : T :=
(.br (.o2 .ne (.o1 (.fld 0) (.var 0)) (.o1 (.fld 0) (.var 1)))
 (.ret [(.bool false)])
 (.br (.o2 .ne (.o1 (.fld 1) (.var 0)) (.o1 (.fld 1) (.var 1)))
  (.ret [(.bool false)])
  (.br (.o2 .bne (.o1 (.fld 2) (.var 0)) (.o1 (.fld 2) (.var 1)))
   (.ret [(.bool false)])
   (.ret [(.bool true)]))))
theorem sig_96 : sigOf Try.prog md 96 [] = some ([.st [(.int .i64), (.int .i64), .bool], .st [(.int .i64), (.int .i64), .bool]], [.sc .bool], tree_96) := by kernel_rfl
/- laws.eqSideS -/
def tree_61 : T :=
(.know (.var 0)
(.know (.var 1)
(.br (.o2 .ne (.o1 .len (.var 0)) (.o1 .len (.var 1)))
 (.ret [(.bool false)])
 (.loop 0 [(.int 0)]
  (.know (.var 0)
  (.br (.o2 .lt (.var 2) (.o1 .len (.var 0)))
   (.need [] (.o2 .le (.int 0) (.var 2))
   (.need [] (.o2 .lt (.var 2) (.o1 .len (.var 0)))
   (.need [] (.o2 .le (.int 0) (.var 2))
   (.need [] (.o2 .lt (.var 2) (.o1 .len (.var 1)))
   (.call [] (.fn 96) [.st [(.int .i64), (.int .i64), .bool] (.o2 .cons (.o1 (.fld 0) (.o2 .idx (.var 0) (.var 2))) (.o2 .cons (.o1 (.fld 1) (.o2 .idx (.var 0) (.var 2))) (.o2 .cons (.o1 (.fld 2) (.o2 .idx (.var 0) (.var 2))) .nil))), .st [(.int .i64), (.int .i64), .bool] (.o2 .cons (.o1 (.fld 0) (.o2 .idx (.var 1) (.var 2))) (.o2 .cons (.o1 (.fld 1) (.o2 .idx (.var 1) (.var 2))) (.o2 .cons (.o1 (.fld 2) (.o2 .idx (.var 1) (.var 2))) .nil)))] [.sc .bool]
   (.br (.o1 .not (.var 3))
    (.ret [(.bool false)])
    (.cont 0 [(.o2 (.add .i64) (.var 2) (.int 1))])))))))
   (.ret [(.bool true)])))))))
theorem sig_61 : sigOf Try.prog md 61 [] = some ([.sc (.sl [(.int .i64), (.int .i64), .bool]), .sc (.sl [(.int .i64), (.int .i64), .bool])], [.sc .bool], tree_61) := by kernel_rfl
/- laws.eqState -/
def tree_19 : T :=
(.call [] (.fn 60) [.sc (.sl [(.int .i64), (.int .i64), (.int .i64), (.int .i64), (.int .i64), (.int .i64), (.int .i64), (.int .i64), (.int .i64), (.int .i64), (.int .i64), .bool, .bool]) (.o1 (.fld 0) (.var 0)), .sc (.sl [(.int .i64), (.int .i64), (.int .i64), (.int .i64), (.int .i64), (.int .i64), (.int .i64), (.int .i64), (.int .i64), (.int .i64), (.int .i64), .bool, .bool]) (.o1 (.fld 0) (.var 1))] [.sc .bool]
(.br (.o1 .not (.var 2))
 (.ret [(.bool false)])
 (.call [] (.fn 61) [.sc (.sl [(.int .i64), (.int .i64), .bool]) (.o1 (.fld 1) (.var 0)), .sc (.sl [(.int .i64), (.int .i64), .bool]) (.o1 (.fld 1) (.var 1))] [.sc .bool]
 (.br (.o1 .not (.var 3))
  (.ret [(.bool false)])
  (.br (.o2 .ne (.o1 (.fld 2) (.var 0)) (.o1 (.fld 2) (.var 1)))
   (.ret [(.bool false)])
   (.br (.o2 .ne (.o1 (.fld 3) (.var 0)) (.o1 (.fld 3) (.var 1)))
    (.ret [(.bool false)])
    (.ret [(.bool true)])))))))
theorem sig_19 : sigOf Try.prog md 19 [] = some ([.st [(.sl [(.int .i64), (.int .i64), (.int .i64), (.int .i64), (.int .i64), (.int .i64), (.int .i64), (.int .i64), (.int .i64), (.int .i64), (.int .i64), .bool, .bool]), (.sl [(.int .i64), (.int .i64), .bool]), (.int .i64), (.int .i64)], .st [(.sl [(.int .i64), (.int .i64), (.int .i64), (.int .i64), (.int .i64), (.int .i64), (.int .i64), (.int .i64), (.int .i64), (.int .i64), (.int .i64), .bool, .bool]), (.sl [(.int .i64), (.int .i64), .bool]), (.int .i64), (.int .i64)]], [.sc .bool], tree_19) := by kernel_rfl
/- spec.BentOf -/
def tree_16 : T :=
(.loop 0 [(.int 0), (.int 0)]
 (.know (.o1 (.fld 0) (.var 0))
 (.br (.o2 .lt (.var 3) (.o1 .len (.o1 (.fld 0) (.var 0))))
  (.need [] (.o2 .le (.int 0) (.var 3))
  (.need [] (.o2 .lt (.var 3) (.o1 .len (.o1 (.fld 0) (.var 0))))
  (.need [((.o2 .eq (.o1 (.fld 3) (.o2 .idx (.o1 (.fld 0) (.var 0)) (.var 3))) (.int 2)), true)] (.o2 .le (.int 0) (.var 3))
  (.need [((.o2 .eq (.o1 (.fld 3) (.o2 .idx (.o1 (.fld 0) (.var 0)) (.var 3))) (.int 2)), true)] (.o2 .lt (.var 3) (.o1 .len (.o1 (.fld 0) (.var 0))))
  (.need [((.o2 .band (.o2 .eq (.o1 (.fld 3) (.o2 .idx (.o1 (.fld 0) (.var 0)) (.var 3))) (.int 2)) (.o2 .eq (.o1 (.fld 2) (.o2 .idx (.o1 (.fld 0) (.var 0)) (.var 3))) (.var 1))), true)] (.o2 .le (.int 0) (.var 3))
  (.need [((.o2 .band (.o2 .eq (.o1 (.fld 3) (.o2 .idx (.o1 (.fld 0) (.var 0)) (.var 3))) (.int 2)) (.o2 .eq (.o1 (.fld 2) (.o2 .idx (.o1 (.fld 0) (.var 0)) (.var 3))) (.var 1))), true)] (.o2 .lt (.var 3) (.o1 .len (.o1 (.fld 0) (.var 0))))
  (.br (.o2 .band (.o2 .band (.o2 .eq (.o1 (.fld 3) (.o2 .idx (.o1 (.fld 0) (.var 0)) (.var 3))) (.int 2)) (.o2 .eq (.o1 (.fld 2) (.o2 .idx (.o1 (.fld 0) (.var 0)) (.var 3))) (.var 1))) (.o1 (.fld 12) (.o2 .idx (.o1 (.fld 0) (.var 0)) (.var 3))))
   (.cont 0 [(.o2 (.add .i64) (.var 2) (.int 1)), (.o2 (.add .i64) (.var 3) (.int 1))])
   (.cont 0 [(.var 2), (.o2 (.add .i64) (.var 3) (.int 1))]))))))))
  (.ret [(.var 2)]))))
theorem sig_16 : sigOf Try.prog md 16 [] = some ([.st [(.sl [(.int .i64), (.int .i64), (.int .i64), (.int .i64), (.int .i64), (.int .i64), (.int .i64), (.int .i64), (.int .i64), (.int .i64), (.int .i64), .bool, .bool]), (.sl [(.int .i64), (.int .i64), .bool]), (.int .i64), (.int .i64)], .sc (.int .i64)], [.sc (.int .i64)], tree_16) := by kernel_rfl
/- spec.l1In -/
def tree_64 : T :=
(.ret [(.o2 .band (.o2 .ge (.var 0) (.var 1)) (.o2 .le (.var 0) (.var 2)))])
theorem sig_64 : sigOf Try.prog md 64 [] = some ([.sc (.int .i64), .sc (.int .i64), .sc (.int .i64)], [.sc .bool], tree_64) := by kernel_rfl
/- spec.GuardOk -/
def tree_66 : T :=
(.br (.o2 .eq (.o1 (.fld 0) (.var 0)) (.int 0))
 (.br (.o2 .eq (.o1 (.fld 0) (.var 0)) (.int 0))
  (.ret [(.o2 .eq (.o1 (.fld 1) (.var 0)) (.int 0))])
  (.br (.o2 .eq (.o1 (.fld 0) (.var 0)) (.int 1))
   (.call [] (.fn 64) [.sc (.int .i64) (.o1 (.fld 1) (.var 0)), .sc (.int .i64) (.int (-2147483647)), .sc (.int .i64) (.int 2147483647)] [.sc .bool]
   (.ret [(.var 1)]))
   (.call [((.o2 .bor (.o2 .eq (.o1 (.fld 0) (.var 0)) (.int 2)) (.o2 .eq (.o1 (.fld 0) (.var 0)) (.int 4))), true)] (.fn 64) [.sc (.int .i64) (.o1 (.fld 1) (.var 0)), .sc (.int .i64) (.int 0), .sc (.int .i64) (.int 8)] [.sc .bool]
   (.ret [(.o2 .band (.o2 .bor (.o2 .eq (.o1 (.fld 0) (.var 0)) (.int 2)) (.o2 .eq (.o1 (.fld 0) (.var 0)) (.int 4))) (.var 1))]))))
 (.br (.o2 .eq (.o1 (.fld 0) (.var 0)) (.int 3))
  (.ret [(.o2 .eq (.o1 (.fld 1) (.var 0)) (.int 0))])
  (.br (.o2 .eq (.o1 (.fld 0) (.var 0)) (.int 1))
   (.call [] (.fn 64) [.sc (.int .i64) (.o1 (.fld 1) (.var 0)), .sc (.int .i64) (.int (-2147483647)), .sc (.int .i64) (.int 2147483647)] [.sc .bool]
   (.ret [(.var 1)]))
   (.call [((.o2 .bor (.o2 .eq (.o1 (.fld 0) (.var 0)) (.int 2)) (.o2 .eq (.o1 (.fld 0) (.var 0)) (.int 4))), true)] (.fn 64) [.sc (.int .i64) (.o1 (.fld 1) (.var 0)), .sc (.int .i64) (.int 0), .sc (.int .i64) (.int 8)] [.sc .bool]
   (.ret [(.o2 .band (.o2 .bor (.o2 .eq (.o1 (.fld 0) (.var 0)) (.int 2)) (.o2 .eq (.o1 (.fld 0) (.var 0)) (.int 4))) (.var 1))])))))
theorem sig_66 : sigOf Try.prog md 66 [] = some ([.st [(.int .i64), (.int .i64)]], [.sc .bool], tree_66) := by kernel_rfl
/- spec.l8Many -/
def tree_67 : T :=
(.loop 0 [(.int 0), (.int 0)]
 (.know (.o1 (.fld 0) (.var 0))
 (.br (.o2 .lt (.var 3) (.o1 .len (.o1 (.fld 0) (.var 0))))
  (.need [] (.o2 .le (.int 0) (.var 3))
  (.need [] (.o2 .lt (.var 3) (.o1 .len (.o1 (.fld 0) (.var 0))))
  (.need [((.o2 .eq (.o1 (.fld 3) (.o2 .idx (.o1 (.fld 0) (.var 0)) (.var 3))) (.int 2)), true)] (.o2 .le (.int 0) (.var 3))
  (.need [((.o2 .eq (.o1 (.fld 3) (.o2 .idx (.o1 (.fld 0) (.var 0)) (.var 3))) (.int 2)), true)] (.o2 .lt (.var 3) (.o1 .len (.o1 (.fld 0) (.var 0))))
  (.br (.o2 .band (.o2 .eq (.o1 (.fld 3) (.o2 .idx (.o1 (.fld 0) (.var 0)) (.var 3))) (.int 2)) (.o2 .eq (.o1 (.fld 2) (.o2 .idx (.o1 (.fld 0) (.var 0)) (.var 3))) (.var 1)))
   (.cont 0 [(.o2 (.add .i64) (.var 2) (.int 1)), (.o2 (.add .i64) (.var 3) (.int 1))])
   (.cont 0 [(.var 2), (.o2 (.add .i64) (.var 3) (.int 1))]))))))
  (.ret [(.var 2)]))))
theorem sig_67 : sigOf Try.prog md 67 [] = some ([.st [(.sl [(.int .i64), (.int .i64), (.int .i64), (.int .i64), (.int .i64), (.int .i64), (.int .i64), (.int .i64), (.int .i64), (.int .i64), (.int .i64), .bool, .bool]), (.sl [(.int .i64), (.int .i64), .bool]), (.int .i64), (.int .i64)], .sc (.int .i64)], [.sc (.int .i64)], tree_67) := by kernel_rfl
/- spec.Holds -/
def tree_31 : T :=
(.call [] (.fn 66) [.st [(.int .i64), (.int .i64)] (.o2 .cons (.o1 (.fld 0) (.var 2)) (.o2 .cons (.o1 (.fld 1) (.var 2)) .nil))] [.sc .bool]
(.call [((.o1 .not (.var 3)), false)] (.fn 64) [.sc (.int .i64) (.var 1), .sc (.int .i64) (.int 0), .sc (.int .i64) (.o2 (.sub .i64) (.o1 .len (.o1 (.fld 1) (.var 0))) (.int 1))] [.sc .bool]
(.br (.o2 .bor (.o1 .not (.var 3)) (.o1 .not (.var 4)))
 (.ret [(.bool false)])
 (.br (.o2 .eq (.o1 (.fld 0) (.var 2)) (.int 1))
  (.need [] (.o2 .le (.int 0) (.var 1))
  (.need [] (.o2 .lt (.var 1) (.o1 .len (.o1 (.fld 1) (.var 0))))
  (.ret [(.o2 .le (.o1 (.fld 0) (.o2 .idx (.o1 (.fld 1) (.var 0)) (.var 1))) (.o1 (.fld 1) (.var 2)))])))
  (.br (.o2 .eq (.o1 (.fld 0) (.var 2)) (.int 2))
   (.call [] (.fn 67) [.st [(.sl [(.int .i64), (.int .i64), (.int .i64), (.int .i64), (.int .i64), (.int .i64), (.int .i64), (.int .i64), (.int .i64), (.int .i64), (.int .i64), .bool, .bool]), (.sl [(.int .i64), (.int .i64), .bool]), (.int .i64), (.int .i64)] (.o2 .cons (.o1 (.fld 0) (.var 0)) (.o2 .cons (.o1 (.fld 1) (.var 0)) (.o2 .cons (.o1 (.fld 2) (.var 0)) (.o2 .cons (.o1 (.fld 3) (.var 0)) .nil)))), .sc (.int .i64) (.var 1)] [.sc (.int .i64)]
   (.ret [(.o2 .ge (.var 5) (.o1 (.fld 1) (.var 2)))]))
   (.br (.o2 .eq (.o1 (.fld 0) (.var 2)) (.int 3))
    (.ret [(.o2 .eq (.o1 (.fld 2) (.var 0)) (.var 1))])
    (.br (.o2 .eq (.o1 (.fld 0) (.var 2)) (.int 4))
     (.call [] (.fn 16) [.st [(.sl [(.int .i64), (.int .i64), (.int .i64), (.int .i64), (.int .i64), (.int .i64), (.int .i64), (.int .i64), (.int .i64), (.int .i64), (.int .i64), .bool, .bool]), (.sl [(.int .i64), (.int .i64), .bool]), (.int .i64), (.int .i64)] (.o2 .cons (.o1 (.fld 0) (.var 0)) (.o2 .cons (.o1 (.fld 1) (.var 0)) (.o2 .cons (.o1 (.fld 2) (.var 0)) (.o2 .cons (.o1 (.fld 3) (.var 0)) .nil)))), .sc (.int .i64) (.var 1)] [.sc (.int .i64)]
     (.ret [(.o2 .ge (.var 5) (.o1 (.fld 1) (.var 2)))]))
     (.ret [(.bool true)]))))))))
theorem sig_31 : sigOf Try.prog md 31 [] = some ([.st [(.sl [(.int .i64), (.int .i64), (.int .i64), (.int .i64), (.int .i64), (.int .i64), (.int .i64), (.int .i64), (.int .i64), (.int .i64), (.int .i64), .bool, .bool]), (.sl [(.int .i64), (.int .i64), .bool]), (.int .i64), (.int .i64)], .sc (.int .i64), .st [(.int .i64), (.int .i64)]], [.sc .bool], tree_31) := by kernel_rfl
/- laws.toGuard -/
def tree_32 : T :=
(.ret [(.o2 .cons (.o1 (.fld 0) (.var 0)) (.o2 .cons (.o1 (.fld 1) (.var 0)) .nil))])
theorem sig_32 : sigOf Try.prog md 32 [] = some ([.st [(.int .i64), (.int .i64)]], [.st [(.int .i64), (.int .i64)]], tree_32) := by kernel_rfl
/- impl.BentOf -/
def tree_18 : T :=
(.know (.o1 (.fld 0) (.var 0))
(.loop 0 [(.int 0), (.int 0)]
 (.br (.o2 .lt (.var 3) (.o1 .len (.o1 (.fld 0) (.var 0))))
  (.need [] (.o2 .le (.int 0) (.var 3))
  (.need [] (.o2 .lt (.var 3) (.o1 .len (.o1 (.fld 0) (.var 0))))
  (.br (.o2 .band (.o2 .band (.o2 .eq (.o1 (.fld 3) (.o2 .idx (.o1 (.fld 0) (.var 0)) (.var 3))) (.int 2)) (.o2 .eq (.o1 (.fld 2) (.o2 .idx (.o1 (.fld 0) (.var 0)) (.var 3))) (.var 1))) (.o1 (.fld 12) (.o2 .idx (.o1 (.fld 0) (.var 0)) (.var 3))))
   (.cont 0 [(.o2 (.add .i64) (.var 2) (.int 1)), (.o2 (.add .i64) (.var 3) (.int 1))])
   (.cont 0 [(.var 2), (.o2 (.add .i64) (.var 3) (.int 1))]))))
  (.ret [(.var 2)]))))
theorem sig_18 : sigOf Try.prog md 18 [] = some ([.st [(.sl [(.int .i64), (.int .i64), (.int .i64), (.int .i64), (.int .i64), (.int .i64), (.int .i64), (.int .i64), (.int .i64), (.int .i64), (.int .i64), .bool, .bool]), (.sl [(.int .i64), (.int .i64), .bool]), (.int .i64), (.int .i64)], .sc (.int .i64)], [.sc (.int .i64)], tree_18) := by kernel_rfl
/- impl.from -/
def tree_81 : T :=
(.ret [(.o2 .band (.o2 .ge (.var 0) (.var 1)) (.o2 .le (.var 0) (.var 2)))])
theorem sig_81 : sigOf Try.prog md 81 [] = some ([.sc (.int .i64), .sc (.int .i64), .sc (.int .i64)], [.sc .bool], tree_81) := by kernel_rfl
/- impl.isSide -/
def tree_65 : T :=
(.know (.o1 (.fld 1) (.var 0))
(.call [] (.fn 81) [.sc (.int .i64) (.var 1), .sc (.int .i64) (.int 0), .sc (.int .i64) (.o2 (.sub .i64) (.o1 .len (.o1 (.fld 1) (.var 0))) (.int 1))] [.sc .bool]
(.ret [(.var 2)])))
theorem sig_65 : sigOf Try.prog md 65 [] = some ([.st [(.sl [(.int .i64), (.int .i64), (.int .i64), (.int .i64), (.int .i64), (.int .i64), (.int .i64), (.int .i64), (.int .i64), (.int .i64), (.int .i64), .bool, .bool]), (.sl [(.int .i64), (.int .i64), .bool]), (.int .i64), (.int .i64)], .sc (.int .i64)], [.sc .bool], tree_65) := by kernel_rfl
/- impl.Bound -/
def tree_99 : T :=
(.ret [(.o2 .max (.int (-2147483647)) (.o2 .min (.var 0) (.int 2147483647)))])
theorem sig_99 : sigOf Try.prog md 99 [] = some ([.sc (.int .i64)], [.sc (.int .i64)], tree_99) := by kernel_rfl
/- impl.GuardOk -/
def tree_68 : T :=
(.br (.o2 .eq (.o1 (.fld 0) (.var 0)) (.int 0))
 (.br (.o2 .eq (.o1 (.fld 0) (.var 0)) (.int 0))
  (.ret [(.o2 .eq (.o1 (.fld 1) (.var 0)) (.int 0))])
  (.br (.o2 .eq (.o1 (.fld 0) (.var 0)) (.int 1))
   (.call [] (.fn 99) [.sc (.int .i64) (.o1 (.fld 1) (.var 0))] [.sc (.int .i64)]
   (.ret [(.o2 .eq (.var 1) (.o1 (.fld 1) (.var 0)))]))
   (.br (.o2 .eq (.o1 (.fld 0) (.var 0)) (.int 2))
    (.br (.o2 .eq (.o1 (.fld 0) (.var 0)) (.int 2))
     (.call [] (.fn 81) [.sc (.int .i64) (.o1 (.fld 1) (.var 0)), .sc (.int .i64) (.int 0), .sc (.int .i64) (.int 8)] [.sc .bool]
     (.ret [(.var 1)]))
     (.ret [(.bool false)]))
    (.br (.o2 .eq (.o1 (.fld 0) (.var 0)) (.int 4))
     (.call [] (.fn 81) [.sc (.int .i64) (.o1 (.fld 1) (.var 0)), .sc (.int .i64) (.int 0), .sc (.int .i64) (.int 8)] [.sc .bool]
     (.ret [(.var 1)]))
     (.ret [(.bool false)])))))
 (.br (.o2 .eq (.o1 (.fld 0) (.var 0)) (.int 3))
  (.ret [(.o2 .eq (.o1 (.fld 1) (.var 0)) (.int 0))])
  (.br (.o2 .eq (.o1 (.fld 0) (.var 0)) (.int 1))
   (.call [] (.fn 99) [.sc (.int .i64) (.o1 (.fld 1) (.var 0))] [.sc (.int .i64)]
   (.ret [(.o2 .eq (.var 1) (.o1 (.fld 1) (.var 0)))]))
   (.br (.o2 .eq (.o1 (.fld 0) (.var 0)) (.int 2))
    (.br (.o2 .eq (.o1 (.fld 0) (.var 0)) (.int 2))
     (.call [] (.fn 81) [.sc (.int .i64) (.o1 (.fld 1) (.var 0)), .sc (.int .i64) (.int 0), .sc (.int .i64) (.int 8)] [.sc .bool]
     (.ret [(.var 1)]))
     (.ret [(.bool false)]))
    (.br (.o2 .eq (.o1 (.fld 0) (.var 0)) (.int 4))
     (.call [] (.fn 81) [.sc (.int .i64) (.o1 (.fld 1) (.var 0)), .sc (.int .i64) (.int 0), .sc (.int .i64) (.int 8)] [.sc .bool]
     (.ret [(.var 1)]))
     (.ret [(.bool false)]))))))
theorem sig_68 : sigOf Try.prog md 68 [] = some ([.st [(.int .i64), (.int .i64)]], [.sc .bool], tree_68) := by kernel_rfl
/- impl.OnField -/
def tree_69 : T :=
(.know (.o1 (.fld 0) (.var 0))
(.loop 0 [(.int 0), .nil]
 (.br (.o2 .lt (.var 2) (.o1 .len (.o1 (.fld 0) (.var 0))))
  (.need [] (.o2 .le (.int 0) (.var 2))
  (.need [] (.o2 .lt (.var 2) (.o1 .len (.o1 (.fld 0) (.var 0))))
  (.br (.o2 .band (.o2 .eq (.o1 (.fld 3) (.o2 .idx (.o1 (.fld 0) (.var 0)) (.var 2))) (.int 2)) (.o2 .bor (.o2 .eq (.var 1) (.int (-1))) (.o2 .eq (.o1 (.fld 2) (.o2 .idx (.o1 (.fld 0) (.var 0)) (.var 2))) (.var 1))))
   (.need [] (.o2 (.fits 8) (.o1 .len (.var 3)) (.o1 .len (.o2 .cons (.o2 .cons (.o1 (.fld 0) (.o2 .idx (.o1 (.fld 0) (.var 0)) (.var 2))) .nil) .nil)))
   (.cont 0 [(.o2 (.add .i64) (.var 2) (.int 1)), (.o2 .app (.var 3) (.o2 .cons (.o2 .cons (.o1 (.fld 0) (.o2 .idx (.o1 (.fld 0) (.var 0)) (.var 2))) .nil) .nil))]))
   (.cont 0 [(.o2 (.add .i64) (.var 2) (.int 1)), (.var 3)]))))
  (.ret [(.var 3)]))))
theorem sig_69 : sigOf Try.prog md 69 [] = some ([.st [(.sl [(.int .i64), (.int .i64), (.int .i64), (.int .i64), (.int .i64), (.int .i64), (.int .i64), (.int .i64), (.int .i64), (.int .i64), (.int .i64), .bool, .bool]), (.sl [(.int .i64), (.int .i64), .bool]), (.int .i64), (.int .i64)], .sc (.int .i64)], [.sc (.sl [(.int .i64)])], tree_69) := by kernel_rfl
/- impl.Holds -/
def tree_33 : T :=
(.call [] (.fn 68) [.st [(.int .i64), (.int .i64)] (.o2 .cons (.o1 (.fld 0) (.var 2)) (.o2 .cons (.o1 (.fld 1) (.var 2)) .nil))] [.sc .bool]
(.call [((.o1 .not (.var 3)), false)] (.fn 65) [.st [(.sl [(.int .i64), (.int .i64), (.int .i64), (.int .i64), (.int .i64), (.int .i64), (.int .i64), (.int .i64), (.int .i64), (.int .i64), (.int .i64), .bool, .bool]), (.sl [(.int .i64), (.int .i64), .bool]), (.int .i64), (.int .i64)] (.o2 .cons (.o1 (.fld 0) (.var 0)) (.o2 .cons (.o1 (.fld 1) (.var 0)) (.o2 .cons (.o1 (.fld 2) (.var 0)) (.o2 .cons (.o1 (.fld 3) (.var 0)) .nil)))), .sc (.int .i64) (.var 1)] [.sc .bool]
(.br (.o2 .bor (.o1 .not (.var 3)) (.o1 .not (.var 4)))
 (.ret [(.bool false)])
 (.br (.o2 .eq (.o1 (.fld 0) (.var 2)) (.int 1))
  (.need [] (.o2 .le (.int 0) (.var 1))
  (.need [] (.o2 .lt (.var 1) (.o1 .len (.o1 (.fld 1) (.var 0))))
  (.ret [(.o2 .le (.o1 (.fld 0) (.o2 .idx (.o1 (.fld 1) (.var 0)) (.var 1))) (.o1 (.fld 1) (.var 2)))])))
  (.br (.o2 .eq (.o1 (.fld 0) (.var 2)) (.int 2))
   (.call [] (.fn 69) [.st [(.sl [(.int .i64), (.int .i64), (.int .i64), (.int .i64), (.int .i64), (.int .i64), (.int .i64), (.int .i64), (.int .i64), (.int .i64), (.int .i64), .bool, .bool]), (.sl [(.int .i64), (.int .i64), .bool]), (.int .i64), (.int .i64)] (.o2 .cons (.o1 (.fld 0) (.var 0)) (.o2 .cons (.o1 (.fld 1) (.var 0)) (.o2 .cons (.o1 (.fld 2) (.var 0)) (.o2 .cons (.o1 (.fld 3) (.var 0)) .nil)))), .sc (.int .i64) (.var 1)] [.sc (.sl [(.int .i64)])]
   (.know (.var 5)
   (.ret [(.o2 .ge (.o1 .len (.var 5)) (.o1 (.fld 1) (.var 2)))])))
   (.br (.o2 .eq (.o1 (.fld 0) (.var 2)) (.int 3))
    (.ret [(.o2 .eq (.o1 (.fld 2) (.var 0)) (.var 1))])
    (.br (.o2 .eq (.o1 (.fld 0) (.var 2)) (.int 4))
     (.call [] (.fn 18) [.st [(.sl [(.int .i64), (.int .i64), (.int .i64), (.int .i64), (.int .i64), (.int .i64), (.int .i64), (.int .i64), (.int .i64), (.int .i64), (.int .i64), .bool, .bool]), (.sl [(.int .i64), (.int .i64), .bool]), (.int .i64), (.int .i64)] (.o2 .cons (.o1 (.fld 0) (.var 0)) (.o2 .cons (.o1 (.fld 1) (.var 0)) (.o2 .cons (.o1 (.fld 2) (.var 0)) (.o2 .cons (.o1 (.fld 3) (.var 0)) .nil)))), .sc (.int .i64) (.var 1)] [.sc (.int .i64)]
     (.ret [(.o2 .ge (.var 5) (.o1 (.fld 1) (.var 2)))]))
     (.ret [(.bool true)]))))))))
theorem sig_33 : sigOf Try.prog md 33 [] = some ([.st [(.sl [(.int .i64), (.int .i64), (.int .i64), (.int .i64), (.int .i64), (.int .i64), (.int .i64), (.int .i64), (.int .i64), (.int .i64), (.int .i64), .bool, .bool]), (.sl [(.int .i64), (.int .i64), .bool]), (.int .i64), (.int .i64)], .sc (.int .i64), .st [(.int .i64), (.int .i64)]], [.sc .bool], tree_33) := by kernel_rfl
/- laws.FnExactHolds -/
def tree_8 : T :=
(.call [] (.fn 15) [.st [(.sl [(.int .i64), (.int .i64), (.int .i64), (.int .i64), (.int .i64), (.int .i64), (.int .i64), (.int .i64), (.int .i64), (.int .i64), (.int .i64), .bool, .bool]), (.sl [(.int .i64), (.int .i64), .bool]), (.int .i64), (.int .i64)] (.o2 .cons (.o1 (.fld 0) (.var 0)) (.o2 .cons (.o1 (.fld 1) (.var 0)) (.o2 .cons (.o1 (.fld 2) (.var 0)) (.o2 .cons (.o1 (.fld 3) (.var 0)) .nil)))), .sc (.int .i64) (.int 1048576)] [.sc (.int .i64)]
(.br (.o2 .lt (.var 3) (.int 0))
 (.ret [(.bool true)])
 (.call [] (.fn 17) [.st [(.sl [(.int .i64), (.int .i64), (.int .i64), (.int .i64), (.int .i64), (.int .i64), (.int .i64), (.int .i64), (.int .i64), (.int .i64), (.int .i64), .bool, .bool]), (.sl [(.int .i64), (.int .i64), .bool]), (.int .i64), (.int .i64)] (.o2 .cons (.o1 (.fld 0) (.var 0)) (.o2 .cons (.o1 (.fld 1) (.var 0)) (.o2 .cons (.o1 (.fld 2) (.var 0)) (.o2 .cons (.o1 (.fld 3) (.var 0)) .nil))))] [.st [(.sl [(.int .i64), (.int .i64), (.int .i64), (.int .i64), (.int .i64), (.int .i64), (.int .i64), (.int .i64), (.int .i64), (.int .i64), (.int .i64), .bool, .bool]), (.sl [(.int .i64), (.int .i64), .bool]), (.int .i64), (.int .i64)]]
 (.call [] (.fn 32) [.st [(.int .i64), (.int .i64)] (.o2 .cons (.o1 (.fld 0) (.var 2)) (.o2 .cons (.o1 (.fld 1) (.var 2)) .nil))] [.st [(.int .i64), (.int .i64)]]
 (.call [] (.fn 31) [.st [(.sl [(.int .i64), (.int .i64), (.int .i64), (.int .i64), (.int .i64), (.int .i64), (.int .i64), (.int .i64), (.int .i64), (.int .i64), (.int .i64), .bool, .bool]), (.sl [(.int .i64), (.int .i64), .bool]), (.int .i64), (.int .i64)] (.o2 .cons (.o1 (.fld 0) (.var 4)) (.o2 .cons (.o1 (.fld 1) (.var 4)) (.o2 .cons (.o1 (.fld 2) (.var 4)) (.o2 .cons (.o1 (.fld 3) (.var 4)) .nil)))), .sc (.int .i64) (.var 1), .st [(.int .i64), (.int .i64)] (.o2 .cons (.o1 (.fld 0) (.var 5)) (.o2 .cons (.o1 (.fld 1) (.var 5)) .nil))] [.sc .bool]
 (.call [] (.fn 17) [.st [(.sl [(.int .i64), (.int .i64), (.int .i64), (.int .i64), (.int .i64), (.int .i64), (.int .i64), (.int .i64), (.int .i64), (.int .i64), (.int .i64), .bool, .bool]), (.sl [(.int .i64), (.int .i64), .bool]), (.int .i64), (.int .i64)] (.o2 .cons (.o1 (.fld 0) (.var 0)) (.o2 .cons (.o1 (.fld 1) (.var 0)) (.o2 .cons (.o1 (.fld 2) (.var 0)) (.o2 .cons (.o1 (.fld 3) (.var 0)) .nil))))] [.st [(.sl [(.int .i64), (.int .i64), (.int .i64), (.int .i64), (.int .i64), (.int .i64), (.int .i64), (.int .i64), (.int .i64), (.int .i64), (.int .i64), .bool, .bool]), (.sl [(.int .i64), (.int .i64), .bool]), (.int .i64), (.int .i64)]]
 (.call [] (.fn 32) [.st [(.int .i64), (.int .i64)] (.o2 .cons (.o1 (.fld 0) (.var 2)) (.o2 .cons (.o1 (.fld 1) (.var 2)) .nil))] [.st [(.int .i64), (.int .i64)]]
 (.call [] (.fn 33) [.st [(.sl [(.int .i64), (.int .i64), (.int .i64), (.int .i64), (.int .i64), (.int .i64), (.int .i64), (.int .i64), (.int .i64), (.int .i64), (.int .i64), .bool, .bool]), (.sl [(.int .i64), (.int .i64), .bool]), (.int .i64), (.int .i64)] (.o2 .cons (.o1 (.fld 0) (.var 7)) (.o2 .cons (.o1 (.fld 1) (.var 7)) (.o2 .cons (.o1 (.fld 2) (.var 7)) (.o2 .cons (.o1 (.fld 3) (.var 7)) .nil)))), .sc (.int .i64) (.var 1), .st [(.int .i64), (.int .i64)] (.o2 .cons (.o1 (.fld 0) (.var 8)) (.o2 .cons (.o1 (.fld 1) (.var 8)) .nil))] [.sc .bool]
 (.br (.o2 .bne (.var 9) (.var 6))
  (.ret [(.bool false)])
  (.call [] (.fn 17) [.st [(.sl [(.int .i64), (.int .i64), (.int .i64), (.int .i64), (.int .i64), (.int .i64), (.int .i64), (.int .i64), (.int .i64), (.int .i64), (.int .i64), .bool, .bool]), (.sl [(.int .i64), (.int .i64), .bool]), (.int .i64), (.int .i64)] (.o2 .cons (.o1 (.fld 0) (.var 0)) (.o2 .cons (.o1 (.fld 1) (.var 0)) (.o2 .cons (.o1 (.fld 2) (.var 0)) (.o2 .cons (.o1 (.fld 3) (.var 0)) .nil))))] [.st [(.sl [(.int .i64), (.int .i64), (.int .i64), (.int .i64), (.int .i64), (.int .i64), (.int .i64), (.int .i64), (.int .i64), (.int .i64), (.int .i64), .bool, .bool]), (.sl [(.int .i64), (.int .i64), .bool]), (.int .i64), (.int .i64)]]
  (.call [] (.fn 19) [.st [(.sl [(.int .i64), (.int .i64), (.int .i64), (.int .i64), (.int .i64), (.int .i64), (.int .i64), (.int .i64), (.int .i64), (.int .i64), (.int .i64), .bool, .bool]), (.sl [(.int .i64), (.int .i64), .bool]), (.int .i64), (.int .i64)] (.o2 .cons (.o1 (.fld 0) (.var 7)) (.o2 .cons (.o1 (.fld 1) (.var 7)) (.o2 .cons (.o1 (.fld 2) (.var 7)) (.o2 .cons (.o1 (.fld 3) (.var 7)) .nil)))), .st [(.sl [(.int .i64), (.int .i64), (.int .i64), (.int .i64), (.int .i64), (.int .i64), (.int .i64), (.int .i64), (.int .i64), (.int .i64), (.int .i64), .bool, .bool]), (.sl [(.int .i64), (.int .i64), .bool]), (.int .i64), (.int .i64)] (.o2 .cons (.o1 (.fld 0) (.var 10)) (.o2 .cons (.o1 (.fld 1) (.var 10)) (.o2 .cons (.o1 (.fld 2) (.var 10)) (.o2 .cons (.o1 (.fld 3) (.var 10)) .nil))))] [.sc .bool]
  (.br (.o1 .not (.var 11))
   (.ret [(.bool false)])
   (.ret [(.bool true)])))))))))))))
theorem sig_8 : sigOf Try.prog md 8 [] = some ([.st [(.sl [(.int .i64), (.int .i64), (.int .i64), (.int .i64), (.int .i64), (.int .i64), (.int .i64), (.int .i64), (.int .i64), (.int .i64), (.int .i64), .bool, .bool]), (.sl [(.int .i64), (.int .i64), .bool]), (.int .i64), (.int .i64)], .sc (.int .i64), .st [(.int .i64), (.int .i64)]], [.sc .bool], tree_8) := by kernel_rfl
theorem mix : Try.prog.follows .mixedOrders = true := by kernel_rfl
end Go.Proofs.Ytbfhdfpbijpbbaa
