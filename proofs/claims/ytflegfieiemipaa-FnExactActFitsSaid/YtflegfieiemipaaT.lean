/- The trees of the functions that this claim reaches. -/
import Derived.Test.YtflegfieiemipaaRows
import Derived.Test.YtflegfieiemipaaE6
import Derived.KernelRfl
namespace Go.Proofs.Ytflegfieiemipaa
open Go.Proofs.Ytflegfieiemipaa.Eng
def md : Modes := ⟨[(30, 0)], [], []⟩
/- laws.szEventS -/
def tree_36 : T :=
(.know (.var 0)
(.br (.o2 .lt (.o2 (.sub .i64) (.var 1) (.o1 .len (.var 0))) (.int 0))
 (.ret [(.int (-1))])
 (.ret [(.o2 (.sub .i64) (.var 1) (.o1 .len (.var 0)))])))
theorem sig_36 : sigOf Try.prog md 36 [] = some ([.sc (.sl [(.int .i64), (.int .i64), (.int .i64), (.int .i64), (.int .i64), (.int .i64), .bool]), .sc (.int .i64)], [.sc (.int .i64)], tree_36) := by kernel_rfl
/- laws.szAct -/
def tree_46 : T :=
(.call [] (.fn 36) [.sc (.sl [(.int .i64), (.int .i64), (.int .i64), (.int .i64), (.int .i64), (.int .i64), .bool]) (.o1 (.fld 6) (.var 0)), .sc (.int .i64) (.var 1)] [.sc (.int .i64)]
(.br (.o2 .lt (.var 2) (.int 0))
 (.ret [(.int (-1))])
 (.ret [(.var 2)])))
theorem sig_46 : sigOf Try.prog md 46 [] = some ([.st [(.int .i64), (.int .i64), (.int .i64), (.int .i64), (.int .i64), .bool, (.sl [(.int .i64), (.int .i64), (.int .i64), (.int .i64), (.int .i64), (.int .i64), .bool])], .sc (.int .i64)], [.sc (.int .i64)], tree_46) := by kernel_rfl
/- spec.l1In -/
def tree_55 : T :=
(.ret [(.o2 .band (.o2 .ge (.var 0) (.var 1)) (.o2 .le (.var 0) (.var 2)))])
theorem sig_55 : sigOf Try.prog md 55 [] = some ([.sc (.int .i64), .sc (.int .i64), .sc (.int .i64)], [.sc .bool], tree_55) := by kernel_rfl
/- spec.ActFits -/
def tree_47 : T :=
(.call [] (.fn 55) [.sc (.int .i64) (.var 1), .sc (.int .i64) (.int 1), .sc (.int .i64) (.int 6)] [.sc .bool]
(.br (.o1 .not (.var 2))
 (.ret [(.bool false)])
 (.br (.o2 .eq (.o1 (.fld 0) (.var 0)) (.int 2))
  (.br (.o2 .eq (.o1 (.fld 0) (.var 0)) (.int 2))
   (.ret [(.o2 .eq (.var 1) (.int 1))])
   (.br (.o2 .eq (.o1 (.fld 0) (.var 0)) (.int 3))
    (.br (.o2 .eq (.o1 (.fld 0) (.var 0)) (.int 3))
     (.ret [(.o2 .ne (.var 1) (.int 2))])
     (.br (.o2 .eq (.o1 (.fld 0) (.var 0)) (.int 7))
      (.br (.o2 .eq (.o1 (.fld 0) (.var 0)) (.int 7))
       (.ret [(.o2 .eq (.var 1) (.int 2))])
       (.ret [(.o2 .bor (.o2 .eq (.o1 (.fld 0) (.var 0)) (.int 1)) (.o2 .eq (.o1 (.fld 0) (.var 0)) (.int 9)))]))
      (.br (.o2 .eq (.o1 (.fld 0) (.var 0)) (.int 8))
       (.ret [(.o2 .eq (.var 1) (.int 2))])
       (.ret [(.o2 .bor (.o2 .eq (.o1 (.fld 0) (.var 0)) (.int 1)) (.o2 .eq (.o1 (.fld 0) (.var 0)) (.int 9)))]))))
    (.br (.o2 .eq (.o1 (.fld 0) (.var 0)) (.int 4))
     (.br (.o2 .eq (.o1 (.fld 0) (.var 0)) (.int 4))
      (.ret [(.o2 .ne (.var 1) (.int 2))])
      (.br (.o2 .eq (.o1 (.fld 0) (.var 0)) (.int 7))
       (.br (.o2 .eq (.o1 (.fld 0) (.var 0)) (.int 7))
        (.ret [(.o2 .eq (.var 1) (.int 2))])
        (.ret [(.o2 .bor (.o2 .eq (.o1 (.fld 0) (.var 0)) (.int 1)) (.o2 .eq (.o1 (.fld 0) (.var 0)) (.int 9)))]))
       (.br (.o2 .eq (.o1 (.fld 0) (.var 0)) (.int 8))
        (.ret [(.o2 .eq (.var 1) (.int 2))])
        (.ret [(.o2 .bor (.o2 .eq (.o1 (.fld 0) (.var 0)) (.int 1)) (.o2 .eq (.o1 (.fld 0) (.var 0)) (.int 9)))]))))
     (.br (.o2 .eq (.o1 (.fld 0) (.var 0)) (.int 5))
      (.ret [(.o2 .ne (.var 1) (.int 2))])
      (.br (.o2 .eq (.o1 (.fld 0) (.var 0)) (.int 7))
       (.br (.o2 .eq (.o1 (.fld 0) (.var 0)) (.int 7))
        (.ret [(.o2 .eq (.var 1) (.int 2))])
        (.ret [(.o2 .bor (.o2 .eq (.o1 (.fld 0) (.var 0)) (.int 1)) (.o2 .eq (.o1 (.fld 0) (.var 0)) (.int 9)))]))
       (.br (.o2 .eq (.o1 (.fld 0) (.var 0)) (.int 8))
        (.ret [(.o2 .eq (.var 1) (.int 2))])
        (.ret [(.o2 .bor (.o2 .eq (.o1 (.fld 0) (.var 0)) (.int 1)) (.o2 .eq (.o1 (.fld 0) (.var 0)) (.int 9)))])))))))
  (.br (.o2 .eq (.o1 (.fld 0) (.var 0)) (.int 6))
   (.ret [(.o2 .eq (.var 1) (.int 1))])
   (.br (.o2 .eq (.o1 (.fld 0) (.var 0)) (.int 3))
    (.br (.o2 .eq (.o1 (.fld 0) (.var 0)) (.int 3))
     (.ret [(.o2 .ne (.var 1) (.int 2))])
     (.br (.o2 .eq (.o1 (.fld 0) (.var 0)) (.int 7))
      (.br (.o2 .eq (.o1 (.fld 0) (.var 0)) (.int 7))
       (.ret [(.o2 .eq (.var 1) (.int 2))])
       (.ret [(.o2 .bor (.o2 .eq (.o1 (.fld 0) (.var 0)) (.int 1)) (.o2 .eq (.o1 (.fld 0) (.var 0)) (.int 9)))]))
      (.br (.o2 .eq (.o1 (.fld 0) (.var 0)) (.int 8))
       (.ret [(.o2 .eq (.var 1) (.int 2))])
       (.ret [(.o2 .bor (.o2 .eq (.o1 (.fld 0) (.var 0)) (.int 1)) (.o2 .eq (.o1 (.fld 0) (.var 0)) (.int 9)))]))))
    (.br (.o2 .eq (.o1 (.fld 0) (.var 0)) (.int 4))
     (.br (.o2 .eq (.o1 (.fld 0) (.var 0)) (.int 4))
      (.ret [(.o2 .ne (.var 1) (.int 2))])
      (.br (.o2 .eq (.o1 (.fld 0) (.var 0)) (.int 7))
       (.br (.o2 .eq (.o1 (.fld 0) (.var 0)) (.int 7))
        (.ret [(.o2 .eq (.var 1) (.int 2))])
        (.ret [(.o2 .bor (.o2 .eq (.o1 (.fld 0) (.var 0)) (.int 1)) (.o2 .eq (.o1 (.fld 0) (.var 0)) (.int 9)))]))
       (.br (.o2 .eq (.o1 (.fld 0) (.var 0)) (.int 8))
        (.ret [(.o2 .eq (.var 1) (.int 2))])
        (.ret [(.o2 .bor (.o2 .eq (.o1 (.fld 0) (.var 0)) (.int 1)) (.o2 .eq (.o1 (.fld 0) (.var 0)) (.int 9)))]))))
     (.br (.o2 .eq (.o1 (.fld 0) (.var 0)) (.int 5))
      (.ret [(.o2 .ne (.var 1) (.int 2))])
      (.br (.o2 .eq (.o1 (.fld 0) (.var 0)) (.int 7))
       (.br (.o2 .eq (.o1 (.fld 0) (.var 0)) (.int 7))
        (.ret [(.o2 .eq (.var 1) (.int 2))])
        (.ret [(.o2 .bor (.o2 .eq (.o1 (.fld 0) (.var 0)) (.int 1)) (.o2 .eq (.o1 (.fld 0) (.var 0)) (.int 9)))]))
       (.br (.o2 .eq (.o1 (.fld 0) (.var 0)) (.int 8))
        (.ret [(.o2 .eq (.var 1) (.int 2))])
        (.ret [(.o2 .bor (.o2 .eq (.o1 (.fld 0) (.var 0)) (.int 1)) (.o2 .eq (.o1 (.fld 0) (.var 0)) (.int 9)))]))))))))))
theorem sig_47 : sigOf Try.prog md 47 [] = some ([.st [(.int .i64), (.int .i64), (.int .i64), (.int .i64), (.int .i64), .bool, (.sl [(.int .i64), (.int .i64), (.int .i64), (.int .i64), (.int .i64), (.int .i64), .bool])], .sc (.int .i64)], [.sc .bool], tree_47) := by kernel_rfl
/- laws.toEvent -/
def tree_16 : T :=
(.ret [(.o2 .cons (.o1 (.fld 0) (.var 0)) (.o2 .cons (.o1 (.fld 1) (.var 0)) (.o2 .cons (.o1 (.fld 2) (.var 0)) (.o2 .cons (.o1 (.fld 3) (.var 0)) (.o2 .cons (.o1 (.fld 4) (.var 0)) (.o2 .cons (.o1 (.fld 5) (.var 0)) (.o2 .cons (.o1 (.fld 6) (.var 0)) .nil)))))))])
theorem sig_16 : sigOf Try.prog md 16 [] = some ([.st [(.int .i64), (.int .i64), (.int .i64), (.int .i64), (.int .i64), (.int .i64), .bool]], [.st [(.int .i64), (.int .i64), (.int .i64), (.int .i64), (.int .i64), (.int .i64), .bool]], tree_16) := by kernel_rfl
/- laws.toEventS -/
def tree_38 : T :=
(.know (.var 0)
(.need [] (.o2 .le (.int 0) (.o1 .len (.var 0)))
(.need [] (.o2 (.fits 56) (.o1 .len (.var 0)) (.int 0))
(.loop 0 [(.int 0), (.o2 .rep (.o1 .len (.var 0)) (.o2 .cons (.int 0) (.o2 .cons (.int 0) (.o2 .cons (.int 0) (.o2 .cons (.int 0) (.o2 .cons (.int 0) (.o2 .cons (.int 0) (.o2 .cons (.bool false) .nil))))))))]
 (.know (.var 0)
 (.br (.o2 .lt (.var 1) (.o1 .len (.var 0)))
  (.need [] (.o2 .le (.int 0) (.var 1))
  (.need [] (.o2 .lt (.var 1) (.o1 .len (.var 0)))
  (.call [] (.fn 16) [.st [(.int .i64), (.int .i64), (.int .i64), (.int .i64), (.int .i64), (.int .i64), .bool] (.o2 .cons (.o1 (.fld 0) (.o2 .idx (.var 0) (.var 1))) (.o2 .cons (.o1 (.fld 1) (.o2 .idx (.var 0) (.var 1))) (.o2 .cons (.o1 (.fld 2) (.o2 .idx (.var 0) (.var 1))) (.o2 .cons (.o1 (.fld 3) (.o2 .idx (.var 0) (.var 1))) (.o2 .cons (.o1 (.fld 4) (.o2 .idx (.var 0) (.var 1))) (.o2 .cons (.o1 (.fld 5) (.o2 .idx (.var 0) (.var 1))) (.o2 .cons (.o1 (.fld 6) (.o2 .idx (.var 0) (.var 1))) .nil)))))))] [.st [(.int .i64), (.int .i64), (.int .i64), (.int .i64), (.int .i64), (.int .i64), .bool]]
  (.need [] (.o2 .le (.int 0) (.var 1))
  (.need [] (.o2 .lt (.var 1) (.o1 .len (.var 2)))
  (.cont 0 [(.o2 (.add .i64) (.var 1) (.int 1)), (.o3 .setE (.var 2) (.var 1) (.o2 .cons (.o1 (.fld 0) (.var 3)) (.o2 .cons (.o1 (.fld 1) (.var 3)) (.o2 .cons (.o1 (.fld 2) (.var 3)) (.o2 .cons (.o1 (.fld 3) (.var 3)) (.o2 .cons (.o1 (.fld 4) (.var 3)) (.o2 .cons (.o1 (.fld 5) (.var 3)) (.o2 .cons (.o1 (.fld 6) (.var 3)) .nil))))))))]))))))
  (.ret [(.var 2)])))))))
theorem sig_38 : sigOf Try.prog md 38 [] = some ([.sc (.sl [(.int .i64), (.int .i64), (.int .i64), (.int .i64), (.int .i64), (.int .i64), .bool])], [.sc (.sl [(.int .i64), (.int .i64), (.int .i64), (.int .i64), (.int .i64), (.int .i64), .bool])], tree_38) := by kernel_rfl
/- laws.toAct -/
def tree_48 : T :=
(.call [] (.fn 38) [.sc (.sl [(.int .i64), (.int .i64), (.int .i64), (.int .i64), (.int .i64), (.int .i64), .bool]) (.o1 (.fld 6) (.var 0))] [.sc (.sl [(.int .i64), (.int .i64), (.int .i64), (.int .i64), (.int .i64), (.int .i64), .bool])]
(.ret [(.o2 .cons (.o1 (.fld 0) (.var 0)) (.o2 .cons (.o1 (.fld 1) (.var 0)) (.o2 .cons (.o1 (.fld 2) (.var 0)) (.o2 .cons (.o1 (.fld 3) (.var 0)) (.o2 .cons (.o1 (.fld 4) (.var 0)) (.o2 .cons (.o1 (.fld 5) (.var 0)) (.o2 .cons (.var 1) .nil)))))))]))
theorem sig_48 : sigOf Try.prog md 48 [] = some ([.st [(.int .i64), (.int .i64), (.int .i64), (.int .i64), (.int .i64), .bool, (.sl [(.int .i64), (.int .i64), (.int .i64), (.int .i64), (.int .i64), (.int .i64), .bool])]], [.st [(.int .i64), (.int .i64), (.int .i64), (.int .i64), (.int .i64), .bool, (.sl [(.int .i64), (.int .i64), (.int .i64), (.int .i64), (.int .i64), (.int .i64), .bool])]], tree_48) := by kernel_rfl
/- impl.from -/
def tree_57 : T :=
(.ret [(.o2 .band (.o2 .ge (.var 0) (.var 1)) (.o2 .le (.var 0) (.var 2)))])
theorem sig_57 : sigOf Try.prog md 57 [] = some ([.sc (.int .i64), .sc (.int .i64), .sc (.int .i64)], [.sc .bool], tree_57) := by kernel_rfl
/- impl.isKind -/
def tree_58 : T :=
(.call [] (.fn 57) [.sc (.int .i64) (.var 0), .sc (.int .i64) (.int 1), .sc (.int .i64) (.int 6)] [.sc .bool]
(.ret [(.var 1)]))
theorem sig_58 : sigOf Try.prog md 58 [] = some ([.sc (.int .i64)], [.sc .bool], tree_58) := by kernel_rfl
/- impl.ActFits -/
def tree_49 : T :=
(.call [] (.fn 58) [.sc (.int .i64) (.var 1)] [.sc .bool]
(.br (.o1 .not (.var 2))
 (.ret [(.bool false)])
 (.br (.o2 .eq (.o1 (.fld 0) (.var 0)) (.int 1))
  (.br (.o2 .eq (.o1 (.fld 0) (.var 0)) (.int 1))
   (.ret [(.bool true)])
   (.br (.o2 .eq (.o1 (.fld 0) (.var 0)) (.int 2))
    (.br (.o2 .eq (.o1 (.fld 0) (.var 0)) (.int 2))
     (.ret [(.o2 .eq (.var 1) (.int 1))])
     (.br (.o2 .eq (.o1 (.fld 0) (.var 0)) (.int 3))
      (.br (.o2 .eq (.o1 (.fld 0) (.var 0)) (.int 3))
       (.ret [(.o2 .ne (.var 1) (.int 2))])
       (.br (.o2 .eq (.o1 (.fld 0) (.var 0)) (.int 7))
        (.br (.o2 .eq (.o1 (.fld 0) (.var 0)) (.int 7))
         (.ret [(.o2 .eq (.var 1) (.int 2))])
         (.ret [(.bool false)]))
        (.br (.o2 .eq (.o1 (.fld 0) (.var 0)) (.int 8))
         (.ret [(.o2 .eq (.var 1) (.int 2))])
         (.ret [(.bool false)]))))
      (.br (.o2 .eq (.o1 (.fld 0) (.var 0)) (.int 4))
       (.br (.o2 .eq (.o1 (.fld 0) (.var 0)) (.int 4))
        (.ret [(.o2 .ne (.var 1) (.int 2))])
        (.br (.o2 .eq (.o1 (.fld 0) (.var 0)) (.int 7))
         (.br (.o2 .eq (.o1 (.fld 0) (.var 0)) (.int 7))
          (.ret [(.o2 .eq (.var 1) (.int 2))])
          (.ret [(.bool false)]))
         (.br (.o2 .eq (.o1 (.fld 0) (.var 0)) (.int 8))
          (.ret [(.o2 .eq (.var 1) (.int 2))])
          (.ret [(.bool false)]))))
       (.br (.o2 .eq (.o1 (.fld 0) (.var 0)) (.int 5))
        (.ret [(.o2 .ne (.var 1) (.int 2))])
        (.br (.o2 .eq (.o1 (.fld 0) (.var 0)) (.int 7))
         (.br (.o2 .eq (.o1 (.fld 0) (.var 0)) (.int 7))
          (.ret [(.o2 .eq (.var 1) (.int 2))])
          (.ret [(.bool false)]))
         (.br (.o2 .eq (.o1 (.fld 0) (.var 0)) (.int 8))
          (.ret [(.o2 .eq (.var 1) (.int 2))])
          (.ret [(.bool false)])))))))
    (.br (.o2 .eq (.o1 (.fld 0) (.var 0)) (.int 6))
     (.ret [(.o2 .eq (.var 1) (.int 1))])
     (.br (.o2 .eq (.o1 (.fld 0) (.var 0)) (.int 3))
      (.br (.o2 .eq (.o1 (.fld 0) (.var 0)) (.int 3))
       (.ret [(.o2 .ne (.var 1) (.int 2))])
       (.br (.o2 .eq (.o1 (.fld 0) (.var 0)) (.int 7))
        (.br (.o2 .eq (.o1 (.fld 0) (.var 0)) (.int 7))
         (.ret [(.o2 .eq (.var 1) (.int 2))])
         (.ret [(.bool false)]))
        (.br (.o2 .eq (.o1 (.fld 0) (.var 0)) (.int 8))
         (.ret [(.o2 .eq (.var 1) (.int 2))])
         (.ret [(.bool false)]))))
      (.br (.o2 .eq (.o1 (.fld 0) (.var 0)) (.int 4))
       (.br (.o2 .eq (.o1 (.fld 0) (.var 0)) (.int 4))
        (.ret [(.o2 .ne (.var 1) (.int 2))])
        (.br (.o2 .eq (.o1 (.fld 0) (.var 0)) (.int 7))
         (.br (.o2 .eq (.o1 (.fld 0) (.var 0)) (.int 7))
          (.ret [(.o2 .eq (.var 1) (.int 2))])
          (.ret [(.bool false)]))
         (.br (.o2 .eq (.o1 (.fld 0) (.var 0)) (.int 8))
          (.ret [(.o2 .eq (.var 1) (.int 2))])
          (.ret [(.bool false)]))))
       (.br (.o2 .eq (.o1 (.fld 0) (.var 0)) (.int 5))
        (.ret [(.o2 .ne (.var 1) (.int 2))])
        (.br (.o2 .eq (.o1 (.fld 0) (.var 0)) (.int 7))
         (.br (.o2 .eq (.o1 (.fld 0) (.var 0)) (.int 7))
          (.ret [(.o2 .eq (.var 1) (.int 2))])
          (.ret [(.bool false)]))
         (.br (.o2 .eq (.o1 (.fld 0) (.var 0)) (.int 8))
          (.ret [(.o2 .eq (.var 1) (.int 2))])
          (.ret [(.bool false)])))))))))
  (.br (.o2 .eq (.o1 (.fld 0) (.var 0)) (.int 9))
   (.ret [(.bool true)])
   (.br (.o2 .eq (.o1 (.fld 0) (.var 0)) (.int 2))
    (.br (.o2 .eq (.o1 (.fld 0) (.var 0)) (.int 2))
     (.ret [(.o2 .eq (.var 1) (.int 1))])
     (.br (.o2 .eq (.o1 (.fld 0) (.var 0)) (.int 3))
      (.br (.o2 .eq (.o1 (.fld 0) (.var 0)) (.int 3))
       (.ret [(.o2 .ne (.var 1) (.int 2))])
       (.br (.o2 .eq (.o1 (.fld 0) (.var 0)) (.int 7))
        (.br (.o2 .eq (.o1 (.fld 0) (.var 0)) (.int 7))
         (.ret [(.o2 .eq (.var 1) (.int 2))])
         (.ret [(.bool false)]))
        (.br (.o2 .eq (.o1 (.fld 0) (.var 0)) (.int 8))
         (.ret [(.o2 .eq (.var 1) (.int 2))])
         (.ret [(.bool false)]))))
      (.br (.o2 .eq (.o1 (.fld 0) (.var 0)) (.int 4))
       (.br (.o2 .eq (.o1 (.fld 0) (.var 0)) (.int 4))
        (.ret [(.o2 .ne (.var 1) (.int 2))])
        (.br (.o2 .eq (.o1 (.fld 0) (.var 0)) (.int 7))
         (.br (.o2 .eq (.o1 (.fld 0) (.var 0)) (.int 7))
          (.ret [(.o2 .eq (.var 1) (.int 2))])
          (.ret [(.bool false)]))
         (.br (.o2 .eq (.o1 (.fld 0) (.var 0)) (.int 8))
          (.ret [(.o2 .eq (.var 1) (.int 2))])
          (.ret [(.bool false)]))))
       (.br (.o2 .eq (.o1 (.fld 0) (.var 0)) (.int 5))
        (.ret [(.o2 .ne (.var 1) (.int 2))])
        (.br (.o2 .eq (.o1 (.fld 0) (.var 0)) (.int 7))
         (.br (.o2 .eq (.o1 (.fld 0) (.var 0)) (.int 7))
          (.ret [(.o2 .eq (.var 1) (.int 2))])
          (.ret [(.bool false)]))
         (.br (.o2 .eq (.o1 (.fld 0) (.var 0)) (.int 8))
          (.ret [(.o2 .eq (.var 1) (.int 2))])
          (.ret [(.bool false)])))))))
    (.br (.o2 .eq (.o1 (.fld 0) (.var 0)) (.int 6))
     (.ret [(.o2 .eq (.var 1) (.int 1))])
     (.br (.o2 .eq (.o1 (.fld 0) (.var 0)) (.int 3))
      (.br (.o2 .eq (.o1 (.fld 0) (.var 0)) (.int 3))
       (.ret [(.o2 .ne (.var 1) (.int 2))])
       (.br (.o2 .eq (.o1 (.fld 0) (.var 0)) (.int 7))
        (.br (.o2 .eq (.o1 (.fld 0) (.var 0)) (.int 7))
         (.ret [(.o2 .eq (.var 1) (.int 2))])
         (.ret [(.bool false)]))
        (.br (.o2 .eq (.o1 (.fld 0) (.var 0)) (.int 8))
         (.ret [(.o2 .eq (.var 1) (.int 2))])
         (.ret [(.bool false)]))))
      (.br (.o2 .eq (.o1 (.fld 0) (.var 0)) (.int 4))
       (.br (.o2 .eq (.o1 (.fld 0) (.var 0)) (.int 4))
        (.ret [(.o2 .ne (.var 1) (.int 2))])
        (.br (.o2 .eq (.o1 (.fld 0) (.var 0)) (.int 7))
         (.br (.o2 .eq (.o1 (.fld 0) (.var 0)) (.int 7))
          (.ret [(.o2 .eq (.var 1) (.int 2))])
          (.ret [(.bool false)]))
         (.br (.o2 .eq (.o1 (.fld 0) (.var 0)) (.int 8))
          (.ret [(.o2 .eq (.var 1) (.int 2))])
          (.ret [(.bool false)]))))
       (.br (.o2 .eq (.o1 (.fld 0) (.var 0)) (.int 5))
        (.ret [(.o2 .ne (.var 1) (.int 2))])
        (.br (.o2 .eq (.o1 (.fld 0) (.var 0)) (.int 7))
         (.br (.o2 .eq (.o1 (.fld 0) (.var 0)) (.int 7))
          (.ret [(.o2 .eq (.var 1) (.int 2))])
          (.ret [(.bool false)]))
         (.br (.o2 .eq (.o1 (.fld 0) (.var 0)) (.int 8))
          (.ret [(.o2 .eq (.var 1) (.int 2))])
          (.ret [(.bool false)]))))))))))))
theorem sig_49 : sigOf Try.prog md 49 [] = some ([.st [(.int .i64), (.int .i64), (.int .i64), (.int .i64), (.int .i64), .bool, (.sl [(.int .i64), (.int .i64), (.int .i64), (.int .i64), (.int .i64), (.int .i64), .bool])], .sc (.int .i64)], [.sc .bool], tree_49) := by kernel_rfl
/- laws.eqEvent -/
def tree_65 : T :=
(.br (.o2 .ne (.o1 (.fld 0) (.var 0)) (.o1 (.fld 0) (.var 1)))
 (.ret [(.bool false)])
 (.br (.o2 .ne (.o1 (.fld 1) (.var 0)) (.o1 (.fld 1) (.var 1)))
  (.ret [(.bool false)])
  (.br (.o2 .ne (.o1 (.fld 2) (.var 0)) (.o1 (.fld 2) (.var 1)))
   (.ret [(.bool false)])
   (.br (.o2 .ne (.o1 (.fld 3) (.var 0)) (.o1 (.fld 3) (.var 1)))
    (.ret [(.bool false)])
    (.br (.o2 .ne (.o1 (.fld 4) (.var 0)) (.o1 (.fld 4) (.var 1)))
     (.ret [(.bool false)])
     (.br (.o2 .ne (.o1 (.fld 5) (.var 0)) (.o1 (.fld 5) (.var 1)))
      (.ret [(.bool false)])
      (.br (.o2 .bne (.o1 (.fld 6) (.var 0)) (.o1 (.fld 6) (.var 1)))
       (.ret [(.bool false)])
       (.ret [(.bool true)]))))))))
theorem sig_65 : sigOf Try.prog md 65 [] = some ([.st [(.int .i64), (.int .i64), (.int .i64), (.int .i64), (.int .i64), (.int .i64), .bool], .st [(.int .i64), (.int .i64), (.int .i64), (.int .i64), (.int .i64), (.int .i64), .bool]], [.sc .bool], tree_65) := by kernel_rfl
/- laws.eqEventS -/
def tree_40 : T :=
(.know (.var 0)
(.know (.var 1)
(.br (.o2 .ne (.o1 .len (.var 0)) (.o1 .len (.var 1)))
 (.ret [(.bool false)])
 (.loop 0 [(.int 0)]
  (.know (.var 0)
  (.br (.o2 .lt (.var 2) (.o1 .len (.var 0)))
   (.need [] (.o2 .le (.int 0) (.var 2))
   (.need [] (.o2 .lt (.var 2) (.o1 .len (.var 0)))
   (.need [] (.o2 .le (.int 0) (.var 2))
   (.need [] (.o2 .lt (.var 2) (.o1 .len (.var 1)))
   (.call [] (.fn 65) [.st [(.int .i64), (.int .i64), (.int .i64), (.int .i64), (.int .i64), (.int .i64), .bool] (.o2 .cons (.o1 (.fld 0) (.o2 .idx (.var 0) (.var 2))) (.o2 .cons (.o1 (.fld 1) (.o2 .idx (.var 0) (.var 2))) (.o2 .cons (.o1 (.fld 2) (.o2 .idx (.var 0) (.var 2))) (.o2 .cons (.o1 (.fld 3) (.o2 .idx (.var 0) (.var 2))) (.o2 .cons (.o1 (.fld 4) (.o2 .idx (.var 0) (.var 2))) (.o2 .cons (.o1 (.fld 5) (.o2 .idx (.var 0) (.var 2))) (.o2 .cons (.o1 (.fld 6) (.o2 .idx (.var 0) (.var 2))) .nil))))))), .st [(.int .i64), (.int .i64), (.int .i64), (.int .i64), (.int .i64), (.int .i64), .bool] (.o2 .cons (.o1 (.fld 0) (.o2 .idx (.var 1) (.var 2))) (.o2 .cons (.o1 (.fld 1) (.o2 .idx (.var 1) (.var 2))) (.o2 .cons (.o1 (.fld 2) (.o2 .idx (.var 1) (.var 2))) (.o2 .cons (.o1 (.fld 3) (.o2 .idx (.var 1) (.var 2))) (.o2 .cons (.o1 (.fld 4) (.o2 .idx (.var 1) (.var 2))) (.o2 .cons (.o1 (.fld 5) (.o2 .idx (.var 1) (.var 2))) (.o2 .cons (.o1 (.fld 6) (.o2 .idx (.var 1) (.var 2))) .nil)))))))] [.sc .bool]
   (.br (.o1 .not (.var 3))
    (.ret [(.bool false)])
    (.cont 0 [(.o2 (.add .i64) (.var 2) (.int 1))])))))))
   (.ret [(.bool true)])))))))
theorem sig_40 : sigOf Try.prog md 40 [] = some ([.sc (.sl [(.int .i64), (.int .i64), (.int .i64), (.int .i64), (.int .i64), (.int .i64), .bool]), .sc (.sl [(.int .i64), (.int .i64), (.int .i64), (.int .i64), (.int .i64), (.int .i64), .bool])], [.sc .bool], tree_40) := by kernel_rfl
/- laws.eqAct -/
def tree_50 : T :=
(.br (.o2 .ne (.o1 (.fld 0) (.var 0)) (.o1 (.fld 0) (.var 1)))
 (.ret [(.bool false)])
 (.br (.o2 .ne (.o1 (.fld 1) (.var 0)) (.o1 (.fld 1) (.var 1)))
  (.ret [(.bool false)])
  (.br (.o2 .ne (.o1 (.fld 2) (.var 0)) (.o1 (.fld 2) (.var 1)))
   (.ret [(.bool false)])
   (.br (.o2 .ne (.o1 (.fld 3) (.var 0)) (.o1 (.fld 3) (.var 1)))
    (.ret [(.bool false)])
    (.br (.o2 .ne (.o1 (.fld 4) (.var 0)) (.o1 (.fld 4) (.var 1)))
     (.ret [(.bool false)])
     (.br (.o2 .bne (.o1 (.fld 5) (.var 0)) (.o1 (.fld 5) (.var 1)))
      (.ret [(.bool false)])
      (.call [] (.fn 40) [.sc (.sl [(.int .i64), (.int .i64), (.int .i64), (.int .i64), (.int .i64), (.int .i64), .bool]) (.o1 (.fld 6) (.var 0)), .sc (.sl [(.int .i64), (.int .i64), (.int .i64), (.int .i64), (.int .i64), (.int .i64), .bool]) (.o1 (.fld 6) (.var 1))] [.sc .bool]
      (.br (.o1 .not (.var 2))
       (.ret [(.bool false)])
       (.ret [(.bool true)])))))))))
theorem sig_50 : sigOf Try.prog md 50 [] = some ([.st [(.int .i64), (.int .i64), (.int .i64), (.int .i64), (.int .i64), .bool, (.sl [(.int .i64), (.int .i64), (.int .i64), (.int .i64), (.int .i64), (.int .i64), .bool])], .st [(.int .i64), (.int .i64), (.int .i64), (.int .i64), (.int .i64), .bool, (.sl [(.int .i64), (.int .i64), (.int .i64), (.int .i64), (.int .i64), (.int .i64), .bool])]], [.sc .bool], tree_50) := by kernel_rfl
/- laws.FnExactActFits -/
def tree_12 : T :=
(.call [] (.fn 46) [.st [(.int .i64), (.int .i64), (.int .i64), (.int .i64), (.int .i64), .bool, (.sl [(.int .i64), (.int .i64), (.int .i64), (.int .i64), (.int .i64), (.int .i64), .bool])] (.o2 .cons (.o1 (.fld 0) (.var 0)) (.o2 .cons (.o1 (.fld 1) (.var 0)) (.o2 .cons (.o1 (.fld 2) (.var 0)) (.o2 .cons (.o1 (.fld 3) (.var 0)) (.o2 .cons (.o1 (.fld 4) (.var 0)) (.o2 .cons (.o1 (.fld 5) (.var 0)) (.o2 .cons (.o1 (.fld 6) (.var 0)) .nil))))))), .sc (.int .i64) (.int 1048576)] [.sc (.int .i64)]
(.br (.o2 .lt (.var 2) (.int 0))
 (.ret [(.bool true)])
 (.call [] (.fn 48) [.st [(.int .i64), (.int .i64), (.int .i64), (.int .i64), (.int .i64), .bool, (.sl [(.int .i64), (.int .i64), (.int .i64), (.int .i64), (.int .i64), (.int .i64), .bool])] (.o2 .cons (.o1 (.fld 0) (.var 0)) (.o2 .cons (.o1 (.fld 1) (.var 0)) (.o2 .cons (.o1 (.fld 2) (.var 0)) (.o2 .cons (.o1 (.fld 3) (.var 0)) (.o2 .cons (.o1 (.fld 4) (.var 0)) (.o2 .cons (.o1 (.fld 5) (.var 0)) (.o2 .cons (.o1 (.fld 6) (.var 0)) .nil)))))))] [.st [(.int .i64), (.int .i64), (.int .i64), (.int .i64), (.int .i64), .bool, (.sl [(.int .i64), (.int .i64), (.int .i64), (.int .i64), (.int .i64), (.int .i64), .bool])]]
 (.call [] (.fn 47) [.st [(.int .i64), (.int .i64), (.int .i64), (.int .i64), (.int .i64), .bool, (.sl [(.int .i64), (.int .i64), (.int .i64), (.int .i64), (.int .i64), (.int .i64), .bool])] (.o2 .cons (.o1 (.fld 0) (.var 3)) (.o2 .cons (.o1 (.fld 1) (.var 3)) (.o2 .cons (.o1 (.fld 2) (.var 3)) (.o2 .cons (.o1 (.fld 3) (.var 3)) (.o2 .cons (.o1 (.fld 4) (.var 3)) (.o2 .cons (.o1 (.fld 5) (.var 3)) (.o2 .cons (.o1 (.fld 6) (.var 3)) .nil))))))), .sc (.int .i64) (.var 1)] [.sc .bool]
 (.call [] (.fn 48) [.st [(.int .i64), (.int .i64), (.int .i64), (.int .i64), (.int .i64), .bool, (.sl [(.int .i64), (.int .i64), (.int .i64), (.int .i64), (.int .i64), (.int .i64), .bool])] (.o2 .cons (.o1 (.fld 0) (.var 0)) (.o2 .cons (.o1 (.fld 1) (.var 0)) (.o2 .cons (.o1 (.fld 2) (.var 0)) (.o2 .cons (.o1 (.fld 3) (.var 0)) (.o2 .cons (.o1 (.fld 4) (.var 0)) (.o2 .cons (.o1 (.fld 5) (.var 0)) (.o2 .cons (.o1 (.fld 6) (.var 0)) .nil)))))))] [.st [(.int .i64), (.int .i64), (.int .i64), (.int .i64), (.int .i64), .bool, (.sl [(.int .i64), (.int .i64), (.int .i64), (.int .i64), (.int .i64), (.int .i64), .bool])]]
 (.call [] (.fn 49) [.st [(.int .i64), (.int .i64), (.int .i64), (.int .i64), (.int .i64), .bool, (.sl [(.int .i64), (.int .i64), (.int .i64), (.int .i64), (.int .i64), (.int .i64), .bool])] (.o2 .cons (.o1 (.fld 0) (.var 5)) (.o2 .cons (.o1 (.fld 1) (.var 5)) (.o2 .cons (.o1 (.fld 2) (.var 5)) (.o2 .cons (.o1 (.fld 3) (.var 5)) (.o2 .cons (.o1 (.fld 4) (.var 5)) (.o2 .cons (.o1 (.fld 5) (.var 5)) (.o2 .cons (.o1 (.fld 6) (.var 5)) .nil))))))), .sc (.int .i64) (.var 1)] [.sc .bool]
 (.br (.o2 .bne (.var 6) (.var 4))
  (.ret [(.bool false)])
  (.call [] (.fn 48) [.st [(.int .i64), (.int .i64), (.int .i64), (.int .i64), (.int .i64), .bool, (.sl [(.int .i64), (.int .i64), (.int .i64), (.int .i64), (.int .i64), (.int .i64), .bool])] (.o2 .cons (.o1 (.fld 0) (.var 0)) (.o2 .cons (.o1 (.fld 1) (.var 0)) (.o2 .cons (.o1 (.fld 2) (.var 0)) (.o2 .cons (.o1 (.fld 3) (.var 0)) (.o2 .cons (.o1 (.fld 4) (.var 0)) (.o2 .cons (.o1 (.fld 5) (.var 0)) (.o2 .cons (.o1 (.fld 6) (.var 0)) .nil)))))))] [.st [(.int .i64), (.int .i64), (.int .i64), (.int .i64), (.int .i64), .bool, (.sl [(.int .i64), (.int .i64), (.int .i64), (.int .i64), (.int .i64), (.int .i64), .bool])]]
  (.call [] (.fn 50) [.st [(.int .i64), (.int .i64), (.int .i64), (.int .i64), (.int .i64), .bool, (.sl [(.int .i64), (.int .i64), (.int .i64), (.int .i64), (.int .i64), (.int .i64), .bool])] (.o2 .cons (.o1 (.fld 0) (.var 5)) (.o2 .cons (.o1 (.fld 1) (.var 5)) (.o2 .cons (.o1 (.fld 2) (.var 5)) (.o2 .cons (.o1 (.fld 3) (.var 5)) (.o2 .cons (.o1 (.fld 4) (.var 5)) (.o2 .cons (.o1 (.fld 5) (.var 5)) (.o2 .cons (.o1 (.fld 6) (.var 5)) .nil))))))), .st [(.int .i64), (.int .i64), (.int .i64), (.int .i64), (.int .i64), .bool, (.sl [(.int .i64), (.int .i64), (.int .i64), (.int .i64), (.int .i64), (.int .i64), .bool])] (.o2 .cons (.o1 (.fld 0) (.var 7)) (.o2 .cons (.o1 (.fld 1) (.var 7)) (.o2 .cons (.o1 (.fld 2) (.var 7)) (.o2 .cons (.o1 (.fld 3) (.var 7)) (.o2 .cons (.o1 (.fld 4) (.var 7)) (.o2 .cons (.o1 (.fld 5) (.var 7)) (.o2 .cons (.o1 (.fld 6) (.var 7)) .nil)))))))] [.sc .bool]
  (.br (.o1 .not (.var 8))
   (.ret [(.bool false)])
   (.ret [(.bool true)])))))))))))
theorem sig_12 : sigOf Try.prog md 12 [] = some ([.st [(.int .i64), (.int .i64), (.int .i64), (.int .i64), (.int .i64), .bool, (.sl [(.int .i64), (.int .i64), (.int .i64), (.int .i64), (.int .i64), (.int .i64), .bool])], .sc (.int .i64)], [.sc .bool], tree_12) := by kernel_rfl
theorem mix : Try.prog.follows .mixedOrders = true := by kernel_rfl
end Go.Proofs.Ytflegfieiemipaa
