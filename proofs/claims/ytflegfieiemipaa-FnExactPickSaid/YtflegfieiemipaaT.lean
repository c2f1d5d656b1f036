/- The trees of the functions that this claim reaches. -/
import Derived.Test.YtflegfieiemipaaRows
import Derived.Test.YtflegfieiemipaaE6
import Derived.KernelRfl
namespace Go.Proofs.Ytflegfieiemipaa
open Go.Proofs.Ytflegfieiemipaa.Eng
def md : Modes := ⟨[(30, 0)], [], []⟩
/- laws.toIntS -/
def tree_27 : T :=
(.know (.var 0)
(.need [] (.o2 .le (.int 0) (.o1 .len (.var 0)))
(.need [] (.o2 (.fits 8) (.o1 .len (.var 0)) (.int 0))
(.loop 0 [(.int 0), (.o2 .rep (.o1 .len (.var 0)) (.o2 .cons (.int 0) .nil))]
 (.know (.var 0)
 (.br (.o2 .lt (.var 1) (.o1 .len (.var 0)))
  (.need [] (.o2 .le (.int 0) (.var 1))
  (.need [] (.o2 .lt (.var 1) (.o1 .len (.var 0)))
  (.need [] (.o2 .le (.int 0) (.var 1))
  (.need [] (.o2 .lt (.var 1) (.o1 .len (.var 2)))
  (.cont 0 [(.o2 (.add .i64) (.var 1) (.int 1)), (.o3 .setE (.var 2) (.var 1) (.o2 .cons (.o1 (.fld 0) (.o2 .idx (.var 0) (.var 1))) .nil))])))))
  (.ret [(.var 2)])))))))
theorem sig_27 : sigOf Try.prog md 27 [] = some ([.sc (.sl [(.int .i64)])], [.sc (.sl [(.int .i64)])], tree_27) := by kernel_rfl
/- laws.eqIntS -/
def tree_29 : T :=
(.know (.var 0)
(.know (.var 1)
(.br (.o2 .ne (.o1 .len (.var 0)) (.o1 .len (.var 1)))
 (.ret [(.bool false)])
 (.loop 0 [(.int 0)]
  (.know (.var 0)
  (.br (.o2 .lt (.var 2) (.o1 .len (.var 0)))
   (.need [] (.o2 .le (.int 0) (.var 2))
   (.need [] (.o2 .lt (.var 2) (.o1 .len (.var 0)))
   (.need [] (.o2 .le (.int 0) (.var 2))
   (.need [] (.o2 .lt (.var 2) (.o1 .len (.var 1)))
   (.br (.o2 .ne (.o1 (.fld 0) (.o2 .idx (.var 0) (.var 2))) (.o1 (.fld 0) (.o2 .idx (.var 1) (.var 2))))
    (.ret [(.bool false)])
    (.cont 0 [(.o2 (.add .i64) (.var 2) (.int 1))]))))))
   (.ret [(.bool true)])))))))
theorem sig_29 : sigOf Try.prog md 29 [] = some ([.sc (.sl [(.int .i64)]), .sc (.sl [(.int .i64)])], [.sc .bool], tree_29) := by kernel_rfl
/- laws.markIntS -/
def tree_30 : T :=
(.loop 0 [(.var 1), (.int 0), (.var 0)]
 (.know (.var 4)
 (.br (.o2 .lt (.var 3) (.o1 .len (.var 4)))
  (.need [] (.o2 .le (.int 0) (.var 3))
  (.need [] (.o2 .lt (.var 3) (.o1 .len (.var 4)))
  (.cont 0 [(.o2 (.add .i64) (.var 2) (.int 1)), (.o2 (.add .i64) (.var 3) (.int 1)), (.o3 .setE (.var 4) (.var 3) (.o2 .cons (.var 2) .nil))])))
  (.ret [(.var 2), (.var 4)]))))
theorem sig_30 : sigOf Try.prog md 30 [] = some ([.row [(.int .i64)], .sc (.int .i64)], [.sc (.int .i64)], tree_30) := by kernel_rfl
/- laws.heldIntS -/
def tree_31 : T :=
(.loop 0 [(.var 1), (.int 0)]
 (.know (.var 0)
 (.br (.o2 .lt (.var 3) (.o1 .len (.var 0)))
  (.need [] (.o2 .le (.int 0) (.var 3))
  (.need [] (.o2 .lt (.var 3) (.o1 .len (.var 0)))
  (.br (.o2 .ne (.o1 (.fld 0) (.o2 .idx (.var 0) (.var 3))) (.var 2))
   (.ret [(.int (-1))])
   (.cont 0 [(.o2 (.add .i64) (.var 2) (.int 1)), (.o2 (.add .i64) (.var 3) (.int 1))]))))
  (.ret [(.var 2)]))))
theorem sig_31 : sigOf Try.prog md 31 [] = some ([.sc (.sl [(.int .i64)]), .sc (.int .i64)], [.sc (.int .i64)], tree_31) := by kernel_rfl
/- spec.Pick -/
def tree_34 : T :=
(.br (.o2 .bor (.o2 .lt (.var 1) (.int 2)) (.o2 .eq (.o1 .len (.var 0)) (.int 0)))
 (.need [] (.o2 (.fits 8) (.o1 .len .nil) (.o1 .len (.var 0)))
 (.ret [(.int 0), (.o2 .app .nil (.var 0))]))
 (.need [] (.o2 .le (.int 0) (.int 0))
 (.need [] (.o2 .lt (.int 0) (.o1 .len (.var 0)))
 (.need [] (.o2 .ne (.var 1) (.int 0))
 (.br (.o2 .lt (.o2 .rem (.o1 (.fld 0) (.o2 .idx (.var 0) (.int 0))) (.var 1)) (.int 0))
  (.need [] (.o2 .le (.int 0) (.int 1))
  (.need [] (.o2 .le (.int 1) (.o1 .len (.var 0)))
  (.need [] (.o2 .le (.o1 .len (.var 0)) (.o1 .len (.var 0)))
  (.need [] (.o2 (.fits 8) (.o1 .len .nil) (.o1 .len (.o2 .drop (.o2 .take (.var 0) (.o1 .len (.var 0))) (.int 1))))
  (.ret [(.o2 (.add .i64) (.o2 .rem (.o1 (.fld 0) (.o2 .idx (.var 0) (.int 0))) (.var 1)) (.var 1)), (.o2 .app .nil (.o2 .drop (.o2 .take (.var 0) (.o1 .len (.var 0))) (.int 1)))])))))
  (.need [] (.o2 .le (.int 0) (.int 1))
  (.need [] (.o2 .le (.int 1) (.o1 .len (.var 0)))
  (.need [] (.o2 .le (.o1 .len (.var 0)) (.o1 .len (.var 0)))
  (.need [] (.o2 (.fits 8) (.o1 .len .nil) (.o1 .len (.o2 .drop (.o2 .take (.var 0) (.o1 .len (.var 0))) (.int 1))))
  (.ret [(.o2 .rem (.o1 (.fld 0) (.o2 .idx (.var 0) (.int 0))) (.var 1)), (.o2 .app .nil (.o2 .drop (.o2 .take (.var 0) (.o1 .len (.var 0))) (.int 1)))]))))))))))
theorem sig_34 : sigOf Try.prog md 34 [] = some ([.sc (.sl [(.int .i64)]), .sc (.int .i64)], [.sc (.int .i64), .sc (.sl [(.int .i64)])], tree_34) := by kernel_rfl
/- slices.Clone[[]int,int] -/
def tree_62 : T :=
(.nilq (.var 0)
(.br (.var 1)
 (.ret [.nil])
 (.need [] (.o2 (.fits 8) (.o1 .len .nil) (.o1 .len (.var 0)))
 (.ret [(.o2 .app .nil (.var 0))]))))
theorem sig_62 : sigOf Try.prog md 62 [] = some ([.sc (.sl [(.int .i64)])], [.sc (.sl [(.int .i64)])], tree_62) := by kernel_rfl
/- impl.Pick -/
def tree_35 : T :=
(.br (.o2 .bor (.o2 .lt (.var 1) (.int 2)) (.o2 .eq (.o1 .len (.var 0)) (.int 0)))
 (.call [] (.fn 62) [.sc (.sl [(.int .i64)]) (.var 0)] [.sc (.sl [(.int .i64)])]
 (.ret [(.int 0), (.var 2)]))
 (.need [] (.o2 .le (.int 0) (.int 0))
 (.need [] (.o2 .lt (.int 0) (.o1 .len (.var 0)))
 (.need [] (.o2 .ne (.var 1) (.int 0))
 (.br (.o2 .lt (.o2 .rem (.o1 (.fld 0) (.o2 .idx (.var 0) (.int 0))) (.var 1)) (.int 0))
  (.need [] (.o2 .le (.int 0) (.int 1))
  (.need [] (.o2 .le (.int 1) (.o1 .len (.var 0)))
  (.need [] (.o2 .le (.o1 .len (.var 0)) (.o1 .len (.var 0)))
  (.call [] (.fn 62) [.sc (.sl [(.int .i64)]) (.o2 .drop (.o2 .take (.var 0) (.o1 .len (.var 0))) (.int 1))] [.sc (.sl [(.int .i64)])]
  (.ret [(.o2 (.add .i64) (.o2 .rem (.o1 (.fld 0) (.o2 .idx (.var 0) (.int 0))) (.var 1)) (.var 1)), (.var 2)])))))
  (.need [] (.o2 .le (.int 0) (.int 1))
  (.need [] (.o2 .le (.int 1) (.o1 .len (.var 0)))
  (.need [] (.o2 .le (.o1 .len (.var 0)) (.o1 .len (.var 0)))
  (.call [] (.fn 62) [.sc (.sl [(.int .i64)]) (.o2 .drop (.o2 .take (.var 0) (.o1 .len (.var 0))) (.int 1))] [.sc (.sl [(.int .i64)])]
  (.ret [(.o2 .rem (.o1 (.fld 0) (.o2 .idx (.var 0) (.int 0))) (.var 1)), (.var 2)]))))))))))
theorem sig_35 : sigOf Try.prog md 35 [] = some ([.sc (.sl [(.int .i64)]), .sc (.int .i64)], [.sc (.int .i64), .sc (.sl [(.int .i64)])], tree_35) := by kernel_rfl
/- laws.FnExactPick -/
def tree_9 : T :=
(.know (.var 0)
(.br (.o2 .gt (.o1 .len (.var 0)) (.int 1048576))
 (.ret [(.bool true)])
 (.call [] (.fn 27) [.sc (.sl [(.int .i64)]) (.var 0)] [.sc (.sl [(.int .i64)])]
 (.call [] (.fn 34) [.sc (.sl [(.int .i64)]) (.var 2), .sc (.int .i64) (.var 1)] [.sc (.int .i64), .sc (.sl [(.int .i64)])]
 (.call [] (.fn 27) [.sc (.sl [(.int .i64)]) (.var 0)] [.sc (.sl [(.int .i64)])]
 (.call [] (.fn 35) [.sc (.sl [(.int .i64)]) (.var 5), .sc (.int .i64) (.var 1)] [.sc (.int .i64), .sc (.sl [(.int .i64)])]
 (.call [((.o2 .ne (.var 6) (.var 3)), false)] (.fn 29) [.sc (.sl [(.int .i64)]) (.var 7), .sc (.sl [(.int .i64)]) (.var 4)] [.sc .bool]
 (.br (.o2 .bor (.o2 .ne (.var 6) (.var 3)) (.o1 .not (.var 8)))
  (.ret [(.bool false)])
  (.call [] (.fn 27) [.sc (.sl [(.int .i64)]) (.var 0)] [.sc (.sl [(.int .i64)])]
  (.call [] (.fn 29) [.sc (.sl [(.int .i64)]) (.var 5), .sc (.sl [(.int .i64)]) (.var 9)] [.sc .bool]
  (.br (.o1 .not (.var 10))
   (.ret [(.bool false)])
   (.call [] (.fn 30) [.row [(.int .i64)] (.var 5), .sc (.int .i64) (.int 1)] [.sc (.int .i64)]
   (.call [((.o2 .bor (.o2 .lt (.var 11) (.int 0)) (.o2 .ne (.var 6) (.var 3))), false)] (.fn 29) [.sc (.sl [(.int .i64)]) (.var 7), .sc (.sl [(.int .i64)]) (.var 4)] [.sc .bool]
   (.br (.o2 .bor (.o2 .bor (.o2 .lt (.var 11) (.int 0)) (.o2 .ne (.var 6) (.var 3))) (.o1 .not (.var 13)))
    (.ret [(.bool false)])
    (.call [] (.fn 30) [.row [(.int .i64)] (.var 7), .sc (.int .i64) (.int 1)] [.sc (.int .i64)]
    (.call [] (.fn 31) [.sc (.sl [(.int .i64)]) (.var 15), .sc (.int .i64) (.int 1)] [.sc (.int .i64)]
    (.br (.o2 .lt (.var 16) (.int 0))
     (.ret [(.bool false)])
     (.br (.o2 .ne (.var 16) (.var 14))
      (.ret [(.bool false)])
      (.call [] (.fn 27) [.sc (.sl [(.int .i64)]) (.var 0)] [.sc (.sl [(.int .i64)])]
      (.call [] (.fn 35) [.sc (.sl [(.int .i64)]) (.var 17), .sc (.int .i64) (.var 1)] [.sc (.int .i64), .sc (.sl [(.int .i64)])]
      (.call [((.o2 .ne (.var 18) (.var 3)), false)] (.fn 29) [.sc (.sl [(.int .i64)]) (.var 19), .sc (.sl [(.int .i64)]) (.var 4)] [.sc .bool]
      (.br (.o2 .bor (.o2 .ne (.var 18) (.var 3)) (.o1 .not (.var 20)))
       (.ret [(.bool false)])
       (.call [] (.fn 31) [.sc (.sl [(.int .i64)]) (.var 15), .sc (.int .i64) (.int 1)] [.sc (.int .i64)]
       (.br (.o2 .lt (.var 21) (.int 0))
        (.ret [(.bool false)])
        (.br (.o2 .ne (.var 21) (.var 14))
         (.ret [(.bool false)])
         (.ret [(.bool true)]))))))))))))))))))))))))))
theorem sig_9 : sigOf Try.prog md 9 [] = some ([.sc (.sl [(.int .i64)]), .sc (.int .i64)], [.sc .bool], tree_9) := by kernel_rfl
theorem mix : Try.prog.follows .mixedOrders = true := by kernel_rfl
end Go.Proofs.Ytflegfieiemipaa
