/- The trees of the functions that this claim reaches. -/
import Derived.Test.YtbfhdfpbijpbbaaRows
import Derived.Test.YtbfhdfpbijpbbaaE6
import Derived.KernelRfl
namespace Go.Proofs.Ytbfhdfpbijpbbaa
open Go.Proofs.Ytbfhdfpbijpbbaa.Eng
def md : Modes := ⟨[(47, 0), (46, 0)], [], []⟩
/- laws.toEvent -/
def tree_21 : T :=
(.ret [(.o2 .cons (.o1 (.fld 0) (.var 0)) (.o2 .cons (.o1 (.fld 1) (.var 0)) (.o2 .cons (.o1 (.fld 2) (.var 0)) (.o2 .cons (.o1 (.fld 3) (.var 0)) (.o2 .cons (.o1 (.fld 4) (.var 0)) (.o2 .cons (.o1 (.fld 5) (.var 0)) (.o2 .cons (.o1 (.fld 6) (.var 0)) .nil)))))))])
theorem sig_21 : sigOf Try.prog md 21 [] = some ([.st [(.int .i64), (.int .i64), (.int .i64), (.int .i64), (.int .i64), (.int .i64), .bool]], [.st [(.int .i64), (.int .i64), (.int .i64), (.int .i64), (.int .i64), (.int .i64), .bool]], tree_21) := by kernel_rfl
/- spec.l1In -/
def tree_64 : T :=
(.ret [(.o2 .band (.o2 .ge (.var 0) (.var 1)) (.o2 .le (.var 0) (.var 2)))])
theorem sig_64 : sigOf Try.prog md 64 [] = some ([.sc (.int .i64), .sc (.int .i64), .sc (.int .i64)], [.sc .bool], tree_64) := by kernel_rfl
/- spec.EventOk -/
def tree_71 : T :=
(.call [] (.fn 64) [.sc (.int .i64) (.o1 (.fld 2) (.var 0)), .sc (.int .i64) (.int 1), .sc (.int .i64) (.int 99)] [.sc .bool]
(.call [((.o2 .eq (.o1 (.fld 2) (.var 0)) (.int 0)), true)] (.fn 64) [.sc (.int .i64) (.o1 (.fld 3) (.var 0)), .sc (.int .i64) (.int 0), .sc (.int .i64) (.int 2)] [.sc .bool]
(.call [] (.fn 64) [.sc (.int .i64) (.o1 (.fld 4) (.var 0)), .sc (.int .i64) (.int 0), .sc (.int .i64) (.int 2147483647)] [.sc .bool]
(.br (.o1 .not (.var 3))
 (.ret [(.bool false)])
 (.br (.o2 .eq (.o1 (.fld 0) (.var 0)) (.int 1))
  (.call [] (.fn 64) [.sc (.int .i64) (.o1 (.fld 1) (.var 0)), .sc (.int .i64) (.int 1), .sc (.int .i64) (.int 99)] [.sc .bool]
  (.ret [(.o2 .band (.o2 .band (.o2 .band (.var 4) (.o2 .bor (.o2 .band (.var 1) (.o2 .eq (.o1 (.fld 3) (.var 0)) (.int (-1)))) (.o2 .band (.o2 .eq (.o1 (.fld 2) (.var 0)) (.int 0)) (.var 2)))) (.o2 .eq (.o1 (.fld 5) (.var 0)) (.int 0))) (.o1 .not (.o1 (.fld 6) (.var 0))))]))
  (.br (.o2 .eq (.o1 (.fld 0) (.var 0)) (.int 2))
   (.call [((.o2 .band (.o2 .eq (.o1 (.fld 1) (.var 0)) (.int 0)) (.o2 .band (.var 1) (.o2 .eq (.o1 (.fld 3) (.var 0)) (.int (-1))))), true)] (.fn 64) [.sc (.int .i64) (.o1 (.fld 5) (.var 0)), .sc (.int .i64) (.int 1), .sc (.int .i64) (.int 4)] [.sc .bool]
   (.ret [(.o2 .band (.o2 .band (.o2 .band (.o2 .band (.o2 .eq (.o1 (.fld 1) (.var 0)) (.int 0)) (.o2 .band (.var 1) (.o2 .eq (.o1 (.fld 3) (.var 0)) (.int (-1))))) (.var 4)) (.o2 .le (.o1 (.fld 4) (.var 0)) (.int 99))) (.o2 .bor (.o2 .eq (.o1 (.fld 5) (.var 0)) (.int 2)) (.o2 .band (.o2 .eq (.o1 (.fld 4) (.var 0)) (.int 0)) (.o1 .not (.o1 (.fld 6) (.var 0))))))]))
   (.br (.o2 .eq (.o1 (.fld 0) (.var 0)) (.int 3))
    (.br (.o2 .eq (.o1 (.fld 0) (.var 0)) (.int 3))
     (.ret [(.o2 .band (.o2 .band (.o2 .band (.o2 .eq (.o1 (.fld 1) (.var 0)) (.int 0)) (.o2 .band (.o2 .eq (.o1 (.fld 2) (.var 0)) (.int 0)) (.var 2))) (.o2 .eq (.o1 (.fld 5) (.var 0)) (.int 0))) (.o1 .not (.o1 (.fld 6) (.var 0))))])
     (.br (.o2 .eq (.o1 (.fld 0) (.var 0)) (.int 5))
      (.br (.o2 .eq (.o1 (.fld 0) (.var 0)) (.int 5))
       (.ret [(.o2 .band (.o2 .band (.o2 .band (.o2 .eq (.o1 (.fld 1) (.var 0)) (.int 0)) (.o2 .band (.var 1) (.o2 .eq (.o1 (.fld 3) (.var 0)) (.int (-1))))) (.o2 .eq (.o1 (.fld 5) (.var 0)) (.int 0))) (.o1 .not (.o1 (.fld 6) (.var 0))))])
       (.ret [(.bool false)]))
      (.br (.o2 .eq (.o1 (.fld 0) (.var 0)) (.int 6))
       (.ret [(.o2 .band (.o2 .band (.o2 .band (.o2 .eq (.o1 (.fld 1) (.var 0)) (.int 0)) (.o2 .band (.var 1) (.o2 .eq (.o1 (.fld 3) (.var 0)) (.int (-1))))) (.o2 .eq (.o1 (.fld 5) (.var 0)) (.int 0))) (.o1 .not (.o1 (.fld 6) (.var 0))))])
       (.ret [(.bool false)]))))
    (.br (.o2 .eq (.o1 (.fld 0) (.var 0)) (.int 4))
     (.ret [(.o2 .band (.o2 .band (.o2 .band (.o2 .eq (.o1 (.fld 1) (.var 0)) (.int 0)) (.o2 .band (.o2 .eq (.o1 (.fld 2) (.var 0)) (.int 0)) (.var 2))) (.o2 .eq (.o1 (.fld 5) (.var 0)) (.int 0))) (.o1 .not (.o1 (.fld 6) (.var 0))))])
     (.br (.o2 .eq (.o1 (.fld 0) (.var 0)) (.int 5))
      (.br (.o2 .eq (.o1 (.fld 0) (.var 0)) (.int 5))
       (.ret [(.o2 .band (.o2 .band (.o2 .band (.o2 .eq (.o1 (.fld 1) (.var 0)) (.int 0)) (.o2 .band (.var 1) (.o2 .eq (.o1 (.fld 3) (.var 0)) (.int (-1))))) (.o2 .eq (.o1 (.fld 5) (.var 0)) (.int 0))) (.o1 .not (.o1 (.fld 6) (.var 0))))])
       (.ret [(.bool false)]))
      (.br (.o2 .eq (.o1 (.fld 0) (.var 0)) (.int 6))
       (.ret [(.o2 .band (.o2 .band (.o2 .band (.o2 .eq (.o1 (.fld 1) (.var 0)) (.int 0)) (.o2 .band (.var 1) (.o2 .eq (.o1 (.fld 3) (.var 0)) (.int (-1))))) (.o2 .eq (.o1 (.fld 5) (.var 0)) (.int 0))) (.o1 .not (.o1 (.fld 6) (.var 0))))])
       (.ret [(.bool false)])))))))))))
theorem sig_71 : sigOf Try.prog md 71 [] = some ([.st [(.int .i64), (.int .i64), (.int .i64), (.int .i64), (.int .i64), (.int .i64), .bool]], [.sc .bool], tree_71) := by kernel_rfl
/- spec.NumText -/
def tree_74 : T :=
(.br (.o2 .eq (.var 0) (.int 0))
 (.ret [(.str [48])])
 (.loop 0 [(.str []), (.var 0)]
  (.br (.o2 .ne (.var 2) (.int 0))
   (.need [] (.o2 .ne (.int 10) (.int 0))
   (.br (.o2 .lt (.o2 .rem (.var 2) (.int 10)) (.int 0))
    (.need [] (.o2 .sfits (.o1 .b2s (.o2 .cons (.o2 .cons (.o1 (.conv .u8) (.o2 (.add .i64) (.int 48) (.o1 (.neg .i64) (.o2 .rem (.var 2) (.int 10))))) .nil) .nil)) (.var 1))
    (.need [] (.o2 .ne (.int 10) (.int 0))
    (.cont 0 [(.o2 .scat (.o1 .b2s (.o2 .cons (.o2 .cons (.o1 (.conv .u8) (.o2 (.add .i64) (.int 48) (.o1 (.neg .i64) (.o2 .rem (.var 2) (.int 10))))) .nil) .nil)) (.var 1)), (.o2 (.quo .i64) (.var 2) (.int 10))])))
    (.need [] (.o2 .sfits (.o1 .b2s (.o2 .cons (.o2 .cons (.o1 (.conv .u8) (.o2 (.add .i64) (.int 48) (.o2 .rem (.var 2) (.int 10)))) .nil) .nil)) (.var 1))
    (.need [] (.o2 .ne (.int 10) (.int 0))
    (.cont 0 [(.o2 .scat (.o1 .b2s (.o2 .cons (.o2 .cons (.o1 (.conv .u8) (.o2 (.add .i64) (.int 48) (.o2 .rem (.var 2) (.int 10)))) .nil) .nil)) (.var 1)), (.o2 (.quo .i64) (.var 2) (.int 10))])))))
   (.br (.o2 .lt (.var 0) (.int 0))
    (.need [] (.o2 .sfits (.str [45]) (.var 1))
    (.ret [(.o2 .scat (.str [45]) (.var 1))]))
    (.ret [(.var 1)])))))
theorem sig_74 : sigOf Try.prog md 74 [] = some ([.sc (.int .i64)], [.sc .str], tree_74) := by kernel_rfl
/- spec.EventText -/
def tree_36 : T :=
(.call [] (.fn 71) [.st [(.int .i64), (.int .i64), (.int .i64), (.int .i64), (.int .i64), (.int .i64), .bool] (.o2 .cons (.o1 (.fld 0) (.var 0)) (.o2 .cons (.o1 (.fld 1) (.var 0)) (.o2 .cons (.o1 (.fld 2) (.var 0)) (.o2 .cons (.o1 (.fld 3) (.var 0)) (.o2 .cons (.o1 (.fld 4) (.var 0)) (.o2 .cons (.o1 (.fld 5) (.var 0)) (.o2 .cons (.o1 (.fld 6) (.var 0)) .nil)))))))] [.sc .bool]
(.br (.o1 .not (.var 1))
 (.ret [(.str [])])
 (.call [] (.fn 74) [.sc (.int .i64) (.o1 (.fld 4) (.var 0))] [.sc .str]
 (.need [] (.o2 .sfits (.str [32]) (.var 2))
 (.br (.o2 .eq (.o1 (.fld 0) (.var 0)) (.int 1))
  (.br (.o2 .eq (.o1 (.fld 2) (.var 0)) (.int 0))
   (.call [] (.fn 74) [.sc (.int .i64) (.o1 (.fld 1) (.var 0))] [.sc .str]
   (.need [] (.o2 .sfits (.str [104, 117, 114, 116, 32]) (.var 3))
   (.need [] (.o2 .sfits (.o2 .scat (.str [104, 117, 114, 116, 32]) (.var 3)) (.o2 .scat (.str [32]) (.var 2)))
   (.need [] (.o2 .sfits (.o2 .scat (.o2 .scat (.str [104, 117, 114, 116, 32]) (.var 3)) (.o2 .scat (.str [32]) (.var 2))) (.str [32, 115, 105, 100, 101, 32]))
   (.call [] (.fn 74) [.sc (.int .i64) (.o1 (.fld 3) (.var 0))] [.sc .str]
   (.need [] (.o2 .sfits (.o2 .scat (.o2 .scat (.o2 .scat (.str [104, 117, 114, 116, 32]) (.var 3)) (.o2 .scat (.str [32]) (.var 2))) (.str [32, 115, 105, 100, 101, 32])) (.var 4))
   (.ret [(.o2 .scat (.o2 .scat (.o2 .scat (.o2 .scat (.str [104, 117, 114, 116, 32]) (.var 3)) (.o2 .scat (.str [32]) (.var 2))) (.str [32, 115, 105, 100, 101, 32])) (.var 4))])))))))
   (.call [] (.fn 74) [.sc (.int .i64) (.o1 (.fld 1) (.var 0))] [.sc .str]
   (.need [] (.o2 .sfits (.str [104, 117, 114, 116, 32]) (.var 3))
   (.need [] (.o2 .sfits (.o2 .scat (.str [104, 117, 114, 116, 32]) (.var 3)) (.o2 .scat (.str [32]) (.var 2)))
   (.need [] (.o2 .sfits (.o2 .scat (.o2 .scat (.str [104, 117, 114, 116, 32]) (.var 3)) (.o2 .scat (.str [32]) (.var 2))) (.str [32, 112, 105, 101, 99, 101, 32]))
   (.call [] (.fn 74) [.sc (.int .i64) (.o1 (.fld 2) (.var 0))] [.sc .str]
   (.need [] (.o2 .sfits (.o2 .scat (.o2 .scat (.o2 .scat (.str [104, 117, 114, 116, 32]) (.var 3)) (.o2 .scat (.str [32]) (.var 2))) (.str [32, 112, 105, 101, 99, 101, 32])) (.var 4))
   (.ret [(.o2 .scat (.o2 .scat (.o2 .scat (.o2 .scat (.str [104, 117, 114, 116, 32]) (.var 3)) (.o2 .scat (.str [32]) (.var 2))) (.str [32, 112, 105, 101, 99, 101, 32])) (.var 4))]))))))))
  (.br (.o2 .eq (.o1 (.fld 0) (.var 0)) (.int 2))
   (.call [] (.fn 74) [.sc (.int .i64) (.o1 (.fld 2) (.var 0))] [.sc .str]
   (.need [] (.o2 .sfits (.str [109, 111, 118, 101, 32]) (.var 3))
   (.need [] (.o2 .sfits (.o2 .scat (.str [109, 111, 118, 101, 32]) (.var 3)) (.str [32]))
   (.call [] (.fn 74) [.sc (.int .i64) (.o1 (.fld 5) (.var 0))] [.sc .str]
   (.need [] (.o2 .sfits (.o2 .scat (.o2 .scat (.str [109, 111, 118, 101, 32]) (.var 3)) (.str [32])) (.var 4))
   (.need [] (.o2 .sfits (.o2 .scat (.o2 .scat (.o2 .scat (.str [109, 111, 118, 101, 32]) (.var 3)) (.str [32])) (.var 4)) (.o2 .scat (.str [32]) (.var 2)))
   (.br (.o1 (.fld 6) (.var 0))
    (.need [] (.o2 .sfits (.o2 .scat (.o2 .scat (.o2 .scat (.o2 .scat (.str [109, 111, 118, 101, 32]) (.var 3)) (.str [32])) (.var 4)) (.o2 .scat (.str [32]) (.var 2))) (.str [32, 98, 101, 110, 116]))
    (.ret [(.o2 .scat (.o2 .scat (.o2 .scat (.o2 .scat (.o2 .scat (.str [109, 111, 118, 101, 32]) (.var 3)) (.str [32])) (.var 4)) (.o2 .scat (.str [32]) (.var 2))) (.str [32, 98, 101, 110, 116]))]))
    (.ret [(.o2 .scat (.o2 .scat (.o2 .scat (.o2 .scat (.str [109, 111, 118, 101, 32]) (.var 3)) (.str [32])) (.var 4)) (.o2 .scat (.str [32]) (.var 2)))]))))))))
   (.br (.o2 .eq (.o1 (.fld 0) (.var 0)) (.int 3))
    (.call [] (.fn 74) [.sc (.int .i64) (.o1 (.fld 3) (.var 0))] [.sc .str]
    (.need [] (.o2 .sfits (.str [103, 97, 105, 110, 32]) (.var 3))
    (.need [] (.o2 .sfits (.o2 .scat (.str [103, 97, 105, 110, 32]) (.var 3)) (.o2 .scat (.str [32]) (.var 2)))
    (.ret [(.o2 .scat (.o2 .scat (.str [103, 97, 105, 110, 32]) (.var 3)) (.o2 .scat (.str [32]) (.var 2)))]))))
    (.br (.o2 .eq (.o1 (.fld 0) (.var 0)) (.int 4))
     (.call [] (.fn 74) [.sc (.int .i64) (.o1 (.fld 3) (.var 0))] [.sc .str]
     (.need [] (.o2 .sfits (.str [108, 111, 115, 101, 32]) (.var 3))
     (.need [] (.o2 .sfits (.o2 .scat (.str [108, 111, 115, 101, 32]) (.var 3)) (.o2 .scat (.str [32]) (.var 2)))
     (.ret [(.o2 .scat (.o2 .scat (.str [108, 111, 115, 101, 32]) (.var 3)) (.o2 .scat (.str [32]) (.var 2)))]))))
     (.br (.o2 .eq (.o1 (.fld 0) (.var 0)) (.int 5))
      (.call [] (.fn 74) [.sc (.int .i64) (.o1 (.fld 2) (.var 0))] [.sc .str]
      (.need [] (.o2 .sfits (.str [112, 117, 116, 32]) (.var 3))
      (.need [] (.o2 .sfits (.o2 .scat (.str [112, 117, 116, 32]) (.var 3)) (.o2 .scat (.str [32]) (.var 2)))
      (.ret [(.o2 .scat (.o2 .scat (.str [112, 117, 116, 32]) (.var 3)) (.o2 .scat (.str [32]) (.var 2)))]))))
      (.call [] (.fn 74) [.sc (.int .i64) (.o1 (.fld 2) (.var 0))] [.sc .str]
      (.need [] (.o2 .sfits (.str [99, 117, 116, 32]) (.var 3))
      (.need [] (.o2 .sfits (.o2 .scat (.str [99, 117, 116, 32]) (.var 3)) (.o2 .scat (.str [32]) (.var 2)))
      (.ret [(.o2 .scat (.o2 .scat (.str [99, 117, 116, 32]) (.var 3)) (.o2 .scat (.str [32]) (.var 2)))])))))))))))))
theorem sig_36 : sigOf Try.prog md 36 [] = some ([.st [(.int .i64), (.int .i64), (.int .i64), (.int .i64), (.int .i64), (.int .i64), .bool]], [.sc .str], tree_36) := by kernel_rfl
/- impl.from -/
def tree_81 : T :=
(.ret [(.o2 .band (.o2 .ge (.var 0) (.var 1)) (.o2 .le (.var 0) (.var 2)))])
theorem sig_81 : sigOf Try.prog md 81 [] = some ([.sc (.int .i64), .sc (.int .i64), .sc (.int .i64)], [.sc .bool], tree_81) := by kernel_rfl
/- impl.isId -/
def tree_82 : T :=
(.call [] (.fn 81) [.sc (.int .i64) (.var 0), .sc (.int .i64) (.int 1), .sc (.int .i64) (.int 99)] [.sc .bool]
(.ret [(.var 1)]))
theorem sig_82 : sigOf Try.prog md 82 [] = some ([.sc (.int .i64)], [.sc .bool], tree_82) := by kernel_rfl
/- impl.isZone -/
def tree_84 : T :=
(.call [] (.fn 81) [.sc (.int .i64) (.var 0), .sc (.int .i64) (.int 1), .sc (.int .i64) (.int 4)] [.sc .bool]
(.ret [(.var 1)]))
theorem sig_84 : sigOf Try.prog md 84 [] = some ([.sc (.int .i64)], [.sc .bool], tree_84) := by kernel_rfl
/- impl.isAmount -/
def tree_102 : T :=
(.call [] (.fn 81) [.sc (.int .i64) (.var 0), .sc (.int .i64) (.int 0), .sc (.int .i64) (.int 2147483647)] [.sc .bool]
(.ret [(.var 1)]))
theorem sig_102 : sigOf Try.prog md 102 [] = some ([.sc (.int .i64)], [.sc .bool], tree_102) := by kernel_rfl
/- impl.onPiece -/
def tree_103 : T :=
(.call [] (.fn 82) [.sc (.int .i64) (.o1 (.fld 2) (.var 0))] [.sc .bool]
(.ret [(.o2 .band (.var 1) (.o2 .eq (.o1 (.fld 3) (.var 0)) (.int (-1))))]))
theorem sig_103 : sigOf Try.prog md 103 [] = some ([.st [(.int .i64), (.int .i64), (.int .i64), (.int .i64), (.int .i64), (.int .i64), .bool]], [.sc .bool], tree_103) := by kernel_rfl
/- impl.isPlayer -/
def tree_83 : T :=
(.call [] (.fn 81) [.sc (.int .i64) (.var 0), .sc (.int .i64) (.int 0), .sc (.int .i64) (.int 2)] [.sc .bool]
(.ret [(.var 1)]))
theorem sig_83 : sigOf Try.prog md 83 [] = some ([.sc (.int .i64)], [.sc .bool], tree_83) := by kernel_rfl
/- impl.onPlayer -/
def tree_104 : T :=
(.call [((.o2 .eq (.o1 (.fld 2) (.var 0)) (.int 0)), true)] (.fn 83) [.sc (.int .i64) (.o1 (.fld 3) (.var 0))] [.sc .bool]
(.ret [(.o2 .band (.o2 .eq (.o1 (.fld 2) (.var 0)) (.int 0)) (.var 1))]))
theorem sig_104 : sigOf Try.prog md 104 [] = some ([.st [(.int .i64), (.int .i64), (.int .i64), (.int .i64), (.int .i64), (.int .i64), .bool]], [.sc .bool], tree_104) := by kernel_rfl
/- impl.EventOk -/
def tree_73 : T :=
(.call [] (.fn 102) [.sc (.int .i64) (.o1 (.fld 4) (.var 0))] [.sc .bool]
(.br (.o2 .bor (.o2 .bor (.o1 .not (.var 1)) (.o2 .band (.o2 .ne (.o1 (.fld 0) (.var 0)) (.int 1)) (.o2 .ne (.o1 (.fld 1) (.var 0)) (.int 0)))) (.o2 .band (.o2 .ne (.o1 (.fld 0) (.var 0)) (.int 2)) (.o2 .bor (.o2 .ne (.o1 (.fld 5) (.var 0)) (.int 0)) (.o1 (.fld 6) (.var 0)))))
 (.ret [(.bool false)])
 (.br (.o2 .eq (.o1 (.fld 0) (.var 0)) (.int 1))
  (.call [] (.fn 82) [.sc (.int .i64) (.o1 (.fld 1) (.var 0))] [.sc .bool]
  (.call [((.var 2), true)] (.fn 103) [.st [(.int .i64), (.int .i64), (.int .i64), (.int .i64), (.int .i64), (.int .i64), .bool] (.o2 .cons (.o1 (.fld 0) (.var 0)) (.o2 .cons (.o1 (.fld 1) (.var 0)) (.o2 .cons (.o1 (.fld 2) (.var 0)) (.o2 .cons (.o1 (.fld 3) (.var 0)) (.o2 .cons (.o1 (.fld 4) (.var 0)) (.o2 .cons (.o1 (.fld 5) (.var 0)) (.o2 .cons (.o1 (.fld 6) (.var 0)) .nil)))))))] [.sc .bool]
  (.call [((.var 2), true), ((.var 3), false)] (.fn 104) [.st [(.int .i64), (.int .i64), (.int .i64), (.int .i64), (.int .i64), (.int .i64), .bool] (.o2 .cons (.o1 (.fld 0) (.var 0)) (.o2 .cons (.o1 (.fld 1) (.var 0)) (.o2 .cons (.o1 (.fld 2) (.var 0)) (.o2 .cons (.o1 (.fld 3) (.var 0)) (.o2 .cons (.o1 (.fld 4) (.var 0)) (.o2 .cons (.o1 (.fld 5) (.var 0)) (.o2 .cons (.o1 (.fld 6) (.var 0)) .nil)))))))] [.sc .bool]
  (.ret [(.o2 .band (.var 2) (.o2 .bor (.var 3) (.var 4)))]))))
  (.br (.o2 .eq (.o1 (.fld 0) (.var 0)) (.int 2))
   (.br (.o2 .eq (.o1 (.fld 5) (.var 0)) (.int 2))
    (.call [] (.fn 103) [.st [(.int .i64), (.int .i64), (.int .i64), (.int .i64), (.int .i64), (.int .i64), .bool] (.o2 .cons (.o1 (.fld 0) (.var 0)) (.o2 .cons (.o1 (.fld 1) (.var 0)) (.o2 .cons (.o1 (.fld 2) (.var 0)) (.o2 .cons (.o1 (.fld 3) (.var 0)) (.o2 .cons (.o1 (.fld 4) (.var 0)) (.o2 .cons (.o1 (.fld 5) (.var 0)) (.o2 .cons (.o1 (.fld 6) (.var 0)) .nil)))))))] [.sc .bool]
    (.ret [(.o2 .band (.var 2) (.o2 .le (.o1 (.fld 4) (.var 0)) (.int 99)))]))
    (.call [] (.fn 103) [.st [(.int .i64), (.int .i64), (.int .i64), (.int .i64), (.int .i64), (.int .i64), .bool] (.o2 .cons (.o1 (.fld 0) (.var 0)) (.o2 .cons (.o1 (.fld 1) (.var 0)) (.o2 .cons (.o1 (.fld 2) (.var 0)) (.o2 .cons (.o1 (.fld 3) (.var 0)) (.o2 .cons (.o1 (.fld 4) (.var 0)) (.o2 .cons (.o1 (.fld 5) (.var 0)) (.o2 .cons (.o1 (.fld 6) (.var 0)) .nil)))))))] [.sc .bool]
    (.call [((.var 2), true)] (.fn 84) [.sc (.int .i64) (.o1 (.fld 5) (.var 0))] [.sc .bool]
    (.ret [(.o2 .band (.o2 .band (.o2 .band (.var 2) (.var 3)) (.o2 .eq (.o1 (.fld 4) (.var 0)) (.int 0))) (.o1 .not (.o1 (.fld 6) (.var 0))))]))))
   (.br (.o2 .eq (.o1 (.fld 0) (.var 0)) (.int 3))
    (.br (.o2 .eq (.o1 (.fld 0) (.var 0)) (.int 3))
     (.call [] (.fn 104) [.st [(.int .i64), (.int .i64), (.int .i64), (.int .i64), (.int .i64), (.int .i64), .bool] (.o2 .cons (.o1 (.fld 0) (.var 0)) (.o2 .cons (.o1 (.fld 1) (.var 0)) (.o2 .cons (.o1 (.fld 2) (.var 0)) (.o2 .cons (.o1 (.fld 3) (.var 0)) (.o2 .cons (.o1 (.fld 4) (.var 0)) (.o2 .cons (.o1 (.fld 5) (.var 0)) (.o2 .cons (.o1 (.fld 6) (.var 0)) .nil)))))))] [.sc .bool]
     (.ret [(.var 2)]))
     (.br (.o2 .eq (.o1 (.fld 0) (.var 0)) (.int 5))
      (.br (.o2 .eq (.o1 (.fld 0) (.var 0)) (.int 5))
       (.call [] (.fn 103) [.st [(.int .i64), (.int .i64), (.int .i64), (.int .i64), (.int .i64), (.int .i64), .bool] (.o2 .cons (.o1 (.fld 0) (.var 0)) (.o2 .cons (.o1 (.fld 1) (.var 0)) (.o2 .cons (.o1 (.fld 2) (.var 0)) (.o2 .cons (.o1 (.fld 3) (.var 0)) (.o2 .cons (.o1 (.fld 4) (.var 0)) (.o2 .cons (.o1 (.fld 5) (.var 0)) (.o2 .cons (.o1 (.fld 6) (.var 0)) .nil)))))))] [.sc .bool]
       (.ret [(.var 2)]))
       (.ret [(.bool false)]))
      (.br (.o2 .eq (.o1 (.fld 0) (.var 0)) (.int 6))
       (.call [] (.fn 103) [.st [(.int .i64), (.int .i64), (.int .i64), (.int .i64), (.int .i64), (.int .i64), .bool] (.o2 .cons (.o1 (.fld 0) (.var 0)) (.o2 .cons (.o1 (.fld 1) (.var 0)) (.o2 .cons (.o1 (.fld 2) (.var 0)) (.o2 .cons (.o1 (.fld 3) (.var 0)) (.o2 .cons (.o1 (.fld 4) (.var 0)) (.o2 .cons (.o1 (.fld 5) (.var 0)) (.o2 .cons (.o1 (.fld 6) (.var 0)) .nil)))))))] [.sc .bool]
       (.ret [(.var 2)]))
       (.ret [(.bool false)]))))
    (.br (.o2 .eq (.o1 (.fld 0) (.var 0)) (.int 4))
     (.call [] (.fn 104) [.st [(.int .i64), (.int .i64), (.int .i64), (.int .i64), (.int .i64), (.int .i64), .bool] (.o2 .cons (.o1 (.fld 0) (.var 0)) (.o2 .cons (.o1 (.fld 1) (.var 0)) (.o2 .cons (.o1 (.fld 2) (.var 0)) (.o2 .cons (.o1 (.fld 3) (.var 0)) (.o2 .cons (.o1 (.fld 4) (.var 0)) (.o2 .cons (.o1 (.fld 5) (.var 0)) (.o2 .cons (.o1 (.fld 6) (.var 0)) .nil)))))))] [.sc .bool]
     (.ret [(.var 2)]))
     (.br (.o2 .eq (.o1 (.fld 0) (.var 0)) (.int 5))
      (.br (.o2 .eq (.o1 (.fld 0) (.var 0)) (.int 5))
       (.call [] (.fn 103) [.st [(.int .i64), (.int .i64), (.int .i64), (.int .i64), (.int .i64), (.int .i64), .bool] (.o2 .cons (.o1 (.fld 0) (.var 0)) (.o2 .cons (.o1 (.fld 1) (.var 0)) (.o2 .cons (.o1 (.fld 2) (.var 0)) (.o2 .cons (.o1 (.fld 3) (.var 0)) (.o2 .cons (.o1 (.fld 4) (.var 0)) (.o2 .cons (.o1 (.fld 5) (.var 0)) (.o2 .cons (.o1 (.fld 6) (.var 0)) .nil)))))))] [.sc .bool]
       (.ret [(.var 2)]))
       (.ret [(.bool false)]))
      (.br (.o2 .eq (.o1 (.fld 0) (.var 0)) (.int 6))
       (.call [] (.fn 103) [.st [(.int .i64), (.int .i64), (.int .i64), (.int .i64), (.int .i64), (.int .i64), .bool] (.o2 .cons (.o1 (.fld 0) (.var 0)) (.o2 .cons (.o1 (.fld 1) (.var 0)) (.o2 .cons (.o1 (.fld 2) (.var 0)) (.o2 .cons (.o1 (.fld 3) (.var 0)) (.o2 .cons (.o1 (.fld 4) (.var 0)) (.o2 .cons (.o1 (.fld 5) (.var 0)) (.o2 .cons (.o1 (.fld 6) (.var 0)) .nil)))))))] [.sc .bool]
       (.ret [(.var 2)]))
       (.ret [(.bool false)])))))))))
theorem sig_73 : sigOf Try.prog md 73 [] = some ([.st [(.int .i64), (.int .i64), (.int .i64), (.int .i64), (.int .i64), (.int .i64), .bool]], [.sc .bool], tree_73) := by kernel_rfl
/- impl.NumText -/
def tree_75 : T :=
(.br (.o2 .band (.o2 .lt (.var 0) (.int 0)) (.o2 .gt (.var 0) (.int (-10))))
 (.call [] (.fn 75) [.sc (.int .i64) (.o1 (.neg .i64) (.var 0))] [.sc .str]
 (.need [] (.o2 .sfits (.str [45]) (.var 1))
 (.ret [(.o2 .scat (.str [45]) (.var 1))])))
 (.br (.o2 .lt (.var 0) (.int 0))
  (.need [] (.o2 .ne (.int 10) (.int 0))
  (.call [] (.fn 75) [.sc (.int .i64) (.o2 (.quo .i64) (.var 0) (.int 10))] [.sc .str]
  (.need [] (.o2 .ne (.int 10) (.int 0))
  (.call [] (.fn 75) [.sc (.int .i64) (.o1 (.neg .i64) (.o2 .rem (.var 0) (.int 10)))] [.sc .str]
  (.need [] (.o2 .sfits (.var 1) (.var 2))
  (.ret [(.o2 .scat (.var 1) (.var 2))]))))))
  (.br (.o2 .lt (.var 0) (.int 10))
   (.ret [(.o1 .chr (.o1 (.conv .i32) (.o2 (.add .i64) (.int 48) (.var 0))))])
   (.need [] (.o2 .ne (.int 10) (.int 0))
   (.call [] (.fn 75) [.sc (.int .i64) (.o2 (.quo .i64) (.var 0) (.int 10))] [.sc .str]
   (.need [] (.o2 .ne (.int 10) (.int 0))
   (.need [] (.o2 .sfits (.var 1) (.o1 .chr (.o1 (.conv .i32) (.o2 (.add .i64) (.int 48) (.o2 .rem (.var 0) (.int 10))))))
   (.ret [(.o2 .scat (.var 1) (.o1 .chr (.o1 (.conv .i32) (.o2 (.add .i64) (.int 48) (.o2 .rem (.var 0) (.int 10))))))]))))))))
theorem sig_75 : sigOf Try.prog md 75 [] = some ([.sc (.int .i64)], [.sc .str], tree_75) := by kernel_rfl
/- impl.EventText -/
def tree_37 : T :=
(.call [] (.fn 73) [.st [(.int .i64), (.int .i64), (.int .i64), (.int .i64), (.int .i64), (.int .i64), .bool] (.o2 .cons (.o1 (.fld 0) (.var 0)) (.o2 .cons (.o1 (.fld 1) (.var 0)) (.o2 .cons (.o1 (.fld 2) (.var 0)) (.o2 .cons (.o1 (.fld 3) (.var 0)) (.o2 .cons (.o1 (.fld 4) (.var 0)) (.o2 .cons (.o1 (.fld 5) (.var 0)) (.o2 .cons (.o1 (.fld 6) (.var 0)) .nil)))))))] [.sc .bool]
(.br (.o1 .not (.var 1))
 (.ret [(.str [])])
 (.br (.o2 .eq (.o1 (.fld 0) (.var 0)) (.int 1))
  (.call [] (.fn 75) [.sc (.int .i64) (.o1 (.fld 1) (.var 0))] [.sc .str]
  (.call [] (.fn 75) [.sc (.int .i64) (.o1 (.fld 4) (.var 0))] [.sc .str]
  (.need [] (.o2 (.fits 16) (.o1 .len .nil) (.o1 .len (.o2 .cons (.o2 .cons (.str [104, 117, 114, 116]) .nil) (.o2 .cons (.o2 .cons (.var 2) .nil) (.o2 .cons (.o2 .cons (.var 3) .nil) .nil)))))
  (.br (.o2 .ne (.o1 (.fld 2) (.var 0)) (.int 0))
   (.call [] (.fn 75) [.sc (.int .i64) (.o1 (.fld 2) (.var 0))] [.sc .str]
   (.need [] (.o2 (.fits 16) (.o1 .len (.o2 .app .nil (.o2 .cons (.o2 .cons (.str [104, 117, 114, 116]) .nil) (.o2 .cons (.o2 .cons (.var 2) .nil) (.o2 .cons (.o2 .cons (.var 3) .nil) .nil))))) (.o1 .len (.o2 .cons (.o2 .cons (.str [112, 105, 101, 99, 101]) .nil) (.o2 .cons (.o2 .cons (.var 4) .nil) .nil))))
   (.call [] (.fn 76) [.sc (.sl [.str]) (.o2 .app (.o2 .app .nil (.o2 .cons (.o2 .cons (.str [104, 117, 114, 116]) .nil) (.o2 .cons (.o2 .cons (.var 2) .nil) (.o2 .cons (.o2 .cons (.var 3) .nil) .nil)))) (.o2 .cons (.o2 .cons (.str [112, 105, 101, 99, 101]) .nil) (.o2 .cons (.o2 .cons (.var 4) .nil) .nil))), .sc .str (.str [32])] [.sc .str]
   (.ret [(.var 5)]))))
   (.call [] (.fn 75) [.sc (.int .i64) (.o1 (.fld 3) (.var 0))] [.sc .str]
   (.need [] (.o2 (.fits 16) (.o1 .len (.o2 .app .nil (.o2 .cons (.o2 .cons (.str [104, 117, 114, 116]) .nil) (.o2 .cons (.o2 .cons (.var 2) .nil) (.o2 .cons (.o2 .cons (.var 3) .nil) .nil))))) (.o1 .len (.o2 .cons (.o2 .cons (.str [115, 105, 100, 101]) .nil) (.o2 .cons (.o2 .cons (.var 4) .nil) .nil))))
   (.call [] (.fn 76) [.sc (.sl [.str]) (.o2 .app (.o2 .app .nil (.o2 .cons (.o2 .cons (.str [104, 117, 114, 116]) .nil) (.o2 .cons (.o2 .cons (.var 2) .nil) (.o2 .cons (.o2 .cons (.var 3) .nil) .nil)))) (.o2 .cons (.o2 .cons (.str [115, 105, 100, 101]) .nil) (.o2 .cons (.o2 .cons (.var 4) .nil) .nil))), .sc .str (.str [32])] [.sc .str]
   (.ret [(.var 5)]))))))))
  (.br (.o2 .eq (.o1 (.fld 0) (.var 0)) (.int 2))
   (.call [] (.fn 75) [.sc (.int .i64) (.o1 (.fld 2) (.var 0))] [.sc .str]
   (.call [] (.fn 75) [.sc (.int .i64) (.o1 (.fld 5) (.var 0))] [.sc .str]
   (.call [] (.fn 75) [.sc (.int .i64) (.o1 (.fld 4) (.var 0))] [.sc .str]
   (.need [] (.o2 (.fits 16) (.o1 .len .nil) (.o1 .len (.o2 .cons (.o2 .cons (.str [109, 111, 118, 101]) .nil) (.o2 .cons (.o2 .cons (.var 2) .nil) (.o2 .cons (.o2 .cons (.var 3) .nil) (.o2 .cons (.o2 .cons (.var 4) .nil) .nil))))))
   (.br (.o1 (.fld 6) (.var 0))
    (.need [] (.o2 (.fits 16) (.o1 .len (.o2 .app .nil (.o2 .cons (.o2 .cons (.str [109, 111, 118, 101]) .nil) (.o2 .cons (.o2 .cons (.var 2) .nil) (.o2 .cons (.o2 .cons (.var 3) .nil) (.o2 .cons (.o2 .cons (.var 4) .nil) .nil)))))) (.o1 .len (.o2 .cons (.o2 .cons (.str [98, 101, 110, 116]) .nil) .nil)))
    (.call [] (.fn 76) [.sc (.sl [.str]) (.o2 .app (.o2 .app .nil (.o2 .cons (.o2 .cons (.str [109, 111, 118, 101]) .nil) (.o2 .cons (.o2 .cons (.var 2) .nil) (.o2 .cons (.o2 .cons (.var 3) .nil) (.o2 .cons (.o2 .cons (.var 4) .nil) .nil))))) (.o2 .cons (.o2 .cons (.str [98, 101, 110, 116]) .nil) .nil)), .sc .str (.str [32])] [.sc .str]
    (.ret [(.var 5)])))
    (.call [] (.fn 76) [.sc (.sl [.str]) (.o2 .app .nil (.o2 .cons (.o2 .cons (.str [109, 111, 118, 101]) .nil) (.o2 .cons (.o2 .cons (.var 2) .nil) (.o2 .cons (.o2 .cons (.var 3) .nil) (.o2 .cons (.o2 .cons (.var 4) .nil) .nil))))), .sc .str (.str [32])] [.sc .str]
    (.ret [(.var 5)])))))))
   (.br (.o2 .eq (.o1 (.fld 0) (.var 0)) (.int 3))
    (.call [] (.fn 75) [.sc (.int .i64) (.o1 (.fld 3) (.var 0))] [.sc .str]
    (.call [] (.fn 75) [.sc (.int .i64) (.o1 (.fld 4) (.var 0))] [.sc .str]
    (.need [] (.o2 (.fits 16) (.o1 .len .nil) (.o1 .len (.o2 .cons (.o2 .cons (.str [103, 97, 105, 110]) .nil) (.o2 .cons (.o2 .cons (.var 2) .nil) (.o2 .cons (.o2 .cons (.var 3) .nil) .nil)))))
    (.call [] (.fn 76) [.sc (.sl [.str]) (.o2 .app .nil (.o2 .cons (.o2 .cons (.str [103, 97, 105, 110]) .nil) (.o2 .cons (.o2 .cons (.var 2) .nil) (.o2 .cons (.o2 .cons (.var 3) .nil) .nil)))), .sc .str (.str [32])] [.sc .str]
    (.ret [(.var 4)])))))
    (.br (.o2 .eq (.o1 (.fld 0) (.var 0)) (.int 4))
     (.call [] (.fn 75) [.sc (.int .i64) (.o1 (.fld 3) (.var 0))] [.sc .str]
     (.call [] (.fn 75) [.sc (.int .i64) (.o1 (.fld 4) (.var 0))] [.sc .str]
     (.need [] (.o2 (.fits 16) (.o1 .len .nil) (.o1 .len (.o2 .cons (.o2 .cons (.str [108, 111, 115, 101]) .nil) (.o2 .cons (.o2 .cons (.var 2) .nil) (.o2 .cons (.o2 .cons (.var 3) .nil) .nil)))))
     (.call [] (.fn 76) [.sc (.sl [.str]) (.o2 .app .nil (.o2 .cons (.o2 .cons (.str [108, 111, 115, 101]) .nil) (.o2 .cons (.o2 .cons (.var 2) .nil) (.o2 .cons (.o2 .cons (.var 3) .nil) .nil)))), .sc .str (.str [32])] [.sc .str]
     (.ret [(.var 4)])))))
     (.br (.o2 .eq (.o1 (.fld 0) (.var 0)) (.int 5))
      (.call [] (.fn 75) [.sc (.int .i64) (.o1 (.fld 2) (.var 0))] [.sc .str]
      (.call [] (.fn 75) [.sc (.int .i64) (.o1 (.fld 4) (.var 0))] [.sc .str]
      (.need [] (.o2 (.fits 16) (.o1 .len .nil) (.o1 .len (.o2 .cons (.o2 .cons (.str [112, 117, 116]) .nil) (.o2 .cons (.o2 .cons (.var 2) .nil) (.o2 .cons (.o2 .cons (.var 3) .nil) .nil)))))
      (.call [] (.fn 76) [.sc (.sl [.str]) (.o2 .app .nil (.o2 .cons (.o2 .cons (.str [112, 117, 116]) .nil) (.o2 .cons (.o2 .cons (.var 2) .nil) (.o2 .cons (.o2 .cons (.var 3) .nil) .nil)))), .sc .str (.str [32])] [.sc .str]
      (.ret [(.var 4)])))))
      (.call [] (.fn 75) [.sc (.int .i64) (.o1 (.fld 2) (.var 0))] [.sc .str]
      (.call [] (.fn 75) [.sc (.int .i64) (.o1 (.fld 4) (.var 0))] [.sc .str]
      (.need [] (.o2 (.fits 16) (.o1 .len .nil) (.o1 .len (.o2 .cons (.o2 .cons (.str [99, 117, 116]) .nil) (.o2 .cons (.o2 .cons (.var 2) .nil) (.o2 .cons (.o2 .cons (.var 3) .nil) .nil)))))
      (.call [] (.fn 76) [.sc (.sl [.str]) (.o2 .app .nil (.o2 .cons (.o2 .cons (.str [99, 117, 116]) .nil) (.o2 .cons (.o2 .cons (.var 2) .nil) (.o2 .cons (.o2 .cons (.var 3) .nil) .nil)))), .sc .str (.str [32])] [.sc .str]
      (.ret [(.var 4)]))))))))))))
theorem sig_37 : sigOf Try.prog md 37 [] = some ([.st [(.int .i64), (.int .i64), (.int .i64), (.int .i64), (.int .i64), (.int .i64), .bool]], [.sc .str], tree_37) := by kernel_rfl
/- laws.FnExactEventText -/
def tree_10 : T :=
(.call [] (.fn 21) [.st [(.int .i64), (.int .i64), (.int .i64), (.int .i64), (.int .i64), (.int .i64), .bool] (.o2 .cons (.o1 (.fld 0) (.var 0)) (.o2 .cons (.o1 (.fld 1) (.var 0)) (.o2 .cons (.o1 (.fld 2) (.var 0)) (.o2 .cons (.o1 (.fld 3) (.var 0)) (.o2 .cons (.o1 (.fld 4) (.var 0)) (.o2 .cons (.o1 (.fld 5) (.var 0)) (.o2 .cons (.o1 (.fld 6) (.var 0)) .nil)))))))] [.st [(.int .i64), (.int .i64), (.int .i64), (.int .i64), (.int .i64), (.int .i64), .bool]]
(.call [] (.fn 36) [.st [(.int .i64), (.int .i64), (.int .i64), (.int .i64), (.int .i64), (.int .i64), .bool] (.o2 .cons (.o1 (.fld 0) (.var 1)) (.o2 .cons (.o1 (.fld 1) (.var 1)) (.o2 .cons (.o1 (.fld 2) (.var 1)) (.o2 .cons (.o1 (.fld 3) (.var 1)) (.o2 .cons (.o1 (.fld 4) (.var 1)) (.o2 .cons (.o1 (.fld 5) (.var 1)) (.o2 .cons (.o1 (.fld 6) (.var 1)) .nil)))))))] [.sc .str]
(.call [] (.fn 21) [.st [(.int .i64), (.int .i64), (.int .i64), (.int .i64), (.int .i64), (.int .i64), .bool] (.o2 .cons (.o1 (.fld 0) (.var 0)) (.o2 .cons (.o1 (.fld 1) (.var 0)) (.o2 .cons (.o1 (.fld 2) (.var 0)) (.o2 .cons (.o1 (.fld 3) (.var 0)) (.o2 .cons (.o1 (.fld 4) (.var 0)) (.o2 .cons (.o1 (.fld 5) (.var 0)) (.o2 .cons (.o1 (.fld 6) (.var 0)) .nil)))))))] [.st [(.int .i64), (.int .i64), (.int .i64), (.int .i64), (.int .i64), (.int .i64), .bool]]
(.call [] (.fn 37) [.st [(.int .i64), (.int .i64), (.int .i64), (.int .i64), (.int .i64), (.int .i64), .bool] (.o2 .cons (.o1 (.fld 0) (.var 3)) (.o2 .cons (.o1 (.fld 1) (.var 3)) (.o2 .cons (.o1 (.fld 2) (.var 3)) (.o2 .cons (.o1 (.fld 3) (.var 3)) (.o2 .cons (.o1 (.fld 4) (.var 3)) (.o2 .cons (.o1 (.fld 5) (.var 3)) (.o2 .cons (.o1 (.fld 6) (.var 3)) .nil)))))))] [.sc .str]
(.br (.o2 .sne (.var 4) (.var 2))
 (.ret [(.bool false)])
 (.ret [(.bool true)]))))))
theorem sig_10 : sigOf Try.prog md 10 [] = some ([.st [(.int .i64), (.int .i64), (.int .i64), (.int .i64), (.int .i64), (.int .i64), .bool]], [.sc .bool], tree_10) := by kernel_rfl
theorem mix : Try.prog.follows .mixedOrders = true := by kernel_rfl
end Go.Proofs.Ytbfhdfpbijpbbaa
