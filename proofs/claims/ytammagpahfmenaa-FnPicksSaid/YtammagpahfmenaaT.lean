/- The trees of the functions that this claim reaches. -/
import Derived.Test.YtammagpahfmenaaRows
import Derived.Test.YtammagpahfmenaaE6
import Derived.KernelRfl
namespace Go.Proofs.Ytammagpahfmenaa
open Go.Proofs.Ytammagpahfmenaa.Eng
def md : Modes := ⟨[], [(188, 0), (187, 0), (187, 2), (176, 0)], [190]⟩
/- laws.big -/
def tree_14 : T :=
(.know (.var 0)
(.ret [(.o2 .gt (.o1 .len (.var 0)) (.int 1048576))]))
theorem sig_14 : sigOf Try.prog md 14 [] = some ([.sc (.sl [(.int .u8)])], [.sc .bool], tree_14) := by kernel_rfl
/- spec.l1New -/
def tree_113 : T :=
(.know (.var 0)
(.loop 0 [(.o2 (.add .i64) (.int 139871) (.o1 .len (.var 0))), (.int 0)]
 (.know (.var 0)
 (.br (.o2 .band (.o2 .lt (.var 2) (.o1 .len (.var 0))) (.o2 .lt (.var 2) (.int 4000)))
  (.need [] (.o2 .le (.int 0) (.var 2))
  (.need [] (.o2 .lt (.var 2) (.o1 .len (.var 0)))
  (.cont 0 [(.o2 (.and .i64) (.o2 (.add .i64) (.o2 (.add .i64) (.o2 (.mul .i64) (.var 1) (.int 137)) (.o1 (.conv .i64) (.o1 (.fld 0) (.o2 .idx (.var 0) (.var 2))))) (.int 11)) (.int 1073741823)), (.o2 (.add .i64) (.var 2) (.int 1))])))
  (.ret [(.var 0)])))))
theorem sig_113 : sigOf Try.prog md 113 [] = some ([.sc (.sl [(.int .u8)])], [.cur], tree_113) := by kernel_rfl
/- spec.l1Byte -/
def tree_190 : T :=
(.need [] (.o2 .ge (.int 33) (.int 0))
(.need [] (.o2 .ge (.int 47) (.int 0))
(.know (.o1 (.fld 0) (.var 0))
(.br (.o2 .lt (.o1 (.fld 1) (.var 0)) (.o1 .len (.o1 (.fld 0) (.var 0))))
 (.need [] (.o2 .le (.int 0) (.o1 (.fld 1) (.var 0)))
 (.need [] (.o2 .lt (.o1 (.fld 1) (.var 0)) (.o1 .len (.o1 (.fld 0) (.var 0))))
 (.need [] (.o2 .le (.int 0) (.o2 (.add .i64) (.o1 (.fld 1) (.var 0)) (.int 1)))
 (.ret [(.o2 (.and .i64) (.o2 (.add .i64) (.o2 (.and .i64) (.o2 (.xor .i64) (.o2 (.shr .i64) (.o2 (.add .i64) (.o2 (.mul .i64) (.o1 (.fld 2) (.var 0)) (.int 6364136223846793005)) (.int 1442695040888963407)) (.int 33)) (.o2 (.shr .i64) (.o2 (.add .i64) (.o2 (.mul .i64) (.o1 (.fld 2) (.var 0)) (.int 6364136223846793005)) (.int 1442695040888963407)) (.int 47))) (.int 255)) (.o1 (.conv .i64) (.o1 (.fld 0) (.o2 .idx (.o1 (.fld 0) (.var 0)) (.o1 (.fld 1) (.var 0)))))) (.int 255))]))))
 (.need [] (.o2 .le (.int 0) (.o1 (.fld 1) (.var 0)))
 (.ret [(.o2 (.and .i64) (.o2 (.xor .i64) (.o2 (.shr .i64) (.o2 (.add .i64) (.o2 (.mul .i64) (.o1 (.fld 2) (.var 0)) (.int 6364136223846793005)) (.int 1442695040888963407)) (.int 33)) (.o2 (.shr .i64) (.o2 (.add .i64) (.o2 (.mul .i64) (.o1 (.fld 2) (.var 0)) (.int 6364136223846793005)) (.int 1442695040888963407)) (.int 47))) (.int 255))]))))))
theorem sig_190 : sigOf Try.prog md 190 [] = some ([.cur], [.sc (.int .i64)], tree_190) := by kernel_rfl
/- spec.l1Below -/
def tree_117 : T :=
(.br (.o2 .le (.var 1) (.int 0))
 (.ret [(.int 0)])
 (.br (.o2 .le (.var 1) (.int 256))
  (.call [] (.fn 190) [.cur (.o1 (.fld 0) (.var 0))] [.sc (.int .i64)]
  (.need [] (.o2 .ne (.var 1) (.int 0))
  (.ret [(.o2 .rem (.var 2) (.var 1))])))
  (.call [] (.fn 190) [.cur (.o1 (.fld 0) (.var 0))] [.sc (.int .i64)]
  (.call [] (.fn 190) [.cur (.o1 (.fld 0) (.var 0))] [.sc (.int .i64)]
  (.call [] (.fn 190) [.cur (.o1 (.fld 0) (.var 0))] [.sc (.int .i64)]
  (.need [] (.o2 .ne (.var 1) (.int 0))
  (.ret [(.o2 .rem (.o2 (.add .i64) (.o2 (.add .i64) (.o2 (.mul .i64) (.var 2) (.int 65536)) (.o2 (.mul .i64) (.var 3) (.int 256))) (.var 4)) (.var 1))])))))))
theorem sig_117 : sigOf Try.prog md 117 [] = some ([.cur, .sc (.int .i64)], [.sc (.int .i64)], tree_117) := by kernel_rfl
/- spec.l1Int -/
def tree_189 : T :=
(.know (.var 1)
(.call [] (.fn 117) [.cur (.o1 (.fld 0) (.var 0)), .sc (.int .i64) (.o1 .len (.var 1))] [.sc (.int .i64)]
(.need [] (.o2 .le (.int 0) (.var 2))
(.need [] (.o2 .lt (.var 2) (.o1 .len (.var 1)))
(.ret [(.o1 (.fld 0) (.o2 .idx (.var 1) (.var 2)))])))))
theorem sig_189 : sigOf Try.prog md 189 [] = some ([.cur, .sc (.sl [(.int .i64)])], [.sc (.int .i64)], tree_189) := by kernel_rfl
/- spec.l12Choices -/
def tree_114 : T :=
(.call [] (.fn 117) [.cur (.o1 (.fld 0) (.var 0)), .sc (.int .i64) (.int 8)] [.sc (.int .i64)]
(.loop 0 [(.var 1), .nil]
 (.br (.o2 .gt (.var 2) (.int 0))
  (.call [] (.fn 189) [.cur (.o1 (.fld 0) (.var 0)), .sc (.sl [(.int .i64)]) (.o2 .cons (.o2 .cons (.int 0) .nil) (.o2 .cons (.o2 .cons (.int 1) .nil) (.o2 .cons (.o2 .cons (.int 2) .nil) (.o2 .cons (.o2 .cons (.int 1) .nil) (.o2 .cons (.o2 .cons (.int 3) .nil) (.o2 .cons (.o2 .cons (.int 5) .nil) (.o2 .cons (.o2 .cons (.int (-1)) .nil) .nil)))))))] [.sc (.int .i64)]
  (.need [] (.o2 (.fits 8) (.o1 .len (.var 3)) (.o1 .len (.o2 .cons (.o2 .cons (.var 4) .nil) .nil)))
  (.cont 0 [(.o2 (.sub .i64) (.var 2) (.int 1)), (.o2 .app (.var 3) (.o2 .cons (.o2 .cons (.var 4) .nil) .nil))])))
  (.ret [(.var 3)]))))
theorem sig_114 : sigOf Try.prog md 114 [] = some ([.cur], [.sc (.sl [(.int .i64)])], tree_114) := by kernel_rfl
/- spec.l1Once -/
def tree_115 : T :=
(.call [] (.fn 117) [.cur (.o1 (.fld 0) (.var 0)), .sc (.int .i64) (.var 1)] [.sc (.int .i64)]
(.ret [(.o2 .eq (.var 2) (.int 0))]))
theorem sig_115 : sigOf Try.prog md 115 [] = some ([.cur, .sc (.int .i64)], [.sc .bool], tree_115) := by kernel_rfl
/- spec.l1Odd -/
def tree_116 : T :=
(.call [] (.fn 189) [.cur (.o1 (.fld 0) (.var 0)), .sc (.sl [(.int .i64)]) (.o2 .cons (.o2 .cons (.int (-1)) .nil) (.o2 .cons (.o2 .cons (.int 0) .nil) (.o2 .cons (.o2 .cons (.int 1) .nil) (.o2 .cons (.o2 .cons (.int 2) .nil) (.o2 .cons (.o2 .cons (.int 255) .nil) (.o2 .cons (.o2 .cons (.int 256) .nil) (.o2 .cons (.o2 .cons (.int 65535) .nil) (.o2 .cons (.o2 .cons (.int 2147483647) .nil) (.o2 .cons (.o2 .cons (.int 2147483648) .nil) (.o2 .cons (.o2 .cons (.int 4294967295) .nil) (.o2 .cons (.o2 .cons (.int 4294967296) .nil) (.o2 .cons (.o2 .cons (.int (-2147483648)) .nil) (.o2 .cons (.o2 .cons (.int 9223372036854775807) .nil) (.o2 .cons (.o2 .cons (.int (-9223372036854775808)) .nil) .nil))))))))))))))] [.sc (.int .i64)]
(.ret [(.var 1)]))
theorem sig_116 : sigOf Try.prog md 116 [] = some ([.cur], [.sc (.int .i64)], tree_116) := by kernel_rfl
/- spec.DrawPick -/
def tree_15 : T :=
(.call [] (.fn 113) [.sc (.sl [(.int .u8)]) (.var 0)] [.cur]
(.call [] (.fn 114) [.cur (.var 1)] [.sc (.sl [(.int .i64)])]
(.call [] (.fn 115) [.cur (.var 1), .sc (.int .i64) (.int 4)] [.sc .bool]
(.br (.var 3)
 (.call [] (.fn 116) [.cur (.var 1)] [.sc (.int .i64)]
 (.need [] (.o2 (.fits 8) (.o1 .len (.o2 .cons (.o2 .cons (.var 4) .nil) .nil)) (.o1 .len (.var 2)))
 (.call [] (.fn 117) [.cur (.var 1), .sc (.int .i64) (.int 6)] [.sc (.int .i64)]
 (.ret [(.o2 .app (.o2 .cons (.o2 .cons (.var 4) .nil) .nil) (.var 2)), (.o2 (.sub .i64) (.var 5) (.int 1))]))))
 (.call [] (.fn 117) [.cur (.var 1), .sc (.int .i64) (.int 6)] [.sc (.int .i64)]
 (.ret [(.var 2), (.o2 (.sub .i64) (.var 4) (.int 1))]))))))
theorem sig_15 : sigOf Try.prog md 15 [] = some ([.sc (.sl [(.int .u8)])], [.sc (.sl [(.int .i64)]), .sc (.int .i64)], tree_15) := by kernel_rfl
/- slices.Clone[[]int,int] -/
def tree_118 : T :=
(.nilq (.var 0)
(.br (.var 1)
 (.ret [.nil])
 (.need [] (.o2 (.fits 8) (.o1 .len .nil) (.o1 .len (.var 0)))
 (.ret [(.o2 .app .nil (.var 0))]))))
theorem sig_118 : sigOf Try.prog md 118 [] = some ([.sc (.sl [(.int .i64)])], [.sc (.sl [(.int .i64)])], tree_118) := by kernel_rfl
/- impl.Pick -/
def tree_16 : T :=
(.br (.o2 .bor (.o2 .lt (.var 1) (.int 2)) (.o2 .eq (.o1 .len (.var 0)) (.int 0)))
 (.call [] (.fn 118) [.sc (.sl [(.int .i64)]) (.var 0)] [.sc (.sl [(.int .i64)])]
 (.ret [(.int 0), (.var 2)]))
 (.need [] (.o2 .le (.int 0) (.int 0))
 (.need [] (.o2 .lt (.int 0) (.o1 .len (.var 0)))
 (.need [] (.o2 .ne (.var 1) (.int 0))
 (.br (.o2 .lt (.o2 .rem (.o1 (.fld 0) (.o2 .idx (.var 0) (.int 0))) (.var 1)) (.int 0))
  (.need [] (.o2 .le (.int 0) (.int 1))
  (.need [] (.o2 .le (.int 1) (.o1 .len (.var 0)))
  (.need [] (.o2 .le (.o1 .len (.var 0)) (.o1 .len (.var 0)))
  (.call [] (.fn 118) [.sc (.sl [(.int .i64)]) (.o2 .drop (.o2 .take (.var 0) (.o1 .len (.var 0))) (.int 1))] [.sc (.sl [(.int .i64)])]
  (.ret [(.o2 (.add .i64) (.o2 .rem (.o1 (.fld 0) (.o2 .idx (.var 0) (.int 0))) (.var 1)) (.var 1)), (.var 2)])))))
  (.need [] (.o2 .le (.int 0) (.int 1))
  (.need [] (.o2 .le (.int 1) (.o1 .len (.var 0)))
  (.need [] (.o2 .le (.o1 .len (.var 0)) (.o1 .len (.var 0)))
  (.call [] (.fn 118) [.sc (.sl [(.int .i64)]) (.o2 .drop (.o2 .take (.var 0) (.o1 .len (.var 0))) (.int 1))] [.sc (.sl [(.int .i64)])]
  (.ret [(.o2 .rem (.o1 (.fld 0) (.o2 .idx (.var 0) (.int 0))) (.var 1)), (.var 2)]))))))))))
theorem sig_16 : sigOf Try.prog md 16 [] = some ([.sc (.sl [(.int .i64)]), .sc (.int .i64)], [.sc (.int .i64), .sc (.sl [(.int .i64)])], tree_16) := by kernel_rfl
/- spec.Pick -/
def tree_17 : T :=
(.br (.o2 .bor (.o2 .lt (.var 1) (.int 2)) (.o2 .eq (.o1 .len (.var 0)) (.int 0)))
 (.need [] (.o2 (.fits 8) (.o1 .len .nil) (.o1 .len (.var 0)))
 (.ret [(.int 0), (.o2 .app .nil (.var 0))]))
 (.need [] (.o2 .le (.int 0) (.int 0))
 (.need [] (.o2 .lt (.int 0) (.o1 .len (.var 0)))
 (.need [] (.o2 .ne (.var 1) (.int 0))
 (.br (.o2 .lt (.o2 .rem (.o1 (.fld 0) (.o2 .idx (.var 0) (.int 0))) (.var 1)) (.int 0))
  (.need [] (.o2 .le (.int 0) (.int 1))
  (.need [] (.o2 .le (.int 1) (.o1 .len (.var 0)))
  (.need [] (.o2 .le (.o1 .len (.var 0)) (.o1 .len (.var 0)))
  (.need [] (.o2 (.fits 8) (.o1 .len .nil) (.o1 .len (.o2 .drop (.o2 .take (.var 0) (.o1 .len (.var 0))) (.int 1))))
  (.ret [(.o2 (.add .i64) (.o2 .rem (.o1 (.fld 0) (.o2 .idx (.var 0) (.int 0))) (.var 1)) (.var 1)), (.o2 .app .nil (.o2 .drop (.o2 .take (.var 0) (.o1 .len (.var 0))) (.int 1)))])))))
  (.need [] (.o2 .le (.int 0) (.int 1))
  (.need [] (.o2 .le (.int 1) (.o1 .len (.var 0)))
  (.need [] (.o2 .le (.o1 .len (.var 0)) (.o1 .len (.var 0)))
  (.need [] (.o2 (.fits 8) (.o1 .len .nil) (.o1 .len (.o2 .drop (.o2 .take (.var 0) (.o1 .len (.var 0))) (.int 1))))
  (.ret [(.o2 .rem (.o1 (.fld 0) (.o2 .idx (.var 0) (.int 0))) (.var 1)), (.o2 .app .nil (.o2 .drop (.o2 .take (.var 0) (.o1 .len (.var 0))) (.int 1)))]))))))))))
theorem sig_17 : sigOf Try.prog md 17 [] = some ([.sc (.sl [(.int .i64)]), .sc (.int .i64)], [.sc (.int .i64), .sc (.sl [(.int .i64)])], tree_17) := by kernel_rfl
/- spec.DrawChoicesOf -/
def tree_18 : T :=
(.call [] (.fn 113) [.sc (.sl [(.int .u8)]) (.var 0)] [.cur]
(.call [] (.fn 114) [.cur (.var 1)] [.sc (.sl [(.int .i64)])]
(.call [] (.fn 117) [.cur (.var 1), .sc (.int .i64) (.int 11)] [.sc (.int .i64)]
(.ret [(.var 2), (.o2 (.sub .i64) (.var 3) (.int 1))]))))
theorem sig_18 : sigOf Try.prog md 18 [] = some ([.sc (.sl [(.int .u8)])], [.sc (.sl [(.int .i64)]), .sc (.int .i64)], tree_18) := by kernel_rfl
/- impl.ChoicesOf -/
def tree_19 : T :=
(.know (.var 0)
(.need [] (.o2 .le (.int 0) (.int 0))
(.need [] (.o2 .le (.int 0) (.o2 .max (.int 0) (.o2 .min (.var 1) (.o1 .len (.var 0)))))
(.need [] (.o2 .le (.o2 .max (.int 0) (.o2 .min (.var 1) (.o1 .len (.var 0)))) (.o1 .len (.var 0)))
(.call [] (.fn 118) [.sc (.sl [(.int .i64)]) (.o2 .drop (.o2 .take (.var 0) (.o2 .max (.int 0) (.o2 .min (.var 1) (.o1 .len (.var 0))))) (.int 0))] [.sc (.sl [(.int .i64)])]
(.ret [(.var 2)]))))))
theorem sig_19 : sigOf Try.prog md 19 [] = some ([.sc (.sl [(.int .i64)]), .sc (.int .i64)], [.sc (.sl [(.int .i64)])], tree_19) := by kernel_rfl
/- laws.sameInts -/
def tree_20 : T :=
(.know (.var 0)
(.know (.var 1)
(.br (.o2 .ne (.o1 .len (.var 0)) (.o1 .len (.var 1)))
 (.ret [(.bool false)])
 (.loop 0 [(.int 0)]
  (.know (.var 0)
  (.br (.o2 .lt (.var 2) (.o1 .len (.var 0)))
   (.need [] (.o2 .le (.int 0) (.var 2))
   (.need [] (.o2 .lt (.var 2) (.o1 .len (.var 0)))
   (.need [] (.o2 .le (.int 0) (.var 2))
   (.need [] (.o2 .lt (.var 2) (.o1 .len (.var 1)))
   (.br (.o2 .ne (.o1 (.fld 0) (.o2 .idx (.var 0) (.var 2))) (.o1 (.fld 0) (.o2 .idx (.var 1) (.var 2))))
    (.ret [(.bool false)])
    (.cont 0 [(.o2 (.add .i64) (.var 2) (.int 1))]))))))
   (.ret [(.bool true)])))))))
theorem sig_20 : sigOf Try.prog md 20 [] = some ([.sc (.sl [(.int .i64)]), .sc (.sl [(.int .i64)])], [.sc .bool], tree_20) := by kernel_rfl
/- spec.ChoicesOf -/
def tree_21 : T :=
(.br (.o2 .lt (.var 1) (.int 0))
 (.ret [.nil])
 (.know (.var 0)
 (.br (.o2 .gt (.var 1) (.o1 .len (.var 0)))
  (.need [] (.o2 (.fits 8) (.o1 .len .nil) (.o1 .len (.var 0)))
  (.ret [(.o2 .app .nil (.var 0))]))
  (.need [] (.o2 .le (.int 0) (.int 0))
  (.need [] (.o2 .le (.int 0) (.var 1))
  (.need [] (.o2 .le (.var 1) (.o1 .len (.var 0)))
  (.need [] (.o2 (.fits 8) (.o1 .len .nil) (.o1 .len (.o2 .drop (.o2 .take (.var 0) (.var 1)) (.int 0))))
  (.ret [(.o2 .app .nil (.o2 .drop (.o2 .take (.var 0) (.var 1)) (.int 0)))]))))))))
theorem sig_21 : sigOf Try.prog md 21 [] = some ([.sc (.sl [(.int .i64)]), .sc (.int .i64)], [.sc (.sl [(.int .i64)])], tree_21) := by kernel_rfl
/- laws.ends -/
def tree_22 : T :=
(.know (.var 1)
(.know (.var 0)
(.need [((.o2 .le (.o1 .len (.var 1)) (.o1 .len (.var 0))), true)] (.o2 .le (.int 0) (.o2 (.sub .i64) (.o1 .len (.var 0)) (.o1 .len (.var 1))))
(.need [((.o2 .le (.o1 .len (.var 1)) (.o1 .len (.var 0))), true)] (.o2 .le (.o2 (.sub .i64) (.o1 .len (.var 0)) (.o1 .len (.var 1))) (.o1 .len (.var 0)))
(.need [((.o2 .le (.o1 .len (.var 1)) (.o1 .len (.var 0))), true)] (.o2 .le (.o1 .len (.var 0)) (.o1 .len (.var 0)))
(.call [((.o2 .le (.o1 .len (.var 1)) (.o1 .len (.var 0))), true)] (.fn 20) [.sc (.sl [(.int .i64)]) (.o2 .drop (.o2 .take (.var 0) (.o1 .len (.var 0))) (.o2 (.sub .i64) (.o1 .len (.var 0)) (.o1 .len (.var 1)))), .sc (.sl [(.int .i64)]) (.var 1)] [.sc .bool]
(.ret [(.o2 .band (.o2 .le (.o1 .len (.var 1)) (.o1 .len (.var 0))) (.var 2))])))))))
theorem sig_22 : sigOf Try.prog md 22 [] = some ([.sc (.sl [(.int .i64)]), .sc (.sl [(.int .i64)])], [.sc .bool], tree_22) := by kernel_rfl
/- laws.FnPicks -/
def tree_3 : T :=
(.call [] (.fn 14) [.sc (.sl [(.int .u8)]) (.var 0)] [.sc .bool]
(.br (.var 1)
 (.ret [(.bool true)])
 (.call [] (.fn 15) [.sc (.sl [(.int .u8)]) (.var 0)] [.sc (.sl [(.int .i64)]), .sc (.int .i64)]
 (.call [] (.fn 16) [.sc (.sl [(.int .i64)]) (.var 2), .sc (.int .i64) (.var 3)] [.sc (.int .i64), .sc (.sl [(.int .i64)])]
 (.call [] (.fn 17) [.sc (.sl [(.int .i64)]) (.var 2), .sc (.int .i64) (.var 3)] [.sc (.int .i64), .sc (.sl [(.int .i64)])]
 (.call [] (.fn 18) [.sc (.sl [(.int .u8)]) (.var 0)] [.sc (.sl [(.int .i64)]), .sc (.int .i64)]
 (.call [] (.fn 19) [.sc (.sl [(.int .i64)]) (.var 8), .sc (.int .i64) (.var 9)] [.sc (.sl [(.int .i64)])]
 (.call [((.o2 .ne (.var 4) (.var 6)), false)] (.fn 20) [.sc (.sl [(.int .i64)]) (.var 5), .sc (.sl [(.int .i64)]) (.var 7)] [.sc .bool]
 (.call [((.o2 .bor (.o2 .ne (.var 4) (.var 6)) (.o1 .not (.var 11))), false)] (.fn 21) [.sc (.sl [(.int .i64)]) (.var 8), .sc (.int .i64) (.var 9)] [.sc (.sl [(.int .i64)])]
 (.call [((.o2 .bor (.o2 .ne (.var 4) (.var 6)) (.o1 .not (.var 11))), false)] (.fn 20) [.sc (.sl [(.int .i64)]) (.var 10), .sc (.sl [(.int .i64)]) (.var 12)] [.sc .bool]
 (.need [((.o2 .bor (.o2 .bor (.o2 .ne (.var 4) (.var 6)) (.o1 .not (.var 11))) (.o1 .not (.var 13))), false)] (.o2 .le (.int 0) (.o1 .len (.var 10)))
 (.need [((.o2 .bor (.o2 .bor (.o2 .ne (.var 4) (.var 6)) (.o1 .not (.var 11))) (.o1 .not (.var 13))), false)] (.o2 .le (.o1 .len (.var 10)) (.o1 .len (.var 8)))
 (.call [((.o2 .bor (.o2 .bor (.o2 .ne (.var 4) (.var 6)) (.o1 .not (.var 11))) (.o1 .not (.var 13))), false)] (.fn 20) [.sc (.sl [(.int .i64)]) (.var 10), .sc (.sl [(.int .i64)]) (.o2 .take (.var 8) (.o1 .len (.var 10)))] [.sc .bool]
 (.call [((.o2 .bor (.o2 .bor (.o2 .bor (.o2 .ne (.var 4) (.var 6)) (.o1 .not (.var 11))) (.o1 .not (.var 13))) (.o1 .not (.var 14))), false)] (.fn 22) [.sc (.sl [(.int .i64)]) (.var 2), .sc (.sl [(.int .i64)]) (.var 5)] [.sc .bool]
 (.br (.o2 .bor (.o2 .bor (.o2 .bor (.o2 .bor (.o2 .ne (.var 4) (.var 6)) (.o1 .not (.var 11))) (.o1 .not (.var 13))) (.o1 .not (.var 14))) (.o1 .not (.var 15)))
  (.ret [(.bool false)])
  (.br (.o2 .bor (.o2 .lt (.var 3) (.int 2)) (.o2 .eq (.o1 .len (.var 2)) (.int 0)))
   (.call [((.o2 .eq (.var 4) (.int 0)), true)] (.fn 20) [.sc (.sl [(.int .i64)]) (.var 5), .sc (.sl [(.int .i64)]) (.var 2)] [.sc .bool]
   (.ret [(.o2 .band (.o2 .eq (.var 4) (.int 0)) (.var 16))]))
   (.need [] (.o2 .le (.int 0) (.int 0))
   (.need [] (.o2 .lt (.int 0) (.o1 .len (.var 2)))
   (.need [((.o2 .lt (.o1 (.fld 0) (.o2 .idx (.var 2) (.int 0))) (.int (-2147483647))), false)] (.o2 .le (.int 0) (.int 0))
   (.need [((.o2 .lt (.o1 (.fld 0) (.o2 .idx (.var 2) (.int 0))) (.int (-2147483647))), false)] (.o2 .lt (.int 0) (.o1 .len (.var 2)))
   (.br (.o2 .bor (.o2 .lt (.o1 (.fld 0) (.o2 .idx (.var 2) (.int 0))) (.int (-2147483647))) (.o2 .gt (.o1 (.fld 0) (.o2 .idx (.var 2) (.int 0))) (.int 2147483647)))
    (.ret [(.o2 .band (.o2 .ge (.var 4) (.int 0)) (.o2 .lt (.var 4) (.var 3)))])
    (.need [] (.o2 .le (.int 0) (.int 0))
    (.need [] (.o2 .lt (.int 0) (.o1 .len (.var 2)))
    (.call [] (.fn 16) [.sc (.sl [(.int .i64)]) (.o2 .cons (.o2 .cons (.o2 (.add .i64) (.o1 (.fld 0) (.o2 .idx (.var 2) (.int 0))) (.var 3)) .nil) .nil), .sc (.int .i64) (.var 3)] [.sc (.int .i64), .sc (.sl [(.int .i64)])]
    (.ret [(.o2 .band (.o2 .band (.o2 .band (.o2 .ge (.var 4) (.int 0)) (.o2 .lt (.var 4) (.var 3))) (.o2 .eq (.var 16) (.var 4))) (.o2 .eq (.o1 .len (.var 5)) (.o2 (.sub .i64) (.o1 .len (.var 2)) (.int 1))))])))))))))))))))))))))))))
theorem sig_3 : sigOf Try.prog md 3 [] = some ([.sc (.sl [(.int .u8)])], [.sc .bool], tree_3) := by kernel_rfl
theorem mix : Try.prog.follows .mixedOrders = true := by kernel_rfl
end Go.Proofs.Ytammagpahfmenaa
