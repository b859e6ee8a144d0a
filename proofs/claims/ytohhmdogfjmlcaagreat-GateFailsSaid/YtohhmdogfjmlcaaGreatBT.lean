/- The table of types, by program (tygen.py). -/
import Derived.Test.YtohhmdogfjmlcaaGreatVA

namespace Go.Vx.B
abbrev t1 : Ty := (.func .unit .unit)
abbrev t2 : Ty := (.int .i64)
abbrev t3 : Ty := (.int .i64)
abbrev t4 : Ty := .bool
abbrev t5 : Ty := (.int .u8)
abbrev t6 : Ty := (.int .u8)
abbrev t7 : Ty := (.pair (.int .i64) (.pair (.int .i64) (.pair .bool (.pair (.int .u8) .unit))))
abbrev t8 : Ty := (.pair (.int .i64) (.pair (.int .i64) (.pair .bool (.pair (.int .u8) .unit))))
abbrev t9 : Ty := .str
abbrev t10 : Ty := .str
abbrev t11 : Ty := .str
abbrev t12 : Ty := (.int .u64)
abbrev t21 : Ty := (.int .i32)
abbrev t22 : Ty := (.slice (.pair .str (.pair (.int .i64) (.pair (.int .i64) (.pair .bool .unit)))))
abbrev t23 : Ty := (.slice (.pair (.int .i64) (.pair .str (.pair (.int .i64) (.pair (.int .i64) (.pair (.int .i64) .unit))))))
abbrev t24 : Ty := (.pair (.slice (.pair .str (.pair (.int .i64) (.pair (.int .i64) (.pair .bool .unit))))) (.pair (.slice (.pair (.int .i64) (.pair .str (.pair (.int .i64) (.pair (.int .i64) (.pair (.int .i64) .unit)))))) .unit))
abbrev t25 : Ty := (.pair (.slice (.pair .str (.pair (.int .i64) (.pair (.int .i64) (.pair .bool .unit))))) (.pair (.slice (.pair (.int .i64) (.pair .str (.pair (.int .i64) (.pair (.int .i64) (.pair (.int .i64) .unit)))))) .unit))
abbrev t26 : Ty := (.func .unit (.pair .bool .unit))
abbrev t27 : Ty := (.func (.pair (.pair (.slice (.pair .str (.pair (.int .i64) (.pair (.int .i64) (.pair .bool .unit))))) (.pair (.slice (.pair (.int .i64) (.pair .str (.pair (.int .i64) (.pair (.int .i64) (.pair (.int .i64) .unit)))))) .unit)) .unit) (.pair .bool .unit))
abbrev t28 : Ty := (.slice (.int .i64))
abbrev t29 : Ty := (.int .i64)
abbrev t31 : Ty := (.func (.pair (.pair (.slice (.pair .str (.pair (.int .i64) (.pair (.int .i64) (.pair .bool .unit))))) (.pair (.slice (.pair (.int .i64) (.pair .str (.pair (.int .i64) (.pair (.int .i64) (.pair (.int .i64) .unit)))))) .unit)) .unit) (.pair (.slice (.int .i64)) (.pair (.int .i64) .unit)))
abbrev t32 : Ty := (.slice (.pair .str (.pair (.int .i64) (.pair (.int .i64) (.pair .bool .unit)))))
abbrev t33 : Ty := (.slice (.pair (.int .i64) (.pair .str (.pair (.int .i64) (.pair (.int .i64) (.pair (.int .i64) .unit))))))
abbrev t34 : Ty := (.pair (.slice (.pair .str (.pair (.int .i64) (.pair (.int .i64) (.pair .bool .unit))))) (.pair (.slice (.pair (.int .i64) (.pair .str (.pair (.int .i64) (.pair (.int .i64) (.pair (.int .i64) .unit)))))) .unit))
abbrev t35 : Ty := (.pair (.slice (.pair .str (.pair (.int .i64) (.pair (.int .i64) (.pair .bool .unit))))) (.pair (.slice (.pair (.int .i64) (.pair .str (.pair (.int .i64) (.pair (.int .i64) (.pair (.int .i64) .unit)))))) .unit))
abbrev t36 : Ty := (.func (.pair (.pair (.slice (.pair .str (.pair (.int .i64) (.pair (.int .i64) (.pair .bool .unit))))) (.pair (.slice (.pair (.int .i64) (.pair .str (.pair (.int .i64) (.pair (.int .i64) (.pair (.int .i64) .unit)))))) .unit)) .unit) (.pair (.pair (.slice (.pair .str (.pair (.int .i64) (.pair (.int .i64) (.pair .bool .unit))))) (.pair (.slice (.pair (.int .i64) (.pair .str (.pair (.int .i64) (.pair (.int .i64) (.pair (.int .i64) .unit)))))) .unit)) .unit))
abbrev t37 : Ty := (.slice .str)
abbrev t39 : Ty := (.func (.pair (.pair (.slice (.pair .str (.pair (.int .i64) (.pair (.int .i64) (.pair .bool .unit))))) (.pair (.slice (.pair (.int .i64) (.pair .str (.pair (.int .i64) (.pair (.int .i64) (.pair (.int .i64) .unit)))))) .unit)) .unit) (.pair (.slice .str) (.pair (.int .i64) .unit)))
abbrev t41 : Ty := (.func (.pair (.pair (.slice (.pair .str (.pair (.int .i64) (.pair (.int .i64) (.pair .bool .unit))))) (.pair (.slice (.pair (.int .i64) (.pair .str (.pair (.int .i64) (.pair (.int .i64) (.pair (.int .i64) .unit)))))) .unit)) .unit) (.pair (.int .i64) (.pair (.int .i64) .unit)))
abbrev t42 : Ty := (.func (.pair (.pair (.slice (.pair .str (.pair (.int .i64) (.pair (.int .i64) (.pair .bool .unit))))) (.pair (.slice (.pair (.int .i64) (.pair .str (.pair (.int .i64) (.pair (.int .i64) (.pair (.int .i64) .unit)))))) .unit)) .unit) (.pair (.int .i64) .unit))
abbrev t43 : Ty := (.func (.pair (.pair (.slice (.pair .str (.pair (.int .i64) (.pair (.int .i64) (.pair .bool .unit))))) (.pair (.slice (.pair (.int .i64) (.pair .str (.pair (.int .i64) (.pair (.int .i64) (.pair (.int .i64) .unit)))))) .unit)) .unit) (.pair (.slice (.int .i64)) .unit))
abbrev t44 : Ty := (.func (.pair (.pair (.slice (.pair .str (.pair (.int .i64) (.pair (.int .i64) (.pair .bool .unit))))) (.pair (.slice (.pair (.int .i64) (.pair .str (.pair (.int .i64) (.pair (.int .i64) (.pair (.int .i64) .unit)))))) .unit)) .unit) (.pair (.slice .str) .unit))
abbrev t45 : Ty := (.func (.pair (.pair (.slice (.pair .str (.pair (.int .i64) (.pair (.int .i64) (.pair .bool .unit))))) (.pair (.slice (.pair (.int .i64) (.pair .str (.pair (.int .i64) (.pair (.int .i64) (.pair (.int .i64) .unit)))))) .unit)) (.pair (.int .i64) .unit)) (.pair (.int .i64) .unit))
abbrev t46 : Ty := (.func (.pair (.pair (.slice (.pair .str (.pair (.int .i64) (.pair (.int .i64) (.pair .bool .unit))))) (.pair (.slice (.pair (.int .i64) (.pair .str (.pair (.int .i64) (.pair (.int .i64) (.pair (.int .i64) .unit)))))) .unit)) .unit) (.pair (.int .i64) .unit))
abbrev t47 : Ty := (.func (.pair (.slice (.int .i64)) (.pair (.int .i64) (.pair (.int .i64) (.pair (.slice (.int .i64)) .unit)))) (.pair .bool .unit))
abbrev t48 : Ty := (.func (.pair (.slice .str) (.pair (.slice .str) .unit)) (.pair .bool .unit))
abbrev t49 : Ty := (.func (.pair (.int .i64) (.pair (.int .i64) (.pair (.int .i64) (.pair (.int .i64) .unit)))) (.pair .bool .unit))
abbrev t50 : Ty := (.slice (.pair .str (.pair (.int .i64) .unit)))
abbrev t51 : Ty := (.func (.pair (.slice (.pair .str (.pair (.int .i64) .unit))) .unit) (.pair .bool .unit))
abbrev t52 : Ty := (.pair .str (.pair (.int .i64) .unit))
abbrev t53 : Ty := (.pair .str (.pair (.int .i64) .unit))
abbrev t54 : Ty := (.func (.pair (.pair (.slice (.pair .str (.pair (.int .i64) (.pair (.int .i64) (.pair .bool .unit))))) (.pair (.slice (.pair (.int .i64) (.pair .str (.pair (.int .i64) (.pair (.int .i64) (.pair (.int .i64) .unit)))))) .unit)) (.pair (.int .i64) (.pair (.pair .str (.pair (.int .i64) .unit)) .unit))) (.pair (.int .i64) (.pair (.int .i64) .unit)))
abbrev t55 : Ty := (.pair .str (.pair (.int .i64) .unit))
abbrev t56 : Ty := (.func (.pair (.pair (.slice (.pair .str (.pair (.int .i64) (.pair (.int .i64) (.pair .bool .unit))))) (.pair (.slice (.pair (.int .i64) (.pair .str (.pair (.int .i64) (.pair (.int .i64) (.pair (.int .i64) .unit)))))) .unit)) (.pair (.slice (.pair .str (.pair (.int .i64) .unit))) .unit)) (.pair (.slice (.int .i64)) (.pair (.int .i64) .unit)))
abbrev t57 : Ty := (.slice (.pair .str (.pair (.int .i64) .unit)))
abbrev t58 : Ty := (.func (.pair (.slice (.pair .str (.pair (.int .i64) .unit))) .unit) (.pair (.slice (.pair .str (.pair (.int .i64) .unit))) .unit))
abbrev t59 : Ty := (.func (.pair (.slice (.int .i64)) .unit) (.pair (.int .i64) .unit))
abbrev t60 : Ty := (.func (.pair (.slice (.pair .str (.pair (.int .i64) .unit))) .unit) (.pair (.int .i64) .unit))
abbrev t61 : Ty := (.func (.pair (.pair .str (.pair (.int .i64) .unit)) .unit) (.pair (.int .i64) .unit))
abbrev t63 : Ty := (.func (.pair (.pair (.slice (.pair .str (.pair (.int .i64) (.pair (.int .i64) (.pair .bool .unit))))) (.pair (.slice (.pair (.int .i64) (.pair .str (.pair (.int .i64) (.pair (.int .i64) (.pair (.int .i64) .unit)))))) .unit)) (.pair (.int .i64) (.pair (.pair .str (.pair (.int .i64) .unit)) .unit))) (.pair (.int .i64) (.pair (.int .i64) .unit)))
abbrev t65 : Ty := (.func (.pair (.pair (.slice (.pair .str (.pair (.int .i64) (.pair (.int .i64) (.pair .bool .unit))))) (.pair (.slice (.pair (.int .i64) (.pair .str (.pair (.int .i64) (.pair (.int .i64) (.pair (.int .i64) .unit)))))) .unit)) (.pair (.slice (.pair .str (.pair (.int .i64) .unit))) .unit)) (.pair (.slice (.int .i64)) (.pair (.int .i64) .unit)))
abbrev t66 : Ty := (.func (.pair (.pair (.slice (.pair .str (.pair (.int .i64) (.pair (.int .i64) (.pair .bool .unit))))) (.pair (.slice (.pair (.int .i64) (.pair .str (.pair (.int .i64) (.pair (.int .i64) (.pair (.int .i64) .unit)))))) .unit)) (.pair (.int .i64) (.pair (.slice (.pair .str (.pair (.int .i64) .unit))) .unit))) (.pair .bool .unit))
abbrev t67 : Ty := (.slice (.pair (.int .i64) (.pair (.int .i64) (.pair .str .unit))))
abbrev t68 : Ty := (.func (.pair (.slice (.pair (.int .i64) (.pair (.int .i64) (.pair .str .unit)))) .unit) (.pair .bool .unit))
abbrev t70 : Ty := (.func (.pair (.slice (.pair (.int .i64) (.pair (.int .i64) (.pair .str .unit)))) .unit) (.pair (.slice .str) (.pair (.int .i64) (.pair (.int .i64) .unit))))
abbrev t71 : Ty := (.slice (.pair (.int .i64) (.pair (.int .i64) (.pair .str .unit))))
abbrev t72 : Ty := (.func (.pair (.slice (.pair (.int .i64) (.pair (.int .i64) (.pair .str .unit)))) .unit) (.pair (.slice (.pair (.int .i64) (.pair (.int .i64) (.pair .str .unit)))) .unit))
abbrev t73 : Ty := (.func (.pair (.slice (.pair (.int .i64) (.pair (.int .i64) (.pair .str .unit)))) (.pair (.int .i64) .unit)) (.pair (.slice (.int .i64)) (.pair (.int .i64) .unit)))
abbrev t74 : Ty := (.func (.pair (.slice (.pair (.int .i64) (.pair (.int .i64) (.pair .str .unit)))) .unit) (.pair (.int .i64) .unit))
abbrev t75 : Ty := (.func (.pair (.int .i64) (.pair (.int .i64) (.pair (.int .i64) .unit))) (.pair (.int .i64) .unit))
abbrev t77 : Ty := (.func (.pair (.slice (.pair (.int .i64) (.pair (.int .i64) (.pair .str .unit)))) .unit) (.pair (.slice .str) (.pair (.int .i64) .unit)))
abbrev t78 : Ty := (.func (.pair (.slice (.pair (.int .i64) (.pair (.int .i64) (.pair .str .unit)))) (.pair (.int .i64) .unit)) (.pair (.slice (.int .i64)) .unit))
abbrev t79 : Ty := (.func (.pair (.slice (.pair (.int .i64) (.pair (.int .i64) (.pair .str .unit)))) (.pair (.int .i64) .unit)) (.pair .bool .unit))
abbrev t80 : Ty := (.int .u16)
abbrev t81 : Ty := (.func (.pair (.slice (.int .i64)) .unit) (.pair (.int .i64) .unit))
abbrev t82 : Ty := (.func (.pair (.int .i64) (.pair (.int .i64) .unit)) (.pair (.slice (.int .i64)) .unit))
abbrev t83 : Ty := (.pair (.int .i64) (.pair (.int .i64) (.pair .str .unit)))
abbrev t84 : Ty := (.pair (.int .i64) (.pair (.int .i64) (.pair .str .unit)))
abbrev t85 : Ty := (.func (.pair (.slice (.int .i64)) (.pair (.slice (.int .i64)) .unit)) (.pair .bool .unit))
abbrev t86 : Ty := (.pair (.int .i64) (.pair (.int .i64) (.pair .str .unit)))
abbrev t87 : Ty := (.func (.pair (.slice (.int .i64)) .unit) (.pair (.int .i64) (.pair (.int .i64) .unit)))
abbrev t88 : Ty := (.func (.pair (.slice (.int .i64)) .unit) (.pair (.slice (.int .i64)) .unit))
abbrev t89 : Ty := (.func (.pair (.slice (.pair (.int .i64) (.pair (.int .i64) (.pair .str .unit)))) (.pair (.slice (.int .i64)) (.pair (.int .u16) .unit))) (.pair .bool .unit))
abbrev t90 : Ty := (.slice (.pair (.int .i64) (.pair .str (.pair (.int .i64) .unit))))
abbrev t92 : Ty := (.func (.pair (.pair (.slice (.pair .str (.pair (.int .i64) (.pair (.int .i64) (.pair .bool .unit))))) (.pair (.slice (.pair (.int .i64) (.pair .str (.pair (.int .i64) (.pair (.int .i64) (.pair (.int .i64) .unit)))))) .unit)) .unit) (.pair (.slice (.pair (.int .i64) (.pair .str (.pair (.int .i64) .unit)))) (.pair (.int .i64) .unit)))
abbrev t93 : Ty := (.slice (.pair (.int .i64) (.pair .str (.pair (.int .i64) .unit))))
abbrev t94 : Ty := (.func (.pair (.pair (.slice (.pair .str (.pair (.int .i64) (.pair (.int .i64) (.pair .bool .unit))))) (.pair (.slice (.pair (.int .i64) (.pair .str (.pair (.int .i64) (.pair (.int .i64) (.pair (.int .i64) .unit)))))) .unit)) .unit) (.pair (.slice (.pair (.int .i64) (.pair .str (.pair (.int .i64) .unit)))) .unit))
abbrev t95 : Ty := (.func (.pair (.slice (.pair (.int .i64) (.pair .str (.pair (.int .i64) .unit)))) (.pair (.slice (.pair (.int .i64) (.pair .str (.pair (.int .i64) .unit)))) .unit)) (.pair .bool .unit))
abbrev t96 : Ty := (.func (.pair (.slice (.pair (.int .i64) (.pair .str (.pair (.int .i64) .unit)))) .unit) (.pair (.slice (.pair (.int .i64) (.pair .str (.pair (.int .i64) .unit)))) .unit))
abbrev t97 : Ty := (.slice (.pair .str (.pair (.int .i64) (.pair (.int .i64) (.pair (.int .i64) .unit)))))
abbrev t99 : Ty := (.func (.pair (.slice (.pair .str (.pair (.int .i64) .unit))) .unit) (.pair (.slice (.pair .str (.pair (.int .i64) (.pair (.int .i64) (.pair (.int .i64) .unit))))) (.pair (.int .i64) .unit)))
abbrev t100 : Ty := (.slice (.pair .str (.pair (.int .i64) (.pair (.int .i64) (.pair (.int .i64) .unit)))))
abbrev t101 : Ty := (.func (.pair (.slice (.int .i64)) .unit) (.pair (.int .i64) (.pair (.int .i64) .unit)))
abbrev t102 : Ty := (.func (.pair (.slice (.pair .str (.pair (.int .i64) .unit))) .unit) (.pair (.slice (.pair .str (.pair (.int .i64) (.pair (.int .i64) (.pair (.int .i64) .unit))))) .unit))
abbrev t103 : Ty := (.func (.pair (.slice (.pair .str (.pair (.int .i64) (.pair (.int .i64) (.pair (.int .i64) .unit))))) (.pair (.slice (.pair .str (.pair (.int .i64) (.pair (.int .i64) (.pair (.int .i64) .unit))))) .unit)) (.pair .bool .unit))
abbrev t104 : Ty := (.func (.pair (.slice (.pair .str (.pair (.int .i64) (.pair (.int .i64) (.pair (.int .i64) .unit))))) .unit) (.pair (.slice (.pair .str (.pair (.int .i64) (.pair (.int .i64) (.pair (.int .i64) .unit))))) .unit))
abbrev t105 : Ty := (.func (.pair (.slice (.int .i64)) (.pair (.slice (.pair .str (.pair (.int .i64) .unit))) .unit)) (.pair .bool .unit))
abbrev t106 : Ty := (.pair .str (.pair (.int .i64) (.pair (.int .i64) (.pair .bool .unit))))
abbrev t107 : Ty := (.pair .str (.pair (.int .i64) (.pair (.int .i64) (.pair .bool .unit))))
abbrev t108 : Ty := (.func (.pair (.pair (.slice (.pair .str (.pair (.int .i64) (.pair (.int .i64) (.pair .bool .unit))))) (.pair (.slice (.pair (.int .i64) (.pair .str (.pair (.int .i64) (.pair (.int .i64) (.pair (.int .i64) .unit)))))) .unit)) (.pair (.int .i64) .unit)) (.pair (.slice (.int .i64)) .unit))
abbrev t109 : Ty := (.pair (.int .i64) (.pair .str (.pair (.int .i64) (.pair (.int .i64) (.pair (.int .i64) .unit)))))
abbrev t110 : Ty := (.pair (.int .i64) (.pair .str (.pair (.int .i64) (.pair (.int .i64) (.pair (.int .i64) .unit)))))
abbrev t111 : Ty := (.pair (.int .i64) (.pair .str (.pair (.int .i64) .unit)))
abbrev t112 : Ty := (.pair (.int .i64) (.pair .str (.pair (.int .i64) .unit)))
abbrev t113 : Ty := (.func (.pair (.slice (.int .i64)) (.pair (.int .i64) .unit)) (.pair .bool .unit))
abbrev t115 : Ty := (.func (.pair (.pair (.slice (.pair .str (.pair (.int .i64) (.pair (.int .i64) (.pair .bool .unit))))) (.pair (.slice (.pair (.int .i64) (.pair .str (.pair (.int .i64) (.pair (.int .i64) (.pair (.int .i64) .unit)))))) .unit)) (.pair (.slice (.int .i64)) .unit)) (.pair (.slice (.pair .str (.pair (.int .i64) .unit))) (.pair (.int .i64) .unit)))
abbrev t116 : Ty := (.func (.pair (.pair (.slice (.pair .str (.pair (.int .i64) (.pair (.int .i64) (.pair .bool .unit))))) (.pair (.slice (.pair (.int .i64) (.pair .str (.pair (.int .i64) (.pair (.int .i64) (.pair (.int .i64) .unit)))))) .unit)) (.pair (.slice (.int .i64)) (.pair (.slice (.pair .str (.pair (.int .i64) .unit))) .unit))) (.pair (.int .i64) .unit))
abbrev t117 : Ty := (.func (.pair (.pair (.slice (.pair .str (.pair (.int .i64) (.pair (.int .i64) (.pair .bool .unit))))) (.pair (.slice (.pair (.int .i64) (.pair .str (.pair (.int .i64) (.pair (.int .i64) (.pair (.int .i64) .unit)))))) .unit)) (.pair (.slice (.int .i64)) .unit)) (.pair (.int .i64) .unit))
abbrev t119 : Ty := (.func (.pair (.pair (.slice (.pair .str (.pair (.int .i64) (.pair (.int .i64) (.pair .bool .unit))))) (.pair (.slice (.pair (.int .i64) (.pair .str (.pair (.int .i64) (.pair (.int .i64) (.pair (.int .i64) .unit)))))) .unit)) (.pair (.slice (.int .i64)) .unit)) (.pair (.slice (.pair .str (.pair (.int .i64) .unit))) (.pair (.int .i64) .unit)))
abbrev t120 : Ty := (.func (.pair (.pair (.slice (.pair .str (.pair (.int .i64) (.pair (.int .i64) (.pair .bool .unit))))) (.pair (.slice (.pair (.int .i64) (.pair .str (.pair (.int .i64) (.pair (.int .i64) (.pair (.int .i64) .unit)))))) .unit)) (.pair (.slice (.int .i64)) (.pair (.slice (.pair .str (.pair (.int .i64) .unit))) .unit))) (.pair (.int .i64) .unit))
abbrev t121 : Ty := (.func (.pair (.slice (.pair .str (.pair (.int .i64) .unit))) (.pair (.slice (.pair .str (.pair (.int .i64) .unit))) .unit)) (.pair .bool .unit))
abbrev t122 : Ty := (.func (.pair (.slice (.pair .str (.pair (.int .i64) .unit))) .unit) (.pair (.slice (.pair .str (.pair (.int .i64) .unit))) .unit))
abbrev t123 : Ty := (.func (.pair (.pair (.slice (.pair .str (.pair (.int .i64) (.pair (.int .i64) (.pair .bool .unit))))) (.pair (.slice (.pair (.int .i64) (.pair .str (.pair (.int .i64) (.pair (.int .i64) (.pair (.int .i64) .unit)))))) .unit)) (.pair (.slice (.int .i64)) (.pair (.slice (.pair .str (.pair (.int .i64) .unit))) .unit))) (.pair .bool .unit))
abbrev t124 : Ty := (.pair (.slice (.int .i64)) (.pair (.slice (.int .i64)) (.pair (.int .i64) (.pair (.int .i64) .unit))))
abbrev t125 : Ty := (.pair (.slice (.int .i64)) (.pair (.slice (.int .i64)) (.pair (.int .i64) (.pair (.int .i64) .unit))))
abbrev t126 : Ty := (.pair (.pair (.slice (.pair .str (.pair (.int .i64) (.pair (.int .i64) (.pair .bool .unit))))) (.pair (.slice (.pair (.int .i64) (.pair .str (.pair (.int .i64) (.pair (.int .i64) (.pair (.int .i64) .unit)))))) .unit)) (.pair (.slice (.pair .str (.pair (.int .i64) .unit))) (.pair (.pair (.slice (.int .i64)) (.pair (.slice (.int .i64)) (.pair (.int .i64) (.pair (.int .i64) .unit)))) .unit)))
abbrev t127 : Ty := (.pair (.pair (.slice (.pair .str (.pair (.int .i64) (.pair (.int .i64) (.pair .bool .unit))))) (.pair (.slice (.pair (.int .i64) (.pair .str (.pair (.int .i64) (.pair (.int .i64) (.pair (.int .i64) .unit)))))) .unit)) (.pair (.slice (.pair .str (.pair (.int .i64) .unit))) (.pair (.pair (.slice (.int .i64)) (.pair (.slice (.int .i64)) (.pair (.int .i64) (.pair (.int .i64) .unit)))) .unit)))
abbrev t128 : Ty := (.pair .str (.pair (.int .i64) (.pair (.int .i64) (.pair (.int .i64) .unit))))
abbrev t129 : Ty := (.pair .str (.pair (.int .i64) (.pair (.int .i64) (.pair (.int .i64) .unit))))
abbrev t130 : Ty := (.func (.pair (.pair (.slice (.pair .str (.pair (.int .i64) (.pair (.int .i64) (.pair .bool .unit))))) (.pair (.slice (.pair (.int .i64) (.pair .str (.pair (.int .i64) (.pair (.int .i64) (.pair (.int .i64) .unit)))))) .unit)) (.pair (.slice (.pair .str (.pair (.int .i64) .unit))) (.pair (.pair .str (.pair (.int .i64) (.pair (.int .i64) (.pair (.int .i64) .unit)))) .unit))) (.pair (.slice (.int .i64)) (.pair (.int .i64) .unit)))
abbrev t131 : Ty := (.pair .str (.pair (.int .i64) (.pair (.int .i64) (.pair (.int .i64) .unit))))
abbrev t133 : Ty := (.func (.pair (.pair (.slice (.pair .str (.pair (.int .i64) (.pair (.int .i64) (.pair .bool .unit))))) (.pair (.slice (.pair (.int .i64) (.pair .str (.pair (.int .i64) (.pair (.int .i64) (.pair (.int .i64) .unit)))))) .unit)) (.pair (.slice (.pair .str (.pair (.int .i64) .unit))) (.pair (.pair (.slice (.int .i64)) (.pair (.slice (.int .i64)) (.pair (.int .i64) (.pair (.int .i64) .unit)))) (.pair (.pair .str (.pair (.int .i64) (.pair (.int .i64) (.pair (.int .i64) .unit)))) .unit)))) (.pair .bool (.pair (.int .i64) .unit)))
abbrev t134 : Ty := (.pair (.slice (.int .i64)) (.pair (.slice (.int .i64)) (.pair (.int .i64) (.pair (.int .i64) .unit))))
abbrev t135 : Ty := (.func (.pair (.pair (.slice (.int .i64)) (.pair (.slice (.int .i64)) (.pair (.int .i64) (.pair (.int .i64) .unit)))) .unit) (.pair (.pair (.slice (.int .i64)) (.pair (.slice (.int .i64)) (.pair (.int .i64) (.pair (.int .i64) .unit)))) .unit))
abbrev t136 : Ty := (.func (.pair (.pair (.slice (.pair .str (.pair (.int .i64) (.pair (.int .i64) (.pair .bool .unit))))) (.pair (.slice (.pair (.int .i64) (.pair .str (.pair (.int .i64) (.pair (.int .i64) (.pair (.int .i64) .unit)))))) .unit)) (.pair (.slice (.pair .str (.pair (.int .i64) .unit))) (.pair (.pair (.slice (.int .i64)) (.pair (.slice (.int .i64)) (.pair (.int .i64) (.pair (.int .i64) .unit)))) .unit))) (.pair (.slice (.pair .str (.pair (.int .i64) (.pair (.int .i64) (.pair (.int .i64) .unit))))) (.pair (.int .i64) .unit)))
abbrev t137 : Ty := (.func (.pair (.int .i64) (.pair (.pair .str (.pair (.int .i64) (.pair (.int .i64) (.pair (.int .i64) .unit)))) .unit)) (.pair (.int .i64) .unit))
abbrev t138 : Ty := (.func .unit (.pair (.int .i64) .unit))
abbrev t139 : Ty := (.func (.pair (.pair (.slice (.pair .str (.pair (.int .i64) (.pair (.int .i64) (.pair .bool .unit))))) (.pair (.slice (.pair (.int .i64) (.pair .str (.pair (.int .i64) (.pair (.int .i64) (.pair (.int .i64) .unit)))))) .unit)) (.pair (.slice (.pair .str (.pair (.int .i64) .unit))) (.pair (.pair .str (.pair (.int .i64) (.pair (.int .i64) (.pair (.int .i64) .unit)))) .unit))) (.pair (.slice (.int .i64)) (.pair (.int .i64) .unit)))
abbrev t141 : Ty := (.func (.pair (.pair (.slice (.pair .str (.pair (.int .i64) (.pair (.int .i64) (.pair .bool .unit))))) (.pair (.slice (.pair (.int .i64) (.pair .str (.pair (.int .i64) (.pair (.int .i64) (.pair (.int .i64) .unit)))))) .unit)) (.pair (.slice (.pair .str (.pair (.int .i64) .unit))) (.pair (.pair (.slice (.int .i64)) (.pair (.slice (.int .i64)) (.pair (.int .i64) (.pair (.int .i64) .unit)))) (.pair (.pair .str (.pair (.int .i64) (.pair (.int .i64) (.pair (.int .i64) .unit)))) .unit)))) (.pair .bool (.pair (.int .i64) .unit)))
abbrev t143 : Ty := (.func (.pair (.pair (.slice (.pair .str (.pair (.int .i64) (.pair (.int .i64) (.pair .bool .unit))))) (.pair (.slice (.pair (.int .i64) (.pair .str (.pair (.int .i64) (.pair (.int .i64) (.pair (.int .i64) .unit)))))) .unit)) (.pair (.slice (.pair .str (.pair (.int .i64) .unit))) (.pair (.pair (.slice (.int .i64)) (.pair (.slice (.int .i64)) (.pair (.int .i64) (.pair (.int .i64) .unit)))) .unit))) (.pair (.slice (.pair .str (.pair (.int .i64) (.pair (.int .i64) (.pair (.int .i64) .unit))))) (.pair (.int .i64) .unit)))
abbrev t144 : Ty := (.func (.pair (.pair (.pair (.slice (.pair .str (.pair (.int .i64) (.pair (.int .i64) (.pair .bool .unit))))) (.pair (.slice (.pair (.int .i64) (.pair .str (.pair (.int .i64) (.pair (.int .i64) (.pair (.int .i64) .unit)))))) .unit)) (.pair (.slice (.pair .str (.pair (.int .i64) .unit))) (.pair (.pair (.slice (.int .i64)) (.pair (.slice (.int .i64)) (.pair (.int .i64) (.pair (.int .i64) .unit)))) .unit))) (.pair (.pair .str (.pair (.int .i64) (.pair (.int .i64) (.pair (.int .i64) .unit)))) .unit)) (.pair .bool .unit))
abbrev t145 : Ty := (.arr 2 (.int .u8))
abbrev t146 : Ty := (.func (.pair (.pair (.pair (.slice (.pair .str (.pair (.int .i64) (.pair (.int .i64) (.pair .bool .unit))))) (.pair (.slice (.pair (.int .i64) (.pair .str (.pair (.int .i64) (.pair (.int .i64) (.pair (.int .i64) .unit)))))) .unit)) (.pair (.slice (.pair .str (.pair (.int .i64) .unit))) (.pair (.pair (.slice (.int .i64)) (.pair (.slice (.int .i64)) (.pair (.int .i64) (.pair (.int .i64) .unit)))) .unit))) (.pair (.arr 2 (.int .u8)) .unit)) (.pair .bool .unit))
abbrev t147 : Ty := (.func .unit (.pair (.pair (.slice (.pair .str (.pair (.int .i64) (.pair (.int .i64) (.pair .bool .unit))))) (.pair (.slice (.pair (.int .i64) (.pair .str (.pair (.int .i64) (.pair (.int .i64) (.pair (.int .i64) .unit)))))) .unit)) .unit))
abbrev t148 : Ty := (.pair (.int .i64) (.pair .str (.pair (.int .i64) (.pair (.int .i64) (.pair (.int .i64) .unit)))))
abbrev t149 : Ty := (.func .unit (.pair (.slice (.int .i64)) .unit))
abbrev t150 : Ty := (.pair .str (.pair (.int .i64) (.pair (.int .i64) (.pair .bool .unit))))
abbrev t151 : Ty := (.func .unit (.pair (.slice .str) .unit))
abbrev t152 : Ty := (.func (.pair (.int .i64) .unit) (.pair (.int .i64) .unit))
abbrev t153 : Ty := (.func (.pair .str .unit) (.pair (.int .i64) .unit))
abbrev t155 : Ty := (.func (.pair (.pair (.slice (.pair .str (.pair (.int .i64) (.pair (.int .i64) (.pair .bool .unit))))) (.pair (.slice (.pair (.int .i64) (.pair .str (.pair (.int .i64) (.pair (.int .i64) (.pair (.int .i64) .unit)))))) .unit)) (.pair (.int .i64) (.pair (.int .i64) .unit))) (.pair (.int .i64) (.pair .bool .unit)))
abbrev t156 : Ty := (.func (.pair .bool (.pair (.int .i64) .unit)) (.pair (.int .i64) .unit))
abbrev t157 : Ty := (.func (.pair (.pair (.slice (.pair .str (.pair (.int .i64) (.pair (.int .i64) (.pair .bool .unit))))) (.pair (.slice (.pair (.int .i64) (.pair .str (.pair (.int .i64) (.pair (.int .i64) (.pair (.int .i64) .unit)))))) .unit)) (.pair (.int .i64) .unit)) (.pair .bool .unit))
abbrev t158 : Ty := (.func (.pair (.slice .str) (.pair .str .unit)) (.pair .bool .unit))
abbrev t159 : Ty := (.func (.pair (.slice (.int .i64)) .unit) (.pair (.int .i64) .unit))
abbrev t160 : Ty := (.func (.pair .bool (.pair (.int .i64) .unit)) (.pair (.int .i64) .unit))
abbrev t161 : Ty := (.func .unit (.pair (.int .i64) .unit))
abbrev t162 : Ty := (.func (.pair (.int .i64) .unit) (.pair (.int .i64) .unit))
abbrev t163 : Ty := (.func (.pair (.pair (.int .i64) (.pair .str (.pair (.int .i64) (.pair (.int .i64) (.pair (.int .i64) .unit))))) .unit) (.pair (.int .i64) .unit))
abbrev t164 : Ty := (.slice (.int .i64))
abbrev t165 : Ty := (.func (.pair (.slice (.pair (.int .i64) (.pair .str (.pair (.int .i64) (.pair (.int .i64) (.pair (.int .i64) .unit)))))) (.pair (.func (.pair (.pair (.int .i64) (.pair .str (.pair (.int .i64) (.pair (.int .i64) (.pair (.int .i64) .unit))))) .unit) (.pair (.int .i64) .unit)) .unit)) (.pair (.slice (.int .i64)) .unit))
abbrev t166 : Ty := (.pair (.int .i64) (.pair .bool (.pair .bool .unit)))
abbrev t167 : Ty := (.pair (.int .i64) (.pair .bool (.pair .bool .unit)))
abbrev t168 : Ty := (.func (.pair (.int .i64) (.pair (.pair .str (.pair (.int .i64) .unit)) .unit)) (.pair (.pair (.int .i64) (.pair .bool (.pair .bool .unit))) .unit))
abbrev t169 : Ty := (.func (.pair (.slice (.pair .str (.pair (.int .i64) .unit))) .unit) (.pair (.int .i64) .unit))
abbrev t170 : Ty := (.func (.pair (.slice (.pair .str (.pair (.int .i64) .unit))) (.pair (.pair .str (.pair (.int .i64) (.pair (.int .i64) (.pair (.int .i64) .unit)))) .unit)) (.pair (.slice (.int .i64)) (.pair (.int .i64) .unit)))
abbrev t172 : Ty := (.func (.pair (.pair (.slice (.pair .str (.pair (.int .i64) (.pair (.int .i64) (.pair .bool .unit))))) (.pair (.slice (.pair (.int .i64) (.pair .str (.pair (.int .i64) (.pair (.int .i64) (.pair (.int .i64) .unit)))))) .unit)) (.pair (.int .i64) (.pair (.pair .str (.pair (.int .i64) .unit)) .unit))) (.pair (.int .i64) (.pair (.pair (.int .i64) (.pair .str (.pair (.int .i64) (.pair (.int .i64) (.pair (.int .i64) .unit))))) .unit)))
abbrev t173 : Ty := (.map (.int .i64) .str)
abbrev t175 : Ty := (.func (.pair (.slice (.pair (.int .i64) (.pair (.int .i64) (.pair .str .unit)))) .unit) (.pair (.map (.int .i64) .str) (.pair (.int .i64) .unit)))
abbrev t177 : Ty := (.func (.pair (.int .i64) (.pair (.int .i64) (.pair (.int .i64) .unit))) (.pair (.int .i64) .unit))
abbrev t178 : Ty := (.func (.pair (.slice (.pair (.int .i64) (.pair (.int .i64) (.pair .str .unit)))) (.pair (.int .i64) .unit)) (.pair .str (.pair .bool .unit)))
abbrev t179 : Ty := (.func (.pair (.slice (.int .i64)) (.pair (.func (.pair (.int .i64) .unit) (.pair (.int .i64) .unit)) .unit)) (.pair (.slice (.int .i64)) .unit))
abbrev t180 : Ty := (.func (.pair (.slice (.int .i64)) (.pair (.func (.pair (.int .i64) .unit) (.pair .bool .unit)) .unit)) (.pair (.slice (.int .i64)) .unit))
abbrev t181 : Ty := (.func (.pair (.int .i64) .unit) (.pair .bool .unit))
abbrev t182 : Ty := (.func (.pair (.slice (.int .i64)) (.pair (.func (.pair (.pair (.int .i64) (.pair .str (.pair (.int .i64) .unit))) (.pair (.pair (.int .i64) (.pair .bool (.pair .bool .unit))) .unit)) (.pair .bool .unit)) .unit)) (.pair (.slice (.pair (.int .i64) (.pair .str (.pair (.int .i64) .unit)))) .unit))
abbrev t183 : Ty := (.func (.pair (.pair (.int .i64) (.pair .str (.pair (.int .i64) .unit))) (.pair (.pair (.int .i64) (.pair .bool (.pair .bool .unit))) .unit)) (.pair .bool .unit))
abbrev t184 : Ty := (.arr 4 .bool)
abbrev t185 : Ty := (.func (.pair (.int .i64) .unit) (.pair (.arr 4 .bool) .unit))
abbrev t186 : Ty := (.func (.pair (.pair (.slice (.pair .str (.pair (.int .i64) (.pair (.int .i64) (.pair .bool .unit))))) (.pair (.slice (.pair (.int .i64) (.pair .str (.pair (.int .i64) (.pair (.int .i64) (.pair (.int .i64) .unit)))))) .unit)) (.pair .bool .unit)) (.pair (.slice (.pair (.int .i64) (.pair .str (.pair (.int .i64) .unit)))) .unit))
abbrev t187 : Ty := (.pair (.int .i64) (.pair .str (.pair (.int .i64) .unit)))
abbrev t188 : Ty := (.slice (.pair (.int .i64) (.pair (.slice (.pair .str (.pair (.int .i64) .unit))) .unit)))
abbrev t189 : Ty := (.func (.pair (.pair (.slice (.pair .str (.pair (.int .i64) (.pair (.int .i64) (.pair .bool .unit))))) (.pair (.slice (.pair (.int .i64) (.pair .str (.pair (.int .i64) (.pair (.int .i64) (.pair (.int .i64) .unit)))))) .unit)) .unit) (.pair (.slice (.pair (.int .i64) (.pair (.slice (.pair .str (.pair (.int .i64) .unit))) .unit))) .unit))
abbrev t190 : Ty := (.pair (.int .i64) (.pair (.slice (.pair .str (.pair (.int .i64) .unit))) .unit))
abbrev t191 : Ty := (.pair (.int .i64) (.pair (.slice (.pair .str (.pair (.int .i64) .unit))) .unit))
abbrev t192 : Ty := (.func (.pair (.int .i64) .unit) (.pair (.slice (.pair .str (.pair (.int .i64) (.pair (.int .i64) (.pair (.int .i64) .unit))))) .unit))
abbrev t193 : Ty := (.func (.pair (.slice (.int .i64)) .unit) (.pair (.int .i64) .unit))
abbrev t194 : Ty := (.slice (.pair (.int .i64) (.pair (.slice (.pair .str (.pair (.int .i64) .unit))) .unit)))
abbrev t195 : Ty := (.func .unit (.pair (.slice (.pair (.int .i64) (.pair (.slice (.pair .str (.pair (.int .i64) .unit))) .unit))) .unit))
abbrev t196 : Ty := (.pair (.int .i64) (.pair (.slice (.pair .str (.pair (.int .i64) .unit))) .unit))
abbrev t197 : Ty := (.pair (.int .i64) (.pair (.slice (.pair .str (.pair (.int .i64) .unit))) .unit))
abbrev t198 : Ty := (.func (.pair (.pair (.slice (.int .i64)) (.pair (.slice (.int .i64)) (.pair (.int .i64) (.pair (.int .i64) .unit)))) .unit) (.pair .bool .unit))
abbrev t199 : Ty := (.func (.pair (.pair (.slice (.int .i64)) (.pair (.slice (.int .i64)) (.pair (.int .i64) (.pair (.int .i64) .unit)))) (.pair (.int .i64) .unit)) (.pair (.int .i64) .unit))
abbrev t200 : Ty := (.func (.pair (.slice (.pair .str (.pair (.int .i64) .unit))) (.pair (.pair (.slice (.int .i64)) (.pair (.slice (.int .i64)) (.pair (.int .i64) (.pair (.int .i64) .unit)))) (.pair (.pair .str (.pair (.int .i64) (.pair (.int .i64) (.pair (.int .i64) .unit)))) .unit))) (.pair .bool (.pair (.int .i64) .unit)))
abbrev t201 : Ty := (.func (.pair (.pair (.slice (.pair .str (.pair (.int .i64) (.pair (.int .i64) (.pair .bool .unit))))) (.pair (.slice (.pair (.int .i64) (.pair .str (.pair (.int .i64) (.pair (.int .i64) (.pair (.int .i64) .unit)))))) .unit)) (.pair (.int .i64) (.pair (.pair (.slice (.int .i64)) (.pair (.slice (.int .i64)) (.pair (.int .i64) (.pair (.int .i64) .unit)))) .unit))) (.pair (.int .i64) .unit))
abbrev t202 : Ty := (.slice (.pair (.pair .str (.pair (.int .i64) (.pair (.int .i64) (.pair .bool .unit)))) (.pair (.int .i64) .unit)))
abbrev t203 : Ty := (.pair (.pair .str (.pair (.int .i64) (.pair (.int .i64) (.pair .bool .unit)))) (.pair (.int .i64) .unit))
abbrev t204 : Ty := (.pair (.pair .str (.pair (.int .i64) (.pair (.int .i64) (.pair .bool .unit)))) (.pair (.int .i64) .unit))
abbrev t205 : Ty := (.func (.pair (.slice (.pair (.pair .str (.pair (.int .i64) (.pair (.int .i64) (.pair .bool .unit)))) (.pair (.int .i64) .unit))) (.pair (.func (.pair (.pair (.pair .str (.pair (.int .i64) (.pair (.int .i64) (.pair .bool .unit)))) (.pair (.int .i64) .unit)) .unit) (.pair (.int .i64) .unit)) .unit)) (.pair (.slice (.int .i64)) .unit))
abbrev t206 : Ty := (.func (.pair (.slice (.pair (.pair .str (.pair (.int .i64) (.pair (.int .i64) (.pair .bool .unit)))) (.pair (.int .i64) .unit))) (.pair (.func (.pair (.pair (.pair .str (.pair (.int .i64) (.pair (.int .i64) (.pair .bool .unit)))) (.pair (.int .i64) .unit)) .unit) (.pair .bool .unit)) .unit)) (.pair (.slice (.pair (.pair .str (.pair (.int .i64) (.pair (.int .i64) (.pair .bool .unit)))) (.pair (.int .i64) .unit))) .unit))
abbrev t207 : Ty := (.func (.pair (.pair (.pair .str (.pair (.int .i64) (.pair (.int .i64) (.pair .bool .unit)))) (.pair (.int .i64) .unit)) .unit) (.pair .bool .unit))
abbrev t208 : Ty := (.func (.pair (.pair (.pair .str (.pair (.int .i64) (.pair (.int .i64) (.pair .bool .unit)))) (.pair (.int .i64) .unit)) .unit) (.pair (.int .i64) .unit))
abbrev t209 : Ty := (.func (.pair .str .unit) (.pair .bool .unit))
abbrev t210 : Ty := (.map .str .bool)
abbrev t211 : Ty := (.map (.int .i64) (.slice (.int .i64)))
abbrev t212 : Ty := (.func (.pair .str .unit) (.pair (.int .i64) .unit))
abbrev t213 : Ty := (.func (.pair (.slice (.pair (.int .i64) (.pair .str (.pair (.int .i64) (.pair (.int .i64) (.pair (.int .i64) .unit)))))) (.pair (.func (.pair (.pair (.int .i64) (.pair .str (.pair (.int .i64) (.pair (.int .i64) (.pair (.int .i64) .unit))))) .unit) (.pair .bool .unit)) .unit)) (.pair (.slice (.pair (.int .i64) (.pair .str (.pair (.int .i64) (.pair (.int .i64) (.pair (.int .i64) .unit)))))) .unit))
abbrev t214 : Ty := (.func (.pair (.pair (.int .i64) (.pair .str (.pair (.int .i64) (.pair (.int .i64) (.pair (.int .i64) .unit))))) .unit) (.pair .bool .unit))
abbrev t215 : Ty := (.func (.pair (.slice (.pair .str (.pair (.int .i64) .unit))) (.pair (.func (.pair (.pair .str (.pair (.int .i64) .unit)) .unit) (.pair (.int .i64) .unit)) .unit)) (.pair (.slice (.int .i64)) .unit))
abbrev t216 : Ty := (.func (.pair (.pair .str (.pair (.int .i64) .unit)) .unit) (.pair (.int .i64) .unit))
abbrev t217 : Ty := (.func (.pair (.pair .str (.pair (.int .i64) (.pair (.int .i64) (.pair (.int .i64) .unit)))) .unit) (.pair (.pair .str (.pair (.int .i64) (.pair (.int .i64) (.pair (.int .i64) .unit)))) .unit))
abbrev t218 : Ty := (.func (.pair (.pair .str (.pair (.int .i64) (.pair (.int .i64) (.pair (.int .i64) .unit)))) (.pair (.int .i64) (.pair (.pair .str (.pair (.int .i64) .unit)) .unit))) (.pair (.pair .str (.pair (.int .i64) .unit)) (.pair .bool .unit)))
abbrev t219 : Ty := (.pair .str (.pair (.func (.pair (.pair .str (.pair (.int .i64) (.pair (.int .i64) (.pair (.int .i64) .unit)))) .unit) (.pair (.pair .str (.pair (.int .i64) (.pair (.int .i64) (.pair (.int .i64) .unit)))) .unit)) (.pair (.func (.pair (.pair .str (.pair (.int .i64) (.pair (.int .i64) (.pair (.int .i64) .unit)))) (.pair (.int .i64) (.pair (.pair .str (.pair (.int .i64) .unit)) .unit))) (.pair (.pair .str (.pair (.int .i64) .unit)) (.pair .bool .unit))) .unit)))
abbrev t220 : Ty := (.pair .str (.pair (.func (.pair (.pair .str (.pair (.int .i64) (.pair (.int .i64) (.pair (.int .i64) .unit)))) .unit) (.pair (.pair .str (.pair (.int .i64) (.pair (.int .i64) (.pair (.int .i64) .unit)))) .unit)) (.pair (.func (.pair (.pair .str (.pair (.int .i64) (.pair (.int .i64) (.pair (.int .i64) .unit)))) (.pair (.int .i64) (.pair (.pair .str (.pair (.int .i64) .unit)) .unit))) (.pair (.pair .str (.pair (.int .i64) .unit)) (.pair .bool .unit))) .unit)))
abbrev t222 : Ty := (.func .unit (.pair (.pair .str (.pair (.func (.pair (.pair .str (.pair (.int .i64) (.pair (.int .i64) (.pair (.int .i64) .unit)))) .unit) (.pair (.pair .str (.pair (.int .i64) (.pair (.int .i64) (.pair (.int .i64) .unit)))) .unit)) (.pair (.func (.pair (.pair .str (.pair (.int .i64) (.pair (.int .i64) (.pair (.int .i64) .unit)))) (.pair (.int .i64) (.pair (.pair .str (.pair (.int .i64) .unit)) .unit))) (.pair (.pair .str (.pair (.int .i64) .unit)) (.pair .bool .unit))) .unit))) (.pair .bool .unit)))
abbrev t224 : Ty := (.func (.pair (.func (.pair (.pair (.int .i64) (.pair .str (.pair (.int .i64) .unit))) (.pair (.pair (.int .i64) (.pair .bool (.pair .bool .unit))) .unit)) (.pair .bool .unit)) .unit) .unit)
abbrev t225 : Ty := (.func (.pair (.func (.pair (.pair (.int .i64) (.pair .str (.pair (.int .i64) .unit))) (.pair (.pair (.int .i64) (.pair .bool (.pair .bool .unit))) .unit)) (.pair .bool .unit)) .unit) .unit)
abbrev t226 : Ty := (.func (.pair (.slice (.int .i64)) .unit) (.pair (.func (.pair (.func (.pair (.pair (.int .i64) (.pair .str (.pair (.int .i64) .unit))) (.pair (.pair (.int .i64) (.pair .bool (.pair .bool .unit))) .unit)) (.pair .bool .unit)) .unit) .unit) .unit))
abbrev t227 : Ty := (.func (.pair (.slice (.pair (.int .i64) (.pair (.slice (.pair .str (.pair (.int .i64) .unit))) .unit))) (.pair (.func (.pair (.pair (.int .i64) (.pair (.slice (.pair .str (.pair (.int .i64) .unit))) .unit)) .unit) (.pair (.int .i64) .unit)) .unit)) (.pair (.slice (.int .i64)) .unit))
abbrev t228 : Ty := (.func (.pair (.pair (.int .i64) (.pair (.slice (.pair .str (.pair (.int .i64) .unit))) .unit)) .unit) (.pair (.int .i64) .unit))
abbrev t229 : Ty := (.func (.pair (.slice (.int .i64)) .unit) .unit)
abbrev t230 : Ty := (.func (.pair (.slice (.int .i64)) (.pair (.func (.pair (.int .i64) .unit) (.pair .bool .unit)) .unit)) (.pair .bool .unit))
abbrev t231 : Ty := (.map (.int .i64) .bool)
abbrev t232 : Ty := (.func (.pair (.func (.pair (.pair .str (.pair (.int .i64) .unit)) .unit) (.pair .bool .unit)) .unit) .unit)
abbrev t233 : Ty := (.func (.pair (.func (.pair (.pair .str (.pair (.int .i64) .unit)) .unit) (.pair .bool .unit)) .unit) .unit)
abbrev t234 : Ty := (.func .unit (.pair (.func (.pair (.func (.pair (.pair .str (.pair (.int .i64) .unit)) .unit) (.pair .bool .unit)) .unit) .unit) .unit))
abbrev t235 : Ty := (.func (.pair (.slice (.pair .str (.pair (.int .i64) .unit))) .unit) (.pair (.slice (.pair .str (.pair (.int .i64) .unit))) .unit))
abbrev t236 : Ty := (.func (.pair (.slice (.int .i64)) (.pair (.int .i64) .unit)) (.pair (.int .i64) .unit))
abbrev t237 : Ty := (.func (.pair (.slice .str) (.pair .str .unit)) (.pair (.int .i64) .unit))
abbrev t238 : Ty := (.arr 3 (.pair .str (.pair (.func (.pair (.pair .str (.pair (.int .i64) (.pair (.int .i64) (.pair (.int .i64) .unit)))) .unit) (.pair (.pair .str (.pair (.int .i64) (.pair (.int .i64) (.pair (.int .i64) .unit)))) .unit)) (.pair (.func (.pair (.pair .str (.pair (.int .i64) (.pair (.int .i64) (.pair (.int .i64) .unit)))) (.pair (.int .i64) (.pair (.pair .str (.pair (.int .i64) .unit)) .unit))) (.pair (.pair .str (.pair (.int .i64) .unit)) (.pair .bool .unit))) .unit))))
abbrev t239 : Ty := (.func .unit (.pair (.arr 3 (.pair .str (.pair (.func (.pair (.pair .str (.pair (.int .i64) (.pair (.int .i64) (.pair (.int .i64) .unit)))) .unit) (.pair (.pair .str (.pair (.int .i64) (.pair (.int .i64) (.pair (.int .i64) .unit)))) .unit)) (.pair (.func (.pair (.pair .str (.pair (.int .i64) (.pair (.int .i64) (.pair (.int .i64) .unit)))) (.pair (.int .i64) (.pair (.pair .str (.pair (.int .i64) .unit)) .unit))) (.pair (.pair .str (.pair (.int .i64) .unit)) (.pair .bool .unit))) .unit)))) .unit))
abbrev t240 : Ty := (.func (.pair (.slice (.int .i64)) (.pair (.int .i64) (.pair (.int .i64) (.pair (.int .i64) .unit)))) .unit)
abbrev t241 : Ty := (.func (.pair (.int .u64) .unit) (.pair (.int .i64) .unit))
abbrev t242 : Ty := (.int .u64)
abbrev t243 : Ty := (.func (.pair (.slice (.int .i64)) (.pair (.func (.pair (.int .i64) .unit) (.pair .bool .unit)) .unit)) (.pair (.int .i64) .unit))
abbrev t244 : Ty := (.func (.pair (.pair .str (.pair (.int .i64) .unit)) .unit) (.pair .bool .unit))
abbrev t245 : Ty := (.func (.pair (.int .i64) (.pair (.pair .str (.pair (.int .i64) .unit)) .unit)) (.pair (.pair .str (.pair (.int .i64) .unit)) (.pair .bool .unit)))
abbrev t246 : Ty := (.func (.pair (.slice (.int .i64)) (.pair (.int .i64) (.pair (.int .i64) .unit))) .unit)
abbrev t247 : Ty := (.int .i64)
abbrev t249 : Ty := (.func (.pair (.slice (.int .i64)) (.pair (.int .i64) (.pair (.int .i64) .unit))) (.pair (.int .i64) (.pair (.int .i64) .unit)))
abbrev t250 : Ty := (.func (.pair (.slice (.int .i64)) (.pair (.int .i64) (.pair (.int .i64) .unit))) (.pair .bool .unit))
abbrev t251 : Ty := (.func (.pair (.int .i64) (.pair (.int .i64) .unit)) (.pair .bool .unit))
abbrev t252 : Ty := (.func (.pair (.slice (.int .i64)) (.pair (.int .i64) (.pair (.int .i64) (.pair (.int .i64) .unit)))) (.pair (.int .i64) .unit))
abbrev t253 : Ty := (.func (.pair (.slice (.int .i64)) (.pair (.int .i64) (.pair (.int .i64) (.pair (.int .i64) .unit)))) (.pair (.int .i64) (.pair .bool .unit)))
abbrev t254 : Ty := (.func (.pair (.int .u32) .unit) (.pair (.int .i64) .unit))
abbrev t255 : Ty := (.int .u32)
abbrev t256 : Ty := (.func (.pair (.int .u64) .unit) (.pair (.int .i64) .unit))
abbrev t257 : Ty := (.int .u64)
abbrev t258 : Ty := (.int .u64)
abbrev t259 : Ty := (.func (.pair (.int .i64) .unit) (.pair (.int .u64) .unit))
abbrev t260 : Ty := (.func .unit (.pair (.int .u64) .unit))
abbrev t261 : Ty := (.func (.pair (.slice (.int .i64)) (.pair (.int .i64) (.pair (.ref (.int .i64)) .unit))) (.pair (.int .i64) .unit))
abbrev t262 : Ty := (.ref (.int .i64))
abbrev t263 : Ty := (.func (.pair (.slice (.int .i64)) (.pair (.int .i64) (.pair (.int .i64) (.pair (.int .i64) (.pair (.ref (.int .i64)) .unit))))) (.pair (.int .i64) .unit))
abbrev t264 : Ty := (.ref (.int .u64))
abbrev t265 : Ty := (.func (.pair (.slice (.int .i64)) (.pair (.int .i64) (.pair (.int .i64) (.pair (.ref (.int .i64)) .unit)))) (.pair (.int .i64) (.pair (.int .i64) .unit)))
abbrev t266 : Ty := (.func .unit (.pair .str .unit))
abbrev t272 : Ty := (.int .u8)
abbrev t273 : Ty := (.int .u8)
abbrev t275 : Ty := (.ref (.int .u8))
abbrev t276 : Ty := (.int .i32)
abbrev t277 : Ty := (.int .i32)
def T : List (TypeId × TyI) := [
  (1, { ty := t1, elem := 0, fields := [] }),
  (2, { ty := t2, elem := 0, fields := [] }),
  (3, { ty := t3, elem := 0, fields := [] }),
  (4, { ty := t4, elem := 0, fields := [] }),
  (5, { ty := t5, elem := 0, fields := [] }),
  (6, { ty := t6, elem := 0, fields := [] }),
  (7, { ty := t7, elem := 0, fields := [(0, 2), (1, 3), (2, 4), (3, 6)] }),
  (8, { ty := t8, elem := 0, fields := [(0, 2), (1, 3), (2, 4), (3, 6)] }),
  (9, { ty := t9, elem := 0, fields := [] }),
  (10, { ty := t10, elem := 0, fields := [] }),
  (11, { ty := t11, elem := 0, fields := [] }),
  (12, { ty := t12, elem := 0, fields := [] }),
  (21, { ty := t21, elem := 0, fields := [] }),
  (22, { ty := t22, elem := 107, fields := [] }),
  (23, { ty := t23, elem := 110, fields := [] }),
  (24, { ty := t24, elem := 0, fields := [(0, 22), (1, 23)] }),
  (25, { ty := t25, elem := 0, fields := [(0, 22), (1, 23)] }),
  (26, { ty := t26, elem := 0, fields := [] }),
  (27, { ty := t27, elem := 0, fields := [] }),
  (28, { ty := t28, elem := 3, fields := [] }),
  (29, { ty := t29, elem := 0, fields := [] }),
  (31, { ty := t31, elem := 0, fields := [] }),
  (32, { ty := t32, elem := 150, fields := [] }),
  (33, { ty := t33, elem := 148, fields := [] }),
  (34, { ty := t34, elem := 0, fields := [(0, 32), (1, 33)] }),
  (35, { ty := t35, elem := 0, fields := [(0, 32), (1, 33)] }),
  (36, { ty := t36, elem := 0, fields := [] }),
  (37, { ty := t37, elem := 9, fields := [] }),
  (39, { ty := t39, elem := 0, fields := [] }),
  (41, { ty := t41, elem := 0, fields := [] }),
  (42, { ty := t42, elem := 0, fields := [] }),
  (43, { ty := t43, elem := 0, fields := [] }),
  (44, { ty := t44, elem := 0, fields := [] }),
  (45, { ty := t45, elem := 0, fields := [] }),
  (46, { ty := t46, elem := 0, fields := [] }),
  (47, { ty := t47, elem := 0, fields := [] }),
  (48, { ty := t48, elem := 0, fields := [] }),
  (49, { ty := t49, elem := 0, fields := [] }),
  (50, { ty := t50, elem := 53, fields := [] }),
  (51, { ty := t51, elem := 0, fields := [] }),
  (52, { ty := t52, elem := 0, fields := [(0, 9), (1, 3)] }),
  (53, { ty := t53, elem := 0, fields := [(0, 9), (1, 3)] }),
  (54, { ty := t54, elem := 0, fields := [] }),
  (55, { ty := t55, elem := 0, fields := [(0, 9), (1, 3)] }),
  (56, { ty := t56, elem := 0, fields := [] }),
  (57, { ty := t57, elem := 55, fields := [] }),
  (58, { ty := t58, elem := 0, fields := [] }),
  (59, { ty := t59, elem := 0, fields := [] }),
  (60, { ty := t60, elem := 0, fields := [] }),
  (61, { ty := t61, elem := 0, fields := [] }),
  (63, { ty := t63, elem := 0, fields := [] }),
  (65, { ty := t65, elem := 0, fields := [] }),
  (66, { ty := t66, elem := 0, fields := [] }),
  (67, { ty := t67, elem := 84, fields := [] }),
  (68, { ty := t68, elem := 0, fields := [] }),
  (70, { ty := t70, elem := 0, fields := [] }),
  (71, { ty := t71, elem := 86, fields := [] }),
  (72, { ty := t72, elem := 0, fields := [] }),
  (73, { ty := t73, elem := 0, fields := [] }),
  (74, { ty := t74, elem := 0, fields := [] }),
  (75, { ty := t75, elem := 0, fields := [] }),
  (77, { ty := t77, elem := 0, fields := [] }),
  (78, { ty := t78, elem := 0, fields := [] }),
  (79, { ty := t79, elem := 0, fields := [] }),
  (80, { ty := t80, elem := 0, fields := [] }),
  (81, { ty := t81, elem := 0, fields := [] }),
  (82, { ty := t82, elem := 0, fields := [] }),
  (83, { ty := t83, elem := 0, fields := [(0, 3), (1, 3), (2, 9)] }),
  (84, { ty := t84, elem := 0, fields := [(0, 3), (1, 3), (2, 9)] }),
  (85, { ty := t85, elem := 0, fields := [] }),
  (86, { ty := t86, elem := 0, fields := [(0, 3), (1, 3), (2, 9)] }),
  (87, { ty := t87, elem := 0, fields := [] }),
  (88, { ty := t88, elem := 0, fields := [] }),
  (89, { ty := t89, elem := 0, fields := [] }),
  (90, { ty := t90, elem := 112, fields := [] }),
  (92, { ty := t92, elem := 0, fields := [] }),
  (93, { ty := t93, elem := 187, fields := [] }),
  (94, { ty := t94, elem := 0, fields := [] }),
  (95, { ty := t95, elem := 0, fields := [] }),
  (96, { ty := t96, elem := 0, fields := [] }),
  (97, { ty := t97, elem := 131, fields := [] }),
  (99, { ty := t99, elem := 0, fields := [] }),
  (100, { ty := t100, elem := 129, fields := [] }),
  (101, { ty := t101, elem := 0, fields := [] }),
  (102, { ty := t102, elem := 0, fields := [] }),
  (103, { ty := t103, elem := 0, fields := [] }),
  (104, { ty := t104, elem := 0, fields := [] }),
  (105, { ty := t105, elem := 0, fields := [] }),
  (106, { ty := t106, elem := 0, fields := [(0, 9), (1, 3), (2, 3), (3, 4)] }),
  (107, { ty := t107, elem := 0, fields := [(0, 9), (1, 3), (2, 3), (3, 4)] }),
  (108, { ty := t108, elem := 0, fields := [] }),
  (109, { ty := t109, elem := 0, fields := [(0, 3), (1, 9), (2, 3), (3, 3), (4, 3)] }),
  (110, { ty := t110, elem := 0, fields := [(0, 3), (1, 9), (2, 3), (3, 3), (4, 3)] }),
  (111, { ty := t111, elem := 0, fields := [(0, 3), (1, 9), (2, 3)] }),
  (112, { ty := t112, elem := 0, fields := [(0, 3), (1, 9), (2, 3)] }),
  (113, { ty := t113, elem := 0, fields := [] }),
  (115, { ty := t115, elem := 0, fields := [] }),
  (116, { ty := t116, elem := 0, fields := [] }),
  (117, { ty := t117, elem := 0, fields := [] }),
  (119, { ty := t119, elem := 0, fields := [] }),
  (120, { ty := t120, elem := 0, fields := [] }),
  (121, { ty := t121, elem := 0, fields := [] }),
  (122, { ty := t122, elem := 0, fields := [] }),
  (123, { ty := t123, elem := 0, fields := [] }),
  (124, { ty := t124, elem := 0, fields := [(0, 28), (1, 28), (2, 3), (3, 3)] }),
  (125, { ty := t125, elem := 0, fields := [(0, 28), (1, 28), (2, 3), (3, 3)] }),
  (126, { ty := t126, elem := 0, fields := [(0, 25), (2, 50), (3, 125)] }),
  (127, { ty := t127, elem := 0, fields := [(0, 25), (2, 50), (3, 125)] }),
  (128, { ty := t128, elem := 0, fields := [(0, 9), (1, 3), (2, 3), (3, 3)] }),
  (129, { ty := t129, elem := 0, fields := [(0, 9), (1, 3), (2, 3), (3, 3)] }),
  (130, { ty := t130, elem := 0, fields := [] }),
  (131, { ty := t131, elem := 0, fields := [(0, 9), (1, 3), (2, 3), (3, 3)] }),
  (133, { ty := t133, elem := 0, fields := [] }),
  (134, { ty := t134, elem := 0, fields := [(0, 28), (1, 28), (2, 3), (3, 3)] }),
  (135, { ty := t135, elem := 0, fields := [] }),
  (136, { ty := t136, elem := 0, fields := [] }),
  (137, { ty := t137, elem := 0, fields := [] }),
  (138, { ty := t138, elem := 0, fields := [] }),
  (139, { ty := t139, elem := 0, fields := [] }),
  (141, { ty := t141, elem := 0, fields := [] }),
  (143, { ty := t143, elem := 0, fields := [] }),
  (144, { ty := t144, elem := 0, fields := [] }),
  (145, { ty := t145, elem := 5, fields := [] }),
  (146, { ty := t146, elem := 0, fields := [] }),
  (147, { ty := t147, elem := 0, fields := [] }),
  (148, { ty := t148, elem := 0, fields := [(0, 3), (1, 9), (2, 3), (3, 3), (4, 3)] }),
  (149, { ty := t149, elem := 0, fields := [] }),
  (150, { ty := t150, elem := 0, fields := [(0, 9), (1, 3), (2, 3), (3, 4)] }),
  (151, { ty := t151, elem := 0, fields := [] }),
  (152, { ty := t152, elem := 0, fields := [] }),
  (153, { ty := t153, elem := 0, fields := [] }),
  (155, { ty := t155, elem := 0, fields := [] }),
  (156, { ty := t156, elem := 0, fields := [] }),
  (157, { ty := t157, elem := 0, fields := [] }),
  (158, { ty := t158, elem := 0, fields := [] }),
  (159, { ty := t159, elem := 0, fields := [] }),
  (160, { ty := t160, elem := 0, fields := [] }),
  (161, { ty := t161, elem := 0, fields := [] }),
  (162, { ty := t162, elem := 0, fields := [] }),
  (163, { ty := t163, elem := 0, fields := [] }),
  (164, { ty := t164, elem := 29, fields := [] }),
  (165, { ty := t165, elem := 0, fields := [] }),
  (166, { ty := t166, elem := 0, fields := [(0, 3), (1, 4), (2, 4)] }),
  (167, { ty := t167, elem := 0, fields := [(0, 3), (1, 4), (2, 4)] }),
  (168, { ty := t168, elem := 0, fields := [] }),
  (169, { ty := t169, elem := 0, fields := [] }),
  (170, { ty := t170, elem := 0, fields := [] }),
  (172, { ty := t172, elem := 0, fields := [] }),
  (173, { ty := t173, elem := 0, fields := [] }),
  (175, { ty := t175, elem := 0, fields := [] }),
  (177, { ty := t177, elem := 0, fields := [] }),
  (178, { ty := t178, elem := 0, fields := [] }),
  (179, { ty := t179, elem := 0, fields := [] }),
  (180, { ty := t180, elem := 0, fields := [] }),
  (181, { ty := t181, elem := 0, fields := [] }),
  (182, { ty := t182, elem := 0, fields := [] }),
  (183, { ty := t183, elem := 0, fields := [] }),
  (184, { ty := t184, elem := 4, fields := [] }),
  (185, { ty := t185, elem := 0, fields := [] }),
  (186, { ty := t186, elem := 0, fields := [] }),
  (187, { ty := t187, elem := 0, fields := [(0, 3), (1, 9), (2, 3)] }),
  (188, { ty := t188, elem := 191, fields := [] }),
  (189, { ty := t189, elem := 0, fields := [] }),
  (190, { ty := t190, elem := 0, fields := [(0, 3), (1, 50)] }),
  (191, { ty := t191, elem := 0, fields := [(0, 3), (1, 50)] }),
  (192, { ty := t192, elem := 0, fields := [] }),
  (193, { ty := t193, elem := 0, fields := [] }),
  (194, { ty := t194, elem := 197, fields := [] }),
  (195, { ty := t195, elem := 0, fields := [] }),
  (196, { ty := t196, elem := 0, fields := [(0, 3), (1, 57)] }),
  (197, { ty := t197, elem := 0, fields := [(0, 3), (1, 57)] }),
  (198, { ty := t198, elem := 0, fields := [] }),
  (199, { ty := t199, elem := 0, fields := [] }),
  (200, { ty := t200, elem := 0, fields := [] }),
  (201, { ty := t201, elem := 0, fields := [] }),
  (202, { ty := t202, elem := 204, fields := [] }),
  (203, { ty := t203, elem := 0, fields := [(0, 150), (4, 3)] }),
  (204, { ty := t204, elem := 0, fields := [(0, 150), (4, 3)] }),
  (205, { ty := t205, elem := 0, fields := [] }),
  (206, { ty := t206, elem := 0, fields := [] }),
  (207, { ty := t207, elem := 0, fields := [] }),
  (208, { ty := t208, elem := 0, fields := [] }),
  (209, { ty := t209, elem := 0, fields := [] }),
  (210, { ty := t210, elem := 0, fields := [] }),
  (211, { ty := t211, elem := 3, fields := [] }),
  (212, { ty := t212, elem := 0, fields := [] }),
  (213, { ty := t213, elem := 0, fields := [] }),
  (214, { ty := t214, elem := 0, fields := [] }),
  (215, { ty := t215, elem := 0, fields := [] }),
  (216, { ty := t216, elem := 0, fields := [] }),
  (217, { ty := t217, elem := 0, fields := [] }),
  (218, { ty := t218, elem := 0, fields := [] }),
  (219, { ty := t219, elem := 0, fields := [(0, 9), (1, 217), (2, 218)] }),
  (220, { ty := t220, elem := 0, fields := [(0, 9), (1, 217), (2, 218)] }),
  (222, { ty := t222, elem := 0, fields := [] }),
  (224, { ty := t224, elem := 0, fields := [] }),
  (225, { ty := t225, elem := 0, fields := [] }),
  (226, { ty := t226, elem := 0, fields := [] }),
  (227, { ty := t227, elem := 0, fields := [] }),
  (228, { ty := t228, elem := 0, fields := [] }),
  (229, { ty := t229, elem := 0, fields := [] }),
  (230, { ty := t230, elem := 0, fields := [] }),
  (231, { ty := t231, elem := 0, fields := [] }),
  (232, { ty := t232, elem := 0, fields := [] }),
  (233, { ty := t233, elem := 0, fields := [] }),
  (234, { ty := t234, elem := 0, fields := [] }),
  (235, { ty := t235, elem := 0, fields := [] }),
  (236, { ty := t236, elem := 0, fields := [] }),
  (237, { ty := t237, elem := 0, fields := [] }),
  (238, { ty := t238, elem := 220, fields := [] }),
  (239, { ty := t239, elem := 0, fields := [] }),
  (240, { ty := t240, elem := 0, fields := [] }),
  (241, { ty := t241, elem := 0, fields := [] }),
  (242, { ty := t242, elem := 0, fields := [] }),
  (243, { ty := t243, elem := 0, fields := [] }),
  (244, { ty := t244, elem := 0, fields := [] }),
  (245, { ty := t245, elem := 0, fields := [] }),
  (246, { ty := t246, elem := 0, fields := [] }),
  (247, { ty := t247, elem := 0, fields := [] }),
  (249, { ty := t249, elem := 0, fields := [] }),
  (250, { ty := t250, elem := 0, fields := [] }),
  (251, { ty := t251, elem := 0, fields := [] }),
  (252, { ty := t252, elem := 0, fields := [] }),
  (253, { ty := t253, elem := 0, fields := [] }),
  (254, { ty := t254, elem := 0, fields := [] }),
  (255, { ty := t255, elem := 0, fields := [] }),
  (256, { ty := t256, elem := 0, fields := [] }),
  (257, { ty := t257, elem := 0, fields := [] }),
  (258, { ty := t258, elem := 0, fields := [] }),
  (259, { ty := t259, elem := 0, fields := [] }),
  (260, { ty := t260, elem := 0, fields := [] }),
  (261, { ty := t261, elem := 0, fields := [] }),
  (262, { ty := t262, elem := 3, fields := [] }),
  (263, { ty := t263, elem := 0, fields := [] }),
  (264, { ty := t264, elem := 258, fields := [] }),
  (265, { ty := t265, elem := 0, fields := [] }),
  (266, { ty := t266, elem := 0, fields := [] }),
  (272, { ty := t272, elem := 0, fields := [] }),
  (273, { ty := t273, elem := 0, fields := [] }),
  (275, { ty := t275, elem := 5, fields := [] }),
  (276, { ty := t276, elem := 0, fields := [] }),
  (277, { ty := t277, elem := 0, fields := [] })
]
end Go.Vx.B
