/- The table of types, by program (tygen.py). -/
import Derived.Test.YtclcodeedopemaaGreatVA

namespace Go.Vx.B
abbrev t1 : Ty := (.func .unit .unit)
abbrev t2 : Ty := (.int .i64)
abbrev t3 : Ty := (.int .i64)
abbrev t4 : Ty := .bool
abbrev t5 : Ty := (.int .u8)
abbrev t6 : Ty := (.int .u8)
abbrev t7 : Ty := (.pair (.int .i64) (.pair (.int .i64) (.pair .bool (.pair (.int .u8) .unit))))
abbrev t8 : Ty := (.pair (.int .i64) (.pair (.int .i64) (.pair .bool (.pair (.int .u8) .unit))))
abbrev t9 : Ty := .str
abbrev t10 : Ty := .str
abbrev t11 : Ty := .str
abbrev t12 : Ty := (.int .u64)
abbrev t21 : Ty := (.int .i32)
abbrev t22 : Ty := (.slice (.pair .str (.pair (.int .i64) (.pair (.int .i64) (.pair .bool .unit)))))
abbrev t23 : Ty := (.slice (.pair (.int .i64) (.pair .str (.pair (.int .i64) (.pair (.int .i64) (.pair (.int .i64) .unit))))))
abbrev t24 : Ty := (.pair (.slice (.pair .str (.pair (.int .i64) (.pair (.int .i64) (.pair .bool .unit))))) (.pair (.slice (.pair (.int .i64) (.pair .str (.pair (.int .i64) (.pair (.int .i64) (.pair (.int .i64) .unit)))))) .unit))
abbrev t25 : Ty := (.pair (.slice (.pair .str (.pair (.int .i64) (.pair (.int .i64) (.pair .bool .unit))))) (.pair (.slice (.pair (.int .i64) (.pair .str (.pair (.int .i64) (.pair (.int .i64) (.pair (.int .i64) .unit)))))) .unit))
abbrev t26 : Ty := (.slice (.pair .str (.pair (.int .i64) .unit)))
abbrev t27 : Ty := (.int .u16)
abbrev t28 : Ty := (.arr 2 (.int .u16))
abbrev t29 : Ty := (.func (.pair (.pair (.slice (.pair .str (.pair (.int .i64) (.pair (.int .i64) (.pair .bool .unit))))) (.pair (.slice (.pair (.int .i64) (.pair .str (.pair (.int .i64) (.pair (.int .i64) (.pair (.int .i64) .unit)))))) .unit)) .unit) (.pair .bool .unit))
abbrev t30 : Ty := (.func (.pair (.slice (.pair .str (.pair (.int .i64) .unit))) .unit) (.pair .bool .unit))
abbrev t31 : Ty := (.func (.pair (.pair (.slice (.pair .str (.pair (.int .i64) (.pair (.int .i64) (.pair .bool .unit))))) (.pair (.slice (.pair (.int .i64) (.pair .str (.pair (.int .i64) (.pair (.int .i64) (.pair (.int .i64) .unit)))))) .unit)) .unit) (.pair (.int .i64) .unit))
abbrev t32 : Ty := (.func (.pair (.slice (.pair .str (.pair (.int .i64) .unit))) .unit) (.pair (.int .i64) .unit))
abbrev t33 : Ty := (.slice (.pair (.int .i64) (.pair .str (.pair (.int .i64) .unit))))
abbrev t34 : Ty := (.func (.pair (.pair (.slice (.pair .str (.pair (.int .i64) (.pair (.int .i64) (.pair .bool .unit))))) (.pair (.slice (.pair (.int .i64) (.pair .str (.pair (.int .i64) (.pair (.int .i64) (.pair (.int .i64) .unit)))))) .unit)) .unit) (.pair (.slice (.pair (.int .i64) (.pair .str (.pair (.int .i64) .unit)))) .unit))
abbrev t35 : Ty := (.func .unit (.pair .bool .unit))
abbrev t36 : Ty := (.slice (.pair (.int .i64) (.pair (.int .i64) (.pair .str .unit))))
abbrev t37 : Ty := (.slice (.int .i64))
abbrev t38 : Ty := (.pair .str (.pair (.int .i64) .unit))
abbrev t39 : Ty := (.pair .str (.pair (.int .i64) .unit))
abbrev t40 : Ty := (.pair (.int .i64) (.pair (.int .i64) (.pair .str .unit)))
abbrev t41 : Ty := (.pair (.int .i64) (.pair (.int .i64) (.pair .str .unit)))
abbrev t42 : Ty := (.int .i64)
abbrev t44 : Ty := (.func (.pair (.int .i64) (.pair (.int .i64) .unit)) (.pair (.slice (.int .i64)) (.pair (.int .i64) .unit)))
abbrev t45 : Ty := (.slice .str)
abbrev t47 : Ty := (.func (.pair (.slice (.pair (.int .i64) (.pair (.int .i64) (.pair .str .unit)))) .unit) (.pair (.slice .str) (.pair (.int .i64) (.pair (.int .i64) .unit))))
abbrev t48 : Ty := (.func (.pair (.slice (.pair (.int .i64) (.pair (.int .i64) (.pair .str .unit)))) (.pair (.int .i64) .unit)) (.pair (.slice (.int .i64)) (.pair (.int .i64) .unit)))
abbrev t49 : Ty := (.func (.pair (.slice (.int .i64)) (.pair (.slice (.int .i64)) .unit)) (.pair .bool .unit))
abbrev t50 : Ty := (.slice (.pair .str (.pair (.int .i64) .unit)))
abbrev t51 : Ty := (.pair .str (.pair (.int .i64) .unit))
abbrev t52 : Ty := (.func (.pair (.pair (.slice (.pair .str (.pair (.int .i64) (.pair (.int .i64) (.pair .bool .unit))))) (.pair (.slice (.pair (.int .i64) (.pair .str (.pair (.int .i64) (.pair (.int .i64) (.pair (.int .i64) .unit)))))) .unit)) (.pair (.slice (.pair .str (.pair (.int .i64) .unit))) .unit)) (.pair (.slice (.int .i64)) (.pair (.int .i64) .unit)))
abbrev t53 : Ty := (.slice (.pair .str (.pair (.int .i64) (.pair (.int .i64) (.pair .bool .unit)))))
abbrev t54 : Ty := (.slice (.pair (.int .i64) (.pair .str (.pair (.int .i64) (.pair (.int .i64) (.pair (.int .i64) .unit))))))
abbrev t55 : Ty := (.pair (.slice (.pair .str (.pair (.int .i64) (.pair (.int .i64) (.pair .bool .unit))))) (.pair (.slice (.pair (.int .i64) (.pair .str (.pair (.int .i64) (.pair (.int .i64) (.pair (.int .i64) .unit)))))) .unit))
abbrev t56 : Ty := (.pair (.slice (.pair .str (.pair (.int .i64) (.pair (.int .i64) (.pair .bool .unit))))) (.pair (.slice (.pair (.int .i64) (.pair .str (.pair (.int .i64) (.pair (.int .i64) (.pair (.int .i64) .unit)))))) .unit))
abbrev t57 : Ty := (.func (.pair (.pair (.slice (.pair .str (.pair (.int .i64) (.pair (.int .i64) (.pair .bool .unit))))) (.pair (.slice (.pair (.int .i64) (.pair .str (.pair (.int .i64) (.pair (.int .i64) (.pair (.int .i64) .unit)))))) .unit)) .unit) (.pair (.pair (.slice (.pair .str (.pair (.int .i64) (.pair (.int .i64) (.pair .bool .unit))))) (.pair (.slice (.pair (.int .i64) (.pair .str (.pair (.int .i64) (.pair (.int .i64) (.pair (.int .i64) .unit)))))) .unit)) .unit))
abbrev t58 : Ty := (.func (.pair (.slice (.pair .str (.pair (.int .i64) .unit))) .unit) (.pair (.slice (.pair .str (.pair (.int .i64) .unit))) .unit))
abbrev t59 : Ty := (.func (.pair (.pair (.slice (.pair .str (.pair (.int .i64) (.pair (.int .i64) (.pair .bool .unit))))) (.pair (.slice (.pair (.int .i64) (.pair .str (.pair (.int .i64) (.pair (.int .i64) (.pair (.int .i64) .unit)))))) .unit)) (.pair (.slice (.pair .str (.pair (.int .i64) .unit))) (.pair (.arr 2 (.int .u16)) .unit))) (.pair .bool .unit))
abbrev t60 : Ty := (.slice (.pair (.int .i64) (.pair .str (.pair (.int .i64) .unit))))
abbrev t62 : Ty := (.func (.pair (.pair (.slice (.pair .str (.pair (.int .i64) (.pair (.int .i64) (.pair .bool .unit))))) (.pair (.slice (.pair (.int .i64) (.pair .str (.pair (.int .i64) (.pair (.int .i64) (.pair (.int .i64) .unit)))))) .unit)) .unit) (.pair (.slice (.pair (.int .i64) (.pair .str (.pair (.int .i64) .unit)))) (.pair (.int .i64) .unit)))
abbrev t63 : Ty := (.func (.pair (.pair (.slice (.pair .str (.pair (.int .i64) (.pair (.int .i64) (.pair .bool .unit))))) (.pair (.slice (.pair (.int .i64) (.pair .str (.pair (.int .i64) (.pair (.int .i64) (.pair (.int .i64) .unit)))))) .unit)) .unit) (.pair (.slice (.int .i64)) (.pair (.int .i64) .unit)))
abbrev t65 : Ty := (.func (.pair (.pair (.slice (.pair .str (.pair (.int .i64) (.pair (.int .i64) (.pair .bool .unit))))) (.pair (.slice (.pair (.int .i64) (.pair .str (.pair (.int .i64) (.pair (.int .i64) (.pair (.int .i64) .unit)))))) .unit)) .unit) (.pair (.slice .str) (.pair (.int .i64) .unit)))
abbrev t67 : Ty := (.func (.pair (.pair (.slice (.pair .str (.pair (.int .i64) (.pair (.int .i64) (.pair .bool .unit))))) (.pair (.slice (.pair (.int .i64) (.pair .str (.pair (.int .i64) (.pair (.int .i64) (.pair (.int .i64) .unit)))))) .unit)) .unit) (.pair (.int .i64) (.pair (.int .i64) .unit)))
abbrev t68 : Ty := (.slice (.pair .str (.pair (.int .i64) (.pair (.int .i64) (.pair (.int .i64) .unit)))))
abbrev t70 : Ty := (.func (.pair (.slice (.pair .str (.pair (.int .i64) .unit))) .unit) (.pair (.slice (.pair .str (.pair (.int .i64) (.pair (.int .i64) (.pair (.int .i64) .unit))))) (.pair (.int .i64) .unit)))
abbrev t71 : Ty := (.map (.pair (.int .i64) (.pair .str (.pair (.int .i64) .unit))) .bool)
abbrev t72 : Ty := (.pair (.int .i64) (.pair .str (.pair (.int .i64) .unit)))
abbrev t73 : Ty := (.pair (.int .i64) (.pair .str (.pair (.int .i64) .unit)))
abbrev t74 : Ty := (.pair .str (.pair (.int .i64) (.pair (.int .i64) (.pair (.int .i64) .unit))))
abbrev t75 : Ty := (.pair .str (.pair (.int .i64) (.pair (.int .i64) (.pair (.int .i64) .unit))))
abbrev t76 : Ty := (.func (.pair (.pair (.slice (.pair .str (.pair (.int .i64) (.pair (.int .i64) (.pair .bool .unit))))) (.pair (.slice (.pair (.int .i64) (.pair .str (.pair (.int .i64) (.pair (.int .i64) (.pair (.int .i64) .unit)))))) .unit)) (.pair (.slice (.pair .str (.pair (.int .i64) .unit))) (.pair (.pair .str (.pair (.int .i64) (.pair (.int .i64) (.pair (.int .i64) .unit)))) .unit))) (.pair (.slice (.int .i64)) (.pair (.int .i64) .unit)))
abbrev t77 : Ty := (.func (.pair (.slice (.int .i64)) (.pair (.int .i64) .unit)) (.pair .bool .unit))
abbrev t78 : Ty := (.func (.pair (.slice .str) (.pair .str .unit)) (.pair .bool .unit))
abbrev t79 : Ty := (.pair .str (.pair (.int .i64) (.pair (.int .i64) (.pair .bool .unit))))
abbrev t80 : Ty := (.pair .str (.pair (.int .i64) (.pair (.int .i64) (.pair .bool .unit))))
abbrev t82 : Ty := (.func (.pair (.pair (.slice (.pair .str (.pair (.int .i64) (.pair (.int .i64) (.pair .bool .unit))))) (.pair (.slice (.pair (.int .i64) (.pair .str (.pair (.int .i64) (.pair (.int .i64) (.pair (.int .i64) .unit)))))) .unit)) (.pair (.slice (.int .i64)) .unit)) (.pair (.slice (.pair .str (.pair (.int .i64) .unit))) (.pair (.int .i64) .unit)))
abbrev t83 : Ty := (.func (.pair (.pair (.slice (.pair .str (.pair (.int .i64) (.pair (.int .i64) (.pair .bool .unit))))) (.pair (.slice (.pair (.int .i64) (.pair .str (.pair (.int .i64) (.pair (.int .i64) (.pair (.int .i64) .unit)))))) .unit)) (.pair (.slice (.int .i64)) (.pair (.slice (.pair .str (.pair (.int .i64) .unit))) .unit))) (.pair (.int .i64) .unit))
abbrev t84 : Ty := (.func (.pair (.pair (.slice (.pair .str (.pair (.int .i64) (.pair (.int .i64) (.pair .bool .unit))))) (.pair (.slice (.pair (.int .i64) (.pair .str (.pair (.int .i64) (.pair (.int .i64) (.pair (.int .i64) .unit)))))) .unit)) (.pair (.slice (.pair .str (.pair (.int .i64) .unit))) .unit)) (.pair .bool .unit))
abbrev t85 : Ty := (.pair (.int .i64) (.pair .str (.pair (.int .i64) (.pair (.int .i64) (.pair (.int .i64) .unit)))))
abbrev t86 : Ty := (.pair (.int .i64) (.pair .str (.pair (.int .i64) (.pair (.int .i64) (.pair (.int .i64) .unit)))))
abbrev t87 : Ty := (.func (.pair .str .unit) (.pair (.int .i64) .unit))
abbrev t89 : Ty := (.func (.pair (.pair (.slice (.pair .str (.pair (.int .i64) (.pair (.int .i64) (.pair .bool .unit))))) (.pair (.slice (.pair (.int .i64) (.pair .str (.pair (.int .i64) (.pair (.int .i64) (.pair (.int .i64) .unit)))))) .unit)) (.pair (.int .i64) (.pair (.int .i64) .unit))) (.pair (.int .i64) (.pair .bool .unit)))
abbrev t90 : Ty := (.func (.pair (.int .i64) (.pair (.int .i64) (.pair (.int .i64) .unit))) (.pair (.int .i64) .unit))
abbrev t91 : Ty := (.func (.pair (.slice (.int .i64)) .unit) (.pair (.int .i64) .unit))
abbrev t92 : Ty := (.func (.pair .bool (.pair (.int .i64) .unit)) (.pair (.int .i64) .unit))
abbrev t93 : Ty := (.func (.pair (.pair (.slice (.pair .str (.pair (.int .i64) (.pair (.int .i64) (.pair .bool .unit))))) (.pair (.slice (.pair (.int .i64) (.pair .str (.pair (.int .i64) (.pair (.int .i64) (.pair (.int .i64) .unit)))))) .unit)) .unit) (.pair (.slice .str) .unit))
abbrev t94 : Ty := (.func (.pair (.pair .str (.pair (.int .i64) .unit)) .unit) (.pair (.int .i64) .unit))
abbrev t95 : Ty := (.func (.pair (.pair (.slice (.pair .str (.pair (.int .i64) (.pair (.int .i64) (.pair .bool .unit))))) (.pair (.slice (.pair (.int .i64) (.pair .str (.pair (.int .i64) (.pair (.int .i64) (.pair (.int .i64) .unit)))))) .unit)) (.pair .bool .unit)) (.pair (.slice (.pair (.int .i64) (.pair .str (.pair (.int .i64) .unit)))) .unit))
abbrev t96 : Ty := (.pair .str (.pair (.int .i64) (.pair (.int .i64) (.pair .bool .unit))))
abbrev t97 : Ty := (.pair (.int .i64) (.pair .str (.pair (.int .i64) (.pair (.int .i64) (.pair (.int .i64) .unit)))))
abbrev t98 : Ty := (.func (.pair (.slice (.int .i64)) .unit) (.pair (.int .i64) (.pair (.int .i64) .unit)))
abbrev t99 : Ty := (.func (.pair (.slice .str) (.pair (.slice .str) .unit)) (.pair .bool .unit))
abbrev t100 : Ty := (.func (.pair (.slice (.int .i64)) .unit) (.pair (.int .i64) .unit))
abbrev t101 : Ty := (.func (.pair (.int .i64) (.pair (.int .i64) (.pair (.int .i64) .unit))) (.pair (.int .i64) .unit))
abbrev t102 : Ty := (.map (.int .i64) .str)
abbrev t104 : Ty := (.func (.pair (.slice (.pair (.int .i64) (.pair (.int .i64) (.pair .str .unit)))) .unit) (.pair (.map (.int .i64) .str) (.pair (.int .i64) .unit)))
abbrev t106 : Ty := (.func (.pair (.pair (.slice (.pair .str (.pair (.int .i64) (.pair (.int .i64) (.pair .bool .unit))))) (.pair (.slice (.pair (.int .i64) (.pair .str (.pair (.int .i64) (.pair (.int .i64) (.pair (.int .i64) .unit)))))) .unit)) .unit) (.pair (.int .i64) .unit))
abbrev t107 : Ty := (.func (.pair (.slice (.pair .str (.pair (.int .i64) .unit))) .unit) (.pair (.int .i64) .unit))
abbrev t108 : Ty := (.func (.pair (.slice (.pair .str (.pair (.int .i64) .unit))) (.pair (.pair .str (.pair (.int .i64) (.pair (.int .i64) (.pair (.int .i64) .unit)))) .unit)) (.pair (.slice (.int .i64)) (.pair (.int .i64) .unit)))
abbrev t109 : Ty := (.pair (.int .i64) (.pair .bool (.pair .bool .unit)))
abbrev t110 : Ty := (.pair (.int .i64) (.pair .bool (.pair .bool .unit)))
abbrev t111 : Ty := (.arr 4 .bool)
abbrev t112 : Ty := (.func (.pair (.int .i64) .unit) (.pair (.arr 4 .bool) .unit))
abbrev t113 : Ty := (.func (.pair (.pair (.int .i64) (.pair .str (.pair (.int .i64) .unit))) (.pair (.pair (.int .i64) (.pair .bool (.pair .bool .unit))) .unit)) (.pair .bool .unit))
abbrev t114 : Ty := (.func (.pair (.slice (.int .i64)) (.pair (.func (.pair (.pair (.int .i64) (.pair .str (.pair (.int .i64) .unit))) (.pair (.pair (.int .i64) (.pair .bool (.pair .bool .unit))) .unit)) (.pair .bool .unit)) .unit)) (.pair (.slice (.pair (.int .i64) (.pair .str (.pair (.int .i64) .unit)))) .unit))
abbrev t115 : Ty := (.func .unit (.pair (.slice (.int .i64)) .unit))
abbrev t116 : Ty := (.func .unit (.pair (.slice .str) .unit))
abbrev t117 : Ty := (.func (.pair (.int .i64) .unit) (.pair (.int .i64) .unit))
abbrev t118 : Ty := (.func (.pair (.int .i64) .unit) (.pair (.slice (.pair .str (.pair (.int .i64) (.pair (.int .i64) (.pair (.int .i64) .unit))))) .unit))
abbrev t119 : Ty := (.func (.pair (.int .i64) .unit) (.pair (.int .i64) .unit))
abbrev t120 : Ty := (.func (.pair (.slice (.int .i64)) .unit) (.pair (.int .i64) .unit))
abbrev t121 : Ty := (.slice (.pair (.int .i64) (.pair (.slice (.pair .str (.pair (.int .i64) .unit))) .unit)))
abbrev t122 : Ty := (.func .unit (.pair (.slice (.pair (.int .i64) (.pair (.slice (.pair .str (.pair (.int .i64) .unit))) .unit))) .unit))
abbrev t123 : Ty := (.pair (.int .i64) (.pair (.slice (.pair .str (.pair (.int .i64) .unit))) .unit))
abbrev t124 : Ty := (.pair (.int .i64) (.pair (.slice (.pair .str (.pair (.int .i64) .unit))) .unit))
abbrev t125 : Ty := (.func (.pair .bool (.pair (.int .i64) .unit)) (.pair (.int .i64) .unit))
abbrev t126 : Ty := (.func (.pair .str .unit) (.pair .bool .unit))
abbrev t127 : Ty := (.func (.pair (.pair (.slice (.pair .str (.pair (.int .i64) (.pair (.int .i64) (.pair .bool .unit))))) (.pair (.slice (.pair (.int .i64) (.pair .str (.pair (.int .i64) (.pair (.int .i64) (.pair (.int .i64) .unit)))))) .unit)) (.pair (.int .i64) .unit)) (.pair .bool .unit))
abbrev t129 : Ty := (.func (.pair (.pair (.slice (.pair .str (.pair (.int .i64) (.pair (.int .i64) (.pair .bool .unit))))) (.pair (.slice (.pair (.int .i64) (.pair .str (.pair (.int .i64) (.pair (.int .i64) (.pair (.int .i64) .unit)))))) .unit)) (.pair (.int .i64) (.pair (.pair .str (.pair (.int .i64) .unit)) .unit))) (.pair (.int .i64) (.pair (.pair (.int .i64) (.pair .str (.pair (.int .i64) (.pair (.int .i64) (.pair (.int .i64) .unit))))) .unit)))
abbrev t130 : Ty := (.pair (.int .i64) (.pair .str (.pair (.int .i64) .unit)))
abbrev t131 : Ty := (.slice (.int .i64))
abbrev t132 : Ty := (.func (.pair (.slice (.int .i64)) (.pair (.func (.pair (.int .i64) .unit) (.pair (.int .i64) .unit)) .unit)) (.pair (.slice (.int .i64)) .unit))
abbrev t133 : Ty := (.func (.pair (.slice (.int .i64)) (.pair (.func (.pair (.int .i64) .unit) (.pair .bool .unit)) .unit)) (.pair (.slice (.int .i64)) .unit))
abbrev t134 : Ty := (.func (.pair (.int .i64) .unit) (.pair .bool .unit))
abbrev t135 : Ty := (.func (.pair .str .unit) (.pair (.int .i64) .unit))
abbrev t136 : Ty := (.func .unit (.pair (.int .i64) .unit))
abbrev t137 : Ty := (.func (.pair (.pair (.int .i64) (.pair .str (.pair (.int .i64) (.pair (.int .i64) (.pair (.int .i64) .unit))))) .unit) (.pair (.int .i64) .unit))
abbrev t138 : Ty := (.func (.pair (.slice (.pair (.int .i64) (.pair .str (.pair (.int .i64) (.pair (.int .i64) (.pair (.int .i64) .unit)))))) (.pair (.func (.pair (.pair (.int .i64) (.pair .str (.pair (.int .i64) (.pair (.int .i64) (.pair (.int .i64) .unit))))) .unit) (.pair (.int .i64) .unit)) .unit)) (.pair (.slice (.int .i64)) .unit))
abbrev t139 : Ty := (.func (.pair (.slice (.pair .str (.pair (.int .i64) .unit))) (.pair (.func (.pair (.pair .str (.pair (.int .i64) .unit)) .unit) (.pair (.int .i64) .unit)) .unit)) (.pair (.slice (.int .i64)) .unit))
abbrev t140 : Ty := (.func (.pair (.pair .str (.pair (.int .i64) .unit)) .unit) (.pair (.int .i64) .unit))
abbrev t141 : Ty := (.func (.pair (.pair .str (.pair (.int .i64) (.pair (.int .i64) (.pair (.int .i64) .unit)))) .unit) (.pair (.pair .str (.pair (.int .i64) (.pair (.int .i64) (.pair (.int .i64) .unit)))) .unit))
abbrev t142 : Ty := (.func (.pair (.pair .str (.pair (.int .i64) (.pair (.int .i64) (.pair (.int .i64) .unit)))) (.pair (.int .i64) (.pair (.pair .str (.pair (.int .i64) .unit)) .unit))) (.pair (.pair .str (.pair (.int .i64) .unit)) (.pair .bool .unit)))
abbrev t143 : Ty := (.pair .str (.pair (.func (.pair (.pair .str (.pair (.int .i64) (.pair (.int .i64) (.pair (.int .i64) .unit)))) .unit) (.pair (.pair .str (.pair (.int .i64) (.pair (.int .i64) (.pair (.int .i64) .unit)))) .unit)) (.pair (.func (.pair (.pair .str (.pair (.int .i64) (.pair (.int .i64) (.pair (.int .i64) .unit)))) (.pair (.int .i64) (.pair (.pair .str (.pair (.int .i64) .unit)) .unit))) (.pair (.pair .str (.pair (.int .i64) .unit)) (.pair .bool .unit))) .unit)))
abbrev t144 : Ty := (.pair .str (.pair (.func (.pair (.pair .str (.pair (.int .i64) (.pair (.int .i64) (.pair (.int .i64) .unit)))) .unit) (.pair (.pair .str (.pair (.int .i64) (.pair (.int .i64) (.pair (.int .i64) .unit)))) .unit)) (.pair (.func (.pair (.pair .str (.pair (.int .i64) (.pair (.int .i64) (.pair (.int .i64) .unit)))) (.pair (.int .i64) (.pair (.pair .str (.pair (.int .i64) .unit)) .unit))) (.pair (.pair .str (.pair (.int .i64) .unit)) (.pair .bool .unit))) .unit)))
abbrev t146 : Ty := (.func .unit (.pair (.pair .str (.pair (.func (.pair (.pair .str (.pair (.int .i64) (.pair (.int .i64) (.pair (.int .i64) .unit)))) .unit) (.pair (.pair .str (.pair (.int .i64) (.pair (.int .i64) (.pair (.int .i64) .unit)))) .unit)) (.pair (.func (.pair (.pair .str (.pair (.int .i64) (.pair (.int .i64) (.pair (.int .i64) .unit)))) (.pair (.int .i64) (.pair (.pair .str (.pair (.int .i64) .unit)) .unit))) (.pair (.pair .str (.pair (.int .i64) .unit)) (.pair .bool .unit))) .unit))) (.pair .bool .unit)))
abbrev t148 : Ty := (.func (.pair (.int .i64) (.pair (.pair .str (.pair (.int .i64) .unit)) .unit)) (.pair (.pair (.int .i64) (.pair .bool (.pair .bool .unit))) .unit))
abbrev t149 : Ty := (.func (.pair (.func (.pair (.pair (.int .i64) (.pair .str (.pair (.int .i64) .unit))) (.pair (.pair (.int .i64) (.pair .bool (.pair .bool .unit))) .unit)) (.pair .bool .unit)) .unit) .unit)
abbrev t150 : Ty := (.func (.pair (.func (.pair (.pair (.int .i64) (.pair .str (.pair (.int .i64) .unit))) (.pair (.pair (.int .i64) (.pair .bool (.pair .bool .unit))) .unit)) (.pair .bool .unit)) .unit) .unit)
abbrev t151 : Ty := (.func (.pair (.slice (.int .i64)) .unit) (.pair (.func (.pair (.func (.pair (.pair (.int .i64) (.pair .str (.pair (.int .i64) .unit))) (.pair (.pair (.int .i64) (.pair .bool (.pair .bool .unit))) .unit)) (.pair .bool .unit)) .unit) .unit) .unit))
abbrev t152 : Ty := (.func (.pair (.slice (.pair (.int .i64) (.pair (.slice (.pair .str (.pair (.int .i64) .unit))) .unit))) (.pair (.func (.pair (.pair (.int .i64) (.pair (.slice (.pair .str (.pair (.int .i64) .unit))) .unit)) .unit) (.pair (.int .i64) .unit)) .unit)) (.pair (.slice (.int .i64)) .unit))
abbrev t153 : Ty := (.func (.pair (.pair (.int .i64) (.pair (.slice (.pair .str (.pair (.int .i64) .unit))) .unit)) .unit) (.pair (.int .i64) .unit))
abbrev t154 : Ty := (.func (.pair (.slice (.int .i64)) .unit) .unit)
abbrev t155 : Ty := (.func (.pair (.slice (.int .i64)) (.pair (.func (.pair (.int .i64) .unit) (.pair .bool .unit)) .unit)) (.pair .bool .unit))
abbrev t156 : Ty := (.map (.int .i64) .bool)
abbrev t157 : Ty := (.func (.pair (.func (.pair (.pair .str (.pair (.int .i64) .unit)) .unit) (.pair .bool .unit)) .unit) .unit)
abbrev t158 : Ty := (.func (.pair (.func (.pair (.pair .str (.pair (.int .i64) .unit)) .unit) (.pair .bool .unit)) .unit) .unit)
abbrev t159 : Ty := (.func .unit (.pair (.func (.pair (.func (.pair (.pair .str (.pair (.int .i64) .unit)) .unit) (.pair .bool .unit)) .unit) .unit) .unit))
abbrev t160 : Ty := (.func (.pair (.slice (.pair .str (.pair (.int .i64) .unit))) .unit) (.pair (.slice (.pair .str (.pair (.int .i64) .unit))) .unit))
abbrev t161 : Ty := (.func (.pair (.slice (.int .i64)) (.pair (.int .i64) .unit)) (.pair (.int .i64) .unit))
abbrev t162 : Ty := (.map .str .bool)
abbrev t163 : Ty := (.map (.int .i64) (.slice (.int .i64)))
abbrev t164 : Ty := (.arr 3 (.pair .str (.pair (.func (.pair (.pair .str (.pair (.int .i64) (.pair (.int .i64) (.pair (.int .i64) .unit)))) .unit) (.pair (.pair .str (.pair (.int .i64) (.pair (.int .i64) (.pair (.int .i64) .unit)))) .unit)) (.pair (.func (.pair (.pair .str (.pair (.int .i64) (.pair (.int .i64) (.pair (.int .i64) .unit)))) (.pair (.int .i64) (.pair (.pair .str (.pair (.int .i64) .unit)) .unit))) (.pair (.pair .str (.pair (.int .i64) .unit)) (.pair .bool .unit))) .unit))))
abbrev t165 : Ty := (.func .unit (.pair (.arr 3 (.pair .str (.pair (.func (.pair (.pair .str (.pair (.int .i64) (.pair (.int .i64) (.pair (.int .i64) .unit)))) .unit) (.pair (.pair .str (.pair (.int .i64) (.pair (.int .i64) (.pair (.int .i64) .unit)))) .unit)) (.pair (.func (.pair (.pair .str (.pair (.int .i64) (.pair (.int .i64) (.pair (.int .i64) .unit)))) (.pair (.int .i64) (.pair (.pair .str (.pair (.int .i64) .unit)) .unit))) (.pair (.pair .str (.pair (.int .i64) .unit)) (.pair .bool .unit))) .unit)))) .unit))
abbrev t166 : Ty := (.func (.pair (.slice (.pair (.int .i64) (.pair .str (.pair (.int .i64) (.pair (.int .i64) (.pair (.int .i64) .unit)))))) (.pair (.func (.pair (.pair (.int .i64) (.pair .str (.pair (.int .i64) (.pair (.int .i64) (.pair (.int .i64) .unit))))) .unit) (.pair .bool .unit)) .unit)) (.pair (.slice (.pair (.int .i64) (.pair .str (.pair (.int .i64) (.pair (.int .i64) (.pair (.int .i64) .unit)))))) .unit))
abbrev t167 : Ty := (.func (.pair (.pair (.int .i64) (.pair .str (.pair (.int .i64) (.pair (.int .i64) (.pair (.int .i64) .unit))))) .unit) (.pair .bool .unit))
abbrev t168 : Ty := (.func (.pair (.slice (.int .i64)) (.pair (.int .i64) (.pair (.int .i64) (.pair (.int .i64) .unit)))) .unit)
abbrev t169 : Ty := (.func (.pair (.int .u64) .unit) (.pair (.int .i64) .unit))
abbrev t170 : Ty := (.int .u64)
abbrev t171 : Ty := (.func (.pair (.slice .str) (.pair .str .unit)) (.pair (.int .i64) .unit))
abbrev t172 : Ty := (.func (.pair (.slice (.int .i64)) (.pair (.func (.pair (.int .i64) .unit) (.pair .bool .unit)) .unit)) (.pair (.int .i64) .unit))
abbrev t173 : Ty := (.func (.pair (.pair .str (.pair (.int .i64) .unit)) .unit) (.pair .bool .unit))
abbrev t174 : Ty := (.func (.pair (.int .i64) (.pair (.pair .str (.pair (.int .i64) .unit)) .unit)) (.pair (.pair .str (.pair (.int .i64) .unit)) (.pair .bool .unit)))
abbrev t175 : Ty := (.func (.pair (.slice (.int .i64)) (.pair (.int .i64) (.pair (.int .i64) .unit))) .unit)
abbrev t176 : Ty := (.int .i64)
abbrev t178 : Ty := (.func (.pair (.slice (.int .i64)) (.pair (.int .i64) (.pair (.int .i64) .unit))) (.pair (.int .i64) (.pair (.int .i64) .unit)))
abbrev t179 : Ty := (.func (.pair (.slice (.int .i64)) (.pair (.int .i64) (.pair (.int .i64) .unit))) (.pair .bool .unit))
abbrev t180 : Ty := (.func (.pair (.int .i64) (.pair (.int .i64) .unit)) (.pair .bool .unit))
abbrev t181 : Ty := (.func (.pair (.slice (.int .i64)) (.pair (.int .i64) (.pair (.int .i64) (.pair (.int .i64) .unit)))) (.pair (.int .i64) .unit))
abbrev t182 : Ty := (.func (.pair (.slice (.int .i64)) (.pair (.int .i64) (.pair (.int .i64) (.pair (.int .i64) .unit)))) (.pair (.int .i64) (.pair .bool .unit)))
abbrev t183 : Ty := (.func (.pair (.int .u32) .unit) (.pair (.int .i64) .unit))
abbrev t184 : Ty := (.int .u32)
abbrev t185 : Ty := (.func (.pair (.int .u64) .unit) (.pair (.int .i64) .unit))
abbrev t186 : Ty := (.int .u64)
abbrev t187 : Ty := (.int .u64)
abbrev t188 : Ty := (.func (.pair (.int .i64) .unit) (.pair (.int .u64) .unit))
abbrev t189 : Ty := (.func .unit (.pair (.int .u64) .unit))
abbrev t190 : Ty := (.func (.pair (.slice (.int .i64)) (.pair (.int .i64) (.pair (.ref (.int .i64)) .unit))) (.pair (.int .i64) .unit))
abbrev t191 : Ty := (.ref (.int .i64))
abbrev t192 : Ty := (.func (.pair (.slice (.int .i64)) (.pair (.int .i64) (.pair (.int .i64) (.pair (.int .i64) (.pair (.ref (.int .i64)) .unit))))) (.pair (.int .i64) .unit))
abbrev t193 : Ty := (.ref (.int .u64))
abbrev t195 : Ty := (.func (.pair (.slice (.int .i64)) (.pair (.int .i64) (.pair (.int .i64) (.pair (.ref (.int .i64)) .unit)))) (.pair (.int .i64) (.pair (.int .i64) .unit)))
abbrev t196 : Ty := (.func .unit (.pair .str .unit))
abbrev t202 : Ty := (.func .unit (.pair (.int .i64) .unit))
abbrev t203 : Ty := (.int .u8)
abbrev t204 : Ty := (.int .u8)
abbrev t206 : Ty := (.ref (.int .u8))
abbrev t207 : Ty := (.int .i32)
abbrev t208 : Ty := (.int .i32)
def T : List (TypeId × TyI) := [
  (1, { ty := t1, elem := 0, fields := [] }),
  (2, { ty := t2, elem := 0, fields := [] }),
  (3, { ty := t3, elem := 0, fields := [] }),
  (4, { ty := t4, elem := 0, fields := [] }),
  (5, { ty := t5, elem := 0, fields := [] }),
  (6, { ty := t6, elem := 0, fields := [] }),
  (7, { ty := t7, elem := 0, fields := [(0, 2), (1, 3), (2, 4), (3, 6)] }),
  (8, { ty := t8, elem := 0, fields := [(0, 2), (1, 3), (2, 4), (3, 6)] }),
  (9, { ty := t9, elem := 0, fields := [] }),
  (10, { ty := t10, elem := 0, fields := [] }),
  (11, { ty := t11, elem := 0, fields := [] }),
  (12, { ty := t12, elem := 0, fields := [] }),
  (21, { ty := t21, elem := 0, fields := [] }),
  (22, { ty := t22, elem := 80, fields := [] }),
  (23, { ty := t23, elem := 86, fields := [] }),
  (24, { ty := t24, elem := 0, fields := [(0, 22), (1, 23)] }),
  (25, { ty := t25, elem := 0, fields := [(0, 22), (1, 23)] }),
  (26, { ty := t26, elem := 39, fields := [] }),
  (27, { ty := t27, elem := 0, fields := [] }),
  (28, { ty := t28, elem := 27, fields := [] }),
  (29, { ty := t29, elem := 0, fields := [] }),
  (30, { ty := t30, elem := 0, fields := [] }),
  (31, { ty := t31, elem := 0, fields := [] }),
  (32, { ty := t32, elem := 0, fields := [] }),
  (33, { ty := t33, elem := 130, fields := [] }),
  (34, { ty := t34, elem := 0, fields := [] }),
  (35, { ty := t35, elem := 0, fields := [] }),
  (36, { ty := t36, elem := 41, fields := [] }),
  (37, { ty := t37, elem := 3, fields := [] }),
  (38, { ty := t38, elem := 0, fields := [(0, 9), (1, 3)] }),
  (39, { ty := t39, elem := 0, fields := [(0, 9), (1, 3)] }),
  (40, { ty := t40, elem := 0, fields := [(0, 3), (1, 3), (2, 9)] }),
  (41, { ty := t41, elem := 0, fields := [(0, 3), (1, 3), (2, 9)] }),
  (42, { ty := t42, elem := 0, fields := [] }),
  (44, { ty := t44, elem := 0, fields := [] }),
  (45, { ty := t45, elem := 9, fields := [] }),
  (47, { ty := t47, elem := 0, fields := [] }),
  (48, { ty := t48, elem := 0, fields := [] }),
  (49, { ty := t49, elem := 0, fields := [] }),
  (50, { ty := t50, elem := 51, fields := [] }),
  (51, { ty := t51, elem := 0, fields := [(0, 9), (1, 3)] }),
  (52, { ty := t52, elem := 0, fields := [] }),
  (53, { ty := t53, elem := 96, fields := [] }),
  (54, { ty := t54, elem := 97, fields := [] }),
  (55, { ty := t55, elem := 0, fields := [(0, 53), (1, 54)] }),
  (56, { ty := t56, elem := 0, fields := [(0, 53), (1, 54)] }),
  (57, { ty := t57, elem := 0, fields := [] }),
  (58, { ty := t58, elem := 0, fields := [] }),
  (59, { ty := t59, elem := 0, fields := [] }),
  (60, { ty := t60, elem := 73, fields := [] }),
  (62, { ty := t62, elem := 0, fields := [] }),
  (63, { ty := t63, elem := 0, fields := [] }),
  (65, { ty := t65, elem := 0, fields := [] }),
  (67, { ty := t67, elem := 0, fields := [] }),
  (68, { ty := t68, elem := 75, fields := [] }),
  (70, { ty := t70, elem := 0, fields := [] }),
  (71, { ty := t71, elem := 0, fields := [] }),
  (72, { ty := t72, elem := 0, fields := [(0, 3), (1, 9), (2, 3)] }),
  (73, { ty := t73, elem := 0, fields := [(0, 3), (1, 9), (2, 3)] }),
  (74, { ty := t74, elem := 0, fields := [(0, 9), (1, 3), (2, 3), (3, 3)] }),
  (75, { ty := t75, elem := 0, fields := [(0, 9), (1, 3), (2, 3), (3, 3)] }),
  (76, { ty := t76, elem := 0, fields := [] }),
  (77, { ty := t77, elem := 0, fields := [] }),
  (78, { ty := t78, elem := 0, fields := [] }),
  (79, { ty := t79, elem := 0, fields := [(0, 9), (1, 3), (2, 3), (3, 4)] }),
  (80, { ty := t80, elem := 0, fields := [(0, 9), (1, 3), (2, 3), (3, 4)] }),
  (82, { ty := t82, elem := 0, fields := [] }),
  (83, { ty := t83, elem := 0, fields := [] }),
  (84, { ty := t84, elem := 0, fields := [] }),
  (85, { ty := t85, elem := 0, fields := [(0, 3), (1, 9), (2, 3), (3, 3), (4, 3)] }),
  (86, { ty := t86, elem := 0, fields := [(0, 3), (1, 9), (2, 3), (3, 3), (4, 3)] }),
  (87, { ty := t87, elem := 0, fields := [] }),
  (89, { ty := t89, elem := 0, fields := [] }),
  (90, { ty := t90, elem := 0, fields := [] }),
  (91, { ty := t91, elem := 0, fields := [] }),
  (92, { ty := t92, elem := 0, fields := [] }),
  (93, { ty := t93, elem := 0, fields := [] }),
  (94, { ty := t94, elem := 0, fields := [] }),
  (95, { ty := t95, elem := 0, fields := [] }),
  (96, { ty := t96, elem := 0, fields := [(0, 9), (1, 3), (2, 3), (3, 4)] }),
  (97, { ty := t97, elem := 0, fields := [(0, 3), (1, 9), (2, 3), (3, 3), (4, 3)] }),
  (98, { ty := t98, elem := 0, fields := [] }),
  (99, { ty := t99, elem := 0, fields := [] }),
  (100, { ty := t100, elem := 0, fields := [] }),
  (101, { ty := t101, elem := 0, fields := [] }),
  (102, { ty := t102, elem := 0, fields := [] }),
  (104, { ty := t104, elem := 0, fields := [] }),
  (106, { ty := t106, elem := 0, fields := [] }),
  (107, { ty := t107, elem := 0, fields := [] }),
  (108, { ty := t108, elem := 0, fields := [] }),
  (109, { ty := t109, elem := 0, fields := [(0, 3), (1, 4), (2, 4)] }),
  (110, { ty := t110, elem := 0, fields := [(0, 3), (1, 4), (2, 4)] }),
  (111, { ty := t111, elem := 4, fields := [] }),
  (112, { ty := t112, elem := 0, fields := [] }),
  (113, { ty := t113, elem := 0, fields := [] }),
  (114, { ty := t114, elem := 0, fields := [] }),
  (115, { ty := t115, elem := 0, fields := [] }),
  (116, { ty := t116, elem := 0, fields := [] }),
  (117, { ty := t117, elem := 0, fields := [] }),
  (118, { ty := t118, elem := 0, fields := [] }),
  (119, { ty := t119, elem := 0, fields := [] }),
  (120, { ty := t120, elem := 0, fields := [] }),
  (121, { ty := t121, elem := 124, fields := [] }),
  (122, { ty := t122, elem := 0, fields := [] }),
  (123, { ty := t123, elem := 0, fields := [(0, 3), (1, 50)] }),
  (124, { ty := t124, elem := 0, fields := [(0, 3), (1, 50)] }),
  (125, { ty := t125, elem := 0, fields := [] }),
  (126, { ty := t126, elem := 0, fields := [] }),
  (127, { ty := t127, elem := 0, fields := [] }),
  (129, { ty := t129, elem := 0, fields := [] }),
  (130, { ty := t130, elem := 0, fields := [(0, 3), (1, 9), (2, 3)] }),
  (131, { ty := t131, elem := 42, fields := [] }),
  (132, { ty := t132, elem := 0, fields := [] }),
  (133, { ty := t133, elem := 0, fields := [] }),
  (134, { ty := t134, elem := 0, fields := [] }),
  (135, { ty := t135, elem := 0, fields := [] }),
  (136, { ty := t136, elem := 0, fields := [] }),
  (137, { ty := t137, elem := 0, fields := [] }),
  (138, { ty := t138, elem := 0, fields := [] }),
  (139, { ty := t139, elem := 0, fields := [] }),
  (140, { ty := t140, elem := 0, fields := [] }),
  (141, { ty := t141, elem := 0, fields := [] }),
  (142, { ty := t142, elem := 0, fields := [] }),
  (143, { ty := t143, elem := 0, fields := [(0, 9), (1, 141), (2, 142)] }),
  (144, { ty := t144, elem := 0, fields := [(0, 9), (1, 141), (2, 142)] }),
  (146, { ty := t146, elem := 0, fields := [] }),
  (148, { ty := t148, elem := 0, fields := [] }),
  (149, { ty := t149, elem := 0, fields := [] }),
  (150, { ty := t150, elem := 0, fields := [] }),
  (151, { ty := t151, elem := 0, fields := [] }),
  (152, { ty := t152, elem := 0, fields := [] }),
  (153, { ty := t153, elem := 0, fields := [] }),
  (154, { ty := t154, elem := 0, fields := [] }),
  (155, { ty := t155, elem := 0, fields := [] }),
  (156, { ty := t156, elem := 0, fields := [] }),
  (157, { ty := t157, elem := 0, fields := [] }),
  (158, { ty := t158, elem := 0, fields := [] }),
  (159, { ty := t159, elem := 0, fields := [] }),
  (160, { ty := t160, elem := 0, fields := [] }),
  (161, { ty := t161, elem := 0, fields := [] }),
  (162, { ty := t162, elem := 0, fields := [] }),
  (163, { ty := t163, elem := 3, fields := [] }),
  (164, { ty := t164, elem := 144, fields := [] }),
  (165, { ty := t165, elem := 0, fields := [] }),
  (166, { ty := t166, elem := 0, fields := [] }),
  (167, { ty := t167, elem := 0, fields := [] }),
  (168, { ty := t168, elem := 0, fields := [] }),
  (169, { ty := t169, elem := 0, fields := [] }),
  (170, { ty := t170, elem := 0, fields := [] }),
  (171, { ty := t171, elem := 0, fields := [] }),
  (172, { ty := t172, elem := 0, fields := [] }),
  (173, { ty := t173, elem := 0, fields := [] }),
  (174, { ty := t174, elem := 0, fields := [] }),
  (175, { ty := t175, elem := 0, fields := [] }),
  (176, { ty := t176, elem := 0, fields := [] }),
  (178, { ty := t178, elem := 0, fields := [] }),
  (179, { ty := t179, elem := 0, fields := [] }),
  (180, { ty := t180, elem := 0, fields := [] }),
  (181, { ty := t181, elem := 0, fields := [] }),
  (182, { ty := t182, elem := 0, fields := [] }),
  (183, { ty := t183, elem := 0, fields := [] }),
  (184, { ty := t184, elem := 0, fields := [] }),
  (185, { ty := t185, elem := 0, fields := [] }),
  (186, { ty := t186, elem := 0, fields := [] }),
  (187, { ty := t187, elem := 0, fields := [] }),
  (188, { ty := t188, elem := 0, fields := [] }),
  (189, { ty := t189, elem := 0, fields := [] }),
  (190, { ty := t190, elem := 0, fields := [] }),
  (191, { ty := t191, elem := 3, fields := [] }),
  (192, { ty := t192, elem := 0, fields := [] }),
  (193, { ty := t193, elem := 187, fields := [] }),
  (195, { ty := t195, elem := 0, fields := [] }),
  (196, { ty := t196, elem := 0, fields := [] }),
  (202, { ty := t202, elem := 0, fields := [] }),
  (203, { ty := t203, elem := 0, fields := [] }),
  (204, { ty := t204, elem := 0, fields := [] }),
  (206, { ty := t206, elem := 5, fields := [] }),
  (207, { ty := t207, elem := 0, fields := [] }),
  (208, { ty := t208, elem := 0, fields := [] })
]
end Go.Vx.B
