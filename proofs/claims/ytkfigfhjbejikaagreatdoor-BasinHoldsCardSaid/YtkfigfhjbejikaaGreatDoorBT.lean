/- The table of types, by program (tygen.py). -/
import Derived.Test.YtkfigfhjbejikaaGreatDoorVA

set_option linter.all false
namespace Go.Vx.B
abbrev t1 : Ty := (.func .unit .unit)
abbrev t2 : Ty := (.int .i64)
abbrev t3 : Ty := (.int .i64)
abbrev t4 : Ty := .bool
abbrev t5 : Ty := (.int .u8)
abbrev t6 : Ty := (.int .u8)
abbrev t7 : Ty := (.pair (.int .i64) (.pair (.int .i64) (.pair .bool (.pair (.int .u8) .unit))))
abbrev t8 : Ty := (.pair (.int .i64) (.pair (.int .i64) (.pair .bool (.pair (.int .u8) .unit))))
abbrev t9 : Ty := .str
abbrev t10 : Ty := .str
abbrev t11 : Ty := .str
abbrev t12 : Ty := (.int .u64)
abbrev t21 : Ty := (.int .i32)
abbrev t22 : Ty := (.slice (.pair .str (.pair (.int .i64) (.pair (.int .i64) .unit))))
abbrev t23 : Ty := (.slice (.pair .str (.pair (.int .i64) (.pair (.int .i64) (.pair (.int .i64) (.pair (.int .i64) .unit))))))
abbrev t24 : Ty := (.pair (.slice (.pair .str (.pair (.int .i64) (.pair (.int .i64) .unit)))) (.pair (.slice (.pair .str (.pair (.int .i64) (.pair (.int .i64) (.pair (.int .i64) (.pair (.int .i64) .unit)))))) .unit))
abbrev t25 : Ty := (.pair (.slice (.pair .str (.pair (.int .i64) (.pair (.int .i64) .unit)))) (.pair (.slice (.pair .str (.pair (.int .i64) (.pair (.int .i64) (.pair (.int .i64) (.pair (.int .i64) .unit)))))) .unit))
abbrev t26 : Ty := (.slice (.int .i64))
abbrev t27 : Ty := (.pair (.int .i64) (.pair .bool (.pair (.slice (.int .i64)) .unit)))
abbrev t28 : Ty := (.pair (.int .i64) (.pair .bool (.pair (.slice (.int .i64)) .unit)))
abbrev t29 : Ty := (.pair (.pair (.int .i64) (.pair .bool (.pair (.slice (.int .i64)) .unit))) (.pair (.int .i64) (.pair (.int .i64) .unit)))
abbrev t30 : Ty := (.pair (.pair (.int .i64) (.pair .bool (.pair (.slice (.int .i64)) .unit))) (.pair (.int .i64) (.pair (.int .i64) .unit)))
abbrev t31 : Ty := (.func (.pair (.pair (.slice (.pair .str (.pair (.int .i64) (.pair (.int .i64) .unit)))) (.pair (.slice (.pair .str (.pair (.int .i64) (.pair (.int .i64) (.pair (.int .i64) (.pair (.int .i64) .unit)))))) .unit)) .unit) (.pair .bool .unit))
abbrev t32 : Ty := (.func (.pair (.slice (.pair (.int .i64) (.pair .bool (.pair (.slice (.int .i64)) .unit)))) .unit) (.pair .bool .unit))
abbrev t33 : Ty := (.slice (.pair (.int .i64) (.pair .bool (.pair (.slice (.int .i64)) .unit))))
abbrev t34 : Ty := (.func .unit (.pair .bool .unit))
abbrev t35 : Ty := (.int .i64)
abbrev t37 : Ty := (.func (.pair (.pair (.slice (.pair .str (.pair (.int .i64) (.pair (.int .i64) .unit)))) (.pair (.slice (.pair .str (.pair (.int .i64) (.pair (.int .i64) (.pair (.int .i64) (.pair (.int .i64) .unit)))))) .unit)) (.pair (.slice (.int .i64)) (.pair (.pair (.int .i64) (.pair .bool (.pair (.slice (.int .i64)) .unit))) (.pair (.int .i64) (.pair (.int .i64) .unit))))) (.pair (.int .i64) (.pair (.int .i64) .unit)))
abbrev t38 : Ty := (.slice (.pair .str (.pair (.int .i64) (.pair (.int .i64) .unit))))
abbrev t39 : Ty := (.slice (.pair .str (.pair (.int .i64) (.pair (.int .i64) (.pair (.int .i64) (.pair (.int .i64) .unit))))))
abbrev t40 : Ty := (.pair (.slice (.pair .str (.pair (.int .i64) (.pair (.int .i64) .unit)))) (.pair (.slice (.pair .str (.pair (.int .i64) (.pair (.int .i64) (.pair (.int .i64) (.pair (.int .i64) .unit)))))) .unit))
abbrev t41 : Ty := (.pair (.slice (.pair .str (.pair (.int .i64) (.pair (.int .i64) .unit)))) (.pair (.slice (.pair .str (.pair (.int .i64) (.pair (.int .i64) (.pair (.int .i64) (.pair (.int .i64) .unit)))))) .unit))
abbrev t42 : Ty := (.func (.pair (.pair (.slice (.pair .str (.pair (.int .i64) (.pair (.int .i64) .unit)))) (.pair (.slice (.pair .str (.pair (.int .i64) (.pair (.int .i64) (.pair (.int .i64) (.pair (.int .i64) .unit)))))) .unit)) .unit) (.pair (.pair (.slice (.pair .str (.pair (.int .i64) (.pair (.int .i64) .unit)))) (.pair (.slice (.pair .str (.pair (.int .i64) (.pair (.int .i64) (.pair (.int .i64) (.pair (.int .i64) .unit)))))) .unit)) .unit))
abbrev t43 : Ty := (.func (.pair (.slice (.int .i64)) .unit) (.pair (.slice (.int .i64)) .unit))
abbrev t44 : Ty := (.pair (.int .i64) (.pair .bool (.pair (.slice (.int .i64)) .unit)))
abbrev t45 : Ty := (.func (.pair (.pair (.int .i64) (.pair .bool (.pair (.slice (.int .i64)) .unit))) .unit) (.pair (.pair (.int .i64) (.pair .bool (.pair (.slice (.int .i64)) .unit))) .unit))
abbrev t46 : Ty := (.func (.pair (.pair (.slice (.pair .str (.pair (.int .i64) (.pair (.int .i64) .unit)))) (.pair (.slice (.pair .str (.pair (.int .i64) (.pair (.int .i64) (.pair (.int .i64) (.pair (.int .i64) .unit)))))) .unit)) (.pair (.slice (.int .i64)) (.pair (.pair (.int .i64) (.pair .bool (.pair (.slice (.int .i64)) .unit))) (.pair (.int .i64) (.pair (.int .i64) .unit))))) (.pair (.int .i64) .unit))
abbrev t48 : Ty := (.func (.pair (.pair (.slice (.pair .str (.pair (.int .i64) (.pair (.int .i64) .unit)))) (.pair (.slice (.pair .str (.pair (.int .i64) (.pair (.int .i64) (.pair (.int .i64) (.pair (.int .i64) .unit)))))) .unit)) (.pair (.slice (.int .i64)) (.pair (.pair (.int .i64) (.pair .bool (.pair (.slice (.int .i64)) .unit))) (.pair (.int .i64) (.pair (.int .i64) .unit))))) (.pair (.int .i64) (.pair (.int .i64) .unit)))
abbrev t49 : Ty := (.func (.pair (.pair (.slice (.pair .str (.pair (.int .i64) (.pair (.int .i64) .unit)))) (.pair (.slice (.pair .str (.pair (.int .i64) (.pair (.int .i64) (.pair (.int .i64) (.pair (.int .i64) .unit)))))) .unit)) (.pair (.slice (.int .i64)) (.pair (.pair (.pair (.int .i64) (.pair .bool (.pair (.slice (.int .i64)) .unit))) (.pair (.int .i64) (.pair (.int .i64) .unit))) .unit))) (.pair .bool .unit))
abbrev t50 : Ty := (.pair (.int .u8) (.pair (.int .u8) (.pair (.int .u8) (.pair (.int .u8) .unit))))
abbrev t51 : Ty := (.pair (.int .u8) (.pair (.int .u8) (.pair (.int .u8) (.pair (.int .u8) .unit))))
abbrev t52 : Ty := (.func (.pair (.pair (.slice (.pair .str (.pair (.int .i64) (.pair (.int .i64) .unit)))) (.pair (.slice (.pair .str (.pair (.int .i64) (.pair (.int .i64) (.pair (.int .i64) (.pair (.int .i64) .unit)))))) .unit)) .unit) (.pair (.int .i64) .unit))
abbrev t53 : Ty := (.func (.pair (.pair (.slice (.pair .str (.pair (.int .i64) (.pair (.int .i64) .unit)))) (.pair (.slice (.pair .str (.pair (.int .i64) (.pair (.int .i64) (.pair (.int .i64) (.pair (.int .i64) .unit)))))) .unit)) (.pair (.slice (.int .i64)) (.pair (.slice (.pair (.int .i64) (.pair .bool (.pair (.slice (.int .i64)) .unit)))) .unit))) (.pair (.int .i64) .unit))
abbrev t54 : Ty := (.slice (.pair (.int .i64) (.pair .bool (.pair (.slice (.int .i64)) .unit))))
abbrev t55 : Ty := (.func (.pair (.slice (.pair (.int .i64) (.pair .bool (.pair (.slice (.int .i64)) .unit)))) .unit) (.pair (.slice (.pair (.int .i64) (.pair .bool (.pair (.slice (.int .i64)) .unit)))) .unit))
abbrev t56 : Ty := (.slice (.slice (.int .i64)))
abbrev t58 : Ty := (.func (.pair (.pair (.slice (.pair .str (.pair (.int .i64) (.pair (.int .i64) .unit)))) (.pair (.slice (.pair .str (.pair (.int .i64) (.pair (.int .i64) (.pair (.int .i64) (.pair (.int .i64) .unit)))))) .unit)) (.pair (.slice (.int .i64)) (.pair (.slice (.pair (.int .i64) (.pair .bool (.pair (.slice (.int .i64)) .unit)))) .unit))) (.pair (.slice (.slice (.int .i64))) (.pair (.int .i64) .unit)))
abbrev t59 : Ty := (.func (.pair (.pair (.slice (.pair .str (.pair (.int .i64) (.pair (.int .i64) .unit)))) (.pair (.slice (.pair .str (.pair (.int .i64) (.pair (.int .i64) (.pair (.int .i64) (.pair (.int .i64) .unit)))))) .unit)) (.pair (.slice (.int .i64)) .unit)) (.pair (.int .i64) .unit))
abbrev t60 : Ty := (.pair .str (.pair (.int .i64) (.pair (.int .i64) .unit)))
abbrev t61 : Ty := (.pair .str (.pair (.int .i64) (.pair (.int .i64) .unit)))
abbrev t62 : Ty := (.func (.pair (.pair (.slice (.pair .str (.pair (.int .i64) (.pair (.int .i64) .unit)))) (.pair (.slice (.pair .str (.pair (.int .i64) (.pair (.int .i64) (.pair (.int .i64) (.pair (.int .i64) .unit)))))) .unit)) (.pair (.slice (.pair (.int .i64) (.pair .bool (.pair (.slice (.int .i64)) .unit)))) (.pair (.pair (.int .u8) (.pair (.int .u8) (.pair (.int .u8) (.pair (.int .u8) .unit)))) .unit))) (.pair .bool .unit))
abbrev t64 : Ty := (.func (.pair (.pair (.slice (.pair .str (.pair (.int .i64) (.pair (.int .i64) .unit)))) (.pair (.slice (.pair .str (.pair (.int .i64) (.pair (.int .i64) (.pair (.int .i64) (.pair (.int .i64) .unit)))))) .unit)) (.pair (.slice (.int .i64)) .unit)) (.pair (.slice (.int .i64)) (.pair (.int .i64) .unit)))
abbrev t65 : Ty := (.func (.pair (.pair (.slice (.pair .str (.pair (.int .i64) (.pair (.int .i64) .unit)))) (.pair (.slice (.pair .str (.pair (.int .i64) (.pair (.int .i64) (.pair (.int .i64) (.pair (.int .i64) .unit)))))) .unit)) (.pair (.slice (.int .i64)) .unit)) (.pair (.slice (.int .i64)) .unit))
abbrev t66 : Ty := (.func (.pair (.slice .str) (.pair (.slice .str) .unit)) (.pair .bool .unit))
abbrev t67 : Ty := (.slice .str)
abbrev t68 : Ty := (.func .unit (.pair (.slice .str) .unit))
abbrev t69 : Ty := (.func (.pair (.pair (.slice (.pair .str (.pair (.int .i64) (.pair (.int .i64) .unit)))) (.pair (.slice (.pair .str (.pair (.int .i64) (.pair (.int .i64) (.pair (.int .i64) (.pair (.int .i64) .unit)))))) .unit)) .unit) (.pair (.int .i64) .unit))
abbrev t70 : Ty := (.func (.pair (.pair (.slice (.pair .str (.pair (.int .i64) (.pair (.int .i64) .unit)))) (.pair (.slice (.pair .str (.pair (.int .i64) (.pair (.int .i64) (.pair (.int .i64) (.pair (.int .i64) .unit)))))) .unit)) (.pair (.slice (.int .i64)) .unit)) (.pair (.int .i64) .unit))
abbrev t71 : Ty := (.func (.pair (.slice (.int .i64)) (.pair (.slice (.int .i64)) .unit)) (.pair .bool .unit))
abbrev t72 : Ty := (.func (.pair (.pair (.slice (.pair .str (.pair (.int .i64) (.pair (.int .i64) .unit)))) (.pair (.slice (.pair .str (.pair (.int .i64) (.pair (.int .i64) (.pair (.int .i64) (.pair (.int .i64) .unit)))))) .unit)) (.pair (.slice (.int .i64)) .unit)) (.pair .bool .unit))
abbrev t73 : Ty := (.func (.pair (.pair (.slice (.pair .str (.pair (.int .i64) (.pair (.int .i64) .unit)))) (.pair (.slice (.pair .str (.pair (.int .i64) (.pair (.int .i64) (.pair (.int .i64) (.pair (.int .i64) .unit)))))) .unit)) (.pair (.slice (.int .i64)) (.pair (.pair (.int .i64) (.pair .bool (.pair (.slice (.int .i64)) .unit))) .unit))) (.pair (.slice (.int .i64)) (.pair (.int .i64) .unit)))
abbrev t75 : Ty := (.func (.pair (.pair (.slice (.pair .str (.pair (.int .i64) (.pair (.int .i64) .unit)))) (.pair (.slice (.pair .str (.pair (.int .i64) (.pair (.int .i64) (.pair (.int .i64) (.pair (.int .i64) .unit)))))) .unit)) (.pair (.slice (.int .i64)) (.pair (.pair (.int .i64) (.pair .bool (.pair (.slice (.int .i64)) .unit))) .unit))) (.pair (.slice (.int .i64)) (.pair (.slice (.int .i64)) (.pair (.int .i64) .unit))))
abbrev t76 : Ty := (.func (.pair (.pair (.slice (.pair .str (.pair (.int .i64) (.pair (.int .i64) .unit)))) (.pair (.slice (.pair .str (.pair (.int .i64) (.pair (.int .i64) (.pair (.int .i64) (.pair (.int .i64) .unit)))))) .unit)) (.pair (.slice (.int .i64)) (.pair (.pair (.int .i64) (.pair .bool (.pair (.slice (.int .i64)) .unit))) .unit))) (.pair .bool .unit))
abbrev t77 : Ty := (.pair (.int .i64) (.pair (.int .i64) (.pair (.int .i64) .unit)))
abbrev t78 : Ty := (.pair (.int .i64) (.pair (.int .i64) (.pair (.int .i64) .unit)))
abbrev t80 : Ty := (.func (.pair (.pair (.slice (.pair .str (.pair (.int .i64) (.pair (.int .i64) .unit)))) (.pair (.slice (.pair .str (.pair (.int .i64) (.pair (.int .i64) (.pair (.int .i64) (.pair (.int .i64) .unit)))))) .unit)) (.pair (.slice (.int .i64)) (.pair (.slice (.pair (.int .i64) (.pair .bool (.pair (.slice (.int .i64)) .unit)))) .unit))) (.pair (.pair (.int .i64) (.pair (.int .i64) (.pair (.int .i64) .unit))) (.pair (.int .i64) .unit)))
abbrev t81 : Ty := (.func (.pair (.slice (.int .i64)) .unit) (.pair (.int .i64) .unit))
abbrev t82 : Ty := (.pair .str (.pair (.int .i64) (.pair (.int .i64) (.pair (.int .i64) (.pair (.int .i64) .unit)))))
abbrev t83 : Ty := (.pair .str (.pair (.int .i64) (.pair (.int .i64) (.pair (.int .i64) (.pair (.int .i64) .unit)))))
abbrev t84 : Ty := (.func (.pair (.slice (.slice (.int .i64))) (.pair (.slice (.slice (.int .i64))) .unit)) (.pair .bool .unit))
abbrev t85 : Ty := (.func (.pair (.pair (.slice (.pair .str (.pair (.int .i64) (.pair (.int .i64) .unit)))) (.pair (.slice (.pair .str (.pair (.int .i64) (.pair (.int .i64) (.pair (.int .i64) (.pair (.int .i64) .unit)))))) .unit)) (.pair (.slice (.int .i64)) (.pair (.slice (.pair (.int .i64) (.pair .bool (.pair (.slice (.int .i64)) .unit)))) .unit))) (.pair .bool .unit))
abbrev t87 : Ty := (.func (.pair (.pair (.slice (.pair .str (.pair (.int .i64) (.pair (.int .i64) .unit)))) (.pair (.slice (.pair .str (.pair (.int .i64) (.pair (.int .i64) (.pair (.int .i64) (.pair (.int .i64) .unit)))))) .unit)) (.pair (.slice (.int .i64)) (.pair (.slice (.pair (.int .i64) (.pair .bool (.pair (.slice (.int .i64)) .unit)))) .unit))) (.pair (.int .i64) (.pair (.int .i64) (.pair (.int .i64) .unit))))
abbrev t88 : Ty := (.pair (.int .i64) (.pair (.int .i64) (.pair (.int .i64) .unit)))
abbrev t90 : Ty := (.func (.pair (.pair (.slice (.pair .str (.pair (.int .i64) (.pair (.int .i64) .unit)))) (.pair (.slice (.pair .str (.pair (.int .i64) (.pair (.int .i64) (.pair (.int .i64) (.pair (.int .i64) .unit)))))) .unit)) (.pair (.slice (.int .i64)) (.pair (.slice (.pair (.int .i64) (.pair .bool (.pair (.slice (.int .i64)) .unit)))) .unit))) (.pair (.slice (.slice (.int .i64))) (.pair (.int .i64) .unit)))
abbrev t92 : Ty := (.func (.pair (.pair (.slice (.pair .str (.pair (.int .i64) (.pair (.int .i64) .unit)))) (.pair (.slice (.pair .str (.pair (.int .i64) (.pair (.int .i64) (.pair (.int .i64) (.pair (.int .i64) .unit)))))) .unit)) (.pair (.slice (.int .i64)) (.pair (.slice (.pair (.int .i64) (.pair .bool (.pair (.slice (.int .i64)) .unit)))) .unit))) (.pair (.pair (.int .i64) (.pair (.int .i64) (.pair (.int .i64) .unit))) (.pair (.int .i64) .unit)))
abbrev t94 : Ty := (.func (.pair (.pair (.slice (.pair .str (.pair (.int .i64) (.pair (.int .i64) .unit)))) (.pair (.slice (.pair .str (.pair (.int .i64) (.pair (.int .i64) (.pair (.int .i64) (.pair (.int .i64) .unit)))))) .unit)) (.pair (.slice (.int .i64)) (.pair (.slice (.pair (.int .i64) (.pair .bool (.pair (.slice (.int .i64)) .unit)))) .unit))) (.pair (.int .i64) (.pair (.int .i64) (.pair (.int .i64) .unit))))
abbrev t95 : Ty := (.pair (.int .i64) (.pair (.int .i64) .unit))
abbrev t96 : Ty := (.pair (.int .i64) (.pair (.int .i64) .unit))
abbrev t97 : Ty := (.slice (.pair (.int .i64) (.pair (.int .i64) .unit)))
abbrev t98 : Ty := (.pair (.pair (.int .i64) (.pair (.int .i64) .unit)) (.pair .bool (.pair (.slice (.pair (.int .i64) (.pair (.int .i64) .unit))) .unit)))
abbrev t99 : Ty := (.pair (.pair (.int .i64) (.pair (.int .i64) .unit)) (.pair .bool (.pair (.slice (.pair (.int .i64) (.pair (.int .i64) .unit))) .unit)))
abbrev t100 : Ty := (.func (.pair (.slice (.pair (.pair (.int .i64) (.pair (.int .i64) .unit)) (.pair .bool (.pair (.slice (.pair (.int .i64) (.pair (.int .i64) .unit))) .unit)))) .unit) (.pair .bool .unit))
abbrev t101 : Ty := (.slice (.pair (.pair (.int .i64) (.pair (.int .i64) .unit)) (.pair .bool (.pair (.slice (.pair (.int .i64) (.pair (.int .i64) .unit))) .unit))))
abbrev t103 : Ty := (.func (.pair (.pair (.slice (.pair .str (.pair (.int .i64) (.pair (.int .i64) .unit)))) (.pair (.slice (.pair .str (.pair (.int .i64) (.pair (.int .i64) (.pair (.int .i64) (.pair (.int .i64) .unit)))))) .unit)) (.pair (.pair (.pair (.int .i64) (.pair (.int .i64) .unit)) (.pair .bool (.pair (.slice (.pair (.int .i64) (.pair (.int .i64) .unit))) .unit))) (.pair (.pair (.int .i64) (.pair .bool (.pair (.slice (.int .i64)) .unit))) .unit))) (.pair .bool (.pair (.int .i64) .unit)))
abbrev t104 : Ty := (.pair (.pair (.int .i64) (.pair (.int .i64) .unit)) (.pair .bool (.pair (.slice (.pair (.int .i64) (.pair (.int .i64) .unit))) .unit)))
abbrev t105 : Ty := (.func (.pair (.pair (.pair (.int .i64) (.pair (.int .i64) .unit)) (.pair .bool (.pair (.slice (.pair (.int .i64) (.pair (.int .i64) .unit))) .unit))) .unit) (.pair (.pair (.pair (.int .i64) (.pair (.int .i64) .unit)) (.pair .bool (.pair (.slice (.pair (.int .i64) (.pair (.int .i64) .unit))) .unit))) .unit))
abbrev t107 : Ty := (.func (.pair (.pair (.slice (.pair .str (.pair (.int .i64) (.pair (.int .i64) .unit)))) (.pair (.slice (.pair .str (.pair (.int .i64) (.pair (.int .i64) (.pair (.int .i64) (.pair (.int .i64) .unit)))))) .unit)) (.pair (.slice (.pair (.pair (.int .i64) (.pair (.int .i64) .unit)) (.pair .bool (.pair (.slice (.pair (.int .i64) (.pair (.int .i64) .unit))) .unit)))) (.pair .bool .unit))) (.pair (.slice (.pair (.int .i64) (.pair .bool (.pair (.slice (.int .i64)) .unit)))) (.pair (.int .i64) .unit)))
abbrev t108 : Ty := (.slice (.pair (.pair (.int .i64) (.pair (.int .i64) .unit)) (.pair .bool (.pair (.slice (.pair (.int .i64) (.pair (.int .i64) .unit))) .unit))))
abbrev t109 : Ty := (.func (.pair (.slice (.pair (.pair (.int .i64) (.pair (.int .i64) .unit)) (.pair .bool (.pair (.slice (.pair (.int .i64) (.pair (.int .i64) .unit))) .unit)))) .unit) (.pair (.slice (.pair (.pair (.int .i64) (.pair (.int .i64) .unit)) (.pair .bool (.pair (.slice (.pair (.int .i64) (.pair (.int .i64) .unit))) .unit)))) .unit))
abbrev t110 : Ty := (.func (.pair (.pair (.slice (.pair .str (.pair (.int .i64) (.pair (.int .i64) .unit)))) (.pair (.slice (.pair .str (.pair (.int .i64) (.pair (.int .i64) (.pair (.int .i64) (.pair (.int .i64) .unit)))))) .unit)) (.pair (.pair (.pair (.int .i64) (.pair (.int .i64) .unit)) (.pair .bool (.pair (.slice (.pair (.int .i64) (.pair (.int .i64) .unit))) .unit))) .unit)) (.pair (.int .i64) .unit))
abbrev t111 : Ty := (.func (.pair (.pair (.slice (.pair .str (.pair (.int .i64) (.pair (.int .i64) .unit)))) (.pair (.slice (.pair .str (.pair (.int .i64) (.pair (.int .i64) (.pair (.int .i64) (.pair (.int .i64) .unit)))))) .unit)) (.pair (.pair (.int .i64) (.pair .bool (.pair (.slice (.int .i64)) .unit))) .unit)) (.pair (.int .i64) .unit))
abbrev t112 : Ty := (.func (.pair (.slice (.pair (.pair (.int .i64) (.pair (.int .i64) .unit)) (.pair .bool (.pair (.slice (.pair (.int .i64) (.pair (.int .i64) .unit))) .unit)))) (.pair .bool .unit)) (.pair (.slice (.pair (.int .i64) (.pair .bool (.pair (.slice (.int .i64)) .unit)))) .unit))
abbrev t113 : Ty := (.func (.pair (.pair (.int .i64) (.pair .bool (.pair (.slice (.int .i64)) .unit))) (.pair (.pair (.int .i64) (.pair .bool (.pair (.slice (.int .i64)) .unit))) .unit)) (.pair .bool .unit))
abbrev t114 : Ty := (.func (.pair (.slice (.pair (.int .i64) (.pair .bool (.pair (.slice (.int .i64)) .unit)))) .unit) (.pair (.slice (.pair (.int .i64) (.pair .bool (.pair (.slice (.int .i64)) .unit)))) .unit))
abbrev t115 : Ty := (.func (.pair (.pair (.slice (.pair .str (.pair (.int .i64) (.pair (.int .i64) .unit)))) (.pair (.slice (.pair .str (.pair (.int .i64) (.pair (.int .i64) (.pair (.int .i64) (.pair (.int .i64) .unit)))))) .unit)) (.pair (.pair (.int .i64) (.pair .bool (.pair (.slice (.int .i64)) .unit))) .unit)) (.pair (.int .i64) .unit))
abbrev t116 : Ty := (.func (.pair (.pair (.slice (.pair .str (.pair (.int .i64) (.pair (.int .i64) .unit)))) (.pair (.slice (.pair .str (.pair (.int .i64) (.pair (.int .i64) (.pair (.int .i64) (.pair (.int .i64) .unit)))))) .unit)) (.pair (.pair (.pair (.int .i64) (.pair (.int .i64) .unit)) (.pair .bool (.pair (.slice (.pair (.int .i64) (.pair (.int .i64) .unit))) .unit))) .unit)) (.pair (.int .i64) .unit))
abbrev t117 : Ty := (.func (.pair (.pair (.pair (.int .i64) (.pair (.int .i64) .unit)) (.pair .bool (.pair (.slice (.pair (.int .i64) (.pair (.int .i64) .unit))) .unit))) (.pair (.pair (.int .i64) (.pair .bool (.pair (.slice (.int .i64)) .unit))) .unit)) (.pair .bool .unit))
abbrev t118 : Ty := (.func (.pair (.pair (.slice (.pair .str (.pair (.int .i64) (.pair (.int .i64) .unit)))) (.pair (.slice (.pair .str (.pair (.int .i64) (.pair (.int .i64) (.pair (.int .i64) (.pair (.int .i64) .unit)))))) .unit)) (.pair (.pair (.pair (.int .i64) (.pair (.int .i64) .unit)) (.pair .bool (.pair (.slice (.pair (.int .i64) (.pair (.int .i64) .unit))) .unit))) (.pair (.pair (.int .i64) (.pair .bool (.pair (.slice (.int .i64)) .unit))) .unit))) (.pair .bool .unit))
abbrev t119 : Ty := (.slice (.slice (.pair (.int .i64) (.pair (.int .i64) .unit))))
abbrev t121 : Ty := (.func (.pair (.pair (.slice (.pair .str (.pair (.int .i64) (.pair (.int .i64) .unit)))) (.pair (.slice (.pair .str (.pair (.int .i64) (.pair (.int .i64) (.pair (.int .i64) (.pair (.int .i64) .unit)))))) .unit)) (.pair (.slice (.pair (.int .i64) (.pair (.int .i64) .unit))) (.pair (.slice (.pair (.pair (.int .i64) (.pair (.int .i64) .unit)) (.pair .bool (.pair (.slice (.pair (.int .i64) (.pair (.int .i64) .unit))) .unit)))) .unit))) (.pair (.slice (.slice (.pair (.int .i64) (.pair (.int .i64) .unit)))) (.pair (.int .i64) .unit)))
abbrev t122 : Ty := (.func (.pair (.slice (.pair (.int .i64) (.pair (.int .i64) .unit))) .unit) (.pair (.slice (.pair (.int .i64) (.pair (.int .i64) .unit))) .unit))
abbrev t123 : Ty := (.func (.pair (.pair (.slice (.pair .str (.pair (.int .i64) (.pair (.int .i64) .unit)))) (.pair (.slice (.pair .str (.pair (.int .i64) (.pair (.int .i64) (.pair (.int .i64) (.pair (.int .i64) .unit)))))) .unit)) (.pair (.slice (.pair (.int .i64) (.pair (.int .i64) .unit))) (.pair (.slice (.pair (.pair (.int .i64) (.pair (.int .i64) .unit)) (.pair .bool (.pair (.slice (.pair (.int .i64) (.pair (.int .i64) .unit))) .unit)))) .unit))) (.pair .bool (.pair (.int .i64) .unit)))
abbrev t124 : Ty := (.func (.pair (.pair (.slice (.pair .str (.pair (.int .i64) (.pair (.int .i64) .unit)))) (.pair (.slice (.pair .str (.pair (.int .i64) (.pair (.int .i64) (.pair (.int .i64) (.pair (.int .i64) .unit)))))) .unit)) (.pair (.slice (.pair (.int .i64) (.pair (.int .i64) .unit))) (.pair (.slice (.pair (.pair (.int .i64) (.pair (.int .i64) .unit)) (.pair .bool (.pair (.slice (.pair (.int .i64) (.pair (.int .i64) .unit))) .unit)))) .unit))) (.pair (.int .i64) (.pair (.int .i64) .unit)))
abbrev t125 : Ty := (.func (.pair (.pair (.slice (.pair .str (.pair (.int .i64) (.pair (.int .i64) .unit)))) (.pair (.slice (.pair .str (.pair (.int .i64) (.pair (.int .i64) (.pair (.int .i64) (.pair (.int .i64) .unit)))))) .unit)) (.pair (.slice (.pair (.int .i64) (.pair (.int .i64) .unit))) (.pair (.slice (.pair (.pair (.int .i64) (.pair (.int .i64) .unit)) (.pair .bool (.pair (.slice (.pair (.int .i64) (.pair (.int .i64) .unit))) .unit)))) .unit))) (.pair (.int .i64) .unit))
abbrev t127 : Ty := (.func (.pair (.pair (.slice (.pair .str (.pair (.int .i64) (.pair (.int .i64) .unit)))) (.pair (.slice (.pair .str (.pair (.int .i64) (.pair (.int .i64) (.pair (.int .i64) (.pair (.int .i64) .unit)))))) .unit)) (.pair (.slice (.pair (.int .i64) (.pair (.int .i64) .unit))) (.pair (.slice (.pair (.pair (.int .i64) (.pair (.int .i64) .unit)) (.pair .bool (.pair (.slice (.pair (.int .i64) (.pair (.int .i64) .unit))) .unit)))) .unit))) (.pair (.slice (.slice (.pair (.int .i64) (.pair (.int .i64) .unit)))) (.pair (.int .i64) .unit)))
abbrev t129 : Ty := (.func (.pair (.pair (.slice (.pair .str (.pair (.int .i64) (.pair (.int .i64) .unit)))) (.pair (.slice (.pair .str (.pair (.int .i64) (.pair (.int .i64) (.pair (.int .i64) (.pair (.int .i64) .unit)))))) .unit)) (.pair (.slice (.pair (.int .i64) (.pair (.int .i64) .unit))) (.pair (.slice (.pair (.pair (.int .i64) (.pair (.int .i64) .unit)) (.pair .bool (.pair (.slice (.pair (.int .i64) (.pair (.int .i64) .unit))) .unit)))) .unit))) (.pair .bool (.pair (.int .i64) .unit)))
abbrev t130 : Ty := (.func (.pair (.pair (.slice (.pair .str (.pair (.int .i64) (.pair (.int .i64) .unit)))) (.pair (.slice (.pair .str (.pair (.int .i64) (.pair (.int .i64) (.pair (.int .i64) (.pair (.int .i64) .unit)))))) .unit)) (.pair (.slice (.pair (.int .i64) (.pair (.int .i64) .unit))) (.pair (.slice (.pair (.pair (.int .i64) (.pair (.int .i64) .unit)) (.pair .bool (.pair (.slice (.pair (.int .i64) (.pair (.int .i64) .unit))) .unit)))) .unit))) (.pair (.int .i64) (.pair (.int .i64) .unit)))
abbrev t131 : Ty := (.func (.pair (.slice (.slice (.pair (.int .i64) (.pair (.int .i64) .unit)))) (.pair (.slice (.slice (.pair (.int .i64) (.pair (.int .i64) .unit)))) .unit)) (.pair .bool .unit))
abbrev t132 : Ty := (.func (.pair (.pair (.slice (.pair .str (.pair (.int .i64) (.pair (.int .i64) .unit)))) (.pair (.slice (.pair .str (.pair (.int .i64) (.pair (.int .i64) (.pair (.int .i64) (.pair (.int .i64) .unit)))))) .unit)) (.pair (.slice (.pair (.int .i64) (.pair (.int .i64) .unit))) (.pair (.slice (.pair (.pair (.int .i64) (.pair (.int .i64) .unit)) (.pair .bool (.pair (.slice (.pair (.int .i64) (.pair (.int .i64) .unit))) .unit)))) .unit))) (.pair .bool .unit))
abbrev t133 : Ty := (.arr 2 (.int .u8))
abbrev t134 : Ty := (.func (.pair (.pair (.slice (.pair .str (.pair (.int .i64) (.pair (.int .i64) .unit)))) (.pair (.slice (.pair .str (.pair (.int .i64) (.pair (.int .i64) (.pair (.int .i64) (.pair (.int .i64) .unit)))))) .unit)) (.pair (.slice (.pair (.pair (.int .i64) (.pair (.int .i64) .unit)) (.pair .bool (.pair (.slice (.pair (.int .i64) (.pair (.int .i64) .unit))) .unit)))) .unit)) (.pair (.int .i64) .unit))
abbrev t135 : Ty := (.func (.pair (.pair (.slice (.pair .str (.pair (.int .i64) (.pair (.int .i64) .unit)))) (.pair (.slice (.pair .str (.pair (.int .i64) (.pair (.int .i64) (.pair (.int .i64) (.pair (.int .i64) .unit)))))) .unit)) (.pair (.slice (.pair (.pair (.int .i64) (.pair (.int .i64) .unit)) (.pair .bool (.pair (.slice (.pair (.int .i64) (.pair (.int .i64) .unit))) .unit)))) (.pair (.arr 2 (.int .u8)) .unit))) (.pair .bool .unit))
abbrev t136 : Ty := (.arr 6 (.int .u8))
abbrev t137 : Ty := (.arr 6 (.int .u8))
abbrev t138 : Ty := (.func (.pair (.pair (.int .i64) (.pair (.int .i64) .unit)) (.pair (.int .u8) .unit)) (.pair (.int .i64) .unit))
abbrev t139 : Ty := (.func (.pair (.slice (.pair (.int .i64) (.pair .bool (.pair (.slice (.int .i64)) .unit)))) .unit) (.pair (.slice (.pair (.int .i64) (.pair .bool (.pair (.slice (.int .i64)) .unit)))) .unit))
abbrev t140 : Ty := (.func (.pair (.pair (.slice (.pair .str (.pair (.int .i64) (.pair (.int .i64) .unit)))) (.pair (.slice (.pair .str (.pair (.int .i64) (.pair (.int .i64) (.pair (.int .i64) (.pair (.int .i64) .unit)))))) .unit)) (.pair (.slice (.pair (.pair (.int .i64) (.pair (.int .i64) .unit)) (.pair .bool (.pair (.slice (.pair (.int .i64) (.pair (.int .i64) .unit))) .unit)))) (.pair (.arr 6 (.int .u8)) .unit))) (.pair .bool .unit))
abbrev t142 : Ty := (.func (.pair (.pair (.slice (.pair .str (.pair (.int .i64) (.pair (.int .i64) .unit)))) (.pair (.slice (.pair .str (.pair (.int .i64) (.pair (.int .i64) (.pair (.int .i64) (.pair (.int .i64) .unit)))))) .unit)) .unit) (.pair .str (.pair (.int .i64) .unit)))
abbrev t144 : Ty := (.func (.pair .str .unit) (.pair (.pair (.slice (.pair .str (.pair (.int .i64) (.pair (.int .i64) .unit)))) (.pair (.slice (.pair .str (.pair (.int .i64) (.pair (.int .i64) (.pair (.int .i64) (.pair (.int .i64) .unit)))))) .unit)) (.pair (.int .i64) (.pair (.int .i64) .unit))))
abbrev t145 : Ty := (.func (.pair (.pair (.slice (.pair .str (.pair (.int .i64) (.pair (.int .i64) .unit)))) (.pair (.slice (.pair .str (.pair (.int .i64) (.pair (.int .i64) (.pair (.int .i64) (.pair (.int .i64) .unit)))))) .unit)) .unit) (.pair .str .unit))
abbrev t147 : Ty := (.func (.pair .str .unit) (.pair (.pair (.slice (.pair .str (.pair (.int .i64) (.pair (.int .i64) .unit)))) (.pair (.slice (.pair .str (.pair (.int .i64) (.pair (.int .i64) (.pair (.int .i64) (.pair (.int .i64) .unit)))))) .unit)) (.pair (.int .i64) (.pair (.int .i64) .unit))))
abbrev t148 : Ty := (.func (.pair (.pair (.slice (.pair .str (.pair (.int .i64) (.pair (.int .i64) .unit)))) (.pair (.slice (.pair .str (.pair (.int .i64) (.pair (.int .i64) (.pair (.int .i64) (.pair (.int .i64) .unit)))))) .unit)) (.pair (.pair (.slice (.pair .str (.pair (.int .i64) (.pair (.int .i64) .unit)))) (.pair (.slice (.pair .str (.pair (.int .i64) (.pair (.int .i64) (.pair (.int .i64) (.pair (.int .i64) .unit)))))) .unit)) .unit)) (.pair .bool .unit))
abbrev t149 : Ty := (.func (.pair (.pair (.slice (.pair .str (.pair (.int .i64) (.pair (.int .i64) .unit)))) (.pair (.slice (.pair .str (.pair (.int .i64) (.pair (.int .i64) (.pair (.int .i64) (.pair (.int .i64) .unit)))))) .unit)) .unit) (.pair (.pair (.slice (.pair .str (.pair (.int .i64) (.pair (.int .i64) .unit)))) (.pair (.slice (.pair .str (.pair (.int .i64) (.pair (.int .i64) (.pair (.int .i64) (.pair (.int .i64) .unit)))))) .unit)) .unit))
abbrev t150 : Ty := (.func (.pair (.pair (.slice (.pair .str (.pair (.int .i64) (.pair (.int .i64) .unit)))) (.pair (.slice (.pair .str (.pair (.int .i64) (.pair (.int .i64) (.pair (.int .i64) (.pair (.int .i64) .unit)))))) .unit)) (.pair .str .unit)) (.pair .bool .unit))
abbrev t151 : Ty := (.func (.pair .str (.pair (.int .u8) .unit)) (.pair (.slice .str) .unit))
abbrev t152 : Ty := (.func (.pair (.slice (.int .i64)) (.pair (.int .i64) .unit)) (.pair .bool .unit))
abbrev t153 : Ty := (.func (.pair (.pair (.slice (.pair .str (.pair (.int .i64) (.pair (.int .i64) .unit)))) (.pair (.slice (.pair .str (.pair (.int .i64) (.pair (.int .i64) (.pair (.int .i64) (.pair (.int .i64) .unit)))))) .unit)) (.pair (.slice (.int .i64)) (.pair .str .unit))) (.pair .bool .unit))
abbrev t154 : Ty := (.func .unit (.pair (.pair (.slice (.pair .str (.pair (.int .i64) (.pair (.int .i64) .unit)))) (.pair (.slice (.pair .str (.pair (.int .i64) (.pair (.int .i64) (.pair (.int .i64) (.pair (.int .i64) .unit)))))) .unit)) .unit))
abbrev t155 : Ty := (.func (.pair (.slice (.int .i64)) .unit) (.pair (.int .i64) .unit))
abbrev t156 : Ty := (.func (.pair (.pair (.int .i64) (.pair .bool (.pair (.slice (.int .i64)) .unit))) .unit) (.pair (.int .i64) .unit))
abbrev t157 : Ty := (.func (.pair .bool (.pair (.int .i64) .unit)) (.pair (.int .i64) .unit))
abbrev t158 : Ty := (.func (.pair (.int .i64) (.pair (.int .i64) (.pair (.int .i64) .unit))) (.pair (.int .i64) .unit))
abbrev t159 : Ty := (.pair .str (.pair (.int .i64) (.pair (.int .i64) .unit)))
abbrev t160 : Ty := (.func (.pair (.int .i64) .unit) (.pair (.int .i64) .unit))
abbrev t162 : Ty := (.func (.pair (.slice (.int .i64)) (.pair (.pair (.int .i64) (.pair .bool (.pair (.slice (.int .i64)) .unit))) .unit)) (.pair (.slice (.int .i64)) (.pair (.slice (.int .i64)) (.pair .bool .unit))))
abbrev t163 : Ty := (.pair .str (.pair (.int .i64) (.pair (.int .i64) (.pair (.int .i64) (.pair (.int .i64) .unit)))))
abbrev t164 : Ty := (.func (.pair (.int .i64) (.pair (.int .i64) (.pair (.int .i64) .unit))) (.pair (.int .i64) .unit))
abbrev t165 : Ty := (.func (.pair (.slice (.pair .str (.pair (.int .i64) (.pair (.int .i64) .unit)))) .unit) (.pair (.int .i64) .unit))
abbrev t166 : Ty := (.func (.pair (.pair .str (.pair (.int .i64) (.pair (.int .i64) (.pair (.int .i64) (.pair (.int .i64) .unit))))) (.pair (.int .i64) .unit)) (.pair (.int .i64) .unit))
abbrev t167 : Ty := (.slice (.pair (.pair (.int .i64) (.pair .bool (.pair (.slice (.int .i64)) .unit))) (.pair (.slice (.int .i64)) (.pair (.nslice (.int .i64)) .unit))))
abbrev t169 : Ty := (.func (.pair (.pair (.slice (.pair .str (.pair (.int .i64) (.pair (.int .i64) .unit)))) (.pair (.slice (.pair .str (.pair (.int .i64) (.pair (.int .i64) (.pair (.int .i64) (.pair (.int .i64) .unit)))))) .unit)) (.pair (.slice (.int .i64)) (.pair (.slice (.pair (.int .i64) (.pair .bool (.pair (.slice (.int .i64)) .unit)))) .unit))) (.pair (.slice (.pair (.pair (.int .i64) (.pair .bool (.pair (.slice (.int .i64)) .unit))) (.pair (.slice (.int .i64)) (.pair (.nslice (.int .i64)) .unit)))) (.pair (.int .i64) .unit)))
abbrev t170 : Ty := (.func (.pair (.slice (.pair (.pair (.int .i64) (.pair .bool (.pair (.slice (.int .i64)) .unit))) (.pair (.slice (.int .i64)) (.pair (.nslice (.int .i64)) .unit)))) .unit) (.pair (.slice (.slice (.int .i64))) .unit))
abbrev t171 : Ty := (.arr 5 .str)
abbrev t172 : Ty := (.map .str .bool)
abbrev t173 : Ty := (.func (.pair .str .unit) (.pair .bool .unit))
abbrev t174 : Ty := (.slice (.int .i64))
abbrev t175 : Ty := (.func (.pair (.slice (.pair .str (.pair (.int .i64) (.pair (.int .i64) (.pair (.int .i64) (.pair (.int .i64) .unit)))))) (.pair (.func (.pair (.pair .str (.pair (.int .i64) (.pair (.int .i64) (.pair (.int .i64) (.pair (.int .i64) .unit))))) .unit) (.pair (.int .i64) .unit)) .unit)) (.pair (.slice (.int .i64)) .unit))
abbrev t176 : Ty := (.func (.pair (.int .i64) .unit) (.pair (.int .i64) .unit))
abbrev t177 : Ty := (.func (.pair (.pair .str (.pair (.int .i64) (.pair (.int .i64) (.pair (.int .i64) (.pair (.int .i64) .unit))))) .unit) (.pair (.int .i64) .unit))
abbrev t178 : Ty := (.func (.pair (.slice (.int .i64)) .unit) (.pair (.int .i64) .unit))
abbrev t179 : Ty := (.pair (.pair (.int .i64) (.pair .bool (.pair (.slice (.int .i64)) .unit))) (.pair (.slice (.int .i64)) (.pair (.nslice (.int .i64)) .unit)))
abbrev t180 : Ty := (.pair (.pair (.int .i64) (.pair .bool (.pair (.slice (.int .i64)) .unit))) (.pair (.slice (.int .i64)) (.pair (.nslice (.int .i64)) .unit)))
abbrev t181 : Ty := (.func (.pair (.slice (.int .i64)) .unit) (.pair .bool .unit))
abbrev t182 : Ty := (.func (.pair (.pair (.slice (.pair .str (.pair (.int .i64) (.pair (.int .i64) .unit)))) (.pair (.slice (.pair .str (.pair (.int .i64) (.pair (.int .i64) (.pair (.int .i64) (.pair (.int .i64) .unit)))))) .unit)) (.pair (.slice (.int .i64)) (.pair (.pair (.int .i64) (.pair .bool (.pair (.slice (.int .i64)) .unit))) (.pair (.pair .str (.pair (.int .i64) (.pair (.int .i64) (.pair (.int .i64) (.pair (.int .i64) .unit))))) .unit)))) (.pair (.int .i64) .unit))
abbrev t183 : Ty := (.func (.pair (.pair (.int .i64) (.pair (.int .i64) .unit)) (.pair (.int .i64) .unit)) (.pair .bool .unit))
abbrev t184 : Ty := (.func (.pair (.slice (.pair (.pair (.int .i64) (.pair (.int .i64) .unit)) (.pair .bool (.pair (.slice (.pair (.int .i64) (.pair (.int .i64) .unit))) .unit)))) .unit) (.pair (.int .i64) .unit))
abbrev t185 : Ty := (.func (.pair (.slice (.pair (.pair (.int .i64) (.pair (.int .i64) .unit)) (.pair .bool (.pair (.slice (.pair (.int .i64) (.pair (.int .i64) .unit))) .unit)))) (.pair (.func (.pair (.pair (.pair (.int .i64) (.pair (.int .i64) .unit)) (.pair .bool (.pair (.slice (.pair (.int .i64) (.pair (.int .i64) .unit))) .unit))) .unit) (.pair (.pair (.int .i64) (.pair .bool (.pair (.slice (.int .i64)) .unit))) .unit)) .unit)) (.pair (.slice (.pair (.int .i64) (.pair .bool (.pair (.slice (.int .i64)) .unit)))) .unit))
abbrev t186 : Ty := (.func (.pair (.pair (.pair (.int .i64) (.pair (.int .i64) .unit)) (.pair .bool (.pair (.slice (.pair (.int .i64) (.pair (.int .i64) .unit))) .unit))) .unit) (.pair (.pair (.int .i64) (.pair .bool (.pair (.slice (.int .i64)) .unit))) .unit))
abbrev t187 : Ty := (.func .unit (.pair (.pair (.int .i64) (.pair .bool (.pair (.slice (.int .i64)) .unit))) .unit))
abbrev t188 : Ty := (.func (.pair (.pair (.int .i64) (.pair (.int .i64) .unit)) (.pair .bool .unit)) (.pair (.int .i64) .unit))
abbrev t189 : Ty := (.func (.pair (.slice (.pair (.int .i64) (.pair (.int .i64) .unit))) (.pair .bool .unit)) (.pair (.slice (.int .i64)) .unit))
abbrev t190 : Ty := (.func (.pair (.pair (.pair (.int .i64) (.pair (.int .i64) .unit)) (.pair .bool (.pair (.slice (.pair (.int .i64) (.pair (.int .i64) .unit))) .unit))) .unit) (.pair (.int .i64) .unit))
abbrev t191 : Ty := (.func (.pair (.int .i64) (.pair (.pair (.int .i64) (.pair (.int .i64) .unit)) .unit)) (.pair .bool .unit))
abbrev t192 : Ty := (.func (.pair (.pair (.slice (.pair .str (.pair (.int .i64) (.pair (.int .i64) .unit)))) (.pair (.slice (.pair .str (.pair (.int .i64) (.pair (.int .i64) (.pair (.int .i64) (.pair (.int .i64) .unit)))))) .unit)) (.pair (.slice (.pair (.int .i64) (.pair (.int .i64) .unit))) (.pair (.slice (.pair (.pair (.int .i64) (.pair (.int .i64) .unit)) (.pair .bool (.pair (.slice (.pair (.int .i64) (.pair (.int .i64) .unit))) .unit)))) .unit))) (.pair (.int .i64) .unit))
abbrev t193 : Ty := (.func (.pair (.slice (.int .i64)) (.pair (.slice (.pair (.int .i64) (.pair .bool (.pair (.slice (.int .i64)) .unit)))) .unit)) (.pair (.slice (.pair (.pair (.int .i64) (.pair .bool (.pair (.slice (.int .i64)) .unit))) (.pair (.slice (.int .i64)) (.pair (.nslice (.int .i64)) .unit)))) (.pair (.int .i64) .unit)))
abbrev t194 : Ty := (.func (.pair (.slice (.pair (.int .i64) (.pair (.int .i64) .unit))) (.pair (.int .i64) .unit)) (.pair (.slice (.int .i64)) .unit))
abbrev t195 : Ty := (.func (.pair (.slice (.pair (.int .i64) (.pair (.int .i64) .unit))) (.pair (.slice (.pair (.pair (.int .i64) (.pair (.int .i64) .unit)) (.pair .bool (.pair (.slice (.pair (.int .i64) (.pair (.int .i64) .unit))) .unit)))) .unit)) (.pair .bool (.pair (.int .i64) .unit)))
abbrev t196 : Ty := (.func (.pair (.pair (.slice (.pair .str (.pair (.int .i64) (.pair (.int .i64) .unit)))) (.pair (.slice (.pair .str (.pair (.int .i64) (.pair (.int .i64) (.pair (.int .i64) (.pair (.int .i64) .unit)))))) .unit)) (.pair (.slice (.pair (.int .i64) (.pair (.int .i64) .unit))) .unit)) (.pair (.int .i64) .unit))
abbrev t197 : Ty := (.func (.pair (.slice (.pair (.pair (.int .i64) (.pair (.int .i64) .unit)) (.pair .bool (.pair (.slice (.pair (.int .i64) (.pair (.int .i64) .unit))) .unit)))) (.pair (.int .i64) .unit)) (.pair (.slice (.pair (.pair (.int .i64) (.pair (.int .i64) .unit)) (.pair .bool (.pair (.slice (.pair (.int .i64) (.pair (.int .i64) .unit))) .unit)))) .unit))
abbrev t198 : Ty := (.ref .unit)
abbrev t199 : Ty := (.slice (.int .u8))
abbrev t200 : Ty := (.pair (.ref .unit) (.pair (.slice (.int .u8)) .unit))
abbrev t201 : Ty := (.pair (.ref .unit) (.pair (.slice (.int .u8)) .unit))
abbrev t203 : Ty := .err
abbrev t205 : Ty := (.func (.pair .str .unit) (.pair (.int .i64) (.pair .err .unit)))
abbrev t206 : Ty := (.func (.pair (.slice .str) (.pair .str .unit)) (.pair .str .unit))
abbrev t207 : Ty := (.func (.pair (.slice (.int .i64)) (.pair (.func (.pair (.int .i64) .unit) (.pair .str .unit)) .unit)) (.pair (.slice .str) .unit))
abbrev t208 : Ty := (.func (.pair (.int .i64) .unit) (.pair .str .unit))
abbrev t209 : Ty := (.func (.pair (.slice .str) (.pair (.slice (.int .i64)) .unit)) .unit)
abbrev t210 : Ty := (.func .unit (.pair .str .unit))
abbrev t211 : Ty := (.func (.pair (.func (.pair .str .unit) (.pair .bool .unit)) .unit) .unit)
abbrev t212 : Ty := (.func (.pair (.func (.pair .str .unit) (.pair .bool .unit)) .unit) .unit)
abbrev t213 : Ty := (.func (.pair .str .unit) (.pair (.func (.pair (.func (.pair .str .unit) (.pair .bool .unit)) .unit) .unit) .unit))
abbrev t215 : Ty := (.func (.pair .str (.pair .str .unit)) (.pair .str (.pair .bool .unit)))
abbrev t216 : Ty := (.func (.pair .str (.pair .str .unit)) (.pair (.slice .str) .unit))
abbrev t217 : Ty := (.func (.pair (.slice .str) .unit) (.pair .bool .unit))
abbrev t219 : Ty := (.func (.pair (.slice .str) .unit) (.pair (.slice (.int .i64)) (.pair .bool .unit)))
abbrev t220 : Ty := (.func (.pair (.slice (.int .i64)) (.pair (.func (.pair (.int .i64) .unit) (.pair (.int .i64) .unit)) .unit)) (.pair (.slice (.int .i64)) .unit))
abbrev t221 : Ty := (.func (.pair (.int .i64) (.pair (.int .i64) .unit)) .unit)
abbrev t222 : Ty := (.map .str (.pair (.arr 2 .bool) (.pair (.func (.pair (.pair (.pair .str (.pair (.int .i64) (.pair (.int .i64) (.pair (.int .i64) (.pair (.int .i64) .unit))))) (.pair (.int .i64) (.pair (.int .i64) (.pair (.int .i64) (.pair .bool .unit))))) .unit) (.pair (.int .i64) .unit)) .unit)))
abbrev t223 : Ty := (.func .unit (.pair (.map .str (.pair (.arr 2 .bool) (.pair (.func (.pair (.pair (.pair .str (.pair (.int .i64) (.pair (.int .i64) (.pair (.int .i64) (.pair (.int .i64) .unit))))) (.pair (.int .i64) (.pair (.int .i64) (.pair (.int .i64) (.pair .bool .unit))))) .unit) (.pair (.int .i64) .unit)) .unit))) .unit))
abbrev t224 : Ty := (.func .unit (.pair (.int .i64) .unit))
abbrev t225 : Ty := (.arr 2 .bool)
abbrev t226 : Ty := (.func (.pair (.pair (.pair .str (.pair (.int .i64) (.pair (.int .i64) (.pair (.int .i64) (.pair (.int .i64) .unit))))) (.pair (.int .i64) (.pair (.int .i64) (.pair (.int .i64) (.pair .bool .unit))))) .unit) (.pair (.int .i64) .unit))
abbrev t227 : Ty := (.pair (.arr 2 .bool) (.pair (.func (.pair (.pair (.pair .str (.pair (.int .i64) (.pair (.int .i64) (.pair (.int .i64) (.pair (.int .i64) .unit))))) (.pair (.int .i64) (.pair (.int .i64) (.pair (.int .i64) (.pair .bool .unit))))) .unit) (.pair (.int .i64) .unit)) .unit))
abbrev t228 : Ty := (.pair (.arr 2 .bool) (.pair (.func (.pair (.pair (.pair .str (.pair (.int .i64) (.pair (.int .i64) (.pair (.int .i64) (.pair (.int .i64) .unit))))) (.pair (.int .i64) (.pair (.int .i64) (.pair (.int .i64) (.pair .bool .unit))))) .unit) (.pair (.int .i64) .unit)) .unit))
abbrev t229 : Ty := (.pair (.pair .str (.pair (.int .i64) (.pair (.int .i64) (.pair (.int .i64) (.pair (.int .i64) .unit))))) (.pair (.int .i64) (.pair (.int .i64) (.pair (.int .i64) (.pair .bool .unit)))))
abbrev t230 : Ty := (.pair (.pair .str (.pair (.int .i64) (.pair (.int .i64) (.pair (.int .i64) (.pair (.int .i64) .unit))))) (.pair (.int .i64) (.pair (.int .i64) (.pair (.int .i64) (.pair .bool .unit)))))
abbrev t231 : Ty := (.func (.pair (.slice .str) (.pair .str .unit)) (.pair .bool .unit))
abbrev t233 : Ty := (.func (.pair .str .unit) (.pair .bool (.pair .bool .unit)))
abbrev t234 : Ty := (.func (.pair (.int .i64) (.pair (.int .i64) (.pair .bool .unit))) (.pair .bool .unit))
abbrev t235 : Ty := (.func (.pair (.slice (.pair (.int .i64) (.pair .bool (.pair (.slice (.int .i64)) .unit)))) (.pair (.func (.pair (.pair (.int .i64) (.pair .bool (.pair (.slice (.int .i64)) .unit))) .unit) (.pair (.int .i64) .unit)) .unit)) (.pair (.slice (.int .i64)) .unit))
abbrev t236 : Ty := (.func (.pair (.slice (.pair (.pair (.int .i64) (.pair .bool (.pair (.slice (.int .i64)) .unit))) (.pair (.slice (.int .i64)) (.pair (.nslice (.int .i64)) .unit)))) (.pair (.func (.pair (.pair (.pair (.int .i64) (.pair .bool (.pair (.slice (.int .i64)) .unit))) (.pair (.slice (.int .i64)) (.pair (.nslice (.int .i64)) .unit))) .unit) (.pair (.slice (.int .i64)) .unit)) .unit)) (.pair (.slice (.slice (.int .i64))) .unit))
abbrev t237 : Ty := (.func (.pair (.pair (.pair (.int .i64) (.pair .bool (.pair (.slice (.int .i64)) .unit))) (.pair (.slice (.int .i64)) (.pair (.nslice (.int .i64)) .unit))) .unit) (.pair (.slice (.int .i64)) .unit))
abbrev t239 : Ty := (.func (.pair (.int .i64) (.pair .bool .unit)) (.pair .bool .unit))
abbrev t240 : Ty := (.func (.pair (.int .i64) (.pair (.int .i64) .unit)) (.pair (.int .i64) .unit))
abbrev t241 : Ty := (.func (.pair (.slice (.pair (.pair (.int .i64) (.pair (.int .i64) .unit)) (.pair .bool (.pair (.slice (.pair (.int .i64) (.pair (.int .i64) .unit))) .unit)))) (.pair (.func (.pair (.pair (.pair (.int .i64) (.pair (.int .i64) .unit)) (.pair .bool (.pair (.slice (.pair (.int .i64) (.pair (.int .i64) .unit))) .unit))) .unit) (.pair (.int .i64) .unit)) .unit)) (.pair (.slice (.int .i64)) .unit))
abbrev t242 : Ty := (.func (.pair (.int .i64) .unit) (.pair (.pair (.int .i64) (.pair .bool (.pair (.slice (.int .i64)) .unit))) .unit))
abbrev t243 : Ty := (.func (.pair (.pair (.int .i64) (.pair (.int .i64) .unit)) (.pair (.int .i64) (.pair (.int .i64) .unit))) (.pair (.int .i64) .unit))
abbrev t244 : Ty := (.func (.pair (.pair (.slice (.pair .str (.pair (.int .i64) (.pair (.int .i64) .unit)))) (.pair (.slice (.pair .str (.pair (.int .i64) (.pair (.int .i64) (.pair (.int .i64) (.pair (.int .i64) .unit)))))) .unit)) (.pair (.slice (.pair (.int .i64) (.pair (.int .i64) .unit))) (.pair (.int .i64) .unit))) (.pair (.int .i64) .unit))
abbrev t245 : Ty := (.func (.pair (.pair (.int .i64) (.pair (.int .i64) .unit)) (.pair (.func (.pair (.int .i64) .unit) (.pair (.int .i64) .unit)) .unit)) (.pair (.int .i64) .unit))
abbrev t246 : Ty := (.func (.pair (.pair (.int .i64) (.pair (.int .i64) .unit)) .unit) (.pair (.int .i64) .unit))
abbrev t247 : Ty := (.func (.pair (.slice (.pair (.int .i64) (.pair (.int .i64) .unit))) (.pair (.func (.pair (.pair (.int .i64) (.pair (.int .i64) .unit)) .unit) (.pair (.int .i64) .unit)) .unit)) (.pair (.slice (.int .i64)) .unit))
abbrev t248 : Ty := (.func (.pair (.func (.pair (.func (.pair (.pair (.pair (.int .i64) (.pair .bool (.pair (.slice (.int .i64)) .unit))) (.pair (.slice (.int .i64)) (.pair (.nslice (.int .i64)) .unit))) .unit) (.pair .bool .unit)) .unit) .unit) .unit) (.pair (.slice (.pair (.pair (.int .i64) (.pair .bool (.pair (.slice (.int .i64)) .unit))) (.pair (.slice (.int .i64)) (.pair (.nslice (.int .i64)) .unit)))) .unit))
abbrev t249 : Ty := (.func (.pair (.func (.pair (.pair (.pair (.int .i64) (.pair .bool (.pair (.slice (.int .i64)) .unit))) (.pair (.slice (.int .i64)) (.pair (.nslice (.int .i64)) .unit))) .unit) (.pair .bool .unit)) .unit) .unit)
abbrev t250 : Ty := (.func (.pair (.func (.pair (.pair (.pair (.int .i64) (.pair .bool (.pair (.slice (.int .i64)) .unit))) (.pair (.slice (.int .i64)) (.pair (.nslice (.int .i64)) .unit))) .unit) (.pair .bool .unit)) .unit) .unit)
abbrev t251 : Ty := (.func (.pair (.slice (.int .i64)) (.pair (.slice (.pair (.int .i64) (.pair .bool (.pair (.slice (.int .i64)) .unit)))) .unit)) (.pair (.func (.pair (.func (.pair (.pair (.pair (.int .i64) (.pair .bool (.pair (.slice (.int .i64)) .unit))) (.pair (.slice (.int .i64)) (.pair (.nslice (.int .i64)) .unit))) .unit) (.pair .bool .unit)) .unit) .unit) .unit))
abbrev t252 : Ty := (.func (.pair (.slice (.pair (.int .i64) (.pair (.int .i64) .unit))) (.pair (.func (.pair (.pair (.int .i64) (.pair (.int .i64) .unit)) .unit) (.pair (.int .i64) .unit)) .unit)) (.pair (.slice (.int .i64)) .unit))
abbrev t253 : Ty := (.arr 2 (.int .i64))
abbrev t254 : Ty := (.func (.pair (.pair (.int .i64) (.pair (.int .i64) .unit)) .unit) (.pair (.arr 2 (.int .i64)) .unit))
abbrev t255 : Ty := (.func (.pair (.pair (.int .i64) (.pair (.int .i64) .unit)) .unit) (.pair (.int .i64) .unit))
abbrev t256 : Ty := (.func (.pair (.slice (.slice (.int .i64))) (.pair (.func (.pair (.slice (.int .i64)) .unit) (.pair .bool .unit)) .unit)) (.pair .bool .unit))
abbrev t257 : Ty := (.func (.pair (.int .i64) .unit) .unit)
abbrev t258 : Ty := (.ref (.int .u8))
abbrev t259 : Ty := (.func (.pair .str (.pair (.int .u8) .unit)) (.pair (.int .i64) .unit))
abbrev t260 : Ty := (.func (.pair .str (.pair .str (.pair (.int .i64) (.pair (.int .i64) .unit)))) (.pair (.slice .str) .unit))
abbrev t261 : Ty := (.ref (.pair (.slice (.pair .str (.pair (.int .i64) (.pair (.int .i64) .unit)))) (.pair (.slice (.pair .str (.pair (.int .i64) (.pair (.int .i64) (.pair (.int .i64) (.pair (.int .i64) .unit)))))) .unit)))
abbrev t262 : Ty := (.ref (.pair (.slice .str) (.pair .bool .unit)))
abbrev t263 : Ty := (.pair (.slice .str) (.pair .bool .unit))
abbrev t264 : Ty := (.pair (.slice .str) (.pair .bool .unit))
abbrev t265 : Ty := (.arr 4 (.int .i64))
abbrev t267 : Ty := (.func (.pair .str .unit) (.pair (.int .i64) (.pair .bool .unit)))
abbrev t268 : Ty := (.func (.pair (.slice (.pair (.pair (.int .i64) (.pair .bool (.pair (.slice (.int .i64)) .unit))) (.pair (.slice (.int .i64)) (.pair (.nslice (.int .i64)) .unit)))) (.pair (.func (.pair (.func (.pair (.pair (.pair (.int .i64) (.pair .bool (.pair (.slice (.int .i64)) .unit))) (.pair (.slice (.int .i64)) (.pair (.nslice (.int .i64)) .unit))) .unit) (.pair .bool .unit)) .unit) .unit) .unit)) (.pair (.slice (.pair (.pair (.int .i64) (.pair .bool (.pair (.slice (.int .i64)) .unit))) (.pair (.slice (.int .i64)) (.pair (.nslice (.int .i64)) .unit)))) .unit))
abbrev t269 : Ty := (.func (.pair (.pair (.pair (.int .i64) (.pair .bool (.pair (.slice (.int .i64)) .unit))) (.pair (.slice (.int .i64)) (.pair (.nslice (.int .i64)) .unit))) .unit) (.pair .bool .unit))
abbrev t270 : Ty := (.func (.pair (.slice (.slice (.int .i64))) (.pair (.func (.pair (.slice (.int .i64)) .unit) (.pair .bool .unit)) .unit)) (.pair (.int .i64) .unit))
abbrev t273 : Ty := (.func (.pair (.int .i64) (.pair (.int .i64) .unit)) (.pair .str .unit))
abbrev t274 : Ty := (.func (.pair .str (.pair .str .unit)) (.pair .bool .unit))
abbrev t275 : Ty := (.func (.pair .str (.pair (.int .i64) .unit)) (.pair (.slice .str) .unit))
abbrev t276 : Ty := (.func (.pair .str (.pair .str .unit)) (.pair (.int .i64) .unit))
abbrev t277 : Ty := (.func (.pair .str (.pair .str .unit)) (.pair .str .unit))
abbrev t278 : Ty := (.func (.pair (.int .i64) .unit) (.pair (.slice (.int .u8)) .unit))
abbrev t279 : Ty := (.arr 24 (.int .u8))
abbrev t280 : Ty := (.int .u64)
abbrev t281 : Ty := (.func (.pair (.int .u64) .unit) (.pair (.int .i64) .unit))
abbrev t282 : Ty := (.func (.pair (.slice (.int .u8)) (.pair (.int .u64) .unit)) .unit)
abbrev t284 : Ty := (.func (.pair (.slice (.int .u8)) (.pair (.int .u64) (.pair (.int .i64) (.pair .bool (.pair .bool .unit))))) (.pair (.slice (.int .u8)) (.pair .str .unit)))
abbrev t285 : Ty := (.func (.pair .str .unit) (.pair (.int .i64) .unit))
abbrev t287 : Ty := (.func (.pair .str .unit) (.pair (.int .i32) (.pair (.int .i64) .unit)))
abbrev t288 : Ty := (.func (.pair .str (.pair .str (.pair (.int .i64) (.pair (.int .i64) (.pair .err .unit))))) (.pair .err .unit))
abbrev t289 : Ty := (.func (.pair .bool .unit) (.pair (.int .i64) .unit))
abbrev t290 : Ty := (.arr 20 (.int .u64))
abbrev t291 : Ty := (.int .u32)
abbrev t292 : Ty := (.arr 65 (.int .u8))
abbrev t293 : Ty := (.func (.pair (.int .i64) .unit) (.pair .bool .unit))
abbrev t294 : Ty := (.int .u64)
abbrev t295 : Ty := (.func (.pair (.int .u64) .unit) (.pair (.int .i64) .unit))
abbrev t296 : Ty := (.int .i64)
abbrev t298 : Ty := (.func (.pair .str (.pair (.int .i64) (.pair (.int .i64) .unit))) (.pair (.int .i64) (.pair .err .unit)))
abbrev t299 : Ty := (.ref (.pair .str (.pair .str (.pair .err .unit))))
abbrev t300 : Ty := (.func (.pair .str (.pair .str .unit)) (.pair (.ref (.pair .str (.pair .str (.pair .err .unit)))) .unit))
abbrev t301 : Ty := (.func (.pair .str (.pair .str (.pair (.int .i64) .unit))) (.pair (.ref (.pair .str (.pair .str (.pair .err .unit)))) .unit))
abbrev t302 : Ty := (.func (.pair (.int .u32) .unit) (.pair (.int .i64) .unit))
abbrev t303 : Ty := (.arr 256 (.int .u8))
abbrev t304 : Ty := (.pair (.int .u8) (.pair (.int .u8) .unit))
abbrev t305 : Ty := (.pair (.int .u8) (.pair (.int .u8) .unit))
abbrev t306 : Ty := (.arr 16 (.pair (.int .u8) (.pair (.int .u8) .unit)))
abbrev t308 : Ty := (.func (.pair .str .unit) (.pair (.int .u32) (.pair (.int .u32) .unit)))
abbrev t310 : Ty := (.func (.pair .str (.pair (.int .i64) (.pair (.int .i64) .unit))) (.pair (.int .u64) (.pair .err .unit)))
abbrev t311 : Ty := (.func (.pair .str .unit) (.pair .str .unit))
abbrev t312 : Ty := (.pair .str (.pair .str (.pair .err .unit)))
abbrev t313 : Ty := (.pair .str (.pair .str (.pair .err .unit)))
abbrev t314 : Ty := (.func (.pair .str .unit) (.pair .err .unit))
abbrev t315 : Ty := (.arr 32 (.int .u8))
abbrev t316 : Ty := (.arr 64 (.int .u8))
abbrev t317 : Ty := (.func (.pair (.int .u8) .unit) (.pair (.int .u8) .unit))
abbrev t318 : Ty := (.ref (.pair .str .unit))
abbrev t319 : Ty := (.pair .str .unit)
abbrev t320 : Ty := (.pair .str .unit)
abbrev t326 : Ty := (.int .u8)
abbrev t327 : Ty := (.int .u8)
abbrev t329 : Ty := (.int .i32)
abbrev t330 : Ty := (.int .i32)
def T : List (TypeId × TyI) := [
  (1, { ty := t1, elem := 0, fields := [] }),
  (2, { ty := t2, elem := 0, fields := [] }),
  (3, { ty := t3, elem := 0, fields := [] }),
  (4, { ty := t4, elem := 0, fields := [] }),
  (5, { ty := t5, elem := 0, fields := [] }),
  (6, { ty := t6, elem := 0, fields := [] }),
  (7, { ty := t7, elem := 0, fields := [(0, 2), (1, 3), (2, 4), (3, 6)] }),
  (8, { ty := t8, elem := 0, fields := [(0, 2), (1, 3), (2, 4), (3, 6)] }),
  (9, { ty := t9, elem := 0, fields := [] }),
  (10, { ty := t10, elem := 0, fields := [] }),
  (11, { ty := t11, elem := 0, fields := [] }),
  (12, { ty := t12, elem := 0, fields := [] }),
  (21, { ty := t21, elem := 0, fields := [] }),
  (22, { ty := t22, elem := 61, fields := [] }),
  (23, { ty := t23, elem := 83, fields := [] }),
  (24, { ty := t24, elem := 0, fields := [(0, 22), (1, 23)] }),
  (25, { ty := t25, elem := 0, fields := [(0, 22), (1, 23)] }),
  (26, { ty := t26, elem := 3, fields := [] }),
  (27, { ty := t27, elem := 0, fields := [(0, 3), (1, 4), (2, 26)] }),
  (28, { ty := t28, elem := 0, fields := [(0, 3), (1, 4), (2, 26)] }),
  (29, { ty := t29, elem := 0, fields := [(0, 28), (3, 3), (4, 3)] }),
  (30, { ty := t30, elem := 0, fields := [(0, 28), (3, 3), (4, 3)] }),
  (31, { ty := t31, elem := 0, fields := [] }),
  (32, { ty := t32, elem := 0, fields := [] }),
  (33, { ty := t33, elem := 28, fields := [] }),
  (34, { ty := t34, elem := 0, fields := [] }),
  (35, { ty := t35, elem := 0, fields := [] }),
  (37, { ty := t37, elem := 0, fields := [] }),
  (38, { ty := t38, elem := 159, fields := [] }),
  (39, { ty := t39, elem := 163, fields := [] }),
  (40, { ty := t40, elem := 0, fields := [(0, 38), (1, 39)] }),
  (41, { ty := t41, elem := 0, fields := [(0, 38), (1, 39)] }),
  (42, { ty := t42, elem := 0, fields := [] }),
  (43, { ty := t43, elem := 0, fields := [] }),
  (44, { ty := t44, elem := 0, fields := [(0, 3), (1, 4), (2, 26)] }),
  (45, { ty := t45, elem := 0, fields := [] }),
  (46, { ty := t46, elem := 0, fields := [] }),
  (48, { ty := t48, elem := 0, fields := [] }),
  (49, { ty := t49, elem := 0, fields := [] }),
  (50, { ty := t50, elem := 0, fields := [(0, 5), (1, 5), (2, 5), (3, 5)] }),
  (51, { ty := t51, elem := 0, fields := [(0, 5), (1, 5), (2, 5), (3, 5)] }),
  (52, { ty := t52, elem := 0, fields := [] }),
  (53, { ty := t53, elem := 0, fields := [] }),
  (54, { ty := t54, elem := 44, fields := [] }),
  (55, { ty := t55, elem := 0, fields := [] }),
  (56, { ty := t56, elem := 26, fields := [] }),
  (58, { ty := t58, elem := 0, fields := [] }),
  (59, { ty := t59, elem := 0, fields := [] }),
  (60, { ty := t60, elem := 0, fields := [(0, 9), (1, 3), (2, 3)] }),
  (61, { ty := t61, elem := 0, fields := [(0, 9), (1, 3), (2, 3)] }),
  (62, { ty := t62, elem := 0, fields := [] }),
  (64, { ty := t64, elem := 0, fields := [] }),
  (65, { ty := t65, elem := 0, fields := [] }),
  (66, { ty := t66, elem := 0, fields := [] }),
  (67, { ty := t67, elem := 9, fields := [] }),
  (68, { ty := t68, elem := 0, fields := [] }),
  (69, { ty := t69, elem := 0, fields := [] }),
  (70, { ty := t70, elem := 0, fields := [] }),
  (71, { ty := t71, elem := 0, fields := [] }),
  (72, { ty := t72, elem := 0, fields := [] }),
  (73, { ty := t73, elem := 0, fields := [] }),
  (75, { ty := t75, elem := 0, fields := [] }),
  (76, { ty := t76, elem := 0, fields := [] }),
  (77, { ty := t77, elem := 0, fields := [(0, 3), (1, 3), (2, 3)] }),
  (78, { ty := t78, elem := 0, fields := [(0, 3), (1, 3), (2, 3)] }),
  (80, { ty := t80, elem := 0, fields := [] }),
  (81, { ty := t81, elem := 0, fields := [] }),
  (82, { ty := t82, elem := 0, fields := [(0, 9), (1, 3), (2, 3), (3, 3), (4, 3)] }),
  (83, { ty := t83, elem := 0, fields := [(0, 9), (1, 3), (2, 3), (3, 3), (4, 3)] }),
  (84, { ty := t84, elem := 0, fields := [] }),
  (85, { ty := t85, elem := 0, fields := [] }),
  (87, { ty := t87, elem := 0, fields := [] }),
  (88, { ty := t88, elem := 0, fields := [(0, 3), (1, 3), (2, 3)] }),
  (90, { ty := t90, elem := 0, fields := [] }),
  (92, { ty := t92, elem := 0, fields := [] }),
  (94, { ty := t94, elem := 0, fields := [] }),
  (95, { ty := t95, elem := 0, fields := [(0, 3), (1, 3)] }),
  (96, { ty := t96, elem := 0, fields := [(0, 3), (1, 3)] }),
  (97, { ty := t97, elem := 96, fields := [] }),
  (98, { ty := t98, elem := 0, fields := [(0, 96), (2, 4), (3, 97)] }),
  (99, { ty := t99, elem := 0, fields := [(0, 96), (2, 4), (3, 97)] }),
  (100, { ty := t100, elem := 0, fields := [] }),
  (101, { ty := t101, elem := 99, fields := [] }),
  (103, { ty := t103, elem := 0, fields := [] }),
  (104, { ty := t104, elem := 0, fields := [(0, 96), (2, 4), (3, 97)] }),
  (105, { ty := t105, elem := 0, fields := [] }),
  (107, { ty := t107, elem := 0, fields := [] }),
  (108, { ty := t108, elem := 104, fields := [] }),
  (109, { ty := t109, elem := 0, fields := [] }),
  (110, { ty := t110, elem := 0, fields := [] }),
  (111, { ty := t111, elem := 0, fields := [] }),
  (112, { ty := t112, elem := 0, fields := [] }),
  (113, { ty := t113, elem := 0, fields := [] }),
  (114, { ty := t114, elem := 0, fields := [] }),
  (115, { ty := t115, elem := 0, fields := [] }),
  (116, { ty := t116, elem := 0, fields := [] }),
  (117, { ty := t117, elem := 0, fields := [] }),
  (118, { ty := t118, elem := 0, fields := [] }),
  (119, { ty := t119, elem := 97, fields := [] }),
  (121, { ty := t121, elem := 0, fields := [] }),
  (122, { ty := t122, elem := 0, fields := [] }),
  (123, { ty := t123, elem := 0, fields := [] }),
  (124, { ty := t124, elem := 0, fields := [] }),
  (125, { ty := t125, elem := 0, fields := [] }),
  (127, { ty := t127, elem := 0, fields := [] }),
  (129, { ty := t129, elem := 0, fields := [] }),
  (130, { ty := t130, elem := 0, fields := [] }),
  (131, { ty := t131, elem := 0, fields := [] }),
  (132, { ty := t132, elem := 0, fields := [] }),
  (133, { ty := t133, elem := 5, fields := [] }),
  (134, { ty := t134, elem := 0, fields := [] }),
  (135, { ty := t135, elem := 0, fields := [] }),
  (136, { ty := t136, elem := 5, fields := [] }),
  (137, { ty := t137, elem := 5, fields := [] }),
  (138, { ty := t138, elem := 0, fields := [] }),
  (139, { ty := t139, elem := 0, fields := [] }),
  (140, { ty := t140, elem := 0, fields := [] }),
  (142, { ty := t142, elem := 0, fields := [] }),
  (144, { ty := t144, elem := 0, fields := [] }),
  (145, { ty := t145, elem := 0, fields := [] }),
  (147, { ty := t147, elem := 0, fields := [] }),
  (148, { ty := t148, elem := 0, fields := [] }),
  (149, { ty := t149, elem := 0, fields := [] }),
  (150, { ty := t150, elem := 0, fields := [] }),
  (151, { ty := t151, elem := 0, fields := [] }),
  (152, { ty := t152, elem := 0, fields := [] }),
  (153, { ty := t153, elem := 0, fields := [] }),
  (154, { ty := t154, elem := 0, fields := [] }),
  (155, { ty := t155, elem := 0, fields := [] }),
  (156, { ty := t156, elem := 0, fields := [] }),
  (157, { ty := t157, elem := 0, fields := [] }),
  (158, { ty := t158, elem := 0, fields := [] }),
  (159, { ty := t159, elem := 0, fields := [(0, 9), (1, 3), (2, 3)] }),
  (160, { ty := t160, elem := 0, fields := [] }),
  (162, { ty := t162, elem := 0, fields := [] }),
  (163, { ty := t163, elem := 0, fields := [(0, 9), (1, 3), (2, 3), (3, 3), (4, 3)] }),
  (164, { ty := t164, elem := 0, fields := [] }),
  (165, { ty := t165, elem := 0, fields := [] }),
  (166, { ty := t166, elem := 0, fields := [] }),
  (167, { ty := t167, elem := 180, fields := [] }),
  (169, { ty := t169, elem := 0, fields := [] }),
  (170, { ty := t170, elem := 0, fields := [] }),
  (171, { ty := t171, elem := 9, fields := [] }),
  (172, { ty := t172, elem := 0, fields := [] }),
  (173, { ty := t173, elem := 0, fields := [] }),
  (174, { ty := t174, elem := 35, fields := [] }),
  (175, { ty := t175, elem := 0, fields := [] }),
  (176, { ty := t176, elem := 0, fields := [] }),
  (177, { ty := t177, elem := 0, fields := [] }),
  (178, { ty := t178, elem := 0, fields := [] }),
  (179, { ty := t179, elem := 0, fields := [(0, 44), (3, 26), (4, 26)] }),
  (180, { ty := t180, elem := 0, fields := [(0, 44), (3, 26), (4, 26)] }),
  (181, { ty := t181, elem := 0, fields := [] }),
  (182, { ty := t182, elem := 0, fields := [] }),
  (183, { ty := t183, elem := 0, fields := [] }),
  (184, { ty := t184, elem := 0, fields := [] }),
  (185, { ty := t185, elem := 0, fields := [] }),
  (186, { ty := t186, elem := 0, fields := [] }),
  (187, { ty := t187, elem := 0, fields := [] }),
  (188, { ty := t188, elem := 0, fields := [] }),
  (189, { ty := t189, elem := 0, fields := [] }),
  (190, { ty := t190, elem := 0, fields := [] }),
  (191, { ty := t191, elem := 0, fields := [] }),
  (192, { ty := t192, elem := 0, fields := [] }),
  (193, { ty := t193, elem := 0, fields := [] }),
  (194, { ty := t194, elem := 0, fields := [] }),
  (195, { ty := t195, elem := 0, fields := [] }),
  (196, { ty := t196, elem := 0, fields := [] }),
  (197, { ty := t197, elem := 0, fields := [] }),
  (198, { ty := t198, elem := 201, fields := [] }),
  (199, { ty := t199, elem := 5, fields := [] }),
  (200, { ty := t200, elem := 0, fields := [(0, 198), (1, 199)] }),
  (201, { ty := t201, elem := 0, fields := [(0, 198), (1, 199)] }),
  (203, { ty := t203, elem := 0, fields := [] }),
  (205, { ty := t205, elem := 0, fields := [] }),
  (206, { ty := t206, elem := 0, fields := [] }),
  (207, { ty := t207, elem := 0, fields := [] }),
  (208, { ty := t208, elem := 0, fields := [] }),
  (209, { ty := t209, elem := 0, fields := [] }),
  (210, { ty := t210, elem := 0, fields := [] }),
  (211, { ty := t211, elem := 0, fields := [] }),
  (212, { ty := t212, elem := 0, fields := [] }),
  (213, { ty := t213, elem := 0, fields := [] }),
  (215, { ty := t215, elem := 0, fields := [] }),
  (216, { ty := t216, elem := 0, fields := [] }),
  (217, { ty := t217, elem := 0, fields := [] }),
  (219, { ty := t219, elem := 0, fields := [] }),
  (220, { ty := t220, elem := 0, fields := [] }),
  (221, { ty := t221, elem := 0, fields := [] }),
  (222, { ty := t222, elem := 0, fields := [] }),
  (223, { ty := t223, elem := 0, fields := [] }),
  (224, { ty := t224, elem := 0, fields := [] }),
  (225, { ty := t225, elem := 4, fields := [] }),
  (226, { ty := t226, elem := 0, fields := [] }),
  (227, { ty := t227, elem := 0, fields := [(0, 225), (2, 226)] }),
  (228, { ty := t228, elem := 0, fields := [(0, 225), (2, 226)] }),
  (229, { ty := t229, elem := 0, fields := [(0, 163), (5, 3), (6, 3), (7, 3), (8, 4)] }),
  (230, { ty := t230, elem := 0, fields := [(0, 163), (5, 3), (6, 3), (7, 3), (8, 4)] }),
  (231, { ty := t231, elem := 0, fields := [] }),
  (233, { ty := t233, elem := 0, fields := [] }),
  (234, { ty := t234, elem := 0, fields := [] }),
  (235, { ty := t235, elem := 0, fields := [] }),
  (236, { ty := t236, elem := 0, fields := [] }),
  (237, { ty := t237, elem := 0, fields := [] }),
  (239, { ty := t239, elem := 0, fields := [] }),
  (240, { ty := t240, elem := 0, fields := [] }),
  (241, { ty := t241, elem := 0, fields := [] }),
  (242, { ty := t242, elem := 0, fields := [] }),
  (243, { ty := t243, elem := 0, fields := [] }),
  (244, { ty := t244, elem := 0, fields := [] }),
  (245, { ty := t245, elem := 0, fields := [] }),
  (246, { ty := t246, elem := 0, fields := [] }),
  (247, { ty := t247, elem := 0, fields := [] }),
  (248, { ty := t248, elem := 0, fields := [] }),
  (249, { ty := t249, elem := 0, fields := [] }),
  (250, { ty := t250, elem := 0, fields := [] }),
  (251, { ty := t251, elem := 0, fields := [] }),
  (252, { ty := t252, elem := 0, fields := [] }),
  (253, { ty := t253, elem := 3, fields := [] }),
  (254, { ty := t254, elem := 0, fields := [] }),
  (255, { ty := t255, elem := 0, fields := [] }),
  (256, { ty := t256, elem := 0, fields := [] }),
  (257, { ty := t257, elem := 0, fields := [] }),
  (258, { ty := t258, elem := 5, fields := [] }),
  (259, { ty := t259, elem := 0, fields := [] }),
  (260, { ty := t260, elem := 0, fields := [] }),
  (261, { ty := t261, elem := 41, fields := [] }),
  (262, { ty := t262, elem := 264, fields := [] }),
  (263, { ty := t263, elem := 0, fields := [(0, 67), (1, 4)] }),
  (264, { ty := t264, elem := 0, fields := [(0, 67), (1, 4)] }),
  (265, { ty := t265, elem := 3, fields := [] }),
  (267, { ty := t267, elem := 0, fields := [] }),
  (268, { ty := t268, elem := 0, fields := [] }),
  (269, { ty := t269, elem := 0, fields := [] }),
  (270, { ty := t270, elem := 0, fields := [] }),
  (273, { ty := t273, elem := 0, fields := [] }),
  (274, { ty := t274, elem := 0, fields := [] }),
  (275, { ty := t275, elem := 0, fields := [] }),
  (276, { ty := t276, elem := 0, fields := [] }),
  (277, { ty := t277, elem := 0, fields := [] }),
  (278, { ty := t278, elem := 0, fields := [] }),
  (279, { ty := t279, elem := 5, fields := [] }),
  (280, { ty := t280, elem := 0, fields := [] }),
  (281, { ty := t281, elem := 0, fields := [] }),
  (282, { ty := t282, elem := 0, fields := [] }),
  (284, { ty := t284, elem := 0, fields := [] }),
  (285, { ty := t285, elem := 0, fields := [] }),
  (287, { ty := t287, elem := 0, fields := [] }),
  (288, { ty := t288, elem := 0, fields := [] }),
  (289, { ty := t289, elem := 0, fields := [] }),
  (290, { ty := t290, elem := 280, fields := [] }),
  (291, { ty := t291, elem := 0, fields := [] }),
  (292, { ty := t292, elem := 5, fields := [] }),
  (293, { ty := t293, elem := 0, fields := [] }),
  (294, { ty := t294, elem := 0, fields := [] }),
  (295, { ty := t295, elem := 0, fields := [] }),
  (296, { ty := t296, elem := 0, fields := [] }),
  (298, { ty := t298, elem := 0, fields := [] }),
  (299, { ty := t299, elem := 313, fields := [] }),
  (300, { ty := t300, elem := 0, fields := [] }),
  (301, { ty := t301, elem := 0, fields := [] }),
  (302, { ty := t302, elem := 0, fields := [] }),
  (303, { ty := t303, elem := 5, fields := [] }),
  (304, { ty := t304, elem := 0, fields := [(0, 5), (1, 5)] }),
  (305, { ty := t305, elem := 0, fields := [(0, 5), (1, 5)] }),
  (306, { ty := t306, elem := 305, fields := [] }),
  (308, { ty := t308, elem := 0, fields := [] }),
  (310, { ty := t310, elem := 0, fields := [] }),
  (311, { ty := t311, elem := 0, fields := [] }),
  (312, { ty := t312, elem := 0, fields := [(0, 9), (1, 9), (2, 203)] }),
  (313, { ty := t313, elem := 0, fields := [(0, 9), (1, 9), (2, 203)] }),
  (314, { ty := t314, elem := 0, fields := [] }),
  (315, { ty := t315, elem := 5, fields := [] }),
  (316, { ty := t316, elem := 5, fields := [] }),
  (317, { ty := t317, elem := 0, fields := [] }),
  (318, { ty := t318, elem := 320, fields := [] }),
  (319, { ty := t319, elem := 0, fields := [(0, 9)] }),
  (320, { ty := t320, elem := 0, fields := [(0, 9)] }),
  (326, { ty := t326, elem := 0, fields := [] }),
  (327, { ty := t327, elem := 0, fields := [] }),
  (329, { ty := t329, elem := 0, fields := [] }),
  (330, { ty := t330, elem := 0, fields := [] })
]
end Go.Vx.B
