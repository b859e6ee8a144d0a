/- The table of types,by program (tygen.py). -/
import Derived.Test.YtimaoihjoojcdaaGreatDoorVA

set_option linter.all false
namespace Go.Vx.B
abbrev t2 : Ty := (.int .i64)
abbrev t3 : Ty := t2
abbrev t4 : Ty := .bool
abbrev t5 : Ty := (.int .u8)
abbrev t9 : Ty := .str
abbrev t21 : Ty := (.int .i32)
abbrev t22 : Ty := (.slice (.pair .str (.pair (.int .i64) (.pair (.int .i64) .unit))))
abbrev t23 : Ty := (.slice (.pair .str (.pair (.int .i64) (.pair (.int .i64) (.pair (.int .i64) (.pair (.int .i64) .unit))))))
abbrev t24 : Ty := (.pair (.slice (.pair .str (.pair (.int .i64) (.pair (.int .i64) .unit)))) (.pair (.slice (.pair .str (.pair (.int .i64) (.pair (.int .i64) (.pair (.int .i64) (.pair (.int .i64) .unit)))))) .unit))
abbrev t25 : Ty := t24
abbrev t28 : Ty := (.pair (.int .i64) (.pair .bool (.pair (.slice (.int .i64)) .unit)))
abbrev t29 : Ty := (.pair (.pair (.int .i64) (.pair .bool (.pair (.slice (.int .i64)) .unit))) (.pair (.int .i64) (.pair (.int .i64) .unit)))
abbrev t31 : Ty := (.func (.pair (.pair (.slice (.pair .str (.pair (.int .i64) (.pair (.int .i64) .unit)))) (.pair (.slice (.pair .str (.pair (.int .i64) (.pair (.int .i64) (.pair (.int .i64) (.pair (.int .i64) .unit)))))) .unit)) .unit) (.pair .bool .unit))
abbrev t32 : Ty := (.func (.pair (.slice (.pair (.int .i64) (.pair .bool (.pair (.slice (.int .i64)) .unit)))) .unit) (.pair .bool .unit))
abbrev t33 : Ty := (.slice (.pair (.int .i64) (.pair .bool (.pair (.slice (.int .i64)) .unit))))
abbrev t34 : Ty := (.func .unit (.pair .bool .unit))
abbrev t37 : Ty := (.func (.pair (.pair (.slice (.pair .str (.pair (.int .i64) (.pair (.int .i64) .unit)))) (.pair (.slice (.pair .str (.pair (.int .i64) (.pair (.int .i64) (.pair (.int .i64) (.pair (.int .i64) .unit)))))) .unit)) (.pair (.slice (.int .i64)) (.pair (.pair (.int .i64) (.pair .bool (.pair (.slice (.int .i64)) .unit))) (.pair (.int .i64) (.pair (.int .i64) .unit))))) (.pair (.int .i64) (.pair (.int .i64) .unit)))
abbrev t40 : Ty := t24
abbrev t45 : Ty := (.func (.pair (.pair (.int .i64) (.pair .bool (.pair (.slice (.int .i64)) .unit))) .unit) (.pair (.pair (.int .i64) (.pair .bool (.pair (.slice (.int .i64)) .unit))) .unit))
abbrev t46 : Ty := (.func (.pair (.pair (.slice (.pair .str (.pair (.int .i64) (.pair (.int .i64) .unit)))) (.pair (.slice (.pair .str (.pair (.int .i64) (.pair (.int .i64) (.pair (.int .i64) (.pair (.int .i64) .unit)))))) .unit)) (.pair (.slice (.int .i64)) (.pair (.pair (.int .i64) (.pair .bool (.pair (.slice (.int .i64)) .unit))) (.pair (.int .i64) (.pair (.int .i64) .unit))))) (.pair (.int .i64) .unit))
abbrev t49 : Ty := (.func (.pair (.pair (.slice (.pair .str (.pair (.int .i64) (.pair (.int .i64) .unit)))) (.pair (.slice (.pair .str (.pair (.int .i64) (.pair (.int .i64) (.pair (.int .i64) (.pair (.int .i64) .unit)))))) .unit)) (.pair (.slice (.int .i64)) (.pair (.pair (.pair (.int .i64) (.pair .bool (.pair (.slice (.int .i64)) .unit))) (.pair (.int .i64) (.pair (.int .i64) .unit))) .unit))) (.pair .bool .unit))
abbrev t51 : Ty := (.pair (.int .u8) (.pair (.int .u8) (.pair (.int .u8) (.pair (.int .u8) .unit))))
abbrev t52 : Ty := (.func (.pair (.pair (.slice (.pair .str (.pair (.int .i64) (.pair (.int .i64) .unit)))) (.pair (.slice (.pair .str (.pair (.int .i64) (.pair (.int .i64) (.pair (.int .i64) (.pair (.int .i64) .unit)))))) .unit)) .unit) (.pair (.int .i64) .unit))
abbrev t53 : Ty := (.func (.pair (.pair (.slice (.pair .str (.pair (.int .i64) (.pair (.int .i64) .unit)))) (.pair (.slice (.pair .str (.pair (.int .i64) (.pair (.int .i64) (.pair (.int .i64) (.pair (.int .i64) .unit)))))) .unit)) (.pair (.slice (.int .i64)) (.pair (.slice (.pair (.int .i64) (.pair .bool (.pair (.slice (.int .i64)) .unit)))) .unit))) (.pair (.int .i64) .unit))
abbrev t55 : Ty := (.func (.pair (.slice (.pair (.int .i64) (.pair .bool (.pair (.slice (.int .i64)) .unit)))) .unit) (.pair (.slice (.pair (.int .i64) (.pair .bool (.pair (.slice (.int .i64)) .unit)))) .unit))
abbrev t56 : Ty := (.slice (.slice (.int .i64)))
abbrev t59 : Ty := (.func (.pair (.pair (.slice (.pair .str (.pair (.int .i64) (.pair (.int .i64) .unit)))) (.pair (.slice (.pair .str (.pair (.int .i64) (.pair (.int .i64) (.pair (.int .i64) (.pair (.int .i64) .unit)))))) .unit)) (.pair (.slice (.int .i64)) .unit)) (.pair (.int .i64) .unit))
abbrev t61 : Ty := (.pair .str (.pair (.int .i64) (.pair (.int .i64) .unit)))
abbrev t62 : Ty := (.func (.pair (.pair (.slice (.pair .str (.pair (.int .i64) (.pair (.int .i64) .unit)))) (.pair (.slice (.pair .str (.pair (.int .i64) (.pair (.int .i64) (.pair (.int .i64) (.pair (.int .i64) .unit)))))) .unit)) (.pair (.slice (.pair (.int .i64) (.pair .bool (.pair (.slice (.int .i64)) .unit)))) (.pair (.pair (.int .u8) (.pair (.int .u8) (.pair (.int .u8) (.pair (.int .u8) .unit)))) .unit))) (.pair .bool .unit))
abbrev t64 : Ty := (.func (.pair (.pair (.slice (.pair .str (.pair (.int .i64) (.pair (.int .i64) .unit)))) (.pair (.slice (.pair .str (.pair (.int .i64) (.pair (.int .i64) (.pair (.int .i64) (.pair (.int .i64) .unit)))))) .unit)) (.pair (.slice (.int .i64)) .unit)) (.pair (.slice (.int .i64)) (.pair (.int .i64) .unit)))
abbrev t65 : Ty := (.func (.pair (.pair (.slice (.pair .str (.pair (.int .i64) (.pair (.int .i64) .unit)))) (.pair (.slice (.pair .str (.pair (.int .i64) (.pair (.int .i64) (.pair (.int .i64) (.pair (.int .i64) .unit)))))) .unit)) (.pair (.slice (.int .i64)) .unit)) (.pair (.slice (.int .i64)) .unit))
abbrev t69 : Ty := t52
abbrev t70 : Ty := t59
abbrev t71 : Ty := (.func (.pair (.slice (.int .i64)) (.pair (.slice (.int .i64)) .unit)) (.pair .bool .unit))
abbrev t72 : Ty := (.func (.pair (.pair (.slice (.pair .str (.pair (.int .i64) (.pair (.int .i64) .unit)))) (.pair (.slice (.pair .str (.pair (.int .i64) (.pair (.int .i64) (.pair (.int .i64) (.pair (.int .i64) .unit)))))) .unit)) (.pair (.slice (.int .i64)) .unit)) (.pair .bool .unit))
abbrev t73 : Ty := (.func (.pair (.pair (.slice (.pair .str (.pair (.int .i64) (.pair (.int .i64) .unit)))) (.pair (.slice (.pair .str (.pair (.int .i64) (.pair (.int .i64) (.pair (.int .i64) (.pair (.int .i64) .unit)))))) .unit)) (.pair (.slice (.int .i64)) (.pair (.pair (.int .i64) (.pair .bool (.pair (.slice (.int .i64)) .unit))) .unit))) (.pair (.slice (.int .i64)) (.pair (.int .i64) .unit)))
abbrev t75 : Ty := (.func (.pair (.pair (.slice (.pair .str (.pair (.int .i64) (.pair (.int .i64) .unit)))) (.pair (.slice (.pair .str (.pair (.int .i64) (.pair (.int .i64) (.pair (.int .i64) (.pair (.int .i64) .unit)))))) .unit)) (.pair (.slice (.int .i64)) (.pair (.pair (.int .i64) (.pair .bool (.pair (.slice (.int .i64)) .unit))) .unit))) (.pair (.slice (.int .i64)) (.pair (.slice (.int .i64)) (.pair (.int .i64) .unit))))
abbrev t76 : Ty := (.func (.pair (.pair (.slice (.pair .str (.pair (.int .i64) (.pair (.int .i64) .unit)))) (.pair (.slice (.pair .str (.pair (.int .i64) (.pair (.int .i64) (.pair (.int .i64) (.pair (.int .i64) .unit)))))) .unit)) (.pair (.slice (.int .i64)) (.pair (.pair (.int .i64) (.pair .bool (.pair (.slice (.int .i64)) .unit))) .unit))) (.pair .bool .unit))
abbrev t77 : Ty := (.pair (.int .i64) (.pair (.int .i64) (.pair (.int .i64) .unit)))
abbrev t78 : Ty := t77
abbrev t81 : Ty := (.func (.pair (.slice (.int .i64)) .unit) (.pair (.int .i64) .unit))
abbrev t82 : Ty := (.pair .str (.pair (.int .i64) (.pair (.int .i64) (.pair (.int .i64) (.pair (.int .i64) .unit)))))
abbrev t84 : Ty := (.func (.pair (.slice (.slice (.int .i64))) (.pair (.slice (.slice (.int .i64))) .unit)) (.pair .bool .unit))
abbrev t85 : Ty := (.func (.pair (.pair (.slice (.pair .str (.pair (.int .i64) (.pair (.int .i64) .unit)))) (.pair (.slice (.pair .str (.pair (.int .i64) (.pair (.int .i64) (.pair (.int .i64) (.pair (.int .i64) .unit)))))) .unit)) (.pair (.slice (.int .i64)) (.pair (.slice (.pair (.int .i64) (.pair .bool (.pair (.slice (.int .i64)) .unit)))) .unit))) (.pair .bool .unit))
abbrev t87 : Ty := (.func (.pair (.pair (.slice (.pair .str (.pair (.int .i64) (.pair (.int .i64) .unit)))) (.pair (.slice (.pair .str (.pair (.int .i64) (.pair (.int .i64) (.pair (.int .i64) (.pair (.int .i64) .unit)))))) .unit)) (.pair (.slice (.int .i64)) (.pair (.slice (.pair (.int .i64) (.pair .bool (.pair (.slice (.int .i64)) .unit)))) .unit))) (.pair (.int .i64) (.pair (.int .i64) (.pair (.int .i64) .unit))))
abbrev t90 : Ty := (.func (.pair (.pair (.slice (.pair .str (.pair (.int .i64) (.pair (.int .i64) .unit)))) (.pair (.slice (.pair .str (.pair (.int .i64) (.pair (.int .i64) (.pair (.int .i64) (.pair (.int .i64) .unit)))))) .unit)) (.pair (.slice (.int .i64)) (.pair (.slice (.pair (.int .i64) (.pair .bool (.pair (.slice (.int .i64)) .unit)))) .unit))) (.pair (.slice (.slice (.int .i64))) (.pair (.int .i64) .unit)))
abbrev t92 : Ty := (.func (.pair (.pair (.slice (.pair .str (.pair (.int .i64) (.pair (.int .i64) .unit)))) (.pair (.slice (.pair .str (.pair (.int .i64) (.pair (.int .i64) (.pair (.int .i64) (.pair (.int .i64) .unit)))))) .unit)) (.pair (.slice (.int .i64)) (.pair (.slice (.pair (.int .i64) (.pair .bool (.pair (.slice (.int .i64)) .unit)))) .unit))) (.pair (.pair (.int .i64) (.pair (.int .i64) (.pair (.int .i64) .unit))) (.pair (.int .i64) .unit)))
abbrev t95 : Ty := (.pair (.int .i64) (.pair (.int .i64) .unit))
abbrev t96 : Ty := t95
abbrev t97 : Ty := (.slice (.pair (.int .i64) (.pair (.int .i64) .unit)))
abbrev t98 : Ty := (.pair (.pair (.int .i64) (.pair (.int .i64) .unit)) (.pair .bool (.pair (.slice (.pair (.int .i64) (.pair (.int .i64) .unit))) .unit)))
abbrev t99 : Ty := t98
abbrev t100 : Ty := (.func (.pair (.slice (.pair (.pair (.int .i64) (.pair (.int .i64) .unit)) (.pair .bool (.pair (.slice (.pair (.int .i64) (.pair (.int .i64) .unit))) .unit)))) .unit) (.pair .bool .unit))
abbrev t101 : Ty := (.slice (.pair (.pair (.int .i64) (.pair (.int .i64) .unit)) (.pair .bool (.pair (.slice (.pair (.int .i64) (.pair (.int .i64) .unit))) .unit))))
abbrev t104 : Ty := t98
abbrev t105 : Ty := (.func (.pair (.pair (.pair (.int .i64) (.pair (.int .i64) .unit)) (.pair .bool (.pair (.slice (.pair (.int .i64) (.pair (.int .i64) .unit))) .unit))) .unit) (.pair (.pair (.pair (.int .i64) (.pair (.int .i64) .unit)) (.pair .bool (.pair (.slice (.pair (.int .i64) (.pair (.int .i64) .unit))) .unit))) .unit))
abbrev t108 : Ty := t101
abbrev t109 : Ty := (.func (.pair (.slice (.pair (.pair (.int .i64) (.pair (.int .i64) .unit)) (.pair .bool (.pair (.slice (.pair (.int .i64) (.pair (.int .i64) .unit))) .unit)))) .unit) (.pair (.slice (.pair (.pair (.int .i64) (.pair (.int .i64) .unit)) (.pair .bool (.pair (.slice (.pair (.int .i64) (.pair (.int .i64) .unit))) .unit)))) .unit))
abbrev t111 : Ty := (.func (.pair (.pair (.slice (.pair .str (.pair (.int .i64) (.pair (.int .i64) .unit)))) (.pair (.slice (.pair .str (.pair (.int .i64) (.pair (.int .i64) (.pair (.int .i64) (.pair (.int .i64) .unit)))))) .unit)) (.pair (.pair (.int .i64) (.pair .bool (.pair (.slice (.int .i64)) .unit))) .unit)) (.pair (.int .i64) .unit))
abbrev t116 : Ty := (.func (.pair (.pair (.slice (.pair .str (.pair (.int .i64) (.pair (.int .i64) .unit)))) (.pair (.slice (.pair .str (.pair (.int .i64) (.pair (.int .i64) (.pair (.int .i64) (.pair (.int .i64) .unit)))))) .unit)) (.pair (.pair (.pair (.int .i64) (.pair (.int .i64) .unit)) (.pair .bool (.pair (.slice (.pair (.int .i64) (.pair (.int .i64) .unit))) .unit))) .unit)) (.pair (.int .i64) .unit))
abbrev t119 : Ty := (.slice (.slice (.pair (.int .i64) (.pair (.int .i64) .unit))))
abbrev t123 : Ty := (.func (.pair (.pair (.slice (.pair .str (.pair (.int .i64) (.pair (.int .i64) .unit)))) (.pair (.slice (.pair .str (.pair (.int .i64) (.pair (.int .i64) (.pair (.int .i64) (.pair (.int .i64) .unit)))))) .unit)) (.pair (.slice (.pair (.int .i64) (.pair (.int .i64) .unit))) (.pair (.slice (.pair (.pair (.int .i64) (.pair (.int .i64) .unit)) (.pair .bool (.pair (.slice (.pair (.int .i64) (.pair (.int .i64) .unit))) .unit)))) .unit))) (.pair .bool (.pair (.int .i64) .unit)))
abbrev t127 : Ty := (.func (.pair (.pair (.slice (.pair .str (.pair (.int .i64) (.pair (.int .i64) .unit)))) (.pair (.slice (.pair .str (.pair (.int .i64) (.pair (.int .i64) (.pair (.int .i64) (.pair (.int .i64) .unit)))))) .unit)) (.pair (.slice (.pair (.int .i64) (.pair (.int .i64) .unit))) (.pair (.slice (.pair (.pair (.int .i64) (.pair (.int .i64) .unit)) (.pair .bool (.pair (.slice (.pair (.int .i64) (.pair (.int .i64) .unit))) .unit)))) .unit))) (.pair (.slice (.slice (.pair (.int .i64) (.pair (.int .i64) .unit)))) (.pair (.int .i64) .unit)))
abbrev t131 : Ty := (.func (.pair (.slice (.slice (.pair (.int .i64) (.pair (.int .i64) .unit)))) (.pair (.slice (.slice (.pair (.int .i64) (.pair (.int .i64) .unit)))) .unit)) (.pair .bool .unit))
abbrev t132 : Ty := (.func (.pair (.pair (.slice (.pair .str (.pair (.int .i64) (.pair (.int .i64) .unit)))) (.pair (.slice (.pair .str (.pair (.int .i64) (.pair (.int .i64) (.pair (.int .i64) (.pair (.int .i64) .unit)))))) .unit)) (.pair (.slice (.pair (.int .i64) (.pair (.int .i64) .unit))) (.pair (.slice (.pair (.pair (.int .i64) (.pair (.int .i64) .unit)) (.pair .bool (.pair (.slice (.pair (.int .i64) (.pair (.int .i64) .unit))) .unit)))) .unit))) (.pair .bool .unit))
abbrev t134 : Ty := (.func (.pair (.pair (.slice (.pair .str (.pair (.int .i64) (.pair (.int .i64) .unit)))) (.pair (.slice (.pair .str (.pair (.int .i64) (.pair (.int .i64) (.pair (.int .i64) (.pair (.int .i64) .unit)))))) .unit)) (.pair (.slice (.pair (.pair (.int .i64) (.pair (.int .i64) .unit)) (.pair .bool (.pair (.slice (.pair (.int .i64) (.pair (.int .i64) .unit))) .unit)))) .unit)) (.pair (.int .i64) .unit))
abbrev t135 : Ty := (.func (.pair (.pair (.slice (.pair .str (.pair (.int .i64) (.pair (.int .i64) .unit)))) (.pair (.slice (.pair .str (.pair (.int .i64) (.pair (.int .i64) (.pair (.int .i64) (.pair (.int .i64) .unit)))))) .unit)) (.pair (.slice (.pair (.pair (.int .i64) (.pair (.int .i64) .unit)) (.pair .bool (.pair (.slice (.pair (.int .i64) (.pair (.int .i64) .unit))) .unit)))) (.pair (.arr 2 (.int .u8)) .unit))) (.pair .bool .unit))
abbrev t138 : Ty := (.func (.pair (.pair (.int .i64) (.pair (.int .i64) .unit)) (.pair (.int .u8) .unit)) (.pair (.int .i64) .unit))
abbrev t139 : Ty := t55
abbrev t140 : Ty := (.func (.pair (.pair (.slice (.pair .str (.pair (.int .i64) (.pair (.int .i64) .unit)))) (.pair (.slice (.pair .str (.pair (.int .i64) (.pair (.int .i64) (.pair (.int .i64) (.pair (.int .i64) .unit)))))) .unit)) (.pair (.slice (.pair (.pair (.int .i64) (.pair (.int .i64) .unit)) (.pair .bool (.pair (.slice (.pair (.int .i64) (.pair (.int .i64) .unit))) .unit)))) (.pair (.arr 6 (.int .u8)) .unit))) (.pair .bool .unit))
abbrev t145 : Ty := (.func (.pair (.pair (.slice (.pair .str (.pair (.int .i64) (.pair (.int .i64) .unit)))) (.pair (.slice (.pair .str (.pair (.int .i64) (.pair (.int .i64) (.pair (.int .i64) (.pair (.int .i64) .unit)))))) .unit)) .unit) (.pair .str .unit))
abbrev t147 : Ty := (.func (.pair .str .unit) (.pair (.pair (.slice (.pair .str (.pair (.int .i64) (.pair (.int .i64) .unit)))) (.pair (.slice (.pair .str (.pair (.int .i64) (.pair (.int .i64) (.pair (.int .i64) (.pair (.int .i64) .unit)))))) .unit)) (.pair (.int .i64) (.pair (.int .i64) .unit))))
abbrev t148 : Ty := (.func (.pair (.pair (.slice (.pair .str (.pair (.int .i64) (.pair (.int .i64) .unit)))) (.pair (.slice (.pair .str (.pair (.int .i64) (.pair (.int .i64) (.pair (.int .i64) (.pair (.int .i64) .unit)))))) .unit)) (.pair (.pair (.slice (.pair .str (.pair (.int .i64) (.pair (.int .i64) .unit)))) (.pair (.slice (.pair .str (.pair (.int .i64) (.pair (.int .i64) (.pair (.int .i64) (.pair (.int .i64) .unit)))))) .unit)) .unit)) (.pair .bool .unit))
abbrev t152 : Ty := (.func (.pair (.slice (.int .i64)) (.pair (.int .i64) .unit)) (.pair .bool .unit))
abbrev t155 : Ty := t81
abbrev t158 : Ty := (.func (.pair (.int .i64) (.pair (.int .i64) (.pair (.int .i64) .unit))) (.pair (.int .i64) .unit))
abbrev t160 : Ty := (.func (.pair (.int .i64) .unit) (.pair (.int .i64) .unit))
abbrev t163 : Ty := t82
abbrev t164 : Ty := t158
abbrev t166 : Ty := (.func (.pair (.pair .str (.pair (.int .i64) (.pair (.int .i64) (.pair (.int .i64) (.pair (.int .i64) .unit))))) (.pair (.int .i64) .unit)) (.pair (.int .i64) .unit))
abbrev t167 : Ty := (.slice (.pair (.pair (.int .i64) (.pair .bool (.pair (.slice (.int .i64)) .unit))) (.pair (.slice (.int .i64)) (.pair (.nS (.int .i64)) .unit))))
abbrev t169 : Ty := (.func (.pair (.pair (.slice (.pair .str (.pair (.int .i64) (.pair (.int .i64) .unit)))) (.pair (.slice (.pair .str (.pair (.int .i64) (.pair (.int .i64) (.pair (.int .i64) (.pair (.int .i64) .unit)))))) .unit)) (.pair (.slice (.int .i64)) (.pair (.slice (.pair (.int .i64) (.pair .bool (.pair (.slice (.int .i64)) .unit)))) .unit))) (.pair (.slice (.pair (.pair (.int .i64) (.pair .bool (.pair (.slice (.int .i64)) .unit))) (.pair (.slice (.int .i64)) (.pair (.nS (.int .i64)) .unit)))) (.pair (.int .i64) .unit)))
abbrev t170 : Ty := (.func (.pair (.slice (.pair (.pair (.int .i64) (.pair .bool (.pair (.slice (.int .i64)) .unit))) (.pair (.slice (.int .i64)) (.pair (.nS (.int .i64)) .unit)))) .unit) (.pair (.slice (.slice (.int .i64))) .unit))
abbrev t171 : Ty := (.arr 5 .str)
abbrev t173 : Ty := (.func (.pair .str .unit) (.pair .bool .unit))
abbrev t174 : Ty := (.slice (.int .i64))
abbrev t175 : Ty := (.func (.pair (.slice (.pair .str (.pair (.int .i64) (.pair (.int .i64) (.pair (.int .i64) (.pair (.int .i64) .unit)))))) (.pair (.func (.pair (.pair .str (.pair (.int .i64) (.pair (.int .i64) (.pair (.int .i64) (.pair (.int .i64) .unit))))) .unit) (.pair (.int .i64) .unit)) .unit)) (.pair (.slice (.int .i64)) .unit))
abbrev t176 : Ty := t160
abbrev t179 : Ty := (.pair (.pair (.int .i64) (.pair .bool (.pair (.slice (.int .i64)) .unit))) (.pair (.slice (.int .i64)) (.pair (.nS (.int .i64)) .unit)))
abbrev t180 : Ty := t179
abbrev t182 : Ty := (.func (.pair (.pair (.slice (.pair .str (.pair (.int .i64) (.pair (.int .i64) .unit)))) (.pair (.slice (.pair .str (.pair (.int .i64) (.pair (.int .i64) (.pair (.int .i64) (.pair (.int .i64) .unit)))))) .unit)) (.pair (.slice (.int .i64)) (.pair (.pair (.int .i64) (.pair .bool (.pair (.slice (.int .i64)) .unit))) (.pair (.pair .str (.pair (.int .i64) (.pair (.int .i64) (.pair (.int .i64) (.pair (.int .i64) .unit))))) .unit)))) (.pair (.int .i64) .unit))
abbrev t183 : Ty := (.func (.pair (.pair (.int .i64) (.pair (.int .i64) .unit)) (.pair (.int .i64) .unit)) (.pair .bool .unit))
abbrev t184 : Ty := (.func (.pair (.slice (.pair (.pair (.int .i64) (.pair (.int .i64) .unit)) (.pair .bool (.pair (.slice (.pair (.int .i64) (.pair (.int .i64) .unit))) .unit)))) .unit) (.pair (.int .i64) .unit))
abbrev t185 : Ty := (.func (.pair (.slice (.pair (.pair (.int .i64) (.pair (.int .i64) .unit)) (.pair .bool (.pair (.slice (.pair (.int .i64) (.pair (.int .i64) .unit))) .unit)))) (.pair (.func (.pair (.pair (.pair (.int .i64) (.pair (.int .i64) .unit)) (.pair .bool (.pair (.slice (.pair (.int .i64) (.pair (.int .i64) .unit))) .unit))) .unit) (.pair (.pair (.int .i64) (.pair .bool (.pair (.slice (.int .i64)) .unit))) .unit)) .unit)) (.pair (.slice (.pair (.int .i64) (.pair .bool (.pair (.slice (.int .i64)) .unit)))) .unit))
abbrev t186 : Ty := (.func (.pair (.pair (.pair (.int .i64) (.pair (.int .i64) .unit)) (.pair .bool (.pair (.slice (.pair (.int .i64) (.pair (.int .i64) .unit))) .unit))) .unit) (.pair (.pair (.int .i64) (.pair .bool (.pair (.slice (.int .i64)) .unit))) .unit))
abbrev t187 : Ty := (.func .unit (.pair (.pair (.int .i64) (.pair .bool (.pair (.slice (.int .i64)) .unit))) .unit))
abbrev t189 : Ty := (.func (.pair (.slice (.pair (.int .i64) (.pair (.int .i64) .unit))) (.pair .bool .unit)) (.pair (.slice (.int .i64)) .unit))
abbrev t192 : Ty := (.func (.pair (.pair (.slice (.pair .str (.pair (.int .i64) (.pair (.int .i64) .unit)))) (.pair (.slice (.pair .str (.pair (.int .i64) (.pair (.int .i64) (.pair (.int .i64) (.pair (.int .i64) .unit)))))) .unit)) (.pair (.slice (.pair (.int .i64) (.pair (.int .i64) .unit))) (.pair (.slice (.pair (.pair (.int .i64) (.pair (.int .i64) .unit)) (.pair .bool (.pair (.slice (.pair (.int .i64) (.pair (.int .i64) .unit))) .unit)))) .unit))) (.pair (.int .i64) .unit))
abbrev t194 : Ty := (.func (.pair (.slice (.pair (.int .i64) (.pair (.int .i64) .unit))) (.pair (.int .i64) .unit)) (.pair (.slice (.int .i64)) .unit))
abbrev t197 : Ty := (.func (.pair (.slice (.pair (.pair (.int .i64) (.pair (.int .i64) .unit)) (.pair .bool (.pair (.slice (.pair (.int .i64) (.pair (.int .i64) .unit))) .unit)))) (.pair (.int .i64) .unit)) (.pair (.slice (.pair (.pair (.int .i64) (.pair (.int .i64) .unit)) (.pair .bool (.pair (.slice (.pair (.int .i64) (.pair (.int .i64) .unit))) .unit)))) .unit))
abbrev t198 : Ty := (.ref .unit)
abbrev t199 : Ty := (.slice (.int .u8))
abbrev t203 : Ty := .err
abbrev t206 : Ty := (.func (.pair (.slice .str) (.pair .str .unit)) (.pair .str .unit))
abbrev t207 : Ty := (.func (.pair (.slice (.int .i64)) (.pair (.func (.pair (.int .i64) .unit) (.pair .str .unit)) .unit)) (.pair (.slice .str) .unit))
abbrev t208 : Ty := (.func (.pair (.int .i64) .unit) (.pair .str .unit))
abbrev t212 : Ty := (.func (.pair (.func (.pair .str .unit) (.pair .bool .unit)) .unit) .unit)
abbrev t213 : Ty := (.func (.pair .str .unit) (.pair (.func (.pair (.func (.pair .str .unit) (.pair .bool .unit)) .unit) .unit) .unit))
abbrev t215 : Ty := (.func (.pair .str (.pair .str .unit)) (.pair .str (.pair .bool .unit)))
abbrev t219 : Ty := (.func (.pair (.slice .str) .unit) (.pair (.slice (.int .i64)) (.pair .bool .unit)))
abbrev t221 : Ty := (.func (.pair (.int .i64) (.pair (.int .i64) .unit)) .unit)
abbrev t222 : Ty := (.map .str (.pair (.arr 2 .bool) (.pair (.func (.pair (.pair (.pair .str (.pair (.int .i64) (.pair (.int .i64) (.pair (.int .i64) (.pair (.int .i64) .unit))))) (.pair (.int .i64) (.pair (.int .i64) (.pair (.int .i64) (.pair .bool .unit))))) .unit) (.pair (.int .i64) .unit)) .unit)))
abbrev t223 : Ty := (.func .unit (.pair (.map .str (.pair (.arr 2 .bool) (.pair (.func (.pair (.pair (.pair .str (.pair (.int .i64) (.pair (.int .i64) (.pair (.int .i64) (.pair (.int .i64) .unit))))) (.pair (.int .i64) (.pair (.int .i64) (.pair (.int .i64) (.pair .bool .unit))))) .unit) (.pair (.int .i64) .unit)) .unit))) .unit))
abbrev t224 : Ty := (.func .unit (.pair (.int .i64) .unit))
abbrev t227 : Ty := (.pair (.arr 2 .bool) (.pair (.func (.pair (.pair (.pair .str (.pair (.int .i64) (.pair (.int .i64) (.pair (.int .i64) (.pair (.int .i64) .unit))))) (.pair (.int .i64) (.pair (.int .i64) (.pair (.int .i64) (.pair .bool .unit))))) .unit) (.pair (.int .i64) .unit)) .unit))
abbrev t228 : Ty := t227
abbrev t229 : Ty := (.pair (.pair .str (.pair (.int .i64) (.pair (.int .i64) (.pair (.int .i64) (.pair (.int .i64) .unit))))) (.pair (.int .i64) (.pair (.int .i64) (.pair (.int .i64) (.pair .bool .unit)))))
abbrev t233 : Ty := (.func (.pair .str .unit) (.pair .bool (.pair .bool .unit)))
abbrev t234 : Ty := (.func (.pair (.int .i64) (.pair (.int .i64) (.pair .bool .unit))) (.pair .bool .unit))
abbrev t241 : Ty := (.func (.pair (.slice (.pair (.pair (.int .i64) (.pair (.int .i64) .unit)) (.pair .bool (.pair (.slice (.pair (.int .i64) (.pair (.int .i64) .unit))) .unit)))) (.pair (.func (.pair (.pair (.pair (.int .i64) (.pair (.int .i64) .unit)) (.pair .bool (.pair (.slice (.pair (.int .i64) (.pair (.int .i64) .unit))) .unit))) .unit) (.pair (.int .i64) .unit)) .unit)) (.pair (.slice (.int .i64)) .unit))
abbrev t243 : Ty := (.func (.pair (.pair (.int .i64) (.pair (.int .i64) .unit)) (.pair (.int .i64) (.pair (.int .i64) .unit))) (.pair (.int .i64) .unit))
abbrev t244 : Ty := (.func (.pair (.pair (.slice (.pair .str (.pair (.int .i64) (.pair (.int .i64) .unit)))) (.pair (.slice (.pair .str (.pair (.int .i64) (.pair (.int .i64) (.pair (.int .i64) (.pair (.int .i64) .unit)))))) .unit)) (.pair (.slice (.pair (.int .i64) (.pair (.int .i64) .unit))) (.pair (.int .i64) .unit))) (.pair (.int .i64) .unit))
abbrev t245 : Ty := (.func (.pair (.pair (.int .i64) (.pair (.int .i64) .unit)) (.pair (.func (.pair (.int .i64) .unit) (.pair (.int .i64) .unit)) .unit)) (.pair (.int .i64) .unit))
abbrev t249 : Ty := (.func (.pair (.func (.pair (.pair (.pair (.int .i64) (.pair .bool (.pair (.slice (.int .i64)) .unit))) (.pair (.slice (.int .i64)) (.pair (.nS (.int .i64)) .unit))) .unit) (.pair .bool .unit)) .unit) .unit)
abbrev t251 : Ty := (.func (.pair (.slice (.int .i64)) (.pair (.slice (.pair (.int .i64) (.pair .bool (.pair (.slice (.int .i64)) .unit)))) .unit)) (.pair (.func (.pair (.func (.pair (.pair (.pair (.int .i64) (.pair .bool (.pair (.slice (.int .i64)) .unit))) (.pair (.slice (.int .i64)) (.pair (.nS (.int .i64)) .unit))) .unit) (.pair .bool .unit)) .unit) .unit) .unit))
abbrev t252 : Ty := (.func (.pair (.slice (.pair (.int .i64) (.pair (.int .i64) .unit))) (.pair (.func (.pair (.pair (.int .i64) (.pair (.int .i64) .unit)) .unit) (.pair (.int .i64) .unit)) .unit)) (.pair (.slice (.int .i64)) .unit))
abbrev t253 : Ty := (.arr 2 (.int .i64))
abbrev t254 : Ty := (.func (.pair (.pair (.int .i64) (.pair (.int .i64) .unit)) .unit) (.pair (.arr 2 (.int .i64)) .unit))
abbrev t255 : Ty := (.func (.pair (.pair (.int .i64) (.pair (.int .i64) .unit)) .unit) (.pair (.int .i64) .unit))
abbrev t257 : Ty := (.func (.pair (.int .i64) .unit) .unit)
abbrev t258 : Ty := (.ref (.int .u8))
abbrev t260 : Ty := (.func (.pair .str (.pair .str (.pair (.int .i64) (.pair (.int .i64) .unit)))) (.pair (.slice .str) .unit))
abbrev t261 : Ty := (.ref (.pair (.slice (.pair .str (.pair (.int .i64) (.pair (.int .i64) .unit)))) (.pair (.slice (.pair .str (.pair (.int .i64) (.pair (.int .i64) (.pair (.int .i64) (.pair (.int .i64) .unit)))))) .unit)))
def T : List (TypeId × TyI) := [
  (2,⟨t2,0,[]⟩),
  (3,⟨t3,0,[]⟩),
  (4,⟨t4,0,[]⟩),
  (5,⟨t5,0,[]⟩),
  (9,⟨t9,0,[]⟩),
  (21,⟨t21,0,[]⟩),
  (22,⟨t22,61,[]⟩),
  (23,⟨t23,83,[]⟩),
  (24,⟨t24,0,[(0,22),(1,23)]⟩),
  (25,⟨t25,0,[(0,22),(1,23)]⟩),
  (28,⟨t28,0,[(0,3),(1,4),(2,26)]⟩),
  (29,⟨t29,0,[(0,28),(3,3),(4,3)]⟩),
  (31,⟨t31,0,[]⟩),
  (32,⟨t32,0,[]⟩),
  (33,⟨t33,28,[]⟩),
  (34,⟨t34,0,[]⟩),
  (37,⟨t37,0,[]⟩),
  (40,⟨t40,0,[(0,38),(1,39)]⟩),
  (45,⟨t45,0,[]⟩),
  (46,⟨t46,0,[]⟩),
  (49,⟨t49,0,[]⟩),
  (51,⟨t51,0,[(0,5),(1,5),(2,5),(3,5)]⟩),
  (52,⟨t52,0,[]⟩),
  (53,⟨t53,0,[]⟩),
  (55,⟨t55,0,[]⟩),
  (56,⟨t56,26,[]⟩),
  (59,⟨t59,0,[]⟩),
  (61,⟨t61,0,[(0,9),(1,3),(2,3)]⟩),
  (62,⟨t62,0,[]⟩),
  (64,⟨t64,0,[]⟩),
  (65,⟨t65,0,[]⟩),
  (69,⟨t69,0,[]⟩),
  (70,⟨t70,0,[]⟩),
  (71,⟨t71,0,[]⟩),
  (72,⟨t72,0,[]⟩),
  (73,⟨t73,0,[]⟩),
  (75,⟨t75,0,[]⟩),
  (76,⟨t76,0,[]⟩),
  (77,⟨t77,0,[(0,3),(1,3),(2,3)]⟩),
  (78,⟨t78,0,[(0,3),(1,3),(2,3)]⟩),
  (81,⟨t81,0,[]⟩),
  (82,⟨t82,0,[(0,9),(1,3),(2,3),(3,3),(4,3)]⟩),
  (84,⟨t84,0,[]⟩),
  (85,⟨t85,0,[]⟩),
  (87,⟨t87,0,[]⟩),
  (90,⟨t90,0,[]⟩),
  (92,⟨t92,0,[]⟩),
  (95,⟨t95,0,[(0,3),(1,3)]⟩),
  (96,⟨t96,0,[(0,3),(1,3)]⟩),
  (97,⟨t97,96,[]⟩),
  (98,⟨t98,0,[(0,96),(2,4),(3,97)]⟩),
  (99,⟨t99,0,[(0,96),(2,4),(3,97)]⟩),
  (100,⟨t100,0,[]⟩),
  (101,⟨t101,99,[]⟩),
  (104,⟨t104,0,[(0,96),(2,4),(3,97)]⟩),
  (105,⟨t105,0,[]⟩),
  (108,⟨t108,104,[]⟩),
  (109,⟨t109,0,[]⟩),
  (111,⟨t111,0,[]⟩),
  (116,⟨t116,0,[]⟩),
  (119,⟨t119,97,[]⟩),
  (123,⟨t123,0,[]⟩),
  (127,⟨t127,0,[]⟩),
  (131,⟨t131,0,[]⟩),
  (132,⟨t132,0,[]⟩),
  (134,⟨t134,0,[]⟩),
  (135,⟨t135,0,[]⟩),
  (138,⟨t138,0,[]⟩),
  (139,⟨t139,0,[]⟩),
  (140,⟨t140,0,[]⟩),
  (145,⟨t145,0,[]⟩),
  (147,⟨t147,0,[]⟩),
  (148,⟨t148,0,[]⟩),
  (152,⟨t152,0,[]⟩),
  (155,⟨t155,0,[]⟩),
  (158,⟨t158,0,[]⟩),
  (160,⟨t160,0,[]⟩),
  (163,⟨t163,0,[(0,9),(1,3),(2,3),(3,3),(4,3)]⟩),
  (164,⟨t164,0,[]⟩),
  (166,⟨t166,0,[]⟩),
  (167,⟨t167,180,[]⟩),
  (169,⟨t169,0,[]⟩),
  (170,⟨t170,0,[]⟩),
  (171,⟨t171,9,[]⟩),
  (173,⟨t173,0,[]⟩),
  (174,⟨t174,35,[]⟩),
  (175,⟨t175,0,[]⟩),
  (176,⟨t176,0,[]⟩),
  (179,⟨t179,0,[(0,44),(3,26),(4,26)]⟩),
  (180,⟨t180,0,[(0,44),(3,26),(4,26)]⟩),
  (182,⟨t182,0,[]⟩),
  (183,⟨t183,0,[]⟩),
  (184,⟨t184,0,[]⟩),
  (185,⟨t185,0,[]⟩),
  (186,⟨t186,0,[]⟩),
  (187,⟨t187,0,[]⟩),
  (189,⟨t189,0,[]⟩),
  (192,⟨t192,0,[]⟩),
  (194,⟨t194,0,[]⟩),
  (197,⟨t197,0,[]⟩),
  (198,⟨t198,201,[]⟩),
  (199,⟨t199,5,[]⟩),
  (203,⟨t203,0,[]⟩),
  (206,⟨t206,0,[]⟩),
  (207,⟨t207,0,[]⟩),
  (208,⟨t208,0,[]⟩),
  (212,⟨t212,0,[]⟩),
  (213,⟨t213,0,[]⟩),
  (215,⟨t215,0,[]⟩),
  (219,⟨t219,0,[]⟩),
  (221,⟨t221,0,[]⟩),
  (222,⟨t222,0,[]⟩),
  (223,⟨t223,0,[]⟩),
  (224,⟨t224,0,[]⟩),
  (227,⟨t227,0,[(0,225),(2,226)]⟩),
  (228,⟨t228,0,[(0,225),(2,226)]⟩),
  (229,⟨t229,0,[(0,163),(5,3),(6,3),(7,3),(8,4)]⟩),
  (233,⟨t233,0,[]⟩),
  (234,⟨t234,0,[]⟩),
  (241,⟨t241,0,[]⟩),
  (243,⟨t243,0,[]⟩),
  (244,⟨t244,0,[]⟩),
  (245,⟨t245,0,[]⟩),
  (249,⟨t249,0,[]⟩),
  (251,⟨t251,0,[]⟩),
  (252,⟨t252,0,[]⟩),
  (253,⟨t253,3,[]⟩),
  (254,⟨t254,0,[]⟩),
  (255,⟨t255,0,[]⟩),
  (257,⟨t257,0,[]⟩),
  (258,⟨t258,5,[]⟩),
  (260,⟨t260,0,[]⟩),
  (261,⟨t261,41,[]⟩)
]
end Go.Vx.B
