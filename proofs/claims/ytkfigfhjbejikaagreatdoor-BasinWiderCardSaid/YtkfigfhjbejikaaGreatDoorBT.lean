/- The table of types,by program (tygen.py). -/
import Derived.Test.YtkfigfhjbejikaaGreatDoorVA

set_option linter.all false
namespace Go.Vx.B
abbrev t1 : Ty := (.func .unit .unit)
abbrev t2 : Ty := (.int .i64)
abbrev t3 : Ty := t2
abbrev t4 : Ty := .bool
abbrev t5 : Ty := (.int .u8)
abbrev t9 : Ty := .str
abbrev t21 : Ty := (.int .i32)
abbrev t22 : Ty := (.slice (.pair .str (.pair (.int .i64) (.pair (.int .i64) .unit))))
abbrev t23 : Ty := (.slice (.pair .str (.pair (.int .i64) (.pair (.int .i64) (.pair (.int .i64) (.pair (.int .i64) .unit))))))
abbrev t24 : Ty := (.pair (.slice (.pair .str (.pair (.int .i64) (.pair (.int .i64) .unit)))) (.pair (.slice (.pair .str (.pair (.int .i64) (.pair (.int .i64) (.pair (.int .i64) (.pair (.int .i64) .unit)))))) .unit))
abbrev t25 : Ty := t24
abbrev t26 : Ty := (.slice (.int .i64))
abbrev t27 : Ty := (.pair (.int .i64) (.pair .bool (.pair (.slice (.int .i64)) .unit)))
abbrev t31 : Ty := (.func (.pair (.pair (.slice (.pair .str (.pair (.int .i64) (.pair (.int .i64) .unit)))) (.pair (.slice (.pair .str (.pair (.int .i64) (.pair (.int .i64) (.pair (.int .i64) (.pair (.int .i64) .unit)))))) .unit)) .unit) (.pair .bool .unit))
abbrev t35 : Ty := t2
abbrev t37 : Ty := (.func (.pair (.pair (.slice (.pair .str (.pair (.int .i64) (.pair (.int .i64) .unit)))) (.pair (.slice (.pair .str (.pair (.int .i64) (.pair (.int .i64) (.pair (.int .i64) (.pair (.int .i64) .unit)))))) .unit)) (.pair (.slice (.int .i64)) (.pair (.pair (.int .i64) (.pair .bool (.pair (.slice (.int .i64)) .unit))) (.pair (.int .i64) (.pair (.int .i64) .unit))))) (.pair (.int .i64) (.pair (.int .i64) .unit)))
abbrev t38 : Ty := t22
abbrev t39 : Ty := t23
abbrev t40 : Ty := t24
abbrev t41 : Ty := t24
abbrev t44 : Ty := t27
abbrev t46 : Ty := (.func (.pair (.pair (.slice (.pair .str (.pair (.int .i64) (.pair (.int .i64) .unit)))) (.pair (.slice (.pair .str (.pair (.int .i64) (.pair (.int .i64) (.pair (.int .i64) (.pair (.int .i64) .unit)))))) .unit)) (.pair (.slice (.int .i64)) (.pair (.pair (.int .i64) (.pair .bool (.pair (.slice (.int .i64)) .unit))) (.pair (.int .i64) (.pair (.int .i64) .unit))))) (.pair (.int .i64) .unit))
abbrev t50 : Ty := (.pair (.int .u8) (.pair (.int .u8) (.pair (.int .u8) (.pair (.int .u8) .unit))))
abbrev t51 : Ty := t50
abbrev t53 : Ty := (.func (.pair (.pair (.slice (.pair .str (.pair (.int .i64) (.pair (.int .i64) .unit)))) (.pair (.slice (.pair .str (.pair (.int .i64) (.pair (.int .i64) (.pair (.int .i64) (.pair (.int .i64) .unit)))))) .unit)) (.pair (.slice (.int .i64)) (.pair (.slice (.pair (.int .i64) (.pair .bool (.pair (.slice (.int .i64)) .unit)))) .unit))) (.pair (.int .i64) .unit))
abbrev t54 : Ty := (.slice (.pair (.int .i64) (.pair .bool (.pair (.slice (.int .i64)) .unit))))
abbrev t56 : Ty := (.slice (.slice (.int .i64)))
abbrev t58 : Ty := (.func (.pair (.pair (.slice (.pair .str (.pair (.int .i64) (.pair (.int .i64) .unit)))) (.pair (.slice (.pair .str (.pair (.int .i64) (.pair (.int .i64) (.pair (.int .i64) (.pair (.int .i64) .unit)))))) .unit)) (.pair (.slice (.int .i64)) (.pair (.slice (.pair (.int .i64) (.pair .bool (.pair (.slice (.int .i64)) .unit)))) .unit))) (.pair (.slice (.slice (.int .i64))) (.pair (.int .i64) .unit)))
abbrev t59 : Ty := (.func (.pair (.pair (.slice (.pair .str (.pair (.int .i64) (.pair (.int .i64) .unit)))) (.pair (.slice (.pair .str (.pair (.int .i64) (.pair (.int .i64) (.pair (.int .i64) (.pair (.int .i64) .unit)))))) .unit)) (.pair (.slice (.int .i64)) .unit)) (.pair (.int .i64) .unit))
abbrev t60 : Ty := (.pair .str (.pair (.int .i64) (.pair (.int .i64) .unit)))
abbrev t61 : Ty := t60
abbrev t67 : Ty := (.slice .str)
abbrev t70 : Ty := t59
abbrev t72 : Ty := (.func (.pair (.pair (.slice (.pair .str (.pair (.int .i64) (.pair (.int .i64) .unit)))) (.pair (.slice (.pair .str (.pair (.int .i64) (.pair (.int .i64) (.pair (.int .i64) (.pair (.int .i64) .unit)))))) .unit)) (.pair (.slice (.int .i64)) .unit)) (.pair .bool .unit))
abbrev t75 : Ty := (.func (.pair (.pair (.slice (.pair .str (.pair (.int .i64) (.pair (.int .i64) .unit)))) (.pair (.slice (.pair .str (.pair (.int .i64) (.pair (.int .i64) (.pair (.int .i64) (.pair (.int .i64) .unit)))))) .unit)) (.pair (.slice (.int .i64)) (.pair (.pair (.int .i64) (.pair .bool (.pair (.slice (.int .i64)) .unit))) .unit))) (.pair (.slice (.int .i64)) (.pair (.slice (.int .i64)) (.pair (.int .i64) .unit))))
abbrev t76 : Ty := (.func (.pair (.pair (.slice (.pair .str (.pair (.int .i64) (.pair (.int .i64) .unit)))) (.pair (.slice (.pair .str (.pair (.int .i64) (.pair (.int .i64) (.pair (.int .i64) (.pair (.int .i64) .unit)))))) .unit)) (.pair (.slice (.int .i64)) (.pair (.pair (.int .i64) (.pair .bool (.pair (.slice (.int .i64)) .unit))) .unit))) (.pair .bool .unit))
abbrev t77 : Ty := (.pair (.int .i64) (.pair (.int .i64) (.pair (.int .i64) .unit)))
abbrev t78 : Ty := t77
abbrev t82 : Ty := (.pair .str (.pair (.int .i64) (.pair (.int .i64) (.pair (.int .i64) (.pair (.int .i64) .unit)))))
abbrev t83 : Ty := t82
abbrev t95 : Ty := (.pair (.int .i64) (.pair (.int .i64) .unit))
abbrev t96 : Ty := t95
abbrev t97 : Ty := (.slice (.pair (.int .i64) (.pair (.int .i64) .unit)))
abbrev t98 : Ty := (.pair (.pair (.int .i64) (.pair (.int .i64) .unit)) (.pair .bool (.pair (.slice (.pair (.int .i64) (.pair (.int .i64) .unit))) .unit)))
abbrev t99 : Ty := t98
abbrev t101 : Ty := (.slice (.pair (.pair (.int .i64) (.pair (.int .i64) .unit)) (.pair .bool (.pair (.slice (.pair (.int .i64) (.pair (.int .i64) .unit))) .unit))))
abbrev t104 : Ty := t98
abbrev t108 : Ty := t101
abbrev t119 : Ty := (.slice (.slice (.pair (.int .i64) (.pair (.int .i64) .unit))))
abbrev t127 : Ty := (.func (.pair (.pair (.slice (.pair .str (.pair (.int .i64) (.pair (.int .i64) .unit)))) (.pair (.slice (.pair .str (.pair (.int .i64) (.pair (.int .i64) (.pair (.int .i64) (.pair (.int .i64) .unit)))))) .unit)) (.pair (.slice (.pair (.int .i64) (.pair (.int .i64) .unit))) (.pair (.slice (.pair (.pair (.int .i64) (.pair (.int .i64) .unit)) (.pair .bool (.pair (.slice (.pair (.int .i64) (.pair (.int .i64) .unit))) .unit)))) .unit))) (.pair (.slice (.slice (.pair (.int .i64) (.pair (.int .i64) .unit)))) (.pair (.int .i64) .unit)))
abbrev t133 : Ty := (.arr 2 (.int .u8))
abbrev t156 : Ty := (.func (.pair (.pair (.int .i64) (.pair .bool (.pair (.slice (.int .i64)) .unit))) .unit) (.pair (.int .i64) .unit))
abbrev t159 : Ty := t60
abbrev t163 : Ty := t82
abbrev t164 : Ty := (.func (.pair (.int .i64) (.pair (.int .i64) (.pair (.int .i64) .unit))) (.pair (.int .i64) .unit))
abbrev t167 : Ty := (.slice (.pair (.pair (.int .i64) (.pair .bool (.pair (.slice (.int .i64)) .unit))) (.pair (.slice (.int .i64)) (.pair (.nS (.int .i64)) .unit))))
abbrev t171 : Ty := (.arr 5 .str)
abbrev t172 : Ty := (.map .str .bool)
abbrev t173 : Ty := (.func (.pair .str .unit) (.pair .bool .unit))
abbrev t174 : Ty := t26
abbrev t176 : Ty := (.func (.pair (.int .i64) .unit) (.pair (.int .i64) .unit))
abbrev t177 : Ty := (.func (.pair (.pair .str (.pair (.int .i64) (.pair (.int .i64) (.pair (.int .i64) (.pair (.int .i64) .unit))))) .unit) (.pair (.int .i64) .unit))
abbrev t179 : Ty := (.pair (.pair (.int .i64) (.pair .bool (.pair (.slice (.int .i64)) .unit))) (.pair (.slice (.int .i64)) (.pair (.nS (.int .i64)) .unit)))
abbrev t180 : Ty := t179
abbrev t181 : Ty := (.func (.pair (.slice (.int .i64)) .unit) (.pair .bool .unit))
abbrev t186 : Ty := (.func (.pair (.pair (.pair (.int .i64) (.pair (.int .i64) .unit)) (.pair .bool (.pair (.slice (.pair (.int .i64) (.pair (.int .i64) .unit))) .unit))) .unit) (.pair (.pair (.int .i64) (.pair .bool (.pair (.slice (.int .i64)) .unit))) .unit))
abbrev t190 : Ty := (.func (.pair (.pair (.pair (.int .i64) (.pair (.int .i64) .unit)) (.pair .bool (.pair (.slice (.pair (.int .i64) (.pair (.int .i64) .unit))) .unit))) .unit) (.pair (.int .i64) .unit))
abbrev t198 : Ty := (.ref .unit)
abbrev t199 : Ty := (.slice (.int .u8))
abbrev t200 : Ty := (.pair (.ref .unit) (.pair (.slice (.int .u8)) .unit))
abbrev t201 : Ty := t200
abbrev t203 : Ty := .err
abbrev t208 : Ty := (.func (.pair (.int .i64) .unit) (.pair .str .unit))
abbrev t209 : Ty := (.func (.pair (.slice .str) (.pair (.slice (.int .i64)) .unit)) .unit)
abbrev t211 : Ty := (.func (.pair (.func (.pair .str .unit) (.pair .bool .unit)) .unit) .unit)
abbrev t212 : Ty := t211
abbrev t213 : Ty := (.func (.pair .str .unit) (.pair (.func (.pair (.func (.pair .str .unit) (.pair .bool .unit)) .unit) .unit) .unit))
abbrev t221 : Ty := (.func (.pair (.int .i64) (.pair (.int .i64) .unit)) .unit)
abbrev t222 : Ty := (.map .str (.pair (.arr 2 .bool) (.pair (.func (.pair (.pair (.pair .str (.pair (.int .i64) (.pair (.int .i64) (.pair (.int .i64) (.pair (.int .i64) .unit))))) (.pair (.int .i64) (.pair (.int .i64) (.pair (.int .i64) (.pair .bool .unit))))) .unit) (.pair (.int .i64) .unit)) .unit)))
abbrev t225 : Ty := (.arr 2 .bool)
abbrev t226 : Ty := (.func (.pair (.pair (.pair .str (.pair (.int .i64) (.pair (.int .i64) (.pair (.int .i64) (.pair (.int .i64) .unit))))) (.pair (.int .i64) (.pair (.int .i64) (.pair (.int .i64) (.pair .bool .unit))))) .unit) (.pair (.int .i64) .unit))
abbrev t227 : Ty := (.pair (.arr 2 .bool) (.pair (.func (.pair (.pair (.pair .str (.pair (.int .i64) (.pair (.int .i64) (.pair (.int .i64) (.pair (.int .i64) .unit))))) (.pair (.int .i64) (.pair (.int .i64) (.pair (.int .i64) (.pair .bool .unit))))) .unit) (.pair (.int .i64) .unit)) .unit))
abbrev t228 : Ty := t227
abbrev t229 : Ty := (.pair (.pair .str (.pair (.int .i64) (.pair (.int .i64) (.pair (.int .i64) (.pair (.int .i64) .unit))))) (.pair (.int .i64) (.pair (.int .i64) (.pair (.int .i64) (.pair .bool .unit)))))
abbrev t230 : Ty := t229
abbrev t233 : Ty := (.func (.pair .str .unit) (.pair .bool (.pair .bool .unit)))
abbrev t237 : Ty := (.func (.pair (.pair (.pair (.int .i64) (.pair .bool (.pair (.slice (.int .i64)) .unit))) (.pair (.slice (.int .i64)) (.pair (.nS (.int .i64)) .unit))) .unit) (.pair (.slice (.int .i64)) .unit))
abbrev t239 : Ty := (.func (.pair (.int .i64) (.pair .bool .unit)) (.pair .bool .unit))
abbrev t246 : Ty := (.func (.pair (.pair (.int .i64) (.pair (.int .i64) .unit)) .unit) (.pair (.int .i64) .unit))
abbrev t249 : Ty := (.func (.pair (.func (.pair (.pair (.pair (.int .i64) (.pair .bool (.pair (.slice (.int .i64)) .unit))) (.pair (.slice (.int .i64)) (.pair (.nS (.int .i64)) .unit))) .unit) (.pair .bool .unit)) .unit) .unit)
abbrev t250 : Ty := t249
abbrev t253 : Ty := (.arr 2 (.int .i64))
abbrev t255 : Ty := t246
abbrev t258 : Ty := (.ref (.int .u8))
abbrev t269 : Ty := (.func (.pair (.pair (.pair (.int .i64) (.pair .bool (.pair (.slice (.int .i64)) .unit))) (.pair (.slice (.int .i64)) (.pair (.nS (.int .i64)) .unit))) .unit) (.pair .bool .unit))
abbrev t279 : Ty := (.arr 24 (.int .u8))
abbrev t280 : Ty := (.int .u64)
abbrev t290 : Ty := (.arr 20 (.int .u64))
abbrev t291 : Ty := (.int .u32)
abbrev t292 : Ty := (.arr 65 (.int .u8))
abbrev t294 : Ty := t280
abbrev t315 : Ty := (.arr 32 (.int .u8))
abbrev t316 : Ty := (.arr 64 (.int .u8))
def T : List (TypeId × TyI) := [
  (1,⟨t1,0,[]⟩),
  (2,⟨t2,0,[]⟩),
  (3,⟨t3,0,[]⟩),
  (4,⟨t4,0,[]⟩),
  (5,⟨t5,0,[]⟩),
  (9,⟨t9,0,[]⟩),
  (21,⟨t21,0,[]⟩),
  (22,⟨t22,61,[]⟩),
  (23,⟨t23,83,[]⟩),
  (24,⟨t24,0,[(0,22),(1,23)]⟩),
  (25,⟨t25,0,[(0,22),(1,23)]⟩),
  (26,⟨t26,3,[]⟩),
  (27,⟨t27,0,[(0,3),(1,4),(2,26)]⟩),
  (31,⟨t31,0,[]⟩),
  (35,⟨t35,0,[]⟩),
  (37,⟨t37,0,[]⟩),
  (38,⟨t38,159,[]⟩),
  (39,⟨t39,163,[]⟩),
  (40,⟨t40,0,[(0,38),(1,39)]⟩),
  (41,⟨t41,0,[(0,38),(1,39)]⟩),
  (44,⟨t44,0,[(0,3),(1,4),(2,26)]⟩),
  (46,⟨t46,0,[]⟩),
  (50,⟨t50,0,[(0,5),(1,5),(2,5),(3,5)]⟩),
  (51,⟨t51,0,[(0,5),(1,5),(2,5),(3,5)]⟩),
  (53,⟨t53,0,[]⟩),
  (54,⟨t54,44,[]⟩),
  (56,⟨t56,26,[]⟩),
  (58,⟨t58,0,[]⟩),
  (59,⟨t59,0,[]⟩),
  (60,⟨t60,0,[(0,9),(1,3),(2,3)]⟩),
  (61,⟨t61,0,[(0,9),(1,3),(2,3)]⟩),
  (67,⟨t67,9,[]⟩),
  (70,⟨t70,0,[]⟩),
  (72,⟨t72,0,[]⟩),
  (75,⟨t75,0,[]⟩),
  (76,⟨t76,0,[]⟩),
  (77,⟨t77,0,[(0,3),(1,3),(2,3)]⟩),
  (78,⟨t78,0,[(0,3),(1,3),(2,3)]⟩),
  (82,⟨t82,0,[(0,9),(1,3),(2,3),(3,3),(4,3)]⟩),
  (83,⟨t83,0,[(0,9),(1,3),(2,3),(3,3),(4,3)]⟩),
  (95,⟨t95,0,[(0,3),(1,3)]⟩),
  (96,⟨t96,0,[(0,3),(1,3)]⟩),
  (97,⟨t97,96,[]⟩),
  (98,⟨t98,0,[(0,96),(2,4),(3,97)]⟩),
  (99,⟨t99,0,[(0,96),(2,4),(3,97)]⟩),
  (101,⟨t101,99,[]⟩),
  (104,⟨t104,0,[(0,96),(2,4),(3,97)]⟩),
  (108,⟨t108,104,[]⟩),
  (119,⟨t119,97,[]⟩),
  (127,⟨t127,0,[]⟩),
  (133,⟨t133,5,[]⟩),
  (156,⟨t156,0,[]⟩),
  (159,⟨t159,0,[(0,9),(1,3),(2,3)]⟩),
  (163,⟨t163,0,[(0,9),(1,3),(2,3),(3,3),(4,3)]⟩),
  (164,⟨t164,0,[]⟩),
  (167,⟨t167,180,[]⟩),
  (171,⟨t171,9,[]⟩),
  (172,⟨t172,0,[]⟩),
  (173,⟨t173,0,[]⟩),
  (174,⟨t174,35,[]⟩),
  (176,⟨t176,0,[]⟩),
  (177,⟨t177,0,[]⟩),
  (179,⟨t179,0,[(0,44),(3,26),(4,26)]⟩),
  (180,⟨t180,0,[(0,44),(3,26),(4,26)]⟩),
  (181,⟨t181,0,[]⟩),
  (186,⟨t186,0,[]⟩),
  (190,⟨t190,0,[]⟩),
  (198,⟨t198,201,[]⟩),
  (199,⟨t199,5,[]⟩),
  (200,⟨t200,0,[(0,198),(1,199)]⟩),
  (201,⟨t201,0,[(0,198),(1,199)]⟩),
  (203,⟨t203,0,[]⟩),
  (208,⟨t208,0,[]⟩),
  (209,⟨t209,0,[]⟩),
  (211,⟨t211,0,[]⟩),
  (212,⟨t212,0,[]⟩),
  (213,⟨t213,0,[]⟩),
  (221,⟨t221,0,[]⟩),
  (222,⟨t222,0,[]⟩),
  (225,⟨t225,4,[]⟩),
  (226,⟨t226,0,[]⟩),
  (227,⟨t227,0,[(0,225),(2,226)]⟩),
  (228,⟨t228,0,[(0,225),(2,226)]⟩),
  (229,⟨t229,0,[(0,163),(5,3),(6,3),(7,3),(8,4)]⟩),
  (230,⟨t230,0,[(0,163),(5,3),(6,3),(7,3),(8,4)]⟩),
  (233,⟨t233,0,[]⟩),
  (237,⟨t237,0,[]⟩),
  (239,⟨t239,0,[]⟩),
  (246,⟨t246,0,[]⟩),
  (249,⟨t249,0,[]⟩),
  (250,⟨t250,0,[]⟩),
  (253,⟨t253,3,[]⟩),
  (255,⟨t255,0,[]⟩),
  (258,⟨t258,5,[]⟩),
  (269,⟨t269,0,[]⟩),
  (279,⟨t279,5,[]⟩),
  (280,⟨t280,0,[]⟩),
  (290,⟨t290,280,[]⟩),
  (291,⟨t291,0,[]⟩),
  (292,⟨t292,5,[]⟩),
  (294,⟨t294,0,[]⟩),
  (315,⟨t315,5,[]⟩),
  (316,⟨t316,5,[]⟩)
]
end Go.Vx.B
