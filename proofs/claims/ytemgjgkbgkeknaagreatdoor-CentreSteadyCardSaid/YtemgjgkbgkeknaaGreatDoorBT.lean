/- The table of types,by program (tygen.py). -/
import Derived.Test.YtemgjgkbgkeknaaGreatDoorVA

namespace Go.Vx.B
abbrev t1 : Ty := (.func .unit .unit)
abbrev t2 : Ty := (.int .i64)
abbrev t3 : Ty := t2
abbrev t4 : Ty := .bool
abbrev t5 : Ty := (.int .u8)
abbrev t9 : Ty := .str
abbrev t21 : Ty := (.int .i32)
abbrev t22 : Ty := (.slice (.pair (.int .i64) (.pair .str (.pair (.slice .str) (.pair (.slice (.int .i64)) (.pair .str .unit))))))
abbrev t23 : Ty := (.arr 2 (.int .i64))
abbrev t24 : Ty := (.pair (.int .i64) (.pair (.int .i64) .unit))
abbrev t25 : Ty := t24
abbrev t28 : Ty := (.slice (.pair (.int .i64) (.pair .str (.pair .str .unit))))
abbrev t29 : Ty := t2
abbrev t31 : Ty := (.func (.pair (.slice (.pair (.int .i64) (.pair .str (.pair (.slice .str) (.pair (.slice (.int .i64)) (.pair .str .unit)))))) (.pair (.int .i64) (.pair (.int .i64) .unit))) (.pair (.slice (.pair (.int .i64) (.pair .str (.pair .str .unit)))) (.pair (.int .i64) .unit)))
abbrev t33 : Ty := t24
abbrev t34 : Ty := (.slice (.int .i64))
abbrev t37 : Ty := (.slice (.pair .str (.pair .bool (.pair (.int .i64) (.pair .str (.pair .str .unit))))))
abbrev t38 : Ty := (.slice .str)
abbrev t39 : Ty := (.slice (.pair .str (.pair (.int .i64) .unit)))
abbrev t40 : Ty := (.pair (.int .i64) (.pair (.pair (.int .i64) (.pair (.int .i64) .unit)) (.pair (.int .i64) (.pair (.int .i64) (.pair (.int .i64) (.pair (.int .i64) (.pair .str (.pair (.int .i64) (.pair (.slice (.pair .str (.pair .bool (.pair (.int .i64) (.pair .str (.pair .str .unit)))))) (.pair (.slice .str) (.pair (.slice (.pair .str (.pair (.int .i64) .unit))) .unit)))))))))))
abbrev t41 : Ty := t40
abbrev t46 : Ty := (.func (.pair (.pair (.int .i64) (.pair (.int .i64) .unit)) .unit) (.pair (.int .i64) .unit))
abbrev t47 : Ty := t28
abbrev t51 : Ty := (.func (.pair (.slice (.pair (.int .i64) (.pair .str (.pair .str .unit)))) (.pair (.slice (.pair (.int .i64) (.pair .str (.pair .str .unit)))) .unit)) (.pair .bool .unit))
abbrev t53 : Ty := (.func (.pair (.slice (.int .i64)) (.pair (.slice (.int .i64)) .unit)) (.pair .bool .unit))
abbrev t55 : Ty := (.pair (.int .i64) (.pair .str (.pair (.slice .str) (.pair (.slice (.int .i64)) (.pair .str .unit)))))
abbrev t56 : Ty := t55
abbrev t57 : Ty := t37
abbrev t58 : Ty := t39
abbrev t59 : Ty := t40
abbrev t60 : Ty := t40
abbrev t63 : Ty := (.pair .str (.pair .bool (.pair (.int .i64) (.pair .str (.pair .str .unit)))))
abbrev t64 : Ty := t63
abbrev t75 : Ty := (.func (.pair .str .unit) (.pair (.slice (.pair (.int .i64) (.pair .str (.pair (.slice .str) (.pair (.slice (.int .i64)) (.pair .str .unit)))))) (.pair (.int .i64) (.pair (.int .i64) .unit))))
abbrev t83 : Ty := (.ref (.pair (.pair (.slice (.pair (.int .i64) (.pair .str (.pair (.slice .str) (.pair (.slice (.int .i64)) (.pair .str .unit)))))) (.pair (.slice (.pair (.int .i64) (.pair .str (.pair (.slice .str) (.pair (.slice (.int .i64)) (.pair .str .unit)))))) (.pair (.slice (.pair (.int .i64) (.pair (.pair (.int .i64) (.pair (.int .i64) .unit)) (.pair (.int .i64) (.pair (.int .i64) (.pair (.int .i64) (.pair (.int .i64) (.pair .str (.pair (.int .i64) (.pair (.slice (.pair .str (.pair .bool (.pair (.int .i64) (.pair .str (.pair .str .unit)))))) (.pair (.slice .str) (.pair (.slice (.pair .str (.pair (.int .i64) .unit))) .unit)))))))))))) .unit))) .unit))
abbrev t96 : Ty := (.arr 2 (.int .u8))
abbrev t97 : Ty := (.pair (.int .i64) (.pair .str (.pair .str .unit)))
abbrev t98 : Ty := t97
abbrev t101 : Ty := (.pair .str (.pair (.int .i64) .unit))
abbrev t102 : Ty := t101
abbrev t104 : Ty := (.int .u16)
abbrev t105 : Ty := (.arr 3 (.int .u16))
abbrev t106 : Ty := (.func (.pair (.pair (.int .i64) (.pair .str (.pair (.slice .str) (.pair (.slice (.int .i64)) (.pair .str .unit))))) .unit) (.pair .str .unit))
abbrev t108 : Ty := (.slice (.int .u8))
abbrev t109 : Ty := (.func (.pair (.slice (.pair (.int .i64) (.pair .str (.pair (.slice .str) (.pair (.slice (.int .i64)) (.pair .str .unit)))))) (.pair (.arr 3 (.int .u16)) .unit)) (.pair .bool .unit))
abbrev t119 : Ty := (.func (.pair (.pair (.int .i64) (.pair (.pair (.int .i64) (.pair (.int .i64) .unit)) (.pair (.int .i64) (.pair (.int .i64) (.pair (.int .i64) (.pair (.int .i64) (.pair .str (.pair (.int .i64) (.pair (.slice (.pair .str (.pair .bool (.pair (.int .i64) (.pair .str (.pair .str .unit)))))) (.pair (.slice .str) (.pair (.slice (.pair .str (.pair (.int .i64) .unit))) .unit))))))))))) (.pair .str .unit)) (.pair (.int .i64) .unit))
abbrev t123 : Ty := (.pair .str (.pair .str (.pair (.int .i64) .unit)))
abbrev t124 : Ty := t123
abbrev t125 : Ty := (.slice (.pair .str (.pair .str (.pair (.int .i64) .unit))))
abbrev t126 : Ty := t97
abbrev t127 : Ty := (.func (.pair .str .unit) (.pair .str .unit))
abbrev t128 : Ty := (.slice (.pair (.int .i64) (.pair (.pair (.int .i64) (.pair (.int .i64) .unit)) (.pair (.int .i64) (.pair (.int .i64) (.pair (.int .i64) (.pair (.int .i64) (.pair .str (.pair (.int .i64) (.pair (.slice (.pair .str (.pair .bool (.pair (.int .i64) (.pair .str (.pair .str .unit)))))) (.pair (.slice .str) (.pair (.slice (.pair .str (.pair (.int .i64) .unit))) .unit))))))))))))
abbrev t129 : Ty := (.pair (.slice (.pair (.int .i64) (.pair .str (.pair (.slice .str) (.pair (.slice (.int .i64)) (.pair .str .unit)))))) (.pair (.slice (.pair (.int .i64) (.pair .str (.pair (.slice .str) (.pair (.slice (.int .i64)) (.pair .str .unit)))))) (.pair (.slice (.pair (.int .i64) (.pair (.pair (.int .i64) (.pair (.int .i64) .unit)) (.pair (.int .i64) (.pair (.int .i64) (.pair (.int .i64) (.pair (.int .i64) (.pair .str (.pair (.int .i64) (.pair (.slice (.pair .str (.pair .bool (.pair (.int .i64) (.pair .str (.pair .str .unit)))))) (.pair (.slice .str) (.pair (.slice (.pair .str (.pair (.int .i64) .unit))) .unit)))))))))))) .unit)))
abbrev t130 : Ty := t129
abbrev t138 : Ty := (.func (.pair (.pair (.int .i64) (.pair (.int .i64) .unit)) .unit) (.pair (.slice (.pair (.int .i64) (.pair .str (.pair .str .unit)))) .unit))
abbrev t146 : Ty := (.func .unit (.pair (.pair (.int .i64) (.pair (.pair (.int .i64) (.pair (.int .i64) .unit)) (.pair (.int .i64) (.pair (.int .i64) (.pair (.int .i64) (.pair (.int .i64) (.pair .str (.pair (.int .i64) (.pair (.slice (.pair .str (.pair .bool (.pair (.int .i64) (.pair .str (.pair .str .unit)))))) (.pair (.slice .str) (.pair (.slice (.pair .str (.pair (.int .i64) .unit))) .unit))))))))))) .unit))
abbrev t148 : Ty := t63
abbrev t149 : Ty := t101
abbrev t156 : Ty := (.pair (.int .i64) (.pair (.int .i64) (.pair .bool .unit)))
abbrev t157 : Ty := t156
abbrev t159 : Ty := (.pair (.pair (.slice (.pair (.int .i64) (.pair .str (.pair (.slice .str) (.pair (.slice (.int .i64)) (.pair .str .unit)))))) (.pair (.slice (.pair (.int .i64) (.pair .str (.pair (.slice .str) (.pair (.slice (.int .i64)) (.pair .str .unit)))))) (.pair (.slice (.pair (.int .i64) (.pair (.pair (.int .i64) (.pair (.int .i64) .unit)) (.pair (.int .i64) (.pair (.int .i64) (.pair (.int .i64) (.pair (.int .i64) (.pair .str (.pair (.int .i64) (.pair (.slice (.pair .str (.pair .bool (.pair (.int .i64) (.pair .str (.pair .str .unit)))))) (.pair (.slice .str) (.pair (.slice (.pair .str (.pair (.int .i64) .unit))) .unit)))))))))))) .unit))) .unit)
abbrev t160 : Ty := t159
abbrev t166 : Ty := (.func (.pair (.int .i64) .unit) (.pair .str .unit))
abbrev t167 : Ty := .code
abbrev t168 : Ty := (.pair (.int .i64) (.pair .code .unit))
abbrev t169 : Ty := t168
abbrev t171 : Ty := (.map .str (.pair (.int .i64) (.pair .code .unit)))
abbrev t173 : Ty := (.func (.pair (.pair (.int .i64) (.pair .code .unit)) (.pair (.slice .str) .unit)) (.pair .str (.pair (.int .i64) .unit)))
abbrev t174 : Ty := .code
abbrev t175 : Ty := (.pair (.arr 2 (.int .i64)) (.pair .code .unit))
abbrev t176 : Ty := t175
abbrev t178 : Ty := (.map .str (.pair (.arr 2 (.int .i64)) (.pair .code .unit)))
abbrev t182 : Ty := (.func (.pair (.pair (.int .i64) (.pair .str (.pair (.slice .str) (.pair (.slice (.int .i64)) (.pair .str .unit))))) .unit) (.pair (.pair (.int .i64) (.pair .str (.pair (.slice .str) (.pair (.slice (.int .i64)) (.pair .str .unit))))) .unit))
abbrev t185 : Ty := t34
abbrev t187 : Ty := (.func (.pair .str .unit) (.pair (.int .i64) .unit))
abbrev t189 : Ty := (.func (.pair (.int .i64) .unit) (.pair (.int .i64) .unit))
abbrev t191 : Ty := t187
abbrev t195 : Ty := (.ref (.pair (.slice (.pair (.int .i64) (.pair .str (.pair (.slice .str) (.pair (.slice (.int .i64)) (.pair .str .unit)))))) (.pair (.slice (.pair (.int .i64) (.pair .str (.pair (.slice .str) (.pair (.slice (.int .i64)) (.pair .str .unit)))))) (.pair (.slice (.pair (.int .i64) (.pair (.pair (.int .i64) (.pair (.int .i64) .unit)) (.pair (.int .i64) (.pair (.int .i64) (.pair (.int .i64) (.pair (.int .i64) (.pair .str (.pair (.int .i64) (.pair (.slice (.pair .str (.pair .bool (.pair (.int .i64) (.pair .str (.pair .str .unit)))))) (.pair (.slice .str) (.pair (.slice (.pair .str (.pair (.int .i64) .unit))) .unit)))))))))))) .unit))))
abbrev t197 : Ty := (.ref (.int .i64))
abbrev t199 : Ty := t128
abbrev t201 : Ty := (.func (.pair (.int .i32) .unit) (.pair .bool .unit))
abbrev t208 : Ty := (.func (.pair (.pair .str (.pair .bool (.pair (.int .i64) (.pair .str (.pair .str .unit))))) .unit) (.pair .bool .unit))
abbrev t211 : Ty := (.ref (.pair (.int .i64) (.pair (.pair (.int .i64) (.pair (.int .i64) .unit)) (.pair (.int .i64) (.pair (.int .i64) (.pair (.int .i64) (.pair (.int .i64) (.pair .str (.pair (.int .i64) (.pair (.slice (.pair .str (.pair .bool (.pair (.int .i64) (.pair .str (.pair .str .unit)))))) (.pair (.slice .str) (.pair (.slice (.pair .str (.pair (.int .i64) .unit))) .unit))))))))))))
abbrev t212 : Ty := (.func (.pair (.slice .str) .unit) (.pair (.slice .str) .unit))
abbrev t213 : Ty := (.func (.pair (.slice .str) (.pair (.func (.pair .str .unit) (.pair (.int .i64) .unit)) .unit)) (.pair (.slice (.int .i64)) .unit))
abbrev t216 : Ty := (.ref .unit)
abbrev t217 : Ty := (.pair (.ref .unit) (.pair (.slice (.int .u8)) .unit))
abbrev t218 : Ty := t217
abbrev t221 : Ty := .err
abbrev t227 : Ty := (.func (.pair (.int .i64) .unit) (.pair .bool .unit))
abbrev t232 : Ty := (.func (.pair (.func (.pair (.pair .str (.pair .bool (.pair (.int .i64) (.pair .str (.pair .str .unit))))) .unit) (.pair .bool .unit)) .unit) .unit)
abbrev t233 : Ty := t232
abbrev t238 : Ty := (.ref (.pair .str (.pair .bool (.pair (.int .i64) (.pair .str (.pair .str .unit))))))
abbrev t239 : Ty := (.func (.pair (.ref (.pair .str (.pair .bool (.pair (.int .i64) (.pair .str (.pair .str .unit)))))) .unit) .unit)
abbrev t245 : Ty := (.ref (.pair .str (.pair (.int .i64) .unit)))
abbrev t246 : Ty := (.func (.pair (.ref (.pair .str (.pair (.int .i64) .unit))) .unit) .unit)
abbrev t248 : Ty := (.ref (.int .u8))
abbrev t252 : Ty := (.int .u64)
abbrev t262 : Ty := (.arr 24 (.int .u8))
abbrev t263 : Ty := t252
abbrev t271 : Ty := (.int .u32)
abbrev t278 : Ty := (.arr 20 (.int .u64))
abbrev t279 : Ty := (.arr 65 (.int .u8))
abbrev t281 : Ty := (.arr 256 (.int .u8))
abbrev t282 : Ty := (.pair (.int .u8) (.pair (.int .u8) .unit))
abbrev t283 : Ty := t282
abbrev t284 : Ty := (.arr 16 (.pair (.int .u8) (.pair (.int .u8) .unit)))
abbrev t287 : Ty := (.arr 32 (.int .u8))
abbrev t288 : Ty := (.arr 64 (.int .u8))
def T : List (TypeId × TyI) := [
  (1,⟨t1,0,[]⟩),
  (2,⟨t2,0,[]⟩),
  (3,⟨t3,0,[]⟩),
  (4,⟨t4,0,[]⟩),
  (5,⟨t5,0,[]⟩),
  (9,⟨t9,0,[]⟩),
  (21,⟨t21,0,[]⟩),
  (22,⟨t22,56,[]⟩),
  (23,⟨t23,3,[]⟩),
  (24,⟨t24,0,[(0,3),(1,3)]⟩),
  (25,⟨t25,0,[(0,3),(1,3)]⟩),
  (28,⟨t28,98,[]⟩),
  (29,⟨t29,0,[]⟩),
  (31,⟨t31,0,[]⟩),
  (33,⟨t33,0,[(0,3),(1,3)]⟩),
  (34,⟨t34,3,[]⟩),
  (37,⟨t37,148,[]⟩),
  (38,⟨t38,9,[]⟩),
  (39,⟨t39,149,[]⟩),
  (40,⟨t40,0,[(0,3),(1,25),(3,3),(4,3),(5,3),(6,3),(7,9),(8,3),(9,37),(10,38),(11,39)]⟩),
  (41,⟨t41,0,[(0,3),(1,25),(3,3),(4,3),(5,3),(6,3),(7,9),(8,3),(9,37),(10,38),(11,39)]⟩),
  (46,⟨t46,0,[]⟩),
  (47,⟨t47,126,[]⟩),
  (51,⟨t51,0,[]⟩),
  (53,⟨t53,0,[]⟩),
  (55,⟨t55,0,[(0,3),(1,9),(2,38),(3,34),(4,9)]⟩),
  (56,⟨t56,0,[(0,3),(1,9),(2,38),(3,34),(4,9)]⟩),
  (57,⟨t57,64,[]⟩),
  (58,⟨t58,102,[]⟩),
  (59,⟨t59,0,[(0,3),(1,33),(3,3),(4,3),(5,3),(6,3),(7,9),(8,3),(9,57),(10,38),(11,58)]⟩),
  (60,⟨t60,0,[(0,3),(1,33),(3,3),(4,3),(5,3),(6,3),(7,9),(8,3),(9,57),(10,38),(11,58)]⟩),
  (63,⟨t63,0,[(0,9),(1,4),(2,3),(3,9),(4,9)]⟩),
  (64,⟨t64,0,[(0,9),(1,4),(2,3),(3,9),(4,9)]⟩),
  (75,⟨t75,0,[]⟩),
  (83,⟨t83,160,[]⟩),
  (96,⟨t96,5,[]⟩),
  (97,⟨t97,0,[(0,3),(1,9),(2,9)]⟩),
  (98,⟨t98,0,[(0,3),(1,9),(2,9)]⟩),
  (101,⟨t101,0,[(0,9),(1,3)]⟩),
  (102,⟨t102,0,[(0,9),(1,3)]⟩),
  (104,⟨t104,0,[]⟩),
  (105,⟨t105,104,[]⟩),
  (106,⟨t106,0,[]⟩),
  (108,⟨t108,5,[]⟩),
  (109,⟨t109,0,[]⟩),
  (119,⟨t119,0,[]⟩),
  (123,⟨t123,0,[(0,9),(1,9),(2,29)]⟩),
  (124,⟨t124,0,[(0,9),(1,9),(2,29)]⟩),
  (125,⟨t125,124,[]⟩),
  (126,⟨t126,0,[(0,3),(1,9),(2,9)]⟩),
  (127,⟨t127,0,[]⟩),
  (128,⟨t128,60,[]⟩),
  (129,⟨t129,0,[(0,22),(1,22),(2,128)]⟩),
  (130,⟨t130,0,[(0,22),(1,22),(2,128)]⟩),
  (138,⟨t138,0,[]⟩),
  (146,⟨t146,0,[]⟩),
  (148,⟨t148,0,[(0,9),(1,4),(2,3),(3,9),(4,9)]⟩),
  (149,⟨t149,0,[(0,9),(1,3)]⟩),
  (156,⟨t156,0,[(0,3),(1,3),(2,4)]⟩),
  (157,⟨t157,0,[(0,3),(1,3),(2,4)]⟩),
  (159,⟨t159,0,[(0,130)]⟩),
  (160,⟨t160,0,[(0,130)]⟩),
  (166,⟨t166,0,[]⟩),
  (167,⟨t167,0,[]⟩),
  (168,⟨t168,0,[(0,3),(1,167)]⟩),
  (169,⟨t169,0,[(0,3),(1,167)]⟩),
  (171,⟨t171,0,[]⟩),
  (173,⟨t173,0,[]⟩),
  (174,⟨t174,0,[]⟩),
  (175,⟨t175,0,[(0,23),(2,174)]⟩),
  (176,⟨t176,0,[(0,23),(2,174)]⟩),
  (178,⟨t178,0,[]⟩),
  (182,⟨t182,0,[]⟩),
  (185,⟨t185,29,[]⟩),
  (187,⟨t187,0,[]⟩),
  (189,⟨t189,0,[]⟩),
  (191,⟨t191,0,[]⟩),
  (195,⟨t195,130,[]⟩),
  (197,⟨t197,3,[]⟩),
  (199,⟨t199,41,[]⟩),
  (201,⟨t201,0,[]⟩),
  (208,⟨t208,0,[]⟩),
  (211,⟨t211,60,[]⟩),
  (212,⟨t212,0,[]⟩),
  (213,⟨t213,0,[]⟩),
  (216,⟨t216,218,[]⟩),
  (217,⟨t217,0,[(0,216),(1,108)]⟩),
  (218,⟨t218,0,[(0,216),(1,108)]⟩),
  (221,⟨t221,0,[]⟩),
  (227,⟨t227,0,[]⟩),
  (232,⟨t232,0,[]⟩),
  (233,⟨t233,0,[]⟩),
  (238,⟨t238,64,[]⟩),
  (239,⟨t239,0,[]⟩),
  (245,⟨t245,102,[]⟩),
  (246,⟨t246,0,[]⟩),
  (248,⟨t248,5,[]⟩),
  (252,⟨t252,0,[]⟩),
  (262,⟨t262,5,[]⟩),
  (263,⟨t263,0,[]⟩),
  (271,⟨t271,0,[]⟩),
  (278,⟨t278,263,[]⟩),
  (279,⟨t279,5,[]⟩),
  (281,⟨t281,5,[]⟩),
  (282,⟨t282,0,[(0,5),(1,5)]⟩),
  (283,⟨t283,0,[(0,5),(1,5)]⟩),
  (284,⟨t284,283,[]⟩),
  (287,⟨t287,5,[]⟩),
  (288,⟨t288,5,[]⟩)
]
end Go.Vx.B
