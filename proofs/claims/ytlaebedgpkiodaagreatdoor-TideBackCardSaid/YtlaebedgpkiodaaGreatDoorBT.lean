/- The table of types,by program (tygen.py). -/
import Derived.Test.YtlaebedgpkiodaaGreatDoorVA

namespace Go.Vx.B
abbrev t2 : Ty := (.int .i64)
abbrev t3 : Ty := t2
abbrev t4 : Ty := .bool
abbrev t5 : Ty := (.int .u8)
abbrev t9 : Ty := .str
abbrev t21 : Ty := (.int .i32)
abbrev t22 : Ty := (.slice (.pair .str (.pair (.int .i64) (.pair (.int .i64) .unit))))
abbrev t28 : Ty := t22
abbrev t30 : Ty := (.slice (.pair (.int .i64) (.pair (.int .i64) .unit)))
abbrev t31 : Ty := (.pair (.slice (.pair .str (.pair (.int .i64) (.pair (.int .i64) .unit)))) (.pair (.slice (.pair (.int .i64) (.pair (.int .i64) .unit))) (.pair (.int .i64) .unit)))
abbrev t32 : Ty := t31
abbrev t33 : Ty := (.pair .str (.pair (.int .i64) (.pair (.int .i64) .unit)))
abbrev t34 : Ty := t33
abbrev t35 : Ty := (.pair (.int .i64) (.pair (.int .i64) .unit))
abbrev t36 : Ty := t35
abbrev t37 : Ty := (.slice (.flt .f32))
abbrev t38 : Ty := t2
abbrev t41 : Ty := t30
abbrev t42 : Ty := (.pair .str (.pair (.int .i64) (.pair (.slice (.flt .f32)) (.pair (.slice (.pair (.int .i64) (.pair (.int .i64) .unit))) .unit))))
abbrev t43 : Ty := t42
abbrev t44 : Ty := (.flt .f32)
abbrev t45 : Ty := t35
abbrev t46 : Ty := t35
abbrev t51 : Ty := t35
abbrev t52 : Ty := t35
abbrev t57 : Ty := t31
abbrev t58 : Ty := t31
abbrev t59 : Ty := (.func (.pair (.pair (.slice (.pair .str (.pair (.int .i64) (.pair (.int .i64) .unit)))) (.pair (.slice (.pair (.int .i64) (.pair (.int .i64) .unit))) (.pair (.int .i64) .unit))) .unit) (.pair (.pair (.slice (.pair .str (.pair (.int .i64) (.pair (.int .i64) .unit)))) (.pair (.slice (.pair (.int .i64) (.pair (.int .i64) .unit))) (.pair (.int .i64) .unit))) .unit))
abbrev t70 : Ty := (.func (.pair .str .unit) (.pair (.pair (.slice (.pair .str (.pair (.int .i64) (.pair (.int .i64) .unit)))) (.pair (.slice (.pair (.int .i64) (.pair (.int .i64) .unit))) (.pair (.int .i64) .unit))) (.pair (.int .i64) (.pair (.int .i64) .unit))))
abbrev t72 : Ty := (.func (.pair (.pair (.slice (.pair .str (.pair (.int .i64) (.pair (.int .i64) .unit)))) (.pair (.slice (.pair (.int .i64) (.pair (.int .i64) .unit))) (.pair (.int .i64) .unit))) (.pair .str .unit)) (.pair .bool .unit))
abbrev t73 : Ty := (.slice .str)
abbrev t75 : Ty := (.slice (.slice (.pair (.int .i64) (.pair (.int .i64) .unit))))
abbrev t84 : Ty := (.slice (.arr 2 (.int .i64)))
abbrev t88 : Ty := (.slice (.int .i64))
abbrev t92 : Ty := (.slice (.cplx .f32))
abbrev t96 : Ty := (.arr 2 (.int .i64))
abbrev t100 : Ty := (.cplx .f32)
abbrev t101 : Ty := t33
abbrev t105 : Ty := (.func (.pair (.int .i64) (.pair (.int .i64) .unit)) (.pair (.int .i64) .unit))
abbrev t111 : Ty := t75
abbrev t114 : Ty := (.func (.pair (.func (.pair (.int .i64) (.pair (.int .i64) .unit)) (.pair .bool .unit)) .unit) .unit)
abbrev t115 : Ty := t114
abbrev t118 : Ty := (.func (.pair (.pair (.int .i64) (.pair (.int .i64) .unit)) .unit) (.pair (.pair (.int .i64) (.pair (.int .i64) .unit)) .unit))
abbrev t119 : Ty := (.func (.pair (.int .i64) (.pair (.int .i64) .unit)) (.pair (.pair (.int .i64) (.pair (.int .i64) .unit)) .unit))
abbrev t125 : Ty := (.ref .unit)
abbrev t126 : Ty := (.slice (.int .u8))
abbrev t127 : Ty := (.pair (.ref .unit) (.pair (.slice (.int .u8)) .unit))
abbrev t128 : Ty := t127
abbrev t130 : Ty := .err
abbrev t133 : Ty := (.func (.pair (.int .i64) .unit) (.pair .str .unit))
abbrev t136 : Ty := (.func .unit (.pair .str .unit))
abbrev t139 : Ty := (.func (.pair .str (.pair .str .unit)) (.pair .str (.pair .str (.pair .bool .unit))))
abbrev t140 : Ty := (.ref (.pair (.slice .str) (.pair .bool .unit)))
abbrev t142 : Ty := (.pair (.slice .str) (.pair .bool .unit))
abbrev t143 : Ty := t142
abbrev t144 : Ty := .code
abbrev t145 : Ty := (.pair .str (.pair .code .unit))
abbrev t146 : Ty := t145
abbrev t147 : Ty := (.arr 2 (.pair .str (.pair .code .unit)))
abbrev t149 : Ty := (.ref (.pair (.slice (.pair .str (.pair (.int .i64) (.pair (.int .i64) .unit)))) (.pair (.slice (.pair (.int .i64) (.pair (.int .i64) .unit))) (.pair (.int .i64) .unit))))
abbrev t154 : Ty := (.arr 4 (.int .i64))
abbrev t160 : Ty := (.func (.pair (.pair .str (.pair (.int .i64) (.pair (.int .i64) .unit))) .unit) (.pair (.pair (.int .i64) (.pair (.int .i64) .unit)) .unit))
abbrev t164 : Ty := (.func (.pair (.slice (.flt .f32)) (.pair (.flt .f32) .unit)) (.pair (.slice (.int .i64)) (.pair (.int .i64) .unit)))
abbrev t167 : Ty := (.func (.pair (.pair (.int .i64) (.pair (.int .i64) .unit)) .unit) (.pair (.int .i64) .unit))
abbrev t168 : Ty := t88
abbrev t171 : Ty := (.func (.pair (.pair (.int .i64) (.pair (.int .i64) .unit)) .unit) (.pair (.cplx .f32) .unit))
abbrev t173 : Ty := (.func (.pair (.slice (.pair .str (.pair (.int .i64) (.pair (.int .i64) .unit)))) .unit) (.pair (.int .i64) .unit))
abbrev t175 : Ty := (.func (.pair (.pair .str (.pair (.int .i64) (.pair (.int .i64) .unit))) .unit) (.pair (.pair .str (.pair (.int .i64) (.pair (.int .i64) .unit))) .unit))
abbrev t178 : Ty := (.func (.pair (.pair .str (.pair (.int .i64) (.pair (.int .i64) .unit))) .unit) (.pair (.slice (.pair (.int .i64) (.pair (.int .i64) .unit))) .unit))
abbrev t180 : Ty := (.func (.pair (.int .i64) (.pair (.int .i64) .unit)) (.pair .bool .unit))
abbrev t184 : Ty := (.ref (.int .u8))
abbrev t186 : Ty := (.func .unit (.pair (.int .i64) .unit))
abbrev t188 : Ty := (.func (.pair (.flt .f32) .unit) (.pair (.int .i64) .unit))
abbrev t189 : Ty := (.map .str .bool)
abbrev t191 : Ty := (.arr 4 (.pair (.int .i64) (.pair (.int .i64) .unit)))
abbrev t195 : Ty := (.func (.pair (.pair (.int .i64) (.pair (.int .i64) .unit)) .unit) (.pair .bool .unit))
abbrev t197 : Ty := (.func (.pair (.flt .f32) .unit) (.pair .bool .unit))
abbrev t208 : Ty := (.arr 24 (.int .u8))
abbrev t209 : Ty := (.int .u64)
abbrev t210 : Ty := (.func (.pair (.int .u64) .unit) (.pair (.int .i64) .unit))
abbrev t213 : Ty := (.func (.pair (.slice (.int .u8)) (.pair (.int .u64) (.pair (.int .i64) (.pair .bool (.pair .bool .unit))))) (.pair (.slice (.int .u8)) (.pair .str .unit)))
abbrev t216 : Ty := t209
abbrev t221 : Ty := (.arr 20 (.int .u64))
abbrev t222 : Ty := (.int .u32)
abbrev t223 : Ty := (.arr 65 (.int .u8))
abbrev t228 : Ty := t2
abbrev t231 : Ty := (.ref (.pair .str (.pair .str (.pair .err .unit))))
abbrev t232 : Ty := (.func (.pair .str (.pair .str .unit)) (.pair (.ref (.pair .str (.pair .str (.pair .err .unit)))) .unit))
abbrev t233 : Ty := (.func (.pair .str (.pair .str (.pair (.int .i64) .unit))) (.pair (.ref (.pair .str (.pair .str (.pair .err .unit)))) .unit))
abbrev t236 : Ty := (.arr 256 (.int .u8))
abbrev t237 : Ty := (.pair (.int .u8) (.pair (.int .u8) .unit))
abbrev t238 : Ty := t237
abbrev t239 : Ty := (.arr 16 (.pair (.int .u8) (.pair (.int .u8) .unit)))
abbrev t243 : Ty := (.pair .str (.pair .str (.pair .err .unit)))
abbrev t244 : Ty := t243
abbrev t246 : Ty := (.arr 32 (.int .u8))
abbrev t247 : Ty := (.arr 64 (.int .u8))
abbrev t249 : Ty := (.ref (.pair .str .unit))
abbrev t250 : Ty := (.pair .str .unit)
abbrev t251 : Ty := t250
def T : List (TypeId × TyI) := [
  (2,⟨t2,0,[]⟩),
  (3,⟨t3,0,[]⟩),
  (4,⟨t4,0,[]⟩),
  (5,⟨t5,0,[]⟩),
  (9,⟨t9,0,[]⟩),
  (21,⟨t21,0,[]⟩),
  (22,⟨t22,101,[]⟩),
  (28,⟨t28,34,[]⟩),
  (30,⟨t30,36,[]⟩),
  (31,⟨t31,0,[(0,28),(1,30),(2,3)]⟩),
  (32,⟨t32,0,[(0,28),(1,30),(2,3)]⟩),
  (33,⟨t33,0,[(0,9),(1,3),(2,3)]⟩),
  (34,⟨t34,0,[(0,9),(1,3),(2,3)]⟩),
  (35,⟨t35,0,[(0,3),(1,3)]⟩),
  (36,⟨t36,0,[(0,3),(1,3)]⟩),
  (37,⟨t37,44,[]⟩),
  (38,⟨t38,0,[]⟩),
  (41,⟨t41,46,[]⟩),
  (42,⟨t42,0,[(0,9),(1,3),(2,37),(3,41)]⟩),
  (43,⟨t43,0,[(0,9),(1,3),(2,37),(3,41)]⟩),
  (44,⟨t44,0,[]⟩),
  (45,⟨t45,0,[(0,3),(1,3)]⟩),
  (46,⟨t46,0,[(0,3),(1,3)]⟩),
  (51,⟨t51,0,[(0,3),(1,3)]⟩),
  (52,⟨t52,0,[(0,3),(1,3)]⟩),
  (57,⟨t57,0,[(0,22),(1,30),(2,3)]⟩),
  (58,⟨t58,0,[(0,22),(1,30),(2,3)]⟩),
  (59,⟨t59,0,[]⟩),
  (70,⟨t70,0,[]⟩),
  (72,⟨t72,0,[]⟩),
  (73,⟨t73,9,[]⟩),
  (75,⟨t75,30,[]⟩),
  (84,⟨t84,96,[]⟩),
  (88,⟨t88,3,[]⟩),
  (92,⟨t92,100,[]⟩),
  (96,⟨t96,3,[]⟩),
  (100,⟨t100,0,[]⟩),
  (101,⟨t101,0,[(0,9),(1,3),(2,3)]⟩),
  (105,⟨t105,0,[]⟩),
  (111,⟨t111,30,[]⟩),
  (114,⟨t114,0,[]⟩),
  (115,⟨t115,0,[]⟩),
  (118,⟨t118,0,[]⟩),
  (119,⟨t119,0,[]⟩),
  (125,⟨t125,128,[]⟩),
  (126,⟨t126,5,[]⟩),
  (127,⟨t127,0,[(0,125),(1,126)]⟩),
  (128,⟨t128,0,[(0,125),(1,126)]⟩),
  (130,⟨t130,0,[]⟩),
  (133,⟨t133,0,[]⟩),
  (136,⟨t136,0,[]⟩),
  (139,⟨t139,0,[]⟩),
  (140,⟨t140,143,[]⟩),
  (142,⟨t142,0,[(0,73),(1,4)]⟩),
  (143,⟨t143,0,[(0,73),(1,4)]⟩),
  (144,⟨t144,0,[]⟩),
  (145,⟨t145,0,[(0,9),(1,144)]⟩),
  (146,⟨t146,0,[(0,9),(1,144)]⟩),
  (147,⟨t147,146,[]⟩),
  (149,⟨t149,32,[]⟩),
  (154,⟨t154,3,[]⟩),
  (160,⟨t160,0,[]⟩),
  (164,⟨t164,0,[]⟩),
  (167,⟨t167,0,[]⟩),
  (168,⟨t168,38,[]⟩),
  (171,⟨t171,0,[]⟩),
  (173,⟨t173,0,[]⟩),
  (175,⟨t175,0,[]⟩),
  (178,⟨t178,0,[]⟩),
  (180,⟨t180,0,[]⟩),
  (184,⟨t184,5,[]⟩),
  (186,⟨t186,0,[]⟩),
  (188,⟨t188,0,[]⟩),
  (189,⟨t189,0,[]⟩),
  (191,⟨t191,36,[]⟩),
  (195,⟨t195,0,[]⟩),
  (197,⟨t197,0,[]⟩),
  (208,⟨t208,5,[]⟩),
  (209,⟨t209,0,[]⟩),
  (210,⟨t210,0,[]⟩),
  (213,⟨t213,0,[]⟩),
  (216,⟨t216,0,[]⟩),
  (221,⟨t221,209,[]⟩),
  (222,⟨t222,0,[]⟩),
  (223,⟨t223,5,[]⟩),
  (228,⟨t228,0,[]⟩),
  (231,⟨t231,244,[]⟩),
  (232,⟨t232,0,[]⟩),
  (233,⟨t233,0,[]⟩),
  (236,⟨t236,5,[]⟩),
  (237,⟨t237,0,[(0,5),(1,5)]⟩),
  (238,⟨t238,0,[(0,5),(1,5)]⟩),
  (239,⟨t239,238,[]⟩),
  (243,⟨t243,0,[(0,9),(1,9),(2,130)]⟩),
  (244,⟨t244,0,[(0,9),(1,9),(2,130)]⟩),
  (246,⟨t246,5,[]⟩),
  (247,⟨t247,5,[]⟩),
  (249,⟨t249,251,[]⟩),
  (250,⟨t250,0,[(0,9)]⟩),
  (251,⟨t251,0,[(0,9)]⟩)
]
end Go.Vx.B
