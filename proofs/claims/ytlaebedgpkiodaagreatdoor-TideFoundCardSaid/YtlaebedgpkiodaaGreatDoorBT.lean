/- The table of types,by program (tygen.py). -/
import Derived.Test.YtlaebedgpkiodaaGreatDoorVA

namespace Go.Vx.B
abbrev t1 : Ty := (.func .unit .unit)
abbrev t2 : Ty := (.int .i64)
abbrev t3 : Ty := t2
abbrev t4 : Ty := .bool
abbrev t5 : Ty := (.int .u8)
abbrev t9 : Ty := .str
abbrev t21 : Ty := (.int .i32)
abbrev t22 : Ty := (.slice (.pair .str (.pair (.int .i64) (.pair (.int .i64) .unit))))
abbrev t23 : Ty := (.int .u16)
abbrev t24 : Ty := (.arr 6 (.int .u8))
abbrev t28 : Ty := t22
abbrev t30 : Ty := (.slice (.pair (.int .i64) (.pair (.int .i64) .unit)))
abbrev t31 : Ty := (.pair (.slice (.pair .str (.pair (.int .i64) (.pair (.int .i64) .unit)))) (.pair (.slice (.pair (.int .i64) (.pair (.int .i64) .unit))) (.pair (.int .i64) .unit)))
abbrev t32 : Ty := t31
abbrev t33 : Ty := (.pair .str (.pair (.int .i64) (.pair (.int .i64) .unit)))
abbrev t34 : Ty := t33
abbrev t35 : Ty := (.pair (.int .i64) (.pair (.int .i64) .unit))
abbrev t36 : Ty := t35
abbrev t37 : Ty := (.slice (.flt .f32))
abbrev t38 : Ty := t2
abbrev t41 : Ty := t30
abbrev t42 : Ty := (.pair .str (.pair (.int .i64) (.pair (.slice (.flt .f32)) (.pair (.slice (.pair (.int .i64) (.pair (.int .i64) .unit))) .unit))))
abbrev t43 : Ty := t42
abbrev t44 : Ty := (.flt .f32)
abbrev t45 : Ty := t35
abbrev t46 : Ty := t35
abbrev t51 : Ty := t35
abbrev t52 : Ty := t35
abbrev t57 : Ty := t31
abbrev t58 : Ty := t31
abbrev t70 : Ty := (.func (.pair .str .unit) (.pair (.pair (.slice (.pair .str (.pair (.int .i64) (.pair (.int .i64) .unit)))) (.pair (.slice (.pair (.int .i64) (.pair (.int .i64) .unit))) (.pair (.int .i64) .unit))) (.pair (.int .i64) (.pair (.int .i64) .unit))))
abbrev t72 : Ty := (.func (.pair (.pair (.slice (.pair .str (.pair (.int .i64) (.pair (.int .i64) .unit)))) (.pair (.slice (.pair (.int .i64) (.pair (.int .i64) .unit))) (.pair (.int .i64) .unit))) (.pair .str .unit)) (.pair .bool .unit))
abbrev t73 : Ty := (.slice .str)
abbrev t75 : Ty := (.slice (.slice (.pair (.int .i64) (.pair (.int .i64) .unit))))
abbrev t84 : Ty := (.slice (.arr 2 (.int .i64)))
abbrev t88 : Ty := (.slice (.int .i64))
abbrev t92 : Ty := (.slice (.cplx .f32))
abbrev t96 : Ty := (.arr 2 (.int .i64))
abbrev t100 : Ty := (.cplx .f32)
abbrev t101 : Ty := t33
abbrev t111 : Ty := t75
abbrev t114 : Ty := (.func (.pair (.func (.pair (.int .i64) (.pair (.int .i64) .unit)) (.pair .bool .unit)) .unit) .unit)
abbrev t115 : Ty := t114
abbrev t118 : Ty := (.func (.pair (.pair (.int .i64) (.pair (.int .i64) .unit)) .unit) (.pair (.pair (.int .i64) (.pair (.int .i64) .unit)) .unit))
abbrev t125 : Ty := (.ref .unit)
abbrev t126 : Ty := (.slice (.int .u8))
abbrev t127 : Ty := (.pair (.ref .unit) (.pair (.slice (.int .u8)) .unit))
abbrev t128 : Ty := t127
abbrev t130 : Ty := .err
abbrev t133 : Ty := (.func (.pair (.int .i64) .unit) (.pair .str .unit))
abbrev t160 : Ty := (.func (.pair (.pair .str (.pair (.int .i64) (.pair (.int .i64) .unit))) .unit) (.pair (.pair (.int .i64) (.pair (.int .i64) .unit)) .unit))
abbrev t164 : Ty := (.func (.pair (.slice (.flt .f32)) (.pair (.flt .f32) .unit)) (.pair (.slice (.int .i64)) (.pair (.int .i64) .unit)))
abbrev t167 : Ty := (.func (.pair (.pair (.int .i64) (.pair (.int .i64) .unit)) .unit) (.pair (.int .i64) .unit))
abbrev t168 : Ty := t88
abbrev t171 : Ty := (.func (.pair (.pair (.int .i64) (.pair (.int .i64) .unit)) .unit) (.pair (.cplx .f32) .unit))
abbrev t173 : Ty := (.func (.pair (.slice (.pair .str (.pair (.int .i64) (.pair (.int .i64) .unit)))) .unit) (.pair (.int .i64) .unit))
abbrev t175 : Ty := (.func (.pair (.pair .str (.pair (.int .i64) (.pair (.int .i64) .unit))) .unit) (.pair (.pair .str (.pair (.int .i64) (.pair (.int .i64) .unit))) .unit))
abbrev t178 : Ty := (.func (.pair (.pair .str (.pair (.int .i64) (.pair (.int .i64) .unit))) .unit) (.pair (.slice (.pair (.int .i64) (.pair (.int .i64) .unit))) .unit))
abbrev t180 : Ty := (.func (.pair (.int .i64) (.pair (.int .i64) .unit)) (.pair .bool .unit))
abbrev t184 : Ty := (.ref (.int .u8))
abbrev t188 : Ty := (.func (.pair (.flt .f32) .unit) (.pair (.int .i64) .unit))
abbrev t189 : Ty := (.map .str .bool)
abbrev t191 : Ty := (.arr 4 (.pair (.int .i64) (.pair (.int .i64) .unit)))
abbrev t195 : Ty := (.func (.pair (.pair (.int .i64) (.pair (.int .i64) .unit)) .unit) (.pair .bool .unit))
abbrev t197 : Ty := (.func (.pair (.flt .f32) .unit) (.pair .bool .unit))
abbrev t208 : Ty := (.arr 24 (.int .u8))
abbrev t209 : Ty := (.int .u64)
abbrev t213 : Ty := (.func (.pair (.slice (.int .u8)) (.pair (.int .u64) (.pair (.int .i64) (.pair .bool (.pair .bool .unit))))) (.pair (.slice (.int .u8)) (.pair .str .unit)))
abbrev t216 : Ty := t209
abbrev t221 : Ty := (.arr 20 (.int .u64))
abbrev t222 : Ty := (.int .u32)
abbrev t223 : Ty := (.arr 65 (.int .u8))
abbrev t232 : Ty := (.func (.pair .str (.pair .str .unit)) (.pair (.ref (.pair .str (.pair .str (.pair .err .unit)))) .unit))
abbrev t233 : Ty := (.func (.pair .str (.pair .str (.pair (.int .i64) .unit))) (.pair (.ref (.pair .str (.pair .str (.pair .err .unit)))) .unit))
abbrev t246 : Ty := (.arr 32 (.int .u8))
abbrev t247 : Ty := (.arr 64 (.int .u8))
def T : List (TypeId × TyI) := [
  (1,⟨t1,0,[]⟩),
  (2,⟨t2,0,[]⟩),
  (3,⟨t3,0,[]⟩),
  (4,⟨t4,0,[]⟩),
  (5,⟨t5,0,[]⟩),
  (9,⟨t9,0,[]⟩),
  (21,⟨t21,0,[]⟩),
  (22,⟨t22,101,[]⟩),
  (23,⟨t23,0,[]⟩),
  (24,⟨t24,5,[]⟩),
  (28,⟨t28,34,[]⟩),
  (30,⟨t30,36,[]⟩),
  (31,⟨t31,0,[(0,28),(1,30),(2,3)]⟩),
  (32,⟨t32,0,[(0,28),(1,30),(2,3)]⟩),
  (33,⟨t33,0,[(0,9),(1,3),(2,3)]⟩),
  (34,⟨t34,0,[(0,9),(1,3),(2,3)]⟩),
  (35,⟨t35,0,[(0,3),(1,3)]⟩),
  (36,⟨t36,0,[(0,3),(1,3)]⟩),
  (37,⟨t37,44,[]⟩),
  (38,⟨t38,0,[]⟩),
  (41,⟨t41,46,[]⟩),
  (42,⟨t42,0,[(0,9),(1,3),(2,37),(3,41)]⟩),
  (43,⟨t43,0,[(0,9),(1,3),(2,37),(3,41)]⟩),
  (44,⟨t44,0,[]⟩),
  (45,⟨t45,0,[(0,3),(1,3)]⟩),
  (46,⟨t46,0,[(0,3),(1,3)]⟩),
  (51,⟨t51,0,[(0,3),(1,3)]⟩),
  (52,⟨t52,0,[(0,3),(1,3)]⟩),
  (57,⟨t57,0,[(0,22),(1,30),(2,3)]⟩),
  (58,⟨t58,0,[(0,22),(1,30),(2,3)]⟩),
  (70,⟨t70,0,[]⟩),
  (72,⟨t72,0,[]⟩),
  (73,⟨t73,9,[]⟩),
  (75,⟨t75,30,[]⟩),
  (84,⟨t84,96,[]⟩),
  (88,⟨t88,3,[]⟩),
  (92,⟨t92,100,[]⟩),
  (96,⟨t96,3,[]⟩),
  (100,⟨t100,0,[]⟩),
  (101,⟨t101,0,[(0,9),(1,3),(2,3)]⟩),
  (111,⟨t111,30,[]⟩),
  (114,⟨t114,0,[]⟩),
  (115,⟨t115,0,[]⟩),
  (118,⟨t118,0,[]⟩),
  (125,⟨t125,128,[]⟩),
  (126,⟨t126,5,[]⟩),
  (127,⟨t127,0,[(0,125),(1,126)]⟩),
  (128,⟨t128,0,[(0,125),(1,126)]⟩),
  (130,⟨t130,0,[]⟩),
  (133,⟨t133,0,[]⟩),
  (160,⟨t160,0,[]⟩),
  (164,⟨t164,0,[]⟩),
  (167,⟨t167,0,[]⟩),
  (168,⟨t168,38,[]⟩),
  (171,⟨t171,0,[]⟩),
  (173,⟨t173,0,[]⟩),
  (175,⟨t175,0,[]⟩),
  (178,⟨t178,0,[]⟩),
  (180,⟨t180,0,[]⟩),
  (184,⟨t184,5,[]⟩),
  (188,⟨t188,0,[]⟩),
  (189,⟨t189,0,[]⟩),
  (191,⟨t191,36,[]⟩),
  (195,⟨t195,0,[]⟩),
  (197,⟨t197,0,[]⟩),
  (208,⟨t208,5,[]⟩),
  (209,⟨t209,0,[]⟩),
  (213,⟨t213,0,[]⟩),
  (216,⟨t216,0,[]⟩),
  (221,⟨t221,209,[]⟩),
  (222,⟨t222,0,[]⟩),
  (223,⟨t223,5,[]⟩),
  (232,⟨t232,0,[]⟩),
  (233,⟨t233,0,[]⟩),
  (246,⟨t246,5,[]⟩),
  (247,⟨t247,5,[]⟩)
]
end Go.Vx.B
