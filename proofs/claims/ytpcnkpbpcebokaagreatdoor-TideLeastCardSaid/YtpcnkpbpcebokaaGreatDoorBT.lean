/- The table of types,by program (tygen.py). -/
import Derived.Test.YtpcnkpbpcebokaaGreatDoorVA

namespace Go.Vx.B
abbrev t1 : Ty := (.func .unit .unit)
abbrev t2 : Ty := (.int .i64)
abbrev t3 : Ty := t2
abbrev t4 : Ty := .bool
abbrev t5 : Ty := (.int .u8)
abbrev t9 : Ty := .str
abbrev t21 : Ty := (.int .i32)
abbrev t22 : Ty := (.slice (.pair .str (.pair (.int .i64) (.pair (.int .i64) .unit))))
abbrev t23 : Ty := (.slice (.pair (.int .i64) (.pair (.int .i64) .unit)))
abbrev t28 : Ty := t2
abbrev t31 : Ty := t22
abbrev t32 : Ty := (.pair (.slice (.pair .str (.pair (.int .i64) (.pair (.int .i64) .unit)))) (.pair (.slice (.pair (.int .i64) (.pair (.int .i64) .unit))) (.pair (.int .i64) .unit)))
abbrev t33 : Ty := t32
abbrev t35 : Ty := (.slice (.flt .f32))
abbrev t37 : Ty := (.func (.pair (.pair (.slice (.pair .str (.pair (.int .i64) (.pair (.int .i64) .unit)))) (.pair (.slice (.pair (.int .i64) (.pair (.int .i64) .unit))) (.pair (.int .i64) .unit))) (.pair (.int .i64) (.pair (.int .i64) .unit))) (.pair (.slice (.flt .f32)) (.pair (.int .i64) .unit)))
abbrev t41 : Ty := (.slice (.int .i64))
abbrev t46 : Ty := (.func (.pair (.slice (.pair (.int .i64) (.pair (.int .i64) .unit))) (.pair (.slice (.pair (.int .i64) (.pair (.int .i64) .unit))) .unit)) (.pair .bool .unit))
abbrev t51 : Ty := (.func (.pair (.slice (.pair .str (.pair (.int .i64) (.pair (.int .i64) .unit)))) .unit) (.pair .bool .unit))
abbrev t53 : Ty := (.func (.pair (.slice (.pair .str (.pair (.int .i64) (.pair (.int .i64) .unit)))) .unit) (.pair (.slice (.pair .str (.pair (.int .i64) (.pair (.int .i64) .unit)))) .unit))
abbrev t54 : Ty := (.pair .str (.pair (.int .i64) (.pair (.int .i64) .unit)))
abbrev t55 : Ty := t54
abbrev t56 : Ty := (.pair (.int .i64) (.pair (.int .i64) .unit))
abbrev t57 : Ty := t56
abbrev t58 : Ty := t23
abbrev t59 : Ty := (.pair .str (.pair (.int .i64) (.pair (.slice (.flt .f32)) (.pair (.slice (.pair (.int .i64) (.pair (.int .i64) .unit))) .unit))))
abbrev t60 : Ty := t59
abbrev t61 : Ty := (.flt .f32)
abbrev t62 : Ty := t56
abbrev t63 : Ty := t56
abbrev t68 : Ty := t56
abbrev t69 : Ty := t56
abbrev t72 : Ty := (.func (.pair (.pair .str (.pair (.int .i64) (.pair (.slice (.flt .f32)) (.pair (.slice (.pair (.int .i64) (.pair (.int .i64) .unit))) .unit)))) (.pair (.pair (.slice (.pair .str (.pair (.int .i64) (.pair (.int .i64) .unit)))) (.pair (.slice (.pair (.int .i64) (.pair (.int .i64) .unit))) (.pair (.int .i64) .unit))) .unit)) (.pair (.pair (.int .i64) (.pair (.int .i64) .unit)) (.pair (.int .i64) .unit)))
abbrev t75 : Ty := (.func (.pair (.slice (.pair .str (.pair (.int .i64) (.pair (.int .i64) .unit)))) (.pair (.int .u16) (.pair (.arr 6 (.int .u8)) .unit))) (.pair .bool .unit))
abbrev t76 : Ty := (.func (.pair (.pair (.slice (.pair .str (.pair (.int .i64) (.pair (.int .i64) .unit)))) (.pair (.slice (.pair (.int .i64) (.pair (.int .i64) .unit))) (.pair (.int .i64) .unit))) (.pair (.pair (.slice (.pair .str (.pair (.int .i64) (.pair (.int .i64) .unit)))) (.pair (.slice (.pair (.int .i64) (.pair (.int .i64) .unit))) (.pair (.int .i64) .unit))) .unit)) (.pair (.pair (.slice (.pair .str (.pair (.int .i64) (.pair (.int .i64) .unit)))) (.pair (.slice (.pair (.int .i64) (.pair (.int .i64) .unit))) (.pair (.int .i64) .unit))) (.pair (.int .i64) .unit)))
abbrev t79 : Ty := (.slice (.cplx .f32))
abbrev t94 : Ty := t59
abbrev t96 : Ty := (.slice (.slice (.pair (.int .i64) (.pair (.int .i64) .unit))))
abbrev t100 : Ty := (.slice (.arr 2 (.int .i64)))
abbrev t122 : Ty := (.int .i8)
abbrev t123 : Ty := (.arr 2 (.int .i8))
abbrev t126 : Ty := t54
abbrev t127 : Ty := (.func (.pair (.pair (.int .i64) (.pair (.int .i64) .unit)) (.pair (.pair (.int .i64) (.pair (.int .i64) .unit)) .unit)) (.pair (.pair (.int .i64) (.pair (.int .i64) .unit)) .unit))
abbrev t129 : Ty := (.func (.pair (.pair (.int .i64) (.pair (.int .i64) .unit)) .unit) (.pair (.pair (.int .i64) (.pair (.int .i64) .unit)) .unit))
abbrev t137 : Ty := (.func (.pair (.pair .str (.pair (.int .i64) (.pair (.slice (.flt .f32)) (.pair (.slice (.pair (.int .i64) (.pair (.int .i64) .unit))) .unit)))) (.pair (.slice (.pair .str (.pair (.int .i64) (.pair (.int .i64) .unit)))) (.pair (.int .i64) .unit))) (.pair .bool .unit))
abbrev t138 : Ty := (.func (.pair (.pair .str (.pair (.int .i64) (.pair (.slice (.flt .f32)) (.pair (.slice (.pair (.int .i64) (.pair (.int .i64) .unit))) .unit)))) (.pair (.slice (.pair .str (.pair (.int .i64) (.pair (.int .i64) .unit)))) .unit)) (.pair (.slice (.pair (.int .i64) (.pair (.int .i64) .unit))) (.pair (.int .i64) .unit)))
abbrev t142 : Ty := t138
abbrev t143 : Ty := (.func (.pair (.pair .str (.pair (.int .i64) (.pair (.slice (.flt .f32)) (.pair (.slice (.pair (.int .i64) (.pair (.int .i64) .unit))) .unit)))) (.pair (.slice (.pair .str (.pair (.int .i64) (.pair (.int .i64) .unit)))) (.pair (.slice (.pair (.int .i64) (.pair (.int .i64) .unit))) .unit))) (.pair .bool .unit))
abbrev t145 : Ty := (.arr 2 (.int .i64))
abbrev t160 : Ty := (.func (.pair (.pair (.slice (.pair .str (.pair (.int .i64) (.pair (.int .i64) .unit)))) (.pair (.slice (.pair (.int .i64) (.pair (.int .i64) .unit))) (.pair (.int .i64) .unit))) (.pair .str .unit)) (.pair .bool .unit))
abbrev t161 : Ty := (.slice .str)
abbrev t164 : Ty := (.func (.pair .str .unit) (.pair (.slice (.pair .str (.pair (.int .i64) (.pair (.int .i64) .unit)))) .unit))
abbrev t165 : Ty := (.cplx .f32)
abbrev t171 : Ty := (.func (.pair (.slice (.pair (.int .i64) (.pair (.int .i64) .unit))) (.pair (.int .i64) .unit)) (.pair (.int .i64) .unit))
abbrev t173 : Ty := (.func (.pair .bool (.pair (.int .i64) .unit)) (.pair (.int .i64) .unit))
abbrev t175 : Ty := t41
abbrev t177 : Ty := (.func (.pair (.pair (.int .i64) (.pair (.int .i64) .unit)) .unit) (.pair (.int .i64) .unit))
abbrev t183 : Ty := t96
abbrev t186 : Ty := (.func (.pair (.func (.pair (.int .i64) (.pair (.int .i64) .unit)) (.pair .bool .unit)) .unit) .unit)
abbrev t187 : Ty := t186
abbrev t192 : Ty := (.func (.pair (.pair .str (.pair (.int .i64) (.pair (.int .i64) .unit))) .unit) (.pair (.pair .str (.pair (.int .i64) (.pair (.int .i64) .unit))) .unit))
abbrev t196 : Ty := (.func (.pair (.pair (.int .i64) (.pair (.int .i64) .unit)) .unit) (.pair (.cplx .f32) .unit))
abbrev t210 : Ty := (.flt .f64)
abbrev t212 : Ty := (.func .unit (.pair (.int .i64) .unit))
abbrev t213 : Ty := (.map .str .bool)
abbrev t215 : Ty := (.func (.pair (.pair .str (.pair (.int .i64) (.pair (.int .i64) .unit))) .unit) (.pair (.pair (.int .i64) (.pair (.int .i64) .unit)) .unit))
abbrev t225 : Ty := (.ref .unit)
abbrev t226 : Ty := (.slice (.int .u8))
abbrev t227 : Ty := (.pair (.ref .unit) (.pair (.slice (.int .u8)) .unit))
abbrev t228 : Ty := t227
abbrev t230 : Ty := .err
abbrev t232 : Ty := (.func (.pair .str .unit) (.pair (.int .i64) (.pair .err .unit)))
abbrev t233 : Ty := (.func (.pair (.int .i64) .unit) (.pair .str .unit))
abbrev t255 : Ty := (.func (.pair (.pair .str (.pair (.int .i64) (.pair (.int .i64) .unit))) .unit) (.pair (.slice (.pair (.int .i64) (.pair (.int .i64) .unit))) .unit))
abbrev t257 : Ty := (.func (.pair (.int .i64) (.pair (.int .i64) .unit)) (.pair .bool .unit))
abbrev t259 : Ty := (.func (.pair (.flt .f32) .unit) (.pair (.int .i64) .unit))
abbrev t263 : Ty := (.func (.pair (.pair (.int .i64) (.pair (.int .i64) .unit)) .unit) (.pair .bool .unit))
abbrev t265 : Ty := (.func (.pair (.flt .f32) .unit) (.pair .bool .unit))
abbrev t267 : Ty := (.arr 4 (.pair (.int .i64) (.pair (.int .i64) .unit)))
abbrev t272 : Ty := (.ref (.int .u8))
abbrev t279 : Ty := (.int .u64)
abbrev t290 : Ty := (.arr 24 (.int .u8))
abbrev t297 : Ty := t279
abbrev t302 : Ty := (.arr 20 (.int .u64))
abbrev t303 : Ty := (.int .u32)
abbrev t304 : Ty := (.arr 65 (.int .u8))
abbrev t327 : Ty := (.arr 32 (.int .u8))
abbrev t328 : Ty := (.arr 64 (.int .u8))
def T : List (TypeId × TyI) := [
  (1,⟨t1,0,[]⟩),
  (2,⟨t2,0,[]⟩),
  (3,⟨t3,0,[]⟩),
  (4,⟨t4,0,[]⟩),
  (5,⟨t5,0,[]⟩),
  (9,⟨t9,0,[]⟩),
  (21,⟨t21,0,[]⟩),
  (22,⟨t22,126,[]⟩),
  (23,⟨t23,57,[]⟩),
  (28,⟨t28,0,[]⟩),
  (31,⟨t31,55,[]⟩),
  (32,⟨t32,0,[(0,31),(1,23),(2,3)]⟩),
  (33,⟨t33,0,[(0,31),(1,23),(2,3)]⟩),
  (35,⟨t35,61,[]⟩),
  (37,⟨t37,0,[]⟩),
  (41,⟨t41,3,[]⟩),
  (46,⟨t46,0,[]⟩),
  (51,⟨t51,0,[]⟩),
  (53,⟨t53,0,[]⟩),
  (54,⟨t54,0,[(0,9),(1,3),(2,3)]⟩),
  (55,⟨t55,0,[(0,9),(1,3),(2,3)]⟩),
  (56,⟨t56,0,[(0,3),(1,3)]⟩),
  (57,⟨t57,0,[(0,3),(1,3)]⟩),
  (58,⟨t58,63,[]⟩),
  (59,⟨t59,0,[(0,9),(1,3),(2,35),(3,58)]⟩),
  (60,⟨t60,0,[(0,9),(1,3),(2,35),(3,58)]⟩),
  (61,⟨t61,0,[]⟩),
  (62,⟨t62,0,[(0,3),(1,3)]⟩),
  (63,⟨t63,0,[(0,3),(1,3)]⟩),
  (68,⟨t68,0,[(0,3),(1,3)]⟩),
  (69,⟨t69,0,[(0,3),(1,3)]⟩),
  (72,⟨t72,0,[]⟩),
  (75,⟨t75,0,[]⟩),
  (76,⟨t76,0,[]⟩),
  (79,⟨t79,165,[]⟩),
  (94,⟨t94,0,[(0,9),(1,3),(2,35),(3,58)]⟩),
  (96,⟨t96,23,[]⟩),
  (100,⟨t100,145,[]⟩),
  (122,⟨t122,0,[]⟩),
  (123,⟨t123,122,[]⟩),
  (126,⟨t126,0,[(0,9),(1,3),(2,3)]⟩),
  (127,⟨t127,0,[]⟩),
  (129,⟨t129,0,[]⟩),
  (137,⟨t137,0,[]⟩),
  (138,⟨t138,0,[]⟩),
  (142,⟨t142,0,[]⟩),
  (143,⟨t143,0,[]⟩),
  (145,⟨t145,3,[]⟩),
  (160,⟨t160,0,[]⟩),
  (161,⟨t161,9,[]⟩),
  (164,⟨t164,0,[]⟩),
  (165,⟨t165,0,[]⟩),
  (171,⟨t171,0,[]⟩),
  (173,⟨t173,0,[]⟩),
  (175,⟨t175,28,[]⟩),
  (177,⟨t177,0,[]⟩),
  (183,⟨t183,23,[]⟩),
  (186,⟨t186,0,[]⟩),
  (187,⟨t187,0,[]⟩),
  (192,⟨t192,0,[]⟩),
  (196,⟨t196,0,[]⟩),
  (210,⟨t210,0,[]⟩),
  (212,⟨t212,0,[]⟩),
  (213,⟨t213,0,[]⟩),
  (215,⟨t215,0,[]⟩),
  (225,⟨t225,228,[]⟩),
  (226,⟨t226,5,[]⟩),
  (227,⟨t227,0,[(0,225),(1,226)]⟩),
  (228,⟨t228,0,[(0,225),(1,226)]⟩),
  (230,⟨t230,0,[]⟩),
  (232,⟨t232,0,[]⟩),
  (233,⟨t233,0,[]⟩),
  (255,⟨t255,0,[]⟩),
  (257,⟨t257,0,[]⟩),
  (259,⟨t259,0,[]⟩),
  (263,⟨t263,0,[]⟩),
  (265,⟨t265,0,[]⟩),
  (267,⟨t267,57,[]⟩),
  (272,⟨t272,5,[]⟩),
  (279,⟨t279,0,[]⟩),
  (290,⟨t290,5,[]⟩),
  (297,⟨t297,0,[]⟩),
  (302,⟨t302,279,[]⟩),
  (303,⟨t303,0,[]⟩),
  (304,⟨t304,5,[]⟩),
  (327,⟨t327,5,[]⟩),
  (328,⟨t328,5,[]⟩)
]
end Go.Vx.B
