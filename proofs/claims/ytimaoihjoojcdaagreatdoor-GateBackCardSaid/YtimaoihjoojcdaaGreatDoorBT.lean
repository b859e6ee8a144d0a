/- The table of types,by program (tygen.py). -/
import Derived.Test.YtimaoihjoojcdaaGreatDoorVA

namespace Go.Vx.B
abbrev t2 : Ty := (.int .i64)
abbrev t3 : Ty := t2
abbrev t4 : Ty := .bool
abbrev t5 : Ty := (.int .u8)
abbrev t9 : Ty := .str
abbrev t21 : Ty := (.int .i32)
abbrev t22 : Ty := (.slice (.pair .str (.pair (.int .i64) (.pair (.int .i64) (.pair .bool .unit)))))
abbrev t23 : Ty := (.slice (.pair (.int .i64) (.pair .str (.pair (.int .i64) (.pair (.int .i64) (.pair (.int .i64) .unit))))))
abbrev t24 : Ty := (.pair (.slice (.pair .str (.pair (.int .i64) (.pair (.int .i64) (.pair .bool .unit))))) (.pair (.slice (.pair (.int .i64) (.pair .str (.pair (.int .i64) (.pair (.int .i64) (.pair (.int .i64) .unit)))))) .unit))
abbrev t25 : Ty := t24
abbrev t28 : Ty := t2
abbrev t31 : Ty := t22
abbrev t32 : Ty := t23
abbrev t33 : Ty := t24
abbrev t34 : Ty := t24
abbrev t37 : Ty := (.func (.pair .str .unit) (.pair (.pair (.slice (.pair .str (.pair (.int .i64) (.pair (.int .i64) (.pair .bool .unit))))) (.pair (.slice (.pair (.int .i64) (.pair .str (.pair (.int .i64) (.pair (.int .i64) (.pair (.int .i64) .unit)))))) .unit)) (.pair (.int .i64) (.pair (.int .i64) .unit))))
abbrev t45 : Ty := (.slice (.int .i64))
abbrev t51 : Ty := (.slice .str)
abbrev t53 : Ty := (.func (.pair (.pair (.slice (.pair .str (.pair (.int .i64) (.pair (.int .i64) (.pair .bool .unit))))) (.pair (.slice (.pair (.int .i64) (.pair .str (.pair (.int .i64) (.pair (.int .i64) (.pair (.int .i64) .unit)))))) .unit)) .unit) (.pair (.slice .str) (.pair (.int .i64) .unit)))
abbrev t55 : Ty := (.pair .str (.pair (.int .i64) .unit))
abbrev t56 : Ty := t55
abbrev t57 : Ty := (.slice (.pair .str (.pair (.int .i64) .unit)))
abbrev t61 : Ty := (.slice (.pair (.int .i64) (.pair .str (.pair (.int .i64) .unit))))
abbrev t64 : Ty := (.pair (.int .i64) (.pair .str (.pair (.int .i64) (.pair (.int .i64) (.pair (.int .i64) .unit)))))
abbrev t65 : Ty := t64
abbrev t69 : Ty := t57
abbrev t70 : Ty := (.func (.pair (.slice (.pair .str (.pair (.int .i64) .unit))) .unit) (.pair (.slice (.pair .str (.pair (.int .i64) .unit))) .unit))
abbrev t71 : Ty := t55
abbrev t72 : Ty := (.pair (.int .i64) (.pair .str (.pair (.int .i64) .unit)))
abbrev t73 : Ty := t72
abbrev t75 : Ty := (.func (.pair (.slice (.pair (.int .i64) (.pair (.int .i64) (.pair .str .unit)))) .unit) (.pair (.slice .str) (.pair (.int .i64) (.pair (.int .i64) .unit))))
abbrev t76 : Ty := (.pair (.int .i64) (.pair (.int .i64) (.pair .str .unit)))
abbrev t77 : Ty := t76
abbrev t78 : Ty := (.slice (.pair (.int .i64) (.pair (.int .i64) (.pair .str .unit))))
abbrev t81 : Ty := (.slice (.pair .str (.pair (.int .i64) (.pair (.int .i64) (.pair (.int .i64) .unit)))))
abbrev t84 : Ty := (.pair (.slice (.int .i64)) (.pair (.slice (.int .i64)) (.pair (.int .i64) (.pair (.int .i64) .unit))))
abbrev t85 : Ty := t84
abbrev t87 : Ty := t81
abbrev t89 : Ty := (.pair .str (.pair (.int .i64) (.pair (.int .i64) (.pair (.int .i64) .unit))))
abbrev t90 : Ty := t89
abbrev t91 : Ty := (.pair .str (.pair (.int .i64) (.pair (.int .i64) (.pair .bool .unit))))
abbrev t92 : Ty := t91
abbrev t93 : Ty := t64
abbrev t95 : Ty := (.ref .unit)
abbrev t96 : Ty := (.slice (.int .u8))
abbrev t97 : Ty := (.pair (.ref .unit) (.pair (.slice (.int .u8)) .unit))
abbrev t98 : Ty := t97
abbrev t100 : Ty := .err
abbrev t104 : Ty := (.func (.pair (.slice .str) .unit) .unit)
abbrev t105 : Ty := t91
abbrev t108 : Ty := (.func (.pair (.func (.pair .str .unit) (.pair .bool .unit)) .unit) .unit)
abbrev t109 : Ty := t108
abbrev t119 : Ty := (.func (.pair (.slice (.int .i64)) .unit) (.pair (.int .i64) .unit))
abbrev t127 : Ty := (.func .unit (.pair (.slice .str) .unit))
abbrev t131 : Ty := t89
abbrev t132 : Ty := (.func (.pair (.int .i64) .unit) (.pair (.int .i64) .unit))
abbrev t134 : Ty := (.pair (.int .i64) (.pair .bool (.pair .bool .unit)))
abbrev t135 : Ty := t134
abbrev t138 : Ty := (.slice (.pair (.int .i64) (.pair (.slice (.pair .str (.pair (.int .i64) .unit))) .unit)))
abbrev t139 : Ty := (.func .unit (.pair (.slice (.pair (.int .i64) (.pair (.slice (.pair .str (.pair (.int .i64) .unit))) .unit))) .unit))
abbrev t140 : Ty := (.pair (.int .i64) (.pair (.slice (.pair .str (.pair (.int .i64) .unit))) .unit))
abbrev t141 : Ty := t140
abbrev t143 : Ty := (.arr 4 .bool)
abbrev t145 : Ty := (.func (.pair (.pair (.int .i64) (.pair .str (.pair (.int .i64) .unit))) (.pair (.pair (.int .i64) (.pair .bool (.pair .bool .unit))) .unit)) (.pair .bool .unit))
abbrev t146 : Ty := (.func (.pair (.slice (.int .i64)) (.pair (.func (.pair (.pair (.int .i64) (.pair .str (.pair (.int .i64) .unit))) (.pair (.pair (.int .i64) (.pair .bool (.pair .bool .unit))) .unit)) (.pair .bool .unit)) .unit)) (.pair (.slice (.pair (.int .i64) (.pair .str (.pair (.int .i64) .unit)))) .unit))
abbrev t147 : Ty := (.map (.int .i64) .str)
abbrev t152 : Ty := t45
abbrev t155 : Ty := (.func (.pair (.int .i64) .unit) (.pair .bool .unit))
abbrev t160 : Ty := (.func (.pair (.pair (.int .i64) (.pair .str (.pair (.int .i64) (.pair (.int .i64) (.pair (.int .i64) .unit))))) .unit) (.pair (.int .i64) .unit))
abbrev t163 : Ty := (.ref (.int .u8))
abbrev t164 : Ty := (.func (.pair .str .unit) (.pair .bool .unit))
abbrev t166 : Ty := (.ref (.pair (.slice (.pair .str (.pair (.int .i64) (.pair (.int .i64) (.pair .bool .unit))))) (.pair (.slice (.pair (.int .i64) (.pair .str (.pair (.int .i64) (.pair (.int .i64) (.pair (.int .i64) .unit)))))) .unit)))
abbrev t167 : Ty := (.ref (.pair (.slice .str) (.pair .bool .unit)))
abbrev t168 : Ty := (.pair (.slice .str) (.pair .bool .unit))
abbrev t169 : Ty := t168
abbrev t170 : Ty := (.func .unit (.pair (.int .i64) .unit))
abbrev t171 : Ty := (.func (.pair .str (.pair .str (.pair (.int .i64) (.pair (.int .i64) .unit)))) (.pair (.slice .str) .unit))
abbrev t173 : Ty := (.func (.pair .str .unit) (.pair (.int .i64) (.pair .bool .unit)))
abbrev t174 : Ty := (.slice (.pair (.pair .str (.pair (.int .i64) (.pair (.int .i64) (.pair .bool .unit)))) (.pair (.int .i64) .unit)))
abbrev t175 : Ty := (.pair (.pair .str (.pair (.int .i64) (.pair (.int .i64) (.pair .bool .unit)))) (.pair (.int .i64) .unit))
abbrev t176 : Ty := t175
abbrev t179 : Ty := (.func (.pair (.pair (.pair .str (.pair (.int .i64) (.pair (.int .i64) (.pair .bool .unit)))) (.pair (.int .i64) .unit)) .unit) (.pair .bool .unit))
abbrev t180 : Ty := (.func (.pair (.pair (.pair .str (.pair (.int .i64) (.pair (.int .i64) (.pair .bool .unit)))) (.pair (.int .i64) .unit)) .unit) (.pair (.int .i64) .unit))
abbrev t182 : Ty := (.func (.pair (.pair .str (.pair (.int .i64) .unit)) .unit) (.pair (.int .i64) .unit))
abbrev t183 : Ty := (.func (.pair (.pair .str (.pair (.int .i64) (.pair (.int .i64) (.pair (.int .i64) .unit)))) .unit) (.pair (.pair .str (.pair (.int .i64) (.pair (.int .i64) (.pair (.int .i64) .unit)))) .unit))
abbrev t184 : Ty := (.func (.pair (.pair .str (.pair (.int .i64) (.pair (.int .i64) (.pair (.int .i64) .unit)))) (.pair (.int .i64) (.pair (.pair .str (.pair (.int .i64) .unit)) .unit))) (.pair (.pair .str (.pair (.int .i64) .unit)) (.pair .bool .unit)))
abbrev t185 : Ty := (.pair .str (.pair (.func (.pair (.pair .str (.pair (.int .i64) (.pair (.int .i64) (.pair (.int .i64) .unit)))) .unit) (.pair (.pair .str (.pair (.int .i64) (.pair (.int .i64) (.pair (.int .i64) .unit)))) .unit)) (.pair (.func (.pair (.pair .str (.pair (.int .i64) (.pair (.int .i64) (.pair (.int .i64) .unit)))) (.pair (.int .i64) (.pair (.pair .str (.pair (.int .i64) .unit)) .unit))) (.pair (.pair .str (.pair (.int .i64) .unit)) (.pair .bool .unit))) .unit)))
abbrev t186 : Ty := t185
abbrev t192 : Ty := (.func (.pair (.pair (.int .i64) (.pair .str (.pair (.int .i64) (.pair (.int .i64) (.pair (.int .i64) .unit))))) .unit) (.pair .bool .unit))
abbrev t194 : Ty := (.func (.pair (.pair (.int .i64) (.pair (.slice (.pair .str (.pair (.int .i64) .unit))) .unit)) .unit) (.pair (.int .i64) .unit))
abbrev t197 : Ty := (.map (.int .i64) .bool)
abbrev t198 : Ty := (.func (.pair (.func (.pair (.pair .str (.pair (.int .i64) .unit)) .unit) (.pair .bool .unit)) .unit) .unit)
abbrev t199 : Ty := t198
abbrev t203 : Ty := (.func (.pair (.func (.pair (.pair (.int .i64) (.pair .str (.pair (.int .i64) .unit))) (.pair (.pair (.int .i64) (.pair .bool (.pair .bool .unit))) .unit)) (.pair .bool .unit)) .unit) .unit)
abbrev t204 : Ty := t203
abbrev t206 : Ty := (.map .str .bool)
abbrev t207 : Ty := (.map (.int .i64) (.slice (.int .i64)))
abbrev t212 : Ty := (.func (.pair .str (.pair (.int .i64) .unit)) (.pair (.slice .str) .unit))
abbrev t213 : Ty := (.func (.pair .str (.pair .str .unit)) (.pair (.int .i64) .unit))
abbrev t215 : Ty := (.arr 3 (.pair .str (.pair (.func (.pair (.pair .str (.pair (.int .i64) (.pair (.int .i64) (.pair (.int .i64) .unit)))) .unit) (.pair (.pair .str (.pair (.int .i64) (.pair (.int .i64) (.pair (.int .i64) .unit)))) .unit)) (.pair (.func (.pair (.pair .str (.pair (.int .i64) (.pair (.int .i64) (.pair (.int .i64) .unit)))) (.pair (.int .i64) (.pair (.pair .str (.pair (.int .i64) .unit)) .unit))) (.pair (.pair .str (.pair (.int .i64) .unit)) (.pair .bool .unit))) .unit))))
abbrev t218 : Ty := (.func (.pair (.int .u64) .unit) (.pair (.int .i64) .unit))
abbrev t219 : Ty := (.int .u64)
abbrev t221 : Ty := (.func (.pair (.pair .str (.pair (.int .i64) .unit)) .unit) (.pair .bool .unit))
abbrev t222 : Ty := (.func (.pair (.int .i64) .unit) (.pair (.slice (.int .u8)) .unit))
abbrev t223 : Ty := (.arr 24 (.int .u8))
abbrev t224 : Ty := t219
abbrev t228 : Ty := (.func (.pair (.slice (.int .u8)) (.pair (.int .u64) (.pair (.int .i64) (.pair .bool (.pair .bool .unit))))) (.pair (.slice (.int .u8)) (.pair .str .unit)))
abbrev t232 : Ty := (.func (.pair (.slice (.int .i64)) (.pair (.int .i64) (.pair (.int .i64) .unit))) .unit)
abbrev t233 : Ty := t2
abbrev t241 : Ty := (.int .u32)
abbrev t243 : Ty := (.arr 20 (.int .u64))
abbrev t244 : Ty := (.arr 65 (.int .u8))
abbrev t245 : Ty := t219
abbrev t249 : Ty := (.ref (.int .i64))
abbrev t251 : Ty := (.arr 256 (.int .u8))
abbrev t252 : Ty := (.pair (.int .u8) (.pair (.int .u8) .unit))
abbrev t253 : Ty := t252
abbrev t254 : Ty := (.arr 16 (.pair (.int .u8) (.pair (.int .u8) .unit)))
abbrev t257 : Ty := (.ref (.int .u64))
abbrev t260 : Ty := (.arr 32 (.int .u8))
abbrev t261 : Ty := (.arr 64 (.int .u8))
def T : List (TypeId × TyI) := [
  (2,⟨t2,0,[]⟩),
  (3,⟨t3,0,[]⟩),
  (4,⟨t4,0,[]⟩),
  (5,⟨t5,0,[]⟩),
  (9,⟨t9,0,[]⟩),
  (21,⟨t21,0,[]⟩),
  (22,⟨t22,92,[]⟩),
  (23,⟨t23,93,[]⟩),
  (24,⟨t24,0,[(0,22),(1,23)]⟩),
  (25,⟨t25,0,[(0,22),(1,23)]⟩),
  (28,⟨t28,0,[]⟩),
  (31,⟨t31,105,[]⟩),
  (32,⟨t32,65,[]⟩),
  (33,⟨t33,0,[(0,31),(1,32)]⟩),
  (34,⟨t34,0,[(0,31),(1,32)]⟩),
  (37,⟨t37,0,[]⟩),
  (45,⟨t45,3,[]⟩),
  (51,⟨t51,9,[]⟩),
  (53,⟨t53,0,[]⟩),
  (55,⟨t55,0,[(0,9),(1,3)]⟩),
  (56,⟨t56,0,[(0,9),(1,3)]⟩),
  (57,⟨t57,56,[]⟩),
  (61,⟨t61,73,[]⟩),
  (64,⟨t64,0,[(0,3),(1,9),(2,3),(3,3),(4,3)]⟩),
  (65,⟨t65,0,[(0,3),(1,9),(2,3),(3,3),(4,3)]⟩),
  (69,⟨t69,71,[]⟩),
  (70,⟨t70,0,[]⟩),
  (71,⟨t71,0,[(0,9),(1,3)]⟩),
  (72,⟨t72,0,[(0,3),(1,9),(2,3)]⟩),
  (73,⟨t73,0,[(0,3),(1,9),(2,3)]⟩),
  (75,⟨t75,0,[]⟩),
  (76,⟨t76,0,[(0,3),(1,3),(2,9)]⟩),
  (77,⟨t77,0,[(0,3),(1,3),(2,9)]⟩),
  (78,⟨t78,77,[]⟩),
  (81,⟨t81,131,[]⟩),
  (84,⟨t84,0,[(0,45),(1,45),(2,3),(3,3)]⟩),
  (85,⟨t85,0,[(0,45),(1,45),(2,3),(3,3)]⟩),
  (87,⟨t87,90,[]⟩),
  (89,⟨t89,0,[(0,9),(1,3),(2,3),(3,3)]⟩),
  (90,⟨t90,0,[(0,9),(1,3),(2,3),(3,3)]⟩),
  (91,⟨t91,0,[(0,9),(1,3),(2,3),(3,4)]⟩),
  (92,⟨t92,0,[(0,9),(1,3),(2,3),(3,4)]⟩),
  (93,⟨t93,0,[(0,3),(1,9),(2,3),(3,3),(4,3)]⟩),
  (95,⟨t95,98,[]⟩),
  (96,⟨t96,5,[]⟩),
  (97,⟨t97,0,[(0,95),(1,96)]⟩),
  (98,⟨t98,0,[(0,95),(1,96)]⟩),
  (100,⟨t100,0,[]⟩),
  (104,⟨t104,0,[]⟩),
  (105,⟨t105,0,[(0,9),(1,3),(2,3),(3,4)]⟩),
  (108,⟨t108,0,[]⟩),
  (109,⟨t109,0,[]⟩),
  (119,⟨t119,0,[]⟩),
  (127,⟨t127,0,[]⟩),
  (131,⟨t131,0,[(0,9),(1,3),(2,3),(3,3)]⟩),
  (132,⟨t132,0,[]⟩),
  (134,⟨t134,0,[(0,3),(1,4),(2,4)]⟩),
  (135,⟨t135,0,[(0,3),(1,4),(2,4)]⟩),
  (138,⟨t138,141,[]⟩),
  (139,⟨t139,0,[]⟩),
  (140,⟨t140,0,[(0,3),(1,57)]⟩),
  (141,⟨t141,0,[(0,3),(1,57)]⟩),
  (143,⟨t143,4,[]⟩),
  (145,⟨t145,0,[]⟩),
  (146,⟨t146,0,[]⟩),
  (147,⟨t147,0,[]⟩),
  (152,⟨t152,28,[]⟩),
  (155,⟨t155,0,[]⟩),
  (160,⟨t160,0,[]⟩),
  (163,⟨t163,5,[]⟩),
  (164,⟨t164,0,[]⟩),
  (166,⟨t166,34,[]⟩),
  (167,⟨t167,169,[]⟩),
  (168,⟨t168,0,[(0,51),(1,4)]⟩),
  (169,⟨t169,0,[(0,51),(1,4)]⟩),
  (170,⟨t170,0,[]⟩),
  (171,⟨t171,0,[]⟩),
  (173,⟨t173,0,[]⟩),
  (174,⟨t174,176,[]⟩),
  (175,⟨t175,0,[(0,105),(4,3)]⟩),
  (176,⟨t176,0,[(0,105),(4,3)]⟩),
  (179,⟨t179,0,[]⟩),
  (180,⟨t180,0,[]⟩),
  (182,⟨t182,0,[]⟩),
  (183,⟨t183,0,[]⟩),
  (184,⟨t184,0,[]⟩),
  (185,⟨t185,0,[(0,9),(1,183),(2,184)]⟩),
  (186,⟨t186,0,[(0,9),(1,183),(2,184)]⟩),
  (192,⟨t192,0,[]⟩),
  (194,⟨t194,0,[]⟩),
  (197,⟨t197,0,[]⟩),
  (198,⟨t198,0,[]⟩),
  (199,⟨t199,0,[]⟩),
  (203,⟨t203,0,[]⟩),
  (204,⟨t204,0,[]⟩),
  (206,⟨t206,0,[]⟩),
  (207,⟨t207,3,[]⟩),
  (212,⟨t212,0,[]⟩),
  (213,⟨t213,0,[]⟩),
  (215,⟨t215,186,[]⟩),
  (218,⟨t218,0,[]⟩),
  (219,⟨t219,0,[]⟩),
  (221,⟨t221,0,[]⟩),
  (222,⟨t222,0,[]⟩),
  (223,⟨t223,5,[]⟩),
  (224,⟨t224,0,[]⟩),
  (228,⟨t228,0,[]⟩),
  (232,⟨t232,0,[]⟩),
  (233,⟨t233,0,[]⟩),
  (241,⟨t241,0,[]⟩),
  (243,⟨t243,224,[]⟩),
  (244,⟨t244,5,[]⟩),
  (245,⟨t245,0,[]⟩),
  (249,⟨t249,3,[]⟩),
  (251,⟨t251,5,[]⟩),
  (252,⟨t252,0,[(0,5),(1,5)]⟩),
  (253,⟨t253,0,[(0,5),(1,5)]⟩),
  (254,⟨t254,253,[]⟩),
  (257,⟨t257,245,[]⟩),
  (260,⟨t260,5,[]⟩),
  (261,⟨t261,5,[]⟩)
]
end Go.Vx.B
