/- A page of which a byte was changed on the disk, or another page's first sector stands in its place, is told as what stands there opens to, or that it isn't sealed so; other pages are as they were: by the document's seals. It holds for every input; there are no conditions. -/
import Derived.Test.YtenhmbhflgnhlaaGreatChecked
import Derived.KernelRfl
import Derived.Test.YtenhmbhflgnhlaaGreatSac0
namespace Go.Proofs.YtenhmbhflgnhlaaGreat
open Go Go.Proofs
theorem I0 : Tryz.prog.info? 0 = some Tryz.t0 := by kernel_rfl
theorem I1 : Tryz.prog.info? 1 = some Tryz.t1 := by kernel_rfl
theorem I2 : Tryz.prog.info? 2 = some Tryz.t2 := by kernel_rfl
theorem I3 : Tryz.prog.info? 3 = some Tryz.t3 := by kernel_rfl
theorem I4 : Tryz.prog.info? 4 = some Tryz.t4 := by kernel_rfl
theorem I5 : Tryz.prog.info? 5 = some Tryz.t5 := by kernel_rfl
theorem I6 : Tryz.prog.info? 6 = some Tryz.t6 := by kernel_rfl
theorem I7 : Tryz.prog.info? 7 = some Tryz.t7 := by kernel_rfl
theorem I8 : Tryz.prog.info? 8 = some Tryz.t8 := by kernel_rfl
theorem I9 : Tryz.prog.info? 9 = some Tryz.t9 := by kernel_rfl
theorem I10 : Tryz.prog.info? 10 = some Tryz.t10 := by kernel_rfl
theorem I11 : Tryz.prog.info? 11 = some Tryz.t11 := by kernel_rfl
theorem I12 : Tryz.prog.info? 12 = some Tryz.t12 := by kernel_rfl
theorem I13 : Tryz.prog.info? 13 = some Tryz.t13 := by kernel_rfl
theorem I14 : Tryz.prog.info? 14 = some Tryz.t14 := by kernel_rfl
theorem I15 : Tryz.prog.info? 15 = some Tryz.t15 := by kernel_rfl
theorem I16 : Tryz.prog.info? 16 = some Tryz.t16 := by kernel_rfl
theorem I17 : Tryz.prog.info? 17 = some Tryz.t17 := by kernel_rfl
theorem I18 : Tryz.prog.info? 18 = some Tryz.t18 := by kernel_rfl
theorem I19 : Tryz.prog.info? 19 = some Tryz.t19 := by kernel_rfl
theorem I20 : Tryz.prog.info? 20 = some Tryz.t20 := by kernel_rfl
theorem I21 : Tryz.prog.info? 21 = some Tryz.t21 := by kernel_rfl
theorem I22 : Tryz.prog.info? 22 = some Tryz.t22 := by kernel_rfl
theorem I23 : Tryz.prog.info? 23 = some Tryz.t23 := by kernel_rfl
theorem I24 : Tryz.prog.info? 24 = some Tryz.t24 := by kernel_rfl
theorem I25 : Tryz.prog.info? 25 = some Tryz.t25 := by kernel_rfl
theorem I26 : Tryz.prog.info? 26 = some Tryz.t26 := by kernel_rfl
theorem I27 : Tryz.prog.info? 27 = some Tryz.t27 := by kernel_rfl
theorem I28 : Tryz.prog.info? 28 = some Tryz.t28 := by kernel_rfl
theorem I29 : Tryz.prog.info? 29 = some Tryz.t29 := by kernel_rfl
theorem I30 : Tryz.prog.info? 30 = some Tryz.t30 := by kernel_rfl
theorem I31 : Tryz.prog.info? 31 = some Tryz.t31 := by kernel_rfl
theorem I32 : Tryz.prog.info? 32 = some Tryz.t32 := by kernel_rfl
theorem I33 : Tryz.prog.info? 33 = some Tryz.t33 := by kernel_rfl
theorem I34 : Tryz.prog.info? 34 = some Tryz.t34 := by kernel_rfl
theorem I35 : Tryz.prog.info? 35 = some Tryz.t35 := by kernel_rfl
theorem I36 : Tryz.prog.info? 36 = some Tryz.t36 := by kernel_rfl
theorem I37 : Tryz.prog.info? 37 = some Tryz.t37 := by kernel_rfl
theorem I38 : Tryz.prog.info? 38 = some Tryz.t38 := by kernel_rfl
theorem I39 : Tryz.prog.info? 39 = some Tryz.t39 := by kernel_rfl
theorem I40 : Tryz.prog.info? 40 = some Tryz.t40 := by kernel_rfl
theorem I41 : Tryz.prog.info? 41 = some Tryz.t41 := by kernel_rfl
theorem I42 : Tryz.prog.info? 42 = some Tryz.t42 := by kernel_rfl
theorem I43 : Tryz.prog.info? 43 = some Tryz.t43 := by kernel_rfl
theorem I44 : Tryz.prog.info? 44 = some Tryz.t44 := by kernel_rfl
theorem I45 : Tryz.prog.info? 45 = some Tryz.t45 := by kernel_rfl
theorem I46 : Tryz.prog.info? 46 = some Tryz.t46 := by kernel_rfl
theorem I47 : Tryz.prog.info? 47 = some Tryz.t47 := by kernel_rfl
theorem I48 : Tryz.prog.info? 48 = some Tryz.t48 := by kernel_rfl
theorem I49 : Tryz.prog.info? 49 = some Tryz.t49 := by kernel_rfl
theorem I50 : Tryz.prog.info? 50 = some Tryz.t50 := by kernel_rfl
theorem I51 : Tryz.prog.info? 51 = some Tryz.t51 := by kernel_rfl
theorem I52 : Tryz.prog.info? 52 = some Tryz.t52 := by kernel_rfl
theorem I53 : Tryz.prog.info? 53 = some Tryz.t53 := by kernel_rfl
theorem I54 : Tryz.prog.info? 54 = some Tryz.t54 := by kernel_rfl
theorem I55 : Tryz.prog.info? 55 = some Tryz.t55 := by kernel_rfl
theorem I56 : Tryz.prog.info? 56 = some Tryz.t56 := by kernel_rfl
theorem I57 : Tryz.prog.info? 57 = some Tryz.t57 := by kernel_rfl
theorem I58 : Tryz.prog.info? 58 = some Tryz.t58 := by kernel_rfl
theorem I59 : Tryz.prog.info? 59 = some Tryz.t59 := by kernel_rfl
theorem I60 : Tryz.prog.info? 60 = some Tryz.t60 := by kernel_rfl
theorem I61 : Tryz.prog.info? 61 = some Tryz.t61 := by kernel_rfl
theorem I62 : Tryz.prog.info? 62 = some Tryz.t62 := by kernel_rfl
theorem I63 : Tryz.prog.info? 63 = some Tryz.t63 := by kernel_rfl
theorem I64 : Tryz.prog.info? 64 = some Tryz.t64 := by kernel_rfl
theorem I65 : Tryz.prog.info? 65 = some Tryz.t65 := by kernel_rfl
theorem I66 : Tryz.prog.info? 66 = some Tryz.t66 := by kernel_rfl
theorem I67 : Tryz.prog.info? 67 = some Tryz.t67 := by kernel_rfl
theorem I68 : Tryz.prog.info? 68 = some Tryz.t68 := by kernel_rfl
theorem I69 : Tryz.prog.info? 69 = some Tryz.t69 := by kernel_rfl
theorem I70 : Tryz.prog.info? 70 = some Tryz.t70 := by kernel_rfl
theorem I71 : Tryz.prog.info? 71 = some Tryz.t71 := by kernel_rfl
theorem I72 : Tryz.prog.info? 72 = some Tryz.t72 := by kernel_rfl
theorem I73 : Tryz.prog.info? 73 = some Tryz.t73 := by kernel_rfl
theorem I74 : Tryz.prog.info? 74 = some Tryz.t74 := by kernel_rfl
theorem I75 : Tryz.prog.info? 75 = some Tryz.t75 := by kernel_rfl
theorem I76 : Tryz.prog.info? 76 = some Tryz.t76 := by kernel_rfl
theorem I77 : Tryz.prog.info? 77 = some Tryz.t77 := by kernel_rfl
theorem I78 : Tryz.prog.info? 78 = some Tryz.t78 := by kernel_rfl
theorem I79 : Tryz.prog.info? 79 = some Tryz.t79 := by kernel_rfl
theorem I80 : Tryz.prog.info? 80 = some Tryz.t80 := by kernel_rfl
theorem I81 : Tryz.prog.info? 81 = some Tryz.t81 := by kernel_rfl
theorem I82 : Tryz.prog.info? 82 = some Tryz.t82 := by kernel_rfl
theorem I83 : Tryz.prog.info? 83 = some Tryz.t83 := by kernel_rfl
theorem I84 : Tryz.prog.info? 84 = some Tryz.t84 := by kernel_rfl
theorem I85 : Tryz.prog.info? 85 = some Tryz.t85 := by kernel_rfl
theorem I86 : Tryz.prog.info? 86 = some Tryz.t86 := by kernel_rfl
theorem I87 : Tryz.prog.info? 87 = some Tryz.t87 := by kernel_rfl
theorem I88 : Tryz.prog.info? 88 = some Tryz.t88 := by kernel_rfl
theorem I89 : Tryz.prog.info? 89 = some Tryz.t89 := by kernel_rfl
theorem I90 : Tryz.prog.info? 90 = some Tryz.t90 := by kernel_rfl
theorem I91 : Tryz.prog.info? 91 = some Tryz.t91 := by kernel_rfl
theorem I92 : Tryz.prog.info? 92 = some Tryz.t92 := by kernel_rfl
theorem I93 : Tryz.prog.info? 93 = some Tryz.t93 := by kernel_rfl
theorem I94 : Tryz.prog.info? 94 = some Tryz.t94 := by kernel_rfl
theorem I95 : Tryz.prog.info? 95 = some Tryz.t95 := by kernel_rfl
theorem I96 : Tryz.prog.info? 96 = some Tryz.t96 := by kernel_rfl
theorem I97 : Tryz.prog.info? 97 = some Tryz.t97 := by kernel_rfl
theorem I98 : Tryz.prog.info? 98 = some Tryz.t98 := by kernel_rfl
theorem I99 : Tryz.prog.info? 99 = some Tryz.t99 := by kernel_rfl
theorem I100 : Tryz.prog.info? 100 = some Tryz.t100 := by kernel_rfl
theorem I101 : Tryz.prog.info? 101 = some Tryz.t101 := by kernel_rfl
theorem I102 : Tryz.prog.info? 102 = some Tryz.t102 := by kernel_rfl
theorem I103 : Tryz.prog.info? 103 = some Tryz.t103 := by kernel_rfl
theorem I104 : Tryz.prog.info? 104 = some Tryz.t104 := by kernel_rfl
theorem I105 : Tryz.prog.info? 105 = some Tryz.t105 := by kernel_rfl
theorem I106 : Tryz.prog.info? 106 = some Tryz.t106 := by kernel_rfl
theorem I107 : Tryz.prog.info? 107 = some Tryz.t107 := by kernel_rfl
theorem I108 : Tryz.prog.info? 108 = some Tryz.t108 := by kernel_rfl
theorem I109 : Tryz.prog.info? 109 = some Tryz.t109 := by kernel_rfl
theorem I110 : Tryz.prog.info? 110 = some Tryz.t110 := by kernel_rfl
theorem I111 : Tryz.prog.info? 111 = some Tryz.t111 := by kernel_rfl
theorem I112 : Tryz.prog.info? 112 = some Tryz.t112 := by kernel_rfl
theorem I113 : Tryz.prog.info? 113 = some Tryz.t113 := by kernel_rfl
theorem I114 : Tryz.prog.info? 114 = some Tryz.t114 := by kernel_rfl
theorem I115 : Tryz.prog.info? 115 = some Tryz.t115 := by kernel_rfl
theorem I116 : Tryz.prog.info? 116 = some Tryz.t116 := by kernel_rfl
theorem I117 : Tryz.prog.info? 117 = some Tryz.t117 := by kernel_rfl
theorem I118 : Tryz.prog.info? 118 = some Tryz.t118 := by kernel_rfl
theorem I119 : Tryz.prog.info? 119 = some Tryz.t119 := by kernel_rfl
theorem I120 : Tryz.prog.info? 120 = some Tryz.t120 := by kernel_rfl
theorem I121 : Tryz.prog.info? 121 = some Tryz.t121 := by kernel_rfl
theorem I122 : Tryz.prog.info? 122 = some Tryz.t122 := by kernel_rfl
theorem I123 : Tryz.prog.info? 123 = some Tryz.t123 := by kernel_rfl
theorem I124 : Tryz.prog.info? 124 = some Tryz.t124 := by kernel_rfl
theorem I125 : Tryz.prog.info? 125 = some Tryz.t125 := by kernel_rfl
theorem I126 : Tryz.prog.info? 126 = some Tryz.t126 := by kernel_rfl
theorem I127 : Tryz.prog.info? 127 = some Tryz.t127 := by kernel_rfl
theorem I128 : Tryz.prog.info? 128 = some Tryz.t128 := by kernel_rfl
theorem I129 : Tryz.prog.info? 129 = some Tryz.t129 := by kernel_rfl
theorem I130 : Tryz.prog.info? 130 = some Tryz.t130 := by kernel_rfl
theorem I131 : Tryz.prog.info? 131 = some Tryz.t131 := by kernel_rfl
theorem I132 : Tryz.prog.info? 132 = some Tryz.t132 := by kernel_rfl
theorem I133 : Tryz.prog.info? 133 = some Tryz.t133 := by kernel_rfl
theorem I134 : Tryz.prog.info? 134 = some Tryz.t134 := by kernel_rfl
theorem I135 : Tryz.prog.info? 135 = some Tryz.t135 := by kernel_rfl
theorem I136 : Tryz.prog.info? 136 = some Tryz.t136 := by kernel_rfl
theorem I137 : Tryz.prog.info? 137 = some Tryz.t137 := by kernel_rfl
theorem I138 : Tryz.prog.info? 138 = some Tryz.t138 := by kernel_rfl
theorem I139 : Tryz.prog.info? 139 = some Tryz.t139 := by kernel_rfl
theorem I140 : Tryz.prog.info? 140 = some Tryz.t140 := by kernel_rfl
theorem I141 : Tryz.prog.info? 141 = some Tryz.t141 := by kernel_rfl
theorem I142 : Tryz.prog.info? 142 = some Tryz.t142 := by kernel_rfl
theorem I143 : Tryz.prog.info? 143 = some Tryz.t143 := by kernel_rfl
theorem I144 : Tryz.prog.info? 144 = some Tryz.t144 := by kernel_rfl
theorem I145 : Tryz.prog.info? 145 = some Tryz.t145 := by kernel_rfl
theorem I146 : Tryz.prog.info? 146 = some Tryz.t146 := by kernel_rfl
theorem I147 : Tryz.prog.info? 147 = some Tryz.t147 := by kernel_rfl
theorem I148 : Tryz.prog.info? 148 = some Tryz.t148 := by kernel_rfl
theorem I149 : Tryz.prog.info? 149 = some Tryz.t149 := by kernel_rfl
theorem I150 : Tryz.prog.info? 150 = some Tryz.t150 := by kernel_rfl
theorem I151 : Tryz.prog.info? 151 = some Tryz.t151 := by kernel_rfl
theorem I152 : Tryz.prog.info? 152 = some Tryz.t152 := by kernel_rfl
theorem I153 : Tryz.prog.info? 153 = some Tryz.t153 := by kernel_rfl
theorem I154 : Tryz.prog.info? 154 = some Tryz.t154 := by kernel_rfl
theorem I155 : Tryz.prog.info? 155 = some Tryz.t155 := by kernel_rfl
theorem I156 : Tryz.prog.info? 156 = some Tryz.t156 := by kernel_rfl
theorem I157 : Tryz.prog.info? 157 = some Tryz.t157 := by kernel_rfl
theorem I158 : Tryz.prog.info? 158 = some Tryz.t158 := by kernel_rfl
theorem I159 : Tryz.prog.info? 159 = some Tryz.t159 := by kernel_rfl
theorem I160 : Tryz.prog.info? 160 = some Tryz.t160 := by kernel_rfl
theorem I161 : Tryz.prog.info? 161 = some Tryz.t161 := by kernel_rfl
theorem I162 : Tryz.prog.info? 162 = some Tryz.t162 := by kernel_rfl
theorem I163 : Tryz.prog.info? 163 = some Tryz.t163 := by kernel_rfl
theorem I164 : Tryz.prog.info? 164 = some Tryz.t164 := by kernel_rfl
theorem I165 : Tryz.prog.info? 165 = some Tryz.t165 := by kernel_rfl
theorem I166 : Tryz.prog.info? 166 = some Tryz.t166 := by kernel_rfl
theorem I167 : Tryz.prog.info? 167 = some Tryz.t167 := by kernel_rfl
theorem I168 : Tryz.prog.info? 168 = some Tryz.t168 := by kernel_rfl
theorem I169 : Tryz.prog.info? 169 = some Tryz.t169 := by kernel_rfl
theorem I170 : Tryz.prog.info? 170 = some Tryz.t170 := by kernel_rfl
theorem I171 : Tryz.prog.info? 171 = some Tryz.t171 := by kernel_rfl
theorem I172 : Tryz.prog.info? 172 = some Tryz.t172 := by kernel_rfl
theorem I173 : Tryz.prog.info? 173 = some Tryz.t173 := by kernel_rfl
theorem I174 : Tryz.prog.info? 174 = some Tryz.t174 := by kernel_rfl
theorem I175 : Tryz.prog.info? 175 = some Tryz.t175 := by kernel_rfl
theorem I176 : Tryz.prog.info? 176 = some Tryz.t176 := by kernel_rfl
theorem I177 : Tryz.prog.info? 177 = some Tryz.t177 := by kernel_rfl
theorem I178 : Tryz.prog.info? 178 = some Tryz.t178 := by kernel_rfl
theorem I179 : Tryz.prog.info? 179 = some Tryz.t179 := by kernel_rfl
theorem I180 : Tryz.prog.info? 180 = some Tryz.t180 := by kernel_rfl
theorem I181 : Tryz.prog.info? 181 = some Tryz.t181 := by kernel_rfl
theorem I182 : Tryz.prog.info? 182 = some Tryz.t182 := by kernel_rfl
theorem I183 : Tryz.prog.info? 183 = some Tryz.t183 := by kernel_rfl
theorem I184 : Tryz.prog.info? 184 = some Tryz.t184 := by kernel_rfl
theorem I185 : Tryz.prog.info? 185 = some Tryz.t185 := by kernel_rfl
theorem I186 : Tryz.prog.info? 186 = some Tryz.t186 := by kernel_rfl
theorem I187 : Tryz.prog.info? 187 = some Tryz.t187 := by kernel_rfl
theorem I188 : Tryz.prog.info? 188 = some Tryz.t188 := by kernel_rfl
theorem I189 : Tryz.prog.info? 189 = some Tryz.t189 := by kernel_rfl
theorem I190 : Tryz.prog.info? 190 = some Tryz.t190 := by kernel_rfl
theorem I191 : Tryz.prog.info? 191 = some Tryz.t191 := by kernel_rfl
theorem I192 : Tryz.prog.info? 192 = some Tryz.t192 := by kernel_rfl
theorem I193 : Tryz.prog.info? 193 = some Tryz.t193 := by kernel_rfl
theorem I194 : Tryz.prog.info? 194 = some Tryz.t194 := by kernel_rfl
theorem I195 : Tryz.prog.info? 195 = some Tryz.t195 := by kernel_rfl
theorem I196 : Tryz.prog.info? 196 = some Tryz.t196 := by kernel_rfl
theorem I197 : Tryz.prog.info? 197 = some Tryz.t197 := by kernel_rfl
theorem I198 : Tryz.prog.info? 198 = some Tryz.t198 := by kernel_rfl
theorem I199 : Tryz.prog.info? 199 = some Tryz.t199 := by kernel_rfl
theorem I200 : Tryz.prog.info? 200 = some Tryz.t200 := by kernel_rfl
theorem I201 : Tryz.prog.info? 201 = some Tryz.t201 := by kernel_rfl
theorem I202 : Tryz.prog.info? 202 = some Tryz.t202 := by kernel_rfl
theorem I203 : Tryz.prog.info? 203 = some Tryz.t203 := by kernel_rfl
theorem I204 : Tryz.prog.info? 204 = some Tryz.t204 := by kernel_rfl
theorem I205 : Tryz.prog.info? 205 = some Tryz.t205 := by kernel_rfl
theorem I206 : Tryz.prog.info? 206 = some Tryz.t206 := by kernel_rfl
theorem I207 : Tryz.prog.info? 207 = some Tryz.t207 := by kernel_rfl
theorem I208 : Tryz.prog.info? 208 = some Tryz.t208 := by kernel_rfl
theorem I209 : Tryz.prog.info? 209 = some Tryz.t209 := by kernel_rfl
theorem I210 : Tryz.prog.info? 210 = some Tryz.t210 := by kernel_rfl
theorem I211 : Tryz.prog.info? 211 = some Tryz.t211 := by kernel_rfl
theorem I212 : Tryz.prog.info? 212 = some Tryz.t212 := by kernel_rfl
theorem I213 : Tryz.prog.info? 213 = some Tryz.t213 := by kernel_rfl
theorem I214 : Tryz.prog.info? 214 = some Tryz.t214 := by kernel_rfl
theorem I215 : Tryz.prog.info? 215 = some Tryz.t215 := by kernel_rfl
theorem I216 : Tryz.prog.info? 216 = some Tryz.t216 := by kernel_rfl
theorem I217 : Tryz.prog.info? 217 = some Tryz.t217 := by kernel_rfl
theorem I218 : Tryz.prog.info? 218 = some Tryz.t218 := by kernel_rfl
theorem I219 : Tryz.prog.info? 219 = some Tryz.t219 := by kernel_rfl
theorem I220 : Tryz.prog.info? 220 = some Tryz.t220 := by kernel_rfl
theorem I221 : Tryz.prog.info? 221 = some Tryz.t221 := by kernel_rfl
theorem I222 : Tryz.prog.info? 222 = some Tryz.t222 := by kernel_rfl
theorem I223 : Tryz.prog.info? 223 = some Tryz.t223 := by kernel_rfl
theorem I224 : Tryz.prog.info? 224 = some Tryz.t224 := by kernel_rfl
theorem I225 : Tryz.prog.info? 225 = some Tryz.t225 := by kernel_rfl
theorem I226 : Tryz.prog.info? 226 = some Tryz.t226 := by kernel_rfl
theorem I227 : Tryz.prog.info? 227 = some Tryz.t227 := by kernel_rfl
theorem I228 : Tryz.prog.info? 228 = some Tryz.t228 := by kernel_rfl
theorem I229 : Tryz.prog.info? 229 = some Tryz.t229 := by kernel_rfl
theorem I230 : Tryz.prog.info? 230 = some Tryz.t230 := by kernel_rfl
theorem I231 : Tryz.prog.info? 231 = some Tryz.t231 := by kernel_rfl
theorem I232 : Tryz.prog.info? 232 = some Tryz.t232 := by kernel_rfl
theorem I233 : Tryz.prog.info? 233 = some Tryz.t233 := by kernel_rfl
theorem I234 : Tryz.prog.info? 234 = some Tryz.t234 := by kernel_rfl
theorem I235 : Tryz.prog.info? 235 = some Tryz.t235 := by kernel_rfl
theorem I236 : Tryz.prog.info? 236 = some Tryz.t236 := by kernel_rfl
theorem I237 : Tryz.prog.info? 237 = some Tryz.t237 := by kernel_rfl
theorem I238 : Tryz.prog.info? 238 = some Tryz.t238 := by kernel_rfl
theorem I239 : Tryz.prog.info? 239 = some Tryz.t239 := by kernel_rfl
theorem I240 : Tryz.prog.info? 240 = some Tryz.t240 := by kernel_rfl
theorem I241 : Tryz.prog.info? 241 = some Tryz.t241 := by kernel_rfl
theorem I242 : Tryz.prog.info? 242 = some Tryz.t242 := by kernel_rfl
theorem I243 : Tryz.prog.info? 243 = some Tryz.t243 := by kernel_rfl
theorem I244 : Tryz.prog.info? 244 = some Tryz.t244 := by kernel_rfl
theorem I245 : Tryz.prog.info? 245 = some Tryz.t245 := by kernel_rfl
theorem I246 : Tryz.prog.info? 246 = some Tryz.t246 := by kernel_rfl
theorem I247 : Tryz.prog.info? 247 = some Tryz.t247 := by kernel_rfl
theorem I248 : Tryz.prog.info? 248 = some Tryz.t248 := by kernel_rfl
theorem I249 : Tryz.prog.info? 249 = some Tryz.t249 := by kernel_rfl
theorem I250 : Tryz.prog.info? 250 = some Tryz.t250 := by kernel_rfl
theorem I251 : Tryz.prog.info? 251 = some Tryz.t251 := by kernel_rfl
theorem I252 : Tryz.prog.info? 252 = some Tryz.t252 := by kernel_rfl
theorem I253 : Tryz.prog.info? 253 = some Tryz.t253 := by kernel_rfl
theorem I254 : Tryz.prog.info? 254 = some Tryz.t254 := by kernel_rfl
theorem I255 : Tryz.prog.info? 255 = some Tryz.t255 := by kernel_rfl
theorem I256 : Tryz.prog.info? 256 = some Tryz.t256 := by kernel_rfl
theorem I257 : Tryz.prog.info? 257 = some Tryz.t257 := by kernel_rfl
theorem I258 : Tryz.prog.info? 258 = some Tryz.t258 := by kernel_rfl
theorem I259 : Tryz.prog.info? 259 = some Tryz.t259 := by kernel_rfl
theorem I260 : Tryz.prog.info? 260 = some Tryz.t260 := by kernel_rfl
theorem I261 : Tryz.prog.info? 261 = some Tryz.t261 := by kernel_rfl
theorem I262 : Tryz.prog.info? 262 = some Tryz.t262 := by kernel_rfl
theorem I263 : Tryz.prog.info? 263 = some Tryz.t263 := by kernel_rfl
theorem I264 : Tryz.prog.info? 264 = some Tryz.t264 := by kernel_rfl
theorem I265 : Tryz.prog.info? 265 = some Tryz.t265 := by kernel_rfl
theorem I266 : Tryz.prog.info? 266 = some Tryz.t266 := by kernel_rfl
theorem I267 : Tryz.prog.info? 267 = some Tryz.t267 := by kernel_rfl
theorem I268 : Tryz.prog.info? 268 = some Tryz.t268 := by kernel_rfl
theorem I269 : Tryz.prog.info? 269 = some Tryz.t269 := by kernel_rfl
theorem I270 : Tryz.prog.info? 270 = some Tryz.t270 := by kernel_rfl
theorem I271 : Tryz.prog.info? 271 = some Tryz.t271 := by kernel_rfl
theorem I272 : Tryz.prog.info? 272 = some Tryz.t272 := by kernel_rfl
theorem I273 : Tryz.prog.info? 273 = some Tryz.t273 := by kernel_rfl
theorem I274 : Tryz.prog.info? 274 = some Tryz.t274 := by kernel_rfl
theorem I275 : Tryz.prog.info? 275 = some Tryz.t275 := by kernel_rfl
theorem I276 : Tryz.prog.info? 276 = some Tryz.t276 := by kernel_rfl
theorem C2 {E : Sac.Env} {w : World} {ty : TypeId} {args : List Operand} {ats : Array TypeId} : Sac.exec Tryz.prog E (.call { callee := .value (.func 2), args := args.toArray, argTypes := ats }) ty w = .ok (.enter 2 (args.map (Sac.ev E)).toArray) w := Sac.x_callL Tryz.func2 (by kernel_rfl) rfl
theorem C3 {E : Sac.Env} {w : World} {ty : TypeId} {args : List Operand} {ats : Array TypeId} : Sac.exec Tryz.prog E (.call { callee := .value (.func 3), args := args.toArray, argTypes := ats }) ty w = .ok (.enter 3 (args.map (Sac.ev E)).toArray) w := Sac.x_callL Tryz.func3 (by kernel_rfl) rfl
theorem C4 {E : Sac.Env} {w : World} {ty : TypeId} {args : List Operand} {ats : Array TypeId} : Sac.exec Tryz.prog E (.call { callee := .value (.func 4), args := args.toArray, argTypes := ats }) ty w = .ok (.enter 4 (args.map (Sac.ev E)).toArray) w := Sac.x_callL Tryz.func4 (by kernel_rfl) rfl
theorem C5 {E : Sac.Env} {w : World} {ty : TypeId} {args : List Operand} {ats : Array TypeId} : Sac.exec Tryz.prog E (.call { callee := .value (.func 5), args := args.toArray, argTypes := ats }) ty w = .ok (.enter 5 (args.map (Sac.ev E)).toArray) w := Sac.x_callL Tryz.func5 (by kernel_rfl) rfl
theorem C6 {E : Sac.Env} {w : World} {ty : TypeId} {args : List Operand} {ats : Array TypeId} : Sac.exec Tryz.prog E (.call { callee := .value (.func 6), args := args.toArray, argTypes := ats }) ty w = .ok (.enter 6 (args.map (Sac.ev E)).toArray) w := Sac.x_callL Tryz.func6 (by kernel_rfl) rfl
theorem C7 {E : Sac.Env} {w : World} {ty : TypeId} {args : List Operand} {ats : Array TypeId} : Sac.exec Tryz.prog E (.call { callee := .value (.func 7), args := args.toArray, argTypes := ats }) ty w = .ok (.enter 7 (args.map (Sac.ev E)).toArray) w := Sac.x_callL Tryz.func7 (by kernel_rfl) rfl
theorem C8 {E : Sac.Env} {w : World} {ty : TypeId} {args : List Operand} {ats : Array TypeId} : Sac.exec Tryz.prog E (.call { callee := .value (.func 8), args := args.toArray, argTypes := ats }) ty w = .ok (.enter 8 (args.map (Sac.ev E)).toArray) w := Sac.x_callL Tryz.func8 (by kernel_rfl) rfl
theorem C9 {E : Sac.Env} {w : World} {ty : TypeId} {args : List Operand} {ats : Array TypeId} : Sac.exec Tryz.prog E (.call { callee := .value (.func 9), args := args.toArray, argTypes := ats }) ty w = .ok (.enter 9 (args.map (Sac.ev E)).toArray) w := Sac.x_callL Tryz.func9 (by kernel_rfl) rfl
theorem C10 {E : Sac.Env} {w : World} {ty : TypeId} {args : List Operand} {ats : Array TypeId} : Sac.exec Tryz.prog E (.call { callee := .value (.func 10), args := args.toArray, argTypes := ats }) ty w = .ok (.enter 10 (args.map (Sac.ev E)).toArray) w := Sac.x_callL Tryz.func10 (by kernel_rfl) rfl
theorem C11 {E : Sac.Env} {w : World} {ty : TypeId} {args : List Operand} {ats : Array TypeId} : Sac.exec Tryz.prog E (.call { callee := .value (.func 11), args := args.toArray, argTypes := ats }) ty w = .ok (.enter 11 (args.map (Sac.ev E)).toArray) w := Sac.x_callL Tryz.func11 (by kernel_rfl) rfl
theorem C12 {E : Sac.Env} {w : World} {ty : TypeId} {args : List Operand} {ats : Array TypeId} : Sac.exec Tryz.prog E (.call { callee := .value (.func 12), args := args.toArray, argTypes := ats }) ty w = .ok (.enter 12 (args.map (Sac.ev E)).toArray) w := Sac.x_callL Tryz.func12 (by kernel_rfl) rfl
theorem C13 {E : Sac.Env} {w : World} {ty : TypeId} {args : List Operand} {ats : Array TypeId} : Sac.exec Tryz.prog E (.call { callee := .value (.func 13), args := args.toArray, argTypes := ats }) ty w = .ok (.enter 13 (args.map (Sac.ev E)).toArray) w := Sac.x_callL Tryz.func13 (by kernel_rfl) rfl
theorem C14 {E : Sac.Env} {w : World} {ty : TypeId} {args : List Operand} {ats : Array TypeId} : Sac.exec Tryz.prog E (.call { callee := .value (.func 14), args := args.toArray, argTypes := ats }) ty w = .ok (.enter 14 (args.map (Sac.ev E)).toArray) w := Sac.x_callL Tryz.func14 (by kernel_rfl) rfl
theorem C15 {E : Sac.Env} {w : World} {ty : TypeId} {args : List Operand} {ats : Array TypeId} : Sac.exec Tryz.prog E (.call { callee := .value (.func 15), args := args.toArray, argTypes := ats }) ty w = .ok (.enter 15 (args.map (Sac.ev E)).toArray) w := Sac.x_callL Tryz.func15 (by kernel_rfl) rfl
theorem C16 {E : Sac.Env} {w : World} {ty : TypeId} {args : List Operand} {ats : Array TypeId} : Sac.exec Tryz.prog E (.call { callee := .value (.func 16), args := args.toArray, argTypes := ats }) ty w = .ok (.enter 16 (args.map (Sac.ev E)).toArray) w := Sac.x_callL Tryz.func16 (by kernel_rfl) rfl
theorem C17 {E : Sac.Env} {w : World} {ty : TypeId} {args : List Operand} {ats : Array TypeId} : Sac.exec Tryz.prog E (.call { callee := .value (.func 17), args := args.toArray, argTypes := ats }) ty w = .ok (.enter 17 (args.map (Sac.ev E)).toArray) w := Sac.x_callL Tryz.func17 (by kernel_rfl) rfl
theorem C18 {E : Sac.Env} {w : World} {ty : TypeId} {args : List Operand} {ats : Array TypeId} : Sac.exec Tryz.prog E (.call { callee := .value (.func 18), args := args.toArray, argTypes := ats }) ty w = .ok (.enter 18 (args.map (Sac.ev E)).toArray) w := Sac.x_callL Tryz.func18 (by kernel_rfl) rfl
theorem C19 {E : Sac.Env} {w : World} {ty : TypeId} {args : List Operand} {ats : Array TypeId} : Sac.exec Tryz.prog E (.call { callee := .value (.func 19), args := args.toArray, argTypes := ats }) ty w = .ok (.enter 19 (args.map (Sac.ev E)).toArray) w := Sac.x_callL Tryz.func19 (by kernel_rfl) rfl
theorem C20 {E : Sac.Env} {w : World} {ty : TypeId} {args : List Operand} {ats : Array TypeId} : Sac.exec Tryz.prog E (.call { callee := .value (.func 20), args := args.toArray, argTypes := ats }) ty w = .ok (.enter 20 (args.map (Sac.ev E)).toArray) w := Sac.x_callL Tryz.func20 (by kernel_rfl) rfl
theorem C21 {E : Sac.Env} {w : World} {ty : TypeId} {args : List Operand} {ats : Array TypeId} : Sac.exec Tryz.prog E (.call { callee := .value (.func 21), args := args.toArray, argTypes := ats }) ty w = .ok (.enter 21 (args.map (Sac.ev E)).toArray) w := Sac.x_callL Tryz.func21 (by kernel_rfl) rfl
theorem C22 {E : Sac.Env} {w : World} {ty : TypeId} {args : List Operand} {ats : Array TypeId} : Sac.exec Tryz.prog E (.call { callee := .value (.func 22), args := args.toArray, argTypes := ats }) ty w = .ok (.enter 22 (args.map (Sac.ev E)).toArray) w := Sac.x_callL Tryz.func22 (by kernel_rfl) rfl
theorem C23 {E : Sac.Env} {w : World} {ty : TypeId} {args : List Operand} {ats : Array TypeId} : Sac.exec Tryz.prog E (.call { callee := .value (.func 23), args := args.toArray, argTypes := ats }) ty w = .ok (.enter 23 (args.map (Sac.ev E)).toArray) w := Sac.x_callL Tryz.func23 (by kernel_rfl) rfl
theorem C24 {E : Sac.Env} {w : World} {ty : TypeId} {args : List Operand} {ats : Array TypeId} : Sac.exec Tryz.prog E (.call { callee := .value (.func 24), args := args.toArray, argTypes := ats }) ty w = .ok (.enter 24 (args.map (Sac.ev E)).toArray) w := Sac.x_callL Tryz.func24 (by kernel_rfl) rfl
theorem C25 {E : Sac.Env} {w : World} {ty : TypeId} {args : List Operand} {ats : Array TypeId} : Sac.exec Tryz.prog E (.call { callee := .value (.func 25), args := args.toArray, argTypes := ats }) ty w = .ok (.enter 25 (args.map (Sac.ev E)).toArray) w := Sac.x_callL Tryz.func25 (by kernel_rfl) rfl
theorem C26 {E : Sac.Env} {w : World} {ty : TypeId} {args : List Operand} {ats : Array TypeId} : Sac.exec Tryz.prog E (.call { callee := .value (.func 26), args := args.toArray, argTypes := ats }) ty w = .ok (.enter 26 (args.map (Sac.ev E)).toArray) w := Sac.x_callL Tryz.func26 (by kernel_rfl) rfl
theorem C27 {E : Sac.Env} {w : World} {ty : TypeId} {args : List Operand} {ats : Array TypeId} : Sac.exec Tryz.prog E (.call { callee := .value (.func 27), args := args.toArray, argTypes := ats }) ty w = .ok (.enter 27 (args.map (Sac.ev E)).toArray) w := Sac.x_callL Tryz.func27 (by kernel_rfl) rfl
theorem C28 {E : Sac.Env} {w : World} {ty : TypeId} {args : List Operand} {ats : Array TypeId} : Sac.exec Tryz.prog E (.call { callee := .value (.func 28), args := args.toArray, argTypes := ats }) ty w = .ok (.enter 28 (args.map (Sac.ev E)).toArray) w := Sac.x_callL Tryz.func28 (by kernel_rfl) rfl
theorem C29 {E : Sac.Env} {w : World} {ty : TypeId} {args : List Operand} {ats : Array TypeId} : Sac.exec Tryz.prog E (.call { callee := .value (.func 29), args := args.toArray, argTypes := ats }) ty w = .ok (.enter 29 (args.map (Sac.ev E)).toArray) w := Sac.x_callL Tryz.func29 (by kernel_rfl) rfl
theorem C30 {E : Sac.Env} {w : World} {ty : TypeId} {args : List Operand} {ats : Array TypeId} : Sac.exec Tryz.prog E (.call { callee := .value (.func 30), args := args.toArray, argTypes := ats }) ty w = .ok (.enter 30 (args.map (Sac.ev E)).toArray) w := Sac.x_callL Tryz.func30 (by kernel_rfl) rfl
theorem C31 {E : Sac.Env} {w : World} {ty : TypeId} {args : List Operand} {ats : Array TypeId} : Sac.exec Tryz.prog E (.call { callee := .value (.func 31), args := args.toArray, argTypes := ats }) ty w = .ok (.enter 31 (args.map (Sac.ev E)).toArray) w := Sac.x_callL Tryz.func31 (by kernel_rfl) rfl
theorem C32 {E : Sac.Env} {w : World} {ty : TypeId} {args : List Operand} {ats : Array TypeId} : Sac.exec Tryz.prog E (.call { callee := .value (.func 32), args := args.toArray, argTypes := ats }) ty w = .ok (.enter 32 (args.map (Sac.ev E)).toArray) w := Sac.x_callL Tryz.func32 (by kernel_rfl) rfl
theorem C33 {E : Sac.Env} {w : World} {ty : TypeId} {args : List Operand} {ats : Array TypeId} : Sac.exec Tryz.prog E (.call { callee := .value (.func 33), args := args.toArray, argTypes := ats }) ty w = .ok (.enter 33 (args.map (Sac.ev E)).toArray) w := Sac.x_callL Tryz.func33 (by kernel_rfl) rfl
theorem C34 {E : Sac.Env} {w : World} {ty : TypeId} {args : List Operand} {ats : Array TypeId} : Sac.exec Tryz.prog E (.call { callee := .value (.func 34), args := args.toArray, argTypes := ats }) ty w = .ok (.enter 34 (args.map (Sac.ev E)).toArray) w := Sac.x_callL Tryz.func34 (by kernel_rfl) rfl
theorem C35 {E : Sac.Env} {w : World} {ty : TypeId} {args : List Operand} {ats : Array TypeId} : Sac.exec Tryz.prog E (.call { callee := .value (.func 35), args := args.toArray, argTypes := ats }) ty w = .ok (.enter 35 (args.map (Sac.ev E)).toArray) w := Sac.x_callL Tryz.func35 (by kernel_rfl) rfl
theorem C36 {E : Sac.Env} {w : World} {ty : TypeId} {args : List Operand} {ats : Array TypeId} : Sac.exec Tryz.prog E (.call { callee := .value (.func 36), args := args.toArray, argTypes := ats }) ty w = .ok (.enter 36 (args.map (Sac.ev E)).toArray) w := Sac.x_callL Tryz.func36 (by kernel_rfl) rfl
theorem C37 {E : Sac.Env} {w : World} {ty : TypeId} {args : List Operand} {ats : Array TypeId} : Sac.exec Tryz.prog E (.call { callee := .value (.func 37), args := args.toArray, argTypes := ats }) ty w = .ok (.enter 37 (args.map (Sac.ev E)).toArray) w := Sac.x_callL Tryz.func37 (by kernel_rfl) rfl
theorem C38 {E : Sac.Env} {w : World} {ty : TypeId} {args : List Operand} {ats : Array TypeId} : Sac.exec Tryz.prog E (.call { callee := .value (.func 38), args := args.toArray, argTypes := ats }) ty w = .ok (.enter 38 (args.map (Sac.ev E)).toArray) w := Sac.x_callL Tryz.func38 (by kernel_rfl) rfl
theorem C39 {E : Sac.Env} {w : World} {ty : TypeId} {args : List Operand} {ats : Array TypeId} : Sac.exec Tryz.prog E (.call { callee := .value (.func 39), args := args.toArray, argTypes := ats }) ty w = .ok (.enter 39 (args.map (Sac.ev E)).toArray) w := Sac.x_callL Tryz.func39 (by kernel_rfl) rfl
theorem C40 {E : Sac.Env} {w : World} {ty : TypeId} {args : List Operand} {ats : Array TypeId} : Sac.exec Tryz.prog E (.call { callee := .value (.func 40), args := args.toArray, argTypes := ats }) ty w = .ok (.enter 40 (args.map (Sac.ev E)).toArray) w := Sac.x_callL Tryz.func40 (by kernel_rfl) rfl
theorem C41 {E : Sac.Env} {w : World} {ty : TypeId} {args : List Operand} {ats : Array TypeId} : Sac.exec Tryz.prog E (.call { callee := .value (.func 41), args := args.toArray, argTypes := ats }) ty w = .ok (.enter 41 (args.map (Sac.ev E)).toArray) w := Sac.x_callL Tryz.func41 (by kernel_rfl) rfl
theorem C42 {E : Sac.Env} {w : World} {ty : TypeId} {args : List Operand} {ats : Array TypeId} : Sac.exec Tryz.prog E (.call { callee := .value (.func 42), args := args.toArray, argTypes := ats }) ty w = .ok (.enter 42 (args.map (Sac.ev E)).toArray) w := Sac.x_callL Tryz.func42 (by kernel_rfl) rfl
theorem C43 {E : Sac.Env} {w : World} {ty : TypeId} {args : List Operand} {ats : Array TypeId} : Sac.exec Tryz.prog E (.call { callee := .value (.func 43), args := args.toArray, argTypes := ats }) ty w = .ok (.enter 43 (args.map (Sac.ev E)).toArray) w := Sac.x_callL Tryz.func43 (by kernel_rfl) rfl
theorem C44 {E : Sac.Env} {w : World} {ty : TypeId} {args : List Operand} {ats : Array TypeId} : Sac.exec Tryz.prog E (.call { callee := .value (.func 44), args := args.toArray, argTypes := ats }) ty w = .ok (.enter 44 (args.map (Sac.ev E)).toArray) w := Sac.x_callL Tryz.func44 (by kernel_rfl) rfl
theorem C45 {E : Sac.Env} {w : World} {ty : TypeId} {args : List Operand} {ats : Array TypeId} : Sac.exec Tryz.prog E (.call { callee := .value (.func 45), args := args.toArray, argTypes := ats }) ty w = .ok (.enter 45 (args.map (Sac.ev E)).toArray) w := Sac.x_callL Tryz.func45 (by kernel_rfl) rfl
theorem C46 {E : Sac.Env} {w : World} {ty : TypeId} {args : List Operand} {ats : Array TypeId} : Sac.exec Tryz.prog E (.call { callee := .value (.func 46), args := args.toArray, argTypes := ats }) ty w = .ok (.enter 46 (args.map (Sac.ev E)).toArray) w := Sac.x_callL Tryz.func46 (by kernel_rfl) rfl
theorem C47 {E : Sac.Env} {w : World} {ty : TypeId} {args : List Operand} {ats : Array TypeId} : Sac.exec Tryz.prog E (.call { callee := .value (.func 47), args := args.toArray, argTypes := ats }) ty w = .ok (.enter 47 (args.map (Sac.ev E)).toArray) w := Sac.x_callL Tryz.func47 (by kernel_rfl) rfl
theorem C48 {E : Sac.Env} {w : World} {ty : TypeId} {args : List Operand} {ats : Array TypeId} : Sac.exec Tryz.prog E (.call { callee := .value (.func 48), args := args.toArray, argTypes := ats }) ty w = .ok (.enter 48 (args.map (Sac.ev E)).toArray) w := Sac.x_callL Tryz.func48 (by kernel_rfl) rfl
theorem C49 {E : Sac.Env} {w : World} {ty : TypeId} {args : List Operand} {ats : Array TypeId} : Sac.exec Tryz.prog E (.call { callee := .value (.func 49), args := args.toArray, argTypes := ats }) ty w = .ok (.enter 49 (args.map (Sac.ev E)).toArray) w := Sac.x_callL Tryz.func49 (by kernel_rfl) rfl
theorem C50 {E : Sac.Env} {w : World} {ty : TypeId} {args : List Operand} {ats : Array TypeId} : Sac.exec Tryz.prog E (.call { callee := .value (.func 50), args := args.toArray, argTypes := ats }) ty w = .ok (.enter 50 (args.map (Sac.ev E)).toArray) w := Sac.x_callL Tryz.func50 (by kernel_rfl) rfl
theorem C51 {E : Sac.Env} {w : World} {ty : TypeId} {args : List Operand} {ats : Array TypeId} : Sac.exec Tryz.prog E (.call { callee := .value (.func 51), args := args.toArray, argTypes := ats }) ty w = .ok (.enter 51 (args.map (Sac.ev E)).toArray) w := Sac.x_callL Tryz.func51 (by kernel_rfl) rfl
theorem C52 {E : Sac.Env} {w : World} {ty : TypeId} {args : List Operand} {ats : Array TypeId} : Sac.exec Tryz.prog E (.call { callee := .value (.func 52), args := args.toArray, argTypes := ats }) ty w = .ok (.enter 52 (args.map (Sac.ev E)).toArray) w := Sac.x_callL Tryz.func52 (by kernel_rfl) rfl
theorem C53 {E : Sac.Env} {w : World} {ty : TypeId} {args : List Operand} {ats : Array TypeId} : Sac.exec Tryz.prog E (.call { callee := .value (.func 53), args := args.toArray, argTypes := ats }) ty w = .ok (.enter 53 (args.map (Sac.ev E)).toArray) w := Sac.x_callL Tryz.func53 (by kernel_rfl) rfl
theorem C54 {E : Sac.Env} {w : World} {ty : TypeId} {args : List Operand} {ats : Array TypeId} : Sac.exec Tryz.prog E (.call { callee := .value (.func 54), args := args.toArray, argTypes := ats }) ty w = .ok (.enter 54 (args.map (Sac.ev E)).toArray) w := Sac.x_callL Tryz.func54 (by kernel_rfl) rfl
theorem C55 {E : Sac.Env} {w : World} {ty : TypeId} {args : List Operand} {ats : Array TypeId} : Sac.exec Tryz.prog E (.call { callee := .value (.func 55), args := args.toArray, argTypes := ats }) ty w = .ok (.enter 55 (args.map (Sac.ev E)).toArray) w := Sac.x_callL Tryz.func55 (by kernel_rfl) rfl
theorem C56 {E : Sac.Env} {w : World} {ty : TypeId} {args : List Operand} {ats : Array TypeId} : Sac.exec Tryz.prog E (.call { callee := .value (.func 56), args := args.toArray, argTypes := ats }) ty w = .ok (.enter 56 (args.map (Sac.ev E)).toArray) w := Sac.x_callL Tryz.func56 (by kernel_rfl) rfl
theorem C57 {E : Sac.Env} {w : World} {ty : TypeId} {args : List Operand} {ats : Array TypeId} : Sac.exec Tryz.prog E (.call { callee := .value (.func 57), args := args.toArray, argTypes := ats }) ty w = .ok (.enter 57 (args.map (Sac.ev E)).toArray) w := Sac.x_callL Tryz.func57 (by kernel_rfl) rfl
theorem C58 {E : Sac.Env} {w : World} {ty : TypeId} {args : List Operand} {ats : Array TypeId} : Sac.exec Tryz.prog E (.call { callee := .value (.func 58), args := args.toArray, argTypes := ats }) ty w = .ok (.enter 58 (args.map (Sac.ev E)).toArray) w := Sac.x_callL Tryz.func58 (by kernel_rfl) rfl
theorem C59 {E : Sac.Env} {w : World} {ty : TypeId} {args : List Operand} {ats : Array TypeId} : Sac.exec Tryz.prog E (.call { callee := .value (.func 59), args := args.toArray, argTypes := ats }) ty w = .ok (.enter 59 (args.map (Sac.ev E)).toArray) w := Sac.x_callL Tryz.func59 (by kernel_rfl) rfl
theorem C60 {E : Sac.Env} {w : World} {ty : TypeId} {args : List Operand} {ats : Array TypeId} : Sac.exec Tryz.prog E (.call { callee := .value (.func 60), args := args.toArray, argTypes := ats }) ty w = .ok (.enter 60 (args.map (Sac.ev E)).toArray) w := Sac.x_callL Tryz.func60 (by kernel_rfl) rfl
theorem C61 {E : Sac.Env} {w : World} {ty : TypeId} {args : List Operand} {ats : Array TypeId} : Sac.exec Tryz.prog E (.call { callee := .value (.func 61), args := args.toArray, argTypes := ats }) ty w = .ok (.enter 61 (args.map (Sac.ev E)).toArray) w := Sac.x_callL Tryz.func61 (by kernel_rfl) rfl
theorem C62 {E : Sac.Env} {w : World} {ty : TypeId} {args : List Operand} {ats : Array TypeId} : Sac.exec Tryz.prog E (.call { callee := .value (.func 62), args := args.toArray, argTypes := ats }) ty w = .ok (.enter 62 (args.map (Sac.ev E)).toArray) w := Sac.x_callL Tryz.func62 (by kernel_rfl) rfl
theorem C63 {E : Sac.Env} {w : World} {ty : TypeId} {args : List Operand} {ats : Array TypeId} : Sac.exec Tryz.prog E (.call { callee := .value (.func 63), args := args.toArray, argTypes := ats }) ty w = .ok (.enter 63 (args.map (Sac.ev E)).toArray) w := Sac.x_callL Tryz.func63 (by kernel_rfl) rfl
theorem C64 {E : Sac.Env} {w : World} {ty : TypeId} {args : List Operand} {ats : Array TypeId} : Sac.exec Tryz.prog E (.call { callee := .value (.func 64), args := args.toArray, argTypes := ats }) ty w = .ok (.enter 64 (args.map (Sac.ev E)).toArray) w := Sac.x_callL Tryz.func64 (by kernel_rfl) rfl
theorem C65 {E : Sac.Env} {w : World} {ty : TypeId} {args : List Operand} {ats : Array TypeId} : Sac.exec Tryz.prog E (.call { callee := .value (.func 65), args := args.toArray, argTypes := ats }) ty w = .ok (.enter 65 (args.map (Sac.ev E)).toArray) w := Sac.x_callL Tryz.func65 (by kernel_rfl) rfl
theorem C66 {E : Sac.Env} {w : World} {ty : TypeId} {args : List Operand} {ats : Array TypeId} : Sac.exec Tryz.prog E (.call { callee := .value (.func 66), args := args.toArray, argTypes := ats }) ty w = .ok (.enter 66 (args.map (Sac.ev E)).toArray) w := Sac.x_callL Tryz.func66 (by kernel_rfl) rfl
theorem C67 {E : Sac.Env} {w : World} {ty : TypeId} {args : List Operand} {ats : Array TypeId} : Sac.exec Tryz.prog E (.call { callee := .value (.func 67), args := args.toArray, argTypes := ats }) ty w = .ok (.enter 67 (args.map (Sac.ev E)).toArray) w := Sac.x_callL Tryz.func67 (by kernel_rfl) rfl
theorem C68 {E : Sac.Env} {w : World} {ty : TypeId} {args : List Operand} {ats : Array TypeId} : Sac.exec Tryz.prog E (.call { callee := .value (.func 68), args := args.toArray, argTypes := ats }) ty w = .ok (.enter 68 (args.map (Sac.ev E)).toArray) w := Sac.x_callL Tryz.func68 (by kernel_rfl) rfl
theorem C69 {E : Sac.Env} {w : World} {ty : TypeId} {args : List Operand} {ats : Array TypeId} : Sac.exec Tryz.prog E (.call { callee := .value (.func 69), args := args.toArray, argTypes := ats }) ty w = .ok (.enter 69 (args.map (Sac.ev E)).toArray) w := Sac.x_callL Tryz.func69 (by kernel_rfl) rfl
theorem C70 {E : Sac.Env} {w : World} {ty : TypeId} {args : List Operand} {ats : Array TypeId} : Sac.exec Tryz.prog E (.call { callee := .value (.func 70), args := args.toArray, argTypes := ats }) ty w = .ok (.enter 70 (args.map (Sac.ev E)).toArray) w := Sac.x_callL Tryz.func70 (by kernel_rfl) rfl
theorem C71 {E : Sac.Env} {w : World} {ty : TypeId} {args : List Operand} {ats : Array TypeId} : Sac.exec Tryz.prog E (.call { callee := .value (.func 71), args := args.toArray, argTypes := ats }) ty w = .ok (.enter 71 (args.map (Sac.ev E)).toArray) w := Sac.x_callL Tryz.func71 (by kernel_rfl) rfl
theorem C72 {E : Sac.Env} {w : World} {ty : TypeId} {args : List Operand} {ats : Array TypeId} : Sac.exec Tryz.prog E (.call { callee := .value (.func 72), args := args.toArray, argTypes := ats }) ty w = .ok (.enter 72 (args.map (Sac.ev E)).toArray) w := Sac.x_callL Tryz.func72 (by kernel_rfl) rfl
theorem C73 {E : Sac.Env} {w : World} {ty : TypeId} {args : List Operand} {ats : Array TypeId} : Sac.exec Tryz.prog E (.call { callee := .value (.func 73), args := args.toArray, argTypes := ats }) ty w = .ok (.enter 73 (args.map (Sac.ev E)).toArray) w := Sac.x_callL Tryz.func73 (by kernel_rfl) rfl
theorem C74 {E : Sac.Env} {w : World} {ty : TypeId} {args : List Operand} {ats : Array TypeId} : Sac.exec Tryz.prog E (.call { callee := .value (.func 74), args := args.toArray, argTypes := ats }) ty w = .ok (.enter 74 (args.map (Sac.ev E)).toArray) w := Sac.x_callL Tryz.func74 (by kernel_rfl) rfl
theorem C75 {E : Sac.Env} {w : World} {ty : TypeId} {args : List Operand} {ats : Array TypeId} : Sac.exec Tryz.prog E (.call { callee := .value (.func 75), args := args.toArray, argTypes := ats }) ty w = .ok (.enter 75 (args.map (Sac.ev E)).toArray) w := Sac.x_callL Tryz.func75 (by kernel_rfl) rfl
theorem C76 {E : Sac.Env} {w : World} {ty : TypeId} {args : List Operand} {ats : Array TypeId} : Sac.exec Tryz.prog E (.call { callee := .value (.func 76), args := args.toArray, argTypes := ats }) ty w = .ok (.enter 76 (args.map (Sac.ev E)).toArray) w := Sac.x_callL Tryz.func76 (by kernel_rfl) rfl
theorem C77 {E : Sac.Env} {w : World} {ty : TypeId} {args : List Operand} {ats : Array TypeId} : Sac.exec Tryz.prog E (.call { callee := .value (.func 77), args := args.toArray, argTypes := ats }) ty w = .ok (.enter 77 (args.map (Sac.ev E)).toArray) w := Sac.x_callL Tryz.func77 (by kernel_rfl) rfl
theorem C78 {E : Sac.Env} {w : World} {ty : TypeId} {args : List Operand} {ats : Array TypeId} : Sac.exec Tryz.prog E (.call { callee := .value (.func 78), args := args.toArray, argTypes := ats }) ty w = .ok (.enter 78 (args.map (Sac.ev E)).toArray) w := Sac.x_callL Tryz.func78 (by kernel_rfl) rfl
theorem C79 {E : Sac.Env} {w : World} {ty : TypeId} {args : List Operand} {ats : Array TypeId} : Sac.exec Tryz.prog E (.call { callee := .value (.func 79), args := args.toArray, argTypes := ats }) ty w = .ok (.enter 79 (args.map (Sac.ev E)).toArray) w := Sac.x_callL Tryz.func79 (by kernel_rfl) rfl
theorem C80 {E : Sac.Env} {w : World} {ty : TypeId} {args : List Operand} {ats : Array TypeId} : Sac.exec Tryz.prog E (.call { callee := .value (.func 80), args := args.toArray, argTypes := ats }) ty w = .ok (.enter 80 (args.map (Sac.ev E)).toArray) w := Sac.x_callL Tryz.func80 (by kernel_rfl) rfl
theorem C81 {E : Sac.Env} {w : World} {ty : TypeId} {args : List Operand} {ats : Array TypeId} : Sac.exec Tryz.prog E (.call { callee := .value (.func 81), args := args.toArray, argTypes := ats }) ty w = .ok (.enter 81 (args.map (Sac.ev E)).toArray) w := Sac.x_callL Tryz.func81 (by kernel_rfl) rfl
theorem C82 {E : Sac.Env} {w : World} {ty : TypeId} {args : List Operand} {ats : Array TypeId} : Sac.exec Tryz.prog E (.call { callee := .value (.func 82), args := args.toArray, argTypes := ats }) ty w = .ok (.enter 82 (args.map (Sac.ev E)).toArray) w := Sac.x_callL Tryz.func82 (by kernel_rfl) rfl
theorem C83 {E : Sac.Env} {w : World} {ty : TypeId} {args : List Operand} {ats : Array TypeId} : Sac.exec Tryz.prog E (.call { callee := .value (.func 83), args := args.toArray, argTypes := ats }) ty w = .ok (.enter 83 (args.map (Sac.ev E)).toArray) w := Sac.x_callL Tryz.func83 (by kernel_rfl) rfl
theorem C84 {E : Sac.Env} {w : World} {ty : TypeId} {args : List Operand} {ats : Array TypeId} : Sac.exec Tryz.prog E (.call { callee := .value (.func 84), args := args.toArray, argTypes := ats }) ty w = .ok (.enter 84 (args.map (Sac.ev E)).toArray) w := Sac.x_callL Tryz.func84 (by kernel_rfl) rfl
theorem C85 {E : Sac.Env} {w : World} {ty : TypeId} {args : List Operand} {ats : Array TypeId} : Sac.exec Tryz.prog E (.call { callee := .value (.func 85), args := args.toArray, argTypes := ats }) ty w = .ok (.enter 85 (args.map (Sac.ev E)).toArray) w := Sac.x_callL Tryz.func85 (by kernel_rfl) rfl
theorem C86 {E : Sac.Env} {w : World} {ty : TypeId} {args : List Operand} {ats : Array TypeId} : Sac.exec Tryz.prog E (.call { callee := .value (.func 86), args := args.toArray, argTypes := ats }) ty w = .ok (.enter 86 (args.map (Sac.ev E)).toArray) w := Sac.x_callL Tryz.func86 (by kernel_rfl) rfl
theorem C87 {E : Sac.Env} {w : World} {ty : TypeId} {args : List Operand} {ats : Array TypeId} : Sac.exec Tryz.prog E (.call { callee := .value (.func 87), args := args.toArray, argTypes := ats }) ty w = .ok (.enter 87 (args.map (Sac.ev E)).toArray) w := Sac.x_callL Tryz.func87 (by kernel_rfl) rfl
theorem C88 {E : Sac.Env} {w : World} {ty : TypeId} {args : List Operand} {ats : Array TypeId} : Sac.exec Tryz.prog E (.call { callee := .value (.func 88), args := args.toArray, argTypes := ats }) ty w = .ok (.enter 88 (args.map (Sac.ev E)).toArray) w := Sac.x_callL Tryz.func88 (by kernel_rfl) rfl
theorem C89 {E : Sac.Env} {w : World} {ty : TypeId} {args : List Operand} {ats : Array TypeId} : Sac.exec Tryz.prog E (.call { callee := .value (.func 89), args := args.toArray, argTypes := ats }) ty w = .ok (.enter 89 (args.map (Sac.ev E)).toArray) w := Sac.x_callL Tryz.func89 (by kernel_rfl) rfl
theorem C90 {E : Sac.Env} {w : World} {ty : TypeId} {args : List Operand} {ats : Array TypeId} : Sac.exec Tryz.prog E (.call { callee := .value (.func 90), args := args.toArray, argTypes := ats }) ty w = .ok (.enter 90 (args.map (Sac.ev E)).toArray) w := Sac.x_callL Tryz.func90 (by kernel_rfl) rfl
theorem C91 {E : Sac.Env} {w : World} {ty : TypeId} {args : List Operand} {ats : Array TypeId} : Sac.exec Tryz.prog E (.call { callee := .value (.func 91), args := args.toArray, argTypes := ats }) ty w = .ok (.enter 91 (args.map (Sac.ev E)).toArray) w := Sac.x_callL Tryz.func91 (by kernel_rfl) rfl
theorem C92 {E : Sac.Env} {w : World} {ty : TypeId} {args : List Operand} {ats : Array TypeId} : Sac.exec Tryz.prog E (.call { callee := .value (.func 92), args := args.toArray, argTypes := ats }) ty w = .ok (.enter 92 (args.map (Sac.ev E)).toArray) w := Sac.x_callL Tryz.func92 (by kernel_rfl) rfl
theorem C93 {E : Sac.Env} {w : World} {ty : TypeId} {args : List Operand} {ats : Array TypeId} : Sac.exec Tryz.prog E (.call { callee := .value (.func 93), args := args.toArray, argTypes := ats }) ty w = .ok (.enter 93 (args.map (Sac.ev E)).toArray) w := Sac.x_callL Tryz.func93 (by kernel_rfl) rfl
theorem C94 {E : Sac.Env} {w : World} {ty : TypeId} {args : List Operand} {ats : Array TypeId} : Sac.exec Tryz.prog E (.call { callee := .value (.func 94), args := args.toArray, argTypes := ats }) ty w = .ok (.enter 94 (args.map (Sac.ev E)).toArray) w := Sac.x_callL Tryz.func94 (by kernel_rfl) rfl
theorem C95 {E : Sac.Env} {w : World} {ty : TypeId} {args : List Operand} {ats : Array TypeId} : Sac.exec Tryz.prog E (.call { callee := .value (.func 95), args := args.toArray, argTypes := ats }) ty w = .ok (.enter 95 (args.map (Sac.ev E)).toArray) w := Sac.x_callL Tryz.func95 (by kernel_rfl) rfl
theorem C96 {E : Sac.Env} {w : World} {ty : TypeId} {args : List Operand} {ats : Array TypeId} : Sac.exec Tryz.prog E (.call { callee := .value (.func 96), args := args.toArray, argTypes := ats }) ty w = .ok (.enter 96 (args.map (Sac.ev E)).toArray) w := Sac.x_callL Tryz.func96 (by kernel_rfl) rfl
theorem C97 {E : Sac.Env} {w : World} {ty : TypeId} {args : List Operand} {ats : Array TypeId} : Sac.exec Tryz.prog E (.call { callee := .value (.func 97), args := args.toArray, argTypes := ats }) ty w = .ok (.enter 97 (args.map (Sac.ev E)).toArray) w := Sac.x_callL Tryz.func97 (by kernel_rfl) rfl
theorem C98 {E : Sac.Env} {w : World} {ty : TypeId} {args : List Operand} {ats : Array TypeId} : Sac.exec Tryz.prog E (.call { callee := .value (.func 98), args := args.toArray, argTypes := ats }) ty w = .ok (.enter 98 (args.map (Sac.ev E)).toArray) w := Sac.x_callL Tryz.func98 (by kernel_rfl) rfl
theorem C99 {E : Sac.Env} {w : World} {ty : TypeId} {args : List Operand} {ats : Array TypeId} : Sac.exec Tryz.prog E (.call { callee := .value (.func 99), args := args.toArray, argTypes := ats }) ty w = .ok (.enter 99 (args.map (Sac.ev E)).toArray) w := Sac.x_callL Tryz.func99 (by kernel_rfl) rfl
theorem C100 {E : Sac.Env} {w : World} {ty : TypeId} {args : List Operand} {ats : Array TypeId} : Sac.exec Tryz.prog E (.call { callee := .value (.func 100), args := args.toArray, argTypes := ats }) ty w = .ok (.enter 100 (args.map (Sac.ev E)).toArray) w := Sac.x_callL Tryz.func100 (by kernel_rfl) rfl
theorem C101 {E : Sac.Env} {w : World} {ty : TypeId} {args : List Operand} {ats : Array TypeId} : Sac.exec Tryz.prog E (.call { callee := .value (.func 101), args := args.toArray, argTypes := ats }) ty w = .ok (.enter 101 (args.map (Sac.ev E)).toArray) w := Sac.x_callL Tryz.func101 (by kernel_rfl) rfl
theorem C102 {E : Sac.Env} {w : World} {ty : TypeId} {args : List Operand} {ats : Array TypeId} : Sac.exec Tryz.prog E (.call { callee := .value (.func 102), args := args.toArray, argTypes := ats }) ty w = .ok (.enter 102 (args.map (Sac.ev E)).toArray) w := Sac.x_callL Tryz.func102 (by kernel_rfl) rfl
theorem C104 {E : Sac.Env} {w : World} {ty : TypeId} {args : List Operand} {ats : Array TypeId} : Sac.exec Tryz.prog E (.call { callee := .value (.func 104), args := args.toArray, argTypes := ats }) ty w = .ok (.enter 104 (args.map (Sac.ev E)).toArray) w := Sac.x_callL Tryz.func104 (by kernel_rfl) rfl
theorem C105 {E : Sac.Env} {w : World} {ty : TypeId} {args : List Operand} {ats : Array TypeId} : Sac.exec Tryz.prog E (.call { callee := .value (.func 105), args := args.toArray, argTypes := ats }) ty w = .ok (.enter 105 (args.map (Sac.ev E)).toArray) w := Sac.x_callL Tryz.func105 (by kernel_rfl) rfl
theorem C106 {E : Sac.Env} {w : World} {ty : TypeId} {args : List Operand} {ats : Array TypeId} : Sac.exec Tryz.prog E (.call { callee := .value (.func 106), args := args.toArray, argTypes := ats }) ty w = .ok (.enter 106 (args.map (Sac.ev E)).toArray) w := Sac.x_callL Tryz.func106 (by kernel_rfl) rfl
theorem C107 {E : Sac.Env} {w : World} {ty : TypeId} {args : List Operand} {ats : Array TypeId} : Sac.exec Tryz.prog E (.call { callee := .value (.func 107), args := args.toArray, argTypes := ats }) ty w = .ok (.enter 107 (args.map (Sac.ev E)).toArray) w := Sac.x_callL Tryz.func107 (by kernel_rfl) rfl
theorem C108 {E : Sac.Env} {w : World} {ty : TypeId} {args : List Operand} {ats : Array TypeId} : Sac.exec Tryz.prog E (.call { callee := .value (.func 108), args := args.toArray, argTypes := ats }) ty w = .ok (.enter 108 (args.map (Sac.ev E)).toArray) w := Sac.x_callL Tryz.func108 (by kernel_rfl) rfl
theorem C109 {E : Sac.Env} {w : World} {ty : TypeId} {args : List Operand} {ats : Array TypeId} : Sac.exec Tryz.prog E (.call { callee := .value (.func 109), args := args.toArray, argTypes := ats }) ty w = .ok (.enter 109 (args.map (Sac.ev E)).toArray) w := Sac.x_callL Tryz.func109 (by kernel_rfl) rfl
theorem C110 {E : Sac.Env} {w : World} {ty : TypeId} {args : List Operand} {ats : Array TypeId} : Sac.exec Tryz.prog E (.call { callee := .value (.func 110), args := args.toArray, argTypes := ats }) ty w = .ok (.enter 110 (args.map (Sac.ev E)).toArray) w := Sac.x_callL Tryz.func110 (by kernel_rfl) rfl
theorem C111 {E : Sac.Env} {w : World} {ty : TypeId} {args : List Operand} {ats : Array TypeId} : Sac.exec Tryz.prog E (.call { callee := .value (.func 111), args := args.toArray, argTypes := ats }) ty w = .ok (.enter 111 (args.map (Sac.ev E)).toArray) w := Sac.x_callL Tryz.func111 (by kernel_rfl) rfl
theorem C112 {E : Sac.Env} {w : World} {ty : TypeId} {args : List Operand} {ats : Array TypeId} : Sac.exec Tryz.prog E (.call { callee := .value (.func 112), args := args.toArray, argTypes := ats }) ty w = .ok (.enter 112 (args.map (Sac.ev E)).toArray) w := Sac.x_callL Tryz.func112 (by kernel_rfl) rfl
theorem C113 {E : Sac.Env} {w : World} {ty : TypeId} {args : List Operand} {ats : Array TypeId} : Sac.exec Tryz.prog E (.call { callee := .value (.func 113), args := args.toArray, argTypes := ats }) ty w = .ok (.enter 113 (args.map (Sac.ev E)).toArray) w := Sac.x_callL Tryz.func113 (by kernel_rfl) rfl
theorem C114 {E : Sac.Env} {w : World} {ty : TypeId} {args : List Operand} {ats : Array TypeId} : Sac.exec Tryz.prog E (.call { callee := .value (.func 114), args := args.toArray, argTypes := ats }) ty w = .ok (.enter 114 (args.map (Sac.ev E)).toArray) w := Sac.x_callL Tryz.func114 (by kernel_rfl) rfl
theorem C115 {E : Sac.Env} {w : World} {ty : TypeId} {args : List Operand} {ats : Array TypeId} : Sac.exec Tryz.prog E (.call { callee := .value (.func 115), args := args.toArray, argTypes := ats }) ty w = .ok (.enter 115 (args.map (Sac.ev E)).toArray) w := Sac.x_callL Tryz.func115 (by kernel_rfl) rfl
theorem C116 {E : Sac.Env} {w : World} {ty : TypeId} {args : List Operand} {ats : Array TypeId} : Sac.exec Tryz.prog E (.call { callee := .value (.func 116), args := args.toArray, argTypes := ats }) ty w = .ok (.enter 116 (args.map (Sac.ev E)).toArray) w := Sac.x_callL Tryz.func116 (by kernel_rfl) rfl
theorem C117 {E : Sac.Env} {w : World} {ty : TypeId} {args : List Operand} {ats : Array TypeId} : Sac.exec Tryz.prog E (.call { callee := .value (.func 117), args := args.toArray, argTypes := ats }) ty w = .ok (.enter 117 (args.map (Sac.ev E)).toArray) w := Sac.x_callL Tryz.func117 (by kernel_rfl) rfl
theorem C118 {E : Sac.Env} {w : World} {ty : TypeId} {args : List Operand} {ats : Array TypeId} : Sac.exec Tryz.prog E (.call { callee := .value (.func 118), args := args.toArray, argTypes := ats }) ty w = .ok (.enter 118 (args.map (Sac.ev E)).toArray) w := Sac.x_callL Tryz.func118 (by kernel_rfl) rfl
theorem C119 {E : Sac.Env} {w : World} {ty : TypeId} {args : List Operand} {ats : Array TypeId} : Sac.exec Tryz.prog E (.call { callee := .value (.func 119), args := args.toArray, argTypes := ats }) ty w = .ok (.enter 119 (args.map (Sac.ev E)).toArray) w := Sac.x_callL Tryz.func119 (by kernel_rfl) rfl
theorem C120 {E : Sac.Env} {w : World} {ty : TypeId} {args : List Operand} {ats : Array TypeId} : Sac.exec Tryz.prog E (.call { callee := .value (.func 120), args := args.toArray, argTypes := ats }) ty w = .ok (.enter 120 (args.map (Sac.ev E)).toArray) w := Sac.x_callL Tryz.func120 (by kernel_rfl) rfl
theorem C121 {E : Sac.Env} {w : World} {ty : TypeId} {args : List Operand} {ats : Array TypeId} : Sac.exec Tryz.prog E (.call { callee := .value (.func 121), args := args.toArray, argTypes := ats }) ty w = .ok (.enter 121 (args.map (Sac.ev E)).toArray) w := Sac.x_callL Tryz.func121 (by kernel_rfl) rfl
theorem C122 {E : Sac.Env} {w : World} {ty : TypeId} {args : List Operand} {ats : Array TypeId} : Sac.exec Tryz.prog E (.call { callee := .value (.func 122), args := args.toArray, argTypes := ats }) ty w = .ok (.enter 122 (args.map (Sac.ev E)).toArray) w := Sac.x_callL Tryz.func122 (by kernel_rfl) rfl
theorem C123 {E : Sac.Env} {w : World} {ty : TypeId} {args : List Operand} {ats : Array TypeId} : Sac.exec Tryz.prog E (.call { callee := .value (.func 123), args := args.toArray, argTypes := ats }) ty w = .ok (.enter 123 (args.map (Sac.ev E)).toArray) w := Sac.x_callL Tryz.func123 (by kernel_rfl) rfl
theorem C124 {E : Sac.Env} {w : World} {ty : TypeId} {args : List Operand} {ats : Array TypeId} : Sac.exec Tryz.prog E (.call { callee := .value (.func 124), args := args.toArray, argTypes := ats }) ty w = .ok (.enter 124 (args.map (Sac.ev E)).toArray) w := Sac.x_callL Tryz.func124 (by kernel_rfl) rfl
theorem C125 {E : Sac.Env} {w : World} {ty : TypeId} {args : List Operand} {ats : Array TypeId} : Sac.exec Tryz.prog E (.call { callee := .value (.func 125), args := args.toArray, argTypes := ats }) ty w = .ok (.enter 125 (args.map (Sac.ev E)).toArray) w := Sac.x_callL Tryz.func125 (by kernel_rfl) rfl
theorem C126 {E : Sac.Env} {w : World} {ty : TypeId} {args : List Operand} {ats : Array TypeId} : Sac.exec Tryz.prog E (.call { callee := .value (.func 126), args := args.toArray, argTypes := ats }) ty w = .ok (.enter 126 (args.map (Sac.ev E)).toArray) w := Sac.x_callL Tryz.func126 (by kernel_rfl) rfl
theorem C127 {E : Sac.Env} {w : World} {ty : TypeId} {args : List Operand} {ats : Array TypeId} : Sac.exec Tryz.prog E (.call { callee := .value (.func 127), args := args.toArray, argTypes := ats }) ty w = .ok (.enter 127 (args.map (Sac.ev E)).toArray) w := Sac.x_callL Tryz.func127 (by kernel_rfl) rfl
theorem C128 {E : Sac.Env} {w : World} {ty : TypeId} {args : List Operand} {ats : Array TypeId} : Sac.exec Tryz.prog E (.call { callee := .value (.func 128), args := args.toArray, argTypes := ats }) ty w = .ok (.enter 128 (args.map (Sac.ev E)).toArray) w := Sac.x_callL Tryz.func128 (by kernel_rfl) rfl
theorem C129 {E : Sac.Env} {w : World} {ty : TypeId} {args : List Operand} {ats : Array TypeId} : Sac.exec Tryz.prog E (.call { callee := .value (.func 129), args := args.toArray, argTypes := ats }) ty w = .ok (.enter 129 (args.map (Sac.ev E)).toArray) w := Sac.x_callL Tryz.func129 (by kernel_rfl) rfl
theorem C130 {E : Sac.Env} {w : World} {ty : TypeId} {args : List Operand} {ats : Array TypeId} : Sac.exec Tryz.prog E (.call { callee := .value (.func 130), args := args.toArray, argTypes := ats }) ty w = .ok (.enter 130 (args.map (Sac.ev E)).toArray) w := Sac.x_callL Tryz.func130 (by kernel_rfl) rfl
theorem C131 {E : Sac.Env} {w : World} {ty : TypeId} {args : List Operand} {ats : Array TypeId} : Sac.exec Tryz.prog E (.call { callee := .value (.func 131), args := args.toArray, argTypes := ats }) ty w = .ok (.enter 131 (args.map (Sac.ev E)).toArray) w := Sac.x_callL Tryz.func131 (by kernel_rfl) rfl
theorem C132 {E : Sac.Env} {w : World} {ty : TypeId} {args : List Operand} {ats : Array TypeId} : Sac.exec Tryz.prog E (.call { callee := .value (.func 132), args := args.toArray, argTypes := ats }) ty w = .ok (.enter 132 (args.map (Sac.ev E)).toArray) w := Sac.x_callL Tryz.func132 (by kernel_rfl) rfl
theorem C133 {E : Sac.Env} {w : World} {ty : TypeId} {args : List Operand} {ats : Array TypeId} : Sac.exec Tryz.prog E (.call { callee := .value (.func 133), args := args.toArray, argTypes := ats }) ty w = .ok (.enter 133 (args.map (Sac.ev E)).toArray) w := Sac.x_callL Tryz.func133 (by kernel_rfl) rfl
theorem C134 {E : Sac.Env} {w : World} {ty : TypeId} {args : List Operand} {ats : Array TypeId} : Sac.exec Tryz.prog E (.call { callee := .value (.func 134), args := args.toArray, argTypes := ats }) ty w = .ok (.enter 134 (args.map (Sac.ev E)).toArray) w := Sac.x_callL Tryz.func134 (by kernel_rfl) rfl
theorem C135 {E : Sac.Env} {w : World} {ty : TypeId} {args : List Operand} {ats : Array TypeId} : Sac.exec Tryz.prog E (.call { callee := .value (.func 135), args := args.toArray, argTypes := ats }) ty w = .ok (.enter 135 (args.map (Sac.ev E)).toArray) w := Sac.x_callL Tryz.func135 (by kernel_rfl) rfl
theorem C136 {E : Sac.Env} {w : World} {ty : TypeId} {args : List Operand} {ats : Array TypeId} : Sac.exec Tryz.prog E (.call { callee := .value (.func 136), args := args.toArray, argTypes := ats }) ty w = .ok (.enter 136 (args.map (Sac.ev E)).toArray) w := Sac.x_callL Tryz.func136 (by kernel_rfl) rfl
theorem C137 {E : Sac.Env} {w : World} {ty : TypeId} {args : List Operand} {ats : Array TypeId} : Sac.exec Tryz.prog E (.call { callee := .value (.func 137), args := args.toArray, argTypes := ats }) ty w = .ok (.enter 137 (args.map (Sac.ev E)).toArray) w := Sac.x_callL Tryz.func137 (by kernel_rfl) rfl
theorem C138 {E : Sac.Env} {w : World} {ty : TypeId} {args : List Operand} {ats : Array TypeId} : Sac.exec Tryz.prog E (.call { callee := .value (.func 138), args := args.toArray, argTypes := ats }) ty w = .ok (.enter 138 (args.map (Sac.ev E)).toArray) w := Sac.x_callL Tryz.func138 (by kernel_rfl) rfl
theorem C139 {E : Sac.Env} {w : World} {ty : TypeId} {args : List Operand} {ats : Array TypeId} : Sac.exec Tryz.prog E (.call { callee := .value (.func 139), args := args.toArray, argTypes := ats }) ty w = .ok (.enter 139 (args.map (Sac.ev E)).toArray) w := Sac.x_callL Tryz.func139 (by kernel_rfl) rfl
theorem C140 {E : Sac.Env} {w : World} {ty : TypeId} {args : List Operand} {ats : Array TypeId} : Sac.exec Tryz.prog E (.call { callee := .value (.func 140), args := args.toArray, argTypes := ats }) ty w = .ok (.enter 140 (args.map (Sac.ev E)).toArray) w := Sac.x_callL Tryz.func140 (by kernel_rfl) rfl
theorem C141 {E : Sac.Env} {w : World} {ty : TypeId} {args : List Operand} {ats : Array TypeId} : Sac.exec Tryz.prog E (.call { callee := .value (.func 141), args := args.toArray, argTypes := ats }) ty w = .ok (.enter 141 (args.map (Sac.ev E)).toArray) w := Sac.x_callL Tryz.func141 (by kernel_rfl) rfl
theorem C142 {E : Sac.Env} {w : World} {ty : TypeId} {args : List Operand} {ats : Array TypeId} : Sac.exec Tryz.prog E (.call { callee := .value (.func 142), args := args.toArray, argTypes := ats }) ty w = .ok (.enter 142 (args.map (Sac.ev E)).toArray) w := Sac.x_callL Tryz.func142 (by kernel_rfl) rfl
theorem C143 {E : Sac.Env} {w : World} {ty : TypeId} {args : List Operand} {ats : Array TypeId} : Sac.exec Tryz.prog E (.call { callee := .value (.func 143), args := args.toArray, argTypes := ats }) ty w = .ok (.enter 143 (args.map (Sac.ev E)).toArray) w := Sac.x_callL Tryz.func143 (by kernel_rfl) rfl
theorem C144 {E : Sac.Env} {w : World} {ty : TypeId} {args : List Operand} {ats : Array TypeId} : Sac.exec Tryz.prog E (.call { callee := .value (.func 144), args := args.toArray, argTypes := ats }) ty w = .ok (.enter 144 (args.map (Sac.ev E)).toArray) w := Sac.x_callL Tryz.func144 (by kernel_rfl) rfl
theorem C145 {E : Sac.Env} {w : World} {ty : TypeId} {args : List Operand} {ats : Array TypeId} : Sac.exec Tryz.prog E (.call { callee := .value (.func 145), args := args.toArray, argTypes := ats }) ty w = .ok (.enter 145 (args.map (Sac.ev E)).toArray) w := Sac.x_callL Tryz.func145 (by kernel_rfl) rfl
theorem C146 {E : Sac.Env} {w : World} {ty : TypeId} {args : List Operand} {ats : Array TypeId} : Sac.exec Tryz.prog E (.call { callee := .value (.func 146), args := args.toArray, argTypes := ats }) ty w = .ok (.enter 146 (args.map (Sac.ev E)).toArray) w := Sac.x_callL Tryz.func146 (by kernel_rfl) rfl
theorem C147 {E : Sac.Env} {w : World} {ty : TypeId} {args : List Operand} {ats : Array TypeId} : Sac.exec Tryz.prog E (.call { callee := .value (.func 147), args := args.toArray, argTypes := ats }) ty w = .ok (.enter 147 (args.map (Sac.ev E)).toArray) w := Sac.x_callL Tryz.func147 (by kernel_rfl) rfl
theorem C148 {E : Sac.Env} {w : World} {ty : TypeId} {args : List Operand} {ats : Array TypeId} : Sac.exec Tryz.prog E (.call { callee := .value (.func 148), args := args.toArray, argTypes := ats }) ty w = .ok (.enter 148 (args.map (Sac.ev E)).toArray) w := Sac.x_callL Tryz.func148 (by kernel_rfl) rfl
theorem C149 {E : Sac.Env} {w : World} {ty : TypeId} {args : List Operand} {ats : Array TypeId} : Sac.exec Tryz.prog E (.call { callee := .value (.func 149), args := args.toArray, argTypes := ats }) ty w = .ok (.enter 149 (args.map (Sac.ev E)).toArray) w := Sac.x_callL Tryz.func149 (by kernel_rfl) rfl
theorem C150 {E : Sac.Env} {w : World} {ty : TypeId} {args : List Operand} {ats : Array TypeId} : Sac.exec Tryz.prog E (.call { callee := .value (.func 150), args := args.toArray, argTypes := ats }) ty w = .ok (.enter 150 (args.map (Sac.ev E)).toArray) w := Sac.x_callL Tryz.func150 (by kernel_rfl) rfl
theorem C151 {E : Sac.Env} {w : World} {ty : TypeId} {args : List Operand} {ats : Array TypeId} : Sac.exec Tryz.prog E (.call { callee := .value (.func 151), args := args.toArray, argTypes := ats }) ty w = .ok (.enter 151 (args.map (Sac.ev E)).toArray) w := Sac.x_callL Tryz.func151 (by kernel_rfl) rfl
theorem C152 {E : Sac.Env} {w : World} {ty : TypeId} {args : List Operand} {ats : Array TypeId} : Sac.exec Tryz.prog E (.call { callee := .value (.func 152), args := args.toArray, argTypes := ats }) ty w = .ok (.enter 152 (args.map (Sac.ev E)).toArray) w := Sac.x_callL Tryz.func152 (by kernel_rfl) rfl
theorem C153 {E : Sac.Env} {w : World} {ty : TypeId} {args : List Operand} {ats : Array TypeId} : Sac.exec Tryz.prog E (.call { callee := .value (.func 153), args := args.toArray, argTypes := ats }) ty w = .ok (.enter 153 (args.map (Sac.ev E)).toArray) w := Sac.x_callL Tryz.func153 (by kernel_rfl) rfl
theorem C154 {E : Sac.Env} {w : World} {ty : TypeId} {args : List Operand} {ats : Array TypeId} : Sac.exec Tryz.prog E (.call { callee := .value (.func 154), args := args.toArray, argTypes := ats }) ty w = .ok (.enter 154 (args.map (Sac.ev E)).toArray) w := Sac.x_callL Tryz.func154 (by kernel_rfl) rfl
theorem C155 {E : Sac.Env} {w : World} {ty : TypeId} {args : List Operand} {ats : Array TypeId} : Sac.exec Tryz.prog E (.call { callee := .value (.func 155), args := args.toArray, argTypes := ats }) ty w = .ok (.enter 155 (args.map (Sac.ev E)).toArray) w := Sac.x_callL Tryz.func155 (by kernel_rfl) rfl
theorem C156 {E : Sac.Env} {w : World} {ty : TypeId} {args : List Operand} {ats : Array TypeId} : Sac.exec Tryz.prog E (.call { callee := .value (.func 156), args := args.toArray, argTypes := ats }) ty w = .ok (.enter 156 (args.map (Sac.ev E)).toArray) w := Sac.x_callL Tryz.func156 (by kernel_rfl) rfl
theorem C157 {E : Sac.Env} {w : World} {ty : TypeId} {args : List Operand} {ats : Array TypeId} : Sac.exec Tryz.prog E (.call { callee := .value (.func 157), args := args.toArray, argTypes := ats }) ty w = .ok (.enter 157 (args.map (Sac.ev E)).toArray) w := Sac.x_callL Tryz.func157 (by kernel_rfl) rfl
theorem C158 {E : Sac.Env} {w : World} {ty : TypeId} {args : List Operand} {ats : Array TypeId} : Sac.exec Tryz.prog E (.call { callee := .value (.func 158), args := args.toArray, argTypes := ats }) ty w = .ok (.enter 158 (args.map (Sac.ev E)).toArray) w := Sac.x_callL Tryz.func158 (by kernel_rfl) rfl
theorem C159 {E : Sac.Env} {w : World} {ty : TypeId} {args : List Operand} {ats : Array TypeId} : Sac.exec Tryz.prog E (.call { callee := .value (.func 159), args := args.toArray, argTypes := ats }) ty w = .ok (.enter 159 (args.map (Sac.ev E)).toArray) w := Sac.x_callL Tryz.func159 (by kernel_rfl) rfl
theorem C160 {E : Sac.Env} {w : World} {ty : TypeId} {args : List Operand} {ats : Array TypeId} : Sac.exec Tryz.prog E (.call { callee := .value (.func 160), args := args.toArray, argTypes := ats }) ty w = .ok (.enter 160 (args.map (Sac.ev E)).toArray) w := Sac.x_callL Tryz.func160 (by kernel_rfl) rfl
theorem C161 {E : Sac.Env} {w : World} {ty : TypeId} {args : List Operand} {ats : Array TypeId} : Sac.exec Tryz.prog E (.call { callee := .value (.func 161), args := args.toArray, argTypes := ats }) ty w = .ok (.enter 161 (args.map (Sac.ev E)).toArray) w := Sac.x_callL Tryz.func161 (by kernel_rfl) rfl
theorem C162 {E : Sac.Env} {w : World} {ty : TypeId} {args : List Operand} {ats : Array TypeId} : Sac.exec Tryz.prog E (.call { callee := .value (.func 162), args := args.toArray, argTypes := ats }) ty w = .ok (.enter 162 (args.map (Sac.ev E)).toArray) w := Sac.x_callL Tryz.func162 (by kernel_rfl) rfl
theorem C163 {E : Sac.Env} {w : World} {ty : TypeId} {args : List Operand} {ats : Array TypeId} : Sac.exec Tryz.prog E (.call { callee := .value (.func 163), args := args.toArray, argTypes := ats }) ty w = .ok (.enter 163 (args.map (Sac.ev E)).toArray) w := Sac.x_callL Tryz.func163 (by kernel_rfl) rfl
theorem C164 {E : Sac.Env} {w : World} {ty : TypeId} {args : List Operand} {ats : Array TypeId} : Sac.exec Tryz.prog E (.call { callee := .value (.func 164), args := args.toArray, argTypes := ats }) ty w = .ok (.enter 164 (args.map (Sac.ev E)).toArray) w := Sac.x_callL Tryz.func164 (by kernel_rfl) rfl
theorem C165 {E : Sac.Env} {w : World} {ty : TypeId} {args : List Operand} {ats : Array TypeId} : Sac.exec Tryz.prog E (.call { callee := .value (.func 165), args := args.toArray, argTypes := ats }) ty w = .ok (.enter 165 (args.map (Sac.ev E)).toArray) w := Sac.x_callL Tryz.func165 (by kernel_rfl) rfl
theorem C166 {E : Sac.Env} {w : World} {ty : TypeId} {args : List Operand} {ats : Array TypeId} : Sac.exec Tryz.prog E (.call { callee := .value (.func 166), args := args.toArray, argTypes := ats }) ty w = .ok (.enter 166 (args.map (Sac.ev E)).toArray) w := Sac.x_callL Tryz.func166 (by kernel_rfl) rfl
theorem C167 {E : Sac.Env} {w : World} {ty : TypeId} {args : List Operand} {ats : Array TypeId} : Sac.exec Tryz.prog E (.call { callee := .value (.func 167), args := args.toArray, argTypes := ats }) ty w = .ok (.enter 167 (args.map (Sac.ev E)).toArray) w := Sac.x_callL Tryz.func167 (by kernel_rfl) rfl
theorem C168 {E : Sac.Env} {w : World} {ty : TypeId} {args : List Operand} {ats : Array TypeId} : Sac.exec Tryz.prog E (.call { callee := .value (.func 168), args := args.toArray, argTypes := ats }) ty w = .ok (.enter 168 (args.map (Sac.ev E)).toArray) w := Sac.x_callL Tryz.func168 (by kernel_rfl) rfl
theorem C169 {E : Sac.Env} {w : World} {ty : TypeId} {args : List Operand} {ats : Array TypeId} : Sac.exec Tryz.prog E (.call { callee := .value (.func 169), args := args.toArray, argTypes := ats }) ty w = .ok (.enter 169 (args.map (Sac.ev E)).toArray) w := Sac.x_callL Tryz.func169 (by kernel_rfl) rfl
theorem C170 {E : Sac.Env} {w : World} {ty : TypeId} {args : List Operand} {ats : Array TypeId} : Sac.exec Tryz.prog E (.call { callee := .value (.func 170), args := args.toArray, argTypes := ats }) ty w = .ok (.enter 170 (args.map (Sac.ev E)).toArray) w := Sac.x_callL Tryz.func170 (by kernel_rfl) rfl
theorem C171 {E : Sac.Env} {w : World} {ty : TypeId} {args : List Operand} {ats : Array TypeId} : Sac.exec Tryz.prog E (.call { callee := .value (.func 171), args := args.toArray, argTypes := ats }) ty w = .ok (.enter 171 (args.map (Sac.ev E)).toArray) w := Sac.x_callL Tryz.func171 (by kernel_rfl) rfl
theorem C172 {E : Sac.Env} {w : World} {ty : TypeId} {args : List Operand} {ats : Array TypeId} : Sac.exec Tryz.prog E (.call { callee := .value (.func 172), args := args.toArray, argTypes := ats }) ty w = .ok (.enter 172 (args.map (Sac.ev E)).toArray) w := Sac.x_callL Tryz.func172 (by kernel_rfl) rfl
theorem C173 {E : Sac.Env} {w : World} {ty : TypeId} {args : List Operand} {ats : Array TypeId} : Sac.exec Tryz.prog E (.call { callee := .value (.func 173), args := args.toArray, argTypes := ats }) ty w = .ok (.enter 173 (args.map (Sac.ev E)).toArray) w := Sac.x_callL Tryz.func173 (by kernel_rfl) rfl
theorem C174 {E : Sac.Env} {w : World} {ty : TypeId} {args : List Operand} {ats : Array TypeId} : Sac.exec Tryz.prog E (.call { callee := .value (.func 174), args := args.toArray, argTypes := ats }) ty w = .ok (.enter 174 (args.map (Sac.ev E)).toArray) w := Sac.x_callL Tryz.func174 (by kernel_rfl) rfl
theorem C175 {E : Sac.Env} {w : World} {ty : TypeId} {args : List Operand} {ats : Array TypeId} : Sac.exec Tryz.prog E (.call { callee := .value (.func 175), args := args.toArray, argTypes := ats }) ty w = .ok (.enter 175 (args.map (Sac.ev E)).toArray) w := Sac.x_callL Tryz.func175 (by kernel_rfl) rfl
theorem C176 {E : Sac.Env} {w : World} {ty : TypeId} {args : List Operand} {ats : Array TypeId} : Sac.exec Tryz.prog E (.call { callee := .value (.func 176), args := args.toArray, argTypes := ats }) ty w = .ok (.enter 176 (args.map (Sac.ev E)).toArray) w := Sac.x_callL Tryz.func176 (by kernel_rfl) rfl
theorem C177 {E : Sac.Env} {w : World} {ty : TypeId} {args : List Operand} {ats : Array TypeId} : Sac.exec Tryz.prog E (.call { callee := .value (.func 177), args := args.toArray, argTypes := ats }) ty w = .ok (.enter 177 (args.map (Sac.ev E)).toArray) w := Sac.x_callL Tryz.func177 (by kernel_rfl) rfl
theorem C178 {E : Sac.Env} {w : World} {ty : TypeId} {args : List Operand} {ats : Array TypeId} : Sac.exec Tryz.prog E (.call { callee := .value (.func 178), args := args.toArray, argTypes := ats }) ty w = .ok (.enter 178 (args.map (Sac.ev E)).toArray) w := Sac.x_callL Tryz.func178 (by kernel_rfl) rfl
theorem C179 {E : Sac.Env} {w : World} {ty : TypeId} {args : List Operand} {ats : Array TypeId} : Sac.exec Tryz.prog E (.call { callee := .value (.func 179), args := args.toArray, argTypes := ats }) ty w = .ok (.enter 179 (args.map (Sac.ev E)).toArray) w := Sac.x_callL Tryz.func179 (by kernel_rfl) rfl
theorem C180 {E : Sac.Env} {w : World} {ty : TypeId} {args : List Operand} {ats : Array TypeId} : Sac.exec Tryz.prog E (.call { callee := .value (.func 180), args := args.toArray, argTypes := ats }) ty w = .ok (.enter 180 (args.map (Sac.ev E)).toArray) w := Sac.x_callL Tryz.func180 (by kernel_rfl) rfl
theorem C181 {E : Sac.Env} {w : World} {ty : TypeId} {args : List Operand} {ats : Array TypeId} : Sac.exec Tryz.prog E (.call { callee := .value (.func 181), args := args.toArray, argTypes := ats }) ty w = .ok (.enter 181 (args.map (Sac.ev E)).toArray) w := Sac.x_callL Tryz.func181 (by kernel_rfl) rfl
theorem C182 {E : Sac.Env} {w : World} {ty : TypeId} {args : List Operand} {ats : Array TypeId} : Sac.exec Tryz.prog E (.call { callee := .value (.func 182), args := args.toArray, argTypes := ats }) ty w = .ok (.enter 182 (args.map (Sac.ev E)).toArray) w := Sac.x_callL Tryz.func182 (by kernel_rfl) rfl
theorem C183 {E : Sac.Env} {w : World} {ty : TypeId} {args : List Operand} {ats : Array TypeId} : Sac.exec Tryz.prog E (.call { callee := .value (.func 183), args := args.toArray, argTypes := ats }) ty w = .ok (.enter 183 (args.map (Sac.ev E)).toArray) w := Sac.x_callL Tryz.func183 (by kernel_rfl) rfl
theorem C184 {E : Sac.Env} {w : World} {ty : TypeId} {args : List Operand} {ats : Array TypeId} : Sac.exec Tryz.prog E (.call { callee := .value (.func 184), args := args.toArray, argTypes := ats }) ty w = .ok (.enter 184 (args.map (Sac.ev E)).toArray) w := Sac.x_callL Tryz.func184 (by kernel_rfl) rfl
theorem C185 {E : Sac.Env} {w : World} {ty : TypeId} {args : List Operand} {ats : Array TypeId} : Sac.exec Tryz.prog E (.call { callee := .value (.func 185), args := args.toArray, argTypes := ats }) ty w = .ok (.enter 185 (args.map (Sac.ev E)).toArray) w := Sac.x_callL Tryz.func185 (by kernel_rfl) rfl
theorem C186 {E : Sac.Env} {w : World} {ty : TypeId} {args : List Operand} {ats : Array TypeId} : Sac.exec Tryz.prog E (.call { callee := .value (.func 186), args := args.toArray, argTypes := ats }) ty w = .ok (.enter 186 (args.map (Sac.ev E)).toArray) w := Sac.x_callL Tryz.func186 (by kernel_rfl) rfl
theorem C187 {E : Sac.Env} {w : World} {ty : TypeId} {args : List Operand} {ats : Array TypeId} : Sac.exec Tryz.prog E (.call { callee := .value (.func 187), args := args.toArray, argTypes := ats }) ty w = .ok (.enter 187 (args.map (Sac.ev E)).toArray) w := Sac.x_callL Tryz.func187 (by kernel_rfl) rfl
theorem C188 {E : Sac.Env} {w : World} {ty : TypeId} {args : List Operand} {ats : Array TypeId} : Sac.exec Tryz.prog E (.call { callee := .value (.func 188), args := args.toArray, argTypes := ats }) ty w = .ok (.enter 188 (args.map (Sac.ev E)).toArray) w := Sac.x_callL Tryz.func188 (by kernel_rfl) rfl
theorem C189 {E : Sac.Env} {w : World} {ty : TypeId} {args : List Operand} {ats : Array TypeId} : Sac.exec Tryz.prog E (.call { callee := .value (.func 189), args := args.toArray, argTypes := ats }) ty w = .ok (.enter 189 (args.map (Sac.ev E)).toArray) w := Sac.x_callL Tryz.func189 (by kernel_rfl) rfl
theorem C190 {E : Sac.Env} {w : World} {ty : TypeId} {args : List Operand} {ats : Array TypeId} : Sac.exec Tryz.prog E (.call { callee := .value (.func 190), args := args.toArray, argTypes := ats }) ty w = .ok (.enter 190 (args.map (Sac.ev E)).toArray) w := Sac.x_callL Tryz.func190 (by kernel_rfl) rfl
theorem C191 {E : Sac.Env} {w : World} {ty : TypeId} {args : List Operand} {ats : Array TypeId} : Sac.exec Tryz.prog E (.call { callee := .value (.func 191), args := args.toArray, argTypes := ats }) ty w = .ok (.enter 191 (args.map (Sac.ev E)).toArray) w := Sac.x_callL Tryz.func191 (by kernel_rfl) rfl
theorem C192 {E : Sac.Env} {w : World} {ty : TypeId} {args : List Operand} {ats : Array TypeId} : Sac.exec Tryz.prog E (.call { callee := .value (.func 192), args := args.toArray, argTypes := ats }) ty w = .ok (.enter 192 (args.map (Sac.ev E)).toArray) w := Sac.x_callL Tryz.func192 (by kernel_rfl) rfl
theorem C193 {E : Sac.Env} {w : World} {ty : TypeId} {args : List Operand} {ats : Array TypeId} : Sac.exec Tryz.prog E (.call { callee := .value (.func 193), args := args.toArray, argTypes := ats }) ty w = .ok (.enter 193 (args.map (Sac.ev E)).toArray) w := Sac.x_callL Tryz.func193 (by kernel_rfl) rfl
theorem C194 {E : Sac.Env} {w : World} {ty : TypeId} {args : List Operand} {ats : Array TypeId} : Sac.exec Tryz.prog E (.call { callee := .value (.func 194), args := args.toArray, argTypes := ats }) ty w = .ok (.enter 194 (args.map (Sac.ev E)).toArray) w := Sac.x_callL Tryz.func194 (by kernel_rfl) rfl
theorem C195 {E : Sac.Env} {w : World} {ty : TypeId} {args : List Operand} {ats : Array TypeId} : Sac.exec Tryz.prog E (.call { callee := .value (.func 195), args := args.toArray, argTypes := ats }) ty w = .ok (.enter 195 (args.map (Sac.ev E)).toArray) w := Sac.x_callL Tryz.func195 (by kernel_rfl) rfl
theorem C196 {E : Sac.Env} {w : World} {ty : TypeId} {args : List Operand} {ats : Array TypeId} : Sac.exec Tryz.prog E (.call { callee := .value (.func 196), args := args.toArray, argTypes := ats }) ty w = .ok (.enter 196 (args.map (Sac.ev E)).toArray) w := Sac.x_callL Tryz.func196 (by kernel_rfl) rfl
theorem C197 {E : Sac.Env} {w : World} {ty : TypeId} {args : List Operand} {ats : Array TypeId} : Sac.exec Tryz.prog E (.call { callee := .value (.func 197), args := args.toArray, argTypes := ats }) ty w = .ok (.enter 197 (args.map (Sac.ev E)).toArray) w := Sac.x_callL Tryz.func197 (by kernel_rfl) rfl
theorem C198 {E : Sac.Env} {w : World} {ty : TypeId} {args : List Operand} {ats : Array TypeId} : Sac.exec Tryz.prog E (.call { callee := .value (.func 198), args := args.toArray, argTypes := ats }) ty w = .ok (.enter 198 (args.map (Sac.ev E)).toArray) w := Sac.x_callL Tryz.func198 (by kernel_rfl) rfl
theorem C199 {E : Sac.Env} {w : World} {ty : TypeId} {args : List Operand} {ats : Array TypeId} : Sac.exec Tryz.prog E (.call { callee := .value (.func 199), args := args.toArray, argTypes := ats }) ty w = .ok (.enter 199 (args.map (Sac.ev E)).toArray) w := Sac.x_callL Tryz.func199 (by kernel_rfl) rfl
theorem C200 {E : Sac.Env} {w : World} {ty : TypeId} {args : List Operand} {ats : Array TypeId} : Sac.exec Tryz.prog E (.call { callee := .value (.func 200), args := args.toArray, argTypes := ats }) ty w = .ok (.enter 200 (args.map (Sac.ev E)).toArray) w := Sac.x_callL Tryz.func200 (by kernel_rfl) rfl
theorem mixed : Tryz.prog.follows .mixedOrders = true := by kernel_rfl
end Go.Proofs.YtenhmbhflgnhlaaGreat
