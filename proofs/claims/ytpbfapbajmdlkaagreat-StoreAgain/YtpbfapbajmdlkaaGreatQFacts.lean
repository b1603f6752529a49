/- Opened as often as one likes, by whatever key it was made, it is as it was; made anew it is empty. It holds for every input; there are no conditions. -/
import Derived.Test.YtpbfapbajmdlkaaGreatChecked
import Derived.KernelRfl
import Derived.Test.YtpbfapbajmdlkaaGreatSac0
namespace Go.Proofs.YtpbfapbajmdlkaaGreat
open Go Go.Proofs
noncomputable abbrev Inf:=Tryz.prog.info?
abbrev Cal(f:FuncId)(E:Sac.Env)(w:World)(ty:TypeId)(args:List Operand)(ats:Array TypeId):Prop:=Sac.exec Tryz.prog E (.call { callee:=.value (.func f),args:=args.toArray,argTypes:=ats }) ty w=.ok (.enter f (args.map (Sac.ev E)).toArray) w
theorem I3:Inf 3=some Tryz.t3:=by kernel_rfl
theorem I4:Inf 4=some Tryz.t4:=by kernel_rfl
theorem I5:Inf 5=some Tryz.t5:=by kernel_rfl
theorem I9:Inf 9=some Tryz.t9:=by kernel_rfl
theorem I24:Inf 24=some Tryz.t24:=by kernel_rfl
theorem I25:Inf 25=some Tryz.t25:=by kernel_rfl
theorem I33:Inf 33=some Tryz.t33:=by kernel_rfl
theorem I41:Inf 41=some Tryz.t41:=by kernel_rfl
theorem I45:Inf 45=some Tryz.t45:=by kernel_rfl
theorem I49:Inf 49=some Tryz.t49:=by kernel_rfl
theorem I60:Inf 60=some Tryz.t60:=by kernel_rfl
theorem I62:Inf 62=some Tryz.t62:=by kernel_rfl
theorem I63:Inf 63=some Tryz.t63:=by kernel_rfl
theorem I66:Inf 66=some Tryz.t66:=by kernel_rfl
theorem I70:Inf 70=some Tryz.t70:=by kernel_rfl
theorem I95:Inf 95=some Tryz.t95:=by kernel_rfl
theorem I96:Inf 96=some Tryz.t96:=by kernel_rfl
theorem I97:Inf 97=some Tryz.t97:=by kernel_rfl
theorem I99:Inf 99=some Tryz.t99:=by kernel_rfl
theorem I114:Inf 114=some Tryz.t114:=by kernel_rfl
theorem Ac:Inf 116=some Tryz.t116:=by kernel_rfl
theorem I118:Inf 118=some Tryz.t118:=by kernel_rfl
theorem x7:Inf 124=some Tryz.t124:=by kernel_rfl
theorem oD:Inf 141=some Tryz.t141:=by kernel_rfl
theorem I143:Inf 143=some Tryz.t143:=by kernel_rfl
theorem nL:Inf 156=some Tryz.t156:=by kernel_rfl
theorem kC:Inf 164=some Tryz.t164:=by kernel_rfl
theorem gf:Inf 166=some Tryz.t166:=by kernel_rfl
theorem dM:Inf 168=some Tryz.t168:=by kernel_rfl
theorem I175:Inf 175=some Tryz.t175:=by kernel_rfl
theorem I194:Inf 194=some Tryz.t194:=by kernel_rfl
theorem I196:Inf 196=some Tryz.t196:=by kernel_rfl
theorem BK:Inf 204=some Tryz.t204:=by kernel_rfl
theorem gI:Inf 205=some Tryz.t205:=by kernel_rfl
theorem FZ:Inf 221=some Tryz.t221:=by kernel_rfl
theorem ui:Inf 243=some Tryz.t243:=by kernel_rfl
theorem I249:Inf 249=some Tryz.t249:=by kernel_rfl
theorem nx:Inf 269=some Tryz.t269:=by kernel_rfl
theorem Ab:Inf 285=some Tryz.t285:=by kernel_rfl
theorem lB:Inf 288=some Tryz.t288:=by kernel_rfl
theorem Iy:Inf 303=some Tryz.t303:=by kernel_rfl
theorem kg:Inf 345=some Tryz.t345:=by kernel_rfl
theorem I348:Inf 348=some Tryz.t348:=by kernel_rfl
theorem tt:Inf 352=some Tryz.t352:=by kernel_rfl
theorem tq:Inf 355=some Tryz.t355:=by kernel_rfl
section
variable {E:Sac.Env}{w:World}{t:TypeId}{a:List Operand}{s:Array TypeId}
theorem C21:Cal 21 E w t a s:=Sac.x_callL Tryz.func21 (by kernel_rfl) rfl
theorem C23:Cal 23 E w t a s:=Sac.x_callL Tryz.func23 (by kernel_rfl) rfl
theorem C27:Cal 27 E w t a s:=Sac.x_callL Tryz.func27 (by kernel_rfl) rfl
theorem C29:Cal 29 E w t a s:=Sac.x_callL Tryz.func29 (by kernel_rfl) rfl
theorem C30:Cal 30 E w t a s:=Sac.x_callL Tryz.func30 (by kernel_rfl) rfl
theorem C31:Cal 31 E w t a s:=Sac.x_callL Tryz.func31 (by kernel_rfl) rfl
theorem C32:Cal 32 E w t a s:=Sac.x_callL Tryz.func32 (by kernel_rfl) rfl
theorem C33:Cal 33 E w t a s:=Sac.x_callL Tryz.func33 (by kernel_rfl) rfl
theorem C34:Cal 34 E w t a s:=Sac.x_callL Tryz.func34 (by kernel_rfl) rfl
theorem C35:Cal 35 E w t a s:=Sac.x_callL Tryz.func35 (by kernel_rfl) rfl
theorem C36:Cal 36 E w t a s:=Sac.x_callL Tryz.func36 (by kernel_rfl) rfl
theorem C37:Cal 37 E w t a s:=Sac.x_callL Tryz.func37 (by kernel_rfl) rfl
theorem C38:Cal 38 E w t a s:=Sac.x_callL Tryz.func38 (by kernel_rfl) rfl
theorem C39:Cal 39 E w t a s:=Sac.x_callL Tryz.func39 (by kernel_rfl) rfl
theorem C40:Cal 40 E w t a s:=Sac.x_callL Tryz.func40 (by kernel_rfl) rfl
theorem C41:Cal 41 E w t a s:=Sac.x_callL Tryz.func41 (by kernel_rfl) rfl
theorem C42:Cal 42 E w t a s:=Sac.x_callL Tryz.func42 (by kernel_rfl) rfl
theorem C43:Cal 43 E w t a s:=Sac.x_callL Tryz.func43 (by kernel_rfl) rfl
theorem C47:Cal 47 E w t a s:=Sac.x_callL Tryz.func47 (by kernel_rfl) rfl
theorem C55:Cal 55 E w t a s:=Sac.x_callL Tryz.func55 (by kernel_rfl) rfl
theorem C56:Cal 56 E w t a s:=Sac.x_callL Tryz.func56 (by kernel_rfl) rfl
theorem C57:Cal 57 E w t a s:=Sac.x_callL Tryz.func57 (by kernel_rfl) rfl
theorem C58:Cal 58 E w t a s:=Sac.x_callL Tryz.func58 (by kernel_rfl) rfl
theorem C59:Cal 59 E w t a s:=Sac.x_callL Tryz.func59 (by kernel_rfl) rfl
theorem C60:Cal 60 E w t a s:=Sac.x_callL Tryz.func60 (by kernel_rfl) rfl
theorem C61:Cal 61 E w t a s:=Sac.x_callL Tryz.func61 (by kernel_rfl) rfl
theorem C62:Cal 62 E w t a s:=Sac.x_callL Tryz.func62 (by kernel_rfl) rfl
theorem C64:Cal 64 E w t a s:=Sac.x_callL Tryz.func64 (by kernel_rfl) rfl
theorem C65:Cal 65 E w t a s:=Sac.x_callL Tryz.func65 (by kernel_rfl) rfl
theorem C66:Cal 66 E w t a s:=Sac.x_callL Tryz.func66 (by kernel_rfl) rfl
theorem C67:Cal 67 E w t a s:=Sac.x_callL Tryz.func67 (by kernel_rfl) rfl
theorem C68:Cal 68 E w t a s:=Sac.x_callL Tryz.func68 (by kernel_rfl) rfl
theorem C69:Cal 69 E w t a s:=Sac.x_callL Tryz.func69 (by kernel_rfl) rfl
theorem C70:Cal 70 E w t a s:=Sac.x_callL Tryz.func70 (by kernel_rfl) rfl
theorem C71:Cal 71 E w t a s:=Sac.x_callL Tryz.func71 (by kernel_rfl) rfl
theorem C72:Cal 72 E w t a s:=Sac.x_callL Tryz.func72 (by kernel_rfl) rfl
theorem C73:Cal 73 E w t a s:=Sac.x_callL Tryz.func73 (by kernel_rfl) rfl
theorem C74:Cal 74 E w t a s:=Sac.x_callL Tryz.func74 (by kernel_rfl) rfl
theorem C75:Cal 75 E w t a s:=Sac.x_callL Tryz.func75 (by kernel_rfl) rfl
theorem C76:Cal 76 E w t a s:=Sac.x_callL Tryz.func76 (by kernel_rfl) rfl
theorem C77:Cal 77 E w t a s:=Sac.x_callL Tryz.func77 (by kernel_rfl) rfl
theorem C78:Cal 78 E w t a s:=Sac.x_callL Tryz.func78 (by kernel_rfl) rfl
theorem C79:Cal 79 E w t a s:=Sac.x_callL Tryz.func79 (by kernel_rfl) rfl
theorem C80:Cal 80 E w t a s:=Sac.x_callL Tryz.func80 (by kernel_rfl) rfl
theorem C81:Cal 81 E w t a s:=Sac.x_callL Tryz.func81 (by kernel_rfl) rfl
theorem C82:Cal 82 E w t a s:=Sac.x_callL Tryz.func82 (by kernel_rfl) rfl
theorem C83:Cal 83 E w t a s:=Sac.x_callL Tryz.func83 (by kernel_rfl) rfl
theorem C84:Cal 84 E w t a s:=Sac.x_callL Tryz.func84 (by kernel_rfl) rfl
theorem C85:Cal 85 E w t a s:=Sac.x_callL Tryz.func85 (by kernel_rfl) rfl
theorem C86:Cal 86 E w t a s:=Sac.x_callL Tryz.func86 (by kernel_rfl) rfl
theorem C90:Cal 90 E w t a s:=Sac.x_callL Tryz.func90 (by kernel_rfl) rfl
theorem C91:Cal 91 E w t a s:=Sac.x_callL Tryz.func91 (by kernel_rfl) rfl
theorem C92:Cal 92 E w t a s:=Sac.x_callL Tryz.func92 (by kernel_rfl) rfl
theorem C93:Cal 93 E w t a s:=Sac.x_callL Tryz.func93 (by kernel_rfl) rfl
theorem C94:Cal 94 E w t a s:=Sac.x_callL Tryz.func94 (by kernel_rfl) rfl
theorem C95:Cal 95 E w t a s:=Sac.x_callL Tryz.func95 (by kernel_rfl) rfl
theorem C96:Cal 96 E w t a s:=Sac.x_callL Tryz.func96 (by kernel_rfl) rfl
theorem C97:Cal 97 E w t a s:=Sac.x_callL Tryz.func97 (by kernel_rfl) rfl
theorem C98:Cal 98 E w t a s:=Sac.x_callL Tryz.func98 (by kernel_rfl) rfl
theorem C99:Cal 99 E w t a s:=Sac.x_callL Tryz.func99 (by kernel_rfl) rfl
theorem C100:Cal 100 E w t a s:=Sac.x_callL Tryz.func100 (by kernel_rfl) rfl
theorem C101:Cal 101 E w t a s:=Sac.x_callL Tryz.func101 (by kernel_rfl) rfl
theorem C102:Cal 102 E w t a s:=Sac.x_callL Tryz.func102 (by kernel_rfl) rfl
theorem C103:Cal 103 E w t a s:=Sac.x_callL Tryz.func103 (by kernel_rfl) rfl
theorem C104:Cal 104 E w t a s:=Sac.x_callL Tryz.func104 (by kernel_rfl) rfl
theorem C105:Cal 105 E w t a s:=Sac.x_callL Tryz.func105 (by kernel_rfl) rfl
theorem C106:Cal 106 E w t a s:=Sac.x_callL Tryz.func106 (by kernel_rfl) rfl
theorem C107:Cal 107 E w t a s:=Sac.x_callL Tryz.func107 (by kernel_rfl) rfl
theorem C109:Cal 109 E w t a s:=Sac.x_callL Tryz.func109 (by kernel_rfl) rfl
theorem C110:Cal 110 E w t a s:=Sac.x_callL Tryz.func110 (by kernel_rfl) rfl
theorem C112:Cal 112 E w t a s:=Sac.x_callL Tryz.func112 (by kernel_rfl) rfl
theorem C113:Cal 113 E w t a s:=Sac.x_callL Tryz.func113 (by kernel_rfl) rfl
theorem C114:Cal 114 E w t a s:=Sac.x_callL Tryz.func114 (by kernel_rfl) rfl
theorem C115:Cal 115 E w t a s:=Sac.x_callL Tryz.func115 (by kernel_rfl) rfl
theorem C117:Cal 117 E w t a s:=Sac.x_callL Tryz.func117 (by kernel_rfl) rfl
theorem C118:Cal 118 E w t a s:=Sac.x_callL Tryz.func118 (by kernel_rfl) rfl
theorem C119:Cal 119 E w t a s:=Sac.x_callL Tryz.func119 (by kernel_rfl) rfl
theorem C120:Cal 120 E w t a s:=Sac.x_callL Tryz.func120 (by kernel_rfl) rfl
theorem C121:Cal 121 E w t a s:=Sac.x_callL Tryz.func121 (by kernel_rfl) rfl
theorem C122:Cal 122 E w t a s:=Sac.x_callL Tryz.func122 (by kernel_rfl) rfl
theorem Dz:Cal 123 E w t a s:=Sac.x_callL Tryz.func123 (by kernel_rfl) rfl
theorem C124:Cal 124 E w t a s:=Sac.x_callL Tryz.func124 (by kernel_rfl) rfl
theorem nM:Cal 125 E w t a s:=Sac.x_callL Tryz.func125 (by kernel_rfl) rfl
theorem IF:Cal 126 E w t a s:=Sac.x_callL Tryz.func126 (by kernel_rfl) rfl
theorem C127:Cal 127 E w t a s:=Sac.x_callL Tryz.func127 (by kernel_rfl) rfl
theorem C128:Cal 128 E w t a s:=Sac.x_callL Tryz.func128 (by kernel_rfl) rfl
theorem C129:Cal 129 E w t a s:=Sac.x_callL Tryz.func129 (by kernel_rfl) rfl
theorem C131:Cal 131 E w t a s:=Sac.x_callL Tryz.func131 (by kernel_rfl) rfl
theorem C132:Cal 132 E w t a s:=Sac.x_callL Tryz.func132 (by kernel_rfl) rfl
theorem C133:Cal 133 E w t a s:=Sac.x_callL Tryz.func133 (by kernel_rfl) rfl
theorem C134:Cal 134 E w t a s:=Sac.x_callL Tryz.func134 (by kernel_rfl) rfl
theorem C135:Cal 135 E w t a s:=Sac.x_callL Tryz.func135 (by kernel_rfl) rfl
theorem C138:Cal 138 E w t a s:=Sac.x_callL Tryz.func138 (by kernel_rfl) rfl
theorem C139:Cal 139 E w t a s:=Sac.x_callL Tryz.func139 (by kernel_rfl) rfl
theorem C140:Cal 140 E w t a s:=Sac.x_callL Tryz.func140 (by kernel_rfl) rfl
theorem C141:Cal 141 E w t a s:=Sac.x_callL Tryz.func141 (by kernel_rfl) rfl
theorem C142:Cal 142 E w t a s:=Sac.x_callL Tryz.func142 (by kernel_rfl) rfl
theorem C143:Cal 143 E w t a s:=Sac.x_callL Tryz.func143 (by kernel_rfl) rfl
theorem C144:Cal 144 E w t a s:=Sac.x_callL Tryz.func144 (by kernel_rfl) rfl
theorem C145:Cal 145 E w t a s:=Sac.x_callL Tryz.func145 (by kernel_rfl) rfl
theorem C146:Cal 146 E w t a s:=Sac.x_callL Tryz.func146 (by kernel_rfl) rfl
theorem G5:Cal 147 E w t a s:=Sac.x_callL Tryz.func147 (by kernel_rfl) rfl
theorem C148:Cal 148 E w t a s:=Sac.x_callL Tryz.func148 (by kernel_rfl) rfl
theorem C149:Cal 149 E w t a s:=Sac.x_callL Tryz.func149 (by kernel_rfl) rfl
theorem C150:Cal 150 E w t a s:=Sac.x_callL Tryz.func150 (by kernel_rfl) rfl
theorem C151:Cal 151 E w t a s:=Sac.x_callL Tryz.func151 (by kernel_rfl) rfl
theorem C152:Cal 152 E w t a s:=Sac.x_callL Tryz.func152 (by kernel_rfl) rfl
theorem IE:Cal 153 E w t a s:=Sac.x_callL Tryz.func153 (by kernel_rfl) rfl
theorem C154:Cal 154 E w t a s:=Sac.x_callL Tryz.func154 (by kernel_rfl) rfl
theorem C155:Cal 155 E w t a s:=Sac.x_callL Tryz.func155 (by kernel_rfl) rfl
theorem C156:Cal 156 E w t a s:=Sac.x_callL Tryz.func156 (by kernel_rfl) rfl
theorem C157:Cal 157 E w t a s:=Sac.x_callL Tryz.func157 (by kernel_rfl) rfl
theorem C158:Cal 158 E w t a s:=Sac.x_callL Tryz.func158 (by kernel_rfl) rfl
theorem C159:Cal 159 E w t a s:=Sac.x_callL Tryz.func159 (by kernel_rfl) rfl
theorem tu:Cal 160 E w t a s:=Sac.x_callL Tryz.func160 (by kernel_rfl) rfl
theorem C161:Cal 161 E w t a s:=Sac.x_callL Tryz.func161 (by kernel_rfl) rfl
theorem C162:Cal 162 E w t a s:=Sac.x_callL Tryz.func162 (by kernel_rfl) rfl
theorem C163:Cal 163 E w t a s:=Sac.x_callL Tryz.func163 (by kernel_rfl) rfl
theorem C164:Cal 164 E w t a s:=Sac.x_callL Tryz.func164 (by kernel_rfl) rfl
theorem C165:Cal 165 E w t a s:=Sac.x_callL Tryz.func165 (by kernel_rfl) rfl
theorem C166:Cal 166 E w t a s:=Sac.x_callL Tryz.func166 (by kernel_rfl) rfl
theorem C167:Cal 167 E w t a s:=Sac.x_callL Tryz.func167 (by kernel_rfl) rfl
theorem C168:Cal 168 E w t a s:=Sac.x_callL Tryz.func168 (by kernel_rfl) rfl
theorem C169:Cal 169 E w t a s:=Sac.x_callL Tryz.func169 (by kernel_rfl) rfl
theorem C170:Cal 170 E w t a s:=Sac.x_callL Tryz.func170 (by kernel_rfl) rfl
theorem C174:Cal 174 E w t a s:=Sac.x_callL Tryz.func174 (by kernel_rfl) rfl
theorem C178:Cal 178 E w t a s:=Sac.x_callL Tryz.func178 (by kernel_rfl) rfl
theorem C179:Cal 179 E w t a s:=Sac.x_callL Tryz.func179 (by kernel_rfl) rfl
theorem C188:Cal 188 E w t a s:=Sac.x_callL Tryz.func188 (by kernel_rfl) rfl
theorem C190:Cal 190 E w t a s:=Sac.x_callL Tryz.func190 (by kernel_rfl) rfl
theorem C191:Cal 191 E w t a s:=Sac.x_callL Tryz.func191 (by kernel_rfl) rfl
theorem C192:Cal 192 E w t a s:=Sac.x_callL Tryz.func192 (by kernel_rfl) rfl
theorem C193:Cal 193 E w t a s:=Sac.x_callL Tryz.func193 (by kernel_rfl) rfl
theorem C194:Cal 194 E w t a s:=Sac.x_callL Tryz.func194 (by kernel_rfl) rfl
theorem C195:Cal 195 E w t a s:=Sac.x_callL Tryz.func195 (by kernel_rfl) rfl
theorem xI:Cal 196 E w t a s:=Sac.x_callL Tryz.func196 (by kernel_rfl) rfl
theorem C199:Cal 199 E w t a s:=Sac.x_callL Tryz.func199 (by kernel_rfl) rfl
theorem C200:Cal 200 E w t a s:=Sac.x_callL Tryz.func200 (by kernel_rfl) rfl
theorem C201:Cal 201 E w t a s:=Sac.x_callL Tryz.func201 (by kernel_rfl) rfl
theorem C202:Cal 202 E w t a s:=Sac.x_callL Tryz.func202 (by kernel_rfl) rfl
theorem C203:Cal 203 E w t a s:=Sac.x_callL Tryz.func203 (by kernel_rfl) rfl
theorem C204:Cal 204 E w t a s:=Sac.x_callL Tryz.func204 (by kernel_rfl) rfl
theorem C205:Cal 205 E w t a s:=Sac.x_callL Tryz.func205 (by kernel_rfl) rfl
theorem C206:Cal 206 E w t a s:=Sac.x_callL Tryz.func206 (by kernel_rfl) rfl
theorem C207:Cal 207 E w t a s:=Sac.x_callL Tryz.func207 (by kernel_rfl) rfl
theorem C208:Cal 208 E w t a s:=Sac.x_callL Tryz.func208 (by kernel_rfl) rfl
theorem C210:Cal 210 E w t a s:=Sac.x_callL Tryz.func210 (by kernel_rfl) rfl
theorem C211:Cal 211 E w t a s:=Sac.x_callL Tryz.func211 (by kernel_rfl) rfl
theorem C212:Cal 212 E w t a s:=Sac.x_callL Tryz.func212 (by kernel_rfl) rfl
theorem C213:Cal 213 E w t a s:=Sac.x_callL Tryz.func213 (by kernel_rfl) rfl
theorem C215:Cal 215 E w t a s:=Sac.x_callL Tryz.func215 (by kernel_rfl) rfl
theorem C216:Cal 216 E w t a s:=Sac.x_callL Tryz.func216 (by kernel_rfl) rfl
theorem C217:Cal 217 E w t a s:=Sac.x_callL Tryz.func217 (by kernel_rfl) rfl
theorem C218:Cal 218 E w t a s:=Sac.x_callL Tryz.func218 (by kernel_rfl) rfl
theorem C219:Cal 219 E w t a s:=Sac.x_callL Tryz.func219 (by kernel_rfl) rfl
theorem C220:Cal 220 E w t a s:=Sac.x_callL Tryz.func220 (by kernel_rfl) rfl
theorem qG:Cal 221 E w t a s:=Sac.x_callL Tryz.func221 (by kernel_rfl) rfl
theorem C222:Cal 222 E w t a s:=Sac.x_callL Tryz.func222 (by kernel_rfl) rfl
theorem C223:Cal 223 E w t a s:=Sac.x_callL Tryz.func223 (by kernel_rfl) rfl
theorem C227:Cal 227 E w t a s:=Sac.x_callL Tryz.func227 (by kernel_rfl) rfl
theorem C228:Cal 228 E w t a s:=Sac.x_callL Tryz.func228 (by kernel_rfl) rfl
theorem C231:Cal 231 E w t a s:=Sac.x_callL Tryz.func231 (by kernel_rfl) rfl
theorem C232:Cal 232 E w t a s:=Sac.x_callL Tryz.func232 (by kernel_rfl) rfl
theorem C233:Cal 233 E w t a s:=Sac.x_callL Tryz.func233 (by kernel_rfl) rfl
theorem C236:Cal 236 E w t a s:=Sac.x_callL Tryz.func236 (by kernel_rfl) rfl
theorem C237:Cal 237 E w t a s:=Sac.x_callL Tryz.func237 (by kernel_rfl) rfl
theorem C242:Cal 242 E w t a s:=Sac.x_callL Tryz.func242 (by kernel_rfl) rfl
theorem C243:Cal 243 E w t a s:=Sac.x_callL Tryz.func243 (by kernel_rfl) rfl
theorem C244:Cal 244 E w t a s:=Sac.x_callL Tryz.func244 (by kernel_rfl) rfl
theorem C245:Cal 245 E w t a s:=Sac.x_callL Tryz.func245 (by kernel_rfl) rfl
theorem C246:Cal 246 E w t a s:=Sac.x_callL Tryz.func246 (by kernel_rfl) rfl
theorem C247:Cal 247 E w t a s:=Sac.x_callL Tryz.func247 (by kernel_rfl) rfl
theorem C248:Cal 248 E w t a s:=Sac.x_callL Tryz.func248 (by kernel_rfl) rfl
theorem C260:Cal 260 E w t a s:=Sac.x_callL Tryz.func260 (by kernel_rfl) rfl
theorem C261:Cal 261 E w t a s:=Sac.x_callL Tryz.func261 (by kernel_rfl) rfl
theorem C262:Cal 262 E w t a s:=Sac.x_callL Tryz.func262 (by kernel_rfl) rfl
theorem C263:Cal 263 E w t a s:=Sac.x_callL Tryz.func263 (by kernel_rfl) rfl
theorem C267:Cal 267 E w t a s:=Sac.x_callL Tryz.func267 (by kernel_rfl) rfl
theorem C268:Cal 268 E w t a s:=Sac.x_callL Tryz.func268 (by kernel_rfl) rfl
theorem C269:Cal 269 E w t a s:=Sac.x_callL Tryz.func269 (by kernel_rfl) rfl
theorem C274:Cal 274 E w t a s:=Sac.x_callL Tryz.func274 (by kernel_rfl) rfl
theorem C275:Cal 275 E w t a s:=Sac.x_callL Tryz.func275 (by kernel_rfl) rfl
theorem C276:Cal 276 E w t a s:=Sac.x_callL Tryz.func276 (by kernel_rfl) rfl
theorem C277:Cal 277 E w t a s:=Sac.x_callL Tryz.func277 (by kernel_rfl) rfl
theorem C280:Cal 280 E w t a s:=Sac.x_callL Tryz.func280 (by kernel_rfl) rfl
theorem C281:Cal 281 E w t a s:=Sac.x_callL Tryz.func281 (by kernel_rfl) rfl
theorem C282:Cal 282 E w t a s:=Sac.x_callL Tryz.func282 (by kernel_rfl) rfl
theorem C284:Cal 284 E w t a s:=Sac.x_callL Tryz.func284 (by kernel_rfl) rfl
theorem C285:Cal 285 E w t a s:=Sac.x_callL Tryz.func285 (by kernel_rfl) rfl
theorem xH:Cal 286 E w t a s:=Sac.x_callL Tryz.func286 (by kernel_rfl) rfl
theorem C287:Cal 287 E w t a s:=Sac.x_callL Tryz.func287 (by kernel_rfl) rfl
theorem C288:Cal 288 E w t a s:=Sac.x_callL Tryz.func288 (by kernel_rfl) rfl
theorem C289:Cal 289 E w t a s:=Sac.x_callL Tryz.func289 (by kernel_rfl) rfl
theorem C290:Cal 290 E w t a s:=Sac.x_callL Tryz.func290 (by kernel_rfl) rfl
theorem C291:Cal 291 E w t a s:=Sac.x_callL Tryz.func291 (by kernel_rfl) rfl
theorem C292:Cal 292 E w t a s:=Sac.x_callL Tryz.func292 (by kernel_rfl) rfl
theorem C293:Cal 293 E w t a s:=Sac.x_callL Tryz.func293 (by kernel_rfl) rfl
theorem C294:Cal 294 E w t a s:=Sac.x_callL Tryz.func294 (by kernel_rfl) rfl
end
theorem bx:Tryz.prog.follows .mixedOrders=true:=by kernel_rfl
noncomputable abbrev uU0:=@Tryz.underlying0
noncomputable abbrev uU3:=@Tryz.underlying3
noncomputable abbrev uU4:=@Tryz.underlying4
noncomputable abbrev uU5:=@Tryz.underlying5
noncomputable abbrev uU9:=@Tryz.underlying9
noncomputable abbrev ma:=@Tryz.underlying24
noncomputable abbrev bu:=@Tryz.underlying25
noncomputable abbrev df:=@Tryz.underlying33
noncomputable abbrev aZ:=@Tryz.underlying41
noncomputable abbrev bg:=@Tryz.underlying45
noncomputable abbrev iM:=@Tryz.underlying49
noncomputable abbrev EN:=@Tryz.underlying60
noncomputable abbrev u5:=@Tryz.underlying62
noncomputable abbrev gm:=@Tryz.underlying63
noncomputable abbrev mW:=@Tryz.underlying66
noncomputable abbrev nJ:=@Tryz.underlying67
noncomputable abbrev cO:=@Tryz.underlying70
noncomputable abbrev Ch:=@Tryz.underlying95
noncomputable abbrev nT:=@Tryz.underlying96
noncomputable abbrev pY:=@Tryz.underlying97
noncomputable abbrev lT:=@Tryz.underlying99
noncomputable abbrev pD:=@Tryz.underlying110
noncomputable abbrev rj:=@Tryz.underlying114
noncomputable abbrev ja:=@Tryz.underlying116
noncomputable abbrev mf:=@Tryz.underlying118
noncomputable abbrev DL:=@Tryz.underlying120
noncomputable abbrev bS:=@Tryz.underlying124
noncomputable abbrev uU132:=@Tryz.underlying132
noncomputable abbrev fO:=@Tryz.underlying141
noncomputable abbrev dC:=@Tryz.underlying143
noncomputable abbrev eA:=@Tryz.underlying156
noncomputable abbrev eH:=@Tryz.underlying164
noncomputable abbrev eL:=@Tryz.underlying166
noncomputable abbrev dz:=@Tryz.underlying168
noncomputable abbrev me:=@Tryz.underlying175
noncomputable abbrev xW:=@Tryz.underlying194
noncomputable abbrev dw:=@Tryz.underlying196
noncomputable abbrev uU199:=@Tryz.underlying199
noncomputable abbrev tD:=@Tryz.underlying204
noncomputable abbrev jy:=@Tryz.underlying205
noncomputable abbrev vA:=@Tryz.underlying219
noncomputable abbrev tC:=@Tryz.underlying221
noncomputable abbrev nD:=@Tryz.underlying243
noncomputable abbrev lh:=@Tryz.underlying249
noncomputable abbrev nC:=@Tryz.underlying269
noncomputable abbrev GG:=@Tryz.underlying274
noncomputable abbrev vz:=@Tryz.underlying285
noncomputable abbrev jx:=@Tryz.underlying288
noncomputable abbrev tB:=@Tryz.underlying303
noncomputable abbrev xV:=@Tryz.underlying317
noncomputable abbrev vw:=@Tryz.underlying319
noncomputable abbrev gb:=@Tryz.underlying345
noncomputable abbrev lJ:=@Tryz.underlying348
noncomputable abbrev jw:=@Tryz.underlying352
noncomputable abbrev nB:=@Tryz.underlying355
end Go.Proofs.YtpbfapbajmdlkaaGreat

