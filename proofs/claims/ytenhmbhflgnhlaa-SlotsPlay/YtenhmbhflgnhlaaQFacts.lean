/- Any play of puts, erasures, lost powers and crashes leaves each slot as it was told, or as the step in whose midst the power went allows. -/
import Derived.Test.YtenhmbhflgnhlaaChecked
import Derived.KernelRfl
import Derived.Test.YtenhmbhflgnhlaaSac0
namespace Go.Proofs.Ytenhmbhflgnhlaa
open Go Go.Proofs
theorem I0 : Try.prog.info? 0 = some Try.t0 := by kernel_rfl
theorem I1 : Try.prog.info? 1 = some Try.t1 := by kernel_rfl
theorem I2 : Try.prog.info? 2 = some Try.t2 := by kernel_rfl
theorem I3 : Try.prog.info? 3 = some Try.t3 := by kernel_rfl
theorem I4 : Try.prog.info? 4 = some Try.t4 := by kernel_rfl
theorem I5 : Try.prog.info? 5 = some Try.t5 := by kernel_rfl
theorem I6 : Try.prog.info? 6 = some Try.t6 := by kernel_rfl
theorem I7 : Try.prog.info? 7 = some Try.t7 := by kernel_rfl
theorem I8 : Try.prog.info? 8 = some Try.t8 := by kernel_rfl
theorem I9 : Try.prog.info? 9 = some Try.t9 := by kernel_rfl
theorem I10 : Try.prog.info? 10 = some Try.t10 := by kernel_rfl
theorem I11 : Try.prog.info? 11 = some Try.t11 := by kernel_rfl
theorem I12 : Try.prog.info? 12 = some Try.t12 := by kernel_rfl
theorem I13 : Try.prog.info? 13 = some Try.t13 := by kernel_rfl
theorem I14 : Try.prog.info? 14 = some Try.t14 := by kernel_rfl
theorem I15 : Try.prog.info? 15 = some Try.t15 := by kernel_rfl
theorem I16 : Try.prog.info? 16 = some Try.t16 := by kernel_rfl
theorem I17 : Try.prog.info? 17 = some Try.t17 := by kernel_rfl
theorem I18 : Try.prog.info? 18 = some Try.t18 := by kernel_rfl
theorem I19 : Try.prog.info? 19 = some Try.t19 := by kernel_rfl
theorem I20 : Try.prog.info? 20 = some Try.t20 := by kernel_rfl
theorem I21 : Try.prog.info? 21 = some Try.t21 := by kernel_rfl
theorem I22 : Try.prog.info? 22 = some Try.t22 := by kernel_rfl
theorem I23 : Try.prog.info? 23 = some Try.t23 := by kernel_rfl
theorem I24 : Try.prog.info? 24 = some Try.t24 := by kernel_rfl
theorem I25 : Try.prog.info? 25 = some Try.t25 := by kernel_rfl
theorem I26 : Try.prog.info? 26 = some Try.t26 := by kernel_rfl
theorem I27 : Try.prog.info? 27 = some Try.t27 := by kernel_rfl
theorem I28 : Try.prog.info? 28 = some Try.t28 := by kernel_rfl
theorem I29 : Try.prog.info? 29 = some Try.t29 := by kernel_rfl
theorem I30 : Try.prog.info? 30 = some Try.t30 := by kernel_rfl
theorem I31 : Try.prog.info? 31 = some Try.t31 := by kernel_rfl
theorem I32 : Try.prog.info? 32 = some Try.t32 := by kernel_rfl
theorem I33 : Try.prog.info? 33 = some Try.t33 := by kernel_rfl
theorem I34 : Try.prog.info? 34 = some Try.t34 := by kernel_rfl
theorem I35 : Try.prog.info? 35 = some Try.t35 := by kernel_rfl
theorem I36 : Try.prog.info? 36 = some Try.t36 := by kernel_rfl
theorem I37 : Try.prog.info? 37 = some Try.t37 := by kernel_rfl
theorem I38 : Try.prog.info? 38 = some Try.t38 := by kernel_rfl
theorem I39 : Try.prog.info? 39 = some Try.t39 := by kernel_rfl
theorem I40 : Try.prog.info? 40 = some Try.t40 := by kernel_rfl
theorem I41 : Try.prog.info? 41 = some Try.t41 := by kernel_rfl
theorem I42 : Try.prog.info? 42 = some Try.t42 := by kernel_rfl
theorem I43 : Try.prog.info? 43 = some Try.t43 := by kernel_rfl
theorem I44 : Try.prog.info? 44 = some Try.t44 := by kernel_rfl
theorem I45 : Try.prog.info? 45 = some Try.t45 := by kernel_rfl
theorem I46 : Try.prog.info? 46 = some Try.t46 := by kernel_rfl
theorem I47 : Try.prog.info? 47 = some Try.t47 := by kernel_rfl
theorem I48 : Try.prog.info? 48 = some Try.t48 := by kernel_rfl
theorem I49 : Try.prog.info? 49 = some Try.t49 := by kernel_rfl
theorem I50 : Try.prog.info? 50 = some Try.t50 := by kernel_rfl
theorem I51 : Try.prog.info? 51 = some Try.t51 := by kernel_rfl
theorem I52 : Try.prog.info? 52 = some Try.t52 := by kernel_rfl
theorem I53 : Try.prog.info? 53 = some Try.t53 := by kernel_rfl
theorem I54 : Try.prog.info? 54 = some Try.t54 := by kernel_rfl
theorem I55 : Try.prog.info? 55 = some Try.t55 := by kernel_rfl
theorem I56 : Try.prog.info? 56 = some Try.t56 := by kernel_rfl
theorem I57 : Try.prog.info? 57 = some Try.t57 := by kernel_rfl
theorem I58 : Try.prog.info? 58 = some Try.t58 := by kernel_rfl
theorem I59 : Try.prog.info? 59 = some Try.t59 := by kernel_rfl
theorem I60 : Try.prog.info? 60 = some Try.t60 := by kernel_rfl
theorem I61 : Try.prog.info? 61 = some Try.t61 := by kernel_rfl
theorem I62 : Try.prog.info? 62 = some Try.t62 := by kernel_rfl
theorem I63 : Try.prog.info? 63 = some Try.t63 := by kernel_rfl
theorem I64 : Try.prog.info? 64 = some Try.t64 := by kernel_rfl
theorem I65 : Try.prog.info? 65 = some Try.t65 := by kernel_rfl
theorem I66 : Try.prog.info? 66 = some Try.t66 := by kernel_rfl
theorem I67 : Try.prog.info? 67 = some Try.t67 := by kernel_rfl
theorem I68 : Try.prog.info? 68 = some Try.t68 := by kernel_rfl
theorem I69 : Try.prog.info? 69 = some Try.t69 := by kernel_rfl
theorem I70 : Try.prog.info? 70 = some Try.t70 := by kernel_rfl
theorem I71 : Try.prog.info? 71 = some Try.t71 := by kernel_rfl
theorem I72 : Try.prog.info? 72 = some Try.t72 := by kernel_rfl
theorem I73 : Try.prog.info? 73 = some Try.t73 := by kernel_rfl
theorem I74 : Try.prog.info? 74 = some Try.t74 := by kernel_rfl
theorem I75 : Try.prog.info? 75 = some Try.t75 := by kernel_rfl
theorem I76 : Try.prog.info? 76 = some Try.t76 := by kernel_rfl
theorem I77 : Try.prog.info? 77 = some Try.t77 := by kernel_rfl
theorem I78 : Try.prog.info? 78 = some Try.t78 := by kernel_rfl
theorem I79 : Try.prog.info? 79 = some Try.t79 := by kernel_rfl
theorem I80 : Try.prog.info? 80 = some Try.t80 := by kernel_rfl
theorem I81 : Try.prog.info? 81 = some Try.t81 := by kernel_rfl
theorem I82 : Try.prog.info? 82 = some Try.t82 := by kernel_rfl
theorem I83 : Try.prog.info? 83 = some Try.t83 := by kernel_rfl
theorem I84 : Try.prog.info? 84 = some Try.t84 := by kernel_rfl
theorem I85 : Try.prog.info? 85 = some Try.t85 := by kernel_rfl
theorem I86 : Try.prog.info? 86 = some Try.t86 := by kernel_rfl
theorem I87 : Try.prog.info? 87 = some Try.t87 := by kernel_rfl
theorem I88 : Try.prog.info? 88 = some Try.t88 := by kernel_rfl
theorem I89 : Try.prog.info? 89 = some Try.t89 := by kernel_rfl
theorem I90 : Try.prog.info? 90 = some Try.t90 := by kernel_rfl
theorem I91 : Try.prog.info? 91 = some Try.t91 := by kernel_rfl
theorem I92 : Try.prog.info? 92 = some Try.t92 := by kernel_rfl
theorem I93 : Try.prog.info? 93 = some Try.t93 := by kernel_rfl
theorem I94 : Try.prog.info? 94 = some Try.t94 := by kernel_rfl
theorem I95 : Try.prog.info? 95 = some Try.t95 := by kernel_rfl
theorem I96 : Try.prog.info? 96 = some Try.t96 := by kernel_rfl
theorem I97 : Try.prog.info? 97 = some Try.t97 := by kernel_rfl
theorem I98 : Try.prog.info? 98 = some Try.t98 := by kernel_rfl
theorem I99 : Try.prog.info? 99 = some Try.t99 := by kernel_rfl
theorem I100 : Try.prog.info? 100 = some Try.t100 := by kernel_rfl
theorem I101 : Try.prog.info? 101 = some Try.t101 := by kernel_rfl
theorem I102 : Try.prog.info? 102 = some Try.t102 := by kernel_rfl
theorem I103 : Try.prog.info? 103 = some Try.t103 := by kernel_rfl
theorem I104 : Try.prog.info? 104 = some Try.t104 := by kernel_rfl
theorem I105 : Try.prog.info? 105 = some Try.t105 := by kernel_rfl
theorem I106 : Try.prog.info? 106 = some Try.t106 := by kernel_rfl
theorem I107 : Try.prog.info? 107 = some Try.t107 := by kernel_rfl
theorem I108 : Try.prog.info? 108 = some Try.t108 := by kernel_rfl
theorem I109 : Try.prog.info? 109 = some Try.t109 := by kernel_rfl
theorem I110 : Try.prog.info? 110 = some Try.t110 := by kernel_rfl
theorem I111 : Try.prog.info? 111 = some Try.t111 := by kernel_rfl
theorem I112 : Try.prog.info? 112 = some Try.t112 := by kernel_rfl
theorem I113 : Try.prog.info? 113 = some Try.t113 := by kernel_rfl
theorem I114 : Try.prog.info? 114 = some Try.t114 := by kernel_rfl
theorem I115 : Try.prog.info? 115 = some Try.t115 := by kernel_rfl
theorem I116 : Try.prog.info? 116 = some Try.t116 := by kernel_rfl
theorem I117 : Try.prog.info? 117 = some Try.t117 := by kernel_rfl
theorem I118 : Try.prog.info? 118 = some Try.t118 := by kernel_rfl
theorem I119 : Try.prog.info? 119 = some Try.t119 := by kernel_rfl
theorem I120 : Try.prog.info? 120 = some Try.t120 := by kernel_rfl
theorem I121 : Try.prog.info? 121 = some Try.t121 := by kernel_rfl
theorem I122 : Try.prog.info? 122 = some Try.t122 := by kernel_rfl
theorem I123 : Try.prog.info? 123 = some Try.t123 := by kernel_rfl
theorem I124 : Try.prog.info? 124 = some Try.t124 := by kernel_rfl
theorem I125 : Try.prog.info? 125 = some Try.t125 := by kernel_rfl
theorem I126 : Try.prog.info? 126 = some Try.t126 := by kernel_rfl
theorem I127 : Try.prog.info? 127 = some Try.t127 := by kernel_rfl
theorem I128 : Try.prog.info? 128 = some Try.t128 := by kernel_rfl
theorem I129 : Try.prog.info? 129 = some Try.t129 := by kernel_rfl
theorem I130 : Try.prog.info? 130 = some Try.t130 := by kernel_rfl
theorem I131 : Try.prog.info? 131 = some Try.t131 := by kernel_rfl
theorem I132 : Try.prog.info? 132 = some Try.t132 := by kernel_rfl
theorem I133 : Try.prog.info? 133 = some Try.t133 := by kernel_rfl
theorem I134 : Try.prog.info? 134 = some Try.t134 := by kernel_rfl
theorem I135 : Try.prog.info? 135 = some Try.t135 := by kernel_rfl
theorem I136 : Try.prog.info? 136 = some Try.t136 := by kernel_rfl
theorem I137 : Try.prog.info? 137 = some Try.t137 := by kernel_rfl
theorem I138 : Try.prog.info? 138 = some Try.t138 := by kernel_rfl
theorem I139 : Try.prog.info? 139 = some Try.t139 := by kernel_rfl
theorem I140 : Try.prog.info? 140 = some Try.t140 := by kernel_rfl
theorem I141 : Try.prog.info? 141 = some Try.t141 := by kernel_rfl
theorem I142 : Try.prog.info? 142 = some Try.t142 := by kernel_rfl
theorem I143 : Try.prog.info? 143 = some Try.t143 := by kernel_rfl
theorem I144 : Try.prog.info? 144 = some Try.t144 := by kernel_rfl
theorem I145 : Try.prog.info? 145 = some Try.t145 := by kernel_rfl
theorem I146 : Try.prog.info? 146 = some Try.t146 := by kernel_rfl
theorem I147 : Try.prog.info? 147 = some Try.t147 := by kernel_rfl
theorem I148 : Try.prog.info? 148 = some Try.t148 := by kernel_rfl
theorem I149 : Try.prog.info? 149 = some Try.t149 := by kernel_rfl
theorem I150 : Try.prog.info? 150 = some Try.t150 := by kernel_rfl
theorem I151 : Try.prog.info? 151 = some Try.t151 := by kernel_rfl
theorem I152 : Try.prog.info? 152 = some Try.t152 := by kernel_rfl
theorem I153 : Try.prog.info? 153 = some Try.t153 := by kernel_rfl
theorem I154 : Try.prog.info? 154 = some Try.t154 := by kernel_rfl
theorem I155 : Try.prog.info? 155 = some Try.t155 := by kernel_rfl
theorem I156 : Try.prog.info? 156 = some Try.t156 := by kernel_rfl
theorem I157 : Try.prog.info? 157 = some Try.t157 := by kernel_rfl
theorem I158 : Try.prog.info? 158 = some Try.t158 := by kernel_rfl
theorem I159 : Try.prog.info? 159 = some Try.t159 := by kernel_rfl
theorem I160 : Try.prog.info? 160 = some Try.t160 := by kernel_rfl
theorem I161 : Try.prog.info? 161 = some Try.t161 := by kernel_rfl
theorem I162 : Try.prog.info? 162 = some Try.t162 := by kernel_rfl
theorem I163 : Try.prog.info? 163 = some Try.t163 := by kernel_rfl
theorem I164 : Try.prog.info? 164 = some Try.t164 := by kernel_rfl
theorem I165 : Try.prog.info? 165 = some Try.t165 := by kernel_rfl
theorem I166 : Try.prog.info? 166 = some Try.t166 := by kernel_rfl
theorem I167 : Try.prog.info? 167 = some Try.t167 := by kernel_rfl
theorem I168 : Try.prog.info? 168 = some Try.t168 := by kernel_rfl
theorem I169 : Try.prog.info? 169 = some Try.t169 := by kernel_rfl
theorem I170 : Try.prog.info? 170 = some Try.t170 := by kernel_rfl
theorem I171 : Try.prog.info? 171 = some Try.t171 := by kernel_rfl
theorem I172 : Try.prog.info? 172 = some Try.t172 := by kernel_rfl
theorem I173 : Try.prog.info? 173 = some Try.t173 := by kernel_rfl
theorem I174 : Try.prog.info? 174 = some Try.t174 := by kernel_rfl
theorem I175 : Try.prog.info? 175 = some Try.t175 := by kernel_rfl
theorem I176 : Try.prog.info? 176 = some Try.t176 := by kernel_rfl
theorem I177 : Try.prog.info? 177 = some Try.t177 := by kernel_rfl
theorem I178 : Try.prog.info? 178 = some Try.t178 := by kernel_rfl
theorem I179 : Try.prog.info? 179 = some Try.t179 := by kernel_rfl
theorem C2 {E : Sac.Env} {w : World} {ty : TypeId} {args : List Operand} {ats : Array TypeId} : Sac.exec Try.prog E (.call { callee := .value (.func 2), args := args.toArray, argTypes := ats }) ty w = .ok (.enter 2 (args.map (Sac.ev E)).toArray) w := Sac.x_callL Try.func2 (by kernel_rfl) rfl
theorem C3 {E : Sac.Env} {w : World} {ty : TypeId} {args : List Operand} {ats : Array TypeId} : Sac.exec Try.prog E (.call { callee := .value (.func 3), args := args.toArray, argTypes := ats }) ty w = .ok (.enter 3 (args.map (Sac.ev E)).toArray) w := Sac.x_callL Try.func3 (by kernel_rfl) rfl
theorem C4 {E : Sac.Env} {w : World} {ty : TypeId} {args : List Operand} {ats : Array TypeId} : Sac.exec Try.prog E (.call { callee := .value (.func 4), args := args.toArray, argTypes := ats }) ty w = .ok (.enter 4 (args.map (Sac.ev E)).toArray) w := Sac.x_callL Try.func4 (by kernel_rfl) rfl
theorem C5 {E : Sac.Env} {w : World} {ty : TypeId} {args : List Operand} {ats : Array TypeId} : Sac.exec Try.prog E (.call { callee := .value (.func 5), args := args.toArray, argTypes := ats }) ty w = .ok (.enter 5 (args.map (Sac.ev E)).toArray) w := Sac.x_callL Try.func5 (by kernel_rfl) rfl
theorem C6 {E : Sac.Env} {w : World} {ty : TypeId} {args : List Operand} {ats : Array TypeId} : Sac.exec Try.prog E (.call { callee := .value (.func 6), args := args.toArray, argTypes := ats }) ty w = .ok (.enter 6 (args.map (Sac.ev E)).toArray) w := Sac.x_callL Try.func6 (by kernel_rfl) rfl
theorem C7 {E : Sac.Env} {w : World} {ty : TypeId} {args : List Operand} {ats : Array TypeId} : Sac.exec Try.prog E (.call { callee := .value (.func 7), args := args.toArray, argTypes := ats }) ty w = .ok (.enter 7 (args.map (Sac.ev E)).toArray) w := Sac.x_callL Try.func7 (by kernel_rfl) rfl
theorem C8 {E : Sac.Env} {w : World} {ty : TypeId} {args : List Operand} {ats : Array TypeId} : Sac.exec Try.prog E (.call { callee := .value (.func 8), args := args.toArray, argTypes := ats }) ty w = .ok (.enter 8 (args.map (Sac.ev E)).toArray) w := Sac.x_callL Try.func8 (by kernel_rfl) rfl
theorem C9 {E : Sac.Env} {w : World} {ty : TypeId} {args : List Operand} {ats : Array TypeId} : Sac.exec Try.prog E (.call { callee := .value (.func 9), args := args.toArray, argTypes := ats }) ty w = .ok (.enter 9 (args.map (Sac.ev E)).toArray) w := Sac.x_callL Try.func9 (by kernel_rfl) rfl
theorem C10 {E : Sac.Env} {w : World} {ty : TypeId} {args : List Operand} {ats : Array TypeId} : Sac.exec Try.prog E (.call { callee := .value (.func 10), args := args.toArray, argTypes := ats }) ty w = .ok (.enter 10 (args.map (Sac.ev E)).toArray) w := Sac.x_callL Try.func10 (by kernel_rfl) rfl
theorem C11 {E : Sac.Env} {w : World} {ty : TypeId} {args : List Operand} {ats : Array TypeId} : Sac.exec Try.prog E (.call { callee := .value (.func 11), args := args.toArray, argTypes := ats }) ty w = .ok (.enter 11 (args.map (Sac.ev E)).toArray) w := Sac.x_callL Try.func11 (by kernel_rfl) rfl
theorem C12 {E : Sac.Env} {w : World} {ty : TypeId} {args : List Operand} {ats : Array TypeId} : Sac.exec Try.prog E (.call { callee := .value (.func 12), args := args.toArray, argTypes := ats }) ty w = .ok (.enter 12 (args.map (Sac.ev E)).toArray) w := Sac.x_callL Try.func12 (by kernel_rfl) rfl
theorem C13 {E : Sac.Env} {w : World} {ty : TypeId} {args : List Operand} {ats : Array TypeId} : Sac.exec Try.prog E (.call { callee := .value (.func 13), args := args.toArray, argTypes := ats }) ty w = .ok (.enter 13 (args.map (Sac.ev E)).toArray) w := Sac.x_callL Try.func13 (by kernel_rfl) rfl
theorem C14 {E : Sac.Env} {w : World} {ty : TypeId} {args : List Operand} {ats : Array TypeId} : Sac.exec Try.prog E (.call { callee := .value (.func 14), args := args.toArray, argTypes := ats }) ty w = .ok (.enter 14 (args.map (Sac.ev E)).toArray) w := Sac.x_callL Try.func14 (by kernel_rfl) rfl
theorem C15 {E : Sac.Env} {w : World} {ty : TypeId} {args : List Operand} {ats : Array TypeId} : Sac.exec Try.prog E (.call { callee := .value (.func 15), args := args.toArray, argTypes := ats }) ty w = .ok (.enter 15 (args.map (Sac.ev E)).toArray) w := Sac.x_callL Try.func15 (by kernel_rfl) rfl
theorem C16 {E : Sac.Env} {w : World} {ty : TypeId} {args : List Operand} {ats : Array TypeId} : Sac.exec Try.prog E (.call { callee := .value (.func 16), args := args.toArray, argTypes := ats }) ty w = .ok (.enter 16 (args.map (Sac.ev E)).toArray) w := Sac.x_callL Try.func16 (by kernel_rfl) rfl
theorem C17 {E : Sac.Env} {w : World} {ty : TypeId} {args : List Operand} {ats : Array TypeId} : Sac.exec Try.prog E (.call { callee := .value (.func 17), args := args.toArray, argTypes := ats }) ty w = .ok (.enter 17 (args.map (Sac.ev E)).toArray) w := Sac.x_callL Try.func17 (by kernel_rfl) rfl
theorem C18 {E : Sac.Env} {w : World} {ty : TypeId} {args : List Operand} {ats : Array TypeId} : Sac.exec Try.prog E (.call { callee := .value (.func 18), args := args.toArray, argTypes := ats }) ty w = .ok (.enter 18 (args.map (Sac.ev E)).toArray) w := Sac.x_callL Try.func18 (by kernel_rfl) rfl
theorem C19 {E : Sac.Env} {w : World} {ty : TypeId} {args : List Operand} {ats : Array TypeId} : Sac.exec Try.prog E (.call { callee := .value (.func 19), args := args.toArray, argTypes := ats }) ty w = .ok (.enter 19 (args.map (Sac.ev E)).toArray) w := Sac.x_callL Try.func19 (by kernel_rfl) rfl
theorem C20 {E : Sac.Env} {w : World} {ty : TypeId} {args : List Operand} {ats : Array TypeId} : Sac.exec Try.prog E (.call { callee := .value (.func 20), args := args.toArray, argTypes := ats }) ty w = .ok (.enter 20 (args.map (Sac.ev E)).toArray) w := Sac.x_callL Try.func20 (by kernel_rfl) rfl
theorem C21 {E : Sac.Env} {w : World} {ty : TypeId} {args : List Operand} {ats : Array TypeId} : Sac.exec Try.prog E (.call { callee := .value (.func 21), args := args.toArray, argTypes := ats }) ty w = .ok (.enter 21 (args.map (Sac.ev E)).toArray) w := Sac.x_callL Try.func21 (by kernel_rfl) rfl
theorem C22 {E : Sac.Env} {w : World} {ty : TypeId} {args : List Operand} {ats : Array TypeId} : Sac.exec Try.prog E (.call { callee := .value (.func 22), args := args.toArray, argTypes := ats }) ty w = .ok (.enter 22 (args.map (Sac.ev E)).toArray) w := Sac.x_callL Try.func22 (by kernel_rfl) rfl
theorem C23 {E : Sac.Env} {w : World} {ty : TypeId} {args : List Operand} {ats : Array TypeId} : Sac.exec Try.prog E (.call { callee := .value (.func 23), args := args.toArray, argTypes := ats }) ty w = .ok (.enter 23 (args.map (Sac.ev E)).toArray) w := Sac.x_callL Try.func23 (by kernel_rfl) rfl
theorem C24 {E : Sac.Env} {w : World} {ty : TypeId} {args : List Operand} {ats : Array TypeId} : Sac.exec Try.prog E (.call { callee := .value (.func 24), args := args.toArray, argTypes := ats }) ty w = .ok (.enter 24 (args.map (Sac.ev E)).toArray) w := Sac.x_callL Try.func24 (by kernel_rfl) rfl
theorem C25 {E : Sac.Env} {w : World} {ty : TypeId} {args : List Operand} {ats : Array TypeId} : Sac.exec Try.prog E (.call { callee := .value (.func 25), args := args.toArray, argTypes := ats }) ty w = .ok (.enter 25 (args.map (Sac.ev E)).toArray) w := Sac.x_callL Try.func25 (by kernel_rfl) rfl
theorem C26 {E : Sac.Env} {w : World} {ty : TypeId} {args : List Operand} {ats : Array TypeId} : Sac.exec Try.prog E (.call { callee := .value (.func 26), args := args.toArray, argTypes := ats }) ty w = .ok (.enter 26 (args.map (Sac.ev E)).toArray) w := Sac.x_callL Try.func26 (by kernel_rfl) rfl
theorem C27 {E : Sac.Env} {w : World} {ty : TypeId} {args : List Operand} {ats : Array TypeId} : Sac.exec Try.prog E (.call { callee := .value (.func 27), args := args.toArray, argTypes := ats }) ty w = .ok (.enter 27 (args.map (Sac.ev E)).toArray) w := Sac.x_callL Try.func27 (by kernel_rfl) rfl
theorem C28 {E : Sac.Env} {w : World} {ty : TypeId} {args : List Operand} {ats : Array TypeId} : Sac.exec Try.prog E (.call { callee := .value (.func 28), args := args.toArray, argTypes := ats }) ty w = .ok (.enter 28 (args.map (Sac.ev E)).toArray) w := Sac.x_callL Try.func28 (by kernel_rfl) rfl
theorem C29 {E : Sac.Env} {w : World} {ty : TypeId} {args : List Operand} {ats : Array TypeId} : Sac.exec Try.prog E (.call { callee := .value (.func 29), args := args.toArray, argTypes := ats }) ty w = .ok (.enter 29 (args.map (Sac.ev E)).toArray) w := Sac.x_callL Try.func29 (by kernel_rfl) rfl
theorem C30 {E : Sac.Env} {w : World} {ty : TypeId} {args : List Operand} {ats : Array TypeId} : Sac.exec Try.prog E (.call { callee := .value (.func 30), args := args.toArray, argTypes := ats }) ty w = .ok (.enter 30 (args.map (Sac.ev E)).toArray) w := Sac.x_callL Try.func30 (by kernel_rfl) rfl
theorem C31 {E : Sac.Env} {w : World} {ty : TypeId} {args : List Operand} {ats : Array TypeId} : Sac.exec Try.prog E (.call { callee := .value (.func 31), args := args.toArray, argTypes := ats }) ty w = .ok (.enter 31 (args.map (Sac.ev E)).toArray) w := Sac.x_callL Try.func31 (by kernel_rfl) rfl
theorem C32 {E : Sac.Env} {w : World} {ty : TypeId} {args : List Operand} {ats : Array TypeId} : Sac.exec Try.prog E (.call { callee := .value (.func 32), args := args.toArray, argTypes := ats }) ty w = .ok (.enter 32 (args.map (Sac.ev E)).toArray) w := Sac.x_callL Try.func32 (by kernel_rfl) rfl
theorem C33 {E : Sac.Env} {w : World} {ty : TypeId} {args : List Operand} {ats : Array TypeId} : Sac.exec Try.prog E (.call { callee := .value (.func 33), args := args.toArray, argTypes := ats }) ty w = .ok (.enter 33 (args.map (Sac.ev E)).toArray) w := Sac.x_callL Try.func33 (by kernel_rfl) rfl
theorem C34 {E : Sac.Env} {w : World} {ty : TypeId} {args : List Operand} {ats : Array TypeId} : Sac.exec Try.prog E (.call { callee := .value (.func 34), args := args.toArray, argTypes := ats }) ty w = .ok (.enter 34 (args.map (Sac.ev E)).toArray) w := Sac.x_callL Try.func34 (by kernel_rfl) rfl
theorem C35 {E : Sac.Env} {w : World} {ty : TypeId} {args : List Operand} {ats : Array TypeId} : Sac.exec Try.prog E (.call { callee := .value (.func 35), args := args.toArray, argTypes := ats }) ty w = .ok (.enter 35 (args.map (Sac.ev E)).toArray) w := Sac.x_callL Try.func35 (by kernel_rfl) rfl
theorem C36 {E : Sac.Env} {w : World} {ty : TypeId} {args : List Operand} {ats : Array TypeId} : Sac.exec Try.prog E (.call { callee := .value (.func 36), args := args.toArray, argTypes := ats }) ty w = .ok (.enter 36 (args.map (Sac.ev E)).toArray) w := Sac.x_callL Try.func36 (by kernel_rfl) rfl
theorem C37 {E : Sac.Env} {w : World} {ty : TypeId} {args : List Operand} {ats : Array TypeId} : Sac.exec Try.prog E (.call { callee := .value (.func 37), args := args.toArray, argTypes := ats }) ty w = .ok (.enter 37 (args.map (Sac.ev E)).toArray) w := Sac.x_callL Try.func37 (by kernel_rfl) rfl
theorem C38 {E : Sac.Env} {w : World} {ty : TypeId} {args : List Operand} {ats : Array TypeId} : Sac.exec Try.prog E (.call { callee := .value (.func 38), args := args.toArray, argTypes := ats }) ty w = .ok (.enter 38 (args.map (Sac.ev E)).toArray) w := Sac.x_callL Try.func38 (by kernel_rfl) rfl
theorem C39 {E : Sac.Env} {w : World} {ty : TypeId} {args : List Operand} {ats : Array TypeId} : Sac.exec Try.prog E (.call { callee := .value (.func 39), args := args.toArray, argTypes := ats }) ty w = .ok (.enter 39 (args.map (Sac.ev E)).toArray) w := Sac.x_callL Try.func39 (by kernel_rfl) rfl
theorem C40 {E : Sac.Env} {w : World} {ty : TypeId} {args : List Operand} {ats : Array TypeId} : Sac.exec Try.prog E (.call { callee := .value (.func 40), args := args.toArray, argTypes := ats }) ty w = .ok (.enter 40 (args.map (Sac.ev E)).toArray) w := Sac.x_callL Try.func40 (by kernel_rfl) rfl
theorem C41 {E : Sac.Env} {w : World} {ty : TypeId} {args : List Operand} {ats : Array TypeId} : Sac.exec Try.prog E (.call { callee := .value (.func 41), args := args.toArray, argTypes := ats }) ty w = .ok (.enter 41 (args.map (Sac.ev E)).toArray) w := Sac.x_callL Try.func41 (by kernel_rfl) rfl
theorem C42 {E : Sac.Env} {w : World} {ty : TypeId} {args : List Operand} {ats : Array TypeId} : Sac.exec Try.prog E (.call { callee := .value (.func 42), args := args.toArray, argTypes := ats }) ty w = .ok (.enter 42 (args.map (Sac.ev E)).toArray) w := Sac.x_callL Try.func42 (by kernel_rfl) rfl
theorem C43 {E : Sac.Env} {w : World} {ty : TypeId} {args : List Operand} {ats : Array TypeId} : Sac.exec Try.prog E (.call { callee := .value (.func 43), args := args.toArray, argTypes := ats }) ty w = .ok (.enter 43 (args.map (Sac.ev E)).toArray) w := Sac.x_callL Try.func43 (by kernel_rfl) rfl
theorem C44 {E : Sac.Env} {w : World} {ty : TypeId} {args : List Operand} {ats : Array TypeId} : Sac.exec Try.prog E (.call { callee := .value (.func 44), args := args.toArray, argTypes := ats }) ty w = .ok (.enter 44 (args.map (Sac.ev E)).toArray) w := Sac.x_callL Try.func44 (by kernel_rfl) rfl
theorem C45 {E : Sac.Env} {w : World} {ty : TypeId} {args : List Operand} {ats : Array TypeId} : Sac.exec Try.prog E (.call { callee := .value (.func 45), args := args.toArray, argTypes := ats }) ty w = .ok (.enter 45 (args.map (Sac.ev E)).toArray) w := Sac.x_callL Try.func45 (by kernel_rfl) rfl
theorem C46 {E : Sac.Env} {w : World} {ty : TypeId} {args : List Operand} {ats : Array TypeId} : Sac.exec Try.prog E (.call { callee := .value (.func 46), args := args.toArray, argTypes := ats }) ty w = .ok (.enter 46 (args.map (Sac.ev E)).toArray) w := Sac.x_callL Try.func46 (by kernel_rfl) rfl
theorem C47 {E : Sac.Env} {w : World} {ty : TypeId} {args : List Operand} {ats : Array TypeId} : Sac.exec Try.prog E (.call { callee := .value (.func 47), args := args.toArray, argTypes := ats }) ty w = .ok (.enter 47 (args.map (Sac.ev E)).toArray) w := Sac.x_callL Try.func47 (by kernel_rfl) rfl
theorem C48 {E : Sac.Env} {w : World} {ty : TypeId} {args : List Operand} {ats : Array TypeId} : Sac.exec Try.prog E (.call { callee := .value (.func 48), args := args.toArray, argTypes := ats }) ty w = .ok (.enter 48 (args.map (Sac.ev E)).toArray) w := Sac.x_callL Try.func48 (by kernel_rfl) rfl
theorem C49 {E : Sac.Env} {w : World} {ty : TypeId} {args : List Operand} {ats : Array TypeId} : Sac.exec Try.prog E (.call { callee := .value (.func 49), args := args.toArray, argTypes := ats }) ty w = .ok (.enter 49 (args.map (Sac.ev E)).toArray) w := Sac.x_callL Try.func49 (by kernel_rfl) rfl
theorem C50 {E : Sac.Env} {w : World} {ty : TypeId} {args : List Operand} {ats : Array TypeId} : Sac.exec Try.prog E (.call { callee := .value (.func 50), args := args.toArray, argTypes := ats }) ty w = .ok (.enter 50 (args.map (Sac.ev E)).toArray) w := Sac.x_callL Try.func50 (by kernel_rfl) rfl
theorem C51 {E : Sac.Env} {w : World} {ty : TypeId} {args : List Operand} {ats : Array TypeId} : Sac.exec Try.prog E (.call { callee := .value (.func 51), args := args.toArray, argTypes := ats }) ty w = .ok (.enter 51 (args.map (Sac.ev E)).toArray) w := Sac.x_callL Try.func51 (by kernel_rfl) rfl
theorem C52 {E : Sac.Env} {w : World} {ty : TypeId} {args : List Operand} {ats : Array TypeId} : Sac.exec Try.prog E (.call { callee := .value (.func 52), args := args.toArray, argTypes := ats }) ty w = .ok (.enter 52 (args.map (Sac.ev E)).toArray) w := Sac.x_callL Try.func52 (by kernel_rfl) rfl
theorem C53 {E : Sac.Env} {w : World} {ty : TypeId} {args : List Operand} {ats : Array TypeId} : Sac.exec Try.prog E (.call { callee := .value (.func 53), args := args.toArray, argTypes := ats }) ty w = .ok (.enter 53 (args.map (Sac.ev E)).toArray) w := Sac.x_callL Try.func53 (by kernel_rfl) rfl
theorem C54 {E : Sac.Env} {w : World} {ty : TypeId} {args : List Operand} {ats : Array TypeId} : Sac.exec Try.prog E (.call { callee := .value (.func 54), args := args.toArray, argTypes := ats }) ty w = .ok (.enter 54 (args.map (Sac.ev E)).toArray) w := Sac.x_callL Try.func54 (by kernel_rfl) rfl
theorem C55 {E : Sac.Env} {w : World} {ty : TypeId} {args : List Operand} {ats : Array TypeId} : Sac.exec Try.prog E (.call { callee := .value (.func 55), args := args.toArray, argTypes := ats }) ty w = .ok (.enter 55 (args.map (Sac.ev E)).toArray) w := Sac.x_callL Try.func55 (by kernel_rfl) rfl
theorem C56 {E : Sac.Env} {w : World} {ty : TypeId} {args : List Operand} {ats : Array TypeId} : Sac.exec Try.prog E (.call { callee := .value (.func 56), args := args.toArray, argTypes := ats }) ty w = .ok (.enter 56 (args.map (Sac.ev E)).toArray) w := Sac.x_callL Try.func56 (by kernel_rfl) rfl
theorem C57 {E : Sac.Env} {w : World} {ty : TypeId} {args : List Operand} {ats : Array TypeId} : Sac.exec Try.prog E (.call { callee := .value (.func 57), args := args.toArray, argTypes := ats }) ty w = .ok (.enter 57 (args.map (Sac.ev E)).toArray) w := Sac.x_callL Try.func57 (by kernel_rfl) rfl
theorem C58 {E : Sac.Env} {w : World} {ty : TypeId} {args : List Operand} {ats : Array TypeId} : Sac.exec Try.prog E (.call { callee := .value (.func 58), args := args.toArray, argTypes := ats }) ty w = .ok (.enter 58 (args.map (Sac.ev E)).toArray) w := Sac.x_callL Try.func58 (by kernel_rfl) rfl
theorem C59 {E : Sac.Env} {w : World} {ty : TypeId} {args : List Operand} {ats : Array TypeId} : Sac.exec Try.prog E (.call { callee := .value (.func 59), args := args.toArray, argTypes := ats }) ty w = .ok (.enter 59 (args.map (Sac.ev E)).toArray) w := Sac.x_callL Try.func59 (by kernel_rfl) rfl
theorem C60 {E : Sac.Env} {w : World} {ty : TypeId} {args : List Operand} {ats : Array TypeId} : Sac.exec Try.prog E (.call { callee := .value (.func 60), args := args.toArray, argTypes := ats }) ty w = .ok (.enter 60 (args.map (Sac.ev E)).toArray) w := Sac.x_callL Try.func60 (by kernel_rfl) rfl
theorem C61 {E : Sac.Env} {w : World} {ty : TypeId} {args : List Operand} {ats : Array TypeId} : Sac.exec Try.prog E (.call { callee := .value (.func 61), args := args.toArray, argTypes := ats }) ty w = .ok (.enter 61 (args.map (Sac.ev E)).toArray) w := Sac.x_callL Try.func61 (by kernel_rfl) rfl
theorem C62 {E : Sac.Env} {w : World} {ty : TypeId} {args : List Operand} {ats : Array TypeId} : Sac.exec Try.prog E (.call { callee := .value (.func 62), args := args.toArray, argTypes := ats }) ty w = .ok (.enter 62 (args.map (Sac.ev E)).toArray) w := Sac.x_callL Try.func62 (by kernel_rfl) rfl
theorem C63 {E : Sac.Env} {w : World} {ty : TypeId} {args : List Operand} {ats : Array TypeId} : Sac.exec Try.prog E (.call { callee := .value (.func 63), args := args.toArray, argTypes := ats }) ty w = .ok (.enter 63 (args.map (Sac.ev E)).toArray) w := Sac.x_callL Try.func63 (by kernel_rfl) rfl
theorem C64 {E : Sac.Env} {w : World} {ty : TypeId} {args : List Operand} {ats : Array TypeId} : Sac.exec Try.prog E (.call { callee := .value (.func 64), args := args.toArray, argTypes := ats }) ty w = .ok (.enter 64 (args.map (Sac.ev E)).toArray) w := Sac.x_callL Try.func64 (by kernel_rfl) rfl
theorem C65 {E : Sac.Env} {w : World} {ty : TypeId} {args : List Operand} {ats : Array TypeId} : Sac.exec Try.prog E (.call { callee := .value (.func 65), args := args.toArray, argTypes := ats }) ty w = .ok (.enter 65 (args.map (Sac.ev E)).toArray) w := Sac.x_callL Try.func65 (by kernel_rfl) rfl
theorem C66 {E : Sac.Env} {w : World} {ty : TypeId} {args : List Operand} {ats : Array TypeId} : Sac.exec Try.prog E (.call { callee := .value (.func 66), args := args.toArray, argTypes := ats }) ty w = .ok (.enter 66 (args.map (Sac.ev E)).toArray) w := Sac.x_callL Try.func66 (by kernel_rfl) rfl
theorem C67 {E : Sac.Env} {w : World} {ty : TypeId} {args : List Operand} {ats : Array TypeId} : Sac.exec Try.prog E (.call { callee := .value (.func 67), args := args.toArray, argTypes := ats }) ty w = .ok (.enter 67 (args.map (Sac.ev E)).toArray) w := Sac.x_callL Try.func67 (by kernel_rfl) rfl
theorem C68 {E : Sac.Env} {w : World} {ty : TypeId} {args : List Operand} {ats : Array TypeId} : Sac.exec Try.prog E (.call { callee := .value (.func 68), args := args.toArray, argTypes := ats }) ty w = .ok (.enter 68 (args.map (Sac.ev E)).toArray) w := Sac.x_callL Try.func68 (by kernel_rfl) rfl
theorem C69 {E : Sac.Env} {w : World} {ty : TypeId} {args : List Operand} {ats : Array TypeId} : Sac.exec Try.prog E (.call { callee := .value (.func 69), args := args.toArray, argTypes := ats }) ty w = .ok (.enter 69 (args.map (Sac.ev E)).toArray) w := Sac.x_callL Try.func69 (by kernel_rfl) rfl
theorem C70 {E : Sac.Env} {w : World} {ty : TypeId} {args : List Operand} {ats : Array TypeId} : Sac.exec Try.prog E (.call { callee := .value (.func 70), args := args.toArray, argTypes := ats }) ty w = .ok (.enter 70 (args.map (Sac.ev E)).toArray) w := Sac.x_callL Try.func70 (by kernel_rfl) rfl
theorem C71 {E : Sac.Env} {w : World} {ty : TypeId} {args : List Operand} {ats : Array TypeId} : Sac.exec Try.prog E (.call { callee := .value (.func 71), args := args.toArray, argTypes := ats }) ty w = .ok (.enter 71 (args.map (Sac.ev E)).toArray) w := Sac.x_callL Try.func71 (by kernel_rfl) rfl
theorem C72 {E : Sac.Env} {w : World} {ty : TypeId} {args : List Operand} {ats : Array TypeId} : Sac.exec Try.prog E (.call { callee := .value (.func 72), args := args.toArray, argTypes := ats }) ty w = .ok (.enter 72 (args.map (Sac.ev E)).toArray) w := Sac.x_callL Try.func72 (by kernel_rfl) rfl
theorem C73 {E : Sac.Env} {w : World} {ty : TypeId} {args : List Operand} {ats : Array TypeId} : Sac.exec Try.prog E (.call { callee := .value (.func 73), args := args.toArray, argTypes := ats }) ty w = .ok (.enter 73 (args.map (Sac.ev E)).toArray) w := Sac.x_callL Try.func73 (by kernel_rfl) rfl
theorem C74 {E : Sac.Env} {w : World} {ty : TypeId} {args : List Operand} {ats : Array TypeId} : Sac.exec Try.prog E (.call { callee := .value (.func 74), args := args.toArray, argTypes := ats }) ty w = .ok (.enter 74 (args.map (Sac.ev E)).toArray) w := Sac.x_callL Try.func74 (by kernel_rfl) rfl
theorem C75 {E : Sac.Env} {w : World} {ty : TypeId} {args : List Operand} {ats : Array TypeId} : Sac.exec Try.prog E (.call { callee := .value (.func 75), args := args.toArray, argTypes := ats }) ty w = .ok (.enter 75 (args.map (Sac.ev E)).toArray) w := Sac.x_callL Try.func75 (by kernel_rfl) rfl
theorem C76 {E : Sac.Env} {w : World} {ty : TypeId} {args : List Operand} {ats : Array TypeId} : Sac.exec Try.prog E (.call { callee := .value (.func 76), args := args.toArray, argTypes := ats }) ty w = .ok (.enter 76 (args.map (Sac.ev E)).toArray) w := Sac.x_callL Try.func76 (by kernel_rfl) rfl
theorem C77 {E : Sac.Env} {w : World} {ty : TypeId} {args : List Operand} {ats : Array TypeId} : Sac.exec Try.prog E (.call { callee := .value (.func 77), args := args.toArray, argTypes := ats }) ty w = .ok (.enter 77 (args.map (Sac.ev E)).toArray) w := Sac.x_callL Try.func77 (by kernel_rfl) rfl
theorem C78 {E : Sac.Env} {w : World} {ty : TypeId} {args : List Operand} {ats : Array TypeId} : Sac.exec Try.prog E (.call { callee := .value (.func 78), args := args.toArray, argTypes := ats }) ty w = .ok (.enter 78 (args.map (Sac.ev E)).toArray) w := Sac.x_callL Try.func78 (by kernel_rfl) rfl
theorem C79 {E : Sac.Env} {w : World} {ty : TypeId} {args : List Operand} {ats : Array TypeId} : Sac.exec Try.prog E (.call { callee := .value (.func 79), args := args.toArray, argTypes := ats }) ty w = .ok (.enter 79 (args.map (Sac.ev E)).toArray) w := Sac.x_callL Try.func79 (by kernel_rfl) rfl
theorem C80 {E : Sac.Env} {w : World} {ty : TypeId} {args : List Operand} {ats : Array TypeId} : Sac.exec Try.prog E (.call { callee := .value (.func 80), args := args.toArray, argTypes := ats }) ty w = .ok (.enter 80 (args.map (Sac.ev E)).toArray) w := Sac.x_callL Try.func80 (by kernel_rfl) rfl
theorem C81 {E : Sac.Env} {w : World} {ty : TypeId} {args : List Operand} {ats : Array TypeId} : Sac.exec Try.prog E (.call { callee := .value (.func 81), args := args.toArray, argTypes := ats }) ty w = .ok (.enter 81 (args.map (Sac.ev E)).toArray) w := Sac.x_callL Try.func81 (by kernel_rfl) rfl
theorem C82 {E : Sac.Env} {w : World} {ty : TypeId} {args : List Operand} {ats : Array TypeId} : Sac.exec Try.prog E (.call { callee := .value (.func 82), args := args.toArray, argTypes := ats }) ty w = .ok (.enter 82 (args.map (Sac.ev E)).toArray) w := Sac.x_callL Try.func82 (by kernel_rfl) rfl
theorem C83 {E : Sac.Env} {w : World} {ty : TypeId} {args : List Operand} {ats : Array TypeId} : Sac.exec Try.prog E (.call { callee := .value (.func 83), args := args.toArray, argTypes := ats }) ty w = .ok (.enter 83 (args.map (Sac.ev E)).toArray) w := Sac.x_callL Try.func83 (by kernel_rfl) rfl
theorem C84 {E : Sac.Env} {w : World} {ty : TypeId} {args : List Operand} {ats : Array TypeId} : Sac.exec Try.prog E (.call { callee := .value (.func 84), args := args.toArray, argTypes := ats }) ty w = .ok (.enter 84 (args.map (Sac.ev E)).toArray) w := Sac.x_callL Try.func84 (by kernel_rfl) rfl
theorem C85 {E : Sac.Env} {w : World} {ty : TypeId} {args : List Operand} {ats : Array TypeId} : Sac.exec Try.prog E (.call { callee := .value (.func 85), args := args.toArray, argTypes := ats }) ty w = .ok (.enter 85 (args.map (Sac.ev E)).toArray) w := Sac.x_callL Try.func85 (by kernel_rfl) rfl
theorem C86 {E : Sac.Env} {w : World} {ty : TypeId} {args : List Operand} {ats : Array TypeId} : Sac.exec Try.prog E (.call { callee := .value (.func 86), args := args.toArray, argTypes := ats }) ty w = .ok (.enter 86 (args.map (Sac.ev E)).toArray) w := Sac.x_callL Try.func86 (by kernel_rfl) rfl
theorem C87 {E : Sac.Env} {w : World} {ty : TypeId} {args : List Operand} {ats : Array TypeId} : Sac.exec Try.prog E (.call { callee := .value (.func 87), args := args.toArray, argTypes := ats }) ty w = .ok (.enter 87 (args.map (Sac.ev E)).toArray) w := Sac.x_callL Try.func87 (by kernel_rfl) rfl
theorem C88 {E : Sac.Env} {w : World} {ty : TypeId} {args : List Operand} {ats : Array TypeId} : Sac.exec Try.prog E (.call { callee := .value (.func 88), args := args.toArray, argTypes := ats }) ty w = .ok (.enter 88 (args.map (Sac.ev E)).toArray) w := Sac.x_callL Try.func88 (by kernel_rfl) rfl
theorem C89 {E : Sac.Env} {w : World} {ty : TypeId} {args : List Operand} {ats : Array TypeId} : Sac.exec Try.prog E (.call { callee := .value (.func 89), args := args.toArray, argTypes := ats }) ty w = .ok (.enter 89 (args.map (Sac.ev E)).toArray) w := Sac.x_callL Try.func89 (by kernel_rfl) rfl
theorem C90 {E : Sac.Env} {w : World} {ty : TypeId} {args : List Operand} {ats : Array TypeId} : Sac.exec Try.prog E (.call { callee := .value (.func 90), args := args.toArray, argTypes := ats }) ty w = .ok (.enter 90 (args.map (Sac.ev E)).toArray) w := Sac.x_callL Try.func90 (by kernel_rfl) rfl
theorem C91 {E : Sac.Env} {w : World} {ty : TypeId} {args : List Operand} {ats : Array TypeId} : Sac.exec Try.prog E (.call { callee := .value (.func 91), args := args.toArray, argTypes := ats }) ty w = .ok (.enter 91 (args.map (Sac.ev E)).toArray) w := Sac.x_callL Try.func91 (by kernel_rfl) rfl
theorem C92 {E : Sac.Env} {w : World} {ty : TypeId} {args : List Operand} {ats : Array TypeId} : Sac.exec Try.prog E (.call { callee := .value (.func 92), args := args.toArray, argTypes := ats }) ty w = .ok (.enter 92 (args.map (Sac.ev E)).toArray) w := Sac.x_callL Try.func92 (by kernel_rfl) rfl
theorem C93 {E : Sac.Env} {w : World} {ty : TypeId} {args : List Operand} {ats : Array TypeId} : Sac.exec Try.prog E (.call { callee := .value (.func 93), args := args.toArray, argTypes := ats }) ty w = .ok (.enter 93 (args.map (Sac.ev E)).toArray) w := Sac.x_callL Try.func93 (by kernel_rfl) rfl
theorem C94 {E : Sac.Env} {w : World} {ty : TypeId} {args : List Operand} {ats : Array TypeId} : Sac.exec Try.prog E (.call { callee := .value (.func 94), args := args.toArray, argTypes := ats }) ty w = .ok (.enter 94 (args.map (Sac.ev E)).toArray) w := Sac.x_callL Try.func94 (by kernel_rfl) rfl
theorem C95 {E : Sac.Env} {w : World} {ty : TypeId} {args : List Operand} {ats : Array TypeId} : Sac.exec Try.prog E (.call { callee := .value (.func 95), args := args.toArray, argTypes := ats }) ty w = .ok (.enter 95 (args.map (Sac.ev E)).toArray) w := Sac.x_callL Try.func95 (by kernel_rfl) rfl
theorem C96 {E : Sac.Env} {w : World} {ty : TypeId} {args : List Operand} {ats : Array TypeId} : Sac.exec Try.prog E (.call { callee := .value (.func 96), args := args.toArray, argTypes := ats }) ty w = .ok (.enter 96 (args.map (Sac.ev E)).toArray) w := Sac.x_callL Try.func96 (by kernel_rfl) rfl
theorem C97 {E : Sac.Env} {w : World} {ty : TypeId} {args : List Operand} {ats : Array TypeId} : Sac.exec Try.prog E (.call { callee := .value (.func 97), args := args.toArray, argTypes := ats }) ty w = .ok (.enter 97 (args.map (Sac.ev E)).toArray) w := Sac.x_callL Try.func97 (by kernel_rfl) rfl
theorem C98 {E : Sac.Env} {w : World} {ty : TypeId} {args : List Operand} {ats : Array TypeId} : Sac.exec Try.prog E (.call { callee := .value (.func 98), args := args.toArray, argTypes := ats }) ty w = .ok (.enter 98 (args.map (Sac.ev E)).toArray) w := Sac.x_callL Try.func98 (by kernel_rfl) rfl
theorem C99 {E : Sac.Env} {w : World} {ty : TypeId} {args : List Operand} {ats : Array TypeId} : Sac.exec Try.prog E (.call { callee := .value (.func 99), args := args.toArray, argTypes := ats }) ty w = .ok (.enter 99 (args.map (Sac.ev E)).toArray) w := Sac.x_callL Try.func99 (by kernel_rfl) rfl
theorem C100 {E : Sac.Env} {w : World} {ty : TypeId} {args : List Operand} {ats : Array TypeId} : Sac.exec Try.prog E (.call { callee := .value (.func 100), args := args.toArray, argTypes := ats }) ty w = .ok (.enter 100 (args.map (Sac.ev E)).toArray) w := Sac.x_callL Try.func100 (by kernel_rfl) rfl
theorem C101 {E : Sac.Env} {w : World} {ty : TypeId} {args : List Operand} {ats : Array TypeId} : Sac.exec Try.prog E (.call { callee := .value (.func 101), args := args.toArray, argTypes := ats }) ty w = .ok (.enter 101 (args.map (Sac.ev E)).toArray) w := Sac.x_callL Try.func101 (by kernel_rfl) rfl
theorem C102 {E : Sac.Env} {w : World} {ty : TypeId} {args : List Operand} {ats : Array TypeId} : Sac.exec Try.prog E (.call { callee := .value (.func 102), args := args.toArray, argTypes := ats }) ty w = .ok (.enter 102 (args.map (Sac.ev E)).toArray) w := Sac.x_callL Try.func102 (by kernel_rfl) rfl
theorem C103 {E : Sac.Env} {w : World} {ty : TypeId} {args : List Operand} {ats : Array TypeId} : Sac.exec Try.prog E (.call { callee := .value (.func 103), args := args.toArray, argTypes := ats }) ty w = .ok (.enter 103 (args.map (Sac.ev E)).toArray) w := Sac.x_callL Try.func103 (by kernel_rfl) rfl
theorem mixed : Try.prog.follows .mixedOrders = true := by kernel_rfl
end Go.Proofs.Ytenhmbhflgnhlaa
