/-
  The types of the translation, as the abstract machine uses them: a table, and that it agrees with the program's. Written by a program of ours (gen_ty.py).
-/
import Derived.Test.YtfkmbdfajpdjjaaDoorProg
import Derived.Test.YtfkmbdfajpdjjaaDoorAbsC
import Derived.KernelRfl
set_option linter.unusedSimpArgs false
set_option linter.unusedVariables false
namespace Go.Proofs.YtfkmbdfajpdjjaaDoor
open Go.Abs

def ti3 : TI := ⟨1, 8, false, [.int .i64 0], .int .i64, none⟩
def ti4 : TI := ⟨1, 1, false, [.bool false], .bool, none⟩
def ti5 : TI := ⟨1, 1, false, [.int .u8 0], .int .u8, none⟩
def ti9 : TI := ⟨1, 16, false, [.string .empty], .string, none⟩
def ti22 : TI := ⟨1, 24, false, [.slice none 0 0], .slice 54, none⟩
def ti23 : TI := ⟨1, 24, false, [.slice none 0 0], .slice 135, none⟩
def ti24 : TI := ⟨1, 24, false, [.slice none 0 0], .slice 137, none⟩
def ti25 : TI := ⟨1, 24, false, [.slice none 0 0], .slice 139, none⟩
def ti26 : TI := ⟨4, 32, true, [.int .i64 0, .int .i64 0, .int .i64 0, .int .i64 0], .array 4 3, none⟩
def ti27 : TI := ⟨8, 128, true, [.slice none 0 0, .slice none 0 0, .slice none 0 0, .slice none 0 0, .int .i64 0, .int .i64 0, .int .i64 0, .int .i64 0], .struct #[⟨"Heats", 22, 0, false, "", "", 0⟩, ⟨"Cools", 23, 1, false, "", "", 24⟩, ⟨"Colds", 24, 2, false, "", "", 48⟩, ⟨"Tempers", 25, 3, false, "", "", 72⟩, ⟨"Hard", 26, 4, false, "", "", 96⟩], none⟩
def ti28 : TI := ⟨8, 128, true, [.slice none 0 0, .slice none 0 0, .slice none 0 0, .slice none 0 0, .int .i64 0, .int .i64 0, .int .i64 0, .int .i64 0], .struct #[⟨"Heats", 22, 0, false, "", "", 0⟩, ⟨"Cools", 23, 1, false, "", "", 24⟩, ⟨"Colds", 24, 2, false, "", "", 48⟩, ⟨"Tempers", 25, 3, false, "", "", 72⟩, ⟨"Hard", 26, 4, false, "", "", 96⟩], none⟩
def ti29 : TI := ⟨7, 56, true, [.int .i64 0, .int .i64 0, .int .i64 0, .int .i64 0, .int .i64 0, .int .i64 0, .int .i64 0], .struct #[⟨"Parent", 3, 0, false, "", "", 0⟩, ⟨"Austenite", 3, 1, false, "", "", 8⟩, ⟨"Bainite", 3, 2, false, "", "", 16⟩, ⟨"Martensite", 3, 3, false, "", "", 24⟩, ⟨"Wait", 3, 4, false, "", "", 32⟩, ⟨"Grain", 3, 5, false, "", "", 40⟩, ⟨"Temper", 3, 6, false, "", "", 48⟩], none⟩
def ti30 : TI := ⟨7, 56, true, [.int .i64 0, .int .i64 0, .int .i64 0, .int .i64 0, .int .i64 0, .int .i64 0, .int .i64 0], .struct #[⟨"Parent", 3, 0, false, "", "", 0⟩, ⟨"Austenite", 3, 1, false, "", "", 8⟩, ⟨"Bainite", 3, 2, false, "", "", 16⟩, ⟨"Martensite", 3, 3, false, "", "", 24⟩, ⟨"Wait", 3, 4, false, "", "", 32⟩, ⟨"Grain", 3, 5, false, "", "", 40⟩, ⟨"Temper", 3, 6, false, "", "", 48⟩], some [true, true, true, true, true, true, true]⟩
def ti31 : TI := ⟨3, 24, true, [.int .i64 0, .int .i64 0, .int .i64 0], .struct #[⟨"Heat", 3, 0, false, "", "", 0⟩, ⟨"Cool", 3, 1, false, "", "", 8⟩, ⟨"Cold", 3, 2, false, "", "", 16⟩], none⟩
def ti32 : TI := ⟨3, 24, true, [.int .i64 0, .int .i64 0, .int .i64 0], .struct #[⟨"Heat", 3, 0, false, "", "", 0⟩, ⟨"Cool", 3, 1, false, "", "", 8⟩, ⟨"Cold", 3, 2, false, "", "", 16⟩], none⟩
def ti35 : TI := ⟨1, 8, false, [.int .i64 0], .int .i64, none⟩
def ti46 : TI := ⟨1, 24, false, [.slice none 0 0], .slice 3, none⟩
def ti51 : TI := ⟨2, 16, true, [.int .i64 0, .int .i64 0], .struct #[⟨"Lo", 3, 0, false, "", "", 0⟩, ⟨"Hi", 3, 1, false, "", "", 8⟩], none⟩
def ti52 : TI := ⟨2, 16, true, [.int .i64 0, .int .i64 0], .struct #[⟨"Lo", 3, 0, false, "", "", 0⟩, ⟨"Hi", 3, 1, false, "", "", 8⟩], some [true, true]⟩
def ti53 : TI := ⟨4, 32, true, [.int .i64 0, .int .i64 0, .int .i64 0, .int .i64 0], .struct #[⟨"Kelvin", 3, 0, false, "", "", 0⟩, ⟨"Rate", 52, 1, false, "", "", 8⟩, ⟨"Growth", 3, 3, false, "", "", 24⟩], none⟩
def ti54 : TI := ⟨4, 32, true, [.int .i64 0, .int .i64 0, .int .i64 0, .int .i64 0], .struct #[⟨"Kelvin", 3, 0, false, "", "", 0⟩, ⟨"Rate", 52, 1, false, "", "", 8⟩, ⟨"Growth", 3, 3, false, "", "", 24⟩], none⟩
def ti58 : TI := ⟨4, 48, true, [.slice none 0 0, .int .i64 0, .int .i64 0, .int .i64 0], .struct #[⟨"Curve", 46, 0, false, "", "", 0⟩, ⟨"Pick", 32, 1, false, "", "", 24⟩], none⟩
def ti59 : TI := ⟨4, 48, true, [.slice none 0 0, .int .i64 0, .int .i64 0, .int .i64 0], .struct #[⟨"Curve", 46, 0, false, "", "", 0⟩, ⟨"Pick", 32, 1, false, "", "", 24⟩], none⟩
def ti61 : TI := ⟨1, 24, false, [.slice none 0 0], .slice 52, none⟩
def ti78 : TI := ⟨1, 8, false, [.nilFunc], .func #[3] #[4] false, none⟩
def ti92 : TI := ⟨1, 24, false, [.slice none 0 0], .slice 162, none⟩
def ti95 : TI := ⟨2, 32, true, [.string .empty, .string .empty], .array 2 9, some [false, false]⟩
def ti109 : TI := ⟨14, 112, true, [.int .i64 0, .int .i64 0, .int .i64 0, .int .i64 0, .int .i64 0, .int .i64 0, .int .i64 0, .int .i64 0, .int .i64 0, .int .i64 0, .int .i64 0, .int .i64 0, .int .i64 0, .int .i64 0], .struct #[⟨"Parent", 52, 0, false, "", "", 0⟩, ⟨"Austenite", 52, 2, false, "", "", 16⟩, ⟨"Bainite", 52, 4, false, "", "", 32⟩, ⟨"Martensite", 52, 6, false, "", "", 48⟩, ⟨"Wait", 52, 8, false, "", "", 64⟩, ⟨"Grain", 52, 10, false, "", "", 80⟩, ⟨"Temper", 52, 12, false, "", "", 96⟩], none⟩
def ti110 : TI := ⟨14, 112, true, [.int .i64 0, .int .i64 0, .int .i64 0, .int .i64 0, .int .i64 0, .int .i64 0, .int .i64 0, .int .i64 0, .int .i64 0, .int .i64 0, .int .i64 0, .int .i64 0, .int .i64 0, .int .i64 0], .struct #[⟨"Parent", 52, 0, false, "", "", 0⟩, ⟨"Austenite", 52, 2, false, "", "", 16⟩, ⟨"Bainite", 52, 4, false, "", "", 32⟩, ⟨"Martensite", 52, 6, false, "", "", 48⟩, ⟨"Wait", 52, 8, false, "", "", 64⟩, ⟨"Grain", 52, 10, false, "", "", 80⟩, ⟨"Temper", 52, 12, false, "", "", 96⟩], none⟩
def ti121 : TI := ⟨1, 24, false, [.slice none 0 0], .slice 127, none⟩
def ti122 : TI := ⟨4, 96, true, [.slice none 0 0, .slice none 0 0, .slice none 0 0, .slice none 0 0], .array 4 121, none⟩
def ti124 : TI := ⟨1, 8, false, [.pointer none], .pointer 127, none⟩
def ti126 : TI := ⟨3, 40, true, [.int .i64 0, .slice none 0 0, .int .i64 0], .struct #[⟨"kelvin", 3, 0, false, "", "martensite/steel", 0⟩, ⟨"ranges", 61, 1, false, "", "martensite/steel", 8⟩, ⟨"other", 3, 2, false, "", "martensite/steel", 32⟩], none⟩
def ti127 : TI := ⟨3, 40, true, [.int .i64 0, .slice none 0 0, .int .i64 0], .struct #[⟨"kelvin", 3, 0, false, "", "martensite/steel", 0⟩, ⟨"ranges", 61, 1, false, "", "martensite/steel", 8⟩, ⟨"other", 3, 2, false, "", "martensite/steel", 32⟩], none⟩
def ti128 : TI := ⟨1, 24, false, [.slice none 0 0], .slice 121, none⟩
def ti134 : TI := ⟨5, 40, true, [.int .i64 0, .int .i64 0, .int .i64 0, .int .i64 0, .int .i64 0], .struct #[⟨"Kelvin", 3, 0, false, "", "", 0⟩, ⟨"Wait", 52, 1, false, "", "", 8⟩, ⟨"Rate", 52, 3, false, "", "", 24⟩], none⟩
def ti135 : TI := ⟨5, 40, true, [.int .i64 0, .int .i64 0, .int .i64 0, .int .i64 0, .int .i64 0], .struct #[⟨"Kelvin", 3, 0, false, "", "", 0⟩, ⟨"Wait", 52, 1, false, "", "", 8⟩, ⟨"Rate", 52, 3, false, "", "", 24⟩], none⟩
def ti136 : TI := ⟨3, 24, true, [.int .i64 0, .int .i64 0, .int .i64 0], .struct #[⟨"Kelvin", 3, 0, false, "", "", 0⟩, ⟨"Share", 52, 1, false, "", "", 8⟩], none⟩
def ti137 : TI := ⟨3, 24, true, [.int .i64 0, .int .i64 0, .int .i64 0], .struct #[⟨"Kelvin", 3, 0, false, "", "", 0⟩, ⟨"Share", 52, 1, false, "", "", 8⟩], none⟩
def ti138 : TI := ⟨2, 16, true, [.int .i64 0, .int .i64 0], .struct #[⟨"Kelvin", 3, 0, false, "", "", 0⟩, ⟨"Rate", 3, 1, false, "", "", 8⟩], none⟩
def ti139 : TI := ⟨2, 16, true, [.int .i64 0, .int .i64 0], .struct #[⟨"Kelvin", 3, 0, false, "", "", 0⟩, ⟨"Rate", 3, 1, false, "", "", 8⟩], none⟩
def ti142 : TI := ⟨8, 128, true, [.slice none 0 0, .slice none 0 0, .slice none 0 0, .slice none 0 0, .int .i64 0, .int .i64 0, .int .i64 0, .int .i64 0], .struct #[⟨"SteelRules", 28, 0, true, "", "", 0⟩], none⟩
def ti143 : TI := ⟨8, 128, true, [.slice none 0 0, .slice none 0 0, .slice none 0 0, .slice none 0 0, .int .i64 0, .int .i64 0, .int .i64 0, .int .i64 0], .struct #[⟨"SteelRules", 28, 0, true, "", "", 0⟩], none⟩
def ti146 : TI := ⟨1, 8, false, [.nilFunc], .func #[52] #[3] false, none⟩
def ti148 : TI := ⟨1, 8, false, [.nilFunc], .func #[52] #[4] false, none⟩
def ti149 : TI := ⟨1, 8, false, [.nilFunc], .func #[146] #[3] false, none⟩
def ti161 : TI := ⟨3, 32, true, [.string .empty, .int .i64 0, .int .i64 0], .struct #[⟨"Name", 9, 0, false, "", "", 0⟩, ⟨"Start", 52, 1, false, "", "", 16⟩], none⟩
def ti162 : TI := ⟨3, 32, true, [.string .empty, .int .i64 0, .int .i64 0], .struct #[⟨"Name", 9, 0, false, "", "", 0⟩, ⟨"Start", 52, 1, false, "", "", 16⟩], none⟩
def ti163 : TI := ⟨1, 8, false, [.nilFunc], .func #[183] #[] false, none⟩
def ti171 : TI := ⟨1, 24, false, [.slice none 0 0], .slice 35, none⟩
def ti173 : TI := ⟨1, 8, false, [.pointer none], .pointer 54, none⟩
def ti175 : TI := ⟨1, 8, false, [.pointer none], .pointer 135, none⟩
def ti177 : TI := ⟨1, 8, false, [.pointer none], .pointer 137, none⟩
def ti179 : TI := ⟨1, 8, false, [.pointer none], .pointer 139, none⟩
def ti182 : TI := ⟨1, 8, false, [.nilFunc], .func #[162] #[4] false, none⟩
def ti183 : TI := ⟨1, 8, false, [.nilFunc], .func #[162, 162] #[4] false, none⟩
def ti185 : TI := ⟨7, 56, true, [.int .i64 0, .int .i64 0, .int .i64 0, .int .i64 0, .int .i64 0, .int .i64 0, .int .i64 0], .array 7 3, none⟩
def ti186 : TI := ⟨1, 8, false, [.pointer none], .pointer 52, none⟩
def ti187 : TI := ⟨7, 56, true, [.pointer none, .pointer none, .pointer none, .pointer none, .pointer none, .pointer none, .pointer none], .array 7 186, none⟩
def ti189 : TI := ⟨1, 8, false, [.pointer none], .pointer 110, none⟩
def ti190 : TI := ⟨8, 64, true, [.int .i64 0, .int .i64 0, .int .i64 0, .int .i64 0, .int .i64 0, .int .i64 0, .int .i64 0, .int .i64 0], .array 4 52, none⟩
def ti196 : TI := ⟨1, 8, false, [.nilFunc], .func #[54] #[4] false, none⟩
def ti198 : TI := ⟨1, 8, false, [.nilFunc], .func #[135] #[4] false, none⟩
def ti200 : TI := ⟨1, 8, false, [.nilFunc], .func #[137] #[4] false, none⟩
def ti202 : TI := ⟨1, 8, false, [.nilFunc], .func #[139] #[4] false, none⟩
def ti207 : TI := ⟨1, 8, false, [.nilFunc], .func #[215] #[] false, none⟩
def ti208 : TI := ⟨1, 8, false, [.nilFunc], .func #[215] #[] false, none⟩
def ti212 : TI := ⟨1, 8, false, [.nilFunc], .func #[216] #[] false, none⟩
def ti213 : TI := ⟨1, 8, false, [.nilFunc], .func #[216] #[] false, none⟩
def ti215 : TI := ⟨1, 8, false, [.nilFunc], .func #[3, 54] #[4] false, none⟩
def ti216 : TI := ⟨1, 8, false, [.nilFunc], .func #[3, 139] #[4] false, none⟩
def tyl : List (Nat × TI) := [(3, ti3), (4, ti4), (5, ti5), (9, ti9), (22, ti22), (23, ti23), (24, ti24), (25, ti25), (26, ti26), (27, ti27), (28, ti28), (29, ti29), (30, ti30), (31, ti31), (32, ti32), (35, ti35), (46, ti46), (51, ti51), (52, ti52), (53, ti53), (54, ti54), (58, ti58), (59, ti59), (61, ti61), (78, ti78), (92, ti92), (95, ti95), (109, ti109), (110, ti110), (121, ti121), (122, ti122), (124, ti124), (126, ti126), (127, ti127), (128, ti128), (134, ti134), (135, ti135), (136, ti136), (137, ti137), (138, ti138), (139, ti139), (142, ti142), (143, ti143), (146, ti146), (148, ti148), (149, ti149), (161, ti161), (162, ti162), (163, ti163), (171, ti171), (173, ti173), (175, ti175), (177, ti177), (179, ti179), (182, ti182), (183, ti183), (185, ti185), (186, ti186), (187, ti187), (189, ti189), (190, ti190), (196, ti196), (198, ti198), (200, ti200), (202, ti202), (207, ti207), (208, ti208), (212, ti212), (213, ti213), (215, ti215), (216, ti216)]
def ty : Tys := fun t => lk tyl t
@[go_sem] theorem ty_3 : ty 3 = some ti3 := by kernel_rfl
@[go_sem] theorem ty_4 : ty 4 = some ti4 := by kernel_rfl
@[go_sem] theorem ty_5 : ty 5 = some ti5 := by kernel_rfl
@[go_sem] theorem ty_9 : ty 9 = some ti9 := by kernel_rfl
@[go_sem] theorem ty_22 : ty 22 = some ti22 := by kernel_rfl
@[go_sem] theorem ty_23 : ty 23 = some ti23 := by kernel_rfl
@[go_sem] theorem ty_24 : ty 24 = some ti24 := by kernel_rfl
@[go_sem] theorem ty_25 : ty 25 = some ti25 := by kernel_rfl
@[go_sem] theorem ty_26 : ty 26 = some ti26 := by kernel_rfl
@[go_sem] theorem ty_27 : ty 27 = some ti27 := by kernel_rfl
@[go_sem] theorem ty_28 : ty 28 = some ti28 := by kernel_rfl
@[go_sem] theorem ty_29 : ty 29 = some ti29 := by kernel_rfl
@[go_sem] theorem ty_30 : ty 30 = some ti30 := by kernel_rfl
@[go_sem] theorem ty_31 : ty 31 = some ti31 := by kernel_rfl
@[go_sem] theorem ty_32 : ty 32 = some ti32 := by kernel_rfl
@[go_sem] theorem ty_35 : ty 35 = some ti35 := by kernel_rfl
@[go_sem] theorem ty_46 : ty 46 = some ti46 := by kernel_rfl
@[go_sem] theorem ty_51 : ty 51 = some ti51 := by kernel_rfl
@[go_sem] theorem ty_52 : ty 52 = some ti52 := by kernel_rfl
@[go_sem] theorem ty_53 : ty 53 = some ti53 := by kernel_rfl
@[go_sem] theorem ty_54 : ty 54 = some ti54 := by kernel_rfl
@[go_sem] theorem ty_58 : ty 58 = some ti58 := by kernel_rfl
@[go_sem] theorem ty_59 : ty 59 = some ti59 := by kernel_rfl
@[go_sem] theorem ty_61 : ty 61 = some ti61 := by kernel_rfl
@[go_sem] theorem ty_78 : ty 78 = some ti78 := by kernel_rfl
@[go_sem] theorem ty_92 : ty 92 = some ti92 := by kernel_rfl
@[go_sem] theorem ty_95 : ty 95 = some ti95 := by kernel_rfl
@[go_sem] theorem ty_109 : ty 109 = some ti109 := by kernel_rfl
@[go_sem] theorem ty_110 : ty 110 = some ti110 := by kernel_rfl
@[go_sem] theorem ty_121 : ty 121 = some ti121 := by kernel_rfl
@[go_sem] theorem ty_122 : ty 122 = some ti122 := by kernel_rfl
@[go_sem] theorem ty_124 : ty 124 = some ti124 := by kernel_rfl
@[go_sem] theorem ty_126 : ty 126 = some ti126 := by kernel_rfl
@[go_sem] theorem ty_127 : ty 127 = some ti127 := by kernel_rfl
@[go_sem] theorem ty_128 : ty 128 = some ti128 := by kernel_rfl
@[go_sem] theorem ty_134 : ty 134 = some ti134 := by kernel_rfl
@[go_sem] theorem ty_135 : ty 135 = some ti135 := by kernel_rfl
@[go_sem] theorem ty_136 : ty 136 = some ti136 := by kernel_rfl
@[go_sem] theorem ty_137 : ty 137 = some ti137 := by kernel_rfl
@[go_sem] theorem ty_138 : ty 138 = some ti138 := by kernel_rfl
@[go_sem] theorem ty_139 : ty 139 = some ti139 := by kernel_rfl
@[go_sem] theorem ty_142 : ty 142 = some ti142 := by kernel_rfl
@[go_sem] theorem ty_143 : ty 143 = some ti143 := by kernel_rfl
@[go_sem] theorem ty_146 : ty 146 = some ti146 := by kernel_rfl
@[go_sem] theorem ty_148 : ty 148 = some ti148 := by kernel_rfl
@[go_sem] theorem ty_149 : ty 149 = some ti149 := by kernel_rfl
@[go_sem] theorem ty_161 : ty 161 = some ti161 := by kernel_rfl
@[go_sem] theorem ty_162 : ty 162 = some ti162 := by kernel_rfl
@[go_sem] theorem ty_163 : ty 163 = some ti163 := by kernel_rfl
@[go_sem] theorem ty_171 : ty 171 = some ti171 := by kernel_rfl
@[go_sem] theorem ty_173 : ty 173 = some ti173 := by kernel_rfl
@[go_sem] theorem ty_175 : ty 175 = some ti175 := by kernel_rfl
@[go_sem] theorem ty_177 : ty 177 = some ti177 := by kernel_rfl
@[go_sem] theorem ty_179 : ty 179 = some ti179 := by kernel_rfl
@[go_sem] theorem ty_182 : ty 182 = some ti182 := by kernel_rfl
@[go_sem] theorem ty_183 : ty 183 = some ti183 := by kernel_rfl
@[go_sem] theorem ty_185 : ty 185 = some ti185 := by kernel_rfl
@[go_sem] theorem ty_186 : ty 186 = some ti186 := by kernel_rfl
@[go_sem] theorem ty_187 : ty 187 = some ti187 := by kernel_rfl
@[go_sem] theorem ty_189 : ty 189 = some ti189 := by kernel_rfl
@[go_sem] theorem ty_190 : ty 190 = some ti190 := by kernel_rfl
@[go_sem] theorem ty_196 : ty 196 = some ti196 := by kernel_rfl
@[go_sem] theorem ty_198 : ty 198 = some ti198 := by kernel_rfl
@[go_sem] theorem ty_200 : ty 200 = some ti200 := by kernel_rfl
@[go_sem] theorem ty_202 : ty 202 = some ti202 := by kernel_rfl
@[go_sem] theorem ty_207 : ty 207 = some ti207 := by kernel_rfl
@[go_sem] theorem ty_208 : ty 208 = some ti208 := by kernel_rfl
@[go_sem] theorem ty_212 : ty 212 = some ti212 := by kernel_rfl
@[go_sem] theorem ty_213 : ty 213 = some ti213 := by kernel_rfl
@[go_sem] theorem ty_215 : ty 215 = some ti215 := by kernel_rfl
@[go_sem] theorem ty_216 : ty 216 = some ti216 := by kernel_rfl
attribute [go_sem] ti3 ti4 ti5 ti9 ti22 ti23 ti24 ti25 ti26 ti27 ti28 ti29 ti30 ti31 ti32 ti35 ti46 ti51 ti52 ti53 ti54 ti58 ti59 ti61 ti78 ti92 ti95 ti109 ti110 ti121 ti122 ti124 ti126 ti127 ti128 ti134 ti135 ti136 ti137 ti138 ti139 ti142 ti143 ti146 ti148 ti149 ti161 ti162 ti163 ti171 ti173 ti175 ti177 ti179 ti182 ti183 ti185 ti186 ti187 ti189 ti190 ti196 ti198 ti200 ti202 ti207 ti208 ti212 ti213 ti215 ti216

def zv (i : TI) : Value := if i.agg = true then .agg i.zero.toArray else i.zero.headD .nilFunc
theorem fact {t : Nat} {i : TI} (he : ∀ n, i.eqn = some n → EqOk Tryd.prog t n := by (intro n hn; cases hn; done)) (h1 : (Tryd.prog.info? t).map (fun i => (i.size, i.bytes, i.zero)) = some (i.size, i.bytes, some (zv i)) := by kernel_rfl) (h2 : Tryd.prog.underlying t = some i.desc := by kernel_rfl) (hz : (zv i).cells.toList = i.zero := by rfl)
    (ha : i.agg = (match i.desc with | .struct _ | .array _ _ => true | _ => false) := by rfl) (ho : i.agg = false → i.size = 1 := by first | (intro _; rfl) | (intro h; cases h)) (hl : i.zero.length = i.size := by rfl) : TyFact Tryd.prog t i := by
  refine ⟨?_, h2, ha, ho, hl, he⟩
  cases hi : Tryd.prog.info? t with
  | none => rw [hi] at h1; cases h1
  | some info =>
    rw [hi] at h1
    simp only [Option.map_some, Option.some.injEq, Prod.mk.injEq] at h1
    exact ⟨info, zv i, rfl, h1.1, h1.2.1, h1.2.2, hz⟩

theorem eq30 : EqOk Tryd.prog 30 [true, true, true, true, true, true, true] where
  guard := by kernel_rfl
  run := by
    intro xs ys w h1 h2
    obtain ⟨a0, xs0, rfl, h1_0⟩ := kindsI h1
    obtain ⟨b0, ys0, rfl, h2_0⟩ := kindsI h2
    obtain ⟨a1, xs1, rfl, h1_1⟩ := kindsI h1_0
    obtain ⟨b1, ys1, rfl, h2_1⟩ := kindsI h2_0
    obtain ⟨a2, xs2, rfl, h1_2⟩ := kindsI h1_1
    obtain ⟨b2, ys2, rfl, h2_2⟩ := kindsI h2_1
    obtain ⟨a3, xs3, rfl, h1_3⟩ := kindsI h1_2
    obtain ⟨b3, ys3, rfl, h2_3⟩ := kindsI h2_2
    obtain ⟨a4, xs4, rfl, h1_4⟩ := kindsI h1_3
    obtain ⟨b4, ys4, rfl, h2_4⟩ := kindsI h2_3
    obtain ⟨a5, xs5, rfl, h1_5⟩ := kindsI h1_4
    obtain ⟨b5, ys5, rfl, h2_5⟩ := kindsI h2_4
    obtain ⟨a6, xs6, rfl, h1_6⟩ := kindsI h1_5
    obtain ⟨b6, ys6, rfl, h2_6⟩ := kindsI h2_5
    obtain rfl := kindsN h1_6
    obtain rfl := kindsN h2_6
    have u3 : Tryd.prog.underlying 3 = some (.int .i64) := by kernel_rfl
    have u30 : Tryd.prog.underlying 30 = some (.struct #[⟨"Parent", 3, 0, false, "", "", 0⟩, ⟨"Austenite", 3, 1, false, "", "", 8⟩, ⟨"Bainite", 3, 2, false, "", "", 16⟩, ⟨"Martensite", 3, 3, false, "", "", 24⟩, ⟨"Wait", 3, 4, false, "", "", 32⟩, ⟨"Grain", 3, 5, false, "", "", 40⟩, ⟨"Temper", 3, 6, false, "", "", 48⟩]) := by kernel_rfl
    have g30 : Tryd.prog.stoodInHeld 30 = false := by kernel_rfl
    have v30 : Tryd.prog.underlying 30 = some (.struct (Tryd.prog.fieldsOf 30)) := by kernel_rfl
    have w30 : (Tryd.prog.fieldsOf 30).toList = [⟨"Parent", 3, 0, false, "", "", 0⟩, ⟨"Austenite", 3, 1, false, "", "", 8⟩, ⟨"Bainite", 3, 2, false, "", "", 16⟩, ⟨"Martensite", 3, 3, false, "", "", 24⟩, ⟨"Wait", 3, 4, false, "", "", 32⟩, ⟨"Grain", 3, 5, false, "", "", 40⟩, ⟨"Temper", 3, 6, false, "", "", 48⟩] := by kernel_rfl
    have s30 : ∀ w, (sizeOf 30).run Tryd.prog w = .ok 7 w := fun _ => by kernel_rfl
    have p3 : ∀ w, (isAgg 3).run Tryd.prog w = .ok false w := fun _ => by kernel_rfl
    have p30 : ∀ w, (isAgg 30).run Tryd.prog w = .ok true w := fun _ => by kernel_rfl
    have e3 : ∀ (d : Nat) (a b : Int) (w : World), (Op.equalIn (d + 1) 3 (.int .i64 a) (.int .i64 b)).run Tryd.prog w = .ok (a == b) w := fun d a b w => run_equalIn_int w d 3 .i64 .i64 a b u3
    have e30 : ∀ (d : Nat) (xs ys : Array Value) (w : World), (Op.equalIn (d + 1) 30 (.agg xs) (.agg ys)).run Tryd.prog w = (Op.eqFields d xs ys (Tryd.prog.fieldsOf 30).toList).run Tryd.prog w := fun d xs ys w => run_equalIn_struct w d 30 xs ys v30 g30
    simp [evs, EV.val, e3, e30, Op.eqFields, part, g30, w30, s30, p3, p30]
    try grind
theorem eq52 : EqOk Tryd.prog 52 [true, true] where
  guard := by kernel_rfl
  run := by
    intro xs ys w h1 h2
    obtain ⟨a0, xs0, rfl, h1_0⟩ := kindsI h1
    obtain ⟨b0, ys0, rfl, h2_0⟩ := kindsI h2
    obtain ⟨a1, xs1, rfl, h1_1⟩ := kindsI h1_0
    obtain ⟨b1, ys1, rfl, h2_1⟩ := kindsI h2_0
    obtain rfl := kindsN h1_1
    obtain rfl := kindsN h2_1
    have u3 : Tryd.prog.underlying 3 = some (.int .i64) := by kernel_rfl
    have u52 : Tryd.prog.underlying 52 = some (.struct #[⟨"Lo", 3, 0, false, "", "", 0⟩, ⟨"Hi", 3, 1, false, "", "", 8⟩]) := by kernel_rfl
    have g52 : Tryd.prog.stoodInHeld 52 = false := by kernel_rfl
    have v52 : Tryd.prog.underlying 52 = some (.struct (Tryd.prog.fieldsOf 52)) := by kernel_rfl
    have w52 : (Tryd.prog.fieldsOf 52).toList = [⟨"Lo", 3, 0, false, "", "", 0⟩, ⟨"Hi", 3, 1, false, "", "", 8⟩] := by kernel_rfl
    have s52 : ∀ w, (sizeOf 52).run Tryd.prog w = .ok 2 w := fun _ => by kernel_rfl
    have p3 : ∀ w, (isAgg 3).run Tryd.prog w = .ok false w := fun _ => by kernel_rfl
    have p52 : ∀ w, (isAgg 52).run Tryd.prog w = .ok true w := fun _ => by kernel_rfl
    have e3 : ∀ (d : Nat) (a b : Int) (w : World), (Op.equalIn (d + 1) 3 (.int .i64 a) (.int .i64 b)).run Tryd.prog w = .ok (a == b) w := fun d a b w => run_equalIn_int w d 3 .i64 .i64 a b u3
    have e52 : ∀ (d : Nat) (xs ys : Array Value) (w : World), (Op.equalIn (d + 1) 52 (.agg xs) (.agg ys)).run Tryd.prog w = (Op.eqFields d xs ys (Tryd.prog.fieldsOf 52).toList).run Tryd.prog w := fun d xs ys w => run_equalIn_struct w d 52 xs ys v52 g52
    simp [evs, EV.val, e3, e52, Op.eqFields, part, g52, w52, s52, p3, p52]
    try grind
theorem eq95 : EqOk Tryd.prog 95 [false, false] where
  guard := by kernel_rfl
  run := by
    intro xs ys w h1 h2
    obtain ⟨a0, xs0, rfl, h1_0⟩ := kindsS h1
    obtain ⟨b0, ys0, rfl, h2_0⟩ := kindsS h2
    obtain ⟨a1, xs1, rfl, h1_1⟩ := kindsS h1_0
    obtain ⟨b1, ys1, rfl, h2_1⟩ := kindsS h2_0
    obtain rfl := kindsN h1_1
    obtain rfl := kindsN h2_1
    have u9 : Tryd.prog.underlying 9 = some (.string) := by kernel_rfl
    have u95 : Tryd.prog.underlying 95 = some (.array 2 9) := by kernel_rfl
    have p9 : ∀ w, (isAgg 9).run Tryd.prog w = .ok false w := fun _ => by kernel_rfl
    have p95 : ∀ w, (isAgg 95).run Tryd.prog w = .ok true w := fun _ => by kernel_rfl
    have e9 : ∀ (d : Nat) (a b : ByteArray) (w : World), (Op.equalIn (d + 1) 9 (.string a) (.string b)).run Tryd.prog w = .ok (decide (a = b)) w := fun d a b w => run_equalIn_str d 9 a b w u9
    have s9 : ∀ w, (sizeOf 9).run Tryd.prog w = .ok 1 w := fun _ => by kernel_rfl
    have e95 : ∀ (d : Nat) (xs ys : Array Value) (w : World), (Op.equalIn (d + 1) 95 (.agg xs) (.agg ys)).run Tryd.prog w = (eqElems d 9 1 xs ys (List.range' 0 2)).run Tryd.prog w := fun d xs ys w => run_equalIn_arr d 95 2 9 1 xs ys w u95 s9
    simp [evs, EV.val, e9, e95, Op.eqFields, part, eqElems, List.range', s9, p9, p95]
    try grind
theorem tf3 : TyFact Tryd.prog 3 ti3 := fact
theorem tf4 : TyFact Tryd.prog 4 ti4 := fact
theorem tf5 : TyFact Tryd.prog 5 ti5 := fact
theorem tf9 : TyFact Tryd.prog 9 ti9 := fact
theorem tf22 : TyFact Tryd.prog 22 ti22 := fact
theorem tf23 : TyFact Tryd.prog 23 ti23 := fact
theorem tf24 : TyFact Tryd.prog 24 ti24 := fact
theorem tf25 : TyFact Tryd.prog 25 ti25 := fact
theorem tf26 : TyFact Tryd.prog 26 ti26 := fact
theorem tf27 : TyFact Tryd.prog 27 ti27 := fact
theorem tf28 : TyFact Tryd.prog 28 ti28 := fact
theorem tf29 : TyFact Tryd.prog 29 ti29 := fact
theorem tf30 : TyFact Tryd.prog 30 ti30 := fact (fun n hn => by obtain rfl := Option.some.inj hn; exact eq30)
theorem tf31 : TyFact Tryd.prog 31 ti31 := fact
theorem tf32 : TyFact Tryd.prog 32 ti32 := fact
theorem tf35 : TyFact Tryd.prog 35 ti35 := fact
theorem tf46 : TyFact Tryd.prog 46 ti46 := fact
theorem tf51 : TyFact Tryd.prog 51 ti51 := fact
theorem tf52 : TyFact Tryd.prog 52 ti52 := fact (fun n hn => by obtain rfl := Option.some.inj hn; exact eq52)
theorem tf53 : TyFact Tryd.prog 53 ti53 := fact
theorem tf54 : TyFact Tryd.prog 54 ti54 := fact
theorem tf58 : TyFact Tryd.prog 58 ti58 := fact
theorem tf59 : TyFact Tryd.prog 59 ti59 := fact
theorem tf61 : TyFact Tryd.prog 61 ti61 := fact
theorem tf78 : TyFact Tryd.prog 78 ti78 := fact
theorem tf92 : TyFact Tryd.prog 92 ti92 := fact
theorem tf95 : TyFact Tryd.prog 95 ti95 := fact (fun n hn => by obtain rfl := Option.some.inj hn; exact eq95)
theorem tf109 : TyFact Tryd.prog 109 ti109 := fact
theorem tf110 : TyFact Tryd.prog 110 ti110 := fact
theorem tf121 : TyFact Tryd.prog 121 ti121 := fact
theorem tf122 : TyFact Tryd.prog 122 ti122 := fact
theorem tf124 : TyFact Tryd.prog 124 ti124 := fact
theorem tf126 : TyFact Tryd.prog 126 ti126 := fact
theorem tf127 : TyFact Tryd.prog 127 ti127 := fact
theorem tf128 : TyFact Tryd.prog 128 ti128 := fact
theorem tf134 : TyFact Tryd.prog 134 ti134 := fact
theorem tf135 : TyFact Tryd.prog 135 ti135 := fact
theorem tf136 : TyFact Tryd.prog 136 ti136 := fact
theorem tf137 : TyFact Tryd.prog 137 ti137 := fact
theorem tf138 : TyFact Tryd.prog 138 ti138 := fact
theorem tf139 : TyFact Tryd.prog 139 ti139 := fact
theorem tf142 : TyFact Tryd.prog 142 ti142 := fact
theorem tf143 : TyFact Tryd.prog 143 ti143 := fact
theorem tf146 : TyFact Tryd.prog 146 ti146 := fact
theorem tf148 : TyFact Tryd.prog 148 ti148 := fact
theorem tf149 : TyFact Tryd.prog 149 ti149 := fact
theorem tf161 : TyFact Tryd.prog 161 ti161 := fact
theorem tf162 : TyFact Tryd.prog 162 ti162 := fact
theorem tf163 : TyFact Tryd.prog 163 ti163 := fact
theorem tf171 : TyFact Tryd.prog 171 ti171 := fact
theorem tf173 : TyFact Tryd.prog 173 ti173 := fact
theorem tf175 : TyFact Tryd.prog 175 ti175 := fact
theorem tf177 : TyFact Tryd.prog 177 ti177 := fact
theorem tf179 : TyFact Tryd.prog 179 ti179 := fact
theorem tf182 : TyFact Tryd.prog 182 ti182 := fact
theorem tf183 : TyFact Tryd.prog 183 ti183 := fact
theorem tf185 : TyFact Tryd.prog 185 ti185 := fact
theorem tf186 : TyFact Tryd.prog 186 ti186 := fact
theorem tf187 : TyFact Tryd.prog 187 ti187 := fact
theorem tf189 : TyFact Tryd.prog 189 ti189 := fact
theorem tf190 : TyFact Tryd.prog 190 ti190 := fact
theorem tf196 : TyFact Tryd.prog 196 ti196 := fact
theorem tf198 : TyFact Tryd.prog 198 ti198 := fact
theorem tf200 : TyFact Tryd.prog 200 ti200 := fact
theorem tf202 : TyFact Tryd.prog 202 ti202 := fact
theorem tf207 : TyFact Tryd.prog 207 ti207 := fact
theorem tf208 : TyFact Tryd.prog 208 ti208 := fact
theorem tf212 : TyFact Tryd.prog 212 ti212 := fact
theorem tf213 : TyFact Tryd.prog 213 ti213 := fact
theorem tf215 : TyFact Tryd.prog 215 ti215 := fact
theorem tf216 : TyFact Tryd.prog 216 ti216 := fact
def Facts : List (Nat × TI) → Prop
  | [] => True
  | p :: r => TyFact Tryd.prog p.1 p.2 ∧ Facts r
theorem facts_get : ∀ {l : List (Nat × TI)}, Facts l → ∀ t i, lk l t = some i → TyFact Tryd.prog t i
  | [], _, _, _, h => by cases h
  | (k, x) :: r, h, t, i, hi => by
    simp only [lk] at hi
    split at hi
    · rename_i e; subst e; obtain rfl := Option.some.inj hi; exact h.1
    · exact facts_get h.2 t i hi
theorem ty_ok : TyOk Tryd.prog ty := facts_get (l := tyl) ⟨tf3, tf4, tf5, tf9, tf22, tf23, tf24, tf25, tf26, tf27, tf28, tf29, tf30, tf31, tf32, tf35, tf46, tf51, tf52, tf53, tf54, tf58, tf59, tf61, tf78, tf92, tf95, tf109, tf110, tf121, tf122, tf124, tf126, tf127, tf128, tf134, tf135, tf136, tf137, tf138, tf139, tf142, tf143, tf146, tf148, tf149, tf161, tf162, tf163, tf171, tf173, tf175, tf177, tf179, tf182, tf183, tf185, tf186, tf187, tf189, tf190, tf196, tf198, tf200, tf202, tf207, tf208, tf212, tf213, tf215, tf216, trivial⟩

end Go.Proofs.YtfkmbdfajpdjjaaDoor
