/-
  The types of the translation, as the abstract machine uses them: a table, and that it agrees with the program's. Written by a program of ours (gen_ty.py).
-/
import Derived.Test.YtdlogfepbkojkaaGreatDoorProg
import Derived.Test.YtdlogfepbkojkaaGreatDoorAbsC
import Derived.KernelRfl
set_option linter.unusedSimpArgs false
set_option linter.unusedVariables false
namespace Go.Proofs.YtdlogfepbkojkaaGreatDoor
open Go.Abs

def ti3 : TI := ⟨1, 8, false, [.int .i64 0], .int .i64, none⟩
def ti4 : TI := ⟨1, 1, false, [.bool false], .bool, none⟩
def ti5 : TI := ⟨1, 1, false, [.int .u8 0], .int .u8, none⟩
def ti9 : TI := ⟨1, 16, false, [.string .empty], .string, none⟩
def ti21 : TI := ⟨1, 4, false, [.int .i32 0], .int .i32, none⟩
def ti22 : TI := ⟨1, 24, false, [.slice none 0 0], .slice 70, none⟩
def ti23 : TI := ⟨1, 24, false, [.slice none 0 0], .slice 73, none⟩
def ti24 : TI := ⟨1, 24, false, [.slice none 0 0], .slice 75, none⟩
def ti25 : TI := ⟨1, 24, false, [.slice none 0 0], .slice 77, none⟩
def ti26 : TI := ⟨4, 32, true, [.int .i64 0, .int .i64 0, .int .i64 0, .int .i64 0], .array 4 3, some [true, true, true, true]⟩
def ti27 : TI := ⟨8, 128, true, [.slice none 0 0, .slice none 0 0, .slice none 0 0, .slice none 0 0, .int .i64 0, .int .i64 0, .int .i64 0, .int .i64 0], .struct #[⟨"Heats", 22, 0, false, "", "", 0⟩, ⟨"Cools", 23, 1, false, "", "", 24⟩, ⟨"Colds", 24, 2, false, "", "", 48⟩, ⟨"Tempers", 25, 3, false, "", "", 72⟩, ⟨"Hard", 26, 4, false, "", "", 96⟩], none⟩
def ti28 : TI := ⟨8, 128, true, [.slice none 0 0, .slice none 0 0, .slice none 0 0, .slice none 0 0, .int .i64 0, .int .i64 0, .int .i64 0, .int .i64 0], .struct #[⟨"Heats", 22, 0, false, "", "", 0⟩, ⟨"Cools", 23, 1, false, "", "", 24⟩, ⟨"Colds", 24, 2, false, "", "", 48⟩, ⟨"Tempers", 25, 3, false, "", "", 72⟩, ⟨"Hard", 26, 4, false, "", "", 96⟩], none⟩
def ti29 : TI := ⟨7, 56, true, [.int .i64 0, .int .i64 0, .int .i64 0, .int .i64 0, .int .i64 0, .int .i64 0, .int .i64 0], .struct #[⟨"Parent", 3, 0, false, "", "", 0⟩, ⟨"Austenite", 3, 1, false, "", "", 8⟩, ⟨"Bainite", 3, 2, false, "", "", 16⟩, ⟨"Martensite", 3, 3, false, "", "", 24⟩, ⟨"Wait", 3, 4, false, "", "", 32⟩, ⟨"Grain", 3, 5, false, "", "", 40⟩, ⟨"Temper", 3, 6, false, "", "", 48⟩], none⟩
def ti30 : TI := ⟨7, 56, true, [.int .i64 0, .int .i64 0, .int .i64 0, .int .i64 0, .int .i64 0, .int .i64 0, .int .i64 0], .struct #[⟨"Parent", 3, 0, false, "", "", 0⟩, ⟨"Austenite", 3, 1, false, "", "", 8⟩, ⟨"Bainite", 3, 2, false, "", "", 16⟩, ⟨"Martensite", 3, 3, false, "", "", 24⟩, ⟨"Wait", 3, 4, false, "", "", 32⟩, ⟨"Grain", 3, 5, false, "", "", 40⟩, ⟨"Temper", 3, 6, false, "", "", 48⟩], some [true, true, true, true, true, true, true]⟩
def ti36 : TI := ⟨1, 8, false, [.int .i64 0], .int .i64, none⟩
def ti52 : TI := ⟨1, 24, false, [.slice none 0 0], .slice 3, none⟩
def ti53 : TI := ⟨3, 24, true, [.int .i64 0, .int .i64 0, .int .i64 0], .struct #[⟨"Heat", 3, 0, false, "", "", 0⟩, ⟨"Cool", 3, 1, false, "", "", 8⟩, ⟨"Cold", 3, 2, false, "", "", 16⟩], none⟩
def ti54 : TI := ⟨3, 24, true, [.int .i64 0, .int .i64 0, .int .i64 0], .struct #[⟨"Heat", 3, 0, false, "", "", 0⟩, ⟨"Cool", 3, 1, false, "", "", 8⟩, ⟨"Cold", 3, 2, false, "", "", 16⟩], none⟩
def ti55 : TI := ⟨4, 48, true, [.slice none 0 0, .int .i64 0, .int .i64 0, .int .i64 0], .struct #[⟨"Curve", 52, 0, false, "", "", 0⟩, ⟨"Pick", 54, 1, false, "", "", 24⟩], none⟩
def ti56 : TI := ⟨4, 48, true, [.slice none 0 0, .int .i64 0, .int .i64 0, .int .i64 0], .struct #[⟨"Curve", 52, 0, false, "", "", 0⟩, ⟨"Pick", 54, 1, false, "", "", 24⟩], none⟩
def ti59 : TI := ⟨2, 16, true, [.int .i64 0, .int .i64 0], .struct #[⟨"Lo", 3, 0, false, "", "", 0⟩, ⟨"Hi", 3, 1, false, "", "", 8⟩], none⟩
def ti60 : TI := ⟨2, 16, true, [.int .i64 0, .int .i64 0], .struct #[⟨"Lo", 3, 0, false, "", "", 0⟩, ⟨"Hi", 3, 1, false, "", "", 8⟩], some [true, true]⟩
def ti63 : TI := ⟨14, 112, true, [.int .i64 0, .int .i64 0, .int .i64 0, .int .i64 0, .int .i64 0, .int .i64 0, .int .i64 0, .int .i64 0, .int .i64 0, .int .i64 0, .int .i64 0, .int .i64 0, .int .i64 0, .int .i64 0], .struct #[⟨"Parent", 60, 0, false, "", "", 0⟩, ⟨"Austenite", 60, 2, false, "", "", 16⟩, ⟨"Bainite", 60, 4, false, "", "", 32⟩, ⟨"Martensite", 60, 6, false, "", "", 48⟩, ⟨"Wait", 60, 8, false, "", "", 64⟩, ⟨"Grain", 60, 10, false, "", "", 80⟩, ⟨"Temper", 60, 12, false, "", "", 96⟩], none⟩
def ti64 : TI := ⟨14, 112, true, [.int .i64 0, .int .i64 0, .int .i64 0, .int .i64 0, .int .i64 0, .int .i64 0, .int .i64 0, .int .i64 0, .int .i64 0, .int .i64 0, .int .i64 0, .int .i64 0, .int .i64 0, .int .i64 0], .struct #[⟨"Parent", 60, 0, false, "", "", 0⟩, ⟨"Austenite", 60, 2, false, "", "", 16⟩, ⟨"Bainite", 60, 4, false, "", "", 32⟩, ⟨"Martensite", 60, 6, false, "", "", 48⟩, ⟨"Wait", 60, 8, false, "", "", 64⟩, ⟨"Grain", 60, 10, false, "", "", 80⟩, ⟨"Temper", 60, 12, false, "", "", 96⟩], none⟩
def ti66 : TI := ⟨1, 24, false, [.slice none 0 0], .slice 60, none⟩
def ti67 : TI := ⟨1, 24, false, [.slice none 0 0], .slice 9, none⟩
def ti68 : TI := ⟨5, 120, true, [.slice none 0 0, .slice none 0 0, .slice none 0 0, .slice none 0 0, .slice none 0 0], .array 5 67, none⟩
def ti69 : TI := ⟨4, 32, true, [.int .i64 0, .int .i64 0, .int .i64 0, .int .i64 0], .struct #[⟨"Kelvin", 3, 0, false, "", "", 0⟩, ⟨"Rate", 60, 1, false, "", "", 8⟩, ⟨"Growth", 3, 3, false, "", "", 24⟩], none⟩
def ti70 : TI := ⟨4, 32, true, [.int .i64 0, .int .i64 0, .int .i64 0, .int .i64 0], .struct #[⟨"Kelvin", 3, 0, false, "", "", 0⟩, ⟨"Rate", 60, 1, false, "", "", 8⟩, ⟨"Growth", 3, 3, false, "", "", 24⟩], some [true, true, true, true]⟩
def ti72 : TI := ⟨5, 40, true, [.int .i64 0, .int .i64 0, .int .i64 0, .int .i64 0, .int .i64 0], .struct #[⟨"Kelvin", 3, 0, false, "", "", 0⟩, ⟨"Wait", 60, 1, false, "", "", 8⟩, ⟨"Rate", 60, 3, false, "", "", 24⟩], none⟩
def ti73 : TI := ⟨5, 40, true, [.int .i64 0, .int .i64 0, .int .i64 0, .int .i64 0, .int .i64 0], .struct #[⟨"Kelvin", 3, 0, false, "", "", 0⟩, ⟨"Wait", 60, 1, false, "", "", 8⟩, ⟨"Rate", 60, 3, false, "", "", 24⟩], some [true, true, true, true, true]⟩
def ti74 : TI := ⟨3, 24, true, [.int .i64 0, .int .i64 0, .int .i64 0], .struct #[⟨"Kelvin", 3, 0, false, "", "", 0⟩, ⟨"Share", 60, 1, false, "", "", 8⟩], none⟩
def ti75 : TI := ⟨3, 24, true, [.int .i64 0, .int .i64 0, .int .i64 0], .struct #[⟨"Kelvin", 3, 0, false, "", "", 0⟩, ⟨"Share", 60, 1, false, "", "", 8⟩], some [true, true, true]⟩
def ti76 : TI := ⟨2, 16, true, [.int .i64 0, .int .i64 0], .struct #[⟨"Kelvin", 3, 0, false, "", "", 0⟩, ⟨"Rate", 3, 1, false, "", "", 8⟩], none⟩
def ti77 : TI := ⟨2, 16, true, [.int .i64 0, .int .i64 0], .struct #[⟨"Kelvin", 3, 0, false, "", "", 0⟩, ⟨"Rate", 3, 1, false, "", "", 8⟩], some [true, true]⟩
def ti79 : TI := ⟨1, 8, false, [.nilFunc], .func #[52] #[] false, none⟩
def ti80 : TI := ⟨2, 16, true, [.int .i64 0, .nilFunc], .struct #[⟨"count", 3, 0, false, "", "martensite/steel", 0⟩, ⟨"add", 79, 1, false, "", "martensite/steel", 8⟩], none⟩
def ti81 : TI := ⟨10, 80, true, [.int .i64 0, .nilFunc, .int .i64 0, .nilFunc, .int .i64 0, .nilFunc, .int .i64 0, .nilFunc, .int .i64 0, .nilFunc], .array 5 80, none⟩
def ti83 : TI := ⟨1, 24, false, [.slice none 0 0], .slice 52, none⟩
def ti99 : TI := ⟨8, 128, true, [.slice none 0 0, .slice none 0 0, .slice none 0 0, .slice none 0 0, .int .i64 0, .int .i64 0, .int .i64 0, .int .i64 0], .struct #[⟨"SteelRules", 28, 0, true, "", "", 0⟩], none⟩
def ti100 : TI := ⟨8, 128, true, [.slice none 0 0, .slice none 0 0, .slice none 0 0, .slice none 0 0, .int .i64 0, .int .i64 0, .int .i64 0, .int .i64 0], .struct #[⟨"SteelRules", 28, 0, true, "", "", 0⟩], none⟩
def ti107 : TI := ⟨1, 8, false, [.nilFunc], .func #[3] #[4] false, none⟩
def ti108 : TI := ⟨1, 8, false, [.nilFunc], .func #[60] #[3] false, none⟩
def ti110 : TI := ⟨1, 8, false, [.nilFunc], .func #[60] #[4] false, none⟩
def ti111 : TI := ⟨1, 8, false, [.nilFunc], .func #[108] #[3] false, none⟩
def ti114 : TI := ⟨1, 24, false, [.slice none 0 0], .slice 5, none⟩
def ti118 : TI := ⟨1, 16, false, [.nilIface], .interface #[("Error", 122)], none⟩
def ti119 : TI := ⟨1, 16, false, [.nilIface], .interface #[("Error", 122)], none⟩
def ti124 : TI := ⟨1, 8, false, [.nilFunc], .func #[176] #[] false, none⟩
def ti125 : TI := ⟨1, 8, false, [.nilFunc], .func #[176] #[] false, none⟩
def ti131 : TI := ⟨1, 24, false, [.slice none 0 0], .slice 36, none⟩
def ti134 : TI := ⟨7, 56, true, [.int .i64 0, .int .i64 0, .int .i64 0, .int .i64 0, .int .i64 0, .int .i64 0, .int .i64 0], .array 7 3, none⟩
def ti135 : TI := ⟨1, 8, false, [.pointer none], .pointer 60, none⟩
def ti136 : TI := ⟨7, 56, true, [.pointer none, .pointer none, .pointer none, .pointer none, .pointer none, .pointer none, .pointer none], .array 7 135, none⟩
def ti138 : TI := ⟨1, 8, false, [.pointer none], .pointer 64, none⟩
def ti139 : TI := ⟨8, 64, true, [.int .i64 0, .int .i64 0, .int .i64 0, .int .i64 0, .int .i64 0, .int .i64 0, .int .i64 0, .int .i64 0], .array 4 60, none⟩
def ti146 : TI := ⟨1, 24, false, [.slice none 0 0], .slice 152, none⟩
def ti147 : TI := ⟨4, 96, true, [.slice none 0 0, .slice none 0 0, .slice none 0 0, .slice none 0 0], .array 4 146, none⟩
def ti149 : TI := ⟨1, 8, false, [.pointer none], .pointer 152, none⟩
def ti151 : TI := ⟨3, 40, true, [.int .i64 0, .slice none 0 0, .int .i64 0], .struct #[⟨"kelvin", 3, 0, false, "", "martensite/steel", 0⟩, ⟨"ranges", 66, 1, false, "", "martensite/steel", 8⟩, ⟨"other", 3, 2, false, "", "martensite/steel", 32⟩], none⟩
def ti152 : TI := ⟨3, 40, true, [.int .i64 0, .slice none 0 0, .int .i64 0], .struct #[⟨"kelvin", 3, 0, false, "", "martensite/steel", 0⟩, ⟨"ranges", 66, 1, false, "", "martensite/steel", 8⟩, ⟨"other", 3, 2, false, "", "martensite/steel", 32⟩], none⟩
def ti153 : TI := ⟨1, 24, false, [.slice none 0 0], .slice 146, none⟩
def ti158 : TI := ⟨1, 8, false, [.pointer none], .pointer 70, none⟩
def ti161 : TI := ⟨1, 8, false, [.pointer none], .pointer 73, none⟩
def ti163 : TI := ⟨1, 8, false, [.pointer none], .pointer 75, none⟩
def ti166 : TI := ⟨1, 8, false, [.pointer none], .pointer 77, none⟩
def ti176 : TI := ⟨1, 8, false, [.nilFunc], .func #[9] #[4] false, none⟩
def ti186 : TI := ⟨1, 8, false, [.nilFunc], .func #[70] #[4] false, none⟩
def ti188 : TI := ⟨1, 8, false, [.nilFunc], .func #[73] #[4] false, none⟩
def ti190 : TI := ⟨1, 8, false, [.nilFunc], .func #[75] #[4] false, none⟩
def ti192 : TI := ⟨1, 8, false, [.nilFunc], .func #[77] #[4] false, none⟩
def ti206 : TI := ⟨1, 8, false, [.nilFunc], .func #[229] #[] false, none⟩
def ti207 : TI := ⟨1, 8, false, [.nilFunc], .func #[229] #[] false, none⟩
def ti211 : TI := ⟨1, 8, false, [.nilFunc], .func #[230] #[] false, none⟩
def ti212 : TI := ⟨1, 8, false, [.nilFunc], .func #[230] #[] false, none⟩
def ti229 : TI := ⟨1, 8, false, [.nilFunc], .func #[3, 70] #[4] false, none⟩
def ti230 : TI := ⟨1, 8, false, [.nilFunc], .func #[3, 77] #[4] false, none⟩
def tyl : List (Nat × TI) := [(3, ti3), (4, ti4), (5, ti5), (9, ti9), (21, ti21), (22, ti22), (23, ti23), (24, ti24), (25, ti25), (26, ti26), (27, ti27), (28, ti28), (29, ti29), (30, ti30), (36, ti36), (52, ti52), (53, ti53), (54, ti54), (55, ti55), (56, ti56), (59, ti59), (60, ti60), (63, ti63), (64, ti64), (66, ti66), (67, ti67), (68, ti68), (69, ti69), (70, ti70), (72, ti72), (73, ti73), (74, ti74), (75, ti75), (76, ti76), (77, ti77), (79, ti79), (80, ti80), (81, ti81), (83, ti83), (99, ti99), (100, ti100), (107, ti107), (108, ti108), (110, ti110), (111, ti111), (114, ti114), (118, ti118), (119, ti119), (124, ti124), (125, ti125), (131, ti131), (134, ti134), (135, ti135), (136, ti136), (138, ti138), (139, ti139), (146, ti146), (147, ti147), (149, ti149), (151, ti151), (152, ti152), (153, ti153), (158, ti158), (161, ti161), (163, ti163), (166, ti166), (176, ti176), (186, ti186), (188, ti188), (190, ti190), (192, ti192), (206, ti206), (207, ti207), (211, ti211), (212, ti212), (229, ti229), (230, ti230)]
def ty : Tys := fun t => lk tyl t
@[go_sem] theorem ty_3 : ty 3 = some ti3 := by kernel_rfl
@[go_sem] theorem ty_4 : ty 4 = some ti4 := by kernel_rfl
@[go_sem] theorem ty_5 : ty 5 = some ti5 := by kernel_rfl
@[go_sem] theorem ty_9 : ty 9 = some ti9 := by kernel_rfl
@[go_sem] theorem ty_21 : ty 21 = some ti21 := by kernel_rfl
@[go_sem] theorem ty_22 : ty 22 = some ti22 := by kernel_rfl
@[go_sem] theorem ty_23 : ty 23 = some ti23 := by kernel_rfl
@[go_sem] theorem ty_24 : ty 24 = some ti24 := by kernel_rfl
@[go_sem] theorem ty_25 : ty 25 = some ti25 := by kernel_rfl
@[go_sem] theorem ty_26 : ty 26 = some ti26 := by kernel_rfl
@[go_sem] theorem ty_27 : ty 27 = some ti27 := by kernel_rfl
@[go_sem] theorem ty_28 : ty 28 = some ti28 := by kernel_rfl
@[go_sem] theorem ty_29 : ty 29 = some ti29 := by kernel_rfl
@[go_sem] theorem ty_30 : ty 30 = some ti30 := by kernel_rfl
@[go_sem] theorem ty_36 : ty 36 = some ti36 := by kernel_rfl
@[go_sem] theorem ty_52 : ty 52 = some ti52 := by kernel_rfl
@[go_sem] theorem ty_53 : ty 53 = some ti53 := by kernel_rfl
@[go_sem] theorem ty_54 : ty 54 = some ti54 := by kernel_rfl
@[go_sem] theorem ty_55 : ty 55 = some ti55 := by kernel_rfl
@[go_sem] theorem ty_56 : ty 56 = some ti56 := by kernel_rfl
@[go_sem] theorem ty_59 : ty 59 = some ti59 := by kernel_rfl
@[go_sem] theorem ty_60 : ty 60 = some ti60 := by kernel_rfl
@[go_sem] theorem ty_63 : ty 63 = some ti63 := by kernel_rfl
@[go_sem] theorem ty_64 : ty 64 = some ti64 := by kernel_rfl
@[go_sem] theorem ty_66 : ty 66 = some ti66 := by kernel_rfl
@[go_sem] theorem ty_67 : ty 67 = some ti67 := by kernel_rfl
@[go_sem] theorem ty_68 : ty 68 = some ti68 := by kernel_rfl
@[go_sem] theorem ty_69 : ty 69 = some ti69 := by kernel_rfl
@[go_sem] theorem ty_70 : ty 70 = some ti70 := by kernel_rfl
@[go_sem] theorem ty_72 : ty 72 = some ti72 := by kernel_rfl
@[go_sem] theorem ty_73 : ty 73 = some ti73 := by kernel_rfl
@[go_sem] theorem ty_74 : ty 74 = some ti74 := by kernel_rfl
@[go_sem] theorem ty_75 : ty 75 = some ti75 := by kernel_rfl
@[go_sem] theorem ty_76 : ty 76 = some ti76 := by kernel_rfl
@[go_sem] theorem ty_77 : ty 77 = some ti77 := by kernel_rfl
@[go_sem] theorem ty_79 : ty 79 = some ti79 := by kernel_rfl
@[go_sem] theorem ty_80 : ty 80 = some ti80 := by kernel_rfl
@[go_sem] theorem ty_81 : ty 81 = some ti81 := by kernel_rfl
@[go_sem] theorem ty_83 : ty 83 = some ti83 := by kernel_rfl
@[go_sem] theorem ty_99 : ty 99 = some ti99 := by kernel_rfl
@[go_sem] theorem ty_100 : ty 100 = some ti100 := by kernel_rfl
@[go_sem] theorem ty_107 : ty 107 = some ti107 := by kernel_rfl
@[go_sem] theorem ty_108 : ty 108 = some ti108 := by kernel_rfl
@[go_sem] theorem ty_110 : ty 110 = some ti110 := by kernel_rfl
@[go_sem] theorem ty_111 : ty 111 = some ti111 := by kernel_rfl
@[go_sem] theorem ty_114 : ty 114 = some ti114 := by kernel_rfl
@[go_sem] theorem ty_118 : ty 118 = some ti118 := by kernel_rfl
@[go_sem] theorem ty_119 : ty 119 = some ti119 := by kernel_rfl
@[go_sem] theorem ty_124 : ty 124 = some ti124 := by kernel_rfl
@[go_sem] theorem ty_125 : ty 125 = some ti125 := by kernel_rfl
@[go_sem] theorem ty_131 : ty 131 = some ti131 := by kernel_rfl
@[go_sem] theorem ty_134 : ty 134 = some ti134 := by kernel_rfl
@[go_sem] theorem ty_135 : ty 135 = some ti135 := by kernel_rfl
@[go_sem] theorem ty_136 : ty 136 = some ti136 := by kernel_rfl
@[go_sem] theorem ty_138 : ty 138 = some ti138 := by kernel_rfl
@[go_sem] theorem ty_139 : ty 139 = some ti139 := by kernel_rfl
@[go_sem] theorem ty_146 : ty 146 = some ti146 := by kernel_rfl
@[go_sem] theorem ty_147 : ty 147 = some ti147 := by kernel_rfl
@[go_sem] theorem ty_149 : ty 149 = some ti149 := by kernel_rfl
@[go_sem] theorem ty_151 : ty 151 = some ti151 := by kernel_rfl
@[go_sem] theorem ty_152 : ty 152 = some ti152 := by kernel_rfl
@[go_sem] theorem ty_153 : ty 153 = some ti153 := by kernel_rfl
@[go_sem] theorem ty_158 : ty 158 = some ti158 := by kernel_rfl
@[go_sem] theorem ty_161 : ty 161 = some ti161 := by kernel_rfl
@[go_sem] theorem ty_163 : ty 163 = some ti163 := by kernel_rfl
@[go_sem] theorem ty_166 : ty 166 = some ti166 := by kernel_rfl
@[go_sem] theorem ty_176 : ty 176 = some ti176 := by kernel_rfl
@[go_sem] theorem ty_186 : ty 186 = some ti186 := by kernel_rfl
@[go_sem] theorem ty_188 : ty 188 = some ti188 := by kernel_rfl
@[go_sem] theorem ty_190 : ty 190 = some ti190 := by kernel_rfl
@[go_sem] theorem ty_192 : ty 192 = some ti192 := by kernel_rfl
@[go_sem] theorem ty_206 : ty 206 = some ti206 := by kernel_rfl
@[go_sem] theorem ty_207 : ty 207 = some ti207 := by kernel_rfl
@[go_sem] theorem ty_211 : ty 211 = some ti211 := by kernel_rfl
@[go_sem] theorem ty_212 : ty 212 = some ti212 := by kernel_rfl
@[go_sem] theorem ty_229 : ty 229 = some ti229 := by kernel_rfl
@[go_sem] theorem ty_230 : ty 230 = some ti230 := by kernel_rfl
attribute [go_sem] ti3 ti4 ti5 ti9 ti21 ti22 ti23 ti24 ti25 ti26 ti27 ti28 ti29 ti30 ti36 ti52 ti53 ti54 ti55 ti56 ti59 ti60 ti63 ti64 ti66 ti67 ti68 ti69 ti70 ti72 ti73 ti74 ti75 ti76 ti77 ti79 ti80 ti81 ti83 ti99 ti100 ti107 ti108 ti110 ti111 ti114 ti118 ti119 ti124 ti125 ti131 ti134 ti135 ti136 ti138 ti139 ti146 ti147 ti149 ti151 ti152 ti153 ti158 ti161 ti163 ti166 ti176 ti186 ti188 ti190 ti192 ti206 ti207 ti211 ti212 ti229 ti230

def zv (i : TI) : Value := if i.agg = true then .agg i.zero.toArray else i.zero.headD .nilFunc
theorem fact {t : Nat} {i : TI} (he : ∀ n, i.eqn = some n → EqOk Tryz.prog t n := by (intro n hn; cases hn; done)) (h1 : (Tryz.prog.info? t).map (fun i => (i.size, i.bytes, i.zero)) = some (i.size, i.bytes, some (zv i)) := by kernel_rfl) (h2 : Tryz.prog.underlying t = some i.desc := by kernel_rfl) (hz : (zv i).cells.toList = i.zero := by rfl)
    (ha : i.agg = (match i.desc with | .struct _ | .array _ _ => true | _ => false) := by rfl) (ho : i.agg = false → i.size = 1 := by first | (intro _; rfl) | (intro h; cases h)) (hl : i.zero.length = i.size := by rfl) : TyFact Tryz.prog t i := by
  refine ⟨?_, h2, ha, ho, hl, he⟩
  cases hi : Tryz.prog.info? t with
  | none => rw [hi] at h1; cases h1
  | some info =>
    rw [hi] at h1
    simp only [Option.map_some, Option.some.injEq, Prod.mk.injEq] at h1
    exact ⟨info, zv i, rfl, h1.1, h1.2.1, h1.2.2, hz⟩

theorem eq26 : EqOk Tryz.prog 26 [true, true, true, true] where
  guard := by kernel_rfl
  run := by
    intro xs ys w h1 h2
    obtain ⟨a0, xs0, rfl, h1_0⟩ := kindsI h1
    obtain ⟨b0, ys0, rfl, h2_0⟩ := kindsI h2
    obtain ⟨a1, xs1, rfl, h1_1⟩ := kindsI h1_0
    obtain ⟨b1, ys1, rfl, h2_1⟩ := kindsI h2_0
    obtain ⟨a2, xs2, rfl, h1_2⟩ := kindsI h1_1
    obtain ⟨b2, ys2, rfl, h2_2⟩ := kindsI h2_1
    obtain ⟨a3, xs3, rfl, h1_3⟩ := kindsI h1_2
    obtain ⟨b3, ys3, rfl, h2_3⟩ := kindsI h2_2
    obtain rfl := kindsN h1_3
    obtain rfl := kindsN h2_3
    have u3 : Tryz.prog.underlying 3 = some (.int .i64) := by kernel_rfl
    have u26 : Tryz.prog.underlying 26 = some (.array 4 3) := by kernel_rfl
    have p3 : ∀ w, (isAgg 3).run Tryz.prog w = .ok false w := fun _ => by kernel_rfl
    have p26 : ∀ w, (isAgg 26).run Tryz.prog w = .ok true w := fun _ => by kernel_rfl
    have e3 : ∀ (d : Nat) (a b : Int) (w : World), (Op.equalIn (d + 1) 3 (.int .i64 a) (.int .i64 b)).run Tryz.prog w = .ok (a == b) w := fun d a b w => run_equalIn_int w d 3 .i64 .i64 a b u3
    have s3 : ∀ w, (sizeOf 3).run Tryz.prog w = .ok 1 w := fun _ => by kernel_rfl
    have e26 : ∀ (d : Nat) (xs ys : Array Value) (w : World), (Op.equalIn (d + 1) 26 (.agg xs) (.agg ys)).run Tryz.prog w = (eqElems d 3 1 xs ys (List.range' 0 4)).run Tryz.prog w := fun d xs ys w => run_equalIn_arr d 26 4 3 1 xs ys w u26 s3
    simp [evs, EV.val, e3, e26, Op.eqFields, part, eqElems, List.range', s3, p3, p26]
    try grind
theorem eq30 : EqOk Tryz.prog 30 [true, true, true, true, true, true, true] where
  guard := by kernel_rfl
  run := by
    intro xs ys w h1 h2
    obtain ⟨a0, xs0, rfl, h1_0⟩ := kindsI h1
    obtain ⟨b0, ys0, rfl, h2_0⟩ := kindsI h2
    obtain ⟨a1, xs1, rfl, h1_1⟩ := kindsI h1_0
    obtain ⟨b1, ys1, rfl, h2_1⟩ := kindsI h2_0
    obtain ⟨a2, xs2, rfl, h1_2⟩ := kindsI h1_1
    obtain ⟨b2, ys2, rfl, h2_2⟩ := kindsI h2_1
    obtain ⟨a3, xs3, rfl, h1_3⟩ := kindsI h1_2
    obtain ⟨b3, ys3, rfl, h2_3⟩ := kindsI h2_2
    obtain ⟨a4, xs4, rfl, h1_4⟩ := kindsI h1_3
    obtain ⟨b4, ys4, rfl, h2_4⟩ := kindsI h2_3
    obtain ⟨a5, xs5, rfl, h1_5⟩ := kindsI h1_4
    obtain ⟨b5, ys5, rfl, h2_5⟩ := kindsI h2_4
    obtain ⟨a6, xs6, rfl, h1_6⟩ := kindsI h1_5
    obtain ⟨b6, ys6, rfl, h2_6⟩ := kindsI h2_5
    obtain rfl := kindsN h1_6
    obtain rfl := kindsN h2_6
    have u3 : Tryz.prog.underlying 3 = some (.int .i64) := by kernel_rfl
    have u30 : Tryz.prog.underlying 30 = some (.struct #[⟨"Parent", 3, 0, false, "", "", 0⟩, ⟨"Austenite", 3, 1, false, "", "", 8⟩, ⟨"Bainite", 3, 2, false, "", "", 16⟩, ⟨"Martensite", 3, 3, false, "", "", 24⟩, ⟨"Wait", 3, 4, false, "", "", 32⟩, ⟨"Grain", 3, 5, false, "", "", 40⟩, ⟨"Temper", 3, 6, false, "", "", 48⟩]) := by kernel_rfl
    have g30 : Tryz.prog.stoodInHeld 30 = false := by kernel_rfl
    have v30 : Tryz.prog.underlying 30 = some (.struct (Tryz.prog.fieldsOf 30)) := by kernel_rfl
    have w30 : (Tryz.prog.fieldsOf 30).toList = [⟨"Parent", 3, 0, false, "", "", 0⟩, ⟨"Austenite", 3, 1, false, "", "", 8⟩, ⟨"Bainite", 3, 2, false, "", "", 16⟩, ⟨"Martensite", 3, 3, false, "", "", 24⟩, ⟨"Wait", 3, 4, false, "", "", 32⟩, ⟨"Grain", 3, 5, false, "", "", 40⟩, ⟨"Temper", 3, 6, false, "", "", 48⟩] := by kernel_rfl
    have s30 : ∀ w, (sizeOf 30).run Tryz.prog w = .ok 7 w := fun _ => by kernel_rfl
    have p3 : ∀ w, (isAgg 3).run Tryz.prog w = .ok false w := fun _ => by kernel_rfl
    have p30 : ∀ w, (isAgg 30).run Tryz.prog w = .ok true w := fun _ => by kernel_rfl
    have e3 : ∀ (d : Nat) (a b : Int) (w : World), (Op.equalIn (d + 1) 3 (.int .i64 a) (.int .i64 b)).run Tryz.prog w = .ok (a == b) w := fun d a b w => run_equalIn_int w d 3 .i64 .i64 a b u3
    have e30 : ∀ (d : Nat) (xs ys : Array Value) (w : World), (Op.equalIn (d + 1) 30 (.agg xs) (.agg ys)).run Tryz.prog w = (Op.eqFields d xs ys (Tryz.prog.fieldsOf 30).toList).run Tryz.prog w := fun d xs ys w => run_equalIn_struct w d 30 xs ys v30 g30
    simp [evs, EV.val, e3, e30, Op.eqFields, part, g30, w30, s30, p3, p30]
    try grind
theorem eq60 : EqOk Tryz.prog 60 [true, true] where
  guard := by kernel_rfl
  run := by
    intro xs ys w h1 h2
    obtain ⟨a0, xs0, rfl, h1_0⟩ := kindsI h1
    obtain ⟨b0, ys0, rfl, h2_0⟩ := kindsI h2
    obtain ⟨a1, xs1, rfl, h1_1⟩ := kindsI h1_0
    obtain ⟨b1, ys1, rfl, h2_1⟩ := kindsI h2_0
    obtain rfl := kindsN h1_1
    obtain rfl := kindsN h2_1
    have u3 : Tryz.prog.underlying 3 = some (.int .i64) := by kernel_rfl
    have u60 : Tryz.prog.underlying 60 = some (.struct #[⟨"Lo", 3, 0, false, "", "", 0⟩, ⟨"Hi", 3, 1, false, "", "", 8⟩]) := by kernel_rfl
    have g60 : Tryz.prog.stoodInHeld 60 = false := by kernel_rfl
    have v60 : Tryz.prog.underlying 60 = some (.struct (Tryz.prog.fieldsOf 60)) := by kernel_rfl
    have w60 : (Tryz.prog.fieldsOf 60).toList = [⟨"Lo", 3, 0, false, "", "", 0⟩, ⟨"Hi", 3, 1, false, "", "", 8⟩] := by kernel_rfl
    have s60 : ∀ w, (sizeOf 60).run Tryz.prog w = .ok 2 w := fun _ => by kernel_rfl
    have p3 : ∀ w, (isAgg 3).run Tryz.prog w = .ok false w := fun _ => by kernel_rfl
    have p60 : ∀ w, (isAgg 60).run Tryz.prog w = .ok true w := fun _ => by kernel_rfl
    have e3 : ∀ (d : Nat) (a b : Int) (w : World), (Op.equalIn (d + 1) 3 (.int .i64 a) (.int .i64 b)).run Tryz.prog w = .ok (a == b) w := fun d a b w => run_equalIn_int w d 3 .i64 .i64 a b u3
    have e60 : ∀ (d : Nat) (xs ys : Array Value) (w : World), (Op.equalIn (d + 1) 60 (.agg xs) (.agg ys)).run Tryz.prog w = (Op.eqFields d xs ys (Tryz.prog.fieldsOf 60).toList).run Tryz.prog w := fun d xs ys w => run_equalIn_struct w d 60 xs ys v60 g60
    simp [evs, EV.val, e3, e60, Op.eqFields, part, g60, w60, s60, p3, p60]
    try grind
theorem eq70 : EqOk Tryz.prog 70 [true, true, true, true] where
  guard := by kernel_rfl
  run := by
    intro xs ys w h1 h2
    obtain ⟨a0, xs0, rfl, h1_0⟩ := kindsI h1
    obtain ⟨b0, ys0, rfl, h2_0⟩ := kindsI h2
    obtain ⟨a1, xs1, rfl, h1_1⟩ := kindsI h1_0
    obtain ⟨b1, ys1, rfl, h2_1⟩ := kindsI h2_0
    obtain ⟨a2, xs2, rfl, h1_2⟩ := kindsI h1_1
    obtain ⟨b2, ys2, rfl, h2_2⟩ := kindsI h2_1
    obtain ⟨a3, xs3, rfl, h1_3⟩ := kindsI h1_2
    obtain ⟨b3, ys3, rfl, h2_3⟩ := kindsI h2_2
    obtain rfl := kindsN h1_3
    obtain rfl := kindsN h2_3
    have u3 : Tryz.prog.underlying 3 = some (.int .i64) := by kernel_rfl
    have u60 : Tryz.prog.underlying 60 = some (.struct #[⟨"Lo", 3, 0, false, "", "", 0⟩, ⟨"Hi", 3, 1, false, "", "", 8⟩]) := by kernel_rfl
    have u70 : Tryz.prog.underlying 70 = some (.struct #[⟨"Kelvin", 3, 0, false, "", "", 0⟩, ⟨"Rate", 60, 1, false, "", "", 8⟩, ⟨"Growth", 3, 3, false, "", "", 24⟩]) := by kernel_rfl
    have g60 : Tryz.prog.stoodInHeld 60 = false := by kernel_rfl
    have v60 : Tryz.prog.underlying 60 = some (.struct (Tryz.prog.fieldsOf 60)) := by kernel_rfl
    have w60 : (Tryz.prog.fieldsOf 60).toList = [⟨"Lo", 3, 0, false, "", "", 0⟩, ⟨"Hi", 3, 1, false, "", "", 8⟩] := by kernel_rfl
    have s60 : ∀ w, (sizeOf 60).run Tryz.prog w = .ok 2 w := fun _ => by kernel_rfl
    have g70 : Tryz.prog.stoodInHeld 70 = false := by kernel_rfl
    have v70 : Tryz.prog.underlying 70 = some (.struct (Tryz.prog.fieldsOf 70)) := by kernel_rfl
    have w70 : (Tryz.prog.fieldsOf 70).toList = [⟨"Kelvin", 3, 0, false, "", "", 0⟩, ⟨"Rate", 60, 1, false, "", "", 8⟩, ⟨"Growth", 3, 3, false, "", "", 24⟩] := by kernel_rfl
    have s70 : ∀ w, (sizeOf 70).run Tryz.prog w = .ok 4 w := fun _ => by kernel_rfl
    have p3 : ∀ w, (isAgg 3).run Tryz.prog w = .ok false w := fun _ => by kernel_rfl
    have p60 : ∀ w, (isAgg 60).run Tryz.prog w = .ok true w := fun _ => by kernel_rfl
    have p70 : ∀ w, (isAgg 70).run Tryz.prog w = .ok true w := fun _ => by kernel_rfl
    have e3 : ∀ (d : Nat) (a b : Int) (w : World), (Op.equalIn (d + 1) 3 (.int .i64 a) (.int .i64 b)).run Tryz.prog w = .ok (a == b) w := fun d a b w => run_equalIn_int w d 3 .i64 .i64 a b u3
    have e60 : ∀ (d : Nat) (xs ys : Array Value) (w : World), (Op.equalIn (d + 1) 60 (.agg xs) (.agg ys)).run Tryz.prog w = (Op.eqFields d xs ys (Tryz.prog.fieldsOf 60).toList).run Tryz.prog w := fun d xs ys w => run_equalIn_struct w d 60 xs ys v60 g60
    have e70 : ∀ (d : Nat) (xs ys : Array Value) (w : World), (Op.equalIn (d + 1) 70 (.agg xs) (.agg ys)).run Tryz.prog w = (Op.eqFields d xs ys (Tryz.prog.fieldsOf 70).toList).run Tryz.prog w := fun d xs ys w => run_equalIn_struct w d 70 xs ys v70 g70
    simp [evs, EV.val, e3, e60, e70, Op.eqFields, part, g60, w60, s60, g70, w70, s70, p3, p60, p70]
    try grind
theorem eq73 : EqOk Tryz.prog 73 [true, true, true, true, true] where
  guard := by kernel_rfl
  run := by
    intro xs ys w h1 h2
    obtain ⟨a0, xs0, rfl, h1_0⟩ := kindsI h1
    obtain ⟨b0, ys0, rfl, h2_0⟩ := kindsI h2
    obtain ⟨a1, xs1, rfl, h1_1⟩ := kindsI h1_0
    obtain ⟨b1, ys1, rfl, h2_1⟩ := kindsI h2_0
    obtain ⟨a2, xs2, rfl, h1_2⟩ := kindsI h1_1
    obtain ⟨b2, ys2, rfl, h2_2⟩ := kindsI h2_1
    obtain ⟨a3, xs3, rfl, h1_3⟩ := kindsI h1_2
    obtain ⟨b3, ys3, rfl, h2_3⟩ := kindsI h2_2
    obtain ⟨a4, xs4, rfl, h1_4⟩ := kindsI h1_3
    obtain ⟨b4, ys4, rfl, h2_4⟩ := kindsI h2_3
    obtain rfl := kindsN h1_4
    obtain rfl := kindsN h2_4
    have u3 : Tryz.prog.underlying 3 = some (.int .i64) := by kernel_rfl
    have u60 : Tryz.prog.underlying 60 = some (.struct #[⟨"Lo", 3, 0, false, "", "", 0⟩, ⟨"Hi", 3, 1, false, "", "", 8⟩]) := by kernel_rfl
    have u73 : Tryz.prog.underlying 73 = some (.struct #[⟨"Kelvin", 3, 0, false, "", "", 0⟩, ⟨"Wait", 60, 1, false, "", "", 8⟩, ⟨"Rate", 60, 3, false, "", "", 24⟩]) := by kernel_rfl
    have g60 : Tryz.prog.stoodInHeld 60 = false := by kernel_rfl
    have v60 : Tryz.prog.underlying 60 = some (.struct (Tryz.prog.fieldsOf 60)) := by kernel_rfl
    have w60 : (Tryz.prog.fieldsOf 60).toList = [⟨"Lo", 3, 0, false, "", "", 0⟩, ⟨"Hi", 3, 1, false, "", "", 8⟩] := by kernel_rfl
    have s60 : ∀ w, (sizeOf 60).run Tryz.prog w = .ok 2 w := fun _ => by kernel_rfl
    have g73 : Tryz.prog.stoodInHeld 73 = false := by kernel_rfl
    have v73 : Tryz.prog.underlying 73 = some (.struct (Tryz.prog.fieldsOf 73)) := by kernel_rfl
    have w73 : (Tryz.prog.fieldsOf 73).toList = [⟨"Kelvin", 3, 0, false, "", "", 0⟩, ⟨"Wait", 60, 1, false, "", "", 8⟩, ⟨"Rate", 60, 3, false, "", "", 24⟩] := by kernel_rfl
    have s73 : ∀ w, (sizeOf 73).run Tryz.prog w = .ok 5 w := fun _ => by kernel_rfl
    have p3 : ∀ w, (isAgg 3).run Tryz.prog w = .ok false w := fun _ => by kernel_rfl
    have p60 : ∀ w, (isAgg 60).run Tryz.prog w = .ok true w := fun _ => by kernel_rfl
    have p73 : ∀ w, (isAgg 73).run Tryz.prog w = .ok true w := fun _ => by kernel_rfl
    have e3 : ∀ (d : Nat) (a b : Int) (w : World), (Op.equalIn (d + 1) 3 (.int .i64 a) (.int .i64 b)).run Tryz.prog w = .ok (a == b) w := fun d a b w => run_equalIn_int w d 3 .i64 .i64 a b u3
    have e60 : ∀ (d : Nat) (xs ys : Array Value) (w : World), (Op.equalIn (d + 1) 60 (.agg xs) (.agg ys)).run Tryz.prog w = (Op.eqFields d xs ys (Tryz.prog.fieldsOf 60).toList).run Tryz.prog w := fun d xs ys w => run_equalIn_struct w d 60 xs ys v60 g60
    have e73 : ∀ (d : Nat) (xs ys : Array Value) (w : World), (Op.equalIn (d + 1) 73 (.agg xs) (.agg ys)).run Tryz.prog w = (Op.eqFields d xs ys (Tryz.prog.fieldsOf 73).toList).run Tryz.prog w := fun d xs ys w => run_equalIn_struct w d 73 xs ys v73 g73
    simp [evs, EV.val, e3, e60, e73, Op.eqFields, part, g60, w60, s60, g73, w73, s73, p3, p60, p73]
    try grind
theorem eq75 : EqOk Tryz.prog 75 [true, true, true] where
  guard := by kernel_rfl
  run := by
    intro xs ys w h1 h2
    obtain ⟨a0, xs0, rfl, h1_0⟩ := kindsI h1
    obtain ⟨b0, ys0, rfl, h2_0⟩ := kindsI h2
    obtain ⟨a1, xs1, rfl, h1_1⟩ := kindsI h1_0
    obtain ⟨b1, ys1, rfl, h2_1⟩ := kindsI h2_0
    obtain ⟨a2, xs2, rfl, h1_2⟩ := kindsI h1_1
    obtain ⟨b2, ys2, rfl, h2_2⟩ := kindsI h2_1
    obtain rfl := kindsN h1_2
    obtain rfl := kindsN h2_2
    have u3 : Tryz.prog.underlying 3 = some (.int .i64) := by kernel_rfl
    have u60 : Tryz.prog.underlying 60 = some (.struct #[⟨"Lo", 3, 0, false, "", "", 0⟩, ⟨"Hi", 3, 1, false, "", "", 8⟩]) := by kernel_rfl
    have u75 : Tryz.prog.underlying 75 = some (.struct #[⟨"Kelvin", 3, 0, false, "", "", 0⟩, ⟨"Share", 60, 1, false, "", "", 8⟩]) := by kernel_rfl
    have g60 : Tryz.prog.stoodInHeld 60 = false := by kernel_rfl
    have v60 : Tryz.prog.underlying 60 = some (.struct (Tryz.prog.fieldsOf 60)) := by kernel_rfl
    have w60 : (Tryz.prog.fieldsOf 60).toList = [⟨"Lo", 3, 0, false, "", "", 0⟩, ⟨"Hi", 3, 1, false, "", "", 8⟩] := by kernel_rfl
    have s60 : ∀ w, (sizeOf 60).run Tryz.prog w = .ok 2 w := fun _ => by kernel_rfl
    have g75 : Tryz.prog.stoodInHeld 75 = false := by kernel_rfl
    have v75 : Tryz.prog.underlying 75 = some (.struct (Tryz.prog.fieldsOf 75)) := by kernel_rfl
    have w75 : (Tryz.prog.fieldsOf 75).toList = [⟨"Kelvin", 3, 0, false, "", "", 0⟩, ⟨"Share", 60, 1, false, "", "", 8⟩] := by kernel_rfl
    have s75 : ∀ w, (sizeOf 75).run Tryz.prog w = .ok 3 w := fun _ => by kernel_rfl
    have p3 : ∀ w, (isAgg 3).run Tryz.prog w = .ok false w := fun _ => by kernel_rfl
    have p60 : ∀ w, (isAgg 60).run Tryz.prog w = .ok true w := fun _ => by kernel_rfl
    have p75 : ∀ w, (isAgg 75).run Tryz.prog w = .ok true w := fun _ => by kernel_rfl
    have e3 : ∀ (d : Nat) (a b : Int) (w : World), (Op.equalIn (d + 1) 3 (.int .i64 a) (.int .i64 b)).run Tryz.prog w = .ok (a == b) w := fun d a b w => run_equalIn_int w d 3 .i64 .i64 a b u3
    have e60 : ∀ (d : Nat) (xs ys : Array Value) (w : World), (Op.equalIn (d + 1) 60 (.agg xs) (.agg ys)).run Tryz.prog w = (Op.eqFields d xs ys (Tryz.prog.fieldsOf 60).toList).run Tryz.prog w := fun d xs ys w => run_equalIn_struct w d 60 xs ys v60 g60
    have e75 : ∀ (d : Nat) (xs ys : Array Value) (w : World), (Op.equalIn (d + 1) 75 (.agg xs) (.agg ys)).run Tryz.prog w = (Op.eqFields d xs ys (Tryz.prog.fieldsOf 75).toList).run Tryz.prog w := fun d xs ys w => run_equalIn_struct w d 75 xs ys v75 g75
    simp [evs, EV.val, e3, e60, e75, Op.eqFields, part, g60, w60, s60, g75, w75, s75, p3, p60, p75]
    try grind
theorem eq77 : EqOk Tryz.prog 77 [true, true] where
  guard := by kernel_rfl
  run := by
    intro xs ys w h1 h2
    obtain ⟨a0, xs0, rfl, h1_0⟩ := kindsI h1
    obtain ⟨b0, ys0, rfl, h2_0⟩ := kindsI h2
    obtain ⟨a1, xs1, rfl, h1_1⟩ := kindsI h1_0
    obtain ⟨b1, ys1, rfl, h2_1⟩ := kindsI h2_0
    obtain rfl := kindsN h1_1
    obtain rfl := kindsN h2_1
    have u3 : Tryz.prog.underlying 3 = some (.int .i64) := by kernel_rfl
    have u77 : Tryz.prog.underlying 77 = some (.struct #[⟨"Kelvin", 3, 0, false, "", "", 0⟩, ⟨"Rate", 3, 1, false, "", "", 8⟩]) := by kernel_rfl
    have g77 : Tryz.prog.stoodInHeld 77 = false := by kernel_rfl
    have v77 : Tryz.prog.underlying 77 = some (.struct (Tryz.prog.fieldsOf 77)) := by kernel_rfl
    have w77 : (Tryz.prog.fieldsOf 77).toList = [⟨"Kelvin", 3, 0, false, "", "", 0⟩, ⟨"Rate", 3, 1, false, "", "", 8⟩] := by kernel_rfl
    have s77 : ∀ w, (sizeOf 77).run Tryz.prog w = .ok 2 w := fun _ => by kernel_rfl
    have p3 : ∀ w, (isAgg 3).run Tryz.prog w = .ok false w := fun _ => by kernel_rfl
    have p77 : ∀ w, (isAgg 77).run Tryz.prog w = .ok true w := fun _ => by kernel_rfl
    have e3 : ∀ (d : Nat) (a b : Int) (w : World), (Op.equalIn (d + 1) 3 (.int .i64 a) (.int .i64 b)).run Tryz.prog w = .ok (a == b) w := fun d a b w => run_equalIn_int w d 3 .i64 .i64 a b u3
    have e77 : ∀ (d : Nat) (xs ys : Array Value) (w : World), (Op.equalIn (d + 1) 77 (.agg xs) (.agg ys)).run Tryz.prog w = (Op.eqFields d xs ys (Tryz.prog.fieldsOf 77).toList).run Tryz.prog w := fun d xs ys w => run_equalIn_struct w d 77 xs ys v77 g77
    simp [evs, EV.val, e3, e77, Op.eqFields, part, g77, w77, s77, p3, p77]
    try grind
theorem tf3 : TyFact Tryz.prog 3 ti3 := fact
theorem tf4 : TyFact Tryz.prog 4 ti4 := fact
theorem tf5 : TyFact Tryz.prog 5 ti5 := fact
theorem tf9 : TyFact Tryz.prog 9 ti9 := fact
theorem tf21 : TyFact Tryz.prog 21 ti21 := fact
theorem tf22 : TyFact Tryz.prog 22 ti22 := fact
theorem tf23 : TyFact Tryz.prog 23 ti23 := fact
theorem tf24 : TyFact Tryz.prog 24 ti24 := fact
theorem tf25 : TyFact Tryz.prog 25 ti25 := fact
theorem tf26 : TyFact Tryz.prog 26 ti26 := fact (fun n hn => by obtain rfl := Option.some.inj hn; exact eq26)
theorem tf27 : TyFact Tryz.prog 27 ti27 := fact
theorem tf28 : TyFact Tryz.prog 28 ti28 := fact
theorem tf29 : TyFact Tryz.prog 29 ti29 := fact
theorem tf30 : TyFact Tryz.prog 30 ti30 := fact (fun n hn => by obtain rfl := Option.some.inj hn; exact eq30)
theorem tf36 : TyFact Tryz.prog 36 ti36 := fact
theorem tf52 : TyFact Tryz.prog 52 ti52 := fact
theorem tf53 : TyFact Tryz.prog 53 ti53 := fact
theorem tf54 : TyFact Tryz.prog 54 ti54 := fact
theorem tf55 : TyFact Tryz.prog 55 ti55 := fact
theorem tf56 : TyFact Tryz.prog 56 ti56 := fact
theorem tf59 : TyFact Tryz.prog 59 ti59 := fact
theorem tf60 : TyFact Tryz.prog 60 ti60 := fact (fun n hn => by obtain rfl := Option.some.inj hn; exact eq60)
theorem tf63 : TyFact Tryz.prog 63 ti63 := fact
theorem tf64 : TyFact Tryz.prog 64 ti64 := fact
theorem tf66 : TyFact Tryz.prog 66 ti66 := fact
theorem tf67 : TyFact Tryz.prog 67 ti67 := fact
theorem tf68 : TyFact Tryz.prog 68 ti68 := fact
theorem tf69 : TyFact Tryz.prog 69 ti69 := fact
theorem tf70 : TyFact Tryz.prog 70 ti70 := fact (fun n hn => by obtain rfl := Option.some.inj hn; exact eq70)
theorem tf72 : TyFact Tryz.prog 72 ti72 := fact
theorem tf73 : TyFact Tryz.prog 73 ti73 := fact (fun n hn => by obtain rfl := Option.some.inj hn; exact eq73)
theorem tf74 : TyFact Tryz.prog 74 ti74 := fact
theorem tf75 : TyFact Tryz.prog 75 ti75 := fact (fun n hn => by obtain rfl := Option.some.inj hn; exact eq75)
theorem tf76 : TyFact Tryz.prog 76 ti76 := fact
theorem tf77 : TyFact Tryz.prog 77 ti77 := fact (fun n hn => by obtain rfl := Option.some.inj hn; exact eq77)
theorem tf79 : TyFact Tryz.prog 79 ti79 := fact
theorem tf80 : TyFact Tryz.prog 80 ti80 := fact
theorem tf81 : TyFact Tryz.prog 81 ti81 := fact
theorem tf83 : TyFact Tryz.prog 83 ti83 := fact
theorem tf99 : TyFact Tryz.prog 99 ti99 := fact
theorem tf100 : TyFact Tryz.prog 100 ti100 := fact
theorem tf107 : TyFact Tryz.prog 107 ti107 := fact
theorem tf108 : TyFact Tryz.prog 108 ti108 := fact
theorem tf110 : TyFact Tryz.prog 110 ti110 := fact
theorem tf111 : TyFact Tryz.prog 111 ti111 := fact
theorem tf114 : TyFact Tryz.prog 114 ti114 := fact
theorem tf118 : TyFact Tryz.prog 118 ti118 := fact
theorem tf119 : TyFact Tryz.prog 119 ti119 := fact
theorem tf124 : TyFact Tryz.prog 124 ti124 := fact
theorem tf125 : TyFact Tryz.prog 125 ti125 := fact
theorem tf131 : TyFact Tryz.prog 131 ti131 := fact
theorem tf134 : TyFact Tryz.prog 134 ti134 := fact
theorem tf135 : TyFact Tryz.prog 135 ti135 := fact
theorem tf136 : TyFact Tryz.prog 136 ti136 := fact
theorem tf138 : TyFact Tryz.prog 138 ti138 := fact
theorem tf139 : TyFact Tryz.prog 139 ti139 := fact
theorem tf146 : TyFact Tryz.prog 146 ti146 := fact
theorem tf147 : TyFact Tryz.prog 147 ti147 := fact
theorem tf149 : TyFact Tryz.prog 149 ti149 := fact
theorem tf151 : TyFact Tryz.prog 151 ti151 := fact
theorem tf152 : TyFact Tryz.prog 152 ti152 := fact
theorem tf153 : TyFact Tryz.prog 153 ti153 := fact
theorem tf158 : TyFact Tryz.prog 158 ti158 := fact
theorem tf161 : TyFact Tryz.prog 161 ti161 := fact
theorem tf163 : TyFact Tryz.prog 163 ti163 := fact
theorem tf166 : TyFact Tryz.prog 166 ti166 := fact
theorem tf176 : TyFact Tryz.prog 176 ti176 := fact
theorem tf186 : TyFact Tryz.prog 186 ti186 := fact
theorem tf188 : TyFact Tryz.prog 188 ti188 := fact
theorem tf190 : TyFact Tryz.prog 190 ti190 := fact
theorem tf192 : TyFact Tryz.prog 192 ti192 := fact
theorem tf206 : TyFact Tryz.prog 206 ti206 := fact
theorem tf207 : TyFact Tryz.prog 207 ti207 := fact
theorem tf211 : TyFact Tryz.prog 211 ti211 := fact
theorem tf212 : TyFact Tryz.prog 212 ti212 := fact
theorem tf229 : TyFact Tryz.prog 229 ti229 := fact
theorem tf230 : TyFact Tryz.prog 230 ti230 := fact
def Facts : List (Nat × TI) → Prop
  | [] => True
  | p :: r => TyFact Tryz.prog p.1 p.2 ∧ Facts r
theorem facts_get : ∀ {l : List (Nat × TI)}, Facts l → ∀ t i, lk l t = some i → TyFact Tryz.prog t i
  | [], _, _, _, h => by cases h
  | (k, x) :: r, h, t, i, hi => by
    simp only [lk] at hi
    split at hi
    · rename_i e; subst e; obtain rfl := Option.some.inj hi; exact h.1
    · exact facts_get h.2 t i hi
theorem ty_ok : TyOk Tryz.prog ty := facts_get (l := tyl) ⟨tf3, tf4, tf5, tf9, tf21, tf22, tf23, tf24, tf25, tf26, tf27, tf28, tf29, tf30, tf36, tf52, tf53, tf54, tf55, tf56, tf59, tf60, tf63, tf64, tf66, tf67, tf68, tf69, tf70, tf72, tf73, tf74, tf75, tf76, tf77, tf79, tf80, tf81, tf83, tf99, tf100, tf107, tf108, tf110, tf111, tf114, tf118, tf119, tf124, tf125, tf131, tf134, tf135, tf136, tf138, tf139, tf146, tf147, tf149, tf151, tf152, tf153, tf158, tf161, tf163, tf166, tf176, tf186, tf188, tf190, tf192, tf206, tf207, tf211, tf212, tf229, tf230, trivial⟩

end Go.Proofs.YtdlogfepbkojkaaGreatDoor
