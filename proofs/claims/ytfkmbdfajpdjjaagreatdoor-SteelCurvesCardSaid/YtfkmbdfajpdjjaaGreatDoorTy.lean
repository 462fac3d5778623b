/-
  The types of the translation, as the abstract machine uses them: a table, and that it agrees with the program's. Written by a program of ours (gen_ty.py).
-/
import Derived.Test.YtfkmbdfajpdjjaaGreatDoorProg
import Derived.Test.YtfkmbdfajpdjjaaGreatDoorAbsC
import Derived.KernelRfl
set_option linter.unusedSimpArgs false
set_option linter.unusedVariables false
namespace Go.Proofs.YtfkmbdfajpdjjaaGreatDoor
open Go.Abs

def ti3 : TI := ⟨1, 8, false, [.int .i64 0], .int .i64, none⟩
def ti4 : TI := ⟨1, 1, false, [.bool false], .bool, none⟩
def ti22 : TI := ⟨1, 24, false, [.slice none 0 0], .slice 128, none⟩
def ti23 : TI := ⟨1, 24, false, [.slice none 0 0], .slice 130, none⟩
def ti24 : TI := ⟨1, 24, false, [.slice none 0 0], .slice 132, none⟩
def ti25 : TI := ⟨1, 24, false, [.slice none 0 0], .slice 134, none⟩
def ti26 : TI := ⟨4, 32, true, [.int .i64 0, .int .i64 0, .int .i64 0, .int .i64 0], .array 4 3, none⟩
def ti27 : TI := ⟨8, 128, true, [.slice none 0 0, .slice none 0 0, .slice none 0 0, .slice none 0 0, .int .i64 0, .int .i64 0, .int .i64 0, .int .i64 0], .struct #[⟨"Heats", 22, 0, false, "", "", 0⟩, ⟨"Cools", 23, 1, false, "", "", 24⟩, ⟨"Colds", 24, 2, false, "", "", 48⟩, ⟨"Tempers", 25, 3, false, "", "", 72⟩, ⟨"Hard", 26, 4, false, "", "", 96⟩], none⟩
def ti28 : TI := ⟨8, 128, true, [.slice none 0 0, .slice none 0 0, .slice none 0 0, .slice none 0 0, .int .i64 0, .int .i64 0, .int .i64 0, .int .i64 0], .struct #[⟨"Heats", 22, 0, false, "", "", 0⟩, ⟨"Cools", 23, 1, false, "", "", 24⟩, ⟨"Colds", 24, 2, false, "", "", 48⟩, ⟨"Tempers", 25, 3, false, "", "", 72⟩, ⟨"Hard", 26, 4, false, "", "", 96⟩], none⟩
def ti29 : TI := ⟨7, 56, true, [.int .i64 0, .int .i64 0, .int .i64 0, .int .i64 0, .int .i64 0, .int .i64 0, .int .i64 0], .struct #[⟨"Parent", 3, 0, false, "", "", 0⟩, ⟨"Austenite", 3, 1, false, "", "", 8⟩, ⟨"Bainite", 3, 2, false, "", "", 16⟩, ⟨"Martensite", 3, 3, false, "", "", 24⟩, ⟨"Wait", 3, 4, false, "", "", 32⟩, ⟨"Grain", 3, 5, false, "", "", 40⟩, ⟨"Temper", 3, 6, false, "", "", 48⟩], none⟩
def ti30 : TI := ⟨7, 56, true, [.int .i64 0, .int .i64 0, .int .i64 0, .int .i64 0, .int .i64 0, .int .i64 0, .int .i64 0], .struct #[⟨"Parent", 3, 0, false, "", "", 0⟩, ⟨"Austenite", 3, 1, false, "", "", 8⟩, ⟨"Bainite", 3, 2, false, "", "", 16⟩, ⟨"Martensite", 3, 3, false, "", "", 24⟩, ⟨"Wait", 3, 4, false, "", "", 32⟩, ⟨"Grain", 3, 5, false, "", "", 40⟩, ⟨"Temper", 3, 6, false, "", "", 48⟩], some 7⟩
def ti31 : TI := ⟨1, 24, false, [.slice none 0 0], .slice 38, none⟩
def ti32 : TI := ⟨2, 16, true, [.int .i64 0, .int .i64 0], .struct #[⟨"Lo", 3, 0, false, "", "", 0⟩, ⟨"Hi", 3, 1, false, "", "", 8⟩], none⟩
def ti33 : TI := ⟨2, 16, true, [.int .i64 0, .int .i64 0], .struct #[⟨"Lo", 3, 0, false, "", "", 0⟩, ⟨"Hi", 3, 1, false, "", "", 8⟩], some 2⟩
def ti34 : TI := ⟨3, 40, true, [.slice none 0 0, .int .i64 0, .int .i64 0], .struct #[⟨"Curves", 31, 0, false, "", "", 0⟩, ⟨"Hard", 33, 1, false, "", "", 24⟩], none⟩
def ti35 : TI := ⟨3, 40, true, [.slice none 0 0, .int .i64 0, .int .i64 0], .struct #[⟨"Curves", 31, 0, false, "", "", 0⟩, ⟨"Hard", 33, 1, false, "", "", 24⟩], none⟩
def ti38 : TI := ⟨1, 24, false, [.slice none 0 0], .slice 3, none⟩
def ti39 : TI := ⟨1, 8, false, [.int .i64 0], .int .i64, none⟩
def ti55 : TI := ⟨14, 112, true, [.int .i64 0, .int .i64 0, .int .i64 0, .int .i64 0, .int .i64 0, .int .i64 0, .int .i64 0, .int .i64 0, .int .i64 0, .int .i64 0, .int .i64 0, .int .i64 0, .int .i64 0, .int .i64 0], .struct #[⟨"Parent", 33, 0, false, "", "", 0⟩, ⟨"Austenite", 33, 2, false, "", "", 16⟩, ⟨"Bainite", 33, 4, false, "", "", 32⟩, ⟨"Martensite", 33, 6, false, "", "", 48⟩, ⟨"Wait", 33, 8, false, "", "", 64⟩, ⟨"Grain", 33, 10, false, "", "", 80⟩, ⟨"Temper", 33, 12, false, "", "", 96⟩], none⟩
def ti56 : TI := ⟨14, 112, true, [.int .i64 0, .int .i64 0, .int .i64 0, .int .i64 0, .int .i64 0, .int .i64 0, .int .i64 0, .int .i64 0, .int .i64 0, .int .i64 0, .int .i64 0, .int .i64 0, .int .i64 0, .int .i64 0], .struct #[⟨"Parent", 33, 0, false, "", "", 0⟩, ⟨"Austenite", 33, 2, false, "", "", 16⟩, ⟨"Bainite", 33, 4, false, "", "", 32⟩, ⟨"Martensite", 33, 6, false, "", "", 48⟩, ⟨"Wait", 33, 8, false, "", "", 64⟩, ⟨"Grain", 33, 10, false, "", "", 80⟩, ⟨"Temper", 33, 12, false, "", "", 96⟩], some 14⟩
def ti57 : TI := ⟨1, 24, false, [.slice none 0 0], .slice 58, none⟩
def ti58 : TI := ⟨1, 24, false, [.slice none 0 0], .slice 33, none⟩
def ti67 : TI := ⟨8, 80, true, [.int .i64 0, .int .i64 0, .int .i64 0, .int .i64 0, .int .i64 0, .int .i64 0, .int .i64 0, .slice none 0 0], .struct #[⟨"State", 30, 0, false, "", "", 0⟩, ⟨"Ranges", 58, 7, false, "", "", 56⟩], none⟩
def ti68 : TI := ⟨8, 80, true, [.int .i64 0, .int .i64 0, .int .i64 0, .int .i64 0, .int .i64 0, .int .i64 0, .int .i64 0, .slice none 0 0], .struct #[⟨"State", 30, 0, false, "", "", 0⟩, ⟨"Ranges", 58, 7, false, "", "", 56⟩], none⟩
def ti69 : TI := ⟨1, 8, false, [.nilFunc], .func #[3] #[4] false, none⟩
def ti80 : TI := ⟨1, 8, false, [.nilFunc], .func #[33] #[3] false, none⟩
def ti89 : TI := ⟨3, 24, true, [.int .i64 0, .int .i64 0, .int .i64 0], .struct #[⟨"Heat", 3, 0, false, "", "", 0⟩, ⟨"Cool", 3, 1, false, "", "", 8⟩, ⟨"Cold", 3, 2, false, "", "", 16⟩], none⟩
def ti90 : TI := ⟨3, 24, true, [.int .i64 0, .int .i64 0, .int .i64 0], .struct #[⟨"Heat", 3, 0, false, "", "", 0⟩, ⟨"Cool", 3, 1, false, "", "", 8⟩, ⟨"Cold", 3, 2, false, "", "", 16⟩], none⟩
def ti91 : TI := ⟨4, 48, true, [.slice none 0 0, .int .i64 0, .int .i64 0, .int .i64 0], .struct #[⟨"Curve", 38, 0, false, "", "", 0⟩, ⟨"Pick", 90, 1, false, "", "", 24⟩], none⟩
def ti92 : TI := ⟨4, 48, true, [.slice none 0 0, .int .i64 0, .int .i64 0, .int .i64 0], .struct #[⟨"Curve", 38, 0, false, "", "", 0⟩, ⟨"Pick", 90, 1, false, "", "", 24⟩], none⟩
def ti101 : TI := ⟨8, 128, true, [.slice none 0 0, .slice none 0 0, .slice none 0 0, .slice none 0 0, .int .i64 0, .int .i64 0, .int .i64 0, .int .i64 0], .struct #[⟨"SteelRules", 28, 0, true, "", "", 0⟩], none⟩
def ti102 : TI := ⟨8, 128, true, [.slice none 0 0, .slice none 0 0, .slice none 0 0, .slice none 0 0, .int .i64 0, .int .i64 0, .int .i64 0, .int .i64 0], .struct #[⟨"SteelRules", 28, 0, true, "", "", 0⟩], none⟩
def ti108 : TI := ⟨1, 8, false, [.nilFunc], .func #[3] #[3] false, none⟩
def ti111 : TI := ⟨1, 8, false, [.nilFunc], .func #[3] #[33] false, none⟩
def ti115 : TI := ⟨7, 56, true, [.int .i64 0, .int .i64 0, .int .i64 0, .int .i64 0, .int .i64 0, .int .i64 0, .int .i64 0], .array 7 3, none⟩
def ti116 : TI := ⟨1, 8, false, [.pointer none], .pointer 33, none⟩
def ti117 : TI := ⟨7, 56, true, [.pointer none, .pointer none, .pointer none, .pointer none, .pointer none, .pointer none, .pointer none], .array 7 116, none⟩
def ti119 : TI := ⟨1, 8, false, [.pointer none], .pointer 56, none⟩
def ti120 : TI := ⟨8, 64, true, [.int .i64 0, .int .i64 0, .int .i64 0, .int .i64 0, .int .i64 0, .int .i64 0, .int .i64 0, .int .i64 0], .array 4 33, none⟩
def ti127 : TI := ⟨4, 32, true, [.int .i64 0, .int .i64 0, .int .i64 0, .int .i64 0], .struct #[⟨"Kelvin", 3, 0, false, "", "", 0⟩, ⟨"Rate", 33, 1, false, "", "", 8⟩, ⟨"Growth", 3, 3, false, "", "", 24⟩], none⟩
def ti128 : TI := ⟨4, 32, true, [.int .i64 0, .int .i64 0, .int .i64 0, .int .i64 0], .struct #[⟨"Kelvin", 3, 0, false, "", "", 0⟩, ⟨"Rate", 33, 1, false, "", "", 8⟩, ⟨"Growth", 3, 3, false, "", "", 24⟩], none⟩
def ti129 : TI := ⟨5, 40, true, [.int .i64 0, .int .i64 0, .int .i64 0, .int .i64 0, .int .i64 0], .struct #[⟨"Kelvin", 3, 0, false, "", "", 0⟩, ⟨"Wait", 33, 1, false, "", "", 8⟩, ⟨"Rate", 33, 3, false, "", "", 24⟩], none⟩
def ti130 : TI := ⟨5, 40, true, [.int .i64 0, .int .i64 0, .int .i64 0, .int .i64 0, .int .i64 0], .struct #[⟨"Kelvin", 3, 0, false, "", "", 0⟩, ⟨"Wait", 33, 1, false, "", "", 8⟩, ⟨"Rate", 33, 3, false, "", "", 24⟩], none⟩
def ti131 : TI := ⟨3, 24, true, [.int .i64 0, .int .i64 0, .int .i64 0], .struct #[⟨"Kelvin", 3, 0, false, "", "", 0⟩, ⟨"Share", 33, 1, false, "", "", 8⟩], none⟩
def ti132 : TI := ⟨3, 24, true, [.int .i64 0, .int .i64 0, .int .i64 0], .struct #[⟨"Kelvin", 3, 0, false, "", "", 0⟩, ⟨"Share", 33, 1, false, "", "", 8⟩], none⟩
def ti133 : TI := ⟨2, 16, true, [.int .i64 0, .int .i64 0], .struct #[⟨"Kelvin", 3, 0, false, "", "", 0⟩, ⟨"Rate", 3, 1, false, "", "", 8⟩], none⟩
def ti134 : TI := ⟨2, 16, true, [.int .i64 0, .int .i64 0], .struct #[⟨"Kelvin", 3, 0, false, "", "", 0⟩, ⟨"Rate", 3, 1, false, "", "", 8⟩], none⟩
def ti137 : TI := ⟨1, 8, false, [.nilFunc], .func #[33] #[4] false, none⟩
def ti138 : TI := ⟨1, 8, false, [.nilFunc], .func #[80] #[3] false, none⟩
def ti139 : TI := ⟨1, 24, false, [.slice none 0 0], .slice 39, none⟩
def ti142 : TI := ⟨1, 8, false, [.pointer none], .pointer 128, none⟩
def ti145 : TI := ⟨1, 8, false, [.pointer none], .pointer 130, none⟩
def ti148 : TI := ⟨1, 8, false, [.pointer none], .pointer 132, none⟩
def ti151 : TI := ⟨1, 8, false, [.pointer none], .pointer 134, none⟩
def ti160 : TI := ⟨1, 8, false, [.nilFunc], .func #[3, 3, 3] #[3] false, none⟩
def ti161 : TI := ⟨1, 24, false, [.slice none 0 0], .slice 167, none⟩
def ti162 : TI := ⟨4, 96, true, [.slice none 0 0, .slice none 0 0, .slice none 0 0, .slice none 0 0], .array 4 161, none⟩
def ti164 : TI := ⟨1, 8, false, [.pointer none], .pointer 167, none⟩
def ti166 : TI := ⟨3, 40, true, [.int .i64 0, .slice none 0 0, .int .i64 0], .struct #[⟨"kelvin", 3, 0, false, "", "martensite/steel", 0⟩, ⟨"ranges", 58, 1, false, "", "martensite/steel", 8⟩, ⟨"other", 3, 2, false, "", "martensite/steel", 32⟩], none⟩
def ti167 : TI := ⟨3, 40, true, [.int .i64 0, .slice none 0 0, .int .i64 0], .struct #[⟨"kelvin", 3, 0, false, "", "martensite/steel", 0⟩, ⟨"ranges", 58, 1, false, "", "martensite/steel", 8⟩, ⟨"other", 3, 2, false, "", "martensite/steel", 32⟩], none⟩
def ti168 : TI := ⟨1, 24, false, [.slice none 0 0], .slice 161, none⟩
def ti172 : TI := ⟨1, 8, false, [.nilFunc], .func #[128] #[4] false, none⟩
def ti173 : TI := ⟨1, 8, false, [.nilFunc], .func #[3, 3] #[3] false, none⟩
def ti175 : TI := ⟨1, 8, false, [.nilFunc], .func #[130] #[4] false, none⟩
def ti177 : TI := ⟨1, 8, false, [.nilFunc], .func #[132] #[4] false, none⟩
def ti179 : TI := ⟨1, 8, false, [.nilFunc], .func #[134] #[4] false, none⟩
def ti183 : TI := ⟨1, 8, false, [.nilFunc], .func #[191] #[] false, none⟩
def ti184 : TI := ⟨1, 8, false, [.nilFunc], .func #[191] #[] false, none⟩
def ti188 : TI := ⟨1, 8, false, [.nilFunc], .func #[192] #[] false, none⟩
def ti189 : TI := ⟨1, 8, false, [.nilFunc], .func #[192] #[] false, none⟩
def ti191 : TI := ⟨1, 8, false, [.nilFunc], .func #[3, 128] #[4] false, none⟩
def ti192 : TI := ⟨1, 8, false, [.nilFunc], .func #[3, 134] #[4] false, none⟩
def tyl : List (Nat × TI) := [(3, ti3), (4, ti4), (22, ti22), (23, ti23), (24, ti24), (25, ti25), (26, ti26), (27, ti27), (28, ti28), (29, ti29), (30, ti30), (31, ti31), (32, ti32), (33, ti33), (34, ti34), (35, ti35), (38, ti38), (39, ti39), (55, ti55), (56, ti56), (57, ti57), (58, ti58), (67, ti67), (68, ti68), (69, ti69), (80, ti80), (89, ti89), (90, ti90), (91, ti91), (92, ti92), (101, ti101), (102, ti102), (108, ti108), (111, ti111), (115, ti115), (116, ti116), (117, ti117), (119, ti119), (120, ti120), (127, ti127), (128, ti128), (129, ti129), (130, ti130), (131, ti131), (132, ti132), (133, ti133), (134, ti134), (137, ti137), (138, ti138), (139, ti139), (142, ti142), (145, ti145), (148, ti148), (151, ti151), (160, ti160), (161, ti161), (162, ti162), (164, ti164), (166, ti166), (167, ti167), (168, ti168), (172, ti172), (173, ti173), (175, ti175), (177, ti177), (179, ti179), (183, ti183), (184, ti184), (188, ti188), (189, ti189), (191, ti191), (192, ti192)]
def ty : Tys := fun t => lk tyl t
@[go_sem] theorem ty_3 : ty 3 = some ti3 := by kernel_rfl
@[go_sem] theorem ty_4 : ty 4 = some ti4 := by kernel_rfl
@[go_sem] theorem ty_22 : ty 22 = some ti22 := by kernel_rfl
@[go_sem] theorem ty_23 : ty 23 = some ti23 := by kernel_rfl
@[go_sem] theorem ty_24 : ty 24 = some ti24 := by kernel_rfl
@[go_sem] theorem ty_25 : ty 25 = some ti25 := by kernel_rfl
@[go_sem] theorem ty_26 : ty 26 = some ti26 := by kernel_rfl
@[go_sem] theorem ty_27 : ty 27 = some ti27 := by kernel_rfl
@[go_sem] theorem ty_28 : ty 28 = some ti28 := by kernel_rfl
@[go_sem] theorem ty_29 : ty 29 = some ti29 := by kernel_rfl
@[go_sem] theorem ty_30 : ty 30 = some ti30 := by kernel_rfl
@[go_sem] theorem ty_31 : ty 31 = some ti31 := by kernel_rfl
@[go_sem] theorem ty_32 : ty 32 = some ti32 := by kernel_rfl
@[go_sem] theorem ty_33 : ty 33 = some ti33 := by kernel_rfl
@[go_sem] theorem ty_34 : ty 34 = some ti34 := by kernel_rfl
@[go_sem] theorem ty_35 : ty 35 = some ti35 := by kernel_rfl
@[go_sem] theorem ty_38 : ty 38 = some ti38 := by kernel_rfl
@[go_sem] theorem ty_39 : ty 39 = some ti39 := by kernel_rfl
@[go_sem] theorem ty_55 : ty 55 = some ti55 := by kernel_rfl
@[go_sem] theorem ty_56 : ty 56 = some ti56 := by kernel_rfl
@[go_sem] theorem ty_57 : ty 57 = some ti57 := by kernel_rfl
@[go_sem] theorem ty_58 : ty 58 = some ti58 := by kernel_rfl
@[go_sem] theorem ty_67 : ty 67 = some ti67 := by kernel_rfl
@[go_sem] theorem ty_68 : ty 68 = some ti68 := by kernel_rfl
@[go_sem] theorem ty_69 : ty 69 = some ti69 := by kernel_rfl
@[go_sem] theorem ty_80 : ty 80 = some ti80 := by kernel_rfl
@[go_sem] theorem ty_89 : ty 89 = some ti89 := by kernel_rfl
@[go_sem] theorem ty_90 : ty 90 = some ti90 := by kernel_rfl
@[go_sem] theorem ty_91 : ty 91 = some ti91 := by kernel_rfl
@[go_sem] theorem ty_92 : ty 92 = some ti92 := by kernel_rfl
@[go_sem] theorem ty_101 : ty 101 = some ti101 := by kernel_rfl
@[go_sem] theorem ty_102 : ty 102 = some ti102 := by kernel_rfl
@[go_sem] theorem ty_108 : ty 108 = some ti108 := by kernel_rfl
@[go_sem] theorem ty_111 : ty 111 = some ti111 := by kernel_rfl
@[go_sem] theorem ty_115 : ty 115 = some ti115 := by kernel_rfl
@[go_sem] theorem ty_116 : ty 116 = some ti116 := by kernel_rfl
@[go_sem] theorem ty_117 : ty 117 = some ti117 := by kernel_rfl
@[go_sem] theorem ty_119 : ty 119 = some ti119 := by kernel_rfl
@[go_sem] theorem ty_120 : ty 120 = some ti120 := by kernel_rfl
@[go_sem] theorem ty_127 : ty 127 = some ti127 := by kernel_rfl
@[go_sem] theorem ty_128 : ty 128 = some ti128 := by kernel_rfl
@[go_sem] theorem ty_129 : ty 129 = some ti129 := by kernel_rfl
@[go_sem] theorem ty_130 : ty 130 = some ti130 := by kernel_rfl
@[go_sem] theorem ty_131 : ty 131 = some ti131 := by kernel_rfl
@[go_sem] theorem ty_132 : ty 132 = some ti132 := by kernel_rfl
@[go_sem] theorem ty_133 : ty 133 = some ti133 := by kernel_rfl
@[go_sem] theorem ty_134 : ty 134 = some ti134 := by kernel_rfl
@[go_sem] theorem ty_137 : ty 137 = some ti137 := by kernel_rfl
@[go_sem] theorem ty_138 : ty 138 = some ti138 := by kernel_rfl
@[go_sem] theorem ty_139 : ty 139 = some ti139 := by kernel_rfl
@[go_sem] theorem ty_142 : ty 142 = some ti142 := by kernel_rfl
@[go_sem] theorem ty_145 : ty 145 = some ti145 := by kernel_rfl
@[go_sem] theorem ty_148 : ty 148 = some ti148 := by kernel_rfl
@[go_sem] theorem ty_151 : ty 151 = some ti151 := by kernel_rfl
@[go_sem] theorem ty_160 : ty 160 = some ti160 := by kernel_rfl
@[go_sem] theorem ty_161 : ty 161 = some ti161 := by kernel_rfl
@[go_sem] theorem ty_162 : ty 162 = some ti162 := by kernel_rfl
@[go_sem] theorem ty_164 : ty 164 = some ti164 := by kernel_rfl
@[go_sem] theorem ty_166 : ty 166 = some ti166 := by kernel_rfl
@[go_sem] theorem ty_167 : ty 167 = some ti167 := by kernel_rfl
@[go_sem] theorem ty_168 : ty 168 = some ti168 := by kernel_rfl
@[go_sem] theorem ty_172 : ty 172 = some ti172 := by kernel_rfl
@[go_sem] theorem ty_173 : ty 173 = some ti173 := by kernel_rfl
@[go_sem] theorem ty_175 : ty 175 = some ti175 := by kernel_rfl
@[go_sem] theorem ty_177 : ty 177 = some ti177 := by kernel_rfl
@[go_sem] theorem ty_179 : ty 179 = some ti179 := by kernel_rfl
@[go_sem] theorem ty_183 : ty 183 = some ti183 := by kernel_rfl
@[go_sem] theorem ty_184 : ty 184 = some ti184 := by kernel_rfl
@[go_sem] theorem ty_188 : ty 188 = some ti188 := by kernel_rfl
@[go_sem] theorem ty_189 : ty 189 = some ti189 := by kernel_rfl
@[go_sem] theorem ty_191 : ty 191 = some ti191 := by kernel_rfl
@[go_sem] theorem ty_192 : ty 192 = some ti192 := by kernel_rfl
attribute [go_sem] ti3 ti4 ti22 ti23 ti24 ti25 ti26 ti27 ti28 ti29 ti30 ti31 ti32 ti33 ti34 ti35 ti38 ti39 ti55 ti56 ti57 ti58 ti67 ti68 ti69 ti80 ti89 ti90 ti91 ti92 ti101 ti102 ti108 ti111 ti115 ti116 ti117 ti119 ti120 ti127 ti128 ti129 ti130 ti131 ti132 ti133 ti134 ti137 ti138 ti139 ti142 ti145 ti148 ti151 ti160 ti161 ti162 ti164 ti166 ti167 ti168 ti172 ti173 ti175 ti177 ti179 ti183 ti184 ti188 ti189 ti191 ti192

def zv (i : TI) : Value := if i.agg = true then .agg i.zero.toArray else i.zero.headD .nilFunc
theorem fact {t : Nat} {i : TI} (he : ∀ n, i.eqn = some n → EqOk Tryz.prog t n := by (intro n hn; cases hn; done)) (h1 : (Tryz.prog.info? t).map (fun i => (i.size, i.bytes, i.zero)) = some (i.size, i.bytes, some (zv i)) := by kernel_rfl) (h2 : Tryz.prog.underlying t = some i.desc := by kernel_rfl) (hz : (zv i).cells.toList = i.zero := by rfl)
    (ha : i.agg = (match i.desc with | .struct _ | .array _ _ => true | _ => false) := by rfl) (ho : i.agg = false → i.size = 1 := by first | (intro _; rfl) | (intro h; cases h)) (hl : i.zero.length = i.size := by rfl) : TyFact Tryz.prog t i := by
  refine ⟨?_, h2, ha, ho, hl, he⟩
  cases hi : Tryz.prog.info? t with
  | none => rw [hi] at h1; cases h1
  | some info =>
    rw [hi] at h1
    simp only [Option.map_some, Option.some.injEq, Prod.mk.injEq] at h1
    exact ⟨info, zv i, rfl, h1.1, h1.2.1, h1.2.2, hz⟩

theorem eq30 : EqOk Tryz.prog 30 7 where
  guard := by kernel_rfl
  run := by
    intro xs ys w h1 h2
    match xs, ys, h1, h2 with
    | [a0, a1, a2, a3, a4, a5, a6], [b0, b1, b2, b3, b4, b5, b6], _, _ =>
      have u3 : Tryz.prog.underlying 3 = some (.int .i64) := by kernel_rfl
      have u30 : Tryz.prog.underlying 30 = some (.struct #[⟨"Parent", 3, 0, false, "", "", 0⟩, ⟨"Austenite", 3, 1, false, "", "", 8⟩, ⟨"Bainite", 3, 2, false, "", "", 16⟩, ⟨"Martensite", 3, 3, false, "", "", 24⟩, ⟨"Wait", 3, 4, false, "", "", 32⟩, ⟨"Grain", 3, 5, false, "", "", 40⟩, ⟨"Temper", 3, 6, false, "", "", 48⟩]) := by kernel_rfl
      have g30 : Tryz.prog.stoodInHeld 30 = false := by kernel_rfl
      have v30 : Tryz.prog.underlying 30 = some (.struct (Tryz.prog.fieldsOf 30)) := by kernel_rfl
      have w30 : (Tryz.prog.fieldsOf 30).toList = [⟨"Parent", 3, 0, false, "", "", 0⟩, ⟨"Austenite", 3, 1, false, "", "", 8⟩, ⟨"Bainite", 3, 2, false, "", "", 16⟩, ⟨"Martensite", 3, 3, false, "", "", 24⟩, ⟨"Wait", 3, 4, false, "", "", 32⟩, ⟨"Grain", 3, 5, false, "", "", 40⟩, ⟨"Temper", 3, 6, false, "", "", 48⟩] := by kernel_rfl
      have s30 : ∀ w, (sizeOf 30).run Tryz.prog w = .ok 7 w := fun _ => by kernel_rfl
      have p3 : ∀ w, (isAgg 3).run Tryz.prog w = .ok false w := fun _ => by kernel_rfl
      have p30 : ∀ w, (isAgg 30).run Tryz.prog w = .ok true w := fun _ => by kernel_rfl
      have e3 : ∀ (d : Nat) (a b : Int) (w : World), (Op.equalIn (d + 1) 3 (.int .i64 a) (.int .i64 b)).run Tryz.prog w = .ok (a == b) w := fun d a b w => run_equalIn_int w d 3 .i64 .i64 a b u3
      have e30 : ∀ (d : Nat) (xs ys : Array Value) (w : World), (Op.equalIn (d + 1) 30 (.agg xs) (.agg ys)).run Tryz.prog w = (Op.eqFields d xs ys (Tryz.prog.fieldsOf 30).toList).run Tryz.prog w := fun d xs ys w => run_equalIn_struct w d 30 xs ys v30 g30
      simp [ints, e3, e30, Op.eqFields, part, g30, w30, s30, p3, p30]
      try grind
theorem eq33 : EqOk Tryz.prog 33 2 where
  guard := by kernel_rfl
  run := by
    intro xs ys w h1 h2
    match xs, ys, h1, h2 with
    | [a0, a1], [b0, b1], _, _ =>
      have u3 : Tryz.prog.underlying 3 = some (.int .i64) := by kernel_rfl
      have u33 : Tryz.prog.underlying 33 = some (.struct #[⟨"Lo", 3, 0, false, "", "", 0⟩, ⟨"Hi", 3, 1, false, "", "", 8⟩]) := by kernel_rfl
      have g33 : Tryz.prog.stoodInHeld 33 = false := by kernel_rfl
      have v33 : Tryz.prog.underlying 33 = some (.struct (Tryz.prog.fieldsOf 33)) := by kernel_rfl
      have w33 : (Tryz.prog.fieldsOf 33).toList = [⟨"Lo", 3, 0, false, "", "", 0⟩, ⟨"Hi", 3, 1, false, "", "", 8⟩] := by kernel_rfl
      have s33 : ∀ w, (sizeOf 33).run Tryz.prog w = .ok 2 w := fun _ => by kernel_rfl
      have p3 : ∀ w, (isAgg 3).run Tryz.prog w = .ok false w := fun _ => by kernel_rfl
      have p33 : ∀ w, (isAgg 33).run Tryz.prog w = .ok true w := fun _ => by kernel_rfl
      have e3 : ∀ (d : Nat) (a b : Int) (w : World), (Op.equalIn (d + 1) 3 (.int .i64 a) (.int .i64 b)).run Tryz.prog w = .ok (a == b) w := fun d a b w => run_equalIn_int w d 3 .i64 .i64 a b u3
      have e33 : ∀ (d : Nat) (xs ys : Array Value) (w : World), (Op.equalIn (d + 1) 33 (.agg xs) (.agg ys)).run Tryz.prog w = (Op.eqFields d xs ys (Tryz.prog.fieldsOf 33).toList).run Tryz.prog w := fun d xs ys w => run_equalIn_struct w d 33 xs ys v33 g33
      simp [ints, e3, e33, Op.eqFields, part, g33, w33, s33, p3, p33]
      try grind
theorem eq56 : EqOk Tryz.prog 56 14 where
  guard := by kernel_rfl
  run := by
    intro xs ys w h1 h2
    match xs, ys, h1, h2 with
    | [a0, a1, a2, a3, a4, a5, a6, a7, a8, a9, a10, a11, a12, a13], [b0, b1, b2, b3, b4, b5, b6, b7, b8, b9, b10, b11, b12, b13], _, _ =>
      have u3 : Tryz.prog.underlying 3 = some (.int .i64) := by kernel_rfl
      have u33 : Tryz.prog.underlying 33 = some (.struct #[⟨"Lo", 3, 0, false, "", "", 0⟩, ⟨"Hi", 3, 1, false, "", "", 8⟩]) := by kernel_rfl
      have u56 : Tryz.prog.underlying 56 = some (.struct #[⟨"Parent", 33, 0, false, "", "", 0⟩, ⟨"Austenite", 33, 2, false, "", "", 16⟩, ⟨"Bainite", 33, 4, false, "", "", 32⟩, ⟨"Martensite", 33, 6, false, "", "", 48⟩, ⟨"Wait", 33, 8, false, "", "", 64⟩, ⟨"Grain", 33, 10, false, "", "", 80⟩, ⟨"Temper", 33, 12, false, "", "", 96⟩]) := by kernel_rfl
      have g33 : Tryz.prog.stoodInHeld 33 = false := by kernel_rfl
      have v33 : Tryz.prog.underlying 33 = some (.struct (Tryz.prog.fieldsOf 33)) := by kernel_rfl
      have w33 : (Tryz.prog.fieldsOf 33).toList = [⟨"Lo", 3, 0, false, "", "", 0⟩, ⟨"Hi", 3, 1, false, "", "", 8⟩] := by kernel_rfl
      have s33 : ∀ w, (sizeOf 33).run Tryz.prog w = .ok 2 w := fun _ => by kernel_rfl
      have g56 : Tryz.prog.stoodInHeld 56 = false := by kernel_rfl
      have v56 : Tryz.prog.underlying 56 = some (.struct (Tryz.prog.fieldsOf 56)) := by kernel_rfl
      have w56 : (Tryz.prog.fieldsOf 56).toList = [⟨"Parent", 33, 0, false, "", "", 0⟩, ⟨"Austenite", 33, 2, false, "", "", 16⟩, ⟨"Bainite", 33, 4, false, "", "", 32⟩, ⟨"Martensite", 33, 6, false, "", "", 48⟩, ⟨"Wait", 33, 8, false, "", "", 64⟩, ⟨"Grain", 33, 10, false, "", "", 80⟩, ⟨"Temper", 33, 12, false, "", "", 96⟩] := by kernel_rfl
      have s56 : ∀ w, (sizeOf 56).run Tryz.prog w = .ok 14 w := fun _ => by kernel_rfl
      have p3 : ∀ w, (isAgg 3).run Tryz.prog w = .ok false w := fun _ => by kernel_rfl
      have p33 : ∀ w, (isAgg 33).run Tryz.prog w = .ok true w := fun _ => by kernel_rfl
      have p56 : ∀ w, (isAgg 56).run Tryz.prog w = .ok true w := fun _ => by kernel_rfl
      have e3 : ∀ (d : Nat) (a b : Int) (w : World), (Op.equalIn (d + 1) 3 (.int .i64 a) (.int .i64 b)).run Tryz.prog w = .ok (a == b) w := fun d a b w => run_equalIn_int w d 3 .i64 .i64 a b u3
      have e33 : ∀ (d : Nat) (xs ys : Array Value) (w : World), (Op.equalIn (d + 1) 33 (.agg xs) (.agg ys)).run Tryz.prog w = (Op.eqFields d xs ys (Tryz.prog.fieldsOf 33).toList).run Tryz.prog w := fun d xs ys w => run_equalIn_struct w d 33 xs ys v33 g33
      have e56 : ∀ (d : Nat) (xs ys : Array Value) (w : World), (Op.equalIn (d + 1) 56 (.agg xs) (.agg ys)).run Tryz.prog w = (Op.eqFields d xs ys (Tryz.prog.fieldsOf 56).toList).run Tryz.prog w := fun d xs ys w => run_equalIn_struct w d 56 xs ys v56 g56
      simp [ints, e3, e33, e56, Op.eqFields, part, g33, w33, s33, g56, w56, s56, p3, p33, p56]
      try grind
theorem tf3 : TyFact Tryz.prog 3 ti3 := fact
theorem tf4 : TyFact Tryz.prog 4 ti4 := fact
theorem tf22 : TyFact Tryz.prog 22 ti22 := fact
theorem tf23 : TyFact Tryz.prog 23 ti23 := fact
theorem tf24 : TyFact Tryz.prog 24 ti24 := fact
theorem tf25 : TyFact Tryz.prog 25 ti25 := fact
theorem tf26 : TyFact Tryz.prog 26 ti26 := fact
theorem tf27 : TyFact Tryz.prog 27 ti27 := fact
theorem tf28 : TyFact Tryz.prog 28 ti28 := fact
theorem tf29 : TyFact Tryz.prog 29 ti29 := fact
theorem tf30 : TyFact Tryz.prog 30 ti30 := fact (fun n hn => by obtain rfl := Option.some.inj hn; exact eq30)
theorem tf31 : TyFact Tryz.prog 31 ti31 := fact
theorem tf32 : TyFact Tryz.prog 32 ti32 := fact
theorem tf33 : TyFact Tryz.prog 33 ti33 := fact (fun n hn => by obtain rfl := Option.some.inj hn; exact eq33)
theorem tf34 : TyFact Tryz.prog 34 ti34 := fact
theorem tf35 : TyFact Tryz.prog 35 ti35 := fact
theorem tf38 : TyFact Tryz.prog 38 ti38 := fact
theorem tf39 : TyFact Tryz.prog 39 ti39 := fact
theorem tf55 : TyFact Tryz.prog 55 ti55 := fact
theorem tf56 : TyFact Tryz.prog 56 ti56 := fact (fun n hn => by obtain rfl := Option.some.inj hn; exact eq56)
theorem tf57 : TyFact Tryz.prog 57 ti57 := fact
theorem tf58 : TyFact Tryz.prog 58 ti58 := fact
theorem tf67 : TyFact Tryz.prog 67 ti67 := fact
theorem tf68 : TyFact Tryz.prog 68 ti68 := fact
theorem tf69 : TyFact Tryz.prog 69 ti69 := fact
theorem tf80 : TyFact Tryz.prog 80 ti80 := fact
theorem tf89 : TyFact Tryz.prog 89 ti89 := fact
theorem tf90 : TyFact Tryz.prog 90 ti90 := fact
theorem tf91 : TyFact Tryz.prog 91 ti91 := fact
theorem tf92 : TyFact Tryz.prog 92 ti92 := fact
theorem tf101 : TyFact Tryz.prog 101 ti101 := fact
theorem tf102 : TyFact Tryz.prog 102 ti102 := fact
theorem tf108 : TyFact Tryz.prog 108 ti108 := fact
theorem tf111 : TyFact Tryz.prog 111 ti111 := fact
theorem tf115 : TyFact Tryz.prog 115 ti115 := fact
theorem tf116 : TyFact Tryz.prog 116 ti116 := fact
theorem tf117 : TyFact Tryz.prog 117 ti117 := fact
theorem tf119 : TyFact Tryz.prog 119 ti119 := fact
theorem tf120 : TyFact Tryz.prog 120 ti120 := fact
theorem tf127 : TyFact Tryz.prog 127 ti127 := fact
theorem tf128 : TyFact Tryz.prog 128 ti128 := fact
theorem tf129 : TyFact Tryz.prog 129 ti129 := fact
theorem tf130 : TyFact Tryz.prog 130 ti130 := fact
theorem tf131 : TyFact Tryz.prog 131 ti131 := fact
theorem tf132 : TyFact Tryz.prog 132 ti132 := fact
theorem tf133 : TyFact Tryz.prog 133 ti133 := fact
theorem tf134 : TyFact Tryz.prog 134 ti134 := fact
theorem tf137 : TyFact Tryz.prog 137 ti137 := fact
theorem tf138 : TyFact Tryz.prog 138 ti138 := fact
theorem tf139 : TyFact Tryz.prog 139 ti139 := fact
theorem tf142 : TyFact Tryz.prog 142 ti142 := fact
theorem tf145 : TyFact Tryz.prog 145 ti145 := fact
theorem tf148 : TyFact Tryz.prog 148 ti148 := fact
theorem tf151 : TyFact Tryz.prog 151 ti151 := fact
theorem tf160 : TyFact Tryz.prog 160 ti160 := fact
theorem tf161 : TyFact Tryz.prog 161 ti161 := fact
theorem tf162 : TyFact Tryz.prog 162 ti162 := fact
theorem tf164 : TyFact Tryz.prog 164 ti164 := fact
theorem tf166 : TyFact Tryz.prog 166 ti166 := fact
theorem tf167 : TyFact Tryz.prog 167 ti167 := fact
theorem tf168 : TyFact Tryz.prog 168 ti168 := fact
theorem tf172 : TyFact Tryz.prog 172 ti172 := fact
theorem tf173 : TyFact Tryz.prog 173 ti173 := fact
theorem tf175 : TyFact Tryz.prog 175 ti175 := fact
theorem tf177 : TyFact Tryz.prog 177 ti177 := fact
theorem tf179 : TyFact Tryz.prog 179 ti179 := fact
theorem tf183 : TyFact Tryz.prog 183 ti183 := fact
theorem tf184 : TyFact Tryz.prog 184 ti184 := fact
theorem tf188 : TyFact Tryz.prog 188 ti188 := fact
theorem tf189 : TyFact Tryz.prog 189 ti189 := fact
theorem tf191 : TyFact Tryz.prog 191 ti191 := fact
theorem tf192 : TyFact Tryz.prog 192 ti192 := fact
def Facts : List (Nat × TI) → Prop
  | [] => True
  | p :: r => TyFact Tryz.prog p.1 p.2 ∧ Facts r
theorem facts_get : ∀ {l : List (Nat × TI)}, Facts l → ∀ t i, lk l t = some i → TyFact Tryz.prog t i
  | [], _, _, _, h => by cases h
  | (k, x) :: r, h, t, i, hi => by
    simp only [lk] at hi
    split at hi
    · rename_i e; subst e; obtain rfl := Option.some.inj hi; exact h.1
    · exact facts_get h.2 t i hi
theorem ty_ok : TyOk Tryz.prog ty := facts_get (l := tyl) ⟨tf3, tf4, tf22, tf23, tf24, tf25, tf26, tf27, tf28, tf29, tf30, tf31, tf32, tf33, tf34, tf35, tf38, tf39, tf55, tf56, tf57, tf58, tf67, tf68, tf69, tf80, tf89, tf90, tf91, tf92, tf101, tf102, tf108, tf111, tf115, tf116, tf117, tf119, tf120, tf127, tf128, tf129, tf130, tf131, tf132, tf133, tf134, tf137, tf138, tf139, tf142, tf145, tf148, tf151, tf160, tf161, tf162, tf164, tf166, tf167, tf168, tf172, tf173, tf175, tf177, tf179, tf183, tf184, tf188, tf189, tf191, tf192, trivial⟩

end Go.Proofs.YtfkmbdfajpdjjaaGreatDoor
