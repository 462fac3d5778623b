/-
  The types of the translation, as the abstract machine uses them: a table, and that it agrees with the program's. Written by a program of ours (gen_ty.py).
-/
import Derived.Test.YthcpkkpjegldoaaDoorProg
import Derived.Test.YthcpkkpjegldoaaDoorAbsC
import Derived.KernelRfl
set_option linter.unusedSimpArgs false
set_option linter.unusedVariables false
namespace Go.Proofs.YthcpkkpjegldoaaDoor
open Go.Abs

def ti3 : TI := ⟨1, 8, false, [.int .i64 0], .int .i64, none⟩
def ti4 : TI := ⟨1, 1, false, [.bool false], .bool, none⟩
def ti5 : TI := ⟨1, 1, false, [.int .u8 0], .int .u8, none⟩
def ti9 : TI := ⟨1, 16, false, [.string .empty], .string, none⟩
def ti22 : TI := ⟨1, 24, false, [.slice none 0 0], .slice 69, none⟩
def ti23 : TI := ⟨2, 32, true, [.int .i64 0, .slice none 0 0], .struct #[⟨"Start", 3, 0, false, "", "", 0⟩, ⟨"Elements", 22, 1, false, "", "", 8⟩], none⟩
def ti24 : TI := ⟨2, 32, true, [.int .i64 0, .slice none 0 0], .struct #[⟨"Start", 3, 0, false, "", "", 0⟩, ⟨"Elements", 22, 1, false, "", "", 8⟩], none⟩
def ti26 : TI := ⟨1, 8, false, [.int .i64 0], .int .i64, none⟩
def ti30 : TI := ⟨2, 16, true, [.int .i64 0, .int .i64 0], .struct #[⟨"Lo", 3, 0, false, "", "", 0⟩, ⟨"Hi", 3, 1, false, "", "", 8⟩], none⟩
def ti31 : TI := ⟨2, 16, true, [.int .i64 0, .int .i64 0], .struct #[⟨"Lo", 3, 0, false, "", "", 0⟩, ⟨"Hi", 3, 1, false, "", "", 8⟩], some [true, true]⟩
def ti38 : TI := ⟨7, 56, true, [.int .i64 0, .int .i64 0, .int .i64 0, .int .i64 0, .int .i64 0, .int .i64 0, .int .i64 0], .struct #[⟨"Parent", 3, 0, false, "", "", 0⟩, ⟨"Austenite", 3, 1, false, "", "", 8⟩, ⟨"Bainite", 3, 2, false, "", "", 16⟩, ⟨"Martensite", 3, 3, false, "", "", 24⟩, ⟨"Wait", 3, 4, false, "", "", 32⟩, ⟨"Grain", 3, 5, false, "", "", 40⟩, ⟨"Temper", 3, 6, false, "", "", 48⟩], none⟩
def ti39 : TI := ⟨7, 56, true, [.int .i64 0, .int .i64 0, .int .i64 0, .int .i64 0, .int .i64 0, .int .i64 0, .int .i64 0], .struct #[⟨"Parent", 3, 0, false, "", "", 0⟩, ⟨"Austenite", 3, 1, false, "", "", 8⟩, ⟨"Bainite", 3, 2, false, "", "", 16⟩, ⟨"Martensite", 3, 3, false, "", "", 24⟩, ⟨"Wait", 3, 4, false, "", "", 32⟩, ⟨"Grain", 3, 5, false, "", "", 40⟩, ⟨"Temper", 3, 6, false, "", "", 48⟩], some [true, true, true, true, true, true, true]⟩
def ti42 : TI := ⟨1, 24, false, [.slice none 0 0], .slice 81, none⟩
def ti43 : TI := ⟨1, 24, false, [.slice none 0 0], .slice 83, none⟩
def ti44 : TI := ⟨1, 24, false, [.slice none 0 0], .slice 85, none⟩
def ti45 : TI := ⟨1, 24, false, [.slice none 0 0], .slice 87, none⟩
def ti46 : TI := ⟨4, 32, true, [.int .i64 0, .int .i64 0, .int .i64 0, .int .i64 0], .array 4 3, none⟩
def ti47 : TI := ⟨8, 128, true, [.slice none 0 0, .slice none 0 0, .slice none 0 0, .slice none 0 0, .int .i64 0, .int .i64 0, .int .i64 0, .int .i64 0], .struct #[⟨"Heats", 42, 0, false, "", "", 0⟩, ⟨"Cools", 43, 1, false, "", "", 24⟩, ⟨"Colds", 44, 2, false, "", "", 48⟩, ⟨"Tempers", 45, 3, false, "", "", 72⟩, ⟨"Hard", 46, 4, false, "", "", 96⟩], none⟩
def ti48 : TI := ⟨8, 128, true, [.slice none 0 0, .slice none 0 0, .slice none 0 0, .slice none 0 0, .int .i64 0, .int .i64 0, .int .i64 0, .int .i64 0], .struct #[⟨"Heats", 42, 0, false, "", "", 0⟩, ⟨"Cools", 43, 1, false, "", "", 24⟩, ⟨"Colds", 44, 2, false, "", "", 48⟩, ⟨"Tempers", 45, 3, false, "", "", 72⟩, ⟨"Hard", 46, 4, false, "", "", 96⟩], none⟩
def ti51 : TI := ⟨1, 24, false, [.slice none 0 0], .slice 3, none⟩
def ti52 : TI := ⟨3, 24, true, [.int .i64 0, .int .i64 0, .int .i64 0], .struct #[⟨"Heat", 3, 0, false, "", "", 0⟩, ⟨"Cool", 3, 1, false, "", "", 8⟩, ⟨"Cold", 3, 2, false, "", "", 16⟩], none⟩
def ti53 : TI := ⟨3, 24, true, [.int .i64 0, .int .i64 0, .int .i64 0], .struct #[⟨"Heat", 3, 0, false, "", "", 0⟩, ⟨"Cool", 3, 1, false, "", "", 8⟩, ⟨"Cold", 3, 2, false, "", "", 16⟩], none⟩
def ti54 : TI := ⟨4, 48, true, [.slice none 0 0, .int .i64 0, .int .i64 0, .int .i64 0], .struct #[⟨"Curve", 51, 0, false, "", "", 0⟩, ⟨"Pick", 53, 1, false, "", "", 24⟩], none⟩
def ti55 : TI := ⟨4, 48, true, [.slice none 0 0, .int .i64 0, .int .i64 0, .int .i64 0], .struct #[⟨"Curve", 51, 0, false, "", "", 0⟩, ⟨"Pick", 53, 1, false, "", "", 24⟩], none⟩
def ti58 : TI := ⟨14, 112, true, [.int .i64 0, .int .i64 0, .int .i64 0, .int .i64 0, .int .i64 0, .int .i64 0, .int .i64 0, .int .i64 0, .int .i64 0, .int .i64 0, .int .i64 0, .int .i64 0, .int .i64 0, .int .i64 0], .struct #[⟨"Parent", 31, 0, false, "", "", 0⟩, ⟨"Austenite", 31, 2, false, "", "", 16⟩, ⟨"Bainite", 31, 4, false, "", "", 32⟩, ⟨"Martensite", 31, 6, false, "", "", 48⟩, ⟨"Wait", 31, 8, false, "", "", 64⟩, ⟨"Grain", 31, 10, false, "", "", 80⟩, ⟨"Temper", 31, 12, false, "", "", 96⟩], none⟩
def ti59 : TI := ⟨14, 112, true, [.int .i64 0, .int .i64 0, .int .i64 0, .int .i64 0, .int .i64 0, .int .i64 0, .int .i64 0, .int .i64 0, .int .i64 0, .int .i64 0, .int .i64 0, .int .i64 0, .int .i64 0, .int .i64 0], .struct #[⟨"Parent", 31, 0, false, "", "", 0⟩, ⟨"Austenite", 31, 2, false, "", "", 16⟩, ⟨"Bainite", 31, 4, false, "", "", 32⟩, ⟨"Martensite", 31, 6, false, "", "", 48⟩, ⟨"Wait", 31, 8, false, "", "", 64⟩, ⟨"Grain", 31, 10, false, "", "", 80⟩, ⟨"Temper", 31, 12, false, "", "", 96⟩], none⟩
def ti61 : TI := ⟨1, 24, false, [.slice none 0 0], .slice 31, none⟩
def ti66 : TI := ⟨1, 8, false, [.nilFunc], .func #[3] #[4] false, none⟩
def ti67 : TI := ⟨1, 8, false, [.map none], .map 9 4, none⟩
def ti68 : TI := ⟨4, 40, true, [.string .empty, .int .i64 0, .int .i64 0, .int .i64 0], .struct #[⟨"Name", 9, 0, false, "", "", 0⟩, ⟨"Amount", 31, 1, false, "", "", 16⟩, ⟨"Weight", 3, 3, false, "", "", 32⟩], none⟩
def ti69 : TI := ⟨4, 40, true, [.string .empty, .int .i64 0, .int .i64 0, .int .i64 0], .struct #[⟨"Name", 9, 0, false, "", "", 0⟩, ⟨"Amount", 31, 1, false, "", "", 16⟩, ⟨"Weight", 3, 3, false, "", "", 32⟩], none⟩
def ti71 : TI := ⟨1, 8, false, [.nilFunc], .func #[3] #[3] false, none⟩
def ti77 : TI := ⟨8, 128, true, [.slice none 0 0, .slice none 0 0, .slice none 0 0, .slice none 0 0, .int .i64 0, .int .i64 0, .int .i64 0, .int .i64 0], .struct #[⟨"SteelRules", 48, 0, true, "", "", 0⟩], none⟩
def ti78 : TI := ⟨8, 128, true, [.slice none 0 0, .slice none 0 0, .slice none 0 0, .slice none 0 0, .int .i64 0, .int .i64 0, .int .i64 0, .int .i64 0], .struct #[⟨"SteelRules", 48, 0, true, "", "", 0⟩], none⟩
def ti80 : TI := ⟨4, 32, true, [.int .i64 0, .int .i64 0, .int .i64 0, .int .i64 0], .struct #[⟨"Kelvin", 3, 0, false, "", "", 0⟩, ⟨"Rate", 31, 1, false, "", "", 8⟩, ⟨"Growth", 3, 3, false, "", "", 24⟩], none⟩
def ti81 : TI := ⟨4, 32, true, [.int .i64 0, .int .i64 0, .int .i64 0, .int .i64 0], .struct #[⟨"Kelvin", 3, 0, false, "", "", 0⟩, ⟨"Rate", 31, 1, false, "", "", 8⟩, ⟨"Growth", 3, 3, false, "", "", 24⟩], none⟩
def ti82 : TI := ⟨5, 40, true, [.int .i64 0, .int .i64 0, .int .i64 0, .int .i64 0, .int .i64 0], .struct #[⟨"Kelvin", 3, 0, false, "", "", 0⟩, ⟨"Wait", 31, 1, false, "", "", 8⟩, ⟨"Rate", 31, 3, false, "", "", 24⟩], none⟩
def ti83 : TI := ⟨5, 40, true, [.int .i64 0, .int .i64 0, .int .i64 0, .int .i64 0, .int .i64 0], .struct #[⟨"Kelvin", 3, 0, false, "", "", 0⟩, ⟨"Wait", 31, 1, false, "", "", 8⟩, ⟨"Rate", 31, 3, false, "", "", 24⟩], none⟩
def ti84 : TI := ⟨3, 24, true, [.int .i64 0, .int .i64 0, .int .i64 0], .struct #[⟨"Kelvin", 3, 0, false, "", "", 0⟩, ⟨"Share", 31, 1, false, "", "", 8⟩], none⟩
def ti85 : TI := ⟨3, 24, true, [.int .i64 0, .int .i64 0, .int .i64 0], .struct #[⟨"Kelvin", 3, 0, false, "", "", 0⟩, ⟨"Share", 31, 1, false, "", "", 8⟩], none⟩
def ti86 : TI := ⟨2, 16, true, [.int .i64 0, .int .i64 0], .struct #[⟨"Kelvin", 3, 0, false, "", "", 0⟩, ⟨"Rate", 3, 1, false, "", "", 8⟩], none⟩
def ti87 : TI := ⟨2, 16, true, [.int .i64 0, .int .i64 0], .struct #[⟨"Kelvin", 3, 0, false, "", "", 0⟩, ⟨"Rate", 3, 1, false, "", "", 8⟩], none⟩
def ti92 : TI := ⟨1, 8, false, [.nilFunc], .func #[31] #[3] false, none⟩
def ti94 : TI := ⟨1, 8, false, [.nilFunc], .func #[31] #[4] false, none⟩
def ti95 : TI := ⟨1, 8, false, [.nilFunc], .func #[92] #[3] false, none⟩
def ti96 : TI := ⟨1, 24, false, [.slice none 0 0], .slice 26, none⟩
def ti100 : TI := ⟨7, 56, true, [.int .i64 0, .int .i64 0, .int .i64 0, .int .i64 0, .int .i64 0, .int .i64 0, .int .i64 0], .array 7 3, none⟩
def ti101 : TI := ⟨1, 8, false, [.pointer none], .pointer 31, none⟩
def ti102 : TI := ⟨7, 56, true, [.pointer none, .pointer none, .pointer none, .pointer none, .pointer none, .pointer none, .pointer none], .array 7 101, none⟩
def ti104 : TI := ⟨1, 8, false, [.pointer none], .pointer 59, none⟩
def ti105 : TI := ⟨8, 64, true, [.int .i64 0, .int .i64 0, .int .i64 0, .int .i64 0, .int .i64 0, .int .i64 0, .int .i64 0, .int .i64 0], .array 4 31, none⟩
def ti108 : TI := ⟨1, 24, false, [.slice none 0 0], .slice 114, none⟩
def ti109 : TI := ⟨4, 96, true, [.slice none 0 0, .slice none 0 0, .slice none 0 0, .slice none 0 0], .array 4 108, none⟩
def ti111 : TI := ⟨1, 8, false, [.pointer none], .pointer 114, none⟩
def ti113 : TI := ⟨3, 40, true, [.int .i64 0, .slice none 0 0, .int .i64 0], .struct #[⟨"kelvin", 3, 0, false, "", "martensite/steel", 0⟩, ⟨"ranges", 61, 1, false, "", "martensite/steel", 8⟩, ⟨"other", 3, 2, false, "", "martensite/steel", 32⟩], none⟩
def ti114 : TI := ⟨3, 40, true, [.int .i64 0, .slice none 0 0, .int .i64 0], .struct #[⟨"kelvin", 3, 0, false, "", "martensite/steel", 0⟩, ⟨"ranges", 61, 1, false, "", "martensite/steel", 8⟩, ⟨"other", 3, 2, false, "", "martensite/steel", 32⟩], none⟩
def ti115 : TI := ⟨1, 24, false, [.slice none 0 0], .slice 108, none⟩
def ti118 : TI := ⟨1, 8, false, [.pointer none], .pointer 81, none⟩
def ti121 : TI := ⟨1, 8, false, [.pointer none], .pointer 83, none⟩
def ti123 : TI := ⟨1, 8, false, [.pointer none], .pointer 85, none⟩
def ti126 : TI := ⟨1, 8, false, [.pointer none], .pointer 87, none⟩
def ti131 : TI := ⟨1, 8, false, [.nilFunc], .func #[81] #[4] false, none⟩
def ti133 : TI := ⟨1, 8, false, [.nilFunc], .func #[83] #[4] false, none⟩
def ti135 : TI := ⟨1, 8, false, [.nilFunc], .func #[85] #[4] false, none⟩
def ti137 : TI := ⟨1, 8, false, [.nilFunc], .func #[87] #[4] false, none⟩
def ti138 : TI := ⟨1, 8, false, [.nilFunc], .func #[146] #[] false, none⟩
def ti139 : TI := ⟨1, 8, false, [.nilFunc], .func #[146] #[] false, none⟩
def ti143 : TI := ⟨1, 8, false, [.nilFunc], .func #[147] #[] false, none⟩
def ti144 : TI := ⟨1, 8, false, [.nilFunc], .func #[147] #[] false, none⟩
def ti146 : TI := ⟨1, 8, false, [.nilFunc], .func #[3, 81] #[4] false, none⟩
def ti147 : TI := ⟨1, 8, false, [.nilFunc], .func #[3, 87] #[4] false, none⟩
def tyl : List (Nat × TI) := [(3, ti3), (4, ti4), (5, ti5), (9, ti9), (22, ti22), (23, ti23), (24, ti24), (26, ti26), (30, ti30), (31, ti31), (38, ti38), (39, ti39), (42, ti42), (43, ti43), (44, ti44), (45, ti45), (46, ti46), (47, ti47), (48, ti48), (51, ti51), (52, ti52), (53, ti53), (54, ti54), (55, ti55), (58, ti58), (59, ti59), (61, ti61), (66, ti66), (67, ti67), (68, ti68), (69, ti69), (71, ti71), (77, ti77), (78, ti78), (80, ti80), (81, ti81), (82, ti82), (83, ti83), (84, ti84), (85, ti85), (86, ti86), (87, ti87), (92, ti92), (94, ti94), (95, ti95), (96, ti96), (100, ti100), (101, ti101), (102, ti102), (104, ti104), (105, ti105), (108, ti108), (109, ti109), (111, ti111), (113, ti113), (114, ti114), (115, ti115), (118, ti118), (121, ti121), (123, ti123), (126, ti126), (131, ti131), (133, ti133), (135, ti135), (137, ti137), (138, ti138), (139, ti139), (143, ti143), (144, ti144), (146, ti146), (147, ti147)]
def ty : Tys := fun t => lk tyl t
@[go_sem] theorem ty_3 : ty 3 = some ti3 := by kernel_rfl
@[go_sem] theorem ty_4 : ty 4 = some ti4 := by kernel_rfl
@[go_sem] theorem ty_5 : ty 5 = some ti5 := by kernel_rfl
@[go_sem] theorem ty_9 : ty 9 = some ti9 := by kernel_rfl
@[go_sem] theorem ty_22 : ty 22 = some ti22 := by kernel_rfl
@[go_sem] theorem ty_23 : ty 23 = some ti23 := by kernel_rfl
@[go_sem] theorem ty_24 : ty 24 = some ti24 := by kernel_rfl
@[go_sem] theorem ty_26 : ty 26 = some ti26 := by kernel_rfl
@[go_sem] theorem ty_30 : ty 30 = some ti30 := by kernel_rfl
@[go_sem] theorem ty_31 : ty 31 = some ti31 := by kernel_rfl
@[go_sem] theorem ty_38 : ty 38 = some ti38 := by kernel_rfl
@[go_sem] theorem ty_39 : ty 39 = some ti39 := by kernel_rfl
@[go_sem] theorem ty_42 : ty 42 = some ti42 := by kernel_rfl
@[go_sem] theorem ty_43 : ty 43 = some ti43 := by kernel_rfl
@[go_sem] theorem ty_44 : ty 44 = some ti44 := by kernel_rfl
@[go_sem] theorem ty_45 : ty 45 = some ti45 := by kernel_rfl
@[go_sem] theorem ty_46 : ty 46 = some ti46 := by kernel_rfl
@[go_sem] theorem ty_47 : ty 47 = some ti47 := by kernel_rfl
@[go_sem] theorem ty_48 : ty 48 = some ti48 := by kernel_rfl
@[go_sem] theorem ty_51 : ty 51 = some ti51 := by kernel_rfl
@[go_sem] theorem ty_52 : ty 52 = some ti52 := by kernel_rfl
@[go_sem] theorem ty_53 : ty 53 = some ti53 := by kernel_rfl
@[go_sem] theorem ty_54 : ty 54 = some ti54 := by kernel_rfl
@[go_sem] theorem ty_55 : ty 55 = some ti55 := by kernel_rfl
@[go_sem] theorem ty_58 : ty 58 = some ti58 := by kernel_rfl
@[go_sem] theorem ty_59 : ty 59 = some ti59 := by kernel_rfl
@[go_sem] theorem ty_61 : ty 61 = some ti61 := by kernel_rfl
@[go_sem] theorem ty_66 : ty 66 = some ti66 := by kernel_rfl
@[go_sem] theorem ty_67 : ty 67 = some ti67 := by kernel_rfl
@[go_sem] theorem ty_68 : ty 68 = some ti68 := by kernel_rfl
@[go_sem] theorem ty_69 : ty 69 = some ti69 := by kernel_rfl
@[go_sem] theorem ty_71 : ty 71 = some ti71 := by kernel_rfl
@[go_sem] theorem ty_77 : ty 77 = some ti77 := by kernel_rfl
@[go_sem] theorem ty_78 : ty 78 = some ti78 := by kernel_rfl
@[go_sem] theorem ty_80 : ty 80 = some ti80 := by kernel_rfl
@[go_sem] theorem ty_81 : ty 81 = some ti81 := by kernel_rfl
@[go_sem] theorem ty_82 : ty 82 = some ti82 := by kernel_rfl
@[go_sem] theorem ty_83 : ty 83 = some ti83 := by kernel_rfl
@[go_sem] theorem ty_84 : ty 84 = some ti84 := by kernel_rfl
@[go_sem] theorem ty_85 : ty 85 = some ti85 := by kernel_rfl
@[go_sem] theorem ty_86 : ty 86 = some ti86 := by kernel_rfl
@[go_sem] theorem ty_87 : ty 87 = some ti87 := by kernel_rfl
@[go_sem] theorem ty_92 : ty 92 = some ti92 := by kernel_rfl
@[go_sem] theorem ty_94 : ty 94 = some ti94 := by kernel_rfl
@[go_sem] theorem ty_95 : ty 95 = some ti95 := by kernel_rfl
@[go_sem] theorem ty_96 : ty 96 = some ti96 := by kernel_rfl
@[go_sem] theorem ty_100 : ty 100 = some ti100 := by kernel_rfl
@[go_sem] theorem ty_101 : ty 101 = some ti101 := by kernel_rfl
@[go_sem] theorem ty_102 : ty 102 = some ti102 := by kernel_rfl
@[go_sem] theorem ty_104 : ty 104 = some ti104 := by kernel_rfl
@[go_sem] theorem ty_105 : ty 105 = some ti105 := by kernel_rfl
@[go_sem] theorem ty_108 : ty 108 = some ti108 := by kernel_rfl
@[go_sem] theorem ty_109 : ty 109 = some ti109 := by kernel_rfl
@[go_sem] theorem ty_111 : ty 111 = some ti111 := by kernel_rfl
@[go_sem] theorem ty_113 : ty 113 = some ti113 := by kernel_rfl
@[go_sem] theorem ty_114 : ty 114 = some ti114 := by kernel_rfl
@[go_sem] theorem ty_115 : ty 115 = some ti115 := by kernel_rfl
@[go_sem] theorem ty_118 : ty 118 = some ti118 := by kernel_rfl
@[go_sem] theorem ty_121 : ty 121 = some ti121 := by kernel_rfl
@[go_sem] theorem ty_123 : ty 123 = some ti123 := by kernel_rfl
@[go_sem] theorem ty_126 : ty 126 = some ti126 := by kernel_rfl
@[go_sem] theorem ty_131 : ty 131 = some ti131 := by kernel_rfl
@[go_sem] theorem ty_133 : ty 133 = some ti133 := by kernel_rfl
@[go_sem] theorem ty_135 : ty 135 = some ti135 := by kernel_rfl
@[go_sem] theorem ty_137 : ty 137 = some ti137 := by kernel_rfl
@[go_sem] theorem ty_138 : ty 138 = some ti138 := by kernel_rfl
@[go_sem] theorem ty_139 : ty 139 = some ti139 := by kernel_rfl
@[go_sem] theorem ty_143 : ty 143 = some ti143 := by kernel_rfl
@[go_sem] theorem ty_144 : ty 144 = some ti144 := by kernel_rfl
@[go_sem] theorem ty_146 : ty 146 = some ti146 := by kernel_rfl
@[go_sem] theorem ty_147 : ty 147 = some ti147 := by kernel_rfl
attribute [go_sem] ti3 ti4 ti5 ti9 ti22 ti23 ti24 ti26 ti30 ti31 ti38 ti39 ti42 ti43 ti44 ti45 ti46 ti47 ti48 ti51 ti52 ti53 ti54 ti55 ti58 ti59 ti61 ti66 ti67 ti68 ti69 ti71 ti77 ti78 ti80 ti81 ti82 ti83 ti84 ti85 ti86 ti87 ti92 ti94 ti95 ti96 ti100 ti101 ti102 ti104 ti105 ti108 ti109 ti111 ti113 ti114 ti115 ti118 ti121 ti123 ti126 ti131 ti133 ti135 ti137 ti138 ti139 ti143 ti144 ti146 ti147

def zv (i : TI) : Value := if i.agg = true then .agg i.zero.toArray else i.zero.headD .nilFunc
theorem fact {t : Nat} {i : TI} (he : ∀ n, i.eqn = some n → EqOk Tryd.prog t n := by (intro n hn; cases hn; done)) (h1 : (Tryd.prog.info? t).map (fun i => (i.size, i.bytes, i.zero)) = some (i.size, i.bytes, some (zv i)) := by kernel_rfl) (h2 : Tryd.prog.underlying t = some i.desc := by kernel_rfl) (hz : (zv i).cells.toList = i.zero := by rfl)
    (ha : i.agg = (match i.desc with | .struct _ | .array _ _ => true | _ => false) := by rfl) (ho : i.agg = false → i.size = 1 := by first | (intro _; rfl) | (intro h; cases h)) (hl : i.zero.length = i.size := by rfl) : TyFact Tryd.prog t i := by
  have key : ∃ info, Tryd.prog.info? t = some info ∧ info.size = i.size ∧ info.bytes = i.bytes ∧ info.zero = some (zv i) := by
    cases hi : Tryd.prog.info? t with
    | none => rw [hi] at h1; cases h1
    | some info =>
      rw [hi] at h1
      simp only [Option.map_some, Option.some.injEq, Prod.mk.injEq] at h1
      exact ⟨info, rfl, h1.1, h1.2.1, h1.2.2⟩
  obtain ⟨info, k1, k2, k3, k4⟩ := key
  exact ⟨⟨info, zv i, k1, k2, k3, k4, hz⟩, h2, ha, ho, hl, he, fun h => ⟨info, k1, by rw [k4]; simp [zv, h]⟩⟩

theorem eq31 : EqOk Tryd.prog 31 [true, true] where
  guard := by kernel_rfl
  run := by
    intro xs ys w h1 h2
    obtain ⟨a0, xs0, rfl, h1_0⟩ := kindsI h1
    obtain ⟨b0, ys0, rfl, h2_0⟩ := kindsI h2
    obtain ⟨a1, xs1, rfl, h1_1⟩ := kindsI h1_0
    obtain ⟨b1, ys1, rfl, h2_1⟩ := kindsI h2_0
    obtain rfl := kindsN h1_1
    obtain rfl := kindsN h2_1
    have u3 : Tryd.prog.underlying 3 = some (.int .i64) := by kernel_rfl
    have u31 : Tryd.prog.underlying 31 = some (.struct #[⟨"Lo", 3, 0, false, "", "", 0⟩, ⟨"Hi", 3, 1, false, "", "", 8⟩]) := by kernel_rfl
    have g31 : Tryd.prog.stoodInHeld 31 = false := by kernel_rfl
    have v31 : Tryd.prog.underlying 31 = some (.struct (Tryd.prog.fieldsOf 31)) := by kernel_rfl
    have w31 : (Tryd.prog.fieldsOf 31).toList = [⟨"Lo", 3, 0, false, "", "", 0⟩, ⟨"Hi", 3, 1, false, "", "", 8⟩] := by kernel_rfl
    have s31 : ∀ w, (sizeOf 31).run Tryd.prog w = .ok 2 w := fun _ => by kernel_rfl
    have p3 : ∀ w, (isAgg 3).run Tryd.prog w = .ok false w := fun _ => by kernel_rfl
    have p31 : ∀ w, (isAgg 31).run Tryd.prog w = .ok true w := fun _ => by kernel_rfl
    have e3 : ∀ (d : Nat) (a b : Int) (w : World), (Op.equalIn (d + 1) 3 (.int .i64 a) (.int .i64 b)).run Tryd.prog w = .ok (a == b) w := fun d a b w => run_equalIn_int w d 3 .i64 .i64 a b u3
    have e31 : ∀ (d : Nat) (xs ys : Array Value) (w : World), (Op.equalIn (d + 1) 31 (.agg xs) (.agg ys)).run Tryd.prog w = (Op.eqFields d xs ys (Tryd.prog.fieldsOf 31).toList).run Tryd.prog w := fun d xs ys w => run_equalIn_struct w d 31 xs ys v31 g31
    simp [evs, EV.val, e3, e31, Op.eqFields, part, g31, w31, s31, p3, p31]
    try grind
theorem eq39 : EqOk Tryd.prog 39 [true, true, true, true, true, true, true] where
  guard := by kernel_rfl
  run := by
    intro xs ys w h1 h2
    obtain ⟨a0, xs0, rfl, h1_0⟩ := kindsI h1
    obtain ⟨b0, ys0, rfl, h2_0⟩ := kindsI h2
    obtain ⟨a1, xs1, rfl, h1_1⟩ := kindsI h1_0
    obtain ⟨b1, ys1, rfl, h2_1⟩ := kindsI h2_0
    obtain ⟨a2, xs2, rfl, h1_2⟩ := kindsI h1_1
    obtain ⟨b2, ys2, rfl, h2_2⟩ := kindsI h2_1
    obtain ⟨a3, xs3, rfl, h1_3⟩ := kindsI h1_2
    obtain ⟨b3, ys3, rfl, h2_3⟩ := kindsI h2_2
    obtain ⟨a4, xs4, rfl, h1_4⟩ := kindsI h1_3
    obtain ⟨b4, ys4, rfl, h2_4⟩ := kindsI h2_3
    obtain ⟨a5, xs5, rfl, h1_5⟩ := kindsI h1_4
    obtain ⟨b5, ys5, rfl, h2_5⟩ := kindsI h2_4
    obtain ⟨a6, xs6, rfl, h1_6⟩ := kindsI h1_5
    obtain ⟨b6, ys6, rfl, h2_6⟩ := kindsI h2_5
    obtain rfl := kindsN h1_6
    obtain rfl := kindsN h2_6
    have u3 : Tryd.prog.underlying 3 = some (.int .i64) := by kernel_rfl
    have u39 : Tryd.prog.underlying 39 = some (.struct #[⟨"Parent", 3, 0, false, "", "", 0⟩, ⟨"Austenite", 3, 1, false, "", "", 8⟩, ⟨"Bainite", 3, 2, false, "", "", 16⟩, ⟨"Martensite", 3, 3, false, "", "", 24⟩, ⟨"Wait", 3, 4, false, "", "", 32⟩, ⟨"Grain", 3, 5, false, "", "", 40⟩, ⟨"Temper", 3, 6, false, "", "", 48⟩]) := by kernel_rfl
    have g39 : Tryd.prog.stoodInHeld 39 = false := by kernel_rfl
    have v39 : Tryd.prog.underlying 39 = some (.struct (Tryd.prog.fieldsOf 39)) := by kernel_rfl
    have w39 : (Tryd.prog.fieldsOf 39).toList = [⟨"Parent", 3, 0, false, "", "", 0⟩, ⟨"Austenite", 3, 1, false, "", "", 8⟩, ⟨"Bainite", 3, 2, false, "", "", 16⟩, ⟨"Martensite", 3, 3, false, "", "", 24⟩, ⟨"Wait", 3, 4, false, "", "", 32⟩, ⟨"Grain", 3, 5, false, "", "", 40⟩, ⟨"Temper", 3, 6, false, "", "", 48⟩] := by kernel_rfl
    have s39 : ∀ w, (sizeOf 39).run Tryd.prog w = .ok 7 w := fun _ => by kernel_rfl
    have p3 : ∀ w, (isAgg 3).run Tryd.prog w = .ok false w := fun _ => by kernel_rfl
    have p39 : ∀ w, (isAgg 39).run Tryd.prog w = .ok true w := fun _ => by kernel_rfl
    have e3 : ∀ (d : Nat) (a b : Int) (w : World), (Op.equalIn (d + 1) 3 (.int .i64 a) (.int .i64 b)).run Tryd.prog w = .ok (a == b) w := fun d a b w => run_equalIn_int w d 3 .i64 .i64 a b u3
    have e39 : ∀ (d : Nat) (xs ys : Array Value) (w : World), (Op.equalIn (d + 1) 39 (.agg xs) (.agg ys)).run Tryd.prog w = (Op.eqFields d xs ys (Tryd.prog.fieldsOf 39).toList).run Tryd.prog w := fun d xs ys w => run_equalIn_struct w d 39 xs ys v39 g39
    simp [evs, EV.val, e3, e39, Op.eqFields, part, g39, w39, s39, p3, p39]
    try grind
theorem tf3 : TyFact Tryd.prog 3 ti3 := fact
theorem tf4 : TyFact Tryd.prog 4 ti4 := fact
theorem tf5 : TyFact Tryd.prog 5 ti5 := fact
theorem tf9 : TyFact Tryd.prog 9 ti9 := fact
theorem tf22 : TyFact Tryd.prog 22 ti22 := fact
theorem tf23 : TyFact Tryd.prog 23 ti23 := fact
theorem tf24 : TyFact Tryd.prog 24 ti24 := fact
theorem tf26 : TyFact Tryd.prog 26 ti26 := fact
theorem tf30 : TyFact Tryd.prog 30 ti30 := fact
theorem tf31 : TyFact Tryd.prog 31 ti31 := fact (fun n hn => by obtain rfl := Option.some.inj hn; exact eq31)
theorem tf38 : TyFact Tryd.prog 38 ti38 := fact
theorem tf39 : TyFact Tryd.prog 39 ti39 := fact (fun n hn => by obtain rfl := Option.some.inj hn; exact eq39)
theorem tf42 : TyFact Tryd.prog 42 ti42 := fact
theorem tf43 : TyFact Tryd.prog 43 ti43 := fact
theorem tf44 : TyFact Tryd.prog 44 ti44 := fact
theorem tf45 : TyFact Tryd.prog 45 ti45 := fact
theorem tf46 : TyFact Tryd.prog 46 ti46 := fact
theorem tf47 : TyFact Tryd.prog 47 ti47 := fact
theorem tf48 : TyFact Tryd.prog 48 ti48 := fact
theorem tf51 : TyFact Tryd.prog 51 ti51 := fact
theorem tf52 : TyFact Tryd.prog 52 ti52 := fact
theorem tf53 : TyFact Tryd.prog 53 ti53 := fact
theorem tf54 : TyFact Tryd.prog 54 ti54 := fact
theorem tf55 : TyFact Tryd.prog 55 ti55 := fact
theorem tf58 : TyFact Tryd.prog 58 ti58 := fact
theorem tf59 : TyFact Tryd.prog 59 ti59 := fact
theorem tf61 : TyFact Tryd.prog 61 ti61 := fact
theorem tf66 : TyFact Tryd.prog 66 ti66 := fact
theorem tf67 : TyFact Tryd.prog 67 ti67 := fact
theorem tf68 : TyFact Tryd.prog 68 ti68 := fact
theorem tf69 : TyFact Tryd.prog 69 ti69 := fact
theorem tf71 : TyFact Tryd.prog 71 ti71 := fact
theorem tf77 : TyFact Tryd.prog 77 ti77 := fact
theorem tf78 : TyFact Tryd.prog 78 ti78 := fact
theorem tf80 : TyFact Tryd.prog 80 ti80 := fact
theorem tf81 : TyFact Tryd.prog 81 ti81 := fact
theorem tf82 : TyFact Tryd.prog 82 ti82 := fact
theorem tf83 : TyFact Tryd.prog 83 ti83 := fact
theorem tf84 : TyFact Tryd.prog 84 ti84 := fact
theorem tf85 : TyFact Tryd.prog 85 ti85 := fact
theorem tf86 : TyFact Tryd.prog 86 ti86 := fact
theorem tf87 : TyFact Tryd.prog 87 ti87 := fact
theorem tf92 : TyFact Tryd.prog 92 ti92 := fact
theorem tf94 : TyFact Tryd.prog 94 ti94 := fact
theorem tf95 : TyFact Tryd.prog 95 ti95 := fact
theorem tf96 : TyFact Tryd.prog 96 ti96 := fact
theorem tf100 : TyFact Tryd.prog 100 ti100 := fact
theorem tf101 : TyFact Tryd.prog 101 ti101 := fact
theorem tf102 : TyFact Tryd.prog 102 ti102 := fact
theorem tf104 : TyFact Tryd.prog 104 ti104 := fact
theorem tf105 : TyFact Tryd.prog 105 ti105 := fact
theorem tf108 : TyFact Tryd.prog 108 ti108 := fact
theorem tf109 : TyFact Tryd.prog 109 ti109 := fact
theorem tf111 : TyFact Tryd.prog 111 ti111 := fact
theorem tf113 : TyFact Tryd.prog 113 ti113 := fact
theorem tf114 : TyFact Tryd.prog 114 ti114 := fact
theorem tf115 : TyFact Tryd.prog 115 ti115 := fact
theorem tf118 : TyFact Tryd.prog 118 ti118 := fact
theorem tf121 : TyFact Tryd.prog 121 ti121 := fact
theorem tf123 : TyFact Tryd.prog 123 ti123 := fact
theorem tf126 : TyFact Tryd.prog 126 ti126 := fact
theorem tf131 : TyFact Tryd.prog 131 ti131 := fact
theorem tf133 : TyFact Tryd.prog 133 ti133 := fact
theorem tf135 : TyFact Tryd.prog 135 ti135 := fact
theorem tf137 : TyFact Tryd.prog 137 ti137 := fact
theorem tf138 : TyFact Tryd.prog 138 ti138 := fact
theorem tf139 : TyFact Tryd.prog 139 ti139 := fact
theorem tf143 : TyFact Tryd.prog 143 ti143 := fact
theorem tf144 : TyFact Tryd.prog 144 ti144 := fact
theorem tf146 : TyFact Tryd.prog 146 ti146 := fact
theorem tf147 : TyFact Tryd.prog 147 ti147 := fact
def Facts : List (Nat × TI) → Prop
  | [] => True
  | p :: r => TyFact Tryd.prog p.1 p.2 ∧ Facts r
theorem facts_get : ∀ {l : List (Nat × TI)}, Facts l → ∀ t i, lk l t = some i → TyFact Tryd.prog t i
  | [], _, _, _, h => by cases h
  | (k, x) :: r, h, t, i, hi => by
    simp only [lk] at hi
    split at hi
    · rename_i e; subst e; obtain rfl := Option.some.inj hi; exact h.1
    · exact facts_get h.2 t i hi
theorem ty_ok : TyOk Tryd.prog ty := facts_get (l := tyl) ⟨tf3, tf4, tf5, tf9, tf22, tf23, tf24, tf26, tf30, tf31, tf38, tf39, tf42, tf43, tf44, tf45, tf46, tf47, tf48, tf51, tf52, tf53, tf54, tf55, tf58, tf59, tf61, tf66, tf67, tf68, tf69, tf71, tf77, tf78, tf80, tf81, tf82, tf83, tf84, tf85, tf86, tf87, tf92, tf94, tf95, tf96, tf100, tf101, tf102, tf104, tf105, tf108, tf109, tf111, tf113, tf114, tf115, tf118, tf121, tf123, tf126, tf131, tf133, tf135, tf137, tf138, tf139, tf143, tf144, tf146, tf147, trivial⟩

end Go.Proofs.YthcpkkpjegldoaaDoor
