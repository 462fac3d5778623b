/-
  The types of the translation, as the abstract machine uses them: a table, and that it agrees with the program's. Written by a program of ours (gen_ty.py).
-/
import Derived.Test.YtfkmbdfajpdjjaaDoorProg
import Derived.Test.YtfkmbdfajpdjjaaDoorAbsC
import Derived.KernelRfl
set_option linter.unusedSimpArgs false
set_option linter.unusedVariables false
namespace Go.Proofs.YtfkmbdfajpdjjaaDoor
open Go.Abs

def ti1 : TI := { size := 1, bytes := 8, agg := false, zero := [.nilFunc], desc := .func #[] #[] false }
def ti2 : TI := { size := 1, bytes := 8, agg := false, zero := [.int .i64 0], desc := .int .i64 }
def ti3 : TI := { size := 1, bytes := 8, agg := false, zero := [.int .i64 0], desc := .int .i64 }
def ti4 : TI := { size := 1, bytes := 1, agg := false, zero := [.bool false], desc := .bool }
def ti5 : TI := { size := 1, bytes := 1, agg := false, zero := [.int .u8 0], desc := .int .u8 }
def ti9 : TI := { size := 1, bytes := 16, agg := false, zero := [.string .empty], desc := .string }
def ti12 : TI := { size := 1, bytes := 8, agg := false, zero := [.int .u64 0], desc := .int .u64 }
def ti15 : TI := { size := 1, bytes := 8, agg := false, zero := [.pointer none], desc := .pointer 219 }
def ti16 : TI := { size := 1, bytes := 8, agg := false, zero := [.pointer none], desc := .pointer 222 }
def ti17 : TI := { size := 1, bytes := 8, agg := false, zero := [.pointer none], desc := .pointer 232 }
def ti21 : TI := { size := 1, bytes := 4, agg := false, zero := [.int .i32 0], desc := .int .i32 }
def ti22 : TI := { size := 1, bytes := 24, agg := false, zero := [.slice none 0 0], desc := .slice 54 }
def ti23 : TI := { size := 1, bytes := 24, agg := false, zero := [.slice none 0 0], desc := .slice 135 }
def ti24 : TI := { size := 1, bytes := 24, agg := false, zero := [.slice none 0 0], desc := .slice 137 }
def ti25 : TI := { size := 1, bytes := 24, agg := false, zero := [.slice none 0 0], desc := .slice 139 }
def ti26 : TI := { size := 4, bytes := 32, agg := true, zero := [.int .i64 0, .int .i64 0, .int .i64 0, .int .i64 0], desc := .array 4 3 }
def ti27 : TI := { size := 8, bytes := 128, agg := true, zero := [.slice none 0 0, .slice none 0 0, .slice none 0 0, .slice none 0 0, .int .i64 0, .int .i64 0, .int .i64 0, .int .i64 0], desc := .struct #[⟨"Heats", 22, 0, false, "", "", 0⟩, ⟨"Cools", 23, 1, false, "", "", 24⟩, ⟨"Colds", 24, 2, false, "", "", 48⟩, ⟨"Tempers", 25, 3, false, "", "", 72⟩, ⟨"Hard", 26, 4, false, "", "", 96⟩] }
def ti28 : TI := { size := 8, bytes := 128, agg := true, zero := [.slice none 0 0, .slice none 0 0, .slice none 0 0, .slice none 0 0, .int .i64 0, .int .i64 0, .int .i64 0, .int .i64 0], desc := .struct #[⟨"Heats", 22, 0, false, "", "", 0⟩, ⟨"Cools", 23, 1, false, "", "", 24⟩, ⟨"Colds", 24, 2, false, "", "", 48⟩, ⟨"Tempers", 25, 3, false, "", "", 72⟩, ⟨"Hard", 26, 4, false, "", "", 96⟩] }
def ti29 : TI := { size := 7, bytes := 56, agg := true, zero := [.int .i64 0, .int .i64 0, .int .i64 0, .int .i64 0, .int .i64 0, .int .i64 0, .int .i64 0], desc := .struct #[⟨"Parent", 3, 0, false, "", "", 0⟩, ⟨"Austenite", 3, 1, false, "", "", 8⟩, ⟨"Bainite", 3, 2, false, "", "", 16⟩, ⟨"Martensite", 3, 3, false, "", "", 24⟩, ⟨"Wait", 3, 4, false, "", "", 32⟩, ⟨"Grain", 3, 5, false, "", "", 40⟩, ⟨"Temper", 3, 6, false, "", "", 48⟩] }
def ti30 : TI := { size := 7, bytes := 56, agg := true, zero := [.int .i64 0, .int .i64 0, .int .i64 0, .int .i64 0, .int .i64 0, .int .i64 0, .int .i64 0], desc := .struct #[⟨"Parent", 3, 0, false, "", "", 0⟩, ⟨"Austenite", 3, 1, false, "", "", 8⟩, ⟨"Bainite", 3, 2, false, "", "", 16⟩, ⟨"Martensite", 3, 3, false, "", "", 24⟩, ⟨"Wait", 3, 4, false, "", "", 32⟩, ⟨"Grain", 3, 5, false, "", "", 40⟩, ⟨"Temper", 3, 6, false, "", "", 48⟩], eqn := some 7 }
def ti31 : TI := { size := 3, bytes := 24, agg := true, zero := [.int .i64 0, .int .i64 0, .int .i64 0], desc := .struct #[⟨"Heat", 3, 0, false, "", "", 0⟩, ⟨"Cool", 3, 1, false, "", "", 8⟩, ⟨"Cold", 3, 2, false, "", "", 16⟩] }
def ti32 : TI := { size := 3, bytes := 24, agg := true, zero := [.int .i64 0, .int .i64 0, .int .i64 0], desc := .struct #[⟨"Heat", 3, 0, false, "", "", 0⟩, ⟨"Cool", 3, 1, false, "", "", 8⟩, ⟨"Cold", 3, 2, false, "", "", 16⟩] }
def ti33 : TI := { size := 1, bytes := 8, agg := false, zero := [.nilFunc], desc := .func #[] #[4] false }
def ti34 : TI := { size := 1, bytes := 8, agg := false, zero := [.nilFunc], desc := .func #[28] #[4] false }
def ti35 : TI := { size := 1, bytes := 8, agg := false, zero := [.int .i64 0], desc := .int .i64 }
def ti37 : TI := { size := 1, bytes := 8, agg := false, zero := [.nilFunc], desc := .func #[28] #[3, 35] false }
def ti38 : TI := { size := 1, bytes := 8, agg := false, zero := [.nilFunc], desc := .func #[28] #[28] false }
def ti40 : TI := { size := 1, bytes := 8, agg := false, zero := [.nilFunc], desc := .func #[28] #[3, 3] false }
def ti41 : TI := { size := 1, bytes := 8, agg := false, zero := [.nilFunc], desc := .func #[30] #[35] false }
def ti42 : TI := { size := 1, bytes := 8, agg := false, zero := [.nilFunc], desc := .func #[30] #[3] false }
def ti43 : TI := { size := 1, bytes := 8, agg := false, zero := [.nilFunc], desc := .func #[32] #[35] false }
def ti44 : TI := { size := 1, bytes := 8, agg := false, zero := [.nilFunc], desc := .func #[32] #[3] false }
def ti45 : TI := { size := 1, bytes := 8, agg := false, zero := [.nilFunc], desc := .func #[28, 30, 32] #[4] false }
def ti46 : TI := { size := 1, bytes := 24, agg := false, zero := [.slice none 0 0], desc := .slice 3 }
def ti47 : TI := { size := 7, bytes := 72, agg := true, zero := [.slice none 0 0, .int .i64 0, .int .i64 0, .int .i64 0, .int .i64 0, .int .i64 0, .int .i64 0], desc := .struct #[⟨"Curve", 46, 0, false, "", "", 0⟩, ⟨"First", 32, 1, false, "", "", 24⟩, ⟨"Second", 32, 4, false, "", "", 48⟩] }
def ti48 : TI := { size := 7, bytes := 72, agg := true, zero := [.slice none 0 0, .int .i64 0, .int .i64 0, .int .i64 0, .int .i64 0, .int .i64 0, .int .i64 0], desc := .struct #[⟨"Curve", 46, 0, false, "", "", 0⟩, ⟨"First", 32, 1, false, "", "", 24⟩, ⟨"Second", 32, 4, false, "", "", 48⟩] }
def ti49 : TI := { size := 1, bytes := 8, agg := false, zero := [.nilFunc], desc := .func #[28] #[3] false }
def ti50 : TI := { size := 1, bytes := 8, agg := false, zero := [.nilFunc], desc := .func #[46] #[3] false }
def ti51 : TI := { size := 2, bytes := 16, agg := true, zero := [.int .i64 0, .int .i64 0], desc := .struct #[⟨"Lo", 3, 0, false, "", "", 0⟩, ⟨"Hi", 3, 1, false, "", "", 8⟩] }
def ti52 : TI := { size := 2, bytes := 16, agg := true, zero := [.int .i64 0, .int .i64 0], desc := .struct #[⟨"Lo", 3, 0, false, "", "", 0⟩, ⟨"Hi", 3, 1, false, "", "", 8⟩], eqn := some 2 }
def ti53 : TI := { size := 4, bytes := 32, agg := true, zero := [.int .i64 0, .int .i64 0, .int .i64 0, .int .i64 0], desc := .struct #[⟨"Kelvin", 3, 0, false, "", "", 0⟩, ⟨"Rate", 52, 1, false, "", "", 8⟩, ⟨"Growth", 3, 3, false, "", "", 24⟩] }
def ti54 : TI := { size := 4, bytes := 32, agg := true, zero := [.int .i64 0, .int .i64 0, .int .i64 0, .int .i64 0], desc := .struct #[⟨"Kelvin", 3, 0, false, "", "", 0⟩, ⟨"Rate", 52, 1, false, "", "", 8⟩, ⟨"Growth", 3, 3, false, "", "", 24⟩] }
def ti56 : TI := { size := 1, bytes := 8, agg := false, zero := [.nilFunc], desc := .func #[28, 30, 59] #[30, 35] false }
def ti57 : TI := { size := 1, bytes := 8, agg := false, zero := [.nilFunc], desc := .func #[46] #[46] false }
def ti58 : TI := { size := 4, bytes := 48, agg := true, zero := [.slice none 0 0, .int .i64 0, .int .i64 0, .int .i64 0], desc := .struct #[⟨"Curve", 46, 0, false, "", "", 0⟩, ⟨"Pick", 32, 1, false, "", "", 24⟩] }
def ti59 : TI := { size := 4, bytes := 48, agg := true, zero := [.slice none 0 0, .int .i64 0, .int .i64 0, .int .i64 0], desc := .struct #[⟨"Curve", 46, 0, false, "", "", 0⟩, ⟨"Pick", 32, 1, false, "", "", 24⟩] }
def ti60 : TI := { size := 1, bytes := 8, agg := false, zero := [.nilFunc], desc := .func #[28, 30, 48] #[4] false }
def ti61 : TI := { size := 1, bytes := 24, agg := false, zero := [.slice none 0 0], desc := .slice 52 }
def ti63 : TI := { size := 1, bytes := 8, agg := false, zero := [.nilFunc], desc := .func #[61, 3] #[52, 35] false }
def ti64 : TI := { size := 1, bytes := 8, agg := false, zero := [.nilFunc], desc := .func #[61] #[61] false }
def ti65 : TI := { size := 1, bytes := 8, agg := false, zero := [.nilFunc], desc := .func #[61, 3] #[3] false }
def ti66 : TI := { size := 1, bytes := 8, agg := false, zero := [.nilFunc], desc := .func #[61, 3] #[52] false }
def ti67 : TI := { size := 1, bytes := 8, agg := false, zero := [.nilFunc], desc := .func #[3, 3, 3] #[4] false }
def ti68 : TI := { size := 1, bytes := 8, agg := false, zero := [.nilFunc], desc := .func #[61, 3, 3] #[4] false }
def ti69 : TI := { size := 1, bytes := 8, agg := false, zero := [.nilFunc], desc := .func #[28, 30, 71] #[30, 35] false }
def ti70 : TI := { size := 4, bytes := 32, agg := true, zero := [.int .i64 0, .int .i64 0, .int .i64 0, .int .i64 0], desc := .struct #[⟨"Kelvin", 3, 0, false, "", "", 0⟩, ⟨"Pick", 32, 1, false, "", "", 8⟩] }
def ti71 : TI := { size := 4, bytes := 32, agg := true, zero := [.int .i64 0, .int .i64 0, .int .i64 0, .int .i64 0], desc := .struct #[⟨"Kelvin", 3, 0, false, "", "", 0⟩, ⟨"Pick", 32, 1, false, "", "", 8⟩] }
def ti72 : TI := { size := 1, bytes := 8, agg := false, zero := [.nilFunc], desc := .func #[28, 30] #[3, 35] false }
def ti73 : TI := { size := 1, bytes := 8, agg := false, zero := [.nilFunc], desc := .func #[28, 30, 59] #[4] false }
def ti74 : TI := { size := 2, bytes := 16, agg := true, zero := [.int .i64 0, .int .i64 0], desc := .array 2 3 }
def ti75 : TI := { size := 1, bytes := 8, agg := false, zero := [.nilFunc], desc := .func #[3] #[3] false }
def ti76 : TI := { size := 1, bytes := 8, agg := false, zero := [.nilFunc], desc := .func #[28, 3] #[3] false }
def ti77 : TI := { size := 1, bytes := 8, agg := false, zero := [.nilFunc], desc := .func #[28, 30, 74] #[4] false }
def ti78 : TI := { size := 1, bytes := 8, agg := false, zero := [.nilFunc], desc := .func #[3] #[4] false }
def ti79 : TI := { size := 1, bytes := 8, agg := false, zero := [.nilFunc], desc := .func #[28, 30, 46] #[3, 35] false }
def ti80 : TI := { size := 1, bytes := 8, agg := false, zero := [.nilFunc], desc := .func #[28, 30] #[3] false }
def ti81 : TI := { size := 1, bytes := 8, agg := false, zero := [.nilFunc], desc := .func #[28, 30, 3, 32] #[30] false }
def ti82 : TI := { size := 1, bytes := 8, agg := false, zero := [.nilFunc], desc := .func #[28, 30, 46, 32] #[30] false }
def ti83 : TI := { size := 1, bytes := 24, agg := false, zero := [.slice none 0 0], desc := .slice 158 }
def ti84 : TI := { size := 2, bytes := 32, agg := true, zero := [.int .i64 0, .slice none 0 0], desc := .struct #[⟨"Start", 3, 0, false, "", "", 0⟩, ⟨"Elements", 83, 1, false, "", "", 8⟩] }
def ti85 : TI := { size := 2, bytes := 32, agg := true, zero := [.int .i64 0, .slice none 0 0], desc := .struct #[⟨"Start", 3, 0, false, "", "", 0⟩, ⟨"Elements", 83, 1, false, "", "", 8⟩] }
def ti86 : TI := { size := 1, bytes := 8, agg := false, zero := [.nilFunc], desc := .func #[85] #[3, 35] false }
def ti87 : TI := { size := 1, bytes := 8, agg := false, zero := [.nilFunc], desc := .func #[85] #[85] false }
def ti88 : TI := { size := 1, bytes := 8, agg := false, zero := [.nilFunc], desc := .func #[85] #[52, 35] false }
def ti89 : TI := { size := 1, bytes := 8, agg := false, zero := [.nilFunc], desc := .func #[85] #[3, 3] false }
def ti90 : TI := { size := 1, bytes := 8, agg := false, zero := [.nilFunc], desc := .func #[85] #[52] false }
def ti91 : TI := { size := 1, bytes := 8, agg := false, zero := [.nilFunc], desc := .func #[85] #[4] false }
def ti92 : TI := { size := 1, bytes := 24, agg := false, zero := [.slice none 0 0], desc := .slice 162 }
def ti93 : TI := { size := 1, bytes := 8, agg := false, zero := [.nilFunc], desc := .func #[92] #[52, 35] false }
def ti94 : TI := { size := 1, bytes := 8, agg := false, zero := [.nilFunc], desc := .func #[92] #[92] false }
def ti95 : TI := { size := 2, bytes := 32, agg := true, zero := [.string .empty, .string .empty], desc := .array 2 9 }
def ti97 : TI := { size := 1, bytes := 8, agg := false, zero := [.nilFunc], desc := .func #[92] #[95, 35] false }
def ti98 : TI := { size := 1, bytes := 8, agg := false, zero := [.nilFunc], desc := .func #[92] #[3] false }
def ti100 : TI := { size := 1, bytes := 8, agg := false, zero := [.nilFunc], desc := .func #[92] #[52, 4] false }
def ti102 : TI := { size := 1, bytes := 8, agg := false, zero := [.nilFunc], desc := .func #[92] #[95, 4] false }
def ti103 : TI := { size := 1, bytes := 8, agg := false, zero := [.nilFunc], desc := .func #[92] #[4] false }
def ti104 : TI := { size := 8, bytes := 80, agg := true, zero := [.int .i64 0, .int .i64 0, .int .i64 0, .int .i64 0, .int .i64 0, .int .i64 0, .int .i64 0, .slice none 0 0], desc := .struct #[⟨"State", 30, 0, false, "", "", 0⟩, ⟨"Ranges", 61, 7, false, "", "", 56⟩] }
def ti105 : TI := { size := 8, bytes := 80, agg := true, zero := [.int .i64 0, .int .i64 0, .int .i64 0, .int .i64 0, .int .i64 0, .int .i64 0, .int .i64 0, .slice none 0 0], desc := .struct #[⟨"State", 30, 0, false, "", "", 0⟩, ⟨"Ranges", 61, 7, false, "", "", 56⟩] }
def ti106 : TI := { size := 4, bytes := 48, agg := true, zero := [.int .i64 0, .int .i64 0, .int .i64 0, .slice none 0 0], desc := .struct #[⟨"Pick", 32, 0, false, "", "", 0⟩, ⟨"Numbers", 46, 3, false, "", "", 24⟩] }
def ti107 : TI := { size := 4, bytes := 48, agg := true, zero := [.int .i64 0, .int .i64 0, .int .i64 0, .slice none 0 0], desc := .struct #[⟨"Pick", 32, 0, false, "", "", 0⟩, ⟨"Numbers", 46, 3, false, "", "", 24⟩] }
def ti108 : TI := { size := 1, bytes := 8, agg := false, zero := [.nilFunc], desc := .func #[61] #[3] false }
def ti109 : TI := { size := 14, bytes := 112, agg := true, zero := [.int .i64 0, .int .i64 0, .int .i64 0, .int .i64 0, .int .i64 0, .int .i64 0, .int .i64 0, .int .i64 0, .int .i64 0, .int .i64 0, .int .i64 0, .int .i64 0, .int .i64 0, .int .i64 0], desc := .struct #[⟨"Parent", 52, 0, false, "", "", 0⟩, ⟨"Austenite", 52, 2, false, "", "", 16⟩, ⟨"Bainite", 52, 4, false, "", "", 32⟩, ⟨"Martensite", 52, 6, false, "", "", 48⟩, ⟨"Wait", 52, 8, false, "", "", 64⟩, ⟨"Grain", 52, 10, false, "", "", 80⟩, ⟨"Temper", 52, 12, false, "", "", 96⟩] }
def ti110 : TI := { size := 14, bytes := 112, agg := true, zero := [.int .i64 0, .int .i64 0, .int .i64 0, .int .i64 0, .int .i64 0, .int .i64 0, .int .i64 0, .int .i64 0, .int .i64 0, .int .i64 0, .int .i64 0, .int .i64 0, .int .i64 0, .int .i64 0], desc := .struct #[⟨"Parent", 52, 0, false, "", "", 0⟩, ⟨"Austenite", 52, 2, false, "", "", 16⟩, ⟨"Bainite", 52, 4, false, "", "", 32⟩, ⟨"Martensite", 52, 6, false, "", "", 48⟩, ⟨"Wait", 52, 8, false, "", "", 64⟩, ⟨"Grain", 52, 10, false, "", "", 80⟩, ⟨"Temper", 52, 12, false, "", "", 96⟩] }
def ti112 : TI := { size := 1, bytes := 8, agg := false, zero := [.nilFunc], desc := .func #[30] #[110, 35] false }
def ti113 : TI := { size := 1, bytes := 8, agg := false, zero := [.nilFunc], desc := .func #[3, 3] #[3] false }
def ti114 : TI := { size := 1, bytes := 8, agg := false, zero := [.nilFunc], desc := .func #[28, 110, 52] #[110, 35] false }
def ti115 : TI := { size := 1, bytes := 8, agg := false, zero := [.nilFunc], desc := .func #[110] #[3] false }
def ti116 : TI := { size := 1, bytes := 8, agg := false, zero := [.nilFunc], desc := .func #[110, 30] #[4] false }
def ti117 : TI := { size := 1, bytes := 8, agg := false, zero := [.nilFunc], desc := .func #[28, 110] #[52, 35] false }
def ti118 : TI := { size := 1, bytes := 8, agg := false, zero := [.nilFunc], desc := .func #[28, 105, 107] #[4] false }
def ti119 : TI := { size := 1, bytes := 8, agg := false, zero := [.nilFunc], desc := .func #[] #[28] false }
def ti120 : TI := { size := 1, bytes := 8, agg := false, zero := [.nilFunc], desc := .func #[] #[30] false }
def ti121 : TI := { size := 1, bytes := 24, agg := false, zero := [.slice none 0 0], desc := .slice 127 }
def ti122 : TI := { size := 4, bytes := 96, agg := true, zero := [.slice none 0 0, .slice none 0 0, .slice none 0 0, .slice none 0 0], desc := .array 4 121 }
def ti123 : TI := { size := 1, bytes := 8, agg := false, zero := [.nilFunc], desc := .func #[28] #[122] false }
def ti124 : TI := { size := 1, bytes := 8, agg := false, zero := [.pointer none], desc := .pointer 127 }
def ti125 : TI := { size := 1, bytes := 8, agg := false, zero := [.nilFunc], desc := .func #[127, 124, 3] #[35] false }
def ti126 : TI := { size := 3, bytes := 40, agg := true, zero := [.int .i64 0, .slice none 0 0, .int .i64 0], desc := .struct #[⟨"kelvin", 3, 0, false, "", "martensite/steel", 0⟩, ⟨"ranges", 61, 1, false, "", "martensite/steel", 8⟩, ⟨"other", 3, 2, false, "", "martensite/steel", 32⟩] }
def ti127 : TI := { size := 3, bytes := 40, agg := true, zero := [.int .i64 0, .slice none 0 0, .int .i64 0], desc := .struct #[⟨"kelvin", 3, 0, false, "", "martensite/steel", 0⟩, ⟨"ranges", 61, 1, false, "", "martensite/steel", 8⟩, ⟨"other", 3, 2, false, "", "martensite/steel", 32⟩] }
def ti128 : TI := { size := 1, bytes := 24, agg := false, zero := [.slice none 0 0], desc := .slice 121 }
def ti129 : TI := { size := 1, bytes := 8, agg := false, zero := [.nilFunc], desc := .func #[46, 78] #[4] false }
def ti130 : TI := { size := 1, bytes := 8, agg := false, zero := [.nilFunc], desc := .func #[171] #[35] true }
def ti131 : TI := { size := 1, bytes := 8, agg := false, zero := [.nilFunc], desc := .func #[4, 35] #[35] false }
def ti132 : TI := { size := 1, bytes := 8, agg := false, zero := [.nilFunc], desc := .func #[46] #[4] false }
def ti133 : TI := { size := 1, bytes := 8, agg := false, zero := [.nilFunc], desc := .func #[3, 3, 61, 3, 4] #[3] false }
def ti134 : TI := { size := 5, bytes := 40, agg := true, zero := [.int .i64 0, .int .i64 0, .int .i64 0, .int .i64 0, .int .i64 0], desc := .struct #[⟨"Kelvin", 3, 0, false, "", "", 0⟩, ⟨"Wait", 52, 1, false, "", "", 8⟩, ⟨"Rate", 52, 3, false, "", "", 24⟩] }
def ti135 : TI := { size := 5, bytes := 40, agg := true, zero := [.int .i64 0, .int .i64 0, .int .i64 0, .int .i64 0, .int .i64 0], desc := .struct #[⟨"Kelvin", 3, 0, false, "", "", 0⟩, ⟨"Wait", 52, 1, false, "", "", 8⟩, ⟨"Rate", 52, 3, false, "", "", 24⟩] }
def ti136 : TI := { size := 3, bytes := 24, agg := true, zero := [.int .i64 0, .int .i64 0, .int .i64 0], desc := .struct #[⟨"Kelvin", 3, 0, false, "", "", 0⟩, ⟨"Share", 52, 1, false, "", "", 8⟩] }
def ti137 : TI := { size := 3, bytes := 24, agg := true, zero := [.int .i64 0, .int .i64 0, .int .i64 0], desc := .struct #[⟨"Kelvin", 3, 0, false, "", "", 0⟩, ⟨"Share", 52, 1, false, "", "", 8⟩] }
def ti138 : TI := { size := 2, bytes := 16, agg := true, zero := [.int .i64 0, .int .i64 0], desc := .struct #[⟨"Kelvin", 3, 0, false, "", "", 0⟩, ⟨"Rate", 3, 1, false, "", "", 8⟩] }
def ti139 : TI := { size := 2, bytes := 16, agg := true, zero := [.int .i64 0, .int .i64 0], desc := .struct #[⟨"Kelvin", 3, 0, false, "", "", 0⟩, ⟨"Rate", 3, 1, false, "", "", 8⟩] }
def ti140 : TI := { size := 1, bytes := 8, agg := false, zero := [.nilFunc], desc := .func #[28] #[35] false }
def ti141 : TI := { size := 1, bytes := 8, agg := false, zero := [.nilFunc], desc := .func #[46] #[35] false }
def ti142 : TI := { size := 8, bytes := 128, agg := true, zero := [.slice none 0 0, .slice none 0 0, .slice none 0 0, .slice none 0 0, .int .i64 0, .int .i64 0, .int .i64 0, .int .i64 0], desc := .struct #[⟨"SteelRules", 28, 0, true, "", "", 0⟩] }
def ti143 : TI := { size := 8, bytes := 128, agg := true, zero := [.slice none 0 0, .slice none 0 0, .slice none 0 0, .slice none 0 0, .int .i64 0, .int .i64 0, .int .i64 0, .int .i64 0], desc := .struct #[⟨"SteelRules", 28, 0, true, "", "", 0⟩] }
def ti144 : TI := { size := 1, bytes := 8, agg := false, zero := [.nilFunc], desc := .func #[30, 46, 32] #[30] false }
def ti145 : TI := { size := 1, bytes := 8, agg := false, zero := [.nilFunc], desc := .func #[52] #[35] false }
def ti146 : TI := { size := 1, bytes := 8, agg := false, zero := [.nilFunc], desc := .func #[52] #[3] false }
def ti147 : TI := { size := 1, bytes := 8, agg := false, zero := [.nilFunc], desc := .func #[61, 148] #[3] false }
def ti148 : TI := { size := 1, bytes := 8, agg := false, zero := [.nilFunc], desc := .func #[52] #[4] false }
def ti149 : TI := { size := 1, bytes := 8, agg := false, zero := [.nilFunc], desc := .func #[146] #[3] false }
def ti150 : TI := { size := 1, bytes := 8, agg := false, zero := [.nilFunc], desc := .func #[3] #[35] false }
def ti151 : TI := { size := 1, bytes := 8, agg := false, zero := [.nilFunc], desc := .func #[30, 3, 32] #[30] false }
def ti152 : TI := { size := 1, bytes := 8, agg := false, zero := [.nilFunc], desc := .func #[3] #[26] false }
def ti153 : TI := { size := 1, bytes := 8, agg := false, zero := [.nilFunc], desc := .func #[28, 3] #[26] false }
def ti154 : TI := { size := 1, bytes := 8, agg := false, zero := [.nilFunc], desc := .func #[52, 3] #[3] false }
def ti155 : TI := { size := 1, bytes := 8, agg := false, zero := [.nilFunc], desc := .func #[3, 3, 3] #[3] false }
def ti157 : TI := { size := 4, bytes := 40, agg := true, zero := [.string .empty, .int .i64 0, .int .i64 0, .int .i64 0], desc := .struct #[⟨"Name", 9, 0, false, "", "", 0⟩, ⟨"Amount", 52, 1, false, "", "", 16⟩, ⟨"Weight", 3, 3, false, "", "", 32⟩] }
def ti158 : TI := { size := 4, bytes := 40, agg := true, zero := [.string .empty, .int .i64 0, .int .i64 0, .int .i64 0], desc := .struct #[⟨"Name", 9, 0, false, "", "", 0⟩, ⟨"Amount", 52, 1, false, "", "", 16⟩, ⟨"Weight", 3, 3, false, "", "", 32⟩] }
def ti159 : TI := { size := 1, bytes := 8, agg := false, zero := [.nilFunc], desc := .func #[9] #[4] false }
def ti160 : TI := { size := 1, bytes := 8, agg := false, zero := [.nilFunc], desc := .func #[92] #[35] false }
def ti161 : TI := { size := 3, bytes := 32, agg := true, zero := [.string .empty, .int .i64 0, .int .i64 0], desc := .struct #[⟨"Name", 9, 0, false, "", "", 0⟩, ⟨"Start", 52, 1, false, "", "", 16⟩] }
def ti162 : TI := { size := 3, bytes := 32, agg := true, zero := [.string .empty, .int .i64 0, .int .i64 0], desc := .struct #[⟨"Name", 9, 0, false, "", "", 0⟩, ⟨"Start", 52, 1, false, "", "", 16⟩] }
def ti163 : TI := { size := 1, bytes := 8, agg := false, zero := [.nilFunc], desc := .func #[183] #[] false }
def ti164 : TI := { size := 1, bytes := 8, agg := false, zero := [.nilFunc], desc := .func #[92] #[163] false }
def ti165 : TI := { size := 1, bytes := 8, agg := false, zero := [.nilFunc], desc := .func #[30] #[110] false }
def ti166 : TI := { size := 1, bytes := 8, agg := false, zero := [.nilFunc], desc := .func #[110] #[35] false }
def ti167 : TI := { size := 1, bytes := 8, agg := false, zero := [.nilFunc], desc := .func #[110, 52] #[110] false }
def ti168 : TI := { size := 1, bytes := 8, agg := false, zero := [.nilFunc], desc := .func #[110] #[52] false }
def ti169 : TI := { size := 1, bytes := 8, agg := false, zero := [.nilFunc], desc := .func #[61, 148] #[4] false }
def ti170 : TI := { size := 1, bytes := 8, agg := false, zero := [.nilFunc], desc := .func #[46, 78] #[3] false }
def ti171 : TI := { size := 1, bytes := 24, agg := false, zero := [.slice none 0 0], desc := .slice 35 }
def ti172 : TI := { size := 1, bytes := 8, agg := false, zero := [.nilFunc], desc := .func #[3, 3] #[4] false }
def ti173 : TI := { size := 1, bytes := 8, agg := false, zero := [.pointer none], desc := .pointer 54 }
def ti174 : TI := { size := 1, bytes := 8, agg := false, zero := [.nilFunc], desc := .func #[3] #[173] false }
def ti175 : TI := { size := 1, bytes := 8, agg := false, zero := [.pointer none], desc := .pointer 135 }
def ti176 : TI := { size := 1, bytes := 8, agg := false, zero := [.nilFunc], desc := .func #[3] #[175] false }
def ti177 : TI := { size := 1, bytes := 8, agg := false, zero := [.pointer none], desc := .pointer 137 }
def ti178 : TI := { size := 1, bytes := 8, agg := false, zero := [.nilFunc], desc := .func #[3] #[177] false }
def ti179 : TI := { size := 1, bytes := 8, agg := false, zero := [.pointer none], desc := .pointer 139 }
def ti180 : TI := { size := 1, bytes := 8, agg := false, zero := [.nilFunc], desc := .func #[3] #[179] false }
def ti181 : TI := { size := 1, bytes := 8, agg := false, zero := [.nilFunc], desc := .func #[92, 182] #[4] false }
def ti182 : TI := { size := 1, bytes := 8, agg := false, zero := [.nilFunc], desc := .func #[162] #[4] false }
def ti183 : TI := { size := 1, bytes := 8, agg := false, zero := [.nilFunc], desc := .func #[162, 162] #[4] false }
def ti184 : TI := { size := 1, bytes := 8, agg := false, zero := [.nilFunc], desc := .func #[3] #[52] false }
def ti185 : TI := { size := 7, bytes := 56, agg := true, zero := [.int .i64 0, .int .i64 0, .int .i64 0, .int .i64 0, .int .i64 0, .int .i64 0, .int .i64 0], desc := .array 7 3 }
def ti186 : TI := { size := 1, bytes := 8, agg := false, zero := [.pointer none], desc := .pointer 52 }
def ti187 : TI := { size := 7, bytes := 56, agg := true, zero := [.pointer none, .pointer none, .pointer none, .pointer none, .pointer none, .pointer none, .pointer none], desc := .array 7 186 }
def ti188 : TI := { size := 1, bytes := 8, agg := false, zero := [.nilFunc], desc := .func #[189] #[187] false }
def ti189 : TI := { size := 1, bytes := 8, agg := false, zero := [.pointer none], desc := .pointer 110 }
def ti190 : TI := { size := 8, bytes := 64, agg := true, zero := [.int .i64 0, .int .i64 0, .int .i64 0, .int .i64 0, .int .i64 0, .int .i64 0, .int .i64 0, .int .i64 0], desc := .array 4 52 }
def ti191 : TI := { size := 1, bytes := 8, agg := false, zero := [.nilFunc], desc := .func #[110] #[190] false }
def ti192 : TI := { size := 1, bytes := 8, agg := false, zero := [.nilFunc], desc := .func #[110, 3] #[110] false }
def ti193 : TI := { size := 1, bytes := 8, agg := false, zero := [.nilFunc], desc := .func #[110, 110] #[110] false }
def ti194 : TI := { size := 1, bytes := 8, agg := false, zero := [.nilFunc], desc := .func #[190, 26, 26] #[3] false }
def ti195 : TI := { size := 1, bytes := 8, agg := false, zero := [.nilFunc], desc := .func #[22, 196] #[173] false }
def ti196 : TI := { size := 1, bytes := 8, agg := false, zero := [.nilFunc], desc := .func #[54] #[4] false }
def ti197 : TI := { size := 1, bytes := 8, agg := false, zero := [.nilFunc], desc := .func #[23, 198] #[175] false }
def ti198 : TI := { size := 1, bytes := 8, agg := false, zero := [.nilFunc], desc := .func #[135] #[4] false }
def ti199 : TI := { size := 1, bytes := 8, agg := false, zero := [.nilFunc], desc := .func #[24, 200] #[177] false }
def ti200 : TI := { size := 1, bytes := 8, agg := false, zero := [.nilFunc], desc := .func #[137] #[4] false }
def ti201 : TI := { size := 1, bytes := 8, agg := false, zero := [.nilFunc], desc := .func #[25, 202] #[179] false }
def ti202 : TI := { size := 1, bytes := 8, agg := false, zero := [.nilFunc], desc := .func #[139] #[4] false }
def ti203 : TI := { size := 1, bytes := 8, agg := false, zero := [.nilFunc], desc := .func #[92, 182] #[3] false }
def ti204 : TI := { size := 1, bytes := 8, agg := false, zero := [.nilFunc], desc := .func #[110, 54] #[110] false }
def ti205 : TI := { size := 1, bytes := 8, agg := false, zero := [.nilFunc], desc := .func #[110, 135] #[110] false }
def ti206 : TI := { size := 1, bytes := 8, agg := false, zero := [.nilFunc], desc := .func #[110, 137] #[110] false }
def ti207 : TI := { size := 1, bytes := 8, agg := false, zero := [.nilFunc], desc := .func #[215] #[] false }
def ti208 : TI := { size := 1, bytes := 8, agg := false, zero := [.nilFunc], desc := .func #[215] #[] false }
def ti209 : TI := { size := 1, bytes := 8, agg := false, zero := [.nilFunc], desc := .func #[22] #[208] false }
def ti210 : TI := { size := 1, bytes := 8, agg := false, zero := [.nilFunc], desc := .func #[23, 198] #[3] false }
def ti211 : TI := { size := 1, bytes := 8, agg := false, zero := [.nilFunc], desc := .func #[24, 200] #[3] false }
def ti212 : TI := { size := 1, bytes := 8, agg := false, zero := [.nilFunc], desc := .func #[216] #[] false }
def ti213 : TI := { size := 1, bytes := 8, agg := false, zero := [.nilFunc], desc := .func #[216] #[] false }
def ti214 : TI := { size := 1, bytes := 8, agg := false, zero := [.nilFunc], desc := .func #[25] #[213] false }
def ti215 : TI := { size := 1, bytes := 8, agg := false, zero := [.nilFunc], desc := .func #[3, 54] #[4] false }
def ti216 : TI := { size := 1, bytes := 8, agg := false, zero := [.nilFunc], desc := .func #[3, 139] #[4] false }
def ti217 : TI := { size := 1, bytes := 8, agg := false, zero := [.nilFunc], desc := .func #[] #[9] false }
def ti220 : TI := { size := 0, bytes := 0, agg := true, zero := [], desc := .array 0 16 }
def ti223 : TI := { size := 1, bytes := 8, agg := false, zero := [.nilFunc], desc := .func #[] #[3] false }
def ti224 : TI := { size := 1, bytes := 4, agg := false, zero := [.int .u32 0], desc := .int .u32 }
def ti227 : TI := { size := 1, bytes := 8, agg := false, zero := [.nilFunc], desc := .func #[233, 233] #[4] false }
def ti228 : TI := { size := 1, bytes := 8, agg := false, zero := [.pointer none], desc := .pointer 5 }
def ti231 : TI := { size := 11, bytes := 48, agg := true, zero := [.int .u64 0, .int .u64 0, .int .u32 0, .int .u8 0, .int .u8 0, .int .u8 0, .int .u8 0, .nilFunc, .pointer none, .int .i32 0, .int .i32 0], desc := .struct #[⟨"Size_", 12, 0, false, "", "", 0⟩, ⟨"PtrBytes", 12, 1, false, "", "", 8⟩, ⟨"Hash", 224, 2, false, "", "", 16⟩, ⟨"TFlag", 225, 3, false, "", "", 20⟩, ⟨"Align_", 5, 4, false, "", "", 21⟩, ⟨"FieldAlign_", 5, 5, false, "", "", 22⟩, ⟨"Kind_", 226, 6, false, "", "", 23⟩, ⟨"Equal", 227, 7, false, "", "", 24⟩, ⟨"GCData", 228, 8, false, "", "", 32⟩, ⟨"Str", 229, 9, false, "", "", 40⟩, ⟨"PtrToThis", 230, 10, false, "", "", 44⟩] }
def tyl : List (Nat × TI) := [(1, ti1), (2, ti2), (3, ti3), (4, ti4), (5, ti5), (9, ti9), (12, ti12), (15, ti15), (16, ti16), (17, ti17), (21, ti21), (22, ti22), (23, ti23), (24, ti24), (25, ti25), (26, ti26), (27, ti27), (28, ti28), (29, ti29), (30, ti30), (31, ti31), (32, ti32), (33, ti33), (34, ti34), (35, ti35), (37, ti37), (38, ti38), (40, ti40), (41, ti41), (42, ti42), (43, ti43), (44, ti44), (45, ti45), (46, ti46), (47, ti47), (48, ti48), (49, ti49), (50, ti50), (51, ti51), (52, ti52), (53, ti53), (54, ti54), (56, ti56), (57, ti57), (58, ti58), (59, ti59), (60, ti60), (61, ti61), (63, ti63), (64, ti64), (65, ti65), (66, ti66), (67, ti67), (68, ti68), (69, ti69), (70, ti70), (71, ti71), (72, ti72), (73, ti73), (74, ti74), (75, ti75), (76, ti76), (77, ti77), (78, ti78), (79, ti79), (80, ti80), (81, ti81), (82, ti82), (83, ti83), (84, ti84), (85, ti85), (86, ti86), (87, ti87), (88, ti88), (89, ti89), (90, ti90), (91, ti91), (92, ti92), (93, ti93), (94, ti94), (95, ti95), (97, ti97), (98, ti98), (100, ti100), (102, ti102), (103, ti103), (104, ti104), (105, ti105), (106, ti106), (107, ti107), (108, ti108), (109, ti109), (110, ti110), (112, ti112), (113, ti113), (114, ti114), (115, ti115), (116, ti116), (117, ti117), (118, ti118), (119, ti119), (120, ti120), (121, ti121), (122, ti122), (123, ti123), (124, ti124), (125, ti125), (126, ti126), (127, ti127), (128, ti128), (129, ti129), (130, ti130), (131, ti131), (132, ti132), (133, ti133), (134, ti134), (135, ti135), (136, ti136), (137, ti137), (138, ti138), (139, ti139), (140, ti140), (141, ti141), (142, ti142), (143, ti143), (144, ti144), (145, ti145), (146, ti146), (147, ti147), (148, ti148), (149, ti149), (150, ti150), (151, ti151), (152, ti152), (153, ti153), (154, ti154), (155, ti155), (157, ti157), (158, ti158), (159, ti159), (160, ti160), (161, ti161), (162, ti162), (163, ti163), (164, ti164), (165, ti165), (166, ti166), (167, ti167), (168, ti168), (169, ti169), (170, ti170), (171, ti171), (172, ti172), (173, ti173), (174, ti174), (175, ti175), (176, ti176), (177, ti177), (178, ti178), (179, ti179), (180, ti180), (181, ti181), (182, ti182), (183, ti183), (184, ti184), (185, ti185), (186, ti186), (187, ti187), (188, ti188), (189, ti189), (190, ti190), (191, ti191), (192, ti192), (193, ti193), (194, ti194), (195, ti195), (196, ti196), (197, ti197), (198, ti198), (199, ti199), (200, ti200), (201, ti201), (202, ti202), (203, ti203), (204, ti204), (205, ti205), (206, ti206), (207, ti207), (208, ti208), (209, ti209), (210, ti210), (211, ti211), (212, ti212), (213, ti213), (214, ti214), (215, ti215), (216, ti216), (217, ti217), (220, ti220), (223, ti223), (224, ti224), (227, ti227), (228, ti228), (231, ti231)]
def ty : Tys := fun t => lk tyl t
@[go_sem] theorem ty_1 : ty 1 = some ti1 := by kernel_rfl
@[go_sem] theorem ty_2 : ty 2 = some ti2 := by kernel_rfl
@[go_sem] theorem ty_3 : ty 3 = some ti3 := by kernel_rfl
@[go_sem] theorem ty_4 : ty 4 = some ti4 := by kernel_rfl
@[go_sem] theorem ty_5 : ty 5 = some ti5 := by kernel_rfl
@[go_sem] theorem ty_9 : ty 9 = some ti9 := by kernel_rfl
@[go_sem] theorem ty_12 : ty 12 = some ti12 := by kernel_rfl
@[go_sem] theorem ty_15 : ty 15 = some ti15 := by kernel_rfl
@[go_sem] theorem ty_16 : ty 16 = some ti16 := by kernel_rfl
@[go_sem] theorem ty_17 : ty 17 = some ti17 := by kernel_rfl
@[go_sem] theorem ty_21 : ty 21 = some ti21 := by kernel_rfl
@[go_sem] theorem ty_22 : ty 22 = some ti22 := by kernel_rfl
@[go_sem] theorem ty_23 : ty 23 = some ti23 := by kernel_rfl
@[go_sem] theorem ty_24 : ty 24 = some ti24 := by kernel_rfl
@[go_sem] theorem ty_25 : ty 25 = some ti25 := by kernel_rfl
@[go_sem] theorem ty_26 : ty 26 = some ti26 := by kernel_rfl
@[go_sem] theorem ty_27 : ty 27 = some ti27 := by kernel_rfl
@[go_sem] theorem ty_28 : ty 28 = some ti28 := by kernel_rfl
@[go_sem] theorem ty_29 : ty 29 = some ti29 := by kernel_rfl
@[go_sem] theorem ty_30 : ty 30 = some ti30 := by kernel_rfl
@[go_sem] theorem ty_31 : ty 31 = some ti31 := by kernel_rfl
@[go_sem] theorem ty_32 : ty 32 = some ti32 := by kernel_rfl
@[go_sem] theorem ty_33 : ty 33 = some ti33 := by kernel_rfl
@[go_sem] theorem ty_34 : ty 34 = some ti34 := by kernel_rfl
@[go_sem] theorem ty_35 : ty 35 = some ti35 := by kernel_rfl
@[go_sem] theorem ty_37 : ty 37 = some ti37 := by kernel_rfl
@[go_sem] theorem ty_38 : ty 38 = some ti38 := by kernel_rfl
@[go_sem] theorem ty_40 : ty 40 = some ti40 := by kernel_rfl
@[go_sem] theorem ty_41 : ty 41 = some ti41 := by kernel_rfl
@[go_sem] theorem ty_42 : ty 42 = some ti42 := by kernel_rfl
@[go_sem] theorem ty_43 : ty 43 = some ti43 := by kernel_rfl
@[go_sem] theorem ty_44 : ty 44 = some ti44 := by kernel_rfl
@[go_sem] theorem ty_45 : ty 45 = some ti45 := by kernel_rfl
@[go_sem] theorem ty_46 : ty 46 = some ti46 := by kernel_rfl
@[go_sem] theorem ty_47 : ty 47 = some ti47 := by kernel_rfl
@[go_sem] theorem ty_48 : ty 48 = some ti48 := by kernel_rfl
@[go_sem] theorem ty_49 : ty 49 = some ti49 := by kernel_rfl
@[go_sem] theorem ty_50 : ty 50 = some ti50 := by kernel_rfl
@[go_sem] theorem ty_51 : ty 51 = some ti51 := by kernel_rfl
@[go_sem] theorem ty_52 : ty 52 = some ti52 := by kernel_rfl
@[go_sem] theorem ty_53 : ty 53 = some ti53 := by kernel_rfl
@[go_sem] theorem ty_54 : ty 54 = some ti54 := by kernel_rfl
@[go_sem] theorem ty_56 : ty 56 = some ti56 := by kernel_rfl
@[go_sem] theorem ty_57 : ty 57 = some ti57 := by kernel_rfl
@[go_sem] theorem ty_58 : ty 58 = some ti58 := by kernel_rfl
@[go_sem] theorem ty_59 : ty 59 = some ti59 := by kernel_rfl
@[go_sem] theorem ty_60 : ty 60 = some ti60 := by kernel_rfl
@[go_sem] theorem ty_61 : ty 61 = some ti61 := by kernel_rfl
@[go_sem] theorem ty_63 : ty 63 = some ti63 := by kernel_rfl
@[go_sem] theorem ty_64 : ty 64 = some ti64 := by kernel_rfl
@[go_sem] theorem ty_65 : ty 65 = some ti65 := by kernel_rfl
@[go_sem] theorem ty_66 : ty 66 = some ti66 := by kernel_rfl
@[go_sem] theorem ty_67 : ty 67 = some ti67 := by kernel_rfl
@[go_sem] theorem ty_68 : ty 68 = some ti68 := by kernel_rfl
@[go_sem] theorem ty_69 : ty 69 = some ti69 := by kernel_rfl
@[go_sem] theorem ty_70 : ty 70 = some ti70 := by kernel_rfl
@[go_sem] theorem ty_71 : ty 71 = some ti71 := by kernel_rfl
@[go_sem] theorem ty_72 : ty 72 = some ti72 := by kernel_rfl
@[go_sem] theorem ty_73 : ty 73 = some ti73 := by kernel_rfl
@[go_sem] theorem ty_74 : ty 74 = some ti74 := by kernel_rfl
@[go_sem] theorem ty_75 : ty 75 = some ti75 := by kernel_rfl
@[go_sem] theorem ty_76 : ty 76 = some ti76 := by kernel_rfl
@[go_sem] theorem ty_77 : ty 77 = some ti77 := by kernel_rfl
@[go_sem] theorem ty_78 : ty 78 = some ti78 := by kernel_rfl
@[go_sem] theorem ty_79 : ty 79 = some ti79 := by kernel_rfl
@[go_sem] theorem ty_80 : ty 80 = some ti80 := by kernel_rfl
@[go_sem] theorem ty_81 : ty 81 = some ti81 := by kernel_rfl
@[go_sem] theorem ty_82 : ty 82 = some ti82 := by kernel_rfl
@[go_sem] theorem ty_83 : ty 83 = some ti83 := by kernel_rfl
@[go_sem] theorem ty_84 : ty 84 = some ti84 := by kernel_rfl
@[go_sem] theorem ty_85 : ty 85 = some ti85 := by kernel_rfl
@[go_sem] theorem ty_86 : ty 86 = some ti86 := by kernel_rfl
@[go_sem] theorem ty_87 : ty 87 = some ti87 := by kernel_rfl
@[go_sem] theorem ty_88 : ty 88 = some ti88 := by kernel_rfl
@[go_sem] theorem ty_89 : ty 89 = some ti89 := by kernel_rfl
@[go_sem] theorem ty_90 : ty 90 = some ti90 := by kernel_rfl
@[go_sem] theorem ty_91 : ty 91 = some ti91 := by kernel_rfl
@[go_sem] theorem ty_92 : ty 92 = some ti92 := by kernel_rfl
@[go_sem] theorem ty_93 : ty 93 = some ti93 := by kernel_rfl
@[go_sem] theorem ty_94 : ty 94 = some ti94 := by kernel_rfl
@[go_sem] theorem ty_95 : ty 95 = some ti95 := by kernel_rfl
@[go_sem] theorem ty_97 : ty 97 = some ti97 := by kernel_rfl
@[go_sem] theorem ty_98 : ty 98 = some ti98 := by kernel_rfl
@[go_sem] theorem ty_100 : ty 100 = some ti100 := by kernel_rfl
@[go_sem] theorem ty_102 : ty 102 = some ti102 := by kernel_rfl
@[go_sem] theorem ty_103 : ty 103 = some ti103 := by kernel_rfl
@[go_sem] theorem ty_104 : ty 104 = some ti104 := by kernel_rfl
@[go_sem] theorem ty_105 : ty 105 = some ti105 := by kernel_rfl
@[go_sem] theorem ty_106 : ty 106 = some ti106 := by kernel_rfl
@[go_sem] theorem ty_107 : ty 107 = some ti107 := by kernel_rfl
@[go_sem] theorem ty_108 : ty 108 = some ti108 := by kernel_rfl
@[go_sem] theorem ty_109 : ty 109 = some ti109 := by kernel_rfl
@[go_sem] theorem ty_110 : ty 110 = some ti110 := by kernel_rfl
@[go_sem] theorem ty_112 : ty 112 = some ti112 := by kernel_rfl
@[go_sem] theorem ty_113 : ty 113 = some ti113 := by kernel_rfl
@[go_sem] theorem ty_114 : ty 114 = some ti114 := by kernel_rfl
@[go_sem] theorem ty_115 : ty 115 = some ti115 := by kernel_rfl
@[go_sem] theorem ty_116 : ty 116 = some ti116 := by kernel_rfl
@[go_sem] theorem ty_117 : ty 117 = some ti117 := by kernel_rfl
@[go_sem] theorem ty_118 : ty 118 = some ti118 := by kernel_rfl
@[go_sem] theorem ty_119 : ty 119 = some ti119 := by kernel_rfl
@[go_sem] theorem ty_120 : ty 120 = some ti120 := by kernel_rfl
@[go_sem] theorem ty_121 : ty 121 = some ti121 := by kernel_rfl
@[go_sem] theorem ty_122 : ty 122 = some ti122 := by kernel_rfl
@[go_sem] theorem ty_123 : ty 123 = some ti123 := by kernel_rfl
@[go_sem] theorem ty_124 : ty 124 = some ti124 := by kernel_rfl
@[go_sem] theorem ty_125 : ty 125 = some ti125 := by kernel_rfl
@[go_sem] theorem ty_126 : ty 126 = some ti126 := by kernel_rfl
@[go_sem] theorem ty_127 : ty 127 = some ti127 := by kernel_rfl
@[go_sem] theorem ty_128 : ty 128 = some ti128 := by kernel_rfl
@[go_sem] theorem ty_129 : ty 129 = some ti129 := by kernel_rfl
@[go_sem] theorem ty_130 : ty 130 = some ti130 := by kernel_rfl
@[go_sem] theorem ty_131 : ty 131 = some ti131 := by kernel_rfl
@[go_sem] theorem ty_132 : ty 132 = some ti132 := by kernel_rfl
@[go_sem] theorem ty_133 : ty 133 = some ti133 := by kernel_rfl
@[go_sem] theorem ty_134 : ty 134 = some ti134 := by kernel_rfl
@[go_sem] theorem ty_135 : ty 135 = some ti135 := by kernel_rfl
@[go_sem] theorem ty_136 : ty 136 = some ti136 := by kernel_rfl
@[go_sem] theorem ty_137 : ty 137 = some ti137 := by kernel_rfl
@[go_sem] theorem ty_138 : ty 138 = some ti138 := by kernel_rfl
@[go_sem] theorem ty_139 : ty 139 = some ti139 := by kernel_rfl
@[go_sem] theorem ty_140 : ty 140 = some ti140 := by kernel_rfl
@[go_sem] theorem ty_141 : ty 141 = some ti141 := by kernel_rfl
@[go_sem] theorem ty_142 : ty 142 = some ti142 := by kernel_rfl
@[go_sem] theorem ty_143 : ty 143 = some ti143 := by kernel_rfl
@[go_sem] theorem ty_144 : ty 144 = some ti144 := by kernel_rfl
@[go_sem] theorem ty_145 : ty 145 = some ti145 := by kernel_rfl
@[go_sem] theorem ty_146 : ty 146 = some ti146 := by kernel_rfl
@[go_sem] theorem ty_147 : ty 147 = some ti147 := by kernel_rfl
@[go_sem] theorem ty_148 : ty 148 = some ti148 := by kernel_rfl
@[go_sem] theorem ty_149 : ty 149 = some ti149 := by kernel_rfl
@[go_sem] theorem ty_150 : ty 150 = some ti150 := by kernel_rfl
@[go_sem] theorem ty_151 : ty 151 = some ti151 := by kernel_rfl
@[go_sem] theorem ty_152 : ty 152 = some ti152 := by kernel_rfl
@[go_sem] theorem ty_153 : ty 153 = some ti153 := by kernel_rfl
@[go_sem] theorem ty_154 : ty 154 = some ti154 := by kernel_rfl
@[go_sem] theorem ty_155 : ty 155 = some ti155 := by kernel_rfl
@[go_sem] theorem ty_157 : ty 157 = some ti157 := by kernel_rfl
@[go_sem] theorem ty_158 : ty 158 = some ti158 := by kernel_rfl
@[go_sem] theorem ty_159 : ty 159 = some ti159 := by kernel_rfl
@[go_sem] theorem ty_160 : ty 160 = some ti160 := by kernel_rfl
@[go_sem] theorem ty_161 : ty 161 = some ti161 := by kernel_rfl
@[go_sem] theorem ty_162 : ty 162 = some ti162 := by kernel_rfl
@[go_sem] theorem ty_163 : ty 163 = some ti163 := by kernel_rfl
@[go_sem] theorem ty_164 : ty 164 = some ti164 := by kernel_rfl
@[go_sem] theorem ty_165 : ty 165 = some ti165 := by kernel_rfl
@[go_sem] theorem ty_166 : ty 166 = some ti166 := by kernel_rfl
@[go_sem] theorem ty_167 : ty 167 = some ti167 := by kernel_rfl
@[go_sem] theorem ty_168 : ty 168 = some ti168 := by kernel_rfl
@[go_sem] theorem ty_169 : ty 169 = some ti169 := by kernel_rfl
@[go_sem] theorem ty_170 : ty 170 = some ti170 := by kernel_rfl
@[go_sem] theorem ty_171 : ty 171 = some ti171 := by kernel_rfl
@[go_sem] theorem ty_172 : ty 172 = some ti172 := by kernel_rfl
@[go_sem] theorem ty_173 : ty 173 = some ti173 := by kernel_rfl
@[go_sem] theorem ty_174 : ty 174 = some ti174 := by kernel_rfl
@[go_sem] theorem ty_175 : ty 175 = some ti175 := by kernel_rfl
@[go_sem] theorem ty_176 : ty 176 = some ti176 := by kernel_rfl
@[go_sem] theorem ty_177 : ty 177 = some ti177 := by kernel_rfl
@[go_sem] theorem ty_178 : ty 178 = some ti178 := by kernel_rfl
@[go_sem] theorem ty_179 : ty 179 = some ti179 := by kernel_rfl
@[go_sem] theorem ty_180 : ty 180 = some ti180 := by kernel_rfl
@[go_sem] theorem ty_181 : ty 181 = some ti181 := by kernel_rfl
@[go_sem] theorem ty_182 : ty 182 = some ti182 := by kernel_rfl
@[go_sem] theorem ty_183 : ty 183 = some ti183 := by kernel_rfl
@[go_sem] theorem ty_184 : ty 184 = some ti184 := by kernel_rfl
@[go_sem] theorem ty_185 : ty 185 = some ti185 := by kernel_rfl
@[go_sem] theorem ty_186 : ty 186 = some ti186 := by kernel_rfl
@[go_sem] theorem ty_187 : ty 187 = some ti187 := by kernel_rfl
@[go_sem] theorem ty_188 : ty 188 = some ti188 := by kernel_rfl
@[go_sem] theorem ty_189 : ty 189 = some ti189 := by kernel_rfl
@[go_sem] theorem ty_190 : ty 190 = some ti190 := by kernel_rfl
@[go_sem] theorem ty_191 : ty 191 = some ti191 := by kernel_rfl
@[go_sem] theorem ty_192 : ty 192 = some ti192 := by kernel_rfl
@[go_sem] theorem ty_193 : ty 193 = some ti193 := by kernel_rfl
@[go_sem] theorem ty_194 : ty 194 = some ti194 := by kernel_rfl
@[go_sem] theorem ty_195 : ty 195 = some ti195 := by kernel_rfl
@[go_sem] theorem ty_196 : ty 196 = some ti196 := by kernel_rfl
@[go_sem] theorem ty_197 : ty 197 = some ti197 := by kernel_rfl
@[go_sem] theorem ty_198 : ty 198 = some ti198 := by kernel_rfl
@[go_sem] theorem ty_199 : ty 199 = some ti199 := by kernel_rfl
@[go_sem] theorem ty_200 : ty 200 = some ti200 := by kernel_rfl
@[go_sem] theorem ty_201 : ty 201 = some ti201 := by kernel_rfl
@[go_sem] theorem ty_202 : ty 202 = some ti202 := by kernel_rfl
@[go_sem] theorem ty_203 : ty 203 = some ti203 := by kernel_rfl
@[go_sem] theorem ty_204 : ty 204 = some ti204 := by kernel_rfl
@[go_sem] theorem ty_205 : ty 205 = some ti205 := by kernel_rfl
@[go_sem] theorem ty_206 : ty 206 = some ti206 := by kernel_rfl
@[go_sem] theorem ty_207 : ty 207 = some ti207 := by kernel_rfl
@[go_sem] theorem ty_208 : ty 208 = some ti208 := by kernel_rfl
@[go_sem] theorem ty_209 : ty 209 = some ti209 := by kernel_rfl
@[go_sem] theorem ty_210 : ty 210 = some ti210 := by kernel_rfl
@[go_sem] theorem ty_211 : ty 211 = some ti211 := by kernel_rfl
@[go_sem] theorem ty_212 : ty 212 = some ti212 := by kernel_rfl
@[go_sem] theorem ty_213 : ty 213 = some ti213 := by kernel_rfl
@[go_sem] theorem ty_214 : ty 214 = some ti214 := by kernel_rfl
@[go_sem] theorem ty_215 : ty 215 = some ti215 := by kernel_rfl
@[go_sem] theorem ty_216 : ty 216 = some ti216 := by kernel_rfl
@[go_sem] theorem ty_217 : ty 217 = some ti217 := by kernel_rfl
@[go_sem] theorem ty_220 : ty 220 = some ti220 := by kernel_rfl
@[go_sem] theorem ty_223 : ty 223 = some ti223 := by kernel_rfl
@[go_sem] theorem ty_224 : ty 224 = some ti224 := by kernel_rfl
@[go_sem] theorem ty_227 : ty 227 = some ti227 := by kernel_rfl
@[go_sem] theorem ty_228 : ty 228 = some ti228 := by kernel_rfl
@[go_sem] theorem ty_231 : ty 231 = some ti231 := by kernel_rfl
attribute [go_sem] ti1 ti2 ti3 ti4 ti5 ti9 ti12 ti15 ti16 ti17 ti21 ti22 ti23 ti24 ti25 ti26 ti27 ti28 ti29 ti30 ti31 ti32 ti33 ti34 ti35 ti37 ti38 ti40 ti41 ti42 ti43 ti44 ti45 ti46 ti47 ti48 ti49 ti50 ti51 ti52 ti53 ti54 ti56 ti57 ti58 ti59 ti60 ti61 ti63 ti64 ti65 ti66 ti67 ti68 ti69 ti70 ti71 ti72 ti73 ti74 ti75 ti76 ti77 ti78 ti79 ti80 ti81 ti82 ti83 ti84 ti85 ti86 ti87 ti88 ti89 ti90 ti91 ti92 ti93 ti94 ti95 ti97 ti98 ti100 ti102 ti103 ti104 ti105 ti106 ti107 ti108 ti109 ti110 ti112 ti113 ti114 ti115 ti116 ti117 ti118 ti119 ti120 ti121 ti122 ti123 ti124 ti125 ti126 ti127 ti128 ti129 ti130 ti131 ti132 ti133 ti134 ti135 ti136 ti137 ti138 ti139 ti140 ti141 ti142 ti143 ti144 ti145 ti146 ti147 ti148 ti149 ti150 ti151 ti152 ti153 ti154 ti155 ti157 ti158 ti159 ti160 ti161 ti162 ti163 ti164 ti165 ti166 ti167 ti168 ti169 ti170 ti171 ti172 ti173 ti174 ti175 ti176 ti177 ti178 ti179 ti180 ti181 ti182 ti183 ti184 ti185 ti186 ti187 ti188 ti189 ti190 ti191 ti192 ti193 ti194 ti195 ti196 ti197 ti198 ti199 ti200 ti201 ti202 ti203 ti204 ti205 ti206 ti207 ti208 ti209 ti210 ti211 ti212 ti213 ti214 ti215 ti216 ti217 ti220 ti223 ti224 ti227 ti228 ti231

theorem fact {t : Nat} {i : TI} (z : Value) (h1 : (Tryd.prog.info? t).map (fun i => (i.size, i.bytes, i.zero)) = some (i.size, i.bytes, some z)) (h2 : Tryd.prog.underlying t = some i.desc) (hz : z.cells.toList = i.zero)
    (ha : i.agg = (match i.desc with | .struct _ | .array _ _ => true | _ => false)) (ho : i.agg = false → i.size = 1) (hl : i.zero.length = i.size) (he : ∀ n, i.eqn = some n → EqOk Tryd.prog t n) : TyFact Tryd.prog t i := by
  refine ⟨?_, h2, ha, ho, hl, he⟩
  cases hi : Tryd.prog.info? t with
  | none => rw [hi] at h1; cases h1
  | some info =>
    rw [hi] at h1
    simp only [Option.map_some, Option.some.injEq, Prod.mk.injEq] at h1
    exact ⟨info, z, rfl, h1.1, h1.2.1, h1.2.2, hz⟩

theorem eq30 : EqOk Tryd.prog 30 7 where
  guard := by kernel_rfl
  run := by
    intro xs ys w h1 h2
    match xs, ys, h1, h2 with
    | [a0, a1, a2, a3, a4, a5, a6], [b0, b1, b2, b3, b4, b5, b6], _, _ =>
      have u3 : Tryd.prog.underlying 3 = some (.int .i64) := by kernel_rfl
      have u30 : Tryd.prog.underlying 30 = some (.struct #[⟨"Parent", 3, 0, false, "", "", 0⟩, ⟨"Austenite", 3, 1, false, "", "", 8⟩, ⟨"Bainite", 3, 2, false, "", "", 16⟩, ⟨"Martensite", 3, 3, false, "", "", 24⟩, ⟨"Wait", 3, 4, false, "", "", 32⟩, ⟨"Grain", 3, 5, false, "", "", 40⟩, ⟨"Temper", 3, 6, false, "", "", 48⟩]) := by kernel_rfl
      have g30 : Tryd.prog.stoodInHeld 30 = false := by kernel_rfl
      have v30 : Tryd.prog.underlying 30 = some (.struct (Tryd.prog.fieldsOf 30)) := by kernel_rfl
      have w30 : (Tryd.prog.fieldsOf 30).toList = [⟨"Parent", 3, 0, false, "", "", 0⟩, ⟨"Austenite", 3, 1, false, "", "", 8⟩, ⟨"Bainite", 3, 2, false, "", "", 16⟩, ⟨"Martensite", 3, 3, false, "", "", 24⟩, ⟨"Wait", 3, 4, false, "", "", 32⟩, ⟨"Grain", 3, 5, false, "", "", 40⟩, ⟨"Temper", 3, 6, false, "", "", 48⟩] := by kernel_rfl
      have s30 : ∀ w, (sizeOf 30).run Tryd.prog w = .ok 7 w := fun _ => by kernel_rfl
      have p3 : ∀ w, (isAgg 3).run Tryd.prog w = .ok false w := fun _ => by kernel_rfl
      have p30 : ∀ w, (isAgg 30).run Tryd.prog w = .ok true w := fun _ => by kernel_rfl
      have e3 : ∀ (d : Nat) (a b : Int) (w : World), (Op.equalIn (d + 1) 3 (.int .i64 a) (.int .i64 b)).run Tryd.prog w = .ok (a == b) w := fun d a b w => run_equalIn_int w d 3 .i64 .i64 a b u3
      have e30 : ∀ (d : Nat) (xs ys : Array Value) (w : World), (Op.equalIn (d + 1) 30 (.agg xs) (.agg ys)).run Tryd.prog w = (Op.eqFields d xs ys (Tryd.prog.fieldsOf 30).toList).run Tryd.prog w := fun d xs ys w => run_equalIn_struct w d 30 xs ys v30 g30
      simp [ints, e3, e30, Op.eqFields, part, g30, w30, s30, p3, p30]
      try grind
theorem eq52 : EqOk Tryd.prog 52 2 where
  guard := by kernel_rfl
  run := by
    intro xs ys w h1 h2
    match xs, ys, h1, h2 with
    | [a0, a1], [b0, b1], _, _ =>
      have u3 : Tryd.prog.underlying 3 = some (.int .i64) := by kernel_rfl
      have u52 : Tryd.prog.underlying 52 = some (.struct #[⟨"Lo", 3, 0, false, "", "", 0⟩, ⟨"Hi", 3, 1, false, "", "", 8⟩]) := by kernel_rfl
      have g52 : Tryd.prog.stoodInHeld 52 = false := by kernel_rfl
      have v52 : Tryd.prog.underlying 52 = some (.struct (Tryd.prog.fieldsOf 52)) := by kernel_rfl
      have w52 : (Tryd.prog.fieldsOf 52).toList = [⟨"Lo", 3, 0, false, "", "", 0⟩, ⟨"Hi", 3, 1, false, "", "", 8⟩] := by kernel_rfl
      have s52 : ∀ w, (sizeOf 52).run Tryd.prog w = .ok 2 w := fun _ => by kernel_rfl
      have p3 : ∀ w, (isAgg 3).run Tryd.prog w = .ok false w := fun _ => by kernel_rfl
      have p52 : ∀ w, (isAgg 52).run Tryd.prog w = .ok true w := fun _ => by kernel_rfl
      have e3 : ∀ (d : Nat) (a b : Int) (w : World), (Op.equalIn (d + 1) 3 (.int .i64 a) (.int .i64 b)).run Tryd.prog w = .ok (a == b) w := fun d a b w => run_equalIn_int w d 3 .i64 .i64 a b u3
      have e52 : ∀ (d : Nat) (xs ys : Array Value) (w : World), (Op.equalIn (d + 1) 52 (.agg xs) (.agg ys)).run Tryd.prog w = (Op.eqFields d xs ys (Tryd.prog.fieldsOf 52).toList).run Tryd.prog w := fun d xs ys w => run_equalIn_struct w d 52 xs ys v52 g52
      simp [ints, e3, e52, Op.eqFields, part, g52, w52, s52, p3, p52]
      try grind
theorem tf1 : TyFact Tryd.prog 1 ti1 :=
  fact (.nilFunc) (by kernel_rfl) (by kernel_rfl) rfl rfl (by first | (intro _; rfl) | (intro h; cases h)) rfl (fun n hn => by first | (cases hn; done) | (obtain rfl := Option.some.inj hn; exact False.elim (by cases hn)))
theorem tf2 : TyFact Tryd.prog 2 ti2 :=
  fact (.int .i64 0) (by kernel_rfl) (by kernel_rfl) rfl rfl (by first | (intro _; rfl) | (intro h; cases h)) rfl (fun n hn => by first | (cases hn; done) | (obtain rfl := Option.some.inj hn; exact False.elim (by cases hn)))
theorem tf3 : TyFact Tryd.prog 3 ti3 :=
  fact (.int .i64 0) (by kernel_rfl) (by kernel_rfl) rfl rfl (by first | (intro _; rfl) | (intro h; cases h)) rfl (fun n hn => by first | (cases hn; done) | (obtain rfl := Option.some.inj hn; exact False.elim (by cases hn)))
theorem tf4 : TyFact Tryd.prog 4 ti4 :=
  fact (.bool false) (by kernel_rfl) (by kernel_rfl) rfl rfl (by first | (intro _; rfl) | (intro h; cases h)) rfl (fun n hn => by first | (cases hn; done) | (obtain rfl := Option.some.inj hn; exact False.elim (by cases hn)))
theorem tf5 : TyFact Tryd.prog 5 ti5 :=
  fact (.int .u8 0) (by kernel_rfl) (by kernel_rfl) rfl rfl (by first | (intro _; rfl) | (intro h; cases h)) rfl (fun n hn => by first | (cases hn; done) | (obtain rfl := Option.some.inj hn; exact False.elim (by cases hn)))
theorem tf9 : TyFact Tryd.prog 9 ti9 :=
  fact (.string .empty) (by kernel_rfl) (by kernel_rfl) rfl rfl (by first | (intro _; rfl) | (intro h; cases h)) rfl (fun n hn => by first | (cases hn; done) | (obtain rfl := Option.some.inj hn; exact False.elim (by cases hn)))
theorem tf12 : TyFact Tryd.prog 12 ti12 :=
  fact (.int .u64 0) (by kernel_rfl) (by kernel_rfl) rfl rfl (by first | (intro _; rfl) | (intro h; cases h)) rfl (fun n hn => by first | (cases hn; done) | (obtain rfl := Option.some.inj hn; exact False.elim (by cases hn)))
theorem tf15 : TyFact Tryd.prog 15 ti15 :=
  fact (.pointer none) (by kernel_rfl) (by kernel_rfl) rfl rfl (by first | (intro _; rfl) | (intro h; cases h)) rfl (fun n hn => by first | (cases hn; done) | (obtain rfl := Option.some.inj hn; exact False.elim (by cases hn)))
theorem tf16 : TyFact Tryd.prog 16 ti16 :=
  fact (.pointer none) (by kernel_rfl) (by kernel_rfl) rfl rfl (by first | (intro _; rfl) | (intro h; cases h)) rfl (fun n hn => by first | (cases hn; done) | (obtain rfl := Option.some.inj hn; exact False.elim (by cases hn)))
theorem tf17 : TyFact Tryd.prog 17 ti17 :=
  fact (.pointer none) (by kernel_rfl) (by kernel_rfl) rfl rfl (by first | (intro _; rfl) | (intro h; cases h)) rfl (fun n hn => by first | (cases hn; done) | (obtain rfl := Option.some.inj hn; exact False.elim (by cases hn)))
theorem tf21 : TyFact Tryd.prog 21 ti21 :=
  fact (.int .i32 0) (by kernel_rfl) (by kernel_rfl) rfl rfl (by first | (intro _; rfl) | (intro h; cases h)) rfl (fun n hn => by first | (cases hn; done) | (obtain rfl := Option.some.inj hn; exact False.elim (by cases hn)))
theorem tf22 : TyFact Tryd.prog 22 ti22 :=
  fact (.slice none 0 0) (by kernel_rfl) (by kernel_rfl) rfl rfl (by first | (intro _; rfl) | (intro h; cases h)) rfl (fun n hn => by first | (cases hn; done) | (obtain rfl := Option.some.inj hn; exact False.elim (by cases hn)))
theorem tf23 : TyFact Tryd.prog 23 ti23 :=
  fact (.slice none 0 0) (by kernel_rfl) (by kernel_rfl) rfl rfl (by first | (intro _; rfl) | (intro h; cases h)) rfl (fun n hn => by first | (cases hn; done) | (obtain rfl := Option.some.inj hn; exact False.elim (by cases hn)))
theorem tf24 : TyFact Tryd.prog 24 ti24 :=
  fact (.slice none 0 0) (by kernel_rfl) (by kernel_rfl) rfl rfl (by first | (intro _; rfl) | (intro h; cases h)) rfl (fun n hn => by first | (cases hn; done) | (obtain rfl := Option.some.inj hn; exact False.elim (by cases hn)))
theorem tf25 : TyFact Tryd.prog 25 ti25 :=
  fact (.slice none 0 0) (by kernel_rfl) (by kernel_rfl) rfl rfl (by first | (intro _; rfl) | (intro h; cases h)) rfl (fun n hn => by first | (cases hn; done) | (obtain rfl := Option.some.inj hn; exact False.elim (by cases hn)))
theorem tf26 : TyFact Tryd.prog 26 ti26 :=
  fact (.agg #[.int .i64 0, .int .i64 0, .int .i64 0, .int .i64 0]) (by kernel_rfl) (by kernel_rfl) rfl rfl (by first | (intro _; rfl) | (intro h; cases h)) rfl (fun n hn => by first | (cases hn; done) | (obtain rfl := Option.some.inj hn; exact False.elim (by cases hn)))
theorem tf27 : TyFact Tryd.prog 27 ti27 :=
  fact (.agg #[.slice none 0 0, .slice none 0 0, .slice none 0 0, .slice none 0 0, .int .i64 0, .int .i64 0, .int .i64 0, .int .i64 0]) (by kernel_rfl) (by kernel_rfl) rfl rfl (by first | (intro _; rfl) | (intro h; cases h)) rfl (fun n hn => by first | (cases hn; done) | (obtain rfl := Option.some.inj hn; exact False.elim (by cases hn)))
theorem tf28 : TyFact Tryd.prog 28 ti28 :=
  fact (.agg #[.slice none 0 0, .slice none 0 0, .slice none 0 0, .slice none 0 0, .int .i64 0, .int .i64 0, .int .i64 0, .int .i64 0]) (by kernel_rfl) (by kernel_rfl) rfl rfl (by first | (intro _; rfl) | (intro h; cases h)) rfl (fun n hn => by first | (cases hn; done) | (obtain rfl := Option.some.inj hn; exact False.elim (by cases hn)))
theorem tf29 : TyFact Tryd.prog 29 ti29 :=
  fact (.agg #[.int .i64 0, .int .i64 0, .int .i64 0, .int .i64 0, .int .i64 0, .int .i64 0, .int .i64 0]) (by kernel_rfl) (by kernel_rfl) rfl rfl (by first | (intro _; rfl) | (intro h; cases h)) rfl (fun n hn => by first | (cases hn; done) | (obtain rfl := Option.some.inj hn; exact False.elim (by cases hn)))
theorem tf30 : TyFact Tryd.prog 30 ti30 :=
  fact (.agg #[.int .i64 0, .int .i64 0, .int .i64 0, .int .i64 0, .int .i64 0, .int .i64 0, .int .i64 0]) (by kernel_rfl) (by kernel_rfl) rfl rfl (by first | (intro _; rfl) | (intro h; cases h)) rfl (fun n hn => by first | (cases hn; done) | (obtain rfl := Option.some.inj hn; exact eq30))
theorem tf31 : TyFact Tryd.prog 31 ti31 :=
  fact (.agg #[.int .i64 0, .int .i64 0, .int .i64 0]) (by kernel_rfl) (by kernel_rfl) rfl rfl (by first | (intro _; rfl) | (intro h; cases h)) rfl (fun n hn => by first | (cases hn; done) | (obtain rfl := Option.some.inj hn; exact False.elim (by cases hn)))
theorem tf32 : TyFact Tryd.prog 32 ti32 :=
  fact (.agg #[.int .i64 0, .int .i64 0, .int .i64 0]) (by kernel_rfl) (by kernel_rfl) rfl rfl (by first | (intro _; rfl) | (intro h; cases h)) rfl (fun n hn => by first | (cases hn; done) | (obtain rfl := Option.some.inj hn; exact False.elim (by cases hn)))
theorem tf33 : TyFact Tryd.prog 33 ti33 :=
  fact (.nilFunc) (by kernel_rfl) (by kernel_rfl) rfl rfl (by first | (intro _; rfl) | (intro h; cases h)) rfl (fun n hn => by first | (cases hn; done) | (obtain rfl := Option.some.inj hn; exact False.elim (by cases hn)))
theorem tf34 : TyFact Tryd.prog 34 ti34 :=
  fact (.nilFunc) (by kernel_rfl) (by kernel_rfl) rfl rfl (by first | (intro _; rfl) | (intro h; cases h)) rfl (fun n hn => by first | (cases hn; done) | (obtain rfl := Option.some.inj hn; exact False.elim (by cases hn)))
theorem tf35 : TyFact Tryd.prog 35 ti35 :=
  fact (.int .i64 0) (by kernel_rfl) (by kernel_rfl) rfl rfl (by first | (intro _; rfl) | (intro h; cases h)) rfl (fun n hn => by first | (cases hn; done) | (obtain rfl := Option.some.inj hn; exact False.elim (by cases hn)))
theorem tf37 : TyFact Tryd.prog 37 ti37 :=
  fact (.nilFunc) (by kernel_rfl) (by kernel_rfl) rfl rfl (by first | (intro _; rfl) | (intro h; cases h)) rfl (fun n hn => by first | (cases hn; done) | (obtain rfl := Option.some.inj hn; exact False.elim (by cases hn)))
theorem tf38 : TyFact Tryd.prog 38 ti38 :=
  fact (.nilFunc) (by kernel_rfl) (by kernel_rfl) rfl rfl (by first | (intro _; rfl) | (intro h; cases h)) rfl (fun n hn => by first | (cases hn; done) | (obtain rfl := Option.some.inj hn; exact False.elim (by cases hn)))
theorem tf40 : TyFact Tryd.prog 40 ti40 :=
  fact (.nilFunc) (by kernel_rfl) (by kernel_rfl) rfl rfl (by first | (intro _; rfl) | (intro h; cases h)) rfl (fun n hn => by first | (cases hn; done) | (obtain rfl := Option.some.inj hn; exact False.elim (by cases hn)))
theorem tf41 : TyFact Tryd.prog 41 ti41 :=
  fact (.nilFunc) (by kernel_rfl) (by kernel_rfl) rfl rfl (by first | (intro _; rfl) | (intro h; cases h)) rfl (fun n hn => by first | (cases hn; done) | (obtain rfl := Option.some.inj hn; exact False.elim (by cases hn)))
theorem tf42 : TyFact Tryd.prog 42 ti42 :=
  fact (.nilFunc) (by kernel_rfl) (by kernel_rfl) rfl rfl (by first | (intro _; rfl) | (intro h; cases h)) rfl (fun n hn => by first | (cases hn; done) | (obtain rfl := Option.some.inj hn; exact False.elim (by cases hn)))
theorem tf43 : TyFact Tryd.prog 43 ti43 :=
  fact (.nilFunc) (by kernel_rfl) (by kernel_rfl) rfl rfl (by first | (intro _; rfl) | (intro h; cases h)) rfl (fun n hn => by first | (cases hn; done) | (obtain rfl := Option.some.inj hn; exact False.elim (by cases hn)))
theorem tf44 : TyFact Tryd.prog 44 ti44 :=
  fact (.nilFunc) (by kernel_rfl) (by kernel_rfl) rfl rfl (by first | (intro _; rfl) | (intro h; cases h)) rfl (fun n hn => by first | (cases hn; done) | (obtain rfl := Option.some.inj hn; exact False.elim (by cases hn)))
theorem tf45 : TyFact Tryd.prog 45 ti45 :=
  fact (.nilFunc) (by kernel_rfl) (by kernel_rfl) rfl rfl (by first | (intro _; rfl) | (intro h; cases h)) rfl (fun n hn => by first | (cases hn; done) | (obtain rfl := Option.some.inj hn; exact False.elim (by cases hn)))
theorem tf46 : TyFact Tryd.prog 46 ti46 :=
  fact (.slice none 0 0) (by kernel_rfl) (by kernel_rfl) rfl rfl (by first | (intro _; rfl) | (intro h; cases h)) rfl (fun n hn => by first | (cases hn; done) | (obtain rfl := Option.some.inj hn; exact False.elim (by cases hn)))
theorem tf47 : TyFact Tryd.prog 47 ti47 :=
  fact (.agg #[.slice none 0 0, .int .i64 0, .int .i64 0, .int .i64 0, .int .i64 0, .int .i64 0, .int .i64 0]) (by kernel_rfl) (by kernel_rfl) rfl rfl (by first | (intro _; rfl) | (intro h; cases h)) rfl (fun n hn => by first | (cases hn; done) | (obtain rfl := Option.some.inj hn; exact False.elim (by cases hn)))
theorem tf48 : TyFact Tryd.prog 48 ti48 :=
  fact (.agg #[.slice none 0 0, .int .i64 0, .int .i64 0, .int .i64 0, .int .i64 0, .int .i64 0, .int .i64 0]) (by kernel_rfl) (by kernel_rfl) rfl rfl (by first | (intro _; rfl) | (intro h; cases h)) rfl (fun n hn => by first | (cases hn; done) | (obtain rfl := Option.some.inj hn; exact False.elim (by cases hn)))
theorem tf49 : TyFact Tryd.prog 49 ti49 :=
  fact (.nilFunc) (by kernel_rfl) (by kernel_rfl) rfl rfl (by first | (intro _; rfl) | (intro h; cases h)) rfl (fun n hn => by first | (cases hn; done) | (obtain rfl := Option.some.inj hn; exact False.elim (by cases hn)))
theorem tf50 : TyFact Tryd.prog 50 ti50 :=
  fact (.nilFunc) (by kernel_rfl) (by kernel_rfl) rfl rfl (by first | (intro _; rfl) | (intro h; cases h)) rfl (fun n hn => by first | (cases hn; done) | (obtain rfl := Option.some.inj hn; exact False.elim (by cases hn)))
theorem tf51 : TyFact Tryd.prog 51 ti51 :=
  fact (.agg #[.int .i64 0, .int .i64 0]) (by kernel_rfl) (by kernel_rfl) rfl rfl (by first | (intro _; rfl) | (intro h; cases h)) rfl (fun n hn => by first | (cases hn; done) | (obtain rfl := Option.some.inj hn; exact False.elim (by cases hn)))
theorem tf52 : TyFact Tryd.prog 52 ti52 :=
  fact (.agg #[.int .i64 0, .int .i64 0]) (by kernel_rfl) (by kernel_rfl) rfl rfl (by first | (intro _; rfl) | (intro h; cases h)) rfl (fun n hn => by first | (cases hn; done) | (obtain rfl := Option.some.inj hn; exact eq52))
theorem tf53 : TyFact Tryd.prog 53 ti53 :=
  fact (.agg #[.int .i64 0, .int .i64 0, .int .i64 0, .int .i64 0]) (by kernel_rfl) (by kernel_rfl) rfl rfl (by first | (intro _; rfl) | (intro h; cases h)) rfl (fun n hn => by first | (cases hn; done) | (obtain rfl := Option.some.inj hn; exact False.elim (by cases hn)))
theorem tf54 : TyFact Tryd.prog 54 ti54 :=
  fact (.agg #[.int .i64 0, .int .i64 0, .int .i64 0, .int .i64 0]) (by kernel_rfl) (by kernel_rfl) rfl rfl (by first | (intro _; rfl) | (intro h; cases h)) rfl (fun n hn => by first | (cases hn; done) | (obtain rfl := Option.some.inj hn; exact False.elim (by cases hn)))
theorem tf56 : TyFact Tryd.prog 56 ti56 :=
  fact (.nilFunc) (by kernel_rfl) (by kernel_rfl) rfl rfl (by first | (intro _; rfl) | (intro h; cases h)) rfl (fun n hn => by first | (cases hn; done) | (obtain rfl := Option.some.inj hn; exact False.elim (by cases hn)))
theorem tf57 : TyFact Tryd.prog 57 ti57 :=
  fact (.nilFunc) (by kernel_rfl) (by kernel_rfl) rfl rfl (by first | (intro _; rfl) | (intro h; cases h)) rfl (fun n hn => by first | (cases hn; done) | (obtain rfl := Option.some.inj hn; exact False.elim (by cases hn)))
theorem tf58 : TyFact Tryd.prog 58 ti58 :=
  fact (.agg #[.slice none 0 0, .int .i64 0, .int .i64 0, .int .i64 0]) (by kernel_rfl) (by kernel_rfl) rfl rfl (by first | (intro _; rfl) | (intro h; cases h)) rfl (fun n hn => by first | (cases hn; done) | (obtain rfl := Option.some.inj hn; exact False.elim (by cases hn)))
theorem tf59 : TyFact Tryd.prog 59 ti59 :=
  fact (.agg #[.slice none 0 0, .int .i64 0, .int .i64 0, .int .i64 0]) (by kernel_rfl) (by kernel_rfl) rfl rfl (by first | (intro _; rfl) | (intro h; cases h)) rfl (fun n hn => by first | (cases hn; done) | (obtain rfl := Option.some.inj hn; exact False.elim (by cases hn)))
theorem tf60 : TyFact Tryd.prog 60 ti60 :=
  fact (.nilFunc) (by kernel_rfl) (by kernel_rfl) rfl rfl (by first | (intro _; rfl) | (intro h; cases h)) rfl (fun n hn => by first | (cases hn; done) | (obtain rfl := Option.some.inj hn; exact False.elim (by cases hn)))
theorem tf61 : TyFact Tryd.prog 61 ti61 :=
  fact (.slice none 0 0) (by kernel_rfl) (by kernel_rfl) rfl rfl (by first | (intro _; rfl) | (intro h; cases h)) rfl (fun n hn => by first | (cases hn; done) | (obtain rfl := Option.some.inj hn; exact False.elim (by cases hn)))
theorem tf63 : TyFact Tryd.prog 63 ti63 :=
  fact (.nilFunc) (by kernel_rfl) (by kernel_rfl) rfl rfl (by first | (intro _; rfl) | (intro h; cases h)) rfl (fun n hn => by first | (cases hn; done) | (obtain rfl := Option.some.inj hn; exact False.elim (by cases hn)))
theorem tf64 : TyFact Tryd.prog 64 ti64 :=
  fact (.nilFunc) (by kernel_rfl) (by kernel_rfl) rfl rfl (by first | (intro _; rfl) | (intro h; cases h)) rfl (fun n hn => by first | (cases hn; done) | (obtain rfl := Option.some.inj hn; exact False.elim (by cases hn)))
theorem tf65 : TyFact Tryd.prog 65 ti65 :=
  fact (.nilFunc) (by kernel_rfl) (by kernel_rfl) rfl rfl (by first | (intro _; rfl) | (intro h; cases h)) rfl (fun n hn => by first | (cases hn; done) | (obtain rfl := Option.some.inj hn; exact False.elim (by cases hn)))
theorem tf66 : TyFact Tryd.prog 66 ti66 :=
  fact (.nilFunc) (by kernel_rfl) (by kernel_rfl) rfl rfl (by first | (intro _; rfl) | (intro h; cases h)) rfl (fun n hn => by first | (cases hn; done) | (obtain rfl := Option.some.inj hn; exact False.elim (by cases hn)))
theorem tf67 : TyFact Tryd.prog 67 ti67 :=
  fact (.nilFunc) (by kernel_rfl) (by kernel_rfl) rfl rfl (by first | (intro _; rfl) | (intro h; cases h)) rfl (fun n hn => by first | (cases hn; done) | (obtain rfl := Option.some.inj hn; exact False.elim (by cases hn)))
theorem tf68 : TyFact Tryd.prog 68 ti68 :=
  fact (.nilFunc) (by kernel_rfl) (by kernel_rfl) rfl rfl (by first | (intro _; rfl) | (intro h; cases h)) rfl (fun n hn => by first | (cases hn; done) | (obtain rfl := Option.some.inj hn; exact False.elim (by cases hn)))
theorem tf69 : TyFact Tryd.prog 69 ti69 :=
  fact (.nilFunc) (by kernel_rfl) (by kernel_rfl) rfl rfl (by first | (intro _; rfl) | (intro h; cases h)) rfl (fun n hn => by first | (cases hn; done) | (obtain rfl := Option.some.inj hn; exact False.elim (by cases hn)))
theorem tf70 : TyFact Tryd.prog 70 ti70 :=
  fact (.agg #[.int .i64 0, .int .i64 0, .int .i64 0, .int .i64 0]) (by kernel_rfl) (by kernel_rfl) rfl rfl (by first | (intro _; rfl) | (intro h; cases h)) rfl (fun n hn => by first | (cases hn; done) | (obtain rfl := Option.some.inj hn; exact False.elim (by cases hn)))
theorem tf71 : TyFact Tryd.prog 71 ti71 :=
  fact (.agg #[.int .i64 0, .int .i64 0, .int .i64 0, .int .i64 0]) (by kernel_rfl) (by kernel_rfl) rfl rfl (by first | (intro _; rfl) | (intro h; cases h)) rfl (fun n hn => by first | (cases hn; done) | (obtain rfl := Option.some.inj hn; exact False.elim (by cases hn)))
theorem tf72 : TyFact Tryd.prog 72 ti72 :=
  fact (.nilFunc) (by kernel_rfl) (by kernel_rfl) rfl rfl (by first | (intro _; rfl) | (intro h; cases h)) rfl (fun n hn => by first | (cases hn; done) | (obtain rfl := Option.some.inj hn; exact False.elim (by cases hn)))
theorem tf73 : TyFact Tryd.prog 73 ti73 :=
  fact (.nilFunc) (by kernel_rfl) (by kernel_rfl) rfl rfl (by first | (intro _; rfl) | (intro h; cases h)) rfl (fun n hn => by first | (cases hn; done) | (obtain rfl := Option.some.inj hn; exact False.elim (by cases hn)))
theorem tf74 : TyFact Tryd.prog 74 ti74 :=
  fact (.agg #[.int .i64 0, .int .i64 0]) (by kernel_rfl) (by kernel_rfl) rfl rfl (by first | (intro _; rfl) | (intro h; cases h)) rfl (fun n hn => by first | (cases hn; done) | (obtain rfl := Option.some.inj hn; exact False.elim (by cases hn)))
theorem tf75 : TyFact Tryd.prog 75 ti75 :=
  fact (.nilFunc) (by kernel_rfl) (by kernel_rfl) rfl rfl (by first | (intro _; rfl) | (intro h; cases h)) rfl (fun n hn => by first | (cases hn; done) | (obtain rfl := Option.some.inj hn; exact False.elim (by cases hn)))
theorem tf76 : TyFact Tryd.prog 76 ti76 :=
  fact (.nilFunc) (by kernel_rfl) (by kernel_rfl) rfl rfl (by first | (intro _; rfl) | (intro h; cases h)) rfl (fun n hn => by first | (cases hn; done) | (obtain rfl := Option.some.inj hn; exact False.elim (by cases hn)))
theorem tf77 : TyFact Tryd.prog 77 ti77 :=
  fact (.nilFunc) (by kernel_rfl) (by kernel_rfl) rfl rfl (by first | (intro _; rfl) | (intro h; cases h)) rfl (fun n hn => by first | (cases hn; done) | (obtain rfl := Option.some.inj hn; exact False.elim (by cases hn)))
theorem tf78 : TyFact Tryd.prog 78 ti78 :=
  fact (.nilFunc) (by kernel_rfl) (by kernel_rfl) rfl rfl (by first | (intro _; rfl) | (intro h; cases h)) rfl (fun n hn => by first | (cases hn; done) | (obtain rfl := Option.some.inj hn; exact False.elim (by cases hn)))
theorem tf79 : TyFact Tryd.prog 79 ti79 :=
  fact (.nilFunc) (by kernel_rfl) (by kernel_rfl) rfl rfl (by first | (intro _; rfl) | (intro h; cases h)) rfl (fun n hn => by first | (cases hn; done) | (obtain rfl := Option.some.inj hn; exact False.elim (by cases hn)))
theorem tf80 : TyFact Tryd.prog 80 ti80 :=
  fact (.nilFunc) (by kernel_rfl) (by kernel_rfl) rfl rfl (by first | (intro _; rfl) | (intro h; cases h)) rfl (fun n hn => by first | (cases hn; done) | (obtain rfl := Option.some.inj hn; exact False.elim (by cases hn)))
theorem tf81 : TyFact Tryd.prog 81 ti81 :=
  fact (.nilFunc) (by kernel_rfl) (by kernel_rfl) rfl rfl (by first | (intro _; rfl) | (intro h; cases h)) rfl (fun n hn => by first | (cases hn; done) | (obtain rfl := Option.some.inj hn; exact False.elim (by cases hn)))
theorem tf82 : TyFact Tryd.prog 82 ti82 :=
  fact (.nilFunc) (by kernel_rfl) (by kernel_rfl) rfl rfl (by first | (intro _; rfl) | (intro h; cases h)) rfl (fun n hn => by first | (cases hn; done) | (obtain rfl := Option.some.inj hn; exact False.elim (by cases hn)))
theorem tf83 : TyFact Tryd.prog 83 ti83 :=
  fact (.slice none 0 0) (by kernel_rfl) (by kernel_rfl) rfl rfl (by first | (intro _; rfl) | (intro h; cases h)) rfl (fun n hn => by first | (cases hn; done) | (obtain rfl := Option.some.inj hn; exact False.elim (by cases hn)))
theorem tf84 : TyFact Tryd.prog 84 ti84 :=
  fact (.agg #[.int .i64 0, .slice none 0 0]) (by kernel_rfl) (by kernel_rfl) rfl rfl (by first | (intro _; rfl) | (intro h; cases h)) rfl (fun n hn => by first | (cases hn; done) | (obtain rfl := Option.some.inj hn; exact False.elim (by cases hn)))
theorem tf85 : TyFact Tryd.prog 85 ti85 :=
  fact (.agg #[.int .i64 0, .slice none 0 0]) (by kernel_rfl) (by kernel_rfl) rfl rfl (by first | (intro _; rfl) | (intro h; cases h)) rfl (fun n hn => by first | (cases hn; done) | (obtain rfl := Option.some.inj hn; exact False.elim (by cases hn)))
theorem tf86 : TyFact Tryd.prog 86 ti86 :=
  fact (.nilFunc) (by kernel_rfl) (by kernel_rfl) rfl rfl (by first | (intro _; rfl) | (intro h; cases h)) rfl (fun n hn => by first | (cases hn; done) | (obtain rfl := Option.some.inj hn; exact False.elim (by cases hn)))
theorem tf87 : TyFact Tryd.prog 87 ti87 :=
  fact (.nilFunc) (by kernel_rfl) (by kernel_rfl) rfl rfl (by first | (intro _; rfl) | (intro h; cases h)) rfl (fun n hn => by first | (cases hn; done) | (obtain rfl := Option.some.inj hn; exact False.elim (by cases hn)))
theorem tf88 : TyFact Tryd.prog 88 ti88 :=
  fact (.nilFunc) (by kernel_rfl) (by kernel_rfl) rfl rfl (by first | (intro _; rfl) | (intro h; cases h)) rfl (fun n hn => by first | (cases hn; done) | (obtain rfl := Option.some.inj hn; exact False.elim (by cases hn)))
theorem tf89 : TyFact Tryd.prog 89 ti89 :=
  fact (.nilFunc) (by kernel_rfl) (by kernel_rfl) rfl rfl (by first | (intro _; rfl) | (intro h; cases h)) rfl (fun n hn => by first | (cases hn; done) | (obtain rfl := Option.some.inj hn; exact False.elim (by cases hn)))
theorem tf90 : TyFact Tryd.prog 90 ti90 :=
  fact (.nilFunc) (by kernel_rfl) (by kernel_rfl) rfl rfl (by first | (intro _; rfl) | (intro h; cases h)) rfl (fun n hn => by first | (cases hn; done) | (obtain rfl := Option.some.inj hn; exact False.elim (by cases hn)))
theorem tf91 : TyFact Tryd.prog 91 ti91 :=
  fact (.nilFunc) (by kernel_rfl) (by kernel_rfl) rfl rfl (by first | (intro _; rfl) | (intro h; cases h)) rfl (fun n hn => by first | (cases hn; done) | (obtain rfl := Option.some.inj hn; exact False.elim (by cases hn)))
theorem tf92 : TyFact Tryd.prog 92 ti92 :=
  fact (.slice none 0 0) (by kernel_rfl) (by kernel_rfl) rfl rfl (by first | (intro _; rfl) | (intro h; cases h)) rfl (fun n hn => by first | (cases hn; done) | (obtain rfl := Option.some.inj hn; exact False.elim (by cases hn)))
theorem tf93 : TyFact Tryd.prog 93 ti93 :=
  fact (.nilFunc) (by kernel_rfl) (by kernel_rfl) rfl rfl (by first | (intro _; rfl) | (intro h; cases h)) rfl (fun n hn => by first | (cases hn; done) | (obtain rfl := Option.some.inj hn; exact False.elim (by cases hn)))
theorem tf94 : TyFact Tryd.prog 94 ti94 :=
  fact (.nilFunc) (by kernel_rfl) (by kernel_rfl) rfl rfl (by first | (intro _; rfl) | (intro h; cases h)) rfl (fun n hn => by first | (cases hn; done) | (obtain rfl := Option.some.inj hn; exact False.elim (by cases hn)))
theorem tf95 : TyFact Tryd.prog 95 ti95 :=
  fact (.agg #[.string .empty, .string .empty]) (by kernel_rfl) (by kernel_rfl) rfl rfl (by first | (intro _; rfl) | (intro h; cases h)) rfl (fun n hn => by first | (cases hn; done) | (obtain rfl := Option.some.inj hn; exact False.elim (by cases hn)))
theorem tf97 : TyFact Tryd.prog 97 ti97 :=
  fact (.nilFunc) (by kernel_rfl) (by kernel_rfl) rfl rfl (by first | (intro _; rfl) | (intro h; cases h)) rfl (fun n hn => by first | (cases hn; done) | (obtain rfl := Option.some.inj hn; exact False.elim (by cases hn)))
theorem tf98 : TyFact Tryd.prog 98 ti98 :=
  fact (.nilFunc) (by kernel_rfl) (by kernel_rfl) rfl rfl (by first | (intro _; rfl) | (intro h; cases h)) rfl (fun n hn => by first | (cases hn; done) | (obtain rfl := Option.some.inj hn; exact False.elim (by cases hn)))
theorem tf100 : TyFact Tryd.prog 100 ti100 :=
  fact (.nilFunc) (by kernel_rfl) (by kernel_rfl) rfl rfl (by first | (intro _; rfl) | (intro h; cases h)) rfl (fun n hn => by first | (cases hn; done) | (obtain rfl := Option.some.inj hn; exact False.elim (by cases hn)))
theorem tf102 : TyFact Tryd.prog 102 ti102 :=
  fact (.nilFunc) (by kernel_rfl) (by kernel_rfl) rfl rfl (by first | (intro _; rfl) | (intro h; cases h)) rfl (fun n hn => by first | (cases hn; done) | (obtain rfl := Option.some.inj hn; exact False.elim (by cases hn)))
theorem tf103 : TyFact Tryd.prog 103 ti103 :=
  fact (.nilFunc) (by kernel_rfl) (by kernel_rfl) rfl rfl (by first | (intro _; rfl) | (intro h; cases h)) rfl (fun n hn => by first | (cases hn; done) | (obtain rfl := Option.some.inj hn; exact False.elim (by cases hn)))
theorem tf104 : TyFact Tryd.prog 104 ti104 :=
  fact (.agg #[.int .i64 0, .int .i64 0, .int .i64 0, .int .i64 0, .int .i64 0, .int .i64 0, .int .i64 0, .slice none 0 0]) (by kernel_rfl) (by kernel_rfl) rfl rfl (by first | (intro _; rfl) | (intro h; cases h)) rfl (fun n hn => by first | (cases hn; done) | (obtain rfl := Option.some.inj hn; exact False.elim (by cases hn)))
theorem tf105 : TyFact Tryd.prog 105 ti105 :=
  fact (.agg #[.int .i64 0, .int .i64 0, .int .i64 0, .int .i64 0, .int .i64 0, .int .i64 0, .int .i64 0, .slice none 0 0]) (by kernel_rfl) (by kernel_rfl) rfl rfl (by first | (intro _; rfl) | (intro h; cases h)) rfl (fun n hn => by first | (cases hn; done) | (obtain rfl := Option.some.inj hn; exact False.elim (by cases hn)))
theorem tf106 : TyFact Tryd.prog 106 ti106 :=
  fact (.agg #[.int .i64 0, .int .i64 0, .int .i64 0, .slice none 0 0]) (by kernel_rfl) (by kernel_rfl) rfl rfl (by first | (intro _; rfl) | (intro h; cases h)) rfl (fun n hn => by first | (cases hn; done) | (obtain rfl := Option.some.inj hn; exact False.elim (by cases hn)))
theorem tf107 : TyFact Tryd.prog 107 ti107 :=
  fact (.agg #[.int .i64 0, .int .i64 0, .int .i64 0, .slice none 0 0]) (by kernel_rfl) (by kernel_rfl) rfl rfl (by first | (intro _; rfl) | (intro h; cases h)) rfl (fun n hn => by first | (cases hn; done) | (obtain rfl := Option.some.inj hn; exact False.elim (by cases hn)))
theorem tf108 : TyFact Tryd.prog 108 ti108 :=
  fact (.nilFunc) (by kernel_rfl) (by kernel_rfl) rfl rfl (by first | (intro _; rfl) | (intro h; cases h)) rfl (fun n hn => by first | (cases hn; done) | (obtain rfl := Option.some.inj hn; exact False.elim (by cases hn)))
theorem tf109 : TyFact Tryd.prog 109 ti109 :=
  fact (.agg #[.int .i64 0, .int .i64 0, .int .i64 0, .int .i64 0, .int .i64 0, .int .i64 0, .int .i64 0, .int .i64 0, .int .i64 0, .int .i64 0, .int .i64 0, .int .i64 0, .int .i64 0, .int .i64 0]) (by kernel_rfl) (by kernel_rfl) rfl rfl (by first | (intro _; rfl) | (intro h; cases h)) rfl (fun n hn => by first | (cases hn; done) | (obtain rfl := Option.some.inj hn; exact False.elim (by cases hn)))
theorem tf110 : TyFact Tryd.prog 110 ti110 :=
  fact (.agg #[.int .i64 0, .int .i64 0, .int .i64 0, .int .i64 0, .int .i64 0, .int .i64 0, .int .i64 0, .int .i64 0, .int .i64 0, .int .i64 0, .int .i64 0, .int .i64 0, .int .i64 0, .int .i64 0]) (by kernel_rfl) (by kernel_rfl) rfl rfl (by first | (intro _; rfl) | (intro h; cases h)) rfl (fun n hn => by first | (cases hn; done) | (obtain rfl := Option.some.inj hn; exact False.elim (by cases hn)))
theorem tf112 : TyFact Tryd.prog 112 ti112 :=
  fact (.nilFunc) (by kernel_rfl) (by kernel_rfl) rfl rfl (by first | (intro _; rfl) | (intro h; cases h)) rfl (fun n hn => by first | (cases hn; done) | (obtain rfl := Option.some.inj hn; exact False.elim (by cases hn)))
theorem tf113 : TyFact Tryd.prog 113 ti113 :=
  fact (.nilFunc) (by kernel_rfl) (by kernel_rfl) rfl rfl (by first | (intro _; rfl) | (intro h; cases h)) rfl (fun n hn => by first | (cases hn; done) | (obtain rfl := Option.some.inj hn; exact False.elim (by cases hn)))
theorem tf114 : TyFact Tryd.prog 114 ti114 :=
  fact (.nilFunc) (by kernel_rfl) (by kernel_rfl) rfl rfl (by first | (intro _; rfl) | (intro h; cases h)) rfl (fun n hn => by first | (cases hn; done) | (obtain rfl := Option.some.inj hn; exact False.elim (by cases hn)))
theorem tf115 : TyFact Tryd.prog 115 ti115 :=
  fact (.nilFunc) (by kernel_rfl) (by kernel_rfl) rfl rfl (by first | (intro _; rfl) | (intro h; cases h)) rfl (fun n hn => by first | (cases hn; done) | (obtain rfl := Option.some.inj hn; exact False.elim (by cases hn)))
theorem tf116 : TyFact Tryd.prog 116 ti116 :=
  fact (.nilFunc) (by kernel_rfl) (by kernel_rfl) rfl rfl (by first | (intro _; rfl) | (intro h; cases h)) rfl (fun n hn => by first | (cases hn; done) | (obtain rfl := Option.some.inj hn; exact False.elim (by cases hn)))
theorem tf117 : TyFact Tryd.prog 117 ti117 :=
  fact (.nilFunc) (by kernel_rfl) (by kernel_rfl) rfl rfl (by first | (intro _; rfl) | (intro h; cases h)) rfl (fun n hn => by first | (cases hn; done) | (obtain rfl := Option.some.inj hn; exact False.elim (by cases hn)))
theorem tf118 : TyFact Tryd.prog 118 ti118 :=
  fact (.nilFunc) (by kernel_rfl) (by kernel_rfl) rfl rfl (by first | (intro _; rfl) | (intro h; cases h)) rfl (fun n hn => by first | (cases hn; done) | (obtain rfl := Option.some.inj hn; exact False.elim (by cases hn)))
theorem tf119 : TyFact Tryd.prog 119 ti119 :=
  fact (.nilFunc) (by kernel_rfl) (by kernel_rfl) rfl rfl (by first | (intro _; rfl) | (intro h; cases h)) rfl (fun n hn => by first | (cases hn; done) | (obtain rfl := Option.some.inj hn; exact False.elim (by cases hn)))
theorem tf120 : TyFact Tryd.prog 120 ti120 :=
  fact (.nilFunc) (by kernel_rfl) (by kernel_rfl) rfl rfl (by first | (intro _; rfl) | (intro h; cases h)) rfl (fun n hn => by first | (cases hn; done) | (obtain rfl := Option.some.inj hn; exact False.elim (by cases hn)))
theorem tf121 : TyFact Tryd.prog 121 ti121 :=
  fact (.slice none 0 0) (by kernel_rfl) (by kernel_rfl) rfl rfl (by first | (intro _; rfl) | (intro h; cases h)) rfl (fun n hn => by first | (cases hn; done) | (obtain rfl := Option.some.inj hn; exact False.elim (by cases hn)))
theorem tf122 : TyFact Tryd.prog 122 ti122 :=
  fact (.agg #[.slice none 0 0, .slice none 0 0, .slice none 0 0, .slice none 0 0]) (by kernel_rfl) (by kernel_rfl) rfl rfl (by first | (intro _; rfl) | (intro h; cases h)) rfl (fun n hn => by first | (cases hn; done) | (obtain rfl := Option.some.inj hn; exact False.elim (by cases hn)))
theorem tf123 : TyFact Tryd.prog 123 ti123 :=
  fact (.nilFunc) (by kernel_rfl) (by kernel_rfl) rfl rfl (by first | (intro _; rfl) | (intro h; cases h)) rfl (fun n hn => by first | (cases hn; done) | (obtain rfl := Option.some.inj hn; exact False.elim (by cases hn)))
theorem tf124 : TyFact Tryd.prog 124 ti124 :=
  fact (.pointer none) (by kernel_rfl) (by kernel_rfl) rfl rfl (by first | (intro _; rfl) | (intro h; cases h)) rfl (fun n hn => by first | (cases hn; done) | (obtain rfl := Option.some.inj hn; exact False.elim (by cases hn)))
theorem tf125 : TyFact Tryd.prog 125 ti125 :=
  fact (.nilFunc) (by kernel_rfl) (by kernel_rfl) rfl rfl (by first | (intro _; rfl) | (intro h; cases h)) rfl (fun n hn => by first | (cases hn; done) | (obtain rfl := Option.some.inj hn; exact False.elim (by cases hn)))
theorem tf126 : TyFact Tryd.prog 126 ti126 :=
  fact (.agg #[.int .i64 0, .slice none 0 0, .int .i64 0]) (by kernel_rfl) (by kernel_rfl) rfl rfl (by first | (intro _; rfl) | (intro h; cases h)) rfl (fun n hn => by first | (cases hn; done) | (obtain rfl := Option.some.inj hn; exact False.elim (by cases hn)))
theorem tf127 : TyFact Tryd.prog 127 ti127 :=
  fact (.agg #[.int .i64 0, .slice none 0 0, .int .i64 0]) (by kernel_rfl) (by kernel_rfl) rfl rfl (by first | (intro _; rfl) | (intro h; cases h)) rfl (fun n hn => by first | (cases hn; done) | (obtain rfl := Option.some.inj hn; exact False.elim (by cases hn)))
theorem tf128 : TyFact Tryd.prog 128 ti128 :=
  fact (.slice none 0 0) (by kernel_rfl) (by kernel_rfl) rfl rfl (by first | (intro _; rfl) | (intro h; cases h)) rfl (fun n hn => by first | (cases hn; done) | (obtain rfl := Option.some.inj hn; exact False.elim (by cases hn)))
theorem tf129 : TyFact Tryd.prog 129 ti129 :=
  fact (.nilFunc) (by kernel_rfl) (by kernel_rfl) rfl rfl (by first | (intro _; rfl) | (intro h; cases h)) rfl (fun n hn => by first | (cases hn; done) | (obtain rfl := Option.some.inj hn; exact False.elim (by cases hn)))
theorem tf130 : TyFact Tryd.prog 130 ti130 :=
  fact (.nilFunc) (by kernel_rfl) (by kernel_rfl) rfl rfl (by first | (intro _; rfl) | (intro h; cases h)) rfl (fun n hn => by first | (cases hn; done) | (obtain rfl := Option.some.inj hn; exact False.elim (by cases hn)))
theorem tf131 : TyFact Tryd.prog 131 ti131 :=
  fact (.nilFunc) (by kernel_rfl) (by kernel_rfl) rfl rfl (by first | (intro _; rfl) | (intro h; cases h)) rfl (fun n hn => by first | (cases hn; done) | (obtain rfl := Option.some.inj hn; exact False.elim (by cases hn)))
theorem tf132 : TyFact Tryd.prog 132 ti132 :=
  fact (.nilFunc) (by kernel_rfl) (by kernel_rfl) rfl rfl (by first | (intro _; rfl) | (intro h; cases h)) rfl (fun n hn => by first | (cases hn; done) | (obtain rfl := Option.some.inj hn; exact False.elim (by cases hn)))
theorem tf133 : TyFact Tryd.prog 133 ti133 :=
  fact (.nilFunc) (by kernel_rfl) (by kernel_rfl) rfl rfl (by first | (intro _; rfl) | (intro h; cases h)) rfl (fun n hn => by first | (cases hn; done) | (obtain rfl := Option.some.inj hn; exact False.elim (by cases hn)))
theorem tf134 : TyFact Tryd.prog 134 ti134 :=
  fact (.agg #[.int .i64 0, .int .i64 0, .int .i64 0, .int .i64 0, .int .i64 0]) (by kernel_rfl) (by kernel_rfl) rfl rfl (by first | (intro _; rfl) | (intro h; cases h)) rfl (fun n hn => by first | (cases hn; done) | (obtain rfl := Option.some.inj hn; exact False.elim (by cases hn)))
theorem tf135 : TyFact Tryd.prog 135 ti135 :=
  fact (.agg #[.int .i64 0, .int .i64 0, .int .i64 0, .int .i64 0, .int .i64 0]) (by kernel_rfl) (by kernel_rfl) rfl rfl (by first | (intro _; rfl) | (intro h; cases h)) rfl (fun n hn => by first | (cases hn; done) | (obtain rfl := Option.some.inj hn; exact False.elim (by cases hn)))
theorem tf136 : TyFact Tryd.prog 136 ti136 :=
  fact (.agg #[.int .i64 0, .int .i64 0, .int .i64 0]) (by kernel_rfl) (by kernel_rfl) rfl rfl (by first | (intro _; rfl) | (intro h; cases h)) rfl (fun n hn => by first | (cases hn; done) | (obtain rfl := Option.some.inj hn; exact False.elim (by cases hn)))
theorem tf137 : TyFact Tryd.prog 137 ti137 :=
  fact (.agg #[.int .i64 0, .int .i64 0, .int .i64 0]) (by kernel_rfl) (by kernel_rfl) rfl rfl (by first | (intro _; rfl) | (intro h; cases h)) rfl (fun n hn => by first | (cases hn; done) | (obtain rfl := Option.some.inj hn; exact False.elim (by cases hn)))
theorem tf138 : TyFact Tryd.prog 138 ti138 :=
  fact (.agg #[.int .i64 0, .int .i64 0]) (by kernel_rfl) (by kernel_rfl) rfl rfl (by first | (intro _; rfl) | (intro h; cases h)) rfl (fun n hn => by first | (cases hn; done) | (obtain rfl := Option.some.inj hn; exact False.elim (by cases hn)))
theorem tf139 : TyFact Tryd.prog 139 ti139 :=
  fact (.agg #[.int .i64 0, .int .i64 0]) (by kernel_rfl) (by kernel_rfl) rfl rfl (by first | (intro _; rfl) | (intro h; cases h)) rfl (fun n hn => by first | (cases hn; done) | (obtain rfl := Option.some.inj hn; exact False.elim (by cases hn)))
theorem tf140 : TyFact Tryd.prog 140 ti140 :=
  fact (.nilFunc) (by kernel_rfl) (by kernel_rfl) rfl rfl (by first | (intro _; rfl) | (intro h; cases h)) rfl (fun n hn => by first | (cases hn; done) | (obtain rfl := Option.some.inj hn; exact False.elim (by cases hn)))
theorem tf141 : TyFact Tryd.prog 141 ti141 :=
  fact (.nilFunc) (by kernel_rfl) (by kernel_rfl) rfl rfl (by first | (intro _; rfl) | (intro h; cases h)) rfl (fun n hn => by first | (cases hn; done) | (obtain rfl := Option.some.inj hn; exact False.elim (by cases hn)))
theorem tf142 : TyFact Tryd.prog 142 ti142 :=
  fact (.agg #[.slice none 0 0, .slice none 0 0, .slice none 0 0, .slice none 0 0, .int .i64 0, .int .i64 0, .int .i64 0, .int .i64 0]) (by kernel_rfl) (by kernel_rfl) rfl rfl (by first | (intro _; rfl) | (intro h; cases h)) rfl (fun n hn => by first | (cases hn; done) | (obtain rfl := Option.some.inj hn; exact False.elim (by cases hn)))
theorem tf143 : TyFact Tryd.prog 143 ti143 :=
  fact (.agg #[.slice none 0 0, .slice none 0 0, .slice none 0 0, .slice none 0 0, .int .i64 0, .int .i64 0, .int .i64 0, .int .i64 0]) (by kernel_rfl) (by kernel_rfl) rfl rfl (by first | (intro _; rfl) | (intro h; cases h)) rfl (fun n hn => by first | (cases hn; done) | (obtain rfl := Option.some.inj hn; exact False.elim (by cases hn)))
theorem tf144 : TyFact Tryd.prog 144 ti144 :=
  fact (.nilFunc) (by kernel_rfl) (by kernel_rfl) rfl rfl (by first | (intro _; rfl) | (intro h; cases h)) rfl (fun n hn => by first | (cases hn; done) | (obtain rfl := Option.some.inj hn; exact False.elim (by cases hn)))
theorem tf145 : TyFact Tryd.prog 145 ti145 :=
  fact (.nilFunc) (by kernel_rfl) (by kernel_rfl) rfl rfl (by first | (intro _; rfl) | (intro h; cases h)) rfl (fun n hn => by first | (cases hn; done) | (obtain rfl := Option.some.inj hn; exact False.elim (by cases hn)))
theorem tf146 : TyFact Tryd.prog 146 ti146 :=
  fact (.nilFunc) (by kernel_rfl) (by kernel_rfl) rfl rfl (by first | (intro _; rfl) | (intro h; cases h)) rfl (fun n hn => by first | (cases hn; done) | (obtain rfl := Option.some.inj hn; exact False.elim (by cases hn)))
theorem tf147 : TyFact Tryd.prog 147 ti147 :=
  fact (.nilFunc) (by kernel_rfl) (by kernel_rfl) rfl rfl (by first | (intro _; rfl) | (intro h; cases h)) rfl (fun n hn => by first | (cases hn; done) | (obtain rfl := Option.some.inj hn; exact False.elim (by cases hn)))
theorem tf148 : TyFact Tryd.prog 148 ti148 :=
  fact (.nilFunc) (by kernel_rfl) (by kernel_rfl) rfl rfl (by first | (intro _; rfl) | (intro h; cases h)) rfl (fun n hn => by first | (cases hn; done) | (obtain rfl := Option.some.inj hn; exact False.elim (by cases hn)))
theorem tf149 : TyFact Tryd.prog 149 ti149 :=
  fact (.nilFunc) (by kernel_rfl) (by kernel_rfl) rfl rfl (by first | (intro _; rfl) | (intro h; cases h)) rfl (fun n hn => by first | (cases hn; done) | (obtain rfl := Option.some.inj hn; exact False.elim (by cases hn)))
theorem tf150 : TyFact Tryd.prog 150 ti150 :=
  fact (.nilFunc) (by kernel_rfl) (by kernel_rfl) rfl rfl (by first | (intro _; rfl) | (intro h; cases h)) rfl (fun n hn => by first | (cases hn; done) | (obtain rfl := Option.some.inj hn; exact False.elim (by cases hn)))
theorem tf151 : TyFact Tryd.prog 151 ti151 :=
  fact (.nilFunc) (by kernel_rfl) (by kernel_rfl) rfl rfl (by first | (intro _; rfl) | (intro h; cases h)) rfl (fun n hn => by first | (cases hn; done) | (obtain rfl := Option.some.inj hn; exact False.elim (by cases hn)))
theorem tf152 : TyFact Tryd.prog 152 ti152 :=
  fact (.nilFunc) (by kernel_rfl) (by kernel_rfl) rfl rfl (by first | (intro _; rfl) | (intro h; cases h)) rfl (fun n hn => by first | (cases hn; done) | (obtain rfl := Option.some.inj hn; exact False.elim (by cases hn)))
theorem tf153 : TyFact Tryd.prog 153 ti153 :=
  fact (.nilFunc) (by kernel_rfl) (by kernel_rfl) rfl rfl (by first | (intro _; rfl) | (intro h; cases h)) rfl (fun n hn => by first | (cases hn; done) | (obtain rfl := Option.some.inj hn; exact False.elim (by cases hn)))
theorem tf154 : TyFact Tryd.prog 154 ti154 :=
  fact (.nilFunc) (by kernel_rfl) (by kernel_rfl) rfl rfl (by first | (intro _; rfl) | (intro h; cases h)) rfl (fun n hn => by first | (cases hn; done) | (obtain rfl := Option.some.inj hn; exact False.elim (by cases hn)))
theorem tf155 : TyFact Tryd.prog 155 ti155 :=
  fact (.nilFunc) (by kernel_rfl) (by kernel_rfl) rfl rfl (by first | (intro _; rfl) | (intro h; cases h)) rfl (fun n hn => by first | (cases hn; done) | (obtain rfl := Option.some.inj hn; exact False.elim (by cases hn)))
theorem tf157 : TyFact Tryd.prog 157 ti157 :=
  fact (.agg #[.string .empty, .int .i64 0, .int .i64 0, .int .i64 0]) (by kernel_rfl) (by kernel_rfl) rfl rfl (by first | (intro _; rfl) | (intro h; cases h)) rfl (fun n hn => by first | (cases hn; done) | (obtain rfl := Option.some.inj hn; exact False.elim (by cases hn)))
theorem tf158 : TyFact Tryd.prog 158 ti158 :=
  fact (.agg #[.string .empty, .int .i64 0, .int .i64 0, .int .i64 0]) (by kernel_rfl) (by kernel_rfl) rfl rfl (by first | (intro _; rfl) | (intro h; cases h)) rfl (fun n hn => by first | (cases hn; done) | (obtain rfl := Option.some.inj hn; exact False.elim (by cases hn)))
theorem tf159 : TyFact Tryd.prog 159 ti159 :=
  fact (.nilFunc) (by kernel_rfl) (by kernel_rfl) rfl rfl (by first | (intro _; rfl) | (intro h; cases h)) rfl (fun n hn => by first | (cases hn; done) | (obtain rfl := Option.some.inj hn; exact False.elim (by cases hn)))
theorem tf160 : TyFact Tryd.prog 160 ti160 :=
  fact (.nilFunc) (by kernel_rfl) (by kernel_rfl) rfl rfl (by first | (intro _; rfl) | (intro h; cases h)) rfl (fun n hn => by first | (cases hn; done) | (obtain rfl := Option.some.inj hn; exact False.elim (by cases hn)))
theorem tf161 : TyFact Tryd.prog 161 ti161 :=
  fact (.agg #[.string .empty, .int .i64 0, .int .i64 0]) (by kernel_rfl) (by kernel_rfl) rfl rfl (by first | (intro _; rfl) | (intro h; cases h)) rfl (fun n hn => by first | (cases hn; done) | (obtain rfl := Option.some.inj hn; exact False.elim (by cases hn)))
theorem tf162 : TyFact Tryd.prog 162 ti162 :=
  fact (.agg #[.string .empty, .int .i64 0, .int .i64 0]) (by kernel_rfl) (by kernel_rfl) rfl rfl (by first | (intro _; rfl) | (intro h; cases h)) rfl (fun n hn => by first | (cases hn; done) | (obtain rfl := Option.some.inj hn; exact False.elim (by cases hn)))
theorem tf163 : TyFact Tryd.prog 163 ti163 :=
  fact (.nilFunc) (by kernel_rfl) (by kernel_rfl) rfl rfl (by first | (intro _; rfl) | (intro h; cases h)) rfl (fun n hn => by first | (cases hn; done) | (obtain rfl := Option.some.inj hn; exact False.elim (by cases hn)))
theorem tf164 : TyFact Tryd.prog 164 ti164 :=
  fact (.nilFunc) (by kernel_rfl) (by kernel_rfl) rfl rfl (by first | (intro _; rfl) | (intro h; cases h)) rfl (fun n hn => by first | (cases hn; done) | (obtain rfl := Option.some.inj hn; exact False.elim (by cases hn)))
theorem tf165 : TyFact Tryd.prog 165 ti165 :=
  fact (.nilFunc) (by kernel_rfl) (by kernel_rfl) rfl rfl (by first | (intro _; rfl) | (intro h; cases h)) rfl (fun n hn => by first | (cases hn; done) | (obtain rfl := Option.some.inj hn; exact False.elim (by cases hn)))
theorem tf166 : TyFact Tryd.prog 166 ti166 :=
  fact (.nilFunc) (by kernel_rfl) (by kernel_rfl) rfl rfl (by first | (intro _; rfl) | (intro h; cases h)) rfl (fun n hn => by first | (cases hn; done) | (obtain rfl := Option.some.inj hn; exact False.elim (by cases hn)))
theorem tf167 : TyFact Tryd.prog 167 ti167 :=
  fact (.nilFunc) (by kernel_rfl) (by kernel_rfl) rfl rfl (by first | (intro _; rfl) | (intro h; cases h)) rfl (fun n hn => by first | (cases hn; done) | (obtain rfl := Option.some.inj hn; exact False.elim (by cases hn)))
theorem tf168 : TyFact Tryd.prog 168 ti168 :=
  fact (.nilFunc) (by kernel_rfl) (by kernel_rfl) rfl rfl (by first | (intro _; rfl) | (intro h; cases h)) rfl (fun n hn => by first | (cases hn; done) | (obtain rfl := Option.some.inj hn; exact False.elim (by cases hn)))
theorem tf169 : TyFact Tryd.prog 169 ti169 :=
  fact (.nilFunc) (by kernel_rfl) (by kernel_rfl) rfl rfl (by first | (intro _; rfl) | (intro h; cases h)) rfl (fun n hn => by first | (cases hn; done) | (obtain rfl := Option.some.inj hn; exact False.elim (by cases hn)))
theorem tf170 : TyFact Tryd.prog 170 ti170 :=
  fact (.nilFunc) (by kernel_rfl) (by kernel_rfl) rfl rfl (by first | (intro _; rfl) | (intro h; cases h)) rfl (fun n hn => by first | (cases hn; done) | (obtain rfl := Option.some.inj hn; exact False.elim (by cases hn)))
theorem tf171 : TyFact Tryd.prog 171 ti171 :=
  fact (.slice none 0 0) (by kernel_rfl) (by kernel_rfl) rfl rfl (by first | (intro _; rfl) | (intro h; cases h)) rfl (fun n hn => by first | (cases hn; done) | (obtain rfl := Option.some.inj hn; exact False.elim (by cases hn)))
theorem tf172 : TyFact Tryd.prog 172 ti172 :=
  fact (.nilFunc) (by kernel_rfl) (by kernel_rfl) rfl rfl (by first | (intro _; rfl) | (intro h; cases h)) rfl (fun n hn => by first | (cases hn; done) | (obtain rfl := Option.some.inj hn; exact False.elim (by cases hn)))
theorem tf173 : TyFact Tryd.prog 173 ti173 :=
  fact (.pointer none) (by kernel_rfl) (by kernel_rfl) rfl rfl (by first | (intro _; rfl) | (intro h; cases h)) rfl (fun n hn => by first | (cases hn; done) | (obtain rfl := Option.some.inj hn; exact False.elim (by cases hn)))
theorem tf174 : TyFact Tryd.prog 174 ti174 :=
  fact (.nilFunc) (by kernel_rfl) (by kernel_rfl) rfl rfl (by first | (intro _; rfl) | (intro h; cases h)) rfl (fun n hn => by first | (cases hn; done) | (obtain rfl := Option.some.inj hn; exact False.elim (by cases hn)))
theorem tf175 : TyFact Tryd.prog 175 ti175 :=
  fact (.pointer none) (by kernel_rfl) (by kernel_rfl) rfl rfl (by first | (intro _; rfl) | (intro h; cases h)) rfl (fun n hn => by first | (cases hn; done) | (obtain rfl := Option.some.inj hn; exact False.elim (by cases hn)))
theorem tf176 : TyFact Tryd.prog 176 ti176 :=
  fact (.nilFunc) (by kernel_rfl) (by kernel_rfl) rfl rfl (by first | (intro _; rfl) | (intro h; cases h)) rfl (fun n hn => by first | (cases hn; done) | (obtain rfl := Option.some.inj hn; exact False.elim (by cases hn)))
theorem tf177 : TyFact Tryd.prog 177 ti177 :=
  fact (.pointer none) (by kernel_rfl) (by kernel_rfl) rfl rfl (by first | (intro _; rfl) | (intro h; cases h)) rfl (fun n hn => by first | (cases hn; done) | (obtain rfl := Option.some.inj hn; exact False.elim (by cases hn)))
theorem tf178 : TyFact Tryd.prog 178 ti178 :=
  fact (.nilFunc) (by kernel_rfl) (by kernel_rfl) rfl rfl (by first | (intro _; rfl) | (intro h; cases h)) rfl (fun n hn => by first | (cases hn; done) | (obtain rfl := Option.some.inj hn; exact False.elim (by cases hn)))
theorem tf179 : TyFact Tryd.prog 179 ti179 :=
  fact (.pointer none) (by kernel_rfl) (by kernel_rfl) rfl rfl (by first | (intro _; rfl) | (intro h; cases h)) rfl (fun n hn => by first | (cases hn; done) | (obtain rfl := Option.some.inj hn; exact False.elim (by cases hn)))
theorem tf180 : TyFact Tryd.prog 180 ti180 :=
  fact (.nilFunc) (by kernel_rfl) (by kernel_rfl) rfl rfl (by first | (intro _; rfl) | (intro h; cases h)) rfl (fun n hn => by first | (cases hn; done) | (obtain rfl := Option.some.inj hn; exact False.elim (by cases hn)))
theorem tf181 : TyFact Tryd.prog 181 ti181 :=
  fact (.nilFunc) (by kernel_rfl) (by kernel_rfl) rfl rfl (by first | (intro _; rfl) | (intro h; cases h)) rfl (fun n hn => by first | (cases hn; done) | (obtain rfl := Option.some.inj hn; exact False.elim (by cases hn)))
theorem tf182 : TyFact Tryd.prog 182 ti182 :=
  fact (.nilFunc) (by kernel_rfl) (by kernel_rfl) rfl rfl (by first | (intro _; rfl) | (intro h; cases h)) rfl (fun n hn => by first | (cases hn; done) | (obtain rfl := Option.some.inj hn; exact False.elim (by cases hn)))
theorem tf183 : TyFact Tryd.prog 183 ti183 :=
  fact (.nilFunc) (by kernel_rfl) (by kernel_rfl) rfl rfl (by first | (intro _; rfl) | (intro h; cases h)) rfl (fun n hn => by first | (cases hn; done) | (obtain rfl := Option.some.inj hn; exact False.elim (by cases hn)))
theorem tf184 : TyFact Tryd.prog 184 ti184 :=
  fact (.nilFunc) (by kernel_rfl) (by kernel_rfl) rfl rfl (by first | (intro _; rfl) | (intro h; cases h)) rfl (fun n hn => by first | (cases hn; done) | (obtain rfl := Option.some.inj hn; exact False.elim (by cases hn)))
theorem tf185 : TyFact Tryd.prog 185 ti185 :=
  fact (.agg #[.int .i64 0, .int .i64 0, .int .i64 0, .int .i64 0, .int .i64 0, .int .i64 0, .int .i64 0]) (by kernel_rfl) (by kernel_rfl) rfl rfl (by first | (intro _; rfl) | (intro h; cases h)) rfl (fun n hn => by first | (cases hn; done) | (obtain rfl := Option.some.inj hn; exact False.elim (by cases hn)))
theorem tf186 : TyFact Tryd.prog 186 ti186 :=
  fact (.pointer none) (by kernel_rfl) (by kernel_rfl) rfl rfl (by first | (intro _; rfl) | (intro h; cases h)) rfl (fun n hn => by first | (cases hn; done) | (obtain rfl := Option.some.inj hn; exact False.elim (by cases hn)))
theorem tf187 : TyFact Tryd.prog 187 ti187 :=
  fact (.agg #[.pointer none, .pointer none, .pointer none, .pointer none, .pointer none, .pointer none, .pointer none]) (by kernel_rfl) (by kernel_rfl) rfl rfl (by first | (intro _; rfl) | (intro h; cases h)) rfl (fun n hn => by first | (cases hn; done) | (obtain rfl := Option.some.inj hn; exact False.elim (by cases hn)))
theorem tf188 : TyFact Tryd.prog 188 ti188 :=
  fact (.nilFunc) (by kernel_rfl) (by kernel_rfl) rfl rfl (by first | (intro _; rfl) | (intro h; cases h)) rfl (fun n hn => by first | (cases hn; done) | (obtain rfl := Option.some.inj hn; exact False.elim (by cases hn)))
theorem tf189 : TyFact Tryd.prog 189 ti189 :=
  fact (.pointer none) (by kernel_rfl) (by kernel_rfl) rfl rfl (by first | (intro _; rfl) | (intro h; cases h)) rfl (fun n hn => by first | (cases hn; done) | (obtain rfl := Option.some.inj hn; exact False.elim (by cases hn)))
theorem tf190 : TyFact Tryd.prog 190 ti190 :=
  fact (.agg #[.int .i64 0, .int .i64 0, .int .i64 0, .int .i64 0, .int .i64 0, .int .i64 0, .int .i64 0, .int .i64 0]) (by kernel_rfl) (by kernel_rfl) rfl rfl (by first | (intro _; rfl) | (intro h; cases h)) rfl (fun n hn => by first | (cases hn; done) | (obtain rfl := Option.some.inj hn; exact False.elim (by cases hn)))
theorem tf191 : TyFact Tryd.prog 191 ti191 :=
  fact (.nilFunc) (by kernel_rfl) (by kernel_rfl) rfl rfl (by first | (intro _; rfl) | (intro h; cases h)) rfl (fun n hn => by first | (cases hn; done) | (obtain rfl := Option.some.inj hn; exact False.elim (by cases hn)))
theorem tf192 : TyFact Tryd.prog 192 ti192 :=
  fact (.nilFunc) (by kernel_rfl) (by kernel_rfl) rfl rfl (by first | (intro _; rfl) | (intro h; cases h)) rfl (fun n hn => by first | (cases hn; done) | (obtain rfl := Option.some.inj hn; exact False.elim (by cases hn)))
theorem tf193 : TyFact Tryd.prog 193 ti193 :=
  fact (.nilFunc) (by kernel_rfl) (by kernel_rfl) rfl rfl (by first | (intro _; rfl) | (intro h; cases h)) rfl (fun n hn => by first | (cases hn; done) | (obtain rfl := Option.some.inj hn; exact False.elim (by cases hn)))
theorem tf194 : TyFact Tryd.prog 194 ti194 :=
  fact (.nilFunc) (by kernel_rfl) (by kernel_rfl) rfl rfl (by first | (intro _; rfl) | (intro h; cases h)) rfl (fun n hn => by first | (cases hn; done) | (obtain rfl := Option.some.inj hn; exact False.elim (by cases hn)))
theorem tf195 : TyFact Tryd.prog 195 ti195 :=
  fact (.nilFunc) (by kernel_rfl) (by kernel_rfl) rfl rfl (by first | (intro _; rfl) | (intro h; cases h)) rfl (fun n hn => by first | (cases hn; done) | (obtain rfl := Option.some.inj hn; exact False.elim (by cases hn)))
theorem tf196 : TyFact Tryd.prog 196 ti196 :=
  fact (.nilFunc) (by kernel_rfl) (by kernel_rfl) rfl rfl (by first | (intro _; rfl) | (intro h; cases h)) rfl (fun n hn => by first | (cases hn; done) | (obtain rfl := Option.some.inj hn; exact False.elim (by cases hn)))
theorem tf197 : TyFact Tryd.prog 197 ti197 :=
  fact (.nilFunc) (by kernel_rfl) (by kernel_rfl) rfl rfl (by first | (intro _; rfl) | (intro h; cases h)) rfl (fun n hn => by first | (cases hn; done) | (obtain rfl := Option.some.inj hn; exact False.elim (by cases hn)))
theorem tf198 : TyFact Tryd.prog 198 ti198 :=
  fact (.nilFunc) (by kernel_rfl) (by kernel_rfl) rfl rfl (by first | (intro _; rfl) | (intro h; cases h)) rfl (fun n hn => by first | (cases hn; done) | (obtain rfl := Option.some.inj hn; exact False.elim (by cases hn)))
theorem tf199 : TyFact Tryd.prog 199 ti199 :=
  fact (.nilFunc) (by kernel_rfl) (by kernel_rfl) rfl rfl (by first | (intro _; rfl) | (intro h; cases h)) rfl (fun n hn => by first | (cases hn; done) | (obtain rfl := Option.some.inj hn; exact False.elim (by cases hn)))
theorem tf200 : TyFact Tryd.prog 200 ti200 :=
  fact (.nilFunc) (by kernel_rfl) (by kernel_rfl) rfl rfl (by first | (intro _; rfl) | (intro h; cases h)) rfl (fun n hn => by first | (cases hn; done) | (obtain rfl := Option.some.inj hn; exact False.elim (by cases hn)))
theorem tf201 : TyFact Tryd.prog 201 ti201 :=
  fact (.nilFunc) (by kernel_rfl) (by kernel_rfl) rfl rfl (by first | (intro _; rfl) | (intro h; cases h)) rfl (fun n hn => by first | (cases hn; done) | (obtain rfl := Option.some.inj hn; exact False.elim (by cases hn)))
theorem tf202 : TyFact Tryd.prog 202 ti202 :=
  fact (.nilFunc) (by kernel_rfl) (by kernel_rfl) rfl rfl (by first | (intro _; rfl) | (intro h; cases h)) rfl (fun n hn => by first | (cases hn; done) | (obtain rfl := Option.some.inj hn; exact False.elim (by cases hn)))
theorem tf203 : TyFact Tryd.prog 203 ti203 :=
  fact (.nilFunc) (by kernel_rfl) (by kernel_rfl) rfl rfl (by first | (intro _; rfl) | (intro h; cases h)) rfl (fun n hn => by first | (cases hn; done) | (obtain rfl := Option.some.inj hn; exact False.elim (by cases hn)))
theorem tf204 : TyFact Tryd.prog 204 ti204 :=
  fact (.nilFunc) (by kernel_rfl) (by kernel_rfl) rfl rfl (by first | (intro _; rfl) | (intro h; cases h)) rfl (fun n hn => by first | (cases hn; done) | (obtain rfl := Option.some.inj hn; exact False.elim (by cases hn)))
theorem tf205 : TyFact Tryd.prog 205 ti205 :=
  fact (.nilFunc) (by kernel_rfl) (by kernel_rfl) rfl rfl (by first | (intro _; rfl) | (intro h; cases h)) rfl (fun n hn => by first | (cases hn; done) | (obtain rfl := Option.some.inj hn; exact False.elim (by cases hn)))
theorem tf206 : TyFact Tryd.prog 206 ti206 :=
  fact (.nilFunc) (by kernel_rfl) (by kernel_rfl) rfl rfl (by first | (intro _; rfl) | (intro h; cases h)) rfl (fun n hn => by first | (cases hn; done) | (obtain rfl := Option.some.inj hn; exact False.elim (by cases hn)))
theorem tf207 : TyFact Tryd.prog 207 ti207 :=
  fact (.nilFunc) (by kernel_rfl) (by kernel_rfl) rfl rfl (by first | (intro _; rfl) | (intro h; cases h)) rfl (fun n hn => by first | (cases hn; done) | (obtain rfl := Option.some.inj hn; exact False.elim (by cases hn)))
theorem tf208 : TyFact Tryd.prog 208 ti208 :=
  fact (.nilFunc) (by kernel_rfl) (by kernel_rfl) rfl rfl (by first | (intro _; rfl) | (intro h; cases h)) rfl (fun n hn => by first | (cases hn; done) | (obtain rfl := Option.some.inj hn; exact False.elim (by cases hn)))
theorem tf209 : TyFact Tryd.prog 209 ti209 :=
  fact (.nilFunc) (by kernel_rfl) (by kernel_rfl) rfl rfl (by first | (intro _; rfl) | (intro h; cases h)) rfl (fun n hn => by first | (cases hn; done) | (obtain rfl := Option.some.inj hn; exact False.elim (by cases hn)))
theorem tf210 : TyFact Tryd.prog 210 ti210 :=
  fact (.nilFunc) (by kernel_rfl) (by kernel_rfl) rfl rfl (by first | (intro _; rfl) | (intro h; cases h)) rfl (fun n hn => by first | (cases hn; done) | (obtain rfl := Option.some.inj hn; exact False.elim (by cases hn)))
theorem tf211 : TyFact Tryd.prog 211 ti211 :=
  fact (.nilFunc) (by kernel_rfl) (by kernel_rfl) rfl rfl (by first | (intro _; rfl) | (intro h; cases h)) rfl (fun n hn => by first | (cases hn; done) | (obtain rfl := Option.some.inj hn; exact False.elim (by cases hn)))
theorem tf212 : TyFact Tryd.prog 212 ti212 :=
  fact (.nilFunc) (by kernel_rfl) (by kernel_rfl) rfl rfl (by first | (intro _; rfl) | (intro h; cases h)) rfl (fun n hn => by first | (cases hn; done) | (obtain rfl := Option.some.inj hn; exact False.elim (by cases hn)))
theorem tf213 : TyFact Tryd.prog 213 ti213 :=
  fact (.nilFunc) (by kernel_rfl) (by kernel_rfl) rfl rfl (by first | (intro _; rfl) | (intro h; cases h)) rfl (fun n hn => by first | (cases hn; done) | (obtain rfl := Option.some.inj hn; exact False.elim (by cases hn)))
theorem tf214 : TyFact Tryd.prog 214 ti214 :=
  fact (.nilFunc) (by kernel_rfl) (by kernel_rfl) rfl rfl (by first | (intro _; rfl) | (intro h; cases h)) rfl (fun n hn => by first | (cases hn; done) | (obtain rfl := Option.some.inj hn; exact False.elim (by cases hn)))
theorem tf215 : TyFact Tryd.prog 215 ti215 :=
  fact (.nilFunc) (by kernel_rfl) (by kernel_rfl) rfl rfl (by first | (intro _; rfl) | (intro h; cases h)) rfl (fun n hn => by first | (cases hn; done) | (obtain rfl := Option.some.inj hn; exact False.elim (by cases hn)))
theorem tf216 : TyFact Tryd.prog 216 ti216 :=
  fact (.nilFunc) (by kernel_rfl) (by kernel_rfl) rfl rfl (by first | (intro _; rfl) | (intro h; cases h)) rfl (fun n hn => by first | (cases hn; done) | (obtain rfl := Option.some.inj hn; exact False.elim (by cases hn)))
theorem tf217 : TyFact Tryd.prog 217 ti217 :=
  fact (.nilFunc) (by kernel_rfl) (by kernel_rfl) rfl rfl (by first | (intro _; rfl) | (intro h; cases h)) rfl (fun n hn => by first | (cases hn; done) | (obtain rfl := Option.some.inj hn; exact False.elim (by cases hn)))
theorem tf220 : TyFact Tryd.prog 220 ti220 :=
  fact (.agg #[]) (by kernel_rfl) (by kernel_rfl) rfl rfl (by first | (intro _; rfl) | (intro h; cases h)) rfl (fun n hn => by first | (cases hn; done) | (obtain rfl := Option.some.inj hn; exact False.elim (by cases hn)))
theorem tf223 : TyFact Tryd.prog 223 ti223 :=
  fact (.nilFunc) (by kernel_rfl) (by kernel_rfl) rfl rfl (by first | (intro _; rfl) | (intro h; cases h)) rfl (fun n hn => by first | (cases hn; done) | (obtain rfl := Option.some.inj hn; exact False.elim (by cases hn)))
theorem tf224 : TyFact Tryd.prog 224 ti224 :=
  fact (.int .u32 0) (by kernel_rfl) (by kernel_rfl) rfl rfl (by first | (intro _; rfl) | (intro h; cases h)) rfl (fun n hn => by first | (cases hn; done) | (obtain rfl := Option.some.inj hn; exact False.elim (by cases hn)))
theorem tf227 : TyFact Tryd.prog 227 ti227 :=
  fact (.nilFunc) (by kernel_rfl) (by kernel_rfl) rfl rfl (by first | (intro _; rfl) | (intro h; cases h)) rfl (fun n hn => by first | (cases hn; done) | (obtain rfl := Option.some.inj hn; exact False.elim (by cases hn)))
theorem tf228 : TyFact Tryd.prog 228 ti228 :=
  fact (.pointer none) (by kernel_rfl) (by kernel_rfl) rfl rfl (by first | (intro _; rfl) | (intro h; cases h)) rfl (fun n hn => by first | (cases hn; done) | (obtain rfl := Option.some.inj hn; exact False.elim (by cases hn)))
theorem tf231 : TyFact Tryd.prog 231 ti231 :=
  fact (.agg #[.int .u64 0, .int .u64 0, .int .u32 0, .int .u8 0, .int .u8 0, .int .u8 0, .int .u8 0, .nilFunc, .pointer none, .int .i32 0, .int .i32 0]) (by kernel_rfl) (by kernel_rfl) rfl rfl (by first | (intro _; rfl) | (intro h; cases h)) rfl (fun n hn => by first | (cases hn; done) | (obtain rfl := Option.some.inj hn; exact False.elim (by cases hn)))
def Facts : List (Nat × TI) → Prop
  | [] => True
  | p :: r => TyFact Tryd.prog p.1 p.2 ∧ Facts r
theorem facts_get : ∀ {l : List (Nat × TI)}, Facts l → ∀ t i, lk l t = some i → TyFact Tryd.prog t i
  | [], _, _, _, h => by cases h
  | (k, x) :: r, h, t, i, hi => by
    simp only [lk] at hi
    split at hi
    · rename_i e; subst e; obtain rfl := Option.some.inj hi; exact h.1
    · exact facts_get h.2 t i hi
theorem ty_ok : TyOk Tryd.prog ty := facts_get (l := tyl) ⟨tf1, tf2, tf3, tf4, tf5, tf9, tf12, tf15, tf16, tf17, tf21, tf22, tf23, tf24, tf25, tf26, tf27, tf28, tf29, tf30, tf31, tf32, tf33, tf34, tf35, tf37, tf38, tf40, tf41, tf42, tf43, tf44, tf45, tf46, tf47, tf48, tf49, tf50, tf51, tf52, tf53, tf54, tf56, tf57, tf58, tf59, tf60, tf61, tf63, tf64, tf65, tf66, tf67, tf68, tf69, tf70, tf71, tf72, tf73, tf74, tf75, tf76, tf77, tf78, tf79, tf80, tf81, tf82, tf83, tf84, tf85, tf86, tf87, tf88, tf89, tf90, tf91, tf92, tf93, tf94, tf95, tf97, tf98, tf100, tf102, tf103, tf104, tf105, tf106, tf107, tf108, tf109, tf110, tf112, tf113, tf114, tf115, tf116, tf117, tf118, tf119, tf120, tf121, tf122, tf123, tf124, tf125, tf126, tf127, tf128, tf129, tf130, tf131, tf132, tf133, tf134, tf135, tf136, tf137, tf138, tf139, tf140, tf141, tf142, tf143, tf144, tf145, tf146, tf147, tf148, tf149, tf150, tf151, tf152, tf153, tf154, tf155, tf157, tf158, tf159, tf160, tf161, tf162, tf163, tf164, tf165, tf166, tf167, tf168, tf169, tf170, tf171, tf172, tf173, tf174, tf175, tf176, tf177, tf178, tf179, tf180, tf181, tf182, tf183, tf184, tf185, tf186, tf187, tf188, tf189, tf190, tf191, tf192, tf193, tf194, tf195, tf196, tf197, tf198, tf199, tf200, tf201, tf202, tf203, tf204, tf205, tf206, tf207, tf208, tf209, tf210, tf211, tf212, tf213, tf214, tf215, tf216, tf217, tf220, tf223, tf224, tf227, tf228, tf231, trivial⟩

end Go.Proofs.YtfkmbdfajpdjjaaDoor
