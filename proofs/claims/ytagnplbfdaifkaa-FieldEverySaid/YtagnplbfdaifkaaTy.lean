/-
  The types of the translation, as the abstract machine uses them: a table, and that it agrees with the program's. Written by a program of ours (gen_ty.py).
-/
import Derived.Test.YtagnplbfdaifkaaProg
import Derived.Test.YtagnplbfdaifkaaAbsC
import Derived.KernelRfl
set_option linter.unusedSimpArgs false
set_option linter.unusedVariables false
namespace Go.Proofs.Ytagnplbfdaifkaa
open Go.Abs

def ti1 : TI := { size := 1, bytes := 8, agg := false, zero := [.nilFunc], desc := .func #[] #[] false }
def ti2 : TI := { size := 1, bytes := 8, agg := false, zero := [.int .i64 0], desc := .int .i64 }
def ti3 : TI := { size := 1, bytes := 8, agg := false, zero := [.int .i64 0], desc := .int .i64 }
def ti4 : TI := { size := 1, bytes := 1, agg := false, zero := [.bool false], desc := .bool }
def ti5 : TI := { size := 1, bytes := 1, agg := false, zero := [.int .u8 0], desc := .int .u8 }
def ti9 : TI := { size := 1, bytes := 16, agg := false, zero := [.string .empty], desc := .string }
def ti12 : TI := { size := 1, bytes := 8, agg := false, zero := [.int .u64 0], desc := .int .u64 }
def ti21 : TI := { size := 1, bytes := 4, agg := false, zero := [.int .i32 0], desc := .int .i32 }
def ti22 : TI := { size := 1, bytes := 24, agg := false, zero := [.slice none 0 0], desc := .slice 63 }
def ti23 : TI := { size := 2, bytes := 32, agg := true, zero := [.int .i64 0, .slice none 0 0], desc := .struct #[⟨"Turns", 3, 0, false, "", "", 0⟩, ⟨"Shells", 22, 1, false, "", "", 8⟩] }
def ti24 : TI := { size := 2, bytes := 32, agg := true, zero := [.int .i64 0, .slice none 0 0], desc := .struct #[⟨"Turns", 3, 0, false, "", "", 0⟩, ⟨"Shells", 22, 1, false, "", "", 8⟩] }
def ti25 : TI := { size := 1, bytes := 24, agg := false, zero := [.slice none 0 0], desc := .slice 4 }
def ti26 : TI := { size := 2, bytes := 32, agg := true, zero := [.int .i64 0, .slice none 0 0], desc := .struct #[⟨"Frequency", 3, 0, false, "", "", 0⟩, ⟨"Hot", 25, 1, false, "", "", 8⟩] }
def ti27 : TI := { size := 2, bytes := 32, agg := true, zero := [.int .i64 0, .slice none 0 0], desc := .struct #[⟨"Frequency", 3, 0, false, "", "", 0⟩, ⟨"Hot", 25, 1, false, "", "", 8⟩] }
def ti28 : TI := { size := 2, bytes := 16, agg := true, zero := [.int .i64 0, .int .i64 0], desc := .array 2 3 }
def ti29 : TI := { size := 1, bytes := 8, agg := false, zero := [.nilFunc], desc := .func #[] #[4] false }
def ti30 : TI := { size := 1, bytes := 8, agg := false, zero := [.nilFunc], desc := .func #[24] #[4] false }
def ti31 : TI := { size := 1, bytes := 8, agg := false, zero := [.nilFunc], desc := .func #[27] #[4] false }
def ti32 : TI := { size := 2, bytes := 16, agg := true, zero := [.int .i64 0, .int .i64 0], desc := .struct #[⟨"Re", 3, 0, false, "", "", 0⟩, ⟨"Im", 3, 1, false, "", "", 8⟩] }
def ti33 : TI := { size := 2, bytes := 16, agg := true, zero := [.int .i64 0, .int .i64 0], desc := .struct #[⟨"Re", 3, 0, false, "", "", 0⟩, ⟨"Im", 3, 1, false, "", "", 8⟩], eqn := some 2 }
def ti34 : TI := { size := 4, bytes := 32, agg := true, zero := [.int .i64 0, .int .i64 0, .int .i64 0, .int .i64 0], desc := .struct #[⟨"Num", 33, 0, false, "", "", 0⟩, ⟨"Den", 33, 2, false, "", "", 16⟩] }
def ti35 : TI := { size := 4, bytes := 32, agg := true, zero := [.int .i64 0, .int .i64 0, .int .i64 0, .int .i64 0], desc := .struct #[⟨"Num", 33, 0, false, "", "", 0⟩, ⟨"Den", 33, 2, false, "", "", 16⟩], eqn := some 4 }
def ti36 : TI := { size := 1, bytes := 8, agg := false, zero := [.int .i64 0], desc := .int .i64 }
def ti38 : TI := { size := 1, bytes := 8, agg := false, zero := [.nilFunc], desc := .func #[24, 27] #[35, 36] false }
def ti39 : TI := { size := 1, bytes := 8, agg := false, zero := [.nilFunc], desc := .func #[24] #[24] false }
def ti40 : TI := { size := 1, bytes := 8, agg := false, zero := [.nilFunc], desc := .func #[27] #[27] false }
def ti41 : TI := { size := 1, bytes := 8, agg := false, zero := [.nilFunc], desc := .func #[24, 27, 28] #[35, 36] false }
def ti42 : TI := { size := 1, bytes := 8, agg := false, zero := [.nilFunc], desc := .func #[24, 27] #[3] false }
def ti43 : TI := { size := 1, bytes := 8, agg := false, zero := [.nilFunc], desc := .func #[24, 27] #[35] false }
def ti44 : TI := { size := 1, bytes := 8, agg := false, zero := [.nilFunc], desc := .func #[24, 3] #[3] false }
def ti45 : TI := { size := 1, bytes := 8, agg := false, zero := [.nilFunc], desc := .func #[24, 27, 3, 3] #[35] false }
def ti46 : TI := { size := 1, bytes := 8, agg := false, zero := [.nilFunc], desc := .func #[24, 27, 28] #[4] false }
def ti48 : TI := { size := 1, bytes := 8, agg := false, zero := [.nilFunc], desc := .func #[24] #[3, 36] false }
def ti49 : TI := { size := 1, bytes := 8, agg := false, zero := [.nilFunc], desc := .func #[24, 27] #[36] false }
def ti50 : TI := { size := 1, bytes := 24, agg := false, zero := [.slice none 0 0], desc := .slice 3 }
def ti52 : TI := { size := 1, bytes := 8, agg := false, zero := [.nilFunc], desc := .func #[24, 27] #[50, 36] false }
def ti54 : TI := { size := 1, bytes := 8, agg := false, zero := [.nilFunc], desc := .func #[24] #[3, 3] false }
def ti55 : TI := { size := 1, bytes := 8, agg := false, zero := [.nilFunc], desc := .func #[50, 50] #[4] false }
def ti56 : TI := { size := 1, bytes := 8, agg := false, zero := [.nilFunc], desc := .func #[24, 27] #[50] false }
def ti57 : TI := { size := 1, bytes := 8, agg := false, zero := [.nilFunc], desc := .func #[24, 27] #[4] false }
def ti58 : TI := { size := 1, bytes := 24, agg := false, zero := [.slice none 0 0], desc := .slice 33 }
def ti60 : TI := { size := 1, bytes := 8, agg := false, zero := [.nilFunc], desc := .func #[24, 27] #[58, 36] false }
def ti61 : TI := { size := 1, bytes := 8, agg := false, zero := [.nilFunc], desc := .func #[3, 3, 3] #[4] false }
def ti62 : TI := { size := 3, bytes := 24, agg := true, zero := [.int .i64 0, .int .i64 0, .int .i64 0], desc := .struct #[⟨"Conductance", 3, 0, false, "", "", 0⟩, ⟨"Cold", 3, 1, false, "", "", 8⟩, ⟨"Hot", 3, 2, false, "", "", 16⟩] }
def ti63 : TI := { size := 3, bytes := 24, agg := true, zero := [.int .i64 0, .int .i64 0, .int .i64 0], desc := .struct #[⟨"Conductance", 3, 0, false, "", "", 0⟩, ⟨"Cold", 3, 1, false, "", "", 8⟩, ⟨"Hot", 3, 2, false, "", "", 16⟩] }
def ti64 : TI := { size := 1, bytes := 8, agg := false, zero := [.nilFunc], desc := .func #[33, 33] #[33] false }
def ti65 : TI := { size := 1, bytes := 8, agg := false, zero := [.nilFunc], desc := .func #[24, 27, 3] #[4] false }
def ti66 : TI := { size := 3, bytes := 24, agg := true, zero := [.int .i64 0, .int .i64 0, .int .i64 0], desc := .array 3 3 }
def ti67 : TI := { size := 1, bytes := 8, agg := false, zero := [.nilFunc], desc := .func #[3] #[3] false }
def ti68 : TI := { size := 1, bytes := 8, agg := false, zero := [.nilFunc], desc := .func #[24, 27, 3] #[50, 36] false }
def ti69 : TI := { size := 1, bytes := 8, agg := false, zero := [.nilFunc], desc := .func #[24, 27, 3] #[3, 36] false }
def ti70 : TI := { size := 1, bytes := 8, agg := false, zero := [.nilFunc], desc := .func #[3, 3, 3, 3] #[3] false }
def ti71 : TI := { size := 1, bytes := 8, agg := false, zero := [.nilFunc], desc := .func #[24, 27, 66] #[4] false }
def ti73 : TI := { size := 1, bytes := 8, agg := false, zero := [.nilFunc], desc := .func #[50, 3] #[25, 36] false }
def ti74 : TI := { size := 1, bytes := 8, agg := false, zero := [.nilFunc], desc := .func #[50] #[50] false }
def ti75 : TI := { size := 1, bytes := 8, agg := false, zero := [.nilFunc], desc := .func #[50, 3] #[3] false }
def ti76 : TI := { size := 1, bytes := 8, agg := false, zero := [.nilFunc], desc := .func #[25, 25] #[4] false }
def ti77 : TI := { size := 1, bytes := 8, agg := false, zero := [.nilFunc], desc := .func #[50, 3] #[25] false }
def ti78 : TI := { size := 1, bytes := 8, agg := false, zero := [.nilFunc], desc := .func #[50, 3] #[4] false }
def ti79 : TI := { size := 2, bytes := 16, agg := true, zero := [.int .i64 0, .int .i64 0], desc := .struct #[⟨"Num", 3, 0, false, "", "", 0⟩, ⟨"Den", 3, 1, false, "", "", 8⟩] }
def ti80 : TI := { size := 2, bytes := 16, agg := true, zero := [.int .i64 0, .int .i64 0], desc := .struct #[⟨"Num", 3, 0, false, "", "", 0⟩, ⟨"Den", 3, 1, false, "", "", 8⟩], eqn := some 2 }
def ti82 : TI := { size := 1, bytes := 8, agg := false, zero := [.nilFunc], desc := .func #[24, 27, 3] #[80, 36] false }
def ti83 : TI := { size := 1, bytes := 8, agg := false, zero := [.nilFunc], desc := .func #[3, 3] #[80] false }
def ti84 : TI := { size := 1, bytes := 8, agg := false, zero := [.nilFunc], desc := .func #[50] #[3] false }
def ti85 : TI := { size := 1, bytes := 8, agg := false, zero := [.nilFunc], desc := .func #[80] #[4] false }
def ti86 : TI := { size := 1, bytes := 8, agg := false, zero := [.nilFunc], desc := .func #[24, 27, 3] #[50] false }
def ti87 : TI := { size := 1, bytes := 8, agg := false, zero := [.nilFunc], desc := .func #[24, 27, 3] #[3] false }
def ti88 : TI := { size := 1, bytes := 8, agg := false, zero := [.nilFunc], desc := .func #[24, 27, 58] #[3, 36] false }
def ti89 : TI := { size := 1, bytes := 8, agg := false, zero := [.nilFunc], desc := .func #[58] #[58] false }
def ti91 : TI := { size := 1, bytes := 8, agg := false, zero := [.nilFunc], desc := .func #[24, 27] #[58, 58] false }
def ti92 : TI := { size := 1, bytes := 8, agg := false, zero := [.nilFunc], desc := .func #[24, 27, 58] #[3, 3] false }
def ti93 : TI := { size := 1, bytes := 8, agg := false, zero := [.nilFunc], desc := .func #[58, 58] #[4] false }
def ti94 : TI := { size := 1, bytes := 8, agg := false, zero := [.nilFunc], desc := .func #[24, 27, 58] #[4] false }
def ti95 : TI := { size := 1, bytes := 24, agg := false, zero := [.slice none 0 0], desc := .slice 109 }
def ti96 : TI := { size := 3, bytes := 56, agg := true, zero := [.int .i64 0, .slice none 0 0, .slice none 0 0], desc := .struct #[⟨"Ladder", 24, 0, false, "", "", 0⟩, ⟨"Conductances", 95, 2, false, "", "", 32⟩] }
def ti97 : TI := { size := 3, bytes := 56, agg := true, zero := [.int .i64 0, .slice none 0 0, .slice none 0 0], desc := .struct #[⟨"Ladder", 24, 0, false, "", "", 0⟩, ⟨"Conductances", 95, 2, false, "", "", 32⟩] }
def ti98 : TI := { size := 1, bytes := 8, agg := false, zero := [.nilFunc], desc := .func #[97] #[3, 36] false }
def ti99 : TI := { size := 1, bytes := 8, agg := false, zero := [.nilFunc], desc := .func #[97] #[97] false }
def ti101 : TI := { size := 1, bytes := 8, agg := false, zero := [.nilFunc], desc := .func #[97, 27, 3] #[95, 36] false }
def ti102 : TI := { size := 1, bytes := 8, agg := false, zero := [.nilFunc], desc := .func #[97] #[3, 3] false }
def ti103 : TI := { size := 1, bytes := 8, agg := false, zero := [.nilFunc], desc := .func #[95, 95] #[4] false }
def ti104 : TI := { size := 1, bytes := 8, agg := false, zero := [.nilFunc], desc := .func #[97, 27, 3] #[95] false }
def ti105 : TI := { size := 1, bytes := 8, agg := false, zero := [.nilFunc], desc := .func #[97, 27, 3] #[4] false }
def ti106 : TI := { size := 5, bytes := 40, agg := true, zero := [.int .i64 0, .int .i64 0, .int .i64 0, .int .i64 0, .int .i64 0], desc := .array 5 3 }
def ti107 : TI := { size := 1, bytes := 8, agg := false, zero := [.nilFunc], desc := .func #[97] #[3] false }
def ti108 : TI := { size := 2, bytes := 16, agg := true, zero := [.int .i64 0, .int .i64 0], desc := .struct #[⟨"Lo", 3, 0, false, "", "", 0⟩, ⟨"Hi", 3, 1, false, "", "", 8⟩] }
def ti109 : TI := { size := 2, bytes := 16, agg := true, zero := [.int .i64 0, .int .i64 0], desc := .struct #[⟨"Lo", 3, 0, false, "", "", 0⟩, ⟨"Hi", 3, 1, false, "", "", 8⟩], eqn := some 2 }
def ti110 : TI := { size := 1, bytes := 8, agg := false, zero := [.nilFunc], desc := .func #[3, 3] #[3] false }
def ti111 : TI := { size := 1, bytes := 8, agg := false, zero := [.nilFunc], desc := .func #[97, 27, 106] #[4] false }
def ti112 : TI := { size := 4, bytes := 64, agg := true, zero := [.int .i64 0, .slice none 0 0, .int .i64 0, .slice none 0 0], desc := .struct #[⟨"First", 27, 0, false, "", "", 0⟩, ⟨"Second", 27, 2, false, "", "", 32⟩] }
def ti113 : TI := { size := 4, bytes := 64, agg := true, zero := [.int .i64 0, .slice none 0 0, .int .i64 0, .slice none 0 0], desc := .struct #[⟨"First", 27, 0, false, "", "", 0⟩, ⟨"Second", 27, 2, false, "", "", 32⟩] }
def ti114 : TI := { size := 2, bytes := 16, agg := true, zero := [.int .i64 0, .int .i64 0], desc := .struct #[⟨"Percent", 3, 0, false, "", "", 0⟩, ⟨"Depth", 3, 1, false, "", "", 8⟩] }
def ti115 : TI := { size := 2, bytes := 16, agg := true, zero := [.int .i64 0, .int .i64 0], desc := .struct #[⟨"Percent", 3, 0, false, "", "", 0⟩, ⟨"Depth", 3, 1, false, "", "", 8⟩] }
def ti116 : TI := { size := 2, bytes := 32, agg := true, zero := [.int .i64 0, .slice none 0 0], desc := .struct #[⟨"Total", 3, 0, false, "", "", 0⟩, ⟨"Watts", 95, 1, false, "", "", 8⟩] }
def ti117 : TI := { size := 2, bytes := 32, agg := true, zero := [.int .i64 0, .slice none 0 0], desc := .struct #[⟨"Total", 3, 0, false, "", "", 0⟩, ⟨"Watts", 95, 1, false, "", "", 8⟩] }
def ti118 : TI := { size := 6, bytes := 64, agg := true, zero := [.int .i64 0, .int .i64 0, .int .i64 0, .int .i64 0, .int .i64 0, .slice none 0 0], desc := .struct #[⟨"Wish", 115, 0, false, "", "", 0⟩, ⟨"Watts", 28, 2, false, "", "", 16⟩, ⟨"Shape", 117, 4, false, "", "", 32⟩] }
def ti119 : TI := { size := 6, bytes := 64, agg := true, zero := [.int .i64 0, .int .i64 0, .int .i64 0, .int .i64 0, .int .i64 0, .slice none 0 0], desc := .struct #[⟨"Wish", 115, 0, false, "", "", 0⟩, ⟨"Watts", 28, 2, false, "", "", 16⟩, ⟨"Shape", 117, 4, false, "", "", 32⟩] }
def ti120 : TI := { size := 1, bytes := 8, agg := false, zero := [.nilFunc], desc := .func #[24, 25, 115] #[3, 36] false }
def ti121 : TI := { size := 1, bytes := 8, agg := false, zero := [.nilFunc], desc := .func #[25] #[25] false }
def ti122 : TI := { size := 1, bytes := 8, agg := false, zero := [.nilFunc], desc := .func #[24, 113, 28] #[50, 36] false }
def ti123 : TI := { size := 1, bytes := 8, agg := false, zero := [.nilFunc], desc := .func #[113] #[113] false }
def ti124 : TI := { size := 1, bytes := 8, agg := false, zero := [.nilFunc], desc := .func #[24, 113, 117] #[3, 36] false }
def ti125 : TI := { size := 1, bytes := 8, agg := false, zero := [.nilFunc], desc := .func #[117] #[117] false }
def ti126 : TI := { size := 1, bytes := 8, agg := false, zero := [.nilFunc], desc := .func #[24] #[3] false }
def ti127 : TI := { size := 1, bytes := 8, agg := false, zero := [.nilFunc], desc := .func #[24, 25, 115] #[3] false }
def ti129 : TI := { size := 1, bytes := 8, agg := false, zero := [.nilFunc], desc := .func #[24, 25, 115] #[3, 4] false }
def ti130 : TI := { size := 1, bytes := 8, agg := false, zero := [.nilFunc], desc := .func #[24, 113] #[3] false }
def ti131 : TI := { size := 1, bytes := 8, agg := false, zero := [.nilFunc], desc := .func #[24, 113, 28] #[50] false }
def ti132 : TI := { size := 1, bytes := 8, agg := false, zero := [.nilFunc], desc := .func #[24, 117] #[3] false }
def ti133 : TI := { size := 1, bytes := 8, agg := false, zero := [.nilFunc], desc := .func #[24, 113, 117] #[3, 4] false }
def ti134 : TI := { size := 1, bytes := 8, agg := false, zero := [.nilFunc], desc := .func #[24, 113, 119] #[4] false }
def ti135 : TI := { size := 1, bytes := 8, agg := false, zero := [.nilFunc], desc := .func #[] #[24] false }
def ti136 : TI := { size := 1, bytes := 8, agg := false, zero := [.nilFunc], desc := .func #[] #[27] false }
def ti137 : TI := { size := 2, bytes := 48, agg := true, zero := [.slice none 0 0, .slice none 0 0], desc := .struct #[⟨"conductances", 50, 0, false, "", "martensite/field", 0⟩, ⟨"reactances", 50, 1, false, "", "martensite/field", 24⟩] }
def ti138 : TI := { size := 2, bytes := 48, agg := true, zero := [.slice none 0 0, .slice none 0 0], desc := .struct #[⟨"conductances", 50, 0, false, "", "martensite/field", 0⟩, ⟨"reactances", 50, 1, false, "", "martensite/field", 24⟩] }
def ti140 : TI := { size := 1, bytes := 8, agg := false, zero := [.nilFunc], desc := .func #[24, 27] #[138, 36] false }
def ti141 : TI := { size := 1, bytes := 8, agg := false, zero := [.nilFunc], desc := .func #[] #[58, 58] false }
def ti142 : TI := { size := 1, bytes := 8, agg := false, zero := [.nilFunc], desc := .func #[33, 33] #[35] false }
def ti143 : TI := { size := 1, bytes := 8, agg := false, zero := [.nilFunc], desc := .func #[33, 3] #[33] false }
def ti144 : TI := { size := 1, bytes := 8, agg := false, zero := [.nilFunc], desc := .func #[177] #[36] true }
def ti145 : TI := { size := 1, bytes := 8, agg := false, zero := [.nilFunc], desc := .func #[24, 3] #[36] false }
def ti146 : TI := { size := 1, bytes := 8, agg := false, zero := [.nilFunc], desc := .func #[24, 27] #[58] false }
def ti147 : TI := { size := 1, bytes := 8, agg := false, zero := [.nilFunc], desc := .func #[4, 36] #[36] false }
def ti148 : TI := { size := 1, bytes := 8, agg := false, zero := [.nilFunc], desc := .func #[3] #[4] false }
def ti149 : TI := { size := 1, bytes := 8, agg := false, zero := [.nilFunc], desc := .func #[24] #[36] false }
def ti151 : TI := { size := 1, bytes := 8, agg := false, zero := [.nilFunc], desc := .func #[] #[50, 3] false }
def ti152 : TI := { size := 1, bytes := 8, agg := false, zero := [.nilFunc], desc := .func #[3] #[36] false }
def ti153 : TI := { size := 1, bytes := 8, agg := false, zero := [.nilFunc], desc := .func #[3] #[50] false }
def ti154 : TI := { size := 1, bytes := 8, agg := false, zero := [.nilFunc], desc := .func #[50, 148] #[4] false }
def ti155 : TI := { size := 1, bytes := 8, agg := false, zero := [.nilFunc], desc := .func #[50] #[3] true }
def ti156 : TI := { size := 1, bytes := 8, agg := false, zero := [.nilFunc], desc := .func #[33] #[3] false }
def ti157 : TI := { size := 1, bytes := 8, agg := false, zero := [.nilFunc], desc := .func #[58, 158] #[4] false }
def ti158 : TI := { size := 1, bytes := 8, agg := false, zero := [.nilFunc], desc := .func #[33] #[4] false }
def ti160 : TI := { size := 1, bytes := 8, agg := false, zero := [.nilFunc], desc := .func #[3, 33, 33] #[33, 33] false }
def ti161 : TI := { size := 1, bytes := 8, agg := false, zero := [.nilFunc], desc := .func #[33] #[33] false }
def ti162 : TI := { size := 1, bytes := 8, agg := false, zero := [.nilFunc], desc := .func #[24, 27] #[138] false }
def ti163 : TI := { size := 1, bytes := 8, agg := false, zero := [.nilFunc], desc := .func #[95, 50, 164] #[4] false }
def ti164 : TI := { size := 1, bytes := 8, agg := false, zero := [.nilFunc], desc := .func #[50] #[4] false }
def ti165 : TI := { size := 1, bytes := 24, agg := false, zero := [.slice none 0 0], desc := .slice 24 }
def ti166 : TI := { size := 1, bytes := 8, agg := false, zero := [.nilFunc], desc := .func #[97] #[165] false }
def ti167 : TI := { size := 4, bytes := 96, agg := true, zero := [.slice none 0 0, .slice none 0 0, .slice none 0 0, .slice none 0 0], desc := .array 2 138 }
def ti168 : TI := { size := 4, bytes := 96, agg := true, zero := [.slice none 0 0, .slice none 0 0, .slice none 0 0, .slice none 0 0], desc := .array 2 138 }
def ti170 : TI := { size := 1, bytes := 8, agg := false, zero := [.nilFunc], desc := .func #[24, 113] #[168, 36] false }
def ti171 : TI := { size := 1, bytes := 8, agg := false, zero := [.nilFunc], desc := .func #[28] #[50] false }
def ti172 : TI := { size := 1, bytes := 8, agg := false, zero := [.nilFunc], desc := .func #[117, 3] #[36] false }
def ti173 : TI := { size := 1, bytes := 8, agg := false, zero := [.nilFunc], desc := .func #[50, 95] #[4] false }
def ti174 : TI := { size := 1, bytes := 8, agg := false, zero := [.nilFunc], desc := .func #[181] #[] false }
def ti175 : TI := { size := 1, bytes := 8, agg := false, zero := [.nilFunc], desc := .func #[181] #[] false }
def ti176 : TI := { size := 1, bytes := 8, agg := false, zero := [.nilFunc], desc := .func #[58] #[175] false }
def ti177 : TI := { size := 1, bytes := 24, agg := false, zero := [.slice none 0 0], desc := .slice 36 }
def ti178 : TI := { size := 1, bytes := 8, agg := false, zero := [.nilFunc], desc := .func #[182] #[] false }
def ti179 : TI := { size := 1, bytes := 8, agg := false, zero := [.nilFunc], desc := .func #[50, 148] #[3] false }
def ti180 : TI := { size := 1, bytes := 8, agg := false, zero := [.nilFunc], desc := .func #[58, 158] #[3] false }
def ti181 : TI := { size := 1, bytes := 8, agg := false, zero := [.nilFunc], desc := .func #[3, 33] #[4] false }
def ti182 : TI := { size := 1, bytes := 8, agg := false, zero := [.nilFunc], desc := .func #[3, 3] #[4] false }
def ti183 : TI := { size := 1, bytes := 8, agg := false, zero := [.nilFunc], desc := .func #[] #[9] false }
def ti186 : TI := { size := 0, bytes := 0, agg := true, zero := [], desc := .array 0 16 }
def ti189 : TI := { size := 1, bytes := 8, agg := false, zero := [.nilFunc], desc := .func #[] #[3] false }
def ti190 : TI := { size := 1, bytes := 4, agg := false, zero := [.int .u32 0], desc := .int .u32 }
def ti193 : TI := { size := 1, bytes := 8, agg := false, zero := [.nilFunc], desc := .func #[199, 199] #[4] false }
def ti197 : TI := { size := 11, bytes := 48, agg := true, zero := [.int .u64 0, .int .u64 0, .int .u32 0, .int .u8 0, .int .u8 0, .int .u8 0, .int .u8 0, .nilFunc, .pointer none, .int .i32 0, .int .i32 0], desc := .struct #[⟨"Size_", 12, 0, false, "", "", 0⟩, ⟨"PtrBytes", 12, 1, false, "", "", 8⟩, ⟨"Hash", 190, 2, false, "", "", 16⟩, ⟨"TFlag", 191, 3, false, "", "", 20⟩, ⟨"Align_", 5, 4, false, "", "", 21⟩, ⟨"FieldAlign_", 5, 5, false, "", "", 22⟩, ⟨"Kind_", 192, 6, false, "", "", 23⟩, ⟨"Equal", 193, 7, false, "", "", 24⟩, ⟨"GCData", 194, 8, false, "", "", 32⟩, ⟨"Str", 195, 9, false, "", "", 40⟩, ⟨"PtrToThis", 196, 10, false, "", "", 44⟩] }
def ty : Tys := fun t => match t with
  | 1 => some ti1
  | 2 => some ti2
  | 3 => some ti3
  | 4 => some ti4
  | 5 => some ti5
  | 9 => some ti9
  | 12 => some ti12
  | 21 => some ti21
  | 22 => some ti22
  | 23 => some ti23
  | 24 => some ti24
  | 25 => some ti25
  | 26 => some ti26
  | 27 => some ti27
  | 28 => some ti28
  | 29 => some ti29
  | 30 => some ti30
  | 31 => some ti31
  | 32 => some ti32
  | 33 => some ti33
  | 34 => some ti34
  | 35 => some ti35
  | 36 => some ti36
  | 38 => some ti38
  | 39 => some ti39
  | 40 => some ti40
  | 41 => some ti41
  | 42 => some ti42
  | 43 => some ti43
  | 44 => some ti44
  | 45 => some ti45
  | 46 => some ti46
  | 48 => some ti48
  | 49 => some ti49
  | 50 => some ti50
  | 52 => some ti52
  | 54 => some ti54
  | 55 => some ti55
  | 56 => some ti56
  | 57 => some ti57
  | 58 => some ti58
  | 60 => some ti60
  | 61 => some ti61
  | 62 => some ti62
  | 63 => some ti63
  | 64 => some ti64
  | 65 => some ti65
  | 66 => some ti66
  | 67 => some ti67
  | 68 => some ti68
  | 69 => some ti69
  | 70 => some ti70
  | 71 => some ti71
  | 73 => some ti73
  | 74 => some ti74
  | 75 => some ti75
  | 76 => some ti76
  | 77 => some ti77
  | 78 => some ti78
  | 79 => some ti79
  | 80 => some ti80
  | 82 => some ti82
  | 83 => some ti83
  | 84 => some ti84
  | 85 => some ti85
  | 86 => some ti86
  | 87 => some ti87
  | 88 => some ti88
  | 89 => some ti89
  | 91 => some ti91
  | 92 => some ti92
  | 93 => some ti93
  | 94 => some ti94
  | 95 => some ti95
  | 96 => some ti96
  | 97 => some ti97
  | 98 => some ti98
  | 99 => some ti99
  | 101 => some ti101
  | 102 => some ti102
  | 103 => some ti103
  | 104 => some ti104
  | 105 => some ti105
  | 106 => some ti106
  | 107 => some ti107
  | 108 => some ti108
  | 109 => some ti109
  | 110 => some ti110
  | 111 => some ti111
  | 112 => some ti112
  | 113 => some ti113
  | 114 => some ti114
  | 115 => some ti115
  | 116 => some ti116
  | 117 => some ti117
  | 118 => some ti118
  | 119 => some ti119
  | 120 => some ti120
  | 121 => some ti121
  | 122 => some ti122
  | 123 => some ti123
  | 124 => some ti124
  | 125 => some ti125
  | 126 => some ti126
  | 127 => some ti127
  | 129 => some ti129
  | 130 => some ti130
  | 131 => some ti131
  | 132 => some ti132
  | 133 => some ti133
  | 134 => some ti134
  | 135 => some ti135
  | 136 => some ti136
  | 137 => some ti137
  | 138 => some ti138
  | 140 => some ti140
  | 141 => some ti141
  | 142 => some ti142
  | 143 => some ti143
  | 144 => some ti144
  | 145 => some ti145
  | 146 => some ti146
  | 147 => some ti147
  | 148 => some ti148
  | 149 => some ti149
  | 151 => some ti151
  | 152 => some ti152
  | 153 => some ti153
  | 154 => some ti154
  | 155 => some ti155
  | 156 => some ti156
  | 157 => some ti157
  | 158 => some ti158
  | 160 => some ti160
  | 161 => some ti161
  | 162 => some ti162
  | 163 => some ti163
  | 164 => some ti164
  | 165 => some ti165
  | 166 => some ti166
  | 167 => some ti167
  | 168 => some ti168
  | 170 => some ti170
  | 171 => some ti171
  | 172 => some ti172
  | 173 => some ti173
  | 174 => some ti174
  | 175 => some ti175
  | 176 => some ti176
  | 177 => some ti177
  | 178 => some ti178
  | 179 => some ti179
  | 180 => some ti180
  | 181 => some ti181
  | 182 => some ti182
  | 183 => some ti183
  | 186 => some ti186
  | 189 => some ti189
  | 190 => some ti190
  | 193 => some ti193
  | 197 => some ti197
  | _ => none
@[go_sem] theorem ty_1 : ty 1 = some ti1 := rfl
@[go_sem] theorem ty_2 : ty 2 = some ti2 := rfl
@[go_sem] theorem ty_3 : ty 3 = some ti3 := rfl
@[go_sem] theorem ty_4 : ty 4 = some ti4 := rfl
@[go_sem] theorem ty_5 : ty 5 = some ti5 := rfl
@[go_sem] theorem ty_9 : ty 9 = some ti9 := rfl
@[go_sem] theorem ty_12 : ty 12 = some ti12 := rfl
@[go_sem] theorem ty_21 : ty 21 = some ti21 := rfl
@[go_sem] theorem ty_22 : ty 22 = some ti22 := rfl
@[go_sem] theorem ty_23 : ty 23 = some ti23 := rfl
@[go_sem] theorem ty_24 : ty 24 = some ti24 := rfl
@[go_sem] theorem ty_25 : ty 25 = some ti25 := rfl
@[go_sem] theorem ty_26 : ty 26 = some ti26 := rfl
@[go_sem] theorem ty_27 : ty 27 = some ti27 := rfl
@[go_sem] theorem ty_28 : ty 28 = some ti28 := rfl
@[go_sem] theorem ty_29 : ty 29 = some ti29 := rfl
@[go_sem] theorem ty_30 : ty 30 = some ti30 := rfl
@[go_sem] theorem ty_31 : ty 31 = some ti31 := rfl
@[go_sem] theorem ty_32 : ty 32 = some ti32 := rfl
@[go_sem] theorem ty_33 : ty 33 = some ti33 := rfl
@[go_sem] theorem ty_34 : ty 34 = some ti34 := rfl
@[go_sem] theorem ty_35 : ty 35 = some ti35 := rfl
@[go_sem] theorem ty_36 : ty 36 = some ti36 := rfl
@[go_sem] theorem ty_38 : ty 38 = some ti38 := rfl
@[go_sem] theorem ty_39 : ty 39 = some ti39 := rfl
@[go_sem] theorem ty_40 : ty 40 = some ti40 := rfl
@[go_sem] theorem ty_41 : ty 41 = some ti41 := rfl
@[go_sem] theorem ty_42 : ty 42 = some ti42 := rfl
@[go_sem] theorem ty_43 : ty 43 = some ti43 := rfl
@[go_sem] theorem ty_44 : ty 44 = some ti44 := rfl
@[go_sem] theorem ty_45 : ty 45 = some ti45 := rfl
@[go_sem] theorem ty_46 : ty 46 = some ti46 := rfl
@[go_sem] theorem ty_48 : ty 48 = some ti48 := rfl
@[go_sem] theorem ty_49 : ty 49 = some ti49 := rfl
@[go_sem] theorem ty_50 : ty 50 = some ti50 := rfl
@[go_sem] theorem ty_52 : ty 52 = some ti52 := rfl
@[go_sem] theorem ty_54 : ty 54 = some ti54 := rfl
@[go_sem] theorem ty_55 : ty 55 = some ti55 := rfl
@[go_sem] theorem ty_56 : ty 56 = some ti56 := rfl
@[go_sem] theorem ty_57 : ty 57 = some ti57 := rfl
@[go_sem] theorem ty_58 : ty 58 = some ti58 := rfl
@[go_sem] theorem ty_60 : ty 60 = some ti60 := rfl
@[go_sem] theorem ty_61 : ty 61 = some ti61 := rfl
@[go_sem] theorem ty_62 : ty 62 = some ti62 := rfl
@[go_sem] theorem ty_63 : ty 63 = some ti63 := rfl
@[go_sem] theorem ty_64 : ty 64 = some ti64 := rfl
@[go_sem] theorem ty_65 : ty 65 = some ti65 := rfl
@[go_sem] theorem ty_66 : ty 66 = some ti66 := rfl
@[go_sem] theorem ty_67 : ty 67 = some ti67 := rfl
@[go_sem] theorem ty_68 : ty 68 = some ti68 := rfl
@[go_sem] theorem ty_69 : ty 69 = some ti69 := rfl
@[go_sem] theorem ty_70 : ty 70 = some ti70 := rfl
@[go_sem] theorem ty_71 : ty 71 = some ti71 := rfl
@[go_sem] theorem ty_73 : ty 73 = some ti73 := rfl
@[go_sem] theorem ty_74 : ty 74 = some ti74 := rfl
@[go_sem] theorem ty_75 : ty 75 = some ti75 := rfl
@[go_sem] theorem ty_76 : ty 76 = some ti76 := rfl
@[go_sem] theorem ty_77 : ty 77 = some ti77 := rfl
@[go_sem] theorem ty_78 : ty 78 = some ti78 := rfl
@[go_sem] theorem ty_79 : ty 79 = some ti79 := rfl
@[go_sem] theorem ty_80 : ty 80 = some ti80 := rfl
@[go_sem] theorem ty_82 : ty 82 = some ti82 := rfl
@[go_sem] theorem ty_83 : ty 83 = some ti83 := rfl
@[go_sem] theorem ty_84 : ty 84 = some ti84 := rfl
@[go_sem] theorem ty_85 : ty 85 = some ti85 := rfl
@[go_sem] theorem ty_86 : ty 86 = some ti86 := rfl
@[go_sem] theorem ty_87 : ty 87 = some ti87 := rfl
@[go_sem] theorem ty_88 : ty 88 = some ti88 := rfl
@[go_sem] theorem ty_89 : ty 89 = some ti89 := rfl
@[go_sem] theorem ty_91 : ty 91 = some ti91 := rfl
@[go_sem] theorem ty_92 : ty 92 = some ti92 := rfl
@[go_sem] theorem ty_93 : ty 93 = some ti93 := rfl
@[go_sem] theorem ty_94 : ty 94 = some ti94 := rfl
@[go_sem] theorem ty_95 : ty 95 = some ti95 := rfl
@[go_sem] theorem ty_96 : ty 96 = some ti96 := rfl
@[go_sem] theorem ty_97 : ty 97 = some ti97 := rfl
@[go_sem] theorem ty_98 : ty 98 = some ti98 := rfl
@[go_sem] theorem ty_99 : ty 99 = some ti99 := rfl
@[go_sem] theorem ty_101 : ty 101 = some ti101 := rfl
@[go_sem] theorem ty_102 : ty 102 = some ti102 := rfl
@[go_sem] theorem ty_103 : ty 103 = some ti103 := rfl
@[go_sem] theorem ty_104 : ty 104 = some ti104 := rfl
@[go_sem] theorem ty_105 : ty 105 = some ti105 := rfl
@[go_sem] theorem ty_106 : ty 106 = some ti106 := rfl
@[go_sem] theorem ty_107 : ty 107 = some ti107 := rfl
@[go_sem] theorem ty_108 : ty 108 = some ti108 := rfl
@[go_sem] theorem ty_109 : ty 109 = some ti109 := rfl
@[go_sem] theorem ty_110 : ty 110 = some ti110 := rfl
@[go_sem] theorem ty_111 : ty 111 = some ti111 := rfl
@[go_sem] theorem ty_112 : ty 112 = some ti112 := rfl
@[go_sem] theorem ty_113 : ty 113 = some ti113 := rfl
@[go_sem] theorem ty_114 : ty 114 = some ti114 := rfl
@[go_sem] theorem ty_115 : ty 115 = some ti115 := rfl
@[go_sem] theorem ty_116 : ty 116 = some ti116 := rfl
@[go_sem] theorem ty_117 : ty 117 = some ti117 := rfl
@[go_sem] theorem ty_118 : ty 118 = some ti118 := rfl
@[go_sem] theorem ty_119 : ty 119 = some ti119 := rfl
@[go_sem] theorem ty_120 : ty 120 = some ti120 := rfl
@[go_sem] theorem ty_121 : ty 121 = some ti121 := rfl
@[go_sem] theorem ty_122 : ty 122 = some ti122 := rfl
@[go_sem] theorem ty_123 : ty 123 = some ti123 := rfl
@[go_sem] theorem ty_124 : ty 124 = some ti124 := rfl
@[go_sem] theorem ty_125 : ty 125 = some ti125 := rfl
@[go_sem] theorem ty_126 : ty 126 = some ti126 := rfl
@[go_sem] theorem ty_127 : ty 127 = some ti127 := rfl
@[go_sem] theorem ty_129 : ty 129 = some ti129 := rfl
@[go_sem] theorem ty_130 : ty 130 = some ti130 := rfl
@[go_sem] theorem ty_131 : ty 131 = some ti131 := rfl
@[go_sem] theorem ty_132 : ty 132 = some ti132 := rfl
@[go_sem] theorem ty_133 : ty 133 = some ti133 := rfl
@[go_sem] theorem ty_134 : ty 134 = some ti134 := rfl
@[go_sem] theorem ty_135 : ty 135 = some ti135 := rfl
@[go_sem] theorem ty_136 : ty 136 = some ti136 := rfl
@[go_sem] theorem ty_137 : ty 137 = some ti137 := rfl
@[go_sem] theorem ty_138 : ty 138 = some ti138 := rfl
@[go_sem] theorem ty_140 : ty 140 = some ti140 := rfl
@[go_sem] theorem ty_141 : ty 141 = some ti141 := rfl
@[go_sem] theorem ty_142 : ty 142 = some ti142 := rfl
@[go_sem] theorem ty_143 : ty 143 = some ti143 := rfl
@[go_sem] theorem ty_144 : ty 144 = some ti144 := rfl
@[go_sem] theorem ty_145 : ty 145 = some ti145 := rfl
@[go_sem] theorem ty_146 : ty 146 = some ti146 := rfl
@[go_sem] theorem ty_147 : ty 147 = some ti147 := rfl
@[go_sem] theorem ty_148 : ty 148 = some ti148 := rfl
@[go_sem] theorem ty_149 : ty 149 = some ti149 := rfl
@[go_sem] theorem ty_151 : ty 151 = some ti151 := rfl
@[go_sem] theorem ty_152 : ty 152 = some ti152 := rfl
@[go_sem] theorem ty_153 : ty 153 = some ti153 := rfl
@[go_sem] theorem ty_154 : ty 154 = some ti154 := rfl
@[go_sem] theorem ty_155 : ty 155 = some ti155 := rfl
@[go_sem] theorem ty_156 : ty 156 = some ti156 := rfl
@[go_sem] theorem ty_157 : ty 157 = some ti157 := rfl
@[go_sem] theorem ty_158 : ty 158 = some ti158 := rfl
@[go_sem] theorem ty_160 : ty 160 = some ti160 := rfl
@[go_sem] theorem ty_161 : ty 161 = some ti161 := rfl
@[go_sem] theorem ty_162 : ty 162 = some ti162 := rfl
@[go_sem] theorem ty_163 : ty 163 = some ti163 := rfl
@[go_sem] theorem ty_164 : ty 164 = some ti164 := rfl
@[go_sem] theorem ty_165 : ty 165 = some ti165 := rfl
@[go_sem] theorem ty_166 : ty 166 = some ti166 := rfl
@[go_sem] theorem ty_167 : ty 167 = some ti167 := rfl
@[go_sem] theorem ty_168 : ty 168 = some ti168 := rfl
@[go_sem] theorem ty_170 : ty 170 = some ti170 := rfl
@[go_sem] theorem ty_171 : ty 171 = some ti171 := rfl
@[go_sem] theorem ty_172 : ty 172 = some ti172 := rfl
@[go_sem] theorem ty_173 : ty 173 = some ti173 := rfl
@[go_sem] theorem ty_174 : ty 174 = some ti174 := rfl
@[go_sem] theorem ty_175 : ty 175 = some ti175 := rfl
@[go_sem] theorem ty_176 : ty 176 = some ti176 := rfl
@[go_sem] theorem ty_177 : ty 177 = some ti177 := rfl
@[go_sem] theorem ty_178 : ty 178 = some ti178 := rfl
@[go_sem] theorem ty_179 : ty 179 = some ti179 := rfl
@[go_sem] theorem ty_180 : ty 180 = some ti180 := rfl
@[go_sem] theorem ty_181 : ty 181 = some ti181 := rfl
@[go_sem] theorem ty_182 : ty 182 = some ti182 := rfl
@[go_sem] theorem ty_183 : ty 183 = some ti183 := rfl
@[go_sem] theorem ty_186 : ty 186 = some ti186 := rfl
@[go_sem] theorem ty_189 : ty 189 = some ti189 := rfl
@[go_sem] theorem ty_190 : ty 190 = some ti190 := rfl
@[go_sem] theorem ty_193 : ty 193 = some ti193 := rfl
@[go_sem] theorem ty_197 : ty 197 = some ti197 := rfl
attribute [go_sem] ti1 ti2 ti3 ti4 ti5 ti9 ti12 ti21 ti22 ti23 ti24 ti25 ti26 ti27 ti28 ti29 ti30 ti31 ti32 ti33 ti34 ti35 ti36 ti38 ti39 ti40 ti41 ti42 ti43 ti44 ti45 ti46 ti48 ti49 ti50 ti52 ti54 ti55 ti56 ti57 ti58 ti60 ti61 ti62 ti63 ti64 ti65 ti66 ti67 ti68 ti69 ti70 ti71 ti73 ti74 ti75 ti76 ti77 ti78 ti79 ti80 ti82 ti83 ti84 ti85 ti86 ti87 ti88 ti89 ti91 ti92 ti93 ti94 ti95 ti96 ti97 ti98 ti99 ti101 ti102 ti103 ti104 ti105 ti106 ti107 ti108 ti109 ti110 ti111 ti112 ti113 ti114 ti115 ti116 ti117 ti118 ti119 ti120 ti121 ti122 ti123 ti124 ti125 ti126 ti127 ti129 ti130 ti131 ti132 ti133 ti134 ti135 ti136 ti137 ti138 ti140 ti141 ti142 ti143 ti144 ti145 ti146 ti147 ti148 ti149 ti151 ti152 ti153 ti154 ti155 ti156 ti157 ti158 ti160 ti161 ti162 ti163 ti164 ti165 ti166 ti167 ti168 ti170 ti171 ti172 ti173 ti174 ti175 ti176 ti177 ti178 ti179 ti180 ti181 ti182 ti183 ti186 ti189 ti190 ti193 ti197

theorem fact {t : Nat} {i : TI} (z : Value) (h1 : (Try.prog.info? t).map (fun i => (i.size, i.bytes, i.zero)) = some (i.size, i.bytes, some z)) (h2 : Try.prog.underlying t = some i.desc) (hz : z.cells.toList = i.zero)
    (ha : i.agg = (match i.desc with | .struct _ | .array _ _ => true | _ => false)) (ho : i.agg = false → i.size = 1) (hl : i.zero.length = i.size) (he : ∀ n, i.eqn = some n → EqOk Try.prog t n) : TyFact Try.prog t i := by
  refine ⟨?_, h2, ha, ho, hl, he⟩
  cases hi : Try.prog.info? t with
  | none => rw [hi] at h1; cases h1
  | some info =>
    rw [hi] at h1
    simp only [Option.map_some, Option.some.injEq, Prod.mk.injEq] at h1
    exact ⟨info, z, rfl, h1.1, h1.2.1, h1.2.2, hz⟩

theorem eq33 : EqOk Try.prog 33 2 where
  guard := by kernel_rfl
  run := by
    intro xs ys w h1 h2
    match xs, ys, h1, h2 with
    | [a0, a1], [b0, b1], _, _ =>
      have u3 : Try.prog.underlying 3 = some (.int .i64) := by kernel_rfl
      have u33 : Try.prog.underlying 33 = some (.struct #[⟨"Re", 3, 0, false, "", "", 0⟩, ⟨"Im", 3, 1, false, "", "", 8⟩]) := by kernel_rfl
      have g33 : Try.prog.stoodInHeld 33 = false := by kernel_rfl
      have v33 : Try.prog.underlying 33 = some (.struct (Try.prog.fieldsOf 33)) := by kernel_rfl
      have w33 : (Try.prog.fieldsOf 33).toList = [⟨"Re", 3, 0, false, "", "", 0⟩, ⟨"Im", 3, 1, false, "", "", 8⟩] := by kernel_rfl
      have s33 : ∀ w, (sizeOf 33).run Try.prog w = .ok 2 w := fun _ => by kernel_rfl
      have p3 : ∀ w, (isAgg 3).run Try.prog w = .ok false w := fun _ => by kernel_rfl
      have p33 : ∀ w, (isAgg 33).run Try.prog w = .ok true w := fun _ => by kernel_rfl
      have e3 : ∀ (d : Nat) (a b : Int) (w : World), (Op.equalIn (d + 1) 3 (.int .i64 a) (.int .i64 b)).run Try.prog w = .ok (a == b) w := fun d a b w => run_equalIn_int w d 3 .i64 .i64 a b u3
      have e33 : ∀ (d : Nat) (xs ys : Array Value) (w : World), (Op.equalIn (d + 1) 33 (.agg xs) (.agg ys)).run Try.prog w = (Op.eqFields d xs ys (Try.prog.fieldsOf 33).toList).run Try.prog w := fun d xs ys w => run_equalIn_struct w d 33 xs ys v33 g33
      simp [ints, e3, e33, Op.eqFields, part, g33, w33, s33, p3, p33]
      try grind
theorem eq35 : EqOk Try.prog 35 4 where
  guard := by kernel_rfl
  run := by
    intro xs ys w h1 h2
    match xs, ys, h1, h2 with
    | [a0, a1, a2, a3], [b0, b1, b2, b3], _, _ =>
      have u3 : Try.prog.underlying 3 = some (.int .i64) := by kernel_rfl
      have u33 : Try.prog.underlying 33 = some (.struct #[⟨"Re", 3, 0, false, "", "", 0⟩, ⟨"Im", 3, 1, false, "", "", 8⟩]) := by kernel_rfl
      have u35 : Try.prog.underlying 35 = some (.struct #[⟨"Num", 33, 0, false, "", "", 0⟩, ⟨"Den", 33, 2, false, "", "", 16⟩]) := by kernel_rfl
      have g33 : Try.prog.stoodInHeld 33 = false := by kernel_rfl
      have v33 : Try.prog.underlying 33 = some (.struct (Try.prog.fieldsOf 33)) := by kernel_rfl
      have w33 : (Try.prog.fieldsOf 33).toList = [⟨"Re", 3, 0, false, "", "", 0⟩, ⟨"Im", 3, 1, false, "", "", 8⟩] := by kernel_rfl
      have s33 : ∀ w, (sizeOf 33).run Try.prog w = .ok 2 w := fun _ => by kernel_rfl
      have g35 : Try.prog.stoodInHeld 35 = false := by kernel_rfl
      have v35 : Try.prog.underlying 35 = some (.struct (Try.prog.fieldsOf 35)) := by kernel_rfl
      have w35 : (Try.prog.fieldsOf 35).toList = [⟨"Num", 33, 0, false, "", "", 0⟩, ⟨"Den", 33, 2, false, "", "", 16⟩] := by kernel_rfl
      have s35 : ∀ w, (sizeOf 35).run Try.prog w = .ok 4 w := fun _ => by kernel_rfl
      have p3 : ∀ w, (isAgg 3).run Try.prog w = .ok false w := fun _ => by kernel_rfl
      have p33 : ∀ w, (isAgg 33).run Try.prog w = .ok true w := fun _ => by kernel_rfl
      have p35 : ∀ w, (isAgg 35).run Try.prog w = .ok true w := fun _ => by kernel_rfl
      have e3 : ∀ (d : Nat) (a b : Int) (w : World), (Op.equalIn (d + 1) 3 (.int .i64 a) (.int .i64 b)).run Try.prog w = .ok (a == b) w := fun d a b w => run_equalIn_int w d 3 .i64 .i64 a b u3
      have e33 : ∀ (d : Nat) (xs ys : Array Value) (w : World), (Op.equalIn (d + 1) 33 (.agg xs) (.agg ys)).run Try.prog w = (Op.eqFields d xs ys (Try.prog.fieldsOf 33).toList).run Try.prog w := fun d xs ys w => run_equalIn_struct w d 33 xs ys v33 g33
      have e35 : ∀ (d : Nat) (xs ys : Array Value) (w : World), (Op.equalIn (d + 1) 35 (.agg xs) (.agg ys)).run Try.prog w = (Op.eqFields d xs ys (Try.prog.fieldsOf 35).toList).run Try.prog w := fun d xs ys w => run_equalIn_struct w d 35 xs ys v35 g35
      simp [ints, e3, e33, e35, Op.eqFields, part, g33, w33, s33, g35, w35, s35, p3, p33, p35]
      try grind
theorem eq80 : EqOk Try.prog 80 2 where
  guard := by kernel_rfl
  run := by
    intro xs ys w h1 h2
    match xs, ys, h1, h2 with
    | [a0, a1], [b0, b1], _, _ =>
      have u3 : Try.prog.underlying 3 = some (.int .i64) := by kernel_rfl
      have u80 : Try.prog.underlying 80 = some (.struct #[⟨"Num", 3, 0, false, "", "", 0⟩, ⟨"Den", 3, 1, false, "", "", 8⟩]) := by kernel_rfl
      have g80 : Try.prog.stoodInHeld 80 = false := by kernel_rfl
      have v80 : Try.prog.underlying 80 = some (.struct (Try.prog.fieldsOf 80)) := by kernel_rfl
      have w80 : (Try.prog.fieldsOf 80).toList = [⟨"Num", 3, 0, false, "", "", 0⟩, ⟨"Den", 3, 1, false, "", "", 8⟩] := by kernel_rfl
      have s80 : ∀ w, (sizeOf 80).run Try.prog w = .ok 2 w := fun _ => by kernel_rfl
      have p3 : ∀ w, (isAgg 3).run Try.prog w = .ok false w := fun _ => by kernel_rfl
      have p80 : ∀ w, (isAgg 80).run Try.prog w = .ok true w := fun _ => by kernel_rfl
      have e3 : ∀ (d : Nat) (a b : Int) (w : World), (Op.equalIn (d + 1) 3 (.int .i64 a) (.int .i64 b)).run Try.prog w = .ok (a == b) w := fun d a b w => run_equalIn_int w d 3 .i64 .i64 a b u3
      have e80 : ∀ (d : Nat) (xs ys : Array Value) (w : World), (Op.equalIn (d + 1) 80 (.agg xs) (.agg ys)).run Try.prog w = (Op.eqFields d xs ys (Try.prog.fieldsOf 80).toList).run Try.prog w := fun d xs ys w => run_equalIn_struct w d 80 xs ys v80 g80
      simp [ints, e3, e80, Op.eqFields, part, g80, w80, s80, p3, p80]
      try grind
theorem eq109 : EqOk Try.prog 109 2 where
  guard := by kernel_rfl
  run := by
    intro xs ys w h1 h2
    match xs, ys, h1, h2 with
    | [a0, a1], [b0, b1], _, _ =>
      have u3 : Try.prog.underlying 3 = some (.int .i64) := by kernel_rfl
      have u109 : Try.prog.underlying 109 = some (.struct #[⟨"Lo", 3, 0, false, "", "", 0⟩, ⟨"Hi", 3, 1, false, "", "", 8⟩]) := by kernel_rfl
      have g109 : Try.prog.stoodInHeld 109 = false := by kernel_rfl
      have v109 : Try.prog.underlying 109 = some (.struct (Try.prog.fieldsOf 109)) := by kernel_rfl
      have w109 : (Try.prog.fieldsOf 109).toList = [⟨"Lo", 3, 0, false, "", "", 0⟩, ⟨"Hi", 3, 1, false, "", "", 8⟩] := by kernel_rfl
      have s109 : ∀ w, (sizeOf 109).run Try.prog w = .ok 2 w := fun _ => by kernel_rfl
      have p3 : ∀ w, (isAgg 3).run Try.prog w = .ok false w := fun _ => by kernel_rfl
      have p109 : ∀ w, (isAgg 109).run Try.prog w = .ok true w := fun _ => by kernel_rfl
      have e3 : ∀ (d : Nat) (a b : Int) (w : World), (Op.equalIn (d + 1) 3 (.int .i64 a) (.int .i64 b)).run Try.prog w = .ok (a == b) w := fun d a b w => run_equalIn_int w d 3 .i64 .i64 a b u3
      have e109 : ∀ (d : Nat) (xs ys : Array Value) (w : World), (Op.equalIn (d + 1) 109 (.agg xs) (.agg ys)).run Try.prog w = (Op.eqFields d xs ys (Try.prog.fieldsOf 109).toList).run Try.prog w := fun d xs ys w => run_equalIn_struct w d 109 xs ys v109 g109
      simp [ints, e3, e109, Op.eqFields, part, g109, w109, s109, p3, p109]
      try grind
theorem ty_ok : TyOk Try.prog ty := by
  intro t i h
  unfold ty at h
  split at h
  · obtain rfl := Option.some.inj h
    exact fact (.nilFunc) (by kernel_rfl) (by kernel_rfl) rfl rfl (by first | (intro _; rfl) | (intro h; cases h)) rfl (fun n hn => by first | (cases hn; done) | (obtain rfl := Option.some.inj hn; exact False.elim (by cases hn)))
  · obtain rfl := Option.some.inj h
    exact fact (.int .i64 0) (by kernel_rfl) (by kernel_rfl) rfl rfl (by first | (intro _; rfl) | (intro h; cases h)) rfl (fun n hn => by first | (cases hn; done) | (obtain rfl := Option.some.inj hn; exact False.elim (by cases hn)))
  · obtain rfl := Option.some.inj h
    exact fact (.int .i64 0) (by kernel_rfl) (by kernel_rfl) rfl rfl (by first | (intro _; rfl) | (intro h; cases h)) rfl (fun n hn => by first | (cases hn; done) | (obtain rfl := Option.some.inj hn; exact False.elim (by cases hn)))
  · obtain rfl := Option.some.inj h
    exact fact (.bool false) (by kernel_rfl) (by kernel_rfl) rfl rfl (by first | (intro _; rfl) | (intro h; cases h)) rfl (fun n hn => by first | (cases hn; done) | (obtain rfl := Option.some.inj hn; exact False.elim (by cases hn)))
  · obtain rfl := Option.some.inj h
    exact fact (.int .u8 0) (by kernel_rfl) (by kernel_rfl) rfl rfl (by first | (intro _; rfl) | (intro h; cases h)) rfl (fun n hn => by first | (cases hn; done) | (obtain rfl := Option.some.inj hn; exact False.elim (by cases hn)))
  · obtain rfl := Option.some.inj h
    exact fact (.string .empty) (by kernel_rfl) (by kernel_rfl) rfl rfl (by first | (intro _; rfl) | (intro h; cases h)) rfl (fun n hn => by first | (cases hn; done) | (obtain rfl := Option.some.inj hn; exact False.elim (by cases hn)))
  · obtain rfl := Option.some.inj h
    exact fact (.int .u64 0) (by kernel_rfl) (by kernel_rfl) rfl rfl (by first | (intro _; rfl) | (intro h; cases h)) rfl (fun n hn => by first | (cases hn; done) | (obtain rfl := Option.some.inj hn; exact False.elim (by cases hn)))
  · obtain rfl := Option.some.inj h
    exact fact (.int .i32 0) (by kernel_rfl) (by kernel_rfl) rfl rfl (by first | (intro _; rfl) | (intro h; cases h)) rfl (fun n hn => by first | (cases hn; done) | (obtain rfl := Option.some.inj hn; exact False.elim (by cases hn)))
  · obtain rfl := Option.some.inj h
    exact fact (.slice none 0 0) (by kernel_rfl) (by kernel_rfl) rfl rfl (by first | (intro _; rfl) | (intro h; cases h)) rfl (fun n hn => by first | (cases hn; done) | (obtain rfl := Option.some.inj hn; exact False.elim (by cases hn)))
  · obtain rfl := Option.some.inj h
    exact fact (.agg #[.int .i64 0, .slice none 0 0]) (by kernel_rfl) (by kernel_rfl) rfl rfl (by first | (intro _; rfl) | (intro h; cases h)) rfl (fun n hn => by first | (cases hn; done) | (obtain rfl := Option.some.inj hn; exact False.elim (by cases hn)))
  · obtain rfl := Option.some.inj h
    exact fact (.agg #[.int .i64 0, .slice none 0 0]) (by kernel_rfl) (by kernel_rfl) rfl rfl (by first | (intro _; rfl) | (intro h; cases h)) rfl (fun n hn => by first | (cases hn; done) | (obtain rfl := Option.some.inj hn; exact False.elim (by cases hn)))
  · obtain rfl := Option.some.inj h
    exact fact (.slice none 0 0) (by kernel_rfl) (by kernel_rfl) rfl rfl (by first | (intro _; rfl) | (intro h; cases h)) rfl (fun n hn => by first | (cases hn; done) | (obtain rfl := Option.some.inj hn; exact False.elim (by cases hn)))
  · obtain rfl := Option.some.inj h
    exact fact (.agg #[.int .i64 0, .slice none 0 0]) (by kernel_rfl) (by kernel_rfl) rfl rfl (by first | (intro _; rfl) | (intro h; cases h)) rfl (fun n hn => by first | (cases hn; done) | (obtain rfl := Option.some.inj hn; exact False.elim (by cases hn)))
  · obtain rfl := Option.some.inj h
    exact fact (.agg #[.int .i64 0, .slice none 0 0]) (by kernel_rfl) (by kernel_rfl) rfl rfl (by first | (intro _; rfl) | (intro h; cases h)) rfl (fun n hn => by first | (cases hn; done) | (obtain rfl := Option.some.inj hn; exact False.elim (by cases hn)))
  · obtain rfl := Option.some.inj h
    exact fact (.agg #[.int .i64 0, .int .i64 0]) (by kernel_rfl) (by kernel_rfl) rfl rfl (by first | (intro _; rfl) | (intro h; cases h)) rfl (fun n hn => by first | (cases hn; done) | (obtain rfl := Option.some.inj hn; exact False.elim (by cases hn)))
  · obtain rfl := Option.some.inj h
    exact fact (.nilFunc) (by kernel_rfl) (by kernel_rfl) rfl rfl (by first | (intro _; rfl) | (intro h; cases h)) rfl (fun n hn => by first | (cases hn; done) | (obtain rfl := Option.some.inj hn; exact False.elim (by cases hn)))
  · obtain rfl := Option.some.inj h
    exact fact (.nilFunc) (by kernel_rfl) (by kernel_rfl) rfl rfl (by first | (intro _; rfl) | (intro h; cases h)) rfl (fun n hn => by first | (cases hn; done) | (obtain rfl := Option.some.inj hn; exact False.elim (by cases hn)))
  · obtain rfl := Option.some.inj h
    exact fact (.nilFunc) (by kernel_rfl) (by kernel_rfl) rfl rfl (by first | (intro _; rfl) | (intro h; cases h)) rfl (fun n hn => by first | (cases hn; done) | (obtain rfl := Option.some.inj hn; exact False.elim (by cases hn)))
  · obtain rfl := Option.some.inj h
    exact fact (.agg #[.int .i64 0, .int .i64 0]) (by kernel_rfl) (by kernel_rfl) rfl rfl (by first | (intro _; rfl) | (intro h; cases h)) rfl (fun n hn => by first | (cases hn; done) | (obtain rfl := Option.some.inj hn; exact False.elim (by cases hn)))
  · obtain rfl := Option.some.inj h
    exact fact (.agg #[.int .i64 0, .int .i64 0]) (by kernel_rfl) (by kernel_rfl) rfl rfl (by first | (intro _; rfl) | (intro h; cases h)) rfl (fun n hn => by first | (cases hn; done) | (obtain rfl := Option.some.inj hn; exact eq33))
  · obtain rfl := Option.some.inj h
    exact fact (.agg #[.int .i64 0, .int .i64 0, .int .i64 0, .int .i64 0]) (by kernel_rfl) (by kernel_rfl) rfl rfl (by first | (intro _; rfl) | (intro h; cases h)) rfl (fun n hn => by first | (cases hn; done) | (obtain rfl := Option.some.inj hn; exact False.elim (by cases hn)))
  · obtain rfl := Option.some.inj h
    exact fact (.agg #[.int .i64 0, .int .i64 0, .int .i64 0, .int .i64 0]) (by kernel_rfl) (by kernel_rfl) rfl rfl (by first | (intro _; rfl) | (intro h; cases h)) rfl (fun n hn => by first | (cases hn; done) | (obtain rfl := Option.some.inj hn; exact eq35))
  · obtain rfl := Option.some.inj h
    exact fact (.int .i64 0) (by kernel_rfl) (by kernel_rfl) rfl rfl (by first | (intro _; rfl) | (intro h; cases h)) rfl (fun n hn => by first | (cases hn; done) | (obtain rfl := Option.some.inj hn; exact False.elim (by cases hn)))
  · obtain rfl := Option.some.inj h
    exact fact (.nilFunc) (by kernel_rfl) (by kernel_rfl) rfl rfl (by first | (intro _; rfl) | (intro h; cases h)) rfl (fun n hn => by first | (cases hn; done) | (obtain rfl := Option.some.inj hn; exact False.elim (by cases hn)))
  · obtain rfl := Option.some.inj h
    exact fact (.nilFunc) (by kernel_rfl) (by kernel_rfl) rfl rfl (by first | (intro _; rfl) | (intro h; cases h)) rfl (fun n hn => by first | (cases hn; done) | (obtain rfl := Option.some.inj hn; exact False.elim (by cases hn)))
  · obtain rfl := Option.some.inj h
    exact fact (.nilFunc) (by kernel_rfl) (by kernel_rfl) rfl rfl (by first | (intro _; rfl) | (intro h; cases h)) rfl (fun n hn => by first | (cases hn; done) | (obtain rfl := Option.some.inj hn; exact False.elim (by cases hn)))
  · obtain rfl := Option.some.inj h
    exact fact (.nilFunc) (by kernel_rfl) (by kernel_rfl) rfl rfl (by first | (intro _; rfl) | (intro h; cases h)) rfl (fun n hn => by first | (cases hn; done) | (obtain rfl := Option.some.inj hn; exact False.elim (by cases hn)))
  · obtain rfl := Option.some.inj h
    exact fact (.nilFunc) (by kernel_rfl) (by kernel_rfl) rfl rfl (by first | (intro _; rfl) | (intro h; cases h)) rfl (fun n hn => by first | (cases hn; done) | (obtain rfl := Option.some.inj hn; exact False.elim (by cases hn)))
  · obtain rfl := Option.some.inj h
    exact fact (.nilFunc) (by kernel_rfl) (by kernel_rfl) rfl rfl (by first | (intro _; rfl) | (intro h; cases h)) rfl (fun n hn => by first | (cases hn; done) | (obtain rfl := Option.some.inj hn; exact False.elim (by cases hn)))
  · obtain rfl := Option.some.inj h
    exact fact (.nilFunc) (by kernel_rfl) (by kernel_rfl) rfl rfl (by first | (intro _; rfl) | (intro h; cases h)) rfl (fun n hn => by first | (cases hn; done) | (obtain rfl := Option.some.inj hn; exact False.elim (by cases hn)))
  · obtain rfl := Option.some.inj h
    exact fact (.nilFunc) (by kernel_rfl) (by kernel_rfl) rfl rfl (by first | (intro _; rfl) | (intro h; cases h)) rfl (fun n hn => by first | (cases hn; done) | (obtain rfl := Option.some.inj hn; exact False.elim (by cases hn)))
  · obtain rfl := Option.some.inj h
    exact fact (.nilFunc) (by kernel_rfl) (by kernel_rfl) rfl rfl (by first | (intro _; rfl) | (intro h; cases h)) rfl (fun n hn => by first | (cases hn; done) | (obtain rfl := Option.some.inj hn; exact False.elim (by cases hn)))
  · obtain rfl := Option.some.inj h
    exact fact (.nilFunc) (by kernel_rfl) (by kernel_rfl) rfl rfl (by first | (intro _; rfl) | (intro h; cases h)) rfl (fun n hn => by first | (cases hn; done) | (obtain rfl := Option.some.inj hn; exact False.elim (by cases hn)))
  · obtain rfl := Option.some.inj h
    exact fact (.nilFunc) (by kernel_rfl) (by kernel_rfl) rfl rfl (by first | (intro _; rfl) | (intro h; cases h)) rfl (fun n hn => by first | (cases hn; done) | (obtain rfl := Option.some.inj hn; exact False.elim (by cases hn)))
  · obtain rfl := Option.some.inj h
    exact fact (.slice none 0 0) (by kernel_rfl) (by kernel_rfl) rfl rfl (by first | (intro _; rfl) | (intro h; cases h)) rfl (fun n hn => by first | (cases hn; done) | (obtain rfl := Option.some.inj hn; exact False.elim (by cases hn)))
  · obtain rfl := Option.some.inj h
    exact fact (.nilFunc) (by kernel_rfl) (by kernel_rfl) rfl rfl (by first | (intro _; rfl) | (intro h; cases h)) rfl (fun n hn => by first | (cases hn; done) | (obtain rfl := Option.some.inj hn; exact False.elim (by cases hn)))
  · obtain rfl := Option.some.inj h
    exact fact (.nilFunc) (by kernel_rfl) (by kernel_rfl) rfl rfl (by first | (intro _; rfl) | (intro h; cases h)) rfl (fun n hn => by first | (cases hn; done) | (obtain rfl := Option.some.inj hn; exact False.elim (by cases hn)))
  · obtain rfl := Option.some.inj h
    exact fact (.nilFunc) (by kernel_rfl) (by kernel_rfl) rfl rfl (by first | (intro _; rfl) | (intro h; cases h)) rfl (fun n hn => by first | (cases hn; done) | (obtain rfl := Option.some.inj hn; exact False.elim (by cases hn)))
  · obtain rfl := Option.some.inj h
    exact fact (.nilFunc) (by kernel_rfl) (by kernel_rfl) rfl rfl (by first | (intro _; rfl) | (intro h; cases h)) rfl (fun n hn => by first | (cases hn; done) | (obtain rfl := Option.some.inj hn; exact False.elim (by cases hn)))
  · obtain rfl := Option.some.inj h
    exact fact (.nilFunc) (by kernel_rfl) (by kernel_rfl) rfl rfl (by first | (intro _; rfl) | (intro h; cases h)) rfl (fun n hn => by first | (cases hn; done) | (obtain rfl := Option.some.inj hn; exact False.elim (by cases hn)))
  · obtain rfl := Option.some.inj h
    exact fact (.slice none 0 0) (by kernel_rfl) (by kernel_rfl) rfl rfl (by first | (intro _; rfl) | (intro h; cases h)) rfl (fun n hn => by first | (cases hn; done) | (obtain rfl := Option.some.inj hn; exact False.elim (by cases hn)))
  · obtain rfl := Option.some.inj h
    exact fact (.nilFunc) (by kernel_rfl) (by kernel_rfl) rfl rfl (by first | (intro _; rfl) | (intro h; cases h)) rfl (fun n hn => by first | (cases hn; done) | (obtain rfl := Option.some.inj hn; exact False.elim (by cases hn)))
  · obtain rfl := Option.some.inj h
    exact fact (.nilFunc) (by kernel_rfl) (by kernel_rfl) rfl rfl (by first | (intro _; rfl) | (intro h; cases h)) rfl (fun n hn => by first | (cases hn; done) | (obtain rfl := Option.some.inj hn; exact False.elim (by cases hn)))
  · obtain rfl := Option.some.inj h
    exact fact (.agg #[.int .i64 0, .int .i64 0, .int .i64 0]) (by kernel_rfl) (by kernel_rfl) rfl rfl (by first | (intro _; rfl) | (intro h; cases h)) rfl (fun n hn => by first | (cases hn; done) | (obtain rfl := Option.some.inj hn; exact False.elim (by cases hn)))
  · obtain rfl := Option.some.inj h
    exact fact (.agg #[.int .i64 0, .int .i64 0, .int .i64 0]) (by kernel_rfl) (by kernel_rfl) rfl rfl (by first | (intro _; rfl) | (intro h; cases h)) rfl (fun n hn => by first | (cases hn; done) | (obtain rfl := Option.some.inj hn; exact False.elim (by cases hn)))
  · obtain rfl := Option.some.inj h
    exact fact (.nilFunc) (by kernel_rfl) (by kernel_rfl) rfl rfl (by first | (intro _; rfl) | (intro h; cases h)) rfl (fun n hn => by first | (cases hn; done) | (obtain rfl := Option.some.inj hn; exact False.elim (by cases hn)))
  · obtain rfl := Option.some.inj h
    exact fact (.nilFunc) (by kernel_rfl) (by kernel_rfl) rfl rfl (by first | (intro _; rfl) | (intro h; cases h)) rfl (fun n hn => by first | (cases hn; done) | (obtain rfl := Option.some.inj hn; exact False.elim (by cases hn)))
  · obtain rfl := Option.some.inj h
    exact fact (.agg #[.int .i64 0, .int .i64 0, .int .i64 0]) (by kernel_rfl) (by kernel_rfl) rfl rfl (by first | (intro _; rfl) | (intro h; cases h)) rfl (fun n hn => by first | (cases hn; done) | (obtain rfl := Option.some.inj hn; exact False.elim (by cases hn)))
  · obtain rfl := Option.some.inj h
    exact fact (.nilFunc) (by kernel_rfl) (by kernel_rfl) rfl rfl (by first | (intro _; rfl) | (intro h; cases h)) rfl (fun n hn => by first | (cases hn; done) | (obtain rfl := Option.some.inj hn; exact False.elim (by cases hn)))
  · obtain rfl := Option.some.inj h
    exact fact (.nilFunc) (by kernel_rfl) (by kernel_rfl) rfl rfl (by first | (intro _; rfl) | (intro h; cases h)) rfl (fun n hn => by first | (cases hn; done) | (obtain rfl := Option.some.inj hn; exact False.elim (by cases hn)))
  · obtain rfl := Option.some.inj h
    exact fact (.nilFunc) (by kernel_rfl) (by kernel_rfl) rfl rfl (by first | (intro _; rfl) | (intro h; cases h)) rfl (fun n hn => by first | (cases hn; done) | (obtain rfl := Option.some.inj hn; exact False.elim (by cases hn)))
  · obtain rfl := Option.some.inj h
    exact fact (.nilFunc) (by kernel_rfl) (by kernel_rfl) rfl rfl (by first | (intro _; rfl) | (intro h; cases h)) rfl (fun n hn => by first | (cases hn; done) | (obtain rfl := Option.some.inj hn; exact False.elim (by cases hn)))
  · obtain rfl := Option.some.inj h
    exact fact (.nilFunc) (by kernel_rfl) (by kernel_rfl) rfl rfl (by first | (intro _; rfl) | (intro h; cases h)) rfl (fun n hn => by first | (cases hn; done) | (obtain rfl := Option.some.inj hn; exact False.elim (by cases hn)))
  · obtain rfl := Option.some.inj h
    exact fact (.nilFunc) (by kernel_rfl) (by kernel_rfl) rfl rfl (by first | (intro _; rfl) | (intro h; cases h)) rfl (fun n hn => by first | (cases hn; done) | (obtain rfl := Option.some.inj hn; exact False.elim (by cases hn)))
  · obtain rfl := Option.some.inj h
    exact fact (.nilFunc) (by kernel_rfl) (by kernel_rfl) rfl rfl (by first | (intro _; rfl) | (intro h; cases h)) rfl (fun n hn => by first | (cases hn; done) | (obtain rfl := Option.some.inj hn; exact False.elim (by cases hn)))
  · obtain rfl := Option.some.inj h
    exact fact (.nilFunc) (by kernel_rfl) (by kernel_rfl) rfl rfl (by first | (intro _; rfl) | (intro h; cases h)) rfl (fun n hn => by first | (cases hn; done) | (obtain rfl := Option.some.inj hn; exact False.elim (by cases hn)))
  · obtain rfl := Option.some.inj h
    exact fact (.nilFunc) (by kernel_rfl) (by kernel_rfl) rfl rfl (by first | (intro _; rfl) | (intro h; cases h)) rfl (fun n hn => by first | (cases hn; done) | (obtain rfl := Option.some.inj hn; exact False.elim (by cases hn)))
  · obtain rfl := Option.some.inj h
    exact fact (.nilFunc) (by kernel_rfl) (by kernel_rfl) rfl rfl (by first | (intro _; rfl) | (intro h; cases h)) rfl (fun n hn => by first | (cases hn; done) | (obtain rfl := Option.some.inj hn; exact False.elim (by cases hn)))
  · obtain rfl := Option.some.inj h
    exact fact (.nilFunc) (by kernel_rfl) (by kernel_rfl) rfl rfl (by first | (intro _; rfl) | (intro h; cases h)) rfl (fun n hn => by first | (cases hn; done) | (obtain rfl := Option.some.inj hn; exact False.elim (by cases hn)))
  · obtain rfl := Option.some.inj h
    exact fact (.agg #[.int .i64 0, .int .i64 0]) (by kernel_rfl) (by kernel_rfl) rfl rfl (by first | (intro _; rfl) | (intro h; cases h)) rfl (fun n hn => by first | (cases hn; done) | (obtain rfl := Option.some.inj hn; exact False.elim (by cases hn)))
  · obtain rfl := Option.some.inj h
    exact fact (.agg #[.int .i64 0, .int .i64 0]) (by kernel_rfl) (by kernel_rfl) rfl rfl (by first | (intro _; rfl) | (intro h; cases h)) rfl (fun n hn => by first | (cases hn; done) | (obtain rfl := Option.some.inj hn; exact eq80))
  · obtain rfl := Option.some.inj h
    exact fact (.nilFunc) (by kernel_rfl) (by kernel_rfl) rfl rfl (by first | (intro _; rfl) | (intro h; cases h)) rfl (fun n hn => by first | (cases hn; done) | (obtain rfl := Option.some.inj hn; exact False.elim (by cases hn)))
  · obtain rfl := Option.some.inj h
    exact fact (.nilFunc) (by kernel_rfl) (by kernel_rfl) rfl rfl (by first | (intro _; rfl) | (intro h; cases h)) rfl (fun n hn => by first | (cases hn; done) | (obtain rfl := Option.some.inj hn; exact False.elim (by cases hn)))
  · obtain rfl := Option.some.inj h
    exact fact (.nilFunc) (by kernel_rfl) (by kernel_rfl) rfl rfl (by first | (intro _; rfl) | (intro h; cases h)) rfl (fun n hn => by first | (cases hn; done) | (obtain rfl := Option.some.inj hn; exact False.elim (by cases hn)))
  · obtain rfl := Option.some.inj h
    exact fact (.nilFunc) (by kernel_rfl) (by kernel_rfl) rfl rfl (by first | (intro _; rfl) | (intro h; cases h)) rfl (fun n hn => by first | (cases hn; done) | (obtain rfl := Option.some.inj hn; exact False.elim (by cases hn)))
  · obtain rfl := Option.some.inj h
    exact fact (.nilFunc) (by kernel_rfl) (by kernel_rfl) rfl rfl (by first | (intro _; rfl) | (intro h; cases h)) rfl (fun n hn => by first | (cases hn; done) | (obtain rfl := Option.some.inj hn; exact False.elim (by cases hn)))
  · obtain rfl := Option.some.inj h
    exact fact (.nilFunc) (by kernel_rfl) (by kernel_rfl) rfl rfl (by first | (intro _; rfl) | (intro h; cases h)) rfl (fun n hn => by first | (cases hn; done) | (obtain rfl := Option.some.inj hn; exact False.elim (by cases hn)))
  · obtain rfl := Option.some.inj h
    exact fact (.nilFunc) (by kernel_rfl) (by kernel_rfl) rfl rfl (by first | (intro _; rfl) | (intro h; cases h)) rfl (fun n hn => by first | (cases hn; done) | (obtain rfl := Option.some.inj hn; exact False.elim (by cases hn)))
  · obtain rfl := Option.some.inj h
    exact fact (.nilFunc) (by kernel_rfl) (by kernel_rfl) rfl rfl (by first | (intro _; rfl) | (intro h; cases h)) rfl (fun n hn => by first | (cases hn; done) | (obtain rfl := Option.some.inj hn; exact False.elim (by cases hn)))
  · obtain rfl := Option.some.inj h
    exact fact (.nilFunc) (by kernel_rfl) (by kernel_rfl) rfl rfl (by first | (intro _; rfl) | (intro h; cases h)) rfl (fun n hn => by first | (cases hn; done) | (obtain rfl := Option.some.inj hn; exact False.elim (by cases hn)))
  · obtain rfl := Option.some.inj h
    exact fact (.nilFunc) (by kernel_rfl) (by kernel_rfl) rfl rfl (by first | (intro _; rfl) | (intro h; cases h)) rfl (fun n hn => by first | (cases hn; done) | (obtain rfl := Option.some.inj hn; exact False.elim (by cases hn)))
  · obtain rfl := Option.some.inj h
    exact fact (.nilFunc) (by kernel_rfl) (by kernel_rfl) rfl rfl (by first | (intro _; rfl) | (intro h; cases h)) rfl (fun n hn => by first | (cases hn; done) | (obtain rfl := Option.some.inj hn; exact False.elim (by cases hn)))
  · obtain rfl := Option.some.inj h
    exact fact (.nilFunc) (by kernel_rfl) (by kernel_rfl) rfl rfl (by first | (intro _; rfl) | (intro h; cases h)) rfl (fun n hn => by first | (cases hn; done) | (obtain rfl := Option.some.inj hn; exact False.elim (by cases hn)))
  · obtain rfl := Option.some.inj h
    exact fact (.slice none 0 0) (by kernel_rfl) (by kernel_rfl) rfl rfl (by first | (intro _; rfl) | (intro h; cases h)) rfl (fun n hn => by first | (cases hn; done) | (obtain rfl := Option.some.inj hn; exact False.elim (by cases hn)))
  · obtain rfl := Option.some.inj h
    exact fact (.agg #[.int .i64 0, .slice none 0 0, .slice none 0 0]) (by kernel_rfl) (by kernel_rfl) rfl rfl (by first | (intro _; rfl) | (intro h; cases h)) rfl (fun n hn => by first | (cases hn; done) | (obtain rfl := Option.some.inj hn; exact False.elim (by cases hn)))
  · obtain rfl := Option.some.inj h
    exact fact (.agg #[.int .i64 0, .slice none 0 0, .slice none 0 0]) (by kernel_rfl) (by kernel_rfl) rfl rfl (by first | (intro _; rfl) | (intro h; cases h)) rfl (fun n hn => by first | (cases hn; done) | (obtain rfl := Option.some.inj hn; exact False.elim (by cases hn)))
  · obtain rfl := Option.some.inj h
    exact fact (.nilFunc) (by kernel_rfl) (by kernel_rfl) rfl rfl (by first | (intro _; rfl) | (intro h; cases h)) rfl (fun n hn => by first | (cases hn; done) | (obtain rfl := Option.some.inj hn; exact False.elim (by cases hn)))
  · obtain rfl := Option.some.inj h
    exact fact (.nilFunc) (by kernel_rfl) (by kernel_rfl) rfl rfl (by first | (intro _; rfl) | (intro h; cases h)) rfl (fun n hn => by first | (cases hn; done) | (obtain rfl := Option.some.inj hn; exact False.elim (by cases hn)))
  · obtain rfl := Option.some.inj h
    exact fact (.nilFunc) (by kernel_rfl) (by kernel_rfl) rfl rfl (by first | (intro _; rfl) | (intro h; cases h)) rfl (fun n hn => by first | (cases hn; done) | (obtain rfl := Option.some.inj hn; exact False.elim (by cases hn)))
  · obtain rfl := Option.some.inj h
    exact fact (.nilFunc) (by kernel_rfl) (by kernel_rfl) rfl rfl (by first | (intro _; rfl) | (intro h; cases h)) rfl (fun n hn => by first | (cases hn; done) | (obtain rfl := Option.some.inj hn; exact False.elim (by cases hn)))
  · obtain rfl := Option.some.inj h
    exact fact (.nilFunc) (by kernel_rfl) (by kernel_rfl) rfl rfl (by first | (intro _; rfl) | (intro h; cases h)) rfl (fun n hn => by first | (cases hn; done) | (obtain rfl := Option.some.inj hn; exact False.elim (by cases hn)))
  · obtain rfl := Option.some.inj h
    exact fact (.nilFunc) (by kernel_rfl) (by kernel_rfl) rfl rfl (by first | (intro _; rfl) | (intro h; cases h)) rfl (fun n hn => by first | (cases hn; done) | (obtain rfl := Option.some.inj hn; exact False.elim (by cases hn)))
  · obtain rfl := Option.some.inj h
    exact fact (.nilFunc) (by kernel_rfl) (by kernel_rfl) rfl rfl (by first | (intro _; rfl) | (intro h; cases h)) rfl (fun n hn => by first | (cases hn; done) | (obtain rfl := Option.some.inj hn; exact False.elim (by cases hn)))
  · obtain rfl := Option.some.inj h
    exact fact (.agg #[.int .i64 0, .int .i64 0, .int .i64 0, .int .i64 0, .int .i64 0]) (by kernel_rfl) (by kernel_rfl) rfl rfl (by first | (intro _; rfl) | (intro h; cases h)) rfl (fun n hn => by first | (cases hn; done) | (obtain rfl := Option.some.inj hn; exact False.elim (by cases hn)))
  · obtain rfl := Option.some.inj h
    exact fact (.nilFunc) (by kernel_rfl) (by kernel_rfl) rfl rfl (by first | (intro _; rfl) | (intro h; cases h)) rfl (fun n hn => by first | (cases hn; done) | (obtain rfl := Option.some.inj hn; exact False.elim (by cases hn)))
  · obtain rfl := Option.some.inj h
    exact fact (.agg #[.int .i64 0, .int .i64 0]) (by kernel_rfl) (by kernel_rfl) rfl rfl (by first | (intro _; rfl) | (intro h; cases h)) rfl (fun n hn => by first | (cases hn; done) | (obtain rfl := Option.some.inj hn; exact False.elim (by cases hn)))
  · obtain rfl := Option.some.inj h
    exact fact (.agg #[.int .i64 0, .int .i64 0]) (by kernel_rfl) (by kernel_rfl) rfl rfl (by first | (intro _; rfl) | (intro h; cases h)) rfl (fun n hn => by first | (cases hn; done) | (obtain rfl := Option.some.inj hn; exact eq109))
  · obtain rfl := Option.some.inj h
    exact fact (.nilFunc) (by kernel_rfl) (by kernel_rfl) rfl rfl (by first | (intro _; rfl) | (intro h; cases h)) rfl (fun n hn => by first | (cases hn; done) | (obtain rfl := Option.some.inj hn; exact False.elim (by cases hn)))
  · obtain rfl := Option.some.inj h
    exact fact (.nilFunc) (by kernel_rfl) (by kernel_rfl) rfl rfl (by first | (intro _; rfl) | (intro h; cases h)) rfl (fun n hn => by first | (cases hn; done) | (obtain rfl := Option.some.inj hn; exact False.elim (by cases hn)))
  · obtain rfl := Option.some.inj h
    exact fact (.agg #[.int .i64 0, .slice none 0 0, .int .i64 0, .slice none 0 0]) (by kernel_rfl) (by kernel_rfl) rfl rfl (by first | (intro _; rfl) | (intro h; cases h)) rfl (fun n hn => by first | (cases hn; done) | (obtain rfl := Option.some.inj hn; exact False.elim (by cases hn)))
  · obtain rfl := Option.some.inj h
    exact fact (.agg #[.int .i64 0, .slice none 0 0, .int .i64 0, .slice none 0 0]) (by kernel_rfl) (by kernel_rfl) rfl rfl (by first | (intro _; rfl) | (intro h; cases h)) rfl (fun n hn => by first | (cases hn; done) | (obtain rfl := Option.some.inj hn; exact False.elim (by cases hn)))
  · obtain rfl := Option.some.inj h
    exact fact (.agg #[.int .i64 0, .int .i64 0]) (by kernel_rfl) (by kernel_rfl) rfl rfl (by first | (intro _; rfl) | (intro h; cases h)) rfl (fun n hn => by first | (cases hn; done) | (obtain rfl := Option.some.inj hn; exact False.elim (by cases hn)))
  · obtain rfl := Option.some.inj h
    exact fact (.agg #[.int .i64 0, .int .i64 0]) (by kernel_rfl) (by kernel_rfl) rfl rfl (by first | (intro _; rfl) | (intro h; cases h)) rfl (fun n hn => by first | (cases hn; done) | (obtain rfl := Option.some.inj hn; exact False.elim (by cases hn)))
  · obtain rfl := Option.some.inj h
    exact fact (.agg #[.int .i64 0, .slice none 0 0]) (by kernel_rfl) (by kernel_rfl) rfl rfl (by first | (intro _; rfl) | (intro h; cases h)) rfl (fun n hn => by first | (cases hn; done) | (obtain rfl := Option.some.inj hn; exact False.elim (by cases hn)))
  · obtain rfl := Option.some.inj h
    exact fact (.agg #[.int .i64 0, .slice none 0 0]) (by kernel_rfl) (by kernel_rfl) rfl rfl (by first | (intro _; rfl) | (intro h; cases h)) rfl (fun n hn => by first | (cases hn; done) | (obtain rfl := Option.some.inj hn; exact False.elim (by cases hn)))
  · obtain rfl := Option.some.inj h
    exact fact (.agg #[.int .i64 0, .int .i64 0, .int .i64 0, .int .i64 0, .int .i64 0, .slice none 0 0]) (by kernel_rfl) (by kernel_rfl) rfl rfl (by first | (intro _; rfl) | (intro h; cases h)) rfl (fun n hn => by first | (cases hn; done) | (obtain rfl := Option.some.inj hn; exact False.elim (by cases hn)))
  · obtain rfl := Option.some.inj h
    exact fact (.agg #[.int .i64 0, .int .i64 0, .int .i64 0, .int .i64 0, .int .i64 0, .slice none 0 0]) (by kernel_rfl) (by kernel_rfl) rfl rfl (by first | (intro _; rfl) | (intro h; cases h)) rfl (fun n hn => by first | (cases hn; done) | (obtain rfl := Option.some.inj hn; exact False.elim (by cases hn)))
  · obtain rfl := Option.some.inj h
    exact fact (.nilFunc) (by kernel_rfl) (by kernel_rfl) rfl rfl (by first | (intro _; rfl) | (intro h; cases h)) rfl (fun n hn => by first | (cases hn; done) | (obtain rfl := Option.some.inj hn; exact False.elim (by cases hn)))
  · obtain rfl := Option.some.inj h
    exact fact (.nilFunc) (by kernel_rfl) (by kernel_rfl) rfl rfl (by first | (intro _; rfl) | (intro h; cases h)) rfl (fun n hn => by first | (cases hn; done) | (obtain rfl := Option.some.inj hn; exact False.elim (by cases hn)))
  · obtain rfl := Option.some.inj h
    exact fact (.nilFunc) (by kernel_rfl) (by kernel_rfl) rfl rfl (by first | (intro _; rfl) | (intro h; cases h)) rfl (fun n hn => by first | (cases hn; done) | (obtain rfl := Option.some.inj hn; exact False.elim (by cases hn)))
  · obtain rfl := Option.some.inj h
    exact fact (.nilFunc) (by kernel_rfl) (by kernel_rfl) rfl rfl (by first | (intro _; rfl) | (intro h; cases h)) rfl (fun n hn => by first | (cases hn; done) | (obtain rfl := Option.some.inj hn; exact False.elim (by cases hn)))
  · obtain rfl := Option.some.inj h
    exact fact (.nilFunc) (by kernel_rfl) (by kernel_rfl) rfl rfl (by first | (intro _; rfl) | (intro h; cases h)) rfl (fun n hn => by first | (cases hn; done) | (obtain rfl := Option.some.inj hn; exact False.elim (by cases hn)))
  · obtain rfl := Option.some.inj h
    exact fact (.nilFunc) (by kernel_rfl) (by kernel_rfl) rfl rfl (by first | (intro _; rfl) | (intro h; cases h)) rfl (fun n hn => by first | (cases hn; done) | (obtain rfl := Option.some.inj hn; exact False.elim (by cases hn)))
  · obtain rfl := Option.some.inj h
    exact fact (.nilFunc) (by kernel_rfl) (by kernel_rfl) rfl rfl (by first | (intro _; rfl) | (intro h; cases h)) rfl (fun n hn => by first | (cases hn; done) | (obtain rfl := Option.some.inj hn; exact False.elim (by cases hn)))
  · obtain rfl := Option.some.inj h
    exact fact (.nilFunc) (by kernel_rfl) (by kernel_rfl) rfl rfl (by first | (intro _; rfl) | (intro h; cases h)) rfl (fun n hn => by first | (cases hn; done) | (obtain rfl := Option.some.inj hn; exact False.elim (by cases hn)))
  · obtain rfl := Option.some.inj h
    exact fact (.nilFunc) (by kernel_rfl) (by kernel_rfl) rfl rfl (by first | (intro _; rfl) | (intro h; cases h)) rfl (fun n hn => by first | (cases hn; done) | (obtain rfl := Option.some.inj hn; exact False.elim (by cases hn)))
  · obtain rfl := Option.some.inj h
    exact fact (.nilFunc) (by kernel_rfl) (by kernel_rfl) rfl rfl (by first | (intro _; rfl) | (intro h; cases h)) rfl (fun n hn => by first | (cases hn; done) | (obtain rfl := Option.some.inj hn; exact False.elim (by cases hn)))
  · obtain rfl := Option.some.inj h
    exact fact (.nilFunc) (by kernel_rfl) (by kernel_rfl) rfl rfl (by first | (intro _; rfl) | (intro h; cases h)) rfl (fun n hn => by first | (cases hn; done) | (obtain rfl := Option.some.inj hn; exact False.elim (by cases hn)))
  · obtain rfl := Option.some.inj h
    exact fact (.nilFunc) (by kernel_rfl) (by kernel_rfl) rfl rfl (by first | (intro _; rfl) | (intro h; cases h)) rfl (fun n hn => by first | (cases hn; done) | (obtain rfl := Option.some.inj hn; exact False.elim (by cases hn)))
  · obtain rfl := Option.some.inj h
    exact fact (.nilFunc) (by kernel_rfl) (by kernel_rfl) rfl rfl (by first | (intro _; rfl) | (intro h; cases h)) rfl (fun n hn => by first | (cases hn; done) | (obtain rfl := Option.some.inj hn; exact False.elim (by cases hn)))
  · obtain rfl := Option.some.inj h
    exact fact (.nilFunc) (by kernel_rfl) (by kernel_rfl) rfl rfl (by first | (intro _; rfl) | (intro h; cases h)) rfl (fun n hn => by first | (cases hn; done) | (obtain rfl := Option.some.inj hn; exact False.elim (by cases hn)))
  · obtain rfl := Option.some.inj h
    exact fact (.nilFunc) (by kernel_rfl) (by kernel_rfl) rfl rfl (by first | (intro _; rfl) | (intro h; cases h)) rfl (fun n hn => by first | (cases hn; done) | (obtain rfl := Option.some.inj hn; exact False.elim (by cases hn)))
  · obtain rfl := Option.some.inj h
    exact fact (.nilFunc) (by kernel_rfl) (by kernel_rfl) rfl rfl (by first | (intro _; rfl) | (intro h; cases h)) rfl (fun n hn => by first | (cases hn; done) | (obtain rfl := Option.some.inj hn; exact False.elim (by cases hn)))
  · obtain rfl := Option.some.inj h
    exact fact (.agg #[.slice none 0 0, .slice none 0 0]) (by kernel_rfl) (by kernel_rfl) rfl rfl (by first | (intro _; rfl) | (intro h; cases h)) rfl (fun n hn => by first | (cases hn; done) | (obtain rfl := Option.some.inj hn; exact False.elim (by cases hn)))
  · obtain rfl := Option.some.inj h
    exact fact (.agg #[.slice none 0 0, .slice none 0 0]) (by kernel_rfl) (by kernel_rfl) rfl rfl (by first | (intro _; rfl) | (intro h; cases h)) rfl (fun n hn => by first | (cases hn; done) | (obtain rfl := Option.some.inj hn; exact False.elim (by cases hn)))
  · obtain rfl := Option.some.inj h
    exact fact (.nilFunc) (by kernel_rfl) (by kernel_rfl) rfl rfl (by first | (intro _; rfl) | (intro h; cases h)) rfl (fun n hn => by first | (cases hn; done) | (obtain rfl := Option.some.inj hn; exact False.elim (by cases hn)))
  · obtain rfl := Option.some.inj h
    exact fact (.nilFunc) (by kernel_rfl) (by kernel_rfl) rfl rfl (by first | (intro _; rfl) | (intro h; cases h)) rfl (fun n hn => by first | (cases hn; done) | (obtain rfl := Option.some.inj hn; exact False.elim (by cases hn)))
  · obtain rfl := Option.some.inj h
    exact fact (.nilFunc) (by kernel_rfl) (by kernel_rfl) rfl rfl (by first | (intro _; rfl) | (intro h; cases h)) rfl (fun n hn => by first | (cases hn; done) | (obtain rfl := Option.some.inj hn; exact False.elim (by cases hn)))
  · obtain rfl := Option.some.inj h
    exact fact (.nilFunc) (by kernel_rfl) (by kernel_rfl) rfl rfl (by first | (intro _; rfl) | (intro h; cases h)) rfl (fun n hn => by first | (cases hn; done) | (obtain rfl := Option.some.inj hn; exact False.elim (by cases hn)))
  · obtain rfl := Option.some.inj h
    exact fact (.nilFunc) (by kernel_rfl) (by kernel_rfl) rfl rfl (by first | (intro _; rfl) | (intro h; cases h)) rfl (fun n hn => by first | (cases hn; done) | (obtain rfl := Option.some.inj hn; exact False.elim (by cases hn)))
  · obtain rfl := Option.some.inj h
    exact fact (.nilFunc) (by kernel_rfl) (by kernel_rfl) rfl rfl (by first | (intro _; rfl) | (intro h; cases h)) rfl (fun n hn => by first | (cases hn; done) | (obtain rfl := Option.some.inj hn; exact False.elim (by cases hn)))
  · obtain rfl := Option.some.inj h
    exact fact (.nilFunc) (by kernel_rfl) (by kernel_rfl) rfl rfl (by first | (intro _; rfl) | (intro h; cases h)) rfl (fun n hn => by first | (cases hn; done) | (obtain rfl := Option.some.inj hn; exact False.elim (by cases hn)))
  · obtain rfl := Option.some.inj h
    exact fact (.nilFunc) (by kernel_rfl) (by kernel_rfl) rfl rfl (by first | (intro _; rfl) | (intro h; cases h)) rfl (fun n hn => by first | (cases hn; done) | (obtain rfl := Option.some.inj hn; exact False.elim (by cases hn)))
  · obtain rfl := Option.some.inj h
    exact fact (.nilFunc) (by kernel_rfl) (by kernel_rfl) rfl rfl (by first | (intro _; rfl) | (intro h; cases h)) rfl (fun n hn => by first | (cases hn; done) | (obtain rfl := Option.some.inj hn; exact False.elim (by cases hn)))
  · obtain rfl := Option.some.inj h
    exact fact (.nilFunc) (by kernel_rfl) (by kernel_rfl) rfl rfl (by first | (intro _; rfl) | (intro h; cases h)) rfl (fun n hn => by first | (cases hn; done) | (obtain rfl := Option.some.inj hn; exact False.elim (by cases hn)))
  · obtain rfl := Option.some.inj h
    exact fact (.nilFunc) (by kernel_rfl) (by kernel_rfl) rfl rfl (by first | (intro _; rfl) | (intro h; cases h)) rfl (fun n hn => by first | (cases hn; done) | (obtain rfl := Option.some.inj hn; exact False.elim (by cases hn)))
  · obtain rfl := Option.some.inj h
    exact fact (.nilFunc) (by kernel_rfl) (by kernel_rfl) rfl rfl (by first | (intro _; rfl) | (intro h; cases h)) rfl (fun n hn => by first | (cases hn; done) | (obtain rfl := Option.some.inj hn; exact False.elim (by cases hn)))
  · obtain rfl := Option.some.inj h
    exact fact (.nilFunc) (by kernel_rfl) (by kernel_rfl) rfl rfl (by first | (intro _; rfl) | (intro h; cases h)) rfl (fun n hn => by first | (cases hn; done) | (obtain rfl := Option.some.inj hn; exact False.elim (by cases hn)))
  · obtain rfl := Option.some.inj h
    exact fact (.nilFunc) (by kernel_rfl) (by kernel_rfl) rfl rfl (by first | (intro _; rfl) | (intro h; cases h)) rfl (fun n hn => by first | (cases hn; done) | (obtain rfl := Option.some.inj hn; exact False.elim (by cases hn)))
  · obtain rfl := Option.some.inj h
    exact fact (.nilFunc) (by kernel_rfl) (by kernel_rfl) rfl rfl (by first | (intro _; rfl) | (intro h; cases h)) rfl (fun n hn => by first | (cases hn; done) | (obtain rfl := Option.some.inj hn; exact False.elim (by cases hn)))
  · obtain rfl := Option.some.inj h
    exact fact (.nilFunc) (by kernel_rfl) (by kernel_rfl) rfl rfl (by first | (intro _; rfl) | (intro h; cases h)) rfl (fun n hn => by first | (cases hn; done) | (obtain rfl := Option.some.inj hn; exact False.elim (by cases hn)))
  · obtain rfl := Option.some.inj h
    exact fact (.nilFunc) (by kernel_rfl) (by kernel_rfl) rfl rfl (by first | (intro _; rfl) | (intro h; cases h)) rfl (fun n hn => by first | (cases hn; done) | (obtain rfl := Option.some.inj hn; exact False.elim (by cases hn)))
  · obtain rfl := Option.some.inj h
    exact fact (.nilFunc) (by kernel_rfl) (by kernel_rfl) rfl rfl (by first | (intro _; rfl) | (intro h; cases h)) rfl (fun n hn => by first | (cases hn; done) | (obtain rfl := Option.some.inj hn; exact False.elim (by cases hn)))
  · obtain rfl := Option.some.inj h
    exact fact (.nilFunc) (by kernel_rfl) (by kernel_rfl) rfl rfl (by first | (intro _; rfl) | (intro h; cases h)) rfl (fun n hn => by first | (cases hn; done) | (obtain rfl := Option.some.inj hn; exact False.elim (by cases hn)))
  · obtain rfl := Option.some.inj h
    exact fact (.nilFunc) (by kernel_rfl) (by kernel_rfl) rfl rfl (by first | (intro _; rfl) | (intro h; cases h)) rfl (fun n hn => by first | (cases hn; done) | (obtain rfl := Option.some.inj hn; exact False.elim (by cases hn)))
  · obtain rfl := Option.some.inj h
    exact fact (.nilFunc) (by kernel_rfl) (by kernel_rfl) rfl rfl (by first | (intro _; rfl) | (intro h; cases h)) rfl (fun n hn => by first | (cases hn; done) | (obtain rfl := Option.some.inj hn; exact False.elim (by cases hn)))
  · obtain rfl := Option.some.inj h
    exact fact (.nilFunc) (by kernel_rfl) (by kernel_rfl) rfl rfl (by first | (intro _; rfl) | (intro h; cases h)) rfl (fun n hn => by first | (cases hn; done) | (obtain rfl := Option.some.inj hn; exact False.elim (by cases hn)))
  · obtain rfl := Option.some.inj h
    exact fact (.nilFunc) (by kernel_rfl) (by kernel_rfl) rfl rfl (by first | (intro _; rfl) | (intro h; cases h)) rfl (fun n hn => by first | (cases hn; done) | (obtain rfl := Option.some.inj hn; exact False.elim (by cases hn)))
  · obtain rfl := Option.some.inj h
    exact fact (.slice none 0 0) (by kernel_rfl) (by kernel_rfl) rfl rfl (by first | (intro _; rfl) | (intro h; cases h)) rfl (fun n hn => by first | (cases hn; done) | (obtain rfl := Option.some.inj hn; exact False.elim (by cases hn)))
  · obtain rfl := Option.some.inj h
    exact fact (.nilFunc) (by kernel_rfl) (by kernel_rfl) rfl rfl (by first | (intro _; rfl) | (intro h; cases h)) rfl (fun n hn => by first | (cases hn; done) | (obtain rfl := Option.some.inj hn; exact False.elim (by cases hn)))
  · obtain rfl := Option.some.inj h
    exact fact (.agg #[.slice none 0 0, .slice none 0 0, .slice none 0 0, .slice none 0 0]) (by kernel_rfl) (by kernel_rfl) rfl rfl (by first | (intro _; rfl) | (intro h; cases h)) rfl (fun n hn => by first | (cases hn; done) | (obtain rfl := Option.some.inj hn; exact False.elim (by cases hn)))
  · obtain rfl := Option.some.inj h
    exact fact (.agg #[.slice none 0 0, .slice none 0 0, .slice none 0 0, .slice none 0 0]) (by kernel_rfl) (by kernel_rfl) rfl rfl (by first | (intro _; rfl) | (intro h; cases h)) rfl (fun n hn => by first | (cases hn; done) | (obtain rfl := Option.some.inj hn; exact False.elim (by cases hn)))
  · obtain rfl := Option.some.inj h
    exact fact (.nilFunc) (by kernel_rfl) (by kernel_rfl) rfl rfl (by first | (intro _; rfl) | (intro h; cases h)) rfl (fun n hn => by first | (cases hn; done) | (obtain rfl := Option.some.inj hn; exact False.elim (by cases hn)))
  · obtain rfl := Option.some.inj h
    exact fact (.nilFunc) (by kernel_rfl) (by kernel_rfl) rfl rfl (by first | (intro _; rfl) | (intro h; cases h)) rfl (fun n hn => by first | (cases hn; done) | (obtain rfl := Option.some.inj hn; exact False.elim (by cases hn)))
  · obtain rfl := Option.some.inj h
    exact fact (.nilFunc) (by kernel_rfl) (by kernel_rfl) rfl rfl (by first | (intro _; rfl) | (intro h; cases h)) rfl (fun n hn => by first | (cases hn; done) | (obtain rfl := Option.some.inj hn; exact False.elim (by cases hn)))
  · obtain rfl := Option.some.inj h
    exact fact (.nilFunc) (by kernel_rfl) (by kernel_rfl) rfl rfl (by first | (intro _; rfl) | (intro h; cases h)) rfl (fun n hn => by first | (cases hn; done) | (obtain rfl := Option.some.inj hn; exact False.elim (by cases hn)))
  · obtain rfl := Option.some.inj h
    exact fact (.nilFunc) (by kernel_rfl) (by kernel_rfl) rfl rfl (by first | (intro _; rfl) | (intro h; cases h)) rfl (fun n hn => by first | (cases hn; done) | (obtain rfl := Option.some.inj hn; exact False.elim (by cases hn)))
  · obtain rfl := Option.some.inj h
    exact fact (.nilFunc) (by kernel_rfl) (by kernel_rfl) rfl rfl (by first | (intro _; rfl) | (intro h; cases h)) rfl (fun n hn => by first | (cases hn; done) | (obtain rfl := Option.some.inj hn; exact False.elim (by cases hn)))
  · obtain rfl := Option.some.inj h
    exact fact (.nilFunc) (by kernel_rfl) (by kernel_rfl) rfl rfl (by first | (intro _; rfl) | (intro h; cases h)) rfl (fun n hn => by first | (cases hn; done) | (obtain rfl := Option.some.inj hn; exact False.elim (by cases hn)))
  · obtain rfl := Option.some.inj h
    exact fact (.slice none 0 0) (by kernel_rfl) (by kernel_rfl) rfl rfl (by first | (intro _; rfl) | (intro h; cases h)) rfl (fun n hn => by first | (cases hn; done) | (obtain rfl := Option.some.inj hn; exact False.elim (by cases hn)))
  · obtain rfl := Option.some.inj h
    exact fact (.nilFunc) (by kernel_rfl) (by kernel_rfl) rfl rfl (by first | (intro _; rfl) | (intro h; cases h)) rfl (fun n hn => by first | (cases hn; done) | (obtain rfl := Option.some.inj hn; exact False.elim (by cases hn)))
  · obtain rfl := Option.some.inj h
    exact fact (.nilFunc) (by kernel_rfl) (by kernel_rfl) rfl rfl (by first | (intro _; rfl) | (intro h; cases h)) rfl (fun n hn => by first | (cases hn; done) | (obtain rfl := Option.some.inj hn; exact False.elim (by cases hn)))
  · obtain rfl := Option.some.inj h
    exact fact (.nilFunc) (by kernel_rfl) (by kernel_rfl) rfl rfl (by first | (intro _; rfl) | (intro h; cases h)) rfl (fun n hn => by first | (cases hn; done) | (obtain rfl := Option.some.inj hn; exact False.elim (by cases hn)))
  · obtain rfl := Option.some.inj h
    exact fact (.nilFunc) (by kernel_rfl) (by kernel_rfl) rfl rfl (by first | (intro _; rfl) | (intro h; cases h)) rfl (fun n hn => by first | (cases hn; done) | (obtain rfl := Option.some.inj hn; exact False.elim (by cases hn)))
  · obtain rfl := Option.some.inj h
    exact fact (.nilFunc) (by kernel_rfl) (by kernel_rfl) rfl rfl (by first | (intro _; rfl) | (intro h; cases h)) rfl (fun n hn => by first | (cases hn; done) | (obtain rfl := Option.some.inj hn; exact False.elim (by cases hn)))
  · obtain rfl := Option.some.inj h
    exact fact (.nilFunc) (by kernel_rfl) (by kernel_rfl) rfl rfl (by first | (intro _; rfl) | (intro h; cases h)) rfl (fun n hn => by first | (cases hn; done) | (obtain rfl := Option.some.inj hn; exact False.elim (by cases hn)))
  · obtain rfl := Option.some.inj h
    exact fact (.agg #[]) (by kernel_rfl) (by kernel_rfl) rfl rfl (by first | (intro _; rfl) | (intro h; cases h)) rfl (fun n hn => by first | (cases hn; done) | (obtain rfl := Option.some.inj hn; exact False.elim (by cases hn)))
  · obtain rfl := Option.some.inj h
    exact fact (.nilFunc) (by kernel_rfl) (by kernel_rfl) rfl rfl (by first | (intro _; rfl) | (intro h; cases h)) rfl (fun n hn => by first | (cases hn; done) | (obtain rfl := Option.some.inj hn; exact False.elim (by cases hn)))
  · obtain rfl := Option.some.inj h
    exact fact (.int .u32 0) (by kernel_rfl) (by kernel_rfl) rfl rfl (by first | (intro _; rfl) | (intro h; cases h)) rfl (fun n hn => by first | (cases hn; done) | (obtain rfl := Option.some.inj hn; exact False.elim (by cases hn)))
  · obtain rfl := Option.some.inj h
    exact fact (.nilFunc) (by kernel_rfl) (by kernel_rfl) rfl rfl (by first | (intro _; rfl) | (intro h; cases h)) rfl (fun n hn => by first | (cases hn; done) | (obtain rfl := Option.some.inj hn; exact False.elim (by cases hn)))
  · obtain rfl := Option.some.inj h
    exact fact (.agg #[.int .u64 0, .int .u64 0, .int .u32 0, .int .u8 0, .int .u8 0, .int .u8 0, .int .u8 0, .nilFunc, .pointer none, .int .i32 0, .int .i32 0]) (by kernel_rfl) (by kernel_rfl) rfl rfl (by first | (intro _; rfl) | (intro h; cases h)) rfl (fun n hn => by first | (cases hn; done) | (obtain rfl := Option.some.inj hn; exact False.elim (by cases hn)))
  · cases h

end Go.Proofs.Ytagnplbfdaifkaa
