/-
  The types of the translation, as the abstract machine uses them: a table, and that it agrees with the program's. Written by a program of ours (gen_ty.py).
-/
import Derived.Test.YtcbiiijnaeibhaaProg
import Derived.Test.YtcbiiijnaeibhaaAbsC
import Derived.KernelRfl
set_option linter.unusedSimpArgs false
set_option linter.unusedVariables false
namespace Go.Proofs.Ytcbiiijnaeibhaa
open Go.Abs

def ti2 : TI := { size := 1, bytes := 8, agg := false, zero := [.int .i64 0], desc := .int .i64 }
def ti3 : TI := { size := 1, bytes := 8, agg := false, zero := [.int .i64 0], desc := .int .i64 }
def ti4 : TI := { size := 1, bytes := 1, agg := false, zero := [.bool false], desc := .bool }
def ti5 : TI := { size := 1, bytes := 1, agg := false, zero := [.int .u8 0], desc := .int .u8 }
def ti9 : TI := { size := 1, bytes := 16, agg := false, zero := [.string .empty], desc := .string }
def ti12 : TI := { size := 1, bytes := 8, agg := false, zero := [.int .u64 0], desc := .int .u64 }
def ti21 : TI := { size := 1, bytes := 4, agg := false, zero := [.int .i32 0], desc := .int .i32 }
def ti22 : TI := { size := 1, bytes := 24, agg := false, zero := [.slice none 0 0], desc := .slice 107 }
def ti23 : TI := { size := 1, bytes := 24, agg := false, zero := [.slice none 0 0], desc := .slice 145 }
def ti24 : TI := { size := 4, bytes := 64, agg := true, zero := [.int .i64 0, .int .i64 0, .slice none 0 0, .slice none 0 0], desc := .struct #[⟨"Cells", 3, 0, false, "", "", 0⟩, ⟨"Exchange", 3, 1, false, "", "", 8⟩, ⟨"Table", 22, 2, false, "", "", 16⟩, ⟨"Laws", 23, 3, false, "", "", 40⟩] }
def ti25 : TI := { size := 4, bytes := 64, agg := true, zero := [.int .i64 0, .int .i64 0, .slice none 0 0, .slice none 0 0], desc := .struct #[⟨"Cells", 3, 0, false, "", "", 0⟩, ⟨"Exchange", 3, 1, false, "", "", 8⟩, ⟨"Table", 22, 2, false, "", "", 16⟩, ⟨"Laws", 23, 3, false, "", "", 40⟩] }
def ti26 : TI := { size := 1, bytes := 24, agg := false, zero := [.slice none 0 0], desc := .slice 3 }
def ti27 : TI := { size := 2, bytes := 32, agg := true, zero := [.slice none 0 0, .int .i64 0], desc := .struct #[⟨"Powers", 26, 0, false, "", "", 0⟩, ⟨"Law", 3, 1, false, "", "", 24⟩] }
def ti28 : TI := { size := 2, bytes := 32, agg := true, zero := [.slice none 0 0, .int .i64 0], desc := .struct #[⟨"Powers", 26, 0, false, "", "", 0⟩, ⟨"Law", 3, 1, false, "", "", 24⟩] }
def ti29 : TI := { size := 5, bytes := 56, agg := true, zero := [.slice none 0 0, .int .i64 0, .int .i64 0, .int .i64 0, .int .i64 0], desc := .struct #[⟨"Drive", 28, 0, false, "", "", 0⟩, ⟨"Kelvin", 3, 2, false, "", "", 32⟩, ⟨"Depth", 3, 3, false, "", "", 40⟩, ⟨"Most", 3, 4, false, "", "", 48⟩] }
def ti30 : TI := { size := 5, bytes := 56, agg := true, zero := [.slice none 0 0, .int .i64 0, .int .i64 0, .int .i64 0, .int .i64 0], desc := .struct #[⟨"Drive", 28, 0, false, "", "", 0⟩, ⟨"Kelvin", 3, 2, false, "", "", 32⟩, ⟨"Depth", 3, 3, false, "", "", 40⟩, ⟨"Most", 3, 4, false, "", "", 48⟩] }
def ti34 : TI := { size := 1, bytes := 8, agg := false, zero := [.int .i64 0], desc := .int .i64 }
def ti50 : TI := { size := 3, bytes := 24, agg := true, zero := [.int .i64 0, .int .i64 0, .int .i64 0], desc := .struct #[⟨"Start", 3, 0, false, "", "", 0⟩, ⟨"Gain", 3, 1, false, "", "", 8⟩, ⟨"Boiling", 3, 2, false, "", "", 16⟩] }
def ti51 : TI := { size := 3, bytes := 24, agg := true, zero := [.int .i64 0, .int .i64 0, .int .i64 0], desc := .struct #[⟨"Start", 3, 0, false, "", "", 0⟩, ⟨"Gain", 3, 1, false, "", "", 8⟩, ⟨"Boiling", 3, 2, false, "", "", 16⟩] }
def ti52 : TI := { size := 1, bytes := 24, agg := false, zero := [.slice none 0 0], desc := .slice 57 }
def ti56 : TI := { size := 2, bytes := 16, agg := true, zero := [.int .i64 0, .int .i64 0], desc := .struct #[⟨"Lo", 3, 0, false, "", "", 0⟩, ⟨"Hi", 3, 1, false, "", "", 8⟩] }
def ti57 : TI := { size := 2, bytes := 16, agg := true, zero := [.int .i64 0, .int .i64 0], desc := .struct #[⟨"Lo", 3, 0, false, "", "", 0⟩, ⟨"Hi", 3, 1, false, "", "", 8⟩], eqn := some 2 }
def ti69 : TI := { size := 2, bytes := 48, agg := true, zero := [.slice none 0 0, .slice none 0 0], desc := .struct #[⟨"Lo", 26, 0, false, "", "", 0⟩, ⟨"Hi", 26, 1, false, "", "", 24⟩] }
def ti70 : TI := { size := 2, bytes := 48, agg := true, zero := [.slice none 0 0, .slice none 0 0], desc := .struct #[⟨"Lo", 26, 0, false, "", "", 0⟩, ⟨"Hi", 26, 1, false, "", "", 24⟩] }
def ti71 : TI := { size := 1, bytes := 24, agg := false, zero := [.slice none 0 0], desc := .slice 74 }
def ti73 : TI := { size := 3, bytes := 40, agg := true, zero := [.slice none 0 0, .int .i64 0, .int .i64 0], desc := .struct #[⟨"Powers", 52, 0, false, "", "", 0⟩, ⟨"Laws", 57, 1, false, "", "", 24⟩] }
def ti74 : TI := { size := 3, bytes := 40, agg := true, zero := [.slice none 0 0, .int .i64 0, .int .i64 0], desc := .struct #[⟨"Powers", 52, 0, false, "", "", 0⟩, ⟨"Laws", 57, 1, false, "", "", 24⟩] }
def ti80 : TI := { size := 1, bytes := 24, agg := false, zero := [.slice none 0 0], desc := .slice 70 }
def ti95 : TI := { size := 3, bytes := 24, agg := true, zero := [.int .i64 0, .int .i64 0, .int .i64 0], desc := .array 3 3 }
def ti96 : TI := { size := 2, bytes := 16, agg := true, zero := [.int .i64 0, .int .i64 0], desc := .struct #[⟨"Num", 3, 0, false, "", "", 0⟩, ⟨"Den", 3, 1, false, "", "", 8⟩] }
def ti97 : TI := { size := 2, bytes := 16, agg := true, zero := [.int .i64 0, .int .i64 0], desc := .struct #[⟨"Num", 3, 0, false, "", "", 0⟩, ⟨"Den", 3, 1, false, "", "", 8⟩], eqn := some 2 }
def ti106 : TI := { size := 2, bytes := 16, agg := true, zero := [.int .i64 0, .int .i64 0], desc := .struct #[⟨"Energy", 3, 0, false, "", "", 0⟩, ⟨"Kelvin", 3, 1, false, "", "", 8⟩] }
def ti107 : TI := { size := 2, bytes := 16, agg := true, zero := [.int .i64 0, .int .i64 0], desc := .struct #[⟨"Energy", 3, 0, false, "", "", 0⟩, ⟨"Kelvin", 3, 1, false, "", "", 8⟩] }
def ti112 : TI := { size := 1, bytes := 24, agg := false, zero := [.slice none 0 0], desc := .slice 28 }
def ti116 : TI := { size := 1, bytes := 24, agg := false, zero := [.slice none 0 0], desc := .slice 26 }
def ti120 : TI := { size := 4, bytes := 32, agg := true, zero := [.int .i64 0, .int .i64 0, .int .i64 0, .int .i64 0], desc := .struct #[⟨"Before", 3, 0, false, "", "", 0⟩, ⟨"In", 3, 1, false, "", "", 8⟩, ⟨"Lost", 3, 2, false, "", "", 16⟩, ⟨"After", 3, 3, false, "", "", 24⟩] }
def ti121 : TI := { size := 4, bytes := 32, agg := true, zero := [.int .i64 0, .int .i64 0, .int .i64 0, .int .i64 0], desc := .struct #[⟨"Before", 3, 0, false, "", "", 0⟩, ⟨"In", 3, 1, false, "", "", 8⟩, ⟨"Lost", 3, 2, false, "", "", 16⟩, ⟨"After", 3, 3, false, "", "", 24⟩], eqn := some 4 }
def ti137 : TI := { size := 2, bytes := 48, agg := true, zero := [.slice none 0 0, .slice none 0 0], desc := .struct #[⟨"Lower", 26, 0, false, "", "", 0⟩, ⟨"More", 26, 1, false, "", "", 24⟩] }
def ti138 : TI := { size := 2, bytes := 48, agg := true, zero := [.slice none 0 0, .slice none 0 0], desc := .struct #[⟨"Lower", 26, 0, false, "", "", 0⟩, ⟨"More", 26, 1, false, "", "", 24⟩] }
def ti139 : TI := { size := 4, bytes := 64, agg := true, zero := [.slice none 0 0, .int .i64 0, .slice none 0 0, .int .i64 0], desc := .array 2 28 }
def ti145 : TI := { size := 1, bytes := 24, agg := false, zero := [.slice none 0 0], desc := .slice 201 }
def ti146 : TI := { size := 2, bytes := 32, agg := true, zero := [.slice none 0 0, .int .i64 0], desc := .struct #[⟨"Spans", 71, 0, false, "", "", 0⟩, ⟨"Kelvin", 3, 1, false, "", "", 24⟩] }
def ti147 : TI := { size := 2, bytes := 32, agg := true, zero := [.slice none 0 0, .int .i64 0], desc := .struct #[⟨"Spans", 71, 0, false, "", "", 0⟩, ⟨"Kelvin", 3, 1, false, "", "", 24⟩] }
def ti148 : TI := { size := 3, bytes := 56, agg := true, zero := [.slice none 0 0, .int .i64 0, .slice none 0 0], desc := .struct #[⟨"History", 147, 0, false, "", "", 0⟩, ⟨"Picks", 26, 2, false, "", "", 32⟩] }
def ti149 : TI := { size := 3, bytes := 56, agg := true, zero := [.slice none 0 0, .int .i64 0, .slice none 0 0], desc := .struct #[⟨"History", 147, 0, false, "", "", 0⟩, ⟨"Picks", 26, 2, false, "", "", 32⟩] }
def ti158 : TI := { size := 1, bytes := 24, agg := false, zero := [.slice none 0 0], desc := .slice 192 }
def ti159 : TI := { size := 1, bytes := 24, agg := false, zero := [.slice none 0 0], desc := .slice 158 }
def ti160 : TI := { size := 6, bytes := 112, agg := true, zero := [.int .i64 0, .int .i64 0, .slice none 0 0, .slice none 0 0, .slice none 0 0, .slice none 0 0], desc := .struct #[⟨"HeatSetup", 25, 0, true, "", "", 0⟩, ⟨"table", 158, 4, false, "", "martensite/heat", 64⟩, ⟨"laws", 159, 5, false, "", "martensite/heat", 88⟩] }
def ti161 : TI := { size := 6, bytes := 112, agg := true, zero := [.int .i64 0, .int .i64 0, .slice none 0 0, .slice none 0 0, .slice none 0 0, .slice none 0 0], desc := .struct #[⟨"HeatSetup", 25, 0, true, "", "", 0⟩, ⟨"table", 158, 4, false, "", "martensite/heat", 64⟩, ⟨"laws", 159, 5, false, "", "martensite/heat", 88⟩] }
def ti188 : TI := { size := 2, bytes := 16, agg := true, zero := [.int .i64 0, .int .i64 0], desc := .struct #[⟨"num", 3, 0, false, "", "martensite/heat", 0⟩, ⟨"den", 3, 1, false, "", "martensite/heat", 8⟩] }
def ti189 : TI := { size := 2, bytes := 16, agg := true, zero := [.int .i64 0, .int .i64 0], desc := .struct #[⟨"num", 3, 0, false, "", "martensite/heat", 0⟩, ⟨"den", 3, 1, false, "", "martensite/heat", 8⟩] }
def ti191 : TI := { size := 2, bytes := 16, agg := true, zero := [.int .i64 0, .int .i64 0], desc := .struct #[⟨"x", 3, 0, false, "", "martensite/heat", 0⟩, ⟨"y", 3, 1, false, "", "martensite/heat", 8⟩] }
def ti192 : TI := { size := 2, bytes := 16, agg := true, zero := [.int .i64 0, .int .i64 0], desc := .struct #[⟨"x", 3, 0, false, "", "martensite/heat", 0⟩, ⟨"y", 3, 1, false, "", "martensite/heat", 8⟩] }
def ti200 : TI := { size := 2, bytes := 16, agg := true, zero := [.int .i64 0, .int .i64 0], desc := .struct #[⟨"Kelvin", 3, 0, false, "", "", 0⟩, ⟨"Loss", 3, 1, false, "", "", 8⟩] }
def ti201 : TI := { size := 2, bytes := 16, agg := true, zero := [.int .i64 0, .int .i64 0], desc := .struct #[⟨"Kelvin", 3, 0, false, "", "", 0⟩, ⟨"Loss", 3, 1, false, "", "", 8⟩] }
def ti203 : TI := { size := 1, bytes := 24, agg := false, zero := [.slice none 0 0], desc := .slice 34 }
def ti218 : TI := { size := 1, bytes := 8, agg := false, zero := [.int .u64 0], desc := .int .u64 }
def ti222 : TI := { size := 0, bytes := 0, agg := true, zero := [], desc := .array 0 16 }
def ti226 : TI := { size := 1, bytes := 4, agg := false, zero := [.int .u32 0], desc := .int .u32 }
def ti233 : TI := { size := 11, bytes := 48, agg := true, zero := [.int .u64 0, .int .u64 0, .int .u32 0, .int .u8 0, .int .u8 0, .int .u8 0, .int .u8 0, .nilFunc, .pointer none, .int .i32 0, .int .i32 0], desc := .struct #[⟨"Size_", 12, 0, false, "", "", 0⟩, ⟨"PtrBytes", 12, 1, false, "", "", 8⟩, ⟨"Hash", 226, 2, false, "", "", 16⟩, ⟨"TFlag", 227, 3, false, "", "", 20⟩, ⟨"Align_", 5, 4, false, "", "", 21⟩, ⟨"FieldAlign_", 5, 5, false, "", "", 22⟩, ⟨"Kind_", 228, 6, false, "", "", 23⟩, ⟨"Equal", 229, 7, false, "", "", 24⟩, ⟨"GCData", 230, 8, false, "", "", 32⟩, ⟨"Str", 231, 9, false, "", "", 40⟩, ⟨"PtrToThis", 232, 10, false, "", "", 44⟩] }
def ty : Tys := fun t => match t with
  | 2 => some ti2
  | 3 => some ti3
  | 4 => some ti4
  | 5 => some ti5
  | 9 => some ti9
  | 12 => some ti12
  | 21 => some ti21
  | 22 => some ti22
  | 23 => some ti23
  | 24 => some ti24
  | 25 => some ti25
  | 26 => some ti26
  | 27 => some ti27
  | 28 => some ti28
  | 29 => some ti29
  | 30 => some ti30
  | 34 => some ti34
  | 50 => some ti50
  | 51 => some ti51
  | 52 => some ti52
  | 56 => some ti56
  | 57 => some ti57
  | 69 => some ti69
  | 70 => some ti70
  | 71 => some ti71
  | 73 => some ti73
  | 74 => some ti74
  | 80 => some ti80
  | 95 => some ti95
  | 96 => some ti96
  | 97 => some ti97
  | 106 => some ti106
  | 107 => some ti107
  | 112 => some ti112
  | 116 => some ti116
  | 120 => some ti120
  | 121 => some ti121
  | 137 => some ti137
  | 138 => some ti138
  | 139 => some ti139
  | 145 => some ti145
  | 146 => some ti146
  | 147 => some ti147
  | 148 => some ti148
  | 149 => some ti149
  | 158 => some ti158
  | 159 => some ti159
  | 160 => some ti160
  | 161 => some ti161
  | 188 => some ti188
  | 189 => some ti189
  | 191 => some ti191
  | 192 => some ti192
  | 200 => some ti200
  | 201 => some ti201
  | 203 => some ti203
  | 218 => some ti218
  | 222 => some ti222
  | 226 => some ti226
  | 233 => some ti233
  | _ => none
@[go_sem] theorem ty_2 : ty 2 = some ti2 := rfl
@[go_sem] theorem ty_3 : ty 3 = some ti3 := rfl
@[go_sem] theorem ty_4 : ty 4 = some ti4 := rfl
@[go_sem] theorem ty_5 : ty 5 = some ti5 := rfl
@[go_sem] theorem ty_9 : ty 9 = some ti9 := rfl
@[go_sem] theorem ty_12 : ty 12 = some ti12 := rfl
@[go_sem] theorem ty_21 : ty 21 = some ti21 := rfl
@[go_sem] theorem ty_22 : ty 22 = some ti22 := rfl
@[go_sem] theorem ty_23 : ty 23 = some ti23 := rfl
@[go_sem] theorem ty_24 : ty 24 = some ti24 := rfl
@[go_sem] theorem ty_25 : ty 25 = some ti25 := rfl
@[go_sem] theorem ty_26 : ty 26 = some ti26 := rfl
@[go_sem] theorem ty_27 : ty 27 = some ti27 := rfl
@[go_sem] theorem ty_28 : ty 28 = some ti28 := rfl
@[go_sem] theorem ty_29 : ty 29 = some ti29 := rfl
@[go_sem] theorem ty_30 : ty 30 = some ti30 := rfl
@[go_sem] theorem ty_34 : ty 34 = some ti34 := rfl
@[go_sem] theorem ty_50 : ty 50 = some ti50 := rfl
@[go_sem] theorem ty_51 : ty 51 = some ti51 := rfl
@[go_sem] theorem ty_52 : ty 52 = some ti52 := rfl
@[go_sem] theorem ty_56 : ty 56 = some ti56 := rfl
@[go_sem] theorem ty_57 : ty 57 = some ti57 := rfl
@[go_sem] theorem ty_69 : ty 69 = some ti69 := rfl
@[go_sem] theorem ty_70 : ty 70 = some ti70 := rfl
@[go_sem] theorem ty_71 : ty 71 = some ti71 := rfl
@[go_sem] theorem ty_73 : ty 73 = some ti73 := rfl
@[go_sem] theorem ty_74 : ty 74 = some ti74 := rfl
@[go_sem] theorem ty_80 : ty 80 = some ti80 := rfl
@[go_sem] theorem ty_95 : ty 95 = some ti95 := rfl
@[go_sem] theorem ty_96 : ty 96 = some ti96 := rfl
@[go_sem] theorem ty_97 : ty 97 = some ti97 := rfl
@[go_sem] theorem ty_106 : ty 106 = some ti106 := rfl
@[go_sem] theorem ty_107 : ty 107 = some ti107 := rfl
@[go_sem] theorem ty_112 : ty 112 = some ti112 := rfl
@[go_sem] theorem ty_116 : ty 116 = some ti116 := rfl
@[go_sem] theorem ty_120 : ty 120 = some ti120 := rfl
@[go_sem] theorem ty_121 : ty 121 = some ti121 := rfl
@[go_sem] theorem ty_137 : ty 137 = some ti137 := rfl
@[go_sem] theorem ty_138 : ty 138 = some ti138 := rfl
@[go_sem] theorem ty_139 : ty 139 = some ti139 := rfl
@[go_sem] theorem ty_145 : ty 145 = some ti145 := rfl
@[go_sem] theorem ty_146 : ty 146 = some ti146 := rfl
@[go_sem] theorem ty_147 : ty 147 = some ti147 := rfl
@[go_sem] theorem ty_148 : ty 148 = some ti148 := rfl
@[go_sem] theorem ty_149 : ty 149 = some ti149 := rfl
@[go_sem] theorem ty_158 : ty 158 = some ti158 := rfl
@[go_sem] theorem ty_159 : ty 159 = some ti159 := rfl
@[go_sem] theorem ty_160 : ty 160 = some ti160 := rfl
@[go_sem] theorem ty_161 : ty 161 = some ti161 := rfl
@[go_sem] theorem ty_188 : ty 188 = some ti188 := rfl
@[go_sem] theorem ty_189 : ty 189 = some ti189 := rfl
@[go_sem] theorem ty_191 : ty 191 = some ti191 := rfl
@[go_sem] theorem ty_192 : ty 192 = some ti192 := rfl
@[go_sem] theorem ty_200 : ty 200 = some ti200 := rfl
@[go_sem] theorem ty_201 : ty 201 = some ti201 := rfl
@[go_sem] theorem ty_203 : ty 203 = some ti203 := rfl
@[go_sem] theorem ty_218 : ty 218 = some ti218 := rfl
@[go_sem] theorem ty_222 : ty 222 = some ti222 := rfl
@[go_sem] theorem ty_226 : ty 226 = some ti226 := rfl
@[go_sem] theorem ty_233 : ty 233 = some ti233 := rfl
attribute [go_sem] ti2 ti3 ti4 ti5 ti9 ti12 ti21 ti22 ti23 ti24 ti25 ti26 ti27 ti28 ti29 ti30 ti34 ti50 ti51 ti52 ti56 ti57 ti69 ti70 ti71 ti73 ti74 ti80 ti95 ti96 ti97 ti106 ti107 ti112 ti116 ti120 ti121 ti137 ti138 ti139 ti145 ti146 ti147 ti148 ti149 ti158 ti159 ti160 ti161 ti188 ti189 ti191 ti192 ti200 ti201 ti203 ti218 ti222 ti226 ti233

theorem fact {t : Nat} {i : TI} (z : Value) (h1 : (Try.prog.info? t).map (fun i => (i.size, i.bytes, i.zero)) = some (i.size, i.bytes, some z)) (h2 : Try.prog.underlying t = some i.desc) (hz : z.cells.toList = i.zero)
    (ha : i.agg = (match i.desc with | .struct _ | .array _ _ => true | _ => false)) (ho : i.agg = false → i.size = 1) (hl : i.zero.length = i.size) (he : ∀ n, i.eqn = some n → EqOk Try.prog t n) : TyFact Try.prog t i := by
  refine ⟨?_, h2, ha, ho, hl, he⟩
  cases hi : Try.prog.info? t with
  | none => rw [hi] at h1; cases h1
  | some info =>
    rw [hi] at h1
    simp only [Option.map_some, Option.some.injEq, Prod.mk.injEq] at h1
    exact ⟨info, z, rfl, h1.1, h1.2.1, h1.2.2, hz⟩

theorem eq57 : EqOk Try.prog 57 2 where
  guard := by kernel_rfl
  run := by
    intro xs ys w h1 h2
    match xs, ys, h1, h2 with
    | [a0, a1], [b0, b1], _, _ =>
      have u3 : Try.prog.underlying 3 = some (.int .i64) := by kernel_rfl
      have u57 : Try.prog.underlying 57 = some (.struct #[⟨"Lo", 3, 0, false, "", "", 0⟩, ⟨"Hi", 3, 1, false, "", "", 8⟩]) := by kernel_rfl
      have g57 : Try.prog.stoodInHeld 57 = false := by kernel_rfl
      have v57 : Try.prog.underlying 57 = some (.struct (Try.prog.fieldsOf 57)) := by kernel_rfl
      have w57 : (Try.prog.fieldsOf 57).toList = [⟨"Lo", 3, 0, false, "", "", 0⟩, ⟨"Hi", 3, 1, false, "", "", 8⟩] := by kernel_rfl
      have s57 : ∀ w, (sizeOf 57).run Try.prog w = .ok 2 w := fun _ => by kernel_rfl
      have p3 : ∀ w, (isAgg 3).run Try.prog w = .ok false w := fun _ => by kernel_rfl
      have p57 : ∀ w, (isAgg 57).run Try.prog w = .ok true w := fun _ => by kernel_rfl
      have e3 : ∀ (d : Nat) (a b : Int) (w : World), (Op.equalIn (d + 1) 3 (.int .i64 a) (.int .i64 b)).run Try.prog w = .ok (a == b) w := fun d a b w => run_equalIn_int w d 3 .i64 .i64 a b u3
      have e57 : ∀ (d : Nat) (xs ys : Array Value) (w : World), (Op.equalIn (d + 1) 57 (.agg xs) (.agg ys)).run Try.prog w = (Op.eqFields d xs ys (Try.prog.fieldsOf 57).toList).run Try.prog w := fun d xs ys w => run_equalIn_struct w d 57 xs ys v57 g57
      simp [ints, e3, e57, Op.eqFields, part, g57, w57, s57, p3, p57]
      try grind
theorem eq97 : EqOk Try.prog 97 2 where
  guard := by kernel_rfl
  run := by
    intro xs ys w h1 h2
    match xs, ys, h1, h2 with
    | [a0, a1], [b0, b1], _, _ =>
      have u3 : Try.prog.underlying 3 = some (.int .i64) := by kernel_rfl
      have u97 : Try.prog.underlying 97 = some (.struct #[⟨"Num", 3, 0, false, "", "", 0⟩, ⟨"Den", 3, 1, false, "", "", 8⟩]) := by kernel_rfl
      have g97 : Try.prog.stoodInHeld 97 = false := by kernel_rfl
      have v97 : Try.prog.underlying 97 = some (.struct (Try.prog.fieldsOf 97)) := by kernel_rfl
      have w97 : (Try.prog.fieldsOf 97).toList = [⟨"Num", 3, 0, false, "", "", 0⟩, ⟨"Den", 3, 1, false, "", "", 8⟩] := by kernel_rfl
      have s97 : ∀ w, (sizeOf 97).run Try.prog w = .ok 2 w := fun _ => by kernel_rfl
      have p3 : ∀ w, (isAgg 3).run Try.prog w = .ok false w := fun _ => by kernel_rfl
      have p97 : ∀ w, (isAgg 97).run Try.prog w = .ok true w := fun _ => by kernel_rfl
      have e3 : ∀ (d : Nat) (a b : Int) (w : World), (Op.equalIn (d + 1) 3 (.int .i64 a) (.int .i64 b)).run Try.prog w = .ok (a == b) w := fun d a b w => run_equalIn_int w d 3 .i64 .i64 a b u3
      have e97 : ∀ (d : Nat) (xs ys : Array Value) (w : World), (Op.equalIn (d + 1) 97 (.agg xs) (.agg ys)).run Try.prog w = (Op.eqFields d xs ys (Try.prog.fieldsOf 97).toList).run Try.prog w := fun d xs ys w => run_equalIn_struct w d 97 xs ys v97 g97
      simp [ints, e3, e97, Op.eqFields, part, g97, w97, s97, p3, p97]
      try grind
theorem eq121 : EqOk Try.prog 121 4 where
  guard := by kernel_rfl
  run := by
    intro xs ys w h1 h2
    match xs, ys, h1, h2 with
    | [a0, a1, a2, a3], [b0, b1, b2, b3], _, _ =>
      have u3 : Try.prog.underlying 3 = some (.int .i64) := by kernel_rfl
      have u121 : Try.prog.underlying 121 = some (.struct #[⟨"Before", 3, 0, false, "", "", 0⟩, ⟨"In", 3, 1, false, "", "", 8⟩, ⟨"Lost", 3, 2, false, "", "", 16⟩, ⟨"After", 3, 3, false, "", "", 24⟩]) := by kernel_rfl
      have g121 : Try.prog.stoodInHeld 121 = false := by kernel_rfl
      have v121 : Try.prog.underlying 121 = some (.struct (Try.prog.fieldsOf 121)) := by kernel_rfl
      have w121 : (Try.prog.fieldsOf 121).toList = [⟨"Before", 3, 0, false, "", "", 0⟩, ⟨"In", 3, 1, false, "", "", 8⟩, ⟨"Lost", 3, 2, false, "", "", 16⟩, ⟨"After", 3, 3, false, "", "", 24⟩] := by kernel_rfl
      have s121 : ∀ w, (sizeOf 121).run Try.prog w = .ok 4 w := fun _ => by kernel_rfl
      have p3 : ∀ w, (isAgg 3).run Try.prog w = .ok false w := fun _ => by kernel_rfl
      have p121 : ∀ w, (isAgg 121).run Try.prog w = .ok true w := fun _ => by kernel_rfl
      have e3 : ∀ (d : Nat) (a b : Int) (w : World), (Op.equalIn (d + 1) 3 (.int .i64 a) (.int .i64 b)).run Try.prog w = .ok (a == b) w := fun d a b w => run_equalIn_int w d 3 .i64 .i64 a b u3
      have e121 : ∀ (d : Nat) (xs ys : Array Value) (w : World), (Op.equalIn (d + 1) 121 (.agg xs) (.agg ys)).run Try.prog w = (Op.eqFields d xs ys (Try.prog.fieldsOf 121).toList).run Try.prog w := fun d xs ys w => run_equalIn_struct w d 121 xs ys v121 g121
      simp [ints, e3, e121, Op.eqFields, part, g121, w121, s121, p3, p121]
      try grind
theorem ty_ok : TyOk Try.prog ty := by
  intro t i h
  unfold ty at h
  split at h
  · obtain rfl := Option.some.inj h
    exact fact (.int .i64 0) (by kernel_rfl) (by kernel_rfl) rfl rfl (by first | (intro _; rfl) | (intro h; cases h)) rfl (fun n hn => by first | (cases hn; done) | (obtain rfl := Option.some.inj hn; exact False.elim (by cases hn)))
  · obtain rfl := Option.some.inj h
    exact fact (.int .i64 0) (by kernel_rfl) (by kernel_rfl) rfl rfl (by first | (intro _; rfl) | (intro h; cases h)) rfl (fun n hn => by first | (cases hn; done) | (obtain rfl := Option.some.inj hn; exact False.elim (by cases hn)))
  · obtain rfl := Option.some.inj h
    exact fact (.bool false) (by kernel_rfl) (by kernel_rfl) rfl rfl (by first | (intro _; rfl) | (intro h; cases h)) rfl (fun n hn => by first | (cases hn; done) | (obtain rfl := Option.some.inj hn; exact False.elim (by cases hn)))
  · obtain rfl := Option.some.inj h
    exact fact (.int .u8 0) (by kernel_rfl) (by kernel_rfl) rfl rfl (by first | (intro _; rfl) | (intro h; cases h)) rfl (fun n hn => by first | (cases hn; done) | (obtain rfl := Option.some.inj hn; exact False.elim (by cases hn)))
  · obtain rfl := Option.some.inj h
    exact fact (.string .empty) (by kernel_rfl) (by kernel_rfl) rfl rfl (by first | (intro _; rfl) | (intro h; cases h)) rfl (fun n hn => by first | (cases hn; done) | (obtain rfl := Option.some.inj hn; exact False.elim (by cases hn)))
  · obtain rfl := Option.some.inj h
    exact fact (.int .u64 0) (by kernel_rfl) (by kernel_rfl) rfl rfl (by first | (intro _; rfl) | (intro h; cases h)) rfl (fun n hn => by first | (cases hn; done) | (obtain rfl := Option.some.inj hn; exact False.elim (by cases hn)))
  · obtain rfl := Option.some.inj h
    exact fact (.int .i32 0) (by kernel_rfl) (by kernel_rfl) rfl rfl (by first | (intro _; rfl) | (intro h; cases h)) rfl (fun n hn => by first | (cases hn; done) | (obtain rfl := Option.some.inj hn; exact False.elim (by cases hn)))
  · obtain rfl := Option.some.inj h
    exact fact (.slice none 0 0) (by kernel_rfl) (by kernel_rfl) rfl rfl (by first | (intro _; rfl) | (intro h; cases h)) rfl (fun n hn => by first | (cases hn; done) | (obtain rfl := Option.some.inj hn; exact False.elim (by cases hn)))
  · obtain rfl := Option.some.inj h
    exact fact (.slice none 0 0) (by kernel_rfl) (by kernel_rfl) rfl rfl (by first | (intro _; rfl) | (intro h; cases h)) rfl (fun n hn => by first | (cases hn; done) | (obtain rfl := Option.some.inj hn; exact False.elim (by cases hn)))
  · obtain rfl := Option.some.inj h
    exact fact (.agg #[.int .i64 0, .int .i64 0, .slice none 0 0, .slice none 0 0]) (by kernel_rfl) (by kernel_rfl) rfl rfl (by first | (intro _; rfl) | (intro h; cases h)) rfl (fun n hn => by first | (cases hn; done) | (obtain rfl := Option.some.inj hn; exact False.elim (by cases hn)))
  · obtain rfl := Option.some.inj h
    exact fact (.agg #[.int .i64 0, .int .i64 0, .slice none 0 0, .slice none 0 0]) (by kernel_rfl) (by kernel_rfl) rfl rfl (by first | (intro _; rfl) | (intro h; cases h)) rfl (fun n hn => by first | (cases hn; done) | (obtain rfl := Option.some.inj hn; exact False.elim (by cases hn)))
  · obtain rfl := Option.some.inj h
    exact fact (.slice none 0 0) (by kernel_rfl) (by kernel_rfl) rfl rfl (by first | (intro _; rfl) | (intro h; cases h)) rfl (fun n hn => by first | (cases hn; done) | (obtain rfl := Option.some.inj hn; exact False.elim (by cases hn)))
  · obtain rfl := Option.some.inj h
    exact fact (.agg #[.slice none 0 0, .int .i64 0]) (by kernel_rfl) (by kernel_rfl) rfl rfl (by first | (intro _; rfl) | (intro h; cases h)) rfl (fun n hn => by first | (cases hn; done) | (obtain rfl := Option.some.inj hn; exact False.elim (by cases hn)))
  · obtain rfl := Option.some.inj h
    exact fact (.agg #[.slice none 0 0, .int .i64 0]) (by kernel_rfl) (by kernel_rfl) rfl rfl (by first | (intro _; rfl) | (intro h; cases h)) rfl (fun n hn => by first | (cases hn; done) | (obtain rfl := Option.some.inj hn; exact False.elim (by cases hn)))
  · obtain rfl := Option.some.inj h
    exact fact (.agg #[.slice none 0 0, .int .i64 0, .int .i64 0, .int .i64 0, .int .i64 0]) (by kernel_rfl) (by kernel_rfl) rfl rfl (by first | (intro _; rfl) | (intro h; cases h)) rfl (fun n hn => by first | (cases hn; done) | (obtain rfl := Option.some.inj hn; exact False.elim (by cases hn)))
  · obtain rfl := Option.some.inj h
    exact fact (.agg #[.slice none 0 0, .int .i64 0, .int .i64 0, .int .i64 0, .int .i64 0]) (by kernel_rfl) (by kernel_rfl) rfl rfl (by first | (intro _; rfl) | (intro h; cases h)) rfl (fun n hn => by first | (cases hn; done) | (obtain rfl := Option.some.inj hn; exact False.elim (by cases hn)))
  · obtain rfl := Option.some.inj h
    exact fact (.int .i64 0) (by kernel_rfl) (by kernel_rfl) rfl rfl (by first | (intro _; rfl) | (intro h; cases h)) rfl (fun n hn => by first | (cases hn; done) | (obtain rfl := Option.some.inj hn; exact False.elim (by cases hn)))
  · obtain rfl := Option.some.inj h
    exact fact (.agg #[.int .i64 0, .int .i64 0, .int .i64 0]) (by kernel_rfl) (by kernel_rfl) rfl rfl (by first | (intro _; rfl) | (intro h; cases h)) rfl (fun n hn => by first | (cases hn; done) | (obtain rfl := Option.some.inj hn; exact False.elim (by cases hn)))
  · obtain rfl := Option.some.inj h
    exact fact (.agg #[.int .i64 0, .int .i64 0, .int .i64 0]) (by kernel_rfl) (by kernel_rfl) rfl rfl (by first | (intro _; rfl) | (intro h; cases h)) rfl (fun n hn => by first | (cases hn; done) | (obtain rfl := Option.some.inj hn; exact False.elim (by cases hn)))
  · obtain rfl := Option.some.inj h
    exact fact (.slice none 0 0) (by kernel_rfl) (by kernel_rfl) rfl rfl (by first | (intro _; rfl) | (intro h; cases h)) rfl (fun n hn => by first | (cases hn; done) | (obtain rfl := Option.some.inj hn; exact False.elim (by cases hn)))
  · obtain rfl := Option.some.inj h
    exact fact (.agg #[.int .i64 0, .int .i64 0]) (by kernel_rfl) (by kernel_rfl) rfl rfl (by first | (intro _; rfl) | (intro h; cases h)) rfl (fun n hn => by first | (cases hn; done) | (obtain rfl := Option.some.inj hn; exact False.elim (by cases hn)))
  · obtain rfl := Option.some.inj h
    exact fact (.agg #[.int .i64 0, .int .i64 0]) (by kernel_rfl) (by kernel_rfl) rfl rfl (by first | (intro _; rfl) | (intro h; cases h)) rfl (fun n hn => by first | (cases hn; done) | (obtain rfl := Option.some.inj hn; exact eq57))
  · obtain rfl := Option.some.inj h
    exact fact (.agg #[.slice none 0 0, .slice none 0 0]) (by kernel_rfl) (by kernel_rfl) rfl rfl (by first | (intro _; rfl) | (intro h; cases h)) rfl (fun n hn => by first | (cases hn; done) | (obtain rfl := Option.some.inj hn; exact False.elim (by cases hn)))
  · obtain rfl := Option.some.inj h
    exact fact (.agg #[.slice none 0 0, .slice none 0 0]) (by kernel_rfl) (by kernel_rfl) rfl rfl (by first | (intro _; rfl) | (intro h; cases h)) rfl (fun n hn => by first | (cases hn; done) | (obtain rfl := Option.some.inj hn; exact False.elim (by cases hn)))
  · obtain rfl := Option.some.inj h
    exact fact (.slice none 0 0) (by kernel_rfl) (by kernel_rfl) rfl rfl (by first | (intro _; rfl) | (intro h; cases h)) rfl (fun n hn => by first | (cases hn; done) | (obtain rfl := Option.some.inj hn; exact False.elim (by cases hn)))
  · obtain rfl := Option.some.inj h
    exact fact (.agg #[.slice none 0 0, .int .i64 0, .int .i64 0]) (by kernel_rfl) (by kernel_rfl) rfl rfl (by first | (intro _; rfl) | (intro h; cases h)) rfl (fun n hn => by first | (cases hn; done) | (obtain rfl := Option.some.inj hn; exact False.elim (by cases hn)))
  · obtain rfl := Option.some.inj h
    exact fact (.agg #[.slice none 0 0, .int .i64 0, .int .i64 0]) (by kernel_rfl) (by kernel_rfl) rfl rfl (by first | (intro _; rfl) | (intro h; cases h)) rfl (fun n hn => by first | (cases hn; done) | (obtain rfl := Option.some.inj hn; exact False.elim (by cases hn)))
  · obtain rfl := Option.some.inj h
    exact fact (.slice none 0 0) (by kernel_rfl) (by kernel_rfl) rfl rfl (by first | (intro _; rfl) | (intro h; cases h)) rfl (fun n hn => by first | (cases hn; done) | (obtain rfl := Option.some.inj hn; exact False.elim (by cases hn)))
  · obtain rfl := Option.some.inj h
    exact fact (.agg #[.int .i64 0, .int .i64 0, .int .i64 0]) (by kernel_rfl) (by kernel_rfl) rfl rfl (by first | (intro _; rfl) | (intro h; cases h)) rfl (fun n hn => by first | (cases hn; done) | (obtain rfl := Option.some.inj hn; exact False.elim (by cases hn)))
  · obtain rfl := Option.some.inj h
    exact fact (.agg #[.int .i64 0, .int .i64 0]) (by kernel_rfl) (by kernel_rfl) rfl rfl (by first | (intro _; rfl) | (intro h; cases h)) rfl (fun n hn => by first | (cases hn; done) | (obtain rfl := Option.some.inj hn; exact False.elim (by cases hn)))
  · obtain rfl := Option.some.inj h
    exact fact (.agg #[.int .i64 0, .int .i64 0]) (by kernel_rfl) (by kernel_rfl) rfl rfl (by first | (intro _; rfl) | (intro h; cases h)) rfl (fun n hn => by first | (cases hn; done) | (obtain rfl := Option.some.inj hn; exact eq97))
  · obtain rfl := Option.some.inj h
    exact fact (.agg #[.int .i64 0, .int .i64 0]) (by kernel_rfl) (by kernel_rfl) rfl rfl (by first | (intro _; rfl) | (intro h; cases h)) rfl (fun n hn => by first | (cases hn; done) | (obtain rfl := Option.some.inj hn; exact False.elim (by cases hn)))
  · obtain rfl := Option.some.inj h
    exact fact (.agg #[.int .i64 0, .int .i64 0]) (by kernel_rfl) (by kernel_rfl) rfl rfl (by first | (intro _; rfl) | (intro h; cases h)) rfl (fun n hn => by first | (cases hn; done) | (obtain rfl := Option.some.inj hn; exact False.elim (by cases hn)))
  · obtain rfl := Option.some.inj h
    exact fact (.slice none 0 0) (by kernel_rfl) (by kernel_rfl) rfl rfl (by first | (intro _; rfl) | (intro h; cases h)) rfl (fun n hn => by first | (cases hn; done) | (obtain rfl := Option.some.inj hn; exact False.elim (by cases hn)))
  · obtain rfl := Option.some.inj h
    exact fact (.slice none 0 0) (by kernel_rfl) (by kernel_rfl) rfl rfl (by first | (intro _; rfl) | (intro h; cases h)) rfl (fun n hn => by first | (cases hn; done) | (obtain rfl := Option.some.inj hn; exact False.elim (by cases hn)))
  · obtain rfl := Option.some.inj h
    exact fact (.agg #[.int .i64 0, .int .i64 0, .int .i64 0, .int .i64 0]) (by kernel_rfl) (by kernel_rfl) rfl rfl (by first | (intro _; rfl) | (intro h; cases h)) rfl (fun n hn => by first | (cases hn; done) | (obtain rfl := Option.some.inj hn; exact False.elim (by cases hn)))
  · obtain rfl := Option.some.inj h
    exact fact (.agg #[.int .i64 0, .int .i64 0, .int .i64 0, .int .i64 0]) (by kernel_rfl) (by kernel_rfl) rfl rfl (by first | (intro _; rfl) | (intro h; cases h)) rfl (fun n hn => by first | (cases hn; done) | (obtain rfl := Option.some.inj hn; exact eq121))
  · obtain rfl := Option.some.inj h
    exact fact (.agg #[.slice none 0 0, .slice none 0 0]) (by kernel_rfl) (by kernel_rfl) rfl rfl (by first | (intro _; rfl) | (intro h; cases h)) rfl (fun n hn => by first | (cases hn; done) | (obtain rfl := Option.some.inj hn; exact False.elim (by cases hn)))
  · obtain rfl := Option.some.inj h
    exact fact (.agg #[.slice none 0 0, .slice none 0 0]) (by kernel_rfl) (by kernel_rfl) rfl rfl (by first | (intro _; rfl) | (intro h; cases h)) rfl (fun n hn => by first | (cases hn; done) | (obtain rfl := Option.some.inj hn; exact False.elim (by cases hn)))
  · obtain rfl := Option.some.inj h
    exact fact (.agg #[.slice none 0 0, .int .i64 0, .slice none 0 0, .int .i64 0]) (by kernel_rfl) (by kernel_rfl) rfl rfl (by first | (intro _; rfl) | (intro h; cases h)) rfl (fun n hn => by first | (cases hn; done) | (obtain rfl := Option.some.inj hn; exact False.elim (by cases hn)))
  · obtain rfl := Option.some.inj h
    exact fact (.slice none 0 0) (by kernel_rfl) (by kernel_rfl) rfl rfl (by first | (intro _; rfl) | (intro h; cases h)) rfl (fun n hn => by first | (cases hn; done) | (obtain rfl := Option.some.inj hn; exact False.elim (by cases hn)))
  · obtain rfl := Option.some.inj h
    exact fact (.agg #[.slice none 0 0, .int .i64 0]) (by kernel_rfl) (by kernel_rfl) rfl rfl (by first | (intro _; rfl) | (intro h; cases h)) rfl (fun n hn => by first | (cases hn; done) | (obtain rfl := Option.some.inj hn; exact False.elim (by cases hn)))
  · obtain rfl := Option.some.inj h
    exact fact (.agg #[.slice none 0 0, .int .i64 0]) (by kernel_rfl) (by kernel_rfl) rfl rfl (by first | (intro _; rfl) | (intro h; cases h)) rfl (fun n hn => by first | (cases hn; done) | (obtain rfl := Option.some.inj hn; exact False.elim (by cases hn)))
  · obtain rfl := Option.some.inj h
    exact fact (.agg #[.slice none 0 0, .int .i64 0, .slice none 0 0]) (by kernel_rfl) (by kernel_rfl) rfl rfl (by first | (intro _; rfl) | (intro h; cases h)) rfl (fun n hn => by first | (cases hn; done) | (obtain rfl := Option.some.inj hn; exact False.elim (by cases hn)))
  · obtain rfl := Option.some.inj h
    exact fact (.agg #[.slice none 0 0, .int .i64 0, .slice none 0 0]) (by kernel_rfl) (by kernel_rfl) rfl rfl (by first | (intro _; rfl) | (intro h; cases h)) rfl (fun n hn => by first | (cases hn; done) | (obtain rfl := Option.some.inj hn; exact False.elim (by cases hn)))
  · obtain rfl := Option.some.inj h
    exact fact (.slice none 0 0) (by kernel_rfl) (by kernel_rfl) rfl rfl (by first | (intro _; rfl) | (intro h; cases h)) rfl (fun n hn => by first | (cases hn; done) | (obtain rfl := Option.some.inj hn; exact False.elim (by cases hn)))
  · obtain rfl := Option.some.inj h
    exact fact (.slice none 0 0) (by kernel_rfl) (by kernel_rfl) rfl rfl (by first | (intro _; rfl) | (intro h; cases h)) rfl (fun n hn => by first | (cases hn; done) | (obtain rfl := Option.some.inj hn; exact False.elim (by cases hn)))
  · obtain rfl := Option.some.inj h
    exact fact (.agg #[.int .i64 0, .int .i64 0, .slice none 0 0, .slice none 0 0, .slice none 0 0, .slice none 0 0]) (by kernel_rfl) (by kernel_rfl) rfl rfl (by first | (intro _; rfl) | (intro h; cases h)) rfl (fun n hn => by first | (cases hn; done) | (obtain rfl := Option.some.inj hn; exact False.elim (by cases hn)))
  · obtain rfl := Option.some.inj h
    exact fact (.agg #[.int .i64 0, .int .i64 0, .slice none 0 0, .slice none 0 0, .slice none 0 0, .slice none 0 0]) (by kernel_rfl) (by kernel_rfl) rfl rfl (by first | (intro _; rfl) | (intro h; cases h)) rfl (fun n hn => by first | (cases hn; done) | (obtain rfl := Option.some.inj hn; exact False.elim (by cases hn)))
  · obtain rfl := Option.some.inj h
    exact fact (.agg #[.int .i64 0, .int .i64 0]) (by kernel_rfl) (by kernel_rfl) rfl rfl (by first | (intro _; rfl) | (intro h; cases h)) rfl (fun n hn => by first | (cases hn; done) | (obtain rfl := Option.some.inj hn; exact False.elim (by cases hn)))
  · obtain rfl := Option.some.inj h
    exact fact (.agg #[.int .i64 0, .int .i64 0]) (by kernel_rfl) (by kernel_rfl) rfl rfl (by first | (intro _; rfl) | (intro h; cases h)) rfl (fun n hn => by first | (cases hn; done) | (obtain rfl := Option.some.inj hn; exact False.elim (by cases hn)))
  · obtain rfl := Option.some.inj h
    exact fact (.agg #[.int .i64 0, .int .i64 0]) (by kernel_rfl) (by kernel_rfl) rfl rfl (by first | (intro _; rfl) | (intro h; cases h)) rfl (fun n hn => by first | (cases hn; done) | (obtain rfl := Option.some.inj hn; exact False.elim (by cases hn)))
  · obtain rfl := Option.some.inj h
    exact fact (.agg #[.int .i64 0, .int .i64 0]) (by kernel_rfl) (by kernel_rfl) rfl rfl (by first | (intro _; rfl) | (intro h; cases h)) rfl (fun n hn => by first | (cases hn; done) | (obtain rfl := Option.some.inj hn; exact False.elim (by cases hn)))
  · obtain rfl := Option.some.inj h
    exact fact (.agg #[.int .i64 0, .int .i64 0]) (by kernel_rfl) (by kernel_rfl) rfl rfl (by first | (intro _; rfl) | (intro h; cases h)) rfl (fun n hn => by first | (cases hn; done) | (obtain rfl := Option.some.inj hn; exact False.elim (by cases hn)))
  · obtain rfl := Option.some.inj h
    exact fact (.agg #[.int .i64 0, .int .i64 0]) (by kernel_rfl) (by kernel_rfl) rfl rfl (by first | (intro _; rfl) | (intro h; cases h)) rfl (fun n hn => by first | (cases hn; done) | (obtain rfl := Option.some.inj hn; exact False.elim (by cases hn)))
  · obtain rfl := Option.some.inj h
    exact fact (.slice none 0 0) (by kernel_rfl) (by kernel_rfl) rfl rfl (by first | (intro _; rfl) | (intro h; cases h)) rfl (fun n hn => by first | (cases hn; done) | (obtain rfl := Option.some.inj hn; exact False.elim (by cases hn)))
  · obtain rfl := Option.some.inj h
    exact fact (.int .u64 0) (by kernel_rfl) (by kernel_rfl) rfl rfl (by first | (intro _; rfl) | (intro h; cases h)) rfl (fun n hn => by first | (cases hn; done) | (obtain rfl := Option.some.inj hn; exact False.elim (by cases hn)))
  · obtain rfl := Option.some.inj h
    exact fact (.agg #[]) (by kernel_rfl) (by kernel_rfl) rfl rfl (by first | (intro _; rfl) | (intro h; cases h)) rfl (fun n hn => by first | (cases hn; done) | (obtain rfl := Option.some.inj hn; exact False.elim (by cases hn)))
  · obtain rfl := Option.some.inj h
    exact fact (.int .u32 0) (by kernel_rfl) (by kernel_rfl) rfl rfl (by first | (intro _; rfl) | (intro h; cases h)) rfl (fun n hn => by first | (cases hn; done) | (obtain rfl := Option.some.inj hn; exact False.elim (by cases hn)))
  · obtain rfl := Option.some.inj h
    exact fact (.agg #[.int .u64 0, .int .u64 0, .int .u32 0, .int .u8 0, .int .u8 0, .int .u8 0, .int .u8 0, .nilFunc, .pointer none, .int .i32 0, .int .i32 0]) (by kernel_rfl) (by kernel_rfl) rfl rfl (by first | (intro _; rfl) | (intro h; cases h)) rfl (fun n hn => by first | (cases hn; done) | (obtain rfl := Option.some.inj hn; exact False.elim (by cases hn)))
  · cases h

end Go.Proofs.Ytcbiiijnaeibhaa
