/-
  The types of the translation, as the abstract machine uses them: a table, and that it agrees with the program's. Written by a program of ours (gen_ty.py).
-/
import Derived.Test.YtagnplbfdaifkaaProg
import Derived.Test.YtagnplbfdaifkaaAbsC
import Derived.KernelRfl
set_option linter.unusedSimpArgs false
set_option linter.unusedVariables false
namespace Go.Proofs.Ytagnplbfdaifkaa
open Go.Abs

def ti2 : TI := { size := 1, bytes := 8, agg := false, zero := [.int .i64 0], desc := .int .i64 }
def ti3 : TI := { size := 1, bytes := 8, agg := false, zero := [.int .i64 0], desc := .int .i64 }
def ti4 : TI := { size := 1, bytes := 1, agg := false, zero := [.bool false], desc := .bool }
def ti5 : TI := { size := 1, bytes := 1, agg := false, zero := [.int .u8 0], desc := .int .u8 }
def ti9 : TI := { size := 1, bytes := 16, agg := false, zero := [.string .empty], desc := .string }
def ti12 : TI := { size := 1, bytes := 8, agg := false, zero := [.int .u64 0], desc := .int .u64 }
def ti21 : TI := { size := 1, bytes := 4, agg := false, zero := [.int .i32 0], desc := .int .i32 }
def ti22 : TI := { size := 1, bytes := 24, agg := false, zero := [.slice none 0 0], desc := .slice 63 }
def ti23 : TI := { size := 2, bytes := 32, agg := true, zero := [.int .i64 0, .slice none 0 0], desc := .struct #[⟨"Turns", 3, 0, false, "", "", 0⟩, ⟨"Shells", 22, 1, false, "", "", 8⟩] }
def ti24 : TI := { size := 2, bytes := 32, agg := true, zero := [.int .i64 0, .slice none 0 0], desc := .struct #[⟨"Turns", 3, 0, false, "", "", 0⟩, ⟨"Shells", 22, 1, false, "", "", 8⟩] }
def ti25 : TI := { size := 1, bytes := 24, agg := false, zero := [.slice none 0 0], desc := .slice 4 }
def ti26 : TI := { size := 2, bytes := 32, agg := true, zero := [.int .i64 0, .slice none 0 0], desc := .struct #[⟨"Frequency", 3, 0, false, "", "", 0⟩, ⟨"Hot", 25, 1, false, "", "", 8⟩] }
def ti27 : TI := { size := 2, bytes := 32, agg := true, zero := [.int .i64 0, .slice none 0 0], desc := .struct #[⟨"Frequency", 3, 0, false, "", "", 0⟩, ⟨"Hot", 25, 1, false, "", "", 8⟩] }
def ti28 : TI := { size := 2, bytes := 16, agg := true, zero := [.int .i64 0, .int .i64 0], desc := .array 2 3 }
def ti32 : TI := { size := 2, bytes := 16, agg := true, zero := [.int .i64 0, .int .i64 0], desc := .struct #[⟨"Re", 3, 0, false, "", "", 0⟩, ⟨"Im", 3, 1, false, "", "", 8⟩] }
def ti33 : TI := { size := 2, bytes := 16, agg := true, zero := [.int .i64 0, .int .i64 0], desc := .struct #[⟨"Re", 3, 0, false, "", "", 0⟩, ⟨"Im", 3, 1, false, "", "", 8⟩], eqn := some 2 }
def ti34 : TI := { size := 4, bytes := 32, agg := true, zero := [.int .i64 0, .int .i64 0, .int .i64 0, .int .i64 0], desc := .struct #[⟨"Num", 33, 0, false, "", "", 0⟩, ⟨"Den", 33, 2, false, "", "", 16⟩] }
def ti35 : TI := { size := 4, bytes := 32, agg := true, zero := [.int .i64 0, .int .i64 0, .int .i64 0, .int .i64 0], desc := .struct #[⟨"Num", 33, 0, false, "", "", 0⟩, ⟨"Den", 33, 2, false, "", "", 16⟩], eqn := some 4 }
def ti36 : TI := { size := 1, bytes := 8, agg := false, zero := [.int .i64 0], desc := .int .i64 }
def ti50 : TI := { size := 1, bytes := 24, agg := false, zero := [.slice none 0 0], desc := .slice 3 }
def ti58 : TI := { size := 1, bytes := 24, agg := false, zero := [.slice none 0 0], desc := .slice 33 }
def ti62 : TI := { size := 3, bytes := 24, agg := true, zero := [.int .i64 0, .int .i64 0, .int .i64 0], desc := .struct #[⟨"Conductance", 3, 0, false, "", "", 0⟩, ⟨"Cold", 3, 1, false, "", "", 8⟩, ⟨"Hot", 3, 2, false, "", "", 16⟩] }
def ti63 : TI := { size := 3, bytes := 24, agg := true, zero := [.int .i64 0, .int .i64 0, .int .i64 0], desc := .struct #[⟨"Conductance", 3, 0, false, "", "", 0⟩, ⟨"Cold", 3, 1, false, "", "", 8⟩, ⟨"Hot", 3, 2, false, "", "", 16⟩] }
def ti66 : TI := { size := 3, bytes := 24, agg := true, zero := [.int .i64 0, .int .i64 0, .int .i64 0], desc := .array 3 3 }
def ti79 : TI := { size := 2, bytes := 16, agg := true, zero := [.int .i64 0, .int .i64 0], desc := .struct #[⟨"Num", 3, 0, false, "", "", 0⟩, ⟨"Den", 3, 1, false, "", "", 8⟩] }
def ti80 : TI := { size := 2, bytes := 16, agg := true, zero := [.int .i64 0, .int .i64 0], desc := .struct #[⟨"Num", 3, 0, false, "", "", 0⟩, ⟨"Den", 3, 1, false, "", "", 8⟩], eqn := some 2 }
def ti95 : TI := { size := 1, bytes := 24, agg := false, zero := [.slice none 0 0], desc := .slice 109 }
def ti96 : TI := { size := 3, bytes := 56, agg := true, zero := [.int .i64 0, .slice none 0 0, .slice none 0 0], desc := .struct #[⟨"Ladder", 24, 0, false, "", "", 0⟩, ⟨"Conductances", 95, 2, false, "", "", 32⟩] }
def ti97 : TI := { size := 3, bytes := 56, agg := true, zero := [.int .i64 0, .slice none 0 0, .slice none 0 0], desc := .struct #[⟨"Ladder", 24, 0, false, "", "", 0⟩, ⟨"Conductances", 95, 2, false, "", "", 32⟩] }
def ti106 : TI := { size := 5, bytes := 40, agg := true, zero := [.int .i64 0, .int .i64 0, .int .i64 0, .int .i64 0, .int .i64 0], desc := .array 5 3 }
def ti108 : TI := { size := 2, bytes := 16, agg := true, zero := [.int .i64 0, .int .i64 0], desc := .struct #[⟨"Lo", 3, 0, false, "", "", 0⟩, ⟨"Hi", 3, 1, false, "", "", 8⟩] }
def ti109 : TI := { size := 2, bytes := 16, agg := true, zero := [.int .i64 0, .int .i64 0], desc := .struct #[⟨"Lo", 3, 0, false, "", "", 0⟩, ⟨"Hi", 3, 1, false, "", "", 8⟩], eqn := some 2 }
def ti112 : TI := { size := 4, bytes := 64, agg := true, zero := [.int .i64 0, .slice none 0 0, .int .i64 0, .slice none 0 0], desc := .struct #[⟨"First", 27, 0, false, "", "", 0⟩, ⟨"Second", 27, 2, false, "", "", 32⟩] }
def ti113 : TI := { size := 4, bytes := 64, agg := true, zero := [.int .i64 0, .slice none 0 0, .int .i64 0, .slice none 0 0], desc := .struct #[⟨"First", 27, 0, false, "", "", 0⟩, ⟨"Second", 27, 2, false, "", "", 32⟩] }
def ti114 : TI := { size := 2, bytes := 16, agg := true, zero := [.int .i64 0, .int .i64 0], desc := .struct #[⟨"Percent", 3, 0, false, "", "", 0⟩, ⟨"Depth", 3, 1, false, "", "", 8⟩] }
def ti115 : TI := { size := 2, bytes := 16, agg := true, zero := [.int .i64 0, .int .i64 0], desc := .struct #[⟨"Percent", 3, 0, false, "", "", 0⟩, ⟨"Depth", 3, 1, false, "", "", 8⟩] }
def ti116 : TI := { size := 2, bytes := 32, agg := true, zero := [.int .i64 0, .slice none 0 0], desc := .struct #[⟨"Total", 3, 0, false, "", "", 0⟩, ⟨"Watts", 95, 1, false, "", "", 8⟩] }
def ti117 : TI := { size := 2, bytes := 32, agg := true, zero := [.int .i64 0, .slice none 0 0], desc := .struct #[⟨"Total", 3, 0, false, "", "", 0⟩, ⟨"Watts", 95, 1, false, "", "", 8⟩] }
def ti118 : TI := { size := 6, bytes := 64, agg := true, zero := [.int .i64 0, .int .i64 0, .int .i64 0, .int .i64 0, .int .i64 0, .slice none 0 0], desc := .struct #[⟨"Wish", 115, 0, false, "", "", 0⟩, ⟨"Watts", 28, 2, false, "", "", 16⟩, ⟨"Shape", 117, 4, false, "", "", 32⟩] }
def ti119 : TI := { size := 6, bytes := 64, agg := true, zero := [.int .i64 0, .int .i64 0, .int .i64 0, .int .i64 0, .int .i64 0, .slice none 0 0], desc := .struct #[⟨"Wish", 115, 0, false, "", "", 0⟩, ⟨"Watts", 28, 2, false, "", "", 16⟩, ⟨"Shape", 117, 4, false, "", "", 32⟩] }
def ti137 : TI := { size := 2, bytes := 48, agg := true, zero := [.slice none 0 0, .slice none 0 0], desc := .struct #[⟨"conductances", 50, 0, false, "", "martensite/field", 0⟩, ⟨"reactances", 50, 1, false, "", "martensite/field", 24⟩] }
def ti138 : TI := { size := 2, bytes := 48, agg := true, zero := [.slice none 0 0, .slice none 0 0], desc := .struct #[⟨"conductances", 50, 0, false, "", "martensite/field", 0⟩, ⟨"reactances", 50, 1, false, "", "martensite/field", 24⟩] }
def ti165 : TI := { size := 1, bytes := 24, agg := false, zero := [.slice none 0 0], desc := .slice 24 }
def ti167 : TI := { size := 4, bytes := 96, agg := true, zero := [.slice none 0 0, .slice none 0 0, .slice none 0 0, .slice none 0 0], desc := .array 2 138 }
def ti168 : TI := { size := 4, bytes := 96, agg := true, zero := [.slice none 0 0, .slice none 0 0, .slice none 0 0, .slice none 0 0], desc := .array 2 138 }
def ti177 : TI := { size := 1, bytes := 24, agg := false, zero := [.slice none 0 0], desc := .slice 36 }
def ti186 : TI := { size := 0, bytes := 0, agg := true, zero := [], desc := .array 0 16 }
def ti190 : TI := { size := 1, bytes := 4, agg := false, zero := [.int .u32 0], desc := .int .u32 }
def ti197 : TI := { size := 11, bytes := 48, agg := true, zero := [.int .u64 0, .int .u64 0, .int .u32 0, .int .u8 0, .int .u8 0, .int .u8 0, .int .u8 0, .nilFunc, .pointer none, .int .i32 0, .int .i32 0], desc := .struct #[⟨"Size_", 12, 0, false, "", "", 0⟩, ⟨"PtrBytes", 12, 1, false, "", "", 8⟩, ⟨"Hash", 190, 2, false, "", "", 16⟩, ⟨"TFlag", 191, 3, false, "", "", 20⟩, ⟨"Align_", 5, 4, false, "", "", 21⟩, ⟨"FieldAlign_", 5, 5, false, "", "", 22⟩, ⟨"Kind_", 192, 6, false, "", "", 23⟩, ⟨"Equal", 193, 7, false, "", "", 24⟩, ⟨"GCData", 194, 8, false, "", "", 32⟩, ⟨"Str", 195, 9, false, "", "", 40⟩, ⟨"PtrToThis", 196, 10, false, "", "", 44⟩] }
def ty : Tys := fun t => match t with
  | 2 => some ti2
  | 3 => some ti3
  | 4 => some ti4
  | 5 => some ti5
  | 9 => some ti9
  | 12 => some ti12
  | 21 => some ti21
  | 22 => some ti22
  | 23 => some ti23
  | 24 => some ti24
  | 25 => some ti25
  | 26 => some ti26
  | 27 => some ti27
  | 28 => some ti28
  | 32 => some ti32
  | 33 => some ti33
  | 34 => some ti34
  | 35 => some ti35
  | 36 => some ti36
  | 50 => some ti50
  | 58 => some ti58
  | 62 => some ti62
  | 63 => some ti63
  | 66 => some ti66
  | 79 => some ti79
  | 80 => some ti80
  | 95 => some ti95
  | 96 => some ti96
  | 97 => some ti97
  | 106 => some ti106
  | 108 => some ti108
  | 109 => some ti109
  | 112 => some ti112
  | 113 => some ti113
  | 114 => some ti114
  | 115 => some ti115
  | 116 => some ti116
  | 117 => some ti117
  | 118 => some ti118
  | 119 => some ti119
  | 137 => some ti137
  | 138 => some ti138
  | 165 => some ti165
  | 167 => some ti167
  | 168 => some ti168
  | 177 => some ti177
  | 186 => some ti186
  | 190 => some ti190
  | 197 => some ti197
  | _ => none
@[go_sem] theorem ty_2 : ty 2 = some ti2 := rfl
@[go_sem] theorem ty_3 : ty 3 = some ti3 := rfl
@[go_sem] theorem ty_4 : ty 4 = some ti4 := rfl
@[go_sem] theorem ty_5 : ty 5 = some ti5 := rfl
@[go_sem] theorem ty_9 : ty 9 = some ti9 := rfl
@[go_sem] theorem ty_12 : ty 12 = some ti12 := rfl
@[go_sem] theorem ty_21 : ty 21 = some ti21 := rfl
@[go_sem] theorem ty_22 : ty 22 = some ti22 := rfl
@[go_sem] theorem ty_23 : ty 23 = some ti23 := rfl
@[go_sem] theorem ty_24 : ty 24 = some ti24 := rfl
@[go_sem] theorem ty_25 : ty 25 = some ti25 := rfl
@[go_sem] theorem ty_26 : ty 26 = some ti26 := rfl
@[go_sem] theorem ty_27 : ty 27 = some ti27 := rfl
@[go_sem] theorem ty_28 : ty 28 = some ti28 := rfl
@[go_sem] theorem ty_32 : ty 32 = some ti32 := rfl
@[go_sem] theorem ty_33 : ty 33 = some ti33 := rfl
@[go_sem] theorem ty_34 : ty 34 = some ti34 := rfl
@[go_sem] theorem ty_35 : ty 35 = some ti35 := rfl
@[go_sem] theorem ty_36 : ty 36 = some ti36 := rfl
@[go_sem] theorem ty_50 : ty 50 = some ti50 := rfl
@[go_sem] theorem ty_58 : ty 58 = some ti58 := rfl
@[go_sem] theorem ty_62 : ty 62 = some ti62 := rfl
@[go_sem] theorem ty_63 : ty 63 = some ti63 := rfl
@[go_sem] theorem ty_66 : ty 66 = some ti66 := rfl
@[go_sem] theorem ty_79 : ty 79 = some ti79 := rfl
@[go_sem] theorem ty_80 : ty 80 = some ti80 := rfl
@[go_sem] theorem ty_95 : ty 95 = some ti95 := rfl
@[go_sem] theorem ty_96 : ty 96 = some ti96 := rfl
@[go_sem] theorem ty_97 : ty 97 = some ti97 := rfl
@[go_sem] theorem ty_106 : ty 106 = some ti106 := rfl
@[go_sem] theorem ty_108 : ty 108 = some ti108 := rfl
@[go_sem] theorem ty_109 : ty 109 = some ti109 := rfl
@[go_sem] theorem ty_112 : ty 112 = some ti112 := rfl
@[go_sem] theorem ty_113 : ty 113 = some ti113 := rfl
@[go_sem] theorem ty_114 : ty 114 = some ti114 := rfl
@[go_sem] theorem ty_115 : ty 115 = some ti115 := rfl
@[go_sem] theorem ty_116 : ty 116 = some ti116 := rfl
@[go_sem] theorem ty_117 : ty 117 = some ti117 := rfl
@[go_sem] theorem ty_118 : ty 118 = some ti118 := rfl
@[go_sem] theorem ty_119 : ty 119 = some ti119 := rfl
@[go_sem] theorem ty_137 : ty 137 = some ti137 := rfl
@[go_sem] theorem ty_138 : ty 138 = some ti138 := rfl
@[go_sem] theorem ty_165 : ty 165 = some ti165 := rfl
@[go_sem] theorem ty_167 : ty 167 = some ti167 := rfl
@[go_sem] theorem ty_168 : ty 168 = some ti168 := rfl
@[go_sem] theorem ty_177 : ty 177 = some ti177 := rfl
@[go_sem] theorem ty_186 : ty 186 = some ti186 := rfl
@[go_sem] theorem ty_190 : ty 190 = some ti190 := rfl
@[go_sem] theorem ty_197 : ty 197 = some ti197 := rfl
attribute [go_sem] ti2 ti3 ti4 ti5 ti9 ti12 ti21 ti22 ti23 ti24 ti25 ti26 ti27 ti28 ti32 ti33 ti34 ti35 ti36 ti50 ti58 ti62 ti63 ti66 ti79 ti80 ti95 ti96 ti97 ti106 ti108 ti109 ti112 ti113 ti114 ti115 ti116 ti117 ti118 ti119 ti137 ti138 ti165 ti167 ti168 ti177 ti186 ti190 ti197

theorem fact {t : Nat} {i : TI} (z : Value) (h1 : (Try.prog.info? t).map (fun i => (i.size, i.bytes, i.zero)) = some (i.size, i.bytes, some z)) (h2 : Try.prog.underlying t = some i.desc) (hz : z.cells.toList = i.zero)
    (ha : i.agg = (match i.desc with | .struct _ | .array _ _ => true | _ => false)) (ho : i.agg = false → i.size = 1) (hl : i.zero.length = i.size) (he : ∀ n, i.eqn = some n → EqOk Try.prog t n) : TyFact Try.prog t i := by
  refine ⟨?_, h2, ha, ho, hl, he⟩
  cases hi : Try.prog.info? t with
  | none => rw [hi] at h1; cases h1
  | some info =>
    rw [hi] at h1
    simp only [Option.map_some, Option.some.injEq, Prod.mk.injEq] at h1
    exact ⟨info, z, rfl, h1.1, h1.2.1, h1.2.2, hz⟩

theorem eq33 : EqOk Try.prog 33 2 where
  guard := by kernel_rfl
  run := by
    intro xs ys w h1 h2
    match xs, ys, h1, h2 with
    | [a0, a1], [b0, b1], _, _ =>
      have u3 : Try.prog.underlying 3 = some (.int .i64) := by kernel_rfl
      have u33 : Try.prog.underlying 33 = some (.struct #[⟨"Re", 3, 0, false, "", "", 0⟩, ⟨"Im", 3, 1, false, "", "", 8⟩]) := by kernel_rfl
      have g33 : Try.prog.stoodInHeld 33 = false := by kernel_rfl
      have v33 : Try.prog.underlying 33 = some (.struct (Try.prog.fieldsOf 33)) := by kernel_rfl
      have w33 : (Try.prog.fieldsOf 33).toList = [⟨"Re", 3, 0, false, "", "", 0⟩, ⟨"Im", 3, 1, false, "", "", 8⟩] := by kernel_rfl
      have s33 : ∀ w, (sizeOf 33).run Try.prog w = .ok 2 w := fun _ => by kernel_rfl
      have p3 : ∀ w, (isAgg 3).run Try.prog w = .ok false w := fun _ => by kernel_rfl
      have p33 : ∀ w, (isAgg 33).run Try.prog w = .ok true w := fun _ => by kernel_rfl
      have e3 : ∀ (d : Nat) (a b : Int) (w : World), (Op.equalIn (d + 1) 3 (.int .i64 a) (.int .i64 b)).run Try.prog w = .ok (a == b) w := fun d a b w => run_equalIn_int w d 3 .i64 .i64 a b u3
      have e33 : ∀ (d : Nat) (xs ys : Array Value) (w : World), (Op.equalIn (d + 1) 33 (.agg xs) (.agg ys)).run Try.prog w = (Op.eqFields d xs ys (Try.prog.fieldsOf 33).toList).run Try.prog w := fun d xs ys w => run_equalIn_struct w d 33 xs ys v33 g33
      simp [ints, e3, e33, Op.eqFields, part, g33, w33, s33, p3, p33]
      try grind
theorem eq35 : EqOk Try.prog 35 4 where
  guard := by kernel_rfl
  run := by
    intro xs ys w h1 h2
    match xs, ys, h1, h2 with
    | [a0, a1, a2, a3], [b0, b1, b2, b3], _, _ =>
      have u3 : Try.prog.underlying 3 = some (.int .i64) := by kernel_rfl
      have u33 : Try.prog.underlying 33 = some (.struct #[⟨"Re", 3, 0, false, "", "", 0⟩, ⟨"Im", 3, 1, false, "", "", 8⟩]) := by kernel_rfl
      have u35 : Try.prog.underlying 35 = some (.struct #[⟨"Num", 33, 0, false, "", "", 0⟩, ⟨"Den", 33, 2, false, "", "", 16⟩]) := by kernel_rfl
      have g33 : Try.prog.stoodInHeld 33 = false := by kernel_rfl
      have v33 : Try.prog.underlying 33 = some (.struct (Try.prog.fieldsOf 33)) := by kernel_rfl
      have w33 : (Try.prog.fieldsOf 33).toList = [⟨"Re", 3, 0, false, "", "", 0⟩, ⟨"Im", 3, 1, false, "", "", 8⟩] := by kernel_rfl
      have s33 : ∀ w, (sizeOf 33).run Try.prog w = .ok 2 w := fun _ => by kernel_rfl
      have g35 : Try.prog.stoodInHeld 35 = false := by kernel_rfl
      have v35 : Try.prog.underlying 35 = some (.struct (Try.prog.fieldsOf 35)) := by kernel_rfl
      have w35 : (Try.prog.fieldsOf 35).toList = [⟨"Num", 33, 0, false, "", "", 0⟩, ⟨"Den", 33, 2, false, "", "", 16⟩] := by kernel_rfl
      have s35 : ∀ w, (sizeOf 35).run Try.prog w = .ok 4 w := fun _ => by kernel_rfl
      have p3 : ∀ w, (isAgg 3).run Try.prog w = .ok false w := fun _ => by kernel_rfl
      have p33 : ∀ w, (isAgg 33).run Try.prog w = .ok true w := fun _ => by kernel_rfl
      have p35 : ∀ w, (isAgg 35).run Try.prog w = .ok true w := fun _ => by kernel_rfl
      have e3 : ∀ (d : Nat) (a b : Int) (w : World), (Op.equalIn (d + 1) 3 (.int .i64 a) (.int .i64 b)).run Try.prog w = .ok (a == b) w := fun d a b w => run_equalIn_int w d 3 .i64 .i64 a b u3
      have e33 : ∀ (d : Nat) (xs ys : Array Value) (w : World), (Op.equalIn (d + 1) 33 (.agg xs) (.agg ys)).run Try.prog w = (Op.eqFields d xs ys (Try.prog.fieldsOf 33).toList).run Try.prog w := fun d xs ys w => run_equalIn_struct w d 33 xs ys v33 g33
      have e35 : ∀ (d : Nat) (xs ys : Array Value) (w : World), (Op.equalIn (d + 1) 35 (.agg xs) (.agg ys)).run Try.prog w = (Op.eqFields d xs ys (Try.prog.fieldsOf 35).toList).run Try.prog w := fun d xs ys w => run_equalIn_struct w d 35 xs ys v35 g35
      simp [ints, e3, e33, e35, Op.eqFields, part, g33, w33, s33, g35, w35, s35, p3, p33, p35]
      try grind
theorem eq80 : EqOk Try.prog 80 2 where
  guard := by kernel_rfl
  run := by
    intro xs ys w h1 h2
    match xs, ys, h1, h2 with
    | [a0, a1], [b0, b1], _, _ =>
      have u3 : Try.prog.underlying 3 = some (.int .i64) := by kernel_rfl
      have u80 : Try.prog.underlying 80 = some (.struct #[⟨"Num", 3, 0, false, "", "", 0⟩, ⟨"Den", 3, 1, false, "", "", 8⟩]) := by kernel_rfl
      have g80 : Try.prog.stoodInHeld 80 = false := by kernel_rfl
      have v80 : Try.prog.underlying 80 = some (.struct (Try.prog.fieldsOf 80)) := by kernel_rfl
      have w80 : (Try.prog.fieldsOf 80).toList = [⟨"Num", 3, 0, false, "", "", 0⟩, ⟨"Den", 3, 1, false, "", "", 8⟩] := by kernel_rfl
      have s80 : ∀ w, (sizeOf 80).run Try.prog w = .ok 2 w := fun _ => by kernel_rfl
      have p3 : ∀ w, (isAgg 3).run Try.prog w = .ok false w := fun _ => by kernel_rfl
      have p80 : ∀ w, (isAgg 80).run Try.prog w = .ok true w := fun _ => by kernel_rfl
      have e3 : ∀ (d : Nat) (a b : Int) (w : World), (Op.equalIn (d + 1) 3 (.int .i64 a) (.int .i64 b)).run Try.prog w = .ok (a == b) w := fun d a b w => run_equalIn_int w d 3 .i64 .i64 a b u3
      have e80 : ∀ (d : Nat) (xs ys : Array Value) (w : World), (Op.equalIn (d + 1) 80 (.agg xs) (.agg ys)).run Try.prog w = (Op.eqFields d xs ys (Try.prog.fieldsOf 80).toList).run Try.prog w := fun d xs ys w => run_equalIn_struct w d 80 xs ys v80 g80
      simp [ints, e3, e80, Op.eqFields, part, g80, w80, s80, p3, p80]
      try grind
theorem eq109 : EqOk Try.prog 109 2 where
  guard := by kernel_rfl
  run := by
    intro xs ys w h1 h2
    match xs, ys, h1, h2 with
    | [a0, a1], [b0, b1], _, _ =>
      have u3 : Try.prog.underlying 3 = some (.int .i64) := by kernel_rfl
      have u109 : Try.prog.underlying 109 = some (.struct #[⟨"Lo", 3, 0, false, "", "", 0⟩, ⟨"Hi", 3, 1, false, "", "", 8⟩]) := by kernel_rfl
      have g109 : Try.prog.stoodInHeld 109 = false := by kernel_rfl
      have v109 : Try.prog.underlying 109 = some (.struct (Try.prog.fieldsOf 109)) := by kernel_rfl
      have w109 : (Try.prog.fieldsOf 109).toList = [⟨"Lo", 3, 0, false, "", "", 0⟩, ⟨"Hi", 3, 1, false, "", "", 8⟩] := by kernel_rfl
      have s109 : ∀ w, (sizeOf 109).run Try.prog w = .ok 2 w := fun _ => by kernel_rfl
      have p3 : ∀ w, (isAgg 3).run Try.prog w = .ok false w := fun _ => by kernel_rfl
      have p109 : ∀ w, (isAgg 109).run Try.prog w = .ok true w := fun _ => by kernel_rfl
      have e3 : ∀ (d : Nat) (a b : Int) (w : World), (Op.equalIn (d + 1) 3 (.int .i64 a) (.int .i64 b)).run Try.prog w = .ok (a == b) w := fun d a b w => run_equalIn_int w d 3 .i64 .i64 a b u3
      have e109 : ∀ (d : Nat) (xs ys : Array Value) (w : World), (Op.equalIn (d + 1) 109 (.agg xs) (.agg ys)).run Try.prog w = (Op.eqFields d xs ys (Try.prog.fieldsOf 109).toList).run Try.prog w := fun d xs ys w => run_equalIn_struct w d 109 xs ys v109 g109
      simp [ints, e3, e109, Op.eqFields, part, g109, w109, s109, p3, p109]
      try grind
theorem ty_ok : TyOk Try.prog ty := by
  intro t i h
  unfold ty at h
  split at h
  · obtain rfl := Option.some.inj h
    exact fact (.int .i64 0) (by kernel_rfl) (by kernel_rfl) rfl rfl (by first | (intro _; rfl) | (intro h; cases h)) rfl (fun n hn => by first | (cases hn; done) | (obtain rfl := Option.some.inj hn; exact False.elim (by cases hn)))
  · obtain rfl := Option.some.inj h
    exact fact (.int .i64 0) (by kernel_rfl) (by kernel_rfl) rfl rfl (by first | (intro _; rfl) | (intro h; cases h)) rfl (fun n hn => by first | (cases hn; done) | (obtain rfl := Option.some.inj hn; exact False.elim (by cases hn)))
  · obtain rfl := Option.some.inj h
    exact fact (.bool false) (by kernel_rfl) (by kernel_rfl) rfl rfl (by first | (intro _; rfl) | (intro h; cases h)) rfl (fun n hn => by first | (cases hn; done) | (obtain rfl := Option.some.inj hn; exact False.elim (by cases hn)))
  · obtain rfl := Option.some.inj h
    exact fact (.int .u8 0) (by kernel_rfl) (by kernel_rfl) rfl rfl (by first | (intro _; rfl) | (intro h; cases h)) rfl (fun n hn => by first | (cases hn; done) | (obtain rfl := Option.some.inj hn; exact False.elim (by cases hn)))
  · obtain rfl := Option.some.inj h
    exact fact (.string .empty) (by kernel_rfl) (by kernel_rfl) rfl rfl (by first | (intro _; rfl) | (intro h; cases h)) rfl (fun n hn => by first | (cases hn; done) | (obtain rfl := Option.some.inj hn; exact False.elim (by cases hn)))
  · obtain rfl := Option.some.inj h
    exact fact (.int .u64 0) (by kernel_rfl) (by kernel_rfl) rfl rfl (by first | (intro _; rfl) | (intro h; cases h)) rfl (fun n hn => by first | (cases hn; done) | (obtain rfl := Option.some.inj hn; exact False.elim (by cases hn)))
  · obtain rfl := Option.some.inj h
    exact fact (.int .i32 0) (by kernel_rfl) (by kernel_rfl) rfl rfl (by first | (intro _; rfl) | (intro h; cases h)) rfl (fun n hn => by first | (cases hn; done) | (obtain rfl := Option.some.inj hn; exact False.elim (by cases hn)))
  · obtain rfl := Option.some.inj h
    exact fact (.slice none 0 0) (by kernel_rfl) (by kernel_rfl) rfl rfl (by first | (intro _; rfl) | (intro h; cases h)) rfl (fun n hn => by first | (cases hn; done) | (obtain rfl := Option.some.inj hn; exact False.elim (by cases hn)))
  · obtain rfl := Option.some.inj h
    exact fact (.agg #[.int .i64 0, .slice none 0 0]) (by kernel_rfl) (by kernel_rfl) rfl rfl (by first | (intro _; rfl) | (intro h; cases h)) rfl (fun n hn => by first | (cases hn; done) | (obtain rfl := Option.some.inj hn; exact False.elim (by cases hn)))
  · obtain rfl := Option.some.inj h
    exact fact (.agg #[.int .i64 0, .slice none 0 0]) (by kernel_rfl) (by kernel_rfl) rfl rfl (by first | (intro _; rfl) | (intro h; cases h)) rfl (fun n hn => by first | (cases hn; done) | (obtain rfl := Option.some.inj hn; exact False.elim (by cases hn)))
  · obtain rfl := Option.some.inj h
    exact fact (.slice none 0 0) (by kernel_rfl) (by kernel_rfl) rfl rfl (by first | (intro _; rfl) | (intro h; cases h)) rfl (fun n hn => by first | (cases hn; done) | (obtain rfl := Option.some.inj hn; exact False.elim (by cases hn)))
  · obtain rfl := Option.some.inj h
    exact fact (.agg #[.int .i64 0, .slice none 0 0]) (by kernel_rfl) (by kernel_rfl) rfl rfl (by first | (intro _; rfl) | (intro h; cases h)) rfl (fun n hn => by first | (cases hn; done) | (obtain rfl := Option.some.inj hn; exact False.elim (by cases hn)))
  · obtain rfl := Option.some.inj h
    exact fact (.agg #[.int .i64 0, .slice none 0 0]) (by kernel_rfl) (by kernel_rfl) rfl rfl (by first | (intro _; rfl) | (intro h; cases h)) rfl (fun n hn => by first | (cases hn; done) | (obtain rfl := Option.some.inj hn; exact False.elim (by cases hn)))
  · obtain rfl := Option.some.inj h
    exact fact (.agg #[.int .i64 0, .int .i64 0]) (by kernel_rfl) (by kernel_rfl) rfl rfl (by first | (intro _; rfl) | (intro h; cases h)) rfl (fun n hn => by first | (cases hn; done) | (obtain rfl := Option.some.inj hn; exact False.elim (by cases hn)))
  · obtain rfl := Option.some.inj h
    exact fact (.agg #[.int .i64 0, .int .i64 0]) (by kernel_rfl) (by kernel_rfl) rfl rfl (by first | (intro _; rfl) | (intro h; cases h)) rfl (fun n hn => by first | (cases hn; done) | (obtain rfl := Option.some.inj hn; exact False.elim (by cases hn)))
  · obtain rfl := Option.some.inj h
    exact fact (.agg #[.int .i64 0, .int .i64 0]) (by kernel_rfl) (by kernel_rfl) rfl rfl (by first | (intro _; rfl) | (intro h; cases h)) rfl (fun n hn => by first | (cases hn; done) | (obtain rfl := Option.some.inj hn; exact eq33))
  · obtain rfl := Option.some.inj h
    exact fact (.agg #[.int .i64 0, .int .i64 0, .int .i64 0, .int .i64 0]) (by kernel_rfl) (by kernel_rfl) rfl rfl (by first | (intro _; rfl) | (intro h; cases h)) rfl (fun n hn => by first | (cases hn; done) | (obtain rfl := Option.some.inj hn; exact False.elim (by cases hn)))
  · obtain rfl := Option.some.inj h
    exact fact (.agg #[.int .i64 0, .int .i64 0, .int .i64 0, .int .i64 0]) (by kernel_rfl) (by kernel_rfl) rfl rfl (by first | (intro _; rfl) | (intro h; cases h)) rfl (fun n hn => by first | (cases hn; done) | (obtain rfl := Option.some.inj hn; exact eq35))
  · obtain rfl := Option.some.inj h
    exact fact (.int .i64 0) (by kernel_rfl) (by kernel_rfl) rfl rfl (by first | (intro _; rfl) | (intro h; cases h)) rfl (fun n hn => by first | (cases hn; done) | (obtain rfl := Option.some.inj hn; exact False.elim (by cases hn)))
  · obtain rfl := Option.some.inj h
    exact fact (.slice none 0 0) (by kernel_rfl) (by kernel_rfl) rfl rfl (by first | (intro _; rfl) | (intro h; cases h)) rfl (fun n hn => by first | (cases hn; done) | (obtain rfl := Option.some.inj hn; exact False.elim (by cases hn)))
  · obtain rfl := Option.some.inj h
    exact fact (.slice none 0 0) (by kernel_rfl) (by kernel_rfl) rfl rfl (by first | (intro _; rfl) | (intro h; cases h)) rfl (fun n hn => by first | (cases hn; done) | (obtain rfl := Option.some.inj hn; exact False.elim (by cases hn)))
  · obtain rfl := Option.some.inj h
    exact fact (.agg #[.int .i64 0, .int .i64 0, .int .i64 0]) (by kernel_rfl) (by kernel_rfl) rfl rfl (by first | (intro _; rfl) | (intro h; cases h)) rfl (fun n hn => by first | (cases hn; done) | (obtain rfl := Option.some.inj hn; exact False.elim (by cases hn)))
  · obtain rfl := Option.some.inj h
    exact fact (.agg #[.int .i64 0, .int .i64 0, .int .i64 0]) (by kernel_rfl) (by kernel_rfl) rfl rfl (by first | (intro _; rfl) | (intro h; cases h)) rfl (fun n hn => by first | (cases hn; done) | (obtain rfl := Option.some.inj hn; exact False.elim (by cases hn)))
  · obtain rfl := Option.some.inj h
    exact fact (.agg #[.int .i64 0, .int .i64 0, .int .i64 0]) (by kernel_rfl) (by kernel_rfl) rfl rfl (by first | (intro _; rfl) | (intro h; cases h)) rfl (fun n hn => by first | (cases hn; done) | (obtain rfl := Option.some.inj hn; exact False.elim (by cases hn)))
  · obtain rfl := Option.some.inj h
    exact fact (.agg #[.int .i64 0, .int .i64 0]) (by kernel_rfl) (by kernel_rfl) rfl rfl (by first | (intro _; rfl) | (intro h; cases h)) rfl (fun n hn => by first | (cases hn; done) | (obtain rfl := Option.some.inj hn; exact False.elim (by cases hn)))
  · obtain rfl := Option.some.inj h
    exact fact (.agg #[.int .i64 0, .int .i64 0]) (by kernel_rfl) (by kernel_rfl) rfl rfl (by first | (intro _; rfl) | (intro h; cases h)) rfl (fun n hn => by first | (cases hn; done) | (obtain rfl := Option.some.inj hn; exact eq80))
  · obtain rfl := Option.some.inj h
    exact fact (.slice none 0 0) (by kernel_rfl) (by kernel_rfl) rfl rfl (by first | (intro _; rfl) | (intro h; cases h)) rfl (fun n hn => by first | (cases hn; done) | (obtain rfl := Option.some.inj hn; exact False.elim (by cases hn)))
  · obtain rfl := Option.some.inj h
    exact fact (.agg #[.int .i64 0, .slice none 0 0, .slice none 0 0]) (by kernel_rfl) (by kernel_rfl) rfl rfl (by first | (intro _; rfl) | (intro h; cases h)) rfl (fun n hn => by first | (cases hn; done) | (obtain rfl := Option.some.inj hn; exact False.elim (by cases hn)))
  · obtain rfl := Option.some.inj h
    exact fact (.agg #[.int .i64 0, .slice none 0 0, .slice none 0 0]) (by kernel_rfl) (by kernel_rfl) rfl rfl (by first | (intro _; rfl) | (intro h; cases h)) rfl (fun n hn => by first | (cases hn; done) | (obtain rfl := Option.some.inj hn; exact False.elim (by cases hn)))
  · obtain rfl := Option.some.inj h
    exact fact (.agg #[.int .i64 0, .int .i64 0, .int .i64 0, .int .i64 0, .int .i64 0]) (by kernel_rfl) (by kernel_rfl) rfl rfl (by first | (intro _; rfl) | (intro h; cases h)) rfl (fun n hn => by first | (cases hn; done) | (obtain rfl := Option.some.inj hn; exact False.elim (by cases hn)))
  · obtain rfl := Option.some.inj h
    exact fact (.agg #[.int .i64 0, .int .i64 0]) (by kernel_rfl) (by kernel_rfl) rfl rfl (by first | (intro _; rfl) | (intro h; cases h)) rfl (fun n hn => by first | (cases hn; done) | (obtain rfl := Option.some.inj hn; exact False.elim (by cases hn)))
  · obtain rfl := Option.some.inj h
    exact fact (.agg #[.int .i64 0, .int .i64 0]) (by kernel_rfl) (by kernel_rfl) rfl rfl (by first | (intro _; rfl) | (intro h; cases h)) rfl (fun n hn => by first | (cases hn; done) | (obtain rfl := Option.some.inj hn; exact eq109))
  · obtain rfl := Option.some.inj h
    exact fact (.agg #[.int .i64 0, .slice none 0 0, .int .i64 0, .slice none 0 0]) (by kernel_rfl) (by kernel_rfl) rfl rfl (by first | (intro _; rfl) | (intro h; cases h)) rfl (fun n hn => by first | (cases hn; done) | (obtain rfl := Option.some.inj hn; exact False.elim (by cases hn)))
  · obtain rfl := Option.some.inj h
    exact fact (.agg #[.int .i64 0, .slice none 0 0, .int .i64 0, .slice none 0 0]) (by kernel_rfl) (by kernel_rfl) rfl rfl (by first | (intro _; rfl) | (intro h; cases h)) rfl (fun n hn => by first | (cases hn; done) | (obtain rfl := Option.some.inj hn; exact False.elim (by cases hn)))
  · obtain rfl := Option.some.inj h
    exact fact (.agg #[.int .i64 0, .int .i64 0]) (by kernel_rfl) (by kernel_rfl) rfl rfl (by first | (intro _; rfl) | (intro h; cases h)) rfl (fun n hn => by first | (cases hn; done) | (obtain rfl := Option.some.inj hn; exact False.elim (by cases hn)))
  · obtain rfl := Option.some.inj h
    exact fact (.agg #[.int .i64 0, .int .i64 0]) (by kernel_rfl) (by kernel_rfl) rfl rfl (by first | (intro _; rfl) | (intro h; cases h)) rfl (fun n hn => by first | (cases hn; done) | (obtain rfl := Option.some.inj hn; exact False.elim (by cases hn)))
  · obtain rfl := Option.some.inj h
    exact fact (.agg #[.int .i64 0, .slice none 0 0]) (by kernel_rfl) (by kernel_rfl) rfl rfl (by first | (intro _; rfl) | (intro h; cases h)) rfl (fun n hn => by first | (cases hn; done) | (obtain rfl := Option.some.inj hn; exact False.elim (by cases hn)))
  · obtain rfl := Option.some.inj h
    exact fact (.agg #[.int .i64 0, .slice none 0 0]) (by kernel_rfl) (by kernel_rfl) rfl rfl (by first | (intro _; rfl) | (intro h; cases h)) rfl (fun n hn => by first | (cases hn; done) | (obtain rfl := Option.some.inj hn; exact False.elim (by cases hn)))
  · obtain rfl := Option.some.inj h
    exact fact (.agg #[.int .i64 0, .int .i64 0, .int .i64 0, .int .i64 0, .int .i64 0, .slice none 0 0]) (by kernel_rfl) (by kernel_rfl) rfl rfl (by first | (intro _; rfl) | (intro h; cases h)) rfl (fun n hn => by first | (cases hn; done) | (obtain rfl := Option.some.inj hn; exact False.elim (by cases hn)))
  · obtain rfl := Option.some.inj h
    exact fact (.agg #[.int .i64 0, .int .i64 0, .int .i64 0, .int .i64 0, .int .i64 0, .slice none 0 0]) (by kernel_rfl) (by kernel_rfl) rfl rfl (by first | (intro _; rfl) | (intro h; cases h)) rfl (fun n hn => by first | (cases hn; done) | (obtain rfl := Option.some.inj hn; exact False.elim (by cases hn)))
  · obtain rfl := Option.some.inj h
    exact fact (.agg #[.slice none 0 0, .slice none 0 0]) (by kernel_rfl) (by kernel_rfl) rfl rfl (by first | (intro _; rfl) | (intro h; cases h)) rfl (fun n hn => by first | (cases hn; done) | (obtain rfl := Option.some.inj hn; exact False.elim (by cases hn)))
  · obtain rfl := Option.some.inj h
    exact fact (.agg #[.slice none 0 0, .slice none 0 0]) (by kernel_rfl) (by kernel_rfl) rfl rfl (by first | (intro _; rfl) | (intro h; cases h)) rfl (fun n hn => by first | (cases hn; done) | (obtain rfl := Option.some.inj hn; exact False.elim (by cases hn)))
  · obtain rfl := Option.some.inj h
    exact fact (.slice none 0 0) (by kernel_rfl) (by kernel_rfl) rfl rfl (by first | (intro _; rfl) | (intro h; cases h)) rfl (fun n hn => by first | (cases hn; done) | (obtain rfl := Option.some.inj hn; exact False.elim (by cases hn)))
  · obtain rfl := Option.some.inj h
    exact fact (.agg #[.slice none 0 0, .slice none 0 0, .slice none 0 0, .slice none 0 0]) (by kernel_rfl) (by kernel_rfl) rfl rfl (by first | (intro _; rfl) | (intro h; cases h)) rfl (fun n hn => by first | (cases hn; done) | (obtain rfl := Option.some.inj hn; exact False.elim (by cases hn)))
  · obtain rfl := Option.some.inj h
    exact fact (.agg #[.slice none 0 0, .slice none 0 0, .slice none 0 0, .slice none 0 0]) (by kernel_rfl) (by kernel_rfl) rfl rfl (by first | (intro _; rfl) | (intro h; cases h)) rfl (fun n hn => by first | (cases hn; done) | (obtain rfl := Option.some.inj hn; exact False.elim (by cases hn)))
  · obtain rfl := Option.some.inj h
    exact fact (.slice none 0 0) (by kernel_rfl) (by kernel_rfl) rfl rfl (by first | (intro _; rfl) | (intro h; cases h)) rfl (fun n hn => by first | (cases hn; done) | (obtain rfl := Option.some.inj hn; exact False.elim (by cases hn)))
  · obtain rfl := Option.some.inj h
    exact fact (.agg #[]) (by kernel_rfl) (by kernel_rfl) rfl rfl (by first | (intro _; rfl) | (intro h; cases h)) rfl (fun n hn => by first | (cases hn; done) | (obtain rfl := Option.some.inj hn; exact False.elim (by cases hn)))
  · obtain rfl := Option.some.inj h
    exact fact (.int .u32 0) (by kernel_rfl) (by kernel_rfl) rfl rfl (by first | (intro _; rfl) | (intro h; cases h)) rfl (fun n hn => by first | (cases hn; done) | (obtain rfl := Option.some.inj hn; exact False.elim (by cases hn)))
  · obtain rfl := Option.some.inj h
    exact fact (.agg #[.int .u64 0, .int .u64 0, .int .u32 0, .int .u8 0, .int .u8 0, .int .u8 0, .int .u8 0, .nilFunc, .pointer none, .int .i32 0, .int .i32 0]) (by kernel_rfl) (by kernel_rfl) rfl rfl (by first | (intro _; rfl) | (intro h; cases h)) rfl (fun n hn => by first | (cases hn; done) | (obtain rfl := Option.some.inj hn; exact False.elim (by cases hn)))
  · cases h

end Go.Proofs.Ytagnplbfdaifkaa
