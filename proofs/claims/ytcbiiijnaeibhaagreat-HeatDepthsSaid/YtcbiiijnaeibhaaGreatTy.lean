/-
  The types of the translation, as the abstract machine uses them: a table, and that it agrees with the program's. Written by a program of ours (gen_ty.py).
-/
import Derived.Test.YtcbiiijnaeibhaaGreatProg
import Derived.Test.YtcbiiijnaeibhaaGreatAbsC
import Derived.KernelRfl
set_option linter.unusedSimpArgs false
set_option linter.unusedVariables false
namespace Go.Proofs.YtcbiiijnaeibhaaGreat
open Go.Abs

def ti2 : TI := { size := 1, bytes := 8, agg := false, zero := [.int .i64 0], desc := .int .i64 }
def ti3 : TI := { size := 1, bytes := 8, agg := false, zero := [.int .i64 0], desc := .int .i64 }
def ti4 : TI := { size := 1, bytes := 1, agg := false, zero := [.bool false], desc := .bool }
def ti5 : TI := { size := 1, bytes := 1, agg := false, zero := [.int .u8 0], desc := .int .u8 }
def ti9 : TI := { size := 1, bytes := 16, agg := false, zero := [.string .empty], desc := .string }
def ti12 : TI := { size := 1, bytes := 8, agg := false, zero := [.int .u64 0], desc := .int .u64 }
def ti21 : TI := { size := 1, bytes := 4, agg := false, zero := [.int .i32 0], desc := .int .i32 }
def ti22 : TI := { size := 1, bytes := 24, agg := false, zero := [.slice none 0 0], desc := .slice 112 }
def ti23 : TI := { size := 1, bytes := 24, agg := false, zero := [.slice none 0 0], desc := .slice 77 }
def ti24 : TI := { size := 4, bytes := 64, agg := true, zero := [.int .i64 0, .int .i64 0, .slice none 0 0, .slice none 0 0], desc := .struct #[⟨"Cells", 3, 0, false, "", "", 0⟩, ⟨"Exchange", 3, 1, false, "", "", 8⟩, ⟨"Table", 22, 2, false, "", "", 16⟩, ⟨"Laws", 23, 3, false, "", "", 40⟩] }
def ti25 : TI := { size := 4, bytes := 64, agg := true, zero := [.int .i64 0, .int .i64 0, .slice none 0 0, .slice none 0 0], desc := .struct #[⟨"Cells", 3, 0, false, "", "", 0⟩, ⟨"Exchange", 3, 1, false, "", "", 8⟩, ⟨"Table", 22, 2, false, "", "", 16⟩, ⟨"Laws", 23, 3, false, "", "", 40⟩] }
def ti26 : TI := { size := 1, bytes := 24, agg := false, zero := [.slice none 0 0], desc := .slice 3 }
def ti27 : TI := { size := 2, bytes := 48, agg := true, zero := [.slice none 0 0, .slice none 0 0], desc := .struct #[⟨"Lo", 26, 0, false, "", "", 0⟩, ⟨"Hi", 26, 1, false, "", "", 24⟩] }
def ti28 : TI := { size := 2, bytes := 48, agg := true, zero := [.slice none 0 0, .slice none 0 0], desc := .struct #[⟨"Lo", 26, 0, false, "", "", 0⟩, ⟨"Hi", 26, 1, false, "", "", 24⟩] }
def ti29 : TI := { size := 1, bytes := 24, agg := false, zero := [.slice none 0 0], desc := .slice 67 }
def ti30 : TI := { size := 2, bytes := 32, agg := true, zero := [.slice none 0 0, .int .i64 0], desc := .struct #[⟨"Spans", 29, 0, false, "", "", 0⟩, ⟨"Kelvin", 3, 1, false, "", "", 24⟩] }
def ti31 : TI := { size := 2, bytes := 32, agg := true, zero := [.slice none 0 0, .int .i64 0], desc := .struct #[⟨"Spans", 29, 0, false, "", "", 0⟩, ⟨"Kelvin", 3, 1, false, "", "", 24⟩] }
def ti36 : TI := { size := 1, bytes := 8, agg := false, zero := [.int .i64 0], desc := .int .i64 }
def ti41 : TI := { size := 2, bytes := 16, agg := true, zero := [.int .i64 0, .int .i64 0], desc := .struct #[⟨"Lo", 3, 0, false, "", "", 0⟩, ⟨"Hi", 3, 1, false, "", "", 8⟩] }
def ti42 : TI := { size := 2, bytes := 16, agg := true, zero := [.int .i64 0, .int .i64 0], desc := .struct #[⟨"Lo", 3, 0, false, "", "", 0⟩, ⟨"Hi", 3, 1, false, "", "", 8⟩], eqn := some 2 }
def ti61 : TI := { size := 2, bytes := 32, agg := true, zero := [.slice none 0 0, .int .i64 0], desc := .struct #[⟨"Powers", 26, 0, false, "", "", 0⟩, ⟨"Law", 3, 1, false, "", "", 24⟩] }
def ti62 : TI := { size := 2, bytes := 32, agg := true, zero := [.slice none 0 0, .int .i64 0], desc := .struct #[⟨"Powers", 26, 0, false, "", "", 0⟩, ⟨"Law", 3, 1, false, "", "", 24⟩] }
def ti65 : TI := { size := 1, bytes := 24, agg := false, zero := [.slice none 0 0], desc := .slice 42 }
def ti66 : TI := { size := 3, bytes := 40, agg := true, zero := [.slice none 0 0, .int .i64 0, .int .i64 0], desc := .struct #[⟨"Powers", 65, 0, false, "", "", 0⟩, ⟨"Laws", 42, 1, false, "", "", 24⟩] }
def ti67 : TI := { size := 3, bytes := 40, agg := true, zero := [.slice none 0 0, .int .i64 0, .int .i64 0], desc := .struct #[⟨"Powers", 65, 0, false, "", "", 0⟩, ⟨"Laws", 42, 1, false, "", "", 24⟩] }
def ti69 : TI := { size := 5, bytes := 56, agg := true, zero := [.slice none 0 0, .int .i64 0, .int .i64 0, .int .i64 0, .int .i64 0], desc := .struct #[⟨"Drive", 62, 0, false, "", "", 0⟩, ⟨"Kelvin", 3, 2, false, "", "", 32⟩, ⟨"Depth", 3, 3, false, "", "", 40⟩, ⟨"Most", 3, 4, false, "", "", 48⟩] }
def ti70 : TI := { size := 5, bytes := 56, agg := true, zero := [.slice none 0 0, .int .i64 0, .int .i64 0, .int .i64 0, .int .i64 0], desc := .struct #[⟨"Drive", 62, 0, false, "", "", 0⟩, ⟨"Kelvin", 3, 2, false, "", "", 32⟩, ⟨"Depth", 3, 3, false, "", "", 40⟩, ⟨"Most", 3, 4, false, "", "", 48⟩] }
def ti72 : TI := { size := 3, bytes := 24, agg := true, zero := [.int .i64 0, .int .i64 0, .int .i64 0], desc := .struct #[⟨"Start", 3, 0, false, "", "", 0⟩, ⟨"Gain", 3, 1, false, "", "", 8⟩, ⟨"Boiling", 3, 2, false, "", "", 16⟩] }
def ti73 : TI := { size := 3, bytes := 24, agg := true, zero := [.int .i64 0, .int .i64 0, .int .i64 0], desc := .struct #[⟨"Start", 3, 0, false, "", "", 0⟩, ⟨"Gain", 3, 1, false, "", "", 8⟩, ⟨"Boiling", 3, 2, false, "", "", 16⟩] }
def ti77 : TI := { size := 1, bytes := 24, agg := false, zero := [.slice none 0 0], desc := .slice 114 }
def ti79 : TI := { size := 1, bytes := 24, agg := false, zero := [.slice none 0 0], desc := .slice 152 }
def ti80 : TI := { size := 1, bytes := 24, agg := false, zero := [.slice none 0 0], desc := .slice 79 }
def ti81 : TI := { size := 6, bytes := 112, agg := true, zero := [.int .i64 0, .int .i64 0, .slice none 0 0, .slice none 0 0, .slice none 0 0, .slice none 0 0], desc := .struct #[⟨"HeatSetup", 25, 0, true, "", "", 0⟩, ⟨"table", 79, 4, false, "", "martensite/heat", 64⟩, ⟨"laws", 80, 5, false, "", "martensite/heat", 88⟩] }
def ti82 : TI := { size := 6, bytes := 112, agg := true, zero := [.int .i64 0, .int .i64 0, .slice none 0 0, .slice none 0 0, .slice none 0 0, .slice none 0 0], desc := .struct #[⟨"HeatSetup", 25, 0, true, "", "", 0⟩, ⟨"table", 79, 4, false, "", "martensite/heat", 64⟩, ⟨"laws", 80, 5, false, "", "martensite/heat", 88⟩] }
def ti89 : TI := { size := 1, bytes := 24, agg := false, zero := [.slice none 0 0], desc := .slice 28 }
def ti92 : TI := { size := 1, bytes := 24, agg := false, zero := [.slice none 0 0], desc := .slice 26 }
def ti111 : TI := { size := 2, bytes := 16, agg := true, zero := [.int .i64 0, .int .i64 0], desc := .struct #[⟨"Energy", 3, 0, false, "", "", 0⟩, ⟨"Kelvin", 3, 1, false, "", "", 8⟩] }
def ti112 : TI := { size := 2, bytes := 16, agg := true, zero := [.int .i64 0, .int .i64 0], desc := .struct #[⟨"Energy", 3, 0, false, "", "", 0⟩, ⟨"Kelvin", 3, 1, false, "", "", 8⟩] }
def ti113 : TI := { size := 2, bytes := 16, agg := true, zero := [.int .i64 0, .int .i64 0], desc := .struct #[⟨"Kelvin", 3, 0, false, "", "", 0⟩, ⟨"Loss", 3, 1, false, "", "", 8⟩] }
def ti114 : TI := { size := 2, bytes := 16, agg := true, zero := [.int .i64 0, .int .i64 0], desc := .struct #[⟨"Kelvin", 3, 0, false, "", "", 0⟩, ⟨"Loss", 3, 1, false, "", "", 8⟩] }
def ti123 : TI := { size := 1, bytes := 24, agg := false, zero := [.slice none 0 0], desc := .slice 36 }
def ti127 : TI := { size := 2, bytes := 16, agg := true, zero := [.int .i64 0, .int .i64 0], desc := .struct #[⟨"num", 3, 0, false, "", "martensite/heat", 0⟩, ⟨"den", 3, 1, false, "", "martensite/heat", 8⟩] }
def ti128 : TI := { size := 2, bytes := 16, agg := true, zero := [.int .i64 0, .int .i64 0], desc := .struct #[⟨"num", 3, 0, false, "", "martensite/heat", 0⟩, ⟨"den", 3, 1, false, "", "martensite/heat", 8⟩] }
def ti151 : TI := { size := 2, bytes := 16, agg := true, zero := [.int .i64 0, .int .i64 0], desc := .struct #[⟨"x", 3, 0, false, "", "martensite/heat", 0⟩, ⟨"y", 3, 1, false, "", "martensite/heat", 8⟩] }
def ti152 : TI := { size := 2, bytes := 16, agg := true, zero := [.int .i64 0, .int .i64 0], desc := .struct #[⟨"x", 3, 0, false, "", "martensite/heat", 0⟩, ⟨"y", 3, 1, false, "", "martensite/heat", 8⟩] }
def ti161 : TI := { size := 1, bytes := 8, agg := false, zero := [.int .u64 0], desc := .int .u64 }
def ti166 : TI := { size := 0, bytes := 0, agg := true, zero := [], desc := .array 0 16 }
def ti170 : TI := { size := 1, bytes := 4, agg := false, zero := [.int .u32 0], desc := .int .u32 }
def ti177 : TI := { size := 11, bytes := 48, agg := true, zero := [.int .u64 0, .int .u64 0, .int .u32 0, .int .u8 0, .int .u8 0, .int .u8 0, .int .u8 0, .nilFunc, .pointer none, .int .i32 0, .int .i32 0], desc := .struct #[⟨"Size_", 12, 0, false, "", "", 0⟩, ⟨"PtrBytes", 12, 1, false, "", "", 8⟩, ⟨"Hash", 170, 2, false, "", "", 16⟩, ⟨"TFlag", 171, 3, false, "", "", 20⟩, ⟨"Align_", 5, 4, false, "", "", 21⟩, ⟨"FieldAlign_", 5, 5, false, "", "", 22⟩, ⟨"Kind_", 172, 6, false, "", "", 23⟩, ⟨"Equal", 173, 7, false, "", "", 24⟩, ⟨"GCData", 174, 8, false, "", "", 32⟩, ⟨"Str", 175, 9, false, "", "", 40⟩, ⟨"PtrToThis", 176, 10, false, "", "", 44⟩] }
def ty : Tys := fun t => match t with
  | 2 => some ti2
  | 3 => some ti3
  | 4 => some ti4
  | 5 => some ti5
  | 9 => some ti9
  | 12 => some ti12
  | 21 => some ti21
  | 22 => some ti22
  | 23 => some ti23
  | 24 => some ti24
  | 25 => some ti25
  | 26 => some ti26
  | 27 => some ti27
  | 28 => some ti28
  | 29 => some ti29
  | 30 => some ti30
  | 31 => some ti31
  | 36 => some ti36
  | 41 => some ti41
  | 42 => some ti42
  | 61 => some ti61
  | 62 => some ti62
  | 65 => some ti65
  | 66 => some ti66
  | 67 => some ti67
  | 69 => some ti69
  | 70 => some ti70
  | 72 => some ti72
  | 73 => some ti73
  | 77 => some ti77
  | 79 => some ti79
  | 80 => some ti80
  | 81 => some ti81
  | 82 => some ti82
  | 89 => some ti89
  | 92 => some ti92
  | 111 => some ti111
  | 112 => some ti112
  | 113 => some ti113
  | 114 => some ti114
  | 123 => some ti123
  | 127 => some ti127
  | 128 => some ti128
  | 151 => some ti151
  | 152 => some ti152
  | 161 => some ti161
  | 166 => some ti166
  | 170 => some ti170
  | 177 => some ti177
  | _ => none
@[go_sem] theorem ty_2 : ty 2 = some ti2 := rfl
@[go_sem] theorem ty_3 : ty 3 = some ti3 := rfl
@[go_sem] theorem ty_4 : ty 4 = some ti4 := rfl
@[go_sem] theorem ty_5 : ty 5 = some ti5 := rfl
@[go_sem] theorem ty_9 : ty 9 = some ti9 := rfl
@[go_sem] theorem ty_12 : ty 12 = some ti12 := rfl
@[go_sem] theorem ty_21 : ty 21 = some ti21 := rfl
@[go_sem] theorem ty_22 : ty 22 = some ti22 := rfl
@[go_sem] theorem ty_23 : ty 23 = some ti23 := rfl
@[go_sem] theorem ty_24 : ty 24 = some ti24 := rfl
@[go_sem] theorem ty_25 : ty 25 = some ti25 := rfl
@[go_sem] theorem ty_26 : ty 26 = some ti26 := rfl
@[go_sem] theorem ty_27 : ty 27 = some ti27 := rfl
@[go_sem] theorem ty_28 : ty 28 = some ti28 := rfl
@[go_sem] theorem ty_29 : ty 29 = some ti29 := rfl
@[go_sem] theorem ty_30 : ty 30 = some ti30 := rfl
@[go_sem] theorem ty_31 : ty 31 = some ti31 := rfl
@[go_sem] theorem ty_36 : ty 36 = some ti36 := rfl
@[go_sem] theorem ty_41 : ty 41 = some ti41 := rfl
@[go_sem] theorem ty_42 : ty 42 = some ti42 := rfl
@[go_sem] theorem ty_61 : ty 61 = some ti61 := rfl
@[go_sem] theorem ty_62 : ty 62 = some ti62 := rfl
@[go_sem] theorem ty_65 : ty 65 = some ti65 := rfl
@[go_sem] theorem ty_66 : ty 66 = some ti66 := rfl
@[go_sem] theorem ty_67 : ty 67 = some ti67 := rfl
@[go_sem] theorem ty_69 : ty 69 = some ti69 := rfl
@[go_sem] theorem ty_70 : ty 70 = some ti70 := rfl
@[go_sem] theorem ty_72 : ty 72 = some ti72 := rfl
@[go_sem] theorem ty_73 : ty 73 = some ti73 := rfl
@[go_sem] theorem ty_77 : ty 77 = some ti77 := rfl
@[go_sem] theorem ty_79 : ty 79 = some ti79 := rfl
@[go_sem] theorem ty_80 : ty 80 = some ti80 := rfl
@[go_sem] theorem ty_81 : ty 81 = some ti81 := rfl
@[go_sem] theorem ty_82 : ty 82 = some ti82 := rfl
@[go_sem] theorem ty_89 : ty 89 = some ti89 := rfl
@[go_sem] theorem ty_92 : ty 92 = some ti92 := rfl
@[go_sem] theorem ty_111 : ty 111 = some ti111 := rfl
@[go_sem] theorem ty_112 : ty 112 = some ti112 := rfl
@[go_sem] theorem ty_113 : ty 113 = some ti113 := rfl
@[go_sem] theorem ty_114 : ty 114 = some ti114 := rfl
@[go_sem] theorem ty_123 : ty 123 = some ti123 := rfl
@[go_sem] theorem ty_127 : ty 127 = some ti127 := rfl
@[go_sem] theorem ty_128 : ty 128 = some ti128 := rfl
@[go_sem] theorem ty_151 : ty 151 = some ti151 := rfl
@[go_sem] theorem ty_152 : ty 152 = some ti152 := rfl
@[go_sem] theorem ty_161 : ty 161 = some ti161 := rfl
@[go_sem] theorem ty_166 : ty 166 = some ti166 := rfl
@[go_sem] theorem ty_170 : ty 170 = some ti170 := rfl
@[go_sem] theorem ty_177 : ty 177 = some ti177 := rfl
attribute [go_sem] ti2 ti3 ti4 ti5 ti9 ti12 ti21 ti22 ti23 ti24 ti25 ti26 ti27 ti28 ti29 ti30 ti31 ti36 ti41 ti42 ti61 ti62 ti65 ti66 ti67 ti69 ti70 ti72 ti73 ti77 ti79 ti80 ti81 ti82 ti89 ti92 ti111 ti112 ti113 ti114 ti123 ti127 ti128 ti151 ti152 ti161 ti166 ti170 ti177

theorem fact {t : Nat} {i : TI} (z : Value) (h1 : (Tryz.prog.info? t).map (fun i => (i.size, i.bytes, i.zero)) = some (i.size, i.bytes, some z)) (h2 : Tryz.prog.underlying t = some i.desc) (hz : z.cells.toList = i.zero)
    (ha : i.agg = (match i.desc with | .struct _ | .array _ _ => true | _ => false)) (ho : i.agg = false → i.size = 1) (hl : i.zero.length = i.size) (he : ∀ n, i.eqn = some n → EqOk Tryz.prog t n) : TyFact Tryz.prog t i := by
  refine ⟨?_, h2, ha, ho, hl, he⟩
  cases hi : Tryz.prog.info? t with
  | none => rw [hi] at h1; cases h1
  | some info =>
    rw [hi] at h1
    simp only [Option.map_some, Option.some.injEq, Prod.mk.injEq] at h1
    exact ⟨info, z, rfl, h1.1, h1.2.1, h1.2.2, hz⟩

theorem eq42 : EqOk Tryz.prog 42 2 where
  guard := by kernel_rfl
  run := by
    intro xs ys w h1 h2
    match xs, ys, h1, h2 with
    | [a0, a1], [b0, b1], _, _ =>
      have u3 : Tryz.prog.underlying 3 = some (.int .i64) := by kernel_rfl
      have u42 : Tryz.prog.underlying 42 = some (.struct #[⟨"Lo", 3, 0, false, "", "", 0⟩, ⟨"Hi", 3, 1, false, "", "", 8⟩]) := by kernel_rfl
      have g42 : Tryz.prog.stoodInHeld 42 = false := by kernel_rfl
      have v42 : Tryz.prog.underlying 42 = some (.struct (Tryz.prog.fieldsOf 42)) := by kernel_rfl
      have w42 : (Tryz.prog.fieldsOf 42).toList = [⟨"Lo", 3, 0, false, "", "", 0⟩, ⟨"Hi", 3, 1, false, "", "", 8⟩] := by kernel_rfl
      have s42 : ∀ w, (sizeOf 42).run Tryz.prog w = .ok 2 w := fun _ => by kernel_rfl
      have p3 : ∀ w, (isAgg 3).run Tryz.prog w = .ok false w := fun _ => by kernel_rfl
      have p42 : ∀ w, (isAgg 42).run Tryz.prog w = .ok true w := fun _ => by kernel_rfl
      have e3 : ∀ (d : Nat) (a b : Int) (w : World), (Op.equalIn (d + 1) 3 (.int .i64 a) (.int .i64 b)).run Tryz.prog w = .ok (a == b) w := fun d a b w => run_equalIn_int w d 3 .i64 .i64 a b u3
      have e42 : ∀ (d : Nat) (xs ys : Array Value) (w : World), (Op.equalIn (d + 1) 42 (.agg xs) (.agg ys)).run Tryz.prog w = (Op.eqFields d xs ys (Tryz.prog.fieldsOf 42).toList).run Tryz.prog w := fun d xs ys w => run_equalIn_struct w d 42 xs ys v42 g42
      simp [ints, e3, e42, Op.eqFields, part, g42, w42, s42, p3, p42]
      try grind
theorem ty_ok : TyOk Tryz.prog ty := by
  intro t i h
  unfold ty at h
  split at h
  · obtain rfl := Option.some.inj h
    exact fact (.int .i64 0) (by kernel_rfl) (by kernel_rfl) rfl rfl (by first | (intro _; rfl) | (intro h; cases h)) rfl (fun n hn => by first | (cases hn; done) | (obtain rfl := Option.some.inj hn; exact False.elim (by cases hn)))
  · obtain rfl := Option.some.inj h
    exact fact (.int .i64 0) (by kernel_rfl) (by kernel_rfl) rfl rfl (by first | (intro _; rfl) | (intro h; cases h)) rfl (fun n hn => by first | (cases hn; done) | (obtain rfl := Option.some.inj hn; exact False.elim (by cases hn)))
  · obtain rfl := Option.some.inj h
    exact fact (.bool false) (by kernel_rfl) (by kernel_rfl) rfl rfl (by first | (intro _; rfl) | (intro h; cases h)) rfl (fun n hn => by first | (cases hn; done) | (obtain rfl := Option.some.inj hn; exact False.elim (by cases hn)))
  · obtain rfl := Option.some.inj h
    exact fact (.int .u8 0) (by kernel_rfl) (by kernel_rfl) rfl rfl (by first | (intro _; rfl) | (intro h; cases h)) rfl (fun n hn => by first | (cases hn; done) | (obtain rfl := Option.some.inj hn; exact False.elim (by cases hn)))
  · obtain rfl := Option.some.inj h
    exact fact (.string .empty) (by kernel_rfl) (by kernel_rfl) rfl rfl (by first | (intro _; rfl) | (intro h; cases h)) rfl (fun n hn => by first | (cases hn; done) | (obtain rfl := Option.some.inj hn; exact False.elim (by cases hn)))
  · obtain rfl := Option.some.inj h
    exact fact (.int .u64 0) (by kernel_rfl) (by kernel_rfl) rfl rfl (by first | (intro _; rfl) | (intro h; cases h)) rfl (fun n hn => by first | (cases hn; done) | (obtain rfl := Option.some.inj hn; exact False.elim (by cases hn)))
  · obtain rfl := Option.some.inj h
    exact fact (.int .i32 0) (by kernel_rfl) (by kernel_rfl) rfl rfl (by first | (intro _; rfl) | (intro h; cases h)) rfl (fun n hn => by first | (cases hn; done) | (obtain rfl := Option.some.inj hn; exact False.elim (by cases hn)))
  · obtain rfl := Option.some.inj h
    exact fact (.slice none 0 0) (by kernel_rfl) (by kernel_rfl) rfl rfl (by first | (intro _; rfl) | (intro h; cases h)) rfl (fun n hn => by first | (cases hn; done) | (obtain rfl := Option.some.inj hn; exact False.elim (by cases hn)))
  · obtain rfl := Option.some.inj h
    exact fact (.slice none 0 0) (by kernel_rfl) (by kernel_rfl) rfl rfl (by first | (intro _; rfl) | (intro h; cases h)) rfl (fun n hn => by first | (cases hn; done) | (obtain rfl := Option.some.inj hn; exact False.elim (by cases hn)))
  · obtain rfl := Option.some.inj h
    exact fact (.agg #[.int .i64 0, .int .i64 0, .slice none 0 0, .slice none 0 0]) (by kernel_rfl) (by kernel_rfl) rfl rfl (by first | (intro _; rfl) | (intro h; cases h)) rfl (fun n hn => by first | (cases hn; done) | (obtain rfl := Option.some.inj hn; exact False.elim (by cases hn)))
  · obtain rfl := Option.some.inj h
    exact fact (.agg #[.int .i64 0, .int .i64 0, .slice none 0 0, .slice none 0 0]) (by kernel_rfl) (by kernel_rfl) rfl rfl (by first | (intro _; rfl) | (intro h; cases h)) rfl (fun n hn => by first | (cases hn; done) | (obtain rfl := Option.some.inj hn; exact False.elim (by cases hn)))
  · obtain rfl := Option.some.inj h
    exact fact (.slice none 0 0) (by kernel_rfl) (by kernel_rfl) rfl rfl (by first | (intro _; rfl) | (intro h; cases h)) rfl (fun n hn => by first | (cases hn; done) | (obtain rfl := Option.some.inj hn; exact False.elim (by cases hn)))
  · obtain rfl := Option.some.inj h
    exact fact (.agg #[.slice none 0 0, .slice none 0 0]) (by kernel_rfl) (by kernel_rfl) rfl rfl (by first | (intro _; rfl) | (intro h; cases h)) rfl (fun n hn => by first | (cases hn; done) | (obtain rfl := Option.some.inj hn; exact False.elim (by cases hn)))
  · obtain rfl := Option.some.inj h
    exact fact (.agg #[.slice none 0 0, .slice none 0 0]) (by kernel_rfl) (by kernel_rfl) rfl rfl (by first | (intro _; rfl) | (intro h; cases h)) rfl (fun n hn => by first | (cases hn; done) | (obtain rfl := Option.some.inj hn; exact False.elim (by cases hn)))
  · obtain rfl := Option.some.inj h
    exact fact (.slice none 0 0) (by kernel_rfl) (by kernel_rfl) rfl rfl (by first | (intro _; rfl) | (intro h; cases h)) rfl (fun n hn => by first | (cases hn; done) | (obtain rfl := Option.some.inj hn; exact False.elim (by cases hn)))
  · obtain rfl := Option.some.inj h
    exact fact (.agg #[.slice none 0 0, .int .i64 0]) (by kernel_rfl) (by kernel_rfl) rfl rfl (by first | (intro _; rfl) | (intro h; cases h)) rfl (fun n hn => by first | (cases hn; done) | (obtain rfl := Option.some.inj hn; exact False.elim (by cases hn)))
  · obtain rfl := Option.some.inj h
    exact fact (.agg #[.slice none 0 0, .int .i64 0]) (by kernel_rfl) (by kernel_rfl) rfl rfl (by first | (intro _; rfl) | (intro h; cases h)) rfl (fun n hn => by first | (cases hn; done) | (obtain rfl := Option.some.inj hn; exact False.elim (by cases hn)))
  · obtain rfl := Option.some.inj h
    exact fact (.int .i64 0) (by kernel_rfl) (by kernel_rfl) rfl rfl (by first | (intro _; rfl) | (intro h; cases h)) rfl (fun n hn => by first | (cases hn; done) | (obtain rfl := Option.some.inj hn; exact False.elim (by cases hn)))
  · obtain rfl := Option.some.inj h
    exact fact (.agg #[.int .i64 0, .int .i64 0]) (by kernel_rfl) (by kernel_rfl) rfl rfl (by first | (intro _; rfl) | (intro h; cases h)) rfl (fun n hn => by first | (cases hn; done) | (obtain rfl := Option.some.inj hn; exact False.elim (by cases hn)))
  · obtain rfl := Option.some.inj h
    exact fact (.agg #[.int .i64 0, .int .i64 0]) (by kernel_rfl) (by kernel_rfl) rfl rfl (by first | (intro _; rfl) | (intro h; cases h)) rfl (fun n hn => by first | (cases hn; done) | (obtain rfl := Option.some.inj hn; exact eq42))
  · obtain rfl := Option.some.inj h
    exact fact (.agg #[.slice none 0 0, .int .i64 0]) (by kernel_rfl) (by kernel_rfl) rfl rfl (by first | (intro _; rfl) | (intro h; cases h)) rfl (fun n hn => by first | (cases hn; done) | (obtain rfl := Option.some.inj hn; exact False.elim (by cases hn)))
  · obtain rfl := Option.some.inj h
    exact fact (.agg #[.slice none 0 0, .int .i64 0]) (by kernel_rfl) (by kernel_rfl) rfl rfl (by first | (intro _; rfl) | (intro h; cases h)) rfl (fun n hn => by first | (cases hn; done) | (obtain rfl := Option.some.inj hn; exact False.elim (by cases hn)))
  · obtain rfl := Option.some.inj h
    exact fact (.slice none 0 0) (by kernel_rfl) (by kernel_rfl) rfl rfl (by first | (intro _; rfl) | (intro h; cases h)) rfl (fun n hn => by first | (cases hn; done) | (obtain rfl := Option.some.inj hn; exact False.elim (by cases hn)))
  · obtain rfl := Option.some.inj h
    exact fact (.agg #[.slice none 0 0, .int .i64 0, .int .i64 0]) (by kernel_rfl) (by kernel_rfl) rfl rfl (by first | (intro _; rfl) | (intro h; cases h)) rfl (fun n hn => by first | (cases hn; done) | (obtain rfl := Option.some.inj hn; exact False.elim (by cases hn)))
  · obtain rfl := Option.some.inj h
    exact fact (.agg #[.slice none 0 0, .int .i64 0, .int .i64 0]) (by kernel_rfl) (by kernel_rfl) rfl rfl (by first | (intro _; rfl) | (intro h; cases h)) rfl (fun n hn => by first | (cases hn; done) | (obtain rfl := Option.some.inj hn; exact False.elim (by cases hn)))
  · obtain rfl := Option.some.inj h
    exact fact (.agg #[.slice none 0 0, .int .i64 0, .int .i64 0, .int .i64 0, .int .i64 0]) (by kernel_rfl) (by kernel_rfl) rfl rfl (by first | (intro _; rfl) | (intro h; cases h)) rfl (fun n hn => by first | (cases hn; done) | (obtain rfl := Option.some.inj hn; exact False.elim (by cases hn)))
  · obtain rfl := Option.some.inj h
    exact fact (.agg #[.slice none 0 0, .int .i64 0, .int .i64 0, .int .i64 0, .int .i64 0]) (by kernel_rfl) (by kernel_rfl) rfl rfl (by first | (intro _; rfl) | (intro h; cases h)) rfl (fun n hn => by first | (cases hn; done) | (obtain rfl := Option.some.inj hn; exact False.elim (by cases hn)))
  · obtain rfl := Option.some.inj h
    exact fact (.agg #[.int .i64 0, .int .i64 0, .int .i64 0]) (by kernel_rfl) (by kernel_rfl) rfl rfl (by first | (intro _; rfl) | (intro h; cases h)) rfl (fun n hn => by first | (cases hn; done) | (obtain rfl := Option.some.inj hn; exact False.elim (by cases hn)))
  · obtain rfl := Option.some.inj h
    exact fact (.agg #[.int .i64 0, .int .i64 0, .int .i64 0]) (by kernel_rfl) (by kernel_rfl) rfl rfl (by first | (intro _; rfl) | (intro h; cases h)) rfl (fun n hn => by first | (cases hn; done) | (obtain rfl := Option.some.inj hn; exact False.elim (by cases hn)))
  · obtain rfl := Option.some.inj h
    exact fact (.slice none 0 0) (by kernel_rfl) (by kernel_rfl) rfl rfl (by first | (intro _; rfl) | (intro h; cases h)) rfl (fun n hn => by first | (cases hn; done) | (obtain rfl := Option.some.inj hn; exact False.elim (by cases hn)))
  · obtain rfl := Option.some.inj h
    exact fact (.slice none 0 0) (by kernel_rfl) (by kernel_rfl) rfl rfl (by first | (intro _; rfl) | (intro h; cases h)) rfl (fun n hn => by first | (cases hn; done) | (obtain rfl := Option.some.inj hn; exact False.elim (by cases hn)))
  · obtain rfl := Option.some.inj h
    exact fact (.slice none 0 0) (by kernel_rfl) (by kernel_rfl) rfl rfl (by first | (intro _; rfl) | (intro h; cases h)) rfl (fun n hn => by first | (cases hn; done) | (obtain rfl := Option.some.inj hn; exact False.elim (by cases hn)))
  · obtain rfl := Option.some.inj h
    exact fact (.agg #[.int .i64 0, .int .i64 0, .slice none 0 0, .slice none 0 0, .slice none 0 0, .slice none 0 0]) (by kernel_rfl) (by kernel_rfl) rfl rfl (by first | (intro _; rfl) | (intro h; cases h)) rfl (fun n hn => by first | (cases hn; done) | (obtain rfl := Option.some.inj hn; exact False.elim (by cases hn)))
  · obtain rfl := Option.some.inj h
    exact fact (.agg #[.int .i64 0, .int .i64 0, .slice none 0 0, .slice none 0 0, .slice none 0 0, .slice none 0 0]) (by kernel_rfl) (by kernel_rfl) rfl rfl (by first | (intro _; rfl) | (intro h; cases h)) rfl (fun n hn => by first | (cases hn; done) | (obtain rfl := Option.some.inj hn; exact False.elim (by cases hn)))
  · obtain rfl := Option.some.inj h
    exact fact (.slice none 0 0) (by kernel_rfl) (by kernel_rfl) rfl rfl (by first | (intro _; rfl) | (intro h; cases h)) rfl (fun n hn => by first | (cases hn; done) | (obtain rfl := Option.some.inj hn; exact False.elim (by cases hn)))
  · obtain rfl := Option.some.inj h
    exact fact (.slice none 0 0) (by kernel_rfl) (by kernel_rfl) rfl rfl (by first | (intro _; rfl) | (intro h; cases h)) rfl (fun n hn => by first | (cases hn; done) | (obtain rfl := Option.some.inj hn; exact False.elim (by cases hn)))
  · obtain rfl := Option.some.inj h
    exact fact (.agg #[.int .i64 0, .int .i64 0]) (by kernel_rfl) (by kernel_rfl) rfl rfl (by first | (intro _; rfl) | (intro h; cases h)) rfl (fun n hn => by first | (cases hn; done) | (obtain rfl := Option.some.inj hn; exact False.elim (by cases hn)))
  · obtain rfl := Option.some.inj h
    exact fact (.agg #[.int .i64 0, .int .i64 0]) (by kernel_rfl) (by kernel_rfl) rfl rfl (by first | (intro _; rfl) | (intro h; cases h)) rfl (fun n hn => by first | (cases hn; done) | (obtain rfl := Option.some.inj hn; exact False.elim (by cases hn)))
  · obtain rfl := Option.some.inj h
    exact fact (.agg #[.int .i64 0, .int .i64 0]) (by kernel_rfl) (by kernel_rfl) rfl rfl (by first | (intro _; rfl) | (intro h; cases h)) rfl (fun n hn => by first | (cases hn; done) | (obtain rfl := Option.some.inj hn; exact False.elim (by cases hn)))
  · obtain rfl := Option.some.inj h
    exact fact (.agg #[.int .i64 0, .int .i64 0]) (by kernel_rfl) (by kernel_rfl) rfl rfl (by first | (intro _; rfl) | (intro h; cases h)) rfl (fun n hn => by first | (cases hn; done) | (obtain rfl := Option.some.inj hn; exact False.elim (by cases hn)))
  · obtain rfl := Option.some.inj h
    exact fact (.slice none 0 0) (by kernel_rfl) (by kernel_rfl) rfl rfl (by first | (intro _; rfl) | (intro h; cases h)) rfl (fun n hn => by first | (cases hn; done) | (obtain rfl := Option.some.inj hn; exact False.elim (by cases hn)))
  · obtain rfl := Option.some.inj h
    exact fact (.agg #[.int .i64 0, .int .i64 0]) (by kernel_rfl) (by kernel_rfl) rfl rfl (by first | (intro _; rfl) | (intro h; cases h)) rfl (fun n hn => by first | (cases hn; done) | (obtain rfl := Option.some.inj hn; exact False.elim (by cases hn)))
  · obtain rfl := Option.some.inj h
    exact fact (.agg #[.int .i64 0, .int .i64 0]) (by kernel_rfl) (by kernel_rfl) rfl rfl (by first | (intro _; rfl) | (intro h; cases h)) rfl (fun n hn => by first | (cases hn; done) | (obtain rfl := Option.some.inj hn; exact False.elim (by cases hn)))
  · obtain rfl := Option.some.inj h
    exact fact (.agg #[.int .i64 0, .int .i64 0]) (by kernel_rfl) (by kernel_rfl) rfl rfl (by first | (intro _; rfl) | (intro h; cases h)) rfl (fun n hn => by first | (cases hn; done) | (obtain rfl := Option.some.inj hn; exact False.elim (by cases hn)))
  · obtain rfl := Option.some.inj h
    exact fact (.agg #[.int .i64 0, .int .i64 0]) (by kernel_rfl) (by kernel_rfl) rfl rfl (by first | (intro _; rfl) | (intro h; cases h)) rfl (fun n hn => by first | (cases hn; done) | (obtain rfl := Option.some.inj hn; exact False.elim (by cases hn)))
  · obtain rfl := Option.some.inj h
    exact fact (.int .u64 0) (by kernel_rfl) (by kernel_rfl) rfl rfl (by first | (intro _; rfl) | (intro h; cases h)) rfl (fun n hn => by first | (cases hn; done) | (obtain rfl := Option.some.inj hn; exact False.elim (by cases hn)))
  · obtain rfl := Option.some.inj h
    exact fact (.agg #[]) (by kernel_rfl) (by kernel_rfl) rfl rfl (by first | (intro _; rfl) | (intro h; cases h)) rfl (fun n hn => by first | (cases hn; done) | (obtain rfl := Option.some.inj hn; exact False.elim (by cases hn)))
  · obtain rfl := Option.some.inj h
    exact fact (.int .u32 0) (by kernel_rfl) (by kernel_rfl) rfl rfl (by first | (intro _; rfl) | (intro h; cases h)) rfl (fun n hn => by first | (cases hn; done) | (obtain rfl := Option.some.inj hn; exact False.elim (by cases hn)))
  · obtain rfl := Option.some.inj h
    exact fact (.agg #[.int .u64 0, .int .u64 0, .int .u32 0, .int .u8 0, .int .u8 0, .int .u8 0, .int .u8 0, .nilFunc, .pointer none, .int .i32 0, .int .i32 0]) (by kernel_rfl) (by kernel_rfl) rfl rfl (by first | (intro _; rfl) | (intro h; cases h)) rfl (fun n hn => by first | (cases hn; done) | (obtain rfl := Option.some.inj hn; exact False.elim (by cases hn)))
  · cases h

end Go.Proofs.YtcbiiijnaeibhaaGreat
