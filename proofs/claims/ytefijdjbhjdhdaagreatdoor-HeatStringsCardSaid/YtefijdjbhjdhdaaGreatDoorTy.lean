/-
  The types of the translation, as the abstract machine uses them: a table, and that it agrees with the program's. Written by a program of ours (gen_ty.py).
-/
import Derived.Test.YtefijdjbhjdhdaaGreatDoorProg
import Derived.Test.YtefijdjbhjdhdaaGreatDoorAbsC
import Derived.KernelRfl
set_option linter.unusedSimpArgs false
set_option linter.unusedVariables false
namespace Go.Proofs.YtefijdjbhjdhdaaGreatDoor
open Go.Abs

def ti3 : TI := ⟨1, 8, false, [.int .i64 0], .int .i64, none⟩
def ti4 : TI := ⟨1, 1, false, [.bool false], .bool, none⟩
def ti5 : TI := ⟨1, 1, false, [.int .u8 0], .int .u8, none⟩
def ti9 : TI := ⟨1, 16, false, [.string .empty], .string, none⟩
def ti20 : TI := ⟨1, 16, false, [.nilIface], .interface #[], none⟩
def ti21 : TI := ⟨1, 4, false, [.int .i32 0], .int .i32, none⟩
def ti22 : TI := ⟨1, 24, false, [.slice none 0 0], .slice 83, none⟩
def ti23 : TI := ⟨1, 24, false, [.slice none 0 0], .slice 65, none⟩
def ti24 : TI := ⟨4, 64, true, [.int .i64 0, .int .i64 0, .slice none 0 0, .slice none 0 0], .struct #[⟨"Cells", 3, 0, false, "", "", 0⟩, ⟨"Exchange", 3, 1, false, "", "", 8⟩, ⟨"Table", 22, 2, false, "", "", 16⟩, ⟨"Laws", 23, 3, false, "", "", 40⟩], none⟩
def ti25 : TI := ⟨4, 64, true, [.int .i64 0, .int .i64 0, .slice none 0 0, .slice none 0 0], .struct #[⟨"Cells", 3, 0, false, "", "", 0⟩, ⟨"Exchange", 3, 1, false, "", "", 8⟩, ⟨"Table", 22, 2, false, "", "", 16⟩, ⟨"Laws", 23, 3, false, "", "", 40⟩], none⟩
def ti30 : TI := ⟨1, 8, false, [.int .i64 0], .int .i64, none⟩
def ti38 : TI := ⟨1, 24, false, [.slice none 0 0], .slice 3, none⟩
def ti42 : TI := ⟨2, 32, true, [.slice none 0 0, .int .i64 0], .struct #[⟨"Powers", 38, 0, false, "", "", 0⟩, ⟨"Law", 3, 1, false, "", "", 24⟩], none⟩
def ti43 : TI := ⟨2, 32, true, [.slice none 0 0, .int .i64 0], .struct #[⟨"Powers", 38, 0, false, "", "", 0⟩, ⟨"Law", 3, 1, false, "", "", 24⟩], none⟩
def ti44 : TI := ⟨2, 48, true, [.slice none 0 0, .slice none 0 0], .struct #[⟨"Lo", 38, 0, false, "", "", 0⟩, ⟨"Hi", 38, 1, false, "", "", 24⟩], none⟩
def ti45 : TI := ⟨2, 48, true, [.slice none 0 0, .slice none 0 0], .struct #[⟨"Lo", 38, 0, false, "", "", 0⟩, ⟨"Hi", 38, 1, false, "", "", 24⟩], none⟩
def ti48 : TI := ⟨2, 16, true, [.int .i64 0, .int .i64 0], .struct #[⟨"Lo", 3, 0, false, "", "", 0⟩, ⟨"Hi", 3, 1, false, "", "", 8⟩], none⟩
def ti49 : TI := ⟨2, 16, true, [.int .i64 0, .int .i64 0], .struct #[⟨"Lo", 3, 0, false, "", "", 0⟩, ⟨"Hi", 3, 1, false, "", "", 8⟩], some [true, true]⟩
def ti50 : TI := ⟨1, 24, false, [.slice none 0 0], .slice 49, none⟩
def ti51 : TI := ⟨3, 40, true, [.slice none 0 0, .int .i64 0, .int .i64 0], .struct #[⟨"Powers", 50, 0, false, "", "", 0⟩, ⟨"Laws", 49, 1, false, "", "", 24⟩], none⟩
def ti52 : TI := ⟨3, 40, true, [.slice none 0 0, .int .i64 0, .int .i64 0], .struct #[⟨"Powers", 50, 0, false, "", "", 0⟩, ⟨"Laws", 49, 1, false, "", "", 24⟩], none⟩
def ti56 : TI := ⟨5, 56, true, [.slice none 0 0, .int .i64 0, .int .i64 0, .int .i64 0, .int .i64 0], .struct #[⟨"Drive", 43, 0, false, "", "", 0⟩, ⟨"Kelvin", 3, 2, false, "", "", 32⟩, ⟨"Depth", 3, 3, false, "", "", 40⟩, ⟨"Most", 3, 4, false, "", "", 48⟩], none⟩
def ti57 : TI := ⟨5, 56, true, [.slice none 0 0, .int .i64 0, .int .i64 0, .int .i64 0, .int .i64 0], .struct #[⟨"Drive", 43, 0, false, "", "", 0⟩, ⟨"Kelvin", 3, 2, false, "", "", 32⟩, ⟨"Depth", 3, 3, false, "", "", 40⟩, ⟨"Most", 3, 4, false, "", "", 48⟩], none⟩
def ti60 : TI := ⟨3, 24, true, [.int .i64 0, .int .i64 0, .int .i64 0], .struct #[⟨"Start", 3, 0, false, "", "", 0⟩, ⟨"Gain", 3, 1, false, "", "", 8⟩, ⟨"Boiling", 3, 2, false, "", "", 16⟩], none⟩
def ti61 : TI := ⟨3, 24, true, [.int .i64 0, .int .i64 0, .int .i64 0], .struct #[⟨"Start", 3, 0, false, "", "", 0⟩, ⟨"Gain", 3, 1, false, "", "", 8⟩, ⟨"Boiling", 3, 2, false, "", "", 16⟩], none⟩
def ti65 : TI := ⟨1, 24, false, [.slice none 0 0], .slice 85, none⟩
def ti68 : TI := ⟨1, 24, false, [.slice none 0 0], .slice 76, none⟩
def ti70 : TI := ⟨1, 24, false, [.slice none 0 0], .slice 9, none⟩
def ti75 : TI := ⟨2, 16, true, [.int .i64 0, .int .i64 0], .struct #[⟨"x", 3, 0, false, "", "martensite/heat", 0⟩, ⟨"y", 3, 1, false, "", "martensite/heat", 8⟩], none⟩
def ti76 : TI := ⟨2, 16, true, [.int .i64 0, .int .i64 0], .struct #[⟨"x", 3, 0, false, "", "martensite/heat", 0⟩, ⟨"y", 3, 1, false, "", "martensite/heat", 8⟩], none⟩
def ti82 : TI := ⟨2, 16, true, [.int .i64 0, .int .i64 0], .struct #[⟨"Energy", 3, 0, false, "", "", 0⟩, ⟨"Kelvin", 3, 1, false, "", "", 8⟩], none⟩
def ti83 : TI := ⟨2, 16, true, [.int .i64 0, .int .i64 0], .struct #[⟨"Energy", 3, 0, false, "", "", 0⟩, ⟨"Kelvin", 3, 1, false, "", "", 8⟩], some [true, true]⟩
def ti84 : TI := ⟨2, 16, true, [.int .i64 0, .int .i64 0], .struct #[⟨"Kelvin", 3, 0, false, "", "", 0⟩, ⟨"Loss", 3, 1, false, "", "", 8⟩], none⟩
def ti85 : TI := ⟨2, 16, true, [.int .i64 0, .int .i64 0], .struct #[⟨"Kelvin", 3, 0, false, "", "", 0⟩, ⟨"Loss", 3, 1, false, "", "", 8⟩], some [true, true]⟩
def ti88 : TI := ⟨2, 16, true, [.int .i64 0, .int .i64 0], .array 2 3, none⟩
def ti91 : TI := ⟨1, 24, false, [.slice none 0 0], .slice 88, none⟩
def ti97 : TI := ⟨1, 24, false, [.slice none 0 0], .slice 68, none⟩
def ti98 : TI := ⟨6, 112, true, [.int .i64 0, .int .i64 0, .slice none 0 0, .slice none 0 0, .slice none 0 0, .slice none 0 0], .struct #[⟨"HeatSetup", 25, 0, true, "", "", 0⟩, ⟨"table", 68, 4, false, "", "martensite/heat", 64⟩, ⟨"laws", 97, 5, false, "", "martensite/heat", 88⟩], none⟩
def ti99 : TI := ⟨6, 112, true, [.int .i64 0, .int .i64 0, .slice none 0 0, .slice none 0 0, .slice none 0 0, .slice none 0 0], .struct #[⟨"HeatSetup", 25, 0, true, "", "", 0⟩, ⟨"table", 68, 4, false, "", "martensite/heat", 64⟩, ⟨"laws", 97, 5, false, "", "martensite/heat", 88⟩], none⟩
def ti114 : TI := ⟨1, 8, false, [.nilFunc], .func #[3] #[4] false, none⟩
def ti117 : TI := ⟨1, 24, false, [.slice none 0 0], .slice 5, none⟩
def ti121 : TI := ⟨1, 16, false, [.nilIface], .interface #[("Error", 125)], none⟩
def ti122 : TI := ⟨1, 16, false, [.nilIface], .interface #[("Error", 125)], none⟩
def ti129 : TI := ⟨1, 8, false, [.nilFunc], .func #[176] #[] false, none⟩
def ti130 : TI := ⟨1, 8, false, [.nilFunc], .func #[176] #[] false, none⟩
def ti147 : TI := ⟨1, 24, false, [.slice none 0 0], .slice 30, none⟩
def ti156 : TI := ⟨2, 16, true, [.int .i64 0, .int .i64 0], .struct #[⟨"num", 3, 0, false, "", "martensite/heat", 0⟩, ⟨"den", 3, 1, false, "", "martensite/heat", 8⟩], none⟩
def ti157 : TI := ⟨2, 16, true, [.int .i64 0, .int .i64 0], .struct #[⟨"num", 3, 0, false, "", "martensite/heat", 0⟩, ⟨"den", 3, 1, false, "", "martensite/heat", 8⟩], none⟩
def ti171 : TI := ⟨1, 8, false, [.int .u64 0], .int .u64, none⟩
def ti176 : TI := ⟨1, 8, false, [.nilFunc], .func #[9] #[4] false, none⟩
def ti179 : TI := ⟨1, 8, false, [.nilFunc], .func #[76, 157] #[3] false, none⟩
def tyl : List (Nat × TI) := [(3, ti3), (4, ti4), (5, ti5), (9, ti9), (20, ti20), (21, ti21), (22, ti22), (23, ti23), (24, ti24), (25, ti25), (30, ti30), (38, ti38), (42, ti42), (43, ti43), (44, ti44), (45, ti45), (48, ti48), (49, ti49), (50, ti50), (51, ti51), (52, ti52), (56, ti56), (57, ti57), (60, ti60), (61, ti61), (65, ti65), (68, ti68), (70, ti70), (75, ti75), (76, ti76), (82, ti82), (83, ti83), (84, ti84), (85, ti85), (88, ti88), (91, ti91), (97, ti97), (98, ti98), (99, ti99), (114, ti114), (117, ti117), (121, ti121), (122, ti122), (129, ti129), (130, ti130), (147, ti147), (156, ti156), (157, ti157), (171, ti171), (176, ti176), (179, ti179)]
def ty : Tys := fun t => lk tyl t
@[go_sem] theorem ty_3 : ty 3 = some ti3 := by kernel_rfl
@[go_sem] theorem ty_4 : ty 4 = some ti4 := by kernel_rfl
@[go_sem] theorem ty_5 : ty 5 = some ti5 := by kernel_rfl
@[go_sem] theorem ty_9 : ty 9 = some ti9 := by kernel_rfl
@[go_sem] theorem ty_20 : ty 20 = some ti20 := by kernel_rfl
@[go_sem] theorem ty_21 : ty 21 = some ti21 := by kernel_rfl
@[go_sem] theorem ty_22 : ty 22 = some ti22 := by kernel_rfl
@[go_sem] theorem ty_23 : ty 23 = some ti23 := by kernel_rfl
@[go_sem] theorem ty_24 : ty 24 = some ti24 := by kernel_rfl
@[go_sem] theorem ty_25 : ty 25 = some ti25 := by kernel_rfl
@[go_sem] theorem ty_30 : ty 30 = some ti30 := by kernel_rfl
@[go_sem] theorem ty_38 : ty 38 = some ti38 := by kernel_rfl
@[go_sem] theorem ty_42 : ty 42 = some ti42 := by kernel_rfl
@[go_sem] theorem ty_43 : ty 43 = some ti43 := by kernel_rfl
@[go_sem] theorem ty_44 : ty 44 = some ti44 := by kernel_rfl
@[go_sem] theorem ty_45 : ty 45 = some ti45 := by kernel_rfl
@[go_sem] theorem ty_48 : ty 48 = some ti48 := by kernel_rfl
@[go_sem] theorem ty_49 : ty 49 = some ti49 := by kernel_rfl
@[go_sem] theorem ty_50 : ty 50 = some ti50 := by kernel_rfl
@[go_sem] theorem ty_51 : ty 51 = some ti51 := by kernel_rfl
@[go_sem] theorem ty_52 : ty 52 = some ti52 := by kernel_rfl
@[go_sem] theorem ty_56 : ty 56 = some ti56 := by kernel_rfl
@[go_sem] theorem ty_57 : ty 57 = some ti57 := by kernel_rfl
@[go_sem] theorem ty_60 : ty 60 = some ti60 := by kernel_rfl
@[go_sem] theorem ty_61 : ty 61 = some ti61 := by kernel_rfl
@[go_sem] theorem ty_65 : ty 65 = some ti65 := by kernel_rfl
@[go_sem] theorem ty_68 : ty 68 = some ti68 := by kernel_rfl
@[go_sem] theorem ty_70 : ty 70 = some ti70 := by kernel_rfl
@[go_sem] theorem ty_75 : ty 75 = some ti75 := by kernel_rfl
@[go_sem] theorem ty_76 : ty 76 = some ti76 := by kernel_rfl
@[go_sem] theorem ty_82 : ty 82 = some ti82 := by kernel_rfl
@[go_sem] theorem ty_83 : ty 83 = some ti83 := by kernel_rfl
@[go_sem] theorem ty_84 : ty 84 = some ti84 := by kernel_rfl
@[go_sem] theorem ty_85 : ty 85 = some ti85 := by kernel_rfl
@[go_sem] theorem ty_88 : ty 88 = some ti88 := by kernel_rfl
@[go_sem] theorem ty_91 : ty 91 = some ti91 := by kernel_rfl
@[go_sem] theorem ty_97 : ty 97 = some ti97 := by kernel_rfl
@[go_sem] theorem ty_98 : ty 98 = some ti98 := by kernel_rfl
@[go_sem] theorem ty_99 : ty 99 = some ti99 := by kernel_rfl
@[go_sem] theorem ty_114 : ty 114 = some ti114 := by kernel_rfl
@[go_sem] theorem ty_117 : ty 117 = some ti117 := by kernel_rfl
@[go_sem] theorem ty_121 : ty 121 = some ti121 := by kernel_rfl
@[go_sem] theorem ty_122 : ty 122 = some ti122 := by kernel_rfl
@[go_sem] theorem ty_129 : ty 129 = some ti129 := by kernel_rfl
@[go_sem] theorem ty_130 : ty 130 = some ti130 := by kernel_rfl
@[go_sem] theorem ty_147 : ty 147 = some ti147 := by kernel_rfl
@[go_sem] theorem ty_156 : ty 156 = some ti156 := by kernel_rfl
@[go_sem] theorem ty_157 : ty 157 = some ti157 := by kernel_rfl
@[go_sem] theorem ty_171 : ty 171 = some ti171 := by kernel_rfl
@[go_sem] theorem ty_176 : ty 176 = some ti176 := by kernel_rfl
@[go_sem] theorem ty_179 : ty 179 = some ti179 := by kernel_rfl
attribute [go_sem] ti3 ti4 ti5 ti9 ti20 ti21 ti22 ti23 ti24 ti25 ti30 ti38 ti42 ti43 ti44 ti45 ti48 ti49 ti50 ti51 ti52 ti56 ti57 ti60 ti61 ti65 ti68 ti70 ti75 ti76 ti82 ti83 ti84 ti85 ti88 ti91 ti97 ti98 ti99 ti114 ti117 ti121 ti122 ti129 ti130 ti147 ti156 ti157 ti171 ti176 ti179

def zv (i : TI) : Value := if i.agg = true then .agg i.zero.toArray else i.zero.headD .nilFunc
theorem fact {t : Nat} {i : TI} (he : ∀ n, i.eqn = some n → EqOk Tryz.prog t n := by (intro n hn; cases hn; done)) (h1 : (Tryz.prog.info? t).map (fun i => (i.size, i.bytes, i.zero)) = some (i.size, i.bytes, some (zv i)) := by kernel_rfl) (h2 : Tryz.prog.underlying t = some i.desc := by kernel_rfl) (hz : (zv i).cells.toList = i.zero := by rfl)
    (ha : i.agg = (match i.desc with | .struct _ | .array _ _ => true | _ => false) := by rfl) (ho : i.agg = false → i.size = 1 := by first | (intro _; rfl) | (intro h; cases h)) (hl : i.zero.length = i.size := by rfl) : TyFact Tryz.prog t i := by
  refine ⟨?_, h2, ha, ho, hl, he⟩
  cases hi : Tryz.prog.info? t with
  | none => rw [hi] at h1; cases h1
  | some info =>
    rw [hi] at h1
    simp only [Option.map_some, Option.some.injEq, Prod.mk.injEq] at h1
    exact ⟨info, zv i, rfl, h1.1, h1.2.1, h1.2.2, hz⟩

theorem eq49 : EqOk Tryz.prog 49 [true, true] where
  guard := by kernel_rfl
  run := by
    intro xs ys w h1 h2
    obtain ⟨a0, xs0, rfl, h1_0⟩ := kindsI h1
    obtain ⟨b0, ys0, rfl, h2_0⟩ := kindsI h2
    obtain ⟨a1, xs1, rfl, h1_1⟩ := kindsI h1_0
    obtain ⟨b1, ys1, rfl, h2_1⟩ := kindsI h2_0
    obtain rfl := kindsN h1_1
    obtain rfl := kindsN h2_1
    have u3 : Tryz.prog.underlying 3 = some (.int .i64) := by kernel_rfl
    have u49 : Tryz.prog.underlying 49 = some (.struct #[⟨"Lo", 3, 0, false, "", "", 0⟩, ⟨"Hi", 3, 1, false, "", "", 8⟩]) := by kernel_rfl
    have g49 : Tryz.prog.stoodInHeld 49 = false := by kernel_rfl
    have v49 : Tryz.prog.underlying 49 = some (.struct (Tryz.prog.fieldsOf 49)) := by kernel_rfl
    have w49 : (Tryz.prog.fieldsOf 49).toList = [⟨"Lo", 3, 0, false, "", "", 0⟩, ⟨"Hi", 3, 1, false, "", "", 8⟩] := by kernel_rfl
    have s49 : ∀ w, (sizeOf 49).run Tryz.prog w = .ok 2 w := fun _ => by kernel_rfl
    have p3 : ∀ w, (isAgg 3).run Tryz.prog w = .ok false w := fun _ => by kernel_rfl
    have p49 : ∀ w, (isAgg 49).run Tryz.prog w = .ok true w := fun _ => by kernel_rfl
    have e3 : ∀ (d : Nat) (a b : Int) (w : World), (Op.equalIn (d + 1) 3 (.int .i64 a) (.int .i64 b)).run Tryz.prog w = .ok (a == b) w := fun d a b w => run_equalIn_int w d 3 .i64 .i64 a b u3
    have e49 : ∀ (d : Nat) (xs ys : Array Value) (w : World), (Op.equalIn (d + 1) 49 (.agg xs) (.agg ys)).run Tryz.prog w = (Op.eqFields d xs ys (Tryz.prog.fieldsOf 49).toList).run Tryz.prog w := fun d xs ys w => run_equalIn_struct w d 49 xs ys v49 g49
    simp [evs, EV.val, e3, e49, Op.eqFields, part, g49, w49, s49, p3, p49]
    try grind
theorem eq83 : EqOk Tryz.prog 83 [true, true] where
  guard := by kernel_rfl
  run := by
    intro xs ys w h1 h2
    obtain ⟨a0, xs0, rfl, h1_0⟩ := kindsI h1
    obtain ⟨b0, ys0, rfl, h2_0⟩ := kindsI h2
    obtain ⟨a1, xs1, rfl, h1_1⟩ := kindsI h1_0
    obtain ⟨b1, ys1, rfl, h2_1⟩ := kindsI h2_0
    obtain rfl := kindsN h1_1
    obtain rfl := kindsN h2_1
    have u3 : Tryz.prog.underlying 3 = some (.int .i64) := by kernel_rfl
    have u83 : Tryz.prog.underlying 83 = some (.struct #[⟨"Energy", 3, 0, false, "", "", 0⟩, ⟨"Kelvin", 3, 1, false, "", "", 8⟩]) := by kernel_rfl
    have g83 : Tryz.prog.stoodInHeld 83 = false := by kernel_rfl
    have v83 : Tryz.prog.underlying 83 = some (.struct (Tryz.prog.fieldsOf 83)) := by kernel_rfl
    have w83 : (Tryz.prog.fieldsOf 83).toList = [⟨"Energy", 3, 0, false, "", "", 0⟩, ⟨"Kelvin", 3, 1, false, "", "", 8⟩] := by kernel_rfl
    have s83 : ∀ w, (sizeOf 83).run Tryz.prog w = .ok 2 w := fun _ => by kernel_rfl
    have p3 : ∀ w, (isAgg 3).run Tryz.prog w = .ok false w := fun _ => by kernel_rfl
    have p83 : ∀ w, (isAgg 83).run Tryz.prog w = .ok true w := fun _ => by kernel_rfl
    have e3 : ∀ (d : Nat) (a b : Int) (w : World), (Op.equalIn (d + 1) 3 (.int .i64 a) (.int .i64 b)).run Tryz.prog w = .ok (a == b) w := fun d a b w => run_equalIn_int w d 3 .i64 .i64 a b u3
    have e83 : ∀ (d : Nat) (xs ys : Array Value) (w : World), (Op.equalIn (d + 1) 83 (.agg xs) (.agg ys)).run Tryz.prog w = (Op.eqFields d xs ys (Tryz.prog.fieldsOf 83).toList).run Tryz.prog w := fun d xs ys w => run_equalIn_struct w d 83 xs ys v83 g83
    simp [evs, EV.val, e3, e83, Op.eqFields, part, g83, w83, s83, p3, p83]
    try grind
theorem eq85 : EqOk Tryz.prog 85 [true, true] where
  guard := by kernel_rfl
  run := by
    intro xs ys w h1 h2
    obtain ⟨a0, xs0, rfl, h1_0⟩ := kindsI h1
    obtain ⟨b0, ys0, rfl, h2_0⟩ := kindsI h2
    obtain ⟨a1, xs1, rfl, h1_1⟩ := kindsI h1_0
    obtain ⟨b1, ys1, rfl, h2_1⟩ := kindsI h2_0
    obtain rfl := kindsN h1_1
    obtain rfl := kindsN h2_1
    have u3 : Tryz.prog.underlying 3 = some (.int .i64) := by kernel_rfl
    have u85 : Tryz.prog.underlying 85 = some (.struct #[⟨"Kelvin", 3, 0, false, "", "", 0⟩, ⟨"Loss", 3, 1, false, "", "", 8⟩]) := by kernel_rfl
    have g85 : Tryz.prog.stoodInHeld 85 = false := by kernel_rfl
    have v85 : Tryz.prog.underlying 85 = some (.struct (Tryz.prog.fieldsOf 85)) := by kernel_rfl
    have w85 : (Tryz.prog.fieldsOf 85).toList = [⟨"Kelvin", 3, 0, false, "", "", 0⟩, ⟨"Loss", 3, 1, false, "", "", 8⟩] := by kernel_rfl
    have s85 : ∀ w, (sizeOf 85).run Tryz.prog w = .ok 2 w := fun _ => by kernel_rfl
    have p3 : ∀ w, (isAgg 3).run Tryz.prog w = .ok false w := fun _ => by kernel_rfl
    have p85 : ∀ w, (isAgg 85).run Tryz.prog w = .ok true w := fun _ => by kernel_rfl
    have e3 : ∀ (d : Nat) (a b : Int) (w : World), (Op.equalIn (d + 1) 3 (.int .i64 a) (.int .i64 b)).run Tryz.prog w = .ok (a == b) w := fun d a b w => run_equalIn_int w d 3 .i64 .i64 a b u3
    have e85 : ∀ (d : Nat) (xs ys : Array Value) (w : World), (Op.equalIn (d + 1) 85 (.agg xs) (.agg ys)).run Tryz.prog w = (Op.eqFields d xs ys (Tryz.prog.fieldsOf 85).toList).run Tryz.prog w := fun d xs ys w => run_equalIn_struct w d 85 xs ys v85 g85
    simp [evs, EV.val, e3, e85, Op.eqFields, part, g85, w85, s85, p3, p85]
    try grind
theorem tf3 : TyFact Tryz.prog 3 ti3 := fact
theorem tf4 : TyFact Tryz.prog 4 ti4 := fact
theorem tf5 : TyFact Tryz.prog 5 ti5 := fact
theorem tf9 : TyFact Tryz.prog 9 ti9 := fact
theorem tf20 : TyFact Tryz.prog 20 ti20 := fact
theorem tf21 : TyFact Tryz.prog 21 ti21 := fact
theorem tf22 : TyFact Tryz.prog 22 ti22 := fact
theorem tf23 : TyFact Tryz.prog 23 ti23 := fact
theorem tf24 : TyFact Tryz.prog 24 ti24 := fact
theorem tf25 : TyFact Tryz.prog 25 ti25 := fact
theorem tf30 : TyFact Tryz.prog 30 ti30 := fact
theorem tf38 : TyFact Tryz.prog 38 ti38 := fact
theorem tf42 : TyFact Tryz.prog 42 ti42 := fact
theorem tf43 : TyFact Tryz.prog 43 ti43 := fact
theorem tf44 : TyFact Tryz.prog 44 ti44 := fact
theorem tf45 : TyFact Tryz.prog 45 ti45 := fact
theorem tf48 : TyFact Tryz.prog 48 ti48 := fact
theorem tf49 : TyFact Tryz.prog 49 ti49 := fact (fun n hn => by obtain rfl := Option.some.inj hn; exact eq49)
theorem tf50 : TyFact Tryz.prog 50 ti50 := fact
theorem tf51 : TyFact Tryz.prog 51 ti51 := fact
theorem tf52 : TyFact Tryz.prog 52 ti52 := fact
theorem tf56 : TyFact Tryz.prog 56 ti56 := fact
theorem tf57 : TyFact Tryz.prog 57 ti57 := fact
theorem tf60 : TyFact Tryz.prog 60 ti60 := fact
theorem tf61 : TyFact Tryz.prog 61 ti61 := fact
theorem tf65 : TyFact Tryz.prog 65 ti65 := fact
theorem tf68 : TyFact Tryz.prog 68 ti68 := fact
theorem tf70 : TyFact Tryz.prog 70 ti70 := fact
theorem tf75 : TyFact Tryz.prog 75 ti75 := fact
theorem tf76 : TyFact Tryz.prog 76 ti76 := fact
theorem tf82 : TyFact Tryz.prog 82 ti82 := fact
theorem tf83 : TyFact Tryz.prog 83 ti83 := fact (fun n hn => by obtain rfl := Option.some.inj hn; exact eq83)
theorem tf84 : TyFact Tryz.prog 84 ti84 := fact
theorem tf85 : TyFact Tryz.prog 85 ti85 := fact (fun n hn => by obtain rfl := Option.some.inj hn; exact eq85)
theorem tf88 : TyFact Tryz.prog 88 ti88 := fact
theorem tf91 : TyFact Tryz.prog 91 ti91 := fact
theorem tf97 : TyFact Tryz.prog 97 ti97 := fact
theorem tf98 : TyFact Tryz.prog 98 ti98 := fact
theorem tf99 : TyFact Tryz.prog 99 ti99 := fact
theorem tf114 : TyFact Tryz.prog 114 ti114 := fact
theorem tf117 : TyFact Tryz.prog 117 ti117 := fact
theorem tf121 : TyFact Tryz.prog 121 ti121 := fact
theorem tf122 : TyFact Tryz.prog 122 ti122 := fact
theorem tf129 : TyFact Tryz.prog 129 ti129 := fact
theorem tf130 : TyFact Tryz.prog 130 ti130 := fact
theorem tf147 : TyFact Tryz.prog 147 ti147 := fact
theorem tf156 : TyFact Tryz.prog 156 ti156 := fact
theorem tf157 : TyFact Tryz.prog 157 ti157 := fact
theorem tf171 : TyFact Tryz.prog 171 ti171 := fact
theorem tf176 : TyFact Tryz.prog 176 ti176 := fact
theorem tf179 : TyFact Tryz.prog 179 ti179 := fact
def Facts : List (Nat × TI) → Prop
  | [] => True
  | p :: r => TyFact Tryz.prog p.1 p.2 ∧ Facts r
theorem facts_get : ∀ {l : List (Nat × TI)}, Facts l → ∀ t i, lk l t = some i → TyFact Tryz.prog t i
  | [], _, _, _, h => by cases h
  | (k, x) :: r, h, t, i, hi => by
    simp only [lk] at hi
    split at hi
    · rename_i e; subst e; obtain rfl := Option.some.inj hi; exact h.1
    · exact facts_get h.2 t i hi
theorem ty_ok : TyOk Tryz.prog ty := facts_get (l := tyl) ⟨tf3, tf4, tf5, tf9, tf20, tf21, tf22, tf23, tf24, tf25, tf30, tf38, tf42, tf43, tf44, tf45, tf48, tf49, tf50, tf51, tf52, tf56, tf57, tf60, tf61, tf65, tf68, tf70, tf75, tf76, tf82, tf83, tf84, tf85, tf88, tf91, tf97, tf98, tf99, tf114, tf117, tf121, tf122, tf129, tf130, tf147, tf156, tf157, tf171, tf176, tf179, trivial⟩

end Go.Proofs.YtefijdjbhjdhdaaGreatDoor
