/-
  The types of the translation, as the abstract machine uses them: a table, and that it agrees with the program's. Written by a program of ours (gen_ty.py).
-/
import Derived.Test.YtkhfaooknmoboaaGreatDoorProg
import Derived.Test.YtkhfaooknmoboaaGreatDoorAbsC
import Derived.KernelRfl
set_option linter.unusedSimpArgs false
set_option linter.unusedVariables false
namespace Go.Proofs.YtkhfaooknmoboaaGreatDoor
open Go.Abs

def ti3 : TI := ⟨1, 8, false, [.int .i64 0], .int .i64, none⟩
def ti4 : TI := ⟨1, 1, false, [.bool false], .bool, none⟩
def ti5 : TI := ⟨1, 1, false, [.int .u8 0], .int .u8, none⟩
def ti9 : TI := ⟨1, 16, false, [.string .empty], .string, none⟩
def ti21 : TI := ⟨1, 4, false, [.int .i32 0], .int .i32, none⟩
def ti22 : TI := ⟨1, 24, false, [.slice none 0 0], .slice 65, none⟩
def ti23 : TI := ⟨2, 32, true, [.int .i64 0, .slice none 0 0], .struct #[⟨"Turns", 3, 0, false, "", "", 0⟩, ⟨"Shells", 22, 1, false, "", "", 8⟩], none⟩
def ti24 : TI := ⟨2, 32, true, [.int .i64 0, .slice none 0 0], .struct #[⟨"Turns", 3, 0, false, "", "", 0⟩, ⟨"Shells", 22, 1, false, "", "", 8⟩], none⟩
def ti29 : TI := ⟨1, 8, false, [.int .i64 0], .int .i64, none⟩
def ti37 : TI := ⟨1, 24, false, [.slice none 0 0], .slice 49, none⟩
def ti41 : TI := ⟨1, 24, false, [.slice none 0 0], .slice 4, none⟩
def ti42 : TI := ⟨2, 32, true, [.int .i64 0, .slice none 0 0], .struct #[⟨"Frequency", 3, 0, false, "", "", 0⟩, ⟨"Hot", 41, 1, false, "", "", 8⟩], none⟩
def ti43 : TI := ⟨2, 32, true, [.int .i64 0, .slice none 0 0], .struct #[⟨"Frequency", 3, 0, false, "", "", 0⟩, ⟨"Hot", 41, 1, false, "", "", 8⟩], none⟩
def ti45 : TI := ⟨1, 24, false, [.slice none 0 0], .slice 3, none⟩
def ti48 : TI := ⟨2, 16, true, [.int .i64 0, .int .i64 0], .struct #[⟨"Re", 3, 0, false, "", "", 0⟩, ⟨"Im", 3, 1, false, "", "", 8⟩], none⟩
def ti49 : TI := ⟨2, 16, true, [.int .i64 0, .int .i64 0], .struct #[⟨"Re", 3, 0, false, "", "", 0⟩, ⟨"Im", 3, 1, false, "", "", 8⟩], some [true, true]⟩
def ti50 : TI := ⟨4, 32, true, [.int .i64 0, .int .i64 0, .int .i64 0, .int .i64 0], .struct #[⟨"Num", 49, 0, false, "", "", 0⟩, ⟨"Den", 49, 2, false, "", "", 16⟩], none⟩
def ti51 : TI := ⟨4, 32, true, [.int .i64 0, .int .i64 0, .int .i64 0, .int .i64 0], .struct #[⟨"Num", 49, 0, false, "", "", 0⟩, ⟨"Den", 49, 2, false, "", "", 16⟩], some [true, true, true, true]⟩
def ti55 : TI := ⟨2, 16, true, [.int .i64 0, .int .i64 0], .array 2 3, none⟩
def ti58 : TI := ⟨2, 16, true, [.int .i64 0, .int .i64 0], .struct #[⟨"Percent", 3, 0, false, "", "", 0⟩, ⟨"Depth", 3, 1, false, "", "", 8⟩], none⟩
def ti59 : TI := ⟨2, 16, true, [.int .i64 0, .int .i64 0], .struct #[⟨"Percent", 3, 0, false, "", "", 0⟩, ⟨"Depth", 3, 1, false, "", "", 8⟩], none⟩
def ti63 : TI := ⟨1, 24, false, [.slice none 0 0], .slice 9, none⟩
def ti64 : TI := ⟨3, 24, true, [.int .i64 0, .int .i64 0, .int .i64 0], .struct #[⟨"Conductance", 3, 0, false, "", "", 0⟩, ⟨"Cold", 3, 1, false, "", "", 8⟩, ⟨"Hot", 3, 2, false, "", "", 16⟩], none⟩
def ti65 : TI := ⟨3, 24, true, [.int .i64 0, .int .i64 0, .int .i64 0], .struct #[⟨"Conductance", 3, 0, false, "", "", 0⟩, ⟨"Cold", 3, 1, false, "", "", 8⟩, ⟨"Hot", 3, 2, false, "", "", 16⟩], some [true, true, true]⟩
def ti66 : TI := ⟨3, 24, true, [.int .i64 0, .int .i64 0, .int .i64 0], .array 3 3, none⟩
def ti75 : TI := ⟨2, 48, true, [.slice none 0 0, .slice none 0 0], .struct #[⟨"conductances", 45, 0, false, "", "martensite/field", 0⟩, ⟨"reactances", 45, 1, false, "", "martensite/field", 24⟩], none⟩
def ti76 : TI := ⟨2, 48, true, [.slice none 0 0, .slice none 0 0], .struct #[⟨"conductances", 45, 0, false, "", "martensite/field", 0⟩, ⟨"reactances", 45, 1, false, "", "martensite/field", 24⟩], none⟩
def ti93 : TI := ⟨1, 24, false, [.slice none 0 0], .slice 5, none⟩
def ti97 : TI := ⟨1, 16, false, [.nilIface], .interface #[("Error", 101)], none⟩
def ti98 : TI := ⟨1, 16, false, [.nilIface], .interface #[("Error", 101)], none⟩
def ti103 : TI := ⟨1, 8, false, [.nilFunc], .func #[143] #[] false, none⟩
def ti104 : TI := ⟨1, 8, false, [.nilFunc], .func #[143] #[] false, none⟩
def ti110 : TI := ⟨1, 8, false, [.nilFunc], .func #[128] #[] false, none⟩
def ti111 : TI := ⟨1, 8, false, [.nilFunc], .func #[128] #[] false, none⟩
def ti115 : TI := ⟨1, 24, false, [.slice none 0 0], .slice 29, none⟩
def ti118 : TI := ⟨1, 8, false, [.nilFunc], .func #[129] #[] false, none⟩
def ti120 : TI := ⟨1, 8, false, [.nilFunc], .func #[49] #[49] false, none⟩
def ti127 : TI := ⟨1, 8, false, [.nilFunc], .func #[3] #[4] false, none⟩
def ti128 : TI := ⟨1, 8, false, [.nilFunc], .func #[3, 49] #[4] false, none⟩
def ti129 : TI := ⟨1, 8, false, [.nilFunc], .func #[3, 3] #[4] false, none⟩
def ti143 : TI := ⟨1, 8, false, [.nilFunc], .func #[9] #[4] false, none⟩
def tyl : List (Nat × TI) := [(3, ti3), (4, ti4), (5, ti5), (9, ti9), (21, ti21), (22, ti22), (23, ti23), (24, ti24), (29, ti29), (37, ti37), (41, ti41), (42, ti42), (43, ti43), (45, ti45), (48, ti48), (49, ti49), (50, ti50), (51, ti51), (55, ti55), (58, ti58), (59, ti59), (63, ti63), (64, ti64), (65, ti65), (66, ti66), (75, ti75), (76, ti76), (93, ti93), (97, ti97), (98, ti98), (103, ti103), (104, ti104), (110, ti110), (111, ti111), (115, ti115), (118, ti118), (120, ti120), (127, ti127), (128, ti128), (129, ti129), (143, ti143)]
def ty : Tys := fun t => lk tyl t
@[go_sem] theorem ty_3 : ty 3 = some ti3 := by kernel_rfl
@[go_sem] theorem ty_4 : ty 4 = some ti4 := by kernel_rfl
@[go_sem] theorem ty_5 : ty 5 = some ti5 := by kernel_rfl
@[go_sem] theorem ty_9 : ty 9 = some ti9 := by kernel_rfl
@[go_sem] theorem ty_21 : ty 21 = some ti21 := by kernel_rfl
@[go_sem] theorem ty_22 : ty 22 = some ti22 := by kernel_rfl
@[go_sem] theorem ty_23 : ty 23 = some ti23 := by kernel_rfl
@[go_sem] theorem ty_24 : ty 24 = some ti24 := by kernel_rfl
@[go_sem] theorem ty_29 : ty 29 = some ti29 := by kernel_rfl
@[go_sem] theorem ty_37 : ty 37 = some ti37 := by kernel_rfl
@[go_sem] theorem ty_41 : ty 41 = some ti41 := by kernel_rfl
@[go_sem] theorem ty_42 : ty 42 = some ti42 := by kernel_rfl
@[go_sem] theorem ty_43 : ty 43 = some ti43 := by kernel_rfl
@[go_sem] theorem ty_45 : ty 45 = some ti45 := by kernel_rfl
@[go_sem] theorem ty_48 : ty 48 = some ti48 := by kernel_rfl
@[go_sem] theorem ty_49 : ty 49 = some ti49 := by kernel_rfl
@[go_sem] theorem ty_50 : ty 50 = some ti50 := by kernel_rfl
@[go_sem] theorem ty_51 : ty 51 = some ti51 := by kernel_rfl
@[go_sem] theorem ty_55 : ty 55 = some ti55 := by kernel_rfl
@[go_sem] theorem ty_58 : ty 58 = some ti58 := by kernel_rfl
@[go_sem] theorem ty_59 : ty 59 = some ti59 := by kernel_rfl
@[go_sem] theorem ty_63 : ty 63 = some ti63 := by kernel_rfl
@[go_sem] theorem ty_64 : ty 64 = some ti64 := by kernel_rfl
@[go_sem] theorem ty_65 : ty 65 = some ti65 := by kernel_rfl
@[go_sem] theorem ty_66 : ty 66 = some ti66 := by kernel_rfl
@[go_sem] theorem ty_75 : ty 75 = some ti75 := by kernel_rfl
@[go_sem] theorem ty_76 : ty 76 = some ti76 := by kernel_rfl
@[go_sem] theorem ty_93 : ty 93 = some ti93 := by kernel_rfl
@[go_sem] theorem ty_97 : ty 97 = some ti97 := by kernel_rfl
@[go_sem] theorem ty_98 : ty 98 = some ti98 := by kernel_rfl
@[go_sem] theorem ty_103 : ty 103 = some ti103 := by kernel_rfl
@[go_sem] theorem ty_104 : ty 104 = some ti104 := by kernel_rfl
@[go_sem] theorem ty_110 : ty 110 = some ti110 := by kernel_rfl
@[go_sem] theorem ty_111 : ty 111 = some ti111 := by kernel_rfl
@[go_sem] theorem ty_115 : ty 115 = some ti115 := by kernel_rfl
@[go_sem] theorem ty_118 : ty 118 = some ti118 := by kernel_rfl
@[go_sem] theorem ty_120 : ty 120 = some ti120 := by kernel_rfl
@[go_sem] theorem ty_127 : ty 127 = some ti127 := by kernel_rfl
@[go_sem] theorem ty_128 : ty 128 = some ti128 := by kernel_rfl
@[go_sem] theorem ty_129 : ty 129 = some ti129 := by kernel_rfl
@[go_sem] theorem ty_143 : ty 143 = some ti143 := by kernel_rfl
attribute [go_sem] ti3 ti4 ti5 ti9 ti21 ti22 ti23 ti24 ti29 ti37 ti41 ti42 ti43 ti45 ti48 ti49 ti50 ti51 ti55 ti58 ti59 ti63 ti64 ti65 ti66 ti75 ti76 ti93 ti97 ti98 ti103 ti104 ti110 ti111 ti115 ti118 ti120 ti127 ti128 ti129 ti143

def zv (i : TI) : Value := if i.agg = true then .agg i.zero.toArray else i.zero.headD .nilFunc
theorem fact {t : Nat} {i : TI} (he : ∀ n, i.eqn = some n → EqOk Tryz.prog t n := by (intro n hn; cases hn; done)) (h1 : (Tryz.prog.info? t).map (fun i => (i.size, i.bytes, i.zero)) = some (i.size, i.bytes, some (zv i)) := by kernel_rfl) (h2 : Tryz.prog.underlying t = some i.desc := by kernel_rfl) (hz : (zv i).cells.toList = i.zero := by rfl)
    (ha : i.agg = (match i.desc with | .struct _ | .array _ _ => true | _ => false) := by rfl) (ho : i.agg = false → i.size = 1 := by first | (intro _; rfl) | (intro h; cases h)) (hl : i.zero.length = i.size := by rfl) : TyFact Tryz.prog t i := by
  refine ⟨?_, h2, ha, ho, hl, he⟩
  cases hi : Tryz.prog.info? t with
  | none => rw [hi] at h1; cases h1
  | some info =>
    rw [hi] at h1
    simp only [Option.map_some, Option.some.injEq, Prod.mk.injEq] at h1
    exact ⟨info, zv i, rfl, h1.1, h1.2.1, h1.2.2, hz⟩

theorem eq49 : EqOk Tryz.prog 49 [true, true] where
  guard := by kernel_rfl
  run := by
    intro xs ys w h1 h2
    obtain ⟨a0, xs0, rfl, h1_0⟩ := kindsI h1
    obtain ⟨b0, ys0, rfl, h2_0⟩ := kindsI h2
    obtain ⟨a1, xs1, rfl, h1_1⟩ := kindsI h1_0
    obtain ⟨b1, ys1, rfl, h2_1⟩ := kindsI h2_0
    obtain rfl := kindsN h1_1
    obtain rfl := kindsN h2_1
    have u3 : Tryz.prog.underlying 3 = some (.int .i64) := by kernel_rfl
    have u49 : Tryz.prog.underlying 49 = some (.struct #[⟨"Re", 3, 0, false, "", "", 0⟩, ⟨"Im", 3, 1, false, "", "", 8⟩]) := by kernel_rfl
    have g49 : Tryz.prog.stoodInHeld 49 = false := by kernel_rfl
    have v49 : Tryz.prog.underlying 49 = some (.struct (Tryz.prog.fieldsOf 49)) := by kernel_rfl
    have w49 : (Tryz.prog.fieldsOf 49).toList = [⟨"Re", 3, 0, false, "", "", 0⟩, ⟨"Im", 3, 1, false, "", "", 8⟩] := by kernel_rfl
    have s49 : ∀ w, (sizeOf 49).run Tryz.prog w = .ok 2 w := fun _ => by kernel_rfl
    have p3 : ∀ w, (isAgg 3).run Tryz.prog w = .ok false w := fun _ => by kernel_rfl
    have p49 : ∀ w, (isAgg 49).run Tryz.prog w = .ok true w := fun _ => by kernel_rfl
    have e3 : ∀ (d : Nat) (a b : Int) (w : World), (Op.equalIn (d + 1) 3 (.int .i64 a) (.int .i64 b)).run Tryz.prog w = .ok (a == b) w := fun d a b w => run_equalIn_int w d 3 .i64 .i64 a b u3
    have e49 : ∀ (d : Nat) (xs ys : Array Value) (w : World), (Op.equalIn (d + 1) 49 (.agg xs) (.agg ys)).run Tryz.prog w = (Op.eqFields d xs ys (Tryz.prog.fieldsOf 49).toList).run Tryz.prog w := fun d xs ys w => run_equalIn_struct w d 49 xs ys v49 g49
    simp [evs, EV.val, e3, e49, Op.eqFields, part, g49, w49, s49, p3, p49]
    try grind
theorem eq51 : EqOk Tryz.prog 51 [true, true, true, true] where
  guard := by kernel_rfl
  run := by
    intro xs ys w h1 h2
    obtain ⟨a0, xs0, rfl, h1_0⟩ := kindsI h1
    obtain ⟨b0, ys0, rfl, h2_0⟩ := kindsI h2
    obtain ⟨a1, xs1, rfl, h1_1⟩ := kindsI h1_0
    obtain ⟨b1, ys1, rfl, h2_1⟩ := kindsI h2_0
    obtain ⟨a2, xs2, rfl, h1_2⟩ := kindsI h1_1
    obtain ⟨b2, ys2, rfl, h2_2⟩ := kindsI h2_1
    obtain ⟨a3, xs3, rfl, h1_3⟩ := kindsI h1_2
    obtain ⟨b3, ys3, rfl, h2_3⟩ := kindsI h2_2
    obtain rfl := kindsN h1_3
    obtain rfl := kindsN h2_3
    have u3 : Tryz.prog.underlying 3 = some (.int .i64) := by kernel_rfl
    have u49 : Tryz.prog.underlying 49 = some (.struct #[⟨"Re", 3, 0, false, "", "", 0⟩, ⟨"Im", 3, 1, false, "", "", 8⟩]) := by kernel_rfl
    have u51 : Tryz.prog.underlying 51 = some (.struct #[⟨"Num", 49, 0, false, "", "", 0⟩, ⟨"Den", 49, 2, false, "", "", 16⟩]) := by kernel_rfl
    have g49 : Tryz.prog.stoodInHeld 49 = false := by kernel_rfl
    have v49 : Tryz.prog.underlying 49 = some (.struct (Tryz.prog.fieldsOf 49)) := by kernel_rfl
    have w49 : (Tryz.prog.fieldsOf 49).toList = [⟨"Re", 3, 0, false, "", "", 0⟩, ⟨"Im", 3, 1, false, "", "", 8⟩] := by kernel_rfl
    have s49 : ∀ w, (sizeOf 49).run Tryz.prog w = .ok 2 w := fun _ => by kernel_rfl
    have g51 : Tryz.prog.stoodInHeld 51 = false := by kernel_rfl
    have v51 : Tryz.prog.underlying 51 = some (.struct (Tryz.prog.fieldsOf 51)) := by kernel_rfl
    have w51 : (Tryz.prog.fieldsOf 51).toList = [⟨"Num", 49, 0, false, "", "", 0⟩, ⟨"Den", 49, 2, false, "", "", 16⟩] := by kernel_rfl
    have s51 : ∀ w, (sizeOf 51).run Tryz.prog w = .ok 4 w := fun _ => by kernel_rfl
    have p3 : ∀ w, (isAgg 3).run Tryz.prog w = .ok false w := fun _ => by kernel_rfl
    have p49 : ∀ w, (isAgg 49).run Tryz.prog w = .ok true w := fun _ => by kernel_rfl
    have p51 : ∀ w, (isAgg 51).run Tryz.prog w = .ok true w := fun _ => by kernel_rfl
    have e3 : ∀ (d : Nat) (a b : Int) (w : World), (Op.equalIn (d + 1) 3 (.int .i64 a) (.int .i64 b)).run Tryz.prog w = .ok (a == b) w := fun d a b w => run_equalIn_int w d 3 .i64 .i64 a b u3
    have e49 : ∀ (d : Nat) (xs ys : Array Value) (w : World), (Op.equalIn (d + 1) 49 (.agg xs) (.agg ys)).run Tryz.prog w = (Op.eqFields d xs ys (Tryz.prog.fieldsOf 49).toList).run Tryz.prog w := fun d xs ys w => run_equalIn_struct w d 49 xs ys v49 g49
    have e51 : ∀ (d : Nat) (xs ys : Array Value) (w : World), (Op.equalIn (d + 1) 51 (.agg xs) (.agg ys)).run Tryz.prog w = (Op.eqFields d xs ys (Tryz.prog.fieldsOf 51).toList).run Tryz.prog w := fun d xs ys w => run_equalIn_struct w d 51 xs ys v51 g51
    simp [evs, EV.val, e3, e49, e51, Op.eqFields, part, g49, w49, s49, g51, w51, s51, p3, p49, p51]
    try grind
theorem eq65 : EqOk Tryz.prog 65 [true, true, true] where
  guard := by kernel_rfl
  run := by
    intro xs ys w h1 h2
    obtain ⟨a0, xs0, rfl, h1_0⟩ := kindsI h1
    obtain ⟨b0, ys0, rfl, h2_0⟩ := kindsI h2
    obtain ⟨a1, xs1, rfl, h1_1⟩ := kindsI h1_0
    obtain ⟨b1, ys1, rfl, h2_1⟩ := kindsI h2_0
    obtain ⟨a2, xs2, rfl, h1_2⟩ := kindsI h1_1
    obtain ⟨b2, ys2, rfl, h2_2⟩ := kindsI h2_1
    obtain rfl := kindsN h1_2
    obtain rfl := kindsN h2_2
    have u3 : Tryz.prog.underlying 3 = some (.int .i64) := by kernel_rfl
    have u65 : Tryz.prog.underlying 65 = some (.struct #[⟨"Conductance", 3, 0, false, "", "", 0⟩, ⟨"Cold", 3, 1, false, "", "", 8⟩, ⟨"Hot", 3, 2, false, "", "", 16⟩]) := by kernel_rfl
    have g65 : Tryz.prog.stoodInHeld 65 = false := by kernel_rfl
    have v65 : Tryz.prog.underlying 65 = some (.struct (Tryz.prog.fieldsOf 65)) := by kernel_rfl
    have w65 : (Tryz.prog.fieldsOf 65).toList = [⟨"Conductance", 3, 0, false, "", "", 0⟩, ⟨"Cold", 3, 1, false, "", "", 8⟩, ⟨"Hot", 3, 2, false, "", "", 16⟩] := by kernel_rfl
    have s65 : ∀ w, (sizeOf 65).run Tryz.prog w = .ok 3 w := fun _ => by kernel_rfl
    have p3 : ∀ w, (isAgg 3).run Tryz.prog w = .ok false w := fun _ => by kernel_rfl
    have p65 : ∀ w, (isAgg 65).run Tryz.prog w = .ok true w := fun _ => by kernel_rfl
    have e3 : ∀ (d : Nat) (a b : Int) (w : World), (Op.equalIn (d + 1) 3 (.int .i64 a) (.int .i64 b)).run Tryz.prog w = .ok (a == b) w := fun d a b w => run_equalIn_int w d 3 .i64 .i64 a b u3
    have e65 : ∀ (d : Nat) (xs ys : Array Value) (w : World), (Op.equalIn (d + 1) 65 (.agg xs) (.agg ys)).run Tryz.prog w = (Op.eqFields d xs ys (Tryz.prog.fieldsOf 65).toList).run Tryz.prog w := fun d xs ys w => run_equalIn_struct w d 65 xs ys v65 g65
    simp [evs, EV.val, e3, e65, Op.eqFields, part, g65, w65, s65, p3, p65]
    try grind
theorem tf3 : TyFact Tryz.prog 3 ti3 := fact
theorem tf4 : TyFact Tryz.prog 4 ti4 := fact
theorem tf5 : TyFact Tryz.prog 5 ti5 := fact
theorem tf9 : TyFact Tryz.prog 9 ti9 := fact
theorem tf21 : TyFact Tryz.prog 21 ti21 := fact
theorem tf22 : TyFact Tryz.prog 22 ti22 := fact
theorem tf23 : TyFact Tryz.prog 23 ti23 := fact
theorem tf24 : TyFact Tryz.prog 24 ti24 := fact
theorem tf29 : TyFact Tryz.prog 29 ti29 := fact
theorem tf37 : TyFact Tryz.prog 37 ti37 := fact
theorem tf41 : TyFact Tryz.prog 41 ti41 := fact
theorem tf42 : TyFact Tryz.prog 42 ti42 := fact
theorem tf43 : TyFact Tryz.prog 43 ti43 := fact
theorem tf45 : TyFact Tryz.prog 45 ti45 := fact
theorem tf48 : TyFact Tryz.prog 48 ti48 := fact
theorem tf49 : TyFact Tryz.prog 49 ti49 := fact (fun n hn => by obtain rfl := Option.some.inj hn; exact eq49)
theorem tf50 : TyFact Tryz.prog 50 ti50 := fact
theorem tf51 : TyFact Tryz.prog 51 ti51 := fact (fun n hn => by obtain rfl := Option.some.inj hn; exact eq51)
theorem tf55 : TyFact Tryz.prog 55 ti55 := fact
theorem tf58 : TyFact Tryz.prog 58 ti58 := fact
theorem tf59 : TyFact Tryz.prog 59 ti59 := fact
theorem tf63 : TyFact Tryz.prog 63 ti63 := fact
theorem tf64 : TyFact Tryz.prog 64 ti64 := fact
theorem tf65 : TyFact Tryz.prog 65 ti65 := fact (fun n hn => by obtain rfl := Option.some.inj hn; exact eq65)
theorem tf66 : TyFact Tryz.prog 66 ti66 := fact
theorem tf75 : TyFact Tryz.prog 75 ti75 := fact
theorem tf76 : TyFact Tryz.prog 76 ti76 := fact
theorem tf93 : TyFact Tryz.prog 93 ti93 := fact
theorem tf97 : TyFact Tryz.prog 97 ti97 := fact
theorem tf98 : TyFact Tryz.prog 98 ti98 := fact
theorem tf103 : TyFact Tryz.prog 103 ti103 := fact
theorem tf104 : TyFact Tryz.prog 104 ti104 := fact
theorem tf110 : TyFact Tryz.prog 110 ti110 := fact
theorem tf111 : TyFact Tryz.prog 111 ti111 := fact
theorem tf115 : TyFact Tryz.prog 115 ti115 := fact
theorem tf118 : TyFact Tryz.prog 118 ti118 := fact
theorem tf120 : TyFact Tryz.prog 120 ti120 := fact
theorem tf127 : TyFact Tryz.prog 127 ti127 := fact
theorem tf128 : TyFact Tryz.prog 128 ti128 := fact
theorem tf129 : TyFact Tryz.prog 129 ti129 := fact
theorem tf143 : TyFact Tryz.prog 143 ti143 := fact
def Facts : List (Nat × TI) → Prop
  | [] => True
  | p :: r => TyFact Tryz.prog p.1 p.2 ∧ Facts r
theorem facts_get : ∀ {l : List (Nat × TI)}, Facts l → ∀ t i, lk l t = some i → TyFact Tryz.prog t i
  | [], _, _, _, h => by cases h
  | (k, x) :: r, h, t, i, hi => by
    simp only [lk] at hi
    split at hi
    · rename_i e; subst e; obtain rfl := Option.some.inj hi; exact h.1
    · exact facts_get h.2 t i hi
theorem ty_ok : TyOk Tryz.prog ty := facts_get (l := tyl) ⟨tf3, tf4, tf5, tf9, tf21, tf22, tf23, tf24, tf29, tf37, tf41, tf42, tf43, tf45, tf48, tf49, tf50, tf51, tf55, tf58, tf59, tf63, tf64, tf65, tf66, tf75, tf76, tf93, tf97, tf98, tf103, tf104, tf110, tf111, tf115, tf118, tf120, tf127, tf128, tf129, tf143, trivial⟩

end Go.Proofs.YtkhfaooknmoboaaGreatDoor
