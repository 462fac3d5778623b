/-
  The types of the translation, as the abstract machine uses them: a table, and that it agrees with the program's. Written by a program of ours (gen_ty.py).
-/
import Derived.Test.YtfmjhllkheapeaaProg
import Derived.Test.YtfmjhllkheapeaaAbsC
import Derived.KernelRfl
set_option linter.unusedSimpArgs false
set_option linter.unusedVariables false
namespace Go.Proofs.Ytfmjhllkheapeaa
open Go.Abs

def ti3 : TI := ⟨1, 8, false, [.int .i64 0], .int .i64, none⟩
def ti4 : TI := ⟨1, 1, false, [.bool false], .bool, none⟩
def ti22 : TI := ⟨3, 24, true, [.int .i64 0, .int .i64 0, .int .i64 0], .struct #[⟨"Lot", 3, 0, false, "", "", 0⟩, ⟨"Sample", 3, 1, false, "", "", 8⟩, ⟨"Accept", 3, 2, false, "", "", 16⟩], none⟩
def ti23 : TI := ⟨3, 24, true, [.int .i64 0, .int .i64 0, .int .i64 0], .struct #[⟨"Lot", 3, 0, false, "", "", 0⟩, ⟨"Sample", 3, 1, false, "", "", 8⟩, ⟨"Accept", 3, 2, false, "", "", 16⟩], none⟩
def ti28 : TI := ⟨2, 16, true, [.int .i64 0, .int .i64 0], .struct #[⟨"Num", 3, 0, false, "", "", 0⟩, ⟨"Den", 3, 1, false, "", "", 8⟩], none⟩
def ti29 : TI := ⟨2, 16, true, [.int .i64 0, .int .i64 0], .struct #[⟨"Num", 3, 0, false, "", "", 0⟩, ⟨"Den", 3, 1, false, "", "", 8⟩], some 2⟩
def ti30 : TI := ⟨1, 8, false, [.int .i64 0], .int .i64, none⟩
def ti34 : TI := ⟨1, 24, false, [.slice none 0 0], .slice 3, none⟩
def ti35 : TI := ⟨2, 32, true, [.int .i64 0, .slice none 0 0], .struct #[⟨"Sign", 3, 0, false, "", "", 0⟩, ⟨"Digits", 34, 1, false, "", "", 8⟩], none⟩
def ti36 : TI := ⟨2, 32, true, [.int .i64 0, .slice none 0 0], .struct #[⟨"Sign", 3, 0, false, "", "", 0⟩, ⟨"Digits", 34, 1, false, "", "", 8⟩], none⟩
def ti37 : TI := ⟨4, 64, true, [.int .i64 0, .slice none 0 0, .int .i64 0, .slice none 0 0], .struct #[⟨"Num", 36, 0, false, "", "", 0⟩, ⟨"Den", 36, 2, false, "", "", 32⟩], none⟩
def ti38 : TI := ⟨4, 64, true, [.int .i64 0, .slice none 0 0, .int .i64 0, .slice none 0 0], .struct #[⟨"Num", 36, 0, false, "", "", 0⟩, ⟨"Den", 36, 2, false, "", "", 32⟩], none⟩
def ti49 : TI := ⟨4, 32, true, [.int .i64 0, .int .i64 0, .int .i64 0, .int .i64 0], .struct #[⟨"Lo", 29, 0, false, "", "", 0⟩, ⟨"Hi", 29, 2, false, "", "", 16⟩], none⟩
def ti50 : TI := ⟨4, 32, true, [.int .i64 0, .int .i64 0, .int .i64 0, .int .i64 0], .struct #[⟨"Lo", 29, 0, false, "", "", 0⟩, ⟨"Hi", 29, 2, false, "", "", 16⟩], some 4⟩
def ti53 : TI := ⟨1, 24, false, [.slice none 0 0], .slice 83, none⟩
def ti54 : TI := ⟨1, 24, true, [.slice none 0 0], .struct #[⟨"Indents", 53, 0, false, "", "", 0⟩], none⟩
def ti55 : TI := ⟨1, 24, true, [.slice none 0 0], .struct #[⟨"Indents", 53, 0, false, "", "", 0⟩], none⟩
def ti72 : TI := ⟨1, 24, false, [.slice none 0 0], .slice 77, none⟩
def ti73 : TI := ⟨1, 24, false, [.slice none 0 0], .slice 77, none⟩
def ti76 : TI := ⟨2, 16, true, [.int .i64 0, .int .i64 0], .struct #[⟨"at", 3, 0, false, "", "martensite/inspect", 0⟩, ⟨"number", 3, 1, false, "", "martensite/inspect", 8⟩], none⟩
def ti77 : TI := ⟨2, 16, true, [.int .i64 0, .int .i64 0], .struct #[⟨"at", 3, 0, false, "", "martensite/inspect", 0⟩, ⟨"number", 3, 1, false, "", "martensite/inspect", 8⟩], none⟩
def ti80 : TI := ⟨2, 16, true, [.int .i64 0, .int .i64 0], .struct #[⟨"Lo", 3, 0, false, "", "", 0⟩, ⟨"Hi", 3, 1, false, "", "", 8⟩], none⟩
def ti81 : TI := ⟨2, 16, true, [.int .i64 0, .int .i64 0], .struct #[⟨"Lo", 3, 0, false, "", "", 0⟩, ⟨"Hi", 3, 1, false, "", "", 8⟩], none⟩
def ti82 : TI := ⟨4, 32, true, [.int .i64 0, .int .i64 0, .int .i64 0, .int .i64 0], .struct #[⟨"Depth", 3, 0, false, "", "", 0⟩, ⟨"Diagonal", 3, 1, false, "", "", 8⟩, ⟨"Hardness", 81, 2, false, "", "", 16⟩], none⟩
def ti83 : TI := ⟨4, 32, true, [.int .i64 0, .int .i64 0, .int .i64 0, .int .i64 0], .struct #[⟨"Depth", 3, 0, false, "", "", 0⟩, ⟨"Diagonal", 3, 1, false, "", "", 8⟩, ⟨"Hardness", 81, 2, false, "", "", 16⟩], none⟩
def ti84 : TI := ⟨1, 24, false, [.slice none 0 0], .slice 30, none⟩
def ti92 : TI := ⟨1, 8, false, [.nilFunc], .func #[77] #[4] false, none⟩
def ti98 : TI := ⟨1, 8, false, [.nilFunc], .func #[3, 83, 83] #[30] false, none⟩
def tyl : List (Nat × TI) := [(3, ti3), (4, ti4), (22, ti22), (23, ti23), (28, ti28), (29, ti29), (30, ti30), (34, ti34), (35, ti35), (36, ti36), (37, ti37), (38, ti38), (49, ti49), (50, ti50), (53, ti53), (54, ti54), (55, ti55), (72, ti72), (73, ti73), (76, ti76), (77, ti77), (80, ti80), (81, ti81), (82, ti82), (83, ti83), (84, ti84), (92, ti92), (98, ti98)]
def ty : Tys := fun t => lk tyl t
@[go_sem] theorem ty_3 : ty 3 = some ti3 := by kernel_rfl
@[go_sem] theorem ty_4 : ty 4 = some ti4 := by kernel_rfl
@[go_sem] theorem ty_22 : ty 22 = some ti22 := by kernel_rfl
@[go_sem] theorem ty_23 : ty 23 = some ti23 := by kernel_rfl
@[go_sem] theorem ty_28 : ty 28 = some ti28 := by kernel_rfl
@[go_sem] theorem ty_29 : ty 29 = some ti29 := by kernel_rfl
@[go_sem] theorem ty_30 : ty 30 = some ti30 := by kernel_rfl
@[go_sem] theorem ty_34 : ty 34 = some ti34 := by kernel_rfl
@[go_sem] theorem ty_35 : ty 35 = some ti35 := by kernel_rfl
@[go_sem] theorem ty_36 : ty 36 = some ti36 := by kernel_rfl
@[go_sem] theorem ty_37 : ty 37 = some ti37 := by kernel_rfl
@[go_sem] theorem ty_38 : ty 38 = some ti38 := by kernel_rfl
@[go_sem] theorem ty_49 : ty 49 = some ti49 := by kernel_rfl
@[go_sem] theorem ty_50 : ty 50 = some ti50 := by kernel_rfl
@[go_sem] theorem ty_53 : ty 53 = some ti53 := by kernel_rfl
@[go_sem] theorem ty_54 : ty 54 = some ti54 := by kernel_rfl
@[go_sem] theorem ty_55 : ty 55 = some ti55 := by kernel_rfl
@[go_sem] theorem ty_72 : ty 72 = some ti72 := by kernel_rfl
@[go_sem] theorem ty_73 : ty 73 = some ti73 := by kernel_rfl
@[go_sem] theorem ty_76 : ty 76 = some ti76 := by kernel_rfl
@[go_sem] theorem ty_77 : ty 77 = some ti77 := by kernel_rfl
@[go_sem] theorem ty_80 : ty 80 = some ti80 := by kernel_rfl
@[go_sem] theorem ty_81 : ty 81 = some ti81 := by kernel_rfl
@[go_sem] theorem ty_82 : ty 82 = some ti82 := by kernel_rfl
@[go_sem] theorem ty_83 : ty 83 = some ti83 := by kernel_rfl
@[go_sem] theorem ty_84 : ty 84 = some ti84 := by kernel_rfl
@[go_sem] theorem ty_92 : ty 92 = some ti92 := by kernel_rfl
@[go_sem] theorem ty_98 : ty 98 = some ti98 := by kernel_rfl
attribute [go_sem] ti3 ti4 ti22 ti23 ti28 ti29 ti30 ti34 ti35 ti36 ti37 ti38 ti49 ti50 ti53 ti54 ti55 ti72 ti73 ti76 ti77 ti80 ti81 ti82 ti83 ti84 ti92 ti98

def zv (i : TI) : Value := if i.agg = true then .agg i.zero.toArray else i.zero.headD .nilFunc
theorem fact {t : Nat} {i : TI} (he : ∀ n, i.eqn = some n → EqOk Try.prog t n := by (intro n hn; cases hn; done)) (h1 : (Try.prog.info? t).map (fun i => (i.size, i.bytes, i.zero)) = some (i.size, i.bytes, some (zv i)) := by kernel_rfl) (h2 : Try.prog.underlying t = some i.desc := by kernel_rfl) (hz : (zv i).cells.toList = i.zero := by rfl)
    (ha : i.agg = (match i.desc with | .struct _ | .array _ _ => true | _ => false) := by rfl) (ho : i.agg = false → i.size = 1 := by first | (intro _; rfl) | (intro h; cases h)) (hl : i.zero.length = i.size := by rfl) : TyFact Try.prog t i := by
  refine ⟨?_, h2, ha, ho, hl, he⟩
  cases hi : Try.prog.info? t with
  | none => rw [hi] at h1; cases h1
  | some info =>
    rw [hi] at h1
    simp only [Option.map_some, Option.some.injEq, Prod.mk.injEq] at h1
    exact ⟨info, zv i, rfl, h1.1, h1.2.1, h1.2.2, hz⟩

theorem eq29 : EqOk Try.prog 29 2 where
  guard := by kernel_rfl
  run := by
    intro xs ys w h1 h2
    match xs, ys, h1, h2 with
    | [a0, a1], [b0, b1], _, _ =>
      have u3 : Try.prog.underlying 3 = some (.int .i64) := by kernel_rfl
      have u29 : Try.prog.underlying 29 = some (.struct #[⟨"Num", 3, 0, false, "", "", 0⟩, ⟨"Den", 3, 1, false, "", "", 8⟩]) := by kernel_rfl
      have g29 : Try.prog.stoodInHeld 29 = false := by kernel_rfl
      have v29 : Try.prog.underlying 29 = some (.struct (Try.prog.fieldsOf 29)) := by kernel_rfl
      have w29 : (Try.prog.fieldsOf 29).toList = [⟨"Num", 3, 0, false, "", "", 0⟩, ⟨"Den", 3, 1, false, "", "", 8⟩] := by kernel_rfl
      have s29 : ∀ w, (sizeOf 29).run Try.prog w = .ok 2 w := fun _ => by kernel_rfl
      have p3 : ∀ w, (isAgg 3).run Try.prog w = .ok false w := fun _ => by kernel_rfl
      have p29 : ∀ w, (isAgg 29).run Try.prog w = .ok true w := fun _ => by kernel_rfl
      have e3 : ∀ (d : Nat) (a b : Int) (w : World), (Op.equalIn (d + 1) 3 (.int .i64 a) (.int .i64 b)).run Try.prog w = .ok (a == b) w := fun d a b w => run_equalIn_int w d 3 .i64 .i64 a b u3
      have e29 : ∀ (d : Nat) (xs ys : Array Value) (w : World), (Op.equalIn (d + 1) 29 (.agg xs) (.agg ys)).run Try.prog w = (Op.eqFields d xs ys (Try.prog.fieldsOf 29).toList).run Try.prog w := fun d xs ys w => run_equalIn_struct w d 29 xs ys v29 g29
      simp [ints, e3, e29, Op.eqFields, part, g29, w29, s29, p3, p29]
      try grind
theorem eq50 : EqOk Try.prog 50 4 where
  guard := by kernel_rfl
  run := by
    intro xs ys w h1 h2
    match xs, ys, h1, h2 with
    | [a0, a1, a2, a3], [b0, b1, b2, b3], _, _ =>
      have u3 : Try.prog.underlying 3 = some (.int .i64) := by kernel_rfl
      have u29 : Try.prog.underlying 29 = some (.struct #[⟨"Num", 3, 0, false, "", "", 0⟩, ⟨"Den", 3, 1, false, "", "", 8⟩]) := by kernel_rfl
      have u50 : Try.prog.underlying 50 = some (.struct #[⟨"Lo", 29, 0, false, "", "", 0⟩, ⟨"Hi", 29, 2, false, "", "", 16⟩]) := by kernel_rfl
      have g29 : Try.prog.stoodInHeld 29 = false := by kernel_rfl
      have v29 : Try.prog.underlying 29 = some (.struct (Try.prog.fieldsOf 29)) := by kernel_rfl
      have w29 : (Try.prog.fieldsOf 29).toList = [⟨"Num", 3, 0, false, "", "", 0⟩, ⟨"Den", 3, 1, false, "", "", 8⟩] := by kernel_rfl
      have s29 : ∀ w, (sizeOf 29).run Try.prog w = .ok 2 w := fun _ => by kernel_rfl
      have g50 : Try.prog.stoodInHeld 50 = false := by kernel_rfl
      have v50 : Try.prog.underlying 50 = some (.struct (Try.prog.fieldsOf 50)) := by kernel_rfl
      have w50 : (Try.prog.fieldsOf 50).toList = [⟨"Lo", 29, 0, false, "", "", 0⟩, ⟨"Hi", 29, 2, false, "", "", 16⟩] := by kernel_rfl
      have s50 : ∀ w, (sizeOf 50).run Try.prog w = .ok 4 w := fun _ => by kernel_rfl
      have p3 : ∀ w, (isAgg 3).run Try.prog w = .ok false w := fun _ => by kernel_rfl
      have p29 : ∀ w, (isAgg 29).run Try.prog w = .ok true w := fun _ => by kernel_rfl
      have p50 : ∀ w, (isAgg 50).run Try.prog w = .ok true w := fun _ => by kernel_rfl
      have e3 : ∀ (d : Nat) (a b : Int) (w : World), (Op.equalIn (d + 1) 3 (.int .i64 a) (.int .i64 b)).run Try.prog w = .ok (a == b) w := fun d a b w => run_equalIn_int w d 3 .i64 .i64 a b u3
      have e29 : ∀ (d : Nat) (xs ys : Array Value) (w : World), (Op.equalIn (d + 1) 29 (.agg xs) (.agg ys)).run Try.prog w = (Op.eqFields d xs ys (Try.prog.fieldsOf 29).toList).run Try.prog w := fun d xs ys w => run_equalIn_struct w d 29 xs ys v29 g29
      have e50 : ∀ (d : Nat) (xs ys : Array Value) (w : World), (Op.equalIn (d + 1) 50 (.agg xs) (.agg ys)).run Try.prog w = (Op.eqFields d xs ys (Try.prog.fieldsOf 50).toList).run Try.prog w := fun d xs ys w => run_equalIn_struct w d 50 xs ys v50 g50
      simp [ints, e3, e29, e50, Op.eqFields, part, g29, w29, s29, g50, w50, s50, p3, p29, p50]
      try grind
theorem tf3 : TyFact Try.prog 3 ti3 := fact
theorem tf4 : TyFact Try.prog 4 ti4 := fact
theorem tf22 : TyFact Try.prog 22 ti22 := fact
theorem tf23 : TyFact Try.prog 23 ti23 := fact
theorem tf28 : TyFact Try.prog 28 ti28 := fact
theorem tf29 : TyFact Try.prog 29 ti29 := fact (fun n hn => by obtain rfl := Option.some.inj hn; exact eq29)
theorem tf30 : TyFact Try.prog 30 ti30 := fact
theorem tf34 : TyFact Try.prog 34 ti34 := fact
theorem tf35 : TyFact Try.prog 35 ti35 := fact
theorem tf36 : TyFact Try.prog 36 ti36 := fact
theorem tf37 : TyFact Try.prog 37 ti37 := fact
theorem tf38 : TyFact Try.prog 38 ti38 := fact
theorem tf49 : TyFact Try.prog 49 ti49 := fact
theorem tf50 : TyFact Try.prog 50 ti50 := fact (fun n hn => by obtain rfl := Option.some.inj hn; exact eq50)
theorem tf53 : TyFact Try.prog 53 ti53 := fact
theorem tf54 : TyFact Try.prog 54 ti54 := fact
theorem tf55 : TyFact Try.prog 55 ti55 := fact
theorem tf72 : TyFact Try.prog 72 ti72 := fact
theorem tf73 : TyFact Try.prog 73 ti73 := fact
theorem tf76 : TyFact Try.prog 76 ti76 := fact
theorem tf77 : TyFact Try.prog 77 ti77 := fact
theorem tf80 : TyFact Try.prog 80 ti80 := fact
theorem tf81 : TyFact Try.prog 81 ti81 := fact
theorem tf82 : TyFact Try.prog 82 ti82 := fact
theorem tf83 : TyFact Try.prog 83 ti83 := fact
theorem tf84 : TyFact Try.prog 84 ti84 := fact
theorem tf92 : TyFact Try.prog 92 ti92 := fact
theorem tf98 : TyFact Try.prog 98 ti98 := fact
def Facts : List (Nat × TI) → Prop
  | [] => True
  | p :: r => TyFact Try.prog p.1 p.2 ∧ Facts r
theorem facts_get : ∀ {l : List (Nat × TI)}, Facts l → ∀ t i, lk l t = some i → TyFact Try.prog t i
  | [], _, _, _, h => by cases h
  | (k, x) :: r, h, t, i, hi => by
    simp only [lk] at hi
    split at hi
    · rename_i e; subst e; obtain rfl := Option.some.inj hi; exact h.1
    · exact facts_get h.2 t i hi
theorem ty_ok : TyOk Try.prog ty := facts_get (l := tyl) ⟨tf3, tf4, tf22, tf23, tf28, tf29, tf30, tf34, tf35, tf36, tf37, tf38, tf49, tf50, tf53, tf54, tf55, tf72, tf73, tf76, tf77, tf80, tf81, tf82, tf83, tf84, tf92, tf98, trivial⟩

end Go.Proofs.Ytfmjhllkheapeaa
