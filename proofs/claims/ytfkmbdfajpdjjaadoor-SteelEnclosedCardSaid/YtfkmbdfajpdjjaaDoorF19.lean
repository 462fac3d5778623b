/- Contracts of functions, written by wip/dec. -/
import Derived.Test.YtfkmbdfajpdjjaaDoorF00
import Derived.Test.YtfkmbdfajpdjjaaDoorF01
import Derived.Test.YtfkmbdfajpdjjaaDoorF02
import Derived.Test.YtfkmbdfajpdjjaaDoorF03
import Derived.Test.YtfkmbdfajpdjjaaDoorF06
import Derived.Test.YtfkmbdfajpdjjaaDoorF18
set_option linter.unusedVariables false
set_option linter.unusedSimpArgs false
set_option maxHeartbeats 4000000
set_option maxRecDepth 20000
namespace Go.Proofs.YtfkmbdfajpdjjaaDoor
open Go.Abs
/- (martensite/steel.rules).rangeStep -/
def b104_1 (a0_0 : List (Int × Int × Int × Int)) (a0_1 : List (Int × Int × Int × Int × Int)) (a0_2 : List (Int × Int × Int)) (a0_3 : List (Int × Int)) (a0_4 : Int) (a0_5 : Int) (a0_6 : Int) (a0_7 : Int) (a1_0 : Int) (a1_1 : Int) (a1_2 : Int) (a1_3 : Int) (a1_4 : Int) (a1_5 : Int) (a1_6 : Int) (a1_7 : Int) (a1_8 : Int) (a1_9 : Int) (a1_10 : Int) (a1_11 : Int) (a1_12 : Int) (a1_13 : Int) (a2_1 : Int) : (Int × Int × Int × Int × Int × Int × Int × Int × Int × Int × Int × Int × Int × Int × Int) → Ctl (Int × Int × Int × Int × Int × Int × Int × Int × Int × Int × Int × Int × Int × Int × Int) (Int × Int × Int × Int × Int × Int × Int × Int × Int × Int × Int × Int × Int × Int) := fun s1 =>
  if (decide (s1.1 ≤ a2_1)) = true then
   bindC (r127 a0_0 a0_1 a0_2 a0_3 a0_4 a0_5 a0_6 a0_7 a1_0 a1_1 a1_2 a1_3 a1_4 a1_5 a1_6 a1_7 a1_8 a1_9 a1_10 a1_11 a1_12 a1_13 s1.1) fun v2 =>
    bindC (r128 s1.2.1 s1.2.2.1 s1.2.2.2.1 s1.2.2.2.2.1 s1.2.2.2.2.2.1 s1.2.2.2.2.2.2.1 s1.2.2.2.2.2.2.2.1 s1.2.2.2.2.2.2.2.2.1 s1.2.2.2.2.2.2.2.2.2.1 s1.2.2.2.2.2.2.2.2.2.2.1 s1.2.2.2.2.2.2.2.2.2.2.2.1 s1.2.2.2.2.2.2.2.2.2.2.2.2.1 s1.2.2.2.2.2.2.2.2.2.2.2.2.2.1 s1.2.2.2.2.2.2.2.2.2.2.2.2.2.2 v2.1 v2.2.1 v2.2.2.1 v2.2.2.2.1 v2.2.2.2.2.1 v2.2.2.2.2.2.1 v2.2.2.2.2.2.2.1 v2.2.2.2.2.2.2.2.1 v2.2.2.2.2.2.2.2.2.1 v2.2.2.2.2.2.2.2.2.2.1 v2.2.2.2.2.2.2.2.2.2.2.1 v2.2.2.2.2.2.2.2.2.2.2.2.1 v2.2.2.2.2.2.2.2.2.2.2.2.2.1 v2.2.2.2.2.2.2.2.2.2.2.2.2.2) fun v3 =>
     .next (IntKind.i64.wrap (s1.1 + 1), v3.1, v3.2.1, v3.2.2.1, v3.2.2.2.1, v3.2.2.2.2.1, v3.2.2.2.2.2.1, v3.2.2.2.2.2.2.1, v3.2.2.2.2.2.2.2.1, v3.2.2.2.2.2.2.2.2.1, v3.2.2.2.2.2.2.2.2.2.1, v3.2.2.2.2.2.2.2.2.2.2.1, v3.2.2.2.2.2.2.2.2.2.2.2.1, v3.2.2.2.2.2.2.2.2.2.2.2.2.1, v3.2.2.2.2.2.2.2.2.2.2.2.2.2)
   else .out (some (s1.2.1, s1.2.2.1, s1.2.2.2.1, s1.2.2.2.2.1, s1.2.2.2.2.2.1, s1.2.2.2.2.2.2.1, s1.2.2.2.2.2.2.2.1, s1.2.2.2.2.2.2.2.2.1, s1.2.2.2.2.2.2.2.2.2.1, s1.2.2.2.2.2.2.2.2.2.2.1, s1.2.2.2.2.2.2.2.2.2.2.2.1, s1.2.2.2.2.2.2.2.2.2.2.2.2.1, s1.2.2.2.2.2.2.2.2.2.2.2.2.2.1, s1.2.2.2.2.2.2.2.2.2.2.2.2.2.2))
def r104 (a0_0 : List (Int × Int × Int × Int)) (a0_1 : List (Int × Int × Int × Int × Int)) (a0_2 : List (Int × Int × Int)) (a0_3 : List (Int × Int)) (a0_4 : Int) (a0_5 : Int) (a0_6 : Int) (a0_7 : Int) (a1_0 : Int) (a1_1 : Int) (a1_2 : Int) (a1_3 : Int) (a1_4 : Int) (a1_5 : Int) (a1_6 : Int) (a1_7 : Int) (a1_8 : Int) (a1_9 : Int) (a1_10 : Int) (a1_11 : Int) (a1_12 : Int) (a1_13 : Int) (a2_0 : Int) (a2_1 : Int) : Option (Int × Int × Int × Int × Int × Int × Int × Int × Int × Int × Int × Int × Int × Int) :=
  (r127 a0_0 a0_1 a0_2 a0_3 a0_4 a0_5 a0_6 a0_7 a1_0 a1_1 a1_2 a1_3 a1_4 a1_5 a1_6 a1_7 a1_8 a1_9 a1_10 a1_11 a1_12 a1_13 a2_0).bind fun v1 =>
   iterC (b104_1 a0_0 a0_1 a0_2 a0_3 a0_4 a0_5 a0_6 a0_7 a1_0 a1_1 a1_2 a1_3 a1_4 a1_5 a1_6 a1_7 a1_8 a1_9 a1_10 a1_11 a1_12 a1_13 a2_1) 1000000000 (IntKind.i64.wrap (a2_0 + 1), v1.1, v1.2.1, v1.2.2.1, v1.2.2.2.1, v1.2.2.2.2.1, v1.2.2.2.2.2.1, v1.2.2.2.2.2.2.1, v1.2.2.2.2.2.2.2.1, v1.2.2.2.2.2.2.2.2.1, v1.2.2.2.2.2.2.2.2.2.1, v1.2.2.2.2.2.2.2.2.2.2.1, v1.2.2.2.2.2.2.2.2.2.2.2.1, v1.2.2.2.2.2.2.2.2.2.2.2.2.1, v1.2.2.2.2.2.2.2.2.2.2.2.2.2)
def w104 (a0_0 : List (Int × Int × Int × Int)) (a0_1 : List (Int × Int × Int × Int × Int)) (a0_2 : List (Int × Int × Int)) (a0_3 : List (Int × Int)) (a0_4 : Int) (a0_5 : Int) (a0_6 : Int) (a0_7 : Int) (a1_0 : Int) (a1_1 : Int) (a1_2 : Int) (a1_3 : Int) (a1_4 : Int) (a1_5 : Int) (a1_6 : Int) (a1_7 : Int) (a1_8 : Int) (a1_9 : Int) (a1_10 : Int) (a1_11 : Int) (a1_12 : Int) (a1_13 : Int) (a2_0 : Int) (a2_1 : Int) : List Arg := [.agg [encF 4 d_IIII a0_0, encF 5 d_IIIII a0_1, encF 3 d_III a0_2, encF 2 d_II a0_3, .int .i64 a0_4, .int .i64 a0_5, .int .i64 a0_6, .int .i64 a0_7], .agg [.int .i64 a1_0, .int .i64 a1_1, .int .i64 a1_2, .int .i64 a1_3, .int .i64 a1_4, .int .i64 a1_5, .int .i64 a1_6, .int .i64 a1_7, .int .i64 a1_8, .int .i64 a1_9, .int .i64 a1_10, .int .i64 a1_11, .int .i64 a1_12, .int .i64 a1_13], .agg [.int .i64 a2_0, .int .i64 a2_1]]
def u104 (v : Int × Int × Int × Int × Int × Int × Int × Int × Int × Int × Int × Int × Int × Int) : List RV := [.agg [.d (.int .i64 v.1), .d (.int .i64 v.2.1), .d (.int .i64 v.2.2.1), .d (.int .i64 v.2.2.2.1), .d (.int .i64 v.2.2.2.2.1), .d (.int .i64 v.2.2.2.2.2.1), .d (.int .i64 v.2.2.2.2.2.2.1), .d (.int .i64 v.2.2.2.2.2.2.2.1), .d (.int .i64 v.2.2.2.2.2.2.2.2.1), .d (.int .i64 v.2.2.2.2.2.2.2.2.2.1), .d (.int .i64 v.2.2.2.2.2.2.2.2.2.2.1), .d (.int .i64 v.2.2.2.2.2.2.2.2.2.2.2.1), .d (.int .i64 v.2.2.2.2.2.2.2.2.2.2.2.2.1), .d (.int .i64 v.2.2.2.2.2.2.2.2.2.2.2.2.2)]]
def T104 : TSpec ((List (Int × Int × Int × Int)) × (List (Int × Int × Int × Int × Int)) × (List (Int × Int × Int)) × (List (Int × Int)) × Int × Int × Int × Int × Int × Int × Int × Int × Int × Int × Int × Int × Int × Int × Int × Int × Int × Int × Int × Int) where
  enc := fun ⟨a0_0, a0_1, a0_2, a0_3, a0_4, a0_5, a0_6, a0_7, a1_0, a1_1, a1_2, a1_3, a1_4, a1_5, a1_6, a1_7, a1_8, a1_9, a1_10, a1_11, a1_12, a1_13, a2_0, a2_1⟩ => w104 a0_0 a0_1 a0_2 a0_3 a0_4 a0_5 a0_6 a0_7 a1_0 a1_1 a1_2 a1_3 a1_4 a1_5 a1_6 a1_7 a1_8 a1_9 a1_10 a1_11 a1_12 a1_13 a2_0 a2_1
  dec a := (decF g_IIII (aCell a 0 0), decF g_IIIII (aCell a 0 1), decF g_III (aCell a 0 2), decF g_II (aCell a 0 3), dInt (aCell a 0 4), dInt (aCell a 0 5), dInt (aCell a 0 6), dInt (aCell a 0 7), dInt (aCell a 1 0), dInt (aCell a 1 1), dInt (aCell a 1 2), dInt (aCell a 1 3), dInt (aCell a 1 4), dInt (aCell a 1 5), dInt (aCell a 1 6), dInt (aCell a 1 7), dInt (aCell a 1 8), dInt (aCell a 1 9), dInt (aCell a 1 10), dInt (aCell a 1 11), dInt (aCell a 1 12), dInt (aCell a 1 13), dInt (aCell a 2 0), dInt (aCell a 2 1))
  pre := fun ⟨a0_0, a0_1, a0_2, a0_3, a0_4, a0_5, a0_6, a0_7, a1_0, a1_1, a1_2, a1_3, a1_4, a1_5, a1_6, a1_7, a1_8, a1_9, a1_10, a1_11, a1_12, a1_13, a2_0, a2_1⟩ => (r104 a0_0 a0_1 a0_2 a0_3 a0_4 a0_5 a0_6 a0_7 a1_0 a1_1 a1_2 a1_3 a1_4 a1_5 a1_6 a1_7 a1_8 a1_9 a1_10 a1_11 a1_12 a1_13 a2_0 a2_1).isSome = true
  res := fun ⟨a0_0, a0_1, a0_2, a0_3, a0_4, a0_5, a0_6, a0_7, a1_0, a1_1, a1_2, a1_3, a1_4, a1_5, a1_6, a1_7, a1_8, a1_9, a1_10, a1_11, a1_12, a1_13, a2_0, a2_1⟩ => u104 ((r104 a0_0 a0_1 a0_2 a0_3 a0_4 a0_5 a0_6 a0_7 a1_0 a1_1 a1_2 a1_3 a1_4 a1_5 a1_6 a1_7 a1_8 a1_9 a1_10 a1_11 a1_12 a1_13 a2_0 a2_1).getD default)
  al := false
theorem TP104 (c0 c1 c2 c3 c4 c5 c6 c7 c8 c9 c10 c11 c12 c13 c14 c15 c16 c17 c18 c19 c20 c21 c22 c23 : D) : T104.sp.pre [.agg [c0, c1, c2, c3, c4, c5, c6, c7], .agg [c8, c9, c10, c11, c12, c13, c14, c15, c16, c17, c18, c19, c20, c21], .agg [c22, c23]] = (eqvArgs [.agg [c0, c1, c2, c3, c4, c5, c6, c7], .agg [c8, c9, c10, c11, c12, c13, c14, c15, c16, c17, c18, c19, c20, c21], .agg [c22, c23]] (w104 (decF g_IIII c0) (decF g_IIIII c1) (decF g_III c2) (decF g_II c3) (dInt c4) (dInt c5) (dInt c6) (dInt c7) (dInt c8) (dInt c9) (dInt c10) (dInt c11) (dInt c12) (dInt c13) (dInt c14) (dInt c15) (dInt c16) (dInt c17) (dInt c18) (dInt c19) (dInt c20) (dInt c21) (dInt c22) (dInt c23)) ∧ (r104 (decF g_IIII c0) (decF g_IIIII c1) (decF g_III c2) (decF g_II c3) (dInt c4) (dInt c5) (dInt c6) (dInt c7) (dInt c8) (dInt c9) (dInt c10) (dInt c11) (dInt c12) (dInt c13) (dInt c14) (dInt c15) (dInt c16) (dInt c17) (dInt c18) (dInt c19) (dInt c20) (dInt c21) (dInt c22) (dInt c23)).isSome = true) := (rfl)
theorem TR104 (c0 c1 c2 c3 c4 c5 c6 c7 c8 c9 c10 c11 c12 c13 c14 c15 c16 c17 c18 c19 c20 c21 c22 c23 : D) : T104.sp.res [.agg [c0, c1, c2, c3, c4, c5, c6, c7], .agg [c8, c9, c10, c11, c12, c13, c14, c15, c16, c17, c18, c19, c20, c21], .agg [c22, c23]] = u104 ((r104 (decF g_IIII c0) (decF g_IIIII c1) (decF g_III c2) (decF g_II c3) (dInt c4) (dInt c5) (dInt c6) (dInt c7) (dInt c8) (dInt c9) (dInt c10) (dInt c11) (dInt c12) (dInt c13) (dInt c14) (dInt c15) (dInt c16) (dInt c17) (dInt c18) (dInt c19) (dInt c20) (dInt c21) (dInt c22) (dInt c23)).getD default) := (rfl)
theorem TA104 : T104.sp.alias = false := (rfl)
def tb104 : Fns := lk [(127, T127.sp), (128, T128.sp)]
theorem tb104_ok : FnsOk Tryd.prog tb104 := .cons f127 (.cons f128 (FnsOk.nil))
theorem tb104_127 : tb104 127 = some T127.sp := rfl
theorem tb104_128 : tb104 128 = some T128.sp := rfl
attribute [go_sem] TP104 TR104 TA104 w104 u104
section
attribute [local go_sem] T104 tb104_127 tb104_128 Tryd.results104
theorem v104 : Valid Tryd.prog 104 T104.sp := by
  refine valid_t (fn := Tryd.f104) (n := 30) ty_ok tb104_ok Tryd.func104 rfl Tryd.ntmps104 ?_
  rintro ⟨a0_0, a0_1, a0_2, a0_3, a0_4, a0_5, a0_6, a0_7, a1_0, a1_1, a1_2, a1_3, a1_4, a1_5, a1_6, a1_7, a1_8, a1_9, a1_10, a1_11, a1_12, a1_13, a2_0, a2_1⟩ hx
  obtain ⟨r, hr⟩ := Option.isSome_iff_exists.1 (show (r104 a0_0 a0_1 a0_2 a0_3 a0_4 a0_5 a0_6 a0_7 a1_0 a1_1 a1_2 a1_3 a1_4 a1_5 a1_6 a1_7 a1_8 a1_9 a1_10 a1_11 a1_12 a1_13 a2_0 a2_1).isSome = true from hx)
  have hres : T104.res (a0_0, a0_1, a0_2, a0_3, a0_4, a0_5, a0_6, a0_7, a1_0, a1_1, a1_2, a1_3, a1_4, a1_5, a1_6, a1_7, a1_8, a1_9, a1_10, a1_11, a1_12, a1_13, a2_0, a2_1) = u104 r := by simp only [T104, hr, Option.getD_some]
  refine ⟨Nat.le_of_ble_eq_true rfl, fun stop S => ?_⟩
  rw [hres] at S
  unfold r104 at hr
  refine S.gx [] ?_
  obtain ⟨v1, hv1, hr⟩ := of_bind0 hr
  try simp only [hv1, Option.getD_some, Option.isSome_some, true_and, and_assoc]
  repeat refine gA ?_
  refine S.sees [3, 4, 5, 6, 7, 8] [(3, 3), (4, 4), (5, 5), (6, 6), (7, 7)] [] ?_ (Stop.iter S (fun s1 => ⟨[(3, .c (.ref 3 0)), (4, .c (.ref 4 0)), (5, .c (.ref 5 0)), (6, .c (.ref 6 0)), (7, .c (.ref 7 0)), (8, .c (.d (.int .i64 s1.1)))], [(3, [.d (encF 4 d_IIII a0_0), .d (encF 5 d_IIIII a0_1), .d (encF 3 d_III a0_2), .d (encF 2 d_II a0_3), .d (.int .i64 a0_4), .d (.int .i64 a0_5), .d (.int .i64 a0_6), .d (.int .i64 a0_7)]), (4, [.d (.int .i64 a1_0), .d (.int .i64 a1_1), .d (.int .i64 a1_2), .d (.int .i64 a1_3), .d (.int .i64 a1_4), .d (.int .i64 a1_5), .d (.int .i64 a1_6), .d (.int .i64 a1_7), .d (.int .i64 a1_8), .d (.int .i64 a1_9), .d (.int .i64 a1_10), .d (.int .i64 a1_11), .d (.int .i64 a1_12), .d (.int .i64 a1_13)]), (5, [.d (.int .i64 a2_0), .d (.int .i64 a2_1)]), (6, [.d (.int .i64 0), .d (.int .i64 0), .d (.int .i64 0), .d (.int .i64 0), .d (.int .i64 0), .d (.int .i64 0), .d (.int .i64 0), .d (.int .i64 0), .d (.int .i64 0), .d (.int .i64 0), .d (.int .i64 0), .d (.int .i64 0), .d (.int .i64 0), .d (.int .i64 0)]), (7, [.d (.int .i64 s1.2.1), .d (.int .i64 s1.2.2.1), .d (.int .i64 s1.2.2.2.1), .d (.int .i64 s1.2.2.2.2.1), .d (.int .i64 s1.2.2.2.2.2.1), .d (.int .i64 s1.2.2.2.2.2.2.1), .d (.int .i64 s1.2.2.2.2.2.2.2.1), .d (.int .i64 s1.2.2.2.2.2.2.2.2.1), .d (.int .i64 s1.2.2.2.2.2.2.2.2.2.1), .d (.int .i64 s1.2.2.2.2.2.2.2.2.2.2.1), .d (.int .i64 s1.2.2.2.2.2.2.2.2.2.2.2.1), .d (.int .i64 s1.2.2.2.2.2.2.2.2.2.2.2.2.1), .d (.int .i64 s1.2.2.2.2.2.2.2.2.2.2.2.2.2.1), .d (.int .i64 s1.2.2.2.2.2.2.2.2.2.2.2.2.2.2)])], []⟩) (b104_1 a0_0 a0_1 a0_2 a0_3 a0_4 a0_5 a0_6 a0_7 a1_0 a1_1 a1_2 a1_3 a1_4 a1_5 a1_6 a1_7 a1_8 a1_9 a1_10 a1_11 a1_12 a1_13 a2_1) (fun q => q = r) hr rfl ?_)
  · exact lf
  · intro s1 hr
    unfold b104_1 at hr
    refine S.gx [] ?_
    repeat refine gA ?_
    refine ⟨fun hc => ?_, fun hc => ?_⟩
    · replace hr := ifP1 hr hc
      obtain ⟨v2, hv2, hr⟩ := of_bind1 hr
      obtain ⟨v3, hv3, hr⟩ := of_bind1 hr
      try simp only [hv2, hv3, Option.getD_some, Option.isSome_some, true_and, and_assoc]
      repeat refine gA ?_
      refine S.sees [3, 4, 5, 6, 7, 8] [(3, 3), (4, 4), (5, 5), (6, 6), (7, 7)] [] ?_ hr
      exact lf
    · replace hr := ifN1 hr hc
      repeat refine gA ?_
      have hr := of_out0 hr
      repeat refine gA ?_
      obtain rfl := Option.some.inj hr
      exact lf
theorem f104 : FnFact Tryd.prog 104 T104.sp := ⟨⟨Tryd.f104, Tryd.func104, by decide, rfl⟩, v104⟩
end

/- martensite/steel.BoxStep -/
def r55 (a0_0 : List (Int × Int × Int × Int)) (a0_1 : List (Int × Int × Int × Int × Int)) (a0_2 : List (Int × Int × Int)) (a0_3 : List (Int × Int)) (a0_4 : Int) (a0_5 : Int) (a0_6 : Int) (a0_7 : Int) (a1_0 : Int) (a1_1 : Int) (a1_2 : Int) (a1_3 : Int) (a1_4 : Int) (a1_5 : Int) (a1_6 : Int) (a1_7 : Int) (a1_8 : Int) (a1_9 : Int) (a1_10 : Int) (a1_11 : Int) (a1_12 : Int) (a1_13 : Int) (a2_0 : Int) (a2_1 : Int) : Option (Int × Int × Int × Int × Int × Int × Int × Int × Int × Int × Int × Int × Int × Int × Int) :=
  (r73 a0_0 a0_1 a0_2 a0_3 a0_4 a0_5 a0_6 a0_7).bind fun v1 =>
   (r102 a1_0 a1_1 a1_2 a1_3 a1_4 a1_5 a1_6 a1_7 a1_8 a1_9 a1_10 a1_11 a1_12 a1_13).bind fun v2 =>
    (r103 a2_0 a2_1).bind fun v3 =>
     (r67 [v1, v2, v3]).bind fun v4 =>
      if (v4 != 0) = true then
       some (0, 0, 0, 0, 0, 0, 0, 0, 0, 0, 0, 0, 0, 0, v4)
       else (r104 a0_0 a0_1 a0_2 a0_3 a0_4 a0_5 a0_6 a0_7 a1_0 a1_1 a1_2 a1_3 a1_4 a1_5 a1_6 a1_7 a1_8 a1_9 a1_10 a1_11 a1_12 a1_13 a2_0 a2_1).bind fun v5 =>
        some (v5.1, v5.2.1, v5.2.2.1, v5.2.2.2.1, v5.2.2.2.2.1, v5.2.2.2.2.2.1, v5.2.2.2.2.2.2.1, v5.2.2.2.2.2.2.2.1, v5.2.2.2.2.2.2.2.2.1, v5.2.2.2.2.2.2.2.2.2.1, v5.2.2.2.2.2.2.2.2.2.2.1, v5.2.2.2.2.2.2.2.2.2.2.2.1, v5.2.2.2.2.2.2.2.2.2.2.2.2.1, v5.2.2.2.2.2.2.2.2.2.2.2.2.2, 0)
def w55 (a0_0 : List (Int × Int × Int × Int)) (a0_1 : List (Int × Int × Int × Int × Int)) (a0_2 : List (Int × Int × Int)) (a0_3 : List (Int × Int)) (a0_4 : Int) (a0_5 : Int) (a0_6 : Int) (a0_7 : Int) (a1_0 : Int) (a1_1 : Int) (a1_2 : Int) (a1_3 : Int) (a1_4 : Int) (a1_5 : Int) (a1_6 : Int) (a1_7 : Int) (a1_8 : Int) (a1_9 : Int) (a1_10 : Int) (a1_11 : Int) (a1_12 : Int) (a1_13 : Int) (a2_0 : Int) (a2_1 : Int) : List Arg := [.agg [encF 4 d_IIII a0_0, encF 5 d_IIIII a0_1, encF 3 d_III a0_2, encF 2 d_II a0_3, .int .i64 a0_4, .int .i64 a0_5, .int .i64 a0_6, .int .i64 a0_7], .agg [.int .i64 a1_0, .int .i64 a1_1, .int .i64 a1_2, .int .i64 a1_3, .int .i64 a1_4, .int .i64 a1_5, .int .i64 a1_6, .int .i64 a1_7, .int .i64 a1_8, .int .i64 a1_9, .int .i64 a1_10, .int .i64 a1_11, .int .i64 a1_12, .int .i64 a1_13], .agg [.int .i64 a2_0, .int .i64 a2_1]]
def u55 (v : Int × Int × Int × Int × Int × Int × Int × Int × Int × Int × Int × Int × Int × Int × Int) : List RV := [.agg [.d (.int .i64 v.1), .d (.int .i64 v.2.1), .d (.int .i64 v.2.2.1), .d (.int .i64 v.2.2.2.1), .d (.int .i64 v.2.2.2.2.1), .d (.int .i64 v.2.2.2.2.2.1), .d (.int .i64 v.2.2.2.2.2.2.1), .d (.int .i64 v.2.2.2.2.2.2.2.1), .d (.int .i64 v.2.2.2.2.2.2.2.2.1), .d (.int .i64 v.2.2.2.2.2.2.2.2.2.1), .d (.int .i64 v.2.2.2.2.2.2.2.2.2.2.1), .d (.int .i64 v.2.2.2.2.2.2.2.2.2.2.2.1), .d (.int .i64 v.2.2.2.2.2.2.2.2.2.2.2.2.1), .d (.int .i64 v.2.2.2.2.2.2.2.2.2.2.2.2.2.1)], .c (.d (.int .i64 v.2.2.2.2.2.2.2.2.2.2.2.2.2.2))]
def T55 : TSpec ((List (Int × Int × Int × Int)) × (List (Int × Int × Int × Int × Int)) × (List (Int × Int × Int)) × (List (Int × Int)) × Int × Int × Int × Int × Int × Int × Int × Int × Int × Int × Int × Int × Int × Int × Int × Int × Int × Int × Int × Int) where
  enc := fun ⟨a0_0, a0_1, a0_2, a0_3, a0_4, a0_5, a0_6, a0_7, a1_0, a1_1, a1_2, a1_3, a1_4, a1_5, a1_6, a1_7, a1_8, a1_9, a1_10, a1_11, a1_12, a1_13, a2_0, a2_1⟩ => w55 a0_0 a0_1 a0_2 a0_3 a0_4 a0_5 a0_6 a0_7 a1_0 a1_1 a1_2 a1_3 a1_4 a1_5 a1_6 a1_7 a1_8 a1_9 a1_10 a1_11 a1_12 a1_13 a2_0 a2_1
  dec a := (decF g_IIII (aCell a 0 0), decF g_IIIII (aCell a 0 1), decF g_III (aCell a 0 2), decF g_II (aCell a 0 3), dInt (aCell a 0 4), dInt (aCell a 0 5), dInt (aCell a 0 6), dInt (aCell a 0 7), dInt (aCell a 1 0), dInt (aCell a 1 1), dInt (aCell a 1 2), dInt (aCell a 1 3), dInt (aCell a 1 4), dInt (aCell a 1 5), dInt (aCell a 1 6), dInt (aCell a 1 7), dInt (aCell a 1 8), dInt (aCell a 1 9), dInt (aCell a 1 10), dInt (aCell a 1 11), dInt (aCell a 1 12), dInt (aCell a 1 13), dInt (aCell a 2 0), dInt (aCell a 2 1))
  pre := fun ⟨a0_0, a0_1, a0_2, a0_3, a0_4, a0_5, a0_6, a0_7, a1_0, a1_1, a1_2, a1_3, a1_4, a1_5, a1_6, a1_7, a1_8, a1_9, a1_10, a1_11, a1_12, a1_13, a2_0, a2_1⟩ => (r55 a0_0 a0_1 a0_2 a0_3 a0_4 a0_5 a0_6 a0_7 a1_0 a1_1 a1_2 a1_3 a1_4 a1_5 a1_6 a1_7 a1_8 a1_9 a1_10 a1_11 a1_12 a1_13 a2_0 a2_1).isSome = true
  res := fun ⟨a0_0, a0_1, a0_2, a0_3, a0_4, a0_5, a0_6, a0_7, a1_0, a1_1, a1_2, a1_3, a1_4, a1_5, a1_6, a1_7, a1_8, a1_9, a1_10, a1_11, a1_12, a1_13, a2_0, a2_1⟩ => u55 ((r55 a0_0 a0_1 a0_2 a0_3 a0_4 a0_5 a0_6 a0_7 a1_0 a1_1 a1_2 a1_3 a1_4 a1_5 a1_6 a1_7 a1_8 a1_9 a1_10 a1_11 a1_12 a1_13 a2_0 a2_1).getD default)
  al := false
theorem TP55 (c0 c1 c2 c3 c4 c5 c6 c7 c8 c9 c10 c11 c12 c13 c14 c15 c16 c17 c18 c19 c20 c21 c22 c23 : D) : T55.sp.pre [.agg [c0, c1, c2, c3, c4, c5, c6, c7], .agg [c8, c9, c10, c11, c12, c13, c14, c15, c16, c17, c18, c19, c20, c21], .agg [c22, c23]] = (eqvArgs [.agg [c0, c1, c2, c3, c4, c5, c6, c7], .agg [c8, c9, c10, c11, c12, c13, c14, c15, c16, c17, c18, c19, c20, c21], .agg [c22, c23]] (w55 (decF g_IIII c0) (decF g_IIIII c1) (decF g_III c2) (decF g_II c3) (dInt c4) (dInt c5) (dInt c6) (dInt c7) (dInt c8) (dInt c9) (dInt c10) (dInt c11) (dInt c12) (dInt c13) (dInt c14) (dInt c15) (dInt c16) (dInt c17) (dInt c18) (dInt c19) (dInt c20) (dInt c21) (dInt c22) (dInt c23)) ∧ (r55 (decF g_IIII c0) (decF g_IIIII c1) (decF g_III c2) (decF g_II c3) (dInt c4) (dInt c5) (dInt c6) (dInt c7) (dInt c8) (dInt c9) (dInt c10) (dInt c11) (dInt c12) (dInt c13) (dInt c14) (dInt c15) (dInt c16) (dInt c17) (dInt c18) (dInt c19) (dInt c20) (dInt c21) (dInt c22) (dInt c23)).isSome = true) := (rfl)
theorem TR55 (c0 c1 c2 c3 c4 c5 c6 c7 c8 c9 c10 c11 c12 c13 c14 c15 c16 c17 c18 c19 c20 c21 c22 c23 : D) : T55.sp.res [.agg [c0, c1, c2, c3, c4, c5, c6, c7], .agg [c8, c9, c10, c11, c12, c13, c14, c15, c16, c17, c18, c19, c20, c21], .agg [c22, c23]] = u55 ((r55 (decF g_IIII c0) (decF g_IIIII c1) (decF g_III c2) (decF g_II c3) (dInt c4) (dInt c5) (dInt c6) (dInt c7) (dInt c8) (dInt c9) (dInt c10) (dInt c11) (dInt c12) (dInt c13) (dInt c14) (dInt c15) (dInt c16) (dInt c17) (dInt c18) (dInt c19) (dInt c20) (dInt c21) (dInt c22) (dInt c23)).getD default) := (rfl)
theorem TA55 : T55.sp.alias = false := (rfl)
def tb55 : Fns := lk [(67, T67.sp), (73, T73.sp), (102, T102.sp), (103, T103.sp), (104, T104.sp)]
theorem tb55_ok : FnsOk Tryd.prog tb55 := .cons f67 (.cons f73 (.cons f102 (.cons f103 (.cons f104 (FnsOk.nil)))))
theorem tb55_67 : tb55 67 = some T67.sp := rfl
theorem tb55_73 : tb55 73 = some T73.sp := rfl
theorem tb55_102 : tb55 102 = some T102.sp := rfl
theorem tb55_103 : tb55 103 = some T103.sp := rfl
theorem tb55_104 : tb55 104 = some T104.sp := rfl
attribute [go_sem] TP55 TR55 TA55 w55 u55
section
attribute [local go_sem] T55 tb55_67 tb55_73 tb55_102 tb55_103 tb55_104 Tryd.results55
theorem v55 : Valid Tryd.prog 55 T55.sp := by
  refine valid_t (fn := Tryd.f55) (n := 26) ty_ok tb55_ok Tryd.func55 rfl Tryd.ntmps55 ?_
  rintro ⟨a0_0, a0_1, a0_2, a0_3, a0_4, a0_5, a0_6, a0_7, a1_0, a1_1, a1_2, a1_3, a1_4, a1_5, a1_6, a1_7, a1_8, a1_9, a1_10, a1_11, a1_12, a1_13, a2_0, a2_1⟩ hx
  obtain ⟨r, hr⟩ := Option.isSome_iff_exists.1 (show (r55 a0_0 a0_1 a0_2 a0_3 a0_4 a0_5 a0_6 a0_7 a1_0 a1_1 a1_2 a1_3 a1_4 a1_5 a1_6 a1_7 a1_8 a1_9 a1_10 a1_11 a1_12 a1_13 a2_0 a2_1).isSome = true from hx)
  have hres : T55.res (a0_0, a0_1, a0_2, a0_3, a0_4, a0_5, a0_6, a0_7, a1_0, a1_1, a1_2, a1_3, a1_4, a1_5, a1_6, a1_7, a1_8, a1_9, a1_10, a1_11, a1_12, a1_13, a2_0, a2_1) = u55 r := by simp only [T55, hr, Option.getD_some]
  refine ⟨Nat.le_of_ble_eq_true rfl, fun stop S => ?_⟩
  rw [hres] at S
  unfold r55 at hr
  refine S.gx [] ?_
  obtain ⟨v1, hv1, hr⟩ := of_bind0 hr
  obtain ⟨v2, hv2, hr⟩ := of_bind0 hr
  obtain ⟨v3, hv3, hr⟩ := of_bind0 hr
  obtain ⟨v4, hv4, hr⟩ := of_bind0 hr
  try simp only [hv1, hv2, hv3, hv4, Option.getD_some, Option.isSome_some, true_and, and_assoc]
  repeat refine gA ?_
  refine ⟨fun hc => ?_, fun hc => ?_⟩
  · replace hr := ifP hr hc
    repeat refine gA ?_
    obtain rfl := Option.some.inj hr
    exact lf
  · replace hr := ifN hr hc
    obtain ⟨v5, hv5, hr⟩ := of_bind0 hr
    try simp only [hv5, Option.getD_some, Option.isSome_some, true_and, and_assoc]
    repeat refine gA ?_
    obtain rfl := Option.some.inj hr
    exact lf
theorem f55 : FnFact Tryd.prog 55 T55.sp := ⟨⟨Tryd.f55, Tryd.func55, by decide, rfl⟩, v55⟩
end

/- martensite/martensiteref04.BoxErr -/
def b56_1 (a0_0 : Int) (a0_1 : Int) (a0_2 : Int) (a0_3 : Int) (a0_4 : Int) (a0_5 : Int) (a0_6 : Int) (a0_7 : Int) (a0_8 : Int) (a0_9 : Int) (a0_10 : Int) (a0_11 : Int) (a0_12 : Int) (a0_13 : Int) : (Int) → Ctl (Int) (Int) := fun s1 =>
  if (decide (s1 < (([(a0_0, a0_1), (a0_2, a0_3), (a0_4, a0_5), (a0_6, a0_7), (a0_8, a0_9), (a0_10, a0_11), (a0_12, a0_13)]).length : Int))) = true then
   if 0 ≤ s1 ∧ s1 < (([(a0_0, a0_1), (a0_2, a0_3), (a0_4, a0_5), (a0_6, a0_7), (a0_8, a0_9), (a0_10, a0_11), (a0_12, a0_13)]).length : Int) then
    if 0 ≤ s1 ∧ s1 < (([1000000, 1000000, 1000000, 1000000, 1000000, 100000, 1000000]).length : Int) then
     bindC (r29 ((([(a0_0, a0_1), (a0_2, a0_3), (a0_4, a0_5), (a0_6, a0_7), (a0_8, a0_9), (a0_10, a0_11), (a0_12, a0_13)]).getD s1.toNat default).1) 0 (([1000000, 1000000, 1000000, 1000000, 1000000, 100000, 1000000]).getD s1.toNat default)) fun v1 =>
      if (!(!v1)) = true → 0 ≤ s1 ∧ s1 < (([(a0_0, a0_1), (a0_2, a0_3), (a0_4, a0_5), (a0_6, a0_7), (a0_8, a0_9), (a0_10, a0_11), (a0_12, a0_13)]).length : Int) then
       if (!(!v1)) = true → 0 ≤ s1 ∧ s1 < (([1000000, 1000000, 1000000, 1000000, 1000000, 100000, 1000000]).length : Int) then
        if (!(!v1)) = true → (r29 ((([(a0_0, a0_1), (a0_2, a0_3), (a0_4, a0_5), (a0_6, a0_7), (a0_8, a0_9), (a0_10, a0_11), (a0_12, a0_13)]).getD s1.toNat default).2) 0 (([1000000, 1000000, 1000000, 1000000, 1000000, 100000, 1000000]).getD s1.toNat default)).isSome = true then
         if ((!v1) || (!((r29 ((([(a0_0, a0_1), (a0_2, a0_3), (a0_4, a0_5), (a0_6, a0_7), (a0_8, a0_9), (a0_10, a0_11), (a0_12, a0_13)]).getD s1.toNat default).2) 0 (([1000000, 1000000, 1000000, 1000000, 1000000, 100000, 1000000]).getD s1.toNat default)).getD default))) = true then
          .out (some 2)
          else if 0 ≤ s1 ∧ s1 < (([(a0_0, a0_1), (a0_2, a0_3), (a0_4, a0_5), (a0_6, a0_7), (a0_8, a0_9), (a0_10, a0_11), (a0_12, a0_13)]).length : Int) then
           if 0 ≤ s1 ∧ s1 < (([(a0_0, a0_1), (a0_2, a0_3), (a0_4, a0_5), (a0_6, a0_7), (a0_8, a0_9), (a0_10, a0_11), (a0_12, a0_13)]).length : Int) then
            if (decide (((([(a0_0, a0_1), (a0_2, a0_3), (a0_4, a0_5), (a0_6, a0_7), (a0_8, a0_9), (a0_10, a0_11), (a0_12, a0_13)]).getD s1.toNat default).1) > ((([(a0_0, a0_1), (a0_2, a0_3), (a0_4, a0_5), (a0_6, a0_7), (a0_8, a0_9), (a0_10, a0_11), (a0_12, a0_13)]).getD s1.toNat default).2))) = true then
             .out (some 9)
             else .next (IntKind.i64.wrap (s1 + 1))
            else .out none
           else .out none
         else .out none
        else .out none
       else .out none
     else .out none
    else .out none
   else .out (if ((decide ((IntKind.i64.wrap ((IntKind.i64.wrap ((IntKind.i64.wrap (a0_0 + a0_2)) + a0_4)) + a0_6)) > 1000000)) || (decide ((IntKind.i64.wrap ((IntKind.i64.wrap ((IntKind.i64.wrap (a0_1 + a0_3)) + a0_5)) + a0_7)) < 1000000))) = true then
    some 12
    else some 0)
def r56 (a0_0 : Int) (a0_1 : Int) (a0_2 : Int) (a0_3 : Int) (a0_4 : Int) (a0_5 : Int) (a0_6 : Int) (a0_7 : Int) (a0_8 : Int) (a0_9 : Int) (a0_10 : Int) (a0_11 : Int) (a0_12 : Int) (a0_13 : Int) : Option (Int) :=
  iterC (b56_1 a0_0 a0_1 a0_2 a0_3 a0_4 a0_5 a0_6 a0_7 a0_8 a0_9 a0_10 a0_11 a0_12 a0_13) 1000000000 0
def w56 (a0_0 : Int) (a0_1 : Int) (a0_2 : Int) (a0_3 : Int) (a0_4 : Int) (a0_5 : Int) (a0_6 : Int) (a0_7 : Int) (a0_8 : Int) (a0_9 : Int) (a0_10 : Int) (a0_11 : Int) (a0_12 : Int) (a0_13 : Int) : List Arg := [.agg [.int .i64 a0_0, .int .i64 a0_1, .int .i64 a0_2, .int .i64 a0_3, .int .i64 a0_4, .int .i64 a0_5, .int .i64 a0_6, .int .i64 a0_7, .int .i64 a0_8, .int .i64 a0_9, .int .i64 a0_10, .int .i64 a0_11, .int .i64 a0_12, .int .i64 a0_13]]
def u56 (v : Int) : List RV := [.c (.d (.int .i64 v))]
def T56 : TSpec (Int × Int × Int × Int × Int × Int × Int × Int × Int × Int × Int × Int × Int × Int) where
  enc := fun ⟨a0_0, a0_1, a0_2, a0_3, a0_4, a0_5, a0_6, a0_7, a0_8, a0_9, a0_10, a0_11, a0_12, a0_13⟩ => w56 a0_0 a0_1 a0_2 a0_3 a0_4 a0_5 a0_6 a0_7 a0_8 a0_9 a0_10 a0_11 a0_12 a0_13
  dec a := (dInt (aCell a 0 0), dInt (aCell a 0 1), dInt (aCell a 0 2), dInt (aCell a 0 3), dInt (aCell a 0 4), dInt (aCell a 0 5), dInt (aCell a 0 6), dInt (aCell a 0 7), dInt (aCell a 0 8), dInt (aCell a 0 9), dInt (aCell a 0 10), dInt (aCell a 0 11), dInt (aCell a 0 12), dInt (aCell a 0 13))
  pre := fun ⟨a0_0, a0_1, a0_2, a0_3, a0_4, a0_5, a0_6, a0_7, a0_8, a0_9, a0_10, a0_11, a0_12, a0_13⟩ => (r56 a0_0 a0_1 a0_2 a0_3 a0_4 a0_5 a0_6 a0_7 a0_8 a0_9 a0_10 a0_11 a0_12 a0_13).isSome = true
  res := fun ⟨a0_0, a0_1, a0_2, a0_3, a0_4, a0_5, a0_6, a0_7, a0_8, a0_9, a0_10, a0_11, a0_12, a0_13⟩ => u56 ((r56 a0_0 a0_1 a0_2 a0_3 a0_4 a0_5 a0_6 a0_7 a0_8 a0_9 a0_10 a0_11 a0_12 a0_13).getD default)
  al := false
theorem TP56 (c0 c1 c2 c3 c4 c5 c6 c7 c8 c9 c10 c11 c12 c13 : D) : T56.sp.pre [.agg [c0, c1, c2, c3, c4, c5, c6, c7, c8, c9, c10, c11, c12, c13]] = (eqvArgs [.agg [c0, c1, c2, c3, c4, c5, c6, c7, c8, c9, c10, c11, c12, c13]] (w56 (dInt c0) (dInt c1) (dInt c2) (dInt c3) (dInt c4) (dInt c5) (dInt c6) (dInt c7) (dInt c8) (dInt c9) (dInt c10) (dInt c11) (dInt c12) (dInt c13)) ∧ (r56 (dInt c0) (dInt c1) (dInt c2) (dInt c3) (dInt c4) (dInt c5) (dInt c6) (dInt c7) (dInt c8) (dInt c9) (dInt c10) (dInt c11) (dInt c12) (dInt c13)).isSome = true) := (rfl)
theorem TR56 (c0 c1 c2 c3 c4 c5 c6 c7 c8 c9 c10 c11 c12 c13 : D) : T56.sp.res [.agg [c0, c1, c2, c3, c4, c5, c6, c7, c8, c9, c10, c11, c12, c13]] = u56 ((r56 (dInt c0) (dInt c1) (dInt c2) (dInt c3) (dInt c4) (dInt c5) (dInt c6) (dInt c7) (dInt c8) (dInt c9) (dInt c10) (dInt c11) (dInt c12) (dInt c13)).getD default) := (rfl)
theorem TA56 : T56.sp.alias = false := (rfl)
def tb56 : Fns := lk [(29, T29.sp)]
theorem tb56_ok : FnsOk Tryd.prog tb56 := .cons f29 (FnsOk.nil)
theorem tb56_29 : tb56 29 = some T29.sp := rfl
attribute [go_sem] TP56 TR56 TA56 w56 u56
section
attribute [local go_sem] T56 tb56_29 Tryd.results56
theorem v56 : Valid Tryd.prog 56 T56.sp := by
  refine valid_t (fn := Tryd.f56) (n := 97) ty_ok tb56_ok Tryd.func56 rfl Tryd.ntmps56 ?_
  rintro ⟨a0_0, a0_1, a0_2, a0_3, a0_4, a0_5, a0_6, a0_7, a0_8, a0_9, a0_10, a0_11, a0_12, a0_13⟩ hx
  obtain ⟨r, hr⟩ := Option.isSome_iff_exists.1 (show (r56 a0_0 a0_1 a0_2 a0_3 a0_4 a0_5 a0_6 a0_7 a0_8 a0_9 a0_10 a0_11 a0_12 a0_13).isSome = true from hx)
  have hres : T56.res (a0_0, a0_1, a0_2, a0_3, a0_4, a0_5, a0_6, a0_7, a0_8, a0_9, a0_10, a0_11, a0_12, a0_13) = u56 r := by simp only [T56, hr, Option.getD_some]
  refine ⟨Nat.le_of_ble_eq_true rfl, fun stop S => ?_⟩
  rw [hres] at S
  unfold r56 at hr
  refine S.gx [5, 7, 9, 11, 12] ?_
  repeat refine gA ?_
  refine S.sees [1, 3, 4, 5] [(1, 1)] [(20, 20), (21, 21)] ?_ (Stop.iter S (fun s1 => ⟨[(1, .c (.ref 1 0)), (3, .c (.own 20)), (4, .c (.own 21)), (5, .c (.d (.int .i64 s1)))], [(1, [.d (.int .i64 a0_0), .d (.int .i64 a0_1), .d (.int .i64 a0_2), .d (.int .i64 a0_3), .d (.int .i64 a0_4), .d (.int .i64 a0_5), .d (.int .i64 a0_6), .d (.int .i64 a0_7), .d (.int .i64 a0_8), .d (.int .i64 a0_9), .d (.int .i64 a0_10), .d (.int .i64 a0_11), .d (.int .i64 a0_12), .d (.int .i64 a0_13)])], [(20, .owned (encF 2 d_II ([(a0_0, a0_1), (a0_2, a0_3), (a0_4, a0_5), (a0_6, a0_7), (a0_8, a0_9), (a0_10, a0_11), (a0_12, a0_13)]))), (21, .owned (encF 1 d_I ([1000000, 1000000, 1000000, 1000000, 1000000, 100000, 1000000])))]⟩) (b56_1 a0_0 a0_1 a0_2 a0_3 a0_4 a0_5 a0_6 a0_7 a0_8 a0_9 a0_10 a0_11 a0_12 a0_13) (fun q => q = r) hr rfl ?_)
  · exact lf
  · intro s1 hr
    unfold b56_1 at hr
    refine S.gx [5, 7, 9, 11, 12] ?_
    repeat refine gA ?_
    refine ⟨fun hc => ?_, fun hc => ?_⟩
    · replace hr := ifP1 hr hc
      obtain ⟨hg4, hr⟩ := of_guard1 hr
      obtain ⟨hg5, hr⟩ := of_guard1 hr
      obtain ⟨v1, hv1, hr⟩ := of_bind1 hr
      obtain ⟨hg6, hr⟩ := of_guard1 hr
      obtain ⟨hg7, hr⟩ := of_guard1 hr
      obtain ⟨hg8, hr⟩ := of_guard1 hr
      try simp only [hv1, Option.getD_some, Option.isSome_some, true_and, and_assoc]
      repeat (first | refine gG hg6 ?_ | refine gG hg7 ?_ | refine gG hg8 ?_ | refine gA ?_ | refine gB ?_)
      refine ⟨fun hc => ?_, fun hc => ?_⟩
      · replace hr := ifP1 hr hc
        repeat refine gA ?_
        refine S.prune [] ?_
        refine S.gx [5, 9, 11, 12] ?_
        repeat refine gA ?_
        repeat refine gA ?_
        have hr := of_out0 hr
        obtain rfl := Option.some.inj hr
        exact lf
      · replace hr := ifN1 hr hc
        obtain ⟨hg2, hr⟩ := of_guard1 hr
        obtain ⟨hg3, hr⟩ := of_guard1 hr
        repeat refine gA ?_
        refine ⟨fun hc => ?_, fun hc => ?_⟩
        · replace hr := ifP1 hr hc
          repeat refine gA ?_
          refine S.prune [] ?_
          refine S.gx [5, 7, 11, 12] ?_
          repeat refine gA ?_
          repeat refine gA ?_
          have hr := of_out0 hr
          obtain rfl := Option.some.inj hr
          exact lf
        · replace hr := ifN1 hr hc
          repeat refine gA ?_
          refine S.prune [1, 3, 4, 5] ?_
          refine S.gx [7, 9, 11, 12] ?_
          repeat refine gA ?_
          repeat refine gA ?_
          refine S.sees [1, 3, 4, 5] [(1, 1)] [(20, 20), (21, 21)] ?_ hr
          exact lf
    · replace hr := ifN1 hr hc
      repeat refine gA ?_
      have hr := of_out0 hr
      repeat (first | refine gA ?_ | refine gB ?_)
      refine ⟨fun hc => ?_, fun hc => ?_⟩
      · replace hr := ifP hr hc
        repeat refine gA ?_
        refine S.prune [] ?_
        refine S.gx [5, 7, 9, 12] ?_
        repeat refine gA ?_
        repeat refine gA ?_
        obtain rfl := Option.some.inj hr
        exact lf
      · replace hr := ifN hr hc
        repeat refine gA ?_
        refine S.prune [] ?_
        refine S.gx [5, 7, 9, 11] ?_
        repeat refine gA ?_
        repeat refine gA ?_
        obtain rfl := Option.some.inj hr
        exact lf
theorem f56 : FnFact Tryd.prog 56 T56.sp := ⟨⟨Tryd.f56, Tryd.func56, by decide, rfl⟩, v56⟩
end

/- martensite/martensiteref04.In -/
def r57 (a0_0 : Int) (a0_1 : Int) (a0_2 : Int) (a0_3 : Int) (a0_4 : Int) (a0_5 : Int) (a0_6 : Int) (a0_7 : Int) (a0_8 : Int) (a0_9 : Int) (a0_10 : Int) (a0_11 : Int) (a0_12 : Int) (a0_13 : Int) (a1_0 : Int) (a1_1 : Int) (a1_2 : Int) (a1_3 : Int) (a1_4 : Int) (a1_5 : Int) (a1_6 : Int) : Option (Bool) :=
  (r29 a1_0 a0_0 a0_1).bind fun v1 =>
   if v1 = true → (r29 a1_1 a0_2 a0_3).isSome = true then
    if (v1 && ((r29 a1_1 a0_2 a0_3).getD default)) = true → (r29 a1_2 a0_4 a0_5).isSome = true then
     if ((v1 && ((r29 a1_1 a0_2 a0_3).getD default)) && ((r29 a1_2 a0_4 a0_5).getD default)) = true → (r29 a1_3 a0_6 a0_7).isSome = true then
      if (((v1 && ((r29 a1_1 a0_2 a0_3).getD default)) && ((r29 a1_2 a0_4 a0_5).getD default)) && ((r29 a1_3 a0_6 a0_7).getD default)) = true → (r29 a1_4 a0_8 a0_9).isSome = true then
       if ((((v1 && ((r29 a1_1 a0_2 a0_3).getD default)) && ((r29 a1_2 a0_4 a0_5).getD default)) && ((r29 a1_3 a0_6 a0_7).getD default)) && ((r29 a1_4 a0_8 a0_9).getD default)) = true → (r29 a1_5 a0_10 a0_11).isSome = true then
        if (((((v1 && ((r29 a1_1 a0_2 a0_3).getD default)) && ((r29 a1_2 a0_4 a0_5).getD default)) && ((r29 a1_3 a0_6 a0_7).getD default)) && ((r29 a1_4 a0_8 a0_9).getD default)) && ((r29 a1_5 a0_10 a0_11).getD default)) = true → (r29 a1_6 a0_12 a0_13).isSome = true then
         some ((((((v1 && ((r29 a1_1 a0_2 a0_3).getD default)) && ((r29 a1_2 a0_4 a0_5).getD default)) && ((r29 a1_3 a0_6 a0_7).getD default)) && ((r29 a1_4 a0_8 a0_9).getD default)) && ((r29 a1_5 a0_10 a0_11).getD default)) && ((r29 a1_6 a0_12 a0_13).getD default))
         else none
        else none
       else none
      else none
     else none
    else none
def w57 (a0_0 : Int) (a0_1 : Int) (a0_2 : Int) (a0_3 : Int) (a0_4 : Int) (a0_5 : Int) (a0_6 : Int) (a0_7 : Int) (a0_8 : Int) (a0_9 : Int) (a0_10 : Int) (a0_11 : Int) (a0_12 : Int) (a0_13 : Int) (a1_0 : Int) (a1_1 : Int) (a1_2 : Int) (a1_3 : Int) (a1_4 : Int) (a1_5 : Int) (a1_6 : Int) : List Arg := [.agg [.int .i64 a0_0, .int .i64 a0_1, .int .i64 a0_2, .int .i64 a0_3, .int .i64 a0_4, .int .i64 a0_5, .int .i64 a0_6, .int .i64 a0_7, .int .i64 a0_8, .int .i64 a0_9, .int .i64 a0_10, .int .i64 a0_11, .int .i64 a0_12, .int .i64 a0_13], .agg [.int .i64 a1_0, .int .i64 a1_1, .int .i64 a1_2, .int .i64 a1_3, .int .i64 a1_4, .int .i64 a1_5, .int .i64 a1_6]]
def u57 (v : Bool) : List RV := [.c (.d (.bool v))]
def T57 : TSpec (Int × Int × Int × Int × Int × Int × Int × Int × Int × Int × Int × Int × Int × Int × Int × Int × Int × Int × Int × Int × Int) where
  enc := fun ⟨a0_0, a0_1, a0_2, a0_3, a0_4, a0_5, a0_6, a0_7, a0_8, a0_9, a0_10, a0_11, a0_12, a0_13, a1_0, a1_1, a1_2, a1_3, a1_4, a1_5, a1_6⟩ => w57 a0_0 a0_1 a0_2 a0_3 a0_4 a0_5 a0_6 a0_7 a0_8 a0_9 a0_10 a0_11 a0_12 a0_13 a1_0 a1_1 a1_2 a1_3 a1_4 a1_5 a1_6
  dec a := (dInt (aCell a 0 0), dInt (aCell a 0 1), dInt (aCell a 0 2), dInt (aCell a 0 3), dInt (aCell a 0 4), dInt (aCell a 0 5), dInt (aCell a 0 6), dInt (aCell a 0 7), dInt (aCell a 0 8), dInt (aCell a 0 9), dInt (aCell a 0 10), dInt (aCell a 0 11), dInt (aCell a 0 12), dInt (aCell a 0 13), dInt (aCell a 1 0), dInt (aCell a 1 1), dInt (aCell a 1 2), dInt (aCell a 1 3), dInt (aCell a 1 4), dInt (aCell a 1 5), dInt (aCell a 1 6))
  pre := fun ⟨a0_0, a0_1, a0_2, a0_3, a0_4, a0_5, a0_6, a0_7, a0_8, a0_9, a0_10, a0_11, a0_12, a0_13, a1_0, a1_1, a1_2, a1_3, a1_4, a1_5, a1_6⟩ => (r57 a0_0 a0_1 a0_2 a0_3 a0_4 a0_5 a0_6 a0_7 a0_8 a0_9 a0_10 a0_11 a0_12 a0_13 a1_0 a1_1 a1_2 a1_3 a1_4 a1_5 a1_6).isSome = true
  res := fun ⟨a0_0, a0_1, a0_2, a0_3, a0_4, a0_5, a0_6, a0_7, a0_8, a0_9, a0_10, a0_11, a0_12, a0_13, a1_0, a1_1, a1_2, a1_3, a1_4, a1_5, a1_6⟩ => u57 ((r57 a0_0 a0_1 a0_2 a0_3 a0_4 a0_5 a0_6 a0_7 a0_8 a0_9 a0_10 a0_11 a0_12 a0_13 a1_0 a1_1 a1_2 a1_3 a1_4 a1_5 a1_6).getD default)
  al := false
theorem TP57 (c0 c1 c2 c3 c4 c5 c6 c7 c8 c9 c10 c11 c12 c13 c14 c15 c16 c17 c18 c19 c20 : D) : T57.sp.pre [.agg [c0, c1, c2, c3, c4, c5, c6, c7, c8, c9, c10, c11, c12, c13], .agg [c14, c15, c16, c17, c18, c19, c20]] = (eqvArgs [.agg [c0, c1, c2, c3, c4, c5, c6, c7, c8, c9, c10, c11, c12, c13], .agg [c14, c15, c16, c17, c18, c19, c20]] (w57 (dInt c0) (dInt c1) (dInt c2) (dInt c3) (dInt c4) (dInt c5) (dInt c6) (dInt c7) (dInt c8) (dInt c9) (dInt c10) (dInt c11) (dInt c12) (dInt c13) (dInt c14) (dInt c15) (dInt c16) (dInt c17) (dInt c18) (dInt c19) (dInt c20)) ∧ (r57 (dInt c0) (dInt c1) (dInt c2) (dInt c3) (dInt c4) (dInt c5) (dInt c6) (dInt c7) (dInt c8) (dInt c9) (dInt c10) (dInt c11) (dInt c12) (dInt c13) (dInt c14) (dInt c15) (dInt c16) (dInt c17) (dInt c18) (dInt c19) (dInt c20)).isSome = true) := (rfl)
theorem TR57 (c0 c1 c2 c3 c4 c5 c6 c7 c8 c9 c10 c11 c12 c13 c14 c15 c16 c17 c18 c19 c20 : D) : T57.sp.res [.agg [c0, c1, c2, c3, c4, c5, c6, c7, c8, c9, c10, c11, c12, c13], .agg [c14, c15, c16, c17, c18, c19, c20]] = u57 ((r57 (dInt c0) (dInt c1) (dInt c2) (dInt c3) (dInt c4) (dInt c5) (dInt c6) (dInt c7) (dInt c8) (dInt c9) (dInt c10) (dInt c11) (dInt c12) (dInt c13) (dInt c14) (dInt c15) (dInt c16) (dInt c17) (dInt c18) (dInt c19) (dInt c20)).getD default) := (rfl)
theorem TA57 : T57.sp.alias = false := (rfl)
def tb57 : Fns := lk [(29, T29.sp)]
theorem tb57_ok : FnsOk Tryd.prog tb57 := .cons f29 (FnsOk.nil)
theorem tb57_29 : tb57 29 = some T29.sp := rfl
attribute [go_sem] TP57 TR57 TA57 w57 u57
section
attribute [local go_sem] T57 tb57_29 Tryd.results57
theorem v57 : Valid Tryd.prog 57 T57.sp := by
  refine valid_t (fn := Tryd.f57) (n := 80) ty_ok tb57_ok Tryd.func57 rfl Tryd.ntmps57 ?_
  rintro ⟨a0_0, a0_1, a0_2, a0_3, a0_4, a0_5, a0_6, a0_7, a0_8, a0_9, a0_10, a0_11, a0_12, a0_13, a1_0, a1_1, a1_2, a1_3, a1_4, a1_5, a1_6⟩ hx
  obtain ⟨r, hr⟩ := Option.isSome_iff_exists.1 (show (r57 a0_0 a0_1 a0_2 a0_3 a0_4 a0_5 a0_6 a0_7 a0_8 a0_9 a0_10 a0_11 a0_12 a0_13 a1_0 a1_1 a1_2 a1_3 a1_4 a1_5 a1_6).isSome = true from hx)
  have hres : T57.res (a0_0, a0_1, a0_2, a0_3, a0_4, a0_5, a0_6, a0_7, a0_8, a0_9, a0_10, a0_11, a0_12, a0_13, a1_0, a1_1, a1_2, a1_3, a1_4, a1_5, a1_6) = u57 r := by simp only [T57, hr, Option.getD_some]
  refine ⟨Nat.le_of_ble_eq_true rfl, fun stop S => ?_⟩
  rw [hres] at S
  unfold r57 at hr
  refine S.gx [] ?_
  obtain ⟨v1, hv1, hr⟩ := of_bind0 hr
  obtain ⟨hg2, hr⟩ := of_guard0 hr
  obtain ⟨hg3, hr⟩ := of_guard0 hr
  obtain ⟨hg4, hr⟩ := of_guard0 hr
  obtain ⟨hg5, hr⟩ := of_guard0 hr
  obtain ⟨hg6, hr⟩ := of_guard0 hr
  obtain ⟨hg7, hr⟩ := of_guard0 hr
  try simp only [hv1, Option.getD_some, Option.isSome_some, true_and, and_assoc]
  repeat (first | refine gG hg2 ?_ | refine gG hg3 ?_ | refine gG hg4 ?_ | refine gG hg5 ?_ | refine gG hg6 ?_ | refine gG hg7 ?_ | refine gA ?_ | refine gB ?_)
  obtain rfl := Option.some.inj hr
  exact lf
theorem f57 : FnFact Tryd.prog 57 T57.sp := ⟨⟨Tryd.f57, Tryd.func57, by decide, rfl⟩, v57⟩
end
end Go.Proofs.YtfkmbdfajpdjjaaDoor
