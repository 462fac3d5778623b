/- Lists in cells, written by wip/dec. -/
import Derived.Test.YthldpejmofhaoaaGreatDoorTy
import Derived.Test.YthldpejmofhaoaaGreatDoorAbsTac
import Derived.Test.YthldpejmofhaoaaGreatDoorLib
import Derived.WalkKit
set_option linter.unusedVariables false
set_option linter.unusedSimpArgs false
set_option maxHeartbeats 4000000
set_option maxRecDepth 20000
namespace Go.Proofs.YthldpejmofhaoaaGreatDoor
open Go.Abs
attribute [go_sem] eqvO_can eqv_can can_cat can_cat0 can_ofList canW_ofList eqvLL can_setF can_set can_sub can_rep oneOne
theorem lapp_nil {α : Type} (r : List α) : List.append [] r = r := rfl
theorem lapp_cons {α : Type} (a : α) (l r : List α) : List.append (a :: l) r = a :: List.append l r := rfl
attribute [go_sem] lapp_nil lapp_cons
abbrev L_I := List (Int)
def d_I (x : Int) : List D := [.int .i64 x]
theorem dq_I (x : Int) : d_I x = [.int .i64 x] := by rw [d_I]
def g_I : List D → Int
  | [.int _ a] => a
  | _ => default
theorem gd_I (x : Int) : g_I (d_I x) = x := by rfl
theorem dec_I (l : List (Int)) : decF g_I (encF 1 d_I l) = l := decF_encF _ _ _ _ gd_I
theorem fl_I (l : List (Int)) : (encF 1 d_I l).flat = True := flat_enc (fun _ => rfl)
attribute [go_sem] dq_I g_I dec_I fl_I
abbrev L_II := List (Int × Int)
def d_II (x : Int × Int) : List D := [.int .i64 x.1, .int .i64 x.2]
theorem dq_II (x : Int × Int) : d_II x = [.int .i64 x.1, .int .i64 x.2] := by rw [d_II]
def g_II : List D → Int × Int
  | [.int _ a, .int _ b] => (a, b)
  | _ => default
theorem gd_II (x : Int × Int) : g_II (d_II x) = x := by rfl
theorem dec_II (l : List (Int × Int)) : decF g_II (encF 2 d_II l) = l := decF_encF _ _ _ _ gd_II
theorem fl_II (l : List (Int × Int)) : (encF 2 d_II l).flat = True := flat_enc (fun _ => rfl)
attribute [go_sem] dq_II g_II dec_II fl_II
abbrev L_LIIE := List ((List (Int × Int)))
def d_LIIE (x : L_II) : List D := [encF 2 d_II x]
theorem dq_LIIE (x : L_II) : d_LIIE x = [encF 2 d_II x] := by rw [d_LIIE]
def g_LIIE : List D → L_II
  | [a] => decF g_II a
  | _ => default
theorem gd_LIIE (x : L_II) : g_LIIE (d_LIIE x) = x := by simp only [g_LIIE, d_LIIE, dec_II]
theorem dec_LIIE (l : List (L_II)) : decF g_LIIE (encF 1 d_LIIE l) = l := decF_encF _ _ _ _ gd_LIIE
theorem ed_LIIE {l : List (L_II)} {d : D} (h : CanD 2 d_II l d) : EqvD d (encF 1 d_LIIE l) = True := eqvD_can (fun _ => rfl) h
theorem cde_LIIE (l : List (L_II)) : CanD 2 d_II l (encF 1 d_LIIE l) = True := canD_enc (fun _ => rfl) l
attribute [go_sem] ed_LIIE cde_LIIE
attribute [go_sem] dq_LIIE g_LIIE dec_LIIE
abbrev L_LLIIEE := List ((List ((List (Int × Int)))))
def d_LLIIEE (x : L_LIIE) : List D := [encF 1 d_LIIE x]
theorem dq_LLIIEE (x : L_LIIE) : d_LLIIEE x = [encF 1 d_LIIE x] := by rw [d_LLIIEE]
def g_LLIIEE : List D → L_LIIE
  | [a] => decF g_LIIE a
  | _ => default
theorem gd_LLIIEE (x : L_LIIE) : g_LLIIEE (d_LLIIEE x) = x := by simp only [g_LLIIEE, d_LLIIEE, dec_LIIE]
theorem dec_LLIIEE (l : List (L_LIIE)) : decF g_LLIIEE (encF 1 d_LLIIEE l) = l := decF_encF _ _ _ _ gd_LLIIEE
theorem ed_LLIIEE {l : List (L_LIIE)} {d : D} (h : CanD 1 d_LIIE l d) : EqvD d (encF 1 d_LLIIEE l) = True := eqvD_can (fun _ => rfl) h
theorem cde_LLIIEE (l : List (L_LIIE)) : CanD 1 d_LIIE l (encF 1 d_LLIIEE l) = True := canD_enc (fun _ => rfl) l
attribute [go_sem] ed_LLIIEE cde_LLIIEE
attribute [go_sem] dq_LLIIEE g_LLIIEE dec_LLIIEE
abbrev L_B := List (Bool)
def d_B (x : Bool) : List D := [.bool x]
theorem dq_B (x : Bool) : d_B x = [.bool x] := by rw [d_B]
def g_B : List D → Bool
  | [.bool a] => a
  | _ => default
theorem gd_B (x : Bool) : g_B (d_B x) = x := by rfl
theorem dec_B (l : List (Bool)) : decF g_B (encF 1 d_B l) = l := decF_encF _ _ _ _ gd_B
theorem fl_B (l : List (Bool)) : (encF 1 d_B l).flat = True := flat_enc (fun _ => rfl)
attribute [go_sem] dq_B g_B dec_B fl_B
abbrev L_LIE := List ((List (Int)))
def d_LIE (x : L_I) : List D := [encF 1 d_I x]
theorem dq_LIE (x : L_I) : d_LIE x = [encF 1 d_I x] := by rw [d_LIE]
def g_LIE : List D → L_I
  | [a] => decF g_I a
  | _ => default
theorem gd_LIE (x : L_I) : g_LIE (d_LIE x) = x := by simp only [g_LIE, d_LIE, dec_I]
theorem dec_LIE (l : List (L_I)) : decF g_LIE (encF 1 d_LIE l) = l := decF_encF _ _ _ _ gd_LIE
theorem ed_LIE {l : List (L_I)} {d : D} (h : CanD 1 d_I l d) : EqvD d (encF 1 d_LIE l) = True := eqvD_can (fun _ => rfl) h
theorem cde_LIE (l : List (L_I)) : CanD 1 d_I l (encF 1 d_LIE l) = True := canD_enc (fun _ => rfl) l
attribute [go_sem] ed_LIE cde_LIE
attribute [go_sem] dq_LIE g_LIE dec_LIE
abbrev L_S := List (ByteArray)
def d_S (x : ByteArray) : List D := [.str x]
theorem dq_S (x : ByteArray) : d_S x = [.str x] := by rw [d_S]
def g_S : List D → ByteArray
  | [.str a] => a
  | _ => default
theorem gd_S (x : ByteArray) : g_S (d_S x) = x := by rfl
theorem dec_S (l : List (ByteArray)) : decF g_S (encF 1 d_S l) = l := decF_encF _ _ _ _ gd_S
theorem fl_S (l : List (ByteArray)) : (encF 1 d_S l).flat = True := flat_enc (fun _ => rfl)
attribute [go_sem] dq_S g_S dec_S fl_S
abbrev L_LSE := List ((List (ByteArray)))
def d_LSE (x : L_S) : List D := [encF 1 d_S x]
theorem dq_LSE (x : L_S) : d_LSE x = [encF 1 d_S x] := by rw [d_LSE]
def g_LSE : List D → L_S
  | [a] => decF g_S a
  | _ => default
theorem gd_LSE (x : L_S) : g_LSE (d_LSE x) = x := by simp only [g_LSE, d_LSE, dec_S]
theorem dec_LSE (l : List (L_S)) : decF g_LSE (encF 1 d_LSE l) = l := decF_encF _ _ _ _ gd_LSE
theorem ed_LSE {l : List (L_S)} {d : D} (h : CanD 1 d_S l d) : EqvD d (encF 1 d_LSE l) = True := eqvD_can (fun _ => rfl) h
theorem cde_LSE (l : List (L_S)) : CanD 1 d_S l (encF 1 d_LSE l) = True := canD_enc (fun _ => rfl) l
attribute [go_sem] ed_LSE cde_LSE
attribute [go_sem] dq_LSE g_LSE dec_LSE
abbrev L_E := List (Bool)
def d_E (x : Bool) : List D := [.err x]
theorem dq_E (x : Bool) : d_E x = [.err x] := by rw [d_E]
def g_E : List D → Bool
  | [.err a] => a
  | _ => default
theorem gd_E (x : Bool) : g_E (d_E x) = x := by rfl
theorem dec_E (l : List (Bool)) : decF g_E (encF 1 d_E l) = l := decF_encF _ _ _ _ gd_E
theorem fl_E (l : List (Bool)) : (encF 1 d_E l).flat = True := flat_enc (fun _ => rfl)
attribute [go_sem] dq_E g_E dec_E fl_E
abbrev L_LIEI := List ((List (Int)) × Int)
def d_LIEI (x : L_I × Int) : List D := [encF 1 d_I x.1, .int .i64 x.2]
theorem dq_LIEI (x : L_I × Int) : d_LIEI x = [encF 1 d_I x.1, .int .i64 x.2] := by rw [d_LIEI]
def g_LIEI : List D → L_I × Int
  | [a, .int _ b] => (decF g_I a, b)
  | _ => default
theorem gd_LIEI (x : L_I × Int) : g_LIEI (d_LIEI x) = x := by simp only [g_LIEI, d_LIEI, dec_I]
theorem dec_LIEI (l : List (L_I × Int)) : decF g_LIEI (encF 2 d_LIEI l) = l := decF_encF _ _ _ _ gd_LIEI
attribute [go_sem] dq_LIEI g_LIEI dec_LIEI
abbrev L_LLIEIE := List ((List ((List (Int)) × Int)))
def d_LLIEIE (x : L_LIEI) : List D := [encF 2 d_LIEI x]
theorem dq_LLIEIE (x : L_LIEI) : d_LLIEIE x = [encF 2 d_LIEI x] := by rw [d_LLIEIE]
def g_LLIEIE : List D → L_LIEI
  | [a] => decF g_LIEI a
  | _ => default
theorem gd_LLIEIE (x : L_LIEI) : g_LLIEIE (d_LLIEIE x) = x := by simp only [g_LLIEIE, d_LLIEIE, dec_LIEI]
theorem dec_LLIEIE (l : List (L_LIEI)) : decF g_LLIEIE (encF 1 d_LLIEIE l) = l := decF_encF _ _ _ _ gd_LLIEIE
theorem ed_LLIEIE {l : List (L_LIEI)} {d : D} (h : CanD 2 d_LIEI l d) : EqvD d (encF 1 d_LLIEIE l) = True := eqvD_can (fun _ => rfl) h
theorem cde_LLIEIE (l : List (L_LIEI)) : CanD 2 d_LIEI l (encF 1 d_LLIEIE l) = True := canD_enc (fun _ => rfl) l
attribute [go_sem] ed_LLIEIE cde_LLIEIE
attribute [go_sem] dq_LLIEIE g_LLIEIE dec_LLIEIE
abbrev L_LLIEE := List ((List ((List (Int)))))
def d_LLIEE (x : L_LIE) : List D := [encF 1 d_LIE x]
theorem dq_LLIEE (x : L_LIE) : d_LLIEE x = [encF 1 d_LIE x] := by rw [d_LLIEE]
def g_LLIEE : List D → L_LIE
  | [a] => decF g_LIE a
  | _ => default
theorem gd_LLIEE (x : L_LIE) : g_LLIEE (d_LLIEE x) = x := by simp only [g_LLIEE, d_LLIEE, dec_LIE]
theorem dec_LLIEE (l : List (L_LIE)) : decF g_LLIEE (encF 1 d_LLIEE l) = l := decF_encF _ _ _ _ gd_LLIEE
theorem ed_LLIEE {l : List (L_LIE)} {d : D} (h : CanD 1 d_LIE l d) : EqvD d (encF 1 d_LLIEE l) = True := eqvD_can (fun _ => rfl) h
theorem cde_LLIEE (l : List (L_LIE)) : CanD 1 d_LIE l (encF 1 d_LLIEE l) = True := canD_enc (fun _ => rfl) l
attribute [go_sem] ed_LLIEE cde_LLIEE
attribute [go_sem] dq_LLIEE g_LLIEE dec_LLIEE
abbrev L_LIIEII := List ((List (Int × Int)) × Int × Int)
def d_LIIEII (x : L_II × Int × Int) : List D := [encF 2 d_II x.1, .int .i64 x.2.1, .int .i64 x.2.2]
theorem dq_LIIEII (x : L_II × Int × Int) : d_LIIEII x = [encF 2 d_II x.1, .int .i64 x.2.1, .int .i64 x.2.2] := by rw [d_LIIEII]
def g_LIIEII : List D → L_II × Int × Int
  | [a, .int _ b, .int _ c] => (decF g_II a, b, c)
  | _ => default
theorem gd_LIIEII (x : L_II × Int × Int) : g_LIIEII (d_LIIEII x) = x := by simp only [g_LIIEII, d_LIIEII, dec_II]
theorem dec_LIIEII (l : List (L_II × Int × Int)) : decF g_LIIEII (encF 3 d_LIIEII l) = l := decF_encF _ _ _ _ gd_LIIEII
attribute [go_sem] dq_LIIEII g_LIIEII dec_LIIEII
abbrev L_LLIIEIIE := List ((List ((List (Int × Int)) × Int × Int)))
def d_LLIIEIIE (x : L_LIIEII) : List D := [encF 3 d_LIIEII x]
theorem dq_LLIIEIIE (x : L_LIIEII) : d_LLIIEIIE x = [encF 3 d_LIIEII x] := by rw [d_LLIIEIIE]
def g_LLIIEIIE : List D → L_LIIEII
  | [a] => decF g_LIIEII a
  | _ => default
theorem gd_LLIIEIIE (x : L_LIIEII) : g_LLIIEIIE (d_LLIIEIIE x) = x := by simp only [g_LLIIEIIE, d_LLIIEIIE, dec_LIIEII]
theorem dec_LLIIEIIE (l : List (L_LIIEII)) : decF g_LLIIEIIE (encF 1 d_LLIIEIIE l) = l := decF_encF _ _ _ _ gd_LLIIEIIE
theorem ed_LLIIEIIE {l : List (L_LIIEII)} {d : D} (h : CanD 3 d_LIIEII l d) : EqvD d (encF 1 d_LLIIEIIE l) = True := eqvD_can (fun _ => rfl) h
theorem cde_LLIIEIIE (l : List (L_LIIEII)) : CanD 3 d_LIIEII l (encF 1 d_LLIIEIIE l) = True := canD_enc (fun _ => rfl) l
attribute [go_sem] ed_LLIIEIIE cde_LLIIEIIE
attribute [go_sem] dq_LLIIEIIE g_LLIIEIIE dec_LLIIEIIE
abbrev L_LIELIE := List ((List (Int)) × (List (Int)))
def d_LIELIE (x : L_I × L_I) : List D := [encF 1 d_I x.1, encF 1 d_I x.2]
theorem dq_LIELIE (x : L_I × L_I) : d_LIELIE x = [encF 1 d_I x.1, encF 1 d_I x.2] := by rw [d_LIELIE]
def g_LIELIE : List D → L_I × L_I
  | [a, b] => (decF g_I a, decF g_I b)
  | _ => default
theorem gd_LIELIE (x : L_I × L_I) : g_LIELIE (d_LIELIE x) = x := by simp only [g_LIELIE, d_LIELIE, dec_I, dec_I]
theorem dec_LIELIE (l : List (L_I × L_I)) : decF g_LIELIE (encF 2 d_LIELIE l) = l := decF_encF _ _ _ _ gd_LIELIE
attribute [go_sem] dq_LIELIE g_LIELIE dec_LIELIE
abbrev L_LLIELIEE := List ((List ((List (Int)) × (List (Int)))))
def d_LLIELIEE (x : L_LIELIE) : List D := [encF 2 d_LIELIE x]
theorem dq_LLIELIEE (x : L_LIELIE) : d_LLIELIEE x = [encF 2 d_LIELIE x] := by rw [d_LLIELIEE]
def g_LLIELIEE : List D → L_LIELIE
  | [a] => decF g_LIELIE a
  | _ => default
theorem gd_LLIELIEE (x : L_LIELIE) : g_LLIELIEE (d_LLIELIEE x) = x := by simp only [g_LLIELIEE, d_LLIELIEE, dec_LIELIE]
theorem dec_LLIELIEE (l : List (L_LIELIE)) : decF g_LLIELIEE (encF 1 d_LLIELIEE l) = l := decF_encF _ _ _ _ gd_LLIELIEE
theorem ed_LLIELIEE {l : List (L_LIELIE)} {d : D} (h : CanD 2 d_LIELIE l d) : EqvD d (encF 1 d_LLIELIEE l) = True := eqvD_can (fun _ => rfl) h
theorem cde_LLIELIEE (l : List (L_LIELIE)) : CanD 2 d_LIELIE l (encF 1 d_LLIELIEE l) = True := canD_enc (fun _ => rfl) l
attribute [go_sem] ed_LLIELIEE cde_LLIELIEE
attribute [go_sem] dq_LLIELIEE g_LLIELIEE dec_LLIELIEE
theorem w0 : (IntKind.i64.wrap (0 + 1)) = 1 := by first | rfl | decide | simp
theorem w1 : (decide ((0 : Int) > 0)) = false := by first | rfl | decide | simp
theorem w2 : (IntKind.i64.wrap (0 + 2)) = 2 := by first | rfl | decide | simp
theorem w3 : (IntKind.i64.wrap (1 + 1)) = 2 := by first | rfl | decide | simp
theorem w4 : (IntKind.i64.wrap (1 + 2)) = 3 := by first | rfl | decide | simp
theorem w5 : ((((0 : Int)) == 0)) = true := by first | rfl | decide | simp
theorem w6 : (((#[44] : Array UInt8).size : Int)) = 1 := by first | rfl | decide | simp
theorem w7 : ((((1 : Int)) == 0)) = false := by first | rfl | decide | simp
attribute [go_sem] w0 w1 w2 w3 w4 w5 w6 w7
def u0 {γ : Type} (f : γ) : Unit → γ := fun _ => f
def u1 {a γ : Type} (f : a → γ) : a → γ := f
def u2 {a0 a1 γ : Type} (f : a0 → a1 → γ) : a0 × a1 → γ := fun ⟨x0, x1⟩ => f x0 x1
def u3 {a0 a1 a2 γ : Type} (f : a0 → a1 → a2 → γ) : a0 × a1 × a2 → γ := fun ⟨x0, x1, x2⟩ => f x0 x1 x2
def u4 {a0 a1 a2 a3 γ : Type} (f : a0 → a1 → a2 → a3 → γ) : a0 × a1 × a2 × a3 → γ := fun ⟨x0, x1, x2, x3⟩ => f x0 x1 x2 x3
def u5 {a0 a1 a2 a3 a4 γ : Type} (f : a0 → a1 → a2 → a3 → a4 → γ) : a0 × a1 × a2 × a3 × a4 → γ := fun ⟨x0, x1, x2, x3, x4⟩ => f x0 x1 x2 x3 x4
def u6 {a0 a1 a2 a3 a4 a5 γ : Type} (f : a0 → a1 → a2 → a3 → a4 → a5 → γ) : a0 × a1 × a2 × a3 × a4 × a5 → γ := fun ⟨x0, x1, x2, x3, x4, x5⟩ => f x0 x1 x2 x3 x4 x5
def u7 {a0 a1 a2 a3 a4 a5 a6 γ : Type} (f : a0 → a1 → a2 → a3 → a4 → a5 → a6 → γ) : a0 × a1 × a2 × a3 × a4 × a5 × a6 → γ := fun ⟨x0, x1, x2, x3, x4, x5, x6⟩ => f x0 x1 x2 x3 x4 x5 x6
def u8 {a0 a1 a2 a3 a4 a5 a6 a7 γ : Type} (f : a0 → a1 → a2 → a3 → a4 → a5 → a6 → a7 → γ) : a0 × a1 × a2 × a3 × a4 × a5 × a6 × a7 → γ := fun ⟨x0, x1, x2, x3, x4, x5, x6, x7⟩ => f x0 x1 x2 x3 x4 x5 x6 x7
def u9 {a0 a1 a2 a3 a4 a5 a6 a7 a8 γ : Type} (f : a0 → a1 → a2 → a3 → a4 → a5 → a6 → a7 → a8 → γ) : a0 × a1 × a2 × a3 × a4 × a5 × a6 × a7 × a8 → γ := fun ⟨x0, x1, x2, x3, x4, x5, x6, x7, x8⟩ => f x0 x1 x2 x3 x4 x5 x6 x7 x8
def u10 {a0 a1 a2 a3 a4 a5 a6 a7 a8 a9 γ : Type} (f : a0 → a1 → a2 → a3 → a4 → a5 → a6 → a7 → a8 → a9 → γ) : a0 × a1 × a2 × a3 × a4 × a5 × a6 × a7 × a8 × a9 → γ := fun ⟨x0, x1, x2, x3, x4, x5, x6, x7, x8, x9⟩ => f x0 x1 x2 x3 x4 x5 x6 x7 x8 x9
def u11 {a0 a1 a2 a3 a4 a5 a6 a7 a8 a9 a10 γ : Type} (f : a0 → a1 → a2 → a3 → a4 → a5 → a6 → a7 → a8 → a9 → a10 → γ) : a0 × a1 × a2 × a3 × a4 × a5 × a6 × a7 × a8 × a9 × a10 → γ := fun ⟨x0, x1, x2, x3, x4, x5, x6, x7, x8, x9, x10⟩ => f x0 x1 x2 x3 x4 x5 x6 x7 x8 x9 x10
def u13 {a0 a1 a2 a3 a4 a5 a6 a7 a8 a9 a10 a11 a12 γ : Type} (f : a0 → a1 → a2 → a3 → a4 → a5 → a6 → a7 → a8 → a9 → a10 → a11 → a12 → γ) : a0 × a1 × a2 × a3 × a4 × a5 × a6 × a7 × a8 × a9 × a10 × a11 × a12 → γ := fun ⟨x0, x1, x2, x3, x4, x5, x6, x7, x8, x9, x10, x11, x12⟩ => f x0 x1 x2 x3 x4 x5 x6 x7 x8 x9 x10 x11 x12
def u14 {a0 a1 a2 a3 a4 a5 a6 a7 a8 a9 a10 a11 a12 a13 γ : Type} (f : a0 → a1 → a2 → a3 → a4 → a5 → a6 → a7 → a8 → a9 → a10 → a11 → a12 → a13 → γ) : a0 × a1 × a2 × a3 × a4 × a5 × a6 × a7 × a8 × a9 × a10 × a11 × a12 × a13 → γ := fun ⟨x0, x1, x2, x3, x4, x5, x6, x7, x8, x9, x10, x11, x12, x13⟩ => f x0 x1 x2 x3 x4 x5 x6 x7 x8 x9 x10 x11 x12 x13
attribute [go_sem] u0 u1 u2 u3 u4 u5 u6 u7 u8 u9 u10 u11 u13 u14
section
variable {β : Type} [Inhabited β] (u : β → List RV) (al : Bool)
abbrev qF0 (β : Type) := β
def qw0 : List Arg := []
def qd0 (a : List Arg) := ()
def qp0 {β : Type} (f : qF0 β) := f 
abbrev qt0 : List Arg := []
def qT0 (r : qF0 (Option β)) := mkT (u0 qw0) qd0 (u0 r) u al
theorem qP0 (r : qF0 (Option β)) : PT (qT0 u al r).sp u (qt0) (qp0 qw0) (qp0 r) := ⟨rfl, rfl⟩
theorem qa0 (r : qF0 (Option β)) : (qT0 u al r).sp.alias = al := rfl
attribute [go_sem] qw0 qp0 qt0 qP0 qa0
abbrev qF1 (β : Type) := Int → Int → Int → β
def qw1 (a0 a1 a2 : Int) : List Arg := [.c (.int .i64 a0), .c (.int .i64 a1), .c (.int .i64 a2)]
def qd1 (a : List Arg) := (dInt (aCell a 0 0), dInt (aCell a 1 0), dInt (aCell a 2 0))
def qp1 {β : Type} (f : qF1 β) (c0 c1 c2 : D) := f (dInt c0) (dInt c1) (dInt c2)
abbrev qt1 (c0 c1 c2 : D) : List Arg := [.c c0, .c c1, .c c2]
def qT1 (r : qF1 (Option β)) := mkT (u3 qw1) qd1 (u3 r) u al
theorem qP1 (r : qF1 (Option β)) (c0 c1 c2 : D) : PT (qT1 u al r).sp u (qt1 c0 c1 c2) (qp1 qw1 c0 c1 c2) (qp1 r c0 c1 c2) := ⟨rfl, rfl⟩
theorem qa1 (r : qF1 (Option β)) : (qT1 u al r).sp.alias = al := rfl
attribute [go_sem] qw1 qp1 qt1 qP1 qa1
abbrev qF3 (β : Type) := L_I → β
def qw3 (a0 : L_I) : List Arg := [.c (encF 1 d_I a0)]
def qd3 (a : List Arg) := decF g_I (aCell a 0 0)
def qp3 {β : Type} (f : qF3 β) (c0 : D) := f (decF g_I c0)
abbrev qt3 (c0 : D) : List Arg := [.c c0]
def qT3 (r : qF3 (Option β)) := mkT (u1 qw3) qd3 (u1 r) u al
theorem qP3 (r : qF3 (Option β)) (c0 : D) : PT (qT3 u al r).sp u (qt3 c0) (qp3 qw3 c0) (qp3 r c0) := ⟨rfl, rfl⟩
theorem qa3 (r : qF3 (Option β)) : (qT3 u al r).sp.alias = al := rfl
attribute [go_sem] qw3 qp3 qt3 qP3 qa3
abbrev qF4 (β : Type) := Int → β
def qw4 (a0 : Int) : List Arg := [.c (.int .i64 a0)]
def qd4 (a : List Arg) := dInt (aCell a 0 0)
def qp4 {β : Type} (f : qF4 β) (c0 : D) := f (dInt c0)
abbrev qt4 (c0 : D) : List Arg := [.c c0]
def qT4 (r : qF4 (Option β)) := mkT (u1 qw4) qd4 (u1 r) u al
theorem qP4 (r : qF4 (Option β)) (c0 : D) : PT (qT4 u al r).sp u (qt4 c0) (qp4 qw4 c0) (qp4 r c0) := ⟨rfl, rfl⟩
theorem qa4 (r : qF4 (Option β)) : (qT4 u al r).sp.alias = al := rfl
attribute [go_sem] qw4 qp4 qt4 qP4 qa4
abbrev qF5 (β : Type) := L_II → β
def qw5 (a0 : L_II) : List Arg := [.c (encF 2 d_II a0)]
def qd5 (a : List Arg) := decF g_II (aCell a 0 0)
def qp5 {β : Type} (f : qF5 β) (c0 : D) := f (decF g_II c0)
abbrev qt5 (c0 : D) : List Arg := [.c c0]
def qT5 (r : qF5 (Option β)) := mkT (u1 qw5) qd5 (u1 r) u al
theorem qP5 (r : qF5 (Option β)) (c0 : D) : PT (qT5 u al r).sp u (qt5 c0) (qp5 qw5 c0) (qp5 r c0) := ⟨rfl, rfl⟩
theorem qa5 (r : qF5 (Option β)) : (qT5 u al r).sp.alias = al := rfl
attribute [go_sem] qw5 qp5 qt5 qP5 qa5
abbrev qF7 (β : Type) := Int → Int → β
def qw7 (a0 a1 : Int) : List Arg := [.c (.int .i64 a0), .c (.int .i64 a1)]
def qd7 (a : List Arg) := (dInt (aCell a 0 0), dInt (aCell a 1 0))
def qp7 {β : Type} (f : qF7 β) (c0 c1 : D) := f (dInt c0) (dInt c1)
abbrev qt7 (c0 c1 : D) : List Arg := [.c c0, .c c1]
def qT7 (r : qF7 (Option β)) := mkT (u2 qw7) qd7 (u2 r) u al
theorem qP7 (r : qF7 (Option β)) (c0 c1 : D) : PT (qT7 u al r).sp u (qt7 c0 c1) (qp7 qw7 c0 c1) (qp7 r c0 c1) := ⟨rfl, rfl⟩
theorem qa7 (r : qF7 (Option β)) : (qT7 u al r).sp.alias = al := rfl
attribute [go_sem] qw7 qp7 qt7 qP7 qa7
abbrev qF11 (β : Type) := L_II → L_II → β
def qw11 (a0 a1 : L_II) : List Arg := [.c (encF 2 d_II a0), .c (encF 2 d_II a1)]
def qd11 (a : List Arg) := (decF g_II (aCell a 0 0), decF g_II (aCell a 1 0))
def qp11 {β : Type} (f : qF11 β) (c0 c1 : D) := f (decF g_II c0) (decF g_II c1)
abbrev qt11 (c0 c1 : D) : List Arg := [.c c0, .c c1]
def qT11 (r : qF11 (Option β)) := mkT (u2 qw11) qd11 (u2 r) u al
theorem qP11 (r : qF11 (Option β)) (c0 c1 : D) : PT (qT11 u al r).sp u (qt11 c0 c1) (qp11 qw11 c0 c1) (qp11 r c0 c1) := ⟨rfl, rfl⟩
theorem qa11 (r : qF11 (Option β)) : (qT11 u al r).sp.alias = al := rfl
attribute [go_sem] qw11 qp11 qt11 qP11 qa11
abbrev qF12 (β : Type) := Int → Int → L_II → L_LIIE → β
def qw12 (a0 a1 : Int) (a2 : L_II) (a3 : L_LIIE) : List Arg := [.agg [.int .i64 a0, .int .i64 a1, encF 2 d_II a2, encF 1 d_LIIE a3]]
def qd12 (a : List Arg) := (dInt (aCell a 0 0), dInt (aCell a 0 1), decF g_II (aCell a 0 2), decF g_LIIE (aCell a 0 3))
def qp12 {β : Type} (f : qF12 β) (c0 c1 c2 c3 : D) := f (dInt c0) (dInt c1) (decF g_II c2) (decF g_LIIE c3)
abbrev qt12 (c0 c1 c2 c3 : D) : List Arg := [.agg [c0, c1, c2, c3]]
def qT12 (r : qF12 (Option β)) := mkT (u4 qw12) qd12 (u4 r) u al
theorem qP12 (r : qF12 (Option β)) (c0 c1 c2 c3 : D) : PT (qT12 u al r).sp u (qt12 c0 c1 c2 c3) (qp12 qw12 c0 c1 c2 c3) (qp12 r c0 c1 c2 c3) := ⟨rfl, rfl⟩
theorem qa12 (r : qF12 (Option β)) : (qT12 u al r).sp.alias = al := rfl
attribute [go_sem] qw12 qp12 qt12 qP12 qa12
abbrev qF14 (β : Type) := Int → Int → Int → L_II → L_LIIE → L_II → L_LIIE → β
def qw14 (a0 a1 a2 : Int) (a3 : L_II) (a4 : L_LIIE) (a5 : L_II) (a6 : L_LIIE) : List Arg := [.c (.int .i64 a0), .ptr [.int .i64 a1, .int .i64 a2, encF 2 d_II a3, encF 1 d_LIIE a4, encF 2 d_II a5, encF 1 d_LIIE a6]]
def qd14 (a : List Arg) := (dInt (aCell a 0 0), dInt (aCell a 1 0), dInt (aCell a 1 1), decF g_II (aCell a 1 2), decF g_LIIE (aCell a 1 3), decF g_II (aCell a 1 4), decF g_LIIE (aCell a 1 5))
def qp14 {β : Type} (f : qF14 β) (c0 c1 c2 c3 c4 c5 c6 : D) := f (dInt c0) (dInt c1) (dInt c2) (decF g_II c3) (decF g_LIIE c4) (decF g_II c5) (decF g_LIIE c6)
abbrev qt14 (c0 c1 c2 c3 c4 c5 c6 : D) : List Arg := [.c c0, .ptr [c1, c2, c3, c4, c5, c6]]
def qT14 (r : qF14 (Option β)) := mkT (u7 qw14) qd14 (u7 r) u al
theorem qP14 (r : qF14 (Option β)) (c0 c1 c2 c3 c4 c5 c6 : D) : PT (qT14 u al r).sp u (qt14 c0 c1 c2 c3 c4 c5 c6) (qp14 qw14 c0 c1 c2 c3 c4 c5 c6) (qp14 r c0 c1 c2 c3 c4 c5 c6) := ⟨rfl, rfl⟩
theorem qa14 (r : qF14 (Option β)) : (qT14 u al r).sp.alias = al := rfl
attribute [go_sem] qw14 qp14 qt14 qP14 qa14
abbrev qF17 (β : Type) := Int → Int → L_II → L_LIIE → L_I → β
def qw17 (a0 a1 : Int) (a2 : L_II) (a3 : L_LIIE) (a4 : L_I) : List Arg := [.agg [.int .i64 a0, .int .i64 a1, encF 2 d_II a2, encF 1 d_LIIE a3], .c (encF 1 d_I a4)]
def qd17 (a : List Arg) := (dInt (aCell a 0 0), dInt (aCell a 0 1), decF g_II (aCell a 0 2), decF g_LIIE (aCell a 0 3), decF g_I (aCell a 1 0))
def qp17 {β : Type} (f : qF17 β) (c0 c1 c2 c3 c4 : D) := f (dInt c0) (dInt c1) (decF g_II c2) (decF g_LIIE c3) (decF g_I c4)
abbrev qt17 (c0 c1 c2 c3 c4 : D) : List Arg := [.agg [c0, c1, c2, c3], .c c4]
def qT17 (r : qF17 (Option β)) := mkT (u5 qw17) qd17 (u5 r) u al
theorem qP17 (r : qF17 (Option β)) (c0 c1 c2 c3 c4 : D) : PT (qT17 u al r).sp u (qt17 c0 c1 c2 c3 c4) (qp17 qw17 c0 c1 c2 c3 c4) (qp17 r c0 c1 c2 c3 c4) := ⟨rfl, rfl⟩
theorem qa17 (r : qF17 (Option β)) : (qT17 u al r).sp.alias = al := rfl
attribute [go_sem] qw17 qp17 qt17 qP17 qa17
abbrev qF20 (β : Type) := Int → Int → L_II → L_LIIE → L_II → L_LIIE → Int → Int → β
def qw20 (a0 a1 : Int) (a2 : L_II) (a3 : L_LIIE) (a4 : L_II) (a5 : L_LIIE) (a6 a7 : Int) : List Arg := [.agg [.int .i64 a0, .int .i64 a1, encF 2 d_II a2, encF 1 d_LIIE a3, encF 2 d_II a4, encF 1 d_LIIE a5], .c (.int .i64 a6), .c (.int .i64 a7)]
def qd20 (a : List Arg) := (dInt (aCell a 0 0), dInt (aCell a 0 1), decF g_II (aCell a 0 2), decF g_LIIE (aCell a 0 3), decF g_II (aCell a 0 4), decF g_LIIE (aCell a 0 5), dInt (aCell a 1 0), dInt (aCell a 2 0))
def qp20 {β : Type} (f : qF20 β) (c0 c1 c2 c3 c4 c5 c6 c7 : D) := f (dInt c0) (dInt c1) (decF g_II c2) (decF g_LIIE c3) (decF g_II c4) (decF g_LIIE c5) (dInt c6) (dInt c7)
abbrev qt20 (c0 c1 c2 c3 c4 c5 c6 c7 : D) : List Arg := [.agg [c0, c1, c2, c3, c4, c5], .c c6, .c c7]
def qT20 (r : qF20 (Option β)) := mkT (u8 qw20) qd20 (u8 r) u al
theorem qP20 (r : qF20 (Option β)) (c0 c1 c2 c3 c4 c5 c6 c7 : D) : PT (qT20 u al r).sp u (qt20 c0 c1 c2 c3 c4 c5 c6 c7) (qp20 qw20 c0 c1 c2 c3 c4 c5 c6 c7) (qp20 r c0 c1 c2 c3 c4 c5 c6 c7) := ⟨rfl, rfl⟩
theorem qa20 (r : qF20 (Option β)) : (qT20 u al r).sp.alias = al := rfl
attribute [go_sem] qw20 qp20 qt20 qP20 qa20
def qu0 (v : Int × Int × L_II × L_LIIE) : List RV := [.agg [.d (.int .i64 v.1), .d (.int .i64 v.2.1), .own (encF 2 d_II v.2.2.1), .own (encF 1 d_LIIE v.2.2.2)]]
attribute [go_sem] qu0
def qu1 (v : Bool) : List RV := [.c (.d (.bool v))]
attribute [go_sem] qu1
def qu2 (v : Int) : List RV := [.c (.d (.int .i64 v))]
attribute [go_sem] qu2
def qu3 (v : Int × Int) : List RV := [.c (.d (.int .i64 v.1)), .c (.d (.int .i64 v.2))]
attribute [go_sem] qu3
def qu5 (v : Int × Bool) : List RV := [.c (.d (.int .i64 v.1)), .c (.d (.bool v.2))]
attribute [go_sem] qu5
def qu6 (v : Int × Int) : List RV := [.agg [.d (.int .i64 v.1), .d (.int .i64 v.2)]]
attribute [go_sem] qu6
def qu7 (v : Int × Int × L_II × L_LIIE × L_II × L_LIIE × Int) : List RV := [.agg [.d (.int .i64 v.1), .d (.int .i64 v.2.1), .d (encF 2 d_II v.2.2.1), .d (encF 1 d_LIIE v.2.2.2.1), .own (encF 2 d_II v.2.2.2.2.1), .own (encF 1 d_LIIE v.2.2.2.2.2.1)], .c (.d (.int .i64 v.2.2.2.2.2.2))]
attribute [go_sem] qu7
def qu11 (v : L_I) : List RV := [.c (.own (encF 1 d_I v))]
attribute [go_sem] qu11
def qu12 (v : Int × Int × Int) : List RV := [.agg [.d (.int .i64 v.1), .d (.int .i64 v.2.1)], .c (.d (.int .i64 v.2.2))]
attribute [go_sem] qu12
end
end Go.Proofs.YthldpejmofhaoaaGreatDoor
