/- Lists in cells, written by wip/dec. -/
import Derived.Test.YthldpejmofhaoaaGreatDoorTy
import Derived.Test.YthldpejmofhaoaaGreatDoorAbsTac
import Derived.Test.YthldpejmofhaoaaGreatDoorLib
import Derived.WalkKit
set_option linter.unusedVariables false
set_option linter.unusedSimpArgs false
set_option linter.constructorNameAsVariable false
set_option maxHeartbeats 4000000
set_option maxRecDepth 20000
namespace Go.Proofs.YthldpejmofhaoaaGreatDoor
open Go.Abs
attribute [go_sem] eqvO_can eqv_can can_cat can_cat0 can_ofList canW_ofList eqvLL can_setF can_set can_sub can_rep oneOne
theorem lapp_nil {α:Type} (r:List α):List.append [] r=r:=rfl
theorem lapp_cons {α:Type} (a:α) (l r:List α):List.append (a::l) r=a::List.append l r:=rfl
attribute [go_sem] lapp_nil lapp_cons
abbrev L_I:=List (Int)
def d_I (x:Int):List D:=[.int .i64 x]
theorem dq_I (x:Int):d_I x=[.int .i64 x]:=by rw [d_I]
def g_I:List D→Int
 | [.int _ a]=>a
 | _=>default
theorem gd_I (x:Int):g_I (d_I x)=x:=by rfl
theorem dec_I (l:List (Int)):decF g_I (encF 1 d_I l)=l:=decF_encF _ _ _ _ gd_I
theorem fl_I (l:List (Int)):(encF 1 d_I l).flat=True:=flat_enc (fun _=>rfl)
attribute [go_sem] dq_I g_I dec_I fl_I
abbrev L_III:=List (Int×Int×Int)
def d_III (x:Int×Int×Int):List D:=[.int .i64 x.1,.int .i64 x.2.1,.int .i64 x.2.2]
theorem dq_III (x:Int×Int×Int):d_III x=[.int .i64 x.1,.int .i64 x.2.1,.int .i64 x.2.2]:=by rw [d_III]
def g_III:List D→Int×Int×Int
 | [.int _ a,.int _ b,.int _ c]=>(a,b,c)
 | _=>default
theorem gd_III (x:Int×Int×Int):g_III (d_III x)=x:=by rfl
theorem dec_III (l:List (Int×Int×Int)):decF g_III (encF 3 d_III l)=l:=decF_encF _ _ _ _ gd_III
theorem fl_III (l:List (Int×Int×Int)):(encF 3 d_III l).flat=True:=flat_enc (fun _=>rfl)
attribute [go_sem] dq_III g_III dec_III fl_III
abbrev L_LIIIE:=List ((List (Int×Int×Int)))
def d_LIIIE (x:L_III):List D:=[encF 3 d_III x]
theorem dq_LIIIE (x:L_III):d_LIIIE x=[encF 3 d_III x]:=by rw [d_LIIIE]
def g_LIIIE:List D→L_III
 | [a]=>decF g_III a
 | _=>default
theorem gd_LIIIE (x:L_III):g_LIIIE (d_LIIIE x)=x:=by simp only [g_LIIIE,d_LIIIE,dec_III]
theorem dec_LIIIE (l:List (L_III)):decF g_LIIIE (encF 1 d_LIIIE l)=l:=decF_encF _ _ _ _ gd_LIIIE
theorem ed_LIIIE {l:List (L_III)} {d:D} (h:CanD 3 d_III l d):EqvD d (encF 1 d_LIIIE l)=True:=eqvD_can (fun _=>rfl) h
theorem cde_LIIIE (l:List (L_III)):CanD 3 d_III l (encF 1 d_LIIIE l)=True:=canD_enc (fun _=>rfl) l
attribute [go_sem] ed_LIIIE cde_LIIIE
attribute [go_sem] dq_LIIIE g_LIIIE dec_LIIIE
abbrev L_B:=List (Bool)
def d_B (x:Bool):List D:=[.bool x]
theorem dq_B (x:Bool):d_B x=[.bool x]:=by rw [d_B]
def g_B:List D→Bool
 | [.bool a]=>a
 | _=>default
theorem gd_B (x:Bool):g_B (d_B x)=x:=by rfl
theorem dec_B (l:List (Bool)):decF g_B (encF 1 d_B l)=l:=decF_encF _ _ _ _ gd_B
theorem fl_B (l:List (Bool)):(encF 1 d_B l).flat=True:=flat_enc (fun _=>rfl)
attribute [go_sem] dq_B g_B dec_B fl_B
abbrev L_LBE:=List ((List (Bool)))
def d_LBE (x:L_B):List D:=[encF 1 d_B x]
theorem dq_LBE (x:L_B):d_LBE x=[encF 1 d_B x]:=by rw [d_LBE]
def g_LBE:List D→L_B
 | [a]=>decF g_B a
 | _=>default
theorem gd_LBE (x:L_B):g_LBE (d_LBE x)=x:=by simp only [g_LBE,d_LBE,dec_B]
theorem dec_LBE (l:List (L_B)):decF g_LBE (encF 1 d_LBE l)=l:=decF_encF _ _ _ _ gd_LBE
theorem ed_LBE {l:List (L_B)} {d:D} (h:CanD 1 d_B l d):EqvD d (encF 1 d_LBE l)=True:=eqvD_can (fun _=>rfl) h
theorem cde_LBE (l:List (L_B)):CanD 1 d_B l (encF 1 d_LBE l)=True:=canD_enc (fun _=>rfl) l
attribute [go_sem] ed_LBE cde_LBE
attribute [go_sem] dq_LBE g_LBE dec_LBE
abbrev L_LIE:=List ((List (Int)))
def d_LIE (x:L_I):List D:=[encF 1 d_I x]
theorem dq_LIE (x:L_I):d_LIE x=[encF 1 d_I x]:=by rw [d_LIE]
def g_LIE:List D→L_I
 | [a]=>decF g_I a
 | _=>default
theorem gd_LIE (x:L_I):g_LIE (d_LIE x)=x:=by simp only [g_LIE,d_LIE,dec_I]
theorem dec_LIE (l:List (L_I)):decF g_LIE (encF 1 d_LIE l)=l:=decF_encF _ _ _ _ gd_LIE
theorem ed_LIE {l:List (L_I)} {d:D} (h:CanD 1 d_I l d):EqvD d (encF 1 d_LIE l)=True:=eqvD_can (fun _=>rfl) h
theorem cde_LIE (l:List (L_I)):CanD 1 d_I l (encF 1 d_LIE l)=True:=canD_enc (fun _=>rfl) l
attribute [go_sem] ed_LIE cde_LIE
attribute [go_sem] dq_LIE g_LIE dec_LIE
abbrev L_II:=List (Int×Int)
def d_II (x:Int×Int):List D:=[.int .i64 x.1,.int .i64 x.2]
theorem dq_II (x:Int×Int):d_II x=[.int .i64 x.1,.int .i64 x.2]:=by rw [d_II]
def g_II:List D→Int×Int
 | [.int _ a,.int _ b]=>(a,b)
 | _=>default
theorem gd_II (x:Int×Int):g_II (d_II x)=x:=by rfl
theorem dec_II (l:List (Int×Int)):decF g_II (encF 2 d_II l)=l:=decF_encF _ _ _ _ gd_II
theorem fl_II (l:List (Int×Int)):(encF 2 d_II l).flat=True:=flat_enc (fun _=>rfl)
attribute [go_sem] dq_II g_II dec_II fl_II
abbrev L_LIIE:=List ((List (Int×Int)))
def d_LIIE (x:L_II):List D:=[encF 2 d_II x]
theorem dq_LIIE (x:L_II):d_LIIE x=[encF 2 d_II x]:=by rw [d_LIIE]
def g_LIIE:List D→L_II
 | [a]=>decF g_II a
 | _=>default
theorem gd_LIIE (x:L_II):g_LIIE (d_LIIE x)=x:=by simp only [g_LIIE,d_LIIE,dec_II]
theorem dec_LIIE (l:List (L_II)):decF g_LIIE (encF 1 d_LIIE l)=l:=decF_encF _ _ _ _ gd_LIIE
theorem ed_LIIE {l:List (L_II)} {d:D} (h:CanD 2 d_II l d):EqvD d (encF 1 d_LIIE l)=True:=eqvD_can (fun _=>rfl) h
theorem cde_LIIE (l:List (L_II)):CanD 2 d_II l (encF 1 d_LIIE l)=True:=canD_enc (fun _=>rfl) l
attribute [go_sem] ed_LIIE cde_LIIE
attribute [go_sem] dq_LIIE g_LIIE dec_LIIE
abbrev L_LLIIEE:=List ((List ((List (Int×Int)))))
def d_LLIIEE (x:L_LIIE):List D:=[encF 1 d_LIIE x]
theorem dq_LLIIEE (x:L_LIIE):d_LLIIEE x=[encF 1 d_LIIE x]:=by rw [d_LLIIEE]
def g_LLIIEE:List D→L_LIIE
 | [a]=>decF g_LIIE a
 | _=>default
theorem gd_LLIIEE (x:L_LIIE):g_LLIIEE (d_LLIIEE x)=x:=by simp only [g_LLIIEE,d_LLIIEE,dec_LIIE]
theorem dec_LLIIEE (l:List (L_LIIE)):decF g_LLIIEE (encF 1 d_LLIIEE l)=l:=decF_encF _ _ _ _ gd_LLIIEE
theorem ed_LLIIEE {l:List (L_LIIE)} {d:D} (h:CanD 1 d_LIIE l d):EqvD d (encF 1 d_LLIIEE l)=True:=eqvD_can (fun _=>rfl) h
theorem cde_LLIIEE (l:List (L_LIIE)):CanD 1 d_LIIE l (encF 1 d_LLIIEE l)=True:=canD_enc (fun _=>rfl) l
attribute [go_sem] ed_LLIIEE cde_LLIIEE
attribute [go_sem] dq_LLIIEE g_LLIIEE dec_LLIIEE
abbrev L_S:=List (ByteArray)
def d_S (x:ByteArray):List D:=[.str x]
theorem dq_S (x:ByteArray):d_S x=[.str x]:=by rw [d_S]
def g_S:List D→ByteArray
 | [.str a]=>a
 | _=>default
theorem gd_S (x:ByteArray):g_S (d_S x)=x:=by rfl
theorem dec_S (l:List (ByteArray)):decF g_S (encF 1 d_S l)=l:=decF_encF _ _ _ _ gd_S
theorem fl_S (l:List (ByteArray)):(encF 1 d_S l).flat=True:=flat_enc (fun _=>rfl)
attribute [go_sem] dq_S g_S dec_S fl_S
abbrev L_LSE:=List ((List (ByteArray)))
def d_LSE (x:L_S):List D:=[encF 1 d_S x]
theorem dq_LSE (x:L_S):d_LSE x=[encF 1 d_S x]:=by rw [d_LSE]
def g_LSE:List D→L_S
 | [a]=>decF g_S a
 | _=>default
theorem gd_LSE (x:L_S):g_LSE (d_LSE x)=x:=by simp only [g_LSE,d_LSE,dec_S]
theorem dec_LSE (l:List (L_S)):decF g_LSE (encF 1 d_LSE l)=l:=decF_encF _ _ _ _ gd_LSE
theorem ed_LSE {l:List (L_S)} {d:D} (h:CanD 1 d_S l d):EqvD d (encF 1 d_LSE l)=True:=eqvD_can (fun _=>rfl) h
theorem cde_LSE (l:List (L_S)):CanD 1 d_S l (encF 1 d_LSE l)=True:=canD_enc (fun _=>rfl) l
attribute [go_sem] ed_LSE cde_LSE
attribute [go_sem] dq_LSE g_LSE dec_LSE
abbrev L_E:=List (Bool)
def d_E (x:Bool):List D:=[.err x]
theorem dq_E (x:Bool):d_E x=[.err x]:=by rw [d_E]
def g_E:List D→Bool
 | [.err a]=>a
 | _=>default
theorem gd_E (x:Bool):g_E (d_E x)=x:=by rfl
theorem dec_E (l:List (Bool)):decF g_E (encF 1 d_E l)=l:=decF_encF _ _ _ _ gd_E
theorem fl_E (l:List (Bool)):(encF 1 d_E l).flat=True:=flat_enc (fun _=>rfl)
attribute [go_sem] dq_E g_E dec_E fl_E
abbrev L_F:=List (Nat)
def d_F (x:Nat):List D:=[.fn x]
theorem dq_F (x:Nat):d_F x=[.fn x]:=by rw [d_F]
def g_F:List D→Nat
 | [.fn a]=>a
 | _=>default
theorem gd_F (x:Nat):g_F (d_F x)=x:=by rfl
theorem dec_F (l:List (Nat)):decF g_F (encF 1 d_F l)=l:=decF_encF _ _ _ _ gd_F
attribute [go_sem] dq_F g_F dec_F
abbrev L_LIEI:=List ((List (Int))×Int)
def d_LIEI (x:L_I×Int):List D:=[encF 1 d_I x.1,.int .i64 x.2]
theorem dq_LIEI (x:L_I×Int):d_LIEI x=[encF 1 d_I x.1,.int .i64 x.2]:=by rw [d_LIEI]
def g_LIEI:List D→L_I×Int
 | [a,.int _ b]=>(decF g_I a,b)
 | _=>default
theorem gd_LIEI (x:L_I×Int):g_LIEI (d_LIEI x)=x:=by simp only [g_LIEI,d_LIEI,dec_I]
theorem dec_LIEI (l:List (L_I×Int)):decF g_LIEI (encF 2 d_LIEI l)=l:=decF_encF _ _ _ _ gd_LIEI
attribute [go_sem] dq_LIEI g_LIEI dec_LIEI
abbrev L_LLIEIE:=List ((List ((List (Int))×Int)))
def d_LLIEIE (x:L_LIEI):List D:=[encF 2 d_LIEI x]
theorem dq_LLIEIE (x:L_LIEI):d_LLIEIE x=[encF 2 d_LIEI x]:=by rw [d_LLIEIE]
def g_LLIEIE:List D→L_LIEI
 | [a]=>decF g_LIEI a
 | _=>default
theorem gd_LLIEIE (x:L_LIEI):g_LLIEIE (d_LLIEIE x)=x:=by simp only [g_LLIEIE,d_LLIEIE,dec_LIEI]
theorem dec_LLIEIE (l:List (L_LIEI)):decF g_LLIEIE (encF 1 d_LLIEIE l)=l:=decF_encF _ _ _ _ gd_LLIEIE
theorem ed_LLIEIE {l:List (L_LIEI)} {d:D} (h:CanD 2 d_LIEI l d):EqvD d (encF 1 d_LLIEIE l)=True:=eqvD_can (fun _=>rfl) h
theorem cde_LLIEIE (l:List (L_LIEI)):CanD 2 d_LIEI l (encF 1 d_LLIEIE l)=True:=canD_enc (fun _=>rfl) l
attribute [go_sem] ed_LLIEIE cde_LLIEIE
attribute [go_sem] dq_LLIEIE g_LLIEIE dec_LLIEIE
abbrev L_LLIEE:=List ((List ((List (Int)))))
def d_LLIEE (x:L_LIE):List D:=[encF 1 d_LIE x]
theorem dq_LLIEE (x:L_LIE):d_LLIEE x=[encF 1 d_LIE x]:=by rw [d_LLIEE]
def g_LLIEE:List D→L_LIE
 | [a]=>decF g_LIE a
 | _=>default
theorem gd_LLIEE (x:L_LIE):g_LLIEE (d_LLIEE x)=x:=by simp only [g_LLIEE,d_LLIEE,dec_LIE]
theorem dec_LLIEE (l:List (L_LIE)):decF g_LLIEE (encF 1 d_LLIEE l)=l:=decF_encF _ _ _ _ gd_LLIEE
theorem ed_LLIEE {l:List (L_LIE)} {d:D} (h:CanD 1 d_LIE l d):EqvD d (encF 1 d_LLIEE l)=True:=eqvD_can (fun _=>rfl) h
theorem cde_LLIEE (l:List (L_LIE)):CanD 1 d_LIE l (encF 1 d_LLIEE l)=True:=canD_enc (fun _=>rfl) l
attribute [go_sem] ed_LLIEE cde_LLIEE
attribute [go_sem] dq_LLIEE g_LLIEE dec_LLIEE
abbrev L_ILIIIE:=List (Int×(List (Int×Int×Int)))
def d_ILIIIE (x:Int×L_III):List D:=[.int .i64 x.1,encF 3 d_III x.2]
theorem dq_ILIIIE (x:Int×L_III):d_ILIIIE x=[.int .i64 x.1,encF 3 d_III x.2]:=by rw [d_ILIIIE]
def g_ILIIIE:List D→Int×L_III
 | [.int _ a,b]=>(a,decF g_III b)
 | _=>default
theorem gd_ILIIIE (x:Int×L_III):g_ILIIIE (d_ILIIIE x)=x:=by simp only [g_ILIIIE,d_ILIIIE,dec_III]
theorem dec_ILIIIE (l:List (Int×L_III)):decF g_ILIIIE (encF 2 d_ILIIIE l)=l:=decF_encF _ _ _ _ gd_ILIIIE
attribute [go_sem] dq_ILIIIE g_ILIIIE dec_ILIIIE
abbrev L_LILIIIEE:=List ((List (Int×(List (Int×Int×Int)))))
def d_LILIIIEE (x:L_ILIIIE):List D:=[encF 2 d_ILIIIE x]
theorem dq_LILIIIEE (x:L_ILIIIE):d_LILIIIEE x=[encF 2 d_ILIIIE x]:=by rw [d_LILIIIEE]
def g_LILIIIEE:List D→L_ILIIIE
 | [a]=>decF g_ILIIIE a
 | _=>default
theorem gd_LILIIIEE (x:L_ILIIIE):g_LILIIIEE (d_LILIIIEE x)=x:=by simp only [g_LILIIIEE,d_LILIIIEE,dec_ILIIIE]
theorem dec_LILIIIEE (l:List (L_ILIIIE)):decF g_LILIIIEE (encF 1 d_LILIIIEE l)=l:=decF_encF _ _ _ _ gd_LILIIIEE
theorem ed_LILIIIEE {l:List (L_ILIIIE)} {d:D} (h:CanD 2 d_ILIIIE l d):EqvD d (encF 1 d_LILIIIEE l)=True:=eqvD_can (fun _=>rfl) h
theorem cde_LILIIIEE (l:List (L_ILIIIE)):CanD 2 d_ILIIIE l (encF 1 d_LILIIIEE l)=True:=canD_enc (fun _=>rfl) l
attribute [go_sem] ed_LILIIIEE cde_LILIIIEE
attribute [go_sem] dq_LILIIIEE g_LILIIIEE dec_LILIIIEE
theorem w0:(IntKind.i64.wrap (0+1))=1:=by first | rfl | decide | simp
theorem w1:(decide ((0:Int)>0))=false:=by first | rfl | decide | simp
theorem w2:(IntKind.i64.wrap (0+2))=2:=by first | rfl | decide | simp
theorem w3:(IntKind.i64.wrap (1+1))=2:=by first | rfl | decide | simp
theorem w4:(IntKind.i64.wrap (1+2))=3:=by first | rfl | decide | simp
theorem w5:((((0:Int)) == 0))=true:=by first | rfl | decide | simp
theorem w6:(decide ((0:Int)<3))=true:=by first | rfl | decide | simp
theorem w7:(((2:Int)=0∨(0:Int)<2))=True:=by first | rfl | decide | simp
theorem w8:(IntKind.i64.wrap (2+1))=3:=by first | rfl | decide | simp
theorem w9:(((1:Int)=0∨(0:Int)<1))=True:=by first | rfl | decide | simp
theorem w10:(((#[32]:Array UInt8).size:Int))=1:=by first | rfl | decide | simp
theorem w11:((((1:Int)) == 0))=false:=by first | rfl | decide | simp
theorem w12:(decide ((0:Int)<1))=true:=by first | rfl | decide | simp
attribute [go_sem] w0 w1 w2 w3 w4 w5 w6 w7 w8 w9 w10 w11 w12
def u0 {γ:Type} (f:γ):Unit→γ:=fun _=>f
def u1 {a γ:Type} (f:a→γ):a→γ:=f
def u2 {a0 a1 γ:Type} (f:a0→a1→γ):a0×a1→γ:=fun ⟨x0,x1⟩=>f x0 x1
def u3 {a0 a1 a2 γ:Type} (f:a0→a1→a2→γ):a0×a1×a2→γ:=fun ⟨x0,x1,x2⟩=>f x0 x1 x2
def u4 {a0 a1 a2 a3 γ:Type} (f:a0→a1→a2→a3→γ):a0×a1×a2×a3→γ:=fun ⟨x0,x1,x2,x3⟩=>f x0 x1 x2 x3
def u5 {a0 a1 a2 a3 a4 γ:Type} (f:a0→a1→a2→a3→a4→γ):a0×a1×a2×a3×a4→γ:=fun ⟨x0,x1,x2,x3,x4⟩=>f x0 x1 x2 x3 x4
def u6 {a0 a1 a2 a3 a4 a5 γ:Type} (f:a0→a1→a2→a3→a4→a5→γ):a0×a1×a2×a3×a4×a5→γ:=fun ⟨x0,x1,x2,x3,x4,x5⟩=>f x0 x1 x2 x3 x4 x5
def u7 {a0 a1 a2 a3 a4 a5 a6 γ:Type} (f:a0→a1→a2→a3→a4→a5→a6→γ):a0×a1×a2×a3×a4×a5×a6→γ:=fun ⟨x0,x1,x2,x3,x4,x5,x6⟩=>f x0 x1 x2 x3 x4 x5 x6
def u8 {a0 a1 a2 a3 a4 a5 a6 a7 γ:Type} (f:a0→a1→a2→a3→a4→a5→a6→a7→γ):a0×a1×a2×a3×a4×a5×a6×a7→γ:=fun ⟨x0,x1,x2,x3,x4,x5,x6,x7⟩=>f x0 x1 x2 x3 x4 x5 x6 x7
def u9 {a0 a1 a2 a3 a4 a5 a6 a7 a8 γ:Type} (f:a0→a1→a2→a3→a4→a5→a6→a7→a8→γ):a0×a1×a2×a3×a4×a5×a6×a7×a8→γ:=fun ⟨x0,x1,x2,x3,x4,x5,x6,x7,x8⟩=>f x0 x1 x2 x3 x4 x5 x6 x7 x8
def u11 {a0 a1 a2 a3 a4 a5 a6 a7 a8 a9 a10 γ:Type} (f:a0→a1→a2→a3→a4→a5→a6→a7→a8→a9→a10→γ):a0×a1×a2×a3×a4×a5×a6×a7×a8×a9×a10→γ:=fun ⟨x0,x1,x2,x3,x4,x5,x6,x7,x8,x9,x10⟩=>f x0 x1 x2 x3 x4 x5 x6 x7 x8 x9 x10
def u14 {a0 a1 a2 a3 a4 a5 a6 a7 a8 a9 a10 a11 a12 a13 γ:Type} (f:a0→a1→a2→a3→a4→a5→a6→a7→a8→a9→a10→a11→a12→a13→γ):a0×a1×a2×a3×a4×a5×a6×a7×a8×a9×a10×a11×a12×a13→γ:=fun ⟨x0,x1,x2,x3,x4,x5,x6,x7,x8,x9,x10,x11,x12,x13⟩=>f x0 x1 x2 x3 x4 x5 x6 x7 x8 x9 x10 x11 x12 x13
attribute [go_sem] u0 u1 u2 u3 u4 u5 u6 u7 u8 u9 u11 u14
section
variable {β:Type} [Inhabited β] (u:β→List RV) (al:Bool)
abbrev qF0 (β:Type):=β
def qw0:List Arg:=[]
def qd0 (a:List Arg):=()
def qp0 {β:Type} (f:qF0 β):=f
abbrev qt0:List Arg:=[]
def qT0 (r:qF0 (Option β)):=mkT (u0 qw0) qd0 (u0 r) u al
theorem qP0 (r:qF0 (Option β)):PT (qT0 u al r).sp u (qt0) (qp0 qw0) (qp0 r):=⟨rfl,rfl⟩
theorem qa0 (r:qF0 (Option β)):(qT0 u al r).sp.alias=al:=rfl
attribute [go_sem] qw0 qp0 qt0 qP0 qa0
abbrev qF1 (β:Type):=Int→Int→Int→β
def qw1 (a0 a1 a2:Int):List Arg:=[.c (.int .i64 a0),.c (.int .i64 a1),.c (.int .i64 a2)]
def qd1 (a:List Arg):=(dInt (aCell a 0 0),dInt (aCell a 1 0),dInt (aCell a 2 0))
def qp1 {β:Type} (f:qF1 β) (c0 c1 c2:D):=f (dInt c0) (dInt c1) (dInt c2)
abbrev qt1 (c0 c1 c2:D):List Arg:=[.c c0,.c c1,.c c2]
def qT1 (r:qF1 (Option β)):=mkT (u3 qw1) qd1 (u3 r) u al
theorem qP1 (r:qF1 (Option β)) (c0 c1 c2:D):PT (qT1 u al r).sp u (qt1 c0 c1 c2) (qp1 qw1 c0 c1 c2) (qp1 r c0 c1 c2):=⟨rfl,rfl⟩
theorem qa1 (r:qF1 (Option β)):(qT1 u al r).sp.alias=al:=rfl
attribute [go_sem] qw1 qp1 qt1 qP1 qa1
abbrev qF2 (β:Type):=Bool→Int→β
def qw2 (a0:Bool) (a1:Int):List Arg:=[.c (.bool a0),.c (.int .i64 a1)]
def qd2 (a:List Arg):=(dBool (aCell a 0 0),dInt (aCell a 1 0))
def qp2 {β:Type} (f:qF2 β) (c0 c1:D):=f (dBool c0) (dInt c1)
abbrev qt2 (c0 c1:D):List Arg:=[.c c0,.c c1]
def qT2 (r:qF2 (Option β)):=mkT (u2 qw2) qd2 (u2 r) u al
theorem qP2 (r:qF2 (Option β)) (c0 c1:D):PT (qT2 u al r).sp u (qt2 c0 c1) (qp2 qw2 c0 c1) (qp2 r c0 c1):=⟨rfl,rfl⟩
theorem qa2 (r:qF2 (Option β)):(qT2 u al r).sp.alias=al:=rfl
attribute [go_sem] qw2 qp2 qt2 qP2 qa2
abbrev qF3 (β:Type):=L_I→β
def qw3 (a0:L_I):List Arg:=[.c (encF 1 d_I a0)]
def qd3 (a:List Arg):=decF g_I (aCell a 0 0)
def qp3 {β:Type} (f:qF3 β) (c0:D):=f (decF g_I c0)
abbrev qt3 (c0:D):List Arg:=[.c c0]
def qT3 (r:qF3 (Option β)):=mkT (u1 qw3) qd3 (u1 r) u al
theorem qP3 (r:qF3 (Option β)) (c0:D):PT (qT3 u al r).sp u (qt3 c0) (qp3 qw3 c0) (qp3 r c0):=⟨rfl,rfl⟩
theorem qa3 (r:qF3 (Option β)):(qT3 u al r).sp.alias=al:=rfl
attribute [go_sem] qw3 qp3 qt3 qP3 qa3
abbrev qF4 (β:Type):=Int→β
def qw4 (a0:Int):List Arg:=[.c (.int .i64 a0)]
def qd4 (a:List Arg):=dInt (aCell a 0 0)
def qp4 {β:Type} (f:qF4 β) (c0:D):=f (dInt c0)
abbrev qt4 (c0:D):List Arg:=[.c c0]
def qT4 (r:qF4 (Option β)):=mkT (u1 qw4) qd4 (u1 r) u al
theorem qP4 (r:qF4 (Option β)) (c0:D):PT (qT4 u al r).sp u (qt4 c0) (qp4 qw4 c0) (qp4 r c0):=⟨rfl,rfl⟩
theorem qa4 (r:qF4 (Option β)):(qT4 u al r).sp.alias=al:=rfl
attribute [go_sem] qw4 qp4 qt4 qP4 qa4
abbrev qF5 (β:Type):=Int→L_III→β
def qw5 (a0:Int) (a1:L_III):List Arg:=[.agg [.int .i64 a0,encF 3 d_III a1]]
def qd5 (a:List Arg):=(dInt (aCell a 0 0),decF g_III (aCell a 0 1))
def qp5 {β:Type} (f:qF5 β) (c0 c1:D):=f (dInt c0) (decF g_III c1)
abbrev qt5 (c0 c1:D):List Arg:=[.agg [c0,c1]]
def qT5 (r:qF5 (Option β)):=mkT (u2 qw5) qd5 (u2 r) u al
theorem qP5 (r:qF5 (Option β)) (c0 c1:D):PT (qT5 u al r).sp u (qt5 c0 c1) (qp5 qw5 c0 c1) (qp5 r c0 c1):=⟨rfl,rfl⟩
theorem qa5 (r:qF5 (Option β)):(qT5 u al r).sp.alias=al:=rfl
attribute [go_sem] qw5 qp5 qt5 qP5 qa5
abbrev qF6 (β:Type):=Int→L_III→Int→L_B→β
def qw6 (a0:Int) (a1:L_III) (a2:Int) (a3:L_B):List Arg:=[.agg [.int .i64 a0,encF 3 d_III a1],.agg [.int .i64 a2,encF 1 d_B a3]]
def qd6 (a:List Arg):=(dInt (aCell a 0 0),decF g_III (aCell a 0 1),dInt (aCell a 1 0),decF g_B (aCell a 1 1))
def qp6 {β:Type} (f:qF6 β) (c0 c1 c2 c3:D):=f (dInt c0) (decF g_III c1) (dInt c2) (decF g_B c3)
abbrev qt6 (c0 c1 c2 c3:D):List Arg:=[.agg [c0,c1],.agg [c2,c3]]
def qT6 (r:qF6 (Option β)):=mkT (u4 qw6) qd6 (u4 r) u al
theorem qP6 (r:qF6 (Option β)) (c0 c1 c2 c3:D):PT (qT6 u al r).sp u (qt6 c0 c1 c2 c3) (qp6 qw6 c0 c1 c2 c3) (qp6 r c0 c1 c2 c3):=⟨rfl,rfl⟩
theorem qa6 (r:qF6 (Option β)):(qT6 u al r).sp.alias=al:=rfl
attribute [go_sem] qw6 qp6 qt6 qP6 qa6
abbrev qF8 (β:Type):=Int→Int→Int→Int→β
def qw8 (a0 a1 a2 a3:Int):List Arg:=[.agg [.int .i64 a0,.int .i64 a1],.agg [.int .i64 a2,.int .i64 a3]]
def qd8 (a:List Arg):=(dInt (aCell a 0 0),dInt (aCell a 0 1),dInt (aCell a 1 0),dInt (aCell a 1 1))
def qp8 {β:Type} (f:qF8 β) (c0 c1 c2 c3:D):=f (dInt c0) (dInt c1) (dInt c2) (dInt c3)
abbrev qt8 (c0 c1 c2 c3:D):List Arg:=[.agg [c0,c1],.agg [c2,c3]]
def qT8 (r:qF8 (Option β)):=mkT (u4 qw8) qd8 (u4 r) u al
theorem qP8 (r:qF8 (Option β)) (c0 c1 c2 c3:D):PT (qT8 u al r).sp u (qt8 c0 c1 c2 c3) (qp8 qw8 c0 c1 c2 c3) (qp8 r c0 c1 c2 c3):=⟨rfl,rfl⟩
theorem qa8 (r:qF8 (Option β)):(qT8 u al r).sp.alias=al:=rfl
attribute [go_sem] qw8 qp8 qt8 qP8 qa8
abbrev qF10 (β:Type):=L_I→L_I→β
def qw10 (a0 a1:L_I):List Arg:=[.agg [encF 1 d_I a0,encF 1 d_I a1]]
def qd10 (a:List Arg):=(decF g_I (aCell a 0 0),decF g_I (aCell a 0 1))
def qp10 {β:Type} (f:qF10 β) (c0 c1:D):=f (decF g_I c0) (decF g_I c1)
abbrev qt10 (c0 c1:D):List Arg:=[.agg [c0,c1]]
def qT10 (r:qF10 (Option β)):=mkT (u2 qw10) qd10 (u2 r) u al
theorem qP10 (r:qF10 (Option β)) (c0 c1:D):PT (qT10 u al r).sp u (qt10 c0 c1) (qp10 qw10 c0 c1) (qp10 r c0 c1):=⟨rfl,rfl⟩
theorem qa10 (r:qF10 (Option β)):(qT10 u al r).sp.alias=al:=rfl
attribute [go_sem] qw10 qp10 qt10 qP10 qa10
abbrev qF15 (β:Type):=L_II→β
def qw15 (a0:L_II):List Arg:=[.c (encF 2 d_II a0)]
def qd15 (a:List Arg):=decF g_II (aCell a 0 0)
def qp15 {β:Type} (f:qF15 β) (c0:D):=f (decF g_II c0)
abbrev qt15 (c0:D):List Arg:=[.c c0]
def qT15 (r:qF15 (Option β)):=mkT (u1 qw15) qd15 (u1 r) u al
theorem qP15 (r:qF15 (Option β)) (c0:D):PT (qT15 u al r).sp u (qt15 c0) (qp15 qw15 c0) (qp15 r c0):=⟨rfl,rfl⟩
theorem qa15 (r:qF15 (Option β)):(qT15 u al r).sp.alias=al:=rfl
attribute [go_sem] qw15 qp15 qt15 qP15 qa15
abbrev qF17 (β:Type):=Int→Int→β
def qw17 (a0 a1:Int):List Arg:=[.c (.int .i64 a0),.c (.int .i64 a1)]
def qd17 (a:List Arg):=(dInt (aCell a 0 0),dInt (aCell a 1 0))
def qp17 {β:Type} (f:qF17 β) (c0 c1:D):=f (dInt c0) (dInt c1)
abbrev qt17 (c0 c1:D):List Arg:=[.c c0,.c c1]
def qT17 (r:qF17 (Option β)):=mkT (u2 qw17) qd17 (u2 r) u al
theorem qP17 (r:qF17 (Option β)) (c0 c1:D):PT (qT17 u al r).sp u (qt17 c0 c1) (qp17 qw17 c0 c1) (qp17 r c0 c1):=⟨rfl,rfl⟩
theorem qa17 (r:qF17 (Option β)):(qT17 u al r).sp.alias=al:=rfl
attribute [go_sem] qw17 qp17 qt17 qP17 qa17
abbrev qF20 (β:Type):=L_II→L_II→β
def qw20 (a0 a1:L_II):List Arg:=[.c (encF 2 d_II a0),.c (encF 2 d_II a1)]
def qd20 (a:List Arg):=(decF g_II (aCell a 0 0),decF g_II (aCell a 1 0))
def qp20 {β:Type} (f:qF20 β) (c0 c1:D):=f (decF g_II c0) (decF g_II c1)
abbrev qt20 (c0 c1:D):List Arg:=[.c c0,.c c1]
def qT20 (r:qF20 (Option β)):=mkT (u2 qw20) qd20 (u2 r) u al
theorem qP20 (r:qF20 (Option β)) (c0 c1:D):PT (qT20 u al r).sp u (qt20 c0 c1) (qp20 qw20 c0 c1) (qp20 r c0 c1):=⟨rfl,rfl⟩
theorem qa20 (r:qF20 (Option β)):(qT20 u al r).sp.alias=al:=rfl
attribute [go_sem] qw20 qp20 qt20 qP20 qa20
abbrev qF21 (β:Type):=Int→Int→L_II→L_LIIE→β
def qw21 (a0 a1:Int) (a2:L_II) (a3:L_LIIE):List Arg:=[.agg [.int .i64 a0,.int .i64 a1,encF 2 d_II a2,encF 1 d_LIIE a3]]
def qd21 (a:List Arg):=(dInt (aCell a 0 0),dInt (aCell a 0 1),decF g_II (aCell a 0 2),decF g_LIIE (aCell a 0 3))
def qp21 {β:Type} (f:qF21 β) (c0 c1 c2 c3:D):=f (dInt c0) (dInt c1) (decF g_II c2) (decF g_LIIE c3)
abbrev qt21 (c0 c1 c2 c3:D):List Arg:=[.agg [c0,c1,c2,c3]]
def qT21 (r:qF21 (Option β)):=mkT (u4 qw21) qd21 (u4 r) u al
theorem qP21 (r:qF21 (Option β)) (c0 c1 c2 c3:D):PT (qT21 u al r).sp u (qt21 c0 c1 c2 c3) (qp21 qw21 c0 c1 c2 c3) (qp21 r c0 c1 c2 c3):=⟨rfl,rfl⟩
theorem qa21 (r:qF21 (Option β)):(qT21 u al r).sp.alias=al:=rfl
attribute [go_sem] qw21 qp21 qt21 qP21 qa21
abbrev qF22 (β:Type):=Int→Int→L_II→L_LIIE→L_II→L_LIIE→Int→β
def qw22 (a0 a1:Int) (a2:L_II) (a3:L_LIIE) (a4:L_II) (a5:L_LIIE) (a6:Int):List Arg:=[.agg [.int .i64 a0,.int .i64 a1,encF 2 d_II a2,encF 1 d_LIIE a3,encF 2 d_II a4,encF 1 d_LIIE a5],.c (.int .i64 a6)]
def qd22 (a:List Arg):=(dInt (aCell a 0 0),dInt (aCell a 0 1),decF g_II (aCell a 0 2),decF g_LIIE (aCell a 0 3),decF g_II (aCell a 0 4),decF g_LIIE (aCell a 0 5),dInt (aCell a 1 0))
def qp22 {β:Type} (f:qF22 β) (c0 c1 c2 c3 c4 c5 c6:D):=f (dInt c0) (dInt c1) (decF g_II c2) (decF g_LIIE c3) (decF g_II c4) (decF g_LIIE c5) (dInt c6)
abbrev qt22 (c0 c1 c2 c3 c4 c5 c6:D):List Arg:=[.agg [c0,c1,c2,c3,c4,c5],.c c6]
def qT22 (r:qF22 (Option β)):=mkT (u7 qw22) qd22 (u7 r) u al
theorem qP22 (r:qF22 (Option β)) (c0 c1 c2 c3 c4 c5 c6:D):PT (qT22 u al r).sp u (qt22 c0 c1 c2 c3 c4 c5 c6) (qp22 qw22 c0 c1 c2 c3 c4 c5 c6) (qp22 r c0 c1 c2 c3 c4 c5 c6):=⟨rfl,rfl⟩
theorem qa22 (r:qF22 (Option β)):(qT22 u al r).sp.alias=al:=rfl
attribute [go_sem] qw22 qp22 qt22 qP22 qa22
abbrev qF23 (β:Type):=Int→Int→Int→L_II→L_LIIE→L_II→L_LIIE→β
def qw23 (a0 a1 a2:Int) (a3:L_II) (a4:L_LIIE) (a5:L_II) (a6:L_LIIE):List Arg:=[.c (.int .i64 a0),.ptr [.int .i64 a1,.int .i64 a2,encF 2 d_II a3,encF 1 d_LIIE a4,encF 2 d_II a5,encF 1 d_LIIE a6]]
def qd23 (a:List Arg):=(dInt (aCell a 0 0),dInt (aCell a 1 0),dInt (aCell a 1 1),decF g_II (aCell a 1 2),decF g_LIIE (aCell a 1 3),decF g_II (aCell a 1 4),decF g_LIIE (aCell a 1 5))
def qp23 {β:Type} (f:qF23 β) (c0 c1 c2 c3 c4 c5 c6:D):=f (dInt c0) (dInt c1) (dInt c2) (decF g_II c3) (decF g_LIIE c4) (decF g_II c5) (decF g_LIIE c6)
abbrev qt23 (c0 c1 c2 c3 c4 c5 c6:D):List Arg:=[.c c0,.ptr [c1,c2,c3,c4,c5,c6]]
def qT23 (r:qF23 (Option β)):=mkT (u7 qw23) qd23 (u7 r) u al
theorem qP23 (r:qF23 (Option β)) (c0 c1 c2 c3 c4 c5 c6:D):PT (qT23 u al r).sp u (qt23 c0 c1 c2 c3 c4 c5 c6) (qp23 qw23 c0 c1 c2 c3 c4 c5 c6) (qp23 r c0 c1 c2 c3 c4 c5 c6):=⟨rfl,rfl⟩
theorem qa23 (r:qF23 (Option β)):(qT23 u al r).sp.alias=al:=rfl
attribute [go_sem] qw23 qp23 qt23 qP23 qa23
abbrev qF26 (β:Type):=Int→Int→L_II→L_LIIE→L_I→β
def qw26 (a0 a1:Int) (a2:L_II) (a3:L_LIIE) (a4:L_I):List Arg:=[.agg [.int .i64 a0,.int .i64 a1,encF 2 d_II a2,encF 1 d_LIIE a3],.c (encF 1 d_I a4)]
def qd26 (a:List Arg):=(dInt (aCell a 0 0),dInt (aCell a 0 1),decF g_II (aCell a 0 2),decF g_LIIE (aCell a 0 3),decF g_I (aCell a 1 0))
def qp26 {β:Type} (f:qF26 β) (c0 c1 c2 c3 c4:D):=f (dInt c0) (dInt c1) (decF g_II c2) (decF g_LIIE c3) (decF g_I c4)
abbrev qt26 (c0 c1 c2 c3 c4:D):List Arg:=[.agg [c0,c1,c2,c3],.c c4]
def qT26 (r:qF26 (Option β)):=mkT (u5 qw26) qd26 (u5 r) u al
theorem qP26 (r:qF26 (Option β)) (c0 c1 c2 c3 c4:D):PT (qT26 u al r).sp u (qt26 c0 c1 c2 c3 c4) (qp26 qw26 c0 c1 c2 c3 c4) (qp26 r c0 c1 c2 c3 c4):=⟨rfl,rfl⟩
theorem qa26 (r:qF26 (Option β)):(qT26 u al r).sp.alias=al:=rfl
attribute [go_sem] qw26 qp26 qt26 qP26 qa26
abbrev qF38 (β:Type):=Int→L_III→L_II→β
def qw38 (a0:Int) (a1:L_III) (a2:L_II):List Arg:=[.agg [.int .i64 a0,encF 3 d_III a1,encF 2 d_II a2]]
def qd38 (a:List Arg):=(dInt (aCell a 0 0),decF g_III (aCell a 0 1),decF g_II (aCell a 0 2))
def qp38 {β:Type} (f:qF38 β) (c0 c1 c2:D):=f (dInt c0) (decF g_III c1) (decF g_II c2)
abbrev qt38 (c0 c1 c2:D):List Arg:=[.agg [c0,c1,c2]]
def qT38 (r:qF38 (Option β)):=mkT (u3 qw38) qd38 (u3 r) u al
theorem qP38 (r:qF38 (Option β)) (c0 c1 c2:D):PT (qT38 u al r).sp u (qt38 c0 c1 c2) (qp38 qw38 c0 c1 c2) (qp38 r c0 c1 c2):=⟨rfl,rfl⟩
theorem qa38 (r:qF38 (Option β)):(qT38 u al r).sp.alias=al:=rfl
attribute [go_sem] qw38 qp38 qt38 qP38 qa38
abbrev qF40 (β:Type):=Int→Int→L_II→L_LIIE→Int→β
def qw40 (a0 a1:Int) (a2:L_II) (a3:L_LIIE) (a4:Int):List Arg:=[.agg [.int .i64 a0,.int .i64 a1,encF 2 d_II a2,encF 1 d_LIIE a3],.c (.int .i64 a4)]
def qd40 (a:List Arg):=(dInt (aCell a 0 0),dInt (aCell a 0 1),decF g_II (aCell a 0 2),decF g_LIIE (aCell a 0 3),dInt (aCell a 1 0))
def qp40 {β:Type} (f:qF40 β) (c0 c1 c2 c3 c4:D):=f (dInt c0) (dInt c1) (decF g_II c2) (decF g_LIIE c3) (dInt c4)
abbrev qt40 (c0 c1 c2 c3 c4:D):List Arg:=[.agg [c0,c1,c2,c3],.c c4]
def qT40 (r:qF40 (Option β)):=mkT (u5 qw40) qd40 (u5 r) u al
theorem qP40 (r:qF40 (Option β)) (c0 c1 c2 c3 c4:D):PT (qT40 u al r).sp u (qt40 c0 c1 c2 c3 c4) (qp40 qw40 c0 c1 c2 c3 c4) (qp40 r c0 c1 c2 c3 c4):=⟨rfl,rfl⟩
theorem qa40 (r:qF40 (Option β)):(qT40 u al r).sp.alias=al:=rfl
attribute [go_sem] qw40 qp40 qt40 qP40 qa40
abbrev qF43 (β:Type):=ByteArray→β
def qw43 (a0:ByteArray):List Arg:=[.c (.str a0)]
def qd43 (a:List Arg):=dStr (aCell a 0 0)
def qp43 {β:Type} (f:qF43 β) (c0:D):=f (dStr c0)
abbrev qt43 (c0:D):List Arg:=[.c c0]
def qT43 (r:qF43 (Option β)):=mkT (u1 qw43) qd43 (u1 r) u al
theorem qP43 (r:qF43 (Option β)) (c0:D):PT (qT43 u al r).sp u (qt43 c0) (qp43 qw43 c0) (qp43 r c0):=⟨rfl,rfl⟩
theorem qa43 (r:qF43 (Option β)):(qT43 u al r).sp.alias=al:=rfl
attribute [go_sem] qw43 qp43 qt43 qP43 qa43
abbrev qF58 (β:Type):=L_II→Int→Int→β
def qw58 (a0:L_II) (a1 a2:Int):List Arg:=[.agg [encF 2 d_II a0,.int .i64 a1,.int .i64 a2]]
def qd58 (a:List Arg):=(decF g_II (aCell a 0 0),dInt (aCell a 0 1),dInt (aCell a 0 2))
def qp58 {β:Type} (f:qF58 β) (c0 c1 c2:D):=f (decF g_II c0) (dInt c1) (dInt c2)
abbrev qt58 (c0 c1 c2:D):List Arg:=[.agg [c0,c1,c2]]
def qT58 (r:qF58 (Option β)):=mkT (u3 qw58) qd58 (u3 r) u al
theorem qP58 (r:qF58 (Option β)) (c0 c1 c2:D):PT (qT58 u al r).sp u (qt58 c0 c1 c2) (qp58 qw58 c0 c1 c2) (qp58 r c0 c1 c2):=⟨rfl,rfl⟩
theorem qa58 (r:qF58 (Option β)):(qT58 u al r).sp.alias=al:=rfl
attribute [go_sem] qw58 qp58 qt58 qP58 qa58
abbrev qF64 (β:Type):=Int→Int→L_II→L_LIIE→Int→L_III→L_II→L_I→Int→Int→Int→Int→Int→Int→β
def qw64 (a0 a1:Int) (a2:L_II) (a3:L_LIIE) (a4:Int) (a5:L_III) (a6:L_II) (a7:L_I) (a8 a9 a10 a11 a12 a13:Int):List Arg:=[.agg [.int .i64 a0,.int .i64 a1,encF 2 d_II a2,encF 1 d_LIIE a3],.agg [.int .i64 a4,encF 3 d_III a5,encF 2 d_II a6],.agg [encF 1 d_I a7,.int .i64 a8,.int .i64 a9,.int .i64 a10,.int .i64 a11,.int .i64 a12,.int .i64 a13]]
def qd64 (a:List Arg):=(dInt (aCell a 0 0),dInt (aCell a 0 1),decF g_II (aCell a 0 2),decF g_LIIE (aCell a 0 3),dInt (aCell a 1 0),decF g_III (aCell a 1 1),decF g_II (aCell a 1 2),decF g_I (aCell a 2 0),dInt (aCell a 2 1),dInt (aCell a 2 2),dInt (aCell a 2 3),dInt (aCell a 2 4),dInt (aCell a 2 5),dInt (aCell a 2 6))
def qp64 {β:Type} (f:qF64 β) (c0 c1 c2 c3 c4 c5 c6 c7 c8 c9 c10 c11 c12 c13:D):=f (dInt c0) (dInt c1) (decF g_II c2) (decF g_LIIE c3) (dInt c4) (decF g_III c5) (decF g_II c6) (decF g_I c7) (dInt c8) (dInt c9) (dInt c10) (dInt c11) (dInt c12) (dInt c13)
abbrev qt64 (c0 c1 c2 c3 c4 c5 c6 c7 c8 c9 c10 c11 c12 c13:D):List Arg:=[.agg [c0,c1,c2,c3],.agg [c4,c5,c6],.agg [c7,c8,c9,c10,c11,c12,c13]]
def qT64 (r:qF64 (Option β)):=mkT (u14 qw64) qd64 (u14 r) u al
theorem qP64 (r:qF64 (Option β)) (c0 c1 c2 c3 c4 c5 c6 c7 c8 c9 c10 c11 c12 c13:D):PT (qT64 u al r).sp u (qt64 c0 c1 c2 c3 c4 c5 c6 c7 c8 c9 c10 c11 c12 c13) (qp64 qw64 c0 c1 c2 c3 c4 c5 c6 c7 c8 c9 c10 c11 c12 c13) (qp64 r c0 c1 c2 c3 c4 c5 c6 c7 c8 c9 c10 c11 c12 c13):=⟨rfl,rfl⟩
theorem qa64 (r:qF64 (Option β)):(qT64 u al r).sp.alias=al:=rfl
attribute [go_sem] qw64 qp64 qt64 qP64 qa64
def qu0 (v:Int×L_III):List RV:=[.agg [.d (.int .i64 v.1),.own (encF 3 d_III v.2)]]
attribute [go_sem] qu0
def qu1 (v:Int×L_B):List RV:=[.agg [.d (.int .i64 v.1),.own (encF 1 d_B v.2)]]
attribute [go_sem] qu1
def qu2 (v:Bool):List RV:=[.c (.d (.bool v))]
attribute [go_sem] qu2
def qu3 (v:Int):List RV:=[.c (.d (.int .i64 v))]
attribute [go_sem] qu3
def qu4 (v:Int×Int):List RV:=[.c (.d (.int .i64 v.1)),.c (.d (.int .i64 v.2))]
attribute [go_sem] qu4
def qu5 (v:L_I×L_I):List RV:=[.agg [.own (encF 1 d_I v.1),.own (encF 1 d_I v.2)]]
attribute [go_sem] qu5
def qu6 (v:L_I×L_I×Int):List RV:=[.agg [.own (encF 1 d_I v.1),.own (encF 1 d_I v.2.1)],.c (.d (.int .i64 v.2.2))]
attribute [go_sem] qu6
def qu7 (v:Int×Int):List RV:=[.agg [.d (.int .i64 v.1),.d (.int .i64 v.2)]]
attribute [go_sem] qu7
def qu10 (v:L_I×Int):List RV:=[.c (.own (encF 1 d_I v.1)),.c (.d (.int .i64 v.2))]
attribute [go_sem] qu10
def qu11 (v:L_I):List RV:=[.c (.own (encF 1 d_I v))]
attribute [go_sem] qu11
def qu13 (v:Int×Int×Int×Int×Int):List RV:=[.agg [.d (.int .i64 v.1),.d (.int .i64 v.2.1),.d (.int .i64 v.2.2.1),.d (.int .i64 v.2.2.2.1)],.c (.d (.int .i64 v.2.2.2.2))]
attribute [go_sem] qu13
def qu14 (v:Int×Int×L_II×L_LIIE):List RV:=[.agg [.d (.int .i64 v.1),.d (.int .i64 v.2.1),.own (encF 2 d_II v.2.2.1),.own (encF 1 d_LIIE v.2.2.2)]]
attribute [go_sem] qu14
def qu17 (v:Int×Int×L_II×L_LIIE×L_II×L_LIIE×Int):List RV:=[.agg [.d (.int .i64 v.1),.d (.int .i64 v.2.1),.d (encF 2 d_II v.2.2.1),.d (encF 1 d_LIIE v.2.2.2.1),.own (encF 2 d_II v.2.2.2.2.1),.own (encF 1 d_LIIE v.2.2.2.2.2.1)],.c (.d (.int .i64 v.2.2.2.2.2.2))]
attribute [go_sem] qu17
def qu20 (v:Int×Int×Int):List RV:=[.agg [.d (.int .i64 v.1),.d (.int .i64 v.2.1)],.c (.d (.int .i64 v.2.2))]
attribute [go_sem] qu20
end
end Go.Proofs.YthldpejmofhaoaaGreatDoor
