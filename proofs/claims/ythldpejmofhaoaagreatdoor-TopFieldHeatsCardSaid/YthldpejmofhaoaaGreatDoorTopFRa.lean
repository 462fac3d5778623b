/- TopFieldHeats: for all arguments the law returns true, and its arguments read afterwards as they did. No condition. -/
import Derived.Test.YthldpejmofhaoaaGreatDoorPlD
import Derived.Test.YthldpejmofhaoaaGreatDoorAbsDoors
import Derived.Test.YthldpejmofhaoaaGreatDoorRows
import Derived.Test.YthldpejmofhaoaaGreatDoorCards
import Derived.Test.YthldpejmofhaoaaGreatDoorTie
import Derived.ProofKit
import Derived.LaidMore
import Derived.Stop.Joined
import Derived.SevenTiedAt
set_option linter.unusedVariables false
set_option linter.unusedSimpArgs false
namespace Go.Proofs.YthldpejmofhaoaaGreatDoor
open Go.Abs Go.ChangeShapes Go.WideShapes Go.ChangeAt Go.RowKit
theorem wf_II {x:D} (h:WfC (.sl [.int,.int]) x):Abs.Can 2 d_II (decF g_II x) x:=by
 generalize hs:Sh.sl [.int,.int]=sh at h
 cases h with
 | int n h=>cases hs
 | bool b=>cases hs
 | str s h=>cases hs
 | sl es n get h1 h2 h3=>
  obtain rfl:[Sh.int,Sh.int]=es:=by injection hs
  refine ⟨rfl,rfl,(decF_length _).symm,fun i hi=>likeDs_of ?_⟩
  rw [decF_length] at hi
  rw [decF_getD _ _ hi]
  have hi:i<n:=hi
  show eqvDs (get i) (d_II (g_II (get i)))
  have hl:=h1 i hi
  have c0:=h2 i 0 _ hi rfl
  have c1:=h2 i 1 _ hi rfl
  match hg:get i,hl with
  | [a,b],_=>
   rw [hg] at c0 c1
   simp only [List.getD_cons_zero,List.getD_cons_succ] at c0 c1
   cases c0
   cases c1
   exact ⟨.refl _,.refl _,trivial⟩
theorem wf_LIIE {x:D} (h:WfC (.sl [.sl [.int,.int]]) x):Abs.Can 1 d_LIIE (decF g_LIIE x) x:=by
 generalize hs:Sh.sl [.sl [.int,.int]]=sh at h
 cases h with
 | int n h=>cases hs
 | bool b=>cases hs
 | str s h=>cases hs
 | sl es n get h1 h2 h3=>
  obtain rfl:[Sh.sl [.int,.int]]=es:=by injection hs
  refine ⟨rfl,rfl,(decF_length _).symm,fun i hi=>likeDs_of ?_⟩
  rw [decF_length] at hi
  rw [decF_getD _ _ hi]
  have hi:i<n:=hi
  show eqvDs (get i) (d_LIIE (g_LIIE (get i)))
  have hl:=h1 i hi
  have c0:=h2 i 0 _ hi rfl
  match hg:get i,hl with
  | [a],_=>
   rw [hg] at c0
   simp only [List.getD_cons_zero,List.getD_cons_succ] at c0
   exact ⟨of_eq_true (eqv_can (wf_II c0)),trivial⟩
theorem wf_III {x:D} (h:WfC (.sl [.int,.int,.int]) x):Abs.Can 3 d_III (decF g_III x) x:=by
 generalize hs:Sh.sl [.int,.int,.int]=sh at h
 cases h with
 | int n h=>cases hs
 | bool b=>cases hs
 | str s h=>cases hs
 | sl es n get h1 h2 h3=>
  obtain rfl:[Sh.int,Sh.int,Sh.int]=es:=by injection hs
  refine ⟨rfl,rfl,(decF_length _).symm,fun i hi=>likeDs_of ?_⟩
  rw [decF_length] at hi
  rw [decF_getD _ _ hi]
  have hi:i<n:=hi
  show eqvDs (get i) (d_III (g_III (get i)))
  have hl:=h1 i hi
  have c0:=h2 i 0 _ hi rfl
  have c1:=h2 i 1 _ hi rfl
  have c2:=h2 i 2 _ hi rfl
  match hg:get i,hl with
  | [a,b,c],_=>
   rw [hg] at c0 c1 c2
   simp only [List.getD_cons_zero,List.getD_cons_succ] at c0 c1 c2
   cases c0
   cases c1
   cases c2
   exact ⟨.refl _,.refl _,.refl _,trivial⟩
theorem wf_I {x:D} (h:WfC (.sl [.int]) x):Abs.Can 1 d_I (decF g_I x) x:=by
 generalize hs:Sh.sl [.int]=sh at h
 cases h with
 | int n h=>cases hs
 | bool b=>cases hs
 | str s h=>cases hs
 | sl es n get h1 h2 h3=>
  obtain rfl:[Sh.int]=es:=by injection hs
  refine ⟨rfl,rfl,(decF_length _).symm,fun i hi=>likeDs_of ?_⟩
  rw [decF_length] at hi
  rw [decF_getD _ _ hi]
  have hi:i<n:=hi
  show eqvDs (get i) (d_I (g_I (get i)))
  have hl:=h1 i hi
  have c0:=h2 i 0 _ hi rfl
  match hg:get i,hl with
  | [a],_=>
   rw [hg] at c0
   simp only [List.getD_cons_zero,List.getD_cons_succ] at c0
   cases c0
   exact ⟨.refl _,trivial⟩
theorem own4:ownKnob Tryz.prog.godebug=none:=by kernel_rfl
theorem laid4:laidOutB Tryz.prog=true:=by kernel_rfl
def sh4:List ASh:=[.agg [.int,.int,.sl [.int,.int],.sl [.sl [.int,.int]]],.agg [.int,.sl [.int,.int,.int],.sl [.int,.int]],.agg [.sl [.int],.int,.int,.int,.int,.int,.int]]
theorem args4:ArgShs Tryz.prog Tryz.f4.params.toList sh4:=by
 rw [Tryz.params4]
 exact ⟨⟨by kernel_rfl,by rw [Tryz.underlying25]; trivial⟩,⟨by kernel_rfl,by rw [Tryz.underlying67]; trivial⟩,⟨by kernel_rfl,by rw [Tryz.underlying69]; trivial⟩,trivial⟩
theorem pre4 (xs:List Arg) (h:WfArgs sh4 xs):T4.sp.pre xs∧T4.sp.res xs=[.c (.d (.bool true))]:=by
 match xs,h with
 | [.agg [x0_0,x0_1,x0_2,x0_3],.agg [x1_0,x1_1,x1_2],.agg [x2_0,x2_1,x2_2,x2_3,x2_4,x2_5,x2_6]],⟨⟨_,h0⟩,⟨_,h1⟩,⟨_,h2⟩,_⟩=>
  have c0_0:=h0 0 _ rfl
  have c0_1:=h0 1 _ rfl
  have c0_2:=h0 2 _ rfl
  have c0_3:=h0 3 _ rfl
  simp only [List.getD_cons_zero,List.getD_cons_succ] at c0_0 c0_1 c0_2 c0_3
  have e0_2:=eqv_can (wf_II c0_2)
  have e0_3:=eqv_can (wf_LIIE c0_3)
  have c1_0:=h1 0 _ rfl
  have c1_1:=h1 1 _ rfl
  have c1_2:=h1 2 _ rfl
  simp only [List.getD_cons_zero,List.getD_cons_succ] at c1_0 c1_1 c1_2
  have e1_1:=eqv_can (wf_III c1_1)
  have e1_2:=eqv_can (wf_II c1_2)
  have c2_0:=h2 0 _ rfl
  have c2_1:=h2 1 _ rfl
  have c2_2:=h2 2 _ rfl
  have c2_3:=h2 3 _ rfl
  have c2_4:=h2 4 _ rfl
  have c2_5:=h2 5 _ rfl
  have c2_6:=h2 6 _ rfl
  simp only [List.getD_cons_zero,List.getD_cons_succ] at c2_0 c2_1 c2_2 c2_3 c2_4 c2_5 c2_6
  have e2_0:=eqv_can (wf_I c2_0)
  cases c0_0
  cases c0_1
  cases c1_0
  cases c2_1
  cases c2_2
  cases c2_3
  cases c2_4
  cases c2_5
  cases c2_6
  refine ⟨⟨⟨⟨.refl _,.refl _,of_eq_true e0_2,of_eq_true e0_3,trivial⟩,⟨.refl _,of_eq_true e1_1,of_eq_true e1_2,trivial⟩,⟨of_eq_true e2_0,.refl _,.refl _,.refl _,.refl _,.refl _,.refl _,trivial⟩,trivial⟩,?_⟩,?_⟩
  ·show (r4 _ _ _ _ _ _ _ _ _ _ _ _ _ _).isSome=true
   rw [field_law]; rfl
  ·show [RV.c (.d (.bool ((r4 _ _ _ _ _ _ _ _ _ _ _ _ _ _).getD default)))]=_
   rw [field_law]; rfl
def L4:List (String×DataW Unit):=[("math/bits.deBruijn32tab",Rows.laid_math_bits_deBruijn32tab),("math/bits.deBruijn64tab",Rows.laid_math_bits_deBruijn64tab),("internal/strconv.uint64pow10",Rows.laid_internal_strconv_uint64pow10),("unicode/utf8.acceptRanges",Rows.laid_unicode_utf8_acceptRanges),("strconv.ErrRange",Rows.laid_strconv_ErrRange),("strconv.ErrSyntax",Rows.laid_strconv_ErrSyntax),("unicode/utf8.first",Rows.laid_unicode_utf8_first)]
theorem row4 (u:TypeId) (h:Tryz.prog.typeName? 3 u=some "*errors.errorString"):u=436:=
 typeName_ptr_named (nm:= "errors.errorString") (by rw [show "*" ++ "errors.errorString" = "*errors.errorString" by decide]; kernel_rfl) (by kernel_rfl) (by decide) u (by rw [show "*" ++ "errors.errorString" = "*errors.errorString" by decide]; exact h)
theorem cells4a:Tryz.prog.cellsOf 438=1:=by kernel_rfl
theorem cells4b:Tryz.prog.cellsOf 9=1:=by kernel_rfl
theorem door4 (os:Os) (args:Array Value):laidMetH Tryz.prog L4 ((World.laidAll Tryz.prog os L4).forCall (fun _ _=>0) ⟨#[],args,[]⟩).memory:=by
 rw [MakeChecks.laidMetH_plain _ _ _ (by kernel_rfl)]; exact laidMet_laidAll _ (by kernel_rfl) (by kernel_rfl)
theorem glob4 {W:World} (hL0:laidMetH Tryz.prog L4 W) (hsh:W.ShapedOpen Tryz.prog):GlobOk W:=by
 have hL:laidMet Tryz.prog L4 W:=by rw [MakeChecks.laidMetH_plain _ _ _ (by kernel_rfl)] at hL0; exact hL0
 refine ⟨fun g l hm=> ?_,fun g p hm=> ?_⟩
 ·rw [show glb=[] from rfl] at hm; cases hm
 ·rw [show glbX=glbX0 from rfl] at hm; simp only [glbX0,List.mem_cons,List.mem_nil_iff,or_false,Prod.mk.injEq] at hm
  rcases hm with ⟨rfl,rfl⟩ | ⟨rfl,rfl⟩ | ⟨rfl,rfl⟩ | ⟨rfl,rfl⟩
  ·exact by obtain ⟨T,z,h⟩:=nums_of_laid (k:= .u64) (n:= "internal/strconv.uint64pow10") (g:=2) (t:=413) (e:=381) (l:=[1,10,100,1000,10000,100000,1000000,10000000,100000000,1000000000,10000000000,100000000000,1000000000000,10000000000000,100000000000000,1000000000000000,10000000000000000,100000000000000000,1000000000000000000,10000000000000000000]) (by kernel_rfl) (by kernel_rfl) Tryz.underlying413 Tryz.underlying381 (by kernel_rfl) (by kernel_rfl) (laid_drop 2 _ hL); exact ⟨_,T,z,h,rfl⟩
  ·exact int_of_cell (cell_of_shapedOpen_int (P:=Tryz.prog) (g:=1) (t:=3) (zero:= #[.int .i64 0]) hsh (of_decide_eq_true (by kernel_rfl)) (by kernel_rfl) rfl (by kernel_rfl) (by kernel_rfl) Tryz.underlying3)
  ·exact err_of_laid (n:= "strconv.ErrSyntax") (g:=3) (ti:=283) (tp:=436) (te:=438) (ts:=9) (by kernel_rfl) (by kernel_rfl) Tryz.underlying283 row4 Tryz.underlying436 Tryz.underlying438 rfl rfl Tryz.underlying9 cells4a cells4b (laid_drop 5 _ hL)
  ·exact err_of_laid (n:= "strconv.ErrRange") (g:=4) (ti:=283) (tp:=436) (te:=438) (ts:=9) (by kernel_rfl) (by kernel_rfl) Tryz.underlying283 row4 Tryz.underlying436 Tryz.underlying438 rfl rfl Tryz.underlying9 cells4a cells4b (laid_drop 4 _ hL)
set_option maxRecDepth 100000 in
theorem lifted4 (os:Os) (started:os.Started) (H:Type) (enc:TypeId×Value→H) :
 ReturnsInHanded {} Tryz.checked os 4 .any (fun w args=>(Rows.topFieldHeatsSpec.pre enc Tryz.prog Tryz.f4 [] false w args∧laidMetH Tryz.prog L4 w)∧sizedMet enc Tryz.prog Tryz.f4 (OpenSpec.ofChange Rows.topFieldHeatsSpec) false w args)
  (Rows.topFieldHeatsSpec.post enc Tryz.prog Tryz.f4 false true false false):=by
 refine handed_shaped (C:=Tryz.checked) (X:=fun w _=>laidMetH Tryz.prog L4 w) (fun _ _ _ hh h=>h.of_heap hh) own4 started (by kernel_rfl) Tryz.func4
  (ChangeSpec.witness_shaped (enc:=enc) (C:=Tryz.checked) (os:=os) (X:=fun w _=>laidMetH Tryz.prog L4 w) false (World.laidAll Tryz.prog os L4) #[.agg #[.int .i64 0,.int .i64 0,.slice none 0 0,.slice none 0 0],.agg #[.int .i64 0,.slice none 0 0,.slice none 0 0],.agg #[.slice none 0 0,.int .i64 0,.int .i64 0,.int .i64 0,.int .i64 0,.int .i64 0,.int .i64 0]] 8 (World.laidAll_os _ _ _) (World.shaped_of_ZipB (by kernel_rfl) (by kernel_rfl)) (by kernel_rfl) (by kernel_rfl) (by kernel_rfl) (door4 os _)) ?_
 intro W base args ds gs before hval hW hL hsh
 exact law_post (P:=Tryz.prog) (fn:=Tryz.f4) args4 f4.valid pre4 rfl (fun ds h=>by
  rw [Tryz.params4] at h
  match ds,h with
  | [_,_,_],_=>exact ⟨rfl,rfl,rfl⟩) (by kernel_rfl) Tryz.underlying4 laid4 (by rw [Tryz.params4]; decide +kernel) (glob4 hL hsh) hval hW
end Go.Proofs.YthldpejmofhaoaaGreatDoor
