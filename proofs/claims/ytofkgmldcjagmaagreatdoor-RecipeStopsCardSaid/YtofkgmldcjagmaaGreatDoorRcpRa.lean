/- RecipeStops: for all arguments the law returns true, and its arguments read afterwards as they did. No condition. -/
import Derived.Test.YtofkgmldcjagmaaGreatDoorRcpC
import Derived.Test.YtofkgmldcjagmaaGreatDoorAbsDoors
import Derived.Test.YtofkgmldcjagmaaGreatDoorRows
import Derived.Test.YtofkgmldcjagmaaGreatDoorCards
import Derived.Test.YtofkgmldcjagmaaGreatDoorTie
import Derived.ProofKit
import Derived.LaidMore
import Derived.Stop.Joined
import Derived.SevenTiedAt
set_option linter.unusedVariables false
set_option linter.unusedSimpArgs false
namespace Go.Proofs.YtofkgmldcjagmaaGreatDoor
open Go.Abs Go.ChangeShapes Go.WideShapes Go.ChangeAt Go.RowKit
theorem wf_II {x:D} (h:WfC (.sl [.int,.int]) x):Abs.Can 2 d_II (decF g_II x) x:=by
 generalize hs:Sh.sl [.int,.int]=sh at h
 cases h with
 | int n h=>cases hs
 | bool b=>cases hs
 | str s h=>cases hs
 | sl es n get h1 h2 h3=>
  obtain rfl:[Sh.int,Sh.int]=es:=by injection hs
  refine ⟨rfl,rfl,(decF_length _).symm,fun i hi=>likeDs_of ?_⟩
  rw [decF_length] at hi
  rw [decF_getD _ _ hi]
  have hi:i<n:=hi
  show eqvDs (get i) (d_II (g_II (get i)))
  have hl:=h1 i hi
  have c0:=h2 i 0 _ hi rfl
  have c1:=h2 i 1 _ hi rfl
  match hg:get i,hl with
  | [a,b],_=>
   rw [hg] at c0 c1
   simp only [List.getD_cons_zero,List.getD_cons_succ] at c0 c1
   cases c0
   cases c1
   exact ⟨.refl _,.refl _,trivial⟩
theorem wf_LIIE {x:D} (h:WfC (.sl [.sl [.int,.int]]) x):Abs.Can 1 d_LIIE (decF g_LIIE x) x:=by
 generalize hs:Sh.sl [.sl [.int,.int]]=sh at h
 cases h with
 | int n h=>cases hs
 | bool b=>cases hs
 | str s h=>cases hs
 | sl es n get h1 h2 h3=>
  obtain rfl:[Sh.sl [.int,.int]]=es:=by injection hs
  refine ⟨rfl,rfl,(decF_length _).symm,fun i hi=>likeDs_of ?_⟩
  rw [decF_length] at hi
  rw [decF_getD _ _ hi]
  have hi:i<n:=hi
  show eqvDs (get i) (d_LIIE (g_LIIE (get i)))
  have hl:=h1 i hi
  have c0:=h2 i 0 _ hi rfl
  match hg:get i,hl with
  | [a],_=>
   rw [hg] at c0
   simp only [List.getD_cons_zero,List.getD_cons_succ] at c0
   exact ⟨of_eq_true (eqv_can (wf_II c0)),trivial⟩
theorem wf_I {x:D} (h:WfC (.sl [.int]) x):Abs.Can 1 d_I (decF g_I x) x:=by
 generalize hs:Sh.sl [.int]=sh at h
 cases h with
 | int n h=>cases hs
 | bool b=>cases hs
 | str s h=>cases hs
 | sl es n get h1 h2 h3=>
  obtain rfl:[Sh.int]=es:=by injection hs
  refine ⟨rfl,rfl,(decF_length _).symm,fun i hi=>likeDs_of ?_⟩
  rw [decF_length] at hi
  rw [decF_getD _ _ hi]
  have hi:i<n:=hi
  show eqvDs (get i) (d_I (g_I (get i)))
  have hl:=h1 i hi
  have c0:=h2 i 0 _ hi rfl
  match hg:get i,hl with
  | [a],_=>
   rw [hg] at c0
   simp only [List.getD_cons_zero,List.getD_cons_succ] at c0
   cases c0
   exact ⟨.refl _,trivial⟩
theorem own3:ownKnob Tryz.prog.godebug=none:=by kernel_rfl
theorem laid3:laidOutB Tryz.prog=true:=by kernel_rfl
def sh3:List ASh:=[.agg [.int,.int,.sl [.int,.int],.sl [.sl [.int,.int]],.sl [.int],.sl [.int],.sl [.int,.int],.int,.int],.c (.sl [.int,.int]),.agg [.int,.int,.int]]
theorem args3:ArgShs Tryz.prog Tryz.f3.params.toList sh3:=by
 rw [Tryz.params3]
 exact ⟨⟨by kernel_rfl,by rw [Tryz.underlying31]; trivial⟩,⟨by kernel_rfl,by rw [Tryz.underlying32]; trivial⟩,⟨by kernel_rfl,by rw [Tryz.underlying34]; trivial⟩,trivial⟩
theorem pre3 (xs:List Arg) (h:WfArgs sh3 xs):T3.sp.pre xs∧T3.sp.res xs=[.c (.d (.bool true))]:=by
 match xs,h with
 | [.agg [x0_0,x0_1,x0_2,x0_3,x0_4,x0_5,x0_6,x0_7,x0_8],.c x1_0,.agg [x2_0,x2_1,x2_2]],⟨⟨_,h0⟩,h1,⟨_,h2⟩,_⟩=>
  have c0_0:=h0 0 _ rfl
  have c0_1:=h0 1 _ rfl
  have c0_2:=h0 2 _ rfl
  have c0_3:=h0 3 _ rfl
  have c0_4:=h0 4 _ rfl
  have c0_5:=h0 5 _ rfl
  have c0_6:=h0 6 _ rfl
  have c0_7:=h0 7 _ rfl
  have c0_8:=h0 8 _ rfl
  simp only [List.getD_cons_zero,List.getD_cons_succ] at c0_0 c0_1 c0_2 c0_3 c0_4 c0_5 c0_6 c0_7 c0_8
  have e0_2:=eqv_can (wf_II c0_2)
  have e0_3:=eqv_can (wf_LIIE c0_3)
  have e0_4:=eqv_can (wf_I c0_4)
  have e0_5:=eqv_can (wf_I c0_5)
  have e0_6:=eqv_can (wf_II c0_6)
  have e1_0:=eqv_can (wf_II h1)
  have c2_0:=h2 0 _ rfl
  have c2_1:=h2 1 _ rfl
  have c2_2:=h2 2 _ rfl
  simp only [List.getD_cons_zero,List.getD_cons_succ] at c2_0 c2_1 c2_2
  cases c0_0
  cases c0_1
  cases c0_7
  cases c0_8
  cases c2_0
  cases c2_1
  cases c2_2
  refine ⟨⟨⟨⟨.refl _,.refl _,of_eq_true e0_2,of_eq_true e0_3,of_eq_true e0_4,of_eq_true e0_5,of_eq_true e0_6,.refl _,.refl _,trivial⟩,of_eq_true e1_0,⟨.refl _,.refl _,.refl _,trivial⟩,trivial⟩,?_⟩,?_⟩
  ·show (r3 _ _ _ _ _ _ _ _ _ _ _ _ _).isSome=true
   rw [recipeStops_law]; rfl
  ·show [RV.c (.d (.bool ((r3 _ _ _ _ _ _ _ _ _ _ _ _ _).getD default)))]=_
   rw [recipeStops_law]; rfl
def L3:List (String×DataW Unit):=[("math/bits.deBruijn32tab",Rows.laid_math_bits_deBruijn32tab),("math/bits.deBruijn64tab",Rows.laid_math_bits_deBruijn64tab),("internal/strconv.uint64pow10",Rows.laid_internal_strconv_uint64pow10),("strconv.ErrRange",Rows.laid_strconv_ErrRange),("strconv.ErrSyntax",Rows.laid_strconv_ErrSyntax),("martensite/steel.directions",Rows.laid_martensite_steel_directions),("martensite/recipe.names",Rows.laid_martensite_recipe_names)]
theorem row3 (u:TypeId) (h:Tryz.prog.typeName? 3 u=some "*errors.errorString"):u=388:=
 typeName_ptr_named (nm:= "errors.errorString") (by rw [show "*" ++ "errors.errorString" = "*errors.errorString" by decide]; kernel_rfl) (by kernel_rfl) (by decide) u (by rw [show "*" ++ "errors.errorString" = "*errors.errorString" by decide]; exact h)
theorem cells3a:Tryz.prog.cellsOf 390=1:=by kernel_rfl
theorem cells3b:Tryz.prog.cellsOf 9=1:=by kernel_rfl
theorem door3 (os:Os) (args:Array Value):laidMetH Tryz.prog L3 ((World.laidAll Tryz.prog os L3).forCall (fun _ _=>0) ⟨#[],args,[]⟩).memory:=by
 rw [MakeChecks.laidMetH_plain _ _ _ (by kernel_rfl)]; exact laidMet_laidAll _ (by kernel_rfl) (by kernel_rfl)
theorem glob3 {W:World} (hL0:laidMetH Tryz.prog L3 W) (hsh:W.ShapedOpen Tryz.prog):GlobOk W:=by
 have hL:laidMet Tryz.prog L3 W:=by rw [MakeChecks.laidMetH_plain _ _ _ (by kernel_rfl)] at hL0; exact hL0
 refine ⟨fun g l hm=> ?_,fun g p hm=> ?_⟩
 ·simp only [glb,List.mem_cons,List.mem_nil_iff,or_false,Prod.mk.injEq] at hm
  obtain ⟨rfl,rfl⟩:=hm
  exact ints_of_laid (n:= "martensite/steel.directions") (g:=0) (t:=83) (e:=3) (l:=[1,0,(-1),0]) (by kernel_rfl) (by kernel_rfl) Tryz.underlying83 Tryz.underlying3 (by kernel_rfl) (by kernel_rfl) (by decide) (laid_drop 5 _ hL)
 ·simp only [glbX,glbX0,glbS,List.map_cons,List.map_nil,List.cons_append,List.nil_append,List.mem_cons,List.mem_nil_iff,or_false,Prod.mk.injEq] at hm
  rcases hm with ⟨rfl,rfl⟩ | ⟨rfl,rfl⟩ | ⟨rfl,rfl⟩ | ⟨rfl,rfl⟩ | ⟨rfl,rfl⟩
  ·exact by obtain ⟨T,z,h⟩:=nums_of_laid (k:= .u64) (n:= "internal/strconv.uint64pow10") (g:=2) (t:=327) (e:=303) (l:=[1,10,100,1000,10000,100000,1000000,10000000,100000000,1000000000,10000000000,100000000000,1000000000000,10000000000000,100000000000000,1000000000000000,10000000000000000,100000000000000000,1000000000000000000,10000000000000000000]) (by kernel_rfl) (by kernel_rfl) Tryz.underlying327 Tryz.underlying303 (by kernel_rfl) (by kernel_rfl) (laid_drop 2 _ hL); exact ⟨_,T,z,h,rfl⟩
  ·exact int_of_cell (cell_of_shapedOpen_int (P:=Tryz.prog) (g:=3) (t:=3) (zero:= #[.int .i64 0]) hsh (of_decide_eq_true (by kernel_rfl)) (by kernel_rfl) rfl (by kernel_rfl) (by kernel_rfl) Tryz.underlying3)
  ·exact err_of_laid (n:= "strconv.ErrSyntax") (g:=6) (ti:=210) (tp:=388) (te:=390) (ts:=9) (by kernel_rfl) (by kernel_rfl) Tryz.underlying210 row3 Tryz.underlying388 Tryz.underlying390 rfl rfl Tryz.underlying9 cells3a cells3b (laid_drop 4 _ hL)
  ·exact err_of_laid (n:= "strconv.ErrRange") (g:=7) (ti:=210) (tp:=388) (te:=390) (ts:=9) (by kernel_rfl) (by kernel_rfl) Tryz.underlying210 row3 Tryz.underlying388 Tryz.underlying390 rfl rfl Tryz.underlying9 cells3a cells3b (laid_drop 3 _ hL)
  ·exact strs_of_laid (n:= "martensite/recipe.names") (g:=1) (t:=295) (e:=9) (l:=[⟨#[104,101,97,116]⟩,⟨#[100,119,101,108,108]⟩,⟨#[113,117,101,110,99,104]⟩,⟨#[117,110,116,105,108]⟩,⟨#[99,111,111,108]⟩,⟨#[114,101,112,101,97,116]⟩]) (by kernel_rfl) (by kernel_rfl) Tryz.underlying295 Tryz.underlying9 (by kernel_rfl) (by kernel_rfl) (laid_drop 6 _ hL)
set_option maxRecDepth 100000 in
theorem lifted3 (os:Os) (started:os.Started) (H:Type) (enc:TypeId×Value→H) :
 ReturnsInHanded {} Tryz.checked os 3 .any (fun w args=>(Rows.recipeStopsSpec.pre enc Tryz.prog Tryz.f3 [] false w args∧laidMetH Tryz.prog L3 w)∧sizedMet enc Tryz.prog Tryz.f3 (OpenSpec.ofChange Rows.recipeStopsSpec) false w args)
  (Rows.recipeStopsSpec.post enc Tryz.prog Tryz.f3 false true false false):=by
 refine handed_shaped (C:=Tryz.checked) (X:=fun w _=>laidMetH Tryz.prog L3 w) (fun _ _ _ hh h=>h.of_heap hh) own3 started (by kernel_rfl) Tryz.func3
  (ChangeSpec.witness_shaped (enc:=enc) (C:=Tryz.checked) (os:=os) (X:=fun w _=>laidMetH Tryz.prog L3 w) false (World.laidAll Tryz.prog os L3) #[.agg #[.int .i64 0,.int .i64 0,.slice none 0 0,.slice none 0 0,.slice none 0 0,.slice none 0 0,.slice none 0 0,.int .i64 0,.int .i64 0],.slice none 0 0,.agg #[.int .i64 0,.int .i64 0,.int .i64 0]] 8 (World.laidAll_os _ _ _) (World.shaped_of_ZipB (by kernel_rfl) (by kernel_rfl)) (by kernel_rfl) (by kernel_rfl) (by kernel_rfl) (door3 os _)) ?_
 intro W base args ds gs before hval hW hL hsh
 exact law_post (P:=Tryz.prog) (fn:=Tryz.f3) args3 f3.valid pre3 rfl (fun ds h=>by
  rw [Tryz.params3] at h
  match ds,h with
  | [_,_,_],_=>exact ⟨rfl,rfl,rfl⟩) (by kernel_rfl) Tryz.underlying4 laid3 (by rw [Tryz.params3]; decide +kernel) (glob3 hL hsh) hval hW
end Go.Proofs.YtofkgmldcjagmaaGreatDoor
