/- RecipeSafe: for all arguments the law returns true, and its arguments read afterwards as they did. No condition. -/
import Derived.Test.YtofkgmldcjagmaaGreatDoorRcpSg
import Derived.Test.YtofkgmldcjagmaaGreatDoorAbsDoors
import Derived.Test.YtofkgmldcjagmaaGreatDoorRows
import Derived.Test.YtofkgmldcjagmaaGreatDoorCards
import Derived.Test.YtofkgmldcjagmaaGreatDoorTie
import Derived.ProofKit
import Derived.LaidMore
import Derived.Stop.Joined
import Derived.SevenTiedAt
set_option linter.unusedVariables false
set_option linter.unusedSimpArgs false
namespace Go.Proofs.YtofkgmldcjagmaaGreatDoor
open Go.dG Go.ChangeShapes Go.WideShapes Go.ChangeAt Go.RowKit
theorem RH {x:D} (h:Bl (.sl [.int,.int]) x):dG.Can 2 aO (aG bW x) x:=by
 generalize hs:Sh.sl [.int,.int]=sh at h
 cases h with
 | int n h=>cases hs
 | bool b=>cases hs
 | str s h=>cases hs
 | Wu es n get h1 h2 h4 h3=>cases hs
 | sl es n get h1 h2 h3=>
  obtain rfl:[Sh.int,Sh.int]=es:=by injection hs
  refine ⟨rfl,rfl,(iG _).symm,fun i hi=>iR ?_⟩
  rw [iG] at hi
  rw [zn _ _ hi]
  have hi:i<n:=hi
  show jg (get i) (aO (bW (get i)))
  have hl:=h1 i hi
  have c0:=h2 i 0 _ hi rfl
  have c1:=h2 i 1 _ hi rfl
  match hg:get i,hl with
  | [a,b],_=>
   rw [hg] at c0 c1
   simp only [List.getD_cons_zero,List.getD_cons_succ] at c0 c1
   cases c0
   cases c1
   exact ⟨.refl _,.refl _,trivial⟩
theorem acT {x:D} (h:Bl (.sl [.sl [.int,.int]]) x):dG.Can 1 aN (aG bP x) x:=by
 generalize hs:Sh.sl [.sl [.int,.int]]=sh at h
 cases h with
 | int n h=>cases hs
 | bool b=>cases hs
 | str s h=>cases hs
 | Wu es n get h1 h2 h4 h3=>cases hs
 | sl es n get h1 h2 h3=>
  obtain rfl:[Sh.sl [.int,.int]]=es:=by injection hs
  refine ⟨rfl,rfl,(iG _).symm,fun i hi=>iR ?_⟩
  rw [iG] at hi
  rw [zn _ _ hi]
  have hi:i<n:=hi
  show jg (get i) (aN (bP (get i)))
  have hl:=h1 i hi
  have c0:=h2 i 0 _ hi rfl
  match hg:get i,hl with
  | [a],_=>
   rw [hg] at c0
   simp only [List.getD_cons_zero,List.getD_cons_succ] at c0
   exact ⟨of_eq_true (lZ (RH c0)),trivial⟩
theorem akZ {x:D} (h:Bl (.sl [.int]) x):dG.Can 1 cO (aG jQ x) x:=by
 generalize hs:Sh.sl [.int]=sh at h
 cases h with
 | int n h=>cases hs
 | bool b=>cases hs
 | str s h=>cases hs
 | Wu es n get h1 h2 h4 h3=>cases hs
 | sl es n get h1 h2 h3=>
  obtain rfl:[Sh.int]=es:=by injection hs
  refine ⟨rfl,rfl,(iG _).symm,fun i hi=>iR ?_⟩
  rw [iG] at hi
  rw [zn _ _ hi]
  have hi:i<n:=hi
  show jg (get i) (cO (jQ (get i)))
  have hl:=h1 i hi
  have c0:=h2 i 0 _ hi rfl
  match hg:get i,hl with
  | [a],_=>
   rw [hg] at c0
   simp only [List.getD_cons_zero,List.getD_cons_succ] at c0
   cases c0
   exact ⟨.refl _,trivial⟩
theorem own4:ownKnob Tryz.prog.godebug=none:=by kernel_rfl
theorem asg:laidOutB Tryz.prog=true:=by kernel_rfl
def sh4:List ASh:=[.agg [.int,.int,.sl [.int,.int],.sl [.sl [.int,.int]],.sl [.int],.sl [.int],.sl [.int,.int],.int,.int],.c (.sl [.int,.int]),.agg [.int,.int,.int]]
theorem auc:JL Tryz.prog Tryz.f4.params.toList sh4:=by
 rw [Tryz.params4]
 exact ⟨⟨by kernel_rfl,by rw [Tryz.underlying31]; trivial⟩,⟨by kernel_rfl,by rw [Tryz.underlying32]; trivial⟩,⟨by kernel_rfl,by rw [Tryz.underlying34]; trivial⟩,trivial⟩
theorem azz (xs:List Arg) (h:JD sh4 xs):T4.sp.pre xs∧T4.sp.res xs=[.c (.d (.bool true))]:=by
 match xs,h with
 | [.agg [aD3,aD2,aD1,aD0,aDZ,aDY,aDX,aDW,aDV],.c aDU,.agg [aDT,aDS,aDR]],⟨⟨_,h0⟩,h1,⟨_,h2⟩,_⟩=>
  have aub:=h0 0 _ rfl
  have aua:=h0 1 _ rfl
  have at7:=h0 2 _ rfl
  have at6:=h0 3 _ rfl
  have at1:=h0 4 _ rfl
  have atZ:=h0 5 _ rfl
  have atY:=h0 6 _ rfl
  have atX:=h0 7 _ rfl
  have atW:=h0 8 _ rfl
  simp only [List.getD_cons_zero,List.getD_cons_succ] at aub aua at7 at6 at1 atZ atY atX atW
  have aBe:=lZ (RH at7)
  have aBd:=lZ (acT at6)
  have aBb:=lZ (akZ at1)
  have aBa:=lZ (akZ atZ)
  have aA':=lZ (RH atY)
  have aA9:=lZ (RH h1)
  have atT:=h2 0 _ rfl
  have atS:=h2 1 _ rfl
  have atQ:=h2 2 _ rfl
  simp only [List.getD_cons_zero,List.getD_cons_succ] at atT atS atQ
  cases aub
  cases aua
  cases atX
  cases atW
  cases atT
  cases atS
  cases atQ
  refine ⟨⟨⟨⟨.refl _,.refl _,of_eq_true aBe,of_eq_true aBd,of_eq_true aBb,of_eq_true aBa,of_eq_true aA',.refl _,.refl _,trivial⟩,of_eq_true aA9,⟨.refl _,.refl _,.refl _,trivial⟩,trivial⟩,?_⟩,?_⟩
  ·show (r4 _ _ _ _ _ _ _ _ _ _ _ _ _).isSome=true
   rw [sK]; rfl
  ·show [RV.c (.d (.bool ((r4 _ _ _ _ _ _ _ _ _ _ _ _ _).getD default)))]=_
   rw [sK]; rfl
def L4:List (String×DataW Unit):=[("math/bits.deBruijn32tab",Rows.laid_math_bits_deBruijn32tab),("math/bits.deBruijn64tab",Rows.laid_math_bits_deBruijn64tab),("internal/strconv.uint64pow10",Rows.laid_internal_strconv_uint64pow10),("strconv.ErrRange",Rows.laid_strconv_ErrRange),("strconv.ErrSyntax",Rows.laid_strconv_ErrSyntax),("martensite/steel.directions",Rows.laid_martensite_steel_directions),("martensite/recipe.names",Rows.laid_martensite_recipe_names)]
theorem row4 (u:TypeId) (h:Tryz.prog.typeName? 3 u=some "*errors.errorString"):u=388:=
 typeName_ptr_named (nm:= "errors.errorString") (by rw [show "*" ++ "errors.errorString" = "*errors.errorString" by decide]; kernel_rfl) (by kernel_rfl) (by decide) u (by rw [show "*" ++ "errors.errorString" = "*errors.errorString" by decide]; exact h)
theorem VL:Tryz.prog.cellsOf 390=1:=by kernel_rfl
theorem VK:Tryz.prog.cellsOf 9=1:=by kernel_rfl
theorem atI (os:Os) (args:Array Value):laidMetH Tryz.prog L4 ((World.laidAll Tryz.prog os L4).forCall (fun _ _=>0) ⟨#[],args,[]⟩).memory:=by
 rw [MakeChecks.laidMetH_plain _ _ _ (by kernel_rfl)]; exact laidMet_laidAll _ (by kernel_rfl) (by kernel_rfl)
theorem aty {W:World} (hL0:laidMetH Tryz.prog L4 W) (hsh:W.ShapedOpen Tryz.prog):rE W:=by
 have hL:laidMet Tryz.prog L4 W:=by rw [MakeChecks.laidMetH_plain _ _ _ (by kernel_rfl)] at hL0; exact hL0
 refine ⟨fun g l hm=> ?_,fun g p hm=> ?_⟩
 ·simp only [glb,List.mem_cons,List.mem_nil_iff,or_false,Prod.mk.injEq] at hm
  obtain ⟨rfl,rfl⟩:=hm
  exact I5 (n:= "martensite/steel.directions") (g:=0) (t:=83) (e:=3) (l:=[1,0,(-1),0]) (by kernel_rfl) (by kernel_rfl) Tryz.underlying83 Tryz.underlying3 (by kernel_rfl) (by kernel_rfl) (by decide) (nD 5 _ hL)
 ·simp only [atz,agJ,ae1,List.map_cons,List.map_nil,List.cons_append,List.nil_append,List.mem_cons,List.mem_nil_iff,or_false,Prod.mk.injEq] at hm
  rcases hm with ⟨rfl,rfl⟩ | ⟨rfl,rfl⟩ | ⟨rfl,rfl⟩ | ⟨rfl,rfl⟩ | ⟨rfl,rfl⟩
  ·exact by obtain ⟨T,z,h⟩:=xG (k:= .u64) (n:= "internal/strconv.uint64pow10") (g:=2) (t:=327) (e:=303) (l:=[1,10,100,1000,10000,100000,1000000,10000000,100000000,1000000000,10000000000,100000000000,1000000000000,10000000000000,100000000000000,1000000000000000,10000000000000000,100000000000000000,1000000000000000000,10000000000000000000]) (by kernel_rfl) (by kernel_rfl) Tryz.underlying327 Tryz.underlying303 (by kernel_rfl) (by kernel_rfl) (nD 2 _ hL); exact ⟨_,T,z,h,rfl⟩
  ·exact LQ (cell_of_shapedOpen_int (P:=Tryz.prog) (g:=3) (t:=3) (zero:= #[.int .i64 0]) hsh (of_decide_eq_true (by kernel_rfl)) (by kernel_rfl) rfl (by kernel_rfl) (by kernel_rfl) Tryz.underlying3)
  ·exact Ah (n:= "strconv.ErrSyntax") (g:=6) (ti:=210) (tp:=388) (te:=390) (ts:=9) (by kernel_rfl) (by kernel_rfl) Tryz.underlying210 row4 Tryz.underlying388 Tryz.underlying390 rfl rfl Tryz.underlying9 VL VK (nD 4 _ hL)
  ·exact Ah (n:= "strconv.ErrRange") (g:=7) (ti:=210) (tp:=388) (te:=390) (ts:=9) (by kernel_rfl) (by kernel_rfl) Tryz.underlying210 row4 Tryz.underlying388 Tryz.underlying390 rfl rfl Tryz.underlying9 VL VK (nD 3 _ hL)
  ·exact Ig (n:= "martensite/recipe.names") (g:=1) (t:=295) (e:=9) (l:=[⟨#[104,101,97,116]⟩,⟨#[100,119,101,108,108]⟩,⟨#[113,117,101,110,99,104]⟩,⟨#[117,110,116,105,108]⟩,⟨#[99,111,111,108]⟩,⟨#[114,101,112,101,97,116]⟩]) (by kernel_rfl) (by kernel_rfl) Tryz.underlying295 Tryz.underlying9 (by kernel_rfl) (by kernel_rfl) (nD 6 _ hL)
set_option maxRecDepth 100000 in
theorem lifted4 (os:Os) (started:os.Started) (H:Type) (enc:TypeId×Value→H) :
 ReturnsInHanded {} Tryz.checked os 4 .any (fun w args=>(Rows.recipeSafeSpec.pre enc Tryz.prog Tryz.f4 [] false w args∧laidMetH Tryz.prog L4 w)∧sizedMet enc Tryz.prog Tryz.f4 (OpenSpec.ofChange Rows.recipeSafeSpec) false w args)
  (Rows.recipeSafeSpec.post enc Tryz.prog Tryz.f4 false true false false):=by
 refine EX (C:=Tryz.checked) (X:=fun w _=>laidMetH Tryz.prog L4 w) (fun _ _ _ hh h=>h.of_heap hh) own4 started (by kernel_rfl) Tryz.func4
  (ChangeSpec.witness_shaped (enc:=enc) (C:=Tryz.checked) (os:=os) (X:=fun w _=>laidMetH Tryz.prog L4 w) false (World.laidAll Tryz.prog os L4) #[.agg #[.int .i64 0,.int .i64 0,.slice none 0 0,.slice none 0 0,.slice none 0 0,.slice none 0 0,.slice none 0 0,.int .i64 0,.int .i64 0],.slice none 0 0,.agg #[.int .i64 0,.int .i64 0,.int .i64 0]] 8 (World.laidAll_os _ _ _) (World.shaped_of_ZipB (by kernel_rfl) (by kernel_rfl)) (by kernel_rfl) (by kernel_rfl) (by kernel_rfl) (atI os _)) ?_
 intro W base args ds gs before hval hW hL hsh
 exact ZW (P:=Tryz.prog) (fn:=Tryz.f4) auc f4.valid azz rfl (fun ds h=>by
  rw [Tryz.params4] at h
  match ds,h with
  | [_,_,_],_=>exact ⟨rfl,rfl,rfl⟩) (by kernel_rfl) Tryz.underlying4 asg (by rw [Tryz.params4]; decide +kernel) (aty hL hsh) hval hW
end Go.Proofs.YtofkgmldcjagmaaGreatDoor
