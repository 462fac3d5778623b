/- RecipeBenches: for all arguments the law returns true, and its arguments read afterwards as they did. No condition. -/
import Derived.Test.YtofkgmldcjagmaaGreatDoorRcpBen
import Derived.Test.YtofkgmldcjagmaaGreatDoorAbsDoors
import Derived.Test.YtofkgmldcjagmaaGreatDoorRows
import Derived.Test.YtofkgmldcjagmaaGreatDoorCards
import Derived.Test.YtofkgmldcjagmaaGreatDoorTie
import Derived.ProofKit
import Derived.LaidMore
import Derived.Stop.Joined
import Derived.SevenTiedAt
set_option linter.unusedVariables false
set_option linter.unusedSimpArgs false
namespace Go.Proofs.YtofkgmldcjagmaaGreatDoor
open Go.dJ Go.ChangeShapes Go.WideShapes Go.ChangeAt Go.RowKit
theorem Q5 {x:D} (h:Au (.sl [.int,.int]) x):dJ.Can 2 aO (aG bY x) x:=by
 generalize hs:Sh.sl [.int,.int]=sh at h
 cases h with
 | int n h=>cases hs
 | bool b=>cases hs
 | str s h=>cases hs
 | VK es n get h1 h2 h4 h3=>cases hs
 | sl es n get h1 h2 h3=>
  obtain rfl:[Sh.int,Sh.int]=es:=by injection hs
  refine ⟨rfl,rfl,(jH _).symm,fun i hi=>iO ?_⟩
  rw [jH] at hi
  rw [yO _ _ hi]
  have hi:i<n:=hi
  show jc (get i) (aO (bY (get i)))
  have hl:=h1 i hi
  have c0:=h2 i 0 _ hi rfl
  have c1:=h2 i 1 _ hi rfl
  match hg:get i,hl with
  | [a,b],_=>
   rw [hg] at c0 c1
   simp only [List.getD_cons_zero,List.getD_cons_succ] at c0 c1
   cases c0
   cases c1
   exact ⟨.refl _,.refl _,trivial⟩
theorem ab8 {x:D} (h:Au (.sl [.sl [.int,.int]]) x):dJ.Can 1 aN (aG bP x) x:=by
 generalize hs:Sh.sl [.sl [.int,.int]]=sh at h
 cases h with
 | int n h=>cases hs
 | bool b=>cases hs
 | str s h=>cases hs
 | VK es n get h1 h2 h4 h3=>cases hs
 | sl es n get h1 h2 h3=>
  obtain rfl:[Sh.sl [.int,.int]]=es:=by injection hs
  refine ⟨rfl,rfl,(jH _).symm,fun i hi=>iO ?_⟩
  rw [jH] at hi
  rw [yO _ _ hi]
  have hi:i<n:=hi
  show jc (get i) (aN (bP (get i)))
  have hl:=h1 i hi
  have c0:=h2 i 0 _ hi rfl
  match hg:get i,hl with
  | [a],_=>
   rw [hg] at c0
   simp only [List.getD_cons_zero,List.getD_cons_succ] at c0
   exact ⟨of_eq_true (mQ (Q5 c0)),trivial⟩
theorem akm {x:D} (h:Au (.sl [.int]) x):dJ.Can 1 cO (aG jM x) x:=by
 generalize hs:Sh.sl [.int]=sh at h
 cases h with
 | int n h=>cases hs
 | bool b=>cases hs
 | str s h=>cases hs
 | VK es n get h1 h2 h4 h3=>cases hs
 | sl es n get h1 h2 h3=>
  obtain rfl:[Sh.int]=es:=by injection hs
  refine ⟨rfl,rfl,(jH _).symm,fun i hi=>iO ?_⟩
  rw [jH] at hi
  rw [yO _ _ hi]
  have hi:i<n:=hi
  show jc (get i) (cO (jM (get i)))
  have hl:=h1 i hi
  have c0:=h2 i 0 _ hi rfl
  match hg:get i,hl with
  | [a],_=>
   rw [hg] at c0
   simp only [List.getD_cons_zero,List.getD_cons_succ] at c0
   cases c0
   exact ⟨.refl _,trivial⟩
theorem azw:ownKnob Tryz.prog.godebug=none:=by kernel_rfl
theorem arJ:laidOutB Tryz.prog=true:=by kernel_rfl
def sh5:List ASh:=[.agg [.int,.int,.sl [.int,.int],.sl [.sl [.int,.int]],.sl [.int],.sl [.int],.sl [.int,.int],.int,.int],.c (.sl [.int,.int])]
theorem atD:JA Tryz.prog Tryz.f5.params.toList sh5:=by
 rw [Tryz.params5]
 exact ⟨⟨by kernel_rfl,by rw [Tryz.underlying31]; trivial⟩,⟨by kernel_rfl,by rw [Tryz.underlying32]; trivial⟩,trivial⟩
theorem ay' (xs:List Arg) (h:Jr sh5 xs):T5.sp.pre xs∧T5.sp.res xs=[.c (.d (.bool true))]:=by
 match xs,h with
 | [.agg [aDF,aDE,aDD,aDC,aDB,aDA,aDz,aDy,aDx],.c aDw],⟨⟨_,h0⟩,h1,_⟩=>
  have atB:=h0 0 _ rfl
  have atA:=h0 1 _ rfl
  have atz:=h0 2 _ rfl
  have aty:=h0 3 _ rfl
  have atx:=h0 4 _ rfl
  have atw:=h0 5 _ rfl
  have atv:=h0 6 _ rfl
  have atu:=h0 7 _ rfl
  have att:=h0 8 _ rfl
  simp only [List.getD_cons_zero,List.getD_cons_succ] at atB atA atz aty atx atw atv atu att
  have aAM:=mQ (Q5 atz)
  have aAL:=mQ (ab8 aty)
  have aAK:=mQ (akm atx)
  have aAJ:=mQ (akm atw)
  have aAI:=mQ (Q5 atv)
  have aAH:=mQ (Q5 h1)
  cases atB
  cases atA
  cases atu
  cases att
  refine ⟨⟨⟨⟨.refl _,.refl _,of_eq_true aAM,of_eq_true aAL,of_eq_true aAK,of_eq_true aAJ,of_eq_true aAI,.refl _,.refl _,trivial⟩,of_eq_true aAH,trivial⟩,?_⟩,?_⟩
  ·show (r5 _ _ _ _ _ _ _ _ _ _).isSome=true
   rw [oC]; rfl
  ·show [RV.c (.d (.bool ((r5 _ _ _ _ _ _ _ _ _ _).getD default)))]=_
   rw [oC]; rfl
def L5:List (String×DataW Unit):=[("math/bits.deBruijn32tab",Rows.laid_math_bits_deBruijn32tab),("math/bits.deBruijn64tab",Rows.laid_math_bits_deBruijn64tab),("internal/strconv.uint64pow10",Rows.laid_internal_strconv_uint64pow10),("strconv.ErrRange",Rows.laid_strconv_ErrRange),("strconv.ErrSyntax",Rows.laid_strconv_ErrSyntax),("martensite/steel.directions",Rows.laid_martensite_steel_directions),("martensite/recipe.names",Rows.laid_martensite_recipe_names)]
theorem anh (u:TypeId) (h:Tryz.prog.typeName? 3 u=some "*errors.errorString"):u=388:=
 typeName_ptr_named (nm:= "errors.errorString") (by rw [show "*" ++ "errors.errorString" = "*errors.errorString" by decide]; kernel_rfl) (by kernel_rfl) (by decide) u (by rw [show "*" ++ "errors.errorString" = "*errors.errorString" by decide]; exact h)
theorem Vk:Tryz.prog.cellsOf 390=1:=by kernel_rfl
theorem Vj:Tryz.prog.cellsOf 9=1:=by kernel_rfl
theorem ate (os:Os) (args:Array Value):laidMetH Tryz.prog L5 ((World.laidAll Tryz.prog os L5).forCall (fun _ _=>0) ⟨#[],args,[]⟩).memory:=by
 rw [MakeChecks.laidMetH_plain _ _ _ (by kernel_rfl)]; exact laidMet_laidAll _ (by kernel_rfl) (by kernel_rfl)
theorem as4 {W:World} (hL0:laidMetH Tryz.prog L5 W) (hsh:W.ShapedOpen Tryz.prog):qR W:=by
 have hL:laidMet Tryz.prog L5 W:=by rw [MakeChecks.laidMetH_plain _ _ _ (by kernel_rfl)] at hL0; exact hL0
 refine ⟨fun g l hm=> ?_,fun g p hm=> ?_⟩
 ·simp only [glb,List.mem_cons,List.mem_nil_iff,or_false,Prod.mk.injEq] at hm
  obtain ⟨rfl,rfl⟩:=hm
  exact Iy (n:= "martensite/steel.directions") (g:=0) (t:=83) (e:=3) (l:=[1,0,(-1),0]) (by kernel_rfl) (by kernel_rfl) Tryz.underlying83 Tryz.underlying3 (by kernel_rfl) (by kernel_rfl) (by decide) (mZ 5 _ hL)
 ·simp only [as5,afW,aek,List.map_cons,List.map_nil,List.cons_append,List.nil_append,List.mem_cons,List.mem_nil_iff,or_false,Prod.mk.injEq] at hm
  rcases hm with ⟨rfl,rfl⟩ | ⟨rfl,rfl⟩ | ⟨rfl,rfl⟩ | ⟨rfl,rfl⟩ | ⟨rfl,rfl⟩
  ·exact by obtain ⟨T,z,h⟩:=wW (k:= .u64) (n:= "internal/strconv.uint64pow10") (g:=2) (t:=327) (e:=303) (l:=[1,10,100,1000,10000,100000,1000000,10000000,100000000,1000000000,10000000000,100000000000,1000000000000,10000000000000,100000000000000,1000000000000000,10000000000000000,100000000000000000,1000000000000000000,10000000000000000000]) (by kernel_rfl) (by kernel_rfl) Tryz.underlying327 Tryz.underlying303 (by kernel_rfl) (by kernel_rfl) (mZ 2 _ hL); exact ⟨_,T,z,h,rfl⟩
  ·exact Le (cell_of_shapedOpen_int (P:=Tryz.prog) (g:=3) (t:=3) (zero:= #[.int .i64 0]) hsh (of_decide_eq_true (by kernel_rfl)) (by kernel_rfl) rfl (by kernel_rfl) (by kernel_rfl) Tryz.underlying3)
  ·exact zI (n:= "strconv.ErrSyntax") (g:=6) (ti:=210) (tp:=388) (te:=390) (ts:=9) (by kernel_rfl) (by kernel_rfl) Tryz.underlying210 anh Tryz.underlying388 Tryz.underlying390 rfl rfl Tryz.underlying9 Vk Vj (mZ 4 _ hL)
  ·exact zI (n:= "strconv.ErrRange") (g:=7) (ti:=210) (tp:=388) (te:=390) (ts:=9) (by kernel_rfl) (by kernel_rfl) Tryz.underlying210 anh Tryz.underlying388 Tryz.underlying390 rfl rfl Tryz.underlying9 Vk Vj (mZ 3 _ hL)
  ·exact Hg (n:= "martensite/recipe.names") (g:=1) (t:=295) (e:=9) (l:=[⟨#[104,101,97,116]⟩,⟨#[100,119,101,108,108]⟩,⟨#[113,117,101,110,99,104]⟩,⟨#[117,110,116,105,108]⟩,⟨#[99,111,111,108]⟩,⟨#[114,101,112,101,97,116]⟩]) (by kernel_rfl) (by kernel_rfl) Tryz.underlying295 Tryz.underlying9 (by kernel_rfl) (by kernel_rfl) (mZ 6 _ hL)
set_option maxRecDepth 100000 in
theorem lifted5 (os:Os) (started:os.Started) (H:Type) (enc:TypeId×Value→H) :
 ReturnsInHanded {} Tryz.checked os 5 .any (fun w args=>(Rows.recipeBenchesSpec.pre enc Tryz.prog Tryz.f5 [] false w args∧laidMetH Tryz.prog L5 w)∧sizedMet enc Tryz.prog Tryz.f5 (OpenSpec.ofChange Rows.recipeBenchesSpec) false w args)
  (Rows.recipeBenchesSpec.post enc Tryz.prog Tryz.f5 false true false false):=by
 refine Ez (C:=Tryz.checked) (X:=fun w _=>laidMetH Tryz.prog L5 w) (fun _ _ _ hh h=>h.of_heap hh) azw started (by kernel_rfl) Tryz.func5
  (ChangeSpec.witness_shaped (enc:=enc) (C:=Tryz.checked) (os:=os) (X:=fun w _=>laidMetH Tryz.prog L5 w) false (World.laidAll Tryz.prog os L5) #[.agg #[.int .i64 0,.int .i64 0,.slice none 0 0,.slice none 0 0,.slice none 0 0,.slice none 0 0,.slice none 0 0,.int .i64 0,.int .i64 0],.slice none 0 0] 8 (World.laidAll_os _ _ _) (World.shaped_of_ZipB (by kernel_rfl) (by kernel_rfl)) (by kernel_rfl) (by kernel_rfl) (by kernel_rfl) (ate os _)) ?_
 intro W base args ds gs before hval hW hL hsh
 exact Zn (P:=Tryz.prog) (fn:=Tryz.f5) atD f5.valid ay' rfl (fun ds h=>by
  rw [Tryz.params5] at h
  match ds,h with
  | [_,_],_=>exact ⟨rfl,rfl,rfl⟩) (by kernel_rfl) Tryz.underlying4 arJ (by rw [Tryz.params5]; decide +kernel) (as4 hL hsh) hval hW
end Go.Proofs.YtofkgmldcjagmaaGreatDoor
