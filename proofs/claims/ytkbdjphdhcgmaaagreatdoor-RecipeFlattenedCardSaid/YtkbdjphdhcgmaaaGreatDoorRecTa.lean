/- RecipeFlattened: for all arguments the law returns true, and its arguments read afterwards as they did. No condition. -/
import Derived.Test.YtkbdjphdhcgmaaaGreatDoorF31
import Derived.Test.YtkbdjphdhcgmaaaGreatDoorRecH
import Derived.Test.YtkbdjphdhcgmaaaGreatDoorAbsDoors
import Derived.Test.YtkbdjphdhcgmaaaGreatDoorRows
import Derived.Test.YtkbdjphdhcgmaaaGreatDoorCards
import Derived.Test.YtkbdjphdhcgmaaaGreatDoorTie
import Derived.ProofKit
import Derived.LaidMore
import Derived.Stop.Joined
import Derived.SevenTiedAt
set_option linter.unusedVariables false
set_option linter.unusedSimpArgs false
namespace Go.Proofs.YtkbdjphdhcgmaaaGreatDoor
open Go.dR Go.ChangeShapes Go.WideShapes Go.ChangeAt Go.RowKit
theorem YO {x:D} (h:Bf (.sl [.int,.int]) x):dR.Can 2 aT (aG bY x) x:=by
 generalize hs:Sh.sl [.int,.int]=sh at h
 cases h with
 | int n h=>cases hs
 | bool b=>cases hs
 | str s h=>cases hs
 | LC es n get h1 h2 h4 h3=>cases hs
 | sl es n get h1 h2 h3=>
  obtain rfl:[Sh.int,Sh.int]=es:=by injection hs
  refine ⟨rfl,rfl,(iE _).symm,fun i hi=>iw ?_⟩
  rw [iE] at hi
  rw [uM _ _ hi]
  have hi:i<n:=hi
  show iZ (get i) (aT (bY (get i)))
  have hl:=h1 i hi
  have c0:=h2 i 0 _ hi rfl
  have c1:=h2 i 1 _ hi rfl
  match hg:get i,hl with
  | [a,b],_=>
   rw [hg] at c0 c1
   simp only [List.getD_cons_zero,List.getD_cons_succ] at c0 c1
   cases c0
   cases c1
   exact ⟨.refl _,.refl _,trivial⟩
theorem YN {x:D} (h:Bf (.sl [.sl [.int,.int]]) x):dR.Can 1 aQ (aG bQ x) x:=by
 generalize hs:Sh.sl [.sl [.int,.int]]=sh at h
 cases h with
 | int n h=>cases hs
 | bool b=>cases hs
 | str s h=>cases hs
 | LC es n get h1 h2 h4 h3=>cases hs
 | sl es n get h1 h2 h3=>
  obtain rfl:[Sh.sl [.int,.int]]=es:=by injection hs
  refine ⟨rfl,rfl,(iE _).symm,fun i hi=>iw ?_⟩
  rw [iE] at hi
  rw [uM _ _ hi]
  have hi:i<n:=hi
  show iZ (get i) (aQ (bQ (get i)))
  have hl:=h1 i hi
  have c0:=h2 i 0 _ hi rfl
  match hg:get i,hl with
  | [a],_=>
   rw [hg] at c0
   simp only [List.getD_cons_zero,List.getD_cons_succ] at c0
   exact ⟨of_eq_true (mV (YO c0)),trivial⟩
theorem ahS {x:D} (h:Bf (.sl [.int]) x):dR.Can 1 cu (aG jM x) x:=by
 generalize hs:Sh.sl [.int]=sh at h
 cases h with
 | int n h=>cases hs
 | bool b=>cases hs
 | str s h=>cases hs
 | LC es n get h1 h2 h4 h3=>cases hs
 | sl es n get h1 h2 h3=>
  obtain rfl:[Sh.int]=es:=by injection hs
  refine ⟨rfl,rfl,(iE _).symm,fun i hi=>iw ?_⟩
  rw [iE] at hi
  rw [uM _ _ hi]
  have hi:i<n:=hi
  show iZ (get i) (cu (jM (get i)))
  have hl:=h1 i hi
  have c0:=h2 i 0 _ hi rfl
  match hg:get i,hl with
  | [a],_=>
   rw [hg] at c0
   simp only [List.getD_cons_zero,List.getD_cons_succ] at c0
   cases c0
   exact ⟨.refl _,trivial⟩
theorem aeo {d:D} (h:dR.Can 6 aZ (aG dN d) d):mG d (hE (hD d)):=by
 cases d with
 | sl s n g=>rw [afz]; exact of_eq_true (WG h)
 | _=>exact absurd h.1 Bool.false_ne_true
theorem JB {x:D} (h:Bf (.LC [.int,.int,.int,.int,.int]) x):dR.Can 6 aZ (aG dN x) x:=by
 generalize hs:Sh.LC [.int,.int,.int,.int,.int]=sh at h
 induction h with
 | int n h=>cases hs
 | bool b=>cases hs
 | str s h=>cases hs
 | sl es n get h1 h2 h3 ih=>cases hs
 | LC es n get h1 h2 h4 h3 ih2 ih4=>
  obtain rfl:[Sh.int,Sh.int,Sh.int,Sh.int,Sh.int]=es:=by injection hs
  refine ⟨rfl,rfl,(iE _).symm,fun i hi=>iw ?_⟩
  rw [iE] at hi
  rw [uM _ _ hi]
  have hi:i<n:=hi
  show iZ (get i) (aZ (dN (get i)))
  have hl:=h1 i hi
  have c0:=h2 i 0 _ hi rfl
  have c1:=h2 i 1 _ hi rfl
  have c2:=h2 i 2 _ hi rfl
  have c3:=h2 i 3 _ hi rfl
  have c4:=h2 i 4 _ hi rfl
  have cL:=ih4 i hi rfl
  match hg:get i,hl with
  | [a,b,c,d,e,f],_=>
   rw [hg] at c0 c1 c2 c3 c4 cL
   simp only [List.length_cons,List.length_nil,Nat.zero_add,Nat.reduceAdd,List.getD_cons_zero,List.getD_cons_succ] at c0 c1 c2 c3 c4 cL
   cases c0
   cases c1
   cases c2
   cases c3
   cases c4
   rw [Ho,dN]
   exact ⟨.refl _,.refl _,.refl _,.refl _,.refl _,aeo cL,trivial⟩
theorem aoK:ownKnob Tryz.prog.godebug=none:=by kernel_rfl
theorem ahb:laidOutB Tryz.prog=true:=by kernel_rfl
def sh5:List ASh:=[.agg [.int,.int,.sl [.int,.int],.sl [.sl [.int,.int]],.sl [.int],.sl [.int],.sl [.int,.int],.int,.int],.c (.LC [.int,.int,.int,.int,.int])]
theorem ahG:KN Tryz.prog Tryz.f5.params.toList sh5:=by
 rw [Tryz.params5]
 exact ⟨⟨by kernel_rfl,by rw [Tryz.underlying43]; trivial⟩,⟨by kernel_rfl,by rw [Tryz.underlying22]; trivial⟩,trivial⟩
theorem alB (xs:List Arg) (h:KD sh5 xs):T5.sp.pre xs/\T5.sp.res xs=[.c (.d (.bool true))]:=by
 match xs,h with
 | [.agg [asU,ar8,ar7,ar6,ar5,ar4,ar2,ar1,ar0],.c aqP],⟨⟨_,h0⟩,h1,_⟩=>
  have akP:=h0 0 _ rfl
  have akM:=h0 1 _ rfl
  have akL:=h0 2 _ rfl
  have akK:=h0 3 _ rfl
  have akE:=h0 4 _ rfl
  have akB:=h0 5 _ rfl
  have aky:=h0 6 _ rfl
  have akx:=h0 7 _ rfl
  have akw:=h0 8 _ rfl
  simp only [List.getD_cons_zero,List.getD_cons_succ] at akP akM akL akK akE akB aky akx akw
  have aqL:=mV (YO akL)
  have aqK:=mV (YN akK)
  have aqJ:=mV (ahS akE)
  have aqk:=mV (ahS akB)
  have aqj:=mV (YO aky)
  have aqi:=mV (JB h1)
  cases akP
  cases akM
  cases akx
  cases akw
  refine ⟨⟨⟨⟨.refl _,.refl _,of_eq_true aqL,of_eq_true aqK,of_eq_true aqJ,of_eq_true aqk,of_eq_true aqj,.refl _,.refl _,trivial⟩,of_eq_true aqi,trivial⟩,?_⟩,?_⟩
  ·show (r5 _ _ _ _ _ _ _ _ _ _).isSome=true
   rw [jr]; rfl
  ·show [RV.c (.d (.bool ((r5 _ _ _ _ _ _ _ _ _ _).getD default)))]=_
   rw [jr]; rfl
def L5:List (String×DataW Unit):=[("math/bits.deBruijn32tab",Rows.laid_math_bits_deBruijn32tab),("math/bits.deBruijn64tab",Rows.laid_math_bits_deBruijn64tab),("internal/strconv.uint64pow10",Rows.laid_internal_strconv_uint64pow10),("strconv.ErrRange",Rows.laid_strconv_ErrRange),("strconv.ErrSyntax",Rows.laid_strconv_ErrSyntax),("martensite/steel.directions",Rows.laid_martensite_steel_directions),("martensite/recipe.names",Rows.laid_martensite_recipe_names)]
theorem ahX (u:TypeId) (h:Tryz.prog.typeName? 3 u=some "*errors.errorString"):u=385:=
 typeName_ptr_named (nm:= "errors.errorString") (by rw [show "*" ++ "errors.errorString" = "*errors.errorString" by decide]; kernel_rfl) (by kernel_rfl) (by decide) u (by rw [show "*" ++ "errors.errorString" = "*errors.errorString" by decide]; exact h)
theorem QV:Tryz.prog.cellsOf 387=1:=by kernel_rfl
theorem QE:Tryz.prog.cellsOf 9=1:=by kernel_rfl
theorem aht (os:Os) (args:Array Value):laidMetH Tryz.prog L5 ((World.laidAll Tryz.prog os L5).forCall (fun _ _=>0) ⟨#[],args,[]⟩).memory:=by
 rw [MakeChecks.laidMetH_plain _ _ _ (by kernel_rfl)]; exact laidMet_laidAll _ (by kernel_rfl) (by kernel_rfl)
theorem ahp {W:World} (hL0:laidMetH Tryz.prog L5 W) (hsh:W.ShapedOpen Tryz.prog):rH W:=by
 have hL:laidMet Tryz.prog L5 W:=by rw [MakeChecks.laidMetH_plain _ _ _ (by kernel_rfl)] at hL0; exact hL0
 refine ⟨fun g l hm=> ?_,fun g p hm=> ?_⟩
 ·simp only [glb,List.mem_cons,List.mem_nil_iff,or_false,Prod.mk.injEq] at hm
  obtain ⟨rfl,rfl⟩:=hm
  exact JA (n:= "martensite/steel.directions") (g:=0) (t:=79) (e:=3) (l:=[1,0,(-1),0]) (by kernel_rfl) (by kernel_rfl) Tryz.underlying79 Tryz.underlying3 (by kernel_rfl) (by kernel_rfl) (by decide) (ng 5 _ hL)
 ·simp only [auB,ahi,afB,List.map_cons,List.map_nil,List.cons_append,List.nil_append,List.mem_cons,List.mem_nil_iff,or_false,Prod.mk.injEq] at hm
  rcases hm with ⟨rfl,rfl⟩ | ⟨rfl,rfl⟩ | ⟨rfl,rfl⟩ | ⟨rfl,rfl⟩ | ⟨rfl,rfl⟩
  ·exact by obtain ⟨T,z,h⟩:=xK (k:= .u64) (n:= "internal/strconv.uint64pow10") (g:=2) (t:=320) (e:=293) (l:=[1,10,100,1000,10000,100000,1000000,10000000,100000000,1000000000,10000000000,100000000000,1000000000000,10000000000000,100000000000000,1000000000000000,10000000000000000,100000000000000000,1000000000000000000,10000000000000000000]) (by kernel_rfl) (by kernel_rfl) Tryz.underlying320 Tryz.underlying293 (by kernel_rfl) (by kernel_rfl) (ng 2 _ hL); exact ⟨_,T,z,h,rfl⟩
  ·exact Nb (cell_of_shapedOpen_int (P:=Tryz.prog) (g:=3) (t:=3) (zero:= #[.int .i64 0]) hsh (of_decide_eq_true (by kernel_rfl)) (by kernel_rfl) rfl (by kernel_rfl) (by kernel_rfl) Tryz.underlying3)
  ·exact Ae (n:= "strconv.ErrSyntax") (g:=6) (ti:=194) (tp:=385) (te:=387) (ts:=9) (by kernel_rfl) (by kernel_rfl) Tryz.underlying194 ahX Tryz.underlying385 Tryz.underlying387 rfl rfl Tryz.underlying9 QV QE (ng 4 _ hL)
  ·exact Ae (n:= "strconv.ErrRange") (g:=7) (ti:=194) (tp:=385) (te:=387) (ts:=9) (by kernel_rfl) (by kernel_rfl) Tryz.underlying194 ahX Tryz.underlying385 Tryz.underlying387 rfl rfl Tryz.underlying9 QV QE (ng 3 _ hL)
  ·exact IW (n:= "martensite/recipe.names") (g:=1) (t:=290) (e:=9) (l:=[⟨#[104,101,97,116]⟩,⟨#[100,119,101,108,108]⟩,⟨#[113,117,101,110,99,104]⟩,⟨#[117,110,116,105,108]⟩,⟨#[99,111,111,108]⟩,⟨#[114,101,112,101,97,116]⟩]) (by kernel_rfl) (by kernel_rfl) Tryz.underlying290 Tryz.underlying9 (by kernel_rfl) (by kernel_rfl) (ng 6 _ hL)
set_option maxRecDepth 100000 in
theorem lifted5 (os:Os) (started:os.Started) (H:Type) (enc:TypeId×Value->H) :
 ReturnsInHanded {} Tryz.checked os 5 .any (fun w args=>(Rows.recipeFlattenedSpec.pre enc Tryz.prog Tryz.f5 [] false w args/\laidMetH Tryz.prog L5 w)/\sizedMet enc Tryz.prog Tryz.f5 (OpenSpec.ofChange Rows.recipeFlattenedSpec) false w args)
  (Rows.recipeFlattenedSpec.post enc Tryz.prog Tryz.f5 false true false false):=by
 refine FN (C:=Tryz.checked) (X:=fun w _=>laidMetH Tryz.prog L5 w) (fun _ _ _ hh h=>h.of_heap hh) aoK started (by kernel_rfl) Tryz.func5
  (ChangeSpec.witness_shaped (enc:=enc) (C:=Tryz.checked) (os:=os) (X:=fun w _=>laidMetH Tryz.prog L5 w) false (World.laidAll Tryz.prog os L5) #[.agg #[.int .i64 0,.int .i64 0,.slice none 0 0,.slice none 0 0,.slice none 0 0,.slice none 0 0,.slice none 0 0,.int .i64 0,.int .i64 0],.slice none 0 0] 8 (World.laidAll_os _ _ _) (World.shaped_of_ZipB (by kernel_rfl) (by kernel_rfl)) (by kernel_rfl) (by kernel_rfl) (by kernel_rfl) (aht os _)) ?_
 intro W base args ds gs before hval hW hL hsh
 exact aaP (P:=Tryz.prog) (fn:=Tryz.f5) ahG f5.valid alB rfl (fun ds h=>by
  rw [Tryz.params5] at h
  match ds,h with
  | [_,_],_=>exact ⟨rfl,rfl,rfl⟩) (by kernel_rfl) Tryz.underlying4 ahb (by rw [Tryz.params5]; decide +kernel) (ahp hL hsh) hval hW
end Go.Proofs.YtkbdjphdhcgmaaaGreatDoor
