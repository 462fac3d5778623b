/- RecipeWider: for all arguments the law returns true, and its arguments read afterwards as they did. No condition. -/
import Derived.Test.YtnepigpnlnmlmaaGreatDoorRbA
import Derived.Test.YtnepigpnlnmlmaaGreatDoorAbsDoors
import Derived.Test.YtnepigpnlnmlmaaGreatDoorRows
import Derived.Test.YtnepigpnlnmlmaaGreatDoorCards
import Derived.Test.YtnepigpnlnmlmaaGreatDoorTie
import Derived.ProofKit
import Derived.LaidMore
import Derived.Stop.Joined
import Derived.SevenTiedAt
set_option linter.unusedVariables false
set_option linter.unusedSimpArgs false
namespace Go.Proofs.YtnepigpnlnmlmaaGreatDoor
open Go.Proofs.Tryz Go.dR Go.ChangeShapes Go.WideShapes Go.ChangeAt Go.RowKit
theorem OH {x:D} (h:Dh (.sl [.int,.int]) x):dR.Can 2 aQ (aN bZ x) x:=by
 generalize hs:Sh.sl [.int,.int]=sh at h
 cases h with
 | int n h=>cases hs
 | bool b=>cases hs
 | str s h=>cases hs
 | Si es n get h1 h2 h4 h3=>cases hs
 | sl es n get h1 h2 h3=>
  obtain rfl:[Sh.int,Sh.int]=es:=by injection hs
  refine ⟨rfl,rfl,(dZ _).symm,λi hi=>gY ?_⟩
  rw [dZ] at hi
  rw [oZ _ _ hi]
  have hi:i<n:=hi
  show jd (get i) (aQ (bZ (get i)))
  have hl:=h1 i hi
  have c0:=h2 i 0 _ hi rfl
  have c1:=h2 i 1 _ hi rfl
  match hg:get i,hl with
  | [a,b],_=>
   rw [hg] at c0 c1
   simp only [List.getD_cons_zero,List.getD_cons_succ] at c0 c1
   cases c0
   cases c1
   exact ⟨.refl _,.refl _,trivial⟩
theorem afs {x:D} (h:Dh (.sl [.sl [.int,.int]]) x):dR.Can 1 aU (aN bW x) x:=by
 generalize hs:Sh.sl [.sl [.int,.int]]=sh at h
 cases h with
 | int n h=>cases hs
 | bool b=>cases hs
 | str s h=>cases hs
 | Si es n get h1 h2 h4 h3=>cases hs
 | sl es n get h1 h2 h3=>
  obtain rfl:[Sh.sl [.int,.int]]=es:=by injection hs
  refine ⟨rfl,rfl,(dZ _).symm,λi hi=>gY ?_⟩
  rw [dZ] at hi
  rw [oZ _ _ hi]
  have hi:i<n:=hi
  show jd (get i) (aU (bW (get i)))
  have hl:=h1 i hi
  have c0:=h2 i 0 _ hi rfl
  match hg:get i,hl with
  | [a],_=>
   rw [hg] at c0
   simp only [List.getD_cons_zero,List.getD_cons_succ] at c0
   exact ⟨of_eq_true (jP (OH c0)),trivial⟩
theorem ano {x:D} (h:Dh (.sl [.int]) x):dR.Can 1 dh (aN kV x) x:=by
 generalize hs:Sh.sl [.int]=sh at h
 cases h with
 | int n h=>cases hs
 | bool b=>cases hs
 | str s h=>cases hs
 | Si es n get h1 h2 h4 h3=>cases hs
 | sl es n get h1 h2 h3=>
  obtain rfl:[Sh.int]=es:=by injection hs
  refine ⟨rfl,rfl,(dZ _).symm,λi hi=>gY ?_⟩
  rw [dZ] at hi
  rw [oZ _ _ hi]
  have hi:i<n:=hi
  show jd (get i) (dh (kV (get i)))
  have hl:=h1 i hi
  have c0:=h2 i 0 _ hi rfl
  match hg:get i,hl with
  | [a],_=>
   rw [hg] at c0
   simp only [List.getD_cons_zero,List.getD_cons_succ] at c0
   cases c0
   exact ⟨.refl _,trivial⟩
theorem aft {x:D} (h:Dh (.sl [.int,.int,.int,.int]) x):dR.Can 4 bV (aN jo x) x:=by
 generalize hs:Sh.sl [.int,.int,.int,.int]=sh at h
 cases h with
 | int n h=>cases hs
 | bool b=>cases hs
 | str s h=>cases hs
 | Si es n get h1 h2 h4 h3=>cases hs
 | sl es n get h1 h2 h3=>
  obtain rfl:[Sh.int,Sh.int,Sh.int,Sh.int]=es:=by injection hs
  refine ⟨rfl,rfl,(dZ _).symm,λi hi=>gY ?_⟩
  rw [dZ] at hi
  rw [oZ _ _ hi]
  have hi:i<n:=hi
  show jd (get i) (bV (jo (get i)))
  have hl:=h1 i hi
  have c0:=h2 i 0 _ hi rfl
  have c1:=h2 i 1 _ hi rfl
  have c2:=h2 i 2 _ hi rfl
  have c3:=h2 i 3 _ hi rfl
  match hg:get i,hl with
  | [a,b,c,d],_=>
   rw [hg] at c0 c1 c2 c3
   simp only [List.getD_cons_zero,List.getD_cons_succ] at c0 c1 c2 c3
   cases c0
   cases c1
   cases c2
   cases c3
   exact ⟨.refl _,.refl _,.refl _,.refl _,trivial⟩
theorem aaR {x:D} (h:Dh (.sl [.int,.int,.int,.int,.int]) x):dR.Can 5 bI (aN gq x) x:=by
 generalize hs:Sh.sl [.int,.int,.int,.int,.int]=sh at h
 cases h with
 | int n h=>cases hs
 | bool b=>cases hs
 | str s h=>cases hs
 | Si es n get h1 h2 h4 h3=>cases hs
 | sl es n get h1 h2 h3=>
  obtain rfl:[Sh.int,Sh.int,Sh.int,Sh.int,Sh.int]=es:=by injection hs
  refine ⟨rfl,rfl,(dZ _).symm,λi hi=>gY ?_⟩
  rw [dZ] at hi
  rw [oZ _ _ hi]
  have hi:i<n:=hi
  show jd (get i) (bI (gq (get i)))
  have hl:=h1 i hi
  have c0:=h2 i 0 _ hi rfl
  have c1:=h2 i 1 _ hi rfl
  have c2:=h2 i 2 _ hi rfl
  have c3:=h2 i 3 _ hi rfl
  have c4:=h2 i 4 _ hi rfl
  match hg:get i,hl with
  | [a,b,c,d,e],_=>
   rw [hg] at c0 c1 c2 c3 c4
   simp only [List.getD_cons_zero,List.getD_cons_succ] at c0 c1 c2 c3 c4
   cases c0
   cases c1
   cases c2
   cases c3
   cases c4
   exact ⟨.refl _,.refl _,.refl _,.refl _,.refl _,trivial⟩
theorem aaS {x:D} (h:Dh (.sl [.int,.int,.int]) x):dR.Can 3 bU (aN jc x) x:=by
 generalize hs:Sh.sl [.int,.int,.int]=sh at h
 cases h with
 | int n h=>cases hs
 | bool b=>cases hs
 | str s h=>cases hs
 | Si es n get h1 h2 h4 h3=>cases hs
 | sl es n get h1 h2 h3=>
  obtain rfl:[Sh.int,Sh.int,Sh.int]=es:=by injection hs
  refine ⟨rfl,rfl,(dZ _).symm,λi hi=>gY ?_⟩
  rw [dZ] at hi
  rw [oZ _ _ hi]
  have hi:i<n:=hi
  show jd (get i) (bU (jc (get i)))
  have hl:=h1 i hi
  have c0:=h2 i 0 _ hi rfl
  have c1:=h2 i 1 _ hi rfl
  have c2:=h2 i 2 _ hi rfl
  match hg:get i,hl with
  | [a,b,c],_=>
   rw [hg] at c0 c1 c2
   simp only [List.getD_cons_zero,List.getD_cons_succ] at c0 c1 c2
   cases c0
   cases c1
   cases c2
   exact ⟨.refl _,.refl _,.refl _,trivial⟩
theorem aC3:ownKnob prog.godebug=none:=by kernel_rfl
theorem avj:laidOutB prog=true:=by kernel_rfl
def sh6:List ASh:=[.agg [.int,.int,.sl [.int,.int],.sl [.sl [.int,.int]],.sl [.int],.sl [.int],.sl [.int,.int],.int,.int,.sl [.int,.int,.int,.int],.sl [.int,.int,.int,.int,.int],.sl [.int,.int,.int],.sl [.int,.int],.int,.int,.int,.int,.sl [.int,.int,.int],.int],.c (.sl [.int,.int]),.c (.int)]
theorem axg:OB prog Tryz.f6.params.toList sh6:=by
 rw [params6]
 exact ⟨⟨by kernel_rfl,by rw [underlying59]; trivial⟩,⟨by kernel_rfl,by rw [underlying60]; trivial⟩,⟨by kernel_rfl,by rw [underlying3]; trivial⟩,trivial⟩
theorem pre6 (xs:List Arg) (h:Oq sh6 xs):T6.sp.pre xs/\T6.sp.res xs=[.c (.d (.bool true))]:=by
 match xs,h with
 | [.agg [aHc,aHb,aHa,aG',aG9,aG8,aG7,aG6,aG5,aG4,aES,aER,aEQ,aEP,aEO,aEN,aEM,aEL,aEK],.c aG3,.c aG2],⟨⟨_,h0⟩,h1,h2,_⟩=>
  have axe:=h0 0 _ rfl
  have axd:=h0 1 _ rfl
  have axc:=h0 2 _ rfl
  have axb:=h0 3 _ rfl
  have axa:=h0 4 _ rfl
  have aw':=h0 5 _ rfl
  have aw9:=h0 6 _ rfl
  have aw8:=h0 7 _ rfl
  have aw7:=h0 8 _ rfl
  have aw6:=h0 9 _ rfl
  have ajn:=h0 10 _ rfl
  have ajm:=h0 11 _ rfl
  have ajl:=h0 12 _ rfl
  have ajk:=h0 13 _ rfl
  have ajj:=h0 14 _ rfl
  have aji:=h0 15 _ rfl
  have ajh:=h0 16 _ rfl
  have ajg:=h0 17 _ rfl
  have ajf:=h0 18 _ rfl
  simp only [List.getD_cons_zero,List.getD_cons_succ] at axe axd axc axb axa aw' aw9 aw8 aw7 aw6 ajn ajm ajl ajk ajj aji ajh ajg ajf
  have aEi:=jP (OH axc)
  have aEh:=jP (afs axb)
  have aEg:=jP (ano axa)
  have aEf:=jP (ano aw')
  have aEe:=jP (OH aw9)
  have aEd:=jP (aft aw6)
  have awV:=jP (aaR ajn)
  have awU:=jP (aaS ajm)
  have awT:=jP (OH ajl)
  have awS:=jP (aaS ajg)
  have aEc:=jP (OH h1)
  cases axe
  cases axd
  cases aw8
  cases aw7
  cases ajk
  cases ajj
  cases aji
  cases ajh
  cases ajf
  cases h2
  refine ⟨⟨⟨⟨.refl _,.refl _,of_eq_true aEi,of_eq_true aEh,of_eq_true aEg,of_eq_true aEf,of_eq_true aEe,.refl _,.refl _,of_eq_true aEd,of_eq_true awV,of_eq_true awU,of_eq_true awT,.refl _,.refl _,.refl _,.refl _,of_eq_true awS,.refl _,trivial⟩,of_eq_true aEc,.refl _,trivial⟩,?_⟩,?_⟩
  ·show (r6 _ _ _ _ _ _ _ _ _ _ _ _ _ _ _ _ _ _ _ _ _).isSome=true
   rw [uH]; rfl
  ·show [RV.c (.d (.bool ((r6 _ _ _ _ _ _ _ _ _ _ _ _ _ _ _ _ _ _ _ _ _).getD default)))]=_
   rw [uH]; rfl
def L6:List (String×DataW Unit):=[("math/bits.deBruijn32tab",Rows.laid_math_bits_deBruijn32tab),("math/bits.deBruijn64tab",Rows.laid_math_bits_deBruijn64tab),("internal/strconv.uint64pow10",Rows.laid_internal_strconv_uint64pow10),("strconv.ErrRange",Rows.laid_strconv_ErrRange),("strconv.ErrSyntax",Rows.laid_strconv_ErrSyntax),("martensite/steel.directions",Rows.laid_martensite_steel_directions),("martensite/recipe.names",Rows.laid_martensite_recipe_names)]
theorem aqI (u:TypeId) (h:prog.typeName? 3 u=some "*errors.errorString"):u=467:=
 typeName_ptr_named (nm:= "errors.errorString") (by rw [show "*" ++ "errors.errorString" = "*errors.errorString" by decide]; kernel_rfl) (by kernel_rfl) (by decide) u (by rw [show "*" ++ "errors.errorString" = "*errors.errorString" by decide]; exact h)
theorem Yb:prog.cellsOf 469=1:=by kernel_rfl
theorem Ya:prog.cellsOf 9=1:=by kernel_rfl
theorem awX (os:Os) (args:Array Value):laidMetH prog L6 ((World.laidAll prog os L6).forCall (λ_ _=>0) ⟨#[],args,[]⟩).memory:=by
 rw [MakeChecks.laidMetH_plain _ _ _ (by kernel_rfl)]; exact laidMet_laidAll _ (by kernel_rfl) (by kernel_rfl)
theorem awI {W:World} (hL0:laidMetH prog L6 W) (hsh:W.ShapedOpen prog):uw W:=by
 have hL:laidMet prog L6 W:=by rw [MakeChecks.laidMetH_plain _ _ _ (by kernel_rfl)] at hL0; exact hL0
 refine ⟨λg l hm=> ?_,λg p hm=> ?_⟩
 ·simp only [glb,List.mem_cons,List.mem_nil_iff,or_false,Prod.mk.injEq] at hm
  obtain ⟨rfl,rfl⟩:=hm
  exact Ns (n:= "martensite/steel.directions") (g:=0) (t:=54) (e:=3) (l:=[1,0,(-1),0]) (by kernel_rfl) (by kernel_rfl) underlying54 underlying3 (by kernel_rfl) (by kernel_rfl) (by decide) (oU 5 _ hL)
 ·simp only [awJ,ai9,ahl,List.map_cons,List.map_nil,List.cons_append,List.nil_append,List.mem_cons,List.mem_nil_iff,or_false,Prod.mk.injEq] at hm
  rcases hm with ⟨rfl,rfl⟩ | ⟨rfl,rfl⟩ | ⟨rfl,rfl⟩ | ⟨rfl,rfl⟩ | ⟨rfl,rfl⟩
  ·exact by obtain ⟨T,z,h⟩:=zY (k:= .u64) (n:= "internal/strconv.uint64pow10") (g:=2) (t:=431) (e:=404) (l:=[1,10,100,1000,10000,100000,1000000,10000000,100000000,1000000000,10000000000,100000000000,1000000000000,10000000000000,100000000000000,1000000000000000,10000000000000000,100000000000000000,1000000000000000000,10000000000000000000]) (by kernel_rfl) (by kernel_rfl) underlying431 underlying404 (by kernel_rfl) (by kernel_rfl) (oU 2 _ hL); exact ⟨_,T,z,h,rfl⟩
  ·exact Qu (cell_of_shapedOpen_int (P:=prog) (g:=3) (t:=3) (zero:= #[.int .i64 0]) hsh (of_decide_eq_true (by kernel_rfl)) (by kernel_rfl) rfl (by kernel_rfl) (by kernel_rfl) underlying3)
  ·exact DL (n:= "strconv.ErrSyntax") (g:=6) (ti:=300) (tp:=467) (te:=469) (ts:=9) (by kernel_rfl) (by kernel_rfl) underlying300 aqI underlying467 underlying469 rfl rfl underlying9 Yb Ya (oU 4 _ hL)
  ·exact DL (n:= "strconv.ErrRange") (g:=7) (ti:=300) (tp:=467) (te:=469) (ts:=9) (by kernel_rfl) (by kernel_rfl) underlying300 aqI underlying467 underlying469 rfl rfl underlying9 Yb Ya (oU 3 _ hL)
  ·exact LU (n:= "martensite/recipe.names") (g:=1) (t:=401) (e:=9) (l:=[⟨#[104,101,97,116]⟩,⟨#[100,119,101,108,108]⟩,⟨#[113,117,101,110,99,104]⟩,⟨#[117,110,116,105,108]⟩,⟨#[99,111,111,108]⟩,⟨#[114,101,112,101,97,116]⟩]) (by kernel_rfl) (by kernel_rfl) underlying401 underlying9 (by kernel_rfl) (by kernel_rfl) (oU 6 _ hL)
set_option maxRecDepth 100000 in
theorem lifted6 (os:Os) (started:os.Started) (H:Type) (enc:TypeId×Value->H) :
 ReturnsInHanded {} Tryz.checked os 6 .any (λw args=>(Rows.recipeWiderSpec.pre enc prog Tryz.f6 [] false w args/\laidMetH prog L6 w)/\sizedMet enc prog Tryz.f6 (OpenSpec.ofChange Rows.recipeWiderSpec) false w args)
  (Rows.recipeWiderSpec.post enc prog Tryz.f6 false true false false):=by
 refine Jk (C:=Tryz.checked) (X:=λw _=>laidMetH prog L6 w) (λ_ _ _ hh h=>h.of_heap hh) aC3 started (by kernel_rfl) func6
  (ChangeSpec.witness_shaped (enc:=enc) (C:=Tryz.checked) (os:=os) (X:=λw _=>laidMetH prog L6 w) false (World.laidAll prog os L6) #[.agg #[.int .i64 0,.int .i64 0,.slice none 0 0,.slice none 0 0,.slice none 0 0,.slice none 0 0,.slice none 0 0,.int .i64 0,.int .i64 0,.slice none 0 0,.slice none 0 0,.slice none 0 0,.slice none 0 0,.int .i64 0,.int .i64 0,.int .i64 0,.int .i64 0,.slice none 0 0,.int .i64 0],.slice none 0 0,.int .i64 0] 8 (World.laidAll_os _ _ _) (World.shaped_of_ZipB (by kernel_rfl) (by kernel_rfl)) (by kernel_rfl) (by kernel_rfl) (by kernel_rfl) (awX os _)) ?_
 intro W base args ds gs before hval hW hL hsh
 exact ac0 (P:=prog) (fn:=Tryz.f6) axg f6.valid pre6 rfl (λds h=>by
  rw [params6] at h
  match ds,h with
  | [_,_,_],_=>exact ⟨rfl,rfl,rfl⟩) (by kernel_rfl) underlying4 avj (by rw [params6]; decide +kernel) (awI hL hsh) hval hW
end Go.Proofs.YtnepigpnlnmlmaaGreatDoor
