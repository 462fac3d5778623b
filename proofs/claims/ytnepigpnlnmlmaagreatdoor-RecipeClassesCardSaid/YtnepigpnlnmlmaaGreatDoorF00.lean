/- Lists in cells, written by wip/dec. -/
import Derived.Test.YtnepigpnlnmlmaaGreatDoorTy
import Derived.Test.YtnepigpnlnmlmaaGreatDoorAbsTac
import Derived.Test.YtnepigpnlnmlmaaGreatDoorLib
import Derived.WalkKit
set_option linter.unusedVariables false
set_option linter.unusedSimpArgs false
set_option linter.constructorNameAsVariable false
set_option maxHeartbeats 4000000
set_option maxRecDepth 20000
namespace Go.Proofs.YtnepigpnlnmlmaaGreatDoor
open Go.Abs
attribute [go_sem] eqvO_can eqv_can can_cat can_cat0 can_ofList canW_ofList eqvLL can_setF can_set can_sub can_rep oneOne
theorem lapp_nil {α:Type} (r:List α):List.append [] r=r:=rfl
theorem lapp_cons {α:Type} (a:α) (l r:List α):List.append (a::l) r=a::List.append l r:=rfl
attribute [go_sem] lapp_nil lapp_cons
section
variable {α β:Type} [Inhabited β] (e:α→List Arg) (d:List Arg→α) (f:α→Option β) (u:β→List RV) (al:Bool) (a:List Arg)
theorem mkP:(mkT e d f u al).sp.pre a=(eqvArgs a (e (d a))∧(f (d a)).isSome=true):=(rfl)
theorem mkR:(mkT e d f u al).sp.res a=u ((f (d a)).getD default):=(rfl)
theorem mkA:(mkT e d f u al).sp.alias=al:=(rfl)
end
attribute [go_sem] mkP mkR mkA
inductive Hl where
 | nil
 | cons (a:Int) (b:Int) (c:Int) (d:Int) (e:Int) (f r:Hl)
instance:Inhabited Hl:=⟨.nil⟩
abbrev L_IIIIIH:=List (Int×Int×Int×Int×Int×Hl)
def hU:Hl→L_IIIIIH
 | .nil=>[]
 | .cons a b c d e f r=>(a,b,c,d,e,f)::hU r
def hM:L_IIIIIH→Hl
 | []=> .nil
 | (a,b,c,d,e,f)::r=> .cons a b c d e f (hM r)
theorem hU_hM:∀ l,hU (hM l)=l
 | []=>rfl
 | (a,b,c,d,e,f)::r=>by simp only [hM,hU,hU_hM r]
theorem hM_hU:∀ x,hM (hU x)=x
 | .nil=>rfl
 | .cons a b c d e f r=>by simp only [hM,hU,hM_hU r]
def hN:Hl→Nat
 | .nil=>0
 | .cons _ _ _ _ _ _ r=>hN r+1
def hG:Hl→Nat→List D
 | .nil,_=>[]
 | .cons a b c d e f _,0=>[.int .i64 a,.int .i64 b,.int .i64 c,.int .i64 d,.int .i64 e,.sl 6 (hN f) (hG f)]
 | .cons _ _ _ _ _ _ r,i+1=>hG r i
def hE (x:Hl):D:= .sl 6 (hN x) (hG x)
def hB {α:Type} (f:Nat→α):Nat→Nat→List α
 | _,0=>[]
 | i,n+1=>f i::hB f (i+1) n
mutual
def hD:D→Hl
 | .sl _ n g=>hM (hB (fun i=>g_IIIIIH (g i)) 0 n)
 | _=> .nil
def g_IIIIIH:List D→Int×Int×Int×Int×Int×Hl
 | [.int _ a,.int _ b,.int _ c,.int _ d,.int _ e,f]=>(a,b,c,d,e,hD f)
 | _=>default
end
def d_IIIIIH (x:Int×Int×Int×Int×Int×Hl):List D:=[.int .i64 x.1,.int .i64 x.2.1,.int .i64 x.2.2.1,.int .i64 x.2.2.2.1,.int .i64 x.2.2.2.2.1,hE x.2.2.2.2.2]
theorem dq_IIIIIH (x:Int×Int×Int×Int×Int×Hl):d_IIIIIH x=[.int .i64 x.1,.int .i64 x.2.1,.int .i64 x.2.2.1,.int .i64 x.2.2.2.1,.int .i64 x.2.2.2.2.1,hE x.2.2.2.2.2]:=by rw [d_IIIIIH]
theorem hN_U:∀ x,(hU x).length=hN x
 | .nil=>rfl
 | .cons _ _ _ _ _ _ r=>by simp only [hU,hN,List.length_cons,hN_U r]
theorem hG_U:∀ x i,i<hN x→hG x i=d_IIIIIH ((hU x).getD i default)
 | .nil,_,h=>absurd h (by simp [hN])
 | .cons _ _ _ _ _ _ r,0,_=>rfl
 | .cons _ _ _ _ _ _ r,i+1,h=>by
  simp only [hG,hU,List.getD_cons_succ]
  exact hG_U r i (by simp only [hN] at h; omega)
theorem hB_get {α:Type} (f:Nat→α):∀ n i,hB f i n=(List.range n).map fun j=>f (i+j)
 | 0,_=>rfl
 | n+1,i=>by
  rw [hB,hB_get f n (i+1),List.range_succ_eq_map,List.map_cons,List.map_map]
  congr 1
  refine List.map_congr_left fun j _=> ?_
  simp only [Function.comp]
  congr 1; omega
theorem hD_s (s n:Nat) (g:Nat→List D):hD (.sl s n g)=hM (decF g_IIIIIH (.sl s n g)):=by
 rw [hD,hB_get]
 simp only [decF,D.len,D.nth,Nat.zero_add]
theorem hU_dec:∀ x,decF g_IIIIIH (hE x)=hU x
 | .nil=>rfl
 | .cons a b c d e f r=>by
  show (List.range (hN r+1)).map (fun i=>g_IIIIIH (hG (.cons a b c d e f r) i))=_
  rw [List.range_succ_eq_map,List.map_cons,List.map_map,hU]
  have h1:g_IIIIIH (hG (.cons a b c d e f r) 0)=(a,b,c,d,e,f):=by
   show g_IIIIIH [.int .i64 a,.int .i64 b,.int .i64 c,.int .i64 d,.int .i64 e,hE f]=_
   rw [g_IIIIIH,hE,hD_s]
   have:=hU_dec f
   rw [hE] at this
   rw [this,hM_hU]
  rw [h1]
  congr 1
  exact hU_dec r
theorem hD_E (x:Hl):hD (hE x)=x:=by
 show hD (.sl 6 (hN x) (hG x))=x
 rw [hD_s]; show hM (decF g_IIIIIH (hE x))=x
 rw [hU_dec,hM_hU]
theorem gd_IIIIIH (x:Int×Int×Int×Int×Int×Hl):g_IIIIIH (d_IIIIIH x)=x:=by
 show g_IIIIIH [_,_,_,_,_,_]=x
 rw [g_IIIIIH,hD_E]
theorem dec_IIIIIH (l:L_IIIIIH):decF g_IIIIIH (encF 6 d_IIIIIH l)=l:=decF_encF _ _ _ _ gd_IIIIIH
theorem hD_enc (l:L_IIIIIH):hD (encF 6 d_IIIIIH l)=hM l:=by
 show hD (.sl _ _ _)=_
 rw [hD_s]; show hM (decF g_IIIIIH (encF 6 d_IIIIIH l))=_
 rw [dec_IIIIIH]
theorem hE_len (x:Hl):(hE x).len=(hU x).length:=(hN_U x).symm
theorem hE_isSl (x:Hl):(hE x).isSl=true:=rfl
theorem hE_stride (x:Hl):(hE x).stride=6:=rfl
theorem hE_can (x:Hl):Go.Abs.Can 6 d_IIIIIH (hU x) (hE x):=⟨rfl,rfl,(hN_U x).symm,fun i hi=>by
 show likeDs (hG x i) _
 rw [hG_U x i (by rw [← hN_U]; exact hi)]; exact .refl _⟩
theorem eqv_hEU (x:Hl):Eqv (hE x) (encF 6 d_IIIIIH (hU x))=True:=eqv_can (hE_can x)
theorem eqv_hEE (x:Hl):Eqv (hE x) (hE x)=True:=eq_true (.refl _)
theorem eqv_hEM {l:L_IIIIIH} {d:D} (h:Go.Abs.Can 6 d_IIIIIH l d):Eqv d (hE (hM l))=True:=eq_true (EqvO.eqv ⟨h.1,rfl,h.2.1.trans rfl,h.2.2.1.trans (by rw [hE_len,hU_hM]),fun i hi=>by
 have hl:=h.2.2.1
 have h1:=h.2.2.2 i (by omega)
 have h2:(hE (hM l)).nth i=d_IIIIIH (l.getD i default):=by
  show hG (hM l) i=_
  rw [hG_U _ i (by rw [← hN_U,hU_hM]; omega),hU_hM]
 rw [h2]; exact h1⟩)
theorem eqv_hEN (s:Nat) (g:Nat→List D):Eqv (.sl s 0 g) (hE .nil)=True:=eq_true (.nil _ _ _ _)
theorem hD_n (s:Nat) (g:Nat→List D):hD (.sl s 0 g)= .nil:=(rfl)
theorem can_hE (x:Hl):Go.Abs.Can 6 d_IIIIIH (hU x) (hE x)=True:=eq_true (hE_can x)
theorem can_catset {α:Type} [Inhabited α] {s s':Nat} {f:α→List D} {l:List α} {a:α} {x:D} {c0 c:List D} (hx:Go.Abs.Can s f l x) (hn:c0.length=c.length) (hc:eqvDs c (f a)):Go.Abs.Can s f (l++[a]) ((D.cat x (D.ofList s' [c0])).setAt l.length 0 c)=True:=by
 obtain ⟨h1,h2,h3,h4⟩:=hx
 refine eq_true ⟨rfl,h2,by show x.len+1=_; rw [h3]; simp,fun i hi=> ?_⟩
 have hi':i<l.length+1:=by simpa using hi
 by_cases e:i=l.length
 ·subst e
  have g1:((D.cat x (D.ofList s' [c0])).setAt l.length 0 c).nth l.length=c:=by
   show (if l.length=l.length then splice ((D.cat x (D.ofList s' [c0])).nth l.length) 0 c else _)=c
   rw [if_pos rfl]
   have:(D.cat x (D.ofList s' [c0])).nth l.length=c0:=by
    show (if l.length<x.len then _ else _)=_
    rw [if_neg (by omega),h3,Nat.sub_self]; rfl
   rw [this]; simp [splice,hn]
  rw [g1]
  have g2:(l++[a]).getD l.length default=a:=by simp [List.getD_eq_getElem?_getD]
  rw [g2]; exact likeDs_of hc
 ·have hlt:i<l.length:=by omega
  have g1:((D.cat x (D.ofList s' [c0])).setAt l.length 0 c).nth i=x.nth i:=by
   show (if i=l.length then _ else (D.cat x (D.ofList s' [c0])).nth i)=_
   rw [if_neg e]
   show (if i<x.len then x.nth i else _)=_
   rw [if_pos (by omega)]
  rw [g1]
  have g2:(l++[a]).getD i default=l.getD i default:=by simp [List.getD_eq_getElem?_getD,List.getElem?_append_left hlt]
  rw [g2]; exact h4 i hlt
attribute [go_sem] dq_IIIIIH g_IIIIIH dec_IIIIIH hU_hM hM_hU hU_dec hD_E hD_enc hE_len hE_isSl hE_stride eqv_hEU eqv_hEE eqv_hEM eqv_hEN hD_n can_hE can_catset
abbrev L_I:=List (Int)
def d_I (x:Int):List D:=[.int .i64 x]
theorem dq_I (x:Int):d_I x=[.int .i64 x]:=by rw [d_I]
def g_I:List D→Int
 | [.int _ a]=>a
 | _=>default
theorem gd_I (x:Int):g_I (d_I x)=x:=by rfl
theorem dec_I (l:List (Int)):decF g_I (encF 1 d_I l)=l:=decF_encF _ _ _ _ gd_I
theorem fl_I (l:List (Int)):(encF 1 d_I l).flat=True:=flat_enc (fun _=>rfl)
attribute [go_sem] dq_I g_I dec_I fl_I
abbrev L_II:=List (Int×Int)
def d_II (x:Int×Int):List D:=[.int .i64 x.1,.int .i64 x.2]
theorem dq_II (x:Int×Int):d_II x=[.int .i64 x.1,.int .i64 x.2]:=by rw [d_II]
def g_II:List D→Int×Int
 | [.int _ a,.int _ b]=>(a,b)
 | _=>default
theorem gd_II (x:Int×Int):g_II (d_II x)=x:=by rfl
theorem dec_II (l:List (Int×Int)):decF g_II (encF 2 d_II l)=l:=decF_encF _ _ _ _ gd_II
theorem fl_II (l:List (Int×Int)):(encF 2 d_II l).flat=True:=flat_enc (fun _=>rfl)
attribute [go_sem] dq_II g_II dec_II fl_II
theorem dp_II (o:Option (Int×Int)):decP g_II (.pt o.isSome [.int .i64 (o.getD default).1,.int .i64 (o.getD default).2])=o:=by have:=decP_encP gd_II o; rwa [dq_II] at this
attribute [go_sem] dp_II
abbrev L_LIIE:=List ((List (Int×Int)))
def d_LIIE (x:L_II):List D:=[encF 2 d_II x]
theorem dq_LIIE (x:L_II):d_LIIE x=[encF 2 d_II x]:=by rw [d_LIIE]
def g_LIIE:List D→L_II
 | [a]=>decF g_II a
 | _=>default
theorem gd_LIIE (x:L_II):g_LIIE (d_LIIE x)=x:=by simp only [g_LIIE,d_LIIE,dec_II]
theorem dec_LIIE (l:List (L_II)):decF g_LIIE (encF 1 d_LIIE l)=l:=decF_encF _ _ _ _ gd_LIIE
theorem ed_LIIE {l:List (L_II)} {d:D} (h:CanD 2 d_II l d):EqvD d (encF 1 d_LIIE l)=True:=eqvD_can (fun _=>rfl) h
theorem cde_LIIE (l:List (L_II)):CanD 2 d_II l (encF 1 d_LIIE l)=True:=canD_enc (fun _=>rfl) l
attribute [go_sem] ed_LIIE cde_LIIE
attribute [go_sem] dq_LIIE g_LIIE dec_LIIE
def d_LLIIEE (x:L_LIIE):List D:=[encF 1 d_LIIE x]
theorem dq_LLIIEE (x:L_LIIE):d_LLIIEE x=[encF 1 d_LIIE x]:=by rw [d_LLIIEE]
def g_LLIIEE:List D→L_LIIE
 | [a]=>decF g_LIIE a
 | _=>default
theorem gd_LLIIEE (x:L_LIIE):g_LLIIEE (d_LLIIEE x)=x:=by simp only [g_LLIIEE,d_LLIIEE,dec_LIIE]
theorem dec_LLIIEE (l:List (L_LIIE)):decF g_LLIIEE (encF 1 d_LLIIEE l)=l:=decF_encF _ _ _ _ gd_LLIIEE
theorem ed_LLIIEE {l:List (L_LIIE)} {d:D} (h:CanD 1 d_LIIE l d):EqvD d (encF 1 d_LLIIEE l)=True:=eqvD_can (fun _=>rfl) h
theorem cde_LLIIEE (l:List (L_LIIE)):CanD 1 d_LIIE l (encF 1 d_LLIIEE l)=True:=canD_enc (fun _=>rfl) l
attribute [go_sem] ed_LLIIEE cde_LLIIEE
attribute [go_sem] dq_LLIIEE g_LLIIEE dec_LLIIEE
def d_LIE (x:L_I):List D:=[encF 1 d_I x]
theorem dq_LIE (x:L_I):d_LIE x=[encF 1 d_I x]:=by rw [d_LIE]
def g_LIE:List D→L_I
 | [a]=>decF g_I a
 | _=>default
theorem gd_LIE (x:L_I):g_LIE (d_LIE x)=x:=by simp only [g_LIE,d_LIE,dec_I]
theorem dec_LIE (l:List (L_I)):decF g_LIE (encF 1 d_LIE l)=l:=decF_encF _ _ _ _ gd_LIE
theorem ed_LIE {l:List (L_I)} {d:D} (h:CanD 1 d_I l d):EqvD d (encF 1 d_LIE l)=True:=eqvD_can (fun _=>rfl) h
theorem cde_LIE (l:List (L_I)):CanD 1 d_I l (encF 1 d_LIE l)=True:=canD_enc (fun _=>rfl) l
attribute [go_sem] ed_LIE cde_LIE
attribute [go_sem] dq_LIE g_LIE dec_LIE
def d_LIIIIIHE (x:L_IIIIIH):List D:=[encF 6 d_IIIIIH x]
theorem dq_LIIIIIHE (x:L_IIIIIH):d_LIIIIIHE x=[encF 6 d_IIIIIH x]:=by rw [d_LIIIIIHE]
def g_LIIIIIHE:List D→L_IIIIIH
 | [a]=>decF g_IIIIIH a
 | _=>default
theorem gd_LIIIIIHE (x:L_IIIIIH):g_LIIIIIHE (d_LIIIIIHE x)=x:=by simp only [g_LIIIIIHE,d_LIIIIIHE,dec_IIIIIH]
theorem dec_LIIIIIHE (l:List (L_IIIIIH)):decF g_LIIIIIHE (encF 1 d_LIIIIIHE l)=l:=decF_encF _ _ _ _ gd_LIIIIIHE
theorem ed_LIIIIIHE {l:List (L_IIIIIH)} {d:D} (h:CanD 6 d_IIIIIH l d):EqvD d (encF 1 d_LIIIIIHE l)=True:=eqvD_can (fun _=>rfl) h
theorem cde_LIIIIIHE (l:List (L_IIIIIH)):CanD 6 d_IIIIIH l (encF 1 d_LIIIIIHE l)=True:=canD_enc (fun _=>rfl) l
attribute [go_sem] ed_LIIIIIHE cde_LIIIIIHE
attribute [go_sem] dq_LIIIIIHE g_LIIIIIHE dec_LIIIIIHE
def d_B (x:Bool):List D:=[.bool x]
theorem dq_B (x:Bool):d_B x=[.bool x]:=by rw [d_B]
def g_B:List D→Bool
 | [.bool a]=>a
 | _=>default
theorem gd_B (x:Bool):g_B (d_B x)=x:=by rfl
theorem dec_B (l:List (Bool)):decF g_B (encF 1 d_B l)=l:=decF_encF _ _ _ _ gd_B
theorem fl_B (l:List (Bool)):(encF 1 d_B l).flat=True:=flat_enc (fun _=>rfl)
attribute [go_sem] dq_B g_B dec_B fl_B
abbrev L_FII:=List (Nat×Int×Int)
def d_FII (x:Nat×Int×Int):List D:=[.fn x.1,.int .i64 x.2.1,.int .i64 x.2.2]
theorem dq_FII (x:Nat×Int×Int):d_FII x=[.fn x.1,.int .i64 x.2.1,.int .i64 x.2.2]:=by rw [d_FII]
def g_FII:List D→Nat×Int×Int
 | [.fn a,.int _ b,.int _ c]=>(a,b,c)
 | _=>default
theorem gd_FII (x:Nat×Int×Int):g_FII (d_FII x)=x:=by rfl
theorem dec_FII (l:List (Nat×Int×Int)):decF g_FII (encF 3 d_FII l)=l:=decF_encF _ _ _ _ gd_FII
attribute [go_sem] dq_FII g_FII dec_FII
def d_LFIIE (x:L_FII):List D:=[encF 3 d_FII x]
theorem dq_LFIIE (x:L_FII):d_LFIIE x=[encF 3 d_FII x]:=by rw [d_LFIIE]
def g_LFIIE:List D→L_FII
 | [a]=>decF g_FII a
 | _=>default
theorem gd_LFIIE (x:L_FII):g_LFIIE (d_LFIIE x)=x:=by simp only [g_LFIIE,d_LFIIE,dec_FII]
theorem dec_LFIIE (l:List (L_FII)):decF g_LFIIE (encF 1 d_LFIIE l)=l:=decF_encF _ _ _ _ gd_LFIIE
theorem ed_LFIIE {l:List (L_FII)} {d:D} (h:CanD 3 d_FII l d):EqvD d (encF 1 d_LFIIE l)=True:=eqvD_can (fun _=>rfl) h
theorem cde_LFIIE (l:List (L_FII)):CanD 3 d_FII l (encF 1 d_LFIIE l)=True:=canD_enc (fun _=>rfl) l
attribute [go_sem] ed_LFIIE cde_LFIIE
attribute [go_sem] dq_LFIIE g_LFIIE dec_LFIIE
def d_H (x:Hl):List D:=[hE x]
theorem dq_H (x:Hl):d_H x=[hE x]:=by rw [d_H]
def g_H:List D→Hl
 | [a]=>hD a
 | _=>default
theorem gd_H (x:Hl):g_H (d_H x)=x:=by simp only [g_H,d_H,hD_E]
theorem dec_H (l:List (Hl)):decF g_H (encF 1 d_H l)=l:=decF_encF _ _ _ _ gd_H
attribute [go_sem] dq_H g_H dec_H
abbrev L_IIII:=List (Int×Int×Int×Int)
def d_IIII (x:Int×Int×Int×Int):List D:=[.int .i64 x.1,.int .i64 x.2.1,.int .i64 x.2.2.1,.int .i64 x.2.2.2]
theorem dq_IIII (x:Int×Int×Int×Int):d_IIII x=[.int .i64 x.1,.int .i64 x.2.1,.int .i64 x.2.2.1,.int .i64 x.2.2.2]:=by rw [d_IIII]
def g_IIII:List D→Int×Int×Int×Int
 | [.int _ a,.int _ b,.int _ c,.int _ d]=>(a,b,c,d)
 | _=>default
theorem gd_IIII (x:Int×Int×Int×Int):g_IIII (d_IIII x)=x:=by rfl
theorem dec_IIII (l:List (Int×Int×Int×Int)):decF g_IIII (encF 4 d_IIII l)=l:=decF_encF _ _ _ _ gd_IIII
theorem fl_IIII (l:List (Int×Int×Int×Int)):(encF 4 d_IIII l).flat=True:=flat_enc (fun _=>rfl)
attribute [go_sem] dq_IIII g_IIII dec_IIII fl_IIII
theorem dp_IIII (o:Option (Int×Int×Int×Int)):decP g_IIII (.pt o.isSome [.int .i64 (o.getD default).1,.int .i64 (o.getD default).2.1,.int .i64 (o.getD default).2.2.1,.int .i64 (o.getD default).2.2.2])=o:=by have:=decP_encP gd_IIII o; rwa [dq_IIII] at this
attribute [go_sem] dp_IIII
def d_LIIIIE (x:L_IIII):List D:=[encF 4 d_IIII x]
theorem dq_LIIIIE (x:L_IIII):d_LIIIIE x=[encF 4 d_IIII x]:=by rw [d_LIIIIE]
def g_LIIIIE:List D→L_IIII
 | [a]=>decF g_IIII a
 | _=>default
theorem gd_LIIIIE (x:L_IIII):g_LIIIIE (d_LIIIIE x)=x:=by simp only [g_LIIIIE,d_LIIIIE,dec_IIII]
theorem dec_LIIIIE (l:List (L_IIII)):decF g_LIIIIE (encF 1 d_LIIIIE l)=l:=decF_encF _ _ _ _ gd_LIIIIE
theorem ed_LIIIIE {l:List (L_IIII)} {d:D} (h:CanD 4 d_IIII l d):EqvD d (encF 1 d_LIIIIE l)=True:=eqvD_can (fun _=>rfl) h
theorem cde_LIIIIE (l:List (L_IIII)):CanD 4 d_IIII l (encF 1 d_LIIIIE l)=True:=canD_enc (fun _=>rfl) l
attribute [go_sem] ed_LIIIIE cde_LIIIIE
attribute [go_sem] dq_LIIIIE g_LIIIIE dec_LIIIIE
abbrev L_IIIII:=List (Int×Int×Int×Int×Int)
def d_IIIII (x:Int×Int×Int×Int×Int):List D:=[.int .i64 x.1,.int .i64 x.2.1,.int .i64 x.2.2.1,.int .i64 x.2.2.2.1,.int .i64 x.2.2.2.2]
theorem dq_IIIII (x:Int×Int×Int×Int×Int):d_IIIII x=[.int .i64 x.1,.int .i64 x.2.1,.int .i64 x.2.2.1,.int .i64 x.2.2.2.1,.int .i64 x.2.2.2.2]:=by rw [d_IIIII]
def g_IIIII:List D→Int×Int×Int×Int×Int
 | [.int _ a,.int _ b,.int _ c,.int _ d,.int _ e]=>(a,b,c,d,e)
 | _=>default
theorem gd_IIIII (x:Int×Int×Int×Int×Int):g_IIIII (d_IIIII x)=x:=by rfl
theorem dec_IIIII (l:List (Int×Int×Int×Int×Int)):decF g_IIIII (encF 5 d_IIIII l)=l:=decF_encF _ _ _ _ gd_IIIII
theorem fl_IIIII (l:List (Int×Int×Int×Int×Int)):(encF 5 d_IIIII l).flat=True:=flat_enc (fun _=>rfl)
attribute [go_sem] dq_IIIII g_IIIII dec_IIIII fl_IIIII
theorem dp_IIIII (o:Option (Int×Int×Int×Int×Int)):decP g_IIIII (.pt o.isSome [.int .i64 (o.getD default).1,.int .i64 (o.getD default).2.1,.int .i64 (o.getD default).2.2.1,.int .i64 (o.getD default).2.2.2.1,.int .i64 (o.getD default).2.2.2.2])=o:=by have:=decP_encP gd_IIIII o; rwa [dq_IIIII] at this
attribute [go_sem] dp_IIIII
def d_LIIIIIE (x:L_IIIII):List D:=[encF 5 d_IIIII x]
theorem dq_LIIIIIE (x:L_IIIII):d_LIIIIIE x=[encF 5 d_IIIII x]:=by rw [d_LIIIIIE]
def g_LIIIIIE:List D→L_IIIII
 | [a]=>decF g_IIIII a
 | _=>default
theorem gd_LIIIIIE (x:L_IIIII):g_LIIIIIE (d_LIIIIIE x)=x:=by simp only [g_LIIIIIE,d_LIIIIIE,dec_IIIII]
theorem dec_LIIIIIE (l:List (L_IIIII)):decF g_LIIIIIE (encF 1 d_LIIIIIE l)=l:=decF_encF _ _ _ _ gd_LIIIIIE
theorem ed_LIIIIIE {l:List (L_IIIII)} {d:D} (h:CanD 5 d_IIIII l d):EqvD d (encF 1 d_LIIIIIE l)=True:=eqvD_can (fun _=>rfl) h
theorem cde_LIIIIIE (l:List (L_IIIII)):CanD 5 d_IIIII l (encF 1 d_LIIIIIE l)=True:=canD_enc (fun _=>rfl) l
attribute [go_sem] ed_LIIIIIE cde_LIIIIIE
attribute [go_sem] dq_LIIIIIE g_LIIIIIE dec_LIIIIIE
abbrev L_III:=List (Int×Int×Int)
def d_III (x:Int×Int×Int):List D:=[.int .i64 x.1,.int .i64 x.2.1,.int .i64 x.2.2]
theorem dq_III (x:Int×Int×Int):d_III x=[.int .i64 x.1,.int .i64 x.2.1,.int .i64 x.2.2]:=by rw [d_III]
def g_III:List D→Int×Int×Int
 | [.int _ a,.int _ b,.int _ c]=>(a,b,c)
 | _=>default
theorem gd_III (x:Int×Int×Int):g_III (d_III x)=x:=by rfl
theorem dec_III (l:List (Int×Int×Int)):decF g_III (encF 3 d_III l)=l:=decF_encF _ _ _ _ gd_III
theorem fl_III (l:List (Int×Int×Int)):(encF 3 d_III l).flat=True:=flat_enc (fun _=>rfl)
attribute [go_sem] dq_III g_III dec_III fl_III
theorem dp_III (o:Option (Int×Int×Int)):decP g_III (.pt o.isSome [.int .i64 (o.getD default).1,.int .i64 (o.getD default).2.1,.int .i64 (o.getD default).2.2])=o:=by have:=decP_encP gd_III o; rwa [dq_III] at this
attribute [go_sem] dp_III
def d_LIIIE (x:L_III):List D:=[encF 3 d_III x]
theorem dq_LIIIE (x:L_III):d_LIIIE x=[encF 3 d_III x]:=by rw [d_LIIIE]
def g_LIIIE:List D→L_III
 | [a]=>decF g_III a
 | _=>default
theorem gd_LIIIE (x:L_III):g_LIIIE (d_LIIIE x)=x:=by simp only [g_LIIIE,d_LIIIE,dec_III]
theorem dec_LIIIE (l:List (L_III)):decF g_LIIIE (encF 1 d_LIIIE l)=l:=decF_encF _ _ _ _ gd_LIIIE
theorem ed_LIIIE {l:List (L_III)} {d:D} (h:CanD 3 d_III l d):EqvD d (encF 1 d_LIIIE l)=True:=eqvD_can (fun _=>rfl) h
theorem cde_LIIIE (l:List (L_III)):CanD 3 d_III l (encF 1 d_LIIIE l)=True:=canD_enc (fun _=>rfl) l
attribute [go_sem] ed_LIIIE cde_LIIIE
attribute [go_sem] dq_LIIIE g_LIIIE dec_LIIIE
abbrev L_ILIIEI:=List (Int×(List (Int×Int))×Int)
def d_ILIIEI (x:Int×L_II×Int):List D:=[.int .i64 x.1,encF 2 d_II x.2.1,.int .i64 x.2.2]
theorem dq_ILIIEI (x:Int×L_II×Int):d_ILIIEI x=[.int .i64 x.1,encF 2 d_II x.2.1,.int .i64 x.2.2]:=by rw [d_ILIIEI]
def g_ILIIEI:List D→Int×L_II×Int
 | [.int _ a,b,.int _ c]=>(a,decF g_II b,c)
 | _=>default
theorem gd_ILIIEI (x:Int×L_II×Int):g_ILIIEI (d_ILIIEI x)=x:=by simp only [g_ILIIEI,d_ILIIEI,dec_II]
theorem dec_ILIIEI (l:List (Int×L_II×Int)):decF g_ILIIEI (encF 3 d_ILIIEI l)=l:=decF_encF _ _ _ _ gd_ILIIEI
attribute [go_sem] dq_ILIIEI g_ILIIEI dec_ILIIEI
theorem dp_ILIIEI (o:Option (Int×L_II×Int)):decP g_ILIIEI (.pt o.isSome [.int .i64 (o.getD default).1,encF 2 d_II (o.getD default).2.1,.int .i64 (o.getD default).2.2])=o:=by have:=decP_encP gd_ILIIEI o; rwa [dq_ILIIEI] at this
attribute [go_sem] dp_ILIIEI
def d_LILIIEIE (x:L_ILIIEI):List D:=[encF 3 d_ILIIEI x]
theorem dq_LILIIEIE (x:L_ILIIEI):d_LILIIEIE x=[encF 3 d_ILIIEI x]:=by rw [d_LILIIEIE]
def g_LILIIEIE:List D→L_ILIIEI
 | [a]=>decF g_ILIIEI a
 | _=>default
theorem gd_LILIIEIE (x:L_ILIIEI):g_LILIIEIE (d_LILIIEIE x)=x:=by simp only [g_LILIIEIE,d_LILIIEIE,dec_ILIIEI]
theorem dec_LILIIEIE (l:List (L_ILIIEI)):decF g_LILIIEIE (encF 1 d_LILIIEIE l)=l:=decF_encF _ _ _ _ gd_LILIIEIE
theorem ed_LILIIEIE {l:List (L_ILIIEI)} {d:D} (h:CanD 3 d_ILIIEI l d):EqvD d (encF 1 d_LILIIEIE l)=True:=eqvD_can (fun _=>rfl) h
theorem cde_LILIIEIE (l:List (L_ILIIEI)):CanD 3 d_ILIIEI l (encF 1 d_LILIIEIE l)=True:=canD_enc (fun _=>rfl) l
attribute [go_sem] ed_LILIIEIE cde_LILIIEIE
attribute [go_sem] dq_LILIIEIE g_LILIIEIE dec_LILIIEIE
abbrev L_LIIEII:=List ((List (Int×Int))×Int×Int)
def d_LIIEII (x:L_II×Int×Int):List D:=[encF 2 d_II x.1,.int .i64 x.2.1,.int .i64 x.2.2]
theorem dq_LIIEII (x:L_II×Int×Int):d_LIIEII x=[encF 2 d_II x.1,.int .i64 x.2.1,.int .i64 x.2.2]:=by rw [d_LIIEII]
def g_LIIEII:List D→L_II×Int×Int
 | [a,.int _ b,.int _ c]=>(decF g_II a,b,c)
 | _=>default
theorem gd_LIIEII (x:L_II×Int×Int):g_LIIEII (d_LIIEII x)=x:=by simp only [g_LIIEII,d_LIIEII,dec_II]
theorem dec_LIIEII (l:List (L_II×Int×Int)):decF g_LIIEII (encF 3 d_LIIEII l)=l:=decF_encF _ _ _ _ gd_LIIEII
attribute [go_sem] dq_LIIEII g_LIIEII dec_LIIEII
def d_LLIIEIIE (x:L_LIIEII):List D:=[encF 3 d_LIIEII x]
theorem dq_LLIIEIIE (x:L_LIIEII):d_LLIIEIIE x=[encF 3 d_LIIEII x]:=by rw [d_LLIIEIIE]
def g_LLIIEIIE:List D→L_LIIEII
 | [a]=>decF g_LIIEII a
 | _=>default
theorem gd_LLIIEIIE (x:L_LIIEII):g_LLIIEIIE (d_LLIIEIIE x)=x:=by simp only [g_LLIIEIIE,d_LLIIEIIE,dec_LIIEII]
theorem dec_LLIIEIIE (l:List (L_LIIEII)):decF g_LLIIEIIE (encF 1 d_LLIIEIIE l)=l:=decF_encF _ _ _ _ gd_LLIIEIIE
theorem ed_LLIIEIIE {l:List (L_LIIEII)} {d:D} (h:CanD 3 d_LIIEII l d):EqvD d (encF 1 d_LLIIEIIE l)=True:=eqvD_can (fun _=>rfl) h
theorem cde_LLIIEIIE (l:List (L_LIIEII)):CanD 3 d_LIIEII l (encF 1 d_LLIIEIIE l)=True:=canD_enc (fun _=>rfl) l
attribute [go_sem] ed_LLIIEIIE cde_LLIIEIIE
attribute [go_sem] dq_LLIIEIIE g_LLIIEIIE dec_LLIIEIIE
abbrev L_LIELIE:=List ((List (Int))×(List (Int)))
def d_LIELIE (x:L_I×L_I):List D:=[encF 1 d_I x.1,encF 1 d_I x.2]
theorem dq_LIELIE (x:L_I×L_I):d_LIELIE x=[encF 1 d_I x.1,encF 1 d_I x.2]:=by rw [d_LIELIE]
def g_LIELIE:List D→L_I×L_I
 | [a,b]=>(decF g_I a,decF g_I b)
 | _=>default
theorem gd_LIELIE (x:L_I×L_I):g_LIELIE (d_LIELIE x)=x:=by simp only [g_LIELIE,d_LIELIE,dec_I,dec_I]
theorem dec_LIELIE (l:List (L_I×L_I)):decF g_LIELIE (encF 2 d_LIELIE l)=l:=decF_encF _ _ _ _ gd_LIELIE
attribute [go_sem] dq_LIELIE g_LIELIE dec_LIELIE
def d_LLIELIEE (x:L_LIELIE):List D:=[encF 2 d_LIELIE x]
theorem dq_LLIELIEE (x:L_LIELIE):d_LLIELIEE x=[encF 2 d_LIELIE x]:=by rw [d_LLIELIEE]
def g_LLIELIEE:List D→L_LIELIE
 | [a]=>decF g_LIELIE a
 | _=>default
theorem gd_LLIELIEE (x:L_LIELIE):g_LLIELIEE (d_LLIELIEE x)=x:=by simp only [g_LLIELIEE,d_LLIELIEE,dec_LIELIE]
theorem dec_LLIELIEE (l:List (L_LIELIE)):decF g_LLIELIEE (encF 1 d_LLIELIEE l)=l:=decF_encF _ _ _ _ gd_LLIELIEE
theorem ed_LLIELIEE {l:List (L_LIELIE)} {d:D} (h:CanD 2 d_LIELIE l d):EqvD d (encF 1 d_LLIELIEE l)=True:=eqvD_can (fun _=>rfl) h
theorem cde_LLIELIEE (l:List (L_LIELIE)):CanD 2 d_LIELIE l (encF 1 d_LLIELIEE l)=True:=canD_enc (fun _=>rfl) l
attribute [go_sem] ed_LLIELIEE cde_LLIELIEE
attribute [go_sem] dq_LLIELIEE g_LLIELIEE dec_LLIELIEE
abbrev L_S:=List (ByteArray)
def d_S (x:ByteArray):List D:=[.str x]
theorem dq_S (x:ByteArray):d_S x=[.str x]:=by rw [d_S]
def g_S:List D→ByteArray
 | [.str a]=>a
 | _=>default
theorem gd_S (x:ByteArray):g_S (d_S x)=x:=by rfl
theorem dec_S (l:List (ByteArray)):decF g_S (encF 1 d_S l)=l:=decF_encF _ _ _ _ gd_S
theorem fl_S (l:List (ByteArray)):(encF 1 d_S l).flat=True:=flat_enc (fun _=>rfl)
attribute [go_sem] dq_S g_S dec_S fl_S
def d_E (x:Bool):List D:=[.err x]
theorem dq_E (x:Bool):d_E x=[.err x]:=by rw [d_E]
def g_E:List D→Bool
 | [.err a]=>a
 | _=>default
theorem gd_E (x:Bool):g_E (d_E x)=x:=by rfl
theorem dec_E (l:List (Bool)):decF g_E (encF 1 d_E l)=l:=decF_encF _ _ _ _ gd_E
theorem fl_E (l:List (Bool)):(encF 1 d_E l).flat=True:=flat_enc (fun _=>rfl)
attribute [go_sem] dq_E g_E dec_E fl_E
def d_LSE (x:L_S):List D:=[encF 1 d_S x]
theorem dq_LSE (x:L_S):d_LSE x=[encF 1 d_S x]:=by rw [d_LSE]
def g_LSE:List D→L_S
 | [a]=>decF g_S a
 | _=>default
theorem gd_LSE (x:L_S):g_LSE (d_LSE x)=x:=by simp only [g_LSE,d_LSE,dec_S]
theorem dec_LSE (l:List (L_S)):decF g_LSE (encF 1 d_LSE l)=l:=decF_encF _ _ _ _ gd_LSE
theorem ed_LSE {l:List (L_S)} {d:D} (h:CanD 1 d_S l d):EqvD d (encF 1 d_LSE l)=True:=eqvD_can (fun _=>rfl) h
theorem cde_LSE (l:List (L_S)):CanD 1 d_S l (encF 1 d_LSE l)=True:=canD_enc (fun _=>rfl) l
attribute [go_sem] ed_LSE cde_LSE
attribute [go_sem] dq_LSE g_LSE dec_LSE
abbrev L_IIIIIHLIE:=List (Int×Int×Int×Int×Int×Hl×(List (Int)))
def d_IIIIIHLIE (x:Int×Int×Int×Int×Int×Hl×L_I):List D:=[.int .i64 x.1,.int .i64 x.2.1,.int .i64 x.2.2.1,.int .i64 x.2.2.2.1,.int .i64 x.2.2.2.2.1,hE x.2.2.2.2.2.1,encF 1 d_I x.2.2.2.2.2.2]
theorem dq_IIIIIHLIE (x:Int×Int×Int×Int×Int×Hl×L_I):d_IIIIIHLIE x=[.int .i64 x.1,.int .i64 x.2.1,.int .i64 x.2.2.1,.int .i64 x.2.2.2.1,.int .i64 x.2.2.2.2.1,hE x.2.2.2.2.2.1,encF 1 d_I x.2.2.2.2.2.2]:=by rw [d_IIIIIHLIE]
def g_IIIIIHLIE:List D→Int×Int×Int×Int×Int×Hl×L_I
 | [.int _ a,.int _ b,.int _ c,.int _ d,.int _ e,f,g]=>(a,b,c,d,e,hD f,decF g_I g)
 | _=>default
theorem gd_IIIIIHLIE (x:Int×Int×Int×Int×Int×Hl×L_I):g_IIIIIHLIE (d_IIIIIHLIE x)=x:=by simp only [g_IIIIIHLIE,d_IIIIIHLIE,hD_E,dec_I]
theorem dec_IIIIIHLIE (l:List (Int×Int×Int×Int×Int×Hl×L_I)):decF g_IIIIIHLIE (encF 7 d_IIIIIHLIE l)=l:=decF_encF _ _ _ _ gd_IIIIIHLIE
attribute [go_sem] dq_IIIIIHLIE g_IIIIIHLIE dec_IIIIIHLIE
def d_LIIIIIHLIEE (x:L_IIIIIHLIE):List D:=[encF 7 d_IIIIIHLIE x]
theorem dq_LIIIIIHLIEE (x:L_IIIIIHLIE):d_LIIIIIHLIEE x=[encF 7 d_IIIIIHLIE x]:=by rw [d_LIIIIIHLIEE]
def g_LIIIIIHLIEE:List D→L_IIIIIHLIE
 | [a]=>decF g_IIIIIHLIE a
 | _=>default
theorem gd_LIIIIIHLIEE (x:L_IIIIIHLIE):g_LIIIIIHLIEE (d_LIIIIIHLIEE x)=x:=by simp only [g_LIIIIIHLIEE,d_LIIIIIHLIEE,dec_IIIIIHLIE]
theorem dec_LIIIIIHLIEE (l:List (L_IIIIIHLIE)):decF g_LIIIIIHLIEE (encF 1 d_LIIIIIHLIEE l)=l:=decF_encF _ _ _ _ gd_LIIIIIHLIEE
theorem ed_LIIIIIHLIEE {l:List (L_IIIIIHLIE)} {d:D} (h:CanD 7 d_IIIIIHLIE l d):EqvD d (encF 1 d_LIIIIIHLIEE l)=True:=eqvD_can (fun _=>rfl) h
theorem cde_LIIIIIHLIEE (l:List (L_IIIIIHLIE)):CanD 7 d_IIIIIHLIE l (encF 1 d_LIIIIIHLIEE l)=True:=canD_enc (fun _=>rfl) l
attribute [go_sem] ed_LIIIIIHLIEE cde_LIIIIIHLIEE
attribute [go_sem] dq_LIIIIIHLIEE g_LIIIIIHLIEE dec_LIIIIIHLIEE
attribute [go_sem] encP Option.isSome_none
theorem w0:(IntKind.i64.wrap (0+1))=1:=by first | rfl | decide | simp
theorem w1:(decide ((0:Int)>0))=false:=by first | rfl | decide | simp
theorem w2:(decide ((1:Int)≤60))=true:=by first | rfl | decide | simp
theorem w3:((((0:Int)) == 0))=true:=by first | rfl | decide | simp
theorem w4:((((0:Int)) != 0))=false:=by first | rfl | decide | simp
theorem w5:((((0:Int)) == 200))=false:=by first | rfl | decide | simp
theorem w6:(IntKind.i64.wrap (0+2))=2:=by first | rfl | decide | simp
theorem w7:(IntKind.i64.wrap (1+1))=2:=by first | rfl | decide | simp
theorem w8:(IntKind.i64.wrap (1+2))=3:=by first | rfl | decide | simp
theorem w9:((((8:Int)) != 0))=true:=by first | rfl | decide | simp
theorem w10:(decide ((0:Int)<4))=true:=by first | rfl | decide | simp
theorem w11:(decide ((1:Int)<4))=true:=by first | rfl | decide | simp
theorem w12:(((1:Int)=0∨(0:Int)<1))=True:=by first | rfl | decide | simp
theorem w13:(decide ((2:Int)<4))=true:=by first | rfl | decide | simp
theorem w14:(((2:Int)=0∨(0:Int)<2))=True:=by first | rfl | decide | simp
theorem w15:(IntKind.i64.wrap (2+1))=3:=by first | rfl | decide | simp
theorem w16:(decide ((3:Int)<4))=true:=by first | rfl | decide | simp
theorem w17:(((3:Int)=0∨(0:Int)<3))=True:=by first | rfl | decide | simp
theorem w18:(IntKind.i64.wrap (3+1))=4:=by first | rfl | decide | simp
theorem w19:(decide ((4:Int)<4))=false:=by first | rfl | decide | simp
theorem w20:(decide ((0:Int)≥0))=true:=by first | rfl | decide | simp
theorem w21:(decide ((-1:Int)≥0))=false:=by first | rfl | decide | simp
theorem w22:(((3:Nat):Int))=3:=by first | rfl | decide | simp
theorem w23:(decide ((0:Int)<3))=true:=by first | rfl | decide | simp
theorem w24:(decide ((1:Int)<3))=true:=by first | rfl | decide | simp
theorem w25:(decide ((2:Int)<3))=true:=by first | rfl | decide | simp
theorem w26:(decide ((3:Int)<3))=false:=by first | rfl | decide | simp
theorem w27:(decide ((0:Int)<7))=true:=by first | rfl | decide | simp
theorem w28:(decide ((1:Int)<7))=true:=by first | rfl | decide | simp
theorem w29:(decide ((2:Int)<7))=true:=by first | rfl | decide | simp
theorem w30:(decide ((3:Int)<7))=true:=by first | rfl | decide | simp
theorem w31:(decide ((4:Int)<7))=true:=by first | rfl | decide | simp
theorem w32:(((4:Int)=0∨(0:Int)<4))=True:=by first | rfl | decide | simp
theorem w33:(IntKind.i64.wrap (4+1))=5:=by first | rfl | decide | simp
theorem w34:(decide ((5:Int)<7))=true:=by first | rfl | decide | simp
theorem w35:(((5:Int)=0∨(0:Int)<5))=True:=by first | rfl | decide | simp
theorem w36:(IntKind.i64.wrap (5+1))=6:=by first | rfl | decide | simp
theorem w37:(decide ((6:Int)<7))=true:=by first | rfl | decide | simp
theorem w38:(((6:Int)=0∨(0:Int)<6))=True:=by first | rfl | decide | simp
theorem w39:(IntKind.i64.wrap (6+1))=7:=by first | rfl | decide | simp
theorem w40:(decide ((7:Int)<7))=false:=by first | rfl | decide | simp
theorem w41:(decide ((0:Int)<201))=true:=by first | rfl | decide | simp
theorem w42:(((#[117,110,116,105,108,32,54,53,48,32,52,48,48,32,53,59,113,117,101,110,99,104,32,49,32,51]:Array UInt8).size:Int))=26:=by first | rfl | decide | simp
theorem w43:(decide ((26:Int)>2000))=false:=by first | rfl | decide | simp
theorem w44:(decide ((5:Int)<0))=false:=by first | rfl | decide | simp
theorem w45:((⟨#[117,110,116,105,108,32,54,53,48,32,52,48,48,32,53,59,113,117,101,110,99,104,32,49,32,51]⟩:ByteArray).extract 0 5)=(⟨#[117,110,116,105,108]⟩:ByteArray):=by first | rfl | decide | simp
theorem w46:((⟨#[117,110,116,105,108,32,54,53,48,32,52,48,48,32,53,59,113,117,101,110,99,104,32,49,32,51]⟩:ByteArray).extract 5 26)=(⟨#[32,54,53,48,32,52,48,48,32,53,59,113,117,101,110,99,104,32,49,32,51]⟩:ByteArray):=by first | rfl | decide | simp
theorem w47:(decide ((0:Int)<6))=true:=by first | rfl | decide | simp
theorem w48:(decide ((⟨#[117,110,116,105,108]⟩:ByteArray)=(⟨#[104,101,97,116]⟩:ByteArray)))=false:=by first | rfl | decide | simp
theorem w49:(decide ((1:Int)<6))=true:=by first | rfl | decide | simp
theorem w50:(decide ((⟨#[117,110,116,105,108]⟩:ByteArray)=(⟨#[100,119,101,108,108]⟩:ByteArray)))=false:=by first | rfl | decide | simp
theorem w51:(decide ((2:Int)<6))=true:=by first | rfl | decide | simp
theorem w52:(decide ((⟨#[117,110,116,105,108]⟩:ByteArray)=(⟨#[113,117,101,110,99,104]⟩:ByteArray)))=false:=by first | rfl | decide | simp
theorem w53:(decide ((3:Int)<6))=true:=by first | rfl | decide | simp
theorem w54:(decide ((⟨#[117,110,116,105,108]⟩:ByteArray)=(⟨#[117,110,116,105,108]⟩:ByteArray)))=true:=by first | rfl | decide | simp
theorem w55:(decide ((3:Int)<0))=false:=by first | rfl | decide | simp
theorem w56:(((#[54,53,48,32,52,48,48,32,53,59,113,117,101,110,99,104,32,49,32,51]:Array UInt8).size:Int))=20:=by first | rfl | decide | simp
theorem w57:((⟨#[54,53,48,32,52,48,48,32,53,59,113,117,101,110,99,104,32,49,32,51]⟩:ByteArray).extract 0 3)=(⟨#[54,53,48]⟩:ByteArray):=by first | rfl | decide | simp
theorem w58:((⟨#[54,53,48,32,52,48,48,32,53,59,113,117,101,110,99,104,32,49,32,51]⟩:ByteArray).extract 3 20)=(⟨#[32,52,48,48,32,53,59,113,117,101,110,99,104,32,49,32,51]⟩:ByteArray):=by first | rfl | decide | simp
theorem w59:(((#[52,48,48,32,53,59,113,117,101,110,99,104,32,49,32,51]:Array UInt8).size:Int))=16:=by first | rfl | decide | simp
theorem w60:((⟨#[52,48,48,32,53,59,113,117,101,110,99,104,32,49,32,51]⟩:ByteArray).extract 0 3)=(⟨#[52,48,48]⟩:ByteArray):=by first | rfl | decide | simp
theorem w61:((⟨#[52,48,48,32,53,59,113,117,101,110,99,104,32,49,32,51]⟩:ByteArray).extract 3 16)=(⟨#[32,53,59,113,117,101,110,99,104,32,49,32,51]⟩:ByteArray):=by first | rfl | decide | simp
theorem w62:(decide ((1:Int)<0))=false:=by first | rfl | decide | simp
theorem w63:(((#[53,59,113,117,101,110,99,104,32,49,32,51]:Array UInt8).size:Int))=12:=by first | rfl | decide | simp
theorem w64:((⟨#[53,59,113,117,101,110,99,104,32,49,32,51]⟩:ByteArray).extract 0 1)=(⟨#[53]⟩:ByteArray):=by first | rfl | decide | simp
theorem w65:((⟨#[53,59,113,117,101,110,99,104,32,49,32,51]⟩:ByteArray).extract 1 12)=(⟨#[59,113,117,101,110,99,104,32,49,32,51]⟩:ByteArray):=by first | rfl | decide | simp
theorem w66:((((3:Int)) != 5))=true:=by first | rfl | decide | simp
theorem w67:(decide ((6:Int)<0))=false:=by first | rfl | decide | simp
theorem w68:(((#[113,117,101,110,99,104,32,49,32,51]:Array UInt8).size:Int))=10:=by first | rfl | decide | simp
theorem w69:((⟨#[113,117,101,110,99,104,32,49,32,51]⟩:ByteArray).extract 0 6)=(⟨#[113,117,101,110,99,104]⟩:ByteArray):=by first | rfl | decide | simp
theorem w70:((⟨#[113,117,101,110,99,104,32,49,32,51]⟩:ByteArray).extract 6 10)=(⟨#[32,49,32,51]⟩:ByteArray):=by first | rfl | decide | simp
theorem w71:(decide ((⟨#[113,117,101,110,99,104]⟩:ByteArray)=(⟨#[104,101,97,116]⟩:ByteArray)))=false:=by first | rfl | decide | simp
theorem w72:(decide ((⟨#[113,117,101,110,99,104]⟩:ByteArray)=(⟨#[100,119,101,108,108]⟩:ByteArray)))=false:=by first | rfl | decide | simp
theorem w73:(decide ((⟨#[113,117,101,110,99,104]⟩:ByteArray)=(⟨#[113,117,101,110,99,104]⟩:ByteArray)))=true:=by first | rfl | decide | simp
theorem w74:(((2:Nat):Int))=2:=by first | rfl | decide | simp
theorem w75:(decide ((0:Int)<2))=true:=by first | rfl | decide | simp
theorem w76:(((#[49,32,51]:Array UInt8).size:Int))=3:=by first | rfl | decide | simp
theorem w77:((⟨#[49,32,51]⟩:ByteArray).extract 0 1)=(⟨#[49]⟩:ByteArray):=by first | rfl | decide | simp
theorem w78:((⟨#[49,32,51]⟩:ByteArray).extract 1 3)=(⟨#[32,51]⟩:ByteArray):=by first | rfl | decide | simp
theorem w79:(decide ((1:Int)<2))=true:=by first | rfl | decide | simp
theorem w80:(decide ((-1:Int)<0))=true:=by first | rfl | decide | simp
theorem w81:(((#[51]:Array UInt8).size:Int))=1:=by first | rfl | decide | simp
theorem w82:((⟨#[51]⟩:ByteArray).extract 0 1)=(⟨#[51]⟩:ByteArray):=by first | rfl | decide | simp
theorem w83:((⟨#[51]⟩:ByteArray).extract 1 1)=(⟨#[]⟩:ByteArray):=by first | rfl | decide | simp
theorem w84:(decide ((2:Int)<2))=false:=by first | rfl | decide | simp
theorem w85:((((2:Int)) != 5))=true:=by first | rfl | decide | simp
theorem w86:(decide ((⟨#[]⟩:ByteArray)=(⟨#[]⟩:ByteArray)))=true:=by first | rfl | decide | simp
theorem w87:((((15:Int)) != 0))=true:=by first | rfl | decide | simp
theorem w88:((((3:Int)) != 0))=true:=by first | rfl | decide | simp
theorem w89:((((2:Int)) != 0))=true:=by first | rfl | decide | simp
theorem w90:((((16:Int)) != 0))=true:=by first | rfl | decide | simp
theorem w91:(decide ((0:Int)≥3))=false:=by first | rfl | decide | simp
theorem w92:(decide ((1:Int)>60))=false:=by first | rfl | decide | simp
attribute [go_sem] w0 w1 w2 w3 w4 w5 w6 w7 w8 w9 w10 w11 w12 w13 w14 w15 w16 w17 w18 w19 w20 w21 w22 w23 w24 w25 w26 w27 w28 w29 w30 w31 w32 w33 w34 w35 w36 w37 w38 w39 w40 w41 w42 w43 w44 w45 w46 w47 w48 w49 w50 w51 w52 w53 w54 w55 w56 w57 w58 w59 w60 w61 w62 w63 w64 w65 w66 w67 w68 w69 w70 w71 w72 w73 w74 w75 w76 w77 w78 w79 w80 w81 w82 w83 w84 w85 w86 w87 w88 w89 w90 w91 w92
section
variable {γ a0 a1 a2 a3 a4 a5 a6 a7 a8 a9 a10 a11 a12 a13 a14 a15 a16 a17 a18 a19 a20 a21 a22 a23 a24 a25 a26 a27 a28 a29:Type} (x:Unit) (x0:a0) (x1:a1) (x2:a2) (x3:a3) (x4:a4) (x5:a5) (x6:a6) (x7:a7) (x8:a8) (x9:a9) (x10:a10) (x11:a11) (x12:a12) (x13:a13) (x14:a14) (x15:a15) (x16:a16) (x17:a17) (x18:a18) (x19:a19) (x20:a20) (x21:a21) (x22:a22) (x23:a23) (x24:a24) (x25:a25) (x26:a26) (x27:a27) (x28:a28) (x29:a29)
def u0 (f:γ):Unit→γ:=fun _=>f
theorem uq0 (f:γ):u0 f x=f:=(rfl)
def u1 (f:a0→γ):a0→γ:=f
theorem uq1 (f:a0→γ):u1 f x0=f x0:=(rfl)
def u2 (f:a0→a1→γ):a0×a1→γ:=fun (x0,x1)=>f x0 x1
theorem uq2 (f:a0→a1→γ):u2 f (x0,x1)=f x0 x1:=(rfl)
def u3 (f:a0→a1→a2→γ):a0×a1×a2→γ:=fun (x0,x1,x2)=>f x0 x1 x2
theorem uq3 (f:a0→a1→a2→γ):u3 f (x0,x1,x2)=f x0 x1 x2:=(rfl)
def u4 (f:a0→a1→a2→a3→γ):a0×a1×a2×a3→γ:=fun (x0,x1,x2,x3)=>f x0 x1 x2 x3
theorem uq4 (f:a0→a1→a2→a3→γ):u4 f (x0,x1,x2,x3)=f x0 x1 x2 x3:=(rfl)
def u5 (f:a0→a1→a2→a3→a4→γ):a0×a1×a2×a3×a4→γ:=fun (x0,x1,x2,x3,x4)=>f x0 x1 x2 x3 x4
theorem uq5 (f:a0→a1→a2→a3→a4→γ):u5 f (x0,x1,x2,x3,x4)=f x0 x1 x2 x3 x4:=(rfl)
def u6 (f:a0→a1→a2→a3→a4→a5→γ):a0×a1×a2×a3×a4×a5→γ:=fun (x0,x1,x2,x3,x4,x5)=>f x0 x1 x2 x3 x4 x5
theorem uq6 (f:a0→a1→a2→a3→a4→a5→γ):u6 f (x0,x1,x2,x3,x4,x5)=f x0 x1 x2 x3 x4 x5:=(rfl)
def u7 (f:a0→a1→a2→a3→a4→a5→a6→γ):a0×a1×a2×a3×a4×a5×a6→γ:=fun (x0,x1,x2,x3,x4,x5,x6)=>f x0 x1 x2 x3 x4 x5 x6
theorem uq7 (f:a0→a1→a2→a3→a4→a5→a6→γ):u7 f (x0,x1,x2,x3,x4,x5,x6)=f x0 x1 x2 x3 x4 x5 x6:=(rfl)
def u8 (f:a0→a1→a2→a3→a4→a5→a6→a7→γ):a0×a1×a2×a3×a4×a5×a6×a7→γ:=fun (x0,x1,x2,x3,x4,x5,x6,x7)=>f x0 x1 x2 x3 x4 x5 x6 x7
theorem uq8 (f:a0→a1→a2→a3→a4→a5→a6→a7→γ):u8 f (x0,x1,x2,x3,x4,x5,x6,x7)=f x0 x1 x2 x3 x4 x5 x6 x7:=(rfl)
def u9 (f:a0→a1→a2→a3→a4→a5→a6→a7→a8→γ):a0×a1×a2×a3×a4×a5×a6×a7×a8→γ:=fun (x0,x1,x2,x3,x4,x5,x6,x7,x8)=>f x0 x1 x2 x3 x4 x5 x6 x7 x8
theorem uq9 (f:a0→a1→a2→a3→a4→a5→a6→a7→a8→γ):u9 f (x0,x1,x2,x3,x4,x5,x6,x7,x8)=f x0 x1 x2 x3 x4 x5 x6 x7 x8:=(rfl)
def u10 (f:a0→a1→a2→a3→a4→a5→a6→a7→a8→a9→γ):a0×a1×a2×a3×a4×a5×a6×a7×a8×a9→γ:=fun (x0,x1,x2,x3,x4,x5,x6,x7,x8,x9)=>f x0 x1 x2 x3 x4 x5 x6 x7 x8 x9
theorem uq10 (f:a0→a1→a2→a3→a4→a5→a6→a7→a8→a9→γ):u10 f (x0,x1,x2,x3,x4,x5,x6,x7,x8,x9)=f x0 x1 x2 x3 x4 x5 x6 x7 x8 x9:=(rfl)
def u11 (f:a0→a1→a2→a3→a4→a5→a6→a7→a8→a9→a10→γ):a0×a1×a2×a3×a4×a5×a6×a7×a8×a9×a10→γ:=fun (x0,x1,x2,x3,x4,x5,x6,x7,x8,x9,x10)=>f x0 x1 x2 x3 x4 x5 x6 x7 x8 x9 x10
theorem uq11 (f:a0→a1→a2→a3→a4→a5→a6→a7→a8→a9→a10→γ):u11 f (x0,x1,x2,x3,x4,x5,x6,x7,x8,x9,x10)=f x0 x1 x2 x3 x4 x5 x6 x7 x8 x9 x10:=(rfl)
def u12 (f:a0→a1→a2→a3→a4→a5→a6→a7→a8→a9→a10→a11→γ):a0×a1×a2×a3×a4×a5×a6×a7×a8×a9×a10×a11→γ:=fun (x0,x1,x2,x3,x4,x5,x6,x7,x8,x9,x10,x11)=>f x0 x1 x2 x3 x4 x5 x6 x7 x8 x9 x10 x11
theorem uq12 (f:a0→a1→a2→a3→a4→a5→a6→a7→a8→a9→a10→a11→γ):u12 f (x0,x1,x2,x3,x4,x5,x6,x7,x8,x9,x10,x11)=f x0 x1 x2 x3 x4 x5 x6 x7 x8 x9 x10 x11:=(rfl)
def u14 (f:a0→a1→a2→a3→a4→a5→a6→a7→a8→a9→a10→a11→a12→a13→γ):a0×a1×a2×a3×a4×a5×a6×a7×a8×a9×a10×a11×a12×a13→γ:=fun (x0,x1,x2,x3,x4,x5,x6,x7,x8,x9,x10,x11,x12,x13)=>f x0 x1 x2 x3 x4 x5 x6 x7 x8 x9 x10 x11 x12 x13
theorem uq14 (f:a0→a1→a2→a3→a4→a5→a6→a7→a8→a9→a10→a11→a12→a13→γ):u14 f (x0,x1,x2,x3,x4,x5,x6,x7,x8,x9,x10,x11,x12,x13)=f x0 x1 x2 x3 x4 x5 x6 x7 x8 x9 x10 x11 x12 x13:=(rfl)
def u16 (f:a0→a1→a2→a3→a4→a5→a6→a7→a8→a9→a10→a11→a12→a13→a14→a15→γ):a0×a1×a2×a3×a4×a5×a6×a7×a8×a9×a10×a11×a12×a13×a14×a15→γ:=fun (x0,x1,x2,x3,x4,x5,x6,x7,x8,x9,x10,x11,x12,x13,x14,x15)=>f x0 x1 x2 x3 x4 x5 x6 x7 x8 x9 x10 x11 x12 x13 x14 x15
theorem uq16 (f:a0→a1→a2→a3→a4→a5→a6→a7→a8→a9→a10→a11→a12→a13→a14→a15→γ):u16 f (x0,x1,x2,x3,x4,x5,x6,x7,x8,x9,x10,x11,x12,x13,x14,x15)=f x0 x1 x2 x3 x4 x5 x6 x7 x8 x9 x10 x11 x12 x13 x14 x15:=(rfl)
def u17 (f:a0→a1→a2→a3→a4→a5→a6→a7→a8→a9→a10→a11→a12→a13→a14→a15→a16→γ):a0×a1×a2×a3×a4×a5×a6×a7×a8×a9×a10×a11×a12×a13×a14×a15×a16→γ:=fun (x0,x1,x2,x3,x4,x5,x6,x7,x8,x9,x10,x11,x12,x13,x14,x15,x16)=>f x0 x1 x2 x3 x4 x5 x6 x7 x8 x9 x10 x11 x12 x13 x14 x15 x16
theorem uq17 (f:a0→a1→a2→a3→a4→a5→a6→a7→a8→a9→a10→a11→a12→a13→a14→a15→a16→γ):u17 f (x0,x1,x2,x3,x4,x5,x6,x7,x8,x9,x10,x11,x12,x13,x14,x15,x16)=f x0 x1 x2 x3 x4 x5 x6 x7 x8 x9 x10 x11 x12 x13 x14 x15 x16:=(rfl)
def u18 (f:a0→a1→a2→a3→a4→a5→a6→a7→a8→a9→a10→a11→a12→a13→a14→a15→a16→a17→γ):a0×a1×a2×a3×a4×a5×a6×a7×a8×a9×a10×a11×a12×a13×a14×a15×a16×a17→γ:=fun (x0,x1,x2,x3,x4,x5,x6,x7,x8,x9,x10,x11,x12,x13,x14,x15,x16,x17)=>f x0 x1 x2 x3 x4 x5 x6 x7 x8 x9 x10 x11 x12 x13 x14 x15 x16 x17
theorem uq18 (f:a0→a1→a2→a3→a4→a5→a6→a7→a8→a9→a10→a11→a12→a13→a14→a15→a16→a17→γ):u18 f (x0,x1,x2,x3,x4,x5,x6,x7,x8,x9,x10,x11,x12,x13,x14,x15,x16,x17)=f x0 x1 x2 x3 x4 x5 x6 x7 x8 x9 x10 x11 x12 x13 x14 x15 x16 x17:=(rfl)
def u19 (f:a0→a1→a2→a3→a4→a5→a6→a7→a8→a9→a10→a11→a12→a13→a14→a15→a16→a17→a18→γ):a0×a1×a2×a3×a4×a5×a6×a7×a8×a9×a10×a11×a12×a13×a14×a15×a16×a17×a18→γ:=fun (x0,x1,x2,x3,x4,x5,x6,x7,x8,x9,x10,x11,x12,x13,x14,x15,x16,x17,x18)=>f x0 x1 x2 x3 x4 x5 x6 x7 x8 x9 x10 x11 x12 x13 x14 x15 x16 x17 x18
theorem uq19 (f:a0→a1→a2→a3→a4→a5→a6→a7→a8→a9→a10→a11→a12→a13→a14→a15→a16→a17→a18→γ):u19 f (x0,x1,x2,x3,x4,x5,x6,x7,x8,x9,x10,x11,x12,x13,x14,x15,x16,x17,x18)=f x0 x1 x2 x3 x4 x5 x6 x7 x8 x9 x10 x11 x12 x13 x14 x15 x16 x17 x18:=(rfl)
def u20 (f:a0→a1→a2→a3→a4→a5→a6→a7→a8→a9→a10→a11→a12→a13→a14→a15→a16→a17→a18→a19→γ):a0×a1×a2×a3×a4×a5×a6×a7×a8×a9×a10×a11×a12×a13×a14×a15×a16×a17×a18×a19→γ:=fun (x0,x1,x2,x3,x4,x5,x6,x7,x8,x9,x10,x11,x12,x13,x14,x15,x16,x17,x18,x19)=>f x0 x1 x2 x3 x4 x5 x6 x7 x8 x9 x10 x11 x12 x13 x14 x15 x16 x17 x18 x19
theorem uq20 (f:a0→a1→a2→a3→a4→a5→a6→a7→a8→a9→a10→a11→a12→a13→a14→a15→a16→a17→a18→a19→γ):u20 f (x0,x1,x2,x3,x4,x5,x6,x7,x8,x9,x10,x11,x12,x13,x14,x15,x16,x17,x18,x19)=f x0 x1 x2 x3 x4 x5 x6 x7 x8 x9 x10 x11 x12 x13 x14 x15 x16 x17 x18 x19:=(rfl)
def u22 (f:a0→a1→a2→a3→a4→a5→a6→a7→a8→a9→a10→a11→a12→a13→a14→a15→a16→a17→a18→a19→a20→a21→γ):a0×a1×a2×a3×a4×a5×a6×a7×a8×a9×a10×a11×a12×a13×a14×a15×a16×a17×a18×a19×a20×a21→γ:=fun (x0,x1,x2,x3,x4,x5,x6,x7,x8,x9,x10,x11,x12,x13,x14,x15,x16,x17,x18,x19,x20,x21)=>f x0 x1 x2 x3 x4 x5 x6 x7 x8 x9 x10 x11 x12 x13 x14 x15 x16 x17 x18 x19 x20 x21
theorem uq22 (f:a0→a1→a2→a3→a4→a5→a6→a7→a8→a9→a10→a11→a12→a13→a14→a15→a16→a17→a18→a19→a20→a21→γ):u22 f (x0,x1,x2,x3,x4,x5,x6,x7,x8,x9,x10,x11,x12,x13,x14,x15,x16,x17,x18,x19,x20,x21)=f x0 x1 x2 x3 x4 x5 x6 x7 x8 x9 x10 x11 x12 x13 x14 x15 x16 x17 x18 x19 x20 x21:=(rfl)
def u23 (f:a0→a1→a2→a3→a4→a5→a6→a7→a8→a9→a10→a11→a12→a13→a14→a15→a16→a17→a18→a19→a20→a21→a22→γ):a0×a1×a2×a3×a4×a5×a6×a7×a8×a9×a10×a11×a12×a13×a14×a15×a16×a17×a18×a19×a20×a21×a22→γ:=fun (x0,x1,x2,x3,x4,x5,x6,x7,x8,x9,x10,x11,x12,x13,x14,x15,x16,x17,x18,x19,x20,x21,x22)=>f x0 x1 x2 x3 x4 x5 x6 x7 x8 x9 x10 x11 x12 x13 x14 x15 x16 x17 x18 x19 x20 x21 x22
theorem uq23 (f:a0→a1→a2→a3→a4→a5→a6→a7→a8→a9→a10→a11→a12→a13→a14→a15→a16→a17→a18→a19→a20→a21→a22→γ):u23 f (x0,x1,x2,x3,x4,x5,x6,x7,x8,x9,x10,x11,x12,x13,x14,x15,x16,x17,x18,x19,x20,x21,x22)=f x0 x1 x2 x3 x4 x5 x6 x7 x8 x9 x10 x11 x12 x13 x14 x15 x16 x17 x18 x19 x20 x21 x22:=(rfl)
def u24 (f:a0→a1→a2→a3→a4→a5→a6→a7→a8→a9→a10→a11→a12→a13→a14→a15→a16→a17→a18→a19→a20→a21→a22→a23→γ):a0×a1×a2×a3×a4×a5×a6×a7×a8×a9×a10×a11×a12×a13×a14×a15×a16×a17×a18×a19×a20×a21×a22×a23→γ:=fun (x0,x1,x2,x3,x4,x5,x6,x7,x8,x9,x10,x11,x12,x13,x14,x15,x16,x17,x18,x19,x20,x21,x22,x23)=>f x0 x1 x2 x3 x4 x5 x6 x7 x8 x9 x10 x11 x12 x13 x14 x15 x16 x17 x18 x19 x20 x21 x22 x23
theorem uq24 (f:a0→a1→a2→a3→a4→a5→a6→a7→a8→a9→a10→a11→a12→a13→a14→a15→a16→a17→a18→a19→a20→a21→a22→a23→γ):u24 f (x0,x1,x2,x3,x4,x5,x6,x7,x8,x9,x10,x11,x12,x13,x14,x15,x16,x17,x18,x19,x20,x21,x22,x23)=f x0 x1 x2 x3 x4 x5 x6 x7 x8 x9 x10 x11 x12 x13 x14 x15 x16 x17 x18 x19 x20 x21 x22 x23:=(rfl)
def u28 (f:a0→a1→a2→a3→a4→a5→a6→a7→a8→a9→a10→a11→a12→a13→a14→a15→a16→a17→a18→a19→a20→a21→a22→a23→a24→a25→a26→a27→γ):a0×a1×a2×a3×a4×a5×a6×a7×a8×a9×a10×a11×a12×a13×a14×a15×a16×a17×a18×a19×a20×a21×a22×a23×a24×a25×a26×a27→γ:=fun (x0,x1,x2,x3,x4,x5,x6,x7,x8,x9,x10,x11,x12,x13,x14,x15,x16,x17,x18,x19,x20,x21,x22,x23,x24,x25,x26,x27)=>f x0 x1 x2 x3 x4 x5 x6 x7 x8 x9 x10 x11 x12 x13 x14 x15 x16 x17 x18 x19 x20 x21 x22 x23 x24 x25 x26 x27
theorem uq28 (f:a0→a1→a2→a3→a4→a5→a6→a7→a8→a9→a10→a11→a12→a13→a14→a15→a16→a17→a18→a19→a20→a21→a22→a23→a24→a25→a26→a27→γ):u28 f (x0,x1,x2,x3,x4,x5,x6,x7,x8,x9,x10,x11,x12,x13,x14,x15,x16,x17,x18,x19,x20,x21,x22,x23,x24,x25,x26,x27)=f x0 x1 x2 x3 x4 x5 x6 x7 x8 x9 x10 x11 x12 x13 x14 x15 x16 x17 x18 x19 x20 x21 x22 x23 x24 x25 x26 x27:=(rfl)
def u29 (f:a0→a1→a2→a3→a4→a5→a6→a7→a8→a9→a10→a11→a12→a13→a14→a15→a16→a17→a18→a19→a20→a21→a22→a23→a24→a25→a26→a27→a28→γ):a0×a1×a2×a3×a4×a5×a6×a7×a8×a9×a10×a11×a12×a13×a14×a15×a16×a17×a18×a19×a20×a21×a22×a23×a24×a25×a26×a27×a28→γ:=fun (x0,x1,x2,x3,x4,x5,x6,x7,x8,x9,x10,x11,x12,x13,x14,x15,x16,x17,x18,x19,x20,x21,x22,x23,x24,x25,x26,x27,x28)=>f x0 x1 x2 x3 x4 x5 x6 x7 x8 x9 x10 x11 x12 x13 x14 x15 x16 x17 x18 x19 x20 x21 x22 x23 x24 x25 x26 x27 x28
theorem uq29 (f:a0→a1→a2→a3→a4→a5→a6→a7→a8→a9→a10→a11→a12→a13→a14→a15→a16→a17→a18→a19→a20→a21→a22→a23→a24→a25→a26→a27→a28→γ):u29 f (x0,x1,x2,x3,x4,x5,x6,x7,x8,x9,x10,x11,x12,x13,x14,x15,x16,x17,x18,x19,x20,x21,x22,x23,x24,x25,x26,x27,x28)=f x0 x1 x2 x3 x4 x5 x6 x7 x8 x9 x10 x11 x12 x13 x14 x15 x16 x17 x18 x19 x20 x21 x22 x23 x24 x25 x26 x27 x28:=(rfl)
def u30 (f:a0→a1→a2→a3→a4→a5→a6→a7→a8→a9→a10→a11→a12→a13→a14→a15→a16→a17→a18→a19→a20→a21→a22→a23→a24→a25→a26→a27→a28→a29→γ):a0×a1×a2×a3×a4×a5×a6×a7×a8×a9×a10×a11×a12×a13×a14×a15×a16×a17×a18×a19×a20×a21×a22×a23×a24×a25×a26×a27×a28×a29→γ:=fun (x0,x1,x2,x3,x4,x5,x6,x7,x8,x9,x10,x11,x12,x13,x14,x15,x16,x17,x18,x19,x20,x21,x22,x23,x24,x25,x26,x27,x28,x29)=>f x0 x1 x2 x3 x4 x5 x6 x7 x8 x9 x10 x11 x12 x13 x14 x15 x16 x17 x18 x19 x20 x21 x22 x23 x24 x25 x26 x27 x28 x29
theorem uq30 (f:a0→a1→a2→a3→a4→a5→a6→a7→a8→a9→a10→a11→a12→a13→a14→a15→a16→a17→a18→a19→a20→a21→a22→a23→a24→a25→a26→a27→a28→a29→γ):u30 f (x0,x1,x2,x3,x4,x5,x6,x7,x8,x9,x10,x11,x12,x13,x14,x15,x16,x17,x18,x19,x20,x21,x22,x23,x24,x25,x26,x27,x28,x29)=f x0 x1 x2 x3 x4 x5 x6 x7 x8 x9 x10 x11 x12 x13 x14 x15 x16 x17 x18 x19 x20 x21 x22 x23 x24 x25 x26 x27 x28 x29:=(rfl)
end
attribute [go_sem] uq0 uq1 uq2 uq3 uq4 uq5 uq6 uq7 uq8 uq9 uq10 uq11 uq12 uq14 uq16 uq17 uq18 uq19 uq20 uq22 uq23 uq24 uq28 uq29 uq30
theorem vm {α β:Type} [Inhabited β] {tb:Fns} {f:Nat} {fn:Func} {c:Code} {n:Nat} {e:α→List Arg} {d:List Arg→α} {g:α→Option β} {u:β→List RV} {al:Bool} (htb:FnsOk Tryz.prog tb) (hf:Tryz.prog.funcs[f]? =some fn) (hn:fn.ntmps=n) (h:∀ x r,g x=some r→∀ stop,StopF Tryz.prog ty tb n fn al (u r) stop→stop [.code c] (St.begin (e x))) (hb:fn.body=some c:=by rfl) (hl:∀ x,(e x).length≤n:=by exact fun _=>nL rfl) (hm:(fn.name == "runtime.NumGoroutine")=false:=by decide):FnFact Tryz.prog f (mkT e d g u al).sp:=
 valid_m ty_ok htb hf hb hn (fun x r hr=>⟨hl x,h x r hr⟩) hm
attribute [go_sem] Tryz.results3 Tryz.results9 Tryz.results10 Tryz.results11 Tryz.results12 Tryz.results13 Tryz.results14 Tryz.results15 Tryz.results16 Tryz.results17 Tryz.results18 Tryz.results19 Tryz.results20 Tryz.results22 Tryz.results24 Tryz.results25 Tryz.results30 Tryz.results52 Tryz.results57 Tryz.results58 Tryz.results59 Tryz.results60 Tryz.results61 Tryz.results62 Tryz.results63 Tryz.results64 Tryz.results65 Tryz.results66 Tryz.results67 Tryz.results68 Tryz.results69 Tryz.results70 Tryz.results71 Tryz.results72 Tryz.results73 Tryz.results74 Tryz.results75 Tryz.results76 Tryz.results79 Tryz.results80 Tryz.results81 Tryz.results82 Tryz.results83 Tryz.results84 Tryz.results88 Tryz.results96 Tryz.results99 Tryz.results104 Tryz.results105 Tryz.results106 Tryz.results110 Tryz.results111 Tryz.results116 Tryz.results117 Tryz.results118 Tryz.results119 Tryz.results120 Tryz.results121 Tryz.results122 Tryz.results123 Tryz.results126 Tryz.results127 Tryz.results128 Tryz.results129 Tryz.results130 Tryz.results131 Tryz.results132 Tryz.results133 Tryz.results134 Tryz.results135 Tryz.results136 Tryz.results137 Tryz.results138 Tryz.results139 Tryz.results140 Tryz.results141 Tryz.results142 Tryz.results143 Tryz.results144 Tryz.results145 Tryz.results146 Tryz.results147 Tryz.results158 Tryz.results159 Tryz.results160 Tryz.results161 Tryz.results162 Tryz.results163 Tryz.results165 Tryz.results168 Tryz.results170 Tryz.results173 Tryz.results174 Tryz.results178 Tryz.results179 Tryz.results180 Tryz.results181 Tryz.results182 Tryz.results183 Tryz.results188 Tryz.results189 Tryz.results190 Tryz.results191 Tryz.results192 Tryz.results193 Tryz.results194 Tryz.results195 Tryz.results196 Tryz.results197 Tryz.results198 Tryz.results199 Tryz.results200 Tryz.results201 Tryz.results202 Tryz.results203 Tryz.results204 Tryz.results211 Tryz.results212 Tryz.results213 Tryz.results214 Tryz.results215 Tryz.results216 Tryz.results217 Tryz.results218 Tryz.results220 Tryz.results221 Tryz.results222 Tryz.results223 Tryz.results226 Tryz.results228 Tryz.results229 Tryz.results230 Tryz.results231 Tryz.results236 Tryz.results237 Tryz.results238 Tryz.results239 Tryz.results240 Tryz.results241 Tryz.results245 Tryz.results246 Tryz.results247 Tryz.results248 Tryz.results249 Tryz.results250 Tryz.results251 Tryz.results252 Tryz.results253 Tryz.results254 Tryz.results255 Tryz.results256 Tryz.results257 Tryz.results258 Tryz.results259 Tryz.results260 Tryz.results270 Tryz.results271 Tryz.results272 Tryz.results273 Tryz.results274 Tryz.results275 Tryz.results276 Tryz.results277 Tryz.results278 Tryz.results279 Tryz.results280 Tryz.results281 Tryz.results282 Tryz.results283 Tryz.results284 Tryz.results285 Tryz.results286 Tryz.results287 Tryz.results288 Tryz.results289 Tryz.results297 Tryz.results298 Tryz.results299 Tryz.results300 Tryz.results301 Tryz.results302 Tryz.results303 Tryz.results304 Tryz.results305 Tryz.results306 Tryz.results307 Tryz.results310 Tryz.results316 Tryz.results317 Tryz.results318 Tryz.results319 Tryz.results320 Tryz.results321 Tryz.results330 Tryz.results331 Tryz.results332
section
variable {β:Type} [Inhabited β] (u:β→List RV) (al:Bool)
def qw0:List Arg:=[]
def qd0 (_:List Arg):Unit:=()
def qT0 (r:Option β):=mkT (u0 qw0) qd0 (u0 r) u al
attribute [go_sem] qw0 qd0 qT0
def qw1 (a0 a1 a2:Int):List Arg:=[.c (.int .i64 a0),.c (.int .i64 a1),.c (.int .i64 a2)]
def qd1:List Arg→Int×Int×Int
 | [.c c0,.c c1,.c c2]=>(dInt c0,dInt c1,dInt c2)
 | _=>default
def qT1 (r:Int→Int→Int→Option β):=mkT (u3 qw1) qd1 (u3 r) u al
attribute [go_sem] qw1 qd1 qT1
def qw2 (a0:Bool) (a1:Int):List Arg:=[.c (.bool a0),.c (.int .i64 a1)]
def qd2:List Arg→Bool×Int
 | [.c c0,.c c1]=>(dBool c0,dInt c1)
 | _=>default
def qT2 (r:Bool→Int→Option β):=mkT (u2 qw2) qd2 (u2 r) u al
attribute [go_sem] qw2 qd2 qT2
def qw3 (a0:L_I):List Arg:=[.c (encF 1 d_I a0)]
def qd3:List Arg→L_I
 | [.c c0]=>decF g_I c0
 | _=>default
def qT3 (r:L_I→Option β):=mkT (u1 qw3) qd3 (u1 r) u al
attribute [go_sem] qw3 qd3 qT3
def qw4 (a0:Int):List Arg:=[.c (.int .i64 a0)]
def qd4:List Arg→Int
 | [.c c0]=>dInt c0
 | _=>default
def qT4 (r:Int→Option β):=mkT (u1 qw4) qd4 (u1 r) u al
attribute [go_sem] qw4 qd4 qT4
def qw5 (a0:L_II):List Arg:=[.c (encF 2 d_II a0)]
def qd5:List Arg→L_II
 | [.c c0]=>decF g_II c0
 | _=>default
def qT5 (r:L_II→Option β):=mkT (u1 qw5) qd5 (u1 r) u al
attribute [go_sem] qw5 qd5 qT5
def qw7 (a0 a1:Int):List Arg:=[.c (.int .i64 a0),.c (.int .i64 a1)]
def qd7:List Arg→Int×Int
 | [.c c0,.c c1]=>(dInt c0,dInt c1)
 | _=>default
def qT7 (r:Int→Int→Option β):=mkT (u2 qw7) qd7 (u2 r) u al
attribute [go_sem] qw7 qd7 qT7
def qw11 (a0 a1:L_II):List Arg:=[.c (encF 2 d_II a0),.c (encF 2 d_II a1)]
def qd11:List Arg→L_II×L_II
 | [.c c0,.c c1]=>(decF g_II c0,decF g_II c1)
 | _=>default
def qT11 (r:L_II→L_II→Option β):=mkT (u2 qw11) qd11 (u2 r) u al
attribute [go_sem] qw11 qd11 qT11
def qw12 (a0 a1:Int) (a2:L_II) (a3:L_LIIE):List Arg:=[.agg [.int .i64 a0,.int .i64 a1,encF 2 d_II a2,encF 1 d_LIIE a3]]
def qd12:List Arg→Int×Int×L_II×L_LIIE
 | [.agg [c0,c1,c2,c3]]=>(dInt c0,dInt c1,decF g_II c2,decF g_LIIE c3)
 | _=>default
def qT12 (r:Int→Int→L_II→L_LIIE→Option β):=mkT (u4 qw12) qd12 (u4 r) u al
attribute [go_sem] qw12 qd12 qT12
def qw13 (a0 a1:Int) (a2:L_II) (a3:L_LIIE) (a4:L_II) (a5:L_LIIE) (a6:Int):List Arg:=[.agg [.int .i64 a0,.int .i64 a1,encF 2 d_II a2,encF 1 d_LIIE a3,encF 2 d_II a4,encF 1 d_LIIE a5],.c (.int .i64 a6)]
def qd13:List Arg→Int×Int×L_II×L_LIIE×L_II×L_LIIE×Int
 | [.agg [c0,c1,c2,c3,c4,c5],.c c6]=>(dInt c0,dInt c1,decF g_II c2,decF g_LIIE c3,decF g_II c4,decF g_LIIE c5,dInt c6)
 | _=>default
def qT13 (r:Int→Int→L_II→L_LIIE→L_II→L_LIIE→Int→Option β):=mkT (u7 qw13) qd13 (u7 r) u al
attribute [go_sem] qw13 qd13 qT13
def qw14 (a0 a1 a2:Int) (a3:L_II) (a4:L_LIIE) (a5:L_II) (a6:L_LIIE):List Arg:=[.c (.int .i64 a0),.ptr [.int .i64 a1,.int .i64 a2,encF 2 d_II a3,encF 1 d_LIIE a4,encF 2 d_II a5,encF 1 d_LIIE a6]]
def qd14:List Arg→Int×Int×Int×L_II×L_LIIE×L_II×L_LIIE
 | [.c c0,.ptr [c1,c2,c3,c4,c5,c6]]=>(dInt c0,dInt c1,dInt c2,decF g_II c3,decF g_LIIE c4,decF g_II c5,decF g_LIIE c6)
 | _=>default
def qT14 (r:Int→Int→Int→L_II→L_LIIE→L_II→L_LIIE→Option β):=mkT (u7 qw14) qd14 (u7 r) u al
attribute [go_sem] qw14 qd14 qT14
def qw18 (a0 a1:Int) (a2:L_II) (a3:L_LIIE) (a4 a5:L_I):List Arg:=[.agg [.int .i64 a0,.int .i64 a1,encF 2 d_II a2,encF 1 d_LIIE a3],.agg [encF 1 d_I a4,encF 1 d_I a5]]
def qd18:List Arg→Int×Int×L_II×L_LIIE×L_I×L_I
 | [.agg [c0,c1,c2,c3],.agg [c4,c5]]=>(dInt c0,dInt c1,decF g_II c2,decF g_LIIE c3,decF g_I c4,decF g_I c5)
 | _=>default
def qT18 (r:Int→Int→L_II→L_LIIE→L_I→L_I→Option β):=mkT (u6 qw18) qd18 (u6 r) u al
attribute [go_sem] qw18 qd18 qT18
def qw19 (a0 a1:Int) (a2:L_II) (a3:L_LIIE) (a4 a5:L_I) (a6:L_II) (a7 a8:Int):List Arg:=[.agg [.int .i64 a0,.int .i64 a1,encF 2 d_II a2,encF 1 d_LIIE a3,encF 1 d_I a4,encF 1 d_I a5,encF 2 d_II a6,.int .i64 a7,.int .i64 a8]]
def qd19:List Arg→Int×Int×L_II×L_LIIE×L_I×L_I×L_II×Int×Int
 | [.agg [c0,c1,c2,c3,c4,c5,c6,c7,c8]]=>(dInt c0,dInt c1,decF g_II c2,decF g_LIIE c3,decF g_I c4,decF g_I c5,decF g_II c6,dInt c7,dInt c8)
 | _=>default
def qT19 (r:Int→Int→L_II→L_LIIE→L_I→L_I→L_II→Int→Int→Option β):=mkT (u9 qw19) qd19 (u9 r) u al
attribute [go_sem] qw19 qd19 qT19
def qw20 (a0:L_IIIIIH):List Arg:=[.c (encF 6 d_IIIIIH a0)]
def qd20:List Arg→L_IIIIIH
 | [.c c0]=>decF g_IIIIIH c0
 | _=>default
def qT20 (r:L_IIIIIH→Option β):=mkT (u1 qw20) qd20 (u1 r) u al
attribute [go_sem] qw20 qd20 qT20
def qw21 (a0 a1 a2 a3 a4:Int) (a5:Hl):List Arg:=[.agg [.int .i64 a0,.int .i64 a1,.int .i64 a2,.int .i64 a3,.int .i64 a4,hE a5]]
def qd21:List Arg→Int×Int×Int×Int×Int×Hl
 | [.agg [c0,c1,c2,c3,c4,c5]]=>(dInt c0,dInt c1,dInt c2,dInt c3,dInt c4,hD c5)
 | _=>default
def qT21 (r:Int→Int→Int→Int→Int→Hl→Option β):=mkT (u6 qw21) qd21 (u6 r) u al
attribute [go_sem] qw21 qd21 qT21
def qw24 (a0 a1:Int) (a2:L_II) (a3:L_LIIE) (a4 a5:L_I) (a6:L_II) (a7 a8 a9 a10:Int):List Arg:=[.agg [.int .i64 a0,.int .i64 a1,encF 2 d_II a2,encF 1 d_LIIE a3,encF 1 d_I a4,encF 1 d_I a5,encF 2 d_II a6,.int .i64 a7,.int .i64 a8],.c (.int .i64 a9),.c (.int .i64 a10)]
def qd24:List Arg→Int×Int×L_II×L_LIIE×L_I×L_I×L_II×Int×Int×Int×Int
 | [.agg [c0,c1,c2,c3,c4,c5,c6,c7,c8],.c c9,.c c10]=>(dInt c0,dInt c1,decF g_II c2,decF g_LIIE c3,decF g_I c4,decF g_I c5,decF g_II c6,dInt c7,dInt c8,dInt c9,dInt c10)
 | _=>default
def qT24 (r:Int→Int→L_II→L_LIIE→L_I→L_I→L_II→Int→Int→Int→Int→Option β):=mkT (u11 qw24) qd24 (u11 r) u al
attribute [go_sem] qw24 qd24 qT24
def qw25 (a0 a1:Int):List Arg:=[.agg [.int .i64 a0,.int .i64 a1]]
def qd25:List Arg→Int×Int
 | [.agg [c0,c1]]=>(dInt c0,dInt c1)
 | _=>default
def qT25 (r:Int→Int→Option β):=mkT (u2 qw25) qd25 (u2 r) u al
attribute [go_sem] qw25 qd25 qT25
def qw35 (a0:L_IIII) (a1:L_IIIII) (a2:L_III) (a3:L_II) (a4 a5 a6 a7:Int):List Arg:=[.agg [encF 4 d_IIII a0,encF 5 d_IIIII a1,encF 3 d_III a2,encF 2 d_II a3,.int .i64 a4,.int .i64 a5,.int .i64 a6,.int .i64 a7]]
def qd35:List Arg→L_IIII×L_IIIII×L_III×L_II×Int×Int×Int×Int
 | [.agg [c0,c1,c2,c3,c4,c5,c6,c7]]=>(decF g_IIII c0,decF g_IIIII c1,decF g_III c2,decF g_II c3,dInt c4,dInt c5,dInt c6,dInt c7)
 | _=>default
def qT35 (r:L_IIII→L_IIIII→L_III→L_II→Int→Int→Int→Int→Option β):=mkT (u8 qw35) qd35 (u8 r) u al
attribute [go_sem] qw35 qd35 qT35
def qw39 (a0 a1:Int) (a2:L_II) (a3:L_LIIE) (a4 a5:L_I) (a6:L_II) (a7 a8:Int) (a9:L_II):List Arg:=[.agg [.int .i64 a0,.int .i64 a1,encF 2 d_II a2,encF 1 d_LIIE a3,encF 1 d_I a4,encF 1 d_I a5,encF 2 d_II a6,.int .i64 a7,.int .i64 a8],.c (encF 2 d_II a9)]
def qd39:List Arg→Int×Int×L_II×L_LIIE×L_I×L_I×L_II×Int×Int×L_II
 | [.agg [c0,c1,c2,c3,c4,c5,c6,c7,c8],.c c9]=>(dInt c0,dInt c1,decF g_II c2,decF g_LIIE c3,decF g_I c4,decF g_I c5,decF g_II c6,dInt c7,dInt c8,decF g_II c9)
 | _=>default
def qT39 (r:Int→Int→L_II→L_LIIE→L_I→L_I→L_II→Int→Int→L_II→Option β):=mkT (u10 qw39) qd39 (u10 r) u al
attribute [go_sem] qw39 qd39 qT39
def qw49 (a0:L_IIII) (a1:L_IIIII) (a2:L_III) (a3:L_II) (a4 a5 a6 a7 a8:Int):List Arg:=[.agg [encF 4 d_IIII a0,encF 5 d_IIIII a1,encF 3 d_III a2,encF 2 d_II a3,.int .i64 a4,.int .i64 a5,.int .i64 a6,.int .i64 a7],.c (.int .i64 a8)]
def qd49:List Arg→L_IIII×L_IIIII×L_III×L_II×Int×Int×Int×Int×Int
 | [.agg [c0,c1,c2,c3,c4,c5,c6,c7],.c c8]=>(decF g_IIII c0,decF g_IIIII c1,decF g_III c2,decF g_II c3,dInt c4,dInt c5,dInt c6,dInt c7,dInt c8)
 | _=>default
def qT49 (r:L_IIII→L_IIIII→L_III→L_II→Int→Int→Int→Int→Int→Option β):=mkT (u9 qw49) qd49 (u9 r) u al
attribute [go_sem] qw49 qd49 qT49
def qw74 (a0:L_IIIIIH) (a1:Int):List Arg:=[.c (encF 6 d_IIIIIH a0),.c (.int .i64 a1)]
def qd74:List Arg→L_IIIIIH×Int
 | [.c c0,.c c1]=>(decF g_IIIIIH c0,dInt c1)
 | _=>default
def qT74 (r:L_IIIIIH→Int→Option β):=mkT (u2 qw74) qd74 (u2 r) u al
attribute [go_sem] qw74 qd74 qT74
def qw75 (a0:L_IIIIIHLIE):List Arg:=[.c (encF 7 d_IIIIIHLIE a0)]
def qd75:List Arg→L_IIIIIHLIE
 | [.c c0]=>decF g_IIIIIHLIE c0
 | _=>default
def qT75 (r:L_IIIIIHLIE→Option β):=mkT (u1 qw75) qd75 (u1 r) u al
attribute [go_sem] qw75 qd75 qT75
def qw77 (a0 a1 a2 a3 a4:Int) (a5:Hl) (a6:L_I) (a7:Int):List Arg:=[.agg [.int .i64 a0,.int .i64 a1,.int .i64 a2,.int .i64 a3,.int .i64 a4,hE a5,encF 1 d_I a6],.c (.int .i64 a7)]
def qd77:List Arg→Int×Int×Int×Int×Int×Hl×L_I×Int
 | [.agg [c0,c1,c2,c3,c4,c5,c6],.c c7]=>(dInt c0,dInt c1,dInt c2,dInt c3,dInt c4,hD c5,decF g_I c6,dInt c7)
 | _=>default
def qT77 (r:Int→Int→Int→Int→Int→Hl→L_I→Int→Option β):=mkT (u8 qw77) qd77 (u8 r) u al
attribute [go_sem] qw77 qd77 qT77
def qw78 (a0:L_IIIIIHLIE) (a1:Int):List Arg:=[.c (encF 7 d_IIIIIHLIE a0),.c (.int .i64 a1)]
def qd78:List Arg→L_IIIIIHLIE×Int
 | [.c c0,.c c1]=>(decF g_IIIIIHLIE c0,dInt c1)
 | _=>default
def qT78 (r:L_IIIIIHLIE→Int→Option β):=mkT (u2 qw78) qd78 (u2 r) u al
attribute [go_sem] qw78 qd78 qT78
def qu1 (v:L_IIIIIH):List RV:=[.c (.own (encF 6 d_IIIIIH v))]
attribute [go_sem] qu1
def qu2 (v:Bool):List RV:=[.c (.d (.bool v))]
attribute [go_sem] qu2
def qu3 (v:Int):List RV:=[.c (.d (.int .i64 v))]
attribute [go_sem] qu3
def qu4 (v:Int×Int):List RV:=[.c (.d (.int .i64 v.1)),.c (.d (.int .i64 v.2))]
attribute [go_sem] qu4
def qu5 (v:L_II):List RV:=[.c (.own (encF 2 d_II v))]
attribute [go_sem] qu5
def qu6 (v:Int×Bool):List RV:=[.c (.d (.int .i64 v.1)),.c (.d (.bool v.2))]
attribute [go_sem] qu6
def qu7 (v:Int×Int):List RV:=[.agg [.d (.int .i64 v.1),.d (.int .i64 v.2)]]
attribute [go_sem] qu7
def qu8 (v:Int×Int×L_II×L_LIIE×L_II×L_LIIE×Int):List RV:=[.agg [.d (.int .i64 v.1),.d (.int .i64 v.2.1),.d (encF 2 d_II v.2.2.1),.d (encF 1 d_LIIE v.2.2.2.1),.own (encF 2 d_II v.2.2.2.2.1),.own (encF 1 d_LIIE v.2.2.2.2.2.1)],.c (.d (.int .i64 v.2.2.2.2.2.2))]
attribute [go_sem] qu8
def qu11 (v:L_IIIIIH×Int):List RV:=[.c (.own (encF 6 d_IIIIIH v.1)),.c (.d (.int .i64 v.2))]
attribute [go_sem] qu11
def qu16 (v:L_II×Int):List RV:=[.c (.own (encF 2 d_II v.1)),.c (.d (.int .i64 v.2))]
attribute [go_sem] qu16
def qu26 (v:Int×Int×Int×Int×Int×Int×Int×Int×Int×Int×Int×Int×Int×Int):List RV:=[.agg [.d (.int .i64 v.1),.d (.int .i64 v.2.1),.d (.int .i64 v.2.2.1),.d (.int .i64 v.2.2.2.1),.d (.int .i64 v.2.2.2.2.1),.d (.int .i64 v.2.2.2.2.2.1),.d (.int .i64 v.2.2.2.2.2.2.1),.d (.int .i64 v.2.2.2.2.2.2.2.1),.d (.int .i64 v.2.2.2.2.2.2.2.2.1),.d (.int .i64 v.2.2.2.2.2.2.2.2.2.1),.d (.int .i64 v.2.2.2.2.2.2.2.2.2.2.1),.d (.int .i64 v.2.2.2.2.2.2.2.2.2.2.2.1),.d (.int .i64 v.2.2.2.2.2.2.2.2.2.2.2.2.1),.d (.int .i64 v.2.2.2.2.2.2.2.2.2.2.2.2.2)]]
attribute [go_sem] qu26
def qu37 (v:ByteArray):List RV:=[.c (.d (.str v))]
attribute [go_sem] qu37
def qu41 (v:Int×Int×Int×Int×Int×Hl):List RV:=[.agg [.d (.int .i64 v.1),.d (.int .i64 v.2.1),.d (.int .i64 v.2.2.1),.d (.int .i64 v.2.2.2.1),.d (.int .i64 v.2.2.2.2.1),.d (hE v.2.2.2.2.2)]]
attribute [go_sem] qu41
end
end Go.Proofs.YtnepigpnlnmlmaaGreatDoor
