/-
  The types of the translation, as the abstract machine uses them: a table, and that it agrees with the program's. Written by a program of ours (gen_ty.py).
-/
import Derived.Test.YtnepigpnlnmlmaaGreatDoorProg
import Derived.Test.YtnepigpnlnmlmaaGreatDoorAbsC
import Derived.KernelRfl
set_option linter.unusedSimpArgs false
set_option linter.unusedVariables false
namespace Go.Proofs.YtnepigpnlnmlmaaGreatDoor
open Tryz Go.dR
abbrev vI:Value:= .int .i64 0
abbrev vS:Value:= .slice none 0 0
abbrev vF (n:String) (t i o:Nat):Field:=⟨n,t,i,false,"","",o⟩
attribute [go_sem] vI vS vF
def ti3:TI:=⟨1,8,false,[vI],.int .i64,none⟩
def ti4:TI:=⟨1,1,false,[.bool false],.bool,none⟩
def ti9:TI:=⟨1,16,false,[.string .empty],.string,none⟩
def af0:TI:=⟨1,16,false,[.nilIface],.interface #[],none⟩
def afZ:TI:=⟨1,24,false,[vS],.slice 126,none⟩
def afY:TI:=⟨1,24,false,[vS],.slice 187,none⟩
def afX:TI:=⟨1,24,false,[vS],.slice 183,none⟩
def Tq:TI:=⟨4,64,true,[vI,vI,vS,vS],.struct #[vF "Cells" 3 0 0,vF "Exchange" 3 1 8,vF "Table" 40 2 16,vF "Laws" 41 3 40],none⟩
def afW:TI:=⟨1,24,false,[vS],.slice 3,none⟩
def Tn:TI:=⟨2,48,true,[vS,vS],.struct #[vF "Lo" 44 0 0,vF "Hi" 44 1 24],none⟩
def afV:TI:=⟨1,24,false,[vS],.slice 90,none⟩
def Tm:TI:=⟨9,152,true,[vI,vI,vS,vS,vS,vS,vS,vI,vI],.struct #[vF "Setup" 43 0 0,vF "Start" 46 4 64,vF "Weights" 47 6 112,vF "Air" 3 7 136,vF "Spread" 3 8 144],none⟩
def afU:TI:=⟨1,24,false,[vS],.slice 199,none⟩
def afT:TI:=⟨1,24,false,[vS],.slice 315,none⟩
def afS:TI:=⟨1,24,false,[vS],.slice 288,none⟩
def afR:TI:=⟨1,24,false,[vS],.slice 317,none⟩
def afQ:TI:=⟨4,32,true,[vI,vI,vI,vI],.array 4 3,none⟩
def Tj:TI:=⟨8,128,true,[vS,vS,vS,vS,vI,vI,vI,vI],.struct #[vF "Heats" 50 0 0,vF "Cools" 51 1 24,vF "Colds" 52 2 48,vF "Tempers" 53 3 72,vF "Hard" 54 4 96],none⟩
def afP:TI:=⟨1,24,false,[vS],.slice 115,none⟩
def Ti:TI:=⟨19,312,true,[vI,vI,vS,vS,vS,vS,vS,vI,vI,vS,vS,vS,vS,vI,vI,vI,vI,vS,vI],.struct #[vF "Bench" 49 0 0,vF "Rules" 56 9 152,vF "Points" 57 17 280,vF "Edge" 3 18 304],none⟩
def afO:TI:=⟨1,24,false,[vS],.slice 164,none⟩
def Tf:TI:=⟨3,24,true,[vI,vI,vI],.struct #[vF "Heat" 3 0 0,vF "Cool" 3 1 8,vF "Cold" 3 2 16],none⟩
def Td:TI:=⟨4,48,true,[vS,vI,vI,vI],.struct #[vF "Choices" 44 0 0,vF "Pick" 76 1 24],none⟩
def afN:TI:=⟨1,24,false,[vS],.slice 47,none⟩
def afM:TI:=⟨1,24,false,[vS],.slice 94,none⟩
def afL:TI:=⟨2,16,true,[vI,vI],.struct #[vF "Lo" 3 0 0,vF "Hi" 3 1 8],none⟩
def afK:TI:=⟨2,16,true,[vI,vI],.struct #[vF "Lo" 3 0 0,vF "Hi" 3 1 8],some [true,true]⟩
def afJ:TI:=⟨1,24,false,[vS],.slice 96,none⟩
def Tc:TI:=⟨3,40,true,[vS,vI,vI],.struct #[vF "Powers" 47 0 0,vF "Laws" 90 1 24],none⟩
def S9:TI:=⟨2,32,true,[vS,vI],.struct #[vF "Powers" 44 0 0,vF "Law" 3 1 24],none⟩
def afI:TI:=⟨1,24,false,[vS],.slice 44,none⟩
def W9:TI:=⟨1,8,false,[.nilFunc],.func #[3,3] #[3] false,none⟩
def Fq:TI:=⟨7,56,true,[vI,vI,vI,vI,vI,vI,vI],.struct #[vF "Parent" 3 0 0,vF "Austenite" 3 1 8,vF "Bainite" 3 2 16,vF "Martensite" 3 3 24,vF "Wait" 3 4 32,vF "Grain" 3 5 40,vF "Temper" 3 6 48],none⟩
def Fp:TI:=⟨4,48,true,[vS,vI,vI,vI],.struct #[vF "Curve" 44 0 0,vF "Pick" 76 1 24],none⟩
def Fj:TI:=⟨3,24,true,[vI,vI,vI],.struct #[vF "Cell" 3 0 0,vF "Hard" 90 1 8],none⟩
def Fh:TI:=⟨6,64,true,[vI,vI,vI,vI,vI,vS],.struct #[vF "Kind" 3 0 0,vF "Power" 3 1 8,vF "Law" 3 2 16,vF "Ticks" 3 3 24,vF "Kelvin" 3 4 32,vF "Body" 29 5 40],none⟩
def WZ:TI:=⟨1,8,false,[.nilFunc],.func #[3] #[4] false,none⟩
def WY:TI:=⟨1,8,false,[.nilFunc],.func #[126] #[4] false,none⟩
def Fg:TI:=⟨9,152,true,[vI,vI,vS,vS,vS,vS,vS,vI,vI],.struct #[⟨"RecipeBench",49,0,true,"","",0⟩],none⟩
def Fe:TI:=⟨28,464,true,[vI,vI,vS,vS,vS,vS,vS,vI,vI,vI,vI,vS,vS,vS,vS,vS,vI,vI,vS,vS,vS,vS,vI,vI,vI,vI,vS,vI],.struct #[⟨"bench",152,0,true,"","martensite/recipe",0⟩,⟨"RecipeOrder",59,9,true,"","",152⟩],none⟩
def Fb:TI:=⟨2,16,true,[vI,vI],.struct #[vF "Power" 3 0 0,vF "Law" 3 1 8],none⟩
def Fa:TI:=⟨14,112,true,[vI,vI,vI,vI,vI,vI,vI,vI,vI,vI,vI,vI,vI,vI],.struct #[vF "Parent" 90 0 0,vF "Austenite" 90 2 16,vF "Bainite" 90 4 32,vF "Martensite" 90 6 48,vF "Wait" 90 8 64,vF "Grain" 90 10 80,vF "Temper" 90 12 96],none⟩
def WX:TI:=⟨1,24,false,[vS],.slice 213,none⟩
def E8:TI:=⟨2,16,true,[vI,vI],.struct #[vF "Energy" 3 0 0,vF "Kelvin" 3 1 8],none⟩
def E5:TI:=⟨8,128,true,[vS,vS,vS,vS,vI,vI,vI,vI],.struct #[⟨"SteelRules",56,0,true,"","",0⟩],none⟩
def EZ:TI:=⟨4,32,true,[vI,vI,vI,vI],.struct #[vF "Kelvin" 3 0 0,vF "Rate" 90 1 8,vF "Growth" 3 3 24],none⟩
def WW:TI:=⟨1,8,false,[.pointer none],.pointer 211,none⟩
def EY:TI:=⟨11,200,true,[vI,vI,vS,vS,vS,vS,vS,vI,vI,vS,vS],.struct #[⟨"bench",152,0,true,"","martensite/recipe",0⟩,⟨"energies",44,9,false,"","martensite/recipe",152⟩,⟨"made",60,10,false,"","martensite/recipe",176⟩],none⟩
def EX:TI:=⟨2,16,true,[vI,vI],.struct #[vF "Kelvin" 3 0 0,vF "Loss" 3 1 8],none⟩
def EW:TI:=⟨1,16,true,[.string .empty],.struct #[⟨"rest",9,0,false,"","martensite/recipe",0⟩],none⟩
def WV:TI:=⟨1,24,false,[vS],.slice 9,none⟩
def WU:TI:=⟨1,24,false,[vS],.slice 25,none⟩
def EU:TI:=⟨4,4,true,[.bool false,.bool false,.bool false,.bool false],.struct #[⟨"power",4,0,false,"","martensite/martensiteref05",0⟩,⟨"law",4,1,false,"","martensite/martensiteref05",1⟩,⟨"kelvin",4,2,false,"","martensite/martensiteref05",2⟩,⟨"body",4,3,false,"","martensite/martensiteref05",3⟩],none⟩
def WT:TI:=⟨1,24,false,[vS],.slice 241,none⟩
def WS:TI:=⟨4,96,true,[vS,vS,vS,vS],.array 4 235,none⟩
def WR:TI:=⟨1,8,false,[.pointer none],.pointer 241,none⟩
def ET:TI:=⟨3,40,true,[vI,vS,vI],.struct #[⟨"kelvin",3,0,false,"","martensite/steel",0⟩,⟨"ranges",47,1,false,"","martensite/steel",8⟩,⟨"other",3,2,false,"","martensite/steel",32⟩],none⟩
def WQ:TI:=⟨1,24,false,[vS],.slice 235,none⟩
def WO:TI:=⟨1,8,false,[.nilFunc],.func #[90] #[4] false,none⟩
def WM:TI:=⟨1,24,false,[vS],.slice 46,none⟩
def WJ:TI:=⟨1,8,false,[.nilFunc],.func #[3] #[90] false,none⟩
def WI:TI:=⟨1,8,false,[.nilFunc],.func #[90] #[3] false,none⟩
def WG:TI:=⟨1,24,false,[vS],.slice 371,none⟩
def WE:TI:=⟨1,24,false,[vS],.slice 266,none⟩
def ES:TI:=⟨6,112,true,[vI,vI,vS,vS,vS,vS],.struct #[⟨"HeatSetup",43,0,true,"","",0⟩,⟨"table",266,4,false,"","martensite/heat",64⟩,⟨"laws",267,5,false,"","martensite/heat",88⟩],none⟩
def ER:TI:=⟨3,24,true,[vI,vI,vI],.struct #[vF "Kelvin" 3 0 0,vF "Share" 90 1 8],none⟩
def WC:TI:=⟨1,8,false,[.pointer none],.pointer 216,none⟩
def EP:TI:=⟨1,16,false,[.nilIface],.interface #[("Error",303)],none⟩
def WB:TI:=⟨1,24,false,[vS],.slice 308,none⟩
def WA:TI:=⟨1,8,false,[.nilFunc],.func #[126] #[3] false,none⟩
def EO:TI:=⟨3,24,true,[.nilFunc,vI,vI],.struct #[⟨"value",306,0,false,"","martensite/recipe",0⟩,⟨"lo",3,1,false,"","martensite/recipe",8⟩,⟨"hi",3,2,false,"","martensite/recipe",16⟩],none⟩
def EN:TI:=⟨5,40,true,[vI,vI,vI,vI,vI],.struct #[vF "Kelvin" 3 0 0,vF "Wait" 90 1 8,vF "Rate" 90 3 24],none⟩
def EM:TI:=⟨2,16,true,[vI,vI],.struct #[vF "Kelvin" 3 0 0,vF "Rate" 3 1 8],none⟩
def Wy:TI:=⟨8,64,true,[vI,vI,vI,vI,vI,vI,vI,vI],.array 4 90,none⟩
def EL:TI:=⟨2,16,true,[vI,vI],.struct #[vF "Num" 3 0 0,vF "Den" 3 1 8],none⟩
def Wx:TI:=⟨1,8,false,[.pointer none],.pointer 199,none⟩
def Wv:TI:=⟨1,8,false,[.pointer none],.pointer 315,none⟩
def Wu:TI:=⟨1,8,false,[.pointer none],.pointer 288,none⟩
def Ws:TI:=⟨1,8,false,[.nilFunc],.func #[3,3,3] #[3] false,none⟩
def Wq:TI:=⟨1,8,false,[.pointer none],.pointer 317,none⟩
def Wp:TI:=⟨1,8,false,[.pointer none],.pointer 3,none⟩
def Wn:TI:=⟨1,24,false,[vS],.slice 361,none⟩
def Wj:TI:=⟨1,8,false,[.map none],.map 3 362,none⟩
def EK:TI:=⟨2,16,true,[vI,vI],.struct #[⟨"x",3,0,false,"","martensite/heat",0⟩,⟨"y",3,1,false,"","martensite/heat",8⟩],none⟩
def EJ:TI:=⟨2,16,true,[vI,vI],.struct #[⟨"num",3,0,false,"","martensite/heat",0⟩,⟨"den",3,1,false,"","martensite/heat",8⟩],none⟩
def Wi:TI:=⟨7,56,true,[vI,vI,vI,vI,vI,vI,vI],.array 7 3,none⟩
def Wh:TI:=⟨1,8,false,[.pointer none],.pointer 90,none⟩
def V9:TI:=⟨7,56,true,[.pointer none,.pointer none,.pointer none,.pointer none,.pointer none,.pointer none,.pointer none],.array 7 377,none⟩
def V8:TI:=⟨1,8,false,[.pointer none],.pointer 170,none⟩
def V7:TI:=⟨1,8,false,[.nilFunc],.func #[199] #[4] false,none⟩
def V6:TI:=⟨1,8,false,[.nilFunc],.func #[315] #[4] false,none⟩
def V5:TI:=⟨1,8,false,[.nilFunc],.func #[288] #[4] false,none⟩
def V4:TI:=⟨1,8,false,[.nilFunc],.func #[317] #[4] false,none⟩
def V3:TI:=⟨6,96,true,[.string .empty,.string .empty,.string .empty,.string .empty,.string .empty,.string .empty],.array 6 9,none⟩
def VZ:TI:=⟨1,8,false,[.nilFunc],.func #[371,373] #[3] false,none⟩
def EI:TI:=⟨1,8,false,[.nilFunc],.func #[439] #[] false,none⟩
def EH:TI:=⟨1,8,false,[.nilFunc],.func #[440] #[] false,none⟩
def VY:TI:=⟨1,8,false,[.nilFunc],.func #[3] #[3] false,none⟩
def VX:TI:=⟨1,8,false,[.int .u64 0],.int .u64,none⟩
def VW:TI:=⟨1,8,false,[.nilFunc],.func #[3,199] #[4] false,none⟩
def VU:TI:=⟨1,8,false,[.nilFunc],.func #[3,317] #[4] false,none⟩
def tyl:List (Nat×TI):=[(3,ti3),(4,ti4),(9,ti9),(20,af0),(25,ti3),(29,afZ),(40,afY),(41,afX),(42,Tq),(43,Tq),(44,afW),(45,Tn),(46,Tn),(47,afV),(48,Tm),(49,Tm),(50,afU),(51,afT),(52,afS),(53,afR),(54,afQ),(55,Tj),(56,Tj),(57,afP),(58,Ti),(59,Ti),(60,afO),(75,Tf),(76,Tf),(77,Td),(78,Td),(81,afN),(85,afM),(89,afL),(90,afK),(91,afJ),(93,Tc),(94,Tc),(95,S9),(96,S9),(97,afI),(103,W9),(104,Fq),(105,Fq),(109,Fp),(110,Fp),(114,Fj),(115,Fj),(125,Fh),(126,Fh),(140,WZ),(145,WY),(151,Fg),(152,Fg),(153,Fe),(154,Fe),(163,Fb),(164,Fb),(169,Fa),(170,Fa),(183,WX),(186,E8),(187,E8),(192,E5),(193,E5),(198,EZ),(199,EZ),(207,WW),(210,EY),(211,EY),(212,EX),(213,EX),(215,EW),(216,EW),(220,WV),(224,WU),(229,EU),(230,EU),(235,WT),(236,WS),(238,WR),(240,ET),(241,ET),(242,WQ),(250,WO),(253,WM),(260,WJ),(265,WI),(266,WG),(267,WE),(268,ES),(269,ES),(287,ER),(288,ER),(289,WC),(299,EP),(300,EP),(304,WB),(306,WA),(307,EO),(308,EO),(314,EN),(315,EN),(316,EM),(317,EM),(330,Wy),(336,EL),(337,EL),(345,Wx),(348,Wv),(350,Wu),(352,Ws),(353,Wq),(361,Wp),(362,Wn),(363,Wj),(370,EK),(371,EK),(372,EJ),(373,EJ),(376,Wi),(377,Wh),(378,V9),(380,V8),(394,V7),(396,V6),(398,V5),(400,V4),(401,V3),(414,VZ),(419,EI),(420,EI),(424,EH),(425,EH),(429,VY),(434,VX),(439,VW),(440,VU)]
def ty:iT:=λt=>lk tyl t
@[go_sem] theorem aIt:ty 3=some ti3:=by kernel_rfl
@[go_sem] theorem aIs:ty 4=some ti4:=by kernel_rfl
@[go_sem] theorem aIr:ty 9=some ti9:=by kernel_rfl
@[go_sem] theorem aFw:ty 20=some af0:=by kernel_rfl
@[go_sem] theorem aFv:ty 25=some ti3:=by kernel_rfl
@[go_sem] theorem aFu:ty 29=some afZ:=by kernel_rfl
@[go_sem] theorem aFt:ty 40=some afY:=by kernel_rfl
@[go_sem] theorem aFs:ty 41=some afX:=by kernel_rfl
@[go_sem] theorem aFr:ty 42=some Tq:=by kernel_rfl
@[go_sem] theorem aFq:ty 43=some Tq:=by kernel_rfl
@[go_sem] theorem aFp:ty 44=some afW:=by kernel_rfl
@[go_sem] theorem aFo:ty 45=some Tn:=by kernel_rfl
@[go_sem] theorem aFm:ty 46=some Tn:=by kernel_rfl
@[go_sem] theorem aFl:ty 47=some afV:=by kernel_rfl
@[go_sem] theorem aFk:ty 48=some Tm:=by kernel_rfl
@[go_sem] theorem aFj:ty 49=some Tm:=by kernel_rfl
@[go_sem] theorem aFi:ty 50=some afU:=by kernel_rfl
@[go_sem] theorem aFh:ty 51=some afT:=by kernel_rfl
@[go_sem] theorem aFg:ty 52=some afS:=by kernel_rfl
@[go_sem] theorem aFf:ty 53=some afR:=by kernel_rfl
@[go_sem] theorem aFe:ty 54=some afQ:=by kernel_rfl
@[go_sem] theorem aFd:ty 55=some Tj:=by kernel_rfl
@[go_sem] theorem aFc:ty 56=some Tj:=by kernel_rfl
@[go_sem] theorem aFb:ty 57=some afP:=by kernel_rfl
@[go_sem] theorem aFa:ty 58=some Ti:=by kernel_rfl
@[go_sem] theorem aE':ty 59=some Ti:=by kernel_rfl
@[go_sem] theorem aE9:ty 60=some afO:=by kernel_rfl
@[go_sem] theorem aE8:ty 75=some Tf:=by kernel_rfl
@[go_sem] theorem aE7:ty 76=some Tf:=by kernel_rfl
@[go_sem] theorem aE6:ty 77=some Td:=by kernel_rfl
@[go_sem] theorem aE5:ty 78=some Td:=by kernel_rfl
@[go_sem] theorem aE4:ty 81=some afN:=by kernel_rfl
@[go_sem] theorem aE3:ty 85=some afM:=by kernel_rfl
@[go_sem] theorem aE2:ty 89=some afL:=by kernel_rfl
@[go_sem] theorem aE1:ty 90=some afK:=by kernel_rfl
@[go_sem] theorem aE0:ty 91=some afJ:=by kernel_rfl
@[go_sem] theorem aEZ:ty 93=some Tc:=by kernel_rfl
@[go_sem] theorem aEY:ty 94=some Tc:=by kernel_rfl
@[go_sem] theorem aEX:ty 95=some S9:=by kernel_rfl
@[go_sem] theorem aEW:ty 96=some S9:=by kernel_rfl
@[go_sem] theorem aEV:ty 97=some afI:=by kernel_rfl
@[go_sem] theorem aBe:ty 103=some W9:=by kernel_rfl
@[go_sem] theorem aBd:ty 104=some Fq:=by kernel_rfl
@[go_sem] theorem aBb:ty 105=some Fq:=by kernel_rfl
@[go_sem] theorem aBa:ty 109=some Fp:=by kernel_rfl
@[go_sem] theorem aA':ty 110=some Fp:=by kernel_rfl
@[go_sem] theorem aA9:ty 114=some Fj:=by kernel_rfl
@[go_sem] theorem aA8:ty 115=some Fj:=by kernel_rfl
@[go_sem] theorem aA7:ty 125=some Fh:=by kernel_rfl
@[go_sem] theorem aA6:ty 126=some Fh:=by kernel_rfl
@[go_sem] theorem aA5:ty 140=some WZ:=by kernel_rfl
@[go_sem] theorem aA4:ty 145=some WY:=by kernel_rfl
@[go_sem] theorem aA3:ty 151=some Fg:=by kernel_rfl
@[go_sem] theorem aA2:ty 152=some Fg:=by kernel_rfl
@[go_sem] theorem aA1:ty 153=some Fe:=by kernel_rfl
@[go_sem] theorem aA0:ty 154=some Fe:=by kernel_rfl
@[go_sem] theorem aAZ:ty 163=some Fb:=by kernel_rfl
@[go_sem] theorem aAY:ty 164=some Fb:=by kernel_rfl
@[go_sem] theorem aAX:ty 169=some Fa:=by kernel_rfl
@[go_sem] theorem aAW:ty 170=some Fa:=by kernel_rfl
@[go_sem] theorem aAV:ty 183=some WX:=by kernel_rfl
@[go_sem] theorem aAU:ty 186=some E8:=by kernel_rfl
@[go_sem] theorem aAT:ty 187=some E8:=by kernel_rfl
@[go_sem] theorem aAS:ty 192=some E5:=by kernel_rfl
@[go_sem] theorem aAR:ty 193=some E5:=by kernel_rfl
@[go_sem] theorem aAQ:ty 198=some EZ:=by kernel_rfl
@[go_sem] theorem aAP:ty 199=some EZ:=by kernel_rfl
@[go_sem] theorem aAO:ty 207=some WW:=by kernel_rfl
@[go_sem] theorem aAN:ty 210=some EY:=by kernel_rfl
@[go_sem] theorem aAM:ty 211=some EY:=by kernel_rfl
@[go_sem] theorem aAL:ty 212=some EX:=by kernel_rfl
@[go_sem] theorem aAK:ty 213=some EX:=by kernel_rfl
@[go_sem] theorem aAJ:ty 215=some EW:=by kernel_rfl
@[go_sem] theorem aAI:ty 216=some EW:=by kernel_rfl
@[go_sem] theorem aAH:ty 220=some WV:=by kernel_rfl
@[go_sem] theorem aAG:ty 224=some WU:=by kernel_rfl
@[go_sem] theorem aAF:ty 229=some EU:=by kernel_rfl
@[go_sem] theorem aAE:ty 230=some EU:=by kernel_rfl
@[go_sem] theorem aAD:ty 235=some WT:=by kernel_rfl
@[go_sem] theorem aAC:ty 236=some WS:=by kernel_rfl
@[go_sem] theorem aAB:ty 238=some WR:=by kernel_rfl
@[go_sem] theorem aAA:ty 240=some ET:=by kernel_rfl
@[go_sem] theorem aAz:ty 241=some ET:=by kernel_rfl
@[go_sem] theorem aAy:ty 242=some WQ:=by kernel_rfl
@[go_sem] theorem aAx:ty 250=some WO:=by kernel_rfl
@[go_sem] theorem aAw:ty 253=some WM:=by kernel_rfl
@[go_sem] theorem aAv:ty 260=some WJ:=by kernel_rfl
@[go_sem] theorem aAu:ty 265=some WI:=by kernel_rfl
@[go_sem] theorem aAt:ty 266=some WG:=by kernel_rfl
@[go_sem] theorem aAs:ty 267=some WE:=by kernel_rfl
@[go_sem] theorem aAr:ty 268=some ES:=by kernel_rfl
@[go_sem] theorem aAq:ty 269=some ES:=by kernel_rfl
@[go_sem] theorem aAp:ty 287=some ER:=by kernel_rfl
@[go_sem] theorem aAo:ty 288=some ER:=by kernel_rfl
@[go_sem] theorem aAn:ty 289=some WC:=by kernel_rfl
@[go_sem] theorem aAm:ty 299=some EP:=by kernel_rfl
@[go_sem] theorem aAl:ty 300=some EP:=by kernel_rfl
@[go_sem] theorem aAk:ty 304=some WB:=by kernel_rfl
@[go_sem] theorem aAj:ty 306=some WA:=by kernel_rfl
@[go_sem] theorem aAi:ty 307=some EO:=by kernel_rfl
@[go_sem] theorem aAh:ty 308=some EO:=by kernel_rfl
@[go_sem] theorem aAg:ty 314=some EN:=by kernel_rfl
@[go_sem] theorem aAf:ty 315=some EN:=by kernel_rfl
@[go_sem] theorem aAe:ty 316=some EM:=by kernel_rfl
@[go_sem] theorem aAd:ty 317=some EM:=by kernel_rfl
@[go_sem] theorem aAc:ty 330=some Wy:=by kernel_rfl
@[go_sem] theorem aAb:ty 336=some EL:=by kernel_rfl
@[go_sem] theorem aAa:ty 337=some EL:=by kernel_rfl
@[go_sem] theorem az':ty 345=some Wx:=by kernel_rfl
@[go_sem] theorem az9:ty 348=some Wv:=by kernel_rfl
@[go_sem] theorem az8:ty 350=some Wu:=by kernel_rfl
@[go_sem] theorem az7:ty 352=some Ws:=by kernel_rfl
@[go_sem] theorem az6:ty 353=some Wq:=by kernel_rfl
@[go_sem] theorem az5:ty 361=some Wp:=by kernel_rfl
@[go_sem] theorem az4:ty 362=some Wn:=by kernel_rfl
@[go_sem] theorem az3:ty 363=some Wj:=by kernel_rfl
@[go_sem] theorem az2:ty 370=some EK:=by kernel_rfl
@[go_sem] theorem az1:ty 371=some EK:=by kernel_rfl
@[go_sem] theorem az0:ty 372=some EJ:=by kernel_rfl
@[go_sem] theorem azZ:ty 373=some EJ:=by kernel_rfl
@[go_sem] theorem azY:ty 376=some Wi:=by kernel_rfl
@[go_sem] theorem azX:ty 377=some Wh:=by kernel_rfl
@[go_sem] theorem azW:ty 378=some V9:=by kernel_rfl
@[go_sem] theorem azV:ty 380=some V8:=by kernel_rfl
@[go_sem] theorem azU:ty 394=some V7:=by kernel_rfl
@[go_sem] theorem azT:ty 396=some V6:=by kernel_rfl
@[go_sem] theorem azS:ty 398=some V5:=by kernel_rfl
@[go_sem] theorem azR:ty 400=some V4:=by kernel_rfl
@[go_sem] theorem azQ:ty 401=some V3:=by kernel_rfl
@[go_sem] theorem azP:ty 414=some VZ:=by kernel_rfl
@[go_sem] theorem azO:ty 419=some EI:=by kernel_rfl
@[go_sem] theorem azN:ty 420=some EI:=by kernel_rfl
@[go_sem] theorem azM:ty 424=some EH:=by kernel_rfl
@[go_sem] theorem azL:ty 425=some EH:=by kernel_rfl
@[go_sem] theorem azK:ty 429=some VY:=by kernel_rfl
@[go_sem] theorem azJ:ty 434=some VX:=by kernel_rfl
@[go_sem] theorem azI:ty 439=some VW:=by kernel_rfl
@[go_sem] theorem azH:ty 440=some VU:=by kernel_rfl
attribute [go_sem] ti3 ti4 ti9 af0 afZ afY afX Tq afW Tn afV Tm afU afT afS afR afQ Tj afP Ti afO Tf Td afN afM afL afK afJ Tc S9 afI W9 Fq Fp Fj Fh WZ WY Fg Fe Fb Fa WX E8 E5 EZ WW EY EX EW WV WU EU WT WS WR ET WQ WO WM WJ WI WG WE ES ER WC EP WB WA EO EN EM Wy EL Wx Wv Wu Ws Wq Wp Wn Wj EK EJ Wi Wh V9 V8 V7 V6 V5 V4 V3 VZ EI EH VY VX VW VU
def zv (i:TI):Value:=if i.agg=true then .agg i.zero.toArray else i.zero.headD .nilFunc
theorem fact {t:Nat} {i:TI} (he:∀ n,i.eqn=some n->amQ prog t n:=by (intro n hn; cases hn; done)) (h1:(prog.info? t).map (λi=>(i.size,i.bytes,i.zero))=some (i.size,i.bytes,some (zv i)):=by kernel_rfl) (h2:prog.underlying t=some i.desc:=by kernel_rfl) (hz:(zv i).cells.toList=i.zero:=by rfl)
 (ha:i.agg=(match i.desc with | .struct _ | .array _ _=>true | _=>false):=by rfl) (ho:i.agg=false->i.size=1:=by first | (intro _; rfl) | (intro h; cases h)) (hl:i.zero.length=i.size:=by rfl):aI prog t i:=by
 have key:∃ info,prog.info? t=some info/\info.size=i.size/\info.bytes=i.bytes/\info.zero=some (zv i):=by
  cases hi:prog.info? t with
  | none=>rw [hi] at h1; cases h1
  | some info=>
   rw [hi] at h1
   simp only [Option.map_some,Option.some.injEq,Prod.mk.injEq] at h1
   exact ⟨info,rfl,h1.1,h1.2.1,h1.2.2⟩
 obtain ⟨info,k1,k2,k3,k4⟩:=key
 exact ⟨⟨info,zv i,k1,k2,k3,k4,hz⟩,h2,ha,ho,hl,he,λh=>⟨info,k1,by rw [k4]; simp [zv,h]⟩⟩
theorem aD':amQ prog 90 [true,true] where
 guard:=by kernel_rfl
 run:=by
  intro xs ys w h1 h2
  obtain ⟨a0,xs0,rfl,aDW⟩:=Nq h1
  obtain ⟨b0,ys0,rfl,aDU⟩:=Nq h2
  obtain ⟨a1,xs1,rfl,aDV⟩:=Nq aDW
  obtain ⟨b1,ys1,rfl,aDT⟩:=Nq aDU
  obtain rfl:=ac2 aDV
  obtain rfl:=ac2 aDT
  have u3:prog.underlying 3=some (.int .i64):=by kernel_rfl
  have u90:prog.underlying 90=some (.struct #[vF "Lo" 3 0 0,vF "Hi" 3 1 8]):=by kernel_rfl
  have g90:prog.stoodInHeld 90=false:=by kernel_rfl
  have v90:prog.underlying 90=some (.struct (prog.fieldsOf 90)):=by kernel_rfl
  have w90:(prog.fieldsOf 90).toList=[vF "Lo" 3 0 0,vF "Hi" 3 1 8]:=by kernel_rfl
  have s90:∀ w,(sizeOf 90).run prog w= .ok 2 w:=λ_=>by kernel_rfl
  have p3:∀ w,(isAgg 3).run prog w= .ok false w:=λ_=>by kernel_rfl
  have p90:∀ w,(isAgg 90).run prog w= .ok true w:=λ_=>by kernel_rfl
  have e3:∀ (d:Nat) (a b:Int) (w:World),(Op.equalIn (d+1) 3 (.int .i64 a) (.int .i64 b)).run prog w= .ok (a == b) w:=λd a b w=>run_equalIn_int w d 3 .i64 .i64 a b u3
  have e90:∀ (d:Nat) (xs ys:Array Value) (w:World),(Op.equalIn (d+1) 90 (.agg xs) (.agg ys)).run prog w=(Op.eqFields d xs ys (prog.fieldsOf 90).toList).run prog w:=λd xs ys w=>run_equalIn_struct w d 90 xs ys v90 g90
  simp [evs,EV.val,e3,e90,Op.eqFields,part,g90,w90,s90,p3,p90]
  try grind
theorem tf3:aI prog 3 ti3:=fact
theorem tf4:aI prog 4 ti4:=fact
theorem tf9:aI prog 9 ti9:=fact
theorem aBQ:aI prog 20 af0:=fact
theorem aBP:aI prog 25 ti3:=fact
theorem aBO:aI prog 29 afZ:=fact
theorem aBN:aI prog 40 afY:=fact
theorem aBM:aI prog 41 afX:=fact
theorem aBL:aI prog 42 Tq:=fact
theorem aBK:aI prog 43 Tq:=fact
theorem aBJ:aI prog 44 afW:=fact
theorem aBI:aI prog 45 Tn:=fact
theorem aBH:aI prog 46 Tn:=fact
theorem aBG:aI prog 47 afV:=fact
theorem aBF:aI prog 48 Tm:=fact
theorem aBE:aI prog 49 Tm:=fact
theorem aBD:aI prog 50 afU:=fact
theorem aBC:aI prog 51 afT:=fact
theorem aBB:aI prog 52 afS:=fact
theorem aBA:aI prog 53 afR:=fact
theorem aBz:aI prog 54 afQ:=fact
theorem aBy:aI prog 55 Tj:=fact
theorem aBx:aI prog 56 Tj:=fact
theorem aBw:aI prog 57 afP:=fact
theorem aBv:aI prog 58 Ti:=fact
theorem aBu:aI prog 59 Ti:=fact
theorem aBt:aI prog 60 afO:=fact
theorem aBs:aI prog 75 Tf:=fact
theorem aBr:aI prog 76 Tf:=fact
theorem aBq:aI prog 77 Td:=fact
theorem aBp:aI prog 78 Td:=fact
theorem aBo:aI prog 81 afN:=fact
theorem aBn:aI prog 85 afM:=fact
theorem aBm:aI prog 89 afL:=fact
theorem aBl:aI prog 90 afK:=fact (λn hn=>by obtain rfl:=Option.some.inj hn; exact aD')
theorem aBk:aI prog 91 afJ:=fact
theorem aBj:aI prog 93 Tc:=fact
theorem aBi:aI prog 94 Tc:=fact
theorem aBh:aI prog 95 S9:=fact
theorem aBg:aI prog 96 S9:=fact
theorem aBf:aI prog 97 afI:=fact
theorem apl:aI prog 103 W9:=fact
theorem apk:aI prog 104 Fq:=fact
theorem apj:aI prog 105 Fq:=fact
theorem aph:aI prog 109 Fp:=fact
theorem apg:aI prog 110 Fp:=fact
theorem apf:aI prog 114 Fj:=fact
theorem ape:aI prog 115 Fj:=fact
theorem apd:aI prog 125 Fh:=fact
theorem apc:aI prog 126 Fh:=fact
theorem apb:aI prog 140 WZ:=fact
theorem apa:aI prog 145 WY:=fact
theorem ao9:aI prog 151 Fg:=fact
theorem ao8:aI prog 152 Fg:=fact
theorem ao7:aI prog 153 Fe:=fact
theorem ao6:aI prog 154 Fe:=fact
theorem ao5:aI prog 163 Fb:=fact
theorem ao4:aI prog 164 Fb:=fact
theorem ao3:aI prog 169 Fa:=fact
theorem ao2:aI prog 170 Fa:=fact
theorem ao1:aI prog 183 WX:=fact
theorem ao0:aI prog 186 E8:=fact
theorem aoZ:aI prog 187 E8:=fact
theorem aoY:aI prog 192 E5:=fact
theorem aoX:aI prog 193 E5:=fact
theorem aoW:aI prog 198 EZ:=fact
theorem aoV:aI prog 199 EZ:=fact
theorem aoU:aI prog 207 WW:=fact
theorem aoT:aI prog 210 EY:=fact
theorem aoS:aI prog 211 EY:=fact
theorem aoR:aI prog 212 EX:=fact
theorem aoQ:aI prog 213 EX:=fact
theorem aoP:aI prog 215 EW:=fact
theorem aoO:aI prog 216 EW:=fact
theorem aoN:aI prog 220 WV:=fact
theorem aoM:aI prog 224 WU:=fact
theorem aoL:aI prog 229 EU:=fact
theorem aoK:aI prog 230 EU:=fact
theorem aoJ:aI prog 235 WT:=fact
theorem aoI:aI prog 236 WS:=fact
theorem aoH:aI prog 238 WR:=fact
theorem aoG:aI prog 240 ET:=fact
theorem aoF:aI prog 241 ET:=fact
theorem aoE:aI prog 242 WQ:=fact
theorem aoD:aI prog 250 WO:=fact
theorem aoC:aI prog 253 WM:=fact
theorem aoB:aI prog 260 WJ:=fact
theorem aoA:aI prog 265 WI:=fact
theorem aoz:aI prog 266 WG:=fact
theorem aoy:aI prog 267 WE:=fact
theorem aox:aI prog 268 ES:=fact
theorem aow:aI prog 269 ES:=fact
theorem aov:aI prog 287 ER:=fact
theorem aou:aI prog 288 ER:=fact
theorem aot:aI prog 289 WC:=fact
theorem aos:aI prog 299 EP:=fact
theorem aor:aI prog 300 EP:=fact
theorem aoq:aI prog 304 WB:=fact
theorem aop:aI prog 306 WA:=fact
theorem aoo:aI prog 307 EO:=fact
theorem aon:aI prog 308 EO:=fact
theorem aom:aI prog 314 EN:=fact
theorem aol:aI prog 315 EN:=fact
theorem aok:aI prog 316 EM:=fact
theorem aoj:aI prog 317 EM:=fact
theorem aoi:aI prog 330 Wy:=fact
theorem aoh:aI prog 336 EL:=fact
theorem aog:aI prog 337 EL:=fact
theorem aof:aI prog 345 Wx:=fact
theorem aoe:aI prog 348 Wv:=fact
theorem aod:aI prog 350 Wu:=fact
theorem aoc:aI prog 352 Ws:=fact
theorem aob:aI prog 353 Wq:=fact
theorem aoa:aI prog 361 Wp:=fact
theorem an':aI prog 362 Wn:=fact
theorem an9:aI prog 363 Wj:=fact
theorem an8:aI prog 370 EK:=fact
theorem an7:aI prog 371 EK:=fact
theorem an6:aI prog 372 EJ:=fact
theorem an5:aI prog 373 EJ:=fact
theorem an4:aI prog 376 Wi:=fact
theorem an3:aI prog 377 Wh:=fact
theorem an2:aI prog 378 V9:=fact
theorem an1:aI prog 380 V8:=fact
theorem an0:aI prog 394 V7:=fact
theorem anZ:aI prog 396 V6:=fact
theorem anY:aI prog 398 V5:=fact
theorem anX:aI prog 400 V4:=fact
theorem anW:aI prog 401 V3:=fact
theorem anV:aI prog 414 VZ:=fact
theorem anU:aI prog 419 EI:=fact
theorem anT:aI prog 420 EI:=fact
theorem anS:aI prog 424 EH:=fact
theorem anR:aI prog 425 EH:=fact
theorem anQ:aI prog 429 VY:=fact
theorem anP:aI prog 434 VX:=fact
theorem anO:aI prog 439 VW:=fact
theorem anN:aI prog 440 VU:=fact
def Facts:List (Nat×TI)->Prop
 | []=>True
 | p::r=>aI prog p.1 p.2/\Facts r
theorem Kv:∀ {l:List (Nat×TI)},Facts l->∀ t i,lk l t=some i->aI prog t i
 | [],_,_,_,h=>by cases h
 | (k,x)::r,h,t,i,hi=>by
  simp only [lk] at hi
  split at hi
  ·rename_i e; subst e; obtain rfl:=Option.some.inj hi; exact h.1
  ·exact Kv h.2 t i hi
theorem cZ:iP prog ty:=Kv (l:=tyl) ⟨tf3,tf4,tf9,aBQ,aBP,aBO,aBN,aBM,aBL,aBK,aBJ,aBI,aBH,aBG,aBF,aBE,aBD,aBC,aBB,aBA,aBz,aBy,aBx,aBw,aBv,aBu,aBt,aBs,aBr,aBq,aBp,aBo,aBn,aBm,aBl,aBk,aBj,aBi,aBh,aBg,aBf,apl,apk,apj,aph,apg,apf,ape,apd,apc,apb,apa,ao9,ao8,ao7,ao6,ao5,ao4,ao3,ao2,ao1,ao0,aoZ,aoY,aoX,aoW,aoV,aoU,aoT,aoS,aoR,aoQ,aoP,aoO,aoN,aoM,aoL,aoK,aoJ,aoI,aoH,aoG,aoF,aoE,aoD,aoC,aoB,aoA,aoz,aoy,aox,aow,aov,aou,aot,aos,aor,aoq,aop,aoo,aon,aom,aol,aok,aoj,aoi,aoh,aog,aof,aoe,aod,aoc,aob,aoa,an',an9,an8,an7,an6,an5,an4,an3,an2,an1,an0,anZ,anY,anX,anW,anV,anU,anT,anS,anR,anQ,anP,anO,anN,trivial⟩
end Go.Proofs.YtnepigpnlnmlmaaGreatDoor
