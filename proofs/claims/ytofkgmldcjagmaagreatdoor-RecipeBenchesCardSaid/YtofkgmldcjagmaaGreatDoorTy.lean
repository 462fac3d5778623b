/-
  The types of the translation, as the abstract machine uses them: a table, and that it agrees with the program's. Written by a program of ours (gen_ty.py).
-/
import Derived.Test.YtofkgmldcjagmaaGreatDoorProg
import Derived.Test.YtofkgmldcjagmaaGreatDoorAbsC
import Derived.KernelRfl
set_option linter.unusedSimpArgs false
set_option linter.unusedVariables false
namespace Go.Proofs.YtofkgmldcjagmaaGreatDoor
open Go.dJ
def ti3:TI:=⟨1,8,false,[.int .i64 0],.int .i64,none⟩
def ti4:TI:=⟨1,1,false,[.bool false],.bool,none⟩
def ti9:TI:=⟨1,16,false,[.string .empty],.string,none⟩
def ac6:TI:=⟨1,16,false,[.nilIface],.interface #[],none⟩
def ac5:TI:=⟨1,24,false,[.slice none 0 0],.slice 120,none⟩
def ac4:TI:=⟨1,24,false,[.slice none 0 0],.slice 97,none⟩
def ac3:TI:=⟨4,64,true,[.int .i64 0,.int .i64 0,.slice none 0 0,.slice none 0 0],.struct #[⟨"Cells",3,0,false,"","",0⟩,⟨"Exchange",3,1,false,"","",8⟩,⟨"Table",22,2,false,"","",16⟩,⟨"Laws",23,3,false,"","",40⟩],none⟩
def ac2:TI:=⟨4,64,true,[.int .i64 0,.int .i64 0,.slice none 0 0,.slice none 0 0],.struct #[⟨"Cells",3,0,false,"","",0⟩,⟨"Exchange",3,1,false,"","",8⟩,⟨"Table",22,2,false,"","",16⟩,⟨"Laws",23,3,false,"","",40⟩],none⟩
def ac1:TI:=⟨1,24,false,[.slice none 0 0],.slice 3,none⟩
def ac0:TI:=⟨2,48,true,[.slice none 0 0,.slice none 0 0],.struct #[⟨"Lo",26,0,false,"","",0⟩,⟨"Hi",26,1,false,"","",24⟩],none⟩
def acZ:TI:=⟨2,48,true,[.slice none 0 0,.slice none 0 0],.struct #[⟨"Lo",26,0,false,"","",0⟩,⟨"Hi",26,1,false,"","",24⟩],none⟩
def acY:TI:=⟨1,24,false,[.slice none 0 0],.slice 59,none⟩
def acX:TI:=⟨9,152,true,[.int .i64 0,.int .i64 0,.slice none 0 0,.slice none 0 0,.slice none 0 0,.slice none 0 0,.slice none 0 0,.int .i64 0,.int .i64 0],.struct #[⟨"Setup",25,0,false,"","",0⟩,⟨"Start",28,4,false,"","",64⟩,⟨"Weights",29,6,false,"","",112⟩,⟨"Air",3,7,false,"","",136⟩,⟨"Spread",3,8,false,"","",144⟩],none⟩
def acW:TI:=⟨9,152,true,[.int .i64 0,.int .i64 0,.slice none 0 0,.slice none 0 0,.slice none 0 0,.slice none 0 0,.slice none 0 0,.int .i64 0,.int .i64 0],.struct #[⟨"Setup",25,0,false,"","",0⟩,⟨"Start",28,4,false,"","",64⟩,⟨"Weights",29,6,false,"","",112⟩,⟨"Air",3,7,false,"","",136⟩,⟨"Spread",3,8,false,"","",144⟩],none⟩
def acV:TI:=⟨1,24,false,[.slice none 0 0],.slice 51,none⟩
def acU:TI:=⟨3,24,true,[.int .i64 0,.int .i64 0,.int .i64 0],.struct #[⟨"After",3,0,false,"","",0⟩,⟨"Kelvin",3,1,false,"","",8⟩,⟨"Most",3,2,false,"","",16⟩],none⟩
def acT:TI:=⟨3,24,true,[.int .i64 0,.int .i64 0,.int .i64 0],.struct #[⟨"After",3,0,false,"","",0⟩,⟨"Kelvin",3,1,false,"","",8⟩,⟨"Most",3,2,false,"","",16⟩],none⟩
def acS:TI:=⟨1,8,false,[.int .i64 0],.int .i64,none⟩
def acR:TI:=⟨2,16,true,[.int .i64 0,.int .i64 0],.struct #[⟨"Power",3,0,false,"","",0⟩,⟨"Law",3,1,false,"","",8⟩],none⟩
def acQ:TI:=⟨2,16,true,[.int .i64 0,.int .i64 0],.struct #[⟨"Power",3,0,false,"","",0⟩,⟨"Law",3,1,false,"","",8⟩],some [true,true]⟩
def acP:TI:=⟨1,24,false,[.slice none 0 0],.slice 29,none⟩
def acO:TI:=⟨1,8,false,[.nilFunc],.func #[3,3] #[3] false,none⟩
def acN:TI:=⟨2,16,true,[.int .i64 0,.int .i64 0],.struct #[⟨"Lo",3,0,false,"","",0⟩,⟨"Hi",3,1,false,"","",8⟩],none⟩
def acM:TI:=⟨2,16,true,[.int .i64 0,.int .i64 0],.struct #[⟨"Lo",3,0,false,"","",0⟩,⟨"Hi",3,1,false,"","",8⟩],some [true,true]⟩
def acL:TI:=⟨1,24,false,[.slice none 0 0],.slice 127,none⟩
def acK:TI:=⟨1,24,false,[.slice none 0 0],.slice 96,none⟩
def acJ:TI:=⟨1,24,false,[.slice none 0 0],.slice 196,none⟩
def acI:TI:=⟨1,24,false,[.slice none 0 0],.slice 315,none⟩
def acH:TI:=⟨1,24,false,[.slice none 0 0],.slice 198,none⟩
def acG:TI:=⟨1,24,false,[.slice none 0 0],.slice 317,none⟩
def acF:TI:=⟨4,32,true,[.int .i64 0,.int .i64 0,.int .i64 0,.int .i64 0],.array 4 3,none⟩
def acE:TI:=⟨8,128,true,[.slice none 0 0,.slice none 0 0,.slice none 0 0,.slice none 0 0,.int .i64 0,.int .i64 0,.int .i64 0,.int .i64 0],.struct #[⟨"Heats",79,0,false,"","",0⟩,⟨"Cools",80,1,false,"","",24⟩,⟨"Colds",81,2,false,"","",48⟩,⟨"Tempers",82,3,false,"","",72⟩,⟨"Hard",83,4,false,"","",96⟩],none⟩
def acD:TI:=⟨8,128,true,[.slice none 0 0,.slice none 0 0,.slice none 0 0,.slice none 0 0,.int .i64 0,.int .i64 0,.int .i64 0,.int .i64 0],.struct #[⟨"Heats",79,0,false,"","",0⟩,⟨"Cools",80,1,false,"","",24⟩,⟨"Colds",81,2,false,"","",48⟩,⟨"Tempers",82,3,false,"","",72⟩,⟨"Hard",83,4,false,"","",96⟩],none⟩
def acC:TI:=⟨1,24,false,[.slice none 0 0],.slice 146,none⟩
def acB:TI:=⟨19,312,true,[.int .i64 0,.int .i64 0,.slice none 0 0,.slice none 0 0,.slice none 0 0,.slice none 0 0,.slice none 0 0,.int .i64 0,.int .i64 0,.slice none 0 0,.slice none 0 0,.slice none 0 0,.slice none 0 0,.int .i64 0,.int .i64 0,.int .i64 0,.int .i64 0,.slice none 0 0,.int .i64 0],.struct #[⟨"Bench",31,0,false,"","",0⟩,⟨"Rules",85,9,false,"","",152⟩,⟨"Points",86,17,false,"","",280⟩,⟨"Edge",3,18,false,"","",304⟩],none⟩
def acA:TI:=⟨19,312,true,[.int .i64 0,.int .i64 0,.slice none 0 0,.slice none 0 0,.slice none 0 0,.slice none 0 0,.slice none 0 0,.int .i64 0,.int .i64 0,.slice none 0 0,.slice none 0 0,.slice none 0 0,.slice none 0 0,.int .i64 0,.int .i64 0,.int .i64 0,.int .i64 0,.slice none 0 0,.int .i64 0],.struct #[⟨"Bench",31,0,false,"","",0⟩,⟨"Rules",85,9,false,"","",152⟩,⟨"Points",86,17,false,"","",280⟩,⟨"Edge",3,18,false,"","",304⟩],none⟩
def acz:TI:=⟨6,64,true,[.int .i64 0,.int .i64 0,.int .i64 0,.int .i64 0,.int .i64 0,.slice none 0 0],.struct #[⟨"Kind",3,0,false,"","",0⟩,⟨"Power",3,1,false,"","",8⟩,⟨"Law",3,2,false,"","",16⟩,⟨"Ticks",3,3,false,"","",24⟩,⟨"Kelvin",3,4,false,"","",32⟩,⟨"Body",75,5,false,"","",40⟩],none⟩
def acy:TI:=⟨6,64,true,[.int .i64 0,.int .i64 0,.int .i64 0,.int .i64 0,.int .i64 0,.slice none 0 0],.struct #[⟨"Kind",3,0,false,"","",0⟩,⟨"Power",3,1,false,"","",8⟩,⟨"Law",3,2,false,"","",16⟩,⟨"Ticks",3,3,false,"","",24⟩,⟨"Kelvin",3,4,false,"","",32⟩,⟨"Body",75,5,false,"","",40⟩],none⟩
def acw:TI:=⟨1,24,false,[.slice none 0 0],.slice 136,none⟩
def acv:TI:=⟨9,152,true,[.int .i64 0,.int .i64 0,.slice none 0 0,.slice none 0 0,.slice none 0 0,.slice none 0 0,.slice none 0 0,.int .i64 0,.int .i64 0],.struct #[⟨"RecipeBench",31,0,true,"","",0⟩],none⟩
def acu:TI:=⟨9,152,true,[.int .i64 0,.int .i64 0,.slice none 0 0,.slice none 0 0,.slice none 0 0,.slice none 0 0,.slice none 0 0,.int .i64 0,.int .i64 0],.struct #[⟨"RecipeBench",31,0,true,"","",0⟩],none⟩
def Um:TI:=⟨1,8,false,[.pointer none],.pointer 109,none⟩
def Ul:TI:=⟨1,8,false,[.nilFunc],.func #[3] #[4] false,none⟩
def Uk:TI:=⟨11,200,true,[.int .i64 0,.int .i64 0,.slice none 0 0,.slice none 0 0,.slice none 0 0,.slice none 0 0,.slice none 0 0,.int .i64 0,.int .i64 0,.slice none 0 0,.slice none 0 0],.struct #[⟨"bench",99,0,true,"","martensite/recipe",0⟩,⟨"energies",26,9,false,"","martensite/recipe",152⟩,⟨"made",32,10,false,"","martensite/recipe",176⟩],none⟩
def Uj:TI:=⟨11,200,true,[.int .i64 0,.int .i64 0,.slice none 0 0,.slice none 0 0,.slice none 0 0,.slice none 0 0,.slice none 0 0,.int .i64 0,.int .i64 0,.slice none 0 0,.slice none 0 0],.struct #[⟨"bench",99,0,true,"","martensite/recipe",0⟩,⟨"energies",26,9,false,"","martensite/recipe",152⟩,⟨"made",32,10,false,"","martensite/recipe",176⟩],none⟩
def Ui:TI:=⟨2,16,true,[.int .i64 0,.int .i64 0],.struct #[⟨"Energy",3,0,false,"","",0⟩,⟨"Kelvin",3,1,false,"","",8⟩],none⟩
def Uh:TI:=⟨2,16,true,[.int .i64 0,.int .i64 0],.struct #[⟨"Energy",3,0,false,"","",0⟩,⟨"Kelvin",3,1,false,"","",8⟩],none⟩
def Ug:TI:=⟨3,40,true,[.slice none 0 0,.int .i64 0,.int .i64 0],.struct #[⟨"Powers",29,0,false,"","",0⟩,⟨"Laws",59,1,false,"","",24⟩],none⟩
def Uf:TI:=⟨3,40,true,[.slice none 0 0,.int .i64 0,.int .i64 0],.struct #[⟨"Powers",29,0,false,"","",0⟩,⟨"Laws",59,1,false,"","",24⟩],none⟩
def Ue:TI:=⟨1,24,false,[.slice none 0 0],.slice 28,none⟩
def Ud:TI:=⟨2,16,true,[.int .i64 0,.int .i64 0],.struct #[⟨"Kelvin",3,0,false,"","",0⟩,⟨"Loss",3,1,false,"","",8⟩],none⟩
def Uc:TI:=⟨2,16,true,[.int .i64 0,.int .i64 0],.struct #[⟨"Kelvin",3,0,false,"","",0⟩,⟨"Loss",3,1,false,"","",8⟩],none⟩
def Ub:TI:=⟨28,464,true,[.int .i64 0,.int .i64 0,.slice none 0 0,.slice none 0 0,.slice none 0 0,.slice none 0 0,.slice none 0 0,.int .i64 0,.int .i64 0,.int .i64 0,.int .i64 0,.slice none 0 0,.slice none 0 0,.slice none 0 0,.slice none 0 0,.slice none 0 0,.int .i64 0,.int .i64 0,.slice none 0 0,.slice none 0 0,.slice none 0 0,.slice none 0 0,.int .i64 0,.int .i64 0,.int .i64 0,.int .i64 0,.slice none 0 0,.int .i64 0],.struct #[⟨"bench",99,0,true,"","martensite/recipe",0⟩,⟨"RecipeOrder",88,9,true,"","",152⟩],none⟩
def Ua:TI:=⟨28,464,true,[.int .i64 0,.int .i64 0,.slice none 0 0,.slice none 0 0,.slice none 0 0,.slice none 0 0,.slice none 0 0,.int .i64 0,.int .i64 0,.int .i64 0,.int .i64 0,.slice none 0 0,.slice none 0 0,.slice none 0 0,.slice none 0 0,.slice none 0 0,.int .i64 0,.int .i64 0,.slice none 0 0,.slice none 0 0,.slice none 0 0,.slice none 0 0,.int .i64 0,.int .i64 0,.int .i64 0,.int .i64 0,.slice none 0 0,.int .i64 0],.struct #[⟨"bench",99,0,true,"","martensite/recipe",0⟩,⟨"RecipeOrder",88,9,true,"","",152⟩],none⟩
def TY:TI:=⟨3,24,true,[.int .i64 0,.int .i64 0,.int .i64 0],.struct #[⟨"Cell",3,0,false,"","",0⟩,⟨"Hard",59,1,false,"","",8⟩],none⟩
def TW:TI:=⟨3,24,true,[.int .i64 0,.int .i64 0,.int .i64 0],.struct #[⟨"Cell",3,0,false,"","",0⟩,⟨"Hard",59,1,false,"","",8⟩],none⟩
def TV:TI:=⟨1,16,true,[.string .empty],.struct #[⟨"rest",9,0,false,"","martensite/recipe",0⟩],none⟩
def TU:TI:=⟨1,16,true,[.string .empty],.struct #[⟨"rest",9,0,false,"","martensite/recipe",0⟩],none⟩
def TT:TI:=⟨1,24,false,[.slice none 0 0],.slice 9,none⟩
def TS:TI:=⟨1,24,false,[.slice none 0 0],.slice 37,none⟩
def TR:TI:=⟨2,32,true,[.slice none 0 0,.int .i64 0],.struct #[⟨"Powers",26,0,false,"","",0⟩,⟨"Law",3,1,false,"","",24⟩],none⟩
def TQ:TI:=⟨2,32,true,[.slice none 0 0,.int .i64 0],.struct #[⟨"Powers",26,0,false,"","",0⟩,⟨"Law",3,1,false,"","",24⟩],none⟩
def TP:TI:=⟨1,8,false,[.nilFunc],.func #[59] #[3] false,none⟩
def TN:TI:=⟨1,24,false,[.slice none 0 0],.slice 232,none⟩
def TM:TI:=⟨1,24,false,[.slice none 0 0],.slice 173,none⟩
def TK:TI:=⟨6,112,true,[.int .i64 0,.int .i64 0,.slice none 0 0,.slice none 0 0,.slice none 0 0,.slice none 0 0],.struct #[⟨"HeatSetup",25,0,true,"","",0⟩,⟨"table",173,4,false,"","martensite/heat",64⟩,⟨"laws",174,5,false,"","martensite/heat",88⟩],none⟩
def TJ:TI:=⟨6,112,true,[.int .i64 0,.int .i64 0,.slice none 0 0,.slice none 0 0,.slice none 0 0,.slice none 0 0],.struct #[⟨"HeatSetup",25,0,true,"","",0⟩,⟨"table",173,4,false,"","martensite/heat",64⟩,⟨"laws",174,5,false,"","martensite/heat",88⟩],none⟩
def TG:TI:=⟨14,112,true,[.int .i64 0,.int .i64 0,.int .i64 0,.int .i64 0,.int .i64 0,.int .i64 0,.int .i64 0,.int .i64 0,.int .i64 0,.int .i64 0,.int .i64 0,.int .i64 0,.int .i64 0,.int .i64 0],.struct #[⟨"Parent",59,0,false,"","",0⟩,⟨"Austenite",59,2,false,"","",16⟩,⟨"Bainite",59,4,false,"","",32⟩,⟨"Martensite",59,6,false,"","",48⟩,⟨"Wait",59,8,false,"","",64⟩,⟨"Grain",59,10,false,"","",80⟩,⟨"Temper",59,12,false,"","",96⟩],none⟩
def TF:TI:=⟨14,112,true,[.int .i64 0,.int .i64 0,.int .i64 0,.int .i64 0,.int .i64 0,.int .i64 0,.int .i64 0,.int .i64 0,.int .i64 0,.int .i64 0,.int .i64 0,.int .i64 0,.int .i64 0,.int .i64 0],.struct #[⟨"Parent",59,0,false,"","",0⟩,⟨"Austenite",59,2,false,"","",16⟩,⟨"Bainite",59,4,false,"","",32⟩,⟨"Martensite",59,6,false,"","",48⟩,⟨"Wait",59,8,false,"","",64⟩,⟨"Grain",59,10,false,"","",80⟩,⟨"Temper",59,12,false,"","",96⟩],none⟩
def TD:TI:=⟨7,56,true,[.int .i64 0,.int .i64 0,.int .i64 0,.int .i64 0,.int .i64 0,.int .i64 0,.int .i64 0],.struct #[⟨"Parent",3,0,false,"","",0⟩,⟨"Austenite",3,1,false,"","",8⟩,⟨"Bainite",3,2,false,"","",16⟩,⟨"Martensite",3,3,false,"","",24⟩,⟨"Wait",3,4,false,"","",32⟩,⟨"Grain",3,5,false,"","",40⟩,⟨"Temper",3,6,false,"","",48⟩],none⟩
def TB:TI:=⟨7,56,true,[.int .i64 0,.int .i64 0,.int .i64 0,.int .i64 0,.int .i64 0,.int .i64 0,.int .i64 0],.struct #[⟨"Parent",3,0,false,"","",0⟩,⟨"Austenite",3,1,false,"","",8⟩,⟨"Bainite",3,2,false,"","",16⟩,⟨"Martensite",3,3,false,"","",24⟩,⟨"Wait",3,4,false,"","",32⟩,⟨"Grain",3,5,false,"","",40⟩,⟨"Temper",3,6,false,"","",48⟩],none⟩
def TA:TI:=⟨4,32,true,[.int .i64 0,.int .i64 0,.int .i64 0,.int .i64 0],.struct #[⟨"Kelvin",3,0,false,"","",0⟩,⟨"Rate",59,1,false,"","",8⟩,⟨"Growth",3,3,false,"","",24⟩],none⟩
def Tz:TI:=⟨4,32,true,[.int .i64 0,.int .i64 0,.int .i64 0,.int .i64 0],.struct #[⟨"Kelvin",3,0,false,"","",0⟩,⟨"Rate",59,1,false,"","",8⟩,⟨"Growth",3,3,false,"","",24⟩],none⟩
def Tv:TI:=⟨3,24,true,[.int .i64 0,.int .i64 0,.int .i64 0],.struct #[⟨"Kelvin",3,0,false,"","",0⟩,⟨"Share",59,1,false,"","",8⟩],none⟩
def Tt:TI:=⟨3,24,true,[.int .i64 0,.int .i64 0,.int .i64 0],.struct #[⟨"Kelvin",3,0,false,"","",0⟩,⟨"Share",59,1,false,"","",8⟩],none⟩
def Tq:TI:=⟨1,8,false,[.pointer none],.pointer 150,none⟩
def Tn:TI:=⟨1,16,false,[.nilIface],.interface #[("Error",213)],none⟩
def Tm:TI:=⟨1,16,false,[.nilIface],.interface #[("Error",213)],none⟩
def Tj:TI:=⟨2,16,true,[.int .i64 0,.int .i64 0],.struct #[⟨"Num",3,0,false,"","",0⟩,⟨"Den",3,1,false,"","",8⟩],none⟩
def Ti:TI:=⟨2,16,true,[.int .i64 0,.int .i64 0],.struct #[⟨"Num",3,0,false,"","",0⟩,⟨"Den",3,1,false,"","",8⟩],none⟩
def Tf:TI:=⟨2,16,true,[.int .i64 0,.int .i64 0],.struct #[⟨"x",3,0,false,"","martensite/heat",0⟩,⟨"y",3,1,false,"","martensite/heat",8⟩],none⟩
def Td:TI:=⟨2,16,true,[.int .i64 0,.int .i64 0],.struct #[⟨"x",3,0,false,"","martensite/heat",0⟩,⟨"y",3,1,false,"","martensite/heat",8⟩],none⟩
def Tc:TI:=⟨2,16,true,[.int .i64 0,.int .i64 0],.struct #[⟨"num",3,0,false,"","martensite/heat",0⟩,⟨"den",3,1,false,"","martensite/heat",8⟩],none⟩
def S9:TI:=⟨2,16,true,[.int .i64 0,.int .i64 0],.struct #[⟨"num",3,0,false,"","martensite/heat",0⟩,⟨"den",3,1,false,"","martensite/heat",8⟩],none⟩
def SY:TI:=⟨1,8,false,[.nilFunc],.func #[96] #[4] false,none⟩
def SX:TI:=⟨8,128,true,[.slice none 0 0,.slice none 0 0,.slice none 0 0,.slice none 0 0,.int .i64 0,.int .i64 0,.int .i64 0,.int .i64 0],.struct #[⟨"SteelRules",85,0,true,"","",0⟩],none⟩
def SV:TI:=⟨8,128,true,[.slice none 0 0,.slice none 0 0,.slice none 0 0,.slice none 0 0,.int .i64 0,.int .i64 0,.int .i64 0,.int .i64 0],.struct #[⟨"SteelRules",85,0,true,"","",0⟩],none⟩
def SS:TI:=⟨1,8,false,[.pointer none],.pointer 3,none⟩
def SQ:TI:=⟨1,24,false,[.slice none 0 0],.slice 255,none⟩
def SN:TI:=⟨1,8,false,[.map none],.map 3 256,none⟩
def SL:TI:=⟨1,8,false,[.nilFunc],.func #[232,234] #[3] false,none⟩
def SK:TI:=⟨1,24,false,[.slice none 0 0],.slice 280,none⟩
def SI:TI:=⟨4,96,true,[.slice none 0 0,.slice none 0 0,.slice none 0 0,.slice none 0 0],.array 4 274,none⟩
def SH:TI:=⟨1,8,false,[.pointer none],.pointer 280,none⟩
def SG:TI:=⟨3,40,true,[.int .i64 0,.slice none 0 0,.int .i64 0],.struct #[⟨"kelvin",3,0,false,"","martensite/steel",0⟩,⟨"ranges",29,1,false,"","martensite/steel",8⟩,⟨"other",3,2,false,"","martensite/steel",32⟩],none⟩
def SE:TI:=⟨3,40,true,[.int .i64 0,.slice none 0 0,.int .i64 0],.struct #[⟨"kelvin",3,0,false,"","martensite/steel",0⟩,⟨"ranges",29,1,false,"","martensite/steel",8⟩,⟨"other",3,2,false,"","martensite/steel",32⟩],none⟩
def SC:TI:=⟨1,24,false,[.slice none 0 0],.slice 274,none⟩
def SB:TI:=⟨1,8,false,[.nilFunc],.func #[3] #[59] false,none⟩
def SA:TI:=⟨7,56,true,[.int .i64 0,.int .i64 0,.int .i64 0,.int .i64 0,.int .i64 0,.int .i64 0,.int .i64 0],.array 7 3,none⟩
def Sz:TI:=⟨1,8,false,[.pointer none],.pointer 59,none⟩
def Sv:TI:=⟨7,56,true,[.pointer none,.pointer none,.pointer none,.pointer none,.pointer none,.pointer none,.pointer none],.array 7 285,none⟩
def Sr:TI:=⟨1,8,false,[.pointer none],.pointer 189,none⟩
def Sm:TI:=⟨8,64,true,[.int .i64 0,.int .i64 0,.int .i64 0,.int .i64 0,.int .i64 0,.int .i64 0,.int .i64 0,.int .i64 0],.array 4 59,none⟩
def Sl:TI:=⟨6,96,true,[.string .empty,.string .empty,.string .empty,.string .empty,.string .empty,.string .empty],.array 6 9,none⟩
def Sj:TI:=⟨1,24,false,[.slice none 0 0],.slice 301,none⟩
def Si:TI:=⟨1,8,false,[.nilFunc],.func #[96] #[3] false,none⟩
def RZ:TI:=⟨3,24,true,[.nilFunc,.int .i64 0,.int .i64 0],.struct #[⟨"value",299,0,false,"","martensite/recipe",0⟩,⟨"lo",3,1,false,"","martensite/recipe",8⟩,⟨"hi",3,2,false,"","martensite/recipe",16⟩],none⟩
def RY:TI:=⟨3,24,true,[.nilFunc,.int .i64 0,.int .i64 0],.struct #[⟨"value",299,0,false,"","martensite/recipe",0⟩,⟨"lo",3,1,false,"","martensite/recipe",8⟩,⟨"hi",3,2,false,"","martensite/recipe",16⟩],none⟩
def RX:TI:=⟨1,8,false,[.int .u64 0],.int .u64,none⟩
def RQ:TI:=⟨5,40,true,[.int .i64 0,.int .i64 0,.int .i64 0,.int .i64 0,.int .i64 0],.struct #[⟨"Kelvin",3,0,false,"","",0⟩,⟨"Wait",59,1,false,"","",8⟩,⟨"Rate",59,3,false,"","",24⟩],none⟩
def RN:TI:=⟨5,40,true,[.int .i64 0,.int .i64 0,.int .i64 0,.int .i64 0,.int .i64 0],.struct #[⟨"Kelvin",3,0,false,"","",0⟩,⟨"Wait",59,1,false,"","",8⟩,⟨"Rate",59,3,false,"","",24⟩],none⟩
def RJ:TI:=⟨2,16,true,[.int .i64 0,.int .i64 0],.struct #[⟨"Kelvin",3,0,false,"","",0⟩,⟨"Rate",3,1,false,"","",8⟩],none⟩
def RI:TI:=⟨2,16,true,[.int .i64 0,.int .i64 0],.struct #[⟨"Kelvin",3,0,false,"","",0⟩,⟨"Rate",3,1,false,"","",8⟩],none⟩
def RH:TI:=⟨1,8,false,[.nilFunc],.func #[59] #[4] false,none⟩
def RG:TI:=⟨1,8,false,[.nilFunc],.func #[3] #[3] false,none⟩
def RF:TI:=⟨1,8,false,[.pointer none],.pointer 196,none⟩
def Rz:TI:=⟨1,8,false,[.pointer none],.pointer 315,none⟩
def Ry:TI:=⟨1,8,false,[.pointer none],.pointer 198,none⟩
def Rx:TI:=⟨1,8,false,[.pointer none],.pointer 317,none⟩
def Rw:TI:=⟨1,8,false,[.nilFunc],.func #[196] #[4] false,none⟩
def Ru:TI:=⟨1,8,false,[.nilFunc],.func #[315] #[4] false,none⟩
def Rt:TI:=⟨1,8,false,[.nilFunc],.func #[198] #[4] false,none⟩
def Rq:TI:=⟨1,8,false,[.nilFunc],.func #[3,3,3] #[3] false,none⟩
def Ro:TI:=⟨1,8,false,[.nilFunc],.func #[317] #[4] false,none⟩
def Rn:TI:=⟨1,8,false,[.nilFunc],.func #[385] #[] false,none⟩
def Rl:TI:=⟨1,8,false,[.nilFunc],.func #[385] #[] false,none⟩
def Rk:TI:=⟨1,8,false,[.nilFunc],.func #[386] #[] false,none⟩
def Rj:TI:=⟨1,8,false,[.nilFunc],.func #[386] #[] false,none⟩
def Ri:TI:=⟨1,8,false,[.nilFunc],.func #[3,196] #[4] false,none⟩
def Rh:TI:=⟨1,8,false,[.nilFunc],.func #[3,317] #[4] false,none⟩
def tyl:List (Nat×TI):=[(3,ti3),(4,ti4),(9,ti9),(20,ac6),(22,ac5),(23,ac4),(24,ac3),(25,ac2),(26,ac1),(27,ac0),(28,acZ),(29,acY),(30,acX),(31,acW),(32,acV),(33,acU),(34,acT),(37,acS),(50,acR),(51,acQ),(52,acP),(57,acO),(58,acN),(59,acM),(62,acL),(75,acK),(79,acJ),(80,acI),(81,acH),(82,acG),(83,acF),(84,acE),(85,acD),(86,acC),(87,acB),(88,acA),(95,acz),(96,acy),(97,acw),(98,acv),(99,acu),(104,Um),(107,Ul),(108,Uk),(109,Uj),(119,Ui),(120,Uh),(126,Ug),(127,Uf),(129,Ue),(135,Ud),(136,Uc),(137,Ub),(138,Ua),(145,TY),(146,TW),(149,TV),(150,TU),(154,TT),(157,TS),(160,TR),(161,TQ),(163,TP),(173,TN),(174,TM),(175,TK),(176,TJ),(188,TG),(189,TF),(192,TD),(193,TB),(195,TA),(196,Tz),(197,Tv),(198,Tt),(199,Tq),(209,Tn),(210,Tm),(219,Tj),(220,Ti),(231,Tf),(232,Td),(233,Tc),(234,S9),(243,SY),(250,SX),(251,SV),(255,SS),(256,SQ),(257,SN),(273,SL),(274,SK),(275,SI),(277,SH),(279,SG),(280,SE),(281,SC),(283,SB),(284,SA),(285,Sz),(286,Sv),(288,Sr),(289,Sm),(295,Sl),(297,Sj),(299,Si),(300,RZ),(301,RY),(313,RX),(314,RQ),(315,RN),(316,RJ),(317,RI),(319,RH),(325,RG),(332,RF),(335,Rz),(338,Ry),(341,Rx),(352,Rw),(354,Ru),(356,Rt),(357,Rq),(359,Ro),(371,Rn),(372,Rl),(376,Rk),(377,Rj),(385,Ri),(386,Rh)]
def ty:iy:=fun t=>lk tyl t
@[go_sem] theorem aER:ty 3=some ti3:=by kernel_rfl
@[go_sem] theorem aEQ:ty 4=some ti4:=by kernel_rfl
@[go_sem] theorem aEP:ty 9=some ti9:=by kernel_rfl
@[go_sem] theorem aB0:ty 20=some ac6:=by kernel_rfl
@[go_sem] theorem aBZ:ty 22=some ac5:=by kernel_rfl
@[go_sem] theorem aBY:ty 23=some ac4:=by kernel_rfl
@[go_sem] theorem aBX:ty 24=some ac3:=by kernel_rfl
@[go_sem] theorem aBW:ty 25=some ac2:=by kernel_rfl
@[go_sem] theorem aBV:ty 26=some ac1:=by kernel_rfl
@[go_sem] theorem aBU:ty 27=some ac0:=by kernel_rfl
@[go_sem] theorem aBT:ty 28=some acZ:=by kernel_rfl
@[go_sem] theorem aBS:ty 29=some acY:=by kernel_rfl
@[go_sem] theorem aBR:ty 30=some acX:=by kernel_rfl
@[go_sem] theorem aBQ:ty 31=some acW:=by kernel_rfl
@[go_sem] theorem aBP:ty 32=some acV:=by kernel_rfl
@[go_sem] theorem aBO:ty 33=some acU:=by kernel_rfl
@[go_sem] theorem aBN:ty 34=some acT:=by kernel_rfl
@[go_sem] theorem aBM:ty 37=some acS:=by kernel_rfl
@[go_sem] theorem aBL:ty 50=some acR:=by kernel_rfl
@[go_sem] theorem aBK:ty 51=some acQ:=by kernel_rfl
@[go_sem] theorem aBJ:ty 52=some acP:=by kernel_rfl
@[go_sem] theorem aBI:ty 57=some acO:=by kernel_rfl
@[go_sem] theorem aBH:ty 58=some acN:=by kernel_rfl
@[go_sem] theorem aBG:ty 59=some acM:=by kernel_rfl
@[go_sem] theorem aBF:ty 62=some acL:=by kernel_rfl
@[go_sem] theorem aBE:ty 75=some acK:=by kernel_rfl
@[go_sem] theorem aBD:ty 79=some acJ:=by kernel_rfl
@[go_sem] theorem aBC:ty 80=some acI:=by kernel_rfl
@[go_sem] theorem aBB:ty 81=some acH:=by kernel_rfl
@[go_sem] theorem aBA:ty 82=some acG:=by kernel_rfl
@[go_sem] theorem aBz:ty 83=some acF:=by kernel_rfl
@[go_sem] theorem aBy:ty 84=some acE:=by kernel_rfl
@[go_sem] theorem aBx:ty 85=some acD:=by kernel_rfl
@[go_sem] theorem aBw:ty 86=some acC:=by kernel_rfl
@[go_sem] theorem aBv:ty 87=some acB:=by kernel_rfl
@[go_sem] theorem aBu:ty 88=some acA:=by kernel_rfl
@[go_sem] theorem aBt:ty 95=some acz:=by kernel_rfl
@[go_sem] theorem aBs:ty 96=some acy:=by kernel_rfl
@[go_sem] theorem aBr:ty 97=some acw:=by kernel_rfl
@[go_sem] theorem aBq:ty 98=some acv:=by kernel_rfl
@[go_sem] theorem aBp:ty 99=some acu:=by kernel_rfl
@[go_sem] theorem axp:ty 104=some Um:=by kernel_rfl
@[go_sem] theorem axo:ty 107=some Ul:=by kernel_rfl
@[go_sem] theorem axn:ty 108=some Uk:=by kernel_rfl
@[go_sem] theorem axl:ty 109=some Uj:=by kernel_rfl
@[go_sem] theorem axk:ty 119=some Ui:=by kernel_rfl
@[go_sem] theorem axj:ty 120=some Uh:=by kernel_rfl
@[go_sem] theorem axi:ty 126=some Ug:=by kernel_rfl
@[go_sem] theorem axh:ty 127=some Uf:=by kernel_rfl
@[go_sem] theorem axg:ty 129=some Ue:=by kernel_rfl
@[go_sem] theorem axf:ty 135=some Ud:=by kernel_rfl
@[go_sem] theorem axe:ty 136=some Uc:=by kernel_rfl
@[go_sem] theorem axd:ty 137=some Ub:=by kernel_rfl
@[go_sem] theorem axc:ty 138=some Ua:=by kernel_rfl
@[go_sem] theorem axb:ty 145=some TY:=by kernel_rfl
@[go_sem] theorem axa:ty 146=some TW:=by kernel_rfl
@[go_sem] theorem aw':ty 149=some TV:=by kernel_rfl
@[go_sem] theorem aw9:ty 150=some TU:=by kernel_rfl
@[go_sem] theorem aw8:ty 154=some TT:=by kernel_rfl
@[go_sem] theorem aw7:ty 157=some TS:=by kernel_rfl
@[go_sem] theorem aw6:ty 160=some TR:=by kernel_rfl
@[go_sem] theorem aw5:ty 161=some TQ:=by kernel_rfl
@[go_sem] theorem aw4:ty 163=some TP:=by kernel_rfl
@[go_sem] theorem aw3:ty 173=some TN:=by kernel_rfl
@[go_sem] theorem aw2:ty 174=some TM:=by kernel_rfl
@[go_sem] theorem aw1:ty 175=some TK:=by kernel_rfl
@[go_sem] theorem aw0:ty 176=some TJ:=by kernel_rfl
@[go_sem] theorem awZ:ty 188=some TG:=by kernel_rfl
@[go_sem] theorem awY:ty 189=some TF:=by kernel_rfl
@[go_sem] theorem awX:ty 192=some TD:=by kernel_rfl
@[go_sem] theorem awW:ty 193=some TB:=by kernel_rfl
@[go_sem] theorem awV:ty 195=some TA:=by kernel_rfl
@[go_sem] theorem awU:ty 196=some Tz:=by kernel_rfl
@[go_sem] theorem awT:ty 197=some Tv:=by kernel_rfl
@[go_sem] theorem awS:ty 198=some Tt:=by kernel_rfl
@[go_sem] theorem awR:ty 199=some Tq:=by kernel_rfl
@[go_sem] theorem awQ:ty 209=some Tn:=by kernel_rfl
@[go_sem] theorem awP:ty 210=some Tm:=by kernel_rfl
@[go_sem] theorem awO:ty 219=some Tj:=by kernel_rfl
@[go_sem] theorem awN:ty 220=some Ti:=by kernel_rfl
@[go_sem] theorem awM:ty 231=some Tf:=by kernel_rfl
@[go_sem] theorem awL:ty 232=some Td:=by kernel_rfl
@[go_sem] theorem awK:ty 233=some Tc:=by kernel_rfl
@[go_sem] theorem awJ:ty 234=some S9:=by kernel_rfl
@[go_sem] theorem awI:ty 243=some SY:=by kernel_rfl
@[go_sem] theorem awH:ty 250=some SX:=by kernel_rfl
@[go_sem] theorem awG:ty 251=some SV:=by kernel_rfl
@[go_sem] theorem awF:ty 255=some SS:=by kernel_rfl
@[go_sem] theorem awE:ty 256=some SQ:=by kernel_rfl
@[go_sem] theorem awD:ty 257=some SN:=by kernel_rfl
@[go_sem] theorem awC:ty 273=some SL:=by kernel_rfl
@[go_sem] theorem awz:ty 274=some SK:=by kernel_rfl
@[go_sem] theorem awy:ty 275=some SI:=by kernel_rfl
@[go_sem] theorem awx:ty 277=some SH:=by kernel_rfl
@[go_sem] theorem aww:ty 279=some SG:=by kernel_rfl
@[go_sem] theorem awv:ty 280=some SE:=by kernel_rfl
@[go_sem] theorem awu:ty 281=some SC:=by kernel_rfl
@[go_sem] theorem awt:ty 283=some SB:=by kernel_rfl
@[go_sem] theorem awr:ty 284=some SA:=by kernel_rfl
@[go_sem] theorem awq:ty 285=some Sz:=by kernel_rfl
@[go_sem] theorem awp:ty 286=some Sv:=by kernel_rfl
@[go_sem] theorem awo:ty 288=some Sr:=by kernel_rfl
@[go_sem] theorem awn:ty 289=some Sm:=by kernel_rfl
@[go_sem] theorem awm:ty 295=some Sl:=by kernel_rfl
@[go_sem] theorem awl:ty 297=some Sj:=by kernel_rfl
@[go_sem] theorem awk:ty 299=some Si:=by kernel_rfl
@[go_sem] theorem awj:ty 300=some RZ:=by kernel_rfl
@[go_sem] theorem awi:ty 301=some RY:=by kernel_rfl
@[go_sem] theorem awh:ty 313=some RX:=by kernel_rfl
@[go_sem] theorem awg:ty 314=some RQ:=by kernel_rfl
@[go_sem] theorem awf:ty 315=some RN:=by kernel_rfl
@[go_sem] theorem awe:ty 316=some RJ:=by kernel_rfl
@[go_sem] theorem awd:ty 317=some RI:=by kernel_rfl
@[go_sem] theorem awc:ty 319=some RH:=by kernel_rfl
@[go_sem] theorem av':ty 325=some RG:=by kernel_rfl
@[go_sem] theorem av9:ty 332=some RF:=by kernel_rfl
@[go_sem] theorem av8:ty 335=some Rz:=by kernel_rfl
@[go_sem] theorem av7:ty 338=some Ry:=by kernel_rfl
@[go_sem] theorem av6:ty 341=some Rx:=by kernel_rfl
@[go_sem] theorem av5:ty 352=some Rw:=by kernel_rfl
@[go_sem] theorem av4:ty 354=some Ru:=by kernel_rfl
@[go_sem] theorem av3:ty 356=some Rt:=by kernel_rfl
@[go_sem] theorem av2:ty 357=some Rq:=by kernel_rfl
@[go_sem] theorem av1:ty 359=some Ro:=by kernel_rfl
@[go_sem] theorem avZ:ty 371=some Rn:=by kernel_rfl
@[go_sem] theorem avY:ty 372=some Rl:=by kernel_rfl
@[go_sem] theorem avX:ty 376=some Rk:=by kernel_rfl
@[go_sem] theorem avW:ty 377=some Rj:=by kernel_rfl
@[go_sem] theorem avV:ty 385=some Ri:=by kernel_rfl
@[go_sem] theorem avU:ty 386=some Rh:=by kernel_rfl
attribute [go_sem] ti3 ti4 ti9 ac6 ac5 ac4 ac3 ac2 ac1 ac0 acZ acY acX acW acV acU acT acS acR acQ acP acO acN acM acL acK acJ acI acH acG acF acE acD acC acB acA acz acy acw acv acu Um Ul Uk Uj Ui Uh Ug Uf Ue Ud Uc Ub Ua TY TW TV TU TT TS TR TQ TP TN TM TK TJ TG TF TD TB TA Tz Tv Tt Tq Tn Tm Tj Ti Tf Td Tc S9 SY SX SV SS SQ SN SL SK SI SH SG SE SC SB SA Sz Sv Sr Sm Sl Sj Si RZ RY RX RQ RN RJ RI RH RG RF Rz Ry Rx Rw Ru Rt Rq Ro Rn Rl Rk Rj Ri Rh
def zv (i:TI):Value:=if i.agg=true then .agg i.zero.toArray else i.zero.headD .nilFunc
theorem fact {t:Nat} {i:TI} (he:∀ n,i.eqn=some n→ae7 Tryz.prog t n:=by (intro n hn; cases hn; done)) (h1:(Tryz.prog.info? t).map (fun i=>(i.size,i.bytes,i.zero))=some (i.size,i.bytes,some (zv i)):=by kernel_rfl) (h2:Tryz.prog.underlying t=some i.desc:=by kernel_rfl) (hz:(zv i).cells.toList=i.zero:=by rfl)
 (ha:i.agg=(match i.desc with | .struct _ | .array _ _=>true | _=>false):=by rfl) (ho:i.agg=false→i.size=1:=by first | (intro _; rfl) | (intro h; cases h)) (hl:i.zero.length=i.size:=by rfl):aI Tryz.prog t i:=by
 have key:∃ info,Tryz.prog.info? t=some info∧info.size=i.size∧info.bytes=i.bytes∧info.zero=some (zv i):=by
  cases hi:Tryz.prog.info? t with
  | none=>rw [hi] at h1; cases h1
  | some info=>
   rw [hi] at h1
   simp only [Option.map_some,Option.some.injEq,Prod.mk.injEq] at h1
   exact ⟨info,rfl,h1.1,h1.2.1,h1.2.2⟩
 obtain ⟨info,k1,k2,k3,k4⟩:=key
 exact ⟨⟨info,zv i,k1,k2,k3,k4,hz⟩,h2,ha,ho,hl,he,fun h=>⟨info,k1,by rw [k4]; simp [zv,h]⟩⟩
theorem aAE:ae7 Tryz.prog 51 [true,true] where
 guard:=by kernel_rfl
 run:=by
  intro xs ys w h1 h2
  obtain ⟨a0,xs0,rfl,ai0⟩:=sK h1
  obtain ⟨b0,ys0,rfl,aiY⟩:=sK h2
  obtain ⟨a1,xs1,rfl,aiZ⟩:=sK ai0
  obtain ⟨b1,ys1,rfl,aiX⟩:=sK aiY
  obtain rfl:=Iu aiZ
  obtain rfl:=Iu aiX
  have u3:Tryz.prog.underlying 3=some (.int .i64):=by kernel_rfl
  have u51:Tryz.prog.underlying 51=some (.struct #[⟨"Power",3,0,false,"","",0⟩,⟨"Law",3,1,false,"","",8⟩]):=by kernel_rfl
  have g51:Tryz.prog.stoodInHeld 51=false:=by kernel_rfl
  have v51:Tryz.prog.underlying 51=some (.struct (Tryz.prog.fieldsOf 51)):=by kernel_rfl
  have w51:(Tryz.prog.fieldsOf 51).toList=[⟨"Power",3,0,false,"","",0⟩,⟨"Law",3,1,false,"","",8⟩]:=by kernel_rfl
  have s51:∀ w,(sizeOf 51).run Tryz.prog w= .ok 2 w:=fun _=>by kernel_rfl
  have p3:∀ w,(isAgg 3).run Tryz.prog w= .ok false w:=fun _=>by kernel_rfl
  have p51:∀ w,(isAgg 51).run Tryz.prog w= .ok true w:=fun _=>by kernel_rfl
  have e3:∀ (d:Nat) (a b:Int) (w:World),(Op.equalIn (d+1) 3 (.int .i64 a) (.int .i64 b)).run Tryz.prog w= .ok (a == b) w:=fun d a b w=>run_equalIn_int w d 3 .i64 .i64 a b u3
  have e51:∀ (d:Nat) (xs ys:Array Value) (w:World),(Op.equalIn (d+1) 51 (.agg xs) (.agg ys)).run Tryz.prog w=(Op.eqFields d xs ys (Tryz.prog.fieldsOf 51).toList).run Tryz.prog w:=fun d xs ys w=>run_equalIn_struct w d 51 xs ys v51 g51
  simp [evs,EV.val,e3,e51,Op.eqFields,part,g51,w51,s51,p3,p51]
  try grind
theorem aAD:ae7 Tryz.prog 59 [true,true] where
 guard:=by kernel_rfl
 run:=by
  intro xs ys w h1 h2
  obtain ⟨a0,xs0,rfl,ai0⟩:=sK h1
  obtain ⟨b0,ys0,rfl,aiY⟩:=sK h2
  obtain ⟨a1,xs1,rfl,aiZ⟩:=sK ai0
  obtain ⟨b1,ys1,rfl,aiX⟩:=sK aiY
  obtain rfl:=Iu aiZ
  obtain rfl:=Iu aiX
  have u3:Tryz.prog.underlying 3=some (.int .i64):=by kernel_rfl
  have u59:Tryz.prog.underlying 59=some (.struct #[⟨"Lo",3,0,false,"","",0⟩,⟨"Hi",3,1,false,"","",8⟩]):=by kernel_rfl
  have g59:Tryz.prog.stoodInHeld 59=false:=by kernel_rfl
  have v59:Tryz.prog.underlying 59=some (.struct (Tryz.prog.fieldsOf 59)):=by kernel_rfl
  have w59:(Tryz.prog.fieldsOf 59).toList=[⟨"Lo",3,0,false,"","",0⟩,⟨"Hi",3,1,false,"","",8⟩]:=by kernel_rfl
  have s59:∀ w,(sizeOf 59).run Tryz.prog w= .ok 2 w:=fun _=>by kernel_rfl
  have p3:∀ w,(isAgg 3).run Tryz.prog w= .ok false w:=fun _=>by kernel_rfl
  have p59:∀ w,(isAgg 59).run Tryz.prog w= .ok true w:=fun _=>by kernel_rfl
  have e3:∀ (d:Nat) (a b:Int) (w:World),(Op.equalIn (d+1) 3 (.int .i64 a) (.int .i64 b)).run Tryz.prog w= .ok (a == b) w:=fun d a b w=>run_equalIn_int w d 3 .i64 .i64 a b u3
  have e59:∀ (d:Nat) (xs ys:Array Value) (w:World),(Op.equalIn (d+1) 59 (.agg xs) (.agg ys)).run Tryz.prog w=(Op.eqFields d xs ys (Tryz.prog.fieldsOf 59).toList).run Tryz.prog w:=fun d xs ys w=>run_equalIn_struct w d 59 xs ys v59 g59
  simp [evs,EV.val,e3,e59,Op.eqFields,part,g59,w59,s59,p3,p59]
  try grind
theorem tf3:aI Tryz.prog 3 ti3:=fact
theorem tf4:aI Tryz.prog 4 ti4:=fact
theorem tf9:aI Tryz.prog 9 ti9:=fact
theorem ax2:aI Tryz.prog 20 ac6:=fact
theorem ax1:aI Tryz.prog 22 ac5:=fact
theorem ax0:aI Tryz.prog 23 ac4:=fact
theorem axZ:aI Tryz.prog 24 ac3:=fact
theorem axY:aI Tryz.prog 25 ac2:=fact
theorem axX:aI Tryz.prog 26 ac1:=fact
theorem axW:aI Tryz.prog 27 ac0:=fact
theorem axV:aI Tryz.prog 28 acZ:=fact
theorem axU:aI Tryz.prog 29 acY:=fact
theorem axT:aI Tryz.prog 30 acX:=fact
theorem axS:aI Tryz.prog 31 acW:=fact
theorem axR:aI Tryz.prog 32 acV:=fact
theorem axQ:aI Tryz.prog 33 acU:=fact
theorem axP:aI Tryz.prog 34 acT:=fact
theorem axO:aI Tryz.prog 37 acS:=fact
theorem axN:aI Tryz.prog 50 acR:=fact
theorem axM:aI Tryz.prog 51 acQ:=fact (fun n hn=>by obtain rfl:=Option.some.inj hn; exact aAE)
theorem axL:aI Tryz.prog 52 acP:=fact
theorem axK:aI Tryz.prog 57 acO:=fact
theorem axJ:aI Tryz.prog 58 acN:=fact
theorem axI:aI Tryz.prog 59 acM:=fact (fun n hn=>by obtain rfl:=Option.some.inj hn; exact aAD)
theorem axH:aI Tryz.prog 62 acL:=fact
theorem axG:aI Tryz.prog 75 acK:=fact
theorem axF:aI Tryz.prog 79 acJ:=fact
theorem axE:aI Tryz.prog 80 acI:=fact
theorem axD:aI Tryz.prog 81 acH:=fact
theorem axC:aI Tryz.prog 82 acG:=fact
theorem axB:aI Tryz.prog 83 acF:=fact
theorem axA:aI Tryz.prog 84 acE:=fact
theorem axz:aI Tryz.prog 85 acD:=fact
theorem axy:aI Tryz.prog 86 acC:=fact
theorem axx:aI Tryz.prog 87 acB:=fact
theorem axw:aI Tryz.prog 88 acA:=fact
theorem axv:aI Tryz.prog 95 acz:=fact
theorem axu:aI Tryz.prog 96 acy:=fact
theorem axt:aI Tryz.prog 97 acw:=fact
theorem axr:aI Tryz.prog 98 acv:=fact
theorem axq:aI Tryz.prog 99 acu:=fact
theorem amc:aI Tryz.prog 104 Um:=fact
theorem amb:aI Tryz.prog 107 Ul:=fact
theorem ama:aI Tryz.prog 108 Uk:=fact
theorem al9:aI Tryz.prog 109 Uj:=fact
theorem al8:aI Tryz.prog 119 Ui:=fact
theorem al7:aI Tryz.prog 120 Uh:=fact
theorem al6:aI Tryz.prog 126 Ug:=fact
theorem al5:aI Tryz.prog 127 Uf:=fact
theorem al4:aI Tryz.prog 129 Ue:=fact
theorem al3:aI Tryz.prog 135 Ud:=fact
theorem al2:aI Tryz.prog 136 Uc:=fact
theorem al1:aI Tryz.prog 137 Ub:=fact
theorem al0:aI Tryz.prog 138 Ua:=fact
theorem alZ:aI Tryz.prog 145 TY:=fact
theorem alY:aI Tryz.prog 146 TW:=fact
theorem alX:aI Tryz.prog 149 TV:=fact
theorem alW:aI Tryz.prog 150 TU:=fact
theorem alV:aI Tryz.prog 154 TT:=fact
theorem alU:aI Tryz.prog 157 TS:=fact
theorem alT:aI Tryz.prog 160 TR:=fact
theorem alS:aI Tryz.prog 161 TQ:=fact
theorem alR:aI Tryz.prog 163 TP:=fact
theorem alQ:aI Tryz.prog 173 TN:=fact
theorem alP:aI Tryz.prog 174 TM:=fact
theorem alO:aI Tryz.prog 175 TK:=fact
theorem alN:aI Tryz.prog 176 TJ:=fact
theorem alM:aI Tryz.prog 188 TG:=fact
theorem alL:aI Tryz.prog 189 TF:=fact
theorem alK:aI Tryz.prog 192 TD:=fact
theorem alJ:aI Tryz.prog 193 TB:=fact
theorem alI:aI Tryz.prog 195 TA:=fact
theorem alH:aI Tryz.prog 196 Tz:=fact
theorem alG:aI Tryz.prog 197 Tv:=fact
theorem alF:aI Tryz.prog 198 Tt:=fact
theorem alE:aI Tryz.prog 199 Tq:=fact
theorem alD:aI Tryz.prog 209 Tn:=fact
theorem alC:aI Tryz.prog 210 Tm:=fact
theorem alB:aI Tryz.prog 219 Tj:=fact
theorem alA:aI Tryz.prog 220 Ti:=fact
theorem alz:aI Tryz.prog 231 Tf:=fact
theorem aly:aI Tryz.prog 232 Td:=fact
theorem alx:aI Tryz.prog 233 Tc:=fact
theorem alv:aI Tryz.prog 234 S9:=fact
theorem alu:aI Tryz.prog 243 SY:=fact
theorem als:aI Tryz.prog 250 SX:=fact
theorem alr:aI Tryz.prog 251 SV:=fact
theorem alq:aI Tryz.prog 255 SS:=fact
theorem alp:aI Tryz.prog 256 SQ:=fact
theorem alo:aI Tryz.prog 257 SN:=fact
theorem aln:aI Tryz.prog 273 SL:=fact
theorem alm:aI Tryz.prog 274 SK:=fact
theorem alk:aI Tryz.prog 275 SI:=fact
theorem alj:aI Tryz.prog 277 SH:=fact
theorem ali:aI Tryz.prog 279 SG:=fact
theorem alh:aI Tryz.prog 280 SE:=fact
theorem alg:aI Tryz.prog 281 SC:=fact
theorem alf:aI Tryz.prog 283 SB:=fact
theorem ale:aI Tryz.prog 284 SA:=fact
theorem ald:aI Tryz.prog 285 Sz:=fact
theorem alc:aI Tryz.prog 286 Sv:=fact
theorem alb:aI Tryz.prog 288 Sr:=fact
theorem ala:aI Tryz.prog 289 Sm:=fact
theorem ak':aI Tryz.prog 295 Sl:=fact
theorem ak9:aI Tryz.prog 297 Sj:=fact
theorem ak8:aI Tryz.prog 299 Si:=fact
theorem ak7:aI Tryz.prog 300 RZ:=fact
theorem ak6:aI Tryz.prog 301 RY:=fact
theorem ak5:aI Tryz.prog 313 RX:=fact
theorem ak4:aI Tryz.prog 314 RQ:=fact
theorem ak3:aI Tryz.prog 315 RN:=fact
theorem ak2:aI Tryz.prog 316 RJ:=fact
theorem ak1:aI Tryz.prog 317 RI:=fact
theorem ak0:aI Tryz.prog 319 RH:=fact
theorem akZ:aI Tryz.prog 325 RG:=fact
theorem akY:aI Tryz.prog 332 RF:=fact
theorem akX:aI Tryz.prog 335 Rz:=fact
theorem akW:aI Tryz.prog 338 Ry:=fact
theorem akV:aI Tryz.prog 341 Rx:=fact
theorem akU:aI Tryz.prog 352 Rw:=fact
theorem akT:aI Tryz.prog 354 Ru:=fact
theorem akS:aI Tryz.prog 356 Rt:=fact
theorem akR:aI Tryz.prog 357 Rq:=fact
theorem akQ:aI Tryz.prog 359 Ro:=fact
theorem akP:aI Tryz.prog 371 Rn:=fact
theorem akO:aI Tryz.prog 372 Rl:=fact
theorem akN:aI Tryz.prog 376 Rk:=fact
theorem akM:aI Tryz.prog 377 Rj:=fact
theorem akL:aI Tryz.prog 385 Ri:=fact
theorem akK:aI Tryz.prog 386 Rh:=fact
def Facts:List (Nat×TI)→Prop
 | []=>True
 | p::r=>aI Tryz.prog p.1 p.2∧Facts r
theorem FN:∀ {l:List (Nat×TI)},Facts l→∀ t i,lk l t=some i→aI Tryz.prog t i
 | [],_,_,_,h=>by cases h
 | (k,x)::r,h,t,i,hi=>by
  simp only [lk] at hi
  split at hi
  ·rename_i e; subst e; obtain rfl:=Option.some.inj hi; exact h.1
  ·exact FN h.2 t i hi
theorem bT:ig Tryz.prog ty:=FN (l:=tyl) ⟨tf3,tf4,tf9,ax2,ax1,ax0,axZ,axY,axX,axW,axV,axU,axT,axS,axR,axQ,axP,axO,axN,axM,axL,axK,axJ,axI,axH,axG,axF,axE,axD,axC,axB,axA,axz,axy,axx,axw,axv,axu,axt,axr,axq,amc,amb,ama,al9,al8,al7,al6,al5,al4,al3,al2,al1,al0,alZ,alY,alX,alW,alV,alU,alT,alS,alR,alQ,alP,alO,alN,alM,alL,alK,alJ,alI,alH,alG,alF,alE,alD,alC,alB,alA,alz,aly,alx,alv,alu,als,alr,alq,alp,alo,aln,alm,alk,alj,ali,alh,alg,alf,ale,ald,alc,alb,ala,ak',ak9,ak8,ak7,ak6,ak5,ak4,ak3,ak2,ak1,ak0,akZ,akY,akX,akW,akV,akU,akT,akS,akR,akQ,akP,akO,akN,akM,akL,akK,trivial⟩
end Go.Proofs.YtofkgmldcjagmaaGreatDoor
