/-
  The types of the translation, as the abstract machine uses them: a table, and that it agrees with the program's. Written by a program of ours (gen_ty.py).
-/
import Derived.Test.YtofkgmldcjagmaaGreatDoorProg
import Derived.Test.YtofkgmldcjagmaaGreatDoorAbsC
import Derived.KernelRfl
set_option linter.unusedSimpArgs false
set_option linter.unusedVariables false
namespace Go.Proofs.YtofkgmldcjagmaaGreatDoor
open Go.dG
def ti3:TI:=⟨1,8,false,[.int .i64 0],.int .i64,none⟩
def ti4:TI:=⟨1,1,false,[.bool false],.bool,none⟩
def ti9:TI:=⟨1,16,false,[.string .empty],.string,none⟩
def adM:TI:=⟨1,16,false,[.nilIface],.interface #[],none⟩
def adL:TI:=⟨1,24,false,[.slice none 0 0],.slice 120,none⟩
def adK:TI:=⟨1,24,false,[.slice none 0 0],.slice 97,none⟩
def adJ:TI:=⟨4,64,true,[.int .i64 0,.int .i64 0,.slice none 0 0,.slice none 0 0],.struct #[⟨"Cells",3,0,false,"","",0⟩,⟨"Exchange",3,1,false,"","",8⟩,⟨"Table",22,2,false,"","",16⟩,⟨"Laws",23,3,false,"","",40⟩],none⟩
def adI:TI:=⟨4,64,true,[.int .i64 0,.int .i64 0,.slice none 0 0,.slice none 0 0],.struct #[⟨"Cells",3,0,false,"","",0⟩,⟨"Exchange",3,1,false,"","",8⟩,⟨"Table",22,2,false,"","",16⟩,⟨"Laws",23,3,false,"","",40⟩],none⟩
def adH:TI:=⟨1,24,false,[.slice none 0 0],.slice 3,none⟩
def adG:TI:=⟨2,48,true,[.slice none 0 0,.slice none 0 0],.struct #[⟨"Lo",26,0,false,"","",0⟩,⟨"Hi",26,1,false,"","",24⟩],none⟩
def adF:TI:=⟨2,48,true,[.slice none 0 0,.slice none 0 0],.struct #[⟨"Lo",26,0,false,"","",0⟩,⟨"Hi",26,1,false,"","",24⟩],none⟩
def adE:TI:=⟨1,24,false,[.slice none 0 0],.slice 59,none⟩
def adD:TI:=⟨9,152,true,[.int .i64 0,.int .i64 0,.slice none 0 0,.slice none 0 0,.slice none 0 0,.slice none 0 0,.slice none 0 0,.int .i64 0,.int .i64 0],.struct #[⟨"Setup",25,0,false,"","",0⟩,⟨"Start",28,4,false,"","",64⟩,⟨"Weights",29,6,false,"","",112⟩,⟨"Air",3,7,false,"","",136⟩,⟨"Spread",3,8,false,"","",144⟩],none⟩
def adC:TI:=⟨9,152,true,[.int .i64 0,.int .i64 0,.slice none 0 0,.slice none 0 0,.slice none 0 0,.slice none 0 0,.slice none 0 0,.int .i64 0,.int .i64 0],.struct #[⟨"Setup",25,0,false,"","",0⟩,⟨"Start",28,4,false,"","",64⟩,⟨"Weights",29,6,false,"","",112⟩,⟨"Air",3,7,false,"","",136⟩,⟨"Spread",3,8,false,"","",144⟩],none⟩
def adB:TI:=⟨1,24,false,[.slice none 0 0],.slice 51,none⟩
def adA:TI:=⟨3,24,true,[.int .i64 0,.int .i64 0,.int .i64 0],.struct #[⟨"After",3,0,false,"","",0⟩,⟨"Kelvin",3,1,false,"","",8⟩,⟨"Most",3,2,false,"","",16⟩],none⟩
def adz:TI:=⟨3,24,true,[.int .i64 0,.int .i64 0,.int .i64 0],.struct #[⟨"After",3,0,false,"","",0⟩,⟨"Kelvin",3,1,false,"","",8⟩,⟨"Most",3,2,false,"","",16⟩],none⟩
def ady:TI:=⟨1,8,false,[.int .i64 0],.int .i64,none⟩
def adx:TI:=⟨2,16,true,[.int .i64 0,.int .i64 0],.struct #[⟨"Power",3,0,false,"","",0⟩,⟨"Law",3,1,false,"","",8⟩],none⟩
def adw:TI:=⟨2,16,true,[.int .i64 0,.int .i64 0],.struct #[⟨"Power",3,0,false,"","",0⟩,⟨"Law",3,1,false,"","",8⟩],some [true,true]⟩
def adv:TI:=⟨1,24,false,[.slice none 0 0],.slice 29,none⟩
def adu:TI:=⟨1,8,false,[.nilFunc],.func #[3,3] #[3] false,none⟩
def adt:TI:=⟨2,16,true,[.int .i64 0,.int .i64 0],.struct #[⟨"Lo",3,0,false,"","",0⟩,⟨"Hi",3,1,false,"","",8⟩],none⟩
def ads:TI:=⟨2,16,true,[.int .i64 0,.int .i64 0],.struct #[⟨"Lo",3,0,false,"","",0⟩,⟨"Hi",3,1,false,"","",8⟩],some [true,true]⟩
def adr:TI:=⟨1,24,false,[.slice none 0 0],.slice 127,none⟩
def adq:TI:=⟨1,24,false,[.slice none 0 0],.slice 96,none⟩
def adp:TI:=⟨1,24,false,[.slice none 0 0],.slice 196,none⟩
def ado:TI:=⟨1,24,false,[.slice none 0 0],.slice 315,none⟩
def adn:TI:=⟨1,24,false,[.slice none 0 0],.slice 198,none⟩
def adl:TI:=⟨1,24,false,[.slice none 0 0],.slice 317,none⟩
def adk:TI:=⟨4,32,true,[.int .i64 0,.int .i64 0,.int .i64 0,.int .i64 0],.array 4 3,none⟩
def adi:TI:=⟨8,128,true,[.slice none 0 0,.slice none 0 0,.slice none 0 0,.slice none 0 0,.int .i64 0,.int .i64 0,.int .i64 0,.int .i64 0],.struct #[⟨"Heats",79,0,false,"","",0⟩,⟨"Cools",80,1,false,"","",24⟩,⟨"Colds",81,2,false,"","",48⟩,⟨"Tempers",82,3,false,"","",72⟩,⟨"Hard",83,4,false,"","",96⟩],none⟩
def adh:TI:=⟨8,128,true,[.slice none 0 0,.slice none 0 0,.slice none 0 0,.slice none 0 0,.int .i64 0,.int .i64 0,.int .i64 0,.int .i64 0],.struct #[⟨"Heats",79,0,false,"","",0⟩,⟨"Cools",80,1,false,"","",24⟩,⟨"Colds",81,2,false,"","",48⟩,⟨"Tempers",82,3,false,"","",72⟩,⟨"Hard",83,4,false,"","",96⟩],none⟩
def adg:TI:=⟨1,24,false,[.slice none 0 0],.slice 146,none⟩
def adf:TI:=⟨19,312,true,[.int .i64 0,.int .i64 0,.slice none 0 0,.slice none 0 0,.slice none 0 0,.slice none 0 0,.slice none 0 0,.int .i64 0,.int .i64 0,.slice none 0 0,.slice none 0 0,.slice none 0 0,.slice none 0 0,.int .i64 0,.int .i64 0,.int .i64 0,.int .i64 0,.slice none 0 0,.int .i64 0],.struct #[⟨"Bench",31,0,false,"","",0⟩,⟨"Rules",85,9,false,"","",152⟩,⟨"Points",86,17,false,"","",280⟩,⟨"Edge",3,18,false,"","",304⟩],none⟩
def ade:TI:=⟨19,312,true,[.int .i64 0,.int .i64 0,.slice none 0 0,.slice none 0 0,.slice none 0 0,.slice none 0 0,.slice none 0 0,.int .i64 0,.int .i64 0,.slice none 0 0,.slice none 0 0,.slice none 0 0,.slice none 0 0,.int .i64 0,.int .i64 0,.int .i64 0,.int .i64 0,.slice none 0 0,.int .i64 0],.struct #[⟨"Bench",31,0,false,"","",0⟩,⟨"Rules",85,9,false,"","",152⟩,⟨"Points",86,17,false,"","",280⟩,⟨"Edge",3,18,false,"","",304⟩],none⟩
def adb:TI:=⟨6,64,true,[.int .i64 0,.int .i64 0,.int .i64 0,.int .i64 0,.int .i64 0,.slice none 0 0],.struct #[⟨"Kind",3,0,false,"","",0⟩,⟨"Power",3,1,false,"","",8⟩,⟨"Law",3,2,false,"","",16⟩,⟨"Ticks",3,3,false,"","",24⟩,⟨"Kelvin",3,4,false,"","",32⟩,⟨"Body",75,5,false,"","",40⟩],none⟩
def ada:TI:=⟨6,64,true,[.int .i64 0,.int .i64 0,.int .i64 0,.int .i64 0,.int .i64 0,.slice none 0 0],.struct #[⟨"Kind",3,0,false,"","",0⟩,⟨"Power",3,1,false,"","",8⟩,⟨"Law",3,2,false,"","",16⟩,⟨"Ticks",3,3,false,"","",24⟩,⟨"Kelvin",3,4,false,"","",32⟩,⟨"Body",75,5,false,"","",40⟩],none⟩
def ac':TI:=⟨1,24,false,[.slice none 0 0],.slice 136,none⟩
def ac9:TI:=⟨9,152,true,[.int .i64 0,.int .i64 0,.slice none 0 0,.slice none 0 0,.slice none 0 0,.slice none 0 0,.slice none 0 0,.int .i64 0,.int .i64 0],.struct #[⟨"RecipeBench",31,0,true,"","",0⟩],none⟩
def ac8:TI:=⟨9,152,true,[.int .i64 0,.int .i64 0,.slice none 0 0,.slice none 0 0,.slice none 0 0,.slice none 0 0,.slice none 0 0,.int .i64 0,.int .i64 0],.struct #[⟨"RecipeBench",31,0,true,"","",0⟩],none⟩
def UM:TI:=⟨1,8,false,[.pointer none],.pointer 109,none⟩
def UL:TI:=⟨1,8,false,[.nilFunc],.func #[3] #[4] false,none⟩
def UK:TI:=⟨11,200,true,[.int .i64 0,.int .i64 0,.slice none 0 0,.slice none 0 0,.slice none 0 0,.slice none 0 0,.slice none 0 0,.int .i64 0,.int .i64 0,.slice none 0 0,.slice none 0 0],.struct #[⟨"bench",99,0,true,"","martensite/recipe",0⟩,⟨"energies",26,9,false,"","martensite/recipe",152⟩,⟨"made",32,10,false,"","martensite/recipe",176⟩],none⟩
def UJ:TI:=⟨11,200,true,[.int .i64 0,.int .i64 0,.slice none 0 0,.slice none 0 0,.slice none 0 0,.slice none 0 0,.slice none 0 0,.int .i64 0,.int .i64 0,.slice none 0 0,.slice none 0 0],.struct #[⟨"bench",99,0,true,"","martensite/recipe",0⟩,⟨"energies",26,9,false,"","martensite/recipe",152⟩,⟨"made",32,10,false,"","martensite/recipe",176⟩],none⟩
def UH:TI:=⟨2,16,true,[.int .i64 0,.int .i64 0],.struct #[⟨"Energy",3,0,false,"","",0⟩,⟨"Kelvin",3,1,false,"","",8⟩],none⟩
def UG:TI:=⟨2,16,true,[.int .i64 0,.int .i64 0],.struct #[⟨"Energy",3,0,false,"","",0⟩,⟨"Kelvin",3,1,false,"","",8⟩],none⟩
def UF:TI:=⟨3,40,true,[.slice none 0 0,.int .i64 0,.int .i64 0],.struct #[⟨"Powers",29,0,false,"","",0⟩,⟨"Laws",59,1,false,"","",24⟩],none⟩
def UE:TI:=⟨3,40,true,[.slice none 0 0,.int .i64 0,.int .i64 0],.struct #[⟨"Powers",29,0,false,"","",0⟩,⟨"Laws",59,1,false,"","",24⟩],none⟩
def UD:TI:=⟨1,24,false,[.slice none 0 0],.slice 28,none⟩
def UC:TI:=⟨2,16,true,[.int .i64 0,.int .i64 0],.struct #[⟨"Kelvin",3,0,false,"","",0⟩,⟨"Loss",3,1,false,"","",8⟩],none⟩
def UA:TI:=⟨2,16,true,[.int .i64 0,.int .i64 0],.struct #[⟨"Kelvin",3,0,false,"","",0⟩,⟨"Loss",3,1,false,"","",8⟩],none⟩
def Uz:TI:=⟨28,464,true,[.int .i64 0,.int .i64 0,.slice none 0 0,.slice none 0 0,.slice none 0 0,.slice none 0 0,.slice none 0 0,.int .i64 0,.int .i64 0,.int .i64 0,.int .i64 0,.slice none 0 0,.slice none 0 0,.slice none 0 0,.slice none 0 0,.slice none 0 0,.int .i64 0,.int .i64 0,.slice none 0 0,.slice none 0 0,.slice none 0 0,.slice none 0 0,.int .i64 0,.int .i64 0,.int .i64 0,.int .i64 0,.slice none 0 0,.int .i64 0],.struct #[⟨"bench",99,0,true,"","martensite/recipe",0⟩,⟨"RecipeOrder",88,9,true,"","",152⟩],none⟩
def Uy:TI:=⟨28,464,true,[.int .i64 0,.int .i64 0,.slice none 0 0,.slice none 0 0,.slice none 0 0,.slice none 0 0,.slice none 0 0,.int .i64 0,.int .i64 0,.int .i64 0,.int .i64 0,.slice none 0 0,.slice none 0 0,.slice none 0 0,.slice none 0 0,.slice none 0 0,.int .i64 0,.int .i64 0,.slice none 0 0,.slice none 0 0,.slice none 0 0,.slice none 0 0,.int .i64 0,.int .i64 0,.int .i64 0,.int .i64 0,.slice none 0 0,.int .i64 0],.struct #[⟨"bench",99,0,true,"","martensite/recipe",0⟩,⟨"RecipeOrder",88,9,true,"","",152⟩],none⟩
def Ux:TI:=⟨3,24,true,[.int .i64 0,.int .i64 0,.int .i64 0],.struct #[⟨"Cell",3,0,false,"","",0⟩,⟨"Hard",59,1,false,"","",8⟩],none⟩
def Uw:TI:=⟨3,24,true,[.int .i64 0,.int .i64 0,.int .i64 0],.struct #[⟨"Cell",3,0,false,"","",0⟩,⟨"Hard",59,1,false,"","",8⟩],none⟩
def Uu:TI:=⟨1,16,true,[.string .empty],.struct #[⟨"rest",9,0,false,"","martensite/recipe",0⟩],none⟩
def Ut:TI:=⟨1,16,true,[.string .empty],.struct #[⟨"rest",9,0,false,"","martensite/recipe",0⟩],none⟩
def Us:TI:=⟨1,24,false,[.slice none 0 0],.slice 9,none⟩
def Ur:TI:=⟨1,24,false,[.slice none 0 0],.slice 37,none⟩
def Uo:TI:=⟨2,32,true,[.slice none 0 0,.int .i64 0],.struct #[⟨"Powers",26,0,false,"","",0⟩,⟨"Law",3,1,false,"","",24⟩],none⟩
def Un:TI:=⟨2,32,true,[.slice none 0 0,.int .i64 0],.struct #[⟨"Powers",26,0,false,"","",0⟩,⟨"Law",3,1,false,"","",24⟩],none⟩
def Um:TI:=⟨1,8,false,[.nilFunc],.func #[59] #[3] false,none⟩
def Ul:TI:=⟨1,24,false,[.slice none 0 0],.slice 232,none⟩
def Uk:TI:=⟨1,24,false,[.slice none 0 0],.slice 173,none⟩
def Uj:TI:=⟨6,112,true,[.int .i64 0,.int .i64 0,.slice none 0 0,.slice none 0 0,.slice none 0 0,.slice none 0 0],.struct #[⟨"HeatSetup",25,0,true,"","",0⟩,⟨"table",173,4,false,"","martensite/heat",64⟩,⟨"laws",174,5,false,"","martensite/heat",88⟩],none⟩
def Ui:TI:=⟨6,112,true,[.int .i64 0,.int .i64 0,.slice none 0 0,.slice none 0 0,.slice none 0 0,.slice none 0 0],.struct #[⟨"HeatSetup",25,0,true,"","",0⟩,⟨"table",173,4,false,"","martensite/heat",64⟩,⟨"laws",174,5,false,"","martensite/heat",88⟩],none⟩
def Uh:TI:=⟨14,112,true,[.int .i64 0,.int .i64 0,.int .i64 0,.int .i64 0,.int .i64 0,.int .i64 0,.int .i64 0,.int .i64 0,.int .i64 0,.int .i64 0,.int .i64 0,.int .i64 0,.int .i64 0,.int .i64 0],.struct #[⟨"Parent",59,0,false,"","",0⟩,⟨"Austenite",59,2,false,"","",16⟩,⟨"Bainite",59,4,false,"","",32⟩,⟨"Martensite",59,6,false,"","",48⟩,⟨"Wait",59,8,false,"","",64⟩,⟨"Grain",59,10,false,"","",80⟩,⟨"Temper",59,12,false,"","",96⟩],none⟩
def Ug:TI:=⟨14,112,true,[.int .i64 0,.int .i64 0,.int .i64 0,.int .i64 0,.int .i64 0,.int .i64 0,.int .i64 0,.int .i64 0,.int .i64 0,.int .i64 0,.int .i64 0,.int .i64 0,.int .i64 0,.int .i64 0],.struct #[⟨"Parent",59,0,false,"","",0⟩,⟨"Austenite",59,2,false,"","",16⟩,⟨"Bainite",59,4,false,"","",32⟩,⟨"Martensite",59,6,false,"","",48⟩,⟨"Wait",59,8,false,"","",64⟩,⟨"Grain",59,10,false,"","",80⟩,⟨"Temper",59,12,false,"","",96⟩],none⟩
def Uf:TI:=⟨7,56,true,[.int .i64 0,.int .i64 0,.int .i64 0,.int .i64 0,.int .i64 0,.int .i64 0,.int .i64 0],.struct #[⟨"Parent",3,0,false,"","",0⟩,⟨"Austenite",3,1,false,"","",8⟩,⟨"Bainite",3,2,false,"","",16⟩,⟨"Martensite",3,3,false,"","",24⟩,⟨"Wait",3,4,false,"","",32⟩,⟨"Grain",3,5,false,"","",40⟩,⟨"Temper",3,6,false,"","",48⟩],none⟩
def Ue:TI:=⟨7,56,true,[.int .i64 0,.int .i64 0,.int .i64 0,.int .i64 0,.int .i64 0,.int .i64 0,.int .i64 0],.struct #[⟨"Parent",3,0,false,"","",0⟩,⟨"Austenite",3,1,false,"","",8⟩,⟨"Bainite",3,2,false,"","",16⟩,⟨"Martensite",3,3,false,"","",24⟩,⟨"Wait",3,4,false,"","",32⟩,⟨"Grain",3,5,false,"","",40⟩,⟨"Temper",3,6,false,"","",48⟩],none⟩
def Ud:TI:=⟨4,32,true,[.int .i64 0,.int .i64 0,.int .i64 0,.int .i64 0],.struct #[⟨"Kelvin",3,0,false,"","",0⟩,⟨"Rate",59,1,false,"","",8⟩,⟨"Growth",3,3,false,"","",24⟩],none⟩
def Uc:TI:=⟨4,32,true,[.int .i64 0,.int .i64 0,.int .i64 0,.int .i64 0],.struct #[⟨"Kelvin",3,0,false,"","",0⟩,⟨"Rate",59,1,false,"","",8⟩,⟨"Growth",3,3,false,"","",24⟩],none⟩
def Ub:TI:=⟨3,24,true,[.int .i64 0,.int .i64 0,.int .i64 0],.struct #[⟨"Kelvin",3,0,false,"","",0⟩,⟨"Share",59,1,false,"","",8⟩],none⟩
def Ua:TI:=⟨3,24,true,[.int .i64 0,.int .i64 0,.int .i64 0],.struct #[⟨"Kelvin",3,0,false,"","",0⟩,⟨"Share",59,1,false,"","",8⟩],none⟩
def TY:TI:=⟨1,8,false,[.pointer none],.pointer 150,none⟩
def TW:TI:=⟨1,16,false,[.nilIface],.interface #[("Error",213)],none⟩
def TV:TI:=⟨1,16,false,[.nilIface],.interface #[("Error",213)],none⟩
def TU:TI:=⟨2,16,true,[.int .i64 0,.int .i64 0],.struct #[⟨"Num",3,0,false,"","",0⟩,⟨"Den",3,1,false,"","",8⟩],none⟩
def TT:TI:=⟨2,16,true,[.int .i64 0,.int .i64 0],.struct #[⟨"Num",3,0,false,"","",0⟩,⟨"Den",3,1,false,"","",8⟩],none⟩
def TS:TI:=⟨2,16,true,[.int .i64 0,.int .i64 0],.struct #[⟨"x",3,0,false,"","martensite/heat",0⟩,⟨"y",3,1,false,"","martensite/heat",8⟩],none⟩
def TR:TI:=⟨2,16,true,[.int .i64 0,.int .i64 0],.struct #[⟨"x",3,0,false,"","martensite/heat",0⟩,⟨"y",3,1,false,"","martensite/heat",8⟩],none⟩
def TQ:TI:=⟨2,16,true,[.int .i64 0,.int .i64 0],.struct #[⟨"num",3,0,false,"","martensite/heat",0⟩,⟨"den",3,1,false,"","martensite/heat",8⟩],none⟩
def TP:TI:=⟨2,16,true,[.int .i64 0,.int .i64 0],.struct #[⟨"num",3,0,false,"","martensite/heat",0⟩,⟨"den",3,1,false,"","martensite/heat",8⟩],none⟩
def TN:TI:=⟨1,8,false,[.nilFunc],.func #[96] #[4] false,none⟩
def TM:TI:=⟨8,128,true,[.slice none 0 0,.slice none 0 0,.slice none 0 0,.slice none 0 0,.int .i64 0,.int .i64 0,.int .i64 0,.int .i64 0],.struct #[⟨"SteelRules",85,0,true,"","",0⟩],none⟩
def TK:TI:=⟨8,128,true,[.slice none 0 0,.slice none 0 0,.slice none 0 0,.slice none 0 0,.int .i64 0,.int .i64 0,.int .i64 0,.int .i64 0],.struct #[⟨"SteelRules",85,0,true,"","",0⟩],none⟩
def TJ:TI:=⟨1,8,false,[.pointer none],.pointer 3,none⟩
def TG:TI:=⟨1,24,false,[.slice none 0 0],.slice 255,none⟩
def TF:TI:=⟨1,8,false,[.map none],.map 3 256,none⟩
def TD:TI:=⟨1,8,false,[.nilFunc],.func #[232,234] #[3] false,none⟩
def TB:TI:=⟨1,24,false,[.slice none 0 0],.slice 280,none⟩
def TA:TI:=⟨4,96,true,[.slice none 0 0,.slice none 0 0,.slice none 0 0,.slice none 0 0],.array 4 274,none⟩
def Tz:TI:=⟨1,8,false,[.pointer none],.pointer 280,none⟩
def Tv:TI:=⟨3,40,true,[.int .i64 0,.slice none 0 0,.int .i64 0],.struct #[⟨"kelvin",3,0,false,"","martensite/steel",0⟩,⟨"ranges",29,1,false,"","martensite/steel",8⟩,⟨"other",3,2,false,"","martensite/steel",32⟩],none⟩
def Tt:TI:=⟨3,40,true,[.int .i64 0,.slice none 0 0,.int .i64 0],.struct #[⟨"kelvin",3,0,false,"","martensite/steel",0⟩,⟨"ranges",29,1,false,"","martensite/steel",8⟩,⟨"other",3,2,false,"","martensite/steel",32⟩],none⟩
def Tq:TI:=⟨1,24,false,[.slice none 0 0],.slice 274,none⟩
def Tn:TI:=⟨1,8,false,[.nilFunc],.func #[3] #[59] false,none⟩
def Tm:TI:=⟨7,56,true,[.int .i64 0,.int .i64 0,.int .i64 0,.int .i64 0,.int .i64 0,.int .i64 0,.int .i64 0],.array 7 3,none⟩
def Tj:TI:=⟨1,8,false,[.pointer none],.pointer 59,none⟩
def Ti:TI:=⟨7,56,true,[.pointer none,.pointer none,.pointer none,.pointer none,.pointer none,.pointer none,.pointer none],.array 7 285,none⟩
def Tf:TI:=⟨1,8,false,[.pointer none],.pointer 189,none⟩
def Td:TI:=⟨8,64,true,[.int .i64 0,.int .i64 0,.int .i64 0,.int .i64 0,.int .i64 0,.int .i64 0,.int .i64 0,.int .i64 0],.array 4 59,none⟩
def Tc:TI:=⟨6,96,true,[.string .empty,.string .empty,.string .empty,.string .empty,.string .empty,.string .empty],.array 6 9,none⟩
def S9:TI:=⟨1,24,false,[.slice none 0 0],.slice 301,none⟩
def SY:TI:=⟨1,8,false,[.nilFunc],.func #[96] #[3] false,none⟩
def SX:TI:=⟨3,24,true,[.nilFunc,.int .i64 0,.int .i64 0],.struct #[⟨"value",299,0,false,"","martensite/recipe",0⟩,⟨"lo",3,1,false,"","martensite/recipe",8⟩,⟨"hi",3,2,false,"","martensite/recipe",16⟩],none⟩
def SV:TI:=⟨3,24,true,[.nilFunc,.int .i64 0,.int .i64 0],.struct #[⟨"value",299,0,false,"","martensite/recipe",0⟩,⟨"lo",3,1,false,"","martensite/recipe",8⟩,⟨"hi",3,2,false,"","martensite/recipe",16⟩],none⟩
def SS:TI:=⟨1,8,false,[.int .u64 0],.int .u64,none⟩
def SQ:TI:=⟨5,40,true,[.int .i64 0,.int .i64 0,.int .i64 0,.int .i64 0,.int .i64 0],.struct #[⟨"Kelvin",3,0,false,"","",0⟩,⟨"Wait",59,1,false,"","",8⟩,⟨"Rate",59,3,false,"","",24⟩],none⟩
def SN:TI:=⟨5,40,true,[.int .i64 0,.int .i64 0,.int .i64 0,.int .i64 0,.int .i64 0],.struct #[⟨"Kelvin",3,0,false,"","",0⟩,⟨"Wait",59,1,false,"","",8⟩,⟨"Rate",59,3,false,"","",24⟩],none⟩
def SL:TI:=⟨2,16,true,[.int .i64 0,.int .i64 0],.struct #[⟨"Kelvin",3,0,false,"","",0⟩,⟨"Rate",3,1,false,"","",8⟩],none⟩
def SK:TI:=⟨2,16,true,[.int .i64 0,.int .i64 0],.struct #[⟨"Kelvin",3,0,false,"","",0⟩,⟨"Rate",3,1,false,"","",8⟩],none⟩
def SI:TI:=⟨1,8,false,[.nilFunc],.func #[59] #[4] false,none⟩
def SH:TI:=⟨1,8,false,[.nilFunc],.func #[3] #[3] false,none⟩
def SG:TI:=⟨1,8,false,[.pointer none],.pointer 196,none⟩
def SE:TI:=⟨1,8,false,[.pointer none],.pointer 315,none⟩
def SC:TI:=⟨1,8,false,[.pointer none],.pointer 198,none⟩
def SB:TI:=⟨1,8,false,[.pointer none],.pointer 317,none⟩
def SA:TI:=⟨1,8,false,[.nilFunc],.func #[196] #[4] false,none⟩
def Sz:TI:=⟨1,8,false,[.nilFunc],.func #[315] #[4] false,none⟩
def Sv:TI:=⟨1,8,false,[.nilFunc],.func #[198] #[4] false,none⟩
def Sr:TI:=⟨1,8,false,[.nilFunc],.func #[3,3,3] #[3] false,none⟩
def Sm:TI:=⟨1,8,false,[.nilFunc],.func #[317] #[4] false,none⟩
def Sl:TI:=⟨1,8,false,[.nilFunc],.func #[385] #[] false,none⟩
def Sj:TI:=⟨1,8,false,[.nilFunc],.func #[385] #[] false,none⟩
def Si:TI:=⟨1,8,false,[.nilFunc],.func #[386] #[] false,none⟩
def RZ:TI:=⟨1,8,false,[.nilFunc],.func #[386] #[] false,none⟩
def RY:TI:=⟨1,8,false,[.nilFunc],.func #[3,196] #[4] false,none⟩
def RX:TI:=⟨1,8,false,[.nilFunc],.func #[3,317] #[4] false,none⟩
def tyl:List (Nat×TI):=[(3,ti3),(4,ti4),(9,ti9),(20,adM),(22,adL),(23,adK),(24,adJ),(25,adI),(26,adH),(27,adG),(28,adF),(29,adE),(30,adD),(31,adC),(32,adB),(33,adA),(34,adz),(37,ady),(50,adx),(51,adw),(52,adv),(57,adu),(58,adt),(59,ads),(62,adr),(75,adq),(79,adp),(80,ado),(81,adn),(82,adl),(83,adk),(84,adi),(85,adh),(86,adg),(87,adf),(88,ade),(95,adb),(96,ada),(97,ac'),(98,ac9),(99,ac8),(104,UM),(107,UL),(108,UK),(109,UJ),(119,UH),(120,UG),(126,UF),(127,UE),(129,UD),(135,UC),(136,UA),(137,Uz),(138,Uy),(145,Ux),(146,Uw),(149,Uu),(150,Ut),(154,Us),(157,Ur),(160,Uo),(161,Un),(163,Um),(173,Ul),(174,Uk),(175,Uj),(176,Ui),(188,Uh),(189,Ug),(192,Uf),(193,Ue),(195,Ud),(196,Uc),(197,Ub),(198,Ua),(199,TY),(209,TW),(210,TV),(219,TU),(220,TT),(231,TS),(232,TR),(233,TQ),(234,TP),(243,TN),(250,TM),(251,TK),(255,TJ),(256,TG),(257,TF),(273,TD),(274,TB),(275,TA),(277,Tz),(279,Tv),(280,Tt),(281,Tq),(283,Tn),(284,Tm),(285,Tj),(286,Ti),(288,Tf),(289,Td),(295,Tc),(297,S9),(299,SY),(300,SX),(301,SV),(313,SS),(314,SQ),(315,SN),(316,SL),(317,SK),(319,SI),(325,SH),(332,SG),(335,SE),(338,SC),(341,SB),(352,SA),(354,Sz),(356,Sv),(357,Sr),(359,Sm),(371,Sl),(372,Sj),(376,Si),(377,RZ),(385,RY),(386,RX)]
def ty:iE:=fun t=>lk tyl t
@[go_sem] theorem aFe:ty 3=some ti3:=by kernel_rfl
@[go_sem] theorem aFd:ty 4=some ti4:=by kernel_rfl
@[go_sem] theorem aFc:ty 9=some ti9:=by kernel_rfl
@[go_sem] theorem aCm:ty 20=some adM:=by kernel_rfl
@[go_sem] theorem aCl:ty 22=some adL:=by kernel_rfl
@[go_sem] theorem aCk:ty 23=some adK:=by kernel_rfl
@[go_sem] theorem aCj:ty 24=some adJ:=by kernel_rfl
@[go_sem] theorem aCi:ty 25=some adI:=by kernel_rfl
@[go_sem] theorem aCh:ty 26=some adH:=by kernel_rfl
@[go_sem] theorem aCg:ty 27=some adG:=by kernel_rfl
@[go_sem] theorem aCf:ty 28=some adF:=by kernel_rfl
@[go_sem] theorem aCe:ty 29=some adE:=by kernel_rfl
@[go_sem] theorem aCd:ty 30=some adD:=by kernel_rfl
@[go_sem] theorem aCc:ty 31=some adC:=by kernel_rfl
@[go_sem] theorem aCb:ty 32=some adB:=by kernel_rfl
@[go_sem] theorem aCa:ty 33=some adA:=by kernel_rfl
@[go_sem] theorem aB':ty 34=some adz:=by kernel_rfl
@[go_sem] theorem aB9:ty 37=some ady:=by kernel_rfl
@[go_sem] theorem aB8:ty 50=some adx:=by kernel_rfl
@[go_sem] theorem aB7:ty 51=some adw:=by kernel_rfl
@[go_sem] theorem aB6:ty 52=some adv:=by kernel_rfl
@[go_sem] theorem aB5:ty 57=some adu:=by kernel_rfl
@[go_sem] theorem aB4:ty 58=some adt:=by kernel_rfl
@[go_sem] theorem aB3:ty 59=some ads:=by kernel_rfl
@[go_sem] theorem aB2:ty 62=some adr:=by kernel_rfl
@[go_sem] theorem aB1:ty 75=some adq:=by kernel_rfl
@[go_sem] theorem aB0:ty 79=some adp:=by kernel_rfl
@[go_sem] theorem aBZ:ty 80=some ado:=by kernel_rfl
@[go_sem] theorem aBY:ty 81=some adn:=by kernel_rfl
@[go_sem] theorem aBX:ty 82=some adl:=by kernel_rfl
@[go_sem] theorem aBW:ty 83=some adk:=by kernel_rfl
@[go_sem] theorem aBV:ty 84=some adi:=by kernel_rfl
@[go_sem] theorem aBU:ty 85=some adh:=by kernel_rfl
@[go_sem] theorem aBT:ty 86=some adg:=by kernel_rfl
@[go_sem] theorem aBS:ty 87=some adf:=by kernel_rfl
@[go_sem] theorem aBR:ty 88=some ade:=by kernel_rfl
@[go_sem] theorem aBQ:ty 95=some adb:=by kernel_rfl
@[go_sem] theorem aBP:ty 96=some ada:=by kernel_rfl
@[go_sem] theorem aBO:ty 97=some ac':=by kernel_rfl
@[go_sem] theorem aBN:ty 98=some ac9:=by kernel_rfl
@[go_sem] theorem aBM:ty 99=some ac8:=by kernel_rfl
@[go_sem] theorem axN:ty 104=some UM:=by kernel_rfl
@[go_sem] theorem axM:ty 107=some UL:=by kernel_rfl
@[go_sem] theorem axL:ty 108=some UK:=by kernel_rfl
@[go_sem] theorem axK:ty 109=some UJ:=by kernel_rfl
@[go_sem] theorem axJ:ty 119=some UH:=by kernel_rfl
@[go_sem] theorem axI:ty 120=some UG:=by kernel_rfl
@[go_sem] theorem axH:ty 126=some UF:=by kernel_rfl
@[go_sem] theorem axG:ty 127=some UE:=by kernel_rfl
@[go_sem] theorem axF:ty 129=some UD:=by kernel_rfl
@[go_sem] theorem axE:ty 135=some UC:=by kernel_rfl
@[go_sem] theorem axD:ty 136=some UA:=by kernel_rfl
@[go_sem] theorem axC:ty 137=some Uz:=by kernel_rfl
@[go_sem] theorem axB:ty 138=some Uy:=by kernel_rfl
@[go_sem] theorem axA:ty 145=some Ux:=by kernel_rfl
@[go_sem] theorem axz:ty 146=some Uw:=by kernel_rfl
@[go_sem] theorem axy:ty 149=some Uu:=by kernel_rfl
@[go_sem] theorem axx:ty 150=some Ut:=by kernel_rfl
@[go_sem] theorem axw:ty 154=some Us:=by kernel_rfl
@[go_sem] theorem axv:ty 157=some Ur:=by kernel_rfl
@[go_sem] theorem axu:ty 160=some Uo:=by kernel_rfl
@[go_sem] theorem axt:ty 161=some Un:=by kernel_rfl
@[go_sem] theorem axr:ty 163=some Um:=by kernel_rfl
@[go_sem] theorem axq:ty 173=some Ul:=by kernel_rfl
@[go_sem] theorem axp:ty 174=some Uk:=by kernel_rfl
@[go_sem] theorem axo:ty 175=some Uj:=by kernel_rfl
@[go_sem] theorem axn:ty 176=some Ui:=by kernel_rfl
@[go_sem] theorem axl:ty 188=some Uh:=by kernel_rfl
@[go_sem] theorem axk:ty 189=some Ug:=by kernel_rfl
@[go_sem] theorem axj:ty 192=some Uf:=by kernel_rfl
@[go_sem] theorem axi:ty 193=some Ue:=by kernel_rfl
@[go_sem] theorem axh:ty 195=some Ud:=by kernel_rfl
@[go_sem] theorem axg:ty 196=some Uc:=by kernel_rfl
@[go_sem] theorem axf:ty 197=some Ub:=by kernel_rfl
@[go_sem] theorem axe:ty 198=some Ua:=by kernel_rfl
@[go_sem] theorem axd:ty 199=some TY:=by kernel_rfl
@[go_sem] theorem axc:ty 209=some TW:=by kernel_rfl
@[go_sem] theorem axb:ty 210=some TV:=by kernel_rfl
@[go_sem] theorem axa:ty 219=some TU:=by kernel_rfl
@[go_sem] theorem aw':ty 220=some TT:=by kernel_rfl
@[go_sem] theorem aw9:ty 231=some TS:=by kernel_rfl
@[go_sem] theorem aw8:ty 232=some TR:=by kernel_rfl
@[go_sem] theorem aw7:ty 233=some TQ:=by kernel_rfl
@[go_sem] theorem aw6:ty 234=some TP:=by kernel_rfl
@[go_sem] theorem aw5:ty 243=some TN:=by kernel_rfl
@[go_sem] theorem aw4:ty 250=some TM:=by kernel_rfl
@[go_sem] theorem aw3:ty 251=some TK:=by kernel_rfl
@[go_sem] theorem aw2:ty 255=some TJ:=by kernel_rfl
@[go_sem] theorem aw1:ty 256=some TG:=by kernel_rfl
@[go_sem] theorem aw0:ty 257=some TF:=by kernel_rfl
@[go_sem] theorem awZ:ty 273=some TD:=by kernel_rfl
@[go_sem] theorem awY:ty 274=some TB:=by kernel_rfl
@[go_sem] theorem awX:ty 275=some TA:=by kernel_rfl
@[go_sem] theorem awW:ty 277=some Tz:=by kernel_rfl
@[go_sem] theorem awV:ty 279=some Tv:=by kernel_rfl
@[go_sem] theorem awU:ty 280=some Tt:=by kernel_rfl
@[go_sem] theorem awT:ty 281=some Tq:=by kernel_rfl
@[go_sem] theorem awS:ty 283=some Tn:=by kernel_rfl
@[go_sem] theorem awR:ty 284=some Tm:=by kernel_rfl
@[go_sem] theorem awQ:ty 285=some Tj:=by kernel_rfl
@[go_sem] theorem awP:ty 286=some Ti:=by kernel_rfl
@[go_sem] theorem awO:ty 288=some Tf:=by kernel_rfl
@[go_sem] theorem awN:ty 289=some Td:=by kernel_rfl
@[go_sem] theorem awM:ty 295=some Tc:=by kernel_rfl
@[go_sem] theorem awL:ty 297=some S9:=by kernel_rfl
@[go_sem] theorem awK:ty 299=some SY:=by kernel_rfl
@[go_sem] theorem awJ:ty 300=some SX:=by kernel_rfl
@[go_sem] theorem awI:ty 301=some SV:=by kernel_rfl
@[go_sem] theorem awH:ty 313=some SS:=by kernel_rfl
@[go_sem] theorem awG:ty 314=some SQ:=by kernel_rfl
@[go_sem] theorem awF:ty 315=some SN:=by kernel_rfl
@[go_sem] theorem awE:ty 316=some SL:=by kernel_rfl
@[go_sem] theorem awD:ty 317=some SK:=by kernel_rfl
@[go_sem] theorem awC:ty 319=some SI:=by kernel_rfl
@[go_sem] theorem awz:ty 325=some SH:=by kernel_rfl
@[go_sem] theorem awy:ty 332=some SG:=by kernel_rfl
@[go_sem] theorem awx:ty 335=some SE:=by kernel_rfl
@[go_sem] theorem aww:ty 338=some SC:=by kernel_rfl
@[go_sem] theorem awv:ty 341=some SB:=by kernel_rfl
@[go_sem] theorem awu:ty 352=some SA:=by kernel_rfl
@[go_sem] theorem awt:ty 354=some Sz:=by kernel_rfl
@[go_sem] theorem awr:ty 356=some Sv:=by kernel_rfl
@[go_sem] theorem awq:ty 357=some Sr:=by kernel_rfl
@[go_sem] theorem awp:ty 359=some Sm:=by kernel_rfl
@[go_sem] theorem awo:ty 371=some Sl:=by kernel_rfl
@[go_sem] theorem awn:ty 372=some Sj:=by kernel_rfl
@[go_sem] theorem awm:ty 376=some Si:=by kernel_rfl
@[go_sem] theorem awl:ty 377=some RZ:=by kernel_rfl
@[go_sem] theorem awk:ty 385=some RY:=by kernel_rfl
@[go_sem] theorem awj:ty 386=some RX:=by kernel_rfl
attribute [go_sem] ti3 ti4 ti9 adM adL adK adJ adI adH adG adF adE adD adC adB adA adz ady adx adw adv adu adt ads adr adq adp ado adn adl adk adi adh adg adf ade adb ada ac' ac9 ac8 UM UL UK UJ UH UG UF UE UD UC UA Uz Uy Ux Uw Uu Ut Us Ur Uo Un Um Ul Uk Uj Ui Uh Ug Uf Ue Ud Uc Ub Ua TY TW TV TU TT TS TR TQ TP TN TM TK TJ TG TF TD TB TA Tz Tv Tt Tq Tn Tm Tj Ti Tf Td Tc S9 SY SX SV SS SQ SN SL SK SI SH SG SE SC SB SA Sz Sv Sr Sm Sl Sj Si RZ RY RX
def zv (i:TI):Value:=if i.agg=true then .agg i.zero.toArray else i.zero.headD .nilFunc
theorem fact {t:Nat} {i:TI} (he:∀ n,i.eqn=some n→afL Tryz.prog t n:=by (intro n hn; cases hn; done)) (h1:(Tryz.prog.info? t).map (fun i=>(i.size,i.bytes,i.zero))=some (i.size,i.bytes,some (zv i)):=by kernel_rfl) (h2:Tryz.prog.underlying t=some i.desc:=by kernel_rfl) (hz:(zv i).cells.toList=i.zero:=by rfl)
 (ha:i.agg=(match i.desc with | .struct _ | .array _ _=>true | _=>false):=by rfl) (ho:i.agg=false→i.size=1:=by first | (intro _; rfl) | (intro h; cases h)) (hl:i.zero.length=i.size:=by rfl):aI Tryz.prog t i:=by
 have key:∃ info,Tryz.prog.info? t=some info∧info.size=i.size∧info.bytes=i.bytes∧info.zero=some (zv i):=by
  cases hi:Tryz.prog.info? t with
  | none=>rw [hi] at h1; cases h1
  | some info=>
   rw [hi] at h1
   simp only [Option.map_some,Option.some.injEq,Prod.mk.injEq] at h1
   exact ⟨info,rfl,h1.1,h1.2.1,h1.2.2⟩
 obtain ⟨info,k1,k2,k3,k4⟩:=key
 exact ⟨⟨info,zv i,k1,k2,k3,k4,hz⟩,h2,ha,ho,hl,he,fun h=>⟨info,k1,by rw [k4]; simp [zv,h]⟩⟩
theorem aA6:afL Tryz.prog 51 [true,true] where
 guard:=by kernel_rfl
 run:=by
  intro xs ys w h1 h2
  obtain ⟨a0,xs0,rfl,ajH⟩:=sW h1
  obtain ⟨b0,ys0,rfl,ajF⟩:=sW h2
  obtain ⟨a1,xs1,rfl,ajG⟩:=sW ajH
  obtain ⟨b1,ys1,rfl,ajE⟩:=sW ajF
  obtain rfl:=IZ ajG
  obtain rfl:=IZ ajE
  have u3:Tryz.prog.underlying 3=some (.int .i64):=by kernel_rfl
  have u51:Tryz.prog.underlying 51=some (.struct #[⟨"Power",3,0,false,"","",0⟩,⟨"Law",3,1,false,"","",8⟩]):=by kernel_rfl
  have g51:Tryz.prog.stoodInHeld 51=false:=by kernel_rfl
  have v51:Tryz.prog.underlying 51=some (.struct (Tryz.prog.fieldsOf 51)):=by kernel_rfl
  have w51:(Tryz.prog.fieldsOf 51).toList=[⟨"Power",3,0,false,"","",0⟩,⟨"Law",3,1,false,"","",8⟩]:=by kernel_rfl
  have s51:∀ w,(sizeOf 51).run Tryz.prog w= .ok 2 w:=fun _=>by kernel_rfl
  have p3:∀ w,(isAgg 3).run Tryz.prog w= .ok false w:=fun _=>by kernel_rfl
  have p51:∀ w,(isAgg 51).run Tryz.prog w= .ok true w:=fun _=>by kernel_rfl
  have e3:∀ (d:Nat) (a b:Int) (w:World),(Op.equalIn (d+1) 3 (.int .i64 a) (.int .i64 b)).run Tryz.prog w= .ok (a == b) w:=fun d a b w=>run_equalIn_int w d 3 .i64 .i64 a b u3
  have e51:∀ (d:Nat) (xs ys:Array Value) (w:World),(Op.equalIn (d+1) 51 (.agg xs) (.agg ys)).run Tryz.prog w=(Op.eqFields d xs ys (Tryz.prog.fieldsOf 51).toList).run Tryz.prog w:=fun d xs ys w=>run_equalIn_struct w d 51 xs ys v51 g51
  simp [evs,EV.val,e3,e51,Op.eqFields,part,g51,w51,s51,p3,p51]
  try grind
theorem aA5:afL Tryz.prog 59 [true,true] where
 guard:=by kernel_rfl
 run:=by
  intro xs ys w h1 h2
  obtain ⟨a0,xs0,rfl,ajH⟩:=sW h1
  obtain ⟨b0,ys0,rfl,ajF⟩:=sW h2
  obtain ⟨a1,xs1,rfl,ajG⟩:=sW ajH
  obtain ⟨b1,ys1,rfl,ajE⟩:=sW ajF
  obtain rfl:=IZ ajG
  obtain rfl:=IZ ajE
  have u3:Tryz.prog.underlying 3=some (.int .i64):=by kernel_rfl
  have u59:Tryz.prog.underlying 59=some (.struct #[⟨"Lo",3,0,false,"","",0⟩,⟨"Hi",3,1,false,"","",8⟩]):=by kernel_rfl
  have g59:Tryz.prog.stoodInHeld 59=false:=by kernel_rfl
  have v59:Tryz.prog.underlying 59=some (.struct (Tryz.prog.fieldsOf 59)):=by kernel_rfl
  have w59:(Tryz.prog.fieldsOf 59).toList=[⟨"Lo",3,0,false,"","",0⟩,⟨"Hi",3,1,false,"","",8⟩]:=by kernel_rfl
  have s59:∀ w,(sizeOf 59).run Tryz.prog w= .ok 2 w:=fun _=>by kernel_rfl
  have p3:∀ w,(isAgg 3).run Tryz.prog w= .ok false w:=fun _=>by kernel_rfl
  have p59:∀ w,(isAgg 59).run Tryz.prog w= .ok true w:=fun _=>by kernel_rfl
  have e3:∀ (d:Nat) (a b:Int) (w:World),(Op.equalIn (d+1) 3 (.int .i64 a) (.int .i64 b)).run Tryz.prog w= .ok (a == b) w:=fun d a b w=>run_equalIn_int w d 3 .i64 .i64 a b u3
  have e59:∀ (d:Nat) (xs ys:Array Value) (w:World),(Op.equalIn (d+1) 59 (.agg xs) (.agg ys)).run Tryz.prog w=(Op.eqFields d xs ys (Tryz.prog.fieldsOf 59).toList).run Tryz.prog w:=fun d xs ys w=>run_equalIn_struct w d 59 xs ys v59 g59
  simp [evs,EV.val,e3,e59,Op.eqFields,part,g59,w59,s59,p3,p59]
  try grind
theorem tf3:aI Tryz.prog 3 ti3:=fact
theorem tf4:aI Tryz.prog 4 ti4:=fact
theorem tf9:aI Tryz.prog 9 ti9:=fact
theorem ayo:aI Tryz.prog 20 adM:=fact
theorem ayn:aI Tryz.prog 22 adL:=fact
theorem aym:aI Tryz.prog 23 adK:=fact
theorem ayl:aI Tryz.prog 24 adJ:=fact
theorem ayk:aI Tryz.prog 25 adI:=fact
theorem ayj:aI Tryz.prog 26 adH:=fact
theorem ayi:aI Tryz.prog 27 adG:=fact
theorem ayh:aI Tryz.prog 28 adF:=fact
theorem ayg:aI Tryz.prog 29 adE:=fact
theorem ayf:aI Tryz.prog 30 adD:=fact
theorem aye:aI Tryz.prog 31 adC:=fact
theorem ayd:aI Tryz.prog 32 adB:=fact
theorem ayc:aI Tryz.prog 33 adA:=fact
theorem ayb:aI Tryz.prog 34 adz:=fact
theorem aya:aI Tryz.prog 37 ady:=fact
theorem ax':aI Tryz.prog 50 adx:=fact
theorem ax9:aI Tryz.prog 51 adw:=fact (fun n hn=>by obtain rfl:=Option.some.inj hn; exact aA6)
theorem ax8:aI Tryz.prog 52 adv:=fact
theorem ax7:aI Tryz.prog 57 adu:=fact
theorem ax6:aI Tryz.prog 58 adt:=fact
theorem ax5:aI Tryz.prog 59 ads:=fact (fun n hn=>by obtain rfl:=Option.some.inj hn; exact aA5)
theorem ax4:aI Tryz.prog 62 adr:=fact
theorem ax3:aI Tryz.prog 75 adq:=fact
theorem ax2:aI Tryz.prog 79 adp:=fact
theorem ax1:aI Tryz.prog 80 ado:=fact
theorem ax0:aI Tryz.prog 81 adn:=fact
theorem axZ:aI Tryz.prog 82 adl:=fact
theorem axY:aI Tryz.prog 83 adk:=fact
theorem axX:aI Tryz.prog 84 adi:=fact
theorem axW:aI Tryz.prog 85 adh:=fact
theorem axV:aI Tryz.prog 86 adg:=fact
theorem axU:aI Tryz.prog 87 adf:=fact
theorem axT:aI Tryz.prog 88 ade:=fact
theorem axS:aI Tryz.prog 95 adb:=fact
theorem axR:aI Tryz.prog 96 ada:=fact
theorem axQ:aI Tryz.prog 97 ac':=fact
theorem axP:aI Tryz.prog 98 ac9:=fact
theorem axO:aI Tryz.prog 99 ac8:=fact
theorem amS:aI Tryz.prog 104 UM:=fact
theorem amR:aI Tryz.prog 107 UL:=fact
theorem amQ:aI Tryz.prog 108 UK:=fact
theorem amP:aI Tryz.prog 109 UJ:=fact
theorem amO:aI Tryz.prog 119 UH:=fact
theorem amN:aI Tryz.prog 120 UG:=fact
theorem amM:aI Tryz.prog 126 UF:=fact
theorem amL:aI Tryz.prog 127 UE:=fact
theorem amK:aI Tryz.prog 129 UD:=fact
theorem amJ:aI Tryz.prog 135 UC:=fact
theorem amI:aI Tryz.prog 136 UA:=fact
theorem amH:aI Tryz.prog 137 Uz:=fact
theorem amG:aI Tryz.prog 138 Uy:=fact
theorem amF:aI Tryz.prog 145 Ux:=fact
theorem amE:aI Tryz.prog 146 Uw:=fact
theorem amD:aI Tryz.prog 149 Uu:=fact
theorem amC:aI Tryz.prog 150 Ut:=fact
theorem amB:aI Tryz.prog 154 Us:=fact
theorem amA:aI Tryz.prog 157 Ur:=fact
theorem amy:aI Tryz.prog 160 Uo:=fact
theorem amx:aI Tryz.prog 161 Un:=fact
theorem amw:aI Tryz.prog 163 Um:=fact
theorem amv:aI Tryz.prog 173 Ul:=fact
theorem amu:aI Tryz.prog 174 Uk:=fact
theorem ams:aI Tryz.prog 175 Uj:=fact
theorem amr:aI Tryz.prog 176 Ui:=fact
theorem amq:aI Tryz.prog 188 Uh:=fact
theorem amo:aI Tryz.prog 189 Ug:=fact
theorem amn:aI Tryz.prog 192 Uf:=fact
theorem amm:aI Tryz.prog 193 Ue:=fact
theorem aml:aI Tryz.prog 195 Ud:=fact
theorem amk:aI Tryz.prog 196 Uc:=fact
theorem amj:aI Tryz.prog 197 Ub:=fact
theorem ami:aI Tryz.prog 198 Ua:=fact
theorem amh:aI Tryz.prog 199 TY:=fact
theorem amg:aI Tryz.prog 209 TW:=fact
theorem amf:aI Tryz.prog 210 TV:=fact
theorem ame:aI Tryz.prog 219 TU:=fact
theorem amd:aI Tryz.prog 220 TT:=fact
theorem amc:aI Tryz.prog 231 TS:=fact
theorem amb:aI Tryz.prog 232 TR:=fact
theorem ama:aI Tryz.prog 233 TQ:=fact
theorem al9:aI Tryz.prog 234 TP:=fact
theorem al8:aI Tryz.prog 243 TN:=fact
theorem al7:aI Tryz.prog 250 TM:=fact
theorem al6:aI Tryz.prog 251 TK:=fact
theorem al5:aI Tryz.prog 255 TJ:=fact
theorem al4:aI Tryz.prog 256 TG:=fact
theorem al3:aI Tryz.prog 257 TF:=fact
theorem al2:aI Tryz.prog 273 TD:=fact
theorem al1:aI Tryz.prog 274 TB:=fact
theorem al0:aI Tryz.prog 275 TA:=fact
theorem alZ:aI Tryz.prog 277 Tz:=fact
theorem alY:aI Tryz.prog 279 Tv:=fact
theorem alX:aI Tryz.prog 280 Tt:=fact
theorem alW:aI Tryz.prog 281 Tq:=fact
theorem alV:aI Tryz.prog 283 Tn:=fact
theorem alU:aI Tryz.prog 284 Tm:=fact
theorem alT:aI Tryz.prog 285 Tj:=fact
theorem alS:aI Tryz.prog 286 Ti:=fact
theorem alR:aI Tryz.prog 288 Tf:=fact
theorem alQ:aI Tryz.prog 289 Td:=fact
theorem alP:aI Tryz.prog 295 Tc:=fact
theorem alO:aI Tryz.prog 297 S9:=fact
theorem alN:aI Tryz.prog 299 SY:=fact
theorem alM:aI Tryz.prog 300 SX:=fact
theorem alL:aI Tryz.prog 301 SV:=fact
theorem alK:aI Tryz.prog 313 SS:=fact
theorem alJ:aI Tryz.prog 314 SQ:=fact
theorem alI:aI Tryz.prog 315 SN:=fact
theorem alH:aI Tryz.prog 316 SL:=fact
theorem alG:aI Tryz.prog 317 SK:=fact
theorem alF:aI Tryz.prog 319 SI:=fact
theorem alE:aI Tryz.prog 325 SH:=fact
theorem alD:aI Tryz.prog 332 SG:=fact
theorem alC:aI Tryz.prog 335 SE:=fact
theorem alB:aI Tryz.prog 338 SC:=fact
theorem alA:aI Tryz.prog 341 SB:=fact
theorem alz:aI Tryz.prog 352 SA:=fact
theorem aly:aI Tryz.prog 354 Sz:=fact
theorem alx:aI Tryz.prog 356 Sv:=fact
theorem alv:aI Tryz.prog 357 Sr:=fact
theorem alu:aI Tryz.prog 359 Sm:=fact
theorem als:aI Tryz.prog 371 Sl:=fact
theorem alr:aI Tryz.prog 372 Sj:=fact
theorem alq:aI Tryz.prog 376 Si:=fact
theorem alp:aI Tryz.prog 377 RZ:=fact
theorem alo:aI Tryz.prog 385 RY:=fact
theorem aln:aI Tryz.prog 386 RX:=fact
def Facts:List (Nat×TI)→Prop
 | []=>True
 | p::r=>aI Tryz.prog p.1 p.2∧Facts r
theorem Gp:∀ {l:List (Nat×TI)},Facts l→∀ t i,lk l t=some i→aI Tryz.prog t i
 | [],_,_,_,h=>by cases h
 | (k,x)::r,h,t,i,hi=>by
  simp only [lk] at hi
  split at hi
  ·rename_i e; subst e; obtain rfl:=Option.some.inj hi; exact h.1
  ·exact Gp h.2 t i hi
theorem bT:iw Tryz.prog ty:=Gp (l:=tyl) ⟨tf3,tf4,tf9,ayo,ayn,aym,ayl,ayk,ayj,ayi,ayh,ayg,ayf,aye,ayd,ayc,ayb,aya,ax',ax9,ax8,ax7,ax6,ax5,ax4,ax3,ax2,ax1,ax0,axZ,axY,axX,axW,axV,axU,axT,axS,axR,axQ,axP,axO,amS,amR,amQ,amP,amO,amN,amM,amL,amK,amJ,amI,amH,amG,amF,amE,amD,amC,amB,amA,amy,amx,amw,amv,amu,ams,amr,amq,amo,amn,amm,aml,amk,amj,ami,amh,amg,amf,ame,amd,amc,amb,ama,al9,al8,al7,al6,al5,al4,al3,al2,al1,al0,alZ,alY,alX,alW,alV,alU,alT,alS,alR,alQ,alP,alO,alN,alM,alL,alK,alJ,alI,alH,alG,alF,alE,alD,alC,alB,alA,alz,aly,alx,alv,alu,als,alr,alq,alp,alo,aln,trivial⟩
end Go.Proofs.YtofkgmldcjagmaaGreatDoor
