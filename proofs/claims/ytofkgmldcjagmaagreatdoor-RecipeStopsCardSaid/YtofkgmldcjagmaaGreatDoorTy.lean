/-
  The types of the translation, as the abstract machine uses them: a table, and that it agrees with the program's. Written by a program of ours (gen_ty.py).
-/
import Derived.Test.YtofkgmldcjagmaaGreatDoorProg
import Derived.Test.YtofkgmldcjagmaaGreatDoorAbsC
import Derived.KernelRfl
set_option linter.unusedSimpArgs false
set_option linter.unusedVariables false
namespace Go.Proofs.YtofkgmldcjagmaaGreatDoor
open Go.Abs
def ti3:TI:=⟨1,8,false,[.int .i64 0],.int .i64,none⟩
def ti4:TI:=⟨1,1,false,[.bool false],.bool,none⟩
def ti9:TI:=⟨1,16,false,[.string .empty],.string,none⟩
def ti20:TI:=⟨1,16,false,[.nilIface],.interface #[],none⟩
def ti22:TI:=⟨1,24,false,[.slice none 0 0],.slice 120,none⟩
def ti23:TI:=⟨1,24,false,[.slice none 0 0],.slice 97,none⟩
def ti24:TI:=⟨4,64,true,[.int .i64 0,.int .i64 0,.slice none 0 0,.slice none 0 0],.struct #[⟨"Cells",3,0,false,"","",0⟩,⟨"Exchange",3,1,false,"","",8⟩,⟨"Table",22,2,false,"","",16⟩,⟨"Laws",23,3,false,"","",40⟩],none⟩
def ti25:TI:=⟨4,64,true,[.int .i64 0,.int .i64 0,.slice none 0 0,.slice none 0 0],.struct #[⟨"Cells",3,0,false,"","",0⟩,⟨"Exchange",3,1,false,"","",8⟩,⟨"Table",22,2,false,"","",16⟩,⟨"Laws",23,3,false,"","",40⟩],none⟩
def ti26:TI:=⟨1,24,false,[.slice none 0 0],.slice 3,none⟩
def ti27:TI:=⟨2,48,true,[.slice none 0 0,.slice none 0 0],.struct #[⟨"Lo",26,0,false,"","",0⟩,⟨"Hi",26,1,false,"","",24⟩],none⟩
def ti28:TI:=⟨2,48,true,[.slice none 0 0,.slice none 0 0],.struct #[⟨"Lo",26,0,false,"","",0⟩,⟨"Hi",26,1,false,"","",24⟩],none⟩
def ti29:TI:=⟨1,24,false,[.slice none 0 0],.slice 59,none⟩
def ti30:TI:=⟨9,152,true,[.int .i64 0,.int .i64 0,.slice none 0 0,.slice none 0 0,.slice none 0 0,.slice none 0 0,.slice none 0 0,.int .i64 0,.int .i64 0],.struct #[⟨"Setup",25,0,false,"","",0⟩,⟨"Start",28,4,false,"","",64⟩,⟨"Weights",29,6,false,"","",112⟩,⟨"Air",3,7,false,"","",136⟩,⟨"Spread",3,8,false,"","",144⟩],none⟩
def ti31:TI:=⟨9,152,true,[.int .i64 0,.int .i64 0,.slice none 0 0,.slice none 0 0,.slice none 0 0,.slice none 0 0,.slice none 0 0,.int .i64 0,.int .i64 0],.struct #[⟨"Setup",25,0,false,"","",0⟩,⟨"Start",28,4,false,"","",64⟩,⟨"Weights",29,6,false,"","",112⟩,⟨"Air",3,7,false,"","",136⟩,⟨"Spread",3,8,false,"","",144⟩],none⟩
def ti32:TI:=⟨1,24,false,[.slice none 0 0],.slice 51,none⟩
def ti33:TI:=⟨3,24,true,[.int .i64 0,.int .i64 0,.int .i64 0],.struct #[⟨"After",3,0,false,"","",0⟩,⟨"Kelvin",3,1,false,"","",8⟩,⟨"Most",3,2,false,"","",16⟩],none⟩
def ti34:TI:=⟨3,24,true,[.int .i64 0,.int .i64 0,.int .i64 0],.struct #[⟨"After",3,0,false,"","",0⟩,⟨"Kelvin",3,1,false,"","",8⟩,⟨"Most",3,2,false,"","",16⟩],none⟩
def ti37:TI:=⟨1,8,false,[.int .i64 0],.int .i64,none⟩
def ti50:TI:=⟨2,16,true,[.int .i64 0,.int .i64 0],.struct #[⟨"Power",3,0,false,"","",0⟩,⟨"Law",3,1,false,"","",8⟩],none⟩
def ti51:TI:=⟨2,16,true,[.int .i64 0,.int .i64 0],.struct #[⟨"Power",3,0,false,"","",0⟩,⟨"Law",3,1,false,"","",8⟩],some [true,true]⟩
def ti52:TI:=⟨1,24,false,[.slice none 0 0],.slice 29,none⟩
def ti57:TI:=⟨1,8,false,[.nilFunc],.func #[3,3] #[3] false,none⟩
def ti58:TI:=⟨2,16,true,[.int .i64 0,.int .i64 0],.struct #[⟨"Lo",3,0,false,"","",0⟩,⟨"Hi",3,1,false,"","",8⟩],none⟩
def ti59:TI:=⟨2,16,true,[.int .i64 0,.int .i64 0],.struct #[⟨"Lo",3,0,false,"","",0⟩,⟨"Hi",3,1,false,"","",8⟩],some [true,true]⟩
def ti62:TI:=⟨1,24,false,[.slice none 0 0],.slice 127,none⟩
def ti75:TI:=⟨1,24,false,[.slice none 0 0],.slice 96,none⟩
def ti79:TI:=⟨1,24,false,[.slice none 0 0],.slice 196,none⟩
def ti80:TI:=⟨1,24,false,[.slice none 0 0],.slice 315,none⟩
def ti81:TI:=⟨1,24,false,[.slice none 0 0],.slice 198,none⟩
def ti82:TI:=⟨1,24,false,[.slice none 0 0],.slice 317,none⟩
def ti83:TI:=⟨4,32,true,[.int .i64 0,.int .i64 0,.int .i64 0,.int .i64 0],.array 4 3,none⟩
def ti84:TI:=⟨8,128,true,[.slice none 0 0,.slice none 0 0,.slice none 0 0,.slice none 0 0,.int .i64 0,.int .i64 0,.int .i64 0,.int .i64 0],.struct #[⟨"Heats",79,0,false,"","",0⟩,⟨"Cools",80,1,false,"","",24⟩,⟨"Colds",81,2,false,"","",48⟩,⟨"Tempers",82,3,false,"","",72⟩,⟨"Hard",83,4,false,"","",96⟩],none⟩
def ti85:TI:=⟨8,128,true,[.slice none 0 0,.slice none 0 0,.slice none 0 0,.slice none 0 0,.int .i64 0,.int .i64 0,.int .i64 0,.int .i64 0],.struct #[⟨"Heats",79,0,false,"","",0⟩,⟨"Cools",80,1,false,"","",24⟩,⟨"Colds",81,2,false,"","",48⟩,⟨"Tempers",82,3,false,"","",72⟩,⟨"Hard",83,4,false,"","",96⟩],none⟩
def ti86:TI:=⟨1,24,false,[.slice none 0 0],.slice 146,none⟩
def ti87:TI:=⟨19,312,true,[.int .i64 0,.int .i64 0,.slice none 0 0,.slice none 0 0,.slice none 0 0,.slice none 0 0,.slice none 0 0,.int .i64 0,.int .i64 0,.slice none 0 0,.slice none 0 0,.slice none 0 0,.slice none 0 0,.int .i64 0,.int .i64 0,.int .i64 0,.int .i64 0,.slice none 0 0,.int .i64 0],.struct #[⟨"Bench",31,0,false,"","",0⟩,⟨"Rules",85,9,false,"","",152⟩,⟨"Points",86,17,false,"","",280⟩,⟨"Edge",3,18,false,"","",304⟩],none⟩
def ti88:TI:=⟨19,312,true,[.int .i64 0,.int .i64 0,.slice none 0 0,.slice none 0 0,.slice none 0 0,.slice none 0 0,.slice none 0 0,.int .i64 0,.int .i64 0,.slice none 0 0,.slice none 0 0,.slice none 0 0,.slice none 0 0,.int .i64 0,.int .i64 0,.int .i64 0,.int .i64 0,.slice none 0 0,.int .i64 0],.struct #[⟨"Bench",31,0,false,"","",0⟩,⟨"Rules",85,9,false,"","",152⟩,⟨"Points",86,17,false,"","",280⟩,⟨"Edge",3,18,false,"","",304⟩],none⟩
def ti95:TI:=⟨6,64,true,[.int .i64 0,.int .i64 0,.int .i64 0,.int .i64 0,.int .i64 0,.slice none 0 0],.struct #[⟨"Kind",3,0,false,"","",0⟩,⟨"Power",3,1,false,"","",8⟩,⟨"Law",3,2,false,"","",16⟩,⟨"Ticks",3,3,false,"","",24⟩,⟨"Kelvin",3,4,false,"","",32⟩,⟨"Body",75,5,false,"","",40⟩],none⟩
def ti96:TI:=⟨6,64,true,[.int .i64 0,.int .i64 0,.int .i64 0,.int .i64 0,.int .i64 0,.slice none 0 0],.struct #[⟨"Kind",3,0,false,"","",0⟩,⟨"Power",3,1,false,"","",8⟩,⟨"Law",3,2,false,"","",16⟩,⟨"Ticks",3,3,false,"","",24⟩,⟨"Kelvin",3,4,false,"","",32⟩,⟨"Body",75,5,false,"","",40⟩],none⟩
def ti97:TI:=⟨1,24,false,[.slice none 0 0],.slice 136,none⟩
def ti98:TI:=⟨9,152,true,[.int .i64 0,.int .i64 0,.slice none 0 0,.slice none 0 0,.slice none 0 0,.slice none 0 0,.slice none 0 0,.int .i64 0,.int .i64 0],.struct #[⟨"RecipeBench",31,0,true,"","",0⟩],none⟩
def ti99:TI:=⟨9,152,true,[.int .i64 0,.int .i64 0,.slice none 0 0,.slice none 0 0,.slice none 0 0,.slice none 0 0,.slice none 0 0,.int .i64 0,.int .i64 0],.struct #[⟨"RecipeBench",31,0,true,"","",0⟩],none⟩
def ti104:TI:=⟨1,8,false,[.pointer none],.pointer 109,none⟩
def ti107:TI:=⟨1,8,false,[.nilFunc],.func #[3] #[4] false,none⟩
def ti108:TI:=⟨11,200,true,[.int .i64 0,.int .i64 0,.slice none 0 0,.slice none 0 0,.slice none 0 0,.slice none 0 0,.slice none 0 0,.int .i64 0,.int .i64 0,.slice none 0 0,.slice none 0 0],.struct #[⟨"bench",99,0,true,"","martensite/recipe",0⟩,⟨"energies",26,9,false,"","martensite/recipe",152⟩,⟨"made",32,10,false,"","martensite/recipe",176⟩],none⟩
def ti109:TI:=⟨11,200,true,[.int .i64 0,.int .i64 0,.slice none 0 0,.slice none 0 0,.slice none 0 0,.slice none 0 0,.slice none 0 0,.int .i64 0,.int .i64 0,.slice none 0 0,.slice none 0 0],.struct #[⟨"bench",99,0,true,"","martensite/recipe",0⟩,⟨"energies",26,9,false,"","martensite/recipe",152⟩,⟨"made",32,10,false,"","martensite/recipe",176⟩],none⟩
def ti119:TI:=⟨2,16,true,[.int .i64 0,.int .i64 0],.struct #[⟨"Energy",3,0,false,"","",0⟩,⟨"Kelvin",3,1,false,"","",8⟩],none⟩
def ti120:TI:=⟨2,16,true,[.int .i64 0,.int .i64 0],.struct #[⟨"Energy",3,0,false,"","",0⟩,⟨"Kelvin",3,1,false,"","",8⟩],none⟩
def ti126:TI:=⟨3,40,true,[.slice none 0 0,.int .i64 0,.int .i64 0],.struct #[⟨"Powers",29,0,false,"","",0⟩,⟨"Laws",59,1,false,"","",24⟩],none⟩
def ti127:TI:=⟨3,40,true,[.slice none 0 0,.int .i64 0,.int .i64 0],.struct #[⟨"Powers",29,0,false,"","",0⟩,⟨"Laws",59,1,false,"","",24⟩],none⟩
def ti129:TI:=⟨1,24,false,[.slice none 0 0],.slice 28,none⟩
def ti135:TI:=⟨2,16,true,[.int .i64 0,.int .i64 0],.struct #[⟨"Kelvin",3,0,false,"","",0⟩,⟨"Loss",3,1,false,"","",8⟩],none⟩
def ti136:TI:=⟨2,16,true,[.int .i64 0,.int .i64 0],.struct #[⟨"Kelvin",3,0,false,"","",0⟩,⟨"Loss",3,1,false,"","",8⟩],none⟩
def ti137:TI:=⟨28,464,true,[.int .i64 0,.int .i64 0,.slice none 0 0,.slice none 0 0,.slice none 0 0,.slice none 0 0,.slice none 0 0,.int .i64 0,.int .i64 0,.int .i64 0,.int .i64 0,.slice none 0 0,.slice none 0 0,.slice none 0 0,.slice none 0 0,.slice none 0 0,.int .i64 0,.int .i64 0,.slice none 0 0,.slice none 0 0,.slice none 0 0,.slice none 0 0,.int .i64 0,.int .i64 0,.int .i64 0,.int .i64 0,.slice none 0 0,.int .i64 0],.struct #[⟨"bench",99,0,true,"","martensite/recipe",0⟩,⟨"RecipeOrder",88,9,true,"","",152⟩],none⟩
def ti138:TI:=⟨28,464,true,[.int .i64 0,.int .i64 0,.slice none 0 0,.slice none 0 0,.slice none 0 0,.slice none 0 0,.slice none 0 0,.int .i64 0,.int .i64 0,.int .i64 0,.int .i64 0,.slice none 0 0,.slice none 0 0,.slice none 0 0,.slice none 0 0,.slice none 0 0,.int .i64 0,.int .i64 0,.slice none 0 0,.slice none 0 0,.slice none 0 0,.slice none 0 0,.int .i64 0,.int .i64 0,.int .i64 0,.int .i64 0,.slice none 0 0,.int .i64 0],.struct #[⟨"bench",99,0,true,"","martensite/recipe",0⟩,⟨"RecipeOrder",88,9,true,"","",152⟩],none⟩
def ti145:TI:=⟨3,24,true,[.int .i64 0,.int .i64 0,.int .i64 0],.struct #[⟨"Cell",3,0,false,"","",0⟩,⟨"Hard",59,1,false,"","",8⟩],none⟩
def ti146:TI:=⟨3,24,true,[.int .i64 0,.int .i64 0,.int .i64 0],.struct #[⟨"Cell",3,0,false,"","",0⟩,⟨"Hard",59,1,false,"","",8⟩],none⟩
def ti149:TI:=⟨1,16,true,[.string .empty],.struct #[⟨"rest",9,0,false,"","martensite/recipe",0⟩],none⟩
def ti150:TI:=⟨1,16,true,[.string .empty],.struct #[⟨"rest",9,0,false,"","martensite/recipe",0⟩],none⟩
def ti154:TI:=⟨1,24,false,[.slice none 0 0],.slice 9,none⟩
def ti157:TI:=⟨1,24,false,[.slice none 0 0],.slice 37,none⟩
def ti160:TI:=⟨2,32,true,[.slice none 0 0,.int .i64 0],.struct #[⟨"Powers",26,0,false,"","",0⟩,⟨"Law",3,1,false,"","",24⟩],none⟩
def ti161:TI:=⟨2,32,true,[.slice none 0 0,.int .i64 0],.struct #[⟨"Powers",26,0,false,"","",0⟩,⟨"Law",3,1,false,"","",24⟩],none⟩
def ti163:TI:=⟨1,8,false,[.nilFunc],.func #[59] #[3] false,none⟩
def ti173:TI:=⟨1,24,false,[.slice none 0 0],.slice 232,none⟩
def ti174:TI:=⟨1,24,false,[.slice none 0 0],.slice 173,none⟩
def ti175:TI:=⟨6,112,true,[.int .i64 0,.int .i64 0,.slice none 0 0,.slice none 0 0,.slice none 0 0,.slice none 0 0],.struct #[⟨"HeatSetup",25,0,true,"","",0⟩,⟨"table",173,4,false,"","martensite/heat",64⟩,⟨"laws",174,5,false,"","martensite/heat",88⟩],none⟩
def ti176:TI:=⟨6,112,true,[.int .i64 0,.int .i64 0,.slice none 0 0,.slice none 0 0,.slice none 0 0,.slice none 0 0],.struct #[⟨"HeatSetup",25,0,true,"","",0⟩,⟨"table",173,4,false,"","martensite/heat",64⟩,⟨"laws",174,5,false,"","martensite/heat",88⟩],none⟩
def ti188:TI:=⟨14,112,true,[.int .i64 0,.int .i64 0,.int .i64 0,.int .i64 0,.int .i64 0,.int .i64 0,.int .i64 0,.int .i64 0,.int .i64 0,.int .i64 0,.int .i64 0,.int .i64 0,.int .i64 0,.int .i64 0],.struct #[⟨"Parent",59,0,false,"","",0⟩,⟨"Austenite",59,2,false,"","",16⟩,⟨"Bainite",59,4,false,"","",32⟩,⟨"Martensite",59,6,false,"","",48⟩,⟨"Wait",59,8,false,"","",64⟩,⟨"Grain",59,10,false,"","",80⟩,⟨"Temper",59,12,false,"","",96⟩],none⟩
def ti189:TI:=⟨14,112,true,[.int .i64 0,.int .i64 0,.int .i64 0,.int .i64 0,.int .i64 0,.int .i64 0,.int .i64 0,.int .i64 0,.int .i64 0,.int .i64 0,.int .i64 0,.int .i64 0,.int .i64 0,.int .i64 0],.struct #[⟨"Parent",59,0,false,"","",0⟩,⟨"Austenite",59,2,false,"","",16⟩,⟨"Bainite",59,4,false,"","",32⟩,⟨"Martensite",59,6,false,"","",48⟩,⟨"Wait",59,8,false,"","",64⟩,⟨"Grain",59,10,false,"","",80⟩,⟨"Temper",59,12,false,"","",96⟩],none⟩
def ti192:TI:=⟨7,56,true,[.int .i64 0,.int .i64 0,.int .i64 0,.int .i64 0,.int .i64 0,.int .i64 0,.int .i64 0],.struct #[⟨"Parent",3,0,false,"","",0⟩,⟨"Austenite",3,1,false,"","",8⟩,⟨"Bainite",3,2,false,"","",16⟩,⟨"Martensite",3,3,false,"","",24⟩,⟨"Wait",3,4,false,"","",32⟩,⟨"Grain",3,5,false,"","",40⟩,⟨"Temper",3,6,false,"","",48⟩],none⟩
def ti193:TI:=⟨7,56,true,[.int .i64 0,.int .i64 0,.int .i64 0,.int .i64 0,.int .i64 0,.int .i64 0,.int .i64 0],.struct #[⟨"Parent",3,0,false,"","",0⟩,⟨"Austenite",3,1,false,"","",8⟩,⟨"Bainite",3,2,false,"","",16⟩,⟨"Martensite",3,3,false,"","",24⟩,⟨"Wait",3,4,false,"","",32⟩,⟨"Grain",3,5,false,"","",40⟩,⟨"Temper",3,6,false,"","",48⟩],none⟩
def ti195:TI:=⟨4,32,true,[.int .i64 0,.int .i64 0,.int .i64 0,.int .i64 0],.struct #[⟨"Kelvin",3,0,false,"","",0⟩,⟨"Rate",59,1,false,"","",8⟩,⟨"Growth",3,3,false,"","",24⟩],none⟩
def ti196:TI:=⟨4,32,true,[.int .i64 0,.int .i64 0,.int .i64 0,.int .i64 0],.struct #[⟨"Kelvin",3,0,false,"","",0⟩,⟨"Rate",59,1,false,"","",8⟩,⟨"Growth",3,3,false,"","",24⟩],none⟩
def ti197:TI:=⟨3,24,true,[.int .i64 0,.int .i64 0,.int .i64 0],.struct #[⟨"Kelvin",3,0,false,"","",0⟩,⟨"Share",59,1,false,"","",8⟩],none⟩
def ti198:TI:=⟨3,24,true,[.int .i64 0,.int .i64 0,.int .i64 0],.struct #[⟨"Kelvin",3,0,false,"","",0⟩,⟨"Share",59,1,false,"","",8⟩],none⟩
def ti199:TI:=⟨1,8,false,[.pointer none],.pointer 150,none⟩
def ti209:TI:=⟨1,16,false,[.nilIface],.interface #[("Error",213)],none⟩
def ti210:TI:=⟨1,16,false,[.nilIface],.interface #[("Error",213)],none⟩
def ti219:TI:=⟨2,16,true,[.int .i64 0,.int .i64 0],.struct #[⟨"Num",3,0,false,"","",0⟩,⟨"Den",3,1,false,"","",8⟩],none⟩
def ti220:TI:=⟨2,16,true,[.int .i64 0,.int .i64 0],.struct #[⟨"Num",3,0,false,"","",0⟩,⟨"Den",3,1,false,"","",8⟩],none⟩
def ti231:TI:=⟨2,16,true,[.int .i64 0,.int .i64 0],.struct #[⟨"x",3,0,false,"","martensite/heat",0⟩,⟨"y",3,1,false,"","martensite/heat",8⟩],none⟩
def ti232:TI:=⟨2,16,true,[.int .i64 0,.int .i64 0],.struct #[⟨"x",3,0,false,"","martensite/heat",0⟩,⟨"y",3,1,false,"","martensite/heat",8⟩],none⟩
def ti233:TI:=⟨2,16,true,[.int .i64 0,.int .i64 0],.struct #[⟨"num",3,0,false,"","martensite/heat",0⟩,⟨"den",3,1,false,"","martensite/heat",8⟩],none⟩
def ti234:TI:=⟨2,16,true,[.int .i64 0,.int .i64 0],.struct #[⟨"num",3,0,false,"","martensite/heat",0⟩,⟨"den",3,1,false,"","martensite/heat",8⟩],none⟩
def ti243:TI:=⟨1,8,false,[.nilFunc],.func #[96] #[4] false,none⟩
def ti250:TI:=⟨8,128,true,[.slice none 0 0,.slice none 0 0,.slice none 0 0,.slice none 0 0,.int .i64 0,.int .i64 0,.int .i64 0,.int .i64 0],.struct #[⟨"SteelRules",85,0,true,"","",0⟩],none⟩
def ti251:TI:=⟨8,128,true,[.slice none 0 0,.slice none 0 0,.slice none 0 0,.slice none 0 0,.int .i64 0,.int .i64 0,.int .i64 0,.int .i64 0],.struct #[⟨"SteelRules",85,0,true,"","",0⟩],none⟩
def ti255:TI:=⟨1,8,false,[.pointer none],.pointer 3,none⟩
def ti256:TI:=⟨1,24,false,[.slice none 0 0],.slice 255,none⟩
def ti257:TI:=⟨1,8,false,[.map none],.map 3 256,none⟩
def ti273:TI:=⟨1,8,false,[.nilFunc],.func #[232,234] #[3] false,none⟩
def ti274:TI:=⟨1,24,false,[.slice none 0 0],.slice 280,none⟩
def ti275:TI:=⟨4,96,true,[.slice none 0 0,.slice none 0 0,.slice none 0 0,.slice none 0 0],.array 4 274,none⟩
def ti277:TI:=⟨1,8,false,[.pointer none],.pointer 280,none⟩
def ti279:TI:=⟨3,40,true,[.int .i64 0,.slice none 0 0,.int .i64 0],.struct #[⟨"kelvin",3,0,false,"","martensite/steel",0⟩,⟨"ranges",29,1,false,"","martensite/steel",8⟩,⟨"other",3,2,false,"","martensite/steel",32⟩],none⟩
def ti280:TI:=⟨3,40,true,[.int .i64 0,.slice none 0 0,.int .i64 0],.struct #[⟨"kelvin",3,0,false,"","martensite/steel",0⟩,⟨"ranges",29,1,false,"","martensite/steel",8⟩,⟨"other",3,2,false,"","martensite/steel",32⟩],none⟩
def ti281:TI:=⟨1,24,false,[.slice none 0 0],.slice 274,none⟩
def ti283:TI:=⟨1,8,false,[.nilFunc],.func #[3] #[59] false,none⟩
def ti284:TI:=⟨7,56,true,[.int .i64 0,.int .i64 0,.int .i64 0,.int .i64 0,.int .i64 0,.int .i64 0,.int .i64 0],.array 7 3,none⟩
def ti285:TI:=⟨1,8,false,[.pointer none],.pointer 59,none⟩
def ti286:TI:=⟨7,56,true,[.pointer none,.pointer none,.pointer none,.pointer none,.pointer none,.pointer none,.pointer none],.array 7 285,none⟩
def ti288:TI:=⟨1,8,false,[.pointer none],.pointer 189,none⟩
def ti289:TI:=⟨8,64,true,[.int .i64 0,.int .i64 0,.int .i64 0,.int .i64 0,.int .i64 0,.int .i64 0,.int .i64 0,.int .i64 0],.array 4 59,none⟩
def ti295:TI:=⟨6,96,true,[.string .empty,.string .empty,.string .empty,.string .empty,.string .empty,.string .empty],.array 6 9,none⟩
def ti297:TI:=⟨1,24,false,[.slice none 0 0],.slice 301,none⟩
def ti299:TI:=⟨1,8,false,[.nilFunc],.func #[96] #[3] false,none⟩
def ti300:TI:=⟨3,24,true,[.nilFunc,.int .i64 0,.int .i64 0],.struct #[⟨"value",299,0,false,"","martensite/recipe",0⟩,⟨"lo",3,1,false,"","martensite/recipe",8⟩,⟨"hi",3,2,false,"","martensite/recipe",16⟩],none⟩
def ti301:TI:=⟨3,24,true,[.nilFunc,.int .i64 0,.int .i64 0],.struct #[⟨"value",299,0,false,"","martensite/recipe",0⟩,⟨"lo",3,1,false,"","martensite/recipe",8⟩,⟨"hi",3,2,false,"","martensite/recipe",16⟩],none⟩
def ti313:TI:=⟨1,8,false,[.int .u64 0],.int .u64,none⟩
def ti314:TI:=⟨5,40,true,[.int .i64 0,.int .i64 0,.int .i64 0,.int .i64 0,.int .i64 0],.struct #[⟨"Kelvin",3,0,false,"","",0⟩,⟨"Wait",59,1,false,"","",8⟩,⟨"Rate",59,3,false,"","",24⟩],none⟩
def ti315:TI:=⟨5,40,true,[.int .i64 0,.int .i64 0,.int .i64 0,.int .i64 0,.int .i64 0],.struct #[⟨"Kelvin",3,0,false,"","",0⟩,⟨"Wait",59,1,false,"","",8⟩,⟨"Rate",59,3,false,"","",24⟩],none⟩
def ti316:TI:=⟨2,16,true,[.int .i64 0,.int .i64 0],.struct #[⟨"Kelvin",3,0,false,"","",0⟩,⟨"Rate",3,1,false,"","",8⟩],none⟩
def ti317:TI:=⟨2,16,true,[.int .i64 0,.int .i64 0],.struct #[⟨"Kelvin",3,0,false,"","",0⟩,⟨"Rate",3,1,false,"","",8⟩],none⟩
def ti319:TI:=⟨1,8,false,[.nilFunc],.func #[59] #[4] false,none⟩
def ti325:TI:=⟨1,8,false,[.nilFunc],.func #[3] #[3] false,none⟩
def ti332:TI:=⟨1,8,false,[.pointer none],.pointer 196,none⟩
def ti335:TI:=⟨1,8,false,[.pointer none],.pointer 315,none⟩
def ti338:TI:=⟨1,8,false,[.pointer none],.pointer 198,none⟩
def ti341:TI:=⟨1,8,false,[.pointer none],.pointer 317,none⟩
def ti352:TI:=⟨1,8,false,[.nilFunc],.func #[196] #[4] false,none⟩
def ti354:TI:=⟨1,8,false,[.nilFunc],.func #[315] #[4] false,none⟩
def ti356:TI:=⟨1,8,false,[.nilFunc],.func #[198] #[4] false,none⟩
def ti357:TI:=⟨1,8,false,[.nilFunc],.func #[3,3,3] #[3] false,none⟩
def ti359:TI:=⟨1,8,false,[.nilFunc],.func #[317] #[4] false,none⟩
def ti371:TI:=⟨1,8,false,[.nilFunc],.func #[385] #[] false,none⟩
def ti372:TI:=⟨1,8,false,[.nilFunc],.func #[385] #[] false,none⟩
def ti376:TI:=⟨1,8,false,[.nilFunc],.func #[386] #[] false,none⟩
def ti377:TI:=⟨1,8,false,[.nilFunc],.func #[386] #[] false,none⟩
def ti385:TI:=⟨1,8,false,[.nilFunc],.func #[3,196] #[4] false,none⟩
def ti386:TI:=⟨1,8,false,[.nilFunc],.func #[3,317] #[4] false,none⟩
def tyl:List (Nat×TI):=[(3,ti3),(4,ti4),(9,ti9),(20,ti20),(22,ti22),(23,ti23),(24,ti24),(25,ti25),(26,ti26),(27,ti27),(28,ti28),(29,ti29),(30,ti30),(31,ti31),(32,ti32),(33,ti33),(34,ti34),(37,ti37),(50,ti50),(51,ti51),(52,ti52),(57,ti57),(58,ti58),(59,ti59),(62,ti62),(75,ti75),(79,ti79),(80,ti80),(81,ti81),(82,ti82),(83,ti83),(84,ti84),(85,ti85),(86,ti86),(87,ti87),(88,ti88),(95,ti95),(96,ti96),(97,ti97),(98,ti98),(99,ti99),(104,ti104),(107,ti107),(108,ti108),(109,ti109),(119,ti119),(120,ti120),(126,ti126),(127,ti127),(129,ti129),(135,ti135),(136,ti136),(137,ti137),(138,ti138),(145,ti145),(146,ti146),(149,ti149),(150,ti150),(154,ti154),(157,ti157),(160,ti160),(161,ti161),(163,ti163),(173,ti173),(174,ti174),(175,ti175),(176,ti176),(188,ti188),(189,ti189),(192,ti192),(193,ti193),(195,ti195),(196,ti196),(197,ti197),(198,ti198),(199,ti199),(209,ti209),(210,ti210),(219,ti219),(220,ti220),(231,ti231),(232,ti232),(233,ti233),(234,ti234),(243,ti243),(250,ti250),(251,ti251),(255,ti255),(256,ti256),(257,ti257),(273,ti273),(274,ti274),(275,ti275),(277,ti277),(279,ti279),(280,ti280),(281,ti281),(283,ti283),(284,ti284),(285,ti285),(286,ti286),(288,ti288),(289,ti289),(295,ti295),(297,ti297),(299,ti299),(300,ti300),(301,ti301),(313,ti313),(314,ti314),(315,ti315),(316,ti316),(317,ti317),(319,ti319),(325,ti325),(332,ti332),(335,ti335),(338,ti338),(341,ti341),(352,ti352),(354,ti354),(356,ti356),(357,ti357),(359,ti359),(371,ti371),(372,ti372),(376,ti376),(377,ti377),(385,ti385),(386,ti386)]
def ty:Tys:=fun t=>lk tyl t
@[go_sem] theorem ty_3:ty 3=some ti3:=by kernel_rfl
@[go_sem] theorem ty_4:ty 4=some ti4:=by kernel_rfl
@[go_sem] theorem ty_9:ty 9=some ti9:=by kernel_rfl
@[go_sem] theorem ty_20:ty 20=some ti20:=by kernel_rfl
@[go_sem] theorem ty_22:ty 22=some ti22:=by kernel_rfl
@[go_sem] theorem ty_23:ty 23=some ti23:=by kernel_rfl
@[go_sem] theorem ty_24:ty 24=some ti24:=by kernel_rfl
@[go_sem] theorem ty_25:ty 25=some ti25:=by kernel_rfl
@[go_sem] theorem ty_26:ty 26=some ti26:=by kernel_rfl
@[go_sem] theorem ty_27:ty 27=some ti27:=by kernel_rfl
@[go_sem] theorem ty_28:ty 28=some ti28:=by kernel_rfl
@[go_sem] theorem ty_29:ty 29=some ti29:=by kernel_rfl
@[go_sem] theorem ty_30:ty 30=some ti30:=by kernel_rfl
@[go_sem] theorem ty_31:ty 31=some ti31:=by kernel_rfl
@[go_sem] theorem ty_32:ty 32=some ti32:=by kernel_rfl
@[go_sem] theorem ty_33:ty 33=some ti33:=by kernel_rfl
@[go_sem] theorem ty_34:ty 34=some ti34:=by kernel_rfl
@[go_sem] theorem ty_37:ty 37=some ti37:=by kernel_rfl
@[go_sem] theorem ty_50:ty 50=some ti50:=by kernel_rfl
@[go_sem] theorem ty_51:ty 51=some ti51:=by kernel_rfl
@[go_sem] theorem ty_52:ty 52=some ti52:=by kernel_rfl
@[go_sem] theorem ty_57:ty 57=some ti57:=by kernel_rfl
@[go_sem] theorem ty_58:ty 58=some ti58:=by kernel_rfl
@[go_sem] theorem ty_59:ty 59=some ti59:=by kernel_rfl
@[go_sem] theorem ty_62:ty 62=some ti62:=by kernel_rfl
@[go_sem] theorem ty_75:ty 75=some ti75:=by kernel_rfl
@[go_sem] theorem ty_79:ty 79=some ti79:=by kernel_rfl
@[go_sem] theorem ty_80:ty 80=some ti80:=by kernel_rfl
@[go_sem] theorem ty_81:ty 81=some ti81:=by kernel_rfl
@[go_sem] theorem ty_82:ty 82=some ti82:=by kernel_rfl
@[go_sem] theorem ty_83:ty 83=some ti83:=by kernel_rfl
@[go_sem] theorem ty_84:ty 84=some ti84:=by kernel_rfl
@[go_sem] theorem ty_85:ty 85=some ti85:=by kernel_rfl
@[go_sem] theorem ty_86:ty 86=some ti86:=by kernel_rfl
@[go_sem] theorem ty_87:ty 87=some ti87:=by kernel_rfl
@[go_sem] theorem ty_88:ty 88=some ti88:=by kernel_rfl
@[go_sem] theorem ty_95:ty 95=some ti95:=by kernel_rfl
@[go_sem] theorem ty_96:ty 96=some ti96:=by kernel_rfl
@[go_sem] theorem ty_97:ty 97=some ti97:=by kernel_rfl
@[go_sem] theorem ty_98:ty 98=some ti98:=by kernel_rfl
@[go_sem] theorem ty_99:ty 99=some ti99:=by kernel_rfl
@[go_sem] theorem ty_104:ty 104=some ti104:=by kernel_rfl
@[go_sem] theorem ty_107:ty 107=some ti107:=by kernel_rfl
@[go_sem] theorem ty_108:ty 108=some ti108:=by kernel_rfl
@[go_sem] theorem ty_109:ty 109=some ti109:=by kernel_rfl
@[go_sem] theorem ty_119:ty 119=some ti119:=by kernel_rfl
@[go_sem] theorem ty_120:ty 120=some ti120:=by kernel_rfl
@[go_sem] theorem ty_126:ty 126=some ti126:=by kernel_rfl
@[go_sem] theorem ty_127:ty 127=some ti127:=by kernel_rfl
@[go_sem] theorem ty_129:ty 129=some ti129:=by kernel_rfl
@[go_sem] theorem ty_135:ty 135=some ti135:=by kernel_rfl
@[go_sem] theorem ty_136:ty 136=some ti136:=by kernel_rfl
@[go_sem] theorem ty_137:ty 137=some ti137:=by kernel_rfl
@[go_sem] theorem ty_138:ty 138=some ti138:=by kernel_rfl
@[go_sem] theorem ty_145:ty 145=some ti145:=by kernel_rfl
@[go_sem] theorem ty_146:ty 146=some ti146:=by kernel_rfl
@[go_sem] theorem ty_149:ty 149=some ti149:=by kernel_rfl
@[go_sem] theorem ty_150:ty 150=some ti150:=by kernel_rfl
@[go_sem] theorem ty_154:ty 154=some ti154:=by kernel_rfl
@[go_sem] theorem ty_157:ty 157=some ti157:=by kernel_rfl
@[go_sem] theorem ty_160:ty 160=some ti160:=by kernel_rfl
@[go_sem] theorem ty_161:ty 161=some ti161:=by kernel_rfl
@[go_sem] theorem ty_163:ty 163=some ti163:=by kernel_rfl
@[go_sem] theorem ty_173:ty 173=some ti173:=by kernel_rfl
@[go_sem] theorem ty_174:ty 174=some ti174:=by kernel_rfl
@[go_sem] theorem ty_175:ty 175=some ti175:=by kernel_rfl
@[go_sem] theorem ty_176:ty 176=some ti176:=by kernel_rfl
@[go_sem] theorem ty_188:ty 188=some ti188:=by kernel_rfl
@[go_sem] theorem ty_189:ty 189=some ti189:=by kernel_rfl
@[go_sem] theorem ty_192:ty 192=some ti192:=by kernel_rfl
@[go_sem] theorem ty_193:ty 193=some ti193:=by kernel_rfl
@[go_sem] theorem ty_195:ty 195=some ti195:=by kernel_rfl
@[go_sem] theorem ty_196:ty 196=some ti196:=by kernel_rfl
@[go_sem] theorem ty_197:ty 197=some ti197:=by kernel_rfl
@[go_sem] theorem ty_198:ty 198=some ti198:=by kernel_rfl
@[go_sem] theorem ty_199:ty 199=some ti199:=by kernel_rfl
@[go_sem] theorem ty_209:ty 209=some ti209:=by kernel_rfl
@[go_sem] theorem ty_210:ty 210=some ti210:=by kernel_rfl
@[go_sem] theorem ty_219:ty 219=some ti219:=by kernel_rfl
@[go_sem] theorem ty_220:ty 220=some ti220:=by kernel_rfl
@[go_sem] theorem ty_231:ty 231=some ti231:=by kernel_rfl
@[go_sem] theorem ty_232:ty 232=some ti232:=by kernel_rfl
@[go_sem] theorem ty_233:ty 233=some ti233:=by kernel_rfl
@[go_sem] theorem ty_234:ty 234=some ti234:=by kernel_rfl
@[go_sem] theorem ty_243:ty 243=some ti243:=by kernel_rfl
@[go_sem] theorem ty_250:ty 250=some ti250:=by kernel_rfl
@[go_sem] theorem ty_251:ty 251=some ti251:=by kernel_rfl
@[go_sem] theorem ty_255:ty 255=some ti255:=by kernel_rfl
@[go_sem] theorem ty_256:ty 256=some ti256:=by kernel_rfl
@[go_sem] theorem ty_257:ty 257=some ti257:=by kernel_rfl
@[go_sem] theorem ty_273:ty 273=some ti273:=by kernel_rfl
@[go_sem] theorem ty_274:ty 274=some ti274:=by kernel_rfl
@[go_sem] theorem ty_275:ty 275=some ti275:=by kernel_rfl
@[go_sem] theorem ty_277:ty 277=some ti277:=by kernel_rfl
@[go_sem] theorem ty_279:ty 279=some ti279:=by kernel_rfl
@[go_sem] theorem ty_280:ty 280=some ti280:=by kernel_rfl
@[go_sem] theorem ty_281:ty 281=some ti281:=by kernel_rfl
@[go_sem] theorem ty_283:ty 283=some ti283:=by kernel_rfl
@[go_sem] theorem ty_284:ty 284=some ti284:=by kernel_rfl
@[go_sem] theorem ty_285:ty 285=some ti285:=by kernel_rfl
@[go_sem] theorem ty_286:ty 286=some ti286:=by kernel_rfl
@[go_sem] theorem ty_288:ty 288=some ti288:=by kernel_rfl
@[go_sem] theorem ty_289:ty 289=some ti289:=by kernel_rfl
@[go_sem] theorem ty_295:ty 295=some ti295:=by kernel_rfl
@[go_sem] theorem ty_297:ty 297=some ti297:=by kernel_rfl
@[go_sem] theorem ty_299:ty 299=some ti299:=by kernel_rfl
@[go_sem] theorem ty_300:ty 300=some ti300:=by kernel_rfl
@[go_sem] theorem ty_301:ty 301=some ti301:=by kernel_rfl
@[go_sem] theorem ty_313:ty 313=some ti313:=by kernel_rfl
@[go_sem] theorem ty_314:ty 314=some ti314:=by kernel_rfl
@[go_sem] theorem ty_315:ty 315=some ti315:=by kernel_rfl
@[go_sem] theorem ty_316:ty 316=some ti316:=by kernel_rfl
@[go_sem] theorem ty_317:ty 317=some ti317:=by kernel_rfl
@[go_sem] theorem ty_319:ty 319=some ti319:=by kernel_rfl
@[go_sem] theorem ty_325:ty 325=some ti325:=by kernel_rfl
@[go_sem] theorem ty_332:ty 332=some ti332:=by kernel_rfl
@[go_sem] theorem ty_335:ty 335=some ti335:=by kernel_rfl
@[go_sem] theorem ty_338:ty 338=some ti338:=by kernel_rfl
@[go_sem] theorem ty_341:ty 341=some ti341:=by kernel_rfl
@[go_sem] theorem ty_352:ty 352=some ti352:=by kernel_rfl
@[go_sem] theorem ty_354:ty 354=some ti354:=by kernel_rfl
@[go_sem] theorem ty_356:ty 356=some ti356:=by kernel_rfl
@[go_sem] theorem ty_357:ty 357=some ti357:=by kernel_rfl
@[go_sem] theorem ty_359:ty 359=some ti359:=by kernel_rfl
@[go_sem] theorem ty_371:ty 371=some ti371:=by kernel_rfl
@[go_sem] theorem ty_372:ty 372=some ti372:=by kernel_rfl
@[go_sem] theorem ty_376:ty 376=some ti376:=by kernel_rfl
@[go_sem] theorem ty_377:ty 377=some ti377:=by kernel_rfl
@[go_sem] theorem ty_385:ty 385=some ti385:=by kernel_rfl
@[go_sem] theorem ty_386:ty 386=some ti386:=by kernel_rfl
attribute [go_sem] ti3 ti4 ti9 ti20 ti22 ti23 ti24 ti25 ti26 ti27 ti28 ti29 ti30 ti31 ti32 ti33 ti34 ti37 ti50 ti51 ti52 ti57 ti58 ti59 ti62 ti75 ti79 ti80 ti81 ti82 ti83 ti84 ti85 ti86 ti87 ti88 ti95 ti96 ti97 ti98 ti99 ti104 ti107 ti108 ti109 ti119 ti120 ti126 ti127 ti129 ti135 ti136 ti137 ti138 ti145 ti146 ti149 ti150 ti154 ti157 ti160 ti161 ti163 ti173 ti174 ti175 ti176 ti188 ti189 ti192 ti193 ti195 ti196 ti197 ti198 ti199 ti209 ti210 ti219 ti220 ti231 ti232 ti233 ti234 ti243 ti250 ti251 ti255 ti256 ti257 ti273 ti274 ti275 ti277 ti279 ti280 ti281 ti283 ti284 ti285 ti286 ti288 ti289 ti295 ti297 ti299 ti300 ti301 ti313 ti314 ti315 ti316 ti317 ti319 ti325 ti332 ti335 ti338 ti341 ti352 ti354 ti356 ti357 ti359 ti371 ti372 ti376 ti377 ti385 ti386
def zv (i:TI):Value:=if i.agg=true then .agg i.zero.toArray else i.zero.headD .nilFunc
theorem fact {t:Nat} {i:TI} (he:∀ n,i.eqn=some n→EqOk Tryz.prog t n:=by (intro n hn; cases hn; done)) (h1:(Tryz.prog.info? t).map (fun i=>(i.size,i.bytes,i.zero))=some (i.size,i.bytes,some (zv i)):=by kernel_rfl) (h2:Tryz.prog.underlying t=some i.desc:=by kernel_rfl) (hz:(zv i).cells.toList=i.zero:=by rfl)
 (ha:i.agg=(match i.desc with | .struct _ | .array _ _=>true | _=>false):=by rfl) (ho:i.agg=false→i.size=1:=by first | (intro _; rfl) | (intro h; cases h)) (hl:i.zero.length=i.size:=by rfl):TyFact Tryz.prog t i:=by
 have key:∃ info,Tryz.prog.info? t=some info∧info.size=i.size∧info.bytes=i.bytes∧info.zero=some (zv i):=by
  cases hi:Tryz.prog.info? t with
  | none=>rw [hi] at h1; cases h1
  | some info=>
   rw [hi] at h1
   simp only [Option.map_some,Option.some.injEq,Prod.mk.injEq] at h1
   exact ⟨info,rfl,h1.1,h1.2.1,h1.2.2⟩
 obtain ⟨info,k1,k2,k3,k4⟩:=key
 exact ⟨⟨info,zv i,k1,k2,k3,k4,hz⟩,h2,ha,ho,hl,he,fun h=>⟨info,k1,by rw [k4]; simp [zv,h]⟩⟩
theorem eq51:EqOk Tryz.prog 51 [true,true] where
 guard:=by kernel_rfl
 run:=by
  intro xs ys w h1 h2
  obtain ⟨a0,xs0,rfl,h1_0⟩:=kindsI h1
  obtain ⟨b0,ys0,rfl,h2_0⟩:=kindsI h2
  obtain ⟨a1,xs1,rfl,h1_1⟩:=kindsI h1_0
  obtain ⟨b1,ys1,rfl,h2_1⟩:=kindsI h2_0
  obtain rfl:=kindsN h1_1
  obtain rfl:=kindsN h2_1
  have u3:Tryz.prog.underlying 3=some (.int .i64):=by kernel_rfl
  have u51:Tryz.prog.underlying 51=some (.struct #[⟨"Power",3,0,false,"","",0⟩,⟨"Law",3,1,false,"","",8⟩]):=by kernel_rfl
  have g51:Tryz.prog.stoodInHeld 51=false:=by kernel_rfl
  have v51:Tryz.prog.underlying 51=some (.struct (Tryz.prog.fieldsOf 51)):=by kernel_rfl
  have w51:(Tryz.prog.fieldsOf 51).toList=[⟨"Power",3,0,false,"","",0⟩,⟨"Law",3,1,false,"","",8⟩]:=by kernel_rfl
  have s51:∀ w,(sizeOf 51).run Tryz.prog w= .ok 2 w:=fun _=>by kernel_rfl
  have p3:∀ w,(isAgg 3).run Tryz.prog w= .ok false w:=fun _=>by kernel_rfl
  have p51:∀ w,(isAgg 51).run Tryz.prog w= .ok true w:=fun _=>by kernel_rfl
  have e3:∀ (d:Nat) (a b:Int) (w:World),(Op.equalIn (d+1) 3 (.int .i64 a) (.int .i64 b)).run Tryz.prog w= .ok (a == b) w:=fun d a b w=>run_equalIn_int w d 3 .i64 .i64 a b u3
  have e51:∀ (d:Nat) (xs ys:Array Value) (w:World),(Op.equalIn (d+1) 51 (.agg xs) (.agg ys)).run Tryz.prog w=(Op.eqFields d xs ys (Tryz.prog.fieldsOf 51).toList).run Tryz.prog w:=fun d xs ys w=>run_equalIn_struct w d 51 xs ys v51 g51
  simp [evs,EV.val,e3,e51,Op.eqFields,part,g51,w51,s51,p3,p51]
  try grind
theorem eq59:EqOk Tryz.prog 59 [true,true] where
 guard:=by kernel_rfl
 run:=by
  intro xs ys w h1 h2
  obtain ⟨a0,xs0,rfl,h1_0⟩:=kindsI h1
  obtain ⟨b0,ys0,rfl,h2_0⟩:=kindsI h2
  obtain ⟨a1,xs1,rfl,h1_1⟩:=kindsI h1_0
  obtain ⟨b1,ys1,rfl,h2_1⟩:=kindsI h2_0
  obtain rfl:=kindsN h1_1
  obtain rfl:=kindsN h2_1
  have u3:Tryz.prog.underlying 3=some (.int .i64):=by kernel_rfl
  have u59:Tryz.prog.underlying 59=some (.struct #[⟨"Lo",3,0,false,"","",0⟩,⟨"Hi",3,1,false,"","",8⟩]):=by kernel_rfl
  have g59:Tryz.prog.stoodInHeld 59=false:=by kernel_rfl
  have v59:Tryz.prog.underlying 59=some (.struct (Tryz.prog.fieldsOf 59)):=by kernel_rfl
  have w59:(Tryz.prog.fieldsOf 59).toList=[⟨"Lo",3,0,false,"","",0⟩,⟨"Hi",3,1,false,"","",8⟩]:=by kernel_rfl
  have s59:∀ w,(sizeOf 59).run Tryz.prog w= .ok 2 w:=fun _=>by kernel_rfl
  have p3:∀ w,(isAgg 3).run Tryz.prog w= .ok false w:=fun _=>by kernel_rfl
  have p59:∀ w,(isAgg 59).run Tryz.prog w= .ok true w:=fun _=>by kernel_rfl
  have e3:∀ (d:Nat) (a b:Int) (w:World),(Op.equalIn (d+1) 3 (.int .i64 a) (.int .i64 b)).run Tryz.prog w= .ok (a == b) w:=fun d a b w=>run_equalIn_int w d 3 .i64 .i64 a b u3
  have e59:∀ (d:Nat) (xs ys:Array Value) (w:World),(Op.equalIn (d+1) 59 (.agg xs) (.agg ys)).run Tryz.prog w=(Op.eqFields d xs ys (Tryz.prog.fieldsOf 59).toList).run Tryz.prog w:=fun d xs ys w=>run_equalIn_struct w d 59 xs ys v59 g59
  simp [evs,EV.val,e3,e59,Op.eqFields,part,g59,w59,s59,p3,p59]
  try grind
theorem tf3:TyFact Tryz.prog 3 ti3:=fact
theorem tf4:TyFact Tryz.prog 4 ti4:=fact
theorem tf9:TyFact Tryz.prog 9 ti9:=fact
theorem tf20:TyFact Tryz.prog 20 ti20:=fact
theorem tf22:TyFact Tryz.prog 22 ti22:=fact
theorem tf23:TyFact Tryz.prog 23 ti23:=fact
theorem tf24:TyFact Tryz.prog 24 ti24:=fact
theorem tf25:TyFact Tryz.prog 25 ti25:=fact
theorem tf26:TyFact Tryz.prog 26 ti26:=fact
theorem tf27:TyFact Tryz.prog 27 ti27:=fact
theorem tf28:TyFact Tryz.prog 28 ti28:=fact
theorem tf29:TyFact Tryz.prog 29 ti29:=fact
theorem tf30:TyFact Tryz.prog 30 ti30:=fact
theorem tf31:TyFact Tryz.prog 31 ti31:=fact
theorem tf32:TyFact Tryz.prog 32 ti32:=fact
theorem tf33:TyFact Tryz.prog 33 ti33:=fact
theorem tf34:TyFact Tryz.prog 34 ti34:=fact
theorem tf37:TyFact Tryz.prog 37 ti37:=fact
theorem tf50:TyFact Tryz.prog 50 ti50:=fact
theorem tf51:TyFact Tryz.prog 51 ti51:=fact (fun n hn=>by obtain rfl:=Option.some.inj hn; exact eq51)
theorem tf52:TyFact Tryz.prog 52 ti52:=fact
theorem tf57:TyFact Tryz.prog 57 ti57:=fact
theorem tf58:TyFact Tryz.prog 58 ti58:=fact
theorem tf59:TyFact Tryz.prog 59 ti59:=fact (fun n hn=>by obtain rfl:=Option.some.inj hn; exact eq59)
theorem tf62:TyFact Tryz.prog 62 ti62:=fact
theorem tf75:TyFact Tryz.prog 75 ti75:=fact
theorem tf79:TyFact Tryz.prog 79 ti79:=fact
theorem tf80:TyFact Tryz.prog 80 ti80:=fact
theorem tf81:TyFact Tryz.prog 81 ti81:=fact
theorem tf82:TyFact Tryz.prog 82 ti82:=fact
theorem tf83:TyFact Tryz.prog 83 ti83:=fact
theorem tf84:TyFact Tryz.prog 84 ti84:=fact
theorem tf85:TyFact Tryz.prog 85 ti85:=fact
theorem tf86:TyFact Tryz.prog 86 ti86:=fact
theorem tf87:TyFact Tryz.prog 87 ti87:=fact
theorem tf88:TyFact Tryz.prog 88 ti88:=fact
theorem tf95:TyFact Tryz.prog 95 ti95:=fact
theorem tf96:TyFact Tryz.prog 96 ti96:=fact
theorem tf97:TyFact Tryz.prog 97 ti97:=fact
theorem tf98:TyFact Tryz.prog 98 ti98:=fact
theorem tf99:TyFact Tryz.prog 99 ti99:=fact
theorem tf104:TyFact Tryz.prog 104 ti104:=fact
theorem tf107:TyFact Tryz.prog 107 ti107:=fact
theorem tf108:TyFact Tryz.prog 108 ti108:=fact
theorem tf109:TyFact Tryz.prog 109 ti109:=fact
theorem tf119:TyFact Tryz.prog 119 ti119:=fact
theorem tf120:TyFact Tryz.prog 120 ti120:=fact
theorem tf126:TyFact Tryz.prog 126 ti126:=fact
theorem tf127:TyFact Tryz.prog 127 ti127:=fact
theorem tf129:TyFact Tryz.prog 129 ti129:=fact
theorem tf135:TyFact Tryz.prog 135 ti135:=fact
theorem tf136:TyFact Tryz.prog 136 ti136:=fact
theorem tf137:TyFact Tryz.prog 137 ti137:=fact
theorem tf138:TyFact Tryz.prog 138 ti138:=fact
theorem tf145:TyFact Tryz.prog 145 ti145:=fact
theorem tf146:TyFact Tryz.prog 146 ti146:=fact
theorem tf149:TyFact Tryz.prog 149 ti149:=fact
theorem tf150:TyFact Tryz.prog 150 ti150:=fact
theorem tf154:TyFact Tryz.prog 154 ti154:=fact
theorem tf157:TyFact Tryz.prog 157 ti157:=fact
theorem tf160:TyFact Tryz.prog 160 ti160:=fact
theorem tf161:TyFact Tryz.prog 161 ti161:=fact
theorem tf163:TyFact Tryz.prog 163 ti163:=fact
theorem tf173:TyFact Tryz.prog 173 ti173:=fact
theorem tf174:TyFact Tryz.prog 174 ti174:=fact
theorem tf175:TyFact Tryz.prog 175 ti175:=fact
theorem tf176:TyFact Tryz.prog 176 ti176:=fact
theorem tf188:TyFact Tryz.prog 188 ti188:=fact
theorem tf189:TyFact Tryz.prog 189 ti189:=fact
theorem tf192:TyFact Tryz.prog 192 ti192:=fact
theorem tf193:TyFact Tryz.prog 193 ti193:=fact
theorem tf195:TyFact Tryz.prog 195 ti195:=fact
theorem tf196:TyFact Tryz.prog 196 ti196:=fact
theorem tf197:TyFact Tryz.prog 197 ti197:=fact
theorem tf198:TyFact Tryz.prog 198 ti198:=fact
theorem tf199:TyFact Tryz.prog 199 ti199:=fact
theorem tf209:TyFact Tryz.prog 209 ti209:=fact
theorem tf210:TyFact Tryz.prog 210 ti210:=fact
theorem tf219:TyFact Tryz.prog 219 ti219:=fact
theorem tf220:TyFact Tryz.prog 220 ti220:=fact
theorem tf231:TyFact Tryz.prog 231 ti231:=fact
theorem tf232:TyFact Tryz.prog 232 ti232:=fact
theorem tf233:TyFact Tryz.prog 233 ti233:=fact
theorem tf234:TyFact Tryz.prog 234 ti234:=fact
theorem tf243:TyFact Tryz.prog 243 ti243:=fact
theorem tf250:TyFact Tryz.prog 250 ti250:=fact
theorem tf251:TyFact Tryz.prog 251 ti251:=fact
theorem tf255:TyFact Tryz.prog 255 ti255:=fact
theorem tf256:TyFact Tryz.prog 256 ti256:=fact
theorem tf257:TyFact Tryz.prog 257 ti257:=fact
theorem tf273:TyFact Tryz.prog 273 ti273:=fact
theorem tf274:TyFact Tryz.prog 274 ti274:=fact
theorem tf275:TyFact Tryz.prog 275 ti275:=fact
theorem tf277:TyFact Tryz.prog 277 ti277:=fact
theorem tf279:TyFact Tryz.prog 279 ti279:=fact
theorem tf280:TyFact Tryz.prog 280 ti280:=fact
theorem tf281:TyFact Tryz.prog 281 ti281:=fact
theorem tf283:TyFact Tryz.prog 283 ti283:=fact
theorem tf284:TyFact Tryz.prog 284 ti284:=fact
theorem tf285:TyFact Tryz.prog 285 ti285:=fact
theorem tf286:TyFact Tryz.prog 286 ti286:=fact
theorem tf288:TyFact Tryz.prog 288 ti288:=fact
theorem tf289:TyFact Tryz.prog 289 ti289:=fact
theorem tf295:TyFact Tryz.prog 295 ti295:=fact
theorem tf297:TyFact Tryz.prog 297 ti297:=fact
theorem tf299:TyFact Tryz.prog 299 ti299:=fact
theorem tf300:TyFact Tryz.prog 300 ti300:=fact
theorem tf301:TyFact Tryz.prog 301 ti301:=fact
theorem tf313:TyFact Tryz.prog 313 ti313:=fact
theorem tf314:TyFact Tryz.prog 314 ti314:=fact
theorem tf315:TyFact Tryz.prog 315 ti315:=fact
theorem tf316:TyFact Tryz.prog 316 ti316:=fact
theorem tf317:TyFact Tryz.prog 317 ti317:=fact
theorem tf319:TyFact Tryz.prog 319 ti319:=fact
theorem tf325:TyFact Tryz.prog 325 ti325:=fact
theorem tf332:TyFact Tryz.prog 332 ti332:=fact
theorem tf335:TyFact Tryz.prog 335 ti335:=fact
theorem tf338:TyFact Tryz.prog 338 ti338:=fact
theorem tf341:TyFact Tryz.prog 341 ti341:=fact
theorem tf352:TyFact Tryz.prog 352 ti352:=fact
theorem tf354:TyFact Tryz.prog 354 ti354:=fact
theorem tf356:TyFact Tryz.prog 356 ti356:=fact
theorem tf357:TyFact Tryz.prog 357 ti357:=fact
theorem tf359:TyFact Tryz.prog 359 ti359:=fact
theorem tf371:TyFact Tryz.prog 371 ti371:=fact
theorem tf372:TyFact Tryz.prog 372 ti372:=fact
theorem tf376:TyFact Tryz.prog 376 ti376:=fact
theorem tf377:TyFact Tryz.prog 377 ti377:=fact
theorem tf385:TyFact Tryz.prog 385 ti385:=fact
theorem tf386:TyFact Tryz.prog 386 ti386:=fact
def Facts:List (Nat×TI)→Prop
 | []=>True
 | p::r=>TyFact Tryz.prog p.1 p.2∧Facts r
theorem facts_get:∀ {l:List (Nat×TI)},Facts l→∀ t i,lk l t=some i→TyFact Tryz.prog t i
 | [],_,_,_,h=>by cases h
 | (k,x)::r,h,t,i,hi=>by
  simp only [lk] at hi
  split at hi
  ·rename_i e; subst e; obtain rfl:=Option.some.inj hi; exact h.1
  ·exact facts_get h.2 t i hi
theorem ty_ok:TyOk Tryz.prog ty:=facts_get (l:=tyl) ⟨tf3,tf4,tf9,tf20,tf22,tf23,tf24,tf25,tf26,tf27,tf28,tf29,tf30,tf31,tf32,tf33,tf34,tf37,tf50,tf51,tf52,tf57,tf58,tf59,tf62,tf75,tf79,tf80,tf81,tf82,tf83,tf84,tf85,tf86,tf87,tf88,tf95,tf96,tf97,tf98,tf99,tf104,tf107,tf108,tf109,tf119,tf120,tf126,tf127,tf129,tf135,tf136,tf137,tf138,tf145,tf146,tf149,tf150,tf154,tf157,tf160,tf161,tf163,tf173,tf174,tf175,tf176,tf188,tf189,tf192,tf193,tf195,tf196,tf197,tf198,tf199,tf209,tf210,tf219,tf220,tf231,tf232,tf233,tf234,tf243,tf250,tf251,tf255,tf256,tf257,tf273,tf274,tf275,tf277,tf279,tf280,tf281,tf283,tf284,tf285,tf286,tf288,tf289,tf295,tf297,tf299,tf300,tf301,tf313,tf314,tf315,tf316,tf317,tf319,tf325,tf332,tf335,tf338,tf341,tf352,tf354,tf356,tf357,tf359,tf371,tf372,tf376,tf377,tf385,tf386,trivial⟩
end Go.Proofs.YtofkgmldcjagmaaGreatDoor
