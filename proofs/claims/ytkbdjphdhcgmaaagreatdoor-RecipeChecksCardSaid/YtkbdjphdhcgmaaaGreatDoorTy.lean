/-
  The types of the translation, as the abstract machine uses them: a table, and that it agrees with the program's. Written by a program of ours (gen_ty.py).
-/
import Derived.Test.YtkbdjphdhcgmaaaGreatDoorProg
import Derived.Test.YtkbdjphdhcgmaaaGreatDoorAbsC
import Derived.KernelRfl
set_option linter.unusedSimpArgs false
set_option linter.unusedVariables false
namespace Go.Proofs.YtkbdjphdhcgmaaaGreatDoor
open Go.Abs
def ti3:TI:=⟨1,8,false,[.int .i64 0],.int .i64,none⟩
def ti4:TI:=⟨1,1,false,[.bool false],.bool,none⟩
def ti9:TI:=⟨1,16,false,[.string .empty],.string,none⟩
def ti20:TI:=⟨1,16,false,[.nilIface],.interface #[],none⟩
def ti22:TI:=⟨1,24,false,[.slice none 0 0],.slice 56,none⟩
def ti25:TI:=⟨1,8,false,[.int .i64 0],.int .i64,none⟩
def ti34:TI:=⟨1,24,false,[.slice none 0 0],.slice 120,none⟩
def ti35:TI:=⟨1,24,false,[.slice none 0 0],.slice 98,none⟩
def ti36:TI:=⟨4,64,true,[.int .i64 0,.int .i64 0,.slice none 0 0,.slice none 0 0],.struct #[⟨"Cells",3,0,false,"","",0⟩,⟨"Exchange",3,1,false,"","",8⟩,⟨"Table",34,2,false,"","",16⟩,⟨"Laws",35,3,false,"","",40⟩],none⟩
def ti37:TI:=⟨4,64,true,[.int .i64 0,.int .i64 0,.slice none 0 0,.slice none 0 0],.struct #[⟨"Cells",3,0,false,"","",0⟩,⟨"Exchange",3,1,false,"","",8⟩,⟨"Table",34,2,false,"","",16⟩,⟨"Laws",35,3,false,"","",40⟩],none⟩
def ti38:TI:=⟨1,24,false,[.slice none 0 0],.slice 3,none⟩
def ti39:TI:=⟨2,48,true,[.slice none 0 0,.slice none 0 0],.struct #[⟨"Lo",38,0,false,"","",0⟩,⟨"Hi",38,1,false,"","",24⟩],none⟩
def ti40:TI:=⟨2,48,true,[.slice none 0 0,.slice none 0 0],.struct #[⟨"Lo",38,0,false,"","",0⟩,⟨"Hi",38,1,false,"","",24⟩],none⟩
def ti41:TI:=⟨1,24,false,[.slice none 0 0],.slice 65,none⟩
def ti42:TI:=⟨9,152,true,[.int .i64 0,.int .i64 0,.slice none 0 0,.slice none 0 0,.slice none 0 0,.slice none 0 0,.slice none 0 0,.int .i64 0,.int .i64 0],.struct #[⟨"Setup",37,0,false,"","",0⟩,⟨"Start",40,4,false,"","",64⟩,⟨"Weights",41,6,false,"","",112⟩,⟨"Air",3,7,false,"","",136⟩,⟨"Spread",3,8,false,"","",144⟩],none⟩
def ti43:TI:=⟨9,152,true,[.int .i64 0,.int .i64 0,.slice none 0 0,.slice none 0 0,.slice none 0 0,.slice none 0 0,.slice none 0 0,.int .i64 0,.int .i64 0],.struct #[⟨"Setup",37,0,false,"","",0⟩,⟨"Start",40,4,false,"","",64⟩,⟨"Weights",41,6,false,"","",112⟩,⟨"Air",3,7,false,"","",136⟩,⟨"Spread",3,8,false,"","",144⟩],none⟩
def ti45:TI:=⟨1,24,false,[.slice none 0 0],.slice 60,none⟩
def ti55:TI:=⟨6,64,true,[.int .i64 0,.int .i64 0,.int .i64 0,.int .i64 0,.int .i64 0,.slice none 0 0],.struct #[⟨"Kind",3,0,false,"","",0⟩,⟨"Power",3,1,false,"","",8⟩,⟨"Law",3,2,false,"","",16⟩,⟨"Ticks",3,3,false,"","",24⟩,⟨"Kelvin",3,4,false,"","",32⟩,⟨"Body",22,5,false,"","",40⟩],none⟩
def ti56:TI:=⟨6,64,true,[.int .i64 0,.int .i64 0,.int .i64 0,.int .i64 0,.int .i64 0,.slice none 0 0],.struct #[⟨"Kind",3,0,false,"","",0⟩,⟨"Power",3,1,false,"","",8⟩,⟨"Law",3,2,false,"","",16⟩,⟨"Ticks",3,3,false,"","",24⟩,⟨"Kelvin",3,4,false,"","",32⟩,⟨"Body",22,5,false,"","",40⟩],none⟩
def ti58:TI:=⟨1,24,false,[.slice none 0 0],.slice 62,none⟩
def ti59:TI:=⟨2,16,true,[.int .i64 0,.int .i64 0],.struct #[⟨"Power",3,0,false,"","",0⟩,⟨"Law",3,1,false,"","",8⟩],none⟩
def ti60:TI:=⟨2,16,true,[.int .i64 0,.int .i64 0],.struct #[⟨"Power",3,0,false,"","",0⟩,⟨"Law",3,1,false,"","",8⟩],some [true,true]⟩
def ti61:TI:=⟨2,32,true,[.slice none 0 0,.int .i64 0],.struct #[⟨"Powers",38,0,false,"","",0⟩,⟨"Law",3,1,false,"","",24⟩],none⟩
def ti62:TI:=⟨2,32,true,[.slice none 0 0,.int .i64 0],.struct #[⟨"Powers",38,0,false,"","",0⟩,⟨"Law",3,1,false,"","",24⟩],none⟩
def ti63:TI:=⟨1,8,false,[.nilFunc],.func #[3,3] #[3] false,none⟩
def ti64:TI:=⟨2,16,true,[.int .i64 0,.int .i64 0],.struct #[⟨"Lo",3,0,false,"","",0⟩,⟨"Hi",3,1,false,"","",8⟩],none⟩
def ti65:TI:=⟨2,16,true,[.int .i64 0,.int .i64 0],.struct #[⟨"Lo",3,0,false,"","",0⟩,⟨"Hi",3,1,false,"","",8⟩],some [true,true]⟩
def ti66:TI:=⟨1,24,false,[.slice none 0 0],.slice 38,none⟩
def ti75:TI:=⟨1,24,false,[.slice none 0 0],.slice 177,none⟩
def ti76:TI:=⟨1,24,false,[.slice none 0 0],.slice 305,none⟩
def ti77:TI:=⟨1,24,false,[.slice none 0 0],.slice 179,none⟩
def ti78:TI:=⟨1,24,false,[.slice none 0 0],.slice 307,none⟩
def ti79:TI:=⟨4,32,true,[.int .i64 0,.int .i64 0,.int .i64 0,.int .i64 0],.array 4 3,none⟩
def ti80:TI:=⟨8,128,true,[.slice none 0 0,.slice none 0 0,.slice none 0 0,.slice none 0 0,.int .i64 0,.int .i64 0,.int .i64 0,.int .i64 0],.struct #[⟨"Heats",75,0,false,"","",0⟩,⟨"Cools",76,1,false,"","",24⟩,⟨"Colds",77,2,false,"","",48⟩,⟨"Tempers",78,3,false,"","",72⟩,⟨"Hard",79,4,false,"","",96⟩],none⟩
def ti81:TI:=⟨8,128,true,[.slice none 0 0,.slice none 0 0,.slice none 0 0,.slice none 0 0,.int .i64 0,.int .i64 0,.int .i64 0,.int .i64 0],.struct #[⟨"Heats",75,0,false,"","",0⟩,⟨"Cools",76,1,false,"","",24⟩,⟨"Colds",77,2,false,"","",48⟩,⟨"Tempers",78,3,false,"","",72⟩,⟨"Hard",79,4,false,"","",96⟩],none⟩
def ti82:TI:=⟨1,24,false,[.slice none 0 0],.slice 133,none⟩
def ti83:TI:=⟨19,312,true,[.int .i64 0,.int .i64 0,.slice none 0 0,.slice none 0 0,.slice none 0 0,.slice none 0 0,.slice none 0 0,.int .i64 0,.int .i64 0,.slice none 0 0,.slice none 0 0,.slice none 0 0,.slice none 0 0,.int .i64 0,.int .i64 0,.int .i64 0,.int .i64 0,.slice none 0 0,.int .i64 0],.struct #[⟨"Bench",43,0,false,"","",0⟩,⟨"Rules",81,9,false,"","",152⟩,⟨"Points",82,17,false,"","",280⟩,⟨"Edge",3,18,false,"","",304⟩],none⟩
def ti84:TI:=⟨19,312,true,[.int .i64 0,.int .i64 0,.slice none 0 0,.slice none 0 0,.slice none 0 0,.slice none 0 0,.slice none 0 0,.int .i64 0,.int .i64 0,.slice none 0 0,.slice none 0 0,.slice none 0 0,.slice none 0 0,.int .i64 0,.int .i64 0,.int .i64 0,.int .i64 0,.slice none 0 0,.int .i64 0],.struct #[⟨"Bench",43,0,false,"","",0⟩,⟨"Rules",81,9,false,"","",152⟩,⟨"Points",82,17,false,"","",280⟩,⟨"Edge",3,18,false,"","",304⟩],none⟩
def ti95:TI:=⟨1,8,false,[.nilFunc],.func #[3] #[4] false,none⟩
def ti97:TI:=⟨1,8,false,[.nilFunc],.func #[56] #[4] false,none⟩
def ti98:TI:=⟨1,24,false,[.slice none 0 0],.slice 122,none⟩
def ti99:TI:=⟨9,152,true,[.int .i64 0,.int .i64 0,.slice none 0 0,.slice none 0 0,.slice none 0 0,.slice none 0 0,.slice none 0 0,.int .i64 0,.int .i64 0],.struct #[⟨"RecipeBench",43,0,true,"","",0⟩],none⟩
def ti100:TI:=⟨9,152,true,[.int .i64 0,.int .i64 0,.slice none 0 0,.slice none 0 0,.slice none 0 0,.slice none 0 0,.slice none 0 0,.int .i64 0,.int .i64 0],.struct #[⟨"RecipeBench",43,0,true,"","",0⟩],none⟩
def ti105:TI:=⟨1,8,false,[.pointer none],.pointer 109,none⟩
def ti108:TI:=⟨11,200,true,[.int .i64 0,.int .i64 0,.slice none 0 0,.slice none 0 0,.slice none 0 0,.slice none 0 0,.slice none 0 0,.int .i64 0,.int .i64 0,.slice none 0 0,.slice none 0 0],.struct #[⟨"bench",100,0,true,"","martensite/recipe",0⟩,⟨"energies",38,9,false,"","martensite/recipe",152⟩,⟨"made",45,10,false,"","martensite/recipe",176⟩],none⟩
def ti109:TI:=⟨11,200,true,[.int .i64 0,.int .i64 0,.slice none 0 0,.slice none 0 0,.slice none 0 0,.slice none 0 0,.slice none 0 0,.int .i64 0,.int .i64 0,.slice none 0 0,.slice none 0 0],.struct #[⟨"bench",100,0,true,"","martensite/recipe",0⟩,⟨"energies",38,9,false,"","martensite/recipe",152⟩,⟨"made",45,10,false,"","martensite/recipe",176⟩],none⟩
def ti119:TI:=⟨2,16,true,[.int .i64 0,.int .i64 0],.struct #[⟨"Energy",3,0,false,"","",0⟩,⟨"Kelvin",3,1,false,"","",8⟩],none⟩
def ti120:TI:=⟨2,16,true,[.int .i64 0,.int .i64 0],.struct #[⟨"Energy",3,0,false,"","",0⟩,⟨"Kelvin",3,1,false,"","",8⟩],none⟩
def ti121:TI:=⟨2,16,true,[.int .i64 0,.int .i64 0],.struct #[⟨"Kelvin",3,0,false,"","",0⟩,⟨"Loss",3,1,false,"","",8⟩],none⟩
def ti122:TI:=⟨2,16,true,[.int .i64 0,.int .i64 0],.struct #[⟨"Kelvin",3,0,false,"","",0⟩,⟨"Loss",3,1,false,"","",8⟩],none⟩
def ti123:TI:=⟨28,464,true,[.int .i64 0,.int .i64 0,.slice none 0 0,.slice none 0 0,.slice none 0 0,.slice none 0 0,.slice none 0 0,.int .i64 0,.int .i64 0,.int .i64 0,.int .i64 0,.slice none 0 0,.slice none 0 0,.slice none 0 0,.slice none 0 0,.slice none 0 0,.int .i64 0,.int .i64 0,.slice none 0 0,.slice none 0 0,.slice none 0 0,.slice none 0 0,.int .i64 0,.int .i64 0,.int .i64 0,.int .i64 0,.slice none 0 0,.int .i64 0],.struct #[⟨"bench",100,0,true,"","martensite/recipe",0⟩,⟨"RecipeOrder",84,9,true,"","",152⟩],none⟩
def ti124:TI:=⟨28,464,true,[.int .i64 0,.int .i64 0,.slice none 0 0,.slice none 0 0,.slice none 0 0,.slice none 0 0,.slice none 0 0,.int .i64 0,.int .i64 0,.int .i64 0,.int .i64 0,.slice none 0 0,.slice none 0 0,.slice none 0 0,.slice none 0 0,.slice none 0 0,.int .i64 0,.int .i64 0,.slice none 0 0,.slice none 0 0,.slice none 0 0,.slice none 0 0,.int .i64 0,.int .i64 0,.int .i64 0,.int .i64 0,.slice none 0 0,.int .i64 0],.struct #[⟨"bench",100,0,true,"","martensite/recipe",0⟩,⟨"RecipeOrder",84,9,true,"","",152⟩],none⟩
def ti128:TI:=⟨1,24,false,[.slice none 0 0],.slice 41,none⟩
def ti132:TI:=⟨3,24,true,[.int .i64 0,.int .i64 0,.int .i64 0],.struct #[⟨"Cell",3,0,false,"","",0⟩,⟨"Hard",65,1,false,"","",8⟩],none⟩
def ti133:TI:=⟨3,24,true,[.int .i64 0,.int .i64 0,.int .i64 0],.struct #[⟨"Cell",3,0,false,"","",0⟩,⟨"Hard",65,1,false,"","",8⟩],none⟩
def ti136:TI:=⟨1,16,true,[.string .empty],.struct #[⟨"rest",9,0,false,"","martensite/recipe",0⟩],none⟩
def ti137:TI:=⟨1,16,true,[.string .empty],.struct #[⟨"rest",9,0,false,"","martensite/recipe",0⟩],none⟩
def ti140:TI:=⟨1,24,false,[.slice none 0 0],.slice 9,none⟩
def ti145:TI:=⟨1,24,false,[.slice none 0 0],.slice 25,none⟩
def ti157:TI:=⟨1,24,false,[.slice none 0 0],.slice 263,none⟩
def ti158:TI:=⟨1,24,false,[.slice none 0 0],.slice 157,none⟩
def ti159:TI:=⟨6,112,true,[.int .i64 0,.int .i64 0,.slice none 0 0,.slice none 0 0,.slice none 0 0,.slice none 0 0],.struct #[⟨"HeatSetup",37,0,true,"","",0⟩,⟨"table",157,4,false,"","martensite/heat",64⟩,⟨"laws",158,5,false,"","martensite/heat",88⟩],none⟩
def ti160:TI:=⟨6,112,true,[.int .i64 0,.int .i64 0,.slice none 0 0,.slice none 0 0,.slice none 0 0,.slice none 0 0],.struct #[⟨"HeatSetup",37,0,true,"","",0⟩,⟨"table",157,4,false,"","martensite/heat",64⟩,⟨"laws",158,5,false,"","martensite/heat",88⟩],none⟩
def ti169:TI:=⟨14,112,true,[.int .i64 0,.int .i64 0,.int .i64 0,.int .i64 0,.int .i64 0,.int .i64 0,.int .i64 0,.int .i64 0,.int .i64 0,.int .i64 0,.int .i64 0,.int .i64 0,.int .i64 0,.int .i64 0],.struct #[⟨"Parent",65,0,false,"","",0⟩,⟨"Austenite",65,2,false,"","",16⟩,⟨"Bainite",65,4,false,"","",32⟩,⟨"Martensite",65,6,false,"","",48⟩,⟨"Wait",65,8,false,"","",64⟩,⟨"Grain",65,10,false,"","",80⟩,⟨"Temper",65,12,false,"","",96⟩],none⟩
def ti170:TI:=⟨14,112,true,[.int .i64 0,.int .i64 0,.int .i64 0,.int .i64 0,.int .i64 0,.int .i64 0,.int .i64 0,.int .i64 0,.int .i64 0,.int .i64 0,.int .i64 0,.int .i64 0,.int .i64 0,.int .i64 0],.struct #[⟨"Parent",65,0,false,"","",0⟩,⟨"Austenite",65,2,false,"","",16⟩,⟨"Bainite",65,4,false,"","",32⟩,⟨"Martensite",65,6,false,"","",48⟩,⟨"Wait",65,8,false,"","",64⟩,⟨"Grain",65,10,false,"","",80⟩,⟨"Temper",65,12,false,"","",96⟩],none⟩
def ti173:TI:=⟨7,56,true,[.int .i64 0,.int .i64 0,.int .i64 0,.int .i64 0,.int .i64 0,.int .i64 0,.int .i64 0],.struct #[⟨"Parent",3,0,false,"","",0⟩,⟨"Austenite",3,1,false,"","",8⟩,⟨"Bainite",3,2,false,"","",16⟩,⟨"Martensite",3,3,false,"","",24⟩,⟨"Wait",3,4,false,"","",32⟩,⟨"Grain",3,5,false,"","",40⟩,⟨"Temper",3,6,false,"","",48⟩],none⟩
def ti174:TI:=⟨7,56,true,[.int .i64 0,.int .i64 0,.int .i64 0,.int .i64 0,.int .i64 0,.int .i64 0,.int .i64 0],.struct #[⟨"Parent",3,0,false,"","",0⟩,⟨"Austenite",3,1,false,"","",8⟩,⟨"Bainite",3,2,false,"","",16⟩,⟨"Martensite",3,3,false,"","",24⟩,⟨"Wait",3,4,false,"","",32⟩,⟨"Grain",3,5,false,"","",40⟩,⟨"Temper",3,6,false,"","",48⟩],none⟩
def ti176:TI:=⟨4,32,true,[.int .i64 0,.int .i64 0,.int .i64 0,.int .i64 0],.struct #[⟨"Kelvin",3,0,false,"","",0⟩,⟨"Rate",65,1,false,"","",8⟩,⟨"Growth",3,3,false,"","",24⟩],none⟩
def ti177:TI:=⟨4,32,true,[.int .i64 0,.int .i64 0,.int .i64 0,.int .i64 0],.struct #[⟨"Kelvin",3,0,false,"","",0⟩,⟨"Rate",65,1,false,"","",8⟩,⟨"Growth",3,3,false,"","",24⟩],none⟩
def ti178:TI:=⟨3,24,true,[.int .i64 0,.int .i64 0,.int .i64 0],.struct #[⟨"Kelvin",3,0,false,"","",0⟩,⟨"Share",65,1,false,"","",8⟩],none⟩
def ti179:TI:=⟨3,24,true,[.int .i64 0,.int .i64 0,.int .i64 0],.struct #[⟨"Kelvin",3,0,false,"","",0⟩,⟨"Share",65,1,false,"","",8⟩],none⟩
def ti181:TI:=⟨1,8,false,[.nilFunc],.func #[65] #[3] false,none⟩
def ti184:TI:=⟨1,8,false,[.pointer none],.pointer 137,none⟩
def ti193:TI:=⟨1,16,false,[.nilIface],.interface #[("Error",197)],none⟩
def ti194:TI:=⟨1,16,false,[.nilIface],.interface #[("Error",197)],none⟩
def ti198:TI:=⟨1,24,false,[.slice none 0 0],.slice 202,none⟩
def ti200:TI:=⟨1,8,false,[.nilFunc],.func #[56] #[3] false,none⟩
def ti201:TI:=⟨3,24,true,[.nilFunc,.int .i64 0,.int .i64 0],.struct #[⟨"value",200,0,false,"","martensite/recipe",0⟩,⟨"lo",3,1,false,"","martensite/recipe",8⟩,⟨"hi",3,2,false,"","martensite/recipe",16⟩],none⟩
def ti202:TI:=⟨3,24,true,[.nilFunc,.int .i64 0,.int .i64 0],.struct #[⟨"value",200,0,false,"","martensite/recipe",0⟩,⟨"lo",3,1,false,"","martensite/recipe",8⟩,⟨"hi",3,2,false,"","martensite/recipe",16⟩],none⟩
def ti203:TI:=⟨4,4,true,[.bool false,.bool false,.bool false,.bool false],.struct #[⟨"power",4,0,false,"","martensite/martensiteref05",0⟩,⟨"law",4,1,false,"","martensite/martensiteref05",1⟩,⟨"kelvin",4,2,false,"","martensite/martensiteref05",2⟩,⟨"body",4,3,false,"","martensite/martensiteref05",3⟩],none⟩
def ti204:TI:=⟨4,4,true,[.bool false,.bool false,.bool false,.bool false],.struct #[⟨"power",4,0,false,"","martensite/martensiteref05",0⟩,⟨"law",4,1,false,"","martensite/martensiteref05",1⟩,⟨"kelvin",4,2,false,"","martensite/martensiteref05",2⟩,⟨"body",4,3,false,"","martensite/martensiteref05",3⟩],none⟩
def ti219:TI:=⟨1,24,false,[.slice none 0 0],.slice 40,none⟩
def ti222:TI:=⟨1,24,false,[.slice none 0 0],.slice 277,none⟩
def ti230:TI:=⟨8,128,true,[.slice none 0 0,.slice none 0 0,.slice none 0 0,.slice none 0 0,.int .i64 0,.int .i64 0,.int .i64 0,.int .i64 0],.struct #[⟨"SteelRules",81,0,true,"","",0⟩],none⟩
def ti231:TI:=⟨8,128,true,[.slice none 0 0,.slice none 0 0,.slice none 0 0,.slice none 0 0,.int .i64 0,.int .i64 0,.int .i64 0,.int .i64 0],.struct #[⟨"SteelRules",81,0,true,"","",0⟩],none⟩
def ti234:TI:=⟨2,16,true,[.int .i64 0,.int .i64 0],.struct #[⟨"Num",3,0,false,"","",0⟩,⟨"Den",3,1,false,"","",8⟩],none⟩
def ti235:TI:=⟨2,16,true,[.int .i64 0,.int .i64 0],.struct #[⟨"Num",3,0,false,"","",0⟩,⟨"Den",3,1,false,"","",8⟩],none⟩
def ti239:TI:=⟨1,8,false,[.pointer none],.pointer 3,none⟩
def ti240:TI:=⟨1,24,false,[.slice none 0 0],.slice 239,none⟩
def ti241:TI:=⟨1,8,false,[.map none],.map 3 240,none⟩
def ti258:TI:=⟨2,16,true,[.int .i64 0,.int .i64 0],.struct #[⟨"num",3,0,false,"","martensite/heat",0⟩,⟨"den",3,1,false,"","martensite/heat",8⟩],none⟩
def ti259:TI:=⟨2,16,true,[.int .i64 0,.int .i64 0],.struct #[⟨"num",3,0,false,"","martensite/heat",0⟩,⟨"den",3,1,false,"","martensite/heat",8⟩],none⟩
def ti262:TI:=⟨2,16,true,[.int .i64 0,.int .i64 0],.struct #[⟨"x",3,0,false,"","martensite/heat",0⟩,⟨"y",3,1,false,"","martensite/heat",8⟩],none⟩
def ti263:TI:=⟨2,16,true,[.int .i64 0,.int .i64 0],.struct #[⟨"x",3,0,false,"","martensite/heat",0⟩,⟨"y",3,1,false,"","martensite/heat",8⟩],none⟩
def ti264:TI:=⟨1,24,false,[.slice none 0 0],.slice 270,none⟩
def ti265:TI:=⟨4,96,true,[.slice none 0 0,.slice none 0 0,.slice none 0 0,.slice none 0 0],.array 4 264,none⟩
def ti267:TI:=⟨1,8,false,[.pointer none],.pointer 270,none⟩
def ti269:TI:=⟨3,40,true,[.int .i64 0,.slice none 0 0,.int .i64 0],.struct #[⟨"kelvin",3,0,false,"","martensite/steel",0⟩,⟨"ranges",41,1,false,"","martensite/steel",8⟩,⟨"other",3,2,false,"","martensite/steel",32⟩],none⟩
def ti270:TI:=⟨3,40,true,[.int .i64 0,.slice none 0 0,.int .i64 0],.struct #[⟨"kelvin",3,0,false,"","martensite/steel",0⟩,⟨"ranges",41,1,false,"","martensite/steel",8⟩,⟨"other",3,2,false,"","martensite/steel",32⟩],none⟩
def ti271:TI:=⟨1,24,false,[.slice none 0 0],.slice 264,none⟩
def ti276:TI:=⟨3,40,true,[.slice none 0 0,.int .i64 0,.int .i64 0],.struct #[⟨"Powers",41,0,false,"","",0⟩,⟨"Laws",65,1,false,"","",24⟩],none⟩
def ti277:TI:=⟨3,40,true,[.slice none 0 0,.int .i64 0,.int .i64 0],.struct #[⟨"Powers",41,0,false,"","",0⟩,⟨"Laws",65,1,false,"","",24⟩],none⟩
def ti278:TI:=⟨1,8,false,[.nilFunc],.func #[3] #[65] false,none⟩
def ti279:TI:=⟨7,56,true,[.int .i64 0,.int .i64 0,.int .i64 0,.int .i64 0,.int .i64 0,.int .i64 0,.int .i64 0],.array 7 3,none⟩
def ti280:TI:=⟨1,8,false,[.pointer none],.pointer 65,none⟩
def ti281:TI:=⟨7,56,true,[.pointer none,.pointer none,.pointer none,.pointer none,.pointer none,.pointer none,.pointer none],.array 7 280,none⟩
def ti283:TI:=⟨1,8,false,[.pointer none],.pointer 170,none⟩
def ti284:TI:=⟨8,64,true,[.int .i64 0,.int .i64 0,.int .i64 0,.int .i64 0,.int .i64 0,.int .i64 0,.int .i64 0,.int .i64 0],.array 4 65,none⟩
def ti290:TI:=⟨6,96,true,[.string .empty,.string .empty,.string .empty,.string .empty,.string .empty,.string .empty],.array 6 9,none⟩
def ti303:TI:=⟨1,8,false,[.nilFunc],.func #[263,259] #[3] false,none⟩
def ti304:TI:=⟨5,40,true,[.int .i64 0,.int .i64 0,.int .i64 0,.int .i64 0,.int .i64 0],.struct #[⟨"Kelvin",3,0,false,"","",0⟩,⟨"Wait",65,1,false,"","",8⟩,⟨"Rate",65,3,false,"","",24⟩],none⟩
def ti305:TI:=⟨5,40,true,[.int .i64 0,.int .i64 0,.int .i64 0,.int .i64 0,.int .i64 0],.struct #[⟨"Kelvin",3,0,false,"","",0⟩,⟨"Wait",65,1,false,"","",8⟩,⟨"Rate",65,3,false,"","",24⟩],none⟩
def ti306:TI:=⟨2,16,true,[.int .i64 0,.int .i64 0],.struct #[⟨"Kelvin",3,0,false,"","",0⟩,⟨"Rate",3,1,false,"","",8⟩],none⟩
def ti307:TI:=⟨2,16,true,[.int .i64 0,.int .i64 0],.struct #[⟨"Kelvin",3,0,false,"","",0⟩,⟨"Rate",3,1,false,"","",8⟩],none⟩
def ti309:TI:=⟨1,8,false,[.nilFunc],.func #[65] #[4] false,none⟩
def ti318:TI:=⟨1,8,false,[.nilFunc],.func #[3] #[3] false,none⟩
def ti323:TI:=⟨1,8,false,[.int .u64 0],.int .u64,none⟩
def ti329:TI:=⟨1,8,false,[.pointer none],.pointer 177,none⟩
def ti332:TI:=⟨1,8,false,[.pointer none],.pointer 305,none⟩
def ti335:TI:=⟨1,8,false,[.pointer none],.pointer 179,none⟩
def ti338:TI:=⟨1,8,false,[.pointer none],.pointer 307,none⟩
def ti349:TI:=⟨1,8,false,[.nilFunc],.func #[177] #[4] false,none⟩
def ti351:TI:=⟨1,8,false,[.nilFunc],.func #[305] #[4] false,none⟩
def ti353:TI:=⟨1,8,false,[.nilFunc],.func #[179] #[4] false,none⟩
def ti354:TI:=⟨1,8,false,[.nilFunc],.func #[3,3,3] #[3] false,none⟩
def ti356:TI:=⟨1,8,false,[.nilFunc],.func #[307] #[4] false,none⟩
def ti368:TI:=⟨1,8,false,[.nilFunc],.func #[382] #[] false,none⟩
def ti369:TI:=⟨1,8,false,[.nilFunc],.func #[382] #[] false,none⟩
def ti373:TI:=⟨1,8,false,[.nilFunc],.func #[383] #[] false,none⟩
def ti374:TI:=⟨1,8,false,[.nilFunc],.func #[383] #[] false,none⟩
def ti382:TI:=⟨1,8,false,[.nilFunc],.func #[3,177] #[4] false,none⟩
def ti383:TI:=⟨1,8,false,[.nilFunc],.func #[3,307] #[4] false,none⟩
def tyl:List (Nat×TI):=[(3,ti3),(4,ti4),(9,ti9),(20,ti20),(22,ti22),(25,ti25),(34,ti34),(35,ti35),(36,ti36),(37,ti37),(38,ti38),(39,ti39),(40,ti40),(41,ti41),(42,ti42),(43,ti43),(45,ti45),(55,ti55),(56,ti56),(58,ti58),(59,ti59),(60,ti60),(61,ti61),(62,ti62),(63,ti63),(64,ti64),(65,ti65),(66,ti66),(75,ti75),(76,ti76),(77,ti77),(78,ti78),(79,ti79),(80,ti80),(81,ti81),(82,ti82),(83,ti83),(84,ti84),(95,ti95),(97,ti97),(98,ti98),(99,ti99),(100,ti100),(105,ti105),(108,ti108),(109,ti109),(119,ti119),(120,ti120),(121,ti121),(122,ti122),(123,ti123),(124,ti124),(128,ti128),(132,ti132),(133,ti133),(136,ti136),(137,ti137),(140,ti140),(145,ti145),(157,ti157),(158,ti158),(159,ti159),(160,ti160),(169,ti169),(170,ti170),(173,ti173),(174,ti174),(176,ti176),(177,ti177),(178,ti178),(179,ti179),(181,ti181),(184,ti184),(193,ti193),(194,ti194),(198,ti198),(200,ti200),(201,ti201),(202,ti202),(203,ti203),(204,ti204),(219,ti219),(222,ti222),(230,ti230),(231,ti231),(234,ti234),(235,ti235),(239,ti239),(240,ti240),(241,ti241),(258,ti258),(259,ti259),(262,ti262),(263,ti263),(264,ti264),(265,ti265),(267,ti267),(269,ti269),(270,ti270),(271,ti271),(276,ti276),(277,ti277),(278,ti278),(279,ti279),(280,ti280),(281,ti281),(283,ti283),(284,ti284),(290,ti290),(303,ti303),(304,ti304),(305,ti305),(306,ti306),(307,ti307),(309,ti309),(318,ti318),(323,ti323),(329,ti329),(332,ti332),(335,ti335),(338,ti338),(349,ti349),(351,ti351),(353,ti353),(354,ti354),(356,ti356),(368,ti368),(369,ti369),(373,ti373),(374,ti374),(382,ti382),(383,ti383)]
def ty:Tys:=fun t=>lk tyl t
@[go_sem] theorem ty_3:ty 3=some ti3:=by kernel_rfl
@[go_sem] theorem ty_4:ty 4=some ti4:=by kernel_rfl
@[go_sem] theorem ty_9:ty 9=some ti9:=by kernel_rfl
@[go_sem] theorem ty_20:ty 20=some ti20:=by kernel_rfl
@[go_sem] theorem ty_22:ty 22=some ti22:=by kernel_rfl
@[go_sem] theorem ty_25:ty 25=some ti25:=by kernel_rfl
@[go_sem] theorem ty_34:ty 34=some ti34:=by kernel_rfl
@[go_sem] theorem ty_35:ty 35=some ti35:=by kernel_rfl
@[go_sem] theorem ty_36:ty 36=some ti36:=by kernel_rfl
@[go_sem] theorem ty_37:ty 37=some ti37:=by kernel_rfl
@[go_sem] theorem ty_38:ty 38=some ti38:=by kernel_rfl
@[go_sem] theorem ty_39:ty 39=some ti39:=by kernel_rfl
@[go_sem] theorem ty_40:ty 40=some ti40:=by kernel_rfl
@[go_sem] theorem ty_41:ty 41=some ti41:=by kernel_rfl
@[go_sem] theorem ty_42:ty 42=some ti42:=by kernel_rfl
@[go_sem] theorem ty_43:ty 43=some ti43:=by kernel_rfl
@[go_sem] theorem ty_45:ty 45=some ti45:=by kernel_rfl
@[go_sem] theorem ty_55:ty 55=some ti55:=by kernel_rfl
@[go_sem] theorem ty_56:ty 56=some ti56:=by kernel_rfl
@[go_sem] theorem ty_58:ty 58=some ti58:=by kernel_rfl
@[go_sem] theorem ty_59:ty 59=some ti59:=by kernel_rfl
@[go_sem] theorem ty_60:ty 60=some ti60:=by kernel_rfl
@[go_sem] theorem ty_61:ty 61=some ti61:=by kernel_rfl
@[go_sem] theorem ty_62:ty 62=some ti62:=by kernel_rfl
@[go_sem] theorem ty_63:ty 63=some ti63:=by kernel_rfl
@[go_sem] theorem ty_64:ty 64=some ti64:=by kernel_rfl
@[go_sem] theorem ty_65:ty 65=some ti65:=by kernel_rfl
@[go_sem] theorem ty_66:ty 66=some ti66:=by kernel_rfl
@[go_sem] theorem ty_75:ty 75=some ti75:=by kernel_rfl
@[go_sem] theorem ty_76:ty 76=some ti76:=by kernel_rfl
@[go_sem] theorem ty_77:ty 77=some ti77:=by kernel_rfl
@[go_sem] theorem ty_78:ty 78=some ti78:=by kernel_rfl
@[go_sem] theorem ty_79:ty 79=some ti79:=by kernel_rfl
@[go_sem] theorem ty_80:ty 80=some ti80:=by kernel_rfl
@[go_sem] theorem ty_81:ty 81=some ti81:=by kernel_rfl
@[go_sem] theorem ty_82:ty 82=some ti82:=by kernel_rfl
@[go_sem] theorem ty_83:ty 83=some ti83:=by kernel_rfl
@[go_sem] theorem ty_84:ty 84=some ti84:=by kernel_rfl
@[go_sem] theorem ty_95:ty 95=some ti95:=by kernel_rfl
@[go_sem] theorem ty_97:ty 97=some ti97:=by kernel_rfl
@[go_sem] theorem ty_98:ty 98=some ti98:=by kernel_rfl
@[go_sem] theorem ty_99:ty 99=some ti99:=by kernel_rfl
@[go_sem] theorem ty_100:ty 100=some ti100:=by kernel_rfl
@[go_sem] theorem ty_105:ty 105=some ti105:=by kernel_rfl
@[go_sem] theorem ty_108:ty 108=some ti108:=by kernel_rfl
@[go_sem] theorem ty_109:ty 109=some ti109:=by kernel_rfl
@[go_sem] theorem ty_119:ty 119=some ti119:=by kernel_rfl
@[go_sem] theorem ty_120:ty 120=some ti120:=by kernel_rfl
@[go_sem] theorem ty_121:ty 121=some ti121:=by kernel_rfl
@[go_sem] theorem ty_122:ty 122=some ti122:=by kernel_rfl
@[go_sem] theorem ty_123:ty 123=some ti123:=by kernel_rfl
@[go_sem] theorem ty_124:ty 124=some ti124:=by kernel_rfl
@[go_sem] theorem ty_128:ty 128=some ti128:=by kernel_rfl
@[go_sem] theorem ty_132:ty 132=some ti132:=by kernel_rfl
@[go_sem] theorem ty_133:ty 133=some ti133:=by kernel_rfl
@[go_sem] theorem ty_136:ty 136=some ti136:=by kernel_rfl
@[go_sem] theorem ty_137:ty 137=some ti137:=by kernel_rfl
@[go_sem] theorem ty_140:ty 140=some ti140:=by kernel_rfl
@[go_sem] theorem ty_145:ty 145=some ti145:=by kernel_rfl
@[go_sem] theorem ty_157:ty 157=some ti157:=by kernel_rfl
@[go_sem] theorem ty_158:ty 158=some ti158:=by kernel_rfl
@[go_sem] theorem ty_159:ty 159=some ti159:=by kernel_rfl
@[go_sem] theorem ty_160:ty 160=some ti160:=by kernel_rfl
@[go_sem] theorem ty_169:ty 169=some ti169:=by kernel_rfl
@[go_sem] theorem ty_170:ty 170=some ti170:=by kernel_rfl
@[go_sem] theorem ty_173:ty 173=some ti173:=by kernel_rfl
@[go_sem] theorem ty_174:ty 174=some ti174:=by kernel_rfl
@[go_sem] theorem ty_176:ty 176=some ti176:=by kernel_rfl
@[go_sem] theorem ty_177:ty 177=some ti177:=by kernel_rfl
@[go_sem] theorem ty_178:ty 178=some ti178:=by kernel_rfl
@[go_sem] theorem ty_179:ty 179=some ti179:=by kernel_rfl
@[go_sem] theorem ty_181:ty 181=some ti181:=by kernel_rfl
@[go_sem] theorem ty_184:ty 184=some ti184:=by kernel_rfl
@[go_sem] theorem ty_193:ty 193=some ti193:=by kernel_rfl
@[go_sem] theorem ty_194:ty 194=some ti194:=by kernel_rfl
@[go_sem] theorem ty_198:ty 198=some ti198:=by kernel_rfl
@[go_sem] theorem ty_200:ty 200=some ti200:=by kernel_rfl
@[go_sem] theorem ty_201:ty 201=some ti201:=by kernel_rfl
@[go_sem] theorem ty_202:ty 202=some ti202:=by kernel_rfl
@[go_sem] theorem ty_203:ty 203=some ti203:=by kernel_rfl
@[go_sem] theorem ty_204:ty 204=some ti204:=by kernel_rfl
@[go_sem] theorem ty_219:ty 219=some ti219:=by kernel_rfl
@[go_sem] theorem ty_222:ty 222=some ti222:=by kernel_rfl
@[go_sem] theorem ty_230:ty 230=some ti230:=by kernel_rfl
@[go_sem] theorem ty_231:ty 231=some ti231:=by kernel_rfl
@[go_sem] theorem ty_234:ty 234=some ti234:=by kernel_rfl
@[go_sem] theorem ty_235:ty 235=some ti235:=by kernel_rfl
@[go_sem] theorem ty_239:ty 239=some ti239:=by kernel_rfl
@[go_sem] theorem ty_240:ty 240=some ti240:=by kernel_rfl
@[go_sem] theorem ty_241:ty 241=some ti241:=by kernel_rfl
@[go_sem] theorem ty_258:ty 258=some ti258:=by kernel_rfl
@[go_sem] theorem ty_259:ty 259=some ti259:=by kernel_rfl
@[go_sem] theorem ty_262:ty 262=some ti262:=by kernel_rfl
@[go_sem] theorem ty_263:ty 263=some ti263:=by kernel_rfl
@[go_sem] theorem ty_264:ty 264=some ti264:=by kernel_rfl
@[go_sem] theorem ty_265:ty 265=some ti265:=by kernel_rfl
@[go_sem] theorem ty_267:ty 267=some ti267:=by kernel_rfl
@[go_sem] theorem ty_269:ty 269=some ti269:=by kernel_rfl
@[go_sem] theorem ty_270:ty 270=some ti270:=by kernel_rfl
@[go_sem] theorem ty_271:ty 271=some ti271:=by kernel_rfl
@[go_sem] theorem ty_276:ty 276=some ti276:=by kernel_rfl
@[go_sem] theorem ty_277:ty 277=some ti277:=by kernel_rfl
@[go_sem] theorem ty_278:ty 278=some ti278:=by kernel_rfl
@[go_sem] theorem ty_279:ty 279=some ti279:=by kernel_rfl
@[go_sem] theorem ty_280:ty 280=some ti280:=by kernel_rfl
@[go_sem] theorem ty_281:ty 281=some ti281:=by kernel_rfl
@[go_sem] theorem ty_283:ty 283=some ti283:=by kernel_rfl
@[go_sem] theorem ty_284:ty 284=some ti284:=by kernel_rfl
@[go_sem] theorem ty_290:ty 290=some ti290:=by kernel_rfl
@[go_sem] theorem ty_303:ty 303=some ti303:=by kernel_rfl
@[go_sem] theorem ty_304:ty 304=some ti304:=by kernel_rfl
@[go_sem] theorem ty_305:ty 305=some ti305:=by kernel_rfl
@[go_sem] theorem ty_306:ty 306=some ti306:=by kernel_rfl
@[go_sem] theorem ty_307:ty 307=some ti307:=by kernel_rfl
@[go_sem] theorem ty_309:ty 309=some ti309:=by kernel_rfl
@[go_sem] theorem ty_318:ty 318=some ti318:=by kernel_rfl
@[go_sem] theorem ty_323:ty 323=some ti323:=by kernel_rfl
@[go_sem] theorem ty_329:ty 329=some ti329:=by kernel_rfl
@[go_sem] theorem ty_332:ty 332=some ti332:=by kernel_rfl
@[go_sem] theorem ty_335:ty 335=some ti335:=by kernel_rfl
@[go_sem] theorem ty_338:ty 338=some ti338:=by kernel_rfl
@[go_sem] theorem ty_349:ty 349=some ti349:=by kernel_rfl
@[go_sem] theorem ty_351:ty 351=some ti351:=by kernel_rfl
@[go_sem] theorem ty_353:ty 353=some ti353:=by kernel_rfl
@[go_sem] theorem ty_354:ty 354=some ti354:=by kernel_rfl
@[go_sem] theorem ty_356:ty 356=some ti356:=by kernel_rfl
@[go_sem] theorem ty_368:ty 368=some ti368:=by kernel_rfl
@[go_sem] theorem ty_369:ty 369=some ti369:=by kernel_rfl
@[go_sem] theorem ty_373:ty 373=some ti373:=by kernel_rfl
@[go_sem] theorem ty_374:ty 374=some ti374:=by kernel_rfl
@[go_sem] theorem ty_382:ty 382=some ti382:=by kernel_rfl
@[go_sem] theorem ty_383:ty 383=some ti383:=by kernel_rfl
attribute [go_sem] ti3 ti4 ti9 ti20 ti22 ti25 ti34 ti35 ti36 ti37 ti38 ti39 ti40 ti41 ti42 ti43 ti45 ti55 ti56 ti58 ti59 ti60 ti61 ti62 ti63 ti64 ti65 ti66 ti75 ti76 ti77 ti78 ti79 ti80 ti81 ti82 ti83 ti84 ti95 ti97 ti98 ti99 ti100 ti105 ti108 ti109 ti119 ti120 ti121 ti122 ti123 ti124 ti128 ti132 ti133 ti136 ti137 ti140 ti145 ti157 ti158 ti159 ti160 ti169 ti170 ti173 ti174 ti176 ti177 ti178 ti179 ti181 ti184 ti193 ti194 ti198 ti200 ti201 ti202 ti203 ti204 ti219 ti222 ti230 ti231 ti234 ti235 ti239 ti240 ti241 ti258 ti259 ti262 ti263 ti264 ti265 ti267 ti269 ti270 ti271 ti276 ti277 ti278 ti279 ti280 ti281 ti283 ti284 ti290 ti303 ti304 ti305 ti306 ti307 ti309 ti318 ti323 ti329 ti332 ti335 ti338 ti349 ti351 ti353 ti354 ti356 ti368 ti369 ti373 ti374 ti382 ti383
def zv (i:TI):Value:=if i.agg=true then .agg i.zero.toArray else i.zero.headD .nilFunc
theorem fact {t:Nat} {i:TI} (he:∀ n,i.eqn=some n→EqOk Tryz.prog t n:=by (intro n hn; cases hn; done)) (h1:(Tryz.prog.info? t).map (fun i=>(i.size,i.bytes,i.zero))=some (i.size,i.bytes,some (zv i)):=by kernel_rfl) (h2:Tryz.prog.underlying t=some i.desc:=by kernel_rfl) (hz:(zv i).cells.toList=i.zero:=by rfl)
 (ha:i.agg=(match i.desc with | .struct _ | .array _ _=>true | _=>false):=by rfl) (ho:i.agg=false→i.size=1:=by first | (intro _; rfl) | (intro h; cases h)) (hl:i.zero.length=i.size:=by rfl):TyFact Tryz.prog t i:=by
 have key:∃ info,Tryz.prog.info? t=some info∧info.size=i.size∧info.bytes=i.bytes∧info.zero=some (zv i):=by
  cases hi:Tryz.prog.info? t with
  | none=>rw [hi] at h1; cases h1
  | some info=>
   rw [hi] at h1
   simp only [Option.map_some,Option.some.injEq,Prod.mk.injEq] at h1
   exact ⟨info,rfl,h1.1,h1.2.1,h1.2.2⟩
 obtain ⟨info,k1,k2,k3,k4⟩:=key
 exact ⟨⟨info,zv i,k1,k2,k3,k4,hz⟩,h2,ha,ho,hl,he,fun h=>⟨info,k1,by rw [k4]; simp [zv,h]⟩⟩
theorem eq60:EqOk Tryz.prog 60 [true,true] where
 guard:=by kernel_rfl
 run:=by
  intro xs ys w h1 h2
  obtain ⟨a0,xs0,rfl,h1_0⟩:=kindsI h1
  obtain ⟨b0,ys0,rfl,h2_0⟩:=kindsI h2
  obtain ⟨a1,xs1,rfl,h1_1⟩:=kindsI h1_0
  obtain ⟨b1,ys1,rfl,h2_1⟩:=kindsI h2_0
  obtain rfl:=kindsN h1_1
  obtain rfl:=kindsN h2_1
  have u3:Tryz.prog.underlying 3=some (.int .i64):=by kernel_rfl
  have u60:Tryz.prog.underlying 60=some (.struct #[⟨"Power",3,0,false,"","",0⟩,⟨"Law",3,1,false,"","",8⟩]):=by kernel_rfl
  have g60:Tryz.prog.stoodInHeld 60=false:=by kernel_rfl
  have v60:Tryz.prog.underlying 60=some (.struct (Tryz.prog.fieldsOf 60)):=by kernel_rfl
  have w60:(Tryz.prog.fieldsOf 60).toList=[⟨"Power",3,0,false,"","",0⟩,⟨"Law",3,1,false,"","",8⟩]:=by kernel_rfl
  have s60:∀ w,(sizeOf 60).run Tryz.prog w= .ok 2 w:=fun _=>by kernel_rfl
  have p3:∀ w,(isAgg 3).run Tryz.prog w= .ok false w:=fun _=>by kernel_rfl
  have p60:∀ w,(isAgg 60).run Tryz.prog w= .ok true w:=fun _=>by kernel_rfl
  have e3:∀ (d:Nat) (a b:Int) (w:World),(Op.equalIn (d+1) 3 (.int .i64 a) (.int .i64 b)).run Tryz.prog w= .ok (a == b) w:=fun d a b w=>run_equalIn_int w d 3 .i64 .i64 a b u3
  have e60:∀ (d:Nat) (xs ys:Array Value) (w:World),(Op.equalIn (d+1) 60 (.agg xs) (.agg ys)).run Tryz.prog w=(Op.eqFields d xs ys (Tryz.prog.fieldsOf 60).toList).run Tryz.prog w:=fun d xs ys w=>run_equalIn_struct w d 60 xs ys v60 g60
  simp [evs,EV.val,e3,e60,Op.eqFields,part,g60,w60,s60,p3,p60]
  try grind
theorem eq65:EqOk Tryz.prog 65 [true,true] where
 guard:=by kernel_rfl
 run:=by
  intro xs ys w h1 h2
  obtain ⟨a0,xs0,rfl,h1_0⟩:=kindsI h1
  obtain ⟨b0,ys0,rfl,h2_0⟩:=kindsI h2
  obtain ⟨a1,xs1,rfl,h1_1⟩:=kindsI h1_0
  obtain ⟨b1,ys1,rfl,h2_1⟩:=kindsI h2_0
  obtain rfl:=kindsN h1_1
  obtain rfl:=kindsN h2_1
  have u3:Tryz.prog.underlying 3=some (.int .i64):=by kernel_rfl
  have u65:Tryz.prog.underlying 65=some (.struct #[⟨"Lo",3,0,false,"","",0⟩,⟨"Hi",3,1,false,"","",8⟩]):=by kernel_rfl
  have g65:Tryz.prog.stoodInHeld 65=false:=by kernel_rfl
  have v65:Tryz.prog.underlying 65=some (.struct (Tryz.prog.fieldsOf 65)):=by kernel_rfl
  have w65:(Tryz.prog.fieldsOf 65).toList=[⟨"Lo",3,0,false,"","",0⟩,⟨"Hi",3,1,false,"","",8⟩]:=by kernel_rfl
  have s65:∀ w,(sizeOf 65).run Tryz.prog w= .ok 2 w:=fun _=>by kernel_rfl
  have p3:∀ w,(isAgg 3).run Tryz.prog w= .ok false w:=fun _=>by kernel_rfl
  have p65:∀ w,(isAgg 65).run Tryz.prog w= .ok true w:=fun _=>by kernel_rfl
  have e3:∀ (d:Nat) (a b:Int) (w:World),(Op.equalIn (d+1) 3 (.int .i64 a) (.int .i64 b)).run Tryz.prog w= .ok (a == b) w:=fun d a b w=>run_equalIn_int w d 3 .i64 .i64 a b u3
  have e65:∀ (d:Nat) (xs ys:Array Value) (w:World),(Op.equalIn (d+1) 65 (.agg xs) (.agg ys)).run Tryz.prog w=(Op.eqFields d xs ys (Tryz.prog.fieldsOf 65).toList).run Tryz.prog w:=fun d xs ys w=>run_equalIn_struct w d 65 xs ys v65 g65
  simp [evs,EV.val,e3,e65,Op.eqFields,part,g65,w65,s65,p3,p65]
  try grind
theorem tf3:TyFact Tryz.prog 3 ti3:=fact
theorem tf4:TyFact Tryz.prog 4 ti4:=fact
theorem tf9:TyFact Tryz.prog 9 ti9:=fact
theorem tf20:TyFact Tryz.prog 20 ti20:=fact
theorem tf22:TyFact Tryz.prog 22 ti22:=fact
theorem tf25:TyFact Tryz.prog 25 ti25:=fact
theorem tf34:TyFact Tryz.prog 34 ti34:=fact
theorem tf35:TyFact Tryz.prog 35 ti35:=fact
theorem tf36:TyFact Tryz.prog 36 ti36:=fact
theorem tf37:TyFact Tryz.prog 37 ti37:=fact
theorem tf38:TyFact Tryz.prog 38 ti38:=fact
theorem tf39:TyFact Tryz.prog 39 ti39:=fact
theorem tf40:TyFact Tryz.prog 40 ti40:=fact
theorem tf41:TyFact Tryz.prog 41 ti41:=fact
theorem tf42:TyFact Tryz.prog 42 ti42:=fact
theorem tf43:TyFact Tryz.prog 43 ti43:=fact
theorem tf45:TyFact Tryz.prog 45 ti45:=fact
theorem tf55:TyFact Tryz.prog 55 ti55:=fact
theorem tf56:TyFact Tryz.prog 56 ti56:=fact
theorem tf58:TyFact Tryz.prog 58 ti58:=fact
theorem tf59:TyFact Tryz.prog 59 ti59:=fact
theorem tf60:TyFact Tryz.prog 60 ti60:=fact (fun n hn=>by obtain rfl:=Option.some.inj hn; exact eq60)
theorem tf61:TyFact Tryz.prog 61 ti61:=fact
theorem tf62:TyFact Tryz.prog 62 ti62:=fact
theorem tf63:TyFact Tryz.prog 63 ti63:=fact
theorem tf64:TyFact Tryz.prog 64 ti64:=fact
theorem tf65:TyFact Tryz.prog 65 ti65:=fact (fun n hn=>by obtain rfl:=Option.some.inj hn; exact eq65)
theorem tf66:TyFact Tryz.prog 66 ti66:=fact
theorem tf75:TyFact Tryz.prog 75 ti75:=fact
theorem tf76:TyFact Tryz.prog 76 ti76:=fact
theorem tf77:TyFact Tryz.prog 77 ti77:=fact
theorem tf78:TyFact Tryz.prog 78 ti78:=fact
theorem tf79:TyFact Tryz.prog 79 ti79:=fact
theorem tf80:TyFact Tryz.prog 80 ti80:=fact
theorem tf81:TyFact Tryz.prog 81 ti81:=fact
theorem tf82:TyFact Tryz.prog 82 ti82:=fact
theorem tf83:TyFact Tryz.prog 83 ti83:=fact
theorem tf84:TyFact Tryz.prog 84 ti84:=fact
theorem tf95:TyFact Tryz.prog 95 ti95:=fact
theorem tf97:TyFact Tryz.prog 97 ti97:=fact
theorem tf98:TyFact Tryz.prog 98 ti98:=fact
theorem tf99:TyFact Tryz.prog 99 ti99:=fact
theorem tf100:TyFact Tryz.prog 100 ti100:=fact
theorem tf105:TyFact Tryz.prog 105 ti105:=fact
theorem tf108:TyFact Tryz.prog 108 ti108:=fact
theorem tf109:TyFact Tryz.prog 109 ti109:=fact
theorem tf119:TyFact Tryz.prog 119 ti119:=fact
theorem tf120:TyFact Tryz.prog 120 ti120:=fact
theorem tf121:TyFact Tryz.prog 121 ti121:=fact
theorem tf122:TyFact Tryz.prog 122 ti122:=fact
theorem tf123:TyFact Tryz.prog 123 ti123:=fact
theorem tf124:TyFact Tryz.prog 124 ti124:=fact
theorem tf128:TyFact Tryz.prog 128 ti128:=fact
theorem tf132:TyFact Tryz.prog 132 ti132:=fact
theorem tf133:TyFact Tryz.prog 133 ti133:=fact
theorem tf136:TyFact Tryz.prog 136 ti136:=fact
theorem tf137:TyFact Tryz.prog 137 ti137:=fact
theorem tf140:TyFact Tryz.prog 140 ti140:=fact
theorem tf145:TyFact Tryz.prog 145 ti145:=fact
theorem tf157:TyFact Tryz.prog 157 ti157:=fact
theorem tf158:TyFact Tryz.prog 158 ti158:=fact
theorem tf159:TyFact Tryz.prog 159 ti159:=fact
theorem tf160:TyFact Tryz.prog 160 ti160:=fact
theorem tf169:TyFact Tryz.prog 169 ti169:=fact
theorem tf170:TyFact Tryz.prog 170 ti170:=fact
theorem tf173:TyFact Tryz.prog 173 ti173:=fact
theorem tf174:TyFact Tryz.prog 174 ti174:=fact
theorem tf176:TyFact Tryz.prog 176 ti176:=fact
theorem tf177:TyFact Tryz.prog 177 ti177:=fact
theorem tf178:TyFact Tryz.prog 178 ti178:=fact
theorem tf179:TyFact Tryz.prog 179 ti179:=fact
theorem tf181:TyFact Tryz.prog 181 ti181:=fact
theorem tf184:TyFact Tryz.prog 184 ti184:=fact
theorem tf193:TyFact Tryz.prog 193 ti193:=fact
theorem tf194:TyFact Tryz.prog 194 ti194:=fact
theorem tf198:TyFact Tryz.prog 198 ti198:=fact
theorem tf200:TyFact Tryz.prog 200 ti200:=fact
theorem tf201:TyFact Tryz.prog 201 ti201:=fact
theorem tf202:TyFact Tryz.prog 202 ti202:=fact
theorem tf203:TyFact Tryz.prog 203 ti203:=fact
theorem tf204:TyFact Tryz.prog 204 ti204:=fact
theorem tf219:TyFact Tryz.prog 219 ti219:=fact
theorem tf222:TyFact Tryz.prog 222 ti222:=fact
theorem tf230:TyFact Tryz.prog 230 ti230:=fact
theorem tf231:TyFact Tryz.prog 231 ti231:=fact
theorem tf234:TyFact Tryz.prog 234 ti234:=fact
theorem tf235:TyFact Tryz.prog 235 ti235:=fact
theorem tf239:TyFact Tryz.prog 239 ti239:=fact
theorem tf240:TyFact Tryz.prog 240 ti240:=fact
theorem tf241:TyFact Tryz.prog 241 ti241:=fact
theorem tf258:TyFact Tryz.prog 258 ti258:=fact
theorem tf259:TyFact Tryz.prog 259 ti259:=fact
theorem tf262:TyFact Tryz.prog 262 ti262:=fact
theorem tf263:TyFact Tryz.prog 263 ti263:=fact
theorem tf264:TyFact Tryz.prog 264 ti264:=fact
theorem tf265:TyFact Tryz.prog 265 ti265:=fact
theorem tf267:TyFact Tryz.prog 267 ti267:=fact
theorem tf269:TyFact Tryz.prog 269 ti269:=fact
theorem tf270:TyFact Tryz.prog 270 ti270:=fact
theorem tf271:TyFact Tryz.prog 271 ti271:=fact
theorem tf276:TyFact Tryz.prog 276 ti276:=fact
theorem tf277:TyFact Tryz.prog 277 ti277:=fact
theorem tf278:TyFact Tryz.prog 278 ti278:=fact
theorem tf279:TyFact Tryz.prog 279 ti279:=fact
theorem tf280:TyFact Tryz.prog 280 ti280:=fact
theorem tf281:TyFact Tryz.prog 281 ti281:=fact
theorem tf283:TyFact Tryz.prog 283 ti283:=fact
theorem tf284:TyFact Tryz.prog 284 ti284:=fact
theorem tf290:TyFact Tryz.prog 290 ti290:=fact
theorem tf303:TyFact Tryz.prog 303 ti303:=fact
theorem tf304:TyFact Tryz.prog 304 ti304:=fact
theorem tf305:TyFact Tryz.prog 305 ti305:=fact
theorem tf306:TyFact Tryz.prog 306 ti306:=fact
theorem tf307:TyFact Tryz.prog 307 ti307:=fact
theorem tf309:TyFact Tryz.prog 309 ti309:=fact
theorem tf318:TyFact Tryz.prog 318 ti318:=fact
theorem tf323:TyFact Tryz.prog 323 ti323:=fact
theorem tf329:TyFact Tryz.prog 329 ti329:=fact
theorem tf332:TyFact Tryz.prog 332 ti332:=fact
theorem tf335:TyFact Tryz.prog 335 ti335:=fact
theorem tf338:TyFact Tryz.prog 338 ti338:=fact
theorem tf349:TyFact Tryz.prog 349 ti349:=fact
theorem tf351:TyFact Tryz.prog 351 ti351:=fact
theorem tf353:TyFact Tryz.prog 353 ti353:=fact
theorem tf354:TyFact Tryz.prog 354 ti354:=fact
theorem tf356:TyFact Tryz.prog 356 ti356:=fact
theorem tf368:TyFact Tryz.prog 368 ti368:=fact
theorem tf369:TyFact Tryz.prog 369 ti369:=fact
theorem tf373:TyFact Tryz.prog 373 ti373:=fact
theorem tf374:TyFact Tryz.prog 374 ti374:=fact
theorem tf382:TyFact Tryz.prog 382 ti382:=fact
theorem tf383:TyFact Tryz.prog 383 ti383:=fact
def Facts:List (Nat×TI)→Prop
 | []=>True
 | p::r=>TyFact Tryz.prog p.1 p.2∧Facts r
theorem facts_get:∀ {l:List (Nat×TI)},Facts l→∀ t i,lk l t=some i→TyFact Tryz.prog t i
 | [],_,_,_,h=>by cases h
 | (k,x)::r,h,t,i,hi=>by
  simp only [lk] at hi
  split at hi
  ·rename_i e; subst e; obtain rfl:=Option.some.inj hi; exact h.1
  ·exact facts_get h.2 t i hi
theorem ty_ok:TyOk Tryz.prog ty:=facts_get (l:=tyl) ⟨tf3,tf4,tf9,tf20,tf22,tf25,tf34,tf35,tf36,tf37,tf38,tf39,tf40,tf41,tf42,tf43,tf45,tf55,tf56,tf58,tf59,tf60,tf61,tf62,tf63,tf64,tf65,tf66,tf75,tf76,tf77,tf78,tf79,tf80,tf81,tf82,tf83,tf84,tf95,tf97,tf98,tf99,tf100,tf105,tf108,tf109,tf119,tf120,tf121,tf122,tf123,tf124,tf128,tf132,tf133,tf136,tf137,tf140,tf145,tf157,tf158,tf159,tf160,tf169,tf170,tf173,tf174,tf176,tf177,tf178,tf179,tf181,tf184,tf193,tf194,tf198,tf200,tf201,tf202,tf203,tf204,tf219,tf222,tf230,tf231,tf234,tf235,tf239,tf240,tf241,tf258,tf259,tf262,tf263,tf264,tf265,tf267,tf269,tf270,tf271,tf276,tf277,tf278,tf279,tf280,tf281,tf283,tf284,tf290,tf303,tf304,tf305,tf306,tf307,tf309,tf318,tf323,tf329,tf332,tf335,tf338,tf349,tf351,tf353,tf354,tf356,tf368,tf369,tf373,tf374,tf382,tf383,trivial⟩
end Go.Proofs.YtkbdjphdhcgmaaaGreatDoor
