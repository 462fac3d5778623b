/-
  The types of the translation, as the abstract machine uses them: a table, and that it agrees with the program's. Written by a program of ours (gen_ty.py).
-/
import Derived.Test.YtlnlpncchgimgaaGreatDoorProg
import Derived.Test.YtlnlpncchgimgaaGreatDoorAbsC
import Derived.KernelRfl
set_option linter.unusedSimpArgs false
set_option linter.unusedVariables false
namespace Go.Proofs.YtlnlpncchgimgaaGreatDoor
open Go.Abs
def ti3:TI:=⟨1,8,false,[.int .i64 0],.int .i64,none⟩
def ti4:TI:=⟨1,1,false,[.bool false],.bool,none⟩
def ti9:TI:=⟨1,16,false,[.string .empty],.string,none⟩
def ti20:TI:=⟨1,16,false,[.nilIface],.interface #[],none⟩
def ti21:TI:=⟨1,4,false,[.int .i32 0],.int .i32,none⟩
def ti22:TI:=⟨1,24,false,[.slice none 0 0],.slice 131,none⟩
def ti23:TI:=⟨1,24,false,[.slice none 0 0],.slice 83,none⟩
def ti24:TI:=⟨4,64,true,[.int .i64 0,.int .i64 0,.slice none 0 0,.slice none 0 0],.struct #[⟨"Cells",3,0,false,"","",0⟩,⟨"Exchange",3,1,false,"","",8⟩,⟨"Table",22,2,false,"","",16⟩,⟨"Laws",23,3,false,"","",40⟩],none⟩
def ti25:TI:=⟨4,64,true,[.int .i64 0,.int .i64 0,.slice none 0 0,.slice none 0 0],.struct #[⟨"Cells",3,0,false,"","",0⟩,⟨"Exchange",3,1,false,"","",8⟩,⟨"Table",22,2,false,"","",16⟩,⟨"Laws",23,3,false,"","",40⟩],none⟩
def ti26:TI:=⟨1,24,false,[.slice none 0 0],.slice 3,none⟩
def ti27:TI:=⟨2,48,true,[.slice none 0 0,.slice none 0 0],.struct #[⟨"Lo",26,0,false,"","",0⟩,⟨"Hi",26,1,false,"","",24⟩],none⟩
def ti28:TI:=⟨2,48,true,[.slice none 0 0,.slice none 0 0],.struct #[⟨"Lo",26,0,false,"","",0⟩,⟨"Hi",26,1,false,"","",24⟩],none⟩
def ti29:TI:=⟨1,24,false,[.slice none 0 0],.slice 58,none⟩
def ti30:TI:=⟨9,152,true,[.int .i64 0,.int .i64 0,.slice none 0 0,.slice none 0 0,.slice none 0 0,.slice none 0 0,.slice none 0 0,.int .i64 0,.int .i64 0],.struct #[⟨"Setup",25,0,false,"","",0⟩,⟨"Start",28,4,false,"","",64⟩,⟨"Weights",29,6,false,"","",112⟩,⟨"Air",3,7,false,"","",136⟩,⟨"Spread",3,8,false,"","",144⟩],none⟩
def ti31:TI:=⟨9,152,true,[.int .i64 0,.int .i64 0,.slice none 0 0,.slice none 0 0,.slice none 0 0,.slice none 0 0,.slice none 0 0,.int .i64 0,.int .i64 0],.struct #[⟨"Setup",25,0,false,"","",0⟩,⟨"Start",28,4,false,"","",64⟩,⟨"Weights",29,6,false,"","",112⟩,⟨"Air",3,7,false,"","",136⟩,⟨"Spread",3,8,false,"","",144⟩],none⟩
def ti32:TI:=⟨1,24,false,[.slice none 0 0],.slice 53,none⟩
def ti37:TI:=⟨1,8,false,[.nilFunc],.func #[3] #[4] false,none⟩
def ti38:TI:=⟨1,8,false,[.int .i64 0],.int .i64,none⟩
def ti47:TI:=⟨3,24,true,[.int .i64 0,.int .i64 0,.int .i64 0],.struct #[⟨"After",3,0,false,"","",0⟩,⟨"Kelvin",3,1,false,"","",8⟩,⟨"Most",3,2,false,"","",16⟩],none⟩
def ti48:TI:=⟨3,24,true,[.int .i64 0,.int .i64 0,.int .i64 0],.struct #[⟨"After",3,0,false,"","",0⟩,⟨"Kelvin",3,1,false,"","",8⟩,⟨"Most",3,2,false,"","",16⟩],none⟩
def ti52:TI:=⟨2,16,true,[.int .i64 0,.int .i64 0],.struct #[⟨"Power",3,0,false,"","",0⟩,⟨"Law",3,1,false,"","",8⟩],none⟩
def ti53:TI:=⟨2,16,true,[.int .i64 0,.int .i64 0],.struct #[⟨"Power",3,0,false,"","",0⟩,⟨"Law",3,1,false,"","",8⟩],some [true,true]⟩
def ti54:TI:=⟨2,32,true,[.slice none 0 0,.int .i64 0],.struct #[⟨"Powers",26,0,false,"","",0⟩,⟨"Law",3,1,false,"","",24⟩],none⟩
def ti55:TI:=⟨2,32,true,[.slice none 0 0,.int .i64 0],.struct #[⟨"Powers",26,0,false,"","",0⟩,⟨"Law",3,1,false,"","",24⟩],none⟩
def ti57:TI:=⟨2,16,true,[.int .i64 0,.int .i64 0],.struct #[⟨"Lo",3,0,false,"","",0⟩,⟨"Hi",3,1,false,"","",8⟩],none⟩
def ti58:TI:=⟨2,16,true,[.int .i64 0,.int .i64 0],.struct #[⟨"Lo",3,0,false,"","",0⟩,⟨"Hi",3,1,false,"","",8⟩],none⟩
def ti68:TI:=⟨1,24,false,[.slice none 0 0],.slice 128,none⟩
def ti72:TI:=⟨1,24,false,[.slice none 0 0],.slice 172,none⟩
def ti73:TI:=⟨1,24,false,[.slice none 0 0],.slice 262,none⟩
def ti74:TI:=⟨1,24,false,[.slice none 0 0],.slice 174,none⟩
def ti75:TI:=⟨1,24,false,[.slice none 0 0],.slice 264,none⟩
def ti76:TI:=⟨4,32,true,[.int .i64 0,.int .i64 0,.int .i64 0,.int .i64 0],.array 4 3,none⟩
def ti77:TI:=⟨8,128,true,[.slice none 0 0,.slice none 0 0,.slice none 0 0,.slice none 0 0,.int .i64 0,.int .i64 0,.int .i64 0,.int .i64 0],.struct #[⟨"Heats",72,0,false,"","",0⟩,⟨"Cools",73,1,false,"","",24⟩,⟨"Colds",74,2,false,"","",48⟩,⟨"Tempers",75,3,false,"","",72⟩,⟨"Hard",76,4,false,"","",96⟩],none⟩
def ti78:TI:=⟨8,128,true,[.slice none 0 0,.slice none 0 0,.slice none 0 0,.slice none 0 0,.int .i64 0,.int .i64 0,.int .i64 0,.int .i64 0],.struct #[⟨"Heats",72,0,false,"","",0⟩,⟨"Cools",73,1,false,"","",24⟩,⟨"Colds",74,2,false,"","",48⟩,⟨"Tempers",75,3,false,"","",72⟩,⟨"Hard",76,4,false,"","",96⟩],none⟩
def ti79:TI:=⟨1,24,false,[.slice none 0 0],.slice 139,none⟩
def ti80:TI:=⟨19,312,true,[.int .i64 0,.int .i64 0,.slice none 0 0,.slice none 0 0,.slice none 0 0,.slice none 0 0,.slice none 0 0,.int .i64 0,.int .i64 0,.slice none 0 0,.slice none 0 0,.slice none 0 0,.slice none 0 0,.int .i64 0,.int .i64 0,.int .i64 0,.int .i64 0,.slice none 0 0,.int .i64 0],.struct #[⟨"Bench",31,0,false,"","",0⟩,⟨"Rules",78,9,false,"","",152⟩,⟨"Points",79,17,false,"","",280⟩,⟨"Edge",3,18,false,"","",304⟩],none⟩
def ti81:TI:=⟨19,312,true,[.int .i64 0,.int .i64 0,.slice none 0 0,.slice none 0 0,.slice none 0 0,.slice none 0 0,.slice none 0 0,.int .i64 0,.int .i64 0,.slice none 0 0,.slice none 0 0,.slice none 0 0,.slice none 0 0,.int .i64 0,.int .i64 0,.int .i64 0,.int .i64 0,.slice none 0 0,.int .i64 0],.struct #[⟨"Bench",31,0,false,"","",0⟩,⟨"Rules",78,9,false,"","",152⟩,⟨"Points",79,17,false,"","",280⟩,⟨"Edge",3,18,false,"","",304⟩],none⟩
def ti83:TI:=⟨1,24,false,[.slice none 0 0],.slice 133,none⟩
def ti87:TI:=⟨1,8,false,[.nilFunc],.func #[176] #[] false,none⟩
def ti88:TI:=⟨1,8,false,[.nilFunc],.func #[176] #[] false,none⟩
def ti94:TI:=⟨1,24,false,[.slice none 0 0],.slice 9,none⟩
def ti97:TI:=⟨9,152,true,[.int .i64 0,.int .i64 0,.slice none 0 0,.slice none 0 0,.slice none 0 0,.slice none 0 0,.slice none 0 0,.int .i64 0,.int .i64 0],.struct #[⟨"RecipeBench",31,0,true,"","",0⟩],none⟩
def ti98:TI:=⟨9,152,true,[.int .i64 0,.int .i64 0,.slice none 0 0,.slice none 0 0,.slice none 0 0,.slice none 0 0,.slice none 0 0,.int .i64 0,.int .i64 0],.struct #[⟨"RecipeBench",31,0,true,"","",0⟩],none⟩
def ti103:TI:=⟨1,8,false,[.pointer none],.pointer 107,none⟩
def ti106:TI:=⟨11,200,true,[.int .i64 0,.int .i64 0,.slice none 0 0,.slice none 0 0,.slice none 0 0,.slice none 0 0,.slice none 0 0,.int .i64 0,.int .i64 0,.slice none 0 0,.slice none 0 0],.struct #[⟨"bench",98,0,true,"","martensite/recipe",0⟩,⟨"energies",26,9,false,"","martensite/recipe",152⟩,⟨"made",32,10,false,"","martensite/recipe",176⟩],none⟩
def ti107:TI:=⟨11,200,true,[.int .i64 0,.int .i64 0,.slice none 0 0,.slice none 0 0,.slice none 0 0,.slice none 0 0,.slice none 0 0,.int .i64 0,.int .i64 0,.slice none 0 0,.slice none 0 0],.struct #[⟨"bench",98,0,true,"","martensite/recipe",0⟩,⟨"energies",26,9,false,"","martensite/recipe",152⟩,⟨"made",32,10,false,"","martensite/recipe",176⟩],none⟩
def ti112:TI:=⟨1,24,false,[.slice none 0 0],.slice 196,none⟩
def ti113:TI:=⟨1,24,false,[.slice none 0 0],.slice 112,none⟩
def ti114:TI:=⟨6,112,true,[.int .i64 0,.int .i64 0,.slice none 0 0,.slice none 0 0,.slice none 0 0,.slice none 0 0],.struct #[⟨"HeatSetup",25,0,true,"","",0⟩,⟨"table",112,4,false,"","martensite/heat",64⟩,⟨"laws",113,5,false,"","martensite/heat",88⟩],none⟩
def ti115:TI:=⟨6,112,true,[.int .i64 0,.int .i64 0,.slice none 0 0,.slice none 0 0,.slice none 0 0,.slice none 0 0],.struct #[⟨"HeatSetup",25,0,true,"","",0⟩,⟨"table",112,4,false,"","martensite/heat",64⟩,⟨"laws",113,5,false,"","martensite/heat",88⟩],none⟩
def ti127:TI:=⟨6,64,true,[.int .i64 0,.int .i64 0,.int .i64 0,.int .i64 0,.int .i64 0,.slice none 0 0],.struct #[⟨"Kind",3,0,false,"","",0⟩,⟨"Power",3,1,false,"","",8⟩,⟨"Law",3,2,false,"","",16⟩,⟨"Ticks",3,3,false,"","",24⟩,⟨"Kelvin",3,4,false,"","",32⟩,⟨"Body",68,5,false,"","",40⟩],none⟩
def ti128:TI:=⟨6,64,true,[.int .i64 0,.int .i64 0,.int .i64 0,.int .i64 0,.int .i64 0,.slice none 0 0],.struct #[⟨"Kind",3,0,false,"","",0⟩,⟨"Power",3,1,false,"","",8⟩,⟨"Law",3,2,false,"","",16⟩,⟨"Ticks",3,3,false,"","",24⟩,⟨"Kelvin",3,4,false,"","",32⟩,⟨"Body",68,5,false,"","",40⟩],none⟩
def ti130:TI:=⟨2,16,true,[.int .i64 0,.int .i64 0],.struct #[⟨"Energy",3,0,false,"","",0⟩,⟨"Kelvin",3,1,false,"","",8⟩],none⟩
def ti131:TI:=⟨2,16,true,[.int .i64 0,.int .i64 0],.struct #[⟨"Energy",3,0,false,"","",0⟩,⟨"Kelvin",3,1,false,"","",8⟩],none⟩
def ti132:TI:=⟨2,16,true,[.int .i64 0,.int .i64 0],.struct #[⟨"Kelvin",3,0,false,"","",0⟩,⟨"Loss",3,1,false,"","",8⟩],none⟩
def ti133:TI:=⟨2,16,true,[.int .i64 0,.int .i64 0],.struct #[⟨"Kelvin",3,0,false,"","",0⟩,⟨"Loss",3,1,false,"","",8⟩],none⟩
def ti134:TI:=⟨28,464,true,[.int .i64 0,.int .i64 0,.slice none 0 0,.slice none 0 0,.slice none 0 0,.slice none 0 0,.slice none 0 0,.int .i64 0,.int .i64 0,.int .i64 0,.int .i64 0,.slice none 0 0,.slice none 0 0,.slice none 0 0,.slice none 0 0,.slice none 0 0,.int .i64 0,.int .i64 0,.slice none 0 0,.slice none 0 0,.slice none 0 0,.slice none 0 0,.int .i64 0,.int .i64 0,.int .i64 0,.int .i64 0,.slice none 0 0,.int .i64 0],.struct #[⟨"bench",98,0,true,"","martensite/recipe",0⟩,⟨"RecipeOrder",81,9,true,"","",152⟩],none⟩
def ti135:TI:=⟨28,464,true,[.int .i64 0,.int .i64 0,.slice none 0 0,.slice none 0 0,.slice none 0 0,.slice none 0 0,.slice none 0 0,.int .i64 0,.int .i64 0,.int .i64 0,.int .i64 0,.slice none 0 0,.slice none 0 0,.slice none 0 0,.slice none 0 0,.slice none 0 0,.int .i64 0,.int .i64 0,.slice none 0 0,.slice none 0 0,.slice none 0 0,.slice none 0 0,.int .i64 0,.int .i64 0,.int .i64 0,.int .i64 0,.slice none 0 0,.int .i64 0],.struct #[⟨"bench",98,0,true,"","martensite/recipe",0⟩,⟨"RecipeOrder",81,9,true,"","",152⟩],none⟩
def ti138:TI:=⟨3,24,true,[.int .i64 0,.int .i64 0,.int .i64 0],.struct #[⟨"Cell",3,0,false,"","",0⟩,⟨"Hard",58,1,false,"","",8⟩],none⟩
def ti139:TI:=⟨3,24,true,[.int .i64 0,.int .i64 0,.int .i64 0],.struct #[⟨"Cell",3,0,false,"","",0⟩,⟨"Hard",58,1,false,"","",8⟩],none⟩
def ti144:TI:=⟨1,16,false,[.nilIface],.interface #[("Error",153)],none⟩
def ti145:TI:=⟨1,16,false,[.nilIface],.interface #[("Error",153)],none⟩
def ti155:TI:=⟨1,24,false,[.slice none 0 0],.slice 38,none⟩
def ti157:TI:=⟨1,8,false,[.nilFunc],.func #[58] #[3] false,none⟩
def ti171:TI:=⟨4,32,true,[.int .i64 0,.int .i64 0,.int .i64 0,.int .i64 0],.struct #[⟨"Kelvin",3,0,false,"","",0⟩,⟨"Rate",58,1,false,"","",8⟩,⟨"Growth",3,3,false,"","",24⟩],none⟩
def ti172:TI:=⟨4,32,true,[.int .i64 0,.int .i64 0,.int .i64 0,.int .i64 0],.struct #[⟨"Kelvin",3,0,false,"","",0⟩,⟨"Rate",58,1,false,"","",8⟩,⟨"Growth",3,3,false,"","",24⟩],none⟩
def ti173:TI:=⟨3,24,true,[.int .i64 0,.int .i64 0,.int .i64 0],.struct #[⟨"Kelvin",3,0,false,"","",0⟩,⟨"Share",58,1,false,"","",8⟩],none⟩
def ti174:TI:=⟨3,24,true,[.int .i64 0,.int .i64 0,.int .i64 0],.struct #[⟨"Kelvin",3,0,false,"","",0⟩,⟨"Share",58,1,false,"","",8⟩],none⟩
def ti176:TI:=⟨1,8,false,[.nilFunc],.func #[9] #[4] false,none⟩
def ti184:TI:=⟨2,16,true,[.int .i64 0,.int .i64 0],.struct #[⟨"Num",3,0,false,"","",0⟩,⟨"Den",3,1,false,"","",8⟩],none⟩
def ti185:TI:=⟨2,16,true,[.int .i64 0,.int .i64 0],.struct #[⟨"Num",3,0,false,"","",0⟩,⟨"Den",3,1,false,"","",8⟩],none⟩
def ti191:TI:=⟨2,16,true,[.int .i64 0,.int .i64 0],.struct #[⟨"num",3,0,false,"","martensite/heat",0⟩,⟨"den",3,1,false,"","martensite/heat",8⟩],none⟩
def ti192:TI:=⟨2,16,true,[.int .i64 0,.int .i64 0],.struct #[⟨"num",3,0,false,"","martensite/heat",0⟩,⟨"den",3,1,false,"","martensite/heat",8⟩],none⟩
def ti195:TI:=⟨2,16,true,[.int .i64 0,.int .i64 0],.struct #[⟨"x",3,0,false,"","martensite/heat",0⟩,⟨"y",3,1,false,"","martensite/heat",8⟩],none⟩
def ti196:TI:=⟨2,16,true,[.int .i64 0,.int .i64 0],.struct #[⟨"x",3,0,false,"","martensite/heat",0⟩,⟨"y",3,1,false,"","martensite/heat",8⟩],none⟩
def ti202:TI:=⟨1,8,false,[.nilFunc],.func #[128] #[4] false,none⟩
def ti206:TI:=⟨1,8,false,[.int .u64 0],.int .u64,none⟩
def ti225:TI:=⟨1,8,false,[.nilFunc],.func #[196,192] #[3] false,none⟩
def ti229:TI:=⟨1,24,false,[.slice none 0 0],.slice 235,none⟩
def ti230:TI:=⟨4,96,true,[.slice none 0 0,.slice none 0 0,.slice none 0 0,.slice none 0 0],.array 4 229,none⟩
def ti232:TI:=⟨1,8,false,[.pointer none],.pointer 235,none⟩
def ti234:TI:=⟨3,40,true,[.int .i64 0,.slice none 0 0,.int .i64 0],.struct #[⟨"kelvin",3,0,false,"","martensite/steel",0⟩,⟨"ranges",29,1,false,"","martensite/steel",8⟩,⟨"other",3,2,false,"","martensite/steel",32⟩],none⟩
def ti235:TI:=⟨3,40,true,[.int .i64 0,.slice none 0 0,.int .i64 0],.struct #[⟨"kelvin",3,0,false,"","martensite/steel",0⟩,⟨"ranges",29,1,false,"","martensite/steel",8⟩,⟨"other",3,2,false,"","martensite/steel",32⟩],none⟩
def ti236:TI:=⟨1,24,false,[.slice none 0 0],.slice 229,none⟩
def ti256:TI:=⟨1,24,false,[.slice none 0 0],.slice 260,none⟩
def ti258:TI:=⟨1,8,false,[.nilFunc],.func #[128] #[3] false,none⟩
def ti259:TI:=⟨3,24,true,[.nilFunc,.int .i64 0,.int .i64 0],.struct #[⟨"value",258,0,false,"","martensite/recipe",0⟩,⟨"lo",3,1,false,"","martensite/recipe",8⟩,⟨"hi",3,2,false,"","martensite/recipe",16⟩],none⟩
def ti260:TI:=⟨3,24,true,[.nilFunc,.int .i64 0,.int .i64 0],.struct #[⟨"value",258,0,false,"","martensite/recipe",0⟩,⟨"lo",3,1,false,"","martensite/recipe",8⟩,⟨"hi",3,2,false,"","martensite/recipe",16⟩],none⟩
def ti261:TI:=⟨5,40,true,[.int .i64 0,.int .i64 0,.int .i64 0,.int .i64 0,.int .i64 0],.struct #[⟨"Kelvin",3,0,false,"","",0⟩,⟨"Wait",58,1,false,"","",8⟩,⟨"Rate",58,3,false,"","",24⟩],none⟩
def ti262:TI:=⟨5,40,true,[.int .i64 0,.int .i64 0,.int .i64 0,.int .i64 0,.int .i64 0],.struct #[⟨"Kelvin",3,0,false,"","",0⟩,⟨"Wait",58,1,false,"","",8⟩,⟨"Rate",58,3,false,"","",24⟩],none⟩
def ti263:TI:=⟨2,16,true,[.int .i64 0,.int .i64 0],.struct #[⟨"Kelvin",3,0,false,"","",0⟩,⟨"Rate",3,1,false,"","",8⟩],none⟩
def ti264:TI:=⟨2,16,true,[.int .i64 0,.int .i64 0],.struct #[⟨"Kelvin",3,0,false,"","",0⟩,⟨"Rate",3,1,false,"","",8⟩],none⟩
def ti266:TI:=⟨1,8,false,[.nilFunc],.func #[58] #[4] false,none⟩
def tyl:List (Nat×TI):=[(3,ti3),(4,ti4),(9,ti9),(20,ti20),(21,ti21),(22,ti22),(23,ti23),(24,ti24),(25,ti25),(26,ti26),(27,ti27),(28,ti28),(29,ti29),(30,ti30),(31,ti31),(32,ti32),(37,ti37),(38,ti38),(47,ti47),(48,ti48),(52,ti52),(53,ti53),(54,ti54),(55,ti55),(57,ti57),(58,ti58),(68,ti68),(72,ti72),(73,ti73),(74,ti74),(75,ti75),(76,ti76),(77,ti77),(78,ti78),(79,ti79),(80,ti80),(81,ti81),(83,ti83),(87,ti87),(88,ti88),(94,ti94),(97,ti97),(98,ti98),(103,ti103),(106,ti106),(107,ti107),(112,ti112),(113,ti113),(114,ti114),(115,ti115),(127,ti127),(128,ti128),(130,ti130),(131,ti131),(132,ti132),(133,ti133),(134,ti134),(135,ti135),(138,ti138),(139,ti139),(144,ti144),(145,ti145),(155,ti155),(157,ti157),(171,ti171),(172,ti172),(173,ti173),(174,ti174),(176,ti176),(184,ti184),(185,ti185),(191,ti191),(192,ti192),(195,ti195),(196,ti196),(202,ti202),(206,ti206),(225,ti225),(229,ti229),(230,ti230),(232,ti232),(234,ti234),(235,ti235),(236,ti236),(256,ti256),(258,ti258),(259,ti259),(260,ti260),(261,ti261),(262,ti262),(263,ti263),(264,ti264),(266,ti266)]
def ty:Tys:=fun t=>lk tyl t
@[go_sem] theorem ty_3:ty 3=some ti3:=by kernel_rfl
@[go_sem] theorem ty_4:ty 4=some ti4:=by kernel_rfl
@[go_sem] theorem ty_9:ty 9=some ti9:=by kernel_rfl
@[go_sem] theorem ty_20:ty 20=some ti20:=by kernel_rfl
@[go_sem] theorem ty_21:ty 21=some ti21:=by kernel_rfl
@[go_sem] theorem ty_22:ty 22=some ti22:=by kernel_rfl
@[go_sem] theorem ty_23:ty 23=some ti23:=by kernel_rfl
@[go_sem] theorem ty_24:ty 24=some ti24:=by kernel_rfl
@[go_sem] theorem ty_25:ty 25=some ti25:=by kernel_rfl
@[go_sem] theorem ty_26:ty 26=some ti26:=by kernel_rfl
@[go_sem] theorem ty_27:ty 27=some ti27:=by kernel_rfl
@[go_sem] theorem ty_28:ty 28=some ti28:=by kernel_rfl
@[go_sem] theorem ty_29:ty 29=some ti29:=by kernel_rfl
@[go_sem] theorem ty_30:ty 30=some ti30:=by kernel_rfl
@[go_sem] theorem ty_31:ty 31=some ti31:=by kernel_rfl
@[go_sem] theorem ty_32:ty 32=some ti32:=by kernel_rfl
@[go_sem] theorem ty_37:ty 37=some ti37:=by kernel_rfl
@[go_sem] theorem ty_38:ty 38=some ti38:=by kernel_rfl
@[go_sem] theorem ty_47:ty 47=some ti47:=by kernel_rfl
@[go_sem] theorem ty_48:ty 48=some ti48:=by kernel_rfl
@[go_sem] theorem ty_52:ty 52=some ti52:=by kernel_rfl
@[go_sem] theorem ty_53:ty 53=some ti53:=by kernel_rfl
@[go_sem] theorem ty_54:ty 54=some ti54:=by kernel_rfl
@[go_sem] theorem ty_55:ty 55=some ti55:=by kernel_rfl
@[go_sem] theorem ty_57:ty 57=some ti57:=by kernel_rfl
@[go_sem] theorem ty_58:ty 58=some ti58:=by kernel_rfl
@[go_sem] theorem ty_68:ty 68=some ti68:=by kernel_rfl
@[go_sem] theorem ty_72:ty 72=some ti72:=by kernel_rfl
@[go_sem] theorem ty_73:ty 73=some ti73:=by kernel_rfl
@[go_sem] theorem ty_74:ty 74=some ti74:=by kernel_rfl
@[go_sem] theorem ty_75:ty 75=some ti75:=by kernel_rfl
@[go_sem] theorem ty_76:ty 76=some ti76:=by kernel_rfl
@[go_sem] theorem ty_77:ty 77=some ti77:=by kernel_rfl
@[go_sem] theorem ty_78:ty 78=some ti78:=by kernel_rfl
@[go_sem] theorem ty_79:ty 79=some ti79:=by kernel_rfl
@[go_sem] theorem ty_80:ty 80=some ti80:=by kernel_rfl
@[go_sem] theorem ty_81:ty 81=some ti81:=by kernel_rfl
@[go_sem] theorem ty_83:ty 83=some ti83:=by kernel_rfl
@[go_sem] theorem ty_87:ty 87=some ti87:=by kernel_rfl
@[go_sem] theorem ty_88:ty 88=some ti88:=by kernel_rfl
@[go_sem] theorem ty_94:ty 94=some ti94:=by kernel_rfl
@[go_sem] theorem ty_97:ty 97=some ti97:=by kernel_rfl
@[go_sem] theorem ty_98:ty 98=some ti98:=by kernel_rfl
@[go_sem] theorem ty_103:ty 103=some ti103:=by kernel_rfl
@[go_sem] theorem ty_106:ty 106=some ti106:=by kernel_rfl
@[go_sem] theorem ty_107:ty 107=some ti107:=by kernel_rfl
@[go_sem] theorem ty_112:ty 112=some ti112:=by kernel_rfl
@[go_sem] theorem ty_113:ty 113=some ti113:=by kernel_rfl
@[go_sem] theorem ty_114:ty 114=some ti114:=by kernel_rfl
@[go_sem] theorem ty_115:ty 115=some ti115:=by kernel_rfl
@[go_sem] theorem ty_127:ty 127=some ti127:=by kernel_rfl
@[go_sem] theorem ty_128:ty 128=some ti128:=by kernel_rfl
@[go_sem] theorem ty_130:ty 130=some ti130:=by kernel_rfl
@[go_sem] theorem ty_131:ty 131=some ti131:=by kernel_rfl
@[go_sem] theorem ty_132:ty 132=some ti132:=by kernel_rfl
@[go_sem] theorem ty_133:ty 133=some ti133:=by kernel_rfl
@[go_sem] theorem ty_134:ty 134=some ti134:=by kernel_rfl
@[go_sem] theorem ty_135:ty 135=some ti135:=by kernel_rfl
@[go_sem] theorem ty_138:ty 138=some ti138:=by kernel_rfl
@[go_sem] theorem ty_139:ty 139=some ti139:=by kernel_rfl
@[go_sem] theorem ty_144:ty 144=some ti144:=by kernel_rfl
@[go_sem] theorem ty_145:ty 145=some ti145:=by kernel_rfl
@[go_sem] theorem ty_155:ty 155=some ti155:=by kernel_rfl
@[go_sem] theorem ty_157:ty 157=some ti157:=by kernel_rfl
@[go_sem] theorem ty_171:ty 171=some ti171:=by kernel_rfl
@[go_sem] theorem ty_172:ty 172=some ti172:=by kernel_rfl
@[go_sem] theorem ty_173:ty 173=some ti173:=by kernel_rfl
@[go_sem] theorem ty_174:ty 174=some ti174:=by kernel_rfl
@[go_sem] theorem ty_176:ty 176=some ti176:=by kernel_rfl
@[go_sem] theorem ty_184:ty 184=some ti184:=by kernel_rfl
@[go_sem] theorem ty_185:ty 185=some ti185:=by kernel_rfl
@[go_sem] theorem ty_191:ty 191=some ti191:=by kernel_rfl
@[go_sem] theorem ty_192:ty 192=some ti192:=by kernel_rfl
@[go_sem] theorem ty_195:ty 195=some ti195:=by kernel_rfl
@[go_sem] theorem ty_196:ty 196=some ti196:=by kernel_rfl
@[go_sem] theorem ty_202:ty 202=some ti202:=by kernel_rfl
@[go_sem] theorem ty_206:ty 206=some ti206:=by kernel_rfl
@[go_sem] theorem ty_225:ty 225=some ti225:=by kernel_rfl
@[go_sem] theorem ty_229:ty 229=some ti229:=by kernel_rfl
@[go_sem] theorem ty_230:ty 230=some ti230:=by kernel_rfl
@[go_sem] theorem ty_232:ty 232=some ti232:=by kernel_rfl
@[go_sem] theorem ty_234:ty 234=some ti234:=by kernel_rfl
@[go_sem] theorem ty_235:ty 235=some ti235:=by kernel_rfl
@[go_sem] theorem ty_236:ty 236=some ti236:=by kernel_rfl
@[go_sem] theorem ty_256:ty 256=some ti256:=by kernel_rfl
@[go_sem] theorem ty_258:ty 258=some ti258:=by kernel_rfl
@[go_sem] theorem ty_259:ty 259=some ti259:=by kernel_rfl
@[go_sem] theorem ty_260:ty 260=some ti260:=by kernel_rfl
@[go_sem] theorem ty_261:ty 261=some ti261:=by kernel_rfl
@[go_sem] theorem ty_262:ty 262=some ti262:=by kernel_rfl
@[go_sem] theorem ty_263:ty 263=some ti263:=by kernel_rfl
@[go_sem] theorem ty_264:ty 264=some ti264:=by kernel_rfl
@[go_sem] theorem ty_266:ty 266=some ti266:=by kernel_rfl
attribute [go_sem] ti3 ti4 ti9 ti20 ti21 ti22 ti23 ti24 ti25 ti26 ti27 ti28 ti29 ti30 ti31 ti32 ti37 ti38 ti47 ti48 ti52 ti53 ti54 ti55 ti57 ti58 ti68 ti72 ti73 ti74 ti75 ti76 ti77 ti78 ti79 ti80 ti81 ti83 ti87 ti88 ti94 ti97 ti98 ti103 ti106 ti107 ti112 ti113 ti114 ti115 ti127 ti128 ti130 ti131 ti132 ti133 ti134 ti135 ti138 ti139 ti144 ti145 ti155 ti157 ti171 ti172 ti173 ti174 ti176 ti184 ti185 ti191 ti192 ti195 ti196 ti202 ti206 ti225 ti229 ti230 ti232 ti234 ti235 ti236 ti256 ti258 ti259 ti260 ti261 ti262 ti263 ti264 ti266
def zv (i:TI):Value:=if i.agg=true then .agg i.zero.toArray else i.zero.headD .nilFunc
theorem fact {t:Nat} {i:TI} (he:∀ n,i.eqn=some n→EqOk Tryz.prog t n:=by (intro n hn; cases hn; done)) (h1:(Tryz.prog.info? t).map (fun i=>(i.size,i.bytes,i.zero))=some (i.size,i.bytes,some (zv i)):=by kernel_rfl) (h2:Tryz.prog.underlying t=some i.desc:=by kernel_rfl) (hz:(zv i).cells.toList=i.zero:=by rfl)
 (ha:i.agg=(match i.desc with | .struct _ | .array _ _=>true | _=>false):=by rfl) (ho:i.agg=false→i.size=1:=by first | (intro _; rfl) | (intro h; cases h)) (hl:i.zero.length=i.size:=by rfl):TyFact Tryz.prog t i:=by
 have key:∃ info,Tryz.prog.info? t=some info∧info.size=i.size∧info.bytes=i.bytes∧info.zero=some (zv i):=by
  cases hi:Tryz.prog.info? t with
  | none=>rw [hi] at h1; cases h1
  | some info=>
   rw [hi] at h1
   simp only [Option.map_some,Option.some.injEq,Prod.mk.injEq] at h1
   exact ⟨info,rfl,h1.1,h1.2.1,h1.2.2⟩
 obtain ⟨info,k1,k2,k3,k4⟩:=key
 exact ⟨⟨info,zv i,k1,k2,k3,k4,hz⟩,h2,ha,ho,hl,he,fun h=>⟨info,k1,by rw [k4]; simp [zv,h]⟩⟩
theorem eq53:EqOk Tryz.prog 53 [true,true] where
 guard:=by kernel_rfl
 run:=by
  intro xs ys w h1 h2
  obtain ⟨a0,xs0,rfl,h1_0⟩:=kindsI h1
  obtain ⟨b0,ys0,rfl,h2_0⟩:=kindsI h2
  obtain ⟨a1,xs1,rfl,h1_1⟩:=kindsI h1_0
  obtain ⟨b1,ys1,rfl,h2_1⟩:=kindsI h2_0
  obtain rfl:=kindsN h1_1
  obtain rfl:=kindsN h2_1
  have u3:Tryz.prog.underlying 3=some (.int .i64):=by kernel_rfl
  have u53:Tryz.prog.underlying 53=some (.struct #[⟨"Power",3,0,false,"","",0⟩,⟨"Law",3,1,false,"","",8⟩]):=by kernel_rfl
  have g53:Tryz.prog.stoodInHeld 53=false:=by kernel_rfl
  have v53:Tryz.prog.underlying 53=some (.struct (Tryz.prog.fieldsOf 53)):=by kernel_rfl
  have w53:(Tryz.prog.fieldsOf 53).toList=[⟨"Power",3,0,false,"","",0⟩,⟨"Law",3,1,false,"","",8⟩]:=by kernel_rfl
  have s53:∀ w,(sizeOf 53).run Tryz.prog w= .ok 2 w:=fun _=>by kernel_rfl
  have p3:∀ w,(isAgg 3).run Tryz.prog w= .ok false w:=fun _=>by kernel_rfl
  have p53:∀ w,(isAgg 53).run Tryz.prog w= .ok true w:=fun _=>by kernel_rfl
  have e3:∀ (d:Nat) (a b:Int) (w:World),(Op.equalIn (d+1) 3 (.int .i64 a) (.int .i64 b)).run Tryz.prog w= .ok (a == b) w:=fun d a b w=>run_equalIn_int w d 3 .i64 .i64 a b u3
  have e53:∀ (d:Nat) (xs ys:Array Value) (w:World),(Op.equalIn (d+1) 53 (.agg xs) (.agg ys)).run Tryz.prog w=(Op.eqFields d xs ys (Tryz.prog.fieldsOf 53).toList).run Tryz.prog w:=fun d xs ys w=>run_equalIn_struct w d 53 xs ys v53 g53
  simp [evs,EV.val,e3,e53,Op.eqFields,part,g53,w53,s53,p3,p53]
  try grind
theorem tf3:TyFact Tryz.prog 3 ti3:=fact
theorem tf4:TyFact Tryz.prog 4 ti4:=fact
theorem tf9:TyFact Tryz.prog 9 ti9:=fact
theorem tf20:TyFact Tryz.prog 20 ti20:=fact
theorem tf21:TyFact Tryz.prog 21 ti21:=fact
theorem tf22:TyFact Tryz.prog 22 ti22:=fact
theorem tf23:TyFact Tryz.prog 23 ti23:=fact
theorem tf24:TyFact Tryz.prog 24 ti24:=fact
theorem tf25:TyFact Tryz.prog 25 ti25:=fact
theorem tf26:TyFact Tryz.prog 26 ti26:=fact
theorem tf27:TyFact Tryz.prog 27 ti27:=fact
theorem tf28:TyFact Tryz.prog 28 ti28:=fact
theorem tf29:TyFact Tryz.prog 29 ti29:=fact
theorem tf30:TyFact Tryz.prog 30 ti30:=fact
theorem tf31:TyFact Tryz.prog 31 ti31:=fact
theorem tf32:TyFact Tryz.prog 32 ti32:=fact
theorem tf37:TyFact Tryz.prog 37 ti37:=fact
theorem tf38:TyFact Tryz.prog 38 ti38:=fact
theorem tf47:TyFact Tryz.prog 47 ti47:=fact
theorem tf48:TyFact Tryz.prog 48 ti48:=fact
theorem tf52:TyFact Tryz.prog 52 ti52:=fact
theorem tf53:TyFact Tryz.prog 53 ti53:=fact (fun n hn=>by obtain rfl:=Option.some.inj hn; exact eq53)
theorem tf54:TyFact Tryz.prog 54 ti54:=fact
theorem tf55:TyFact Tryz.prog 55 ti55:=fact
theorem tf57:TyFact Tryz.prog 57 ti57:=fact
theorem tf58:TyFact Tryz.prog 58 ti58:=fact
theorem tf68:TyFact Tryz.prog 68 ti68:=fact
theorem tf72:TyFact Tryz.prog 72 ti72:=fact
theorem tf73:TyFact Tryz.prog 73 ti73:=fact
theorem tf74:TyFact Tryz.prog 74 ti74:=fact
theorem tf75:TyFact Tryz.prog 75 ti75:=fact
theorem tf76:TyFact Tryz.prog 76 ti76:=fact
theorem tf77:TyFact Tryz.prog 77 ti77:=fact
theorem tf78:TyFact Tryz.prog 78 ti78:=fact
theorem tf79:TyFact Tryz.prog 79 ti79:=fact
theorem tf80:TyFact Tryz.prog 80 ti80:=fact
theorem tf81:TyFact Tryz.prog 81 ti81:=fact
theorem tf83:TyFact Tryz.prog 83 ti83:=fact
theorem tf87:TyFact Tryz.prog 87 ti87:=fact
theorem tf88:TyFact Tryz.prog 88 ti88:=fact
theorem tf94:TyFact Tryz.prog 94 ti94:=fact
theorem tf97:TyFact Tryz.prog 97 ti97:=fact
theorem tf98:TyFact Tryz.prog 98 ti98:=fact
theorem tf103:TyFact Tryz.prog 103 ti103:=fact
theorem tf106:TyFact Tryz.prog 106 ti106:=fact
theorem tf107:TyFact Tryz.prog 107 ti107:=fact
theorem tf112:TyFact Tryz.prog 112 ti112:=fact
theorem tf113:TyFact Tryz.prog 113 ti113:=fact
theorem tf114:TyFact Tryz.prog 114 ti114:=fact
theorem tf115:TyFact Tryz.prog 115 ti115:=fact
theorem tf127:TyFact Tryz.prog 127 ti127:=fact
theorem tf128:TyFact Tryz.prog 128 ti128:=fact
theorem tf130:TyFact Tryz.prog 130 ti130:=fact
theorem tf131:TyFact Tryz.prog 131 ti131:=fact
theorem tf132:TyFact Tryz.prog 132 ti132:=fact
theorem tf133:TyFact Tryz.prog 133 ti133:=fact
theorem tf134:TyFact Tryz.prog 134 ti134:=fact
theorem tf135:TyFact Tryz.prog 135 ti135:=fact
theorem tf138:TyFact Tryz.prog 138 ti138:=fact
theorem tf139:TyFact Tryz.prog 139 ti139:=fact
theorem tf144:TyFact Tryz.prog 144 ti144:=fact
theorem tf145:TyFact Tryz.prog 145 ti145:=fact
theorem tf155:TyFact Tryz.prog 155 ti155:=fact
theorem tf157:TyFact Tryz.prog 157 ti157:=fact
theorem tf171:TyFact Tryz.prog 171 ti171:=fact
theorem tf172:TyFact Tryz.prog 172 ti172:=fact
theorem tf173:TyFact Tryz.prog 173 ti173:=fact
theorem tf174:TyFact Tryz.prog 174 ti174:=fact
theorem tf176:TyFact Tryz.prog 176 ti176:=fact
theorem tf184:TyFact Tryz.prog 184 ti184:=fact
theorem tf185:TyFact Tryz.prog 185 ti185:=fact
theorem tf191:TyFact Tryz.prog 191 ti191:=fact
theorem tf192:TyFact Tryz.prog 192 ti192:=fact
theorem tf195:TyFact Tryz.prog 195 ti195:=fact
theorem tf196:TyFact Tryz.prog 196 ti196:=fact
theorem tf202:TyFact Tryz.prog 202 ti202:=fact
theorem tf206:TyFact Tryz.prog 206 ti206:=fact
theorem tf225:TyFact Tryz.prog 225 ti225:=fact
theorem tf229:TyFact Tryz.prog 229 ti229:=fact
theorem tf230:TyFact Tryz.prog 230 ti230:=fact
theorem tf232:TyFact Tryz.prog 232 ti232:=fact
theorem tf234:TyFact Tryz.prog 234 ti234:=fact
theorem tf235:TyFact Tryz.prog 235 ti235:=fact
theorem tf236:TyFact Tryz.prog 236 ti236:=fact
theorem tf256:TyFact Tryz.prog 256 ti256:=fact
theorem tf258:TyFact Tryz.prog 258 ti258:=fact
theorem tf259:TyFact Tryz.prog 259 ti259:=fact
theorem tf260:TyFact Tryz.prog 260 ti260:=fact
theorem tf261:TyFact Tryz.prog 261 ti261:=fact
theorem tf262:TyFact Tryz.prog 262 ti262:=fact
theorem tf263:TyFact Tryz.prog 263 ti263:=fact
theorem tf264:TyFact Tryz.prog 264 ti264:=fact
theorem tf266:TyFact Tryz.prog 266 ti266:=fact
def Facts:List (Nat×TI)→Prop
 | []=>True
 | p::r=>TyFact Tryz.prog p.1 p.2∧Facts r
theorem facts_get:∀ {l:List (Nat×TI)},Facts l→∀ t i,lk l t=some i→TyFact Tryz.prog t i
 | [],_,_,_,h=>by cases h
 | (k,x)::r,h,t,i,hi=>by
  simp only [lk] at hi
  split at hi
  ·rename_i e; subst e; obtain rfl:=Option.some.inj hi; exact h.1
  ·exact facts_get h.2 t i hi
theorem ty_ok:TyOk Tryz.prog ty:=facts_get (l:=tyl) ⟨tf3,tf4,tf9,tf20,tf21,tf22,tf23,tf24,tf25,tf26,tf27,tf28,tf29,tf30,tf31,tf32,tf37,tf38,tf47,tf48,tf52,tf53,tf54,tf55,tf57,tf58,tf68,tf72,tf73,tf74,tf75,tf76,tf77,tf78,tf79,tf80,tf81,tf83,tf87,tf88,tf94,tf97,tf98,tf103,tf106,tf107,tf112,tf113,tf114,tf115,tf127,tf128,tf130,tf131,tf132,tf133,tf134,tf135,tf138,tf139,tf144,tf145,tf155,tf157,tf171,tf172,tf173,tf174,tf176,tf184,tf185,tf191,tf192,tf195,tf196,tf202,tf206,tf225,tf229,tf230,tf232,tf234,tf235,tf236,tf256,tf258,tf259,tf260,tf261,tf262,tf263,tf264,tf266,trivial⟩
end Go.Proofs.YtlnlpncchgimgaaGreatDoor
