/-
  The types of the translation, as the abstract machine uses them: a table, and that it agrees with the program's. Written by a program of ours (gen_ty.py).
-/
import Derived.Test.YtnepigpnlnmlmaaGreatDoorProg
import Derived.Test.YtnepigpnlnmlmaaGreatDoorAbsC
import Derived.KernelRfl
set_option linter.unusedSimpArgs false
set_option linter.unusedVariables false
namespace Go.Proofs.YtnepigpnlnmlmaaGreatDoor
open Go.Abs
def ti3:TI:=⟨1,8,false,[.int .i64 0],.int .i64,none⟩
def ti4:TI:=⟨1,1,false,[.bool false],.bool,none⟩
def ti9:TI:=⟨1,16,false,[.string .empty],.string,none⟩
def ti20:TI:=⟨1,16,false,[.nilIface],.interface #[],none⟩
def ti22:TI:=⟨1,24,false,[.slice none 0 0],.slice 128,none⟩
def ti25:TI:=⟨1,8,false,[.int .i64 0],.int .i64,none⟩
def ti29:TI:=⟨1,24,false,[.slice none 0 0],.slice 126,none⟩
def ti40:TI:=⟨1,24,false,[.slice none 0 0],.slice 187,none⟩
def ti41:TI:=⟨1,24,false,[.slice none 0 0],.slice 183,none⟩
def ti42:TI:=⟨4,64,true,[.int .i64 0,.int .i64 0,.slice none 0 0,.slice none 0 0],.struct #[⟨"Cells",3,0,false,"","",0⟩,⟨"Exchange",3,1,false,"","",8⟩,⟨"Table",40,2,false,"","",16⟩,⟨"Laws",41,3,false,"","",40⟩],none⟩
def ti43:TI:=⟨4,64,true,[.int .i64 0,.int .i64 0,.slice none 0 0,.slice none 0 0],.struct #[⟨"Cells",3,0,false,"","",0⟩,⟨"Exchange",3,1,false,"","",8⟩,⟨"Table",40,2,false,"","",16⟩,⟨"Laws",41,3,false,"","",40⟩],none⟩
def ti44:TI:=⟨1,24,false,[.slice none 0 0],.slice 3,none⟩
def ti45:TI:=⟨2,48,true,[.slice none 0 0,.slice none 0 0],.struct #[⟨"Lo",44,0,false,"","",0⟩,⟨"Hi",44,1,false,"","",24⟩],none⟩
def ti46:TI:=⟨2,48,true,[.slice none 0 0,.slice none 0 0],.struct #[⟨"Lo",44,0,false,"","",0⟩,⟨"Hi",44,1,false,"","",24⟩],none⟩
def ti47:TI:=⟨1,24,false,[.slice none 0 0],.slice 90,none⟩
def ti48:TI:=⟨9,152,true,[.int .i64 0,.int .i64 0,.slice none 0 0,.slice none 0 0,.slice none 0 0,.slice none 0 0,.slice none 0 0,.int .i64 0,.int .i64 0],.struct #[⟨"Setup",43,0,false,"","",0⟩,⟨"Start",46,4,false,"","",64⟩,⟨"Weights",47,6,false,"","",112⟩,⟨"Air",3,7,false,"","",136⟩,⟨"Spread",3,8,false,"","",144⟩],none⟩
def ti49:TI:=⟨9,152,true,[.int .i64 0,.int .i64 0,.slice none 0 0,.slice none 0 0,.slice none 0 0,.slice none 0 0,.slice none 0 0,.int .i64 0,.int .i64 0],.struct #[⟨"Setup",43,0,false,"","",0⟩,⟨"Start",46,4,false,"","",64⟩,⟨"Weights",47,6,false,"","",112⟩,⟨"Air",3,7,false,"","",136⟩,⟨"Spread",3,8,false,"","",144⟩],none⟩
def ti50:TI:=⟨1,24,false,[.slice none 0 0],.slice 199,none⟩
def ti51:TI:=⟨1,24,false,[.slice none 0 0],.slice 315,none⟩
def ti52:TI:=⟨1,24,false,[.slice none 0 0],.slice 288,none⟩
def ti53:TI:=⟨1,24,false,[.slice none 0 0],.slice 317,none⟩
def ti54:TI:=⟨4,32,true,[.int .i64 0,.int .i64 0,.int .i64 0,.int .i64 0],.array 4 3,none⟩
def ti55:TI:=⟨8,128,true,[.slice none 0 0,.slice none 0 0,.slice none 0 0,.slice none 0 0,.int .i64 0,.int .i64 0,.int .i64 0,.int .i64 0],.struct #[⟨"Heats",50,0,false,"","",0⟩,⟨"Cools",51,1,false,"","",24⟩,⟨"Colds",52,2,false,"","",48⟩,⟨"Tempers",53,3,false,"","",72⟩,⟨"Hard",54,4,false,"","",96⟩],none⟩
def ti56:TI:=⟨8,128,true,[.slice none 0 0,.slice none 0 0,.slice none 0 0,.slice none 0 0,.int .i64 0,.int .i64 0,.int .i64 0,.int .i64 0],.struct #[⟨"Heats",50,0,false,"","",0⟩,⟨"Cools",51,1,false,"","",24⟩,⟨"Colds",52,2,false,"","",48⟩,⟨"Tempers",53,3,false,"","",72⟩,⟨"Hard",54,4,false,"","",96⟩],none⟩
def ti57:TI:=⟨1,24,false,[.slice none 0 0],.slice 115,none⟩
def ti58:TI:=⟨19,312,true,[.int .i64 0,.int .i64 0,.slice none 0 0,.slice none 0 0,.slice none 0 0,.slice none 0 0,.slice none 0 0,.int .i64 0,.int .i64 0,.slice none 0 0,.slice none 0 0,.slice none 0 0,.slice none 0 0,.int .i64 0,.int .i64 0,.int .i64 0,.int .i64 0,.slice none 0 0,.int .i64 0],.struct #[⟨"Bench",49,0,false,"","",0⟩,⟨"Rules",56,9,false,"","",152⟩,⟨"Points",57,17,false,"","",280⟩,⟨"Edge",3,18,false,"","",304⟩],none⟩
def ti59:TI:=⟨19,312,true,[.int .i64 0,.int .i64 0,.slice none 0 0,.slice none 0 0,.slice none 0 0,.slice none 0 0,.slice none 0 0,.int .i64 0,.int .i64 0,.slice none 0 0,.slice none 0 0,.slice none 0 0,.slice none 0 0,.int .i64 0,.int .i64 0,.int .i64 0,.int .i64 0,.slice none 0 0,.int .i64 0],.struct #[⟨"Bench",49,0,false,"","",0⟩,⟨"Rules",56,9,false,"","",152⟩,⟨"Points",57,17,false,"","",280⟩,⟨"Edge",3,18,false,"","",304⟩],none⟩
def ti60:TI:=⟨1,24,false,[.slice none 0 0],.slice 164,none⟩
def ti81:TI:=⟨1,24,false,[.slice none 0 0],.slice 47,none⟩
def ti85:TI:=⟨1,24,false,[.slice none 0 0],.slice 94,none⟩
def ti89:TI:=⟨2,16,true,[.int .i64 0,.int .i64 0],.struct #[⟨"Lo",3,0,false,"","",0⟩,⟨"Hi",3,1,false,"","",8⟩],none⟩
def ti90:TI:=⟨2,16,true,[.int .i64 0,.int .i64 0],.struct #[⟨"Lo",3,0,false,"","",0⟩,⟨"Hi",3,1,false,"","",8⟩],some [true,true]⟩
def ti93:TI:=⟨3,40,true,[.slice none 0 0,.int .i64 0,.int .i64 0],.struct #[⟨"Powers",47,0,false,"","",0⟩,⟨"Laws",90,1,false,"","",24⟩],none⟩
def ti94:TI:=⟨3,40,true,[.slice none 0 0,.int .i64 0,.int .i64 0],.struct #[⟨"Powers",47,0,false,"","",0⟩,⟨"Laws",90,1,false,"","",24⟩],none⟩
def ti95:TI:=⟨2,32,true,[.slice none 0 0,.int .i64 0],.struct #[⟨"Powers",44,0,false,"","",0⟩,⟨"Law",3,1,false,"","",24⟩],none⟩
def ti96:TI:=⟨2,32,true,[.slice none 0 0,.int .i64 0],.struct #[⟨"Powers",44,0,false,"","",0⟩,⟨"Law",3,1,false,"","",24⟩],none⟩
def ti103:TI:=⟨1,8,false,[.nilFunc],.func #[3,3] #[3] false,none⟩
def ti104:TI:=⟨7,56,true,[.int .i64 0,.int .i64 0,.int .i64 0,.int .i64 0,.int .i64 0,.int .i64 0,.int .i64 0],.struct #[⟨"Parent",3,0,false,"","",0⟩,⟨"Austenite",3,1,false,"","",8⟩,⟨"Bainite",3,2,false,"","",16⟩,⟨"Martensite",3,3,false,"","",24⟩,⟨"Wait",3,4,false,"","",32⟩,⟨"Grain",3,5,false,"","",40⟩,⟨"Temper",3,6,false,"","",48⟩],none⟩
def ti105:TI:=⟨7,56,true,[.int .i64 0,.int .i64 0,.int .i64 0,.int .i64 0,.int .i64 0,.int .i64 0,.int .i64 0],.struct #[⟨"Parent",3,0,false,"","",0⟩,⟨"Austenite",3,1,false,"","",8⟩,⟨"Bainite",3,2,false,"","",16⟩,⟨"Martensite",3,3,false,"","",24⟩,⟨"Wait",3,4,false,"","",32⟩,⟨"Grain",3,5,false,"","",40⟩,⟨"Temper",3,6,false,"","",48⟩],none⟩
def ti114:TI:=⟨3,24,true,[.int .i64 0,.int .i64 0,.int .i64 0],.struct #[⟨"Cell",3,0,false,"","",0⟩,⟨"Hard",90,1,false,"","",8⟩],none⟩
def ti115:TI:=⟨3,24,true,[.int .i64 0,.int .i64 0,.int .i64 0],.struct #[⟨"Cell",3,0,false,"","",0⟩,⟨"Hard",90,1,false,"","",8⟩],none⟩
def ti125:TI:=⟨6,64,true,[.int .i64 0,.int .i64 0,.int .i64 0,.int .i64 0,.int .i64 0,.slice none 0 0],.struct #[⟨"Kind",3,0,false,"","",0⟩,⟨"Power",3,1,false,"","",8⟩,⟨"Law",3,2,false,"","",16⟩,⟨"Ticks",3,3,false,"","",24⟩,⟨"Kelvin",3,4,false,"","",32⟩,⟨"Body",29,5,false,"","",40⟩],none⟩
def ti126:TI:=⟨6,64,true,[.int .i64 0,.int .i64 0,.int .i64 0,.int .i64 0,.int .i64 0,.slice none 0 0],.struct #[⟨"Kind",3,0,false,"","",0⟩,⟨"Power",3,1,false,"","",8⟩,⟨"Law",3,2,false,"","",16⟩,⟨"Ticks",3,3,false,"","",24⟩,⟨"Kelvin",3,4,false,"","",32⟩,⟨"Body",29,5,false,"","",40⟩],none⟩
def ti127:TI:=⟨7,88,true,[.int .i64 0,.int .i64 0,.int .i64 0,.int .i64 0,.int .i64 0,.slice none 0 0,.slice none 0 0],.struct #[⟨"Phase",126,0,false,"","",0⟩,⟨"Ticks",44,6,false,"","",64⟩],none⟩
def ti128:TI:=⟨7,88,true,[.int .i64 0,.int .i64 0,.int .i64 0,.int .i64 0,.int .i64 0,.slice none 0 0,.slice none 0 0],.struct #[⟨"Phase",126,0,false,"","",0⟩,⟨"Ticks",44,6,false,"","",64⟩],none⟩
def ti140:TI:=⟨1,8,false,[.nilFunc],.func #[3] #[4] false,none⟩
def ti145:TI:=⟨1,8,false,[.nilFunc],.func #[126] #[4] false,none⟩
def ti151:TI:=⟨9,152,true,[.int .i64 0,.int .i64 0,.slice none 0 0,.slice none 0 0,.slice none 0 0,.slice none 0 0,.slice none 0 0,.int .i64 0,.int .i64 0],.struct #[⟨"RecipeBench",49,0,true,"","",0⟩],none⟩
def ti152:TI:=⟨9,152,true,[.int .i64 0,.int .i64 0,.slice none 0 0,.slice none 0 0,.slice none 0 0,.slice none 0 0,.slice none 0 0,.int .i64 0,.int .i64 0],.struct #[⟨"RecipeBench",49,0,true,"","",0⟩],none⟩
def ti153:TI:=⟨28,464,true,[.int .i64 0,.int .i64 0,.slice none 0 0,.slice none 0 0,.slice none 0 0,.slice none 0 0,.slice none 0 0,.int .i64 0,.int .i64 0,.int .i64 0,.int .i64 0,.slice none 0 0,.slice none 0 0,.slice none 0 0,.slice none 0 0,.slice none 0 0,.int .i64 0,.int .i64 0,.slice none 0 0,.slice none 0 0,.slice none 0 0,.slice none 0 0,.int .i64 0,.int .i64 0,.int .i64 0,.int .i64 0,.slice none 0 0,.int .i64 0],.struct #[⟨"bench",152,0,true,"","martensite/recipe",0⟩,⟨"RecipeOrder",59,9,true,"","",152⟩],none⟩
def ti154:TI:=⟨28,464,true,[.int .i64 0,.int .i64 0,.slice none 0 0,.slice none 0 0,.slice none 0 0,.slice none 0 0,.slice none 0 0,.int .i64 0,.int .i64 0,.int .i64 0,.int .i64 0,.slice none 0 0,.slice none 0 0,.slice none 0 0,.slice none 0 0,.slice none 0 0,.int .i64 0,.int .i64 0,.slice none 0 0,.slice none 0 0,.slice none 0 0,.slice none 0 0,.int .i64 0,.int .i64 0,.int .i64 0,.int .i64 0,.slice none 0 0,.int .i64 0],.struct #[⟨"bench",152,0,true,"","martensite/recipe",0⟩,⟨"RecipeOrder",59,9,true,"","",152⟩],none⟩
def ti163:TI:=⟨2,16,true,[.int .i64 0,.int .i64 0],.struct #[⟨"Power",3,0,false,"","",0⟩,⟨"Law",3,1,false,"","",8⟩],none⟩
def ti164:TI:=⟨2,16,true,[.int .i64 0,.int .i64 0],.struct #[⟨"Power",3,0,false,"","",0⟩,⟨"Law",3,1,false,"","",8⟩],none⟩
def ti169:TI:=⟨14,112,true,[.int .i64 0,.int .i64 0,.int .i64 0,.int .i64 0,.int .i64 0,.int .i64 0,.int .i64 0,.int .i64 0,.int .i64 0,.int .i64 0,.int .i64 0,.int .i64 0,.int .i64 0,.int .i64 0],.struct #[⟨"Parent",90,0,false,"","",0⟩,⟨"Austenite",90,2,false,"","",16⟩,⟨"Bainite",90,4,false,"","",32⟩,⟨"Martensite",90,6,false,"","",48⟩,⟨"Wait",90,8,false,"","",64⟩,⟨"Grain",90,10,false,"","",80⟩,⟨"Temper",90,12,false,"","",96⟩],none⟩
def ti170:TI:=⟨14,112,true,[.int .i64 0,.int .i64 0,.int .i64 0,.int .i64 0,.int .i64 0,.int .i64 0,.int .i64 0,.int .i64 0,.int .i64 0,.int .i64 0,.int .i64 0,.int .i64 0,.int .i64 0,.int .i64 0],.struct #[⟨"Parent",90,0,false,"","",0⟩,⟨"Austenite",90,2,false,"","",16⟩,⟨"Bainite",90,4,false,"","",32⟩,⟨"Martensite",90,6,false,"","",48⟩,⟨"Wait",90,8,false,"","",64⟩,⟨"Grain",90,10,false,"","",80⟩,⟨"Temper",90,12,false,"","",96⟩],none⟩
def ti183:TI:=⟨1,24,false,[.slice none 0 0],.slice 213,none⟩
def ti186:TI:=⟨2,16,true,[.int .i64 0,.int .i64 0],.struct #[⟨"Energy",3,0,false,"","",0⟩,⟨"Kelvin",3,1,false,"","",8⟩],none⟩
def ti187:TI:=⟨2,16,true,[.int .i64 0,.int .i64 0],.struct #[⟨"Energy",3,0,false,"","",0⟩,⟨"Kelvin",3,1,false,"","",8⟩],none⟩
def ti192:TI:=⟨8,128,true,[.slice none 0 0,.slice none 0 0,.slice none 0 0,.slice none 0 0,.int .i64 0,.int .i64 0,.int .i64 0,.int .i64 0],.struct #[⟨"SteelRules",56,0,true,"","",0⟩],none⟩
def ti193:TI:=⟨8,128,true,[.slice none 0 0,.slice none 0 0,.slice none 0 0,.slice none 0 0,.int .i64 0,.int .i64 0,.int .i64 0,.int .i64 0],.struct #[⟨"SteelRules",56,0,true,"","",0⟩],none⟩
def ti198:TI:=⟨4,32,true,[.int .i64 0,.int .i64 0,.int .i64 0,.int .i64 0],.struct #[⟨"Kelvin",3,0,false,"","",0⟩,⟨"Rate",90,1,false,"","",8⟩,⟨"Growth",3,3,false,"","",24⟩],none⟩
def ti199:TI:=⟨4,32,true,[.int .i64 0,.int .i64 0,.int .i64 0,.int .i64 0],.struct #[⟨"Kelvin",3,0,false,"","",0⟩,⟨"Rate",90,1,false,"","",8⟩,⟨"Growth",3,3,false,"","",24⟩],none⟩
def ti207:TI:=⟨1,8,false,[.pointer none],.pointer 211,none⟩
def ti210:TI:=⟨11,200,true,[.int .i64 0,.int .i64 0,.slice none 0 0,.slice none 0 0,.slice none 0 0,.slice none 0 0,.slice none 0 0,.int .i64 0,.int .i64 0,.slice none 0 0,.slice none 0 0],.struct #[⟨"bench",152,0,true,"","martensite/recipe",0⟩,⟨"energies",44,9,false,"","martensite/recipe",152⟩,⟨"made",60,10,false,"","martensite/recipe",176⟩],none⟩
def ti211:TI:=⟨11,200,true,[.int .i64 0,.int .i64 0,.slice none 0 0,.slice none 0 0,.slice none 0 0,.slice none 0 0,.slice none 0 0,.int .i64 0,.int .i64 0,.slice none 0 0,.slice none 0 0],.struct #[⟨"bench",152,0,true,"","martensite/recipe",0⟩,⟨"energies",44,9,false,"","martensite/recipe",152⟩,⟨"made",60,10,false,"","martensite/recipe",176⟩],none⟩
def ti212:TI:=⟨2,16,true,[.int .i64 0,.int .i64 0],.struct #[⟨"Kelvin",3,0,false,"","",0⟩,⟨"Loss",3,1,false,"","",8⟩],none⟩
def ti213:TI:=⟨2,16,true,[.int .i64 0,.int .i64 0],.struct #[⟨"Kelvin",3,0,false,"","",0⟩,⟨"Loss",3,1,false,"","",8⟩],none⟩
def ti215:TI:=⟨1,16,true,[.string .empty],.struct #[⟨"rest",9,0,false,"","martensite/recipe",0⟩],none⟩
def ti216:TI:=⟨1,16,true,[.string .empty],.struct #[⟨"rest",9,0,false,"","martensite/recipe",0⟩],none⟩
def ti220:TI:=⟨1,24,false,[.slice none 0 0],.slice 9,none⟩
def ti224:TI:=⟨1,24,false,[.slice none 0 0],.slice 25,none⟩
def ti226:TI:=⟨1,8,false,[.nilFunc],.func #[309] #[] false,none⟩
def ti227:TI:=⟨1,8,false,[.nilFunc],.func #[309] #[] false,none⟩
def ti229:TI:=⟨4,4,true,[.bool false,.bool false,.bool false,.bool false],.struct #[⟨"power",4,0,false,"","martensite/martensiteref05",0⟩,⟨"law",4,1,false,"","martensite/martensiteref05",1⟩,⟨"kelvin",4,2,false,"","martensite/martensiteref05",2⟩,⟨"body",4,3,false,"","martensite/martensiteref05",3⟩],none⟩
def ti230:TI:=⟨4,4,true,[.bool false,.bool false,.bool false,.bool false],.struct #[⟨"power",4,0,false,"","martensite/martensiteref05",0⟩,⟨"law",4,1,false,"","martensite/martensiteref05",1⟩,⟨"kelvin",4,2,false,"","martensite/martensiteref05",2⟩,⟨"body",4,3,false,"","martensite/martensiteref05",3⟩],none⟩
def ti235:TI:=⟨1,24,false,[.slice none 0 0],.slice 241,none⟩
def ti236:TI:=⟨4,96,true,[.slice none 0 0,.slice none 0 0,.slice none 0 0,.slice none 0 0],.array 4 235,none⟩
def ti238:TI:=⟨1,8,false,[.pointer none],.pointer 241,none⟩
def ti240:TI:=⟨3,40,true,[.int .i64 0,.slice none 0 0,.int .i64 0],.struct #[⟨"kelvin",3,0,false,"","martensite/steel",0⟩,⟨"ranges",47,1,false,"","martensite/steel",8⟩,⟨"other",3,2,false,"","martensite/steel",32⟩],none⟩
def ti241:TI:=⟨3,40,true,[.int .i64 0,.slice none 0 0,.int .i64 0],.struct #[⟨"kelvin",3,0,false,"","martensite/steel",0⟩,⟨"ranges",47,1,false,"","martensite/steel",8⟩,⟨"other",3,2,false,"","martensite/steel",32⟩],none⟩
def ti242:TI:=⟨1,24,false,[.slice none 0 0],.slice 235,none⟩
def ti250:TI:=⟨1,8,false,[.nilFunc],.func #[90] #[4] false,none⟩
def ti253:TI:=⟨1,24,false,[.slice none 0 0],.slice 46,none⟩
def ti260:TI:=⟨1,8,false,[.nilFunc],.func #[3] #[90] false,none⟩
def ti265:TI:=⟨1,8,false,[.nilFunc],.func #[90] #[3] false,none⟩
def ti266:TI:=⟨1,24,false,[.slice none 0 0],.slice 371,none⟩
def ti267:TI:=⟨1,24,false,[.slice none 0 0],.slice 266,none⟩
def ti268:TI:=⟨6,112,true,[.int .i64 0,.int .i64 0,.slice none 0 0,.slice none 0 0,.slice none 0 0,.slice none 0 0],.struct #[⟨"HeatSetup",43,0,true,"","",0⟩,⟨"table",266,4,false,"","martensite/heat",64⟩,⟨"laws",267,5,false,"","martensite/heat",88⟩],none⟩
def ti269:TI:=⟨6,112,true,[.int .i64 0,.int .i64 0,.slice none 0 0,.slice none 0 0,.slice none 0 0,.slice none 0 0],.struct #[⟨"HeatSetup",43,0,true,"","",0⟩,⟨"table",266,4,false,"","martensite/heat",64⟩,⟨"laws",267,5,false,"","martensite/heat",88⟩],none⟩
def ti287:TI:=⟨3,24,true,[.int .i64 0,.int .i64 0,.int .i64 0],.struct #[⟨"Kelvin",3,0,false,"","",0⟩,⟨"Share",90,1,false,"","",8⟩],none⟩
def ti288:TI:=⟨3,24,true,[.int .i64 0,.int .i64 0,.int .i64 0],.struct #[⟨"Kelvin",3,0,false,"","",0⟩,⟨"Share",90,1,false,"","",8⟩],none⟩
def ti289:TI:=⟨1,8,false,[.pointer none],.pointer 216,none⟩
def ti299:TI:=⟨1,16,false,[.nilIface],.interface #[("Error",303)],none⟩
def ti300:TI:=⟨1,16,false,[.nilIface],.interface #[("Error",303)],none⟩
def ti304:TI:=⟨1,24,false,[.slice none 0 0],.slice 308,none⟩
def ti306:TI:=⟨1,8,false,[.nilFunc],.func #[126] #[3] false,none⟩
def ti307:TI:=⟨3,24,true,[.nilFunc,.int .i64 0,.int .i64 0],.struct #[⟨"value",306,0,false,"","martensite/recipe",0⟩,⟨"lo",3,1,false,"","martensite/recipe",8⟩,⟨"hi",3,2,false,"","martensite/recipe",16⟩],none⟩
def ti308:TI:=⟨3,24,true,[.nilFunc,.int .i64 0,.int .i64 0],.struct #[⟨"value",306,0,false,"","martensite/recipe",0⟩,⟨"lo",3,1,false,"","martensite/recipe",8⟩,⟨"hi",3,2,false,"","martensite/recipe",16⟩],none⟩
def ti309:TI:=⟨1,8,false,[.nilFunc],.func #[3,128] #[4] false,none⟩
def ti314:TI:=⟨5,40,true,[.int .i64 0,.int .i64 0,.int .i64 0,.int .i64 0,.int .i64 0],.struct #[⟨"Kelvin",3,0,false,"","",0⟩,⟨"Wait",90,1,false,"","",8⟩,⟨"Rate",90,3,false,"","",24⟩],none⟩
def ti315:TI:=⟨5,40,true,[.int .i64 0,.int .i64 0,.int .i64 0,.int .i64 0,.int .i64 0],.struct #[⟨"Kelvin",3,0,false,"","",0⟩,⟨"Wait",90,1,false,"","",8⟩,⟨"Rate",90,3,false,"","",24⟩],none⟩
def ti316:TI:=⟨2,16,true,[.int .i64 0,.int .i64 0],.struct #[⟨"Kelvin",3,0,false,"","",0⟩,⟨"Rate",3,1,false,"","",8⟩],none⟩
def ti317:TI:=⟨2,16,true,[.int .i64 0,.int .i64 0],.struct #[⟨"Kelvin",3,0,false,"","",0⟩,⟨"Rate",3,1,false,"","",8⟩],none⟩
def ti330:TI:=⟨8,64,true,[.int .i64 0,.int .i64 0,.int .i64 0,.int .i64 0,.int .i64 0,.int .i64 0,.int .i64 0,.int .i64 0],.array 4 90,none⟩
def ti336:TI:=⟨2,16,true,[.int .i64 0,.int .i64 0],.struct #[⟨"Num",3,0,false,"","",0⟩,⟨"Den",3,1,false,"","",8⟩],none⟩
def ti337:TI:=⟨2,16,true,[.int .i64 0,.int .i64 0],.struct #[⟨"Num",3,0,false,"","",0⟩,⟨"Den",3,1,false,"","",8⟩],none⟩
def ti345:TI:=⟨1,8,false,[.pointer none],.pointer 199,none⟩
def ti348:TI:=⟨1,8,false,[.pointer none],.pointer 315,none⟩
def ti350:TI:=⟨1,8,false,[.pointer none],.pointer 288,none⟩
def ti352:TI:=⟨1,8,false,[.nilFunc],.func #[3,3,3] #[3] false,none⟩
def ti353:TI:=⟨1,8,false,[.pointer none],.pointer 317,none⟩
def ti361:TI:=⟨1,8,false,[.pointer none],.pointer 3,none⟩
def ti362:TI:=⟨1,24,false,[.slice none 0 0],.slice 361,none⟩
def ti363:TI:=⟨1,8,false,[.map none],.map 3 362,none⟩
def ti370:TI:=⟨2,16,true,[.int .i64 0,.int .i64 0],.struct #[⟨"x",3,0,false,"","martensite/heat",0⟩,⟨"y",3,1,false,"","martensite/heat",8⟩],none⟩
def ti371:TI:=⟨2,16,true,[.int .i64 0,.int .i64 0],.struct #[⟨"x",3,0,false,"","martensite/heat",0⟩,⟨"y",3,1,false,"","martensite/heat",8⟩],none⟩
def ti372:TI:=⟨2,16,true,[.int .i64 0,.int .i64 0],.struct #[⟨"num",3,0,false,"","martensite/heat",0⟩,⟨"den",3,1,false,"","martensite/heat",8⟩],none⟩
def ti373:TI:=⟨2,16,true,[.int .i64 0,.int .i64 0],.struct #[⟨"num",3,0,false,"","martensite/heat",0⟩,⟨"den",3,1,false,"","martensite/heat",8⟩],none⟩
def ti376:TI:=⟨7,56,true,[.int .i64 0,.int .i64 0,.int .i64 0,.int .i64 0,.int .i64 0,.int .i64 0,.int .i64 0],.array 7 3,none⟩
def ti377:TI:=⟨1,8,false,[.pointer none],.pointer 90,none⟩
def ti378:TI:=⟨7,56,true,[.pointer none,.pointer none,.pointer none,.pointer none,.pointer none,.pointer none,.pointer none],.array 7 377,none⟩
def ti380:TI:=⟨1,8,false,[.pointer none],.pointer 170,none⟩
def ti394:TI:=⟨1,8,false,[.nilFunc],.func #[199] #[4] false,none⟩
def ti396:TI:=⟨1,8,false,[.nilFunc],.func #[315] #[4] false,none⟩
def ti398:TI:=⟨1,8,false,[.nilFunc],.func #[288] #[4] false,none⟩
def ti400:TI:=⟨1,8,false,[.nilFunc],.func #[317] #[4] false,none⟩
def ti401:TI:=⟨6,96,true,[.string .empty,.string .empty,.string .empty,.string .empty,.string .empty,.string .empty],.array 6 9,none⟩
def ti414:TI:=⟨1,8,false,[.nilFunc],.func #[371,373] #[3] false,none⟩
def ti419:TI:=⟨1,8,false,[.nilFunc],.func #[439] #[] false,none⟩
def ti420:TI:=⟨1,8,false,[.nilFunc],.func #[439] #[] false,none⟩
def ti424:TI:=⟨1,8,false,[.nilFunc],.func #[440] #[] false,none⟩
def ti425:TI:=⟨1,8,false,[.nilFunc],.func #[440] #[] false,none⟩
def ti429:TI:=⟨1,8,false,[.nilFunc],.func #[3] #[3] false,none⟩
def ti434:TI:=⟨1,8,false,[.int .u64 0],.int .u64,none⟩
def ti439:TI:=⟨1,8,false,[.nilFunc],.func #[3,199] #[4] false,none⟩
def ti440:TI:=⟨1,8,false,[.nilFunc],.func #[3,317] #[4] false,none⟩
def tyl:List (Nat×TI):=[(3,ti3),(4,ti4),(9,ti9),(20,ti20),(22,ti22),(25,ti25),(29,ti29),(40,ti40),(41,ti41),(42,ti42),(43,ti43),(44,ti44),(45,ti45),(46,ti46),(47,ti47),(48,ti48),(49,ti49),(50,ti50),(51,ti51),(52,ti52),(53,ti53),(54,ti54),(55,ti55),(56,ti56),(57,ti57),(58,ti58),(59,ti59),(60,ti60),(81,ti81),(85,ti85),(89,ti89),(90,ti90),(93,ti93),(94,ti94),(95,ti95),(96,ti96),(103,ti103),(104,ti104),(105,ti105),(114,ti114),(115,ti115),(125,ti125),(126,ti126),(127,ti127),(128,ti128),(140,ti140),(145,ti145),(151,ti151),(152,ti152),(153,ti153),(154,ti154),(163,ti163),(164,ti164),(169,ti169),(170,ti170),(183,ti183),(186,ti186),(187,ti187),(192,ti192),(193,ti193),(198,ti198),(199,ti199),(207,ti207),(210,ti210),(211,ti211),(212,ti212),(213,ti213),(215,ti215),(216,ti216),(220,ti220),(224,ti224),(226,ti226),(227,ti227),(229,ti229),(230,ti230),(235,ti235),(236,ti236),(238,ti238),(240,ti240),(241,ti241),(242,ti242),(250,ti250),(253,ti253),(260,ti260),(265,ti265),(266,ti266),(267,ti267),(268,ti268),(269,ti269),(287,ti287),(288,ti288),(289,ti289),(299,ti299),(300,ti300),(304,ti304),(306,ti306),(307,ti307),(308,ti308),(309,ti309),(314,ti314),(315,ti315),(316,ti316),(317,ti317),(330,ti330),(336,ti336),(337,ti337),(345,ti345),(348,ti348),(350,ti350),(352,ti352),(353,ti353),(361,ti361),(362,ti362),(363,ti363),(370,ti370),(371,ti371),(372,ti372),(373,ti373),(376,ti376),(377,ti377),(378,ti378),(380,ti380),(394,ti394),(396,ti396),(398,ti398),(400,ti400),(401,ti401),(414,ti414),(419,ti419),(420,ti420),(424,ti424),(425,ti425),(429,ti429),(434,ti434),(439,ti439),(440,ti440)]
def ty:Tys:=fun t=>lk tyl t
@[go_sem] theorem ty_3:ty 3=some ti3:=by kernel_rfl
@[go_sem] theorem ty_4:ty 4=some ti4:=by kernel_rfl
@[go_sem] theorem ty_9:ty 9=some ti9:=by kernel_rfl
@[go_sem] theorem ty_20:ty 20=some ti20:=by kernel_rfl
@[go_sem] theorem ty_22:ty 22=some ti22:=by kernel_rfl
@[go_sem] theorem ty_25:ty 25=some ti25:=by kernel_rfl
@[go_sem] theorem ty_29:ty 29=some ti29:=by kernel_rfl
@[go_sem] theorem ty_40:ty 40=some ti40:=by kernel_rfl
@[go_sem] theorem ty_41:ty 41=some ti41:=by kernel_rfl
@[go_sem] theorem ty_42:ty 42=some ti42:=by kernel_rfl
@[go_sem] theorem ty_43:ty 43=some ti43:=by kernel_rfl
@[go_sem] theorem ty_44:ty 44=some ti44:=by kernel_rfl
@[go_sem] theorem ty_45:ty 45=some ti45:=by kernel_rfl
@[go_sem] theorem ty_46:ty 46=some ti46:=by kernel_rfl
@[go_sem] theorem ty_47:ty 47=some ti47:=by kernel_rfl
@[go_sem] theorem ty_48:ty 48=some ti48:=by kernel_rfl
@[go_sem] theorem ty_49:ty 49=some ti49:=by kernel_rfl
@[go_sem] theorem ty_50:ty 50=some ti50:=by kernel_rfl
@[go_sem] theorem ty_51:ty 51=some ti51:=by kernel_rfl
@[go_sem] theorem ty_52:ty 52=some ti52:=by kernel_rfl
@[go_sem] theorem ty_53:ty 53=some ti53:=by kernel_rfl
@[go_sem] theorem ty_54:ty 54=some ti54:=by kernel_rfl
@[go_sem] theorem ty_55:ty 55=some ti55:=by kernel_rfl
@[go_sem] theorem ty_56:ty 56=some ti56:=by kernel_rfl
@[go_sem] theorem ty_57:ty 57=some ti57:=by kernel_rfl
@[go_sem] theorem ty_58:ty 58=some ti58:=by kernel_rfl
@[go_sem] theorem ty_59:ty 59=some ti59:=by kernel_rfl
@[go_sem] theorem ty_60:ty 60=some ti60:=by kernel_rfl
@[go_sem] theorem ty_81:ty 81=some ti81:=by kernel_rfl
@[go_sem] theorem ty_85:ty 85=some ti85:=by kernel_rfl
@[go_sem] theorem ty_89:ty 89=some ti89:=by kernel_rfl
@[go_sem] theorem ty_90:ty 90=some ti90:=by kernel_rfl
@[go_sem] theorem ty_93:ty 93=some ti93:=by kernel_rfl
@[go_sem] theorem ty_94:ty 94=some ti94:=by kernel_rfl
@[go_sem] theorem ty_95:ty 95=some ti95:=by kernel_rfl
@[go_sem] theorem ty_96:ty 96=some ti96:=by kernel_rfl
@[go_sem] theorem ty_103:ty 103=some ti103:=by kernel_rfl
@[go_sem] theorem ty_104:ty 104=some ti104:=by kernel_rfl
@[go_sem] theorem ty_105:ty 105=some ti105:=by kernel_rfl
@[go_sem] theorem ty_114:ty 114=some ti114:=by kernel_rfl
@[go_sem] theorem ty_115:ty 115=some ti115:=by kernel_rfl
@[go_sem] theorem ty_125:ty 125=some ti125:=by kernel_rfl
@[go_sem] theorem ty_126:ty 126=some ti126:=by kernel_rfl
@[go_sem] theorem ty_127:ty 127=some ti127:=by kernel_rfl
@[go_sem] theorem ty_128:ty 128=some ti128:=by kernel_rfl
@[go_sem] theorem ty_140:ty 140=some ti140:=by kernel_rfl
@[go_sem] theorem ty_145:ty 145=some ti145:=by kernel_rfl
@[go_sem] theorem ty_151:ty 151=some ti151:=by kernel_rfl
@[go_sem] theorem ty_152:ty 152=some ti152:=by kernel_rfl
@[go_sem] theorem ty_153:ty 153=some ti153:=by kernel_rfl
@[go_sem] theorem ty_154:ty 154=some ti154:=by kernel_rfl
@[go_sem] theorem ty_163:ty 163=some ti163:=by kernel_rfl
@[go_sem] theorem ty_164:ty 164=some ti164:=by kernel_rfl
@[go_sem] theorem ty_169:ty 169=some ti169:=by kernel_rfl
@[go_sem] theorem ty_170:ty 170=some ti170:=by kernel_rfl
@[go_sem] theorem ty_183:ty 183=some ti183:=by kernel_rfl
@[go_sem] theorem ty_186:ty 186=some ti186:=by kernel_rfl
@[go_sem] theorem ty_187:ty 187=some ti187:=by kernel_rfl
@[go_sem] theorem ty_192:ty 192=some ti192:=by kernel_rfl
@[go_sem] theorem ty_193:ty 193=some ti193:=by kernel_rfl
@[go_sem] theorem ty_198:ty 198=some ti198:=by kernel_rfl
@[go_sem] theorem ty_199:ty 199=some ti199:=by kernel_rfl
@[go_sem] theorem ty_207:ty 207=some ti207:=by kernel_rfl
@[go_sem] theorem ty_210:ty 210=some ti210:=by kernel_rfl
@[go_sem] theorem ty_211:ty 211=some ti211:=by kernel_rfl
@[go_sem] theorem ty_212:ty 212=some ti212:=by kernel_rfl
@[go_sem] theorem ty_213:ty 213=some ti213:=by kernel_rfl
@[go_sem] theorem ty_215:ty 215=some ti215:=by kernel_rfl
@[go_sem] theorem ty_216:ty 216=some ti216:=by kernel_rfl
@[go_sem] theorem ty_220:ty 220=some ti220:=by kernel_rfl
@[go_sem] theorem ty_224:ty 224=some ti224:=by kernel_rfl
@[go_sem] theorem ty_226:ty 226=some ti226:=by kernel_rfl
@[go_sem] theorem ty_227:ty 227=some ti227:=by kernel_rfl
@[go_sem] theorem ty_229:ty 229=some ti229:=by kernel_rfl
@[go_sem] theorem ty_230:ty 230=some ti230:=by kernel_rfl
@[go_sem] theorem ty_235:ty 235=some ti235:=by kernel_rfl
@[go_sem] theorem ty_236:ty 236=some ti236:=by kernel_rfl
@[go_sem] theorem ty_238:ty 238=some ti238:=by kernel_rfl
@[go_sem] theorem ty_240:ty 240=some ti240:=by kernel_rfl
@[go_sem] theorem ty_241:ty 241=some ti241:=by kernel_rfl
@[go_sem] theorem ty_242:ty 242=some ti242:=by kernel_rfl
@[go_sem] theorem ty_250:ty 250=some ti250:=by kernel_rfl
@[go_sem] theorem ty_253:ty 253=some ti253:=by kernel_rfl
@[go_sem] theorem ty_260:ty 260=some ti260:=by kernel_rfl
@[go_sem] theorem ty_265:ty 265=some ti265:=by kernel_rfl
@[go_sem] theorem ty_266:ty 266=some ti266:=by kernel_rfl
@[go_sem] theorem ty_267:ty 267=some ti267:=by kernel_rfl
@[go_sem] theorem ty_268:ty 268=some ti268:=by kernel_rfl
@[go_sem] theorem ty_269:ty 269=some ti269:=by kernel_rfl
@[go_sem] theorem ty_287:ty 287=some ti287:=by kernel_rfl
@[go_sem] theorem ty_288:ty 288=some ti288:=by kernel_rfl
@[go_sem] theorem ty_289:ty 289=some ti289:=by kernel_rfl
@[go_sem] theorem ty_299:ty 299=some ti299:=by kernel_rfl
@[go_sem] theorem ty_300:ty 300=some ti300:=by kernel_rfl
@[go_sem] theorem ty_304:ty 304=some ti304:=by kernel_rfl
@[go_sem] theorem ty_306:ty 306=some ti306:=by kernel_rfl
@[go_sem] theorem ty_307:ty 307=some ti307:=by kernel_rfl
@[go_sem] theorem ty_308:ty 308=some ti308:=by kernel_rfl
@[go_sem] theorem ty_309:ty 309=some ti309:=by kernel_rfl
@[go_sem] theorem ty_314:ty 314=some ti314:=by kernel_rfl
@[go_sem] theorem ty_315:ty 315=some ti315:=by kernel_rfl
@[go_sem] theorem ty_316:ty 316=some ti316:=by kernel_rfl
@[go_sem] theorem ty_317:ty 317=some ti317:=by kernel_rfl
@[go_sem] theorem ty_330:ty 330=some ti330:=by kernel_rfl
@[go_sem] theorem ty_336:ty 336=some ti336:=by kernel_rfl
@[go_sem] theorem ty_337:ty 337=some ti337:=by kernel_rfl
@[go_sem] theorem ty_345:ty 345=some ti345:=by kernel_rfl
@[go_sem] theorem ty_348:ty 348=some ti348:=by kernel_rfl
@[go_sem] theorem ty_350:ty 350=some ti350:=by kernel_rfl
@[go_sem] theorem ty_352:ty 352=some ti352:=by kernel_rfl
@[go_sem] theorem ty_353:ty 353=some ti353:=by kernel_rfl
@[go_sem] theorem ty_361:ty 361=some ti361:=by kernel_rfl
@[go_sem] theorem ty_362:ty 362=some ti362:=by kernel_rfl
@[go_sem] theorem ty_363:ty 363=some ti363:=by kernel_rfl
@[go_sem] theorem ty_370:ty 370=some ti370:=by kernel_rfl
@[go_sem] theorem ty_371:ty 371=some ti371:=by kernel_rfl
@[go_sem] theorem ty_372:ty 372=some ti372:=by kernel_rfl
@[go_sem] theorem ty_373:ty 373=some ti373:=by kernel_rfl
@[go_sem] theorem ty_376:ty 376=some ti376:=by kernel_rfl
@[go_sem] theorem ty_377:ty 377=some ti377:=by kernel_rfl
@[go_sem] theorem ty_378:ty 378=some ti378:=by kernel_rfl
@[go_sem] theorem ty_380:ty 380=some ti380:=by kernel_rfl
@[go_sem] theorem ty_394:ty 394=some ti394:=by kernel_rfl
@[go_sem] theorem ty_396:ty 396=some ti396:=by kernel_rfl
@[go_sem] theorem ty_398:ty 398=some ti398:=by kernel_rfl
@[go_sem] theorem ty_400:ty 400=some ti400:=by kernel_rfl
@[go_sem] theorem ty_401:ty 401=some ti401:=by kernel_rfl
@[go_sem] theorem ty_414:ty 414=some ti414:=by kernel_rfl
@[go_sem] theorem ty_419:ty 419=some ti419:=by kernel_rfl
@[go_sem] theorem ty_420:ty 420=some ti420:=by kernel_rfl
@[go_sem] theorem ty_424:ty 424=some ti424:=by kernel_rfl
@[go_sem] theorem ty_425:ty 425=some ti425:=by kernel_rfl
@[go_sem] theorem ty_429:ty 429=some ti429:=by kernel_rfl
@[go_sem] theorem ty_434:ty 434=some ti434:=by kernel_rfl
@[go_sem] theorem ty_439:ty 439=some ti439:=by kernel_rfl
@[go_sem] theorem ty_440:ty 440=some ti440:=by kernel_rfl
attribute [go_sem] ti3 ti4 ti9 ti20 ti22 ti25 ti29 ti40 ti41 ti42 ti43 ti44 ti45 ti46 ti47 ti48 ti49 ti50 ti51 ti52 ti53 ti54 ti55 ti56 ti57 ti58 ti59 ti60 ti81 ti85 ti89 ti90 ti93 ti94 ti95 ti96 ti103 ti104 ti105 ti114 ti115 ti125 ti126 ti127 ti128 ti140 ti145 ti151 ti152 ti153 ti154 ti163 ti164 ti169 ti170 ti183 ti186 ti187 ti192 ti193 ti198 ti199 ti207 ti210 ti211 ti212 ti213 ti215 ti216 ti220 ti224 ti226 ti227 ti229 ti230 ti235 ti236 ti238 ti240 ti241 ti242 ti250 ti253 ti260 ti265 ti266 ti267 ti268 ti269 ti287 ti288 ti289 ti299 ti300 ti304 ti306 ti307 ti308 ti309 ti314 ti315 ti316 ti317 ti330 ti336 ti337 ti345 ti348 ti350 ti352 ti353 ti361 ti362 ti363 ti370 ti371 ti372 ti373 ti376 ti377 ti378 ti380 ti394 ti396 ti398 ti400 ti401 ti414 ti419 ti420 ti424 ti425 ti429 ti434 ti439 ti440
def zv (i:TI):Value:=if i.agg=true then .agg i.zero.toArray else i.zero.headD .nilFunc
theorem fact {t:Nat} {i:TI} (he:∀ n,i.eqn=some n→EqOk Tryz.prog t n:=by (intro n hn; cases hn; done)) (h1:(Tryz.prog.info? t).map (fun i=>(i.size,i.bytes,i.zero))=some (i.size,i.bytes,some (zv i)):=by kernel_rfl) (h2:Tryz.prog.underlying t=some i.desc:=by kernel_rfl) (hz:(zv i).cells.toList=i.zero:=by rfl)
 (ha:i.agg=(match i.desc with | .struct _ | .array _ _=>true | _=>false):=by rfl) (ho:i.agg=false→i.size=1:=by first | (intro _; rfl) | (intro h; cases h)) (hl:i.zero.length=i.size:=by rfl):TyFact Tryz.prog t i:=by
 have key:∃ info,Tryz.prog.info? t=some info∧info.size=i.size∧info.bytes=i.bytes∧info.zero=some (zv i):=by
  cases hi:Tryz.prog.info? t with
  | none=>rw [hi] at h1; cases h1
  | some info=>
   rw [hi] at h1
   simp only [Option.map_some,Option.some.injEq,Prod.mk.injEq] at h1
   exact ⟨info,rfl,h1.1,h1.2.1,h1.2.2⟩
 obtain ⟨info,k1,k2,k3,k4⟩:=key
 exact ⟨⟨info,zv i,k1,k2,k3,k4,hz⟩,h2,ha,ho,hl,he,fun h=>⟨info,k1,by rw [k4]; simp [zv,h]⟩⟩
theorem eq90:EqOk Tryz.prog 90 [true,true] where
 guard:=by kernel_rfl
 run:=by
  intro xs ys w h1 h2
  obtain ⟨a0,xs0,rfl,h1_0⟩:=kindsI h1
  obtain ⟨b0,ys0,rfl,h2_0⟩:=kindsI h2
  obtain ⟨a1,xs1,rfl,h1_1⟩:=kindsI h1_0
  obtain ⟨b1,ys1,rfl,h2_1⟩:=kindsI h2_0
  obtain rfl:=kindsN h1_1
  obtain rfl:=kindsN h2_1
  have u3:Tryz.prog.underlying 3=some (.int .i64):=by kernel_rfl
  have u90:Tryz.prog.underlying 90=some (.struct #[⟨"Lo",3,0,false,"","",0⟩,⟨"Hi",3,1,false,"","",8⟩]):=by kernel_rfl
  have g90:Tryz.prog.stoodInHeld 90=false:=by kernel_rfl
  have v90:Tryz.prog.underlying 90=some (.struct (Tryz.prog.fieldsOf 90)):=by kernel_rfl
  have w90:(Tryz.prog.fieldsOf 90).toList=[⟨"Lo",3,0,false,"","",0⟩,⟨"Hi",3,1,false,"","",8⟩]:=by kernel_rfl
  have s90:∀ w,(sizeOf 90).run Tryz.prog w= .ok 2 w:=fun _=>by kernel_rfl
  have p3:∀ w,(isAgg 3).run Tryz.prog w= .ok false w:=fun _=>by kernel_rfl
  have p90:∀ w,(isAgg 90).run Tryz.prog w= .ok true w:=fun _=>by kernel_rfl
  have e3:∀ (d:Nat) (a b:Int) (w:World),(Op.equalIn (d+1) 3 (.int .i64 a) (.int .i64 b)).run Tryz.prog w= .ok (a == b) w:=fun d a b w=>run_equalIn_int w d 3 .i64 .i64 a b u3
  have e90:∀ (d:Nat) (xs ys:Array Value) (w:World),(Op.equalIn (d+1) 90 (.agg xs) (.agg ys)).run Tryz.prog w=(Op.eqFields d xs ys (Tryz.prog.fieldsOf 90).toList).run Tryz.prog w:=fun d xs ys w=>run_equalIn_struct w d 90 xs ys v90 g90
  simp [evs,EV.val,e3,e90,Op.eqFields,part,g90,w90,s90,p3,p90]
  try grind
theorem tf3:TyFact Tryz.prog 3 ti3:=fact
theorem tf4:TyFact Tryz.prog 4 ti4:=fact
theorem tf9:TyFact Tryz.prog 9 ti9:=fact
theorem tf20:TyFact Tryz.prog 20 ti20:=fact
theorem tf22:TyFact Tryz.prog 22 ti22:=fact
theorem tf25:TyFact Tryz.prog 25 ti25:=fact
theorem tf29:TyFact Tryz.prog 29 ti29:=fact
theorem tf40:TyFact Tryz.prog 40 ti40:=fact
theorem tf41:TyFact Tryz.prog 41 ti41:=fact
theorem tf42:TyFact Tryz.prog 42 ti42:=fact
theorem tf43:TyFact Tryz.prog 43 ti43:=fact
theorem tf44:TyFact Tryz.prog 44 ti44:=fact
theorem tf45:TyFact Tryz.prog 45 ti45:=fact
theorem tf46:TyFact Tryz.prog 46 ti46:=fact
theorem tf47:TyFact Tryz.prog 47 ti47:=fact
theorem tf48:TyFact Tryz.prog 48 ti48:=fact
theorem tf49:TyFact Tryz.prog 49 ti49:=fact
theorem tf50:TyFact Tryz.prog 50 ti50:=fact
theorem tf51:TyFact Tryz.prog 51 ti51:=fact
theorem tf52:TyFact Tryz.prog 52 ti52:=fact
theorem tf53:TyFact Tryz.prog 53 ti53:=fact
theorem tf54:TyFact Tryz.prog 54 ti54:=fact
theorem tf55:TyFact Tryz.prog 55 ti55:=fact
theorem tf56:TyFact Tryz.prog 56 ti56:=fact
theorem tf57:TyFact Tryz.prog 57 ti57:=fact
theorem tf58:TyFact Tryz.prog 58 ti58:=fact
theorem tf59:TyFact Tryz.prog 59 ti59:=fact
theorem tf60:TyFact Tryz.prog 60 ti60:=fact
theorem tf81:TyFact Tryz.prog 81 ti81:=fact
theorem tf85:TyFact Tryz.prog 85 ti85:=fact
theorem tf89:TyFact Tryz.prog 89 ti89:=fact
theorem tf90:TyFact Tryz.prog 90 ti90:=fact (fun n hn=>by obtain rfl:=Option.some.inj hn; exact eq90)
theorem tf93:TyFact Tryz.prog 93 ti93:=fact
theorem tf94:TyFact Tryz.prog 94 ti94:=fact
theorem tf95:TyFact Tryz.prog 95 ti95:=fact
theorem tf96:TyFact Tryz.prog 96 ti96:=fact
theorem tf103:TyFact Tryz.prog 103 ti103:=fact
theorem tf104:TyFact Tryz.prog 104 ti104:=fact
theorem tf105:TyFact Tryz.prog 105 ti105:=fact
theorem tf114:TyFact Tryz.prog 114 ti114:=fact
theorem tf115:TyFact Tryz.prog 115 ti115:=fact
theorem tf125:TyFact Tryz.prog 125 ti125:=fact
theorem tf126:TyFact Tryz.prog 126 ti126:=fact
theorem tf127:TyFact Tryz.prog 127 ti127:=fact
theorem tf128:TyFact Tryz.prog 128 ti128:=fact
theorem tf140:TyFact Tryz.prog 140 ti140:=fact
theorem tf145:TyFact Tryz.prog 145 ti145:=fact
theorem tf151:TyFact Tryz.prog 151 ti151:=fact
theorem tf152:TyFact Tryz.prog 152 ti152:=fact
theorem tf153:TyFact Tryz.prog 153 ti153:=fact
theorem tf154:TyFact Tryz.prog 154 ti154:=fact
theorem tf163:TyFact Tryz.prog 163 ti163:=fact
theorem tf164:TyFact Tryz.prog 164 ti164:=fact
theorem tf169:TyFact Tryz.prog 169 ti169:=fact
theorem tf170:TyFact Tryz.prog 170 ti170:=fact
theorem tf183:TyFact Tryz.prog 183 ti183:=fact
theorem tf186:TyFact Tryz.prog 186 ti186:=fact
theorem tf187:TyFact Tryz.prog 187 ti187:=fact
theorem tf192:TyFact Tryz.prog 192 ti192:=fact
theorem tf193:TyFact Tryz.prog 193 ti193:=fact
theorem tf198:TyFact Tryz.prog 198 ti198:=fact
theorem tf199:TyFact Tryz.prog 199 ti199:=fact
theorem tf207:TyFact Tryz.prog 207 ti207:=fact
theorem tf210:TyFact Tryz.prog 210 ti210:=fact
theorem tf211:TyFact Tryz.prog 211 ti211:=fact
theorem tf212:TyFact Tryz.prog 212 ti212:=fact
theorem tf213:TyFact Tryz.prog 213 ti213:=fact
theorem tf215:TyFact Tryz.prog 215 ti215:=fact
theorem tf216:TyFact Tryz.prog 216 ti216:=fact
theorem tf220:TyFact Tryz.prog 220 ti220:=fact
theorem tf224:TyFact Tryz.prog 224 ti224:=fact
theorem tf226:TyFact Tryz.prog 226 ti226:=fact
theorem tf227:TyFact Tryz.prog 227 ti227:=fact
theorem tf229:TyFact Tryz.prog 229 ti229:=fact
theorem tf230:TyFact Tryz.prog 230 ti230:=fact
theorem tf235:TyFact Tryz.prog 235 ti235:=fact
theorem tf236:TyFact Tryz.prog 236 ti236:=fact
theorem tf238:TyFact Tryz.prog 238 ti238:=fact
theorem tf240:TyFact Tryz.prog 240 ti240:=fact
theorem tf241:TyFact Tryz.prog 241 ti241:=fact
theorem tf242:TyFact Tryz.prog 242 ti242:=fact
theorem tf250:TyFact Tryz.prog 250 ti250:=fact
theorem tf253:TyFact Tryz.prog 253 ti253:=fact
theorem tf260:TyFact Tryz.prog 260 ti260:=fact
theorem tf265:TyFact Tryz.prog 265 ti265:=fact
theorem tf266:TyFact Tryz.prog 266 ti266:=fact
theorem tf267:TyFact Tryz.prog 267 ti267:=fact
theorem tf268:TyFact Tryz.prog 268 ti268:=fact
theorem tf269:TyFact Tryz.prog 269 ti269:=fact
theorem tf287:TyFact Tryz.prog 287 ti287:=fact
theorem tf288:TyFact Tryz.prog 288 ti288:=fact
theorem tf289:TyFact Tryz.prog 289 ti289:=fact
theorem tf299:TyFact Tryz.prog 299 ti299:=fact
theorem tf300:TyFact Tryz.prog 300 ti300:=fact
theorem tf304:TyFact Tryz.prog 304 ti304:=fact
theorem tf306:TyFact Tryz.prog 306 ti306:=fact
theorem tf307:TyFact Tryz.prog 307 ti307:=fact
theorem tf308:TyFact Tryz.prog 308 ti308:=fact
theorem tf309:TyFact Tryz.prog 309 ti309:=fact
theorem tf314:TyFact Tryz.prog 314 ti314:=fact
theorem tf315:TyFact Tryz.prog 315 ti315:=fact
theorem tf316:TyFact Tryz.prog 316 ti316:=fact
theorem tf317:TyFact Tryz.prog 317 ti317:=fact
theorem tf330:TyFact Tryz.prog 330 ti330:=fact
theorem tf336:TyFact Tryz.prog 336 ti336:=fact
theorem tf337:TyFact Tryz.prog 337 ti337:=fact
theorem tf345:TyFact Tryz.prog 345 ti345:=fact
theorem tf348:TyFact Tryz.prog 348 ti348:=fact
theorem tf350:TyFact Tryz.prog 350 ti350:=fact
theorem tf352:TyFact Tryz.prog 352 ti352:=fact
theorem tf353:TyFact Tryz.prog 353 ti353:=fact
theorem tf361:TyFact Tryz.prog 361 ti361:=fact
theorem tf362:TyFact Tryz.prog 362 ti362:=fact
theorem tf363:TyFact Tryz.prog 363 ti363:=fact
theorem tf370:TyFact Tryz.prog 370 ti370:=fact
theorem tf371:TyFact Tryz.prog 371 ti371:=fact
theorem tf372:TyFact Tryz.prog 372 ti372:=fact
theorem tf373:TyFact Tryz.prog 373 ti373:=fact
theorem tf376:TyFact Tryz.prog 376 ti376:=fact
theorem tf377:TyFact Tryz.prog 377 ti377:=fact
theorem tf378:TyFact Tryz.prog 378 ti378:=fact
theorem tf380:TyFact Tryz.prog 380 ti380:=fact
theorem tf394:TyFact Tryz.prog 394 ti394:=fact
theorem tf396:TyFact Tryz.prog 396 ti396:=fact
theorem tf398:TyFact Tryz.prog 398 ti398:=fact
theorem tf400:TyFact Tryz.prog 400 ti400:=fact
theorem tf401:TyFact Tryz.prog 401 ti401:=fact
theorem tf414:TyFact Tryz.prog 414 ti414:=fact
theorem tf419:TyFact Tryz.prog 419 ti419:=fact
theorem tf420:TyFact Tryz.prog 420 ti420:=fact
theorem tf424:TyFact Tryz.prog 424 ti424:=fact
theorem tf425:TyFact Tryz.prog 425 ti425:=fact
theorem tf429:TyFact Tryz.prog 429 ti429:=fact
theorem tf434:TyFact Tryz.prog 434 ti434:=fact
theorem tf439:TyFact Tryz.prog 439 ti439:=fact
theorem tf440:TyFact Tryz.prog 440 ti440:=fact
def Facts:List (Nat×TI)→Prop
 | []=>True
 | p::r=>TyFact Tryz.prog p.1 p.2∧Facts r
theorem facts_get:∀ {l:List (Nat×TI)},Facts l→∀ t i,lk l t=some i→TyFact Tryz.prog t i
 | [],_,_,_,h=>by cases h
 | (k,x)::r,h,t,i,hi=>by
  simp only [lk] at hi
  split at hi
  ·rename_i e; subst e; obtain rfl:=Option.some.inj hi; exact h.1
  ·exact facts_get h.2 t i hi
theorem ty_ok:TyOk Tryz.prog ty:=facts_get (l:=tyl) ⟨tf3,tf4,tf9,tf20,tf22,tf25,tf29,tf40,tf41,tf42,tf43,tf44,tf45,tf46,tf47,tf48,tf49,tf50,tf51,tf52,tf53,tf54,tf55,tf56,tf57,tf58,tf59,tf60,tf81,tf85,tf89,tf90,tf93,tf94,tf95,tf96,tf103,tf104,tf105,tf114,tf115,tf125,tf126,tf127,tf128,tf140,tf145,tf151,tf152,tf153,tf154,tf163,tf164,tf169,tf170,tf183,tf186,tf187,tf192,tf193,tf198,tf199,tf207,tf210,tf211,tf212,tf213,tf215,tf216,tf220,tf224,tf226,tf227,tf229,tf230,tf235,tf236,tf238,tf240,tf241,tf242,tf250,tf253,tf260,tf265,tf266,tf267,tf268,tf269,tf287,tf288,tf289,tf299,tf300,tf304,tf306,tf307,tf308,tf309,tf314,tf315,tf316,tf317,tf330,tf336,tf337,tf345,tf348,tf350,tf352,tf353,tf361,tf362,tf363,tf370,tf371,tf372,tf373,tf376,tf377,tf378,tf380,tf394,tf396,tf398,tf400,tf401,tf414,tf419,tf420,tf424,tf425,tf429,tf434,tf439,tf440,trivial⟩
end Go.Proofs.YtnepigpnlnmlmaaGreatDoor
