/-
  The types of the translation, as the abstract machine uses them: a table, and that it agrees with the program's. Written by a program of ours (gen_ty.py).
-/
import Derived.Test.YthldpejmofhaoaaGreatDoorProg
import Derived.Test.YthldpejmofhaoaaGreatDoorAbsC
import Derived.KernelRfl
set_option linter.unusedSimpArgs false
set_option linter.unusedVariables false
namespace Go.Proofs.YthldpejmofhaoaaGreatDoor
open Go.Abs
def ti3:TI:=⟨1,8,false,[.int .i64 0],.int .i64,none⟩
def ti4:TI:=⟨1,1,false,[.bool false],.bool,none⟩
def ti9:TI:=⟨1,16,false,[.string .empty],.string,none⟩
def ti20:TI:=⟨1,16,false,[.nilIface],.interface #[],none⟩
def ti21:TI:=⟨1,4,false,[.int .i32 0],.int .i32,none⟩
def ti22:TI:=⟨1,24,false,[.slice none 0 0],.slice 159,none⟩
def ti23:TI:=⟨1,24,false,[.slice none 0 0],.slice 142,none⟩
def ti24:TI:=⟨4,64,true,[.int .i64 0,.int .i64 0,.slice none 0 0,.slice none 0 0],.struct #[⟨"Cells",3,0,false,"","",0⟩,⟨"Exchange",3,1,false,"","",8⟩,⟨"Table",22,2,false,"","",16⟩,⟨"Laws",23,3,false,"","",40⟩],none⟩
def ti25:TI:=⟨4,64,true,[.int .i64 0,.int .i64 0,.slice none 0 0,.slice none 0 0],.struct #[⟨"Cells",3,0,false,"","",0⟩,⟨"Exchange",3,1,false,"","",8⟩,⟨"Table",22,2,false,"","",16⟩,⟨"Laws",23,3,false,"","",40⟩],none⟩
def ti26:TI:=⟨1,24,false,[.slice none 0 0],.slice 3,none⟩
def ti27:TI:=⟨2,32,true,[.slice none 0 0,.int .i64 0],.struct #[⟨"Powers",26,0,false,"","",0⟩,⟨"Law",3,1,false,"","",24⟩],none⟩
def ti28:TI:=⟨2,32,true,[.slice none 0 0,.int .i64 0],.struct #[⟨"Powers",26,0,false,"","",0⟩,⟨"Law",3,1,false,"","",24⟩],none⟩
def ti39:TI:=⟨1,8,false,[.int .i64 0],.int .i64,none⟩
def ti49:TI:=⟨1,24,false,[.slice none 0 0],.slice 28,none⟩
def ti51:TI:=⟨4,32,true,[.int .i64 0,.int .i64 0,.int .i64 0,.int .i64 0],.struct #[⟨"Before",3,0,false,"","",0⟩,⟨"In",3,1,false,"","",8⟩,⟨"Lost",3,2,false,"","",16⟩,⟨"After",3,3,false,"","",24⟩],none⟩
def ti52:TI:=⟨4,32,true,[.int .i64 0,.int .i64 0,.int .i64 0,.int .i64 0],.struct #[⟨"Before",3,0,false,"","",0⟩,⟨"In",3,1,false,"","",8⟩,⟨"Lost",3,2,false,"","",16⟩,⟨"After",3,3,false,"","",24⟩],none⟩
def ti56:TI:=⟨1,24,false,[.slice none 0 0],.slice 26,none⟩
def ti62:TI:=⟨1,24,false,[.slice none 0 0],.slice 207,none⟩
def ti63:TI:=⟨2,32,true,[.int .i64 0,.slice none 0 0],.struct #[⟨"Turns",3,0,false,"","",0⟩,⟨"Shells",62,1,false,"","",8⟩],none⟩
def ti64:TI:=⟨2,32,true,[.int .i64 0,.slice none 0 0],.struct #[⟨"Turns",3,0,false,"","",0⟩,⟨"Shells",62,1,false,"","",8⟩],none⟩
def ti65:TI:=⟨1,24,false,[.slice none 0 0],.slice 115,none⟩
def ti66:TI:=⟨3,56,true,[.int .i64 0,.slice none 0 0,.slice none 0 0],.struct #[⟨"Ladder",64,0,false,"","",0⟩,⟨"Conductances",65,2,false,"","",32⟩],none⟩
def ti67:TI:=⟨3,56,true,[.int .i64 0,.slice none 0 0,.slice none 0 0],.struct #[⟨"Ladder",64,0,false,"","",0⟩,⟨"Conductances",65,2,false,"","",32⟩],none⟩
def ti68:TI:=⟨7,72,true,[.slice none 0 0,.int .i64 0,.int .i64 0,.int .i64 0,.int .i64 0,.int .i64 0,.int .i64 0],.struct #[⟨"Begin",26,0,false,"","",0⟩,⟨"Frequency",3,1,false,"","",24⟩,⟨"Total",3,2,false,"","",32⟩,⟨"Ticks",3,3,false,"","",40⟩,⟨"Curie",3,4,false,"","",48⟩,⟨"Law",3,5,false,"","",56⟩,⟨"Part",3,6,false,"","",64⟩],none⟩
def ti69:TI:=⟨7,72,true,[.slice none 0 0,.int .i64 0,.int .i64 0,.int .i64 0,.int .i64 0,.int .i64 0,.int .i64 0],.struct #[⟨"Begin",26,0,false,"","",0⟩,⟨"Frequency",3,1,false,"","",24⟩,⟨"Total",3,2,false,"","",32⟩,⟨"Ticks",3,3,false,"","",40⟩,⟨"Curie",3,4,false,"","",48⟩,⟨"Law",3,5,false,"","",56⟩,⟨"Part",3,6,false,"","",64⟩],none⟩
def ti76:TI:=⟨2,16,true,[.int .i64 0,.int .i64 0],.struct #[⟨"Num",3,0,false,"","",0⟩,⟨"Den",3,1,false,"","",8⟩],none⟩
def ti77:TI:=⟨2,16,true,[.int .i64 0,.int .i64 0],.struct #[⟨"Num",3,0,false,"","",0⟩,⟨"Den",3,1,false,"","",8⟩],none⟩
def ti81:TI:=⟨1,24,false,[.slice none 0 0],.slice 4,none⟩
def ti87:TI:=⟨2,32,true,[.int .i64 0,.slice none 0 0],.struct #[⟨"Frequency",3,0,false,"","",0⟩,⟨"Hot",81,1,false,"","",8⟩],none⟩
def ti88:TI:=⟨2,32,true,[.int .i64 0,.slice none 0 0],.struct #[⟨"Frequency",3,0,false,"","",0⟩,⟨"Hot",81,1,false,"","",8⟩],none⟩
def ti114:TI:=⟨2,16,true,[.int .i64 0,.int .i64 0],.struct #[⟨"Lo",3,0,false,"","",0⟩,⟨"Hi",3,1,false,"","",8⟩],none⟩
def ti115:TI:=⟨2,16,true,[.int .i64 0,.int .i64 0],.struct #[⟨"Lo",3,0,false,"","",0⟩,⟨"Hi",3,1,false,"","",8⟩],some [true,true]⟩
def ti138:TI:=⟨3,24,true,[.int .i64 0,.int .i64 0,.int .i64 0],.struct #[⟨"Start",3,0,false,"","",0⟩,⟨"Gain",3,1,false,"","",8⟩,⟨"Boiling",3,2,false,"","",16⟩],none⟩
def ti139:TI:=⟨3,24,true,[.int .i64 0,.int .i64 0,.int .i64 0],.struct #[⟨"Start",3,0,false,"","",0⟩,⟨"Gain",3,1,false,"","",8⟩,⟨"Boiling",3,2,false,"","",16⟩],none⟩
def ti142:TI:=⟨1,24,false,[.slice none 0 0],.slice 161,none⟩
def ti149:TI:=⟨2,16,true,[.int .i64 0,.int .i64 0],.struct #[⟨"x",3,0,false,"","martensite/heat",0⟩,⟨"y",3,1,false,"","martensite/heat",8⟩],none⟩
def ti150:TI:=⟨2,16,true,[.int .i64 0,.int .i64 0],.struct #[⟨"x",3,0,false,"","martensite/heat",0⟩,⟨"y",3,1,false,"","martensite/heat",8⟩],none⟩
def ti153:TI:=⟨1,24,false,[.slice none 0 0],.slice 9,none⟩
def ti155:TI:=⟨1,24,false,[.slice none 0 0],.slice 150,none⟩
def ti158:TI:=⟨2,16,true,[.int .i64 0,.int .i64 0],.struct #[⟨"Energy",3,0,false,"","",0⟩,⟨"Kelvin",3,1,false,"","",8⟩],none⟩
def ti159:TI:=⟨2,16,true,[.int .i64 0,.int .i64 0],.struct #[⟨"Energy",3,0,false,"","",0⟩,⟨"Kelvin",3,1,false,"","",8⟩],some [true,true]⟩
def ti160:TI:=⟨2,16,true,[.int .i64 0,.int .i64 0],.struct #[⟨"Kelvin",3,0,false,"","",0⟩,⟨"Loss",3,1,false,"","",8⟩],none⟩
def ti161:TI:=⟨2,16,true,[.int .i64 0,.int .i64 0],.struct #[⟨"Kelvin",3,0,false,"","",0⟩,⟨"Loss",3,1,false,"","",8⟩],some [true,true]⟩
def ti168:TI:=⟨1,24,false,[.slice none 0 0],.slice 155,none⟩
def ti169:TI:=⟨6,112,true,[.int .i64 0,.int .i64 0,.slice none 0 0,.slice none 0 0,.slice none 0 0,.slice none 0 0],.struct #[⟨"HeatSetup",25,0,true,"","",0⟩,⟨"table",155,4,false,"","martensite/heat",64⟩,⟨"laws",168,5,false,"","martensite/heat",88⟩],none⟩
def ti170:TI:=⟨6,112,true,[.int .i64 0,.int .i64 0,.slice none 0 0,.slice none 0 0,.slice none 0 0,.slice none 0 0],.struct #[⟨"HeatSetup",25,0,true,"","",0⟩,⟨"table",155,4,false,"","martensite/heat",64⟩,⟨"laws",168,5,false,"","martensite/heat",88⟩],none⟩
def ti182:TI:=⟨2,48,true,[.slice none 0 0,.slice none 0 0],.struct #[⟨"Lo",26,0,false,"","",0⟩,⟨"Hi",26,1,false,"","",24⟩],none⟩
def ti183:TI:=⟨2,48,true,[.slice none 0 0,.slice none 0 0],.struct #[⟨"Lo",26,0,false,"","",0⟩,⟨"Hi",26,1,false,"","",24⟩],none⟩
def ti185:TI:=⟨3,40,true,[.slice none 0 0,.int .i64 0,.int .i64 0],.struct #[⟨"Powers",65,0,false,"","",0⟩,⟨"Laws",115,1,false,"","",24⟩],none⟩
def ti186:TI:=⟨3,40,true,[.slice none 0 0,.int .i64 0,.int .i64 0],.struct #[⟨"Powers",65,0,false,"","",0⟩,⟨"Laws",115,1,false,"","",24⟩],none⟩
def ti197:TI:=⟨2,16,true,[.int .i64 0,.int .i64 0],.struct #[⟨"Re",3,0,false,"","",0⟩,⟨"Im",3,1,false,"","",8⟩],none⟩
def ti198:TI:=⟨2,16,true,[.int .i64 0,.int .i64 0],.struct #[⟨"Re",3,0,false,"","",0⟩,⟨"Im",3,1,false,"","",8⟩],some [true,true]⟩
def ti199:TI:=⟨4,32,true,[.int .i64 0,.int .i64 0,.int .i64 0,.int .i64 0],.struct #[⟨"Num",198,0,false,"","",0⟩,⟨"Den",198,2,false,"","",16⟩],none⟩
def ti200:TI:=⟨4,32,true,[.int .i64 0,.int .i64 0,.int .i64 0,.int .i64 0],.struct #[⟨"Num",198,0,false,"","",0⟩,⟨"Den",198,2,false,"","",16⟩],some [true,true,true,true]⟩
def ti206:TI:=⟨3,24,true,[.int .i64 0,.int .i64 0,.int .i64 0],.struct #[⟨"Conductance",3,0,false,"","",0⟩,⟨"Cold",3,1,false,"","",8⟩,⟨"Hot",3,2,false,"","",16⟩],none⟩
def ti207:TI:=⟨3,24,true,[.int .i64 0,.int .i64 0,.int .i64 0],.struct #[⟨"Conductance",3,0,false,"","",0⟩,⟨"Cold",3,1,false,"","",8⟩,⟨"Hot",3,2,false,"","",16⟩],some [true,true,true]⟩
def ti209:TI:=⟨3,24,true,[.int .i64 0,.int .i64 0,.int .i64 0],.array 3 3,none⟩
def ti211:TI:=⟨1,8,false,[.nilFunc],.func #[3] #[4] false,none⟩
def ti212:TI:=⟨2,16,true,[.int .i64 0,.int .i64 0],.struct #[⟨"num",3,0,false,"","martensite/heat",0⟩,⟨"den",3,1,false,"","martensite/heat",8⟩],none⟩
def ti213:TI:=⟨2,16,true,[.int .i64 0,.int .i64 0],.struct #[⟨"num",3,0,false,"","martensite/heat",0⟩,⟨"den",3,1,false,"","martensite/heat",8⟩],none⟩
def ti216:TI:=⟨2,48,true,[.slice none 0 0,.slice none 0 0],.struct #[⟨"conductances",26,0,false,"","martensite/field",0⟩,⟨"reactances",26,1,false,"","martensite/field",24⟩],none⟩
def ti217:TI:=⟨2,48,true,[.slice none 0 0,.slice none 0 0],.struct #[⟨"conductances",26,0,false,"","martensite/field",0⟩,⟨"reactances",26,1,false,"","martensite/field",24⟩],none⟩
def ti224:TI:=⟨1,24,false,[.slice none 0 0],.slice 64,none⟩
def ti272:TI:=⟨1,8,false,[.nilFunc],.func #[378] #[] false,none⟩
def ti273:TI:=⟨1,8,false,[.nilFunc],.func #[378] #[] false,none⟩
def ti282:TI:=⟨1,16,false,[.nilIface],.interface #[("Error",286)],none⟩
def ti283:TI:=⟨1,16,false,[.nilIface],.interface #[("Error",286)],none⟩
def ti288:TI:=⟨1,24,false,[.slice none 0 0],.slice 39,none⟩
def ti297:TI:=⟨1,24,false,[.slice none 0 0],.slice 198,none⟩
def ti309:TI:=⟨1,8,false,[.nilFunc],.func #[349] #[] false,none⟩
def ti312:TI:=⟨1,8,false,[.nilFunc],.func #[26] #[4] false,none⟩
def ti339:TI:=⟨1,8,false,[.nilFunc],.func #[389] #[] false,none⟩
def ti340:TI:=⟨1,8,false,[.nilFunc],.func #[389] #[] false,none⟩
def ti345:TI:=⟨1,8,false,[.nilFunc],.func #[198] #[198] false,none⟩
def ti348:TI:=⟨1,8,false,[.nilFunc],.func #[150,213] #[3] false,none⟩
def ti349:TI:=⟨1,8,false,[.nilFunc],.func #[3,3] #[4] false,none⟩
def ti374:TI:=⟨1,8,false,[.int .u64 0],.int .u64,none⟩
def ti378:TI:=⟨1,8,false,[.nilFunc],.func #[9] #[4] false,none⟩
def ti389:TI:=⟨1,8,false,[.nilFunc],.func #[3,198] #[4] false,none⟩
def tyl:List (Nat×TI):=[(3,ti3),(4,ti4),(9,ti9),(20,ti20),(21,ti21),(22,ti22),(23,ti23),(24,ti24),(25,ti25),(26,ti26),(27,ti27),(28,ti28),(39,ti39),(49,ti49),(51,ti51),(52,ti52),(56,ti56),(62,ti62),(63,ti63),(64,ti64),(65,ti65),(66,ti66),(67,ti67),(68,ti68),(69,ti69),(76,ti76),(77,ti77),(81,ti81),(87,ti87),(88,ti88),(114,ti114),(115,ti115),(138,ti138),(139,ti139),(142,ti142),(149,ti149),(150,ti150),(153,ti153),(155,ti155),(158,ti158),(159,ti159),(160,ti160),(161,ti161),(168,ti168),(169,ti169),(170,ti170),(182,ti182),(183,ti183),(185,ti185),(186,ti186),(197,ti197),(198,ti198),(199,ti199),(200,ti200),(206,ti206),(207,ti207),(209,ti209),(211,ti211),(212,ti212),(213,ti213),(216,ti216),(217,ti217),(224,ti224),(272,ti272),(273,ti273),(282,ti282),(283,ti283),(288,ti288),(297,ti297),(309,ti309),(312,ti312),(339,ti339),(340,ti340),(345,ti345),(348,ti348),(349,ti349),(374,ti374),(378,ti378),(389,ti389)]
def ty:Tys:=fun t=>lk tyl t
@[go_sem] theorem ty_3:ty 3=some ti3:=by kernel_rfl
@[go_sem] theorem ty_4:ty 4=some ti4:=by kernel_rfl
@[go_sem] theorem ty_9:ty 9=some ti9:=by kernel_rfl
@[go_sem] theorem ty_20:ty 20=some ti20:=by kernel_rfl
@[go_sem] theorem ty_21:ty 21=some ti21:=by kernel_rfl
@[go_sem] theorem ty_22:ty 22=some ti22:=by kernel_rfl
@[go_sem] theorem ty_23:ty 23=some ti23:=by kernel_rfl
@[go_sem] theorem ty_24:ty 24=some ti24:=by kernel_rfl
@[go_sem] theorem ty_25:ty 25=some ti25:=by kernel_rfl
@[go_sem] theorem ty_26:ty 26=some ti26:=by kernel_rfl
@[go_sem] theorem ty_27:ty 27=some ti27:=by kernel_rfl
@[go_sem] theorem ty_28:ty 28=some ti28:=by kernel_rfl
@[go_sem] theorem ty_39:ty 39=some ti39:=by kernel_rfl
@[go_sem] theorem ty_49:ty 49=some ti49:=by kernel_rfl
@[go_sem] theorem ty_51:ty 51=some ti51:=by kernel_rfl
@[go_sem] theorem ty_52:ty 52=some ti52:=by kernel_rfl
@[go_sem] theorem ty_56:ty 56=some ti56:=by kernel_rfl
@[go_sem] theorem ty_62:ty 62=some ti62:=by kernel_rfl
@[go_sem] theorem ty_63:ty 63=some ti63:=by kernel_rfl
@[go_sem] theorem ty_64:ty 64=some ti64:=by kernel_rfl
@[go_sem] theorem ty_65:ty 65=some ti65:=by kernel_rfl
@[go_sem] theorem ty_66:ty 66=some ti66:=by kernel_rfl
@[go_sem] theorem ty_67:ty 67=some ti67:=by kernel_rfl
@[go_sem] theorem ty_68:ty 68=some ti68:=by kernel_rfl
@[go_sem] theorem ty_69:ty 69=some ti69:=by kernel_rfl
@[go_sem] theorem ty_76:ty 76=some ti76:=by kernel_rfl
@[go_sem] theorem ty_77:ty 77=some ti77:=by kernel_rfl
@[go_sem] theorem ty_81:ty 81=some ti81:=by kernel_rfl
@[go_sem] theorem ty_87:ty 87=some ti87:=by kernel_rfl
@[go_sem] theorem ty_88:ty 88=some ti88:=by kernel_rfl
@[go_sem] theorem ty_114:ty 114=some ti114:=by kernel_rfl
@[go_sem] theorem ty_115:ty 115=some ti115:=by kernel_rfl
@[go_sem] theorem ty_138:ty 138=some ti138:=by kernel_rfl
@[go_sem] theorem ty_139:ty 139=some ti139:=by kernel_rfl
@[go_sem] theorem ty_142:ty 142=some ti142:=by kernel_rfl
@[go_sem] theorem ty_149:ty 149=some ti149:=by kernel_rfl
@[go_sem] theorem ty_150:ty 150=some ti150:=by kernel_rfl
@[go_sem] theorem ty_153:ty 153=some ti153:=by kernel_rfl
@[go_sem] theorem ty_155:ty 155=some ti155:=by kernel_rfl
@[go_sem] theorem ty_158:ty 158=some ti158:=by kernel_rfl
@[go_sem] theorem ty_159:ty 159=some ti159:=by kernel_rfl
@[go_sem] theorem ty_160:ty 160=some ti160:=by kernel_rfl
@[go_sem] theorem ty_161:ty 161=some ti161:=by kernel_rfl
@[go_sem] theorem ty_168:ty 168=some ti168:=by kernel_rfl
@[go_sem] theorem ty_169:ty 169=some ti169:=by kernel_rfl
@[go_sem] theorem ty_170:ty 170=some ti170:=by kernel_rfl
@[go_sem] theorem ty_182:ty 182=some ti182:=by kernel_rfl
@[go_sem] theorem ty_183:ty 183=some ti183:=by kernel_rfl
@[go_sem] theorem ty_185:ty 185=some ti185:=by kernel_rfl
@[go_sem] theorem ty_186:ty 186=some ti186:=by kernel_rfl
@[go_sem] theorem ty_197:ty 197=some ti197:=by kernel_rfl
@[go_sem] theorem ty_198:ty 198=some ti198:=by kernel_rfl
@[go_sem] theorem ty_199:ty 199=some ti199:=by kernel_rfl
@[go_sem] theorem ty_200:ty 200=some ti200:=by kernel_rfl
@[go_sem] theorem ty_206:ty 206=some ti206:=by kernel_rfl
@[go_sem] theorem ty_207:ty 207=some ti207:=by kernel_rfl
@[go_sem] theorem ty_209:ty 209=some ti209:=by kernel_rfl
@[go_sem] theorem ty_211:ty 211=some ti211:=by kernel_rfl
@[go_sem] theorem ty_212:ty 212=some ti212:=by kernel_rfl
@[go_sem] theorem ty_213:ty 213=some ti213:=by kernel_rfl
@[go_sem] theorem ty_216:ty 216=some ti216:=by kernel_rfl
@[go_sem] theorem ty_217:ty 217=some ti217:=by kernel_rfl
@[go_sem] theorem ty_224:ty 224=some ti224:=by kernel_rfl
@[go_sem] theorem ty_272:ty 272=some ti272:=by kernel_rfl
@[go_sem] theorem ty_273:ty 273=some ti273:=by kernel_rfl
@[go_sem] theorem ty_282:ty 282=some ti282:=by kernel_rfl
@[go_sem] theorem ty_283:ty 283=some ti283:=by kernel_rfl
@[go_sem] theorem ty_288:ty 288=some ti288:=by kernel_rfl
@[go_sem] theorem ty_297:ty 297=some ti297:=by kernel_rfl
@[go_sem] theorem ty_309:ty 309=some ti309:=by kernel_rfl
@[go_sem] theorem ty_312:ty 312=some ti312:=by kernel_rfl
@[go_sem] theorem ty_339:ty 339=some ti339:=by kernel_rfl
@[go_sem] theorem ty_340:ty 340=some ti340:=by kernel_rfl
@[go_sem] theorem ty_345:ty 345=some ti345:=by kernel_rfl
@[go_sem] theorem ty_348:ty 348=some ti348:=by kernel_rfl
@[go_sem] theorem ty_349:ty 349=some ti349:=by kernel_rfl
@[go_sem] theorem ty_374:ty 374=some ti374:=by kernel_rfl
@[go_sem] theorem ty_378:ty 378=some ti378:=by kernel_rfl
@[go_sem] theorem ty_389:ty 389=some ti389:=by kernel_rfl
attribute [go_sem] ti3 ti4 ti9 ti20 ti21 ti22 ti23 ti24 ti25 ti26 ti27 ti28 ti39 ti49 ti51 ti52 ti56 ti62 ti63 ti64 ti65 ti66 ti67 ti68 ti69 ti76 ti77 ti81 ti87 ti88 ti114 ti115 ti138 ti139 ti142 ti149 ti150 ti153 ti155 ti158 ti159 ti160 ti161 ti168 ti169 ti170 ti182 ti183 ti185 ti186 ti197 ti198 ti199 ti200 ti206 ti207 ti209 ti211 ti212 ti213 ti216 ti217 ti224 ti272 ti273 ti282 ti283 ti288 ti297 ti309 ti312 ti339 ti340 ti345 ti348 ti349 ti374 ti378 ti389
def zv (i:TI):Value:=if i.agg=true then .agg i.zero.toArray else i.zero.headD .nilFunc
theorem fact {t:Nat} {i:TI} (he:∀ n,i.eqn=some n→EqOk Tryz.prog t n:=by (intro n hn; cases hn; done)) (h1:(Tryz.prog.info? t).map (fun i=>(i.size,i.bytes,i.zero))=some (i.size,i.bytes,some (zv i)):=by kernel_rfl) (h2:Tryz.prog.underlying t=some i.desc:=by kernel_rfl) (hz:(zv i).cells.toList=i.zero:=by rfl)
 (ha:i.agg=(match i.desc with | .struct _ | .array _ _=>true | _=>false):=by rfl) (ho:i.agg=false→i.size=1:=by first | (intro _; rfl) | (intro h; cases h)) (hl:i.zero.length=i.size:=by rfl):TyFact Tryz.prog t i:=by
 have key:∃ info,Tryz.prog.info? t=some info∧info.size=i.size∧info.bytes=i.bytes∧info.zero=some (zv i):=by
  cases hi:Tryz.prog.info? t with
  | none=>rw [hi] at h1; cases h1
  | some info=>
   rw [hi] at h1
   simp only [Option.map_some,Option.some.injEq,Prod.mk.injEq] at h1
   exact ⟨info,rfl,h1.1,h1.2.1,h1.2.2⟩
 obtain ⟨info,k1,k2,k3,k4⟩:=key
 exact ⟨⟨info,zv i,k1,k2,k3,k4,hz⟩,h2,ha,ho,hl,he,fun h=>⟨info,k1,by rw [k4]; simp [zv,h]⟩⟩
theorem eq115:EqOk Tryz.prog 115 [true,true] where
 guard:=by kernel_rfl
 run:=by
  intro xs ys w h1 h2
  obtain ⟨a0,xs0,rfl,h1_0⟩:=kindsI h1
  obtain ⟨b0,ys0,rfl,h2_0⟩:=kindsI h2
  obtain ⟨a1,xs1,rfl,h1_1⟩:=kindsI h1_0
  obtain ⟨b1,ys1,rfl,h2_1⟩:=kindsI h2_0
  obtain rfl:=kindsN h1_1
  obtain rfl:=kindsN h2_1
  have u3:Tryz.prog.underlying 3=some (.int .i64):=by kernel_rfl
  have u115:Tryz.prog.underlying 115=some (.struct #[⟨"Lo",3,0,false,"","",0⟩,⟨"Hi",3,1,false,"","",8⟩]):=by kernel_rfl
  have g115:Tryz.prog.stoodInHeld 115=false:=by kernel_rfl
  have v115:Tryz.prog.underlying 115=some (.struct (Tryz.prog.fieldsOf 115)):=by kernel_rfl
  have w115:(Tryz.prog.fieldsOf 115).toList=[⟨"Lo",3,0,false,"","",0⟩,⟨"Hi",3,1,false,"","",8⟩]:=by kernel_rfl
  have s115:∀ w,(sizeOf 115).run Tryz.prog w= .ok 2 w:=fun _=>by kernel_rfl
  have p3:∀ w,(isAgg 3).run Tryz.prog w= .ok false w:=fun _=>by kernel_rfl
  have p115:∀ w,(isAgg 115).run Tryz.prog w= .ok true w:=fun _=>by kernel_rfl
  have e3:∀ (d:Nat) (a b:Int) (w:World),(Op.equalIn (d+1) 3 (.int .i64 a) (.int .i64 b)).run Tryz.prog w= .ok (a == b) w:=fun d a b w=>run_equalIn_int w d 3 .i64 .i64 a b u3
  have e115:∀ (d:Nat) (xs ys:Array Value) (w:World),(Op.equalIn (d+1) 115 (.agg xs) (.agg ys)).run Tryz.prog w=(Op.eqFields d xs ys (Tryz.prog.fieldsOf 115).toList).run Tryz.prog w:=fun d xs ys w=>run_equalIn_struct w d 115 xs ys v115 g115
  simp [evs,EV.val,e3,e115,Op.eqFields,part,g115,w115,s115,p3,p115]
  try grind
theorem eq159:EqOk Tryz.prog 159 [true,true] where
 guard:=by kernel_rfl
 run:=by
  intro xs ys w h1 h2
  obtain ⟨a0,xs0,rfl,h1_0⟩:=kindsI h1
  obtain ⟨b0,ys0,rfl,h2_0⟩:=kindsI h2
  obtain ⟨a1,xs1,rfl,h1_1⟩:=kindsI h1_0
  obtain ⟨b1,ys1,rfl,h2_1⟩:=kindsI h2_0
  obtain rfl:=kindsN h1_1
  obtain rfl:=kindsN h2_1
  have u3:Tryz.prog.underlying 3=some (.int .i64):=by kernel_rfl
  have u159:Tryz.prog.underlying 159=some (.struct #[⟨"Energy",3,0,false,"","",0⟩,⟨"Kelvin",3,1,false,"","",8⟩]):=by kernel_rfl
  have g159:Tryz.prog.stoodInHeld 159=false:=by kernel_rfl
  have v159:Tryz.prog.underlying 159=some (.struct (Tryz.prog.fieldsOf 159)):=by kernel_rfl
  have w159:(Tryz.prog.fieldsOf 159).toList=[⟨"Energy",3,0,false,"","",0⟩,⟨"Kelvin",3,1,false,"","",8⟩]:=by kernel_rfl
  have s159:∀ w,(sizeOf 159).run Tryz.prog w= .ok 2 w:=fun _=>by kernel_rfl
  have p3:∀ w,(isAgg 3).run Tryz.prog w= .ok false w:=fun _=>by kernel_rfl
  have p159:∀ w,(isAgg 159).run Tryz.prog w= .ok true w:=fun _=>by kernel_rfl
  have e3:∀ (d:Nat) (a b:Int) (w:World),(Op.equalIn (d+1) 3 (.int .i64 a) (.int .i64 b)).run Tryz.prog w= .ok (a == b) w:=fun d a b w=>run_equalIn_int w d 3 .i64 .i64 a b u3
  have e159:∀ (d:Nat) (xs ys:Array Value) (w:World),(Op.equalIn (d+1) 159 (.agg xs) (.agg ys)).run Tryz.prog w=(Op.eqFields d xs ys (Tryz.prog.fieldsOf 159).toList).run Tryz.prog w:=fun d xs ys w=>run_equalIn_struct w d 159 xs ys v159 g159
  simp [evs,EV.val,e3,e159,Op.eqFields,part,g159,w159,s159,p3,p159]
  try grind
theorem eq161:EqOk Tryz.prog 161 [true,true] where
 guard:=by kernel_rfl
 run:=by
  intro xs ys w h1 h2
  obtain ⟨a0,xs0,rfl,h1_0⟩:=kindsI h1
  obtain ⟨b0,ys0,rfl,h2_0⟩:=kindsI h2
  obtain ⟨a1,xs1,rfl,h1_1⟩:=kindsI h1_0
  obtain ⟨b1,ys1,rfl,h2_1⟩:=kindsI h2_0
  obtain rfl:=kindsN h1_1
  obtain rfl:=kindsN h2_1
  have u3:Tryz.prog.underlying 3=some (.int .i64):=by kernel_rfl
  have u161:Tryz.prog.underlying 161=some (.struct #[⟨"Kelvin",3,0,false,"","",0⟩,⟨"Loss",3,1,false,"","",8⟩]):=by kernel_rfl
  have g161:Tryz.prog.stoodInHeld 161=false:=by kernel_rfl
  have v161:Tryz.prog.underlying 161=some (.struct (Tryz.prog.fieldsOf 161)):=by kernel_rfl
  have w161:(Tryz.prog.fieldsOf 161).toList=[⟨"Kelvin",3,0,false,"","",0⟩,⟨"Loss",3,1,false,"","",8⟩]:=by kernel_rfl
  have s161:∀ w,(sizeOf 161).run Tryz.prog w= .ok 2 w:=fun _=>by kernel_rfl
  have p3:∀ w,(isAgg 3).run Tryz.prog w= .ok false w:=fun _=>by kernel_rfl
  have p161:∀ w,(isAgg 161).run Tryz.prog w= .ok true w:=fun _=>by kernel_rfl
  have e3:∀ (d:Nat) (a b:Int) (w:World),(Op.equalIn (d+1) 3 (.int .i64 a) (.int .i64 b)).run Tryz.prog w= .ok (a == b) w:=fun d a b w=>run_equalIn_int w d 3 .i64 .i64 a b u3
  have e161:∀ (d:Nat) (xs ys:Array Value) (w:World),(Op.equalIn (d+1) 161 (.agg xs) (.agg ys)).run Tryz.prog w=(Op.eqFields d xs ys (Tryz.prog.fieldsOf 161).toList).run Tryz.prog w:=fun d xs ys w=>run_equalIn_struct w d 161 xs ys v161 g161
  simp [evs,EV.val,e3,e161,Op.eqFields,part,g161,w161,s161,p3,p161]
  try grind
theorem eq198:EqOk Tryz.prog 198 [true,true] where
 guard:=by kernel_rfl
 run:=by
  intro xs ys w h1 h2
  obtain ⟨a0,xs0,rfl,h1_0⟩:=kindsI h1
  obtain ⟨b0,ys0,rfl,h2_0⟩:=kindsI h2
  obtain ⟨a1,xs1,rfl,h1_1⟩:=kindsI h1_0
  obtain ⟨b1,ys1,rfl,h2_1⟩:=kindsI h2_0
  obtain rfl:=kindsN h1_1
  obtain rfl:=kindsN h2_1
  have u3:Tryz.prog.underlying 3=some (.int .i64):=by kernel_rfl
  have u198:Tryz.prog.underlying 198=some (.struct #[⟨"Re",3,0,false,"","",0⟩,⟨"Im",3,1,false,"","",8⟩]):=by kernel_rfl
  have g198:Tryz.prog.stoodInHeld 198=false:=by kernel_rfl
  have v198:Tryz.prog.underlying 198=some (.struct (Tryz.prog.fieldsOf 198)):=by kernel_rfl
  have w198:(Tryz.prog.fieldsOf 198).toList=[⟨"Re",3,0,false,"","",0⟩,⟨"Im",3,1,false,"","",8⟩]:=by kernel_rfl
  have s198:∀ w,(sizeOf 198).run Tryz.prog w= .ok 2 w:=fun _=>by kernel_rfl
  have p3:∀ w,(isAgg 3).run Tryz.prog w= .ok false w:=fun _=>by kernel_rfl
  have p198:∀ w,(isAgg 198).run Tryz.prog w= .ok true w:=fun _=>by kernel_rfl
  have e3:∀ (d:Nat) (a b:Int) (w:World),(Op.equalIn (d+1) 3 (.int .i64 a) (.int .i64 b)).run Tryz.prog w= .ok (a == b) w:=fun d a b w=>run_equalIn_int w d 3 .i64 .i64 a b u3
  have e198:∀ (d:Nat) (xs ys:Array Value) (w:World),(Op.equalIn (d+1) 198 (.agg xs) (.agg ys)).run Tryz.prog w=(Op.eqFields d xs ys (Tryz.prog.fieldsOf 198).toList).run Tryz.prog w:=fun d xs ys w=>run_equalIn_struct w d 198 xs ys v198 g198
  simp [evs,EV.val,e3,e198,Op.eqFields,part,g198,w198,s198,p3,p198]
  try grind
theorem eq200:EqOk Tryz.prog 200 [true,true,true,true] where
 guard:=by kernel_rfl
 run:=by
  intro xs ys w h1 h2
  obtain ⟨a0,xs0,rfl,h1_0⟩:=kindsI h1
  obtain ⟨b0,ys0,rfl,h2_0⟩:=kindsI h2
  obtain ⟨a1,xs1,rfl,h1_1⟩:=kindsI h1_0
  obtain ⟨b1,ys1,rfl,h2_1⟩:=kindsI h2_0
  obtain ⟨a2,xs2,rfl,h1_2⟩:=kindsI h1_1
  obtain ⟨b2,ys2,rfl,h2_2⟩:=kindsI h2_1
  obtain ⟨a3,xs3,rfl,h1_3⟩:=kindsI h1_2
  obtain ⟨b3,ys3,rfl,h2_3⟩:=kindsI h2_2
  obtain rfl:=kindsN h1_3
  obtain rfl:=kindsN h2_3
  have u3:Tryz.prog.underlying 3=some (.int .i64):=by kernel_rfl
  have u198:Tryz.prog.underlying 198=some (.struct #[⟨"Re",3,0,false,"","",0⟩,⟨"Im",3,1,false,"","",8⟩]):=by kernel_rfl
  have u200:Tryz.prog.underlying 200=some (.struct #[⟨"Num",198,0,false,"","",0⟩,⟨"Den",198,2,false,"","",16⟩]):=by kernel_rfl
  have g198:Tryz.prog.stoodInHeld 198=false:=by kernel_rfl
  have v198:Tryz.prog.underlying 198=some (.struct (Tryz.prog.fieldsOf 198)):=by kernel_rfl
  have w198:(Tryz.prog.fieldsOf 198).toList=[⟨"Re",3,0,false,"","",0⟩,⟨"Im",3,1,false,"","",8⟩]:=by kernel_rfl
  have s198:∀ w,(sizeOf 198).run Tryz.prog w= .ok 2 w:=fun _=>by kernel_rfl
  have g200:Tryz.prog.stoodInHeld 200=false:=by kernel_rfl
  have v200:Tryz.prog.underlying 200=some (.struct (Tryz.prog.fieldsOf 200)):=by kernel_rfl
  have w200:(Tryz.prog.fieldsOf 200).toList=[⟨"Num",198,0,false,"","",0⟩,⟨"Den",198,2,false,"","",16⟩]:=by kernel_rfl
  have s200:∀ w,(sizeOf 200).run Tryz.prog w= .ok 4 w:=fun _=>by kernel_rfl
  have p3:∀ w,(isAgg 3).run Tryz.prog w= .ok false w:=fun _=>by kernel_rfl
  have p198:∀ w,(isAgg 198).run Tryz.prog w= .ok true w:=fun _=>by kernel_rfl
  have p200:∀ w,(isAgg 200).run Tryz.prog w= .ok true w:=fun _=>by kernel_rfl
  have e3:∀ (d:Nat) (a b:Int) (w:World),(Op.equalIn (d+1) 3 (.int .i64 a) (.int .i64 b)).run Tryz.prog w= .ok (a == b) w:=fun d a b w=>run_equalIn_int w d 3 .i64 .i64 a b u3
  have e198:∀ (d:Nat) (xs ys:Array Value) (w:World),(Op.equalIn (d+1) 198 (.agg xs) (.agg ys)).run Tryz.prog w=(Op.eqFields d xs ys (Tryz.prog.fieldsOf 198).toList).run Tryz.prog w:=fun d xs ys w=>run_equalIn_struct w d 198 xs ys v198 g198
  have e200:∀ (d:Nat) (xs ys:Array Value) (w:World),(Op.equalIn (d+1) 200 (.agg xs) (.agg ys)).run Tryz.prog w=(Op.eqFields d xs ys (Tryz.prog.fieldsOf 200).toList).run Tryz.prog w:=fun d xs ys w=>run_equalIn_struct w d 200 xs ys v200 g200
  simp [evs,EV.val,e3,e198,e200,Op.eqFields,part,g198,w198,s198,g200,w200,s200,p3,p198,p200]
  try grind
theorem eq207:EqOk Tryz.prog 207 [true,true,true] where
 guard:=by kernel_rfl
 run:=by
  intro xs ys w h1 h2
  obtain ⟨a0,xs0,rfl,h1_0⟩:=kindsI h1
  obtain ⟨b0,ys0,rfl,h2_0⟩:=kindsI h2
  obtain ⟨a1,xs1,rfl,h1_1⟩:=kindsI h1_0
  obtain ⟨b1,ys1,rfl,h2_1⟩:=kindsI h2_0
  obtain ⟨a2,xs2,rfl,h1_2⟩:=kindsI h1_1
  obtain ⟨b2,ys2,rfl,h2_2⟩:=kindsI h2_1
  obtain rfl:=kindsN h1_2
  obtain rfl:=kindsN h2_2
  have u3:Tryz.prog.underlying 3=some (.int .i64):=by kernel_rfl
  have u207:Tryz.prog.underlying 207=some (.struct #[⟨"Conductance",3,0,false,"","",0⟩,⟨"Cold",3,1,false,"","",8⟩,⟨"Hot",3,2,false,"","",16⟩]):=by kernel_rfl
  have g207:Tryz.prog.stoodInHeld 207=false:=by kernel_rfl
  have v207:Tryz.prog.underlying 207=some (.struct (Tryz.prog.fieldsOf 207)):=by kernel_rfl
  have w207:(Tryz.prog.fieldsOf 207).toList=[⟨"Conductance",3,0,false,"","",0⟩,⟨"Cold",3,1,false,"","",8⟩,⟨"Hot",3,2,false,"","",16⟩]:=by kernel_rfl
  have s207:∀ w,(sizeOf 207).run Tryz.prog w= .ok 3 w:=fun _=>by kernel_rfl
  have p3:∀ w,(isAgg 3).run Tryz.prog w= .ok false w:=fun _=>by kernel_rfl
  have p207:∀ w,(isAgg 207).run Tryz.prog w= .ok true w:=fun _=>by kernel_rfl
  have e3:∀ (d:Nat) (a b:Int) (w:World),(Op.equalIn (d+1) 3 (.int .i64 a) (.int .i64 b)).run Tryz.prog w= .ok (a == b) w:=fun d a b w=>run_equalIn_int w d 3 .i64 .i64 a b u3
  have e207:∀ (d:Nat) (xs ys:Array Value) (w:World),(Op.equalIn (d+1) 207 (.agg xs) (.agg ys)).run Tryz.prog w=(Op.eqFields d xs ys (Tryz.prog.fieldsOf 207).toList).run Tryz.prog w:=fun d xs ys w=>run_equalIn_struct w d 207 xs ys v207 g207
  simp [evs,EV.val,e3,e207,Op.eqFields,part,g207,w207,s207,p3,p207]
  try grind
theorem tf3:TyFact Tryz.prog 3 ti3:=fact
theorem tf4:TyFact Tryz.prog 4 ti4:=fact
theorem tf9:TyFact Tryz.prog 9 ti9:=fact
theorem tf20:TyFact Tryz.prog 20 ti20:=fact
theorem tf21:TyFact Tryz.prog 21 ti21:=fact
theorem tf22:TyFact Tryz.prog 22 ti22:=fact
theorem tf23:TyFact Tryz.prog 23 ti23:=fact
theorem tf24:TyFact Tryz.prog 24 ti24:=fact
theorem tf25:TyFact Tryz.prog 25 ti25:=fact
theorem tf26:TyFact Tryz.prog 26 ti26:=fact
theorem tf27:TyFact Tryz.prog 27 ti27:=fact
theorem tf28:TyFact Tryz.prog 28 ti28:=fact
theorem tf39:TyFact Tryz.prog 39 ti39:=fact
theorem tf49:TyFact Tryz.prog 49 ti49:=fact
theorem tf51:TyFact Tryz.prog 51 ti51:=fact
theorem tf52:TyFact Tryz.prog 52 ti52:=fact
theorem tf56:TyFact Tryz.prog 56 ti56:=fact
theorem tf62:TyFact Tryz.prog 62 ti62:=fact
theorem tf63:TyFact Tryz.prog 63 ti63:=fact
theorem tf64:TyFact Tryz.prog 64 ti64:=fact
theorem tf65:TyFact Tryz.prog 65 ti65:=fact
theorem tf66:TyFact Tryz.prog 66 ti66:=fact
theorem tf67:TyFact Tryz.prog 67 ti67:=fact
theorem tf68:TyFact Tryz.prog 68 ti68:=fact
theorem tf69:TyFact Tryz.prog 69 ti69:=fact
theorem tf76:TyFact Tryz.prog 76 ti76:=fact
theorem tf77:TyFact Tryz.prog 77 ti77:=fact
theorem tf81:TyFact Tryz.prog 81 ti81:=fact
theorem tf87:TyFact Tryz.prog 87 ti87:=fact
theorem tf88:TyFact Tryz.prog 88 ti88:=fact
theorem tf114:TyFact Tryz.prog 114 ti114:=fact
theorem tf115:TyFact Tryz.prog 115 ti115:=fact (fun n hn=>by obtain rfl:=Option.some.inj hn; exact eq115)
theorem tf138:TyFact Tryz.prog 138 ti138:=fact
theorem tf139:TyFact Tryz.prog 139 ti139:=fact
theorem tf142:TyFact Tryz.prog 142 ti142:=fact
theorem tf149:TyFact Tryz.prog 149 ti149:=fact
theorem tf150:TyFact Tryz.prog 150 ti150:=fact
theorem tf153:TyFact Tryz.prog 153 ti153:=fact
theorem tf155:TyFact Tryz.prog 155 ti155:=fact
theorem tf158:TyFact Tryz.prog 158 ti158:=fact
theorem tf159:TyFact Tryz.prog 159 ti159:=fact (fun n hn=>by obtain rfl:=Option.some.inj hn; exact eq159)
theorem tf160:TyFact Tryz.prog 160 ti160:=fact
theorem tf161:TyFact Tryz.prog 161 ti161:=fact (fun n hn=>by obtain rfl:=Option.some.inj hn; exact eq161)
theorem tf168:TyFact Tryz.prog 168 ti168:=fact
theorem tf169:TyFact Tryz.prog 169 ti169:=fact
theorem tf170:TyFact Tryz.prog 170 ti170:=fact
theorem tf182:TyFact Tryz.prog 182 ti182:=fact
theorem tf183:TyFact Tryz.prog 183 ti183:=fact
theorem tf185:TyFact Tryz.prog 185 ti185:=fact
theorem tf186:TyFact Tryz.prog 186 ti186:=fact
theorem tf197:TyFact Tryz.prog 197 ti197:=fact
theorem tf198:TyFact Tryz.prog 198 ti198:=fact (fun n hn=>by obtain rfl:=Option.some.inj hn; exact eq198)
theorem tf199:TyFact Tryz.prog 199 ti199:=fact
theorem tf200:TyFact Tryz.prog 200 ti200:=fact (fun n hn=>by obtain rfl:=Option.some.inj hn; exact eq200)
theorem tf206:TyFact Tryz.prog 206 ti206:=fact
theorem tf207:TyFact Tryz.prog 207 ti207:=fact (fun n hn=>by obtain rfl:=Option.some.inj hn; exact eq207)
theorem tf209:TyFact Tryz.prog 209 ti209:=fact
theorem tf211:TyFact Tryz.prog 211 ti211:=fact
theorem tf212:TyFact Tryz.prog 212 ti212:=fact
theorem tf213:TyFact Tryz.prog 213 ti213:=fact
theorem tf216:TyFact Tryz.prog 216 ti216:=fact
theorem tf217:TyFact Tryz.prog 217 ti217:=fact
theorem tf224:TyFact Tryz.prog 224 ti224:=fact
theorem tf272:TyFact Tryz.prog 272 ti272:=fact
theorem tf273:TyFact Tryz.prog 273 ti273:=fact
theorem tf282:TyFact Tryz.prog 282 ti282:=fact
theorem tf283:TyFact Tryz.prog 283 ti283:=fact
theorem tf288:TyFact Tryz.prog 288 ti288:=fact
theorem tf297:TyFact Tryz.prog 297 ti297:=fact
theorem tf309:TyFact Tryz.prog 309 ti309:=fact
theorem tf312:TyFact Tryz.prog 312 ti312:=fact
theorem tf339:TyFact Tryz.prog 339 ti339:=fact
theorem tf340:TyFact Tryz.prog 340 ti340:=fact
theorem tf345:TyFact Tryz.prog 345 ti345:=fact
theorem tf348:TyFact Tryz.prog 348 ti348:=fact
theorem tf349:TyFact Tryz.prog 349 ti349:=fact
theorem tf374:TyFact Tryz.prog 374 ti374:=fact
theorem tf378:TyFact Tryz.prog 378 ti378:=fact
theorem tf389:TyFact Tryz.prog 389 ti389:=fact
def Facts:List (Nat×TI)→Prop
 | []=>True
 | p::r=>TyFact Tryz.prog p.1 p.2∧Facts r
theorem facts_get:∀ {l:List (Nat×TI)},Facts l→∀ t i,lk l t=some i→TyFact Tryz.prog t i
 | [],_,_,_,h=>by cases h
 | (k,x)::r,h,t,i,hi=>by
  simp only [lk] at hi
  split at hi
  ·rename_i e; subst e; obtain rfl:=Option.some.inj hi; exact h.1
  ·exact facts_get h.2 t i hi
theorem ty_ok:TyOk Tryz.prog ty:=facts_get (l:=tyl) ⟨tf3,tf4,tf9,tf20,tf21,tf22,tf23,tf24,tf25,tf26,tf27,tf28,tf39,tf49,tf51,tf52,tf56,tf62,tf63,tf64,tf65,tf66,tf67,tf68,tf69,tf76,tf77,tf81,tf87,tf88,tf114,tf115,tf138,tf139,tf142,tf149,tf150,tf153,tf155,tf158,tf159,tf160,tf161,tf168,tf169,tf170,tf182,tf183,tf185,tf186,tf197,tf198,tf199,tf200,tf206,tf207,tf209,tf211,tf212,tf213,tf216,tf217,tf224,tf272,tf273,tf282,tf283,tf288,tf297,tf309,tf312,tf339,tf340,tf345,tf348,tf349,tf374,tf378,tf389,trivial⟩
end Go.Proofs.YthldpejmofhaoaaGreatDoor
