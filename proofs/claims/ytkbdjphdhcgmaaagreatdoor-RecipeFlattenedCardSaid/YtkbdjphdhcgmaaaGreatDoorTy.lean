/-
  The types of the translation, as the abstract machine uses them: a table, and that it agrees with the program's. Written by a program of ours (gen_ty.py).
-/
import Derived.Test.YtkbdjphdhcgmaaaGreatDoorProg
import Derived.Test.YtkbdjphdhcgmaaaGreatDoorAbsC
import Derived.KernelRfl
set_option linter.unusedSimpArgs false
set_option linter.unusedVariables false
namespace Go.Proofs.YtkbdjphdhcgmaaaGreatDoor
open Go.dR
def ti3:TI:=⟨1,8,false,[.int .i64 0],.int .i64,none⟩
def ti4:TI:=⟨1,1,false,[.bool false],.bool,none⟩
def ti9:TI:=⟨1,16,false,[.string .empty],.string,none⟩
def aem:TI:=⟨1,16,false,[.nilIface],.interface #[],none⟩
def ael:TI:=⟨1,24,false,[.slice none 0 0],.slice 56,none⟩
def aek:TI:=⟨1,8,false,[.int .i64 0],.int .i64,none⟩
def aej:TI:=⟨1,24,false,[.slice none 0 0],.slice 120,none⟩
def aei:TI:=⟨1,24,false,[.slice none 0 0],.slice 98,none⟩
def aeh:TI:=⟨4,64,true,[.int .i64 0,.int .i64 0,.slice none 0 0,.slice none 0 0],.struct #[⟨"Cells",3,0,false,"","",0⟩,⟨"Exchange",3,1,false,"","",8⟩,⟨"Table",34,2,false,"","",16⟩,⟨"Laws",35,3,false,"","",40⟩],none⟩
def aeg:TI:=⟨4,64,true,[.int .i64 0,.int .i64 0,.slice none 0 0,.slice none 0 0],.struct #[⟨"Cells",3,0,false,"","",0⟩,⟨"Exchange",3,1,false,"","",8⟩,⟨"Table",34,2,false,"","",16⟩,⟨"Laws",35,3,false,"","",40⟩],none⟩
def aef:TI:=⟨1,24,false,[.slice none 0 0],.slice 3,none⟩
def aee:TI:=⟨2,48,true,[.slice none 0 0,.slice none 0 0],.struct #[⟨"Lo",38,0,false,"","",0⟩,⟨"Hi",38,1,false,"","",24⟩],none⟩
def aed:TI:=⟨2,48,true,[.slice none 0 0,.slice none 0 0],.struct #[⟨"Lo",38,0,false,"","",0⟩,⟨"Hi",38,1,false,"","",24⟩],none⟩
def aec:TI:=⟨1,24,false,[.slice none 0 0],.slice 65,none⟩
def aeb:TI:=⟨9,152,true,[.int .i64 0,.int .i64 0,.slice none 0 0,.slice none 0 0,.slice none 0 0,.slice none 0 0,.slice none 0 0,.int .i64 0,.int .i64 0],.struct #[⟨"Setup",37,0,false,"","",0⟩,⟨"Start",40,4,false,"","",64⟩,⟨"Weights",41,6,false,"","",112⟩,⟨"Air",3,7,false,"","",136⟩,⟨"Spread",3,8,false,"","",144⟩],none⟩
def aea:TI:=⟨9,152,true,[.int .i64 0,.int .i64 0,.slice none 0 0,.slice none 0 0,.slice none 0 0,.slice none 0 0,.slice none 0 0,.int .i64 0,.int .i64 0],.struct #[⟨"Setup",37,0,false,"","",0⟩,⟨"Start",40,4,false,"","",64⟩,⟨"Weights",41,6,false,"","",112⟩,⟨"Air",3,7,false,"","",136⟩,⟨"Spread",3,8,false,"","",144⟩],none⟩
def ad9:TI:=⟨1,24,false,[.slice none 0 0],.slice 60,none⟩
def ad8:TI:=⟨6,64,true,[.int .i64 0,.int .i64 0,.int .i64 0,.int .i64 0,.int .i64 0,.slice none 0 0],.struct #[⟨"Kind",3,0,false,"","",0⟩,⟨"Power",3,1,false,"","",8⟩,⟨"Law",3,2,false,"","",16⟩,⟨"Ticks",3,3,false,"","",24⟩,⟨"Kelvin",3,4,false,"","",32⟩,⟨"Body",22,5,false,"","",40⟩],none⟩
def ad7:TI:=⟨6,64,true,[.int .i64 0,.int .i64 0,.int .i64 0,.int .i64 0,.int .i64 0,.slice none 0 0],.struct #[⟨"Kind",3,0,false,"","",0⟩,⟨"Power",3,1,false,"","",8⟩,⟨"Law",3,2,false,"","",16⟩,⟨"Ticks",3,3,false,"","",24⟩,⟨"Kelvin",3,4,false,"","",32⟩,⟨"Body",22,5,false,"","",40⟩],none⟩
def ad6:TI:=⟨1,24,false,[.slice none 0 0],.slice 62,none⟩
def ad5:TI:=⟨2,16,true,[.int .i64 0,.int .i64 0],.struct #[⟨"Power",3,0,false,"","",0⟩,⟨"Law",3,1,false,"","",8⟩],none⟩
def ad4:TI:=⟨2,16,true,[.int .i64 0,.int .i64 0],.struct #[⟨"Power",3,0,false,"","",0⟩,⟨"Law",3,1,false,"","",8⟩],some [true,true]⟩
def ad3:TI:=⟨2,32,true,[.slice none 0 0,.int .i64 0],.struct #[⟨"Powers",38,0,false,"","",0⟩,⟨"Law",3,1,false,"","",24⟩],none⟩
def ad2:TI:=⟨2,32,true,[.slice none 0 0,.int .i64 0],.struct #[⟨"Powers",38,0,false,"","",0⟩,⟨"Law",3,1,false,"","",24⟩],none⟩
def ad1:TI:=⟨1,8,false,[.nilFunc],.func #[3,3] #[3] false,none⟩
def adZ:TI:=⟨2,16,true,[.int .i64 0,.int .i64 0],.struct #[⟨"Lo",3,0,false,"","",0⟩,⟨"Hi",3,1,false,"","",8⟩],none⟩
def adY:TI:=⟨2,16,true,[.int .i64 0,.int .i64 0],.struct #[⟨"Lo",3,0,false,"","",0⟩,⟨"Hi",3,1,false,"","",8⟩],some [true,true]⟩
def adX:TI:=⟨1,24,false,[.slice none 0 0],.slice 38,none⟩
def adW:TI:=⟨1,24,false,[.slice none 0 0],.slice 177,none⟩
def adV:TI:=⟨1,24,false,[.slice none 0 0],.slice 305,none⟩
def adU:TI:=⟨1,24,false,[.slice none 0 0],.slice 179,none⟩
def adT:TI:=⟨1,24,false,[.slice none 0 0],.slice 307,none⟩
def adS:TI:=⟨4,32,true,[.int .i64 0,.int .i64 0,.int .i64 0,.int .i64 0],.array 4 3,none⟩
def adR:TI:=⟨8,128,true,[.slice none 0 0,.slice none 0 0,.slice none 0 0,.slice none 0 0,.int .i64 0,.int .i64 0,.int .i64 0,.int .i64 0],.struct #[⟨"Heats",75,0,false,"","",0⟩,⟨"Cools",76,1,false,"","",24⟩,⟨"Colds",77,2,false,"","",48⟩,⟨"Tempers",78,3,false,"","",72⟩,⟨"Hard",79,4,false,"","",96⟩],none⟩
def adQ:TI:=⟨8,128,true,[.slice none 0 0,.slice none 0 0,.slice none 0 0,.slice none 0 0,.int .i64 0,.int .i64 0,.int .i64 0,.int .i64 0],.struct #[⟨"Heats",75,0,false,"","",0⟩,⟨"Cools",76,1,false,"","",24⟩,⟨"Colds",77,2,false,"","",48⟩,⟨"Tempers",78,3,false,"","",72⟩,⟨"Hard",79,4,false,"","",96⟩],none⟩
def adP:TI:=⟨1,24,false,[.slice none 0 0],.slice 133,none⟩
def adO:TI:=⟨19,312,true,[.int .i64 0,.int .i64 0,.slice none 0 0,.slice none 0 0,.slice none 0 0,.slice none 0 0,.slice none 0 0,.int .i64 0,.int .i64 0,.slice none 0 0,.slice none 0 0,.slice none 0 0,.slice none 0 0,.int .i64 0,.int .i64 0,.int .i64 0,.int .i64 0,.slice none 0 0,.int .i64 0],.struct #[⟨"Bench",43,0,false,"","",0⟩,⟨"Rules",81,9,false,"","",152⟩,⟨"Points",82,17,false,"","",280⟩,⟨"Edge",3,18,false,"","",304⟩],none⟩
def adN:TI:=⟨19,312,true,[.int .i64 0,.int .i64 0,.slice none 0 0,.slice none 0 0,.slice none 0 0,.slice none 0 0,.slice none 0 0,.int .i64 0,.int .i64 0,.slice none 0 0,.slice none 0 0,.slice none 0 0,.slice none 0 0,.int .i64 0,.int .i64 0,.int .i64 0,.int .i64 0,.slice none 0 0,.int .i64 0],.struct #[⟨"Bench",43,0,false,"","",0⟩,⟨"Rules",81,9,false,"","",152⟩,⟨"Points",82,17,false,"","",280⟩,⟨"Edge",3,18,false,"","",304⟩],none⟩
def adM:TI:=⟨1,8,false,[.nilFunc],.func #[3] #[4] false,none⟩
def adL:TI:=⟨1,8,false,[.nilFunc],.func #[56] #[4] false,none⟩
def adK:TI:=⟨1,24,false,[.slice none 0 0],.slice 122,none⟩
def adJ:TI:=⟨9,152,true,[.int .i64 0,.int .i64 0,.slice none 0 0,.slice none 0 0,.slice none 0 0,.slice none 0 0,.slice none 0 0,.int .i64 0,.int .i64 0],.struct #[⟨"RecipeBench",43,0,true,"","",0⟩],none⟩
def VB:TI:=⟨9,152,true,[.int .i64 0,.int .i64 0,.slice none 0 0,.slice none 0 0,.slice none 0 0,.slice none 0 0,.slice none 0 0,.int .i64 0,.int .i64 0],.struct #[⟨"RecipeBench",43,0,true,"","",0⟩],none⟩
def VA:TI:=⟨1,8,false,[.pointer none],.pointer 109,none⟩
def Vz:TI:=⟨11,200,true,[.int .i64 0,.int .i64 0,.slice none 0 0,.slice none 0 0,.slice none 0 0,.slice none 0 0,.slice none 0 0,.int .i64 0,.int .i64 0,.slice none 0 0,.slice none 0 0],.struct #[⟨"bench",100,0,true,"","martensite/recipe",0⟩,⟨"energies",38,9,false,"","martensite/recipe",152⟩,⟨"made",45,10,false,"","martensite/recipe",176⟩],none⟩
def Vy:TI:=⟨11,200,true,[.int .i64 0,.int .i64 0,.slice none 0 0,.slice none 0 0,.slice none 0 0,.slice none 0 0,.slice none 0 0,.int .i64 0,.int .i64 0,.slice none 0 0,.slice none 0 0],.struct #[⟨"bench",100,0,true,"","martensite/recipe",0⟩,⟨"energies",38,9,false,"","martensite/recipe",152⟩,⟨"made",45,10,false,"","martensite/recipe",176⟩],none⟩
def Vx:TI:=⟨2,16,true,[.int .i64 0,.int .i64 0],.struct #[⟨"Energy",3,0,false,"","",0⟩,⟨"Kelvin",3,1,false,"","",8⟩],none⟩
def Vw:TI:=⟨2,16,true,[.int .i64 0,.int .i64 0],.struct #[⟨"Energy",3,0,false,"","",0⟩,⟨"Kelvin",3,1,false,"","",8⟩],none⟩
def Vu:TI:=⟨2,16,true,[.int .i64 0,.int .i64 0],.struct #[⟨"Kelvin",3,0,false,"","",0⟩,⟨"Loss",3,1,false,"","",8⟩],none⟩
def Vt:TI:=⟨2,16,true,[.int .i64 0,.int .i64 0],.struct #[⟨"Kelvin",3,0,false,"","",0⟩,⟨"Loss",3,1,false,"","",8⟩],none⟩
def Vs:TI:=⟨28,464,true,[.int .i64 0,.int .i64 0,.slice none 0 0,.slice none 0 0,.slice none 0 0,.slice none 0 0,.slice none 0 0,.int .i64 0,.int .i64 0,.int .i64 0,.int .i64 0,.slice none 0 0,.slice none 0 0,.slice none 0 0,.slice none 0 0,.slice none 0 0,.int .i64 0,.int .i64 0,.slice none 0 0,.slice none 0 0,.slice none 0 0,.slice none 0 0,.int .i64 0,.int .i64 0,.int .i64 0,.int .i64 0,.slice none 0 0,.int .i64 0],.struct #[⟨"bench",100,0,true,"","martensite/recipe",0⟩,⟨"RecipeOrder",84,9,true,"","",152⟩],none⟩
def Vr:TI:=⟨28,464,true,[.int .i64 0,.int .i64 0,.slice none 0 0,.slice none 0 0,.slice none 0 0,.slice none 0 0,.slice none 0 0,.int .i64 0,.int .i64 0,.int .i64 0,.int .i64 0,.slice none 0 0,.slice none 0 0,.slice none 0 0,.slice none 0 0,.slice none 0 0,.int .i64 0,.int .i64 0,.slice none 0 0,.slice none 0 0,.slice none 0 0,.slice none 0 0,.int .i64 0,.int .i64 0,.int .i64 0,.int .i64 0,.slice none 0 0,.int .i64 0],.struct #[⟨"bench",100,0,true,"","martensite/recipe",0⟩,⟨"RecipeOrder",84,9,true,"","",152⟩],none⟩
def Vq:TI:=⟨1,24,false,[.slice none 0 0],.slice 41,none⟩
def Vp:TI:=⟨3,24,true,[.int .i64 0,.int .i64 0,.int .i64 0],.struct #[⟨"Cell",3,0,false,"","",0⟩,⟨"Hard",65,1,false,"","",8⟩],none⟩
def Vo:TI:=⟨3,24,true,[.int .i64 0,.int .i64 0,.int .i64 0],.struct #[⟨"Cell",3,0,false,"","",0⟩,⟨"Hard",65,1,false,"","",8⟩],none⟩
def Vm:TI:=⟨1,16,true,[.string .empty],.struct #[⟨"rest",9,0,false,"","martensite/recipe",0⟩],none⟩
def Vl:TI:=⟨1,16,true,[.string .empty],.struct #[⟨"rest",9,0,false,"","martensite/recipe",0⟩],none⟩
def Vk:TI:=⟨1,24,false,[.slice none 0 0],.slice 9,none⟩
def Vj:TI:=⟨1,24,false,[.slice none 0 0],.slice 25,none⟩
def Vh:TI:=⟨1,24,false,[.slice none 0 0],.slice 263,none⟩
def Vg:TI:=⟨1,24,false,[.slice none 0 0],.slice 157,none⟩
def Vf:TI:=⟨6,112,true,[.int .i64 0,.int .i64 0,.slice none 0 0,.slice none 0 0,.slice none 0 0,.slice none 0 0],.struct #[⟨"HeatSetup",37,0,true,"","",0⟩,⟨"table",157,4,false,"","martensite/heat",64⟩,⟨"laws",158,5,false,"","martensite/heat",88⟩],none⟩
def Ve:TI:=⟨6,112,true,[.int .i64 0,.int .i64 0,.slice none 0 0,.slice none 0 0,.slice none 0 0,.slice none 0 0],.struct #[⟨"HeatSetup",37,0,true,"","",0⟩,⟨"table",157,4,false,"","martensite/heat",64⟩,⟨"laws",158,5,false,"","martensite/heat",88⟩],none⟩
def Vd:TI:=⟨14,112,true,[.int .i64 0,.int .i64 0,.int .i64 0,.int .i64 0,.int .i64 0,.int .i64 0,.int .i64 0,.int .i64 0,.int .i64 0,.int .i64 0,.int .i64 0,.int .i64 0,.int .i64 0,.int .i64 0],.struct #[⟨"Parent",65,0,false,"","",0⟩,⟨"Austenite",65,2,false,"","",16⟩,⟨"Bainite",65,4,false,"","",32⟩,⟨"Martensite",65,6,false,"","",48⟩,⟨"Wait",65,8,false,"","",64⟩,⟨"Grain",65,10,false,"","",80⟩,⟨"Temper",65,12,false,"","",96⟩],none⟩
def Vb:TI:=⟨14,112,true,[.int .i64 0,.int .i64 0,.int .i64 0,.int .i64 0,.int .i64 0,.int .i64 0,.int .i64 0,.int .i64 0,.int .i64 0,.int .i64 0,.int .i64 0,.int .i64 0,.int .i64 0,.int .i64 0],.struct #[⟨"Parent",65,0,false,"","",0⟩,⟨"Austenite",65,2,false,"","",16⟩,⟨"Bainite",65,4,false,"","",32⟩,⟨"Martensite",65,6,false,"","",48⟩,⟨"Wait",65,8,false,"","",64⟩,⟨"Grain",65,10,false,"","",80⟩,⟨"Temper",65,12,false,"","",96⟩],none⟩
def Va:TI:=⟨7,56,true,[.int .i64 0,.int .i64 0,.int .i64 0,.int .i64 0,.int .i64 0,.int .i64 0,.int .i64 0],.struct #[⟨"Parent",3,0,false,"","",0⟩,⟨"Austenite",3,1,false,"","",8⟩,⟨"Bainite",3,2,false,"","",16⟩,⟨"Martensite",3,3,false,"","",24⟩,⟨"Wait",3,4,false,"","",32⟩,⟨"Grain",3,5,false,"","",40⟩,⟨"Temper",3,6,false,"","",48⟩],none⟩
def U9:TI:=⟨7,56,true,[.int .i64 0,.int .i64 0,.int .i64 0,.int .i64 0,.int .i64 0,.int .i64 0,.int .i64 0],.struct #[⟨"Parent",3,0,false,"","",0⟩,⟨"Austenite",3,1,false,"","",8⟩,⟨"Bainite",3,2,false,"","",16⟩,⟨"Martensite",3,3,false,"","",24⟩,⟨"Wait",3,4,false,"","",32⟩,⟨"Grain",3,5,false,"","",40⟩,⟨"Temper",3,6,false,"","",48⟩],none⟩
def U8:TI:=⟨4,32,true,[.int .i64 0,.int .i64 0,.int .i64 0,.int .i64 0],.struct #[⟨"Kelvin",3,0,false,"","",0⟩,⟨"Rate",65,1,false,"","",8⟩,⟨"Growth",3,3,false,"","",24⟩],none⟩
def U7:TI:=⟨4,32,true,[.int .i64 0,.int .i64 0,.int .i64 0,.int .i64 0],.struct #[⟨"Kelvin",3,0,false,"","",0⟩,⟨"Rate",65,1,false,"","",8⟩,⟨"Growth",3,3,false,"","",24⟩],none⟩
def U6:TI:=⟨3,24,true,[.int .i64 0,.int .i64 0,.int .i64 0],.struct #[⟨"Kelvin",3,0,false,"","",0⟩,⟨"Share",65,1,false,"","",8⟩],none⟩
def U5:TI:=⟨3,24,true,[.int .i64 0,.int .i64 0,.int .i64 0],.struct #[⟨"Kelvin",3,0,false,"","",0⟩,⟨"Share",65,1,false,"","",8⟩],none⟩
def U4:TI:=⟨1,8,false,[.nilFunc],.func #[65] #[3] false,none⟩
def U3:TI:=⟨1,8,false,[.pointer none],.pointer 137,none⟩
def U2:TI:=⟨1,16,false,[.nilIface],.interface #[("Error",197)],none⟩
def U1:TI:=⟨1,16,false,[.nilIface],.interface #[("Error",197)],none⟩
def U0:TI:=⟨1,24,false,[.slice none 0 0],.slice 202,none⟩
def UZ:TI:=⟨1,8,false,[.nilFunc],.func #[56] #[3] false,none⟩
def UY:TI:=⟨3,24,true,[.nilFunc,.int .i64 0,.int .i64 0],.struct #[⟨"value",200,0,false,"","martensite/recipe",0⟩,⟨"lo",3,1,false,"","martensite/recipe",8⟩,⟨"hi",3,2,false,"","martensite/recipe",16⟩],none⟩
def UW:TI:=⟨3,24,true,[.nilFunc,.int .i64 0,.int .i64 0],.struct #[⟨"value",200,0,false,"","martensite/recipe",0⟩,⟨"lo",3,1,false,"","martensite/recipe",8⟩,⟨"hi",3,2,false,"","martensite/recipe",16⟩],none⟩
def UU:TI:=⟨4,4,true,[.bool false,.bool false,.bool false,.bool false],.struct #[⟨"power",4,0,false,"","martensite/martensiteref05",0⟩,⟨"law",4,1,false,"","martensite/martensiteref05",1⟩,⟨"kelvin",4,2,false,"","martensite/martensiteref05",2⟩,⟨"body",4,3,false,"","martensite/martensiteref05",3⟩],none⟩
def UR:TI:=⟨4,4,true,[.bool false,.bool false,.bool false,.bool false],.struct #[⟨"power",4,0,false,"","martensite/martensiteref05",0⟩,⟨"law",4,1,false,"","martensite/martensiteref05",1⟩,⟨"kelvin",4,2,false,"","martensite/martensiteref05",2⟩,⟨"body",4,3,false,"","martensite/martensiteref05",3⟩],none⟩
def UQ:TI:=⟨1,24,false,[.slice none 0 0],.slice 40,none⟩
def UO:TI:=⟨1,24,false,[.slice none 0 0],.slice 277,none⟩
def UN:TI:=⟨8,128,true,[.slice none 0 0,.slice none 0 0,.slice none 0 0,.slice none 0 0,.int .i64 0,.int .i64 0,.int .i64 0,.int .i64 0],.struct #[⟨"SteelRules",81,0,true,"","",0⟩],none⟩
def UM:TI:=⟨8,128,true,[.slice none 0 0,.slice none 0 0,.slice none 0 0,.slice none 0 0,.int .i64 0,.int .i64 0,.int .i64 0,.int .i64 0],.struct #[⟨"SteelRules",81,0,true,"","",0⟩],none⟩
def UL:TI:=⟨2,16,true,[.int .i64 0,.int .i64 0],.struct #[⟨"Num",3,0,false,"","",0⟩,⟨"Den",3,1,false,"","",8⟩],none⟩
def UK:TI:=⟨2,16,true,[.int .i64 0,.int .i64 0],.struct #[⟨"Num",3,0,false,"","",0⟩,⟨"Den",3,1,false,"","",8⟩],none⟩
def UJ:TI:=⟨1,8,false,[.pointer none],.pointer 3,none⟩
def UH:TI:=⟨1,24,false,[.slice none 0 0],.slice 239,none⟩
def UG:TI:=⟨1,8,false,[.map none],.map 3 240,none⟩
def UF:TI:=⟨2,16,true,[.int .i64 0,.int .i64 0],.struct #[⟨"num",3,0,false,"","martensite/heat",0⟩,⟨"den",3,1,false,"","martensite/heat",8⟩],none⟩
def UE:TI:=⟨2,16,true,[.int .i64 0,.int .i64 0],.struct #[⟨"num",3,0,false,"","martensite/heat",0⟩,⟨"den",3,1,false,"","martensite/heat",8⟩],none⟩
def UD:TI:=⟨2,16,true,[.int .i64 0,.int .i64 0],.struct #[⟨"x",3,0,false,"","martensite/heat",0⟩,⟨"y",3,1,false,"","martensite/heat",8⟩],none⟩
def UC:TI:=⟨2,16,true,[.int .i64 0,.int .i64 0],.struct #[⟨"x",3,0,false,"","martensite/heat",0⟩,⟨"y",3,1,false,"","martensite/heat",8⟩],none⟩
def UA:TI:=⟨1,24,false,[.slice none 0 0],.slice 270,none⟩
def Uz:TI:=⟨4,96,true,[.slice none 0 0,.slice none 0 0,.slice none 0 0,.slice none 0 0],.array 4 264,none⟩
def Uy:TI:=⟨1,8,false,[.pointer none],.pointer 270,none⟩
def Ux:TI:=⟨3,40,true,[.int .i64 0,.slice none 0 0,.int .i64 0],.struct #[⟨"kelvin",3,0,false,"","martensite/steel",0⟩,⟨"ranges",41,1,false,"","martensite/steel",8⟩,⟨"other",3,2,false,"","martensite/steel",32⟩],none⟩
def Uw:TI:=⟨3,40,true,[.int .i64 0,.slice none 0 0,.int .i64 0],.struct #[⟨"kelvin",3,0,false,"","martensite/steel",0⟩,⟨"ranges",41,1,false,"","martensite/steel",8⟩,⟨"other",3,2,false,"","martensite/steel",32⟩],none⟩
def Uu:TI:=⟨1,24,false,[.slice none 0 0],.slice 264,none⟩
def Ut:TI:=⟨3,40,true,[.slice none 0 0,.int .i64 0,.int .i64 0],.struct #[⟨"Powers",41,0,false,"","",0⟩,⟨"Laws",65,1,false,"","",24⟩],none⟩
def Us:TI:=⟨3,40,true,[.slice none 0 0,.int .i64 0,.int .i64 0],.struct #[⟨"Powers",41,0,false,"","",0⟩,⟨"Laws",65,1,false,"","",24⟩],none⟩
def Ur:TI:=⟨1,8,false,[.nilFunc],.func #[3] #[65] false,none⟩
def Uo:TI:=⟨7,56,true,[.int .i64 0,.int .i64 0,.int .i64 0,.int .i64 0,.int .i64 0,.int .i64 0,.int .i64 0],.array 7 3,none⟩
def Un:TI:=⟨1,8,false,[.pointer none],.pointer 65,none⟩
def Um:TI:=⟨7,56,true,[.pointer none,.pointer none,.pointer none,.pointer none,.pointer none,.pointer none,.pointer none],.array 7 280,none⟩
def Ul:TI:=⟨1,8,false,[.pointer none],.pointer 170,none⟩
def Uk:TI:=⟨8,64,true,[.int .i64 0,.int .i64 0,.int .i64 0,.int .i64 0,.int .i64 0,.int .i64 0,.int .i64 0,.int .i64 0],.array 4 65,none⟩
def Uj:TI:=⟨6,96,true,[.string .empty,.string .empty,.string .empty,.string .empty,.string .empty,.string .empty],.array 6 9,none⟩
def Ui:TI:=⟨1,8,false,[.nilFunc],.func #[263,259] #[3] false,none⟩
def Uh:TI:=⟨5,40,true,[.int .i64 0,.int .i64 0,.int .i64 0,.int .i64 0,.int .i64 0],.struct #[⟨"Kelvin",3,0,false,"","",0⟩,⟨"Wait",65,1,false,"","",8⟩,⟨"Rate",65,3,false,"","",24⟩],none⟩
def Ug:TI:=⟨5,40,true,[.int .i64 0,.int .i64 0,.int .i64 0,.int .i64 0,.int .i64 0],.struct #[⟨"Kelvin",3,0,false,"","",0⟩,⟨"Wait",65,1,false,"","",8⟩,⟨"Rate",65,3,false,"","",24⟩],none⟩
def Uf:TI:=⟨2,16,true,[.int .i64 0,.int .i64 0],.struct #[⟨"Kelvin",3,0,false,"","",0⟩,⟨"Rate",3,1,false,"","",8⟩],none⟩
def Ue:TI:=⟨2,16,true,[.int .i64 0,.int .i64 0],.struct #[⟨"Kelvin",3,0,false,"","",0⟩,⟨"Rate",3,1,false,"","",8⟩],none⟩
def Ud:TI:=⟨1,8,false,[.nilFunc],.func #[65] #[4] false,none⟩
def Uc:TI:=⟨1,8,false,[.nilFunc],.func #[3] #[3] false,none⟩
def Ub:TI:=⟨1,8,false,[.int .u64 0],.int .u64,none⟩
def Ua:TI:=⟨1,8,false,[.pointer none],.pointer 177,none⟩
def TY:TI:=⟨1,8,false,[.pointer none],.pointer 305,none⟩
def TW:TI:=⟨1,8,false,[.pointer none],.pointer 179,none⟩
def TV:TI:=⟨1,8,false,[.pointer none],.pointer 307,none⟩
def TU:TI:=⟨1,8,false,[.nilFunc],.func #[177] #[4] false,none⟩
def TT:TI:=⟨1,8,false,[.nilFunc],.func #[305] #[4] false,none⟩
def TS:TI:=⟨1,8,false,[.nilFunc],.func #[179] #[4] false,none⟩
def TR:TI:=⟨1,8,false,[.nilFunc],.func #[3,3,3] #[3] false,none⟩
def TQ:TI:=⟨1,8,false,[.nilFunc],.func #[307] #[4] false,none⟩
def TP:TI:=⟨1,8,false,[.nilFunc],.func #[382] #[] false,none⟩
def TN:TI:=⟨1,8,false,[.nilFunc],.func #[382] #[] false,none⟩
def TM:TI:=⟨1,8,false,[.nilFunc],.func #[383] #[] false,none⟩
def TK:TI:=⟨1,8,false,[.nilFunc],.func #[383] #[] false,none⟩
def TJ:TI:=⟨1,8,false,[.nilFunc],.func #[3,177] #[4] false,none⟩
def TG:TI:=⟨1,8,false,[.nilFunc],.func #[3,307] #[4] false,none⟩
def tyl:List (Nat×TI):=[(3,ti3),(4,ti4),(9,ti9),(20,aem),(22,ael),(25,aek),(34,aej),(35,aei),(36,aeh),(37,aeg),(38,aef),(39,aee),(40,aed),(41,aec),(42,aeb),(43,aea),(45,ad9),(55,ad8),(56,ad7),(58,ad6),(59,ad5),(60,ad4),(61,ad3),(62,ad2),(63,ad1),(64,adZ),(65,adY),(66,adX),(75,adW),(76,adV),(77,adU),(78,adT),(79,adS),(80,adR),(81,adQ),(82,adP),(83,adO),(84,adN),(95,adM),(97,adL),(98,adK),(99,adJ),(100,VB),(105,VA),(108,Vz),(109,Vy),(119,Vx),(120,Vw),(121,Vu),(122,Vt),(123,Vs),(124,Vr),(128,Vq),(132,Vp),(133,Vo),(136,Vm),(137,Vl),(140,Vk),(145,Vj),(157,Vh),(158,Vg),(159,Vf),(160,Ve),(169,Vd),(170,Vb),(173,Va),(174,U9),(176,U8),(177,U7),(178,U6),(179,U5),(181,U4),(184,U3),(193,U2),(194,U1),(198,U0),(200,UZ),(201,UY),(202,UW),(203,UU),(204,UR),(219,UQ),(222,UO),(230,UN),(231,UM),(234,UL),(235,UK),(239,UJ),(240,UH),(241,UG),(258,UF),(259,UE),(262,UD),(263,UC),(264,UA),(265,Uz),(267,Uy),(269,Ux),(270,Uw),(271,Uu),(276,Ut),(277,Us),(278,Ur),(279,Uo),(280,Un),(281,Um),(283,Ul),(284,Uk),(290,Uj),(303,Ui),(304,Uh),(305,Ug),(306,Uf),(307,Ue),(309,Ud),(318,Uc),(323,Ub),(329,Ua),(332,TY),(335,TW),(338,TV),(349,TU),(351,TT),(353,TS),(354,TR),(356,TQ),(368,TP),(369,TN),(373,TM),(374,TK),(382,TJ),(383,TG)]
def ty:iq:=fun t=>lk tyl t
@[go_sem] theorem aF8:ty 3=some ti3:=by kernel_rfl
@[go_sem] theorem aF7:ty 4=some ti4:=by kernel_rfl
@[go_sem] theorem aF6:ty 9=some ti9:=by kernel_rfl
@[go_sem] theorem aDe:ty 20=some aem:=by kernel_rfl
@[go_sem] theorem aDd:ty 22=some ael:=by kernel_rfl
@[go_sem] theorem aDc:ty 25=some aek:=by kernel_rfl
@[go_sem] theorem aDb:ty 34=some aej:=by kernel_rfl
@[go_sem] theorem aDa:ty 35=some aei:=by kernel_rfl
@[go_sem] theorem aC':ty 36=some aeh:=by kernel_rfl
@[go_sem] theorem aC9:ty 37=some aeg:=by kernel_rfl
@[go_sem] theorem aC8:ty 38=some aef:=by kernel_rfl
@[go_sem] theorem aC7:ty 39=some aee:=by kernel_rfl
@[go_sem] theorem aC6:ty 40=some aed:=by kernel_rfl
@[go_sem] theorem aC5:ty 41=some aec:=by kernel_rfl
@[go_sem] theorem aC4:ty 42=some aeb:=by kernel_rfl
@[go_sem] theorem aC3:ty 43=some aea:=by kernel_rfl
@[go_sem] theorem aC2:ty 45=some ad9:=by kernel_rfl
@[go_sem] theorem aC1:ty 55=some ad8:=by kernel_rfl
@[go_sem] theorem aC0:ty 56=some ad7:=by kernel_rfl
@[go_sem] theorem aCZ:ty 58=some ad6:=by kernel_rfl
@[go_sem] theorem aCY:ty 59=some ad5:=by kernel_rfl
@[go_sem] theorem aCX:ty 60=some ad4:=by kernel_rfl
@[go_sem] theorem aCW:ty 61=some ad3:=by kernel_rfl
@[go_sem] theorem aCV:ty 62=some ad2:=by kernel_rfl
@[go_sem] theorem aCU:ty 63=some ad1:=by kernel_rfl
@[go_sem] theorem aCT:ty 64=some adZ:=by kernel_rfl
@[go_sem] theorem aCS:ty 65=some adY:=by kernel_rfl
@[go_sem] theorem aCR:ty 66=some adX:=by kernel_rfl
@[go_sem] theorem aCQ:ty 75=some adW:=by kernel_rfl
@[go_sem] theorem aCP:ty 76=some adV:=by kernel_rfl
@[go_sem] theorem aCO:ty 77=some adU:=by kernel_rfl
@[go_sem] theorem aCN:ty 78=some adT:=by kernel_rfl
@[go_sem] theorem aCM:ty 79=some adS:=by kernel_rfl
@[go_sem] theorem aCL:ty 80=some adR:=by kernel_rfl
@[go_sem] theorem aCK:ty 81=some adQ:=by kernel_rfl
@[go_sem] theorem aCJ:ty 82=some adP:=by kernel_rfl
@[go_sem] theorem aCI:ty 83=some adO:=by kernel_rfl
@[go_sem] theorem aCH:ty 84=some adN:=by kernel_rfl
@[go_sem] theorem aCG:ty 95=some adM:=by kernel_rfl
@[go_sem] theorem aCF:ty 97=some adL:=by kernel_rfl
@[go_sem] theorem aCE:ty 98=some adK:=by kernel_rfl
@[go_sem] theorem aCD:ty 99=some adJ:=by kernel_rfl
@[go_sem] theorem ay1:ty 100=some VB:=by kernel_rfl
@[go_sem] theorem ay0:ty 105=some VA:=by kernel_rfl
@[go_sem] theorem ayZ:ty 108=some Vz:=by kernel_rfl
@[go_sem] theorem ayY:ty 109=some Vy:=by kernel_rfl
@[go_sem] theorem ayX:ty 119=some Vx:=by kernel_rfl
@[go_sem] theorem ayW:ty 120=some Vw:=by kernel_rfl
@[go_sem] theorem ayV:ty 121=some Vu:=by kernel_rfl
@[go_sem] theorem ayU:ty 122=some Vt:=by kernel_rfl
@[go_sem] theorem ayT:ty 123=some Vs:=by kernel_rfl
@[go_sem] theorem ayS:ty 124=some Vr:=by kernel_rfl
@[go_sem] theorem ayR:ty 128=some Vq:=by kernel_rfl
@[go_sem] theorem ayQ:ty 132=some Vp:=by kernel_rfl
@[go_sem] theorem ayP:ty 133=some Vo:=by kernel_rfl
@[go_sem] theorem ayO:ty 136=some Vm:=by kernel_rfl
@[go_sem] theorem ayN:ty 137=some Vl:=by kernel_rfl
@[go_sem] theorem ayM:ty 140=some Vk:=by kernel_rfl
@[go_sem] theorem ayL:ty 145=some Vj:=by kernel_rfl
@[go_sem] theorem ayK:ty 157=some Vh:=by kernel_rfl
@[go_sem] theorem ayJ:ty 158=some Vg:=by kernel_rfl
@[go_sem] theorem ayI:ty 159=some Vf:=by kernel_rfl
@[go_sem] theorem ayH:ty 160=some Ve:=by kernel_rfl
@[go_sem] theorem ayG:ty 169=some Vd:=by kernel_rfl
@[go_sem] theorem ayF:ty 170=some Vb:=by kernel_rfl
@[go_sem] theorem ayE:ty 173=some Va:=by kernel_rfl
@[go_sem] theorem ayD:ty 174=some U9:=by kernel_rfl
@[go_sem] theorem ayC:ty 176=some U8:=by kernel_rfl
@[go_sem] theorem ayB:ty 177=some U7:=by kernel_rfl
@[go_sem] theorem ayA:ty 178=some U6:=by kernel_rfl
@[go_sem] theorem ayz:ty 179=some U5:=by kernel_rfl
@[go_sem] theorem ayy:ty 181=some U4:=by kernel_rfl
@[go_sem] theorem ayx:ty 184=some U3:=by kernel_rfl
@[go_sem] theorem ayw:ty 193=some U2:=by kernel_rfl
@[go_sem] theorem ayv:ty 194=some U1:=by kernel_rfl
@[go_sem] theorem ayu:ty 198=some U0:=by kernel_rfl
@[go_sem] theorem ayt:ty 200=some UZ:=by kernel_rfl
@[go_sem] theorem ays:ty 201=some UY:=by kernel_rfl
@[go_sem] theorem ayr:ty 202=some UW:=by kernel_rfl
@[go_sem] theorem ayq:ty 203=some UU:=by kernel_rfl
@[go_sem] theorem ayp:ty 204=some UR:=by kernel_rfl
@[go_sem] theorem ayo:ty 219=some UQ:=by kernel_rfl
@[go_sem] theorem ayn:ty 222=some UO:=by kernel_rfl
@[go_sem] theorem aym:ty 230=some UN:=by kernel_rfl
@[go_sem] theorem ayl:ty 231=some UM:=by kernel_rfl
@[go_sem] theorem ayk:ty 234=some UL:=by kernel_rfl
@[go_sem] theorem ayj:ty 235=some UK:=by kernel_rfl
@[go_sem] theorem ayi:ty 239=some UJ:=by kernel_rfl
@[go_sem] theorem ayh:ty 240=some UH:=by kernel_rfl
@[go_sem] theorem ayg:ty 241=some UG:=by kernel_rfl
@[go_sem] theorem ayf:ty 258=some UF:=by kernel_rfl
@[go_sem] theorem aye:ty 259=some UE:=by kernel_rfl
@[go_sem] theorem ayd:ty 262=some UD:=by kernel_rfl
@[go_sem] theorem ayc:ty 263=some UC:=by kernel_rfl
@[go_sem] theorem ayb:ty 264=some UA:=by kernel_rfl
@[go_sem] theorem aya:ty 265=some Uz:=by kernel_rfl
@[go_sem] theorem ax':ty 267=some Uy:=by kernel_rfl
@[go_sem] theorem ax9:ty 269=some Ux:=by kernel_rfl
@[go_sem] theorem ax8:ty 270=some Uw:=by kernel_rfl
@[go_sem] theorem ax7:ty 271=some Uu:=by kernel_rfl
@[go_sem] theorem ax6:ty 276=some Ut:=by kernel_rfl
@[go_sem] theorem ax5:ty 277=some Us:=by kernel_rfl
@[go_sem] theorem ax4:ty 278=some Ur:=by kernel_rfl
@[go_sem] theorem ax3:ty 279=some Uo:=by kernel_rfl
@[go_sem] theorem ax2:ty 280=some Un:=by kernel_rfl
@[go_sem] theorem ax1:ty 281=some Um:=by kernel_rfl
@[go_sem] theorem ax0:ty 283=some Ul:=by kernel_rfl
@[go_sem] theorem axZ:ty 284=some Uk:=by kernel_rfl
@[go_sem] theorem axY:ty 290=some Uj:=by kernel_rfl
@[go_sem] theorem axX:ty 303=some Ui:=by kernel_rfl
@[go_sem] theorem axW:ty 304=some Uh:=by kernel_rfl
@[go_sem] theorem axV:ty 305=some Ug:=by kernel_rfl
@[go_sem] theorem axU:ty 306=some Uf:=by kernel_rfl
@[go_sem] theorem axT:ty 307=some Ue:=by kernel_rfl
@[go_sem] theorem axS:ty 309=some Ud:=by kernel_rfl
@[go_sem] theorem axR:ty 318=some Uc:=by kernel_rfl
@[go_sem] theorem axQ:ty 323=some Ub:=by kernel_rfl
@[go_sem] theorem axP:ty 329=some Ua:=by kernel_rfl
@[go_sem] theorem axO:ty 332=some TY:=by kernel_rfl
@[go_sem] theorem axN:ty 335=some TW:=by kernel_rfl
@[go_sem] theorem axM:ty 338=some TV:=by kernel_rfl
@[go_sem] theorem axL:ty 349=some TU:=by kernel_rfl
@[go_sem] theorem axK:ty 351=some TT:=by kernel_rfl
@[go_sem] theorem axJ:ty 353=some TS:=by kernel_rfl
@[go_sem] theorem axI:ty 354=some TR:=by kernel_rfl
@[go_sem] theorem axH:ty 356=some TQ:=by kernel_rfl
@[go_sem] theorem axG:ty 368=some TP:=by kernel_rfl
@[go_sem] theorem axF:ty 369=some TN:=by kernel_rfl
@[go_sem] theorem axE:ty 373=some TM:=by kernel_rfl
@[go_sem] theorem axD:ty 374=some TK:=by kernel_rfl
@[go_sem] theorem axC:ty 382=some TJ:=by kernel_rfl
@[go_sem] theorem axB:ty 383=some TG:=by kernel_rfl
attribute [go_sem] ti3 ti4 ti9 aem ael aek aej aei aeh aeg aef aee aed aec aeb aea ad9 ad8 ad7 ad6 ad5 ad4 ad3 ad2 ad1 adZ adY adX adW adV adU adT adS adR adQ adP adO adN adM adL adK adJ VB VA Vz Vy Vx Vw Vu Vt Vs Vr Vq Vp Vo Vm Vl Vk Vj Vh Vg Vf Ve Vd Vb Va U9 U8 U7 U6 U5 U4 U3 U2 U1 U0 UZ UY UW UU UR UQ UO UN UM UL UK UJ UH UG UF UE UD UC UA Uz Uy Ux Uw Uu Ut Us Ur Uo Un Um Ul Uk Uj Ui Uh Ug Uf Ue Ud Uc Ub Ua TY TW TV TU TT TS TR TQ TP TN TM TK TJ TG
def zv (i:TI):Value:=if i.agg=true then .agg i.zero.toArray else i.zero.headD .nilFunc
theorem fact {t:Nat} {i:TI} (he:∀ n,i.eqn=some n->agn Tryz.prog t n:=by (intro n hn; cases hn; done)) (h1:(Tryz.prog.info? t).map (fun i=>(i.size,i.bytes,i.zero))=some (i.size,i.bytes,some (zv i)):=by kernel_rfl) (h2:Tryz.prog.underlying t=some i.desc:=by kernel_rfl) (hz:(zv i).cells.toList=i.zero:=by rfl)
 (ha:i.agg=(match i.desc with | .struct _ | .array _ _=>true | _=>false):=by rfl) (ho:i.agg=false->i.size=1:=by first | (intro _; rfl) | (intro h; cases h)) (hl:i.zero.length=i.size:=by rfl):aH Tryz.prog t i:=by
 have key:∃ info,Tryz.prog.info? t=some info/\info.size=i.size/\info.bytes=i.bytes/\info.zero=some (zv i):=by
  cases hi:Tryz.prog.info? t with
  | none=>rw [hi] at h1; cases h1
  | some info=>
   rw [hi] at h1
   simp only [Option.map_some,Option.some.injEq,Prod.mk.injEq] at h1
   exact ⟨info,rfl,h1.1,h1.2.1,h1.2.2⟩
 obtain ⟨info,k1,k2,k3,k4⟩:=key
 exact ⟨⟨info,zv i,k1,k2,k3,k4,hz⟩,h2,ha,ho,hl,he,fun h=>⟨info,k1,by rw [k4]; simp [zv,h]⟩⟩
theorem aBZ:agn Tryz.prog 60 [true,true] where
 guard:=by kernel_rfl
 run:=by
  intro xs ys w h1 h2
  obtain ⟨a0,xs0,rfl,akr⟩:=tq h1
  obtain ⟨b0,ys0,rfl,akp⟩:=tq h2
  obtain ⟨a1,xs1,rfl,akq⟩:=tq akr
  obtain ⟨b1,ys1,rfl,ako⟩:=tq akp
  obtain rfl:=Jy akq
  obtain rfl:=Jy ako
  have u3:Tryz.prog.underlying 3=some (.int .i64):=by kernel_rfl
  have u60:Tryz.prog.underlying 60=some (.struct #[⟨"Power",3,0,false,"","",0⟩,⟨"Law",3,1,false,"","",8⟩]):=by kernel_rfl
  have g60:Tryz.prog.stoodInHeld 60=false:=by kernel_rfl
  have v60:Tryz.prog.underlying 60=some (.struct (Tryz.prog.fieldsOf 60)):=by kernel_rfl
  have w60:(Tryz.prog.fieldsOf 60).toList=[⟨"Power",3,0,false,"","",0⟩,⟨"Law",3,1,false,"","",8⟩]:=by kernel_rfl
  have s60:∀ w,(sizeOf 60).run Tryz.prog w= .ok 2 w:=fun _=>by kernel_rfl
  have p3:∀ w,(isAgg 3).run Tryz.prog w= .ok false w:=fun _=>by kernel_rfl
  have p60:∀ w,(isAgg 60).run Tryz.prog w= .ok true w:=fun _=>by kernel_rfl
  have e3:∀ (d:Nat) (a b:Int) (w:World),(Op.equalIn (d+1) 3 (.int .i64 a) (.int .i64 b)).run Tryz.prog w= .ok (a == b) w:=fun d a b w=>run_equalIn_int w d 3 .i64 .i64 a b u3
  have e60:∀ (d:Nat) (xs ys:Array Value) (w:World),(Op.equalIn (d+1) 60 (.agg xs) (.agg ys)).run Tryz.prog w=(Op.eqFields d xs ys (Tryz.prog.fieldsOf 60).toList).run Tryz.prog w:=fun d xs ys w=>run_equalIn_struct w d 60 xs ys v60 g60
  simp [evs,EV.val,e3,e60,Op.eqFields,part,g60,w60,s60,p3,p60]
  try grind
theorem aBY:agn Tryz.prog 65 [true,true] where
 guard:=by kernel_rfl
 run:=by
  intro xs ys w h1 h2
  obtain ⟨a0,xs0,rfl,akr⟩:=tq h1
  obtain ⟨b0,ys0,rfl,akp⟩:=tq h2
  obtain ⟨a1,xs1,rfl,akq⟩:=tq akr
  obtain ⟨b1,ys1,rfl,ako⟩:=tq akp
  obtain rfl:=Jy akq
  obtain rfl:=Jy ako
  have u3:Tryz.prog.underlying 3=some (.int .i64):=by kernel_rfl
  have u65:Tryz.prog.underlying 65=some (.struct #[⟨"Lo",3,0,false,"","",0⟩,⟨"Hi",3,1,false,"","",8⟩]):=by kernel_rfl
  have g65:Tryz.prog.stoodInHeld 65=false:=by kernel_rfl
  have v65:Tryz.prog.underlying 65=some (.struct (Tryz.prog.fieldsOf 65)):=by kernel_rfl
  have w65:(Tryz.prog.fieldsOf 65).toList=[⟨"Lo",3,0,false,"","",0⟩,⟨"Hi",3,1,false,"","",8⟩]:=by kernel_rfl
  have s65:∀ w,(sizeOf 65).run Tryz.prog w= .ok 2 w:=fun _=>by kernel_rfl
  have p3:∀ w,(isAgg 3).run Tryz.prog w= .ok false w:=fun _=>by kernel_rfl
  have p65:∀ w,(isAgg 65).run Tryz.prog w= .ok true w:=fun _=>by kernel_rfl
  have e3:∀ (d:Nat) (a b:Int) (w:World),(Op.equalIn (d+1) 3 (.int .i64 a) (.int .i64 b)).run Tryz.prog w= .ok (a == b) w:=fun d a b w=>run_equalIn_int w d 3 .i64 .i64 a b u3
  have e65:∀ (d:Nat) (xs ys:Array Value) (w:World),(Op.equalIn (d+1) 65 (.agg xs) (.agg ys)).run Tryz.prog w=(Op.eqFields d xs ys (Tryz.prog.fieldsOf 65).toList).run Tryz.prog w:=fun d xs ys w=>run_equalIn_struct w d 65 xs ys v65 g65
  simp [evs,EV.val,e3,e65,Op.eqFields,part,g65,w65,s65,p3,p65]
  try grind
theorem tf3:aH Tryz.prog 3 ti3:=fact
theorem tf4:aH Tryz.prog 4 ti4:=fact
theorem tf9:aH Tryz.prog 9 ti9:=fact
theorem azD:aH Tryz.prog 20 aem:=fact
theorem azC:aH Tryz.prog 22 ael:=fact
theorem azB:aH Tryz.prog 25 aek:=fact
theorem azA:aH Tryz.prog 34 aej:=fact
theorem azz:aH Tryz.prog 35 aei:=fact
theorem azy:aH Tryz.prog 36 aeh:=fact
theorem azx:aH Tryz.prog 37 aeg:=fact
theorem azw:aH Tryz.prog 38 aef:=fact
theorem azv:aH Tryz.prog 39 aee:=fact
theorem azu:aH Tryz.prog 40 aed:=fact
theorem azt:aH Tryz.prog 41 aec:=fact
theorem azs:aH Tryz.prog 42 aeb:=fact
theorem azr:aH Tryz.prog 43 aea:=fact
theorem azq:aH Tryz.prog 45 ad9:=fact
theorem azp:aH Tryz.prog 55 ad8:=fact
theorem azo:aH Tryz.prog 56 ad7:=fact
theorem azn:aH Tryz.prog 58 ad6:=fact
theorem azm:aH Tryz.prog 59 ad5:=fact
theorem azl:aH Tryz.prog 60 ad4:=fact (fun n hn=>by obtain rfl:=Option.some.inj hn; exact aBZ)
theorem azk:aH Tryz.prog 61 ad3:=fact
theorem azj:aH Tryz.prog 62 ad2:=fact
theorem azi:aH Tryz.prog 63 ad1:=fact
theorem azh:aH Tryz.prog 64 adZ:=fact
theorem azg:aH Tryz.prog 65 adY:=fact (fun n hn=>by obtain rfl:=Option.some.inj hn; exact aBY)
theorem azf:aH Tryz.prog 66 adX:=fact
theorem aze:aH Tryz.prog 75 adW:=fact
theorem azd:aH Tryz.prog 76 adV:=fact
theorem azc:aH Tryz.prog 77 adU:=fact
theorem azb:aH Tryz.prog 78 adT:=fact
theorem aza:aH Tryz.prog 79 adS:=fact
theorem ay':aH Tryz.prog 80 adR:=fact
theorem ay9:aH Tryz.prog 81 adQ:=fact
theorem ay8:aH Tryz.prog 82 adP:=fact
theorem ay7:aH Tryz.prog 83 adO:=fact
theorem ay6:aH Tryz.prog 84 adN:=fact
theorem ay5:aH Tryz.prog 95 adM:=fact
theorem ay4:aH Tryz.prog 97 adL:=fact
theorem ay3:aH Tryz.prog 98 adK:=fact
theorem ay2:aH Tryz.prog 99 adJ:=fact
theorem anH:aH Tryz.prog 100 VB:=fact
theorem anG:aH Tryz.prog 105 VA:=fact
theorem anF:aH Tryz.prog 108 Vz:=fact
theorem anE:aH Tryz.prog 109 Vy:=fact
theorem anD:aH Tryz.prog 119 Vx:=fact
theorem anC:aH Tryz.prog 120 Vw:=fact
theorem anB:aH Tryz.prog 121 Vu:=fact
theorem anA:aH Tryz.prog 122 Vt:=fact
theorem anz:aH Tryz.prog 123 Vs:=fact
theorem anx:aH Tryz.prog 124 Vr:=fact
theorem anw:aH Tryz.prog 128 Vq:=fact
theorem anv:aH Tryz.prog 132 Vp:=fact
theorem anu:aH Tryz.prog 133 Vo:=fact
theorem ant:aH Tryz.prog 136 Vm:=fact
theorem anr:aH Tryz.prog 137 Vl:=fact
theorem anq:aH Tryz.prog 140 Vk:=fact
theorem anp:aH Tryz.prog 145 Vj:=fact
theorem ano:aH Tryz.prog 157 Vh:=fact
theorem anm:aH Tryz.prog 158 Vg:=fact
theorem anl:aH Tryz.prog 159 Vf:=fact
theorem ank:aH Tryz.prog 160 Ve:=fact
theorem anj:aH Tryz.prog 169 Vd:=fact
theorem ani:aH Tryz.prog 170 Vb:=fact
theorem anh:aH Tryz.prog 173 Va:=fact
theorem ang:aH Tryz.prog 174 U9:=fact
theorem anf:aH Tryz.prog 176 U8:=fact
theorem ane:aH Tryz.prog 177 U7:=fact
theorem anc:aH Tryz.prog 178 U6:=fact
theorem anb:aH Tryz.prog 179 U5:=fact
theorem ana:aH Tryz.prog 181 U4:=fact
theorem am':aH Tryz.prog 184 U3:=fact
theorem am9:aH Tryz.prog 193 U2:=fact
theorem am8:aH Tryz.prog 194 U1:=fact
theorem am7:aH Tryz.prog 198 U0:=fact
theorem am6:aH Tryz.prog 200 UZ:=fact
theorem am5:aH Tryz.prog 201 UY:=fact
theorem am4:aH Tryz.prog 202 UW:=fact
theorem am3:aH Tryz.prog 203 UU:=fact
theorem am2:aH Tryz.prog 204 UR:=fact
theorem am1:aH Tryz.prog 219 UQ:=fact
theorem am0:aH Tryz.prog 222 UO:=fact
theorem amZ:aH Tryz.prog 230 UN:=fact
theorem amY:aH Tryz.prog 231 UM:=fact
theorem amX:aH Tryz.prog 234 UL:=fact
theorem amW:aH Tryz.prog 235 UK:=fact
theorem amV:aH Tryz.prog 239 UJ:=fact
theorem amU:aH Tryz.prog 240 UH:=fact
theorem amT:aH Tryz.prog 241 UG:=fact
theorem amS:aH Tryz.prog 258 UF:=fact
theorem amR:aH Tryz.prog 259 UE:=fact
theorem amQ:aH Tryz.prog 262 UD:=fact
theorem amP:aH Tryz.prog 263 UC:=fact
theorem amO:aH Tryz.prog 264 UA:=fact
theorem amN:aH Tryz.prog 265 Uz:=fact
theorem amM:aH Tryz.prog 267 Uy:=fact
theorem amL:aH Tryz.prog 269 Ux:=fact
theorem amK:aH Tryz.prog 270 Uw:=fact
theorem amJ:aH Tryz.prog 271 Uu:=fact
theorem amI:aH Tryz.prog 276 Ut:=fact
theorem amH:aH Tryz.prog 277 Us:=fact
theorem amG:aH Tryz.prog 278 Ur:=fact
theorem amF:aH Tryz.prog 279 Uo:=fact
theorem amE:aH Tryz.prog 280 Un:=fact
theorem amD:aH Tryz.prog 281 Um:=fact
theorem amC:aH Tryz.prog 283 Ul:=fact
theorem amB:aH Tryz.prog 284 Uk:=fact
theorem amA:aH Tryz.prog 290 Uj:=fact
theorem amy:aH Tryz.prog 303 Ui:=fact
theorem amx:aH Tryz.prog 304 Uh:=fact
theorem amw:aH Tryz.prog 305 Ug:=fact
theorem amv:aH Tryz.prog 306 Uf:=fact
theorem amu:aH Tryz.prog 307 Ue:=fact
theorem ams:aH Tryz.prog 309 Ud:=fact
theorem amr:aH Tryz.prog 318 Uc:=fact
theorem amq:aH Tryz.prog 323 Ub:=fact
theorem amo:aH Tryz.prog 329 Ua:=fact
theorem amn:aH Tryz.prog 332 TY:=fact
theorem amm:aH Tryz.prog 335 TW:=fact
theorem aml:aH Tryz.prog 338 TV:=fact
theorem amk:aH Tryz.prog 349 TU:=fact
theorem amj:aH Tryz.prog 351 TT:=fact
theorem ami:aH Tryz.prog 353 TS:=fact
theorem amh:aH Tryz.prog 354 TR:=fact
theorem amg:aH Tryz.prog 356 TQ:=fact
theorem amf:aH Tryz.prog 368 TP:=fact
theorem ame:aH Tryz.prog 369 TN:=fact
theorem amd:aH Tryz.prog 373 TM:=fact
theorem amc:aH Tryz.prog 374 TK:=fact
theorem amb:aH Tryz.prog 382 TJ:=fact
theorem ama:aH Tryz.prog 383 TG:=fact
def Facts:List (Nat×TI)->Prop
 | []=>True
 | p::r=>aH Tryz.prog p.1 p.2/\Facts r
theorem GY:∀ {l:List (Nat×TI)},Facts l->∀ t i,lk l t=some i->aH Tryz.prog t i
 | [],_,_,_,h=>by cases h
 | (k,x)::r,h,t,i,hi=>by
  simp only [lk] at hi
  split at hi
  ·rename_i e; subst e; obtain rfl:=Option.some.inj hi; exact h.1
  ·exact GY h.2 t i hi
theorem bP:gZ Tryz.prog ty:=GY (l:=tyl) ⟨tf3,tf4,tf9,azD,azC,azB,azA,azz,azy,azx,azw,azv,azu,azt,azs,azr,azq,azp,azo,azn,azm,azl,azk,azj,azi,azh,azg,azf,aze,azd,azc,azb,aza,ay',ay9,ay8,ay7,ay6,ay5,ay4,ay3,ay2,anH,anG,anF,anE,anD,anC,anB,anA,anz,anx,anw,anv,anu,ant,anr,anq,anp,ano,anm,anl,ank,anj,ani,anh,ang,anf,ane,anc,anb,ana,am',am9,am8,am7,am6,am5,am4,am3,am2,am1,am0,amZ,amY,amX,amW,amV,amU,amT,amS,amR,amQ,amP,amO,amN,amM,amL,amK,amJ,amI,amH,amG,amF,amE,amD,amC,amB,amA,amy,amx,amw,amv,amu,ams,amr,amq,amo,amn,amm,aml,amk,amj,ami,amh,amg,amf,ame,amd,amc,amb,ama,trivial⟩
end Go.Proofs.YtkbdjphdhcgmaaaGreatDoor
