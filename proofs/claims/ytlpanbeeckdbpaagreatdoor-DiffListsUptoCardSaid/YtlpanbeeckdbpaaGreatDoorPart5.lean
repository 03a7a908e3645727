/- Part 5 of the common texts: K1 TX. -/
import Derived.Lib.ItoaNum
import Derived.Shelf.Strings.Fields
import Derived.Test.YtlpanbeeckdbpaaGreatDoorProg
import Derived.Lib.Join
import Derived.Test.YtlpanbeeckdbpaaGreatDoorPart3
import Derived.Test.YtlpanbeeckdbpaaGreatDoorPart1
set_option linter.all false
set_option maxRecDepth 100000
set_option maxHeartbeats 16000000

section
namespace Go.VC.T07
open Go Go.VC Go.Proofs
def tab:List (TypeId×TI):=[
 (1,{ agg:=false,cks:=[.fn],fs:=[],el:=0,ar:=0,bytes:=8 }),
 (3,{ agg:=false,cks:=[.int .i64],fs:=[],el:=0,ar:=0,bytes:=8,glob:=some 3,gtab:=[(0,.u8,Lib.asciiSpaceTab),(2,.u64,Lib.pow10Tab)] }),
 (4,{ agg:=false,cks:=[.bool],fs:=[],el:=0,ar:=0,bytes:=1 }),
 (5,{ agg:=false,cks:=[.int .u8],fs:=[],el:=0,ar:=0,bytes:=1 }),
 (9,{ agg:=false,cks:=[.str],fs:=[],el:=0,ar:=0,bytes:=16 }),
 (21,{ agg:=false,cks:=[.int .i32],fs:=[],el:=0,ar:=0,bytes:=4 }),
 (22,{ agg:=false,cks:=[.slice 63],fs:=[],el:=63,ar:=0,bytes:=24 }),
 (23,{ agg:=false,cks:=[.slice 26],fs:=[],el:=26,ar:=0,bytes:=24 }),
 (24,{ agg:=false,cks:=[.slice 81],fs:=[],el:=81,ar:=0,bytes:=24 }),
 (26,{ agg:=true,cks:=[.int .i64,.str,.str,.slice 26,.slice 81],fs:=[(0,3),(1,9),(2,9),(3,23),(4,24)],el:=0,ar:=0,bytes:=88 }),
 (28,{ agg:=true,cks:=[.int .i64,.str,.str,.int .i64,.slice 63,.int .i64,.str,.str,.slice 26,.slice 81,.int .i64,.str,.str,.slice 26,.slice 81],fs:=[(0,3),(1,9),(2,9),(3,3),(4,22),(5,26),(10,26)],el:=0,ar:=0,bytes:=248 }),
 (31,{ agg:=false,cks:=[.fn],fs:=[],el:=0,ar:=0,bytes:=8 }),
 (32,{ agg:=false,cks:=[.slice 34],fs:=[],el:=34,ar:=0,bytes:=24 }),
 (34,{ agg:=true,cks:=[.int .i64,.str,.str,.int .i64,.int .i64,.bool,.bool],fs:=[(0,3),(1,9),(2,9),(3,3),(4,3),(5,4),(6,4)],el:=0,ar:=0,bytes:=64,eqOk:=true }),
 (39,{ agg:=false,cks:=[.slice 59],fs:=[],el:=59,ar:=0,bytes:=24 }),
 (40,{ agg:=false,cks:=[.slice 59],fs:=[],el:=59,ar:=0,bytes:=24 }),
 (42,{ agg:=false,cks:=[.slice 28],fs:=[],el:=28,ar:=0,bytes:=24 }),
 (43,{ agg:=false,cks:=[.int .i64],fs:=[],el:=0,ar:=0,bytes:=8 }),
 (46,{ agg:=false,cks:=[.slice 9],fs:=[],el:=9,ar:=0,bytes:=24 }),
 (49,{ agg:=false,cks:=[.slice 99],fs:=[],el:=99,ar:=0,bytes:=24 }),
 (53,{ agg:=true,cks:=[.str,.slice 63,.int .i64,.str,.str,.slice 26,.slice 81],fs:=[(0,9),(1,22),(2,26)],el:=0,ar:=0,bytes:=128 }),
 (54,{ agg:=false,cks:=[.slice 53],fs:=[],el:=53,ar:=0,bytes:=24 }),
 (55,{ agg:=false,cks:=[.slice 83],fs:=[],el:=83,ar:=0,bytes:=24 }),
 (56,{ agg:=false,cks:=[.slice 197],fs:=[],el:=197,ar:=0,bytes:=24 }),
 (57,{ agg:=false,cks:=[.slice 200],fs:=[],el:=200,ar:=0,bytes:=24 }),
 (59,{ agg:=true,cks:=[.str,.slice 83,.slice 53,.slice 197,.slice 200],fs:=[(0,9),(1,55),(2,54),(3,56),(4,57)],el:=0,ar:=0,bytes:=112 }),
 (63,{ agg:=true,cks:=[.str,.int .i64,.int .i64,.str,.str,.slice 26,.slice 81],fs:=[(0,9),(1,3),(2,26)],el:=0,ar:=0,bytes:=112 }),
 (70,{ agg:=false,cks:=[.map 70 9],fs:=[],el:=9,ar:=4,bytes:=8 }),
 (72,{ agg:=false,cks:=[.slice 3],fs:=[],el:=3,ar:=0,bytes:=24 }),
 (76,{ agg:=false,cks:=[.fn],fs:=[],el:=0,ar:=0,bytes:=8 }),
 (78,{ agg:=false,cks:=[.fn],fs:=[],el:=0,ar:=0,bytes:=8 }),
 (81,{ agg:=true,cks:=[.str,.int .i64,.str,.str,.slice 26,.slice 81,.bool],fs:=[(0,9),(1,26),(6,4)],el:=0,ar:=0,bytes:=112 }),
 (83,{ agg:=true,cks:=[.str,.slice 63,.int .i64,.str,.str,.slice 26,.slice 81,.int .i64,.str,.str,.slice 26,.slice 81],fs:=[(0,9),(1,22),(2,26),(7,26)],el:=0,ar:=0,bytes:=216 }),
 (89,{ agg:=false,cks:=[.slice 63],fs:=[],el:=63,ar:=0,bytes:=24 }),
 (90,{ agg:=false,cks:=[.slice 95],fs:=[],el:=95,ar:=0,bytes:=24 }),
 (95,{ agg:=true,cks:=[.int .i64,.str,.str,.slice 26,.slice 81,.int .i64,.str,.str,.slice 26,.slice 81],fs:=[(0,26),(5,26)],el:=0,ar:=0,bytes:=176 }),
 (97,{ agg:=false,cks:=[.fn],fs:=[],el:=0,ar:=0,bytes:=8 }),
 (99,{ agg:=true,cks:=[.int .i64,.int .i64,.str,.str,.slice 26,.slice 81,.int .i64,.str,.str,.slice 26,.slice 81],fs:=[(0,3),(1,26),(6,26)],el:=0,ar:=0,bytes:=184 }),
 (101,{ agg:=false,cks:=[.fn],fs:=[],el:=0,ar:=0,bytes:=8 }),
 (102,{ agg:=false,cks:=[.fn],fs:=[],el:=0,ar:=0,bytes:=8 }),
 (104,{ agg:=false,cks:=[.slice 5],fs:=[],el:=5,ar:=0,bytes:=24 }),
 (106,{ agg:=false,cks:=[.map 106 9],fs:=[],el:=9,ar:=10,bytes:=8 }),
 (114,{ agg:=true,cks:=[.int .u8,.int .u8,.int .u8,.int .u8,.int .u8,.int .u8,.int .u8,.int .u8,.int .u8,.int .u8,.int .u8,.int .u8,.int .u8,.int .u8,.int .u8,.int .u8,.int .u8,.int .u8,.int .u8,.int .u8,.int .u8,.int .u8,.int .u8,.int .u8,.int .u8,.int .u8,.int .u8,.int .u8,.int .u8,.int .u8,.int .u8,.int .u8,.int .u8,.int .u8,.int .u8,.int .u8,.int .u8,.int .u8,.int .u8,.int .u8,.int .u8,.int .u8,.int .u8,.int .u8,.int .u8,.int .u8,.int .u8,.int .u8,.int .u8,.int .u8,.int .u8,.int .u8,.int .u8,.int .u8,.int .u8,.int .u8,.int .u8,.int .u8,.int .u8,.int .u8,.int .u8,.int .u8,.int .u8,.int .u8,.int .u8,.int .u8,.int .u8,.int .u8,.int .u8,.int .u8,.int .u8,.int .u8,.int .u8,.int .u8,.int .u8,.int .u8,.int .u8,.int .u8,.int .u8,.int .u8,.int .u8,.int .u8,.int .u8,.int .u8,.int .u8,.int .u8,.int .u8,.int .u8,.int .u8,.int .u8,.int .u8,.int .u8,.int .u8,.int .u8,.int .u8,.int .u8,.int .u8,.int .u8,.int .u8,.int .u8,.int .u8,.int .u8,.int .u8,.int .u8,.int .u8,.int .u8,.int .u8,.int .u8,.int .u8,.int .u8,.int .u8,.int .u8,.int .u8,.int .u8,.int .u8,.int .u8,.int .u8,.int .u8,.int .u8,.int .u8,.int .u8,.int .u8,.int .u8,.int .u8,.int .u8,.int .u8,.int .u8,.int .u8,.int .u8,.int .u8,.int .u8,.int .u8,.int .u8,.int .u8,.int .u8,.int .u8,.int .u8,.int .u8,.int .u8,.int .u8,.int .u8,.int .u8,.int .u8,.int .u8,.int .u8,.int .u8,.int .u8,.int .u8,.int .u8,.int .u8,.int .u8,.int .u8,.int .u8,.int .u8,.int .u8,.int .u8,.int .u8,.int .u8,.int .u8,.int .u8,.int .u8,.int .u8,.int .u8,.int .u8,.int .u8,.int .u8,.int .u8,.int .u8,.int .u8,.int .u8,.int .u8,.int .u8,.int .u8,.int .u8,.int .u8,.int .u8,.int .u8,.int .u8,.int .u8,.int .u8,.int .u8,.int .u8,.int .u8,.int .u8,.int .u8,.int .u8,.int .u8,.int .u8,.int .u8,.int .u8,.int .u8,.int .u8,.int .u8,.int .u8,.int .u8,.int .u8,.int .u8,.int .u8,.int .u8,.int .u8,.int .u8,.int .u8,.int .u8,.int .u8,.int .u8,.int .u8,.int .u8,.int .u8,.int .u8,.int .u8,.int .u8,.int .u8,.int .u8,.int .u8,.int .u8,.int .u8,.int .u8,.int .u8,.int .u8,.int .u8,.int .u8,.int .u8,.int .u8,.int .u8,.int .u8,.int .u8,.int .u8,.int .u8,.int .u8,.int .u8,.int .u8,.int .u8,.int .u8,.int .u8,.int .u8,.int .u8,.int .u8,.int .u8,.int .u8,.int .u8,.int .u8,.int .u8,.int .u8,.int .u8,.int .u8,.int .u8,.int .u8,.int .u8,.int .u8,.int .u8,.int .u8,.int .u8,.int .u8,.int .u8,.int .u8,.int .u8],fs:=[],el:=5,ar:=257,bytes:=256 }),
 (116,{ agg:=false,cks:=[.fn],fs:=[],el:=0,ar:=0,bytes:=8 }),
 (118,{ agg:=false,cks:=[.ptr 120],fs:=[],el:=0,ar:=0,bytes:=8 }),
 (120,{ agg:=true,cks:=[.ptr 120,.slice 5],fs:=[(0,118),(1,104)],el:=0,ar:=0,bytes:=32,bld:=true }),
 (121,{ agg:=false,cks:=[.fn],fs:=[],el:=0,ar:=0,bytes:=8 }),
 (131,{ agg:=false,cks:=[.map 131 4],fs:=[],el:=4,ar:=10,bytes:=8 }),
 (133,{ agg:=false,cks:=[.fn],fs:=[],el:=0,ar:=0,bytes:=8 }),
 (135,{ agg:=false,cks:=[.fn],fs:=[],el:=0,ar:=0,bytes:=8 }),
 (136,{ agg:=false,cks:=[.fn],fs:=[],el:=0,ar:=0,bytes:=8 }),
 (138,{ agg:=false,cks:=[.fn],fs:=[],el:=0,ar:=0,bytes:=8 }),
 (151,{ agg:=false,cks:=[.ptr 217],fs:=[],el:=0,ar:=0,bytes:=8 }),
 (154,{ agg:=false,cks:=[.fn],fs:=[],el:=0,ar:=0,bytes:=8 }),
 (161,{ agg:=false,cks:=[.fn],fs:=[],el:=0,ar:=0,bytes:=8 }),
 (165,{ agg:=true,cks:=[.str,.str],fs:=[(0,9),(1,9)],el:=0,ar:=0,bytes:=32,eqOk:=true }),
 (167,{ agg:=true,cks:=[.slice 59,.str,.str,.bool,.bool,.slice 63,.int .i64,.str,.str,.slice 26,.slice 81,.int .i64,.str,.str,.slice 26,.slice 81,.int .i64,.str,.str,.slice 26,.slice 81,.str,.str,.bool,.str,.bool],fs:=[(0,40),(1,9),(2,9),(3,4),(4,4),(5,22),(6,26),(11,26),(16,26),(21,165),(23,4),(24,9),(25,4)],el:=0,ar:=0,bytes:=416 }),
 (171,{ agg:=false,cks:=[.int .u64],fs:=[],el:=0,ar:=0,bytes:=8 }),
 (174,{ agg:=false,cks:=[.ptr 176],fs:=[],el:=0,ar:=0,bytes:=8 }),
 (176,{ agg:=true,cks:=[.slice 59,.slice 63,.map 131 4,.slice 9],fs:=[(0,40),(1,89),(2,131),(3,46)],el:=0,ar:=0,bytes:=80 }),
 (177,{ agg:=false,cks:=[.fn],fs:=[],el:=0,ar:=0,bytes:=8 }),
 (179,{ agg:=true,cks:=[.int .i64,.str,.str,.slice 26,.slice 81,.int .i64,.str,.str,.slice 26,.slice 81],fs:=[(0,26),(5,26)],el:=0,ar:=0,bytes:=176 }),
 (180,{ agg:=false,cks:=[.slice 182],fs:=[],el:=182,ar:=0,bytes:=24 }),
 (182,{ agg:=true,cks:=[.int .i64,.int .i64],fs:=[(0,3),(1,3)],el:=0,ar:=0,bytes:=16 }),
 (189,{ agg:=false,cks:=[.fn],fs:=[],el:=0,ar:=0,bytes:=8 }),
 (197,{ agg:=true,cks:=[.str,.str,.str],fs:=[(0,9),(1,9),(2,9)],el:=0,ar:=0,bytes:=48 }),
 (200,{ agg:=true,cks:=[.str,.str],fs:=[(0,9),(1,9)],el:=0,ar:=0,bytes:=32 }),
 (201,{ agg:=false,cks:=[.ptr 83],fs:=[],el:=0,ar:=0,bytes:=8 }),
 (202,{ agg:=false,cks:=[.ptr 53],fs:=[],el:=0,ar:=0,bytes:=8 }),
 (203,{ agg:=false,cks:=[.ptr 197],fs:=[],el:=0,ar:=0,bytes:=8 }),
 (205,{ agg:=true,cks:=[.str,.str,.ptr 83,.ptr 53,.ptr 197],fs:=[(0,9),(1,9),(2,201),(3,202),(4,203)],el:=0,ar:=0,bytes:=56 }),
 (208,{ agg:=false,cks:=[.fn],fs:=[],el:=0,ar:=0,bytes:=8 }),
 (213,{ agg:=false,cks:=[.map 213 208],fs:=[],el:=208,ar:=4,bytes:=8 }),
 (217,{ agg:=true,cks:=[.slice 59,.slice 63,.slice 9,.map 131 4],fs:=[(0,40),(1,89),(2,46),(3,131)],el:=0,ar:=0,bytes:=80 }),
 (219,{ agg:=false,cks:=[.fn],fs:=[],el:=0,ar:=0,bytes:=8 }),
 (220,{ agg:=false,cks:=[.slice 219],fs:=[],el:=219,ar:=0,bytes:=24 }),
 (221,{ agg:=false,cks:=[.fn],fs:=[],el:=0,ar:=0,bytes:=8 }),
 (223,{ agg:=false,cks:=[.int .u64],fs:=[],el:=0,ar:=0,bytes:=8 }),
 (231,{ agg:=false,cks:=[.fn],fs:=[],el:=0,ar:=0,bytes:=8 }),
 (233,{ agg:=false,cks:=[.int .i64],fs:=[],el:=0,ar:=0,bytes:=8 }),
 (242,{ agg:=false,cks:=[.ptr 244],fs:=[],el:=0,ar:=0,bytes:=8 }),
 (244,{ agg:=true,cks:=[.slice 59,.str,.str,.bool,.bool,.slice 63,.int .i64,.str,.str,.slice 26,.slice 81,.int .i64,.str,.str,.slice 26,.slice 81,.int .i64,.str,.str,.slice 26,.slice 81,.str,.str,.bool,.str,.bool,.slice 59,.str,.str,.bool,.bool,.slice 63,.int .i64,.str,.str,.slice 26,.slice 81,.int .i64,.str,.str,.slice 26,.slice 81,.int .i64,.str,.str,.slice 26,.slice 81,.str,.str,.bool,.str,.bool,.slice 34],fs:=[(0,167),(26,167),(52,32)],el:=0,ar:=0,bytes:=856 }),
 (246,{ agg:=false,cks:=[.slice 1],fs:=[],el:=1,ar:=0,bytes:=24 }),
 (247,{ agg:=false,cks:=[.fn],fs:=[],el:=0,ar:=0,bytes:=8 }),
 (248,{ agg:=true,cks:=[.fn,.fn,.fn,.fn,.fn],fs:=[],el:=247,ar:=6,bytes:=40 }),
 (249,{ agg:=false,cks:=[.slice 179],fs:=[],el:=179,ar:=0,bytes:=24 }),
 (269,{ agg:=false,cks:=[.fn],fs:=[],el:=0,ar:=0,bytes:=8 }),
 (281,{ agg:=false,cks:=[.slice 285],fs:=[],el:=285,ar:=0,bytes:=24 }),
 (285,{ agg:=true,cks:=[.int .i64,.str,.str,.slice 26,.slice 81,.int .i64,.str,.str,.slice 26,.slice 81,.str,.bool],fs:=[(0,95),(10,9),(11,4)],el:=0,ar:=0,bytes:=200 }),
 (296,{ agg:=false,cks:=[.int .u64],fs:=[],el:=0,ar:=0,bytes:=8 }),
 (300,{ agg:=false,cks:=[.ptr 3],fs:=[],el:=0,ar:=0,bytes:=8 }),
 (304,{ agg:=false,cks:=[.fn],fs:=[],el:=0,ar:=0,bytes:=8 }),
 (312,{ agg:=false,cks:=[.map 312 46],fs:=[],el:=46,ar:=10,bytes:=8 }),
 (315,{ agg:=false,cks:=[.slice 165],fs:=[],el:=165,ar:=0,bytes:=24 }),
 (317,{ agg:=false,cks:=[.fn],fs:=[],el:=0,ar:=0,bytes:=8 }),
 (319,{ agg:=false,cks:=[.fn],fs:=[],el:=0,ar:=0,bytes:=8 }),
 (320,{ agg:=false,cks:=[.fn],fs:=[],el:=0,ar:=0,bytes:=8 }),
 (324,{ agg:=false,cks:=[.fn],fs:=[],el:=0,ar:=0,bytes:=8 }),
 (326,{ agg:=false,cks:=[.fn],fs:=[],el:=0,ar:=0,bytes:=8 }),
 (329,{ agg:=false,cks:=[.fn],fs:=[],el:=0,ar:=0,bytes:=8 }),
 (338,{ agg:=false,cks:=[.slice 341],fs:=[],el:=341,ar:=0,bytes:=24 }),
 (341,{ agg:=true,cks:=[.slice 9,.bool,.int .i64,.int .i64,.str,.str,.slice 26,.slice 81,.int .i64,.str,.str,.slice 26,.slice 81],fs:=[(0,46),(1,4),(2,3),(3,26),(8,26)],el:=0,ar:=0,bytes:=216 }),
 (344,{ agg:=false,cks:=[.fn],fs:=[],el:=0,ar:=0,bytes:=8 }),
 (346,{ agg:=false,cks:=[.fn],fs:=[],el:=0,ar:=0,bytes:=8 }),
 (348,{ agg:=true,cks:=[.slice 59,.str,.slice 83,.slice 53,.slice 197,.slice 200],fs:=[(0,40),(1,59)],el:=0,ar:=0,bytes:=136 }),
 (349,{ agg:=false,cks:=[.fn],fs:=[],el:=0,ar:=0,bytes:=8 }),
 (350,{ agg:=false,cks:=[.slice 349],fs:=[],el:=349,ar:=0,bytes:=24 }),
 (351,{ agg:=false,cks:=[.map 351 4],fs:=[],el:=4,ar:=166,bytes:=8 }),
 (353,{ agg:=false,cks:=[.fn],fs:=[],el:=0,ar:=0,bytes:=8 }),
 (354,{ agg:=false,cks:=[.fn],fs:=[],el:=0,ar:=0,bytes:=8 }),
 (358,{ agg:=false,cks:=[.fn],fs:=[],el:=0,ar:=0,bytes:=8 }),
 (362,{ agg:=false,cks:=[.fn],fs:=[],el:=0,ar:=0,bytes:=8 }),
 (367,{ agg:=false,cks:=[.ptr 369],fs:=[],el:=0,ar:=0,bytes:=8 }),
 (369,{ agg:=true,cks:=[.ptr 217,.slice 9,.bool,.map 131 4,.slice 341],fs:=[(0,151),(1,46),(2,4),(3,131),(4,338)],el:=0,ar:=0,bytes:=72 }),
 (370,{ agg:=true,cks:=[.slice 9,.slice 9,.slice 9,.slice 9],fs:=[],el:=46,ar:=5,bytes:=96 }),
 (371,{ agg:=true,cks:=[.fn,.fn,.fn,.fn],fs:=[],el:=76,ar:=5,bytes:=32 }),
 (378,{ agg:=false,cks:=[.slice 46],fs:=[],el:=46,ar:=0,bytes:=24 }),
 (381,{ agg:=false,cks:=[.fn],fs:=[],el:=0,ar:=0,bytes:=8 }),
 (384,{ agg:=false,cks:=[.fn],fs:=[],el:=0,ar:=0,bytes:=8 }),
 (393,{ agg:=false,cks:=[.map 393 83],fs:=[],el:=83,ar:=10,bytes:=8 }),
 (394,{ agg:=false,cks:=[.map 394 131],fs:=[],el:=131,ar:=10,bytes:=8 }),
 (396,{ agg:=true,cks:=[.slice 59,.map 393 83,.map 394 131],fs:=[(0,40),(1,393),(2,394)],el:=0,ar:=0,bytes:=40 }),
 (404,{ agg:=false,cks:=[.slice 43],fs:=[],el:=43,ar:=0,bytes:=24 }),
 (406,{ agg:=false,cks:=[.fn],fs:=[],el:=0,ar:=0,bytes:=8 }),
 (407,{ agg:=false,cks:=[.fn],fs:=[],el:=0,ar:=0,bytes:=8 }),
 (417,{ agg:=false,cks:=[.slice 24],fs:=[],el:=24,ar:=0,bytes:=24 }),
 (421,{ agg:=false,cks:=[.fn],fs:=[],el:=0,ar:=0,bytes:=8 }),
 (422,{ agg:=false,cks:=[.fn],fs:=[],el:=0,ar:=0,bytes:=8 }),
 (424,{ agg:=false,cks:=[.fn],fs:=[],el:=0,ar:=0,bytes:=8 })]
def tt:TypeId→Option TI:=findT tab
theorem tab_ok:tabCheck Tryz.prog tab=true:=by kernel_rfl
theorem eqs_ok:eqTabCheck Tryz.prog tab=true:=by kernel_rfl
theorem tt_ok:TtOk Tryz.prog tt:=TtOk_of tab_ok (eqTab_ok eqs_ok)
theorem mixed:Tryz.prog.follows .mixedOrders=true:=by kernel_rfl
end Go.VC.T07
end

section
namespace Go.VC
open Go
abbrev S:=List UInt8
def encS (s:S):List D:=[.str s]
def encI (i:Int):List D:=[.int i]
def joinW (l:List S):S:=Lib.join (l.filter fun s=> !(s==[])) [32]
def addW (s x:S):S:=if x=[] then s else s++32::x
theorem join_c (x:S) (l:List S):Lib.join (x::l) [32]=x++(l.map (32:: ·)).flatten:=by
 unfold Lib.join
 induction l generalizing x with
 |nil=>simp [List.intercalate]
 |cons y l ih=>have:=ih y;simp [List.intercalate,List.intersperse] at this ⊢;exact this
theorem joinW_c {x:S} (hx:x≠[]) (l:List S):joinW (x::l)=l.foldl addW x:=by
 have key:∀ (l:List S) (a:S),(a++((l.filter fun s=> !(s==[])).map (32:: ·)).flatten)=l.foldl addW a:=by
  intro l
  induction l with
  |nil=>intro a;simp
  |cons y l ih=>
   intro a
   rw [List.foldl_cons,←ih,addW]
   by_cases hy:y=[]
   ·simp [hy]
   ·simp [hy]
 unfold joinW
 rw [List.filter_cons,if_pos (by simpa using hx),join_c,key]
def decN (n:Nat):S:=if n<10 then [UInt8.ofNat (48+n)] else decN (n/10)++[UInt8.ofNat (48+n % 10)]
termination_by n
decreasing_by omega
theorem decN_eq (n:Nat):decN n=Lib.itoa n:=by
 unfold Lib.itoa
 rw [if_neg (by omega)]
 simp only [Int.toNat_natCast]
 induction n using Nat.strongRecOn with
 |_ n ih=>
  rw [decN,Lib.decDigits]
  split
  ·rfl
  ·rw [ih _ (by omega)]
end Go.VC
end
