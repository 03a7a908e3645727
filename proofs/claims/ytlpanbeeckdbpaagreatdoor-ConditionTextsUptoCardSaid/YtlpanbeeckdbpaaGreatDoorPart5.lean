/- Part 5 of the common texts: K1 L2 TX LG. -/
import Derived.Lib.ItoaNum
import Derived.Shelf.Strings.Fields
import Derived.Test.YtlpanbeeckdbpaaGreatDoorProg
import Derived.Shelf.Small.Strs
import Derived.Shelf.Small.Wraps
import Derived.Shelf.Strconv.Itoa3
import Derived.Shelf.Strings.Search3
import Derived.Shelf.Strings.Split
import Derived.Shelf.Strings.Builder1
import Derived.Lib.Join
import Derived.Test.YtlpanbeeckdbpaaGreatDoorPart3
import Derived.Test.YtlpanbeeckdbpaaGreatDoorPart1
set_option linter.all false
set_option maxRecDepth 100000
set_option maxHeartbeats 16000000

section
namespace Go.VC.T07
open Go Go.VC Go.Proofs
def tab:List (TypeId×TI):=[
 (1,{ agg:=false,cks:=[.fn],fs:=[],el:=0,ar:=0,bytes:=8 }),
 (3,{ agg:=false,cks:=[.int .i64],fs:=[],el:=0,ar:=0,bytes:=8,glob:=some 3 }),
 (4,{ agg:=false,cks:=[.bool],fs:=[],el:=0,ar:=0,bytes:=1 }),
 (5,{ agg:=false,cks:=[.int .u8],fs:=[],el:=0,ar:=0,bytes:=1 }),
 (9,{ agg:=false,cks:=[.str],fs:=[],el:=0,ar:=0,bytes:=16 }),
 (21,{ agg:=false,cks:=[.int .i32],fs:=[],el:=0,ar:=0,bytes:=4 }),
 (22,{ agg:=false,cks:=[.slice 63],fs:=[],el:=63,ar:=0,bytes:=24 }),
 (23,{ agg:=false,cks:=[.slice 26],fs:=[],el:=26,ar:=0,bytes:=24 }),
 (24,{ agg:=false,cks:=[.slice 81],fs:=[],el:=81,ar:=0,bytes:=24 }),
 (26,{ agg:=true,cks:=[.int .i64,.str,.str,.slice 26,.slice 81],fs:=[(0,3),(1,9),(2,9),(3,23),(4,24)],el:=0,ar:=0,bytes:=88 }),
 (28,{ agg:=true,cks:=[.int .i64,.str,.str,.int .i64,.slice 63,.int .i64,.str,.str,.slice 26,.slice 81,.int .i64,.str,.str,.slice 26,.slice 81],fs:=[(0,3),(1,9),(2,9),(3,3),(4,22),(5,26),(10,26)],el:=0,ar:=0,bytes:=248 }),
 (31,{ agg:=false,cks:=[.fn],fs:=[],el:=0,ar:=0,bytes:=8 }),
 (32,{ agg:=false,cks:=[.slice 34],fs:=[],el:=34,ar:=0,bytes:=24 }),
 (34,{ agg:=true,cks:=[.int .i64,.str,.str,.int .i64,.int .i64,.bool,.bool],fs:=[(0,3),(1,9),(2,9),(3,3),(4,3),(5,4),(6,4)],el:=0,ar:=0,bytes:=64,eqOk:=true }),
 (39,{ agg:=false,cks:=[.slice 59],fs:=[],el:=59,ar:=0,bytes:=24 }),
 (40,{ agg:=false,cks:=[.slice 59],fs:=[],el:=59,ar:=0,bytes:=24 }),
 (42,{ agg:=false,cks:=[.slice 28],fs:=[],el:=28,ar:=0,bytes:=24 }),
 (43,{ agg:=false,cks:=[.int .i64],fs:=[],el:=0,ar:=0,bytes:=8 }),
 (46,{ agg:=false,cks:=[.slice 9],fs:=[],el:=9,ar:=0,bytes:=24 }),
 (49,{ agg:=false,cks:=[.slice 99],fs:=[],el:=99,ar:=0,bytes:=24 }),
 (53,{ agg:=true,cks:=[.str,.slice 63,.int .i64,.str,.str,.slice 26,.slice 81],fs:=[(0,9),(1,22),(2,26)],el:=0,ar:=0,bytes:=128 }),
 (54,{ agg:=false,cks:=[.slice 53],fs:=[],el:=53,ar:=0,bytes:=24 }),
 (55,{ agg:=false,cks:=[.slice 83],fs:=[],el:=83,ar:=0,bytes:=24 }),
 (56,{ agg:=false,cks:=[.slice 197],fs:=[],el:=197,ar:=0,bytes:=24 }),
 (57,{ agg:=false,cks:=[.slice 200],fs:=[],el:=200,ar:=0,bytes:=24 }),
 (59,{ agg:=true,cks:=[.str,.slice 83,.slice 53,.slice 197,.slice 200],fs:=[(0,9),(1,55),(2,54),(3,56),(4,57)],el:=0,ar:=0,bytes:=112 }),
 (63,{ agg:=true,cks:=[.str,.int .i64,.int .i64,.str,.str,.slice 26,.slice 81],fs:=[(0,9),(1,3),(2,26)],el:=0,ar:=0,bytes:=112 }),
 (70,{ agg:=false,cks:=[.map 70 9],fs:=[],el:=9,ar:=4,bytes:=8 }),
 (72,{ agg:=false,cks:=[.slice 3],fs:=[],el:=3,ar:=0,bytes:=24 }),
 (76,{ agg:=false,cks:=[.fn],fs:=[],el:=0,ar:=0,bytes:=8 }),
 (78,{ agg:=false,cks:=[.fn],fs:=[],el:=0,ar:=0,bytes:=8 }),
 (81,{ agg:=true,cks:=[.str,.int .i64,.str,.str,.slice 26,.slice 81,.bool],fs:=[(0,9),(1,26),(6,4)],el:=0,ar:=0,bytes:=112 }),
 (83,{ agg:=true,cks:=[.str,.slice 63,.int .i64,.str,.str,.slice 26,.slice 81,.int .i64,.str,.str,.slice 26,.slice 81],fs:=[(0,9),(1,22),(2,26),(7,26)],el:=0,ar:=0,bytes:=216 }),
 (89,{ agg:=false,cks:=[.slice 63],fs:=[],el:=63,ar:=0,bytes:=24 }),
 (90,{ agg:=false,cks:=[.slice 95],fs:=[],el:=95,ar:=0,bytes:=24 }),
 (95,{ agg:=true,cks:=[.int .i64,.str,.str,.slice 26,.slice 81,.int .i64,.str,.str,.slice 26,.slice 81],fs:=[(0,26),(5,26)],el:=0,ar:=0,bytes:=176 }),
 (97,{ agg:=false,cks:=[.fn],fs:=[],el:=0,ar:=0,bytes:=8 }),
 (99,{ agg:=true,cks:=[.int .i64,.int .i64,.str,.str,.slice 26,.slice 81,.int .i64,.str,.str,.slice 26,.slice 81],fs:=[(0,3),(1,26),(6,26)],el:=0,ar:=0,bytes:=184 }),
 (101,{ agg:=false,cks:=[.fn],fs:=[],el:=0,ar:=0,bytes:=8 }),
 (102,{ agg:=false,cks:=[.fn],fs:=[],el:=0,ar:=0,bytes:=8 }),
 (104,{ agg:=false,cks:=[.slice 5],fs:=[],el:=5,ar:=0,bytes:=24 }),
 (106,{ agg:=false,cks:=[.map 106 9],fs:=[],el:=9,ar:=10,bytes:=8 }),
 (114,{ agg:=true,cks:=[.int .u8,.int .u8,.int .u8,.int .u8,.int .u8,.int .u8,.int .u8,.int .u8,.int .u8,.int .u8,.int .u8,.int .u8,.int .u8,.int .u8,.int .u8,.int .u8,.int .u8,.int .u8,.int .u8,.int .u8,.int .u8,.int .u8,.int .u8,.int .u8,.int .u8,.int .u8,.int .u8,.int .u8,.int .u8,.int .u8,.int .u8,.int .u8,.int .u8,.int .u8,.int .u8,.int .u8,.int .u8,.int .u8,.int .u8,.int .u8,.int .u8,.int .u8,.int .u8,.int .u8,.int .u8,.int .u8,.int .u8,.int .u8,.int .u8,.int .u8,.int .u8,.int .u8,.int .u8,.int .u8,.int .u8,.int .u8,.int .u8,.int .u8,.int .u8,.int .u8,.int .u8,.int .u8,.int .u8,.int .u8,.int .u8,.int .u8,.int .u8,.int .u8,.int .u8,.int .u8,.int .u8,.int .u8,.int .u8,.int .u8,.int .u8,.int .u8,.int .u8,.int .u8,.int .u8,.int .u8,.int .u8,.int .u8,.int .u8,.int .u8,.int .u8,.int .u8,.int .u8,.int .u8,.int .u8,.int .u8,.int .u8,.int .u8,.int .u8,.int .u8,.int .u8,.int .u8,.int .u8,.int .u8,.int .u8,.int .u8,.int .u8,.int .u8,.int .u8,.int .u8,.int .u8,.int .u8,.int .u8,.int .u8,.int .u8,.int .u8,.int .u8,.int .u8,.int .u8,.int .u8,.int .u8,.int .u8,.int .u8,.int .u8,.int .u8,.int .u8,.int .u8,.int .u8,.int .u8,.int .u8,.int .u8,.int .u8,.int .u8,.int .u8,.int .u8,.int .u8,.int .u8,.int .u8,.int .u8,.int .u8,.int .u8,.int .u8,.int .u8,.int .u8,.int .u8,.int .u8,.int .u8,.int .u8,.int .u8,.int .u8,.int .u8,.int .u8,.int .u8,.int .u8,.int .u8,.int .u8,.int .u8,.int .u8,.int .u8,.int .u8,.int .u8,.int .u8,.int .u8,.int .u8,.int .u8,.int .u8,.int .u8,.int .u8,.int .u8,.int .u8,.int .u8,.int .u8,.int .u8,.int .u8,.int .u8,.int .u8,.int .u8,.int .u8,.int .u8,.int .u8,.int .u8,.int .u8,.int .u8,.int .u8,.int .u8,.int .u8,.int .u8,.int .u8,.int .u8,.int .u8,.int .u8,.int .u8,.int .u8,.int .u8,.int .u8,.int .u8,.int .u8,.int .u8,.int .u8,.int .u8,.int .u8,.int .u8,.int .u8,.int .u8,.int .u8,.int .u8,.int .u8,.int .u8,.int .u8,.int .u8,.int .u8,.int .u8,.int .u8,.int .u8,.int .u8,.int .u8,.int .u8,.int .u8,.int .u8,.int .u8,.int .u8,.int .u8,.int .u8,.int .u8,.int .u8,.int .u8,.int .u8,.int .u8,.int .u8,.int .u8,.int .u8,.int .u8,.int .u8,.int .u8,.int .u8,.int .u8,.int .u8,.int .u8,.int .u8,.int .u8,.int .u8,.int .u8,.int .u8,.int .u8,.int .u8,.int .u8,.int .u8,.int .u8,.int .u8,.int .u8,.int .u8,.int .u8,.int .u8,.int .u8,.int .u8,.int .u8,.int .u8,.int .u8,.int .u8,.int .u8,.int .u8,.int .u8],fs:=[],el:=5,ar:=257,bytes:=256 }),
 (116,{ agg:=false,cks:=[.fn],fs:=[],el:=0,ar:=0,bytes:=8 }),
 (118,{ agg:=false,cks:=[.ptr 120],fs:=[],el:=0,ar:=0,bytes:=8 }),
 (120,{ agg:=true,cks:=[.ptr 120,.slice 5],fs:=[(0,118),(1,104)],el:=0,ar:=0,bytes:=32,bld:=true }),
 (121,{ agg:=false,cks:=[.fn],fs:=[],el:=0,ar:=0,bytes:=8 }),
 (131,{ agg:=false,cks:=[.map 131 4],fs:=[],el:=4,ar:=10,bytes:=8 }),
 (133,{ agg:=false,cks:=[.fn],fs:=[],el:=0,ar:=0,bytes:=8 }),
 (135,{ agg:=false,cks:=[.fn],fs:=[],el:=0,ar:=0,bytes:=8 }),
 (136,{ agg:=false,cks:=[.fn],fs:=[],el:=0,ar:=0,bytes:=8 }),
 (138,{ agg:=false,cks:=[.fn],fs:=[],el:=0,ar:=0,bytes:=8 }),
 (151,{ agg:=false,cks:=[.ptr 217],fs:=[],el:=0,ar:=0,bytes:=8 }),
 (154,{ agg:=false,cks:=[.fn],fs:=[],el:=0,ar:=0,bytes:=8 }),
 (161,{ agg:=false,cks:=[.fn],fs:=[],el:=0,ar:=0,bytes:=8 }),
 (165,{ agg:=true,cks:=[.str,.str],fs:=[(0,9),(1,9)],el:=0,ar:=0,bytes:=32,eqOk:=true }),
 (167,{ agg:=true,cks:=[.slice 59,.str,.str,.bool,.bool,.slice 63,.int .i64,.str,.str,.slice 26,.slice 81,.int .i64,.str,.str,.slice 26,.slice 81,.int .i64,.str,.str,.slice 26,.slice 81,.str,.str,.bool,.str,.bool],fs:=[(0,40),(1,9),(2,9),(3,4),(4,4),(5,22),(6,26),(11,26),(16,26),(21,165),(23,4),(24,9),(25,4)],el:=0,ar:=0,bytes:=416 }),
 (171,{ agg:=false,cks:=[.int .u64],fs:=[],el:=0,ar:=0,bytes:=8 }),
 (174,{ agg:=false,cks:=[.ptr 176],fs:=[],el:=0,ar:=0,bytes:=8 }),
 (176,{ agg:=true,cks:=[.slice 59,.slice 63,.map 131 4,.slice 9],fs:=[(0,40),(1,89),(2,131),(3,46)],el:=0,ar:=0,bytes:=80 }),
 (177,{ agg:=false,cks:=[.fn],fs:=[],el:=0,ar:=0,bytes:=8 }),
 (179,{ agg:=true,cks:=[.int .i64,.str,.str,.slice 26,.slice 81,.int .i64,.str,.str,.slice 26,.slice 81],fs:=[(0,26),(5,26)],el:=0,ar:=0,bytes:=176 }),
 (180,{ agg:=false,cks:=[.slice 182],fs:=[],el:=182,ar:=0,bytes:=24 }),
 (182,{ agg:=true,cks:=[.int .i64,.int .i64],fs:=[(0,3),(1,3)],el:=0,ar:=0,bytes:=16 }),
 (189,{ agg:=false,cks:=[.fn],fs:=[],el:=0,ar:=0,bytes:=8 }),
 (197,{ agg:=true,cks:=[.str,.str,.str],fs:=[(0,9),(1,9),(2,9)],el:=0,ar:=0,bytes:=48 }),
 (200,{ agg:=true,cks:=[.str,.str],fs:=[(0,9),(1,9)],el:=0,ar:=0,bytes:=32 }),
 (201,{ agg:=false,cks:=[.ptr 83],fs:=[],el:=0,ar:=0,bytes:=8 }),
 (202,{ agg:=false,cks:=[.ptr 53],fs:=[],el:=0,ar:=0,bytes:=8 }),
 (203,{ agg:=false,cks:=[.ptr 197],fs:=[],el:=0,ar:=0,bytes:=8 }),
 (205,{ agg:=true,cks:=[.str,.str,.ptr 83,.ptr 53,.ptr 197],fs:=[(0,9),(1,9),(2,201),(3,202),(4,203)],el:=0,ar:=0,bytes:=56 }),
 (208,{ agg:=false,cks:=[.fn],fs:=[],el:=0,ar:=0,bytes:=8 }),
 (213,{ agg:=false,cks:=[.map 213 208],fs:=[],el:=208,ar:=4,bytes:=8 }),
 (217,{ agg:=true,cks:=[.slice 59,.slice 63,.slice 9,.map 131 4],fs:=[(0,40),(1,89),(2,46),(3,131)],el:=0,ar:=0,bytes:=80 }),
 (219,{ agg:=false,cks:=[.fn],fs:=[],el:=0,ar:=0,bytes:=8 }),
 (220,{ agg:=false,cks:=[.slice 219],fs:=[],el:=219,ar:=0,bytes:=24 }),
 (221,{ agg:=false,cks:=[.fn],fs:=[],el:=0,ar:=0,bytes:=8 }),
 (223,{ agg:=false,cks:=[.int .u64],fs:=[],el:=0,ar:=0,bytes:=8 }),
 (231,{ agg:=false,cks:=[.fn],fs:=[],el:=0,ar:=0,bytes:=8 }),
 (233,{ agg:=false,cks:=[.int .i64],fs:=[],el:=0,ar:=0,bytes:=8 }),
 (242,{ agg:=false,cks:=[.ptr 244],fs:=[],el:=0,ar:=0,bytes:=8 }),
 (244,{ agg:=true,cks:=[.slice 59,.str,.str,.bool,.bool,.slice 63,.int .i64,.str,.str,.slice 26,.slice 81,.int .i64,.str,.str,.slice 26,.slice 81,.int .i64,.str,.str,.slice 26,.slice 81,.str,.str,.bool,.str,.bool,.slice 59,.str,.str,.bool,.bool,.slice 63,.int .i64,.str,.str,.slice 26,.slice 81,.int .i64,.str,.str,.slice 26,.slice 81,.int .i64,.str,.str,.slice 26,.slice 81,.str,.str,.bool,.str,.bool,.slice 34],fs:=[(0,167),(26,167),(52,32)],el:=0,ar:=0,bytes:=856 }),
 (246,{ agg:=false,cks:=[.slice 1],fs:=[],el:=1,ar:=0,bytes:=24 }),
 (247,{ agg:=false,cks:=[.fn],fs:=[],el:=0,ar:=0,bytes:=8 }),
 (248,{ agg:=true,cks:=[.fn,.fn,.fn,.fn,.fn],fs:=[],el:=247,ar:=6,bytes:=40 }),
 (249,{ agg:=false,cks:=[.slice 179],fs:=[],el:=179,ar:=0,bytes:=24 }),
 (269,{ agg:=false,cks:=[.fn],fs:=[],el:=0,ar:=0,bytes:=8 }),
 (281,{ agg:=false,cks:=[.slice 285],fs:=[],el:=285,ar:=0,bytes:=24 }),
 (285,{ agg:=true,cks:=[.int .i64,.str,.str,.slice 26,.slice 81,.int .i64,.str,.str,.slice 26,.slice 81,.str,.bool],fs:=[(0,95),(10,9),(11,4)],el:=0,ar:=0,bytes:=200 }),
 (296,{ agg:=false,cks:=[.int .u64],fs:=[],el:=0,ar:=0,bytes:=8 }),
 (300,{ agg:=false,cks:=[.ptr 3],fs:=[],el:=0,ar:=0,bytes:=8 }),
 (304,{ agg:=false,cks:=[.fn],fs:=[],el:=0,ar:=0,bytes:=8 }),
 (312,{ agg:=false,cks:=[.map 312 46],fs:=[],el:=46,ar:=10,bytes:=8 }),
 (315,{ agg:=false,cks:=[.slice 165],fs:=[],el:=165,ar:=0,bytes:=24 }),
 (317,{ agg:=false,cks:=[.fn],fs:=[],el:=0,ar:=0,bytes:=8 }),
 (319,{ agg:=false,cks:=[.fn],fs:=[],el:=0,ar:=0,bytes:=8 }),
 (320,{ agg:=false,cks:=[.fn],fs:=[],el:=0,ar:=0,bytes:=8 }),
 (324,{ agg:=false,cks:=[.fn],fs:=[],el:=0,ar:=0,bytes:=8 }),
 (326,{ agg:=false,cks:=[.fn],fs:=[],el:=0,ar:=0,bytes:=8 }),
 (329,{ agg:=false,cks:=[.fn],fs:=[],el:=0,ar:=0,bytes:=8 }),
 (338,{ agg:=false,cks:=[.slice 341],fs:=[],el:=341,ar:=0,bytes:=24 }),
 (341,{ agg:=true,cks:=[.slice 9,.bool,.int .i64,.int .i64,.str,.str,.slice 26,.slice 81,.int .i64,.str,.str,.slice 26,.slice 81],fs:=[(0,46),(1,4),(2,3),(3,26),(8,26)],el:=0,ar:=0,bytes:=216 }),
 (344,{ agg:=false,cks:=[.fn],fs:=[],el:=0,ar:=0,bytes:=8 }),
 (346,{ agg:=false,cks:=[.fn],fs:=[],el:=0,ar:=0,bytes:=8 }),
 (348,{ agg:=true,cks:=[.slice 59,.str,.slice 83,.slice 53,.slice 197,.slice 200],fs:=[(0,40),(1,59)],el:=0,ar:=0,bytes:=136 }),
 (349,{ agg:=false,cks:=[.fn],fs:=[],el:=0,ar:=0,bytes:=8 }),
 (350,{ agg:=false,cks:=[.slice 349],fs:=[],el:=349,ar:=0,bytes:=24 }),
 (351,{ agg:=false,cks:=[.map 351 4],fs:=[],el:=4,ar:=166,bytes:=8 }),
 (353,{ agg:=false,cks:=[.fn],fs:=[],el:=0,ar:=0,bytes:=8 }),
 (354,{ agg:=false,cks:=[.fn],fs:=[],el:=0,ar:=0,bytes:=8 }),
 (358,{ agg:=false,cks:=[.fn],fs:=[],el:=0,ar:=0,bytes:=8 }),
 (362,{ agg:=false,cks:=[.fn],fs:=[],el:=0,ar:=0,bytes:=8 }),
 (367,{ agg:=false,cks:=[.ptr 369],fs:=[],el:=0,ar:=0,bytes:=8 }),
 (369,{ agg:=true,cks:=[.ptr 217,.slice 9,.bool,.map 131 4,.slice 341],fs:=[(0,151),(1,46),(2,4),(3,131),(4,338)],el:=0,ar:=0,bytes:=72 }),
 (370,{ agg:=true,cks:=[.slice 9,.slice 9,.slice 9,.slice 9],fs:=[],el:=46,ar:=5,bytes:=96 }),
 (371,{ agg:=true,cks:=[.fn,.fn,.fn,.fn],fs:=[],el:=76,ar:=5,bytes:=32 }),
 (378,{ agg:=false,cks:=[.slice 46],fs:=[],el:=46,ar:=0,bytes:=24 }),
 (381,{ agg:=false,cks:=[.fn],fs:=[],el:=0,ar:=0,bytes:=8 }),
 (384,{ agg:=false,cks:=[.fn],fs:=[],el:=0,ar:=0,bytes:=8 }),
 (393,{ agg:=false,cks:=[.map 393 83],fs:=[],el:=83,ar:=10,bytes:=8 }),
 (394,{ agg:=false,cks:=[.map 394 131],fs:=[],el:=131,ar:=10,bytes:=8 }),
 (396,{ agg:=true,cks:=[.slice 59,.map 393 83,.map 394 131],fs:=[(0,40),(1,393),(2,394)],el:=0,ar:=0,bytes:=40 }),
 (404,{ agg:=false,cks:=[.slice 43],fs:=[],el:=43,ar:=0,bytes:=24 }),
 (406,{ agg:=false,cks:=[.fn],fs:=[],el:=0,ar:=0,bytes:=8 }),
 (407,{ agg:=false,cks:=[.fn],fs:=[],el:=0,ar:=0,bytes:=8 }),
 (417,{ agg:=false,cks:=[.slice 24],fs:=[],el:=24,ar:=0,bytes:=24 }),
 (421,{ agg:=false,cks:=[.fn],fs:=[],el:=0,ar:=0,bytes:=8 }),
 (422,{ agg:=false,cks:=[.fn],fs:=[],el:=0,ar:=0,bytes:=8 }),
 (424,{ agg:=false,cks:=[.fn],fs:=[],el:=0,ar:=0,bytes:=8 })]
def tt:TypeId→Option TI:=findT tab
theorem tab_ok:tabCheck Tryz.prog tab=true:=by kernel_rfl
theorem eqs_ok:eqTabCheck Tryz.prog tab=true:=by kernel_rfl
theorem tt_ok:TtOk Tryz.prog tt:=TtOk_of tab_ok (eqTab_ok eqs_ok)
theorem mixed:Tryz.prog.follows .mixedOrders=true:=by kernel_rfl
end Go.VC.T07
end

section
namespace Go.Proofs
open Go.Shelf
def Tryz.lays171_ren:Go.Shelf.Ren:=⟨fun|171=>24|243=>54|246=>101|283=>144|284=>145|285=>146|286=>147|129=>163|317=>206|318=>207|319=>208|320=>209|337=>249|338=>250|n=>n,fun|3=>3|9=>9|2=>2|4=>4|171=>222|0=>0|53=>223|37=>104|5=>5|173=>226|212=>292|51=>183|20=>20|213=>293|46=>171|232=>364|233=>365|n=>n,fun|17=>2|18=>4|19=>5|n=>n⟩
theorem Tryz.lays171:Go.Proofs.Lays.n171 Tryz.prog Tryz.lays171_ren:=by constructor<;>first|kernel_rfl|(intro w;kernel_rfl)
open Go.RowKit Go.Sort Go.Lib in
theorem Tryz.strconv_Itoa_small (i:Nat) (hi:i<100) (w:World):
 Calls Tryz.prog 24 #[.int .i64 i] w fun e w'=>e= .returned (.string ⟨(Lib.decDigits i).toArray⟩)∧w'=w:=Any.strconv_Itoa_small Tryz.lays171 i hi w
def Tryz.lays144_ren:Go.Shelf.Ren:=⟨fun|144=>349|143=>365|219=>372|217=>377|225=>378|224=>379|267=>380|266=>382|314=>383|n=>n,fun|9=>9|4=>4|3=>3|5=>5|46=>171|146=>433|51=>183|n=>n,fun|1=>3|n=>n⟩
theorem Tryz.lays144:Go.Proofs.Lays.n144 Tryz.prog Tryz.lays144_ren:=by constructor<;>first|kernel_rfl|(intro w;kernel_rfl)
open Go.RowKit Go.Lib in
theorem Tryz.strings_Contains (s sub:ByteArray) (m:Int) (w:World) (hs:s.size<4294967281) (hm:w.cell? ⟨3,0,none⟩=some (.int .i64 m)):
 Calls Tryz.prog 349 #[.string s,.string sub] w fun e w'=>e= .returned (.bool (Lib.contains s.data.toList sub.data.toList))∧w'=w:=Any.strings_Contains Tryz.lays144 s sub m w hs hm
def Tryz.lays146_ren:Go.Shelf.Ren:=⟨fun|146=>332|221=>352|268=>367|138=>368|143=>365|195=>373|197=>374|218=>375|219=>372|260=>381|217=>377|225=>378|224=>379|267=>380|266=>382|314=>383|n=>n,fun|9=>9|31=>46|3=>3|4=>4|0=>0|105=>430|21=>21|5=>5|46=>171|119=>114|139=>437|138=>436|146=>433|51=>183|n=>n,fun|1=>3|3=>6|4=>7|n=>n⟩
theorem Tryz.lays146:Go.Proofs.Lays.n146 Tryz.prog Tryz.lays146_ren:=by constructor<;>first|kernel_rfl|(intro w;kernel_rfl)
open Go.RowKit Go.Lib in
theorem Tryz.strings_Split (s sep:ByteArray) (m:Int) (w:World) (hs:s.size<4294967281) (hm:w.cell? ⟨3,0,none⟩=some (.int .i64 m)) (h1:1≤sep.size):
 Calls Tryz.prog 332 #[.string s,.string sep] w fun e w'=>
  e= .returned (.slice (some ⟨w.heap.size,0,none⟩) (Lib.countB s sep+1) (Lib.countB s sep+1))∧w'=w.alloc (.cells ((Lib.splitB sep 0 (Lib.countB s sep) s).map Value.string).toArray 9):=Any.strings_Split Tryz.lays146 (by kernel_rfl) s sep m w hs hm h1
def Tryz.lays169_ren:Go.Shelf.Ren:=⟨fun|169=>69|n=>n,fun|70=>118|9=>9|0=>0|72=>120|37=>104|127=>186|3=>3|5=>5|n=>n,fun|n=>n⟩
theorem Tryz.lays169:Go.Proofs.Lays.n169 Tryz.prog Tryz.lays169_ren:=by constructor<;>first|kernel_rfl|(intro w;kernel_rfl)
theorem Tryz.Builder_Extra_169:Builder.Extra Tryz.prog Tryz.lays169_ren:={
 sizeBuilder:=by kernel_rfl
 liesBuilder:=by kernel_rfl
 t5:=Tryz.underlying5
 a5:=Tryz.isAgg5
 z5:=Tryz.sizeOf5
 v5:=Tryz.zeroValue5
 infoByte:=by kernel_rfl
 cellsByte:=by kernel_rfl
 sizeByte:=by kernel_rfl
 neB5:=by decide }
def Tryz.lays240_ren:Go.Shelf.Ren:=⟨fun|240=>110|276=>179|n=>n,fun|0=>0|4=>4|9=>9|20=>20|70=>118|72=>120|164=>263|37=>104|n=>n,fun|n=>n⟩
theorem Tryz.lays240:Go.Proofs.Lays.n240 Tryz.prog Tryz.lays240_ren:=by constructor<;>first|kernel_rfl|(intro w;kernel_rfl)
theorem Tryz.Builder_X72_240:Builder.X72 Tryz.prog Tryz.lays240_ren:={
 sizeBuilder:=by kernel_rfl
 liesBuilder:=by kernel_rfl }
end Go.Proofs
end

section
namespace Go.VC
open Go
abbrev S:=List UInt8
end Go.VC
end

section
namespace Go.VC
open Go
section
variable {P:Program} {tt:TypeId→Option TI} {f:FuncId} {args:List PV} {K:PV→List Ob→Prop}
theorem FC.plain (hE:∀ args w,(callFunc f args).run P w= .ok (.enter f args) w)
 (h:∀ E Pp w vals,WR tt E Pp [] w→VRL tt E Pp vals args→Calls P f ⟨vals⟩ w fun e w'=>w'=w∧∃ v pv,e= .returned v∧VR tt E Pp v pv∧K pv []):FC P tt f [] args K:=by
 intro E Pp w vals hw hv
 refine .inl ⟨hE _ _,(h E Pp w vals hw hv).mono ?_⟩
 rintro e w' ⟨rfl,v,pv,rfl,hvr,hk⟩
 exact ⟨v,E,Pp,[],pv,rfl,.refl _,fun _ _ h=>h,hw,hvr,hk,Fr.refl _ _,fun _ _ h=>.inl h,fun i o ri b ho=>by simp at ho⟩
theorem FC.newRow {e:TypeId} {rows:List (List D)} (hE:∀ args w,(callFunc f args).run P w= .ok (.enter f args) w)
 (h:∀ E Pp w vals,WR tt E Pp [] w→VRL tt E Pp vals args→Calls P f ⟨vals⟩ w fun e' w'=>∃ us q cap,e'= .returned (.slice (some ⟨w.heap.size,0,none⟩) rows.length cap)∧w'=(w.drewN q).alloc (.cells ⟨us⟩ e)∧rows.length≤cap∧
   cap*(cksOf tt e).length≤us.length∧RowAt tt Pp e us 0 rows) (hK:K (.row e 0) [.row e (.list rows) true]):FC P tt f [] args K:=by
 intro E Pp w vals hw hv
 refine .inl ⟨hE _ _,(h E Pp w vals hw hv).mono ?_⟩
 rintro e' w' ⟨us,q,cap,rfl,rfl,hcap,hus,hrow⟩
 have hE0:E=[]:=List.eq_nil_of_length_eq_zero (by have:=hw.len;simpa using this)
 subst hE0
 have hhs:(w.drewN q).heap=w.heap:=rfl
 have hget:((w.drewN q).alloc (.cells ⟨us⟩ e)).heap[w.heap.size]? =some (.cells ⟨us⟩ e (0,0)):=by
  show (((w.drewN q).heap).push _)[w.heap.size]? =_
  rw [hhs];simp
 have hold:∀ k,k<w.heap.size→((w.drewN q).alloc (.cells ⟨us⟩ e)).heap[k]? =w.heap[k]? :=by
  intro k hk
  show (((w.drewN q).heap).push _)[k]? =_
  rw [hhs,Array.getElem?_push,if_neg (by omega)]
 have hnopi:∀ ad v,Pp ad v→ad.block≠w.heap.size:=nopi_new hw
 refine ⟨_,[.row w.heap.size 0 rows.length cap],Pp,[.row e (.list rows) true],.row e 0,rfl,fun i x hx=>by simp at hx,fun _ _ h=>h,?_,.row _ _ _ _ _ _ rfl,hK,?_,fun _ _ h=>.inl h,?_⟩
 ·refine ⟨rfl,?_,?_,?_,hw.gl⟩
  ·intro ad v hp
   have:=hw.pi ad v hp
   rw [pc_same (hold _ (pc_lt this))];exact this
  ·intro i o ho hl
   cases i with
   |succ i=>simp at ho
   |zero=>
    simp at ho;subst ho
    refine ⟨_,rfl,us,e,rows,hget,rfl,rfl,hcap,by rw [Nat.zero_add];exact hus,hrow,fun _=>hnopi,fun h=>by cases h⟩
  ·intro i j oi oj ri rj b hi hj _ _ _ _ _ _
   cases i<;>cases j<;>simp at hi hj ⊢
 ·refine ⟨rfl,rfl,rfl,?_,?_,fun k hk _=>hold k hk⟩
  ·show w.heap.size≤((w.drewN q).heap.push _).size
   rw [hhs];simp
  ·show w.drawn≤(w.drewN q).drawn
   simp [World.drewN]
 ·intro i o ri b ho hl hr hb
  cases i with
  |succ i=>simp at ho
  |zero=>simp at hr;subst hr;simp [RI.block?] at hb;subst hb;exact .inl (Nat.le_refl _)
end
def segs:S→List S
 |[]=>[[]]
 |c::l=>if c=47 then []::segs l else match segs l with|[]=>[[c]]|x::xs=>(c::x)::xs
theorem segs_miss:∀ {l:S},Lib.indexByte l 47= -1→segs l=[l]
 |[],_=>rfl
 |c::l,h=>by
  unfold Lib.indexByte at h
  by_cases hc:c=47
  ·subst hc;simp at h
  ·rw [if_neg (by simpa using hc)] at h
   have:Lib.indexByte l 47= -1:=by
    have:=Lib.indexByte_ge l 47
    split at h
    ·rename_i h2;simpa using h2
    ·omega
   simp [segs,hc,segs_miss this]
theorem segs_hit:∀ {l:S} {i:Nat},Lib.indexByte l 47=(i:Int)→segs l=l.take i::segs (l.drop (i+1))
 |[],i,h=>by simp [Lib.indexByte] at h
 |c::l,i,h=>by
  unfold Lib.indexByte at h
  by_cases hc:c=47
  ·subst hc
   have:i=0:=by simp at h;omega
   subst this
   simp [segs]
  ·rw [if_neg (by simpa using hc)] at h
   split at h
   ·omega
   ·rename_i h2
    cases i with
    |zero=>
     have:=Lib.indexByte_ge l 47
     have h2:Lib.indexByte l 47≠ -1:=by simpa using h2
     omega
    |succ i=>
     have:=segs_hit (l:=l) (i:=i) (by omega)
     simp [segs,hc,this]
theorem split_segs (sep:ByteArray) (hsep:sep.data.toList=[47]):∀ (k:Nat) (s:ByteArray),Lib.countB s sep≤k→(Lib.splitB sep 0 k s).map (·.data.toList)=segs s.data.toList:=by
 have hsz:sep.size=1:=by rw [Lib.size_eq,hsep];rfl
 have hidx:∀ s,Lib.indexB s sep=Lib.indexByte s.data.toList 47:=fun s=>by
  rw [Lib.one s sep hsz]
  have h0:=Lib.data_getElem? sep 0 (by omega)
  rw [hsep] at h0
  simp at h0
  rw [← h0]
  rfl
 intro k
 induction k with
 |zero=>
  intro s h
  rw [Lib.splitB_zero]
  rcases Lib.indexB_cases s sep with h1|⟨i,h1,_⟩
  ·rw [hidx] at h1;rw [segs_miss h1];rfl
  ·have:=Lib.countB_hit s sep i (by omega) h1
   omega
 |succ k ih=>
  intro s h
  rcases Lib.indexB_cases s sep with h1|⟨i,h1,h2⟩
  ·rw [Lib.splitB_miss _ _ _ _ h1]
   rw [hidx] at h1;rw [segs_miss h1];rfl
  ·have:=Lib.countB_hit s sep i (by omega) h1
   rw [Lib.splitB_hit _ _ _ _ _ h1,List.map_cons,ih _ (by omega),Nat.add_zero,Lib.extract_from_zero]
   rw [hidx] at h1
   rw [segs_hit h1,hsz]
   congr 2
   simp only [ByteArray.data_extract,Array.toList_extract,List.extract_eq_drop_take]
   rw [List.take_of_length_le]
   rw [List.length_drop,Lib.size_eq];exact Nat.le_refl _
def isEmptyS:S→Bool|[]=>true|_=>false
def encS (s:S):List D:=[.str s]
def digs (n:Nat):S:=if n<10 then [UInt8.ofNat (48+n)] else [UInt8.ofNat (48+n/10),UInt8.ofNat (48+n % 10)]
theorem digs_eq {n:Nat} (h:n<100):Lib.decDigits n=digs n:=by
 unfold digs
 rw [Lib.decDigits]
 split
 ·rfl
 ·rw [Lib.decDigits,dif_pos (by omega)];rfl
end Go.VC
namespace Go.VC.T07
open Go Go.VC Go.Proofs Go.Shelf
theorem glob0:globOf tt=some 3:=by kernel_rfl
theorem F24 {i:Nat} (hi:i<100) {K:PV→List Ob→Prop} (h:K (.str (digs i)) []):FC Tryz.prog tt 24 [] [.int .i64 (Int.ofNat i)] K:=by
 refine FC.plain (enters_of Tryz.func24 (by kernel_rfl) rfl) fun E Pp w vals hw hv=> ?_
 cases hv with|cons _ _ _ _ h1 hv=>
 cases hv;cases h1
 exact (Tryz.strconv_Itoa_small i hi w).mono fun e w' ⟨h1,h2⟩=>⟨h2,_,_,h1,.str _,by rw [digs_eq hi];exact h⟩
theorem F349 {a b:S} (ha:a.length<4294967281) {K:PV→List Ob→Prop} (h:K (.bool (Lib.contains a b)) []):FC Tryz.prog tt 349 [] [.str a,.str b] K:=by
 refine FC.plain (enters_of Tryz.func349 (by kernel_rfl) rfl) fun E Pp w vals hw hv=> ?_
 obtain ⟨m,hm⟩:=hw.gl.1 3 glob0
 cases hv with|cons _ _ _ _ h1 hv=>cases hv with|cons _ _ _ _ h2 hv=>
 cases hv;cases h1;cases h2
 exact (Tryz.strings_Contains _ _ m w (by rw [Lib.size_eq];exact ha) (hw.piN hm)).mono fun e w' ⟨h1,h2⟩=>⟨h2,_,_,h1,.bool _,h⟩
theorem cks9':cksOf tt 9=[.str]:=by kernel_rfl
theorem rowAt_strs {Pp:Per} {bs:List ByteArray} {zs:List Value}:RowAt tt Pp 9 (bs.map Value.string++zs) 0 ((bs.map fun b=>b.data.toList).map encS):=by
 intro i row hi
 rw [List.getElem?_map,List.getElem?_map] at hi
 cases hx:bs[i]? with
 |none=>rw [hx] at hi;cases hi
 |some b=>
  rw [hx] at hi;cases hi
  rw [cks9']
  refine ⟨rfl,fun j d ck hj hck=> ?_⟩
  cases j with
  |succ j=>simp at hck
  |zero=>
   simp [encS] at hj hck;subst hj hck
   have hi:=(List.getElem?_eq_some_iff.1 hx).1
   refine ⟨.string b,?_,.str b⟩
   rw [List.getElem?_append_left (by simp;exact hi)]
   simp [hx]
theorem F332 {a:S} (ha:a.length<4294967281) {K:PV→List Ob→Prop} (h:K (.row 9 0) [.row 9 (.list ((segs a).map encS)) true]):FC Tryz.prog tt 332 [] [.str a,.str [47]] K:=by
 refine FC.newRow (e:=9) (rows:=(segs a).map encS) (enters_of Tryz.func332 (by kernel_rfl) rfl) (fun E Pp w vals hw hv=> ?_) h
 obtain ⟨m,hm⟩:=hw.gl.1 3 glob0
 cases hv with|cons v1 _ _ _ h1 hv=>cases hv with|cons v2 _ _ _ h2 hv=>
 cases hv
 obtain ⟨s,rfl,hs⟩:∃ b,v1= .string b∧a=b.data.toList:=by cases h1;exact ⟨_,rfl,rfl⟩
 obtain ⟨sep,rfl,hsep⟩:∃ b,v2= .string b∧[47]=b.data.toList:=by
  generalize ([47]:S)=z at h2
  cases h2;exact ⟨_,rfl,rfl⟩
 subst hs
 have hsz:sep.size=1:=by rw [Lib.size_eq,←hsep];rfl
 refine (Tryz.strings_Split s sep m w (by rw [Lib.size_eq];exact ha) (hw.piN hm) (by omega)).mono ?_
 rintro e w' ⟨rfl,rfl⟩
 have e1:=split_segs sep hsep.symm (Lib.countB s sep) s (Nat.le_refl _)
 have e2:((Lib.splitB sep 0 (Lib.countB s sep) s)).length=Lib.countB s sep+1:=Lib.splitB_all sep (by omega) 0 _ s rfl
 have e3:(segs s.data.toList).length=Lib.countB s sep+1:=by rw [← e1,List.length_map,e2]
 refine ⟨(Lib.splitB sep 0 (Lib.countB s sep) s).map Value.string,0,Lib.countB s sep+1,?_,rfl,?_,?_,?_⟩
 ·rw [List.length_map,e3]
 ·rw [List.length_map,e3];exact Nat.le_refl _
 ·rw [cks9',List.length_map,e2];simp
 ·have:=rowAt_strs (Pp:=Pp) (bs:=Lib.splitB sep 0 (Lib.countB s sep) s) (zs:=[])
  rw [e1,List.append_nil] at this
  exact this
theorem bld1:∀ t ti,tt t=some ti→ti.bld=true→t=120:=by
 intro t ti h hb
 have key:∀ l:List (TypeId×TI),(∀ x∈l,x.2.bld=true→x.1=120)→∀ t ti,findT l t=some ti→ti.bld=true→t=120:=by
  intro l
  induction l with
  |nil=>intro _ t ti h;simp [findT] at h
  |cons x r ih=>
   obtain ⟨k,i⟩:=x
   intro hx t ti h hb
   simp only [findT] at h
   cases hk:nb k t with
   |true=>
    rw [hk] at h
    simp only [cond_true,Option.some.injEq] at h
    subst h
    have hkt:k=t:=nb_of hk
    rw [← hkt];exact hx (k,i) (by simp) hb
   |false=>
    rw [hk] at h
    exact ih (fun y hy=>hx y (by simp [hy])) t ti h hb
 have g:(tab.all fun x=> !x.2.bld||x.1==120)=true:=by kernel_rfl
 exact key tab (fun x hx hb=>by simpa [hb] using List.all_eq_true.1 g x hx) t ti h hb
theorem F110 {d:D} {p:PV} (hp:p= .nilp∨p= .box 0 0) {K:PV→List Ob→Prop} (h:K (.tup []) [.box [.box 0 0,.row 5 1],.row 5 d true]):
 FC Tryz.prog tt 110 [.box [p,.row 5 1],.row 5 d true] [.box 0 0] K:=
 FC_copyCheck (T:=120) bld1 (enters_of Tryz.func110 (by kernel_rfl) rfl) (fun b w h0=>Any.Builder_copyCheck_used Tryz.lays240 Tryz.Builder_X72_240 b w h0)
  (fun b w h0 hs hf=>Any.Builder_copyCheck_fresh Tryz.lays240 Tryz.Builder_X72_240 b w h0 hs hf) hp h
theorem F69 {s:List UInt8} (h0:s≠[]) (hl:s.length≤4294967296) {d:D} (hd:d= .list (strRows s)) {p:PV} (hp:ptrLike p=true) {K:PV→List Ob→Prop} (h:K (.str s) [.dead,.dead]):
 FC Tryz.prog tt 69 [.box [p,.row 5 1],.row 5 d true] [.box 0 0] K:=
 FC_String (T:=120) (e:=5) bld1 (by kernel_rfl) (enters_of Tryz.func69 (by kernel_rfl) rfl) (fun b g o cap p cur l w a1 a2 a3 a4 a5 a6 a7=>Bld_String Tryz.lays169 Tryz.Builder_Extra_169 b g o cap p cur l w a1 a2 a3 a4 a5 a6 a7) h0 hl hd hp h
def orcK (f:FuncId) (o:List Ob) (a:List PV):Option { r:PV×List Ob // ∀ K:PV→List Ob→Prop,K r.1 r.2→FC Tryz.prog tt f o a K }:=
 match f,o,a with
 |24,[],[.int .i64 (.ofNat n)]=>if h:n<100 then some ⟨(.str (digs n),[]),fun _ hk=>F24 h hk⟩ else none
 |332,[],[.str s,.str [47]]=>if h:s.length<4294967281 then some ⟨(.row 9 0,[.row 9 (.list ((segs s).map encS)) true]),fun _ hk=>F332 h hk⟩ else none
 |349,[],[.str s,.str t]=>if h:s.length<4294967281 then some ⟨(.bool (Lib.contains s t),[]),fun _ hk=>F349 h hk⟩ else none
 |110,[.box [.nilp,.row 5 1],.row 5 d true],[.box 0 0]=>some ⟨(.tup [],[.box [.box 0 0,.row 5 1],.row 5 d true]),fun _ hk=>F110 (.inl rfl) hk⟩
 |110,[.box [.box 0 0,.row 5 1],.row 5 d true],[.box 0 0]=>some ⟨(.tup [],[.box [.box 0 0,.row 5 1],.row 5 d true]),fun _ hk=>F110 (.inr rfl) hk⟩
 |69,[.box [.box 0 0,.row 5 1],.row 5 d true],[.box 0 0]=>
  match he:(match d with| .list l=>l.map (fun x=>match x with|[.int n]=>UInt8.ofNat n.toNat|_=>0)|_=>[]) with
  |s=>if h:(isEmptyS s=false∧s.length≤4294967296∧eqD d (.list (strRows s))=true) then some ⟨(.str s,[.dead,.dead]),fun _ hk=>F69 (by intro e;rw [e] at h;cases h.1) h.2.1 (eqD_ok h.2.2) rfl hk⟩ else none
 |_,_,_=>none
end Go.VC.T07
end
