/- Part 4 of the common texts: K1 L2 L1 G1 G2 K2 C1 C2 V5 V6 G3 V7 G4 L3 X1 X2 X3 L0 SF V2 U1 U2 V1 V3 U3 V4 R1 U4 U5 W1 W2 W3 W4 V8 V9 W5 R3 X4 X5 X6 X7 X8. -/
import Derived.Test.YtppmlhanmdamfaaGreatDoorProg
import Derived.Shelf.Small.Strs
import Derived.Shelf.Small.Wraps
import Derived.Shelf.Strconv.Itoa3
import Derived.Shelf.Strings.Search3
import Derived.Shelf.Strings.Split
import Derived.Ground.SlsfProg
import Derived.Shelf.SlSortCmp.NoneTotal
import Derived.Shelf.Spec.SlicesGrow
import Derived.Shelf.Small.Bits
import Derived.Shelf.Sort.Plain
import Derived.Shelf.Slices.In.SortNone
import Derived.Sort.Walk0
import Derived.Shelf.GgSortFunc.InsertionK
import Derived.Shelf.SlSortCmp.Kit1
import Derived.Test.YtppmlhanmdamfaaGreatDoorPart1
import Derived.Test.YtppmlhanmdamfaaGreatDoorPart2
import Derived.Test.YtppmlhanmdamfaaGreatDoorPart3
set_option linter.all false
set_option maxRecDepth 100000
set_option maxHeartbeats 16000000

section
namespace Go.VC.T07
open Go Go.VC Go.Proofs
def tab:List (TypeId×TI):=[
 (3,{ agg:=false,cks:=[.int .i64],fs:=[],el:=0,ar:=0,bytes:=8,glob:=some 0 }),
 (4,{ agg:=false,cks:=[.bool],fs:=[],el:=0,ar:=0,bytes:=1 }),
 (5,{ agg:=false,cks:=[.int .u8],fs:=[],el:=0,ar:=0,bytes:=1 }),
 (9,{ agg:=false,cks:=[.str],fs:=[],el:=0,ar:=0,bytes:=16 }),
 (21,{ agg:=false,cks:=[.int .i32],fs:=[],el:=0,ar:=0,bytes:=4 }),
 (22,{ agg:=false,cks:=[.slice 40],fs:=[],el:=40,ar:=0,bytes:=24 }),
 (23,{ agg:=false,cks:=[.slice 40],fs:=[],el:=40,ar:=0,bytes:=24 }),
 (24,{ agg:=false,cks:=[.slice 9],fs:=[],el:=9,ar:=0,bytes:=24 }),
 (25,{ agg:=false,cks:=[.slice 28],fs:=[],el:=28,ar:=0,bytes:=24 }),
 (26,{ agg:=false,cks:=[.slice 65],fs:=[],el:=65,ar:=0,bytes:=24 }),
 (28,{ agg:=true,cks:=[.int .i64,.str,.str,.slice 28,.slice 65],fs:=[(0,3),(1,9),(2,9),(3,25),(4,26)],el:=0,ar:=0,bytes:=88 }),
 (32,{ agg:=false,cks:=[.int .i64],fs:=[],el:=0,ar:=0,bytes:=8 }),
 (35,{ agg:=false,cks:=[.slice 51],fs:=[],el:=51,ar:=0,bytes:=24 }),
 (36,{ agg:=false,cks:=[.slice 101],fs:=[],el:=101,ar:=0,bytes:=24 }),
 (37,{ agg:=false,cks:=[.slice 106],fs:=[],el:=106,ar:=0,bytes:=24 }),
 (38,{ agg:=false,cks:=[.slice 119],fs:=[],el:=119,ar:=0,bytes:=24 }),
 (40,{ agg:=true,cks:=[.str,.slice 51,.slice 101,.slice 106,.slice 119],fs:=[(0,9),(1,35),(2,36),(3,37),(4,38)],el:=0,ar:=0,bytes:=112 }),
 (49,{ agg:=false,cks:=[.slice 53],fs:=[],el:=53,ar:=0,bytes:=24 }),
 (51,{ agg:=true,cks:=[.str,.slice 53,.int .i64,.str,.str,.slice 28,.slice 65,.int .i64,.str,.str,.slice 28,.slice 65],fs:=[(0,9),(1,49),(2,28),(7,28)],el:=0,ar:=0,bytes:=216 }),
 (53,{ agg:=true,cks:=[.str,.int .i64,.int .i64,.str,.str,.slice 28,.slice 65],fs:=[(0,9),(1,3),(2,28)],el:=0,ar:=0,bytes:=112 }),
 (54,{ agg:=false,cks:=[.slice 4],fs:=[],el:=4,ar:=0,bytes:=24 }),
 (59,{ agg:=false,cks:=[.slice 24],fs:=[],el:=24,ar:=0,bytes:=24 }),
 (65,{ agg:=true,cks:=[.str,.int .i64,.str,.str,.slice 28,.slice 65,.bool],fs:=[(0,9),(1,28),(6,4)],el:=0,ar:=0,bytes:=112 }),
 (68,{ agg:=false,cks:=[.fn],fs:=[],el:=0,ar:=0,bytes:=8 }),
 (75,{ agg:=true,cks:=[.slice 40,.str,.slice 51,.slice 101,.slice 106,.slice 119],fs:=[(0,23),(1,40)],el:=0,ar:=0,bytes:=136 }),
 (76,{ agg:=false,cks:=[.fn],fs:=[],el:=0,ar:=0,bytes:=8 }),
 (77,{ agg:=false,cks:=[.slice 76],fs:=[],el:=76,ar:=0,bytes:=24 }),
 (78,{ agg:=false,cks:=[.map 78 24],fs:=[],el:=24,ar:=10,bytes:=8 }),
 (85,{ agg:=false,cks:=[.map 85 4],fs:=[],el:=4,ar:=10,bytes:=8 }),
 (86,{ agg:=false,cks:=[.map 86 51],fs:=[],el:=51,ar:=10,bytes:=8 }),
 (87,{ agg:=false,cks:=[.map 87 85],fs:=[],el:=85,ar:=10,bytes:=8 }),
 (89,{ agg:=true,cks:=[.slice 40,.map 86 51,.map 87 85],fs:=[(0,23),(1,86),(2,87)],el:=0,ar:=0,bytes:=40 }),
 (93,{ agg:=false,cks:=[.fn],fs:=[],el:=0,ar:=0,bytes:=8 }),
 (95,{ agg:=false,cks:=[.fn],fs:=[],el:=0,ar:=0,bytes:=8 }),
 (97,{ agg:=false,cks:=[.fn],fs:=[],el:=0,ar:=0,bytes:=8 }),
 (101,{ agg:=true,cks:=[.str,.slice 53,.int .i64,.str,.str,.slice 28,.slice 65],fs:=[(0,9),(1,49),(2,28)],el:=0,ar:=0,bytes:=128 }),
 (102,{ agg:=false,cks:=[.fn],fs:=[],el:=0,ar:=0,bytes:=8 }),
 (106,{ agg:=true,cks:=[.str,.str,.str],fs:=[(0,9),(1,9),(2,9)],el:=0,ar:=0,bytes:=48 }),
 (107,{ agg:=false,cks:=[.fn],fs:=[],el:=0,ar:=0,bytes:=8 }),
 (109,{ agg:=false,cks:=[.fn],fs:=[],el:=0,ar:=0,bytes:=8 }),
 (110,{ agg:=false,cks:=[.fn],fs:=[],el:=0,ar:=0,bytes:=8 }),
 (113,{ agg:=false,cks:=[.fn],fs:=[],el:=0,ar:=0,bytes:=8 }),
 (114,{ agg:=true,cks:=[.slice 9,.slice 9,.slice 9,.slice 9],fs:=[],el:=24,ar:=5,bytes:=96 }),
 (115,{ agg:=true,cks:=[.fn,.fn,.fn,.fn],fs:=[],el:=113,ar:=5,bytes:=32 }),
 (119,{ agg:=true,cks:=[.str,.str],fs:=[(0,9),(1,9)],el:=0,ar:=0,bytes:=32 }),
 (121,{ agg:=false,cks:=[.slice 124],fs:=[],el:=124,ar:=0,bytes:=24 }),
 (124,{ agg:=true,cks:=[.str,.str],fs:=[(0,9),(1,9)],el:=0,ar:=0,bytes:=32,eqOk:=true }),
 (125,{ agg:=false,cks:=[.fn],fs:=[],el:=0,ar:=0,bytes:=8 }),
 (126,{ agg:=false,cks:=[.fn],fs:=[],el:=0,ar:=0,bytes:=8 }),
 (128,{ agg:=false,cks:=[.fn],fs:=[],el:=0,ar:=0,bytes:=8 }),
 (129,{ agg:=false,cks:=[.fn],fs:=[],el:=0,ar:=0,bytes:=8 }),
 (134,{ agg:=false,cks:=[.fn],fs:=[],el:=0,ar:=0,bytes:=8 }),
 (135,{ agg:=false,cks:=[.fn],fs:=[],el:=0,ar:=0,bytes:=8 }),
 (141,{ agg:=false,cks:=[.int .u64],fs:=[],el:=0,ar:=0,bytes:=8 }),
 (143,{ agg:=false,cks:=[.ptr 51],fs:=[],el:=0,ar:=0,bytes:=8 }),
 (144,{ agg:=false,cks:=[.ptr 101],fs:=[],el:=0,ar:=0,bytes:=8 }),
 (145,{ agg:=false,cks:=[.ptr 106],fs:=[],el:=0,ar:=0,bytes:=8 }),
 (147,{ agg:=true,cks:=[.str,.str,.ptr 51,.ptr 101,.ptr 106],fs:=[(0,9),(1,9),(2,143),(3,144),(4,145)],el:=0,ar:=0,bytes:=56 }),
 (152,{ agg:=false,cks:=[.fn],fs:=[],el:=0,ar:=0,bytes:=8 }),
 (153,{ agg:=false,cks:=[.fn],fs:=[],el:=0,ar:=0,bytes:=8 }),
 (157,{ agg:=false,cks:=[.fn],fs:=[],el:=0,ar:=0,bytes:=8 }),
 (159,{ agg:=false,cks:=[.fn],fs:=[],el:=0,ar:=0,bytes:=8 }),
 (161,{ agg:=false,cks:=[.fn],fs:=[],el:=0,ar:=0,bytes:=8 }),
 (164,{ agg:=false,cks:=[.fn],fs:=[],el:=0,ar:=0,bytes:=8 }),
 (173,{ agg:=false,cks:=[.map 173 4],fs:=[],el:=4,ar:=125,bytes:=8 }),
 (175,{ agg:=false,cks:=[.fn],fs:=[],el:=0,ar:=0,bytes:=8 }),
 (176,{ agg:=false,cks:=[.fn],fs:=[],el:=0,ar:=0,bytes:=8 }),
 (179,{ agg:=false,cks:=[.fn],fs:=[],el:=0,ar:=0,bytes:=8 }),
 (184,{ agg:=false,cks:=[.fn],fs:=[],el:=0,ar:=0,bytes:=8 }),
 (187,{ agg:=false,cks:=[.int .i64],fs:=[],el:=0,ar:=0,bytes:=8 }),
 (197,{ agg:=false,cks:=[.int .u64],fs:=[],el:=0,ar:=0,bytes:=8 }),
 (205,{ agg:=false,cks:=[.fn],fs:=[],el:=0,ar:=0,bytes:=8 }),
 (206,{ agg:=false,cks:=[.slice 32],fs:=[],el:=32,ar:=0,bytes:=24 }),
 (209,{ agg:=false,cks:=[.fn],fs:=[],el:=0,ar:=0,bytes:=8 }),
 (218,{ agg:=false,cks:=[.fn],fs:=[],el:=0,ar:=0,bytes:=8 }),
 (219,{ agg:=false,cks:=[.slice 3],fs:=[],el:=3,ar:=0,bytes:=24 }),
 (229,{ agg:=false,cks:=[.int .u64],fs:=[],el:=0,ar:=0,bytes:=8 }),
 (233,{ agg:=false,cks:=[.ptr 3],fs:=[],el:=0,ar:=0,bytes:=8 }),
 (240,{ agg:=false,cks:=[.fn],fs:=[],el:=0,ar:=0,bytes:=8 }),
 (262,{ agg:=false,cks:=[.slice 5],fs:=[],el:=5,ar:=0,bytes:=24 })]
def tt:TypeId→Option TI:=findT tab
theorem tab_ok:tabCheck Tryz.prog tab=true:=by kernel_rfl
theorem eqs_ok:eqTabCheck Tryz.prog tab=true:=by kernel_rfl
theorem tt_ok:TtOk Tryz.prog tt:=TtOk_of tab_ok (eqTab_ok eqs_ok)
theorem mixed:Tryz.prog.follows .mixedOrders=true:=by kernel_rfl
end Go.VC.T07
end

section
namespace Go.Proofs
open Go.Shelf
def Tryz.lays106_ren:Go.Shelf.Ren:=⟨fun|106=>159|213=>205|265=>224|n=>n,fun|9=>9|3=>3|n=>n,fun|n=>n⟩
theorem Tryz.lays106:Go.Proofs.Lays.n106 Tryz.prog Tryz.lays106_ren:={
 mixed:=by kernel_rfl
 f106:=Tryz.func159.trans (congrArg some (by kernel_rfl))
 f213:=Tryz.func205.trans (congrArg some (by kernel_rfl))
 f265:=Tryz.func224.trans (congrArg some (by kernel_rfl))
 t3:=Tryz.underlying3
 a3:=Tryz.isAgg3
 z3:=Tryz.sizeOf3
 v3:=Tryz.zeroValue3
 t9:=Tryz.underlying9
 a9:=Tryz.isAgg9
 z9:=Tryz.sizeOf9
 v9:=Tryz.zeroValue9 }
open Go.RowKit in
theorem Tryz.strings_Compare (a b:ByteArray) (w:World):
  Calls Tryz.prog 159 #[.string a,.string b] w fun e w'=>e= .returned (.int .i64 (Lib.compareBytes a.data.toList b.data.toList))∧w'=w:=Any.strings_Compare Tryz.lays106 a b w
def Tryz.lays103_ren:Go.Shelf.Ren:=⟨fun|103=>212|210=>229|206=>251|n=>n,fun|9=>9|4=>4|24=>221|3=>3|n=>n,fun|n=>n⟩
theorem Tryz.lays103:Go.Proofs.Lays.n103 Tryz.prog Tryz.lays103_ren:={
 mixed:=by kernel_rfl
 f103:=Tryz.func212.trans (congrArg some (by kernel_rfl))
 f206:=Tryz.func251.trans (congrArg some (by kernel_rfl))
 f210:=Tryz.func229.trans (congrArg some (by kernel_rfl))
 t3:=Tryz.underlying3
 a3:=Tryz.isAgg3
 z3:=Tryz.sizeOf3
 v3:=Tryz.zeroValue3
 t4:=Tryz.underlying4
 a4:=Tryz.isAgg4
 z4:=Tryz.sizeOf4
 v4:=Tryz.zeroValue4
 t9:=Tryz.underlying9
 a9:=Tryz.isAgg9
 z9:=Tryz.sizeOf9
 v9:=Tryz.zeroValue9
 t24:=Tryz.underlying221
 a24:=Tryz.isAgg221
 z24:=Tryz.sizeOf221
 v24:=Tryz.zeroValue221 }
open Go.RowKit in
theorem Tryz.strings_CutPrefix (s p:ByteArray) (w:World):
  Calls Tryz.prog 212 #[.string s,.string p] w fun e w'=>e= .returned (.tuple #[.string ⟨(Lib.trimPrefix s.data.toList p.data.toList).toArray⟩,.bool (Lib.hasPrefix s.data.toList p.data.toList)])∧w'=w:=Any.strings_CutPrefix Tryz.lays103 s p w
def Tryz.lays171_ren:Go.Shelf.Ren:=⟨fun|171=>146|243=>197|246=>221|283=>239|284=>240|285=>241|286=>242|129=>141|317=>255|318=>256|319=>257|320=>258|337=>265|338=>266|n=>n,fun|3=>3|9=>9|2=>2|4=>4|171=>260|0=>0|53=>197|37=>262|5=>5|173=>263|212=>273|51=>195|20=>20|213=>274|46=>141|232=>283|233=>284|n=>n,fun|17=>1|18=>4|19=>5|n=>n⟩
theorem Tryz.lays171:Go.Proofs.Lays.n171 Tryz.prog Tryz.lays171_ren:={
 mixed:=by kernel_rfl
 f129:=Tryz.func141.trans (congrArg some (by kernel_rfl))
 f171:=Tryz.func146.trans (congrArg some (by kernel_rfl))
 f243:=Tryz.func197.trans (congrArg some (by kernel_rfl))
 f246:=Tryz.func221.trans (congrArg some (by kernel_rfl))
 f283:=Tryz.func239.trans (congrArg some (by kernel_rfl))
 f284:=Tryz.func240.trans (congrArg some (by kernel_rfl))
 f285:=Tryz.func241.trans (congrArg some (by kernel_rfl))
 f286:=Tryz.func242.trans (congrArg some (by kernel_rfl))
 f317:=Tryz.func255.trans (congrArg some (by kernel_rfl))
 f318:=Tryz.func256.trans (congrArg some (by kernel_rfl))
 f319:=Tryz.func257.trans (congrArg some (by kernel_rfl))
 f320:=Tryz.func258.trans (congrArg some (by kernel_rfl))
 f337:=Tryz.func265.trans (congrArg some (by kernel_rfl))
 f338:=Tryz.func266.trans (congrArg some (by kernel_rfl))
 t0:=Tryz.underlying0
 a0:=Tryz.isAgg0
 z0:=Tryz.sizeOf0
 v0:=Tryz.zeroValue0
 t2:=Tryz.underlying2
 a2:=Tryz.isAgg2
 z2:=Tryz.sizeOf2
 v2:=Tryz.zeroValue2
 t3:=Tryz.underlying3
 a3:=Tryz.isAgg3
 z3:=Tryz.sizeOf3
 v3:=Tryz.zeroValue3
 t4:=Tryz.underlying4
 a4:=Tryz.isAgg4
 z4:=Tryz.sizeOf4
 v4:=Tryz.zeroValue4
 t5:=Tryz.underlying5
 a5:=Tryz.isAgg5
 z5:=Tryz.sizeOf5
 v5:=Tryz.zeroValue5
 t9:=Tryz.underlying9
 a9:=Tryz.isAgg9
 z9:=Tryz.sizeOf9
 v9:=Tryz.zeroValue9
 t20:=Tryz.underlying20
 a20:=Tryz.isAgg20
 z20:=Tryz.sizeOf20
 v20:=Tryz.zeroValue20
 t37:=Tryz.underlying262
 a37:=Tryz.isAgg262
 z37:=Tryz.sizeOf262
 v37:=Tryz.zeroValue262
 t46:=Tryz.underlying141
 a46:=Tryz.isAgg141
 z46:=Tryz.sizeOf141
 v46:=Tryz.zeroValue141
 t51:=Tryz.underlying195
 a51:=Tryz.isAgg195
 z51:=Tryz.sizeOf195
 v51:=Tryz.zeroValue195
 t53:=Tryz.underlying197
 a53:=Tryz.isAgg197
 z53:=Tryz.sizeOf197
 v53:=Tryz.zeroValue197
 t171:=Tryz.underlying260
 a171:=Tryz.isAgg260
 z171:=Tryz.sizeOf260
 v171:=Tryz.zeroValue260
 t173:=Tryz.underlying263
 a173:=Tryz.isAgg263
 z173:=Tryz.sizeOf263
 v173:=Tryz.zeroValue263
 t212:=Tryz.underlying273
 a212:=Tryz.isAgg273
 z212:=Tryz.sizeOf273
 v212:=Tryz.zeroValue273
 t213:=Tryz.underlying274
 a213:=Tryz.isAgg274
 z213:=Tryz.sizeOf274
 t232:=Tryz.underlying283
 a232:=Tryz.isAgg283
 z232:=Tryz.sizeOf283
 v232:=Tryz.zeroValue283
 t233:=Tryz.underlying284
 a233:=Tryz.isAgg284
 z233:=Tryz.sizeOf284
 v233:=Tryz.zeroValue284
 g17:=by kernel_rfl
 g18:=by kernel_rfl
 g19:=by kernel_rfl }
open Go.RowKit Go.Sort Go.Lib in
theorem Tryz.strconv_Itoa_small (i:Nat) (hi:i<100) (w:World):
  Calls Tryz.prog 146 #[.int .i64 i] w fun e w'=>e= .returned (.string ⟨(Lib.decDigits i).toArray⟩)∧w'=w:=Any.strconv_Itoa_small Tryz.lays171 i hi w
def Tryz.lays144_ren:Go.Shelf.Ren:=⟨fun|144=>204|143=>223|219=>243|217=>259|225=>260|224=>261|267=>262|266=>267|314=>268|n=>n,fun|9=>9|4=>4|3=>3|5=>5|46=>141|146=>277|51=>195|n=>n,fun|1=>0|n=>n⟩
theorem Tryz.lays144:Go.Proofs.Lays.n144 Tryz.prog Tryz.lays144_ren:={
 mixed:=by kernel_rfl
 f143:=Tryz.func223.trans (congrArg some (by kernel_rfl))
 f144:=Tryz.func204.trans (congrArg some (by kernel_rfl))
 f217:=Tryz.func259.trans (congrArg some (by kernel_rfl))
 f219:=Tryz.func243.trans (congrArg some (by kernel_rfl))
 f224:=Tryz.func261.trans (congrArg some (by kernel_rfl))
 f225:=Tryz.func260.trans (congrArg some (by kernel_rfl))
 f266:=Tryz.func267.trans (congrArg some (by kernel_rfl))
 f267:=Tryz.func262.trans (congrArg some (by kernel_rfl))
 f314:=Tryz.func268.trans (congrArg some (by kernel_rfl))
 t3:=Tryz.underlying3
 a3:=Tryz.isAgg3
 z3:=Tryz.sizeOf3
 v3:=Tryz.zeroValue3
 t4:=Tryz.underlying4
 a4:=Tryz.isAgg4
 z4:=Tryz.sizeOf4
 v4:=Tryz.zeroValue4
 t5:=Tryz.underlying5
 a5:=Tryz.isAgg5
 z5:=Tryz.sizeOf5
 v5:=Tryz.zeroValue5
 t9:=Tryz.underlying9
 a9:=Tryz.isAgg9
 z9:=Tryz.sizeOf9
 v9:=Tryz.zeroValue9
 t46:=Tryz.underlying141
 a46:=Tryz.isAgg141
 z46:=Tryz.sizeOf141
 v46:=Tryz.zeroValue141
 t51:=Tryz.underlying195
 a51:=Tryz.isAgg195
 z51:=Tryz.sizeOf195
 v51:=Tryz.zeroValue195
 t146:=Tryz.underlying277
 a146:=Tryz.isAgg277
 z146:=Tryz.sizeOf277
 v146:=Tryz.zeroValue277
 g1:=by kernel_rfl }
open Go.RowKit Go.Lib in
theorem Tryz.strings_Contains (s sub:ByteArray) (m:Int) (w:World) (hs:s.size<4294967281) (hm:w.cell? ⟨0,0,none⟩=some (.int .i64 m)):
  Calls Tryz.prog 204 #[.string s,.string sub] w fun e w'=>e= .returned (.bool (Lib.contains s.data.toList sub.data.toList))∧w'=w:=Any.strings_Contains Tryz.lays144 s sub m w hs hm
def Tryz.lays146_ren:Go.Shelf.Ren:=⟨fun|146=>166|221=>211|268=>227|138=>228|143=>223|195=>248|197=>249|218=>250|219=>243|260=>263|217=>259|225=>260|224=>261|267=>262|266=>267|314=>268|n=>n,fun|9=>9|31=>24|3=>3|4=>4|0=>0|105=>266|21=>21|5=>5|46=>141|119=>279|139=>282|138=>281|146=>277|51=>195|n=>n,fun|1=>0|3=>2|4=>3|n=>n⟩
theorem Tryz.lays146:Go.Proofs.Lays.n146 Tryz.prog Tryz.lays146_ren:={
 mixed:=by kernel_rfl
 f138:=Tryz.func228.trans (congrArg some (by kernel_rfl))
 f143:=Tryz.func223.trans (congrArg some (by kernel_rfl))
 f146:=Tryz.func166.trans (congrArg some (by kernel_rfl))
 f195:=Tryz.func248.trans (congrArg some (by kernel_rfl))
 f197:=Tryz.func249.trans (congrArg some (by kernel_rfl))
 f217:=Tryz.func259.trans (congrArg some (by kernel_rfl))
 f218:=Tryz.func250.trans (congrArg some (by kernel_rfl))
 f219:=Tryz.func243.trans (congrArg some (by kernel_rfl))
 f221:=Tryz.func211.trans (congrArg some (by kernel_rfl))
 f224:=Tryz.func261.trans (congrArg some (by kernel_rfl))
 f225:=Tryz.func260.trans (congrArg some (by kernel_rfl))
 f260:=Tryz.func263.trans (congrArg some (by kernel_rfl))
 f266:=Tryz.func267.trans (congrArg some (by kernel_rfl))
 f267:=Tryz.func262.trans (congrArg some (by kernel_rfl))
 f268:=Tryz.func227.trans (congrArg some (by kernel_rfl))
 f314:=Tryz.func268.trans (congrArg some (by kernel_rfl))
 t0:=Tryz.underlying0
 a0:=Tryz.isAgg0
 z0:=Tryz.sizeOf0
 v0:=Tryz.zeroValue0
 t3:=Tryz.underlying3
 a3:=Tryz.isAgg3
 z3:=Tryz.sizeOf3
 v3:=Tryz.zeroValue3
 t4:=Tryz.underlying4
 a4:=Tryz.isAgg4
 z4:=Tryz.sizeOf4
 v4:=Tryz.zeroValue4
 t5:=Tryz.underlying5
 a5:=Tryz.isAgg5
 z5:=Tryz.sizeOf5
 v5:=Tryz.zeroValue5
 t9:=Tryz.underlying9
 a9:=Tryz.isAgg9
 z9:=Tryz.sizeOf9
 v9:=Tryz.zeroValue9
 t21:=Tryz.underlying21
 a21:=Tryz.isAgg21
 z21:=Tryz.sizeOf21
 v21:=Tryz.zeroValue21
 t31:=Tryz.underlying24
 a31:=Tryz.isAgg24
 z31:=Tryz.sizeOf24
 v31:=Tryz.zeroValue24
 t46:=Tryz.underlying141
 a46:=Tryz.isAgg141
 z46:=Tryz.sizeOf141
 v46:=Tryz.zeroValue141
 t51:=Tryz.underlying195
 a51:=Tryz.isAgg195
 z51:=Tryz.sizeOf195
 v51:=Tryz.zeroValue195
 t105:=Tryz.underlying266
 a105:=Tryz.isAgg266
 z105:=Tryz.sizeOf266
 v105:=Tryz.zeroValue266
 t119:=Tryz.underlying279
 a119:=Tryz.isAgg279
 z119:=Tryz.sizeOf279
 t138:=Tryz.underlying281
 a138:=Tryz.isAgg281
 z138:=Tryz.sizeOf281
 v138:=Tryz.zeroValue281
 t139:=Tryz.underlying282
 a139:=Tryz.isAgg282
 z139:=Tryz.sizeOf282
 v139:=Tryz.zeroValue282
 t146:=Tryz.underlying277
 a146:=Tryz.isAgg277
 z146:=Tryz.sizeOf277
 v146:=Tryz.zeroValue277
 g1:=by kernel_rfl
 g3:=by kernel_rfl
 g4:=by kernel_rfl }
open Go.RowKit Go.Lib in
theorem Tryz.strings_Split (s sep:ByteArray) (m:Int) (w:World) (hs:s.size<4294967281) (hm:w.cell? ⟨0,0,none⟩=some (.int .i64 m)) (h1:1≤sep.size):
  Calls Tryz.prog 166 #[.string s,.string sep] w fun e w'=>
   e= .returned (.slice (some ⟨w.heap.size,0,none⟩) (Lib.countB s sep+1) (Lib.countB s sep+1))∧w'=w.alloc (.cells ((Lib.splitB sep 0 (Lib.countB s sep) s).map Value.string).toArray 9):=Any.strings_Split Tryz.lays146 (by kernel_rfl) s sep m w hs hm h1
def Tryz.laysSlF6_f45_ren:Go.Shelf.Ren:=⟨fun|6=>45|15=>84|14=>83|28=>140|29=>141|20=>132|21=>133|22=>134|23=>135|24=>136|25=>137|26=>138|27=>139|46=>184|47=>185|48=>186|49=>187|50=>188|57=>219|n=>n,fun|22=>59|24=>24|25=>93|3=>3|39=>141|0=>0|53=>195|55=>197|4=>4|46=>188|45=>187|50=>192|5=>5|9=>9|66=>229|70=>233|76=>247|77=>248|n=>n,fun|n=>n⟩
theorem Tryz.laysSlF6_f45:Go.Proofs.SlLaysF.n6 Tryz.prog Tryz.laysSlF6_f45_ren:={
 mixed:=by kernel_rfl
 f6:=⟨Tryz.f45.name,by decide,Tryz.func45.trans (congrArg some (by kernel_rfl))⟩
 f14:=⟨Tryz.f83.name,by decide,Tryz.func83.trans (congrArg some (by kernel_rfl))⟩
 f15:=Tryz.func84.trans (congrArg some (by kernel_rfl))
 f20:=⟨Tryz.f132.name,by decide,Tryz.func132.trans (congrArg some (by kernel_rfl))⟩
 f21:=⟨Tryz.f133.name,by decide,Tryz.func133.trans (congrArg some (by kernel_rfl))⟩
 f22:=⟨Tryz.f134.name,by decide,Tryz.func134.trans (congrArg some (by kernel_rfl))⟩
 f23:=⟨Tryz.f135.name,by decide,Tryz.func135.trans (congrArg some (by kernel_rfl))⟩
 f24:=⟨Tryz.f136.name,by decide,Tryz.func136.trans (congrArg some (by kernel_rfl))⟩
 f25:=⟨Tryz.f137.name,by decide,Tryz.func137.trans (congrArg some (by kernel_rfl))⟩
 f26:=⟨Tryz.f138.name,by decide,Tryz.func138.trans (congrArg some (by kernel_rfl))⟩
 f27:=⟨Tryz.f139.name,by decide,Tryz.func139.trans (congrArg some (by kernel_rfl))⟩
 f28:=Tryz.func140.trans (congrArg some (by kernel_rfl))
 f29:=Tryz.func141.trans (congrArg some (by kernel_rfl))
 f46:=⟨Tryz.f184.name,by decide,Tryz.func184.trans (congrArg some (by kernel_rfl))⟩
 f47:=Tryz.func185.trans (congrArg some (by kernel_rfl))
 f48:=Tryz.func186.trans (congrArg some (by kernel_rfl))
 f49:=⟨Tryz.f187.name,by decide,Tryz.func187.trans (congrArg some (by kernel_rfl))⟩
 f50:=⟨Tryz.f188.name,by decide,Tryz.func188.trans (congrArg some (by kernel_rfl))⟩
 f57:=⟨Tryz.f219.name,by decide,Tryz.func219.trans (congrArg some (by kernel_rfl))⟩
 t0:=Tryz.underlying0
 a0:=Tryz.isAgg0
 z0:=Tryz.sizeOf0
 v0:=Tryz.zeroValue0
 t3:=Tryz.underlying3
 a3:=Tryz.isAgg3
 z3:=Tryz.sizeOf3
 v3:=Tryz.zeroValue3
 t4:=Tryz.underlying4
 a4:=Tryz.isAgg4
 z4:=Tryz.sizeOf4
 v4:=Tryz.zeroValue4
 t5:=Tryz.underlying5
 a5:=Tryz.isAgg5
 z5:=Tryz.sizeOf5
 v5:=Tryz.zeroValue5
 t9:=Tryz.underlying9
 a9:=Tryz.isAgg9
 z9:=Tryz.sizeOf9
 v9:=Tryz.zeroValue9
 t22:=Tryz.underlying59
 a22:=Tryz.isAgg59
 z22:=Tryz.sizeOf59
 v22:=Tryz.zeroValue59
 a24:=Tryz.isAgg24
 z24:=Tryz.sizeOf24
 t25:=Tryz.underlying93
 a25:=Tryz.isAgg93
 z25:=Tryz.sizeOf93
 v25:=Tryz.zeroValue93
 t39:=Tryz.underlying141
 a39:=Tryz.isAgg141
 z39:=Tryz.sizeOf141
 v39:=Tryz.zeroValue141
 t45:=Tryz.underlying187
 a45:=Tryz.isAgg187
 z45:=Tryz.sizeOf187
 v45:=Tryz.zeroValue187
 t46:=Tryz.underlying188
 a46:=Tryz.isAgg188
 z46:=Tryz.sizeOf188
 v46:=Tryz.zeroValue188
 t50:=Tryz.underlying192
 a50:=Tryz.isAgg192
 z50:=Tryz.sizeOf192
 v50:=Tryz.zeroValue192
 t53:=Tryz.underlying195
 a53:=Tryz.isAgg195
 z53:=Tryz.sizeOf195
 v53:=Tryz.zeroValue195
 t55:=Tryz.underlying197
 a55:=Tryz.isAgg197
 z55:=Tryz.sizeOf197
 v55:=Tryz.zeroValue197
 t66:=Tryz.underlying229
 a66:=Tryz.isAgg229
 z66:=Tryz.sizeOf229
 v66:=Tryz.zeroValue229
 t70:=Tryz.underlying233
 a70:=Tryz.isAgg233
 z70:=Tryz.sizeOf233
 v70:=Tryz.zeroValue233
 t76:=Tryz.underlying247
 a76:=Tryz.isAgg247
 z76:=Tryz.sizeOf247
 v76:=Tryz.zeroValue247
 t77:=Tryz.underlying248
 a77:=Tryz.isAgg248
 z77:=Tryz.sizeOf248
 v77:=Tryz.zeroValue248 }
open Go.RowKit Go.Lib Go.Sort in
theorem Tryz.slices_SortFunc {α:Type} [Inhabited α] (enc:α→Value) (h1:OneCell enc) (cf:α→α→Int) (hO:SWO (ltOf cf)) (g:Nat) (cb:Array Value) (blk off cap:Nat) (d:Array α) (w:World) (eg:∀ args w,(callFunc g args).run Tryz.prog w= .ok (.enter g args) w) (hcmp:CmpLays1 Tryz.prog g cb enc cf blk off d.size w) (hH:Holds enc w blk off d) (hblk:blk<w.heap.size) (hsz:d.size<4611686018427387904):
  Calls Tryz.prog 45 #[.slice (some ⟨blk,off,none⟩) d.size cap,.func (.func g) #[] cb] w fun e w'=>
   e= .returned (.tuple #[])∧∃ d' n os,PermIn 0 d.size d d'∧SortedIn (ltOf cf) 0 d.size d'∧w'=sortWorld enc w blk off n d' os:=Any.slices_SortFunc Tryz.laysSlF6_f45 enc h1 cf hO g cb blk off cap d w eg hcmp hH hblk hsz
def Tryz.laysSlF06_f45_ren:Go.Shelf.Ren:=⟨fun|6=>45|15=>84|14=>83|28=>140|29=>141|20=>132|21=>133|22=>134|23=>135|24=>136|25=>137|26=>138|27=>139|46=>184|47=>185|48=>186|49=>187|50=>188|57=>219|n=>n,fun|22=>59|24=>24|25=>93|3=>3|39=>141|0=>0|53=>195|55=>197|4=>4|46=>188|45=>187|50=>192|5=>5|9=>9|66=>229|70=>233|76=>247|77=>248|n=>n,fun|n=>n⟩
theorem Tryz.laysSlF06_f45:Go.Proofs.SlLaysF0.n6 Tryz.prog Tryz.laysSlF06_f45_ren:={
 mixed:=by kernel_rfl
 f6:=⟨Tryz.f45.name,by decide,Tryz.func45.trans (congrArg some (by kernel_rfl))⟩
 f14:=⟨Tryz.f83.name,by decide,Tryz.func83.trans (congrArg some (by kernel_rfl))⟩
 f15:=Tryz.func84.trans (congrArg some (by kernel_rfl))
 f20:=⟨Tryz.f132.name,by decide,Tryz.func132.trans (congrArg some (by kernel_rfl))⟩
 f21:=⟨Tryz.f133.name,by decide,Tryz.func133.trans (congrArg some (by kernel_rfl))⟩
 f22:=⟨Tryz.f134.name,by decide,Tryz.func134.trans (congrArg some (by kernel_rfl))⟩
 f23:=⟨Tryz.f135.name,by decide,Tryz.func135.trans (congrArg some (by kernel_rfl))⟩
 f24:=⟨Tryz.f136.name,by decide,Tryz.func136.trans (congrArg some (by kernel_rfl))⟩
 f25:=⟨Tryz.f137.name,by decide,Tryz.func137.trans (congrArg some (by kernel_rfl))⟩
 f26:=⟨Tryz.f138.name,by decide,Tryz.func138.trans (congrArg some (by kernel_rfl))⟩
 f27:=⟨Tryz.f139.name,by decide,Tryz.func139.trans (congrArg some (by kernel_rfl))⟩
 f28:=Tryz.func140.trans (congrArg some (by kernel_rfl))
 f29:=Tryz.func141.trans (congrArg some (by kernel_rfl))
 f46:=⟨Tryz.f184.name,by decide,Tryz.func184.trans (congrArg some (by kernel_rfl))⟩
 f47:=Tryz.func185.trans (congrArg some (by kernel_rfl))
 f48:=Tryz.func186.trans (congrArg some (by kernel_rfl))
 f49:=⟨Tryz.f187.name,by decide,Tryz.func187.trans (congrArg some (by kernel_rfl))⟩
 f50:=⟨Tryz.f188.name,by decide,Tryz.func188.trans (congrArg some (by kernel_rfl))⟩
 f57:=⟨Tryz.f219.name,by decide,Tryz.func219.trans (congrArg some (by kernel_rfl))⟩
 t0:=Tryz.underlying0
 a0:=Tryz.isAgg0
 z0:=Tryz.sizeOf0
 v0:=Tryz.zeroValue0
 t3:=Tryz.underlying3
 a3:=Tryz.isAgg3
 z3:=Tryz.sizeOf3
 v3:=Tryz.zeroValue3
 t4:=Tryz.underlying4
 a4:=Tryz.isAgg4
 z4:=Tryz.sizeOf4
 v4:=Tryz.zeroValue4
 t5:=Tryz.underlying5
 a5:=Tryz.isAgg5
 z5:=Tryz.sizeOf5
 v5:=Tryz.zeroValue5
 t9:=Tryz.underlying9
 a9:=Tryz.isAgg9
 z9:=Tryz.sizeOf9
 v9:=Tryz.zeroValue9
 t22:=Tryz.underlying59
 a22:=Tryz.isAgg59
 z22:=Tryz.sizeOf59
 v22:=Tryz.zeroValue59
 t25:=Tryz.underlying93
 a25:=Tryz.isAgg93
 z25:=Tryz.sizeOf93
 v25:=Tryz.zeroValue93
 t39:=Tryz.underlying141
 a39:=Tryz.isAgg141
 z39:=Tryz.sizeOf141
 v39:=Tryz.zeroValue141
 t45:=Tryz.underlying187
 a45:=Tryz.isAgg187
 z45:=Tryz.sizeOf187
 v45:=Tryz.zeroValue187
 t46:=Tryz.underlying188
 a46:=Tryz.isAgg188
 z46:=Tryz.sizeOf188
 v46:=Tryz.zeroValue188
 t50:=Tryz.underlying192
 a50:=Tryz.isAgg192
 z50:=Tryz.sizeOf192
 v50:=Tryz.zeroValue192
 t53:=Tryz.underlying195
 a53:=Tryz.isAgg195
 z53:=Tryz.sizeOf195
 v53:=Tryz.zeroValue195
 t55:=Tryz.underlying197
 a55:=Tryz.isAgg197
 z55:=Tryz.sizeOf197
 v55:=Tryz.zeroValue197
 t66:=Tryz.underlying229
 a66:=Tryz.isAgg229
 z66:=Tryz.sizeOf229
 v66:=Tryz.zeroValue229
 t70:=Tryz.underlying233
 a70:=Tryz.isAgg233
 z70:=Tryz.sizeOf233
 v70:=Tryz.zeroValue233
 t76:=Tryz.underlying247
 a76:=Tryz.isAgg247
 z76:=Tryz.sizeOf247
 v76:=Tryz.zeroValue247
 t77:=Tryz.underlying248
 a77:=Tryz.isAgg248
 z77:=Tryz.sizeOf248
 v77:=Tryz.zeroValue248 }
open Go.RowKit Go.Lib Go.Sort in
theorem Tryz.slices_SortFunc_none {α:Type} [Inhabited α] (p:Option Addr) (cap:Nat) (fv:Value) (w:World):
  Calls Tryz.prog 45 #[.slice p 0 cap,fv] w fun e w'=>e= .returned (.tuple #[])∧w'=w:=AnyF.slices_SortFunc_none Tryz.laysSlF06_f45 p cap fv w
def Tryz.laysGrow_ren:Go.Shelf.Ren:=⟨fun|4=>120|n=>n,fun|22=>24|25=>9|3=>3|4=>4|9=>9|20=>20|0=>0|n=>n,fun|n=>n⟩
theorem Tryz.laysGrow:Go.Proofs.Lays8.n4 Tryz.prog Tryz.laysGrow_ren:={
 mixed:=by kernel_rfl
 f4:=⟨Tryz.f120.name,by decide,Tryz.func120.trans (congrArg some (by kernel_rfl))⟩
 t0:=Tryz.underlying0
 a0:=Tryz.isAgg0
 z0:=Tryz.sizeOf0
 v0:=Tryz.zeroValue0
 t3:=Tryz.underlying3
 a3:=Tryz.isAgg3
 z3:=Tryz.sizeOf3
 v3:=Tryz.zeroValue3
 t4:=Tryz.underlying4
 a4:=Tryz.isAgg4
 z4:=Tryz.sizeOf4
 v4:=Tryz.zeroValue4
 t9:=Tryz.underlying9
 a9:=Tryz.isAgg9
 z9:=Tryz.sizeOf9
 v9:=Tryz.zeroValue9
 t20:=Tryz.underlying20
 a20:=Tryz.isAgg20
 z20:=Tryz.sizeOf20
 v20:=Tryz.zeroValue20
 t22:=Tryz.underlying24
 a22:=Tryz.isAgg24
 z22:=Tryz.sizeOf24
 v22:=Tryz.zeroValue24 }
end Go.Proofs
end

section
namespace Go.Proofs
open Go.Shelf
def Tryz.lays190_ren:Go.Shelf.Ren:=⟨fun|190=>82|125=>84|258=>131|128=>140|129=>141|302=>175|303=>176|304=>177|305=>178|306=>179|307=>180|308=>181|309=>182|310=>183|333=>216|329=>185|330=>186|334=>217|335=>218|336=>142|344=>238|n=>n,fun|31=>24|9=>9|3=>3|46=>141|0=>0|51=>195|53=>197|4=>4|183=>188|182=>187|131=>192|5=>5|218=>229|222=>233|228=>247|229=>248|n=>n,fun|n=>n⟩
theorem Tryz.lays190:Go.Proofs.Lays.n190 Tryz.prog Tryz.lays190_ren:={
 mixed:=by kernel_rfl
 f125:=Tryz.func84.trans (congrArg some (by kernel_rfl))
 f128:=Tryz.func140.trans (congrArg some (by kernel_rfl))
 f129:=Tryz.func141.trans (congrArg some (by kernel_rfl))
 f190:=Tryz.func82.trans (congrArg some (by kernel_rfl))
 f258:=Tryz.func131.trans (congrArg some (by kernel_rfl))
 f302:=Tryz.func175.trans (congrArg some (by kernel_rfl))
 f303:=Tryz.func176.trans (congrArg some (by kernel_rfl))
 f304:=Tryz.func177.trans (congrArg some (by kernel_rfl))
 f305:=Tryz.func178.trans (congrArg some (by kernel_rfl))
 f306:=Tryz.func179.trans (congrArg some (by kernel_rfl))
 f307:=Tryz.func180.trans (congrArg some (by kernel_rfl))
 f308:=Tryz.func181.trans (congrArg some (by kernel_rfl))
 f309:=Tryz.func182.trans (congrArg some (by kernel_rfl))
 f310:=Tryz.func183.trans (congrArg some (by kernel_rfl))
 f329:=Tryz.func185.trans (congrArg some (by kernel_rfl))
 f330:=Tryz.func186.trans (congrArg some (by kernel_rfl))
 f333:=Tryz.func216.trans (congrArg some (by kernel_rfl))
 f334:=Tryz.func217.trans (congrArg some (by kernel_rfl))
 f335:=Tryz.func218.trans (congrArg some (by kernel_rfl))
 f336:=Tryz.func142.trans (congrArg some (by kernel_rfl))
 f344:=Tryz.func238.trans (congrArg some (by kernel_rfl))
 t0:=Tryz.underlying0
 a0:=Tryz.isAgg0
 z0:=Tryz.sizeOf0
 v0:=Tryz.zeroValue0
 t3:=Tryz.underlying3
 a3:=Tryz.isAgg3
 z3:=Tryz.sizeOf3
 v3:=Tryz.zeroValue3
 t4:=Tryz.underlying4
 a4:=Tryz.isAgg4
 z4:=Tryz.sizeOf4
 v4:=Tryz.zeroValue4
 t5:=Tryz.underlying5
 a5:=Tryz.isAgg5
 z5:=Tryz.sizeOf5
 v5:=Tryz.zeroValue5
 t9:=Tryz.underlying9
 a9:=Tryz.isAgg9
 z9:=Tryz.sizeOf9
 v9:=Tryz.zeroValue9
 t31:=Tryz.underlying24
 a31:=Tryz.isAgg24
 z31:=Tryz.sizeOf24
 v31:=Tryz.zeroValue24
 t46:=Tryz.underlying141
 a46:=Tryz.isAgg141
 z46:=Tryz.sizeOf141
 v46:=Tryz.zeroValue141
 t51:=Tryz.underlying195
 a51:=Tryz.isAgg195
 z51:=Tryz.sizeOf195
 v51:=Tryz.zeroValue195
 t53:=Tryz.underlying197
 a53:=Tryz.isAgg197
 z53:=Tryz.sizeOf197
 v53:=Tryz.zeroValue197
 t131:=Tryz.underlying192
 a131:=Tryz.isAgg192
 z131:=Tryz.sizeOf192
 v131:=Tryz.zeroValue192
 t182:=Tryz.underlying187
 a182:=Tryz.isAgg187
 z182:=Tryz.sizeOf187
 v182:=Tryz.zeroValue187
 t183:=Tryz.underlying188
 a183:=Tryz.isAgg188
 z183:=Tryz.sizeOf188
 v183:=Tryz.zeroValue188
 t218:=Tryz.underlying229
 a218:=Tryz.isAgg229
 z218:=Tryz.sizeOf229
 v218:=Tryz.zeroValue229
 t222:=Tryz.underlying233
 a222:=Tryz.isAgg233
 z222:=Tryz.sizeOf233
 v222:=Tryz.zeroValue233
 t228:=Tryz.underlying247
 a228:=Tryz.isAgg247
 z228:=Tryz.sizeOf247
 v228:=Tryz.zeroValue247
 t229:=Tryz.underlying248
 a229:=Tryz.isAgg248
 z229:=Tryz.sizeOf248
 v229:=Tryz.zeroValue248 }
open Go.Sort Go.RowKit in
theorem Tryz.slices_Sort_string (blk off cap:Nat) (ss:List (List UInt8)) (w:World) (hH:Holds encStr w blk off ss.toArray) (hblk:blk<w.heap.size) (hsz:ss.length<4611686018427387904):
  Calls Tryz.prog 82 #[.slice (some ⟨blk,off,none⟩) ss.length cap] w fun e w'=>
   e= .returned (.tuple #[])∧∃ n os,w'=grow (putRow encStr (Sort.ahead w n) blk off (ss.mergeSort fun x y=>decide (x≤y)).toArray) os:=Any.slices_Sort_string Tryz.lays190 blk off cap ss w hH hblk hsz
open Go.RowKit Go.Sort in
theorem Tryz.slices_Sort_string_none (p:Option Addr) (cap:Nat) (w:World):
  Calls Tryz.prog 82 #[.slice p 0 cap] w fun e w'=>e= .returned (.tuple #[])∧w'=w:=Any.slices_Sort_string_none Tryz.lays190 p cap w
end Go.Proofs
end

section
namespace Go.VC
section
variable {a b:Int} {k:IntKind} {x y:List UInt8} {p q:Bool} {d e:D}
theorem Std_lt:Std.lt a b=decide (a<b):=rfl
theorem Std_le:Std.le a b=decide (a≤b):=rfl
theorem Std_eq:Std.eq a b=(a==b):=rfl
theorem Std_add:Std.add a b=a+b:=rfl
theorem Std_sub:Std.sub a b=a-b:=rfl
theorem Std_mul:Std.mul a b=a*b:=rfl
theorem Std_not:Std.not p= !p:=rfl
theorem Std_beq:Std.beq p q=(p==q):=rfl
theorem Std_ite {c:Bool}:Std.ite c p q=(bif c then p else q):=rfl
theorem Std_seq:Std.seq x y=(x==y):=rfl
theorem Std_slen:Std.slen x=(x.length:Int):=rfl
theorem Std_max:Std.max a b=if b>a then b else a:=rfl
theorem Std_min:Std.min a b=if b<a then b else a:=rfl
theorem Std_idx:Std.idx a b=(0≤a∧a<b):=rfl
theorem Std_bnd:Std.bnd a b=(0≤a∧a≤b):=rfl
theorem Std_same:Std.same a b=(a=b):=rfl
theorem Std_inr64:Std.inr .i64 a=(-9223372036854775808≤a∧a≤9223372036854775807):=rfl
theorem Std_int {n:Int}:Std.asInt (.int n)=n:=rfl
theorem Std_bool:Std.asBool (.bool p)=p:=rfl
theorem Std_str:Std.asStr (.str x)=x:=rfl
end
def encL {α:Type} (f:α→List D) (l:List α):D:=.list (l.map f)
theorem Std_len {α:Type} {f:α→List D} {l:List α}:Std.len (encL f l)=(l.length:Int):=by simp [Std,std,encL,rowsD]
theorem Std_cell {α:Type} {f:α→List D} {l:List α} {i:Nat} {j:Nat} (h:i<l.length):Std.cell (encL f l) (Int.ofNat i) j=(f l[i]).getD j .nil:=by
 simp [Std,std,encL,rowsD,List.getD,h]
theorem Std_app {α:Type} {f:α→List D} {l k:List α}:Std.app (encL f l) (encL f k)=encL f (l++k):=by simp [Std,std,encL,rowsD]
theorem leaf_idx {α:Type} {f:α→List D} {l:List α} {i:Nat} (h:i<l.length):Std.idx (Int.ofNat i) (Std.len (encL f l)):=
 ⟨Int.natCast_nonneg _,by rw [Std_len];exact Int.ofNat_lt.2 h⟩
theorem leaf_inc {i n:Nat} (h:i<n) (hn:n<4294967297):Std.inr .i64 (Std.add (Int.ofNat i) 1):=by
 rw [Std_inr64,Std_add];simp only [Int.ofNat_eq_natCast];omega
theorem lt_of_lt {α:Type} {f:α→List D} {l:List α} {i:Nat} (h:Std.lt (Int.ofNat i) (Std.len (encL f l))=true):i<l.length:=by
 rw [Std_lt,Std_len] at h;have:=of_decide_eq_true h;simp only [Int.ofNat_eq_natCast] at this;omega
theorem ge_of_lt {α:Type} {f:α→List D} {l:List α} {i:Nat} (h:Std.lt (Int.ofNat i) (Std.len (encL f l))=false):l.length≤i:=by
 rw [Std_lt,Std_len] at h;have:=of_decide_eq_false h;simp only [Int.ofNat_eq_natCast] at this;omega
theorem all_take {α:Type} {p:α→Bool} {l:List α} {i:Nat} (h:i<l.length) (ha:(l.take i).all p=true) (hp:p l[i]=true):(l.take (i+1)).all p=true:=by
 rw [List.take_succ_eq_append_getElem h,List.all_append,ha];simp [hp]
theorem all_false {α:Type} {p:α→Bool} {l:List α} {i:Nat} (h:i<l.length) (hp:p l[i]=false):l.all p=false:=by
 rw [List.all_eq_false];exact ⟨l[i],List.getElem_mem h,by simp [hp]⟩
theorem Std_part {α:Type} {f:α→List D} {l:List α} {a b:Nat}:Std.part (encL f l) (a:Int) (b:Int)=encL f ((l.drop a).take (b-a)):=by
 simp [Std,std,encL,rowsD,List.map_drop,List.map_take]
theorem Std_setc {α:Type} {f:α→List D} {l:List α} {a:Int} {i off:Nat} {vs:List D} {y:α} (ha:a=i) (h:i<l.length) (hy:(f l[i]).take off++vs++(f l[i]).drop (off+vs.length)=f y):Std.setc (encL f l) a off vs=encL f (l.set i y):=by
 subst ha
 simp only [Std,std,encL,rowsD,Int.toNat_natCast]
 congr 1
 apply List.ext_getElem (by simp)
 intro j h1 h2
 simp only [List.getElem_modify,List.getElem_map,List.getElem_set]
 split
 ·rename_i hij;subst hij;exact hy
 ·rfl
theorem Std_max' {a b:Int}:Std.max a b=max a b:=by rw [Std_max];split<;>omega
theorem Std_min' {a b:Int}:Std.min a b=min a b:=by rw [Std_min];split<;>omega
theorem Std_partI {α:Type} {f:α→List D} {l:List α} {a b:Int}:Std.part (encL f l) a b=encL f ((l.drop a.toNat).take (b.toNat-a.toNat)):=by
 simp [Std,std,encL,rowsD,List.map_drop,List.map_take]
theorem Std_len_app {d e:D}:Std.len (Std.app d e)=Std.len d+Std.len e:=by simp [Std,std,rowsD]
theorem Std_len_lit {l:List (List D)}:Std.len (Std.lit l)=(l.length:Int):=by simp [Std,std,rowsD]
theorem lit1 {α:Type} {f:α→List D} {x:α} {l:List D} (h:l=f x):Std.lit [l]=encL f [x]:=by subst h;rfl
theorem Std_len_setc {d:D} {i:Int} {off:Nat} {vs:List D}:Std.len (Std.setc d i off vs)=Std.len d:=by simp [Std,std,rowsD]
def slt (a b:List UInt8):Bool:=Op.bytesLess a b
theorem Std_slt' {a b:List UInt8}:Std.slt a b=slt a b:=rfl
def encJ (l:List Int):D:=encL (fun j=>[D.int j]) l
theorem Std_see {l:List Int} {j:Int}:Std.see (encJ l) j=encJ (l++[j]):=by simp [Std,std,encJ,encL,rowsD]
theorem Std_last {l:List Int} {j:Int}:Std.last (encJ (l++[j]))=j:=by simp [Std,std,encJ,encL,rowsD]
theorem Std_unseen {α:Type} {f:α→List D} {m:List α} {l:List Int} {j:Int} (h:Std.unseen (encL f m) (encJ l) j):0≤j∧j<m.length∧j∉l:=by
 obtain ⟨h1,h2,h3⟩:=h
 simp only [encL,encJ,rowsD,List.length_map] at h2 h3
 refine ⟨h1,h2,fun hj=>h3 (List.mem_map.2 ⟨j,hj,rfl⟩)⟩
theorem Std_allSeen {α:Type} {f:α→List D} {m:List α} {l:List Int} (h:Std.allSeen (encL f m) (encJ l)):∀ j:Nat,j<m.length→(j:Int)∈l:=by
 intro j hj
 have:=h j (by simp [encL,rowsD];exact hj)
 simp only [encJ,encL,rowsD,List.mem_map] at this
 obtain ⟨x,hx,he⟩:=this
 simp at he;subst he;exact hx
theorem encJ_len {l:List Int}:Std.len (encJ l)=(l.length:Int):=Std_len
theorem encJ_cell {l:List Int} {a:Int}:Std.asInt (Std.cell (encJ l) a 0)=l.getD a.toNat 0:=by
 simp only [Std,std,encJ,encL,rowsD]
 rcases Nat.lt_or_ge a.toNat l.length with h|h
 ·simp [List.getD_eq_getElem?_getD,h]
 ·simp [List.getD_eq_getElem?_getD,h]
theorem slt_eq (a b:List UInt8):slt a b=decide (a<b):=Go.Proofs.bytesLess_eq a b
theorem slt_irrefl (a:List UInt8):slt a a=false:=by rw [slt_eq];simp
theorem slt_trans {a b c:List UInt8} (h:slt a b=true) (h':slt b c=true):slt a c=true:=by
 rw [slt_eq] at *;simp at *;exact List.lt_trans h h'
theorem slt_tri {a b:List UInt8} (h:slt a b=false) (h':slt b a=false):a=b:=by
 rw [slt_eq] at *;simp at *;exact List.le_antisymm h' h
theorem slt_asymm {a b:List UInt8} (h:slt a b=true):slt b a=false:=by
 rw [slt_eq] at *;simp at *;exact List.le_of_lt h
def idxF {α:Type} (p:α→Bool) (l:List α):Int:=match l.findIdx? p with|some i=>i|none=> -1
theorem idxF_some {α:Type} {p:α→Bool} {l:List α} {i:Nat} (h:i<l.length) (ha:∀ x∈l.take i,p x=false) (hp:p l[i]=true):idxF p l=i:=by
 have:l.findIdx? p=some i:=by
  rw [List.findIdx?_eq_some_iff_getElem]
  refine ⟨h,hp,fun j hj=> ?_⟩
  have:=ha l[j] (by rw [List.mem_take_iff_getElem];exact ⟨j,by omega,rfl⟩)
  simp [this]
 rw [idxF,this]
theorem idxF_none {α:Type} {p:α→Bool} {l:List α} (ha:∀ x∈l,p x=false):idxF p l= -1:=by
 have:l.findIdx? p=none:=by rw [List.findIdx?_eq_none_iff];exact ha
 rw [idxF,this]
theorem idxF_any {α:Type} {p:α→Bool} {l:List α}:l.any p=decide (0≤idxF p l):=by
 cases h:l.findIdx? p with
 |none=>
  have h1:=List.findIdx?_eq_none_iff.1 h
  have:l.any p=false:=by rw [List.any_eq_false];intro x hx;rw [h1 x hx];simp
  simp only [idxF,h,this];rfl
 |some i=>
  obtain ⟨h1,h2,_⟩:=List.findIdx?_eq_some_iff_getElem.1 h
  have:l.any p=true:=by rw [List.any_eq_true];exact ⟨_,List.getElem_mem h1,h2⟩
  simp only [idxF,h,this];simp
theorem idxF_cases {α:Type} (p:α→Bool) (l:List α):(idxF p l= -1∧∀ x∈l,p x=false)∨∃ i,∃ h:i<l.length,idxF p l=(i:Int)∧p l[i]=true∧∀ x∈l.take i,p x=false:=by
 cases h:l.findIdx? p with
 |none=>exact .inl ⟨by simp only [idxF,h],List.findIdx?_eq_none_iff.1 h⟩
 |some i=>
  obtain ⟨h1,h2,h3⟩:=List.findIdx?_eq_some_iff_getElem.1 h
  refine .inr ⟨i,h1,by simp only [idxF,h],h2,fun x hx=> ?_⟩
  rw [List.mem_take_iff_getElem] at hx
  obtain ⟨j,hj,rfl⟩:=hx
  have:=h3 j (by omega)
  simpa using this
theorem take_succ' {α:Type} {l:List α} {i:Nat} (h:i<l.length):l.take (i+1)=l.take i++[l[i]]:=List.take_succ_eq_append_getElem h
theorem SD:type_of% (And.intro @Std_len (And.intro @Std_lt (And.intro @Std_le (And.intro @Std_eq (And.intro @Std_add (And.intro @Std_sub (And.intro @Std_mul (And.intro @Std_not (And.intro @Std_ite (And.intro @Std_str (And.intro @Std_bool (And.intro @Std_int (And.intro @Std_slen (And.intro @Std_seq (And.intro @Std_slt' (And.intro @Std_beq (And.intro @Std_idx (And.intro @Std_bnd (And.intro @Std_same (And.intro @Std_max' (And.intro @Std_min' (And.intro @Std_partI (And.intro @Std_app (And.intro @Std_len_app (And.intro @Std_len_lit (And.intro @Std_len_setc (And.intro @List.length_take.{0} (And.intro @List.length_drop.{0} (And.intro @List.length_append.{0} (And.intro @List.length_cons.{0} (And.intro @List.length_nil.{0} (And.intro @Int.toNat_natCast (And.intro @Std_inr64 (And.intro @Int.ofNat_eq_natCast (And.intro @Int.natCast_zero (And.intro @decide_eq_true_eq (And.intro @decide_eq_false_iff_not (And.intro @Bool.not_eq_true (And.intro @Bool.not_eq_false (And.intro @Bool.not_eq_eq_eq_not (And.intro @Bool.not_true (And.intro @Bool.not_false (And.intro @beq_iff_eq.{0} (And.intro @beq_eq_false_iff_ne.{0} (And.intro @ne_eq.{1} (And.intro @Bool.true_eq_false (And.intro @Bool.false_eq_true (And.intro @cond_true.{1} (@cond_false.{1}))))))))))))))))))))))))))))))))))))))))))))))))):=And.intro @Std_len (And.intro @Std_lt (And.intro @Std_le (And.intro @Std_eq (And.intro @Std_add (And.intro @Std_sub (And.intro @Std_mul (And.intro @Std_not (And.intro @Std_ite (And.intro @Std_str (And.intro @Std_bool (And.intro @Std_int (And.intro @Std_slen (And.intro @Std_seq (And.intro @Std_slt' (And.intro @Std_beq (And.intro @Std_idx (And.intro @Std_bnd (And.intro @Std_same (And.intro @Std_max' (And.intro @Std_min' (And.intro @Std_partI (And.intro @Std_app (And.intro @Std_len_app (And.intro @Std_len_lit (And.intro @Std_len_setc (And.intro @List.length_take.{0} (And.intro @List.length_drop.{0} (And.intro @List.length_append.{0} (And.intro @List.length_cons.{0} (And.intro @List.length_nil.{0} (And.intro @Int.toNat_natCast (And.intro @Std_inr64 (And.intro @Int.ofNat_eq_natCast (And.intro @Int.natCast_zero (And.intro @decide_eq_true_eq (And.intro @decide_eq_false_iff_not (And.intro @Bool.not_eq_true (And.intro @Bool.not_eq_false (And.intro @Bool.not_eq_eq_eq_not (And.intro @Bool.not_true (And.intro @Bool.not_false (And.intro @beq_iff_eq.{0} (And.intro @beq_eq_false_iff_ne.{0} (And.intro @ne_eq.{1} (And.intro @Bool.true_eq_false (And.intro @Bool.false_eq_true (And.intro @cond_true.{1} (@cond_false.{1}))))))))))))))))))))))))))))))))))))))))))))))))
abbrev FF:Prop:=False→False
section
variable {A:Alg}
theorem negA (h:A=Std):∀ b:Bool,A.not b= !b:=by rw [h];exact fun _=>rfl
theorem eqA (h:A=Std):∀ a b:Int,A.eq a b=(a==b):=by rw [h];exact fun _ _=>rfl
theorem ltA (h:A=Std):∀ a b:Int,A.lt a b=decide (a<b):=by rw [h];exact fun _ _=>rfl
theorem sqA (h:A=Std):∀ a b:List UInt8,A.seq a b=(a==b):=by rw [h];exact fun _ _=>rfl
theorem slA (h:A=Std):∀ a b:List UInt8,A.slt a b=slt a b:=by rw [h];exact fun _ _=>rfl
theorem lenOf {α:Type} {f:α→List D} {l:List α} {d:D} (h:d=encL f l):∃ n,n=l.length∧Std.len d=Int.ofNat n:=⟨_,rfl,by rw [h,Std_len];rfl⟩
end
end Go.VC
end

section
namespace Go.VC
abbrev S:=List UInt8
mutual
inductive Ty where|mk (k:Int) (m n:S) (ar:List Ty) (fl:List Fe)
inductive Fe where|mk (s:S) (t:Ty) (b:Bool)
end
def Ty.k:Ty→Int| .mk k _ _ _ _=>k
def Ty.m:Ty→S| .mk _ m _ _ _=>m
def Ty.n:Ty→S| .mk _ _ n _ _=>n
def Ty.ar:Ty→List Ty| .mk _ _ _ ar _=>ar
def Ty.fl:Ty→List Fe| .mk _ _ _ _ fl=>fl
def Fe.s:Fe→S| .mk s _ _=>s
def Fe.t:Fe→Ty| .mk _ t _=>t
def Fe.b:Fe→Bool| .mk _ _ b=>b
mutual
def encTy:Ty→List D| .mk k m n ar fl=>[.int k,.str m,.str n,.list (encTys ar),.list (encFds fl)]
def encFd:Fe→List D| .mk s t b=>.str s::(encTy t++[.bool b])
def encTys:List Ty→List (List D)|[]=>[]|t::l=>encTy t::encTys l
def encFds:List Fe→List (List D)|[]=>[]|f::l=>encFd f::encFds l
end
theorem encTys_eq:∀ l:List Ty,encTys l=l.map encTy
 |[]=>by simp [encTys]
 |t::l=>by simp [encTys,encTys_eq l]
theorem encFds_eq:∀ l:List Fe,encFds l=l.map encFd
 |[]=>by simp [encFds]
 |t::l=>by simp [encFds,encFds_eq l]
theorem encTy_eq (t:Ty):encTy t=[.int t.k,.str t.m,.str t.n,encL encTy t.ar,encL encFd t.fl]:=by
 cases t;simp [encTy,encTys_eq,encFds_eq,encL,Ty.k,Ty.m,Ty.n,Ty.ar,Ty.fl]
theorem encFd_eq (f:Fe):encFd f=[.str f.s,.int f.t.k,.str f.t.m,.str f.t.n,encL encTy f.t.ar,encL encFd f.t.fl,.bool f.b]:=by
 cases f;simp [encFd,encTy_eq,Fe.s,Fe.t,Fe.b]
def tyIs (t:Ty) (c0:Int) (c1 c2:S) (c3 c4:D):Prop:=c0=t.k∧c1=t.m∧c2=t.n∧c3=encL encTy t.ar∧c4=encL encFd t.fl
structure Pm where
 name:S
 var:Int
 bound:Ty
structure TE where
 name:S
 params:List Pm
 lower:Ty
 upper:Ty
structure VE where
 name:S
 params:List Pm
 ty:Ty
structure AE where
 name:S
 module:S
 target:S
structure DE where
 name:S
 note:S
structure IF where
 path:S
 types:List TE
 values:List VE
 aliases:List AE
 deprecated:List DE
structure US where
 module:S
 name:S
def encPm (p:Pm):List D:=.str p.name:: .int p.var::encTy p.bound
def encTE (x:TE):List D:=.str x.name::encL encPm x.params::(encTy x.lower++encTy x.upper)
def encVE (x:VE):List D:=.str x.name::encL encPm x.params::encTy x.ty
def encAE (x:AE):List D:=[.str x.name,.str x.module,.str x.target]
def encDE (x:DE):List D:=[.str x.name,.str x.note]
def encIF (x:IF):List D:=[.str x.path,encL encTE x.types,encL encVE x.values,encL encAE x.aliases,encL encDE x.deprecated]
def encS (s:S):List D:=[.str s]
theorem encPm_eq (p:Pm):encPm p=[.str p.name,.int p.var,.int p.bound.k,.str p.bound.m,.str p.bound.n,encL encTy p.bound.ar,encL encFd p.bound.fl]:=by simp [encPm,encTy_eq]
theorem encTE_eq (x:TE):encTE x=[.str x.name,encL encPm x.params,.int x.lower.k,.str x.lower.m,.str x.lower.n,encL encTy x.lower.ar,encL encFd x.lower.fl,.int x.upper.k,.str x.upper.m,.str x.upper.n,encL encTy x.upper.ar,encL encFd x.upper.fl]:=by simp [encTE,encTy_eq]
theorem encVE_eq (x:VE):encVE x=[.str x.name,encL encPm x.params,.int x.ty.k,.str x.ty.m,.str x.ty.n,encL encTy x.ty.ar,encL encFd x.ty.fl]:=by simp [encVE,encTy_eq]
section
variable {A:Alg} {d:D} {i:Nat}
theorem cellAt {α:Type} {f:α→List D} {l:List α} (ha:A=Std) (hd:d=encL f l) (h:i<l.length) (j:Nat):A.cell d (Int.ofNat i) j=(f l[i]).getD j .nil:=by subst ha hd;exact Std_cell h
theorem tyAt {l:List Ty} (ha:A=Std) (hd:d=encL encTy l) (h:i<l.length):tyIs l[i] (A.asInt (A.cell d (Int.ofNat i) 0)) (A.asStr (A.cell d (Int.ofNat i) 1)) (A.asStr (A.cell d (Int.ofNat i) 2)) (A.cell d (Int.ofNat i) 3) (A.cell d (Int.ofNat i) 4):=by
 simp only [cellAt ha hd h];subst ha;rw [encTy_eq];exact ⟨rfl,rfl,rfl,rfl,rfl⟩
theorem fdTyAt {l:List Fe} (ha:A=Std) (hd:d=encL encFd l) (h:i<l.length):tyIs l[i].t (A.asInt (A.cell d (Int.ofNat i) 1)) (A.asStr (A.cell d (Int.ofNat i) 2)) (A.asStr (A.cell d (Int.ofNat i) 3)) (A.cell d (Int.ofNat i) 4) (A.cell d (Int.ofNat i) 5):=by
 simp only [cellAt ha hd h];subst ha;rw [encFd_eq];exact ⟨rfl,rfl,rfl,rfl,rfl⟩
theorem fdAt {l:List Fe} (ha:A=Std) (hd:d=encL encFd l) (h:i<l.length):A.asStr (A.cell d (Int.ofNat i) 0)=l[i].s∧A.asBool (A.cell d (Int.ofNat i) 6)=l[i].b:=by
 simp only [cellAt ha hd h];subst ha;rw [encFd_eq];exact ⟨rfl,rfl⟩
theorem pmTyAt {l:List Pm} (ha:A=Std) (hd:d=encL encPm l) (h:i<l.length):tyIs l[i].bound (A.asInt (A.cell d (Int.ofNat i) 2)) (A.asStr (A.cell d (Int.ofNat i) 3)) (A.asStr (A.cell d (Int.ofNat i) 4)) (A.cell d (Int.ofNat i) 5) (A.cell d (Int.ofNat i) 6):=by
 simp only [cellAt ha hd h];subst ha;rw [encPm_eq];exact ⟨rfl,rfl,rfl,rfl,rfl⟩
theorem pmAt {l:List Pm} (ha:A=Std) (hd:d=encL encPm l) (h:i<l.length):A.asStr (A.cell d (Int.ofNat i) 0)=l[i].name∧A.asInt (A.cell d (Int.ofNat i) 1)=l[i].var:=by
 simp only [cellAt ha hd h];subst ha;rw [encPm_eq];exact ⟨rfl,rfl⟩
theorem teLoAt {l:List TE} (ha:A=Std) (hd:d=encL encTE l) (h:i<l.length):tyIs l[i].lower (A.asInt (A.cell d (Int.ofNat i) 2)) (A.asStr (A.cell d (Int.ofNat i) 3)) (A.asStr (A.cell d (Int.ofNat i) 4)) (A.cell d (Int.ofNat i) 5) (A.cell d (Int.ofNat i) 6):=by
 simp only [cellAt ha hd h];subst ha;rw [encTE_eq];exact ⟨rfl,rfl,rfl,rfl,rfl⟩
theorem teUpAt {l:List TE} (ha:A=Std) (hd:d=encL encTE l) (h:i<l.length):tyIs l[i].upper (A.asInt (A.cell d (Int.ofNat i) 7)) (A.asStr (A.cell d (Int.ofNat i) 8)) (A.asStr (A.cell d (Int.ofNat i) 9)) (A.cell d (Int.ofNat i) 10) (A.cell d (Int.ofNat i) 11):=by
 simp only [cellAt ha hd h];subst ha;rw [encTE_eq];exact ⟨rfl,rfl,rfl,rfl,rfl⟩
theorem teAt {l:List TE} (ha:A=Std) (hd:d=encL encTE l) (h:i<l.length):A.asStr (A.cell d (Int.ofNat i) 0)=l[i].name∧A.cell d (Int.ofNat i) 1=encL encPm l[i].params:=by
 simp only [cellAt ha hd h];subst ha;rw [encTE_eq];exact ⟨rfl,rfl⟩
theorem veTyAt {l:List VE} (ha:A=Std) (hd:d=encL encVE l) (h:i<l.length):tyIs l[i].ty (A.asInt (A.cell d (Int.ofNat i) 2)) (A.asStr (A.cell d (Int.ofNat i) 3)) (A.asStr (A.cell d (Int.ofNat i) 4)) (A.cell d (Int.ofNat i) 5) (A.cell d (Int.ofNat i) 6):=by
 simp only [cellAt ha hd h];subst ha;rw [encVE_eq];exact ⟨rfl,rfl,rfl,rfl,rfl⟩
theorem veAt {l:List VE} (ha:A=Std) (hd:d=encL encVE l) (h:i<l.length):A.asStr (A.cell d (Int.ofNat i) 0)=l[i].name∧A.cell d (Int.ofNat i) 1=encL encPm l[i].params:=by
 simp only [cellAt ha hd h];subst ha;rw [encVE_eq];exact ⟨rfl,rfl⟩
theorem aeAt {l:List AE} (ha:A=Std) (hd:d=encL encAE l) (h:i<l.length):A.asStr (A.cell d (Int.ofNat i) 0)=l[i].name∧A.asStr (A.cell d (Int.ofNat i) 1)=l[i].module∧A.asStr (A.cell d (Int.ofNat i) 2)=l[i].target:=by
 simp only [cellAt ha hd h];subst ha;exact ⟨rfl,rfl,rfl⟩
theorem deAt {l:List DE} (ha:A=Std) (hd:d=encL encDE l) (h:i<l.length):A.asStr (A.cell d (Int.ofNat i) 0)=l[i].name∧A.asStr (A.cell d (Int.ofNat i) 1)=l[i].note:=by
 simp only [cellAt ha hd h];subst ha;exact ⟨rfl,rfl⟩
theorem ifAt {l:List IF} (ha:A=Std) (hd:d=encL encIF l) (h:i<l.length):A.asStr (A.cell d (Int.ofNat i) 0)=l[i].path∧A.cell d (Int.ofNat i) 1=encL encTE l[i].types∧A.cell d (Int.ofNat i) 2=encL encVE l[i].values∧A.cell d (Int.ofNat i) 3=encL encAE l[i].aliases∧A.cell d (Int.ofNat i) 4=encL encDE l[i].deprecated:=by
 simp only [cellAt ha hd h];subst ha;exact ⟨rfl,rfl,rfl,rfl,rfl⟩
theorem strAt {l:List S} (ha:A=Std) (hd:d=encL encS l) (h:i<l.length):A.asStr (A.cell d (Int.ofNat i) 0)=l[i]:=by
 simp only [cellAt ha hd h];subst ha;rfl
theorem lenIs {α:Type} {f:α→List D} {l:List α} (ha:A=Std) (hd:d=encL f l):A.len d=Int.ofNat l.length:=by subst ha hd;exact Std_len
end
theorem Ty.parts {P:Ty→Prop} (h:∀ t:Ty,(∀ u∈t.ar,P u)→(∀ f∈t.fl,P f.t)→P t):∀ t,P t:=by
 have key:∀ (n:Nat) (t:Ty),SizeOf.sizeOf t≤n→P t:=by
  intro n
  induction n with
  |zero=>intro t ht;cases t;simp at ht
  |succ n ih=>
   intro t ht
   refine h t (fun u hu=>ih u ?_) (fun f hf=>ih f.t ?_)
   ·cases t with
    |mk k m s ar fl=>
     have:=List.sizeOf_lt_of_mem (show u∈ar from hu)
     simp at ht;omega
   ·cases t with
    |mk k m s ar fl=>
     have:=List.sizeOf_lt_of_mem (show f∈fl from hf)
     have h2:SizeOf.sizeOf f.t<SizeOf.sizeOf f:=by cases f;simp [Fe.t];omega
     simp at ht;omega
 exact fun t=>key _ t (Nat.le_refl _)
theorem Ty.ext {t u:Ty} (h0:t.k=u.k) (h1:t.m=u.m) (h2:t.n=u.n) (h3:t.ar=u.ar) (h4:t.fl=u.fl):t=u:=by
 cases t;cases u;simp only [Ty.k,Ty.m,Ty.n,Ty.ar,Ty.fl] at *;subst h0 h1 h2 h3 h4;rfl
theorem Fe.ext {t u:Fe} (h0:t.s=u.s) (h1:t.t=u.t) (h2:t.b=u.b):t=u:=by
 cases t;cases u;simp only [Fe.s,Fe.t,Fe.b] at *;subst h0 h1 h2;rfl
open Classical in
noncomputable def same {α:Type} (a b:α):Bool:=decide (a=b)
theorem same_iff {α:Type} {a b:α}:same a b=true↔a=b:=by simp [same]
theorem same_self {α:Type} (a:α):same a a=true:=same_iff.2 rfl
theorem same_ne {α:Type} {a b:α} (h:a≠b):same a b=false:=by
 cases hb:same a b with
 |false=>rfl
 |true=>exact absurd (same_iff.1 hb) h
inductive Ty.le (n:Nat):Ty→Prop
 |mk (t:Ty) (ha:t.ar.length≤n) (hf:t.fl.length≤n) (h1:∀ u∈t.ar,Ty.le n u) (h2:∀ f∈t.fl,Ty.le n f.t):Ty.le n t
end Go.VC
end

section
namespace Go.VC.T07
open Go Go.VC
def g2:Cfg:={tt:=tt,n:=1}
def g3:Cfg:={tt:=tt,n:=36,sch:=[(5,[0,1,2,4,5,6,3,7,8,9])]}
def g4:Cfg:={tt:=tt,n:=85,cuts:=[3]}
def g5:Cfg:={tt:=tt,n:=110}
def g6:Cfg:={tt:=tt,n:=149}
def g7:Cfg:={tt:=tt,n:=129}
def g8:Cfg:={tt:=tt,n:=49,sch:=[(10,[0,1,2,3,4,5,6,7,8,9,10,11,12,13,14,15])]}
def g9:Cfg:={tt:=tt,n:=22}
def g10:Cfg:={tt:=tt,n:=17}
def g11:Cfg:={tt:=tt,n:=17}
def g13:Cfg:={tt:=tt,n:=25}
def g14:Cfg:={tt:=tt,n:=39,sch:=[(3,[0,1,2,3,4,5,6,7,8,9,10,11,12,13])],cuts:=[5]}
def g15:Cfg:={tt:=tt,n:=50}
def g16:Cfg:={tt:=tt,n:=85,sch:=[(7,[0,1,2,3,4,5,6,7,8,9,10,11,12,13]),(9,[0,1,2,3,4,5,6,7,8,9,10,11,12,13]),(14,[0,1,2,3,4,5])]}
def g17:Cfg:={tt:=tt,n:=55,sch:=[(9,[0,1,2,3,4,6,7,8,9,10,5,11,12,13,14])]}
def g18:Cfg:={tt:=tt,n:=49}
def g19:Cfg:={tt:=tt,n:=36}
def g20:Cfg:={tt:=tt,n:=28}
def g21:Cfg:={tt:=tt,n:=9}
def g23:Cfg:={tt:=tt,n:=9}
def g24:Cfg:={tt:=tt,n:=63,sch:=[(7,[0,1,2,3,4,5,6,7]),(10,[0,1,2,3,4,5,6,7]),(13,[0,1,2,3,4,5,6,7])]}
def g25:Cfg:={tt:=tt,n:=96,sch:=[(5,[0,1,2,3,4,5,6,7,8,9,10,11,12,13,14,15])]}
def g26:Cfg:={tt:=tt,n:=26,own:=[5]}
def g27:Cfg:={tt:=tt,n:=21}
def g28:Cfg:={tt:=tt,n:=33}
def g29:Cfg:={tt:=tt,n:=13}
def g30:Cfg:={tt:=tt,n:=64}
def g32:Cfg:={tt:=tt,n:=17}
def g33:Cfg:={tt:=tt,n:=26}
def g34:Cfg:={tt:=tt,n:=63}
def g35:Cfg:={tt:=tt,n:=47}
def g36:Cfg:={tt:=tt,n:=64}
def g37:Cfg:={tt:=tt,n:=38,sch:=[(5,[0,2,3,1,4,5,6])]}
def g38:Cfg:={tt:=tt,n:=68,live:=[73,75,77,76]}
def g40:Cfg:={tt:=tt,n:=45}
def g41:Cfg:={tt:=tt,n:=21,own:=[5]}
def g42:Cfg:={tt:=tt,n:=90,sch:=[(5,[0,1,2,3,4,5,6]),(11,[0,1,2,3,4,5,6,7,8,9,10,11,12,13])],own:=[44]}
def g43:Cfg:={tt:=tt,n:=36,sch:=[(8,[0,1,2,3,4,5,6])]}
def g46:Cfg:={tt:=tt,n:=36}
def g47:Cfg:={tt:=tt,n:=19}
def g49:Cfg:={tt:=tt,n:=36,hard:=[34,35],cuts:=[6]}
def g50:Cfg:={tt:=tt,n:=19}
def g51:Cfg:={tt:=tt,n:=8}
def g52:Cfg:={tt:=tt,n:=61,sch:=[(5,[0,1,2,3,4,6,7,8,9,10,5,11,12,13,14]),(10,[0,1,3,2,4,5,6])]}
def g53:Cfg:={tt:=tt,n:=19}
def g54:Cfg:={tt:=tt,n:=8}
def g55:Cfg:={tt:=tt,n:=46,sch:=[(8,[0,1,2,3,4,5,6,7,8])]}
def g56:Cfg:={tt:=tt,n:=19}
def g57:Cfg:={tt:=tt,n:=8}
def g58:Cfg:={tt:=tt,n:=53}
def g59:Cfg:={tt:=tt,n:=10}
def g60:Cfg:={tt:=tt,n:=20}
def g61:Cfg:={tt:=tt,n:=4}
def g62:Cfg:={tt:=tt,n:=50}
def g63:Cfg:={tt:=tt,n:=41}
def g64:Cfg:={tt:=tt,n:=23}
def g65:Cfg:={tt:=tt,n:=23}
def g66:Cfg:={tt:=tt,n:=28}
def g67:Cfg:={tt:=tt,n:=8}
def g68:Cfg:={tt:=tt,n:=11}
def g69:Cfg:={tt:=tt,n:=54,sch:=[(5,[0,1,2,3,4,5,6]),(10,[0,1,2,3,4,5,6])],cuts:=[1,12]}
def g70:Cfg:={tt:=tt,n:=12}
def g73:Cfg:={tt:=tt,n:=16,n0:=2}
def g74:Cfg:={tt:=tt,n:=21,live:=[122,121]}
def g74r:Cfg:={tt:=tt,n:=21,n0:=3,rnd:=true,live:=[122,121]}
def g75:Cfg:={tt:=tt,n:=16,live:=[73],n0:=3}
def g76:Cfg:={tt:=tt,n:=9,live:=[125],keep:=[82],n0:=2}
def g77a:Cfg:={tt:=tt,n:=4,n0:=1}
def g79:Cfg:={tt:=tt,n:=60,sch:=[(14,[0,1,2,3,4,5])]}
def g80:Cfg:={tt:=tt,n:=4}
def g85:Cfg:={tt:=tt,n:=20}
def g86:Cfg:={tt:=tt,n:=40,sch:=[(8,[0,1,2,3,4,5,6,7,8,9,10,11])]}
def g87:Cfg:={tt:=tt,n:=15,sch:=[(1,[0,1,2,3,5,6,8,9,4,7,10,11,12])]}
def g88:Cfg:={tt:=tt,n:=31,sch:=[(6,[0,1,2,3,4,5,6])]}
def g89:Cfg:={tt:=tt,n:=18}
def g90:Cfg:={tt:=tt,n:=38}
def g92:Cfg:={tt:=tt,n:=15}
def g93:Cfg:={tt:=tt,n:=57}
def g94:Cfg:={tt:=tt,n:=6}
def g95:Cfg:={tt:=tt,n:=19}
def g96:Cfg:={tt:=tt,n:=24}
def g97:Cfg:={tt:=tt,n:=36,hard:=[34,35],cuts:=[6]}
def g98:Cfg:={tt:=tt,n:=23}
def g99:Cfg:={tt:=tt,n:=8,live:=[100],n0:=3}
def g100:Cfg:={tt:=tt,n:=23,live:=[100],n0:=5}
def g101:Cfg:={tt:=tt,n:=106,sch:=[(1,[0,1,2,3,4,5,6,7,8,9,10,11,12,13,14,15])]}
def g102:Cfg:={tt:=tt,n:=25}
def g103:Cfg:={tt:=tt,n:=13}
def g104:Cfg:={tt:=tt,n:=9}
def g105:Cfg:={tt:=tt,n:=7}
def g106:Cfg:={tt:=tt,n:=33,sch:=[(4,[0,1,2,3,4,5,7,8,9,10,11,6,12,13,14])]}
def g107:Cfg:={tt:=tt,n:=5}
def g108:Cfg:={tt:=tt,n:=8,own:=[5,2]}
def g109:Cfg:={tt:=tt,n:=176,sch:=[(27,[0,1,2,3,4,5,6,7,8,9,10,11,12,13,14])]}
def g110:Cfg:={tt:=tt,n:=18}
def g111:Cfg:={tt:=tt,n:=18}
def g112:Cfg:={tt:=tt,n:=8}
def g113:Cfg:={tt:=tt,n:=8,own:=[5,2]}
def g114:Cfg:={tt:=tt,n:=8,own:=[5,2]}
def g115:Cfg:={tt:=tt,n:=12,sch:=[(1,[0,1,2,3,5,6,4,7,8,9])]}
def g116:Cfg:={tt:=tt,n:=8,own:=[5,2]}
def g117:Cfg:={tt:=tt,n:=8,own:=[5,2]}
def g118:Cfg:={tt:=tt,n:=49}
def g119:Cfg:={tt:=tt,n:=9}
def g121:Cfg:={tt:=tt,n:=12,live:=[170],keep:=[171],n0:=2}
def g122a:Cfg:={tt:=tt,n:=4,n0:=1}
def g123:Cfg:={tt:=tt,n:=17,sch:=[(1,[0,1,2,3,5,6,7,8,4,9,10,11,12])]}
def g124:Cfg:={tt:=tt,n:=18}
def g125:Cfg:={tt:=tt,n:=5,live:=[173],keep:=[173],n0:=2}
def g126a:Cfg:={tt:=tt,n:=14,live:=[126],n0:=5}
def g127:Cfg:={tt:=tt,n:=28}
def g128:Cfg:={tt:=tt,n:=28}
def g142:Cfg:={tt:=tt,n:=6}
def g143:Cfg:={tt:=tt,n:=58}
def g144:Cfg:={tt:=tt,n:=23}
def g145:Cfg:={tt:=tt,n:=5}
def g147:Cfg:={tt:=tt,n:=32}
def g148:Cfg:={tt:=tt,n:=32}
def g149:Cfg:={tt:=tt,n:=24}
def g150:Cfg:={tt:=tt,n:=19}
def g151:Cfg:={tt:=tt,n:=26}
def g152:Cfg:={tt:=tt,n:=9}
def g153:Cfg:={tt:=tt,n:=18}
def g154:Cfg:={tt:=tt,n:=17}
def g155:Cfg:={tt:=tt,n:=9}
def g156:Cfg:={tt:=tt,n:=7}
def g157:Cfg:={tt:=tt,n:=5}
def g158:Cfg:={tt:=tt,n:=19}
def g160:Cfg:={tt:=tt,n:=25}
def g161:Cfg:={tt:=tt,n:=13}
def g162:Cfg:={tt:=tt,n:=20}
def g163:Cfg:={tt:=tt,n:=26}
def g164:Cfg:={tt:=tt,n:=11}
def g165:Cfg:={tt:=tt,n:=19}
def g167:Cfg:={tt:=tt,n:=53}
def g168:Cfg:={tt:=tt,n:=9}
def g169:Cfg:={tt:=tt,n:=9}
def g170:Cfg:={tt:=tt,n:=5,live:=[213],keep:=[213],n0:=2}
def g172a:Cfg:={tt:=tt,n:=14,live:=[172],n0:=5}
def g173a:Cfg:={tt:=tt,n:=13,n0:=3}
def g173r:Cfg:={tt:=tt,n:=13,n0:=3,rnd:=true}
def g174:Cfg:={tt:=tt,n:=35}
def g189:Cfg:={tt:=tt,n:=18}
def g190:Cfg:={tt:=tt,n:=8}
def g191:Cfg:={tt:=tt,n:=18}
def g192:Cfg:={tt:=tt,n:=8}
def g193:Cfg:={tt:=tt,n:=18}
def g194:Cfg:={tt:=tt,n:=8}
def g195:Cfg:={tt:=tt,n:=8,own:=[5,2]}
def g196:Cfg:={tt:=tt,n:=79,sch:=[(8,[0,1,2,3,4,5,6,7,8]),(13,[0,1,2,3,4,5,6,7,8,9,10])],cuts:=[4]}
def g198:Cfg:={tt:=tt,n:=29}
def g199:Cfg:={tt:=tt,n:=9}
def g200:Cfg:={tt:=tt,n:=10}
def g201:Cfg:={tt:=tt,n:=32}
def g202:Cfg:={tt:=tt,n:=15}
def g203:Cfg:={tt:=tt,n:=12}
def g206:Cfg:={tt:=tt,n:=12}
def g207:Cfg:={tt:=tt,n:=9}
def g208:Cfg:={tt:=tt,n:=15}
def g209:Cfg:={tt:=tt,n:=9}
def g210:Cfg:={tt:=tt,n:=2}
def g213a:Cfg:={tt:=tt,n:=13,n0:=3}
def g213r:Cfg:={tt:=tt,n:=13,n0:=3,rnd:=true}
def g215:Cfg:={tt:=tt,n:=23,sch:=[(2,[0,1,2,3,4,5,6,7])]}
def g220:Cfg:={tt:=tt,n:=8,own:=[5,2]}
def g222:Cfg:={tt:=tt,n:=19}
def g225:Cfg:={tt:=tt,n:=39}
def g226:Cfg:={tt:=tt,n:=17}
def g244:Cfg:={tt:=tt,n:=37,sch:=[(7,[0,1,2,3,4,5,6,7,8,9,10,11,12,13,14,15,16,17])]}
def g245:Cfg:={tt:=tt,n:=24}
def g246:Cfg:={tt:=tt,n:=48}
def g247:Cfg:={tt:=tt,n:=9}
end Go.VC.T07
end

section
namespace Go.VC
abbrev tyPV (c0:Int) (c1 c2:S) (c3 c4:D):PV:=.agg [.int .i64 c0,.str c1,.str c2,.lst 28 c3,.lst 65 c4]
theorem same_len {α:Type} {l m:List α} (h:l.length≠m.length):same l m=false:=same_ne fun e=>h (by rw [e])
theorem same_get {α:Type} {l m:List α} {i:Nat} (h1:i<l.length) (h2:i<m.length) (h:l[i]≠m[i]):same l m=false:=same_ne fun e=>by subst e;exact h rfl
end Go.VC
namespace Go.VC.T07
open Go Go.VC Go.Proofs
end Go.VC.T07
end

section
namespace Go.VC
theorem take_full {α:Type} {l m:List α} (hl:l.length=m.length) (h:l.take l.length=m.take l.length):l=m:=by
 rw [List.take_length,hl,List.take_length] at h;exact h
theorem tyLe_ar {n:Nat} {t:Ty} (h:Ty.le n t):t.ar.length≤n:=by cases h;assumption
theorem tyLe_fl {n:Nat} {t:Ty} (h:Ty.le n t):t.fl.length≤n:=by cases h;assumption
theorem tyLe_a {n:Nat} {t:Ty} (h:Ty.le n t):∀ u∈t.ar,Ty.le n u:=by cases h;assumption
theorem tyLe_f {n:Nat} {t:Ty} (h:Ty.le n t):∀ f∈t.fl,Ty.le n f.t:=by cases h;assumption
end Go.VC
namespace Go.VC.T07
open Go Go.VC Go.Proofs
end Go.VC.T07
end

section
namespace Go.VC.T07
open Go Go.VC Go.Proofs
theorem F108 {α:Type} {f:α→List D} {l:List α} {d:D} {K:PV→List Ob→Prop} (hd:d=encL f l) (hl:l.length<4294967296)
  (h:∀ r,r=encL f l→K (.row 28 0) [.row 28 r true]):
  FC Tryz.prog tt 108 [] [.lst 28 d] K:=by
 refine FC.enterOwn (G:=g108) tt_ok mixed ⟨Tryz.func108,by rfl,rfl⟩ rfl rfl rfl ?_
 intro A C L X
 obtain ⟨n_d,hn_d,hlen_d⟩:=lenOf hd
 cbv
 intro b hb
 cbv
 repeat' (first|apply And.intro|exact fun (_:FF)=>by kernel_rfl|(intro h2;cbv)|apply Or.inl)
 ·refine h _ ?_
  obtain rfl:=X.a
  have hb:=hb h2
  rw [Std_same,hlen_d,hn_d] at hb
  have:l=[]:=List.eq_nil_of_length_eq_zero (by simp only [Int.ofNat_eq_natCast] at hb;omega)
  rw [this];rfl
 ·obtain rfl:=X.a;simp only [SD,bNot,hlen_d];omega
 ·refine h _ ?_
  obtain rfl:=X.a
  rw [hd]
  exact Std_app (l:=[])
theorem F220 {α:Type} {f:α→List D} {l:List α} {d:D} {K:PV→List Ob→Prop} (hd:d=encL f l) (hl:l.length<4294967296)
  (h:∀ r,r=encL f l→K (.row 65 0) [.row 65 r true]):
  FC Tryz.prog tt 220 [] [.lst 65 d] K:=by
 refine FC.enterOwn (G:=g220) tt_ok mixed ⟨Tryz.func220,by rfl,rfl⟩ rfl rfl rfl ?_
 intro A C L X
 obtain ⟨n_d,hn_d,hlen_d⟩:=lenOf hd
 cbv
 intro b hb
 cbv
 repeat' (first|apply And.intro|exact fun (_:FF)=>by kernel_rfl|(intro h2;cbv)|apply Or.inl)
 ·refine h _ ?_
  obtain rfl:=X.a
  have hb:=hb h2
  rw [Std_same,hlen_d,hn_d] at hb
  have:l=[]:=List.eq_nil_of_length_eq_zero (by simp only [Int.ofNat_eq_natCast] at hb;omega)
  rw [this];rfl
 ·obtain rfl:=X.a;simp only [SD,bNot,hlen_d];omega
 ·refine h _ ?_
  obtain rfl:=X.a
  rw [hd]
  exact Std_app (l:=[])
theorem F195 {α:Type} {f:α→List D} {l:List α} {d:D} {K:PV→List Ob→Prop} (hd:d=encL f l) (hl:l.length<4294967296)
  (h:∀ r,r=encL f l→K (.row 53 0) [.row 53 r true]):
  FC Tryz.prog tt 195 [] [.lst 53 d] K:=by
 refine FC.enterOwn (G:=g195) tt_ok mixed ⟨Tryz.func195,by rfl,rfl⟩ rfl rfl rfl ?_
 intro A C L X
 obtain ⟨n_d,hn_d,hlen_d⟩:=lenOf hd
 cbv
 intro b hb
 cbv
 repeat' (first|apply And.intro|exact fun (_:FF)=>by kernel_rfl|(intro h2;cbv)|apply Or.inl)
 ·refine h _ ?_
  obtain rfl:=X.a
  have hb:=hb h2
  rw [Std_same,hlen_d,hn_d] at hb
  have:l=[]:=List.eq_nil_of_length_eq_zero (by simp only [Int.ofNat_eq_natCast] at hb;omega)
  rw [this];rfl
 ·obtain rfl:=X.a;simp only [SD,bNot,hlen_d];omega
 ·refine h _ ?_
  obtain rfl:=X.a
  rw [hd]
  exact Std_app (l:=[])
theorem F113 {α:Type} {f:α→List D} {l:List α} {d:D} {K:PV→List Ob→Prop} (hd:d=encL f l) (hl:l.length<4294967296)
  (h:∀ r,r=encL f l→K (.row 51 0) [.row 51 r true]):
  FC Tryz.prog tt 113 [] [.lst 51 d] K:=by
 refine FC.enterOwn (G:=g113) tt_ok mixed ⟨Tryz.func113,by rfl,rfl⟩ rfl rfl rfl ?_
 intro A C L X
 obtain ⟨n_d,hn_d,hlen_d⟩:=lenOf hd
 cbv
 intro b hb
 cbv
 repeat' (first|apply And.intro|exact fun (_:FF)=>by kernel_rfl|(intro h2;cbv)|apply Or.inl)
 ·refine h _ ?_
  obtain rfl:=X.a
  have hb:=hb h2
  rw [Std_same,hlen_d,hn_d] at hb
  have:l=[]:=List.eq_nil_of_length_eq_zero (by simp only [Int.ofNat_eq_natCast] at hb;omega)
  rw [this];rfl
 ·obtain rfl:=X.a;simp only [SD,bNot,hlen_d];omega
 ·refine h _ ?_
  obtain rfl:=X.a
  rw [hd]
  exact Std_app (l:=[])
theorem F114 {α:Type} {f:α→List D} {l:List α} {d:D} {K:PV→List Ob→Prop} (hd:d=encL f l) (hl:l.length<4294967296)
  (h:∀ r,r=encL f l→K (.row 101 0) [.row 101 r true]):
  FC Tryz.prog tt 114 [] [.lst 101 d] K:=by
 refine FC.enterOwn (G:=g114) tt_ok mixed ⟨Tryz.func114,by rfl,rfl⟩ rfl rfl rfl ?_
 intro A C L X
 obtain ⟨n_d,hn_d,hlen_d⟩:=lenOf hd
 cbv
 intro b hb
 cbv
 repeat' (first|apply And.intro|exact fun (_:FF)=>by kernel_rfl|(intro h2;cbv)|apply Or.inl)
 ·refine h _ ?_
  obtain rfl:=X.a
  have hb:=hb h2
  rw [Std_same,hlen_d,hn_d] at hb
  have:l=[]:=List.eq_nil_of_length_eq_zero (by simp only [Int.ofNat_eq_natCast] at hb;omega)
  rw [this];rfl
 ·obtain rfl:=X.a;simp only [SD,bNot,hlen_d];omega
 ·refine h _ ?_
  obtain rfl:=X.a
  rw [hd]
  exact Std_app (l:=[])
theorem F116 {α:Type} {f:α→List D} {l:List α} {d:D} {K:PV→List Ob→Prop} (hd:d=encL f l) (hl:l.length<4294967296)
  (h:∀ r,r=encL f l→K (.row 106 0) [.row 106 r true]):
  FC Tryz.prog tt 116 [] [.lst 106 d] K:=by
 refine FC.enterOwn (G:=g116) tt_ok mixed ⟨Tryz.func116,by rfl,rfl⟩ rfl rfl rfl ?_
 intro A C L X
 obtain ⟨n_d,hn_d,hlen_d⟩:=lenOf hd
 cbv
 intro b hb
 cbv
 repeat' (first|apply And.intro|exact fun (_:FF)=>by kernel_rfl|(intro h2;cbv)|apply Or.inl)
 ·refine h _ ?_
  obtain rfl:=X.a
  have hb:=hb h2
  rw [Std_same,hlen_d,hn_d] at hb
  have:l=[]:=List.eq_nil_of_length_eq_zero (by simp only [Int.ofNat_eq_natCast] at hb;omega)
  rw [this];rfl
 ·obtain rfl:=X.a;simp only [SD,bNot,hlen_d];omega
 ·refine h _ ?_
  obtain rfl:=X.a
  rw [hd]
  exact Std_app (l:=[])
theorem F117 {α:Type} {f:α→List D} {l:List α} {d:D} {K:PV→List Ob→Prop} (hd:d=encL f l) (hl:l.length<4294967296)
  (h:∀ r,r=encL f l→K (.row 119 0) [.row 119 r true]):
  FC Tryz.prog tt 117 [] [.lst 119 d] K:=by
 refine FC.enterOwn (G:=g117) tt_ok mixed ⟨Tryz.func117,by rfl,rfl⟩ rfl rfl rfl ?_
 intro A C L X
 obtain ⟨n_d,hn_d,hlen_d⟩:=lenOf hd
 cbv
 intro b hb
 cbv
 repeat' (first|apply And.intro|exact fun (_:FF)=>by kernel_rfl|(intro h2;cbv)|apply Or.inl)
 ·refine h _ ?_
  obtain rfl:=X.a
  have hb:=hb h2
  rw [Std_same,hlen_d,hn_d] at hb
  have:l=[]:=List.eq_nil_of_length_eq_zero (by simp only [Int.ofNat_eq_natCast] at hb;omega)
  rw [this];rfl
 ·obtain rfl:=X.a;simp only [SD,bNot,hlen_d];omega
 ·refine h _ ?_
  obtain rfl:=X.a
  rw [hd]
  exact Std_app (l:=[])
end Go.VC.T07
end

section
namespace Go.VC
def idxS (l:List S) (s:S):Int:=idxF (fun x=>x==s) l
mutual
def Ty.sub (ns:List S) (ts:List Ty):Ty→Ty
 | .mk k m n ar fl=>if k=9∧0≤idxS ns n∧idxS ns n<ts.length then ts.getD (idxS ns n).toNat (.mk k m n ar fl) else .mk k m n (Ty.subs ns ts ar) (Ty.subf ns ts fl)
def Fe.sub (ns:List S) (ts:List Ty):Fe→Fe| .mk s t b=>.mk s (Ty.sub ns ts t) b
def Ty.subs (ns:List S) (ts:List Ty):List Ty→List Ty|[]=>[]|t::l=>Ty.sub ns ts t::Ty.subs ns ts l
def Ty.subf (ns:List S) (ts:List Ty):List Fe→List Fe|[]=>[]|t::l=>Fe.sub ns ts t::Ty.subf ns ts l
end
theorem subs_eq {ns:List S} {ts:List Ty}:∀ l:List Ty,Ty.subs ns ts l=l.map (Ty.sub ns ts)
 |[]=>by simp [Ty.subs]
 |t::l=>by simp [Ty.subs,subs_eq l]
theorem subf_eq {ns:List S} {ts:List Ty}:∀ l:List Fe,Ty.subf ns ts l=l.map (Fe.sub ns ts)
 |[]=>by simp [Ty.subf]
 |t::l=>by simp [Ty.subf,subf_eq l]
theorem sub_var {ns:List S} {ts:List Ty} {t:Ty} (hk:t.k=9) {i:Nat} (hi:idxS ns t.n=(i:Int)) (h:i<ts.length):t.sub ns ts=ts[i]:=by
 cases t with
 |mk k m n ar fl=>
  simp only [Ty.k,Ty.n] at hk hi
  rw [Ty.sub,if_pos ⟨hk,by omega,by omega⟩,hi]
  simp [h]
theorem sub_node {ns:List S} {ts:List Ty} {t:Ty} (h:¬(t.k=9∧0≤idxS ns t.n∧idxS ns t.n<ts.length)):t.sub ns ts= .mk t.k t.m t.n (t.ar.map (Ty.sub ns ts)) (t.fl.map (Fe.sub ns ts)):=by
 cases t with
 |mk k m n ar fl=>rw [Ty.sub,if_neg (by exact h),subs_eq,subf_eq];rfl
theorem Fe.sub_eq {ns:List S} {ts:List Ty} {f:Fe}:Fe.sub ns ts f= .mk f.s (f.t.sub ns ts) f.b:=by cases f;rw [Fe.sub];rfl
theorem sub_nil:∀ t:Ty,t.sub [] []=t:=by
 refine Ty.parts fun t h1 h2=> ?_
 rw [sub_node (by simp)]
 refine Ty.ext rfl rfl rfl ?_ ?_
 ·show t.ar.map _=t.ar
  rw [List.map_congr_left h1,List.map_id']
 ·show t.fl.map _=t.fl
  rw [List.map_congr_left (g:=fun f=>f) fun f hf=> ?_,List.map_id']
  rw [Fe.sub_eq,h2 f hf];cases f;rfl
end Go.VC
namespace Go.VC.T07
open Go Go.VC Go.Proofs
theorem F47 {l:List S} {d:D} {s c:S} {K:PV→List Ob→Prop} (hd:d=encL encS l) (hl:l.length<4294967296) (hs:c=s)
  (h:∀ r:Int,r=idxS l s→K (.int .i64 r) []):
  FC Tryz.prog tt 47 [] [.lst 9 d,.str c] K:=by
 refine FC.enter (G:=g47) tt_ok mixed ⟨Tryz.func47,by rfl,rfl⟩ rfl rfl rfl ?_
 intro A C L X
 obtain ⟨n_d,hn_d,hlen_d⟩:=lenOf hd
 cbv
 refine X.loop (fun (i:Nat)=>⟨[(8,.int .i64 i),(7,.int .i64 (A.len d)),(1,.str c),(0,.lst 9 d)],[]⟩) (fun i=>i≤n_d∧∀ x∈l.take i,(x==s)=false) (fun i=>n_d-i) 0 ⟨Nat.zero_le _,by simp⟩ ?_ ?_
 ·(cbv;repeat' apply And.intro);all_goals try first|trivial|rfl|(rw [X.a];rfl)
 rintro i ⟨hi,ha⟩
 cbv
 refine ⟨fun h1=> ?_,fun h1=> ?_⟩
 ·have h5:i<l.length:=by obtain rfl:=X.a;simp only [hlen_d,SD,bNot] at h1;omega
  have k1:=strAt X.a hd h5
  have hid:A.idx (Int.ofNat i) (A.len d):=by rw [X.a,hd];exact leaf_idx h5
  have hin:A.inr .i64 (A.add (Int.ofNat i) 1):=by rw [X.a];exact leaf_inc h5 (by omega)
  cbv
  repeat' (first|apply And.intro|exact fun (_:FF)=>by kernel_rfl|(intro h2;cbv)|apply Or.inl)
  any_goals exact hid
  any_goals exact hin
  ·refine h i ?_
   have:l[i]=s:=by rw [← hs,←k1];obtain rfl:=X.a;simp only [SD,bNot] at h2;exact h2.symm
   exact (idxF_some h5 ha (by simp [this])).symm
  ·have:¬l[i]=s:=by rw [← hs,←k1];obtain rfl:=X.a;simp only [SD,bNot] at h2;exact fun e=>h2 e.symm
   refine ⟨i+1,⟨by omega,?_⟩,by omega,?_⟩
   ·rw [take_succ' h5];intro x hx
    rcases List.mem_append.1 hx with hx|hx
    ·exact ha x hx
    ·simp at hx;subst hx;simpa using this
   (cbv;repeat' apply And.intro);all_goals try first|trivial|rfl|(rw [X.a];rfl)
 ·have h5:i=n_d:=by obtain rfl:=X.a;simp only [hlen_d,SD,bNot] at h1;omega
  subst h5
  cbv
  refine h (-1) ?_
  rw [hn_d,List.take_length] at ha
  exact (idxF_none ha).symm
end Go.VC.T07
end

section
namespace Go.VC
open Go
def thin:Nat→PV→PV
 |0,p=>p
 |n+1,p=>match p with
  | .lsf e d=>.lst e d
  | .agg cs=>.agg (mapL (thin n) cs)
  | .bl b=>.bool b
  |p=>p
def thinL (l:List PV):List PV:=mapL (thin 3) l
theorem VRL.mapL {tt E Pp} {f:PV→PV} (hf:∀ v p,VR tt E Pp v p→VR tt E Pp v (f p)):∀ {vs ps},VRL tt E Pp vs ps→VRL tt E Pp vs (mapL f ps)
 |_,_,.nil=>.nil
 |_,_,.cons v p vs ps h t=>.cons _ _ _ _ (hf _ _ h) (VRL.mapL hf t)
theorem VR.thin {tt E Pp}:∀ (n:Nat) {v p},VR tt E Pp v p→VR tt E Pp v (thin n p)
 |0,_,_,h=>h
 |n+1,v,p,h=>by
  match p,h with
  | .lsf e d,h=>cases h with|lsf e a n d h=>exact .lst _ _ _ h
  | .agg cs,h=>cases h with|agg vs cs h=>exact .agg _ _ (VRL.mapL (fun _ _=>VR.thin n) h)
  | .bl b,h=>cases h;exact .bool b
  | .undef,h| .int _ _,h| .bool _,h| .str _,h| .lst _ _,h| .tup _,h| .box _ _,h| .row _ _,h| .rptr _ _ _ _,h| .eptr _ _ _ _,h| .pptr _ _,h| .dptr _ _,h| .dpp _ _ _,h| .clos _ _,h| .nilp,h| .nilm,h| .nilf,h| .nils,h| .mp _,h| .dmp _ _,h| .it _,h| .yld _,h=>exact h
theorem FC.thin {P:Program} {tt:TypeId→Option TI} {f:FuncId} {objs:List Ob} {args args':List PV} {K:PV→List Ob→Prop} (ha:thinL args=args') (h:FC P tt f objs args' K):FC P tt f objs args K:=by
 subst ha
 exact fun E Pp w vals hw hv=>h E Pp w vals hw (VRL.mapL (fun _ _=>VR.thin 3) hv)
end Go.VC
end

section
namespace Go.VC
theorem mixAt {α:Type} (f:α→α) {l:List α} {j:Nat} (h:j<l.length) (h':j<((l.take j).map f++l.drop j).length):((l.take j).map f++l.drop j)[j]=l[j]:=by
 rw [List.getElem_append_right (by simp;omega)]
 simp [Nat.min_eq_left (Nat.le_of_lt h)]
theorem mixSet {α:Type} (f:α→α) {l:List α} {j:Nat} (h:j<l.length):((l.take j).map f++l.drop j).set j (f l[j])=(l.take (j+1)).map f++l.drop (j+1):=by
 rw [take_succ' h,List.set_append,if_neg (by simp;omega),List.drop_eq_getElem_cons h]
 have:j-((l.take j).map f).length=0:=by simp;omega
 rw [this];simp only [List.set_cons_zero,List.map_append,List.map_cons,List.map_nil,List.append_assoc,List.cons_append,List.nil_append]
end Go.VC
namespace Go.VC.T07
open Go Go.VC Go.Proofs
theorem F196g {ns:List S} {ts:List Ty} {dn dt:D} (hn:dn=encL encS ns) (hts:dt=encL encTy ts) (hl1:ns.length<4294967296) (hl2:ts.length<4294967296)
  (hc:∀ j (h:j<ts.length) c0 c1 c2 c3 c4 (K:PV→List Ob→Prop),tyIs ts[j] c0 c1 c2 c3 c4→(∀ e0 e1 e2 e3 e4,tyIs ts[j] e0 e1 e2 e3 e4→K (tyPV e0 e1 e2 e3 e4) [])→FC Tryz.prog tt 196 [] [tyPV c0 c1 c2 c3 c4,.lst 9 (.list []),.lst 28 (.list [])] K):
  ∀ (t:Ty),Ty.le 4294967295 t→∀ {c0:Int} {c1 c2:S} {c3 c4:D} {K:PV→List Ob→Prop},tyIs t c0 c1 c2 c3 c4→(∀ e0 e1 e2 e3 e4,tyIs (t.sub ns ts) e0 e1 e2 e3 e4→K (tyPV e0 e1 e2 e3 e4) [])→FC Tryz.prog tt 196 [] [tyPV c0 c1 c2 c3 c4,.lst 9 dn,.lst 28 dt] K:=by
 refine Ty.parts fun t iha ihf=> ?_
 intro hle c0 c1 c2 c3 c4 K ht h
 obtain ⟨t0,t1,t2,hc3,hc4⟩:=ht
 have hla:=tyLe_ar hle
 have hlf:=tyLe_fl hle
 refine FC.enter (G:=g196) tt_ok mixed ⟨Tryz.func196,by rfl,rfl⟩ rfl rfl rfl ?_
 intro A C L X
 obtain ⟨n_dn,hn_dn,hlen_dn⟩:=lenOf hn
 obtain ⟨n_dt,hn_dt,hlen_dt⟩:=lenOf hts
 obtain ⟨n_c3,hn_c3,hlen_c3⟩:=lenOf hc3
 obtain ⟨n_c4,hn_c4,hlen_c4⟩:=lenOf hc4
 cbv
 refine X.call (F47 hn hl1 t2 fun i hi=> ?_)
 cbv
 repeat' (first|apply And.intro|exact fun (_:FF)=>by kernel_rfl|(intro h2;cbv)|apply Or.inl)
 rotate_left 2
 iterate 3
  ·have hno:¬(t.k=9∧0≤idxS ns t.n∧idxS ns t.n<ts.length):=by
    rw [← t0,←hi]
    obtain rfl:=X.a
    simp only [hlen_dt,SD,bNot] at*
    omega
   refine X.cut (fun (z:D×D)=>⟨[(2,.lst 28 dt),(1,.lst 9 dn),(3,.box 0 0),(6,.box 1 0)],[.box [.int .i64 c0,.str c1,.str c2,.row 28 2,.row 65 3],.box [.undef,.undef,.undef,.undef,.undef],.row 28 z.1 true,.row 65 z.2 true]⟩) (fun z=>z.1=encL encTy t.ar∧z.2=encL encFd t.fl) ?_ ?_
   ·cbv
    repeat' (first|apply And.intro|exact fun (_:FF)=>by kernel_rfl|(intro h2;cbv)|apply Or.inl|(refine X.call (F108 hc3 (by omega) fun r1 hr1=> ?_);cbv)|(refine X.call (F220 hc4 (by omega) fun r2 hr2=> ?_);cbv))
    all_goals (refine ⟨(r1,r2),⟨hr1,hr2⟩,[0,1,2,3],rfl,?_⟩;(cbv;repeat' apply And.intro);all_goals try first|trivial|rfl|(rw [X.a];rfl))
   ·rintro ⟨z1,z2⟩ ⟨hz1,hz2⟩
    simp only at hz1 hz2
    obtain ⟨n_z1,hn_z1,hlen_z1⟩:=lenOf hz1
    obtain ⟨n_z2,hn_z2,hlen_z2⟩:=lenOf hz2
    cbv
    refine X.loopP (fun (x:Nat×D)=>⟨[(45,.int .i64 x.1),(44,.int .i64 (A.len z1)),(43,.row 28 2),(2,.lst 28 dt),(1,.lst 9 dn),(3,.box 0 0),(6,.box 1 0)],[.box [.int .i64 c0,.str c1,.str c2,.row 28 2,.row 65 3],.box [.undef,.undef,.undef,.undef,.undef],.row 28 x.2 true,.row 65 z2 true]⟩)
     (fun x=>x.1≤n_z1∧x.2=encL encTy ((t.ar.take x.1).map (Ty.sub ns ts)++t.ar.drop x.1)) (fun x=>n_z1-x.1) (0,z1) ⟨Nat.zero_le _,by simpa using hz1⟩ ?_ ?_
    ·refine ⟨[0,1,2,3],rfl,?_⟩
     (cbv;repeat' apply And.intro);all_goals try first|trivial|rfl|(rw [X.a];rfl)
    rintro ⟨j,r⟩ ⟨hj,hr⟩
    simp only at hj hr
    cbv
    refine ⟨fun h1=> ?_,fun h1=> ?_⟩
    ·have h5:j<t.ar.length:=by obtain rfl:=X.a;simp only [hlen_z1,SD,bNot] at h1;omega
     have h6:j<((t.ar.take j).map (Ty.sub ns ts)++t.ar.drop j).length:=by simp;omega
     have hq:=mixAt (Ty.sub ns ts) h5 h6
     have k1:=tyAt X.a hr h6
     rw [hq] at k1
     have hid:A.idx (Int.ofNat j) (A.len r):=by rw [X.a,hr];exact leaf_idx h6
     have hin:A.inr .i64 (A.add (Int.ofNat j) 1):=by rw [X.a];exact leaf_inc h5 (by omega)
     cbv
     repeat' (first|apply And.intro|exact fun (_:FF)=>by kernel_rfl|(intro h2;cbv)|apply Or.inl)
     any_goals exact hid
     refine X.call (iha _ (List.getElem_mem h5) (tyLe_a hle _ (List.getElem_mem h5)) k1 fun e0 e1 e2 e3 e4 he=> ?_)
     obtain ⟨he0,he1,he2,he3,he4⟩:=he
     have q1:A.setc r (Int.ofNat j) 0 [.int e0,.str e1,.str e2,e3,e4]=encL encTy ((t.ar.take (j+1)).map (Ty.sub ns ts)++t.ar.drop (j+1)):=by
      rw [X.a,hr]
      refine (Std_setc (a:=Int.ofNat j) (f:=encTy) (y:=t.ar[j].sub ns ts) (i:=j) rfl h6 ?_).trans ?_
      ·rw [encTy_eq,encTy_eq,he0,he1,he2,he3,he4];rfl
      ·rw [mixSet _ h5]
     cbv
     repeat' (first|apply And.intro|exact fun (_:FF)=>by kernel_rfl|(intro h2;cbv)|apply Or.inl)
     any_goals exact hid
     any_goals exact hin
     refine ⟨(j+1,A.setc r (Int.ofNat j) 0 [.int e0,.str e1,.str e2,e3,e4]),⟨by simp only;omega,q1⟩,by simp only;omega,[0,1,2,3],rfl,?_⟩
     (cbv;repeat' apply And.intro);all_goals try first|trivial|rfl|(rw [X.a];rfl)
    have h5:j=n_z1:=by obtain rfl:=X.a;simp only [hlen_z1,SD,bNot] at h1;omega
    subst h5
    rw [hn_z1,List.take_length,List.drop_length,List.append_nil] at hr
    cbv
    refine X.loopP (fun (x:Nat×D)=>⟨[(62,.int .i64 x.1),(61,.int .i64 (A.len z2)),(60,.row 65 3),(2,.lst 28 dt),(1,.lst 9 dn),(3,.box 0 0),(6,.box 1 0)],[.box [.int .i64 c0,.str c1,.str c2,.row 28 2,.row 65 3],.box [.undef,.undef,.undef,.undef,.undef],.row 28 r true,.row 65 x.2 true]⟩)
     (fun x=>x.1≤n_z2∧x.2=encL encFd ((t.fl.take x.1).map (Fe.sub ns ts)++t.fl.drop x.1)) (fun x=>n_z2-x.1) (0,z2) ⟨Nat.zero_le _,by simpa using hz2⟩ ?_ ?_
    ·refine ⟨[0,1,2,3],rfl,?_⟩
     (cbv;repeat' apply And.intro);all_goals try first|trivial|rfl|(rw [X.a];rfl)
    rintro ⟨j,r2⟩ ⟨hj,hr2⟩
    simp only at hj hr2
    cbv
    refine ⟨fun h1=> ?_,fun h1=> ?_⟩
    ·have h5:j<t.fl.length:=by obtain rfl:=X.a;simp only [hlen_z2,SD,bNot] at h1;omega
     have h6:j<((t.fl.take j).map (Fe.sub ns ts)++t.fl.drop j).length:=by simp;omega
     have hq:=mixAt (Fe.sub ns ts) h5 h6
     have k1:=fdTyAt X.a hr2 h6
     rw [hq] at k1
     have hid:A.idx (Int.ofNat j) (A.len r2):=by rw [X.a,hr2];exact leaf_idx h6
     have hin:A.inr .i64 (A.add (Int.ofNat j) 1):=by rw [X.a];exact leaf_inc h5 (by omega)
     cbv
     repeat' (first|apply And.intro|exact fun (_:FF)=>by kernel_rfl|(intro h2;cbv)|apply Or.inl)
     any_goals exact hid
     refine X.call (ihf _ (List.getElem_mem h5) (tyLe_f hle _ (List.getElem_mem h5)) k1 fun e0 e1 e2 e3 e4 he=> ?_)
     obtain ⟨he0,he1,he2,he3,he4⟩:=he
     have q1:A.setc r2 (Int.ofNat j) 1 [.int e0,.str e1,.str e2,e3,e4]=encL encFd ((t.fl.take (j+1)).map (Fe.sub ns ts)++t.fl.drop (j+1)):=by
      rw [X.a,hr2]
      refine (Std_setc (a:=Int.ofNat j) (f:=encFd) (y:=Fe.sub ns ts t.fl[j]) (i:=j) rfl h6 ?_).trans ?_
      ·rw [encFd_eq,encFd_eq,hq,Fe.sub_eq,he0,he1,he2,he3,he4];rfl
      ·rw [mixSet _ h5]
     cbv
     repeat' (first|apply And.intro|exact fun (_:FF)=>by kernel_rfl|(intro h2;cbv)|apply Or.inl)
     any_goals exact hid
     any_goals exact hin
     refine ⟨(j+1,A.setc r2 (Int.ofNat j) 1 [.int e0,.str e1,.str e2,e3,e4]),⟨by simp only;omega,q1⟩,by simp only;omega,[0,1,2,3],rfl,?_⟩
     (cbv;repeat' apply And.intro);all_goals try first|trivial|rfl|(rw [X.a];rfl)
    have h5:j=n_z2:=by obtain rfl:=X.a;simp only [hlen_z2,SD,bNot] at h1;omega
    subst h5
    rw [hn_z2,List.take_length,List.drop_length,List.append_nil] at hr2
    cbv
    refine h _ _ _ _ _ ?_
    rw [sub_node hno]
    exact ⟨t0,t1,t2,hr,hr2⟩
 ·obtain ⟨j,hj⟩:∃ j:Nat,i=(j:Int):=⟨i.toNat,by obtain rfl:=X.a;simp only [hlen_dt,SD,bNot] at *;omega⟩
  subst hj
  have hlt:j<ts.length:=by obtain rfl:=X.a;simp only [hlen_dt,SD,bNot] at *;omega
  rw [X.a,hts];exact leaf_idx hlt
 ·obtain ⟨j,hj⟩:∃ j:Nat,i=Int.ofNat j:=⟨i.toNat,by obtain rfl:=X.a;simp only [hlen_dt,SD,bNot] at *;omega⟩
  subst hj
  have hlt:j<ts.length:=by obtain rfl:=X.a;simp only [hlen_dt,SD,bNot] at *;omega
  have hk:t.k=9:=by rw [← t0];obtain rfl:=X.a;simp only [hlen_dt,SD,bNot] at *;omega
  refine X.call (hc j hlt _ _ _ _ _ _ (tyAt X.a hts hlt) fun e0 e1 e2 e3 e4 he=> ?_)
  cbv
  refine h _ _ _ _ _ ?_
  rw [sub_var hk hi.symm hlt]
  exact he
theorem F196c (t:Ty) (hle:Ty.le 4294967295 t) {c0:Int} {c1 c2:S} {c3 c4:D} {K:PV→List Ob→Prop} (ht:tyIs t c0 c1 c2 c3 c4) (h:∀ e0 e1 e2 e3 e4,tyIs t e0 e1 e2 e3 e4→K (tyPV e0 e1 e2 e3 e4) []):FC Tryz.prog tt 196 [] [tyPV c0 c1 c2 c3 c4,.lst 9 (.list []),.lst 28 (.list [])] K:=by
 refine F196g (ns:=[]) (ts:=[]) rfl rfl (by simp) (by simp) (fun j h=>absurd h (by simp)) t hle ht ?_
 rw [sub_nil]
 exact h
theorem F145 (t:Ty) (hle:Ty.le 4294967295 t) {c0:Int} {c1 c2:S} {c3 c4:D} {K:PV→List Ob→Prop} (ht:tyIs t c0 c1 c2 c3 c4) (h:∀ e0 e1 e2 e3 e4,tyIs t e0 e1 e2 e3 e4→K (tyPV e0 e1 e2 e3 e4) []):FC Tryz.prog tt 145 [] [tyPV c0 c1 c2 c3 c4] K:=by
 refine FC.enter (G:=g145) tt_ok mixed ⟨Tryz.func145,by rfl,rfl⟩ rfl rfl rfl ?_
 intro A C L X
 cbv
 refine X.call (F196c t hle ht fun e0 e1 e2 e3 e4 he=> ?_)
 cbv
 exact h _ _ _ _ _ he
end Go.VC.T07
end

section
namespace Go.VC
def Pm.ok (p:Pm):Prop:=Ty.le 4294967295 p.bound
structure TE.ok (x:TE):Prop where
 np:x.params.length≤4294967295
 p:∀ p∈x.params,p.ok
 lo:Ty.le 4294967295 x.lower
 up:Ty.le 4294967295 x.upper
structure VE.ok (x:VE):Prop where
 np:x.params.length≤4294967295
 p:∀ p∈x.params,p.ok
 ty:Ty.le 4294967295 x.ty
structure IF.ok (x:IF):Prop where
 nt:x.types.length≤4294967295
 nv:x.values.length≤4294967295
 na:x.aliases.length≤4294967295
 nd:x.deprecated.length≤4294967295
 t:∀ y∈x.types,y.ok
 v:∀ y∈x.values,y.ok
abbrev pmPV (c0:S) (c1 c2:Int) (c3 c4:S) (c5 c6:D):PV:=.agg [.str c0,.int .i64 c1,.int .i64 c2,.str c3,.str c4,.lst 28 c5,.lst 65 c6]
abbrev tePV (c0:S) (c1:D) (c2:Int) (c3 c4:S) (c5 c6:D) (c7:Int) (c8 c9:S) (c10 c11:D):PV:=.agg [.str c0,.lst 53 c1,.int .i64 c2,.str c3,.str c4,.lst 28 c5,.lst 65 c6,.int .i64 c7,.str c8,.str c9,.lst 28 c10,.lst 65 c11]
abbrev vePV (c0:S) (c1:D) (c2:Int) (c3 c4:S) (c5 c6:D):PV:=.agg [.str c0,.lst 53 c1,.int .i64 c2,.str c3,.str c4,.lst 28 c5,.lst 65 c6]
abbrev aePV (c0 c1 c2:S):PV:=.agg [.str c0,.str c1,.str c2]
abbrev ifPV (c0:S) (c1 c2 c3 c4:D):PV:=.agg [.str c0,.lst 51 c1,.lst 101 c2,.lst 106 c3,.lst 119 c4]
def pmIs (x:Pm) (c0:S) (c1 c2:Int) (c3 c4:S) (c5 c6:D):Prop:=c0=x.name∧c1=x.var∧tyIs x.bound c2 c3 c4 c5 c6
def teIs (x:TE) (c0:S) (c1:D) (c2:Int) (c3 c4:S) (c5 c6:D) (c7:Int) (c8 c9:S) (c10 c11:D):Prop:=c0=x.name∧c1=encL encPm x.params∧tyIs x.lower c2 c3 c4 c5 c6∧tyIs x.upper c7 c8 c9 c10 c11
def veIs (x:VE) (c0:S) (c1:D) (c2:Int) (c3 c4:S) (c5 c6:D):Prop:=c0=x.name∧c1=encL encPm x.params∧tyIs x.ty c2 c3 c4 c5 c6
def aeIs (x:AE) (c0 c1 c2:S):Prop:=c0=x.name∧c1=x.module∧c2=x.target
def deIs (x:DE) (c0 c1:S):Prop:=c0=x.name∧c1=x.note
def ifIs (x:IF) (c0:S) (c1 c2 c3 c4:D):Prop:=c0=x.path∧c1=encL encTE x.types∧c2=encL encVE x.values∧c3=encL encAE x.aliases∧c4=encL encDE x.deprecated
section
variable {A:Alg} {d:D} {i:Nat}
theorem pmIsAt {l:List Pm} (ha:A=Std) (hd:d=encL encPm l) (h:i<l.length):pmIs l[i] (A.asStr (A.cell d (Int.ofNat i) 0)) (A.asInt (A.cell d (Int.ofNat i) 1)) (A.asInt (A.cell d (Int.ofNat i) 2)) (A.asStr (A.cell d (Int.ofNat i) 3)) (A.asStr (A.cell d (Int.ofNat i) 4)) (A.cell d (Int.ofNat i) 5) (A.cell d (Int.ofNat i) 6):=
 ⟨(pmAt ha hd h).1,(pmAt ha hd h).2,pmTyAt ha hd h⟩
theorem teIsAt {l:List TE} (ha:A=Std) (hd:d=encL encTE l) (h:i<l.length):teIs l[i] (A.asStr (A.cell d (Int.ofNat i) 0)) (A.cell d (Int.ofNat i) 1) (A.asInt (A.cell d (Int.ofNat i) 2)) (A.asStr (A.cell d (Int.ofNat i) 3)) (A.asStr (A.cell d (Int.ofNat i) 4)) (A.cell d (Int.ofNat i) 5) (A.cell d (Int.ofNat i) 6) (A.asInt (A.cell d (Int.ofNat i) 7)) (A.asStr (A.cell d (Int.ofNat i) 8)) (A.asStr (A.cell d (Int.ofNat i) 9)) (A.cell d (Int.ofNat i) 10) (A.cell d (Int.ofNat i) 11):=
 ⟨(teAt ha hd h).1,(teAt ha hd h).2,teLoAt ha hd h,teUpAt ha hd h⟩
theorem veIsAt {l:List VE} (ha:A=Std) (hd:d=encL encVE l) (h:i<l.length):veIs l[i] (A.asStr (A.cell d (Int.ofNat i) 0)) (A.cell d (Int.ofNat i) 1) (A.asInt (A.cell d (Int.ofNat i) 2)) (A.asStr (A.cell d (Int.ofNat i) 3)) (A.asStr (A.cell d (Int.ofNat i) 4)) (A.cell d (Int.ofNat i) 5) (A.cell d (Int.ofNat i) 6):=
 ⟨(veAt ha hd h).1,(veAt ha hd h).2,veTyAt ha hd h⟩
theorem aeIsAt {l:List AE} (ha:A=Std) (hd:d=encL encAE l) (h:i<l.length):aeIs l[i] (A.asStr (A.cell d (Int.ofNat i) 0)) (A.asStr (A.cell d (Int.ofNat i) 1)) (A.asStr (A.cell d (Int.ofNat i) 2)):=aeAt ha hd h
theorem deIsAt {l:List DE} (ha:A=Std) (hd:d=encL encDE l) (h:i<l.length):deIs l[i] (A.asStr (A.cell d (Int.ofNat i) 0)) (A.asStr (A.cell d (Int.ofNat i) 1)):=deAt ha hd h
theorem ifIsAt {l:List IF} (ha:A=Std) (hd:d=encL encIF l) (h:i<l.length):ifIs l[i] (A.asStr (A.cell d (Int.ofNat i) 0)) (A.cell d (Int.ofNat i) 1) (A.cell d (Int.ofNat i) 2) (A.cell d (Int.ofNat i) 3) (A.cell d (Int.ofNat i) 4):=ifAt ha hd h
end
theorem setc_self {A:Alg} {α:Type} {f:α→List D} {l:List α} {d:D} {i off:Nat} {vs:List D} (ha:A=Std) (hd:d=encL f l) (h:i<l.length) (hy:(f l[i]).take off++vs++(f l[i]).drop (off+vs.length)=f l[i]):A.setc d (Int.ofNat i) off vs=d:=by
 subst ha hd
 refine (Std_setc (a:=Int.ofNat i) (f:=f) (y:=l[i]) (i:=i) rfl h hy).trans ?_
 rw [List.set_getElem_self]
end Go.VC
end

section
namespace Go.VC
open Go
section
variable {P:Program} {tt:TypeId→Option TI} {f:FuncId} {args:List PV} {K:PV→List Ob→Prop}
theorem FC.plain (hE:∀ args w,(callFunc f args).run P w= .ok (.enter f args) w)
  (h:∀ E Pp w vals,WR tt E Pp [] w→VRL tt E Pp vals args→Calls P f ⟨vals⟩ w fun e w'=>w'=w∧∃ v pv,e= .returned v∧VR tt E Pp v pv∧K pv []):FC P tt f [] args K:=by
 intro E Pp w vals hw hv
 refine .inl ⟨hE _ _,(h E Pp w vals hw hv).mono ?_⟩
 rintro e w' ⟨rfl,v,pv,rfl,hvr,hk⟩
 exact ⟨v,E,Pp,[],pv,rfl,.refl _,fun _ _ h=>h,hw,hvr,hk,Fr.refl _ _,fun _ _ h=>.inl h,fun i o ri b ho=>by simp at ho⟩
theorem FC.newRow {e:TypeId} {rows:List (List D)} (hE:∀ args w,(callFunc f args).run P w= .ok (.enter f args) w)
  (h:∀ E Pp w vals,WR tt E Pp [] w→VRL tt E Pp vals args→Calls P f ⟨vals⟩ w fun e' w'=>∃ us T q cap,e'= .returned (.slice (some ⟨w.heap.size,0,none⟩) rows.length cap)∧w'=(w.drewN q).alloc (.cells ⟨us⟩ T)∧rows.length≤cap∧
   cap*(cksOf tt e).length≤us.length∧RowAt tt Pp e us 0 rows) (hK:K (.row e 0) [.row e (.list rows) true]):FC P tt f [] args K:=by
 intro E Pp w vals hw hv
 refine .inl ⟨hE _ _,(h E Pp w vals hw hv).mono ?_⟩
 rintro e' w' ⟨us,T,q,cap,rfl,rfl,hcap,hus,hrow⟩
 have hE0:E=[]:=List.eq_nil_of_length_eq_zero (by have:=hw.len;simpa using this)
 subst hE0
 have hhs:(w.drewN q).heap=w.heap:=rfl
 have hget:((w.drewN q).alloc (.cells ⟨us⟩ T)).heap[w.heap.size]? =some (.cells ⟨us⟩ T (0,0)):=by
  show (((w.drewN q).heap).push _)[w.heap.size]? =_
  rw [hhs];simp
 have hold:∀ k,k<w.heap.size→((w.drewN q).alloc (.cells ⟨us⟩ T)).heap[k]? =w.heap[k]? :=by
  intro k hk
  show (((w.drewN q).heap).push _)[k]? =_
  rw [hhs,Array.getElem?_push,if_neg (by omega)]
 have hnopi:∀ ad v,Pp ad v→ad.block≠w.heap.size:=nopi_new hw
 refine ⟨_,[.row w.heap.size 0 rows.length cap],Pp,[.row e (.list rows) true],.row e 0,rfl,fun i x hx=>by simp at hx,fun _ _ h=>h,?_,.row _ _ _ _ _ _ rfl,hK,?_,fun _ _ h=>.inl h,?_⟩
 ·refine ⟨rfl,?_,?_,?_,hw.gl⟩
  ·intro ad v hp
   have:=hw.pi ad v hp
   rw [pc_same (hold _ (pc_lt this))];exact this
  ·intro i o ho hl
   cases i with
   |succ i=>simp at ho
   |zero=>
    simp at ho;subst ho
    refine ⟨_,rfl,us,T,rows,hget,rfl,rfl,hcap,by rw [Nat.zero_add];exact hus,hrow,fun _=>hnopi,fun h=>by cases h⟩
  ·intro i j oi oj ri rj b hi hj _ _ _ _ _ _
   cases i<;>cases j<;>simp at hi hj ⊢
 ·refine ⟨rfl,rfl,rfl,?_,?_,fun k hk _=>hold k hk⟩
  ·show w.heap.size≤((w.drewN q).heap.push _).size
   rw [hhs];simp
  ·show w.drawn≤(w.drewN q).drawn
   simp [World.drewN]
 ·intro i o ri b ho hl hr hb
  cases i with
  |succ i=>simp at ho
  |zero=>simp at hr;subst hr;simp [RI.block?] at hb;subst hb;exact .inl (Nat.le_refl _)
end
def segs:S→List S
 |[]=>[[]]
 |c::l=>if c=47 then []::segs l else match segs l with|[]=>[[c]]|x::xs=>(c::x)::xs
theorem segs_miss:∀ {l:S},Lib.indexByte l 47= -1→segs l=[l]
 |[],_=>rfl
 |c::l,h=>by
  unfold Lib.indexByte at h
  by_cases hc:c=47
  ·subst hc;simp at h
  ·rw [if_neg (by simpa using hc)] at h
   have:Lib.indexByte l 47= -1:=by
    have:=Lib.indexByte_ge l 47
    split at h
    ·rename_i h2;simpa using h2
    ·omega
   simp [segs,hc,segs_miss this]
theorem segs_hit:∀ {l:S} {i:Nat},Lib.indexByte l 47=(i:Int)→segs l=l.take i::segs (l.drop (i+1))
 |[],i,h=>by simp [Lib.indexByte] at h
 |c::l,i,h=>by
  unfold Lib.indexByte at h
  by_cases hc:c=47
  ·subst hc
   have:i=0:=by simp at h;omega
   subst this
   simp [segs]
  ·rw [if_neg (by simpa using hc)] at h
   split at h
   ·omega
   ·rename_i h2
    cases i with
    |zero=>
     have:=Lib.indexByte_ge l 47
     have h2:Lib.indexByte l 47≠ -1:=by simpa using h2
     omega
    |succ i=>
     have:=segs_hit (l:=l) (i:=i) (by omega)
     simp [segs,hc,this]
theorem split_segs (sep:ByteArray) (hsep:sep.data.toList=[47]):∀ (k:Nat) (s:ByteArray),Lib.countB s sep≤k→(Lib.splitB sep 0 k s).map (·.data.toList)=segs s.data.toList:=by
 have hsz:sep.size=1:=by rw [Lib.size_eq,hsep];rfl
 have hidx:∀ s,Lib.indexB s sep=Lib.indexByte s.data.toList 47:=fun s=>by
  rw [Lib.one s sep hsz]
  have h0:=Lib.data_getElem? sep 0 (by omega)
  rw [hsep] at h0
  simp at h0
  rw [← h0]
  rfl
 intro k
 induction k with
 |zero=>
  intro s h
  rw [Lib.splitB_zero]
  rcases Lib.indexB_cases s sep with h1|⟨i,h1,_⟩
  ·rw [hidx] at h1;rw [segs_miss h1];rfl
  ·have:=Lib.countB_hit s sep i (by omega) h1
   omega
 |succ k ih=>
  intro s h
  rcases Lib.indexB_cases s sep with h1|⟨i,h1,h2⟩
  ·rw [Lib.splitB_miss _ _ _ _ h1]
   rw [hidx] at h1;rw [segs_miss h1];rfl
  ·have:=Lib.countB_hit s sep i (by omega) h1
   rw [Lib.splitB_hit _ _ _ _ _ h1,List.map_cons,ih _ (by omega),Nat.add_zero,Lib.extract_from_zero]
   rw [hidx] at h1
   rw [segs_hit h1,hsz]
   congr 2
   simp only [ByteArray.data_extract,Array.toList_extract,List.extract_eq_drop_take]
   rw [List.take_of_length_le]
   rw [List.length_drop,Lib.size_eq];exact Nat.le_refl _
end Go.VC
namespace Go.VC.T07
open Go Go.VC Go.Proofs
theorem glob0:globOf tt=some 0:=by kernel_rfl
theorem F159 {a b:S} {K:PV→List Ob→Prop} (h:∀ r:Int,r=Lib.compareBytes a b→K (.int .i64 r) []):FC Tryz.prog tt 159 [] [.str a,.str b] K:=by
 refine FC.plain (enters_of Tryz.func159 (by kernel_rfl) rfl) fun E Pp w vals hw hv=> ?_
 cases hv with|cons _ _ _ _ h1 hv=>cases hv with|cons _ _ _ _ h2 hv=>
 cases hv;cases h1;cases h2
 exact (Tryz.strings_Compare _ _ w).mono fun e w' ⟨h1,h2⟩=>⟨h2,_,_,h1,.int _ _,h _ rfl⟩
theorem F212 {a b:S} {K:PV→List Ob→Prop} (h:∀ (r:S) (b':Bool),r=Lib.trimPrefix a b→b'=Lib.hasPrefix a b→K (.tup [.str r,.bool b']) []):FC Tryz.prog tt 212 [] [.str a,.str b] K:=by
 refine FC.plain (enters_of Tryz.func212 (by kernel_rfl) rfl) fun E Pp w vals hw hv=> ?_
 cases hv with|cons _ _ _ _ h1 hv=>cases hv with|cons _ _ _ _ h2 hv=>
 cases hv;cases h1;cases h2
 exact (Tryz.strings_CutPrefix _ _ w).mono fun e w' ⟨h1,h2⟩=>⟨h2,_,_,h1,.tup _ _ (.cons _ _ _ _ (.str _) (.cons _ _ _ _ (.bool _) .nil)),h _ _ rfl rfl⟩
theorem F146 {i:Nat} (hi:i<100) {K:PV→List Ob→Prop} (h:∀ r:S,r=Lib.decDigits i→K (.str r) []):FC Tryz.prog tt 146 [] [.int .i64 (Int.ofNat i)] K:=by
 refine FC.plain (enters_of Tryz.func146 (by kernel_rfl) rfl) fun E Pp w vals hw hv=> ?_
 cases hv with|cons _ _ _ _ h1 hv=>
 cases hv;cases h1
 exact (Tryz.strconv_Itoa_small i hi w).mono fun e w' ⟨h1,h2⟩=>⟨h2,_,_,h1,.str _,h _ rfl⟩
theorem F204 {a b:S} (ha:a.length<4294967281) {K:PV→List Ob→Prop} (h:∀ r:Bool,r=Lib.contains a b→K (.bool r) []):FC Tryz.prog tt 204 [] [.str a,.str b] K:=by
 refine FC.plain (enters_of Tryz.func204 (by kernel_rfl) rfl) fun E Pp w vals hw hv=> ?_
 obtain ⟨m,hm⟩:=hw.gl 0 glob0
 cases hv with|cons _ _ _ _ h1 hv=>cases hv with|cons _ _ _ _ h2 hv=>
 cases hv;cases h1;cases h2
 exact (Tryz.strings_Contains _ _ m w (by rw [Lib.size_eq];exact ha) (hw.piN hm)).mono fun e w' ⟨h1,h2⟩=>⟨h2,_,_,h1,.bool _,h _ rfl⟩
theorem cks9':cksOf tt 9=[.str]:=by kernel_rfl
theorem rowAt_strs {Pp:Per} {bs:List ByteArray} {zs:List Value}:RowAt tt Pp 9 (bs.map Value.string++zs) 0 ((bs.map fun b=>b.data.toList).map encS):=by
 intro i row hi
 rw [List.getElem?_map,List.getElem?_map] at hi
 cases hx:bs[i]? with
 |none=>rw [hx] at hi;cases hi
 |some b=>
  rw [hx] at hi;cases hi
  rw [cks9']
  refine ⟨rfl,fun j d ck hj hck=> ?_⟩
  cases j with
  |succ j=>simp at hck
  |zero=>
   simp [encS] at hj hck;subst hj hck
   have hi:=(List.getElem?_eq_some_iff.1 hx).1
   refine ⟨.string b,?_,.str b⟩
   rw [List.getElem?_append_left (by simp;exact hi)]
   simp [hx]
theorem F166 {a:S} (ha:a.length<4294967281) {K:PV→List Ob→Prop} (h:∀ d,d=encL encS (segs a)→K (.row 9 0) [.row 9 d true]):FC Tryz.prog tt 166 [] [.str a,.str [47]] K:=by
 refine FC.newRow (e:=9) (rows:=(segs a).map encS) (enters_of Tryz.func166 (by kernel_rfl) rfl) (fun E Pp w vals hw hv=> ?_) (h _ rfl)
 obtain ⟨m,hm⟩:=hw.gl 0 glob0
 cases hv with|cons v1 _ _ _ h1 hv=>cases hv with|cons v2 _ _ _ h2 hv=>
 cases hv
 obtain ⟨s,rfl,hs⟩:∃ b,v1= .string b∧a=b.data.toList:=by cases h1;exact ⟨_,rfl,rfl⟩
 obtain ⟨sep,rfl,hsep⟩:∃ b,v2= .string b∧[47]=b.data.toList:=by
  generalize ([47]:S)=z at h2
  cases h2;exact ⟨_,rfl,rfl⟩
 subst hs
 have hsz:sep.size=1:=by rw [Lib.size_eq,←hsep];rfl
 refine (Tryz.strings_Split s sep m w (by rw [Lib.size_eq];exact ha) (hw.piN hm) (by omega)).mono ?_
 rintro e w' ⟨rfl,rfl⟩
 have e1:=split_segs sep hsep.symm (Lib.countB s sep) s (Nat.le_refl _)
 have e2:((Lib.splitB sep 0 (Lib.countB s sep) s)).length=Lib.countB s sep+1:=Lib.splitB_all sep (by omega) 0 _ s rfl
 have e3:(segs s.data.toList).length=Lib.countB s sep+1:=by rw [← e1,List.length_map,e2]
 refine ⟨(Lib.splitB sep 0 (Lib.countB s sep) s).map Value.string,9,0,Lib.countB s sep+1,?_,rfl,?_,?_,?_⟩
 ·rw [List.length_map,e3]
 ·rw [List.length_map,e3];exact Nat.le_refl _
 ·rw [cks9',List.length_map,e2];simp
 ·have:=rowAt_strs (Pp:=Pp) (bs:=Lib.splitB sep 0 (Lib.countB s sep) s) (zs:=[])
  rw [e1,List.append_nil] at this
  exact this
end Go.VC.T07
end

section
namespace Go.VC
def smallB (c:Int):Bool:=decide (97≤c)&&decide (c≤122)
def capB (c:Int):Bool:=decide (65≤c)&&decide (c≤90)
def digB (c:Int):Bool:=decide (48≤c)&&decide (c≤57)
def wordB (c:Int):Bool:=smallB c||capB c||digB c||c==95
def sdB (c:Int):Bool:=smallB c||digB c
def allB (p:Int→Bool) (s:S):Bool:=s.all fun c=>p (c.toNat:Int)
theorem allB_take {p:Int→Bool} {s:S} {i:Nat} (h:i<s.length) (ha:allB p (s.take i)=true) (hp:p (s[i].toNat:Int)=true):allB p (s.take (i+1))=true:=all_take h ha hp
theorem allB_false {p:Int→Bool} {s:S} {i:Nat} (h:i<s.length) (hp:p (s[i].toNat:Int)=false):allB p s=false:=all_false h hp
end Go.VC
namespace Go.VC.T07
open Go Go.VC Go.Proofs
theorem F155 {c:Int} {K:PV→List Ob→Prop} (h:∀ b,b=smallB c→K (.bool b) []):FC Tryz.prog tt 155 [] [.int .u8 c] K:=by
 refine FC.enter (G:=g155) tt_ok mixed ⟨Tryz.func155,by rfl,rfl⟩ rfl rfl rfl ?_
 intro A C L X
 cbv
 repeat' (first|apply And.intro|exact fun (_:FF)=>by kernel_rfl|(intro h2;cbv)|apply Or.inl)
 all_goals (refine h _ ?_;obtain rfl:=X.a;simp only [SD,bNot] at *;simp [smallB,h2])
theorem F152 {c:Int} {K:PV→List Ob→Prop} (h:∀ b,b=capB c→K (.bool b) []):FC Tryz.prog tt 152 [] [.int .u8 c] K:=by
 refine FC.enter (G:=g152) tt_ok mixed ⟨Tryz.func152,by rfl,rfl⟩ rfl rfl rfl ?_
 intro A C L X
 cbv
 repeat' (first|apply And.intro|exact fun (_:FF)=>by kernel_rfl|(intro h2;cbv)|apply Or.inl)
 all_goals (refine h _ ?_;obtain rfl:=X.a;simp only [SD,bNot] at *;simp [capB,h2])
theorem F169 {c:Int} {K:PV→List Ob→Prop} (h:∀ b,b=digB c→K (.bool b) []):FC Tryz.prog tt 169 [] [.int .u8 c] K:=by
 refine FC.enter (G:=g169) tt_ok mixed ⟨Tryz.func169,by rfl,rfl⟩ rfl rfl rfl ?_
 intro A C L X
 cbv
 repeat' (first|apply And.intro|exact fun (_:FF)=>by kernel_rfl|(intro h2;cbv)|apply Or.inl)
 all_goals (refine h _ ?_;obtain rfl:=X.a;simp only [SD,bNot] at *;simp [digB,h2])
theorem F154 {c:Int} {K:PV→List Ob→Prop} (h:∀ b,b=wordB c→K (.bool b) []):FC Tryz.prog tt 154 [] [.int .u8 c] K:=by
 refine FC.enter (G:=g154) tt_ok mixed ⟨Tryz.func154,by rfl,rfl⟩ rfl rfl rfl ?_
 intro A C L X
 cbv
 refine X.call (F155 fun b1 hb1=> ?_)
 cbv
 repeat' (first|apply And.intro|exact fun (_:FF)=>by kernel_rfl|(intro h2;cbv)|apply Or.inl|(refine X.call (F152 fun b2 hb2=> ?_);cbv)|(refine X.call (F169 fun b3 hb3=> ?_);cbv))
 all_goals (refine h _ ?_;obtain rfl:=X.a;simp only [SD,bNot,Std_eq] at *;simp_all [wordB])
theorem F168 {c:Int} {K:PV→List Ob→Prop} (h:∀ b,b=sdB c→K (.bool b) []):FC Tryz.prog tt 168 [] [.int .u8 c] K:=by
 refine FC.enter (G:=g168) tt_ok mixed ⟨Tryz.func168,by rfl,rfl⟩ rfl rfl rfl ?_
 intro A C L X
 cbv
 refine X.call (F155 fun b1 hb1=> ?_)
 cbv
 repeat' (first|apply And.intro|exact fun (_:FF)=>by kernel_rfl|(intro h2;cbv)|apply Or.inl|(refine X.call (F169 fun b3 hb3=> ?_);cbv))
 all_goals (refine h _ ?_;obtain rfl:=X.a;(try simp only [SD,bNot] at h2);simp_all [sdB])
theorem F153_154 {s:S} (hs:s.length≤4294967295) {K:PV→List Ob→Prop} (h:∀ b,b=allB wordB s→K (.bool b) []):FC Tryz.prog tt 153 [] [.str s,.clos 154 []] K:=by
 refine FC.enter (G:=g153) tt_ok mixed ⟨Tryz.func153,by rfl,rfl⟩ rfl rfl rfl ?_
 intro A C L X
 obtain ⟨n,hn⟩:∃ n,n=s.length:=⟨_,rfl⟩
 have hlen:A.slen s=Int.ofNat n:=by rw [X.a,hn];rfl
 cbv
 refine X.loop (fun (i:Nat)=>⟨[(8,.int .i64 i),(7,.int .i64 (A.slen s)),(1,.clos 154 []),(0,.str s)],[]⟩)
  (fun i=>i≤n∧allB wordB (s.take i)=true) (fun i=>n-i) 0 ⟨Nat.zero_le _,rfl⟩ ?_ ?_
 ·(cbv;repeat' apply And.intro);all_goals try first|trivial|rfl|(rw [X.a];rfl)
 rintro i ⟨hi,ha⟩
 cbv
 refine ⟨fun h1=> ?_,fun h1=> ?_⟩
 ·have h5:i<s.length:=by obtain rfl:=X.a;simp only [SD,bNot] at h1 hlen;omega
  have hid:A.idx (Int.ofNat i) (A.slen s):=by rw [hlen,X.a,hn];exact ⟨Int.natCast_nonneg _,Int.ofNat_lt.2 h5⟩
  have hin:A.inr .i64 (A.add (Int.ofNat i) 1):=by rw [X.a];exact leaf_inc h5 (by omega)
  have hget:A.sget s (Int.ofNat i)=(s[i].toNat:Int):=by rw [X.a];simp [Std,std,List.getD,h5]
  have hneg:=negA X.a
  cbv
  repeat' (first|apply And.intro|exact fun (_:FF)=>by kernel_rfl|(intro h2;cbv)|apply Or.inl)
  any_goals exact hid
  refine X.call (F154 fun b hb=> ?_)
  have hb:b=wordB (A.sget s (Int.ofNat i)):=hb
  rw [hget] at hb
  cbv
  repeat' (first|apply And.intro|exact fun (_:FF)=>by kernel_rfl|(intro h2;cbv)|apply Or.inl)
  any_goals exact hin
  ·exact h _ (by
    have h2:A.not b=true:=by assumption
    have h2:=(hneg b).symm.trans h2
    rw [allB_false h5];rw [← hb];simpa using h2)
  ·refine ⟨i+1,⟨?_,?_⟩,?_,?_⟩
   ·omega
   ·exact allB_take h5 ha (by
     have h2:A.not b=false:=by assumption
     have h2:=(hneg b).symm.trans h2;rw [← hb];simpa using h2)
   ·omega
   (cbv;repeat' apply And.intro);all_goals try first|trivial|rfl|(rw [X.a];rfl)
 ·have h5:i=n:=by obtain rfl:=X.a;simp only [SD,bNot] at h1 hlen;omega
  cbv
  exact h _ (by rw [h5,hn,List.take_length] at ha;exact ha.symm)
theorem F153_168 {s:S} (hs:s.length≤4294967295) {K:PV→List Ob→Prop} (h:∀ b,b=allB sdB s→K (.bool b) []):FC Tryz.prog tt 153 [] [.str s,.clos 168 []] K:=by
 refine FC.enter (G:=g153) tt_ok mixed ⟨Tryz.func153,by rfl,rfl⟩ rfl rfl rfl ?_
 intro A C L X
 obtain ⟨n,hn⟩:∃ n,n=s.length:=⟨_,rfl⟩
 have hlen:A.slen s=Int.ofNat n:=by rw [X.a,hn];rfl
 cbv
 refine X.loop (fun (i:Nat)=>⟨[(8,.int .i64 i),(7,.int .i64 (A.slen s)),(1,.clos 168 []),(0,.str s)],[]⟩)
  (fun i=>i≤n∧allB sdB (s.take i)=true) (fun i=>n-i) 0 ⟨Nat.zero_le _,rfl⟩ ?_ ?_
 ·(cbv;repeat' apply And.intro);all_goals try first|trivial|rfl|(rw [X.a];rfl)
 rintro i ⟨hi,ha⟩
 cbv
 refine ⟨fun h1=> ?_,fun h1=> ?_⟩
 ·have h5:i<s.length:=by obtain rfl:=X.a;simp only [SD,bNot] at h1 hlen;omega
  have hid:A.idx (Int.ofNat i) (A.slen s):=by rw [hlen,X.a,hn];exact ⟨Int.natCast_nonneg _,Int.ofNat_lt.2 h5⟩
  have hin:A.inr .i64 (A.add (Int.ofNat i) 1):=by rw [X.a];exact leaf_inc h5 (by omega)
  have hget:A.sget s (Int.ofNat i)=(s[i].toNat:Int):=by rw [X.a];simp [Std,std,List.getD,h5]
  have hneg:=negA X.a
  cbv
  repeat' (first|apply And.intro|exact fun (_:FF)=>by kernel_rfl|(intro h2;cbv)|apply Or.inl)
  any_goals exact hid
  refine X.call (F168 fun b hb=> ?_)
  have hb:b=sdB (A.sget s (Int.ofNat i)):=hb
  rw [hget] at hb
  cbv
  repeat' (first|apply And.intro|exact fun (_:FF)=>by kernel_rfl|(intro h2;cbv)|apply Or.inl)
  any_goals exact hin
  ·exact h _ (by
    have h2:A.not b=true:=by assumption
    have h2:=(hneg b).symm.trans h2
    rw [allB_false h5];rw [← hb];simpa using h2)
  ·refine ⟨i+1,⟨?_,?_⟩,?_,?_⟩
   ·omega
   ·exact allB_take h5 ha (by
     have h2:A.not b=false:=by assumption
     have h2:=(hneg b).symm.trans h2;rw [← hb];simpa using h2)
   ·omega
   (cbv;repeat' apply And.intro);all_goals try first|trivial|rfl|(rw [X.a];rfl)
 ·have h5:i=n:=by obtain rfl:=X.a;simp only [SD,bNot] at h1 hlen;omega
  cbv
  exact h _ (by rw [h5,hn,List.take_length] at ha;exact ha.symm)
theorem F153_169 {s:S} (hs:s.length≤4294967295) {K:PV→List Ob→Prop} (h:∀ b,b=allB digB s→K (.bool b) []):FC Tryz.prog tt 153 [] [.str s,.clos 169 []] K:=by
 refine FC.enter (G:=g153) tt_ok mixed ⟨Tryz.func153,by rfl,rfl⟩ rfl rfl rfl ?_
 intro A C L X
 obtain ⟨n,hn⟩:∃ n,n=s.length:=⟨_,rfl⟩
 have hlen:A.slen s=Int.ofNat n:=by rw [X.a,hn];rfl
 cbv
 refine X.loop (fun (i:Nat)=>⟨[(8,.int .i64 i),(7,.int .i64 (A.slen s)),(1,.clos 169 []),(0,.str s)],[]⟩)
  (fun i=>i≤n∧allB digB (s.take i)=true) (fun i=>n-i) 0 ⟨Nat.zero_le _,rfl⟩ ?_ ?_
 ·(cbv;repeat' apply And.intro);all_goals try first|trivial|rfl|(rw [X.a];rfl)
 rintro i ⟨hi,ha⟩
 cbv
 refine ⟨fun h1=> ?_,fun h1=> ?_⟩
 ·have h5:i<s.length:=by obtain rfl:=X.a;simp only [SD,bNot] at h1 hlen;omega
  have hid:A.idx (Int.ofNat i) (A.slen s):=by rw [hlen,X.a,hn];exact ⟨Int.natCast_nonneg _,Int.ofNat_lt.2 h5⟩
  have hin:A.inr .i64 (A.add (Int.ofNat i) 1):=by rw [X.a];exact leaf_inc h5 (by omega)
  have hget:A.sget s (Int.ofNat i)=(s[i].toNat:Int):=by rw [X.a];simp [Std,std,List.getD,h5]
  have hneg:=negA X.a
  cbv
  repeat' (first|apply And.intro|exact fun (_:FF)=>by kernel_rfl|(intro h2;cbv)|apply Or.inl)
  any_goals exact hid
  refine X.call (F169 fun b hb=> ?_)
  have hb:b=digB (A.sget s (Int.ofNat i)):=hb
  rw [hget] at hb
  cbv
  repeat' (first|apply And.intro|exact fun (_:FF)=>by kernel_rfl|(intro h2;cbv)|apply Or.inl)
  any_goals exact hin
  ·exact h _ (by
    have h2:A.not b=true:=by assumption
    have h2:=(hneg b).symm.trans h2
    rw [allB_false h5];rw [← hb];simpa using h2)
  ·refine ⟨i+1,⟨?_,?_⟩,?_,?_⟩
   ·omega
   ·exact allB_take h5 ha (by
     have h2:A.not b=false:=by assumption
     have h2:=(hneg b).symm.trans h2;rw [← hb];simpa using h2)
   ·omega
   (cbv;repeat' apply And.intro);all_goals try first|trivial|rfl|(rw [X.a];rfl)
 ·have h5:i=n:=by obtain rfl:=X.a;simp only [SD,bNot] at h1 hlen;omega
  cbv
  exact h _ (by rw [h5,hn,List.take_length] at ha;exact ha.symm)
end Go.VC.T07
end

section
namespace Go.VC
def kwS:S:=[32,97,110,100,32,97,110,121,32,97,115,32,98,111,111,108,32,100,101,112,114,101,99,97,116,101,100,32,101,108,115,101,32,101,120,112,111,114,116,32,102,97,108,115,101,32,102,110,32,102,111,108,100,32,102,114,111,109,32,105,102,32,105,109,112,111,114,116,32,105,110,32,105,110,116,32,108,101,110,103,116,104,32,108,101,116,32,108,105,115,116,32,109,97,116,99,104,32,109,111,100,117,108,101,32,110,111,110,101,32,110,111,116,32,111,114,32,116,101,120,116,32,116,104,101,110,32,116,114,117,101,32,116,121,112,101,32,117,115,101,32]
def keyB (s:S):Bool:=Lib.contains kwS ([32]++s++[32])
def hdB (s:S):Int:=((s.getD 0 0).toNat:Int)
def nameB (s:S):Bool:=s != []&&decide (s.length≤32)&&smallB (hdB s)&&allB wordB s&& !keyB s
def typeB (s:S):Bool:=s != []&&decide (s.length≤32)&&capB (hdB s)&&allB wordB s
theorem Std_sapp {a b:S}:Std.sapp a b=a++b:=rfl
theorem Std_sget0 {a:S}:Std.sget a 0=hdB a:=rfl
end Go.VC
namespace Go.VC.T07
open Go Go.VC Go.Proofs
theorem F156 {s:S} (hs:s.length≤4294967295) {K:PV→List Ob→Prop} (h:∀ b,b=keyB s→K (.bool b) []):FC Tryz.prog tt 156 [] [.str s] K:=by
 refine FC.enter (G:=g156) tt_ok mixed ⟨Tryz.func156,by rfl,rfl⟩ rfl rfl rfl ?_
 intro A C L X
 have q0:∀ a:S,A.sapp a [32]=a++[32]:=by rw [X.a];exact fun _=>rfl
 have q1:A.sapp [32] s=[32]++s:=by rw [X.a];rfl
 have i1:A.inr .i64 (A.add (A.slen [32]) (A.slen s)):=by rw [X.a,Std_inr64,Std_add,Std_slen,Std_slen];simp;omega
 have i2:A.inr .i64 (A.add (A.slen (A.sapp [32] s)) (A.slen [32])):=by rw [X.a,Std_inr64,Std_add,Std_slen,Std_slen,Std_sapp];simp;omega
 cbv
 refine ⟨i1,i2,?_⟩
 refine X.call (F204 (a:=kwS) ?_ fun b hb=> ?_)
 ·simp [kwS]
 cbv
 have hb:b=Lib.contains kwS (A.sapp (A.sapp [32] s) [32]):=hb
 rw [q0,q1] at hb
 exact h _ hb
theorem pos_ne {A:Alg} (ha:A=Std) {s:S} (h:A.not (A.seq s [])=true):A.idx 0 (A.slen s):=by
 subst ha
 cases s with
 |nil=>simp [Std_not,Std_seq] at h
 |cons c l=>exact ⟨Int.le_refl 0,by rw [Std_slen,List.length_cons];omega⟩
theorem F95 {s:S} (hs:s.length≤4294967295) {K:PV→List Ob→Prop} (h:∀ b,b=typeB s→K (.bool b) []):FC Tryz.prog tt 95 [] [.str s] K:=by
 refine FC.enter (G:=g95) tt_ok mixed ⟨Tryz.func95,by rfl,rfl⟩ rfl rfl rfl ?_
 intro A C L X
 have hp:=fun h=>pos_ne X.a (s:=s) h
 cbv
 repeat' (first|apply And.intro|exact fun (_:FF)=>by kernel_rfl|(intro h2;cbv)|apply Or.inl|(refine X.call (F152 fun b1 hb1=> ?_);cbv)|(refine X.call (F153_154 hs fun b2 hb2=> ?_);cbv))
 any_goals exact hp (by assumption)
 all_goals (refine h _ ?_;obtain rfl:=X.a;simp only [Std_sget0,SD,bNot] at* <;>simp_all [typeB]<;>omega)
theorem F96 {s:S} (hs:s.length≤4294967295) {K:PV→List Ob→Prop} (h:∀ b,b=nameB s→K (.bool b) []):FC Tryz.prog tt 96 [] [.str s] K:=by
 refine FC.enter (G:=g96) tt_ok mixed ⟨Tryz.func96,by rfl,rfl⟩ rfl rfl rfl ?_
 intro A C L X
 have hp:=fun h=>pos_ne X.a (s:=s) h
 cbv
 repeat' (first|apply And.intro|exact fun (_:FF)=>by kernel_rfl|(intro h2;cbv)|apply Or.inl|(refine X.call (F155 fun b1 hb1=> ?_);cbv)|(refine X.call (F153_154 hs fun b2 hb2=> ?_);cbv)|(refine X.call (F156 hs fun b3 hb3=> ?_);cbv))
 any_goals exact hp (by assumption)
 all_goals (refine h _ ?_;obtain rfl:=X.a;simp only [Std_sget0,SD,bNot] at* <;>simp_all [nameB]<;>omega)
theorem F119 {s:S} (hs:s.length≤4294967295) {K:PV→List Ob→Prop} (h:∀ b,b=(nameB s||typeB s)→K (.bool b) []):FC Tryz.prog tt 119 [] [.str s] K:=by
 refine FC.enter (G:=g119) tt_ok mixed ⟨Tryz.func119,by rfl,rfl⟩ rfl rfl rfl ?_
 intro A C L X
 cbv
 refine X.call (F96 hs fun b1 hb1=> ?_)
 cbv
 repeat' (first|apply And.intro|exact fun (_:FF)=>by kernel_rfl|(intro h2;cbv)|apply Or.inl|(refine X.call (F95 hs fun b2 hb2=> ?_);cbv))
 all_goals (refine h _ ?_;obtain rfl:=X.a;(try simp only [SD,bNot] at h2);simp_all)
end Go.VC.T07
end

section
namespace Go.VC
def verR (r:S):Bool:=r != []&&decide (r.length≤3)&& !(decide (1<r.length)&&hdB r==48)&&allB digB r
def verB (s:S):Bool:=Lib.hasPrefix s [118]&&verR (Lib.trimPrefix s [118])
def segB (s:S):Bool:=nameB s&&allB sdB s
def majE (s:S):Int:=if verB ((segs s).getLast?.getD [])&&decide (s.length≤64)&&decide (2≤(segs s).length)&&(segs s).all segB then 0 else 4
def pathB (s:S):Bool:=majE s==0
theorem segs_ne (s:S):segs s≠[]:=by
 induction s with
 |nil=>simp [segs]
 |cons c l ih=>
  unfold segs
  split
  ·simp
  ·cases h:segs l with
   |nil=>simp
   |cons x xs=>simp
theorem segs_len (s:S):(segs s).length≤s.length+1∧∀ x∈segs s,x.length≤s.length:=by
 induction s with
 |nil=>simp [segs]
 |cons c l ih=>
  unfold segs
  split
  ·refine ⟨by simp;omega,fun x hx=> ?_⟩
   rcases List.mem_cons.1 hx with rfl|hx
   ·simp
   ·have:=ih.2 x hx;simp;omega
  ·cases h:segs l with
   |nil=>simp
   |cons y ys=>
    rw [h] at ih
    refine ⟨by simp at ih ⊢;omega,fun x hx=> ?_⟩
    rcases List.mem_cons.1 hx with rfl|hx
    ·have:=ih.2 y (by simp);simp;omega
    ·have:=ih.2 x (by simp [hx]);simp;omega
end Go.VC
namespace Go.VC.T07
open Go Go.VC Go.Proofs
theorem F167 {s:S} (hs:s.length≤4294967290) {K:PV→List Ob→Prop} (h:∀ n b,b=verB s→K (.tup [.int .i64 n,.bool b]) []):FC Tryz.prog tt 167 [] [.str s] K:=by
 refine FC.enter (G:=g167) tt_ok mixed ⟨Tryz.func167,by rfl,rfl⟩ rfl rfl rfl ?_
 intro A C L X
 cbv
 refine X.call (F212 fun r b0 hr hb0=> ?_)
 have hrl:r.length≤4294967290:=by rw [hr,Lib.trimPrefix];split<;>(try simp)<;>omega
 obtain ⟨n,hn⟩:∃ n,n=r.length:=⟨_,rfl⟩
 have hlen:A.slen r=Int.ofNat n:=by rw [X.a,hn];rfl
 have hp:=fun h=>pos_ne X.a (s:=r) h
 have hp2:A.lt 1 (A.slen r)=true→A.idx 0 (A.slen r):=by rw [X.a];intro h2;rw [Std_lt,Std_slen] at h2;have h2:=of_decide_eq_true h2;exact ⟨Int.le_refl 0,by rw [Std_slen];omega⟩
 have hv:∀ b,b=(b0&&verR r)→b=verB s:=fun b hb=>by rw [hb,hb0,hr];rfl
 cbv
 repeat' (first|apply And.intro|exact fun (_:FF)=>by kernel_rfl|(intro h2;cbv)|apply Or.inl|(refine X.call (F153_169 (by omega) fun b1 hb1=> ?_);cbv))
 any_goals exact hp2 (by assumption)
 all_goals try (refine h _ _ (hv _ ?_);obtain rfl:=X.a;subst hn;clear hp hp2 hv hlen h;simp only [Std_sget0,SD,bNot] at* <;>simp_all [verR]<;>(intros;omega))
 all_goals (
  have hall:true=(b0&&verR r):=by
   obtain rfl:=X.a
   simp only [Std_sget0,SD,bNot] at* <;>simp_all [verR]<;>(intros;omega)
  refine X.loop (fun (y:Nat×Int)=>⟨[(40,.int .i64 y.1),(39,.int .i64 (A.slen r)),(5,.int .i64 y.2),(0,.str r)],[]⟩)
   (fun y=>y.1≤n) (fun y=>n-y.1) (0,0) (Nat.zero_le _) ?_ ?_
  ·(cbv;repeat' apply And.intro);all_goals try first|trivial|rfl|(rw [X.a];rfl)
  rintro ⟨i,z⟩ hi
  simp only at hi
  cbv
  refine ⟨fun h1=> ?_,fun h1=> ?_⟩
  ·have h5:i<r.length:=by obtain rfl:=X.a;simp only [SD,bNot] at h1 hlen;omega
   have hid:A.idx (Int.ofNat i) (A.slen r):=by rw [hlen,X.a,hn];exact ⟨Int.natCast_nonneg _,Int.ofNat_lt.2 h5⟩
   have hin:A.inr .i64 (A.add (Int.ofNat i) 1):=by rw [X.a];exact leaf_inc h5 (by omega)
   cbv
   refine .inr fun _=> ?_
   cbv
   refine ⟨hid,?_⟩
   refine .inr fun _=> ?_
   cbv
   refine .inr fun _=> ?_
   cbv
   refine .inr fun _=> ?_
   cbv
   refine .inl ⟨hin,fun _=> ?_⟩
   cbv
   refine ⟨(i+1,A.wrap .i64 (A.add (A.wrap .i64 (A.mul 10 z)) (A.wrap .i64 (A.wrap .u8 (A.sub (A.sget r (Int.ofNat i)) 48))))),?_,?_,?_⟩
   ·simp only;omega
   ·simp only;omega
   (cbv;repeat' apply And.intro);all_goals try first|trivial|rfl|(rw [X.a];rfl)
  ·cbv
   exact h _ _ (hv _ hall))
theorem F118 {s:S} (hs:s.length≤4294967200) {K:PV→List Ob→Prop} (h:∀ n e,e=majE s→K (.tup [.int .i64 n,.int .i64 e]) []):FC Tryz.prog tt 118 [] [.str s] K:=by
 have hne:=segs_ne s
 have hsl:=segs_len s
 have hlast:∀ i (hi:i<(segs s).length),(segs s)[i]∈segs s:=fun i hi=>List.getElem_mem hi
 have hgl:(segs s).getLast?.getD []=(segs s)[(segs s).length-1]'(by have:=List.length_pos_iff.2 hne;omega):=by
  rw [List.getLast?_eq_getElem?,List.getElem?_eq_getElem (by have:=List.length_pos_iff.2 hne;omega)];rfl
 obtain ⟨l,hl⟩:∃ l,l=segs s:=⟨_,rfl⟩
 have hpos:0<l.length:=by rw [hl];exact List.length_pos_iff.2 hne
 rw [← hl] at hsl
 refine FC.enter (G:=g118) tt_ok mixed ⟨Tryz.func118,by rfl,rfl⟩ rfl rfl rfl ?_
 intro A C L X
 cbv
 refine X.call (F166 (by omega) fun d hd=> ?_)
 rw [← hl] at hd
 obtain ⟨n_d,hn_d,hlen_d⟩:=lenOf hd
 have hlen_d:A.len d=Int.ofNat n_d:=by rw [X.a];exact hlen_d
 have hm1:A.sub (A.len d) 1=Int.ofNat (l.length-1):=by rw [hlen_d,X.a,Std_sub,hn_d];simp only [Int.ofNat_eq_natCast];omega
 have hin1:A.inr .i64 (A.sub (A.len d) 1):=by rw [hm1,X.a,Std_inr64];simp only [Int.ofNat_eq_natCast];omega
 have hid1:A.idx (A.sub (A.len d) 1) (A.len d):=by rw [hm1,X.a,hd];exact leaf_idx (by omega)
 have hlst:A.asStr (A.cell d (A.sub (A.len d) 1) 0)=(segs s).getLast?.getD []:=by
  rw [hm1,strAt X.a hd (by omega),hgl];simp only [hl]
 have hll:(A.asStr (A.cell d (A.sub (A.len d) 1) 0)).length≤s.length:=by rw [hm1,strAt X.a hd (by omega)];exact hsl.2 _ (List.getElem_mem _)
 cbv
 repeat' (first|apply And.intro|exact fun (_:FF)=>by kernel_rfl|(intro h2;cbv)|apply Or.inl)
 any_goals exact hin1
 any_goals exact hid1
 refine X.call (F167 (Nat.le_trans hll (by omega)) fun n b hb=> ?_)
 have hb:b=verB (A.asStr (A.cell d (A.sub (A.len d) 1) 0)):=hb
 rw [hlst] at hb
 have hall0:∀ i,i≤n_d→(∀ x∈l.take i,segB x=true)→i=n_d→(b&&decide (s.length≤64)&&decide (2≤l.length))=true→0=majE s:=by
  intro i _ h1 h2 h3
  rw [h2,hn_d,List.take_length] at h1
  unfold majE
  rw [← hb,←hl,h3,Bool.true_and,if_pos (List.all_eq_true.2 h1)]
 have hbad:(b&&decide (s.length≤64)&&decide (2≤l.length))=false→4=majE s:=by
  intro h3
  unfold majE
  rw [← hb,←hl,h3];rfl
 have hbad2:∀ i (hi:i<l.length),segB l[i]=false→4=majE s:=by
  intro i hi h3
  unfold majE
  rw [← hl]
  have:l.all segB=false:=all_false hi h3
  rw [this,Bool.and_false];rfl
 cbv
 repeat' (first|apply And.intro|exact fun (_:FF)=>by kernel_rfl|(intro h2;cbv)|apply Or.inl)
 all_goals try (refine h _ _ (hbad ?_);obtain rfl:=X.a;clear hbad hbad2 hall0 h hlst hgl hlast;simp only [hlen_d,SD,bNot] at* <;>simp_all<;>(intros;omega))
 have hok:(b&&decide (s.length≤64)&&decide (2≤l.length))=true:=by
  obtain rfl:=X.a
  clear hbad hbad2 hall0 h hlst hgl hlast
  simp only [hlen_d,SD,bNot] at* <;>simp_all<;>(intros;omega)
 refine X.loop (fun (i:Nat)=>⟨[(35,.int .i64 i),(34,.int .i64 (A.len d)),(33,.row 9 0),(5,.int .i64 n)],[.row 9 d true]⟩)
  (fun i=>i≤n_d∧∀ x∈l.take i,segB x=true) (fun i=>n_d-i) 0 ⟨Nat.zero_le _,by simp⟩ ?_ ?_
 ·(cbv;repeat' apply And.intro);all_goals try first|trivial|rfl|(rw [X.a];rfl)
 rintro i ⟨hi,ha⟩
 cbv
 refine ⟨fun h1=> ?_,fun h1=> ?_⟩
 ·have h5:i<l.length:=by obtain rfl:=X.a;simp only [hlen_d,SD,bNot] at h1;omega
  have k1:=strAt X.a hd h5
  have hid:A.idx (Int.ofNat i) (A.len d):=by rw [X.a,hd];exact leaf_idx h5
  have hin:A.inr .i64 (A.add (Int.ofNat i) 1):=by rw [X.a];exact leaf_inc h5 (by omega)
  have hxl:(A.asStr (A.cell d (Int.ofNat i) 0)).length≤s.length:=by rw [k1];exact hsl.2 _ (List.getElem_mem h5)
  have hneg:=negA X.a
  cbv
  repeat' (first|apply And.intro|exact fun (_:FF)=>by kernel_rfl|(intro h2;cbv)|apply Or.inl)
  any_goals exact hid
  refine X.call (F96 (Nat.le_trans hxl (by omega)) fun b1 hb1=> ?_)
  have hb1:b1=nameB (A.asStr (A.cell d (Int.ofNat i) 0)):=hb1
  rw [k1] at hb1
  cbv
  repeat' (first|apply And.intro|exact fun (_:FF)=>by kernel_rfl|(intro h2;cbv)|apply Or.inl|(refine X.call (F153_168 (Nat.le_trans hxl (by omega)) fun b2 hb2=> ?_);cbv))
  any_goals exact hin
  ·have hb2:b2=allB sdB (A.asStr (A.cell d (Int.ofNat i) 0)):=hb2
   rw [k1] at hb2
   refine h _ _ (hbad2 i h5 ?_)
   have h2:=(hneg _).symm.trans h2
   rw [segB,←hb2];simp at h2;simp [h2]
  ·have hb2:b2=allB sdB (A.asStr (A.cell d (Int.ofNat i) 0)):=hb2
   rw [k1] at hb2
   have e1:A.not b1=false:=by assumption
   have e2:A.not b2=false:=by assumption
   rw [hneg] at e1 e2
   refine ⟨i+1,⟨?_,?_⟩,?_,?_⟩
   ·omega
   ·rw [take_succ' h5]
    intro x hx
    rcases List.mem_append.1 hx with hx|hx
    ·exact ha x hx
    ·rw [List.mem_singleton] at hx
     rw [hx,segB,←hb1,←hb2];simp_all
   ·omega
   (cbv;repeat' apply And.intro);all_goals try first|trivial|rfl|(rw [X.a];rfl)
  ·refine h _ _ (hbad2 i h5 ?_)
   have h2:A.not b1=true:=h2
   rw [hneg] at h2
   rw [segB,←hb1];simp at h2;simp [h2]
 ·have h5:i=n_d:=by obtain rfl:=X.a;simp only [hlen_d,SD,bNot] at h1;omega
  cbv
  exact h _ _ (hall0 i hi ha h5 hok)
theorem F70 {s:S} (hs:s.length≤4294967200) {K:PV→List Ob→Prop} (h:∀ b,b=pathB s→K (.bool b) []):FC Tryz.prog tt 70 [] [.str s] K:=by
 refine FC.enter (G:=g70) tt_ok mixed ⟨Tryz.func70,by rfl,rfl⟩ rfl rfl rfl ?_
 intro A C L X
 cbv
 refine X.call (F118 hs fun n e he=> ?_)
 cbv
 exact h _ (by rw [pathB,←he];obtain rfl:=X.a;rfl)
end Go.VC.T07
end

section
namespace Go.Proofs
open Go.Shelf
def Tryz.sortUse_ren:Go.Shelf.Ren:=⟨fun|6=>171|15=>84|14=>214|28=>140|29=>141|20=>230|21=>231|22=>232|23=>233|24=>234|25=>235|26=>236|27=>237|46=>252|47=>185|48=>186|49=>253|50=>254|57=>264|n=>n,fun|22=>121|24=>124|25=>179|3=>3|39=>141|0=>0|53=>195|55=>197|4=>4|46=>188|45=>187|50=>192|5=>5|9=>9|66=>229|70=>233|76=>247|77=>248|n=>n,fun|n=>n⟩
theorem Tryz.sortUse:Go.Proofs.SlLaysF0.n6 Tryz.prog Tryz.sortUse_ren:={
 mixed:=by kernel_rfl
 f6:=⟨Tryz.f171.name,by decide,Tryz.func171.trans (congrArg some (by kernel_rfl))⟩
 f14:=⟨Tryz.f214.name,by decide,Tryz.func214.trans (congrArg some (by kernel_rfl))⟩
 f15:=Tryz.func84.trans (congrArg some (by kernel_rfl))
 f20:=⟨Tryz.f230.name,by decide,Tryz.func230.trans (congrArg some (by kernel_rfl))⟩
 f21:=⟨Tryz.f231.name,by decide,Tryz.func231.trans (congrArg some (by kernel_rfl))⟩
 f22:=⟨Tryz.f232.name,by decide,Tryz.func232.trans (congrArg some (by kernel_rfl))⟩
 f23:=⟨Tryz.f233.name,by decide,Tryz.func233.trans (congrArg some (by kernel_rfl))⟩
 f24:=⟨Tryz.f234.name,by decide,Tryz.func234.trans (congrArg some (by kernel_rfl))⟩
 f25:=⟨Tryz.f235.name,by decide,Tryz.func235.trans (congrArg some (by kernel_rfl))⟩
 f26:=⟨Tryz.f236.name,by decide,Tryz.func236.trans (congrArg some (by kernel_rfl))⟩
 f27:=⟨Tryz.f237.name,by decide,Tryz.func237.trans (congrArg some (by kernel_rfl))⟩
 f28:=Tryz.func140.trans (congrArg some (by kernel_rfl))
 f29:=Tryz.func141.trans (congrArg some (by kernel_rfl))
 f46:=⟨Tryz.f252.name,by decide,Tryz.func252.trans (congrArg some (by kernel_rfl))⟩
 f47:=Tryz.func185.trans (congrArg some (by kernel_rfl))
 f48:=Tryz.func186.trans (congrArg some (by kernel_rfl))
 f49:=⟨Tryz.f253.name,by decide,Tryz.func253.trans (congrArg some (by kernel_rfl))⟩
 f50:=⟨Tryz.f254.name,by decide,Tryz.func254.trans (congrArg some (by kernel_rfl))⟩
 f57:=⟨Tryz.f264.name,by decide,Tryz.func264.trans (congrArg some (by kernel_rfl))⟩
 t0:=Tryz.underlying0
 a0:=Tryz.isAgg0
 z0:=Tryz.sizeOf0
 v0:=Tryz.zeroValue0
 t3:=Tryz.underlying3
 a3:=Tryz.isAgg3
 z3:=Tryz.sizeOf3
 v3:=Tryz.zeroValue3
 t4:=Tryz.underlying4
 a4:=Tryz.isAgg4
 z4:=Tryz.sizeOf4
 v4:=Tryz.zeroValue4
 t5:=Tryz.underlying5
 a5:=Tryz.isAgg5
 z5:=Tryz.sizeOf5
 v5:=Tryz.zeroValue5
 t9:=Tryz.underlying9
 a9:=Tryz.isAgg9
 z9:=Tryz.sizeOf9
 v9:=Tryz.zeroValue9
 t22:=Tryz.underlying121
 a22:=Tryz.isAgg121
 z22:=Tryz.sizeOf121
 v22:=Tryz.zeroValue121
 t25:=Tryz.underlying179
 a25:=Tryz.isAgg179
 z25:=Tryz.sizeOf179
 v25:=Tryz.zeroValue179
 t39:=Tryz.underlying141
 a39:=Tryz.isAgg141
 z39:=Tryz.sizeOf141
 v39:=Tryz.zeroValue141
 t45:=Tryz.underlying187
 a45:=Tryz.isAgg187
 z45:=Tryz.sizeOf187
 v45:=Tryz.zeroValue187
 t46:=Tryz.underlying188
 a46:=Tryz.isAgg188
 z46:=Tryz.sizeOf188
 v46:=Tryz.zeroValue188
 t50:=Tryz.underlying192
 a50:=Tryz.isAgg192
 z50:=Tryz.sizeOf192
 v50:=Tryz.zeroValue192
 t53:=Tryz.underlying195
 a53:=Tryz.isAgg195
 z53:=Tryz.sizeOf195
 v53:=Tryz.zeroValue195
 t55:=Tryz.underlying197
 a55:=Tryz.isAgg197
 z55:=Tryz.sizeOf197
 v55:=Tryz.zeroValue197
 t66:=Tryz.underlying229
 a66:=Tryz.isAgg229
 z66:=Tryz.sizeOf229
 v66:=Tryz.zeroValue229
 t70:=Tryz.underlying233
 a70:=Tryz.isAgg233
 z70:=Tryz.sizeOf233
 v70:=Tryz.zeroValue233
 t76:=Tryz.underlying247
 a76:=Tryz.isAgg247
 z76:=Tryz.sizeOf247
 v76:=Tryz.zeroValue247
 t77:=Tryz.underlying248
 a77:=Tryz.isAgg248
 z77:=Tryz.sizeOf248
 v77:=Tryz.zeroValue248 }
end Go.Proofs
end

section
namespace Go.VC
open Go Go.Sort Go.Proofs
inductive All2 {α β:Type} (R:α→β→Prop):List α→List β→Prop
 |nil:All2 R [] []
 |cons {a b x y} (h:R a b) (t:All2 R x y):All2 R (a::x) (b::y)
theorem All2.length {α β:Type} {R:α→β→Prop} {x:List α} {y:List β} (h:All2 R x y):x.length=y.length:=by
 induction h with
 |nil=>rfl
 |cons _ _ ih=>simp [ih]
theorem All2.get {α β:Type} {R:α→β→Prop} {x:List α} {y:List β} (h:All2 R x y) (i:Nat) (h1:i<x.length) (h2:i<y.length):R x[i] y[i]:=by
 induction h generalizing i with
 |nil=>simp at h1
 |cons h t ih=>
  cases i with
  |zero=>exact h
  |succ i=>exact ih i (by simpa using h1) (by simpa using h2)
theorem All2.of_get {α β:Type} {R:α→β→Prop}:∀ {x:List α} {y:List β},x.length=y.length→(∀ i (h1:i<x.length) (h2:i<y.length),R x[i] y[i])→All2 R x y
 |[],[],_,_=>.nil
 |a::x,b::y,hl,h=>.cons (h 0 (by simp) (by simp)) (All2.of_get (by simpa using hl) fun i h1 h2=>h (i+1) (by simpa using h1) (by simpa using h2))
 |[],_::_,hl,_=>by simp at hl
 |_::_,[],hl,_=>by simp at hl
theorem All2.perm {α β:Type} {R:α→β→Prop} {x x':List α} (hp:x'.Perm x):∀ {y:List β},All2 R x y→∃ y',y'.Perm y∧All2 R x' y':=by
 induction hp with
 |nil=>intro y h;cases h;exact ⟨[],.nil,.nil⟩
 |cons a _ ih=>
  intro y h
  cases h with
  |cons h t=>
   obtain ⟨y',h1,h2⟩:=ih t
   exact ⟨_::y',h1.cons _,.cons h h2⟩
 |swap a b l=>
  intro y h
  cases h with
  |cons h t=>
   cases t with
   |cons h' t=>exact ⟨_::_::_,.swap _ _ _,.cons h' (.cons h t)⟩
 |trans _ _ ih1 ih2=>
  intro y h
  obtain ⟨y1,h1,h2⟩:=ih2 h
  obtain ⟨y2,h3,h4⟩:=ih1 h2
  exact ⟨y2,h3.trans h1,h4⟩
structure RelV (tt:TypeId→Option TI) (Pp:Per) (e:TypeId) (us:List Value) (row:List D):Prop where
 l1:us.length=(cksOf tt e).length
 l2:row.length=(cksOf tt e).length
 rd:∀ (j:Nat) d ck,row[j]? =some d→(cksOf tt e)[j]? =some ck→∃ v,us[j]? =some v∧RD tt Pp ck v d
section
variable {α:Type} [Inhabited α] {P:Program} {tt:TypeId→Option TI} {f:FuncId} {e:TypeId}
theorem ex_clos {g:FuncId} (hg:nlt g bndM=true:=by rfl):∀ E Pp vs,VRL tt E Pp vs [.clos g []]→vs=[.func (.func g) #[] #[]]:=by
 intro E Pp vs h
 cases h with
 |cons v _ vs _ h1 h2=>
 cases h2
 cases h1 with
 |clos _ _ cs _ hu hcs=>
 obtain rfl:=hu.get hg
 cases hcs
 rfl
theorem ex_nil:∀ E Pp vs,VRL tt E Pp vs []→vs=[]:=by
 intro E Pp vs h
 cases h
 rfl
theorem flatK_one (enc:α→Value) (d:Array α):flatK (fun x=>[enc x]) 1 d=d.map enc:=by
 apply Array.ext (by simp)
 intro i h1 h2
 have hi:i<d.size:=by simpa using h2
 simp only [flatK,Array.getElem_map,Array.getElem_range,Nat.div_one,Nat.mod_one]
 rw [getElem!_pos d i hi]
 rfl
theorem holds_one {enc:α→Value} {w:World} {blk off:Nat} {d:Array α} (h:HoldsK (fun x=>[enc x]) 1 w blk off d):Holds enc w blk off d:=by
 intro j hj
 have:=h j (by rw [size_flatK];omega)
 rw [flatK_one] at this
 rw [getElem!_pos (d.map enc) j (by simpa using hj)] at this
 rw [getElem!_pos d j hj]
 simpa using this
theorem putRow_one (enc:α→Value) (w:World) (blk off:Nat) (d:Array α):putRow enc w blk off d=putRow id w blk off (flatK (fun x=>[enc x]) 1 d):=by
 rw [flatK_one]
 unfold putRow
 congr 1
 funext c
 unfold putCells
 congr 1
 funext k x
 simp only [Array.size_map,id]
 split
 ·rename_i h
  rw [getElem!_pos d (k-off) (by omega),getElem!_pos (d.map enc) (k-off) (by simp;omega)]
  simp
 ·rfl
theorem divmod_lt {t n k:Nat} (h:t<n*k):t/k<n∧t % k<k∧t=t/k*k+t % k:=by
 have hk:0<k:=by
  rcases Nat.eq_zero_or_pos k with h'|h'
  ·subst h';simp at h
  ·exact h'
 exact ⟨(Nat.div_lt_iff_lt_mul hk).2 h,Nat.mod_lt _ hk,by rw [Nat.mul_comm];exact (Nat.div_add_mod t k).symm⟩
theorem sort_core {E:List RI} {Pp:Per} {w:World} {vals:List Value} (enc:α→List Value) (cf:α→α→Int) (ltD:List D→List D→Bool) (ex:List PV) (ev:List Value) (hex:∀ E Pp vs,VRL tt E Pp vs ex→vs=ev)
  (hk:∀ x,(enc x).length=(cksOf tt e).length)
  (hS:∀ (blk off cap:Nat) (d:Array α),HoldsK enc (cksOf tt e).length w blk off d→blk<w.heap.size→d.size<4611686018427387904→(∀ ad v,Pp ad v→ad.block≠blk)→
   Calls P f ⟨.slice (some ⟨blk,off,none⟩) d.size cap::ev⟩ w fun e' w'=>e'= .returned (.tuple #[])∧∃ d' n os,PermIn 0 d.size d d'∧SortedIn (ltOf cf) 0 d.size d'∧w'=sortWorldK enc (cksOf tt e).length w blk off n d' os)
  (hN:∀ (p:Option Addr) (cap:Nat) (w:World),Calls P f ⟨.slice p 0 cap::ev⟩ w fun e' w'=>e'= .returned (.tuple #[])∧w'=w)
  (hE:∀ args w,(callFunc f args).run P w= .ok (.enter f args) w)
  (rows:List (List D)) (hn:rows.length<4611686018427387904)
  (hα:∀ us row,row∈rows→RelV tt Pp e us row→∃ x:α,enc x=us)
  (hlt:∀ x y rx ry,RelV tt Pp e (enc x) rx→RelV tt Pp e (enc y) ry→ltOf cf x y=ltD rx ry)
  {K:PV→List Ob→Prop} (h:∀ rows',rows'.Perm rows→(∀ i j (hi:i<rows'.length) (hj:j<rows'.length),i<j→ltD rows'[j] rows'[i]=false)→K (.tup []) [.row e (.list rows') true])
  (hw:WR tt E Pp [.row e (.list rows) true] w) (hv:VRL tt E Pp vals (.row e 0::ex)):
  Invokes P f vals w (FCPost tt E Pp [.row e (.list rows) true] w K):=by
 cases hv with
 |cons v0 _ vs0 _ hv0 hv1=>
 have hvs0:=hex _ _ _ hv1
 subst hvs0
 have hEl:=hw.len
 obtain ⟨ri,hri,hor⟩:=hw.ob 0 _ rfl rfl
 refine .inl ⟨hE _ _,?_⟩
 have none_case:∀ p cap,v0= .slice p 0 cap→rows=[]→Calls P f ⟨v0::vs0⟩ w (FCPost tt E Pp [.row e (.list rows) true] w K):=by
  rintro p cap rfl rfl
  refine (hN p cap w).mono ?_
  rintro e' w' ⟨rfl,rfl⟩
  refine ⟨_,E,Pp,[.row e (.list []) true],_,rfl,.refl _,fun _ _ h=>h,hw,.tup [] [] .nil,h [] (List.Perm.refl _) (fun i j hi=>by simp at hi),Fr.refl _ _,fun _ _ h=>.inl h,?_⟩
  intro i o ri b ho hl hE' hb
  exact .inr ⟨i,o,ri,ho,hl,hE',hb⟩
 cases hv0 with
 |row0 _ _ hr=>
  rw [hri] at hr;cases hr
  simp only [OR,D.list.injEq] at hor
  exact none_case _ _ rfl hor
 |row _ _ gb o len cap hr=>
  rw [hri] at hr;cases hr
  simp only [OR,D.list.injEq] at hor
  obtain ⟨vs,T,rows2,hheap,hrr,hlen,hcap,hfit,hrow,hno,_⟩:=hor
  subst hrr
  obtain ⟨k,hkd⟩:∃ k,k=(cksOf tt e).length:=⟨_,rfl⟩
  rcases Nat.eq_zero_or_pos len with h0|hpos
  ·subst h0
   exact none_case _ _ rfl (List.eq_nil_of_length_eq_zero hlen)
  have hgb:gb<w.heap.size:=by
   rcases Nat.lt_or_ge gb w.heap.size with h'|h'
   ·exact h'
   ·rw [Array.getElem?_eq_none h'] at hheap;simp at hheap
  have hbound:o+len*k≤vs.length:=by
   have:=Nat.mul_le_mul_right k hcap
   rw [← hkd] at hfit;omega
  -- the rows as they lie
  have hus:∀ i (hi:i<len),RelV tt Pp e ((vs.drop (o+i*k)).take k) (rows[i]'(by omega)):=by
   intro i hi
   obtain ⟨h1,h2⟩:=hrow i rows[i] (by simp [hlen,hi])
   have hin:(i+1)*k≤len*k:=Nat.mul_le_mul_right k hi
   rw [Nat.add_mul,Nat.one_mul] at hin
   refine ⟨by rw [List.length_take,List.length_drop,←hkd];omega,h1,?_⟩
   intro j dd ck hj hck
   obtain ⟨v,hv,hrd⟩:=h2 j dd ck hj hck
   have hjk:j<k:=by rw [hkd];exact (List.getElem?_eq_some_iff.1 hck).1
   refine ⟨v,?_,hrd⟩
   rw [List.getElem?_take_of_lt hjk,List.getElem?_drop]
   rw [← hkd] at hv;exact hv
  have hx:∀ i (hi:i<len),∃ x:α,enc x=(vs.drop (o+i*k)).take k:=fun i hi=>hα _ _ (List.getElem_mem _) (hus i hi)
  obtain ⟨xs,hxl,hxs⟩:∃ xs:List α,xs.length=len∧∀ i (hi:i<xs.length),enc xs[i]=(vs.drop (o+i*k)).take k:=by
   refine ⟨(List.range len).map fun i=>if hi:i<len then Classical.choose (hx i hi) else default,by simp,?_⟩
   intro i hi
   have hi':i<len:=by simpa using hi
   simp only [List.getElem_map,List.getElem_range,hi',dif_pos]
   exact Classical.choose_spec (hx i hi')
  have hsz:xs.toArray.size=len:=by simp [hxl]
  have hR:All2 (fun x r=>RelV tt Pp e (enc x) r) xs rows:=All2.of_get (by omega) fun i h1 h2=>by
   rw [hxs i h1];exact hus i (by omega)
  have flat:∀ (d:Array α),d.size=len→∀ t,t<len*k→∃ (x:α) (hq:t/k<d.size),x=d[t/k]∧(flatK enc k d)[t]! =(enc x)[t % k]! :=by
   intro d hd t ht
   obtain ⟨h1,h2,h3⟩:=divmod_lt ht
   refine ⟨_,by omega,rfl,?_⟩
   rw [get_flatK enc k d t (by rw [hd];exact ht),getElem!_pos d (t/k) (by omega)]
  have hH:HoldsK enc k w gb o xs.toArray:=by
   intro t ht
   rw [size_flatK,hsz] at ht
   obtain ⟨h1,h2,h3⟩:=divmod_lt ht
   obtain ⟨x,hq,hx1,hx2⟩:=flat xs.toArray hsz t ht
   refine ⟨?_,?_⟩
   ·simp only [World.cell?,hheap,Option.isSome_none,Bool.false_eq_true,if_false,id]
    rw [hx2,hx1]
    have hlt2:t/k<xs.length:=by omega
    have e1:=hxs (t/k) hlt2
    simp only [List.getElem_toArray]
    rw [e1]
    have hl2:((vs.drop (o+t/k*k)).take k).length=k:=by rw [← e1,hk,hkd]
    rw [getElem!_pos _ (t % k) (by omega)]
    rw [List.getElem_take,List.getElem_drop]
    have hlt3:o+t<vs.length:=by omega
    have:(⟨vs⟩:Array Value)[o+t]? =some vs[o+t]:=by simp [hlt3]
    rw [this]
    congr 2
    omega
   ·simp only [World.frozen?,hheap]
    simp
  rw [← hkd] at hS
  have hC:=hS gb o cap xs.toArray hH hgb (by rw [hsz,←hlen];exact hn) (fun ad v hpv=>hno trivial ad v hpv)
  rw [hsz] at hC
  refine hC.mono ?_
  rintro e' w' ⟨rfl,d',n,os,hp,hs,rfl⟩
  have hd':d'.size=len:=by rw [hp.1,hsz]
  have hperm:d'.toList.Perm xs:=by
   have:=hp.2.2
   rw [Array.extract_eq_self_of_le (by omega),Array.extract_eq_self_of_le (by omega)] at this
   simpa using this
  obtain ⟨rows',hp2,hR2⟩:=All2.perm hperm hR
  have hrl:rows'.length=len:=by rw [hp2.length_eq,hlen]
  -- the block behind the sort
  obtain ⟨W,hW⟩:∃ W,W=sortWorldK enc k w gb o n d' os:=⟨_,rfl⟩
  rw [← hW]
  have hblk:∀ b,b<w.heap.size→W.heap[b]? =(w.heap[b]?).map fun x=>if b=gb then onCells (putCells id o (flatK enc k d')) x else x:=by
   intro b hb
   rw [hW]
   simp only [sortWorldK,putRowK,putRow,grow,mapBlock,Sort.ahead]
   rw [Array.getElem?_append_left (by simp;exact hb),Array.getElem?_modify]
   by_cases hbg:gb=b
   ·subst hbg;simp
   ·rw [if_neg hbg]
    cases w.heap[b]? with
    |none=>rfl
    |some x=>simp [Ne.symm hbg]
  obtain ⟨vs',hvs'⟩:∃ vs',vs'=(putCells id o (flatK enc k d') ⟨vs⟩).toList:=⟨_,rfl⟩
  have hblk1:W.heap[gb]? =some (.cells ⟨vs'⟩ T (0,0)):=by
   rw [hblk gb hgb,hheap];simp [onCells,hvs']
  have hvl:vs'.length=vs.length:=by rw [hvs'];simp [putCells]
  have hvget:∀ t,t<len*k→vs'[o+t]? =some (flatK enc k d')[t]! :=by
   intro t ht
   rw [hvs']
   simp only [putCells,Array.toList_mapIdx]
   rw [List.getElem?_mapIdx]
   have hlt3:o+t<vs.length:=by omega
   simp only [List.getElem?_eq_getElem hlt3,Option.map_some]
   rw [size_flatK,hd',if_pos (by omega)]
   simp
  have hsize:w.heap.size≤W.heap.size:=by
   rw [hW];simp [sortWorldK,putRowK,putRow,grow,mapBlock,Sort.ahead]
  have hother:∀ b,b<w.heap.size→b≠gb→W.heap[b]? =w.heap[b]? :=by
   intro b hb hne
   rw [hblk b hb]
   cases w.heap[b]? with
   |none=>rfl
   |some x=>simp [hne]
  have hrow':RowAt tt Pp e vs' o rows':=by
   intro i row hi
   have hil:i<rows'.length:=(List.getElem?_eq_some_iff.1 hi).1
   have hrow_eq:row=rows'[i]:=((List.getElem?_eq_some_iff.1 hi).2).symm
   have hrel:=hR2.get i (by simp;omega) hil
   rw [← hrow_eq] at hrel
   refine ⟨hrel.l2,?_⟩
   intro j dd ck hj hck
   obtain ⟨v,hv,hrd⟩:=hrel.rd j dd ck hj hck
   refine ⟨v,?_,hrd⟩
   have hjk:j<k:=by rw [hkd];exact (List.getElem?_eq_some_iff.1 hck).1
   have hin:(i+1)*k≤len*k:=Nat.mul_le_mul_right k (by omega)
   rw [Nat.add_mul,Nat.one_mul] at hin
   rw [← hkd,Nat.add_assoc,hvget (i*k+j) (by omega)]
   obtain ⟨x,hq,hx1,hx2⟩:=flat d' hd' (i*k+j) (by omega)
   have hdiv:(i*k+j)/k=i:=by
    rw [Nat.mul_comm,Nat.mul_add_div (by omega),Nat.div_eq_of_lt hjk,Nat.add_zero]
   have hmod:(i*k+j) % k=j:=by
    rw [Nat.mul_comm,Nat.mul_add_mod,Nat.mod_eq_of_lt hjk]
   rw [hx2,hmod]
   have hxi:x=d'.toList[i]'(by simp;omega):=by
    rw [hx1];simp [hdiv]
   rw [hxi]
   have hjl:j<(enc (d'.toList[i]'(by simp;omega))).length:=by rw [hk,←hkd];exact hjk
   rw [getElem!_pos _ j hjl]
   rw [List.getElem?_eq_getElem hjl] at hv
   exact hv
  have hsorted:∀ i j (hi:i<rows'.length) (hj:j<rows'.length),i<j→ltD rows'[j] rows'[i]=false:=by
   intro i j hi hj hij
   have:=hs i j (Nat.zero_le _) hij (by omega)
   rw [getElem!_pos d' i (by omega),getElem!_pos d' j (by omega)] at this
   rw [← hlt d'[j] d'[i] _ _ (by have:=hR2.get j (by simp;omega) hj;simpa using this) (by have:=hR2.get i (by simp;omega) hi;simpa using this)]
   exact this
  have hno:=hno trivial
  refine ⟨_,E,Pp,[.row e (.list rows') true],_,rfl,.refl _,fun _ _ h=>h,?_,.tup [] [] .nil,h rows' hp2 hsorted,?_,fun _ _ h=>.inl h,?_⟩
  ·refine ⟨by rw [hEl];rfl,?_,?_,?_,hw.gl⟩
   ·intro ad v hpv
    have hne:=hno ad v hpv
    have hc:=hw.pi ad v hpv
    rw [pc_same (hother _ (pc_lt hc) hne)];exact hc
   ·intro i ob ho hl
    cases i with
    |succ i=>simp at ho
    |zero=>
     simp at ho;subst ho
     refine ⟨_,hri,?_⟩
     simp only [OR]
     refine ⟨vs',T,rows',hblk1,rfl,hrl,hcap,by rw [hvl];exact hfit,hrow',fun _=>hno,by simp⟩
   ·intro i j oi oj ri rj b hi hj _ _ _ _ _ _
    cases i<;>cases j<;>simp at hi hj ⊢
  ·refine ⟨?_,?_,?_,hsize,?_,?_⟩
   ·rw [hW];rfl
   ·rw [hW];rfl
   ·rw [hW];rfl
   ·rw [hW];exact Nat.le_add_right _ _
   ·intro b hb hown
    refine hother b hb fun hbg=>hown ?_
    subst hbg
    exact ⟨0,_,_,rfl,rfl,hri,rfl⟩
  ·intro i ob ri b ho hl hE' hb
   refine .inr ?_
   cases i with
   |succ i=>simp at ho
   |zero=>
    rw [hri] at hE';cases hE'
    exact ⟨0,_,_,rfl,rfl,hri,hb⟩
theorem sort_fc (enc:α→List Value) (cf:α→α→Int) (ltD:List D→List D→Bool) (ex:List PV) (ev:List Value) (hex:∀ E Pp vs,VRL tt E Pp vs ex→vs=ev)
  (hk:∀ x,(enc x).length=(cksOf tt e).length)
  (hS:∀ (blk off cap:Nat) (d:Array α) (w:World),HoldsK enc (cksOf tt e).length w blk off d→blk<w.heap.size→d.size<4611686018427387904→(∀ b,globOf tt=some b→b≠blk∧∃ m:Int,w.cell? ⟨b,0,none⟩=some (.int .i64 m))→
   Calls P f ⟨.slice (some ⟨blk,off,none⟩) d.size cap::ev⟩ w fun e' w'=>e'= .returned (.tuple #[])∧∃ d' n os,PermIn 0 d.size d d'∧SortedIn (ltOf cf) 0 d.size d'∧w'=sortWorldK enc (cksOf tt e).length w blk off n d' os)
  (hN:∀ (p:Option Addr) (cap:Nat) (w:World),Calls P f ⟨.slice p 0 cap::ev⟩ w fun e' w'=>e'= .returned (.tuple #[])∧w'=w)
  (hE:∀ args w,(callFunc f args).run P w= .ok (.enter f args) w)
  (rows:List (List D)) (hn:rows.length<4611686018427387904)
  (hα:∀ Pp us row,row∈rows→RelV tt Pp e us row→∃ x:α,enc x=us)
  (hlt:∀ Pp x y rx ry,RelV tt Pp e (enc x) rx→RelV tt Pp e (enc y) ry→ltOf cf x y=ltD rx ry)
  {K:PV→List Ob→Prop} (h:∀ rows',rows'.Perm rows→(∀ i j (hi:i<rows'.length) (hj:j<rows'.length),i<j→ltD rows'[j] rows'[i]=false)→K (.tup []) [.row e (.list rows') true]):
  FC P tt f [.row e (.list rows) true] (.row e 0::ex) K:=fun E Pp w vals hw hv=>
 sort_core enc cf ltD ex ev hex hk (fun blk off cap d h1 h2 h3 h4=>hS blk off cap d w h1 h2 h3 fun b hb=>by
  obtain ⟨m,hm⟩:=hw.gl b hb
  exact ⟨h4 _ _ hm,m,hw.piN hm⟩) hN hE rows hn (hα Pp) (hlt Pp) h hw hv
end
theorem grow_of_fr {own:Nat→Prop} {w w':World} (h:Fr own w w') (hn:∀ b,¬own b):∃ q os',w'=Go.Sort.grow (w.drewN q) os':=by
 refine ⟨w'.drawn-w.drawn,w'.heap.extract w.heap.size w'.heap.size,?_⟩
 have hd:=h.drawn
 have hh:w'.heap=w.heap++w'.heap.extract w.heap.size w'.heap.size:=by
  apply Array.ext_getElem?
  intro i
  rcases Nat.lt_or_ge i w.heap.size with hi|hi
  ·rw [Array.getElem?_append_left hi];exact h.block i hi (hn i)
  ·rw [Array.getElem?_append_right hi]
   simp only [Array.getElem?_extract]
   have:=h.size
   split
   ·congr 1;omega
   ·rw [Array.getElem?_eq_none (by omega)]
 cases w' with
 |mk heap tape drawn os output=>
  simp only [Go.Sort.grow,World.drewN]
  congr 1
  ·exact h.tape
  ·simp at hd ⊢;omega
  ·exact h.os
  ·exact h.output
theorem pc_sortWorld {α:Type} [Inhabited α] {enc:α→List Value} {k:Nat} {w:World} {blk off m:Nat} {dk:Array α} {os:Array Obj} {ad:Addr} {v:Value} (h:pc w ad=some v) (hne:ad.block≠blk):pc (sortWorldK enc k w blk off m dk os) ad=some v:=by
 rw [← h]
 have hb:=pc_lt h
 refine pc_same ?_
 simp only [sortWorldK,putRowK,putRow,grow,mapBlock,Sort.ahead]
 rw [Array.getElem?_append_left (by simp;exact hb),Array.getElem?_modify,if_neg (Ne.symm hne)]
def globP (tt:TypeId→Option TI) (w:World):Per:=fun ad v=>ad.spot=none∧globOf tt=some ad.block∧w.cell? ad=some v
theorem globP_pc {tt:TypeId→Option TI} {α:Type} [Inhabited α] {enc:α→List Value} {k:Nat} {w:World} {blk off m:Nat} {dk:Array α} {os:Array Obj} (hg:∀ b,globOf tt=some b→b≠blk∧∃ m:Int,w.cell? ⟨b,0,none⟩=some (.int .i64 m)):
  ∀ ad v,globP tt w ad v→pc (sortWorldK enc k w blk off m dk os) ad=some v:=fun ad v ⟨_,h2,h3⟩=>pc_sortWorld (pc_of_cell h3) (hg _ h2).1
theorem globP_gl {tt:TypeId→Option TI} {w:World} {blk:Nat} (hg:∀ b,globOf tt=some b→b≠blk∧∃ m:Int,w.cell? ⟨b,0,none⟩=some (.int .i64 m)):∀ b,globOf tt=some b→∃ m:Int,globP tt w ⟨b,0,none⟩ (.int .i64 m):=
 fun b hb=>(hg b hb).2.imp fun _ hm=>⟨rfl,hb,hm⟩
theorem cmp_calls {P:Program} {tt:TypeId→Option TI} {f:FuncId} {fn:Func} {c:Code} {args:List PV} {r:Int} (hf:Has P f fn c) {Pp:Per} (hfc:FC P tt f [] args fun v _=>v= .int .i64 r) {w:World} {vals:List Value} (hp:∀ ad v,Pp ad v→pc w ad=some v) (hg:∀ b,globOf tt=some b→∃ m:Int,Pp ⟨b,0,none⟩ (.int .i64 m)) (hv:VRL tt [] Pp vals args):
  Calls P f ⟨vals⟩ w fun e w'=>e= .returned (.int .i64 r)∧∃ q os',w'=Go.Sort.grow (w.drewN q) os':=by
 rcases hfc [] Pp w vals (WR.nil hp hg) hv with ⟨_,h⟩|⟨v,w',h,_⟩
 ·refine h.mono ?_
  rintro e w' ⟨v,E',Pp',objs',pv,rfl,_,_,_,hvr,rfl,hfr,_⟩
  cases hvr
  exact ⟨rfl,grow_of_fr hfr (fun b h=>own_nil h)⟩
 ·rw [enter_run hf.f hf.b hf.name] at h;cases h
end Go.VC
end

section
namespace Go.VC
theorem perm_map {α β:Type} {f:α→β} {l:List α} {r:List β} (h:r.Perm (l.map f)):∃ S:List α,S.Perm l∧r=S.map f:=by
 have h0:All2 (fun (b:β) (a:α)=>b=f a) (l.map f) l:=All2.of_get (by simp) fun i h1 h2=>by simp
 obtain ⟨S,h1,h2⟩:=All2.perm h h0
 refine ⟨S,h1,?_⟩
 clear h h0 h1
 induction h2 with
 |nil=>rfl
 |cons h t ih=>rw [h,ih];rfl
end Go.VC
namespace Go.Proofs
open Go.Shelf Go.RowKit Go.Lib Go.Sort
def encKS (x:List UInt8):List Value:=[encStr x]
def cfS (x y:List UInt8):Int:=if x<y then -1 else 1
theorem ltCfS (x y:List UInt8):ltOf cfS x y=decide (x<y):=by
 unfold ltOf cfS
 by_cases h:x<y<;>simp [h]
theorem sort87 (blk off cap:Nat) (d:Array (List UInt8)) (w:World) (hH:HoldsK encKS 1 w blk off d) (hblk:blk<w.heap.size) (hsz:d.size<4611686018427387904):
  Calls Tryz.prog 82 #[.slice (some ⟨blk,off,none⟩) d.size cap] w fun e w'=>e= .returned (.tuple #[])∧∃ d' n os,PermIn 0 d.size d d'∧SortedIn (ltOf cfS) 0 d.size d'∧w'=sortWorldK encKS 1 w blk off n d' os:=by
 have h:=Tryz.slices_Sort_string blk off cap d.toList w (by simpa using Go.VC.holds_one hH) hblk (by simpa using hsz)
 rw [Array.length_toList] at h
 refine h.mono ?_
 rintro e w' ⟨rfl,n,os,rfl⟩
 have hp:=List.mergeSort_perm d.toList fun x y=>decide (x≤y)
 have hs:=List.pairwise_mergeSort (le:=fun x y:List UInt8=>decide (x≤y)) (by intro a b c;simp;exact List.le_trans) (by intro a b;simp;exact List.le_total a b) d.toList
 obtain ⟨S,hS⟩:∃ S,S=d.toList.mergeSort fun x y=>decide (x≤y):=⟨_,rfl⟩
 rw [← hS] at hp hs ⊢
 have hl:S.length=d.size:=by rw [hp.length_eq];simp
 refine ⟨rfl,S.toArray,n,os,⟨by simp [hl],?_,?_⟩,?_,?_⟩
 ·intro i hi
  have hi:d.size≤i:=by omega
  rw [getElem!_neg _ i (by simp;omega),getElem!_neg d i (by omega)]
 ·rw [Array.extract_eq_self_of_le (by simp;omega),Array.extract_eq_self_of_le (by omega)]
  simpa using hp
 ·intro i j _ hij hj
  rw [getElem!_pos _ i (by simp;omega),getElem!_pos _ j (by simp;omega),ltCfS]
  have:=List.pairwise_iff_getElem.1 hs i j (by omega) (by omega) hij
  simp at this ⊢;exact this
 ·unfold sortWorldK putRowK
  rw [Go.VC.putRow_one];rfl
theorem sort87_none (p:Option Addr) (cap:Nat) (w:World):Calls Tryz.prog 82 #[.slice p 0 cap] w fun e w'=>e= .returned (.tuple #[])∧w'=w:=Tryz.slices_Sort_string_none p cap w
end Go.Proofs
namespace Go.VC.T07
open Go Go.VC Go.Proofs Go.Sort
theorem cks9:cksOf tt 9=[.str]:=by kernel_rfl
theorem rd_str {Pp:Per} {v:Value} {d:D} (h:RD tt Pp .str v d):∃ b:ByteArray,v= .string b∧d= .str b.data.toList:=by cases h;exact ⟨_,rfl,rfl⟩
def ltS1 (x y:List D):Bool:=slt (Std.asStr (x.getD 0 .nil)) (Std.asStr (y.getD 0 .nil))
theorem F82 {l:List S} {d:D} {K:PV→List Ob→Prop} (hd:d=encL encS l) (hn:l.length<4294967296)
  (h:∀ (m:List S) r,m.Perm l→m.Pairwise (fun a b=>slt b a=false)→r=encL encS m→K (.tup []) [.row 9 r true]):FC Tryz.prog tt 82 [.row 9 d true] [.row 9 0] K:=by
 subst hd
 have rel1:∀ {Pp:Per} {us:List Value} {row:List D},RelV tt Pp 9 us row→∃ b:ByteArray,us=[.string b]∧row=[.str b.data.toList]:=by
  intro Pp us row h
  obtain ⟨h1,h2,h3⟩:=h
  rw [cks9] at h1 h2 h3
  match us,row,h1,h2 with
  |[u0],[r0],_,_=>
   obtain ⟨v0,e0,q0⟩:=h3 0 r0 _ rfl rfl
   simp at e0;subst e0
   obtain ⟨b,rfl,rfl⟩:=rd_str q0
   exact ⟨b,rfl,rfl⟩
 have enc1:∀ {x:S} {b:ByteArray},encKS x=[.string b]→x=b.data.toList:=by
  intro x b h
  simp only [encKS,encStr,List.cons.injEq,Value.string.injEq,and_true] at h
  rw [← h]
 refine sort_fc (e:=9) encKS cfS ltS1 [] [] ex_nil (fun x=>by rw [cks9];rfl) ?_ ?_ (enters_of Tryz.func82 (by kernel_rfl) rfl) (l.map encS) (by simp;omega) ?_ ?_ ?_
 ·rw [cks9];exact fun blk off cap d w h1 h2 h3 _=>sort87 blk off cap d w h1 h2 h3
 ·exact sort87_none
 ·intro Pp us row hr hrel
  obtain ⟨b,rfl,_⟩:=rel1 hrel
  exact ⟨b.data.toList,by simp [encKS,encStr]⟩
 ·intro Pp x y rx ry h1 h2
  obtain ⟨a,e1,rfl⟩:=rel1 h1
  obtain ⟨a',e2,rfl⟩:=rel1 h2
  rw [ltCfS,enc1 e1,enc1 e2,←slt_eq];rfl
 ·intro rows' hp hs
  obtain ⟨m,h1,rfl⟩:=perm_map hp
  refine h m _ h1 ?_ rfl
  rw [List.pairwise_iff_getElem]
  intro i j hi hj hij
  have:=hs i j (by simpa using hi) (by simpa using hj) hij
  simpa [ltS1,encS,Std_str] using this
end Go.VC.T07
end

section
namespace Go.VC
abbrev U:=S×S
def encU (x:U):List D:=[.str x.1,.str x.2]
def ltU (a b:U):Bool:=if a.1=b.1 then slt a.2 b.2 else slt a.1 b.1
def cmpS (a b:S):Int:=if slt a b then -1 else if slt b a then 1 else 0
def cmpU (a b:U):Int:=if cmpS a.1 b.1≠0 then cmpS a.1 b.1 else cmpS a.2 b.2
theorem cmpS_eq {a b:S}:cmpS a b=0↔a=b:=by
 unfold cmpS
 split
 ·rename_i h;constructor
  ·intro e;omega
  ·intro e;subst e;rw [slt_irrefl] at h;cases h
 ·rename_i h
  split
  ·rename_i h2;constructor
   ·intro e;omega
   ·intro e;subst e;rw [slt_irrefl] at h2;cases h2
  ·rename_i h2;simp only [true_iff];exact slt_tri (by simpa using h) (by simpa using h2)
theorem cmpS_lt {a b:S}:(cmpS a b<0)↔slt a b=true:=by
 unfold cmpS
 split
 ·rename_i h;simp [h]
 ·rename_i h
  split<;>simp [h]
theorem cmpU_lt {a b:U}:decide (cmpU a b<0)=ltU a b:=by
 unfold cmpU ltU
 by_cases h:a.1=b.1
 ·rw [if_neg (by simp [cmpS_eq.2 h]),if_pos h]
  cases hb:slt a.2 b.2 with
  |true=>rw [decide_eq_true_iff];exact cmpS_lt.2 hb
  |false=>rw [decide_eq_false_iff_not];intro h2;rw [cmpS_lt.1 h2] at hb;cases hb
 ·rw [if_pos (fun e=>h (cmpS_eq.1 e)),if_neg h]
  cases hb:slt a.1 b.1 with
  |true=>rw [decide_eq_true_iff];exact cmpS_lt.2 hb
  |false=>rw [decide_eq_false_iff_not];intro h2;rw [cmpS_lt.1 h2] at hb;cases hb
theorem ltU_irrefl (a:U):ltU a a=false:=by unfold ltU;rw [if_pos rfl,slt_irrefl]
theorem ltU_trans {a b c:U} (h:ltU a b=true) (h':ltU b c=true):ltU a c=true:=by
 unfold ltU at*
 by_cases e1:a.1=b.1
 ·rw [if_pos e1] at h
  by_cases e2:b.1=c.1
  ·rw [if_pos e2] at h';rw [if_pos (e1.trans e2)];exact slt_trans h h'
  ·rw [if_neg e2] at h';rw [if_neg (fun e=>e2 (e1.symm.trans e)),e1];exact h'
 ·rw [if_neg e1] at h
  by_cases e2:b.1=c.1
  ·rw [if_pos e2] at h';rw [if_neg (fun e=>e1 (e.trans e2.symm)),←e2];exact h
  ·rw [if_neg e2] at h'
   have ht:=slt_trans h h'
   rw [if_neg (fun e=>by rw [e,slt_irrefl] at ht;cases ht)];exact ht
theorem ltU_tri {a b:U} (h:ltU a b=false) (h':ltU b a=false):a=b:=by
 unfold ltU at*
 by_cases e1:a.1=b.1
 ·rw [if_pos e1] at h;rw [if_pos e1.symm] at h'
  exact Prod.ext e1 (slt_tri h h')
 ·rw [if_neg e1] at h;rw [if_neg (fun e=>e1 e.symm)] at h'
  exact absurd (slt_tri h h') e1
theorem swoU:Go.Sort.SWO ltU where
 irrefl x:=ltU_irrefl x
 trans x y z h1 h2:=ltU_trans h1 h2
 ntrans x y z h1 h2:=by
  cases hb:ltU x z with
  |false=>rfl
  |true=>
   exfalso
   cases h3:ltU y x with
   |true=>have:=ltU_trans h3 hb;rw [this] at h2;cases h2
   |false=>have:=ltU_tri h1 h3;subst this;rw [hb] at h2;cases h2
end Go.VC
namespace Go.VC.T07
open Go Go.VC Go.Proofs Go.Sort
theorem F142 {s:S} {K:PV→List Ob→Prop} (h:∀ b,b=false→K (.bool b) []):FC Tryz.prog tt 142 [] [.str s] K:=by
 refine FC.enter (G:=g142) tt_ok mixed ⟨Tryz.func142,by rfl,rfl⟩ rfl rfl rfl ?_
 intro A C L X
 have q:=h (A.not (A.seq s s)) (by rw [X.a,Std_not,Std_seq];simp)
 cbv
 exact q
theorem F85 {a b:S} {K:PV→List Ob→Prop} (h:∀ r,r=cmpS a b→K (.int .i64 r) []):FC Tryz.prog tt 85 [] [.str a,.str b] K:=by
 refine FC.enter (G:=g85) tt_ok mixed ⟨Tryz.func85,by rfl,rfl⟩ rfl rfl rfl ?_
 intro A C L X
 cbv
 refine X.call (F142 fun b1 h1=> ?_)
 obtain rfl:=h1
 cbv
 refine X.call (F142 fun b2 h1=> ?_)
 obtain rfl:=h1
 cbv
 repeat' (first|apply And.intro|exact fun (_:FF)=>by kernel_rfl|(intro h2;cbv)|apply Or.inl)
 all_goals first
  |contradiction
  |(refine h _ ?_;unfold cmpS;obtain rfl:=X.a;simp only [SD,bNot] at *;simp [*];done)
  |(exfalso;obtain rfl:=X.a;simp only [SD,bNot] at *;simp at *;done)
  |skip
theorem F124 {l:List Int} {d:D} {x y:Int} {K:PV→List Ob→Prop} (hd:d=encJ [x,y]) (h:∀ r,r=(if x≠0 then x else y)→K (.int .i64 r) []):FC Tryz.prog tt 124 [] [.lst 3 d] K:=by
 have hlen:Std.len d=Int.ofNat 2:=by rw [hd,encJ_len];rfl
 have ha:∀ A:Alg,A=Std→A.asInt (A.cell d (Int.ofNat 0) 0)=x∧A.asInt (A.cell d (Int.ofNat 1) 0)=y:=by
  intro A hA;subst hA hd;simp only [encJ_cell];exact ⟨rfl,rfl⟩
 refine FC.enter (G:=g124) tt_ok mixed ⟨Tryz.func124,by rfl,rfl⟩ rfl rfl rfl ?_
 intro A C L X
 obtain ⟨k0,k1⟩:=ha A X.a
 cbv
 refine X.loop (fun (i:Nat)=>⟨[(8,.int .i64 i),(7,.int .i64 (A.len d)),(6,.lst 3 d),(3,.int .i64 0)],[]⟩) (fun i=>i≤2∧(1≤i→x=0)∧(2≤i→y=0)) (fun i=>2-i) 0 ⟨Nat.zero_le _,by omega,by omega⟩ ?_ ?_
 ·(cbv;repeat' apply And.intro);all_goals try first|trivial|rfl|(rw [X.a];rfl)
 rintro i ⟨hi,h5,h6⟩
 cbv
 refine ⟨fun h1=> ?_,fun h1=> ?_⟩
 ·have h7:i<2:=by obtain rfl:=X.a;simp only [hlen,SD,bNot] at h1;omega
  have hid:A.idx (Int.ofNat i) (A.len d):=by obtain rfl:=X.a;rw [hlen,Std_idx];simp only [Int.ofNat_eq_natCast];omega
  have hin:A.inr .i64 (A.add (Int.ofNat i) 1):=by rw [X.a];exact leaf_inc h7 (by omega)
  have hv:A.asInt (A.cell d (Int.ofNat i) 0)=(if i=0 then x else y):=by
   rcases (by omega:i=0∨i=1) with rfl|rfl
   ·exact k0
   ·exact k1
  cbv
  repeat' (first|apply And.intro|exact fun (_:FF)=>by kernel_rfl|(intro h2;cbv)|apply Or.inl)
  any_goals exact hid
  any_goals exact hin
  ·have e:¬(if i=0 then x else y)=0:=by rw [← hv];obtain rfl:=X.a;simpa only [SD,bNot] using h2
   refine h _ ?_
   refine hv.trans ?_
   by_cases hi0:i=0
   ·rw [if_pos hi0] at e ⊢;rw [if_pos e]
   ·rw [if_neg hi0] at e ⊢;rw [if_neg (by simp [h5 (by omega)])]
  ·have e:(if i=0 then x else y)=0:=by rename_i g3;rw [← hv];obtain rfl:=X.a;simpa only [SD,bNot] using g3
   refine ⟨i+1,⟨by omega,fun _=> ?_,fun _=> ?_⟩,by omega,?_⟩
   ·by_cases hi0:i=0
    ·rw [if_pos hi0] at e;exact e
    ·exact h5 (by omega)
   ·rw [if_neg (by omega)] at e;exact e
   (cbv;repeat' apply And.intro);all_goals try first|trivial|rfl|(rw [X.a];rfl)
 ·have h7:i=2:=by obtain rfl:=X.a;simp only [hlen,SD,bNot] at h1;omega
  cbv
  refine h 0 ?_
  rw [if_neg (by simp [h5 (by omega)]),h6 (by omega)]
theorem F123 {a b:U} {K:PV→List Ob→Prop} (h:∀ r,r=cmpU a b→K (.int .i64 r) []):FC Tryz.prog tt 123 [] [.agg [.str a.1,.str a.2],.agg [.str b.1,.str b.2]] K:=by
 obtain ⟨a1,a2⟩:=a
 obtain ⟨b1,b2⟩:=b
 refine FC.enter (G:=g123) tt_ok mixed ⟨Tryz.func123,by rfl,rfl⟩ rfl rfl rfl ?_
 intro A C L X
 cbv
 repeat' (first|apply And.intro|exact fun (_:FF)=>by kernel_rfl|(intro h2;cbv)|apply Or.inl)
 refine X.call (F85 fun r1 h1=> ?_)
 cbv
 repeat' (first|apply And.intro|exact fun (_:FF)=>by kernel_rfl|(intro h2;cbv)|apply Or.inl)
 refine X.call (F85 fun r2 h2'=> ?_)
 have hd:A.lit [[.int r1],[.int r2]]=encJ [r1,r2]:=by rw [X.a];rfl
 cbv
 repeat' (first|apply And.intro|exact fun (_:FF)=>by kernel_rfl|(intro h2;cbv)|apply Or.inl)
 refine X.call (F124 (l:=[]) hd fun r hr=> ?_)
 cbv
 repeat' (first|apply And.intro|exact fun (_:FF)=>by kernel_rfl|(intro h2;cbv)|apply Or.inl)
 refine h _ ?_
 rw [hr,h1,h2'];rfl
end Go.VC.T07
end

section
namespace Go.Proofs
open Go.Shelf Go.RowKit Go.Lib Go.Sort Go.VC
abbrev UB:=ByteArray×ByteArray
instance:Inhabited UB:=⟨(⟨#[]⟩,⟨#[]⟩)⟩
def UB.u (x:UB):U:=(x.1.data.toList,x.2.data.toList)
def encUV (x:UB):List Value:=[.string x.1,.string x.2]
def cfU (x y:UB):Int:=cmpU x.u y.u
theorem ltCfU (x y:UB):ltOf cfU x y=ltU x.u y.u:=cmpU_lt
theorem swoUB:SWO (ltOf cfU) where
 irrefl x:=by rw [ltCfU];exact swoU.irrefl _
 trans x y z h1 h2:=by rw [ltCfU] at *;exact swoU.trans _ _ _ h1 h2
 ntrans x y z h1 h2:=by rw [ltCfU] at *;exact swoU.ntrans _ _ _ h1 h2
theorem sort118 (blk off cap:Nat) (d:Array UB) (w:World) (hH:HoldsK encUV 2 w blk off d) (hblk:blk<w.heap.size) (hsz:d.size<4611686018427387904) (hg:∀ b,globOf T07.tt=some b→b≠blk∧∃ m:Int,w.cell? ⟨b,0,none⟩=some (.int .i64 m)):
  Calls Tryz.prog 171 #[.slice (some ⟨blk,off,none⟩) d.size cap,.func (.func 123) #[] #[]] w fun e w'=>e= .returned (.tuple #[])∧∃ d' n os,PermIn 0 d.size d d'∧SortedIn (ltOf cfU) 0 d.size d'∧w'=sortWorldK encUV 2 w blk off n d' os:=by
 have eg:∀ args w,(callFunc 123 args).run Tryz.prog w= .ok (.enter 123 args) w:=enters_of Tryz.func123 (by kernel_rfl) rfl
 have hcmp:CmpLays Tryz.prog 123 #[] encUV 2 cfU blk off d.size w:=by
  intro m os dk _ x y
  refine cmp_calls (r:=cfU x y) ⟨Tryz.func123,by rfl,rfl⟩ (T07.F123 (a:=x.u) (b:=y.u) fun r hr=> ?_) (globP_pc hg) (globP_gl hg) ?_
  ·rw [hr];rfl
  ·exact .cons _ _ _ _ (.agg _ _ (.cons _ _ _ _ (.str _) (.cons _ _ _ _ (.str _) .nil))) (.cons _ _ _ _ (.agg _ _ (.cons _ _ _ _ (.str _) (.cons _ _ _ _ (.str _) .nil))) .nil)
 exact AnyQ.slices_SortFunc Tryz.sortUse 2 Tryz.isAgg124 Tryz.sizeOf124 encUV (fun _=>rfl) (fun x v hv=>by simp [encUV] at hv;rcases hv with rfl|rfl<;>rfl) cfU swoUB 123 #[] blk off cap d w eg hcmp hH hblk hsz
theorem sort118_none (p:Option Addr) (cap:Nat) (w:World):Calls Tryz.prog 171 #[.slice p 0 cap,.func (.func 123) #[] #[]] w fun e w'=>e= .returned (.tuple #[])∧w'=w:=
 AnyF.slices_SortFunc_none Tryz.sortUse p cap _ w
end Go.Proofs
namespace Go.VC.T07
open Go Go.VC Go.Proofs Go.Sort
theorem cks99:cksOf tt 124=[.str,.str]:=by kernel_rfl
def ltUD (x y:List D):Bool:=ltU (Std.asStr (x.getD 0 .nil),Std.asStr (x.getD 1 .nil)) (Std.asStr (y.getD 0 .nil),Std.asStr (y.getD 1 .nil))
theorem F171 {l:List U} {d:D} {K:PV→List Ob→Prop} (hd:d=encL encU l) (hn:l.length<4294967296)
  (h:∀ (m:List U) r,m.Perm l→m.Pairwise (fun a b=>ltU b a=false)→r=encL encU m→K (.tup []) [.row 124 r true]):FC Tryz.prog tt 171 [.row 124 d true] [.row 124 0,.clos 123 []] K:=by
 subst hd
 have rel1:∀ {Pp:Per} {us:List Value} {row:List D},RelV tt Pp 124 us row→∃ a b:ByteArray,us=[.string a,.string b]∧row=[.str a.data.toList,.str b.data.toList]:=by
  intro Pp us row h
  obtain ⟨h1,h2,h3⟩:=h
  rw [cks99] at h1 h2 h3
  match us,row,h1,h2 with
  |[u0,u1],[r0,r1],_,_=>
   obtain ⟨v0,e0,q0⟩:=h3 0 r0 _ rfl rfl
   obtain ⟨v1,e1,q1⟩:=h3 1 r1 _ rfl rfl
   simp at e0 e1;subst e0;subst e1
   obtain ⟨a,rfl,rfl⟩:=rd_str q0
   obtain ⟨b,rfl,rfl⟩:=rd_str q1
   exact ⟨a,b,rfl,rfl⟩
 refine sort_fc (e:=124) encUV cfU ltUD [.clos 123 []] [.func (.func 123) #[] #[]] (ex_clos rfl) (fun x=>by rw [cks99];rfl) ?_ ?_ (enters_of Tryz.func171 (by kernel_rfl) rfl) (l.map encU) (by simp;omega) ?_ ?_ ?_
 ·rw [cks99];exact fun blk off cap d w h1 h2 h3 hg=>sort118 blk off cap d w h1 h2 h3 hg
 ·exact sort118_none
 ·intro Pp us row hr hrel
  obtain ⟨a,b,rfl,_⟩:=rel1 hrel
  exact ⟨(a,b),rfl⟩
 ·intro Pp x y rx ry h1 h2
  obtain ⟨a,b,e1,rfl⟩:=rel1 h1
  obtain ⟨a',b',e2,rfl⟩:=rel1 h2
  simp only [encUV,List.cons.injEq,Value.string.injEq,and_true] at e1 e2
  obtain ⟨x1,x2⟩:=x
  obtain ⟨y1,y2⟩:=y
  simp only at e1 e2
  obtain ⟨rfl,rfl⟩:=e1
  obtain ⟨rfl,rfl⟩:=e2
  rw [ltCfU];rfl
 ·intro rows' hp hs
  obtain ⟨m,h1,rfl⟩:=perm_map hp
  refine h m _ h1 ?_ rfl
  rw [List.pairwise_iff_getElem]
  intro i j hi hj hij
  have:=hs i j (by simpa using hi) (by simpa using hj) hij
  simpa [ltUD,encU,Std_str] using this
end Go.VC.T07
end

section
namespace Go.VC
def encKB (x:S×Bool):List D:=[.str x.1,.bool x.2]
theorem keys_perm {α β:Type} {m:List α} {x0:α} {f:α→β} {ks:List Int} (hnd:ks.Nodup) (hb:∀ j∈ks,0≤j∧j<m.length) (ha:∀ j:Nat,j<m.length→(j:Int)∈ks):(ks.map fun j=>f (m.getD j.toNat x0)).Perm (m.map f):=by
 have hp:ks.Perm ((List.range m.length).map fun j:Nat=>(j:Int)):=by
  rw [List.perm_ext_iff_of_nodup hnd]
  ·intro j
   simp only [List.mem_map,List.mem_range]
   constructor
   ·intro hj
    have:=hb j hj
    exact ⟨j.toNat,by omega,by omega⟩
   ·rintro ⟨k,hk,rfl⟩;exact ha k hk
  ·refine List.Pairwise.map _ ?_ List.nodup_range
   intro a b hab h;exact hab (by omega)
 have h2:=hp.map fun j=>f (m.getD j.toNat x0)
 rw [List.map_map] at h2
 have h3:(List.range m.length).map ((fun j:Int=>f (m.getD j.toNat x0))∘fun j:Nat=>(j:Int))=m.map f:=by
  apply List.ext_getElem (by simp)
  intro i h1 h2
  simp at h1
  simp [h1]
 rw [h3] at h2
 exact h2
theorem nd_le:∀ (n:Nat) (l:List Int),l.Nodup→(∀ j∈l,0≤j∧j<(n:Int))→l.length≤n
 |0,[],_,_=>Nat.le_refl _
 |0,x::l,_,h=>by have:=h x (by simp);omega
 |n+1,l,hnd,h=>by
  have h1:=nd_le n (l.erase (n:Int)) (hnd.erase _) (fun j hj=>by
   have h2:=h j (List.mem_of_mem_erase hj)
   have h3:j≠(n:Int):=fun e=>by subst e;exact (List.Nodup.not_mem_erase hnd) hj
   omega)
  have:=List.le_length_erase (a:=(n:Int)) (l:=l)
  omega
theorem keys_lt {ks:List Int} {n:Nat} (hnd:ks.Nodup) (hb:∀ j∈ks,0≤j∧j<(n:Int)) {i:Nat} (hi:i<n) (hn:(Int.ofNat i)∉ks):ks.length<n:=by
 have h1:(Int.ofNat i::ks).Nodup:=List.nodup_cons.2 ⟨hn,hnd⟩
 have h2:(Int.ofNat i::ks) ⊆ (List.range n).map fun j:Nat=>(j:Int):=by
  intro j hj
  rw [List.mem_map]
  rcases List.mem_cons.1 hj with rfl|hj
  ·exact ⟨i,by simpa using hi,rfl⟩
  ·have:=hb j hj
   exact ⟨j.toNat,by simp;omega,by omega⟩
 have h3:=nd_le n _ h1 (fun j hj=>by
  obtain ⟨k,hk,rfl⟩:=List.mem_map.1 (h2 hj)
  simp at hk;omega)
 simp at h3
 omega
end Go.VC
namespace Go.VC.T07
open Go Go.VC Go.Proofs
theorem F77 {d:D} {K:PV→List Ob→Prop} (h:K (.clos 126 [.box 1 0]) [.map .str 4 d,.box [.mp 0]]):FC Tryz.prog tt 77 [.map .str 4 d] [.mp 0] K:=by
 refine FC.enterLive (G:=g77a) tt_ok mixed ⟨Tryz.func77,by rfl,rfl⟩ rfl rfl rfl ?_
 intro A C L X
 cbv
 exact h
theorem F126 {m:List (S×Bool)} {d:D} {c1 c2:Code} {K:PV→List Ob→Prop} (hd:d=encL encKB m)
  (hy:∀ (k:S) (l:List S) (r:D) (K':PV→List Ob→Prop),r=encL encS l→l.length<m.length→(∀ r',r'=encL encS (l++[k])→K' (.bl true) [.loop 13 [7] c1 c2 [(2,.box 1 0)] .ready,.box [.row 9 3],.dead,.row 9 r' true])→YC Tryz.prog tt [.loop 13 [7] c1 c2 [(2,.box 1 0)] .ready,.box [.row 9 2],.row 9 r true] [.str k] K')
  (h:∀ (l:List S) (r:D),r=encL encS l→l.Perm (m.map (·.1))→K (.tup []) [.loop 13 [7] c1 c2 [(2,.box 2 0)] .ready,.box [.mp 3],.box [.row 9 5],.map .str 4 d,.dead,.row 9 r true]):
  FC Tryz.prog tt 126 [.loop 13 [7] c1 c2 [(2,.box 2 0)] .ready,.box [.mp 3],.box [.row 9 4],.map .str 4 d,.row 9 (.list []) true] [.yld 0,.box 1 0] K:=by
 refine FC.enterLive (G:=g126a) tt_ok mixed ⟨Tryz.func126,by rfl,rfl⟩ rfl rfl rfl ?_
 intro A C L X
 have hen:(A=Std):=X.a
 cbv
 refine X.loopP (fun (x:List Int×D×D)=>⟨[(5,.it 6),(4,.mp 3),(0,.yld 0),(1,.box 1 0)],[.loop 13 [7] c1 c2 [(2,.box 2 0)] .ready,.box [.mp 3],.box [.row 9 5],.map .str 4 d,.dead,.row 9 x.2.2 true,.iter 3 x.2.1]⟩)
  (fun x=>x.2.1=encJ x.1∧x.2.2=encL encS (x.1.map fun j=>(m.getD j.toNat ([],false)).1)∧x.1.Nodup∧∀ j∈x.1,0≤j∧j<m.length) (fun x=>m.length-x.1.length) ([],.list [],.list []) ⟨rfl,rfl,by simp,by simp⟩ ?_ ?_
 ·refine ⟨[0,1,2,3,4,5,6],rfl,?_⟩
  (cbv;repeat' apply And.intro);all_goals try first|trivial|rfl|(rw [X.a];rfl)
 rintro ⟨ks,z,r⟩ ⟨hz,hr,hnd,hb⟩
 simp only at hz hr hnd hb
 cbv
 refine ⟨fun h1=> ?_,fun j h1=> ?_⟩
 ·cbv
  have ha:=Std_allSeen (m:=m) (f:=encKB) (l:=ks) (by rw [← hd,←hz,←X.a];exact h1)
  refine h _ r hr ?_
  exact keys_perm hnd hb ha
 ·obtain ⟨u0,u1,u2⟩:0≤j∧j<m.length∧j∉ks:=Std_unseen (by rw [← hd,←hz,←X.a];exact h1)
  have hsee:A.see z j=encJ (ks++[j]):=by rw [X.a,hz,Std_see]
  have hlast:A.last (A.see z j)=j:=by rw [hsee,X.a,Std_last]
  obtain ⟨i,rfl⟩:∃ i:Nat,j=Int.ofNat i:=⟨j.toNat,by simp only [Int.ofNat_eq_natCast];omega⟩
  have hi:i<m.length:=by simp only [Int.ofNat_eq_natCast] at u1;omega
  have hk:A.asStr (A.cell d (A.last (A.see z (Int.ofNat i))) 0)=(m.getD i ([],false)).1:=by
   rw [hlast,cellAt X.a hd hi,X.a]
   simp [encKB,Std_str,hi]
  have g1:A.idx 0 (A.len (A.see z (Int.ofNat i))):=by rw [hsee,X.a,encJ_len,Std_idx];simp
  have g2:A.idx (A.last (A.see z (Int.ofNat i))) (A.len d):=by rw [hlast,X.a,hd];exact leaf_idx hi
  cbv
  refine ⟨g1,g2,?_⟩
  have hkl:(ks.map fun j=>(m.getD j.toNat ([],false)).1).length<m.length:=by
   rw [List.length_map]
   exact keys_lt hnd hb (i:=i) hi u2
  refine X.round (hy _ _ _ _ hr hkl fun r' hr'=> ?_)
  cbv
  refine ⟨(ks++[Int.ofNat i],A.see z (Int.ofNat i),r'),⟨hsee,?_,?_,?_⟩,?_,[0,1,2,3,4,7,6],rfl,?_⟩
  ·show r'=_
   rw [hr',hk];simp
  ·rw [List.nodup_append];exact ⟨hnd,by simp,fun a ha b hb=>by simp at hb;subst hb;exact fun e=>u2 (show (i:Int)∈ks from e▸ha)⟩
  ·intro j hj
   rcases List.mem_append.1 hj with hj|hj
   ·exact hb j hj
   ·simp only [List.mem_singleton] at hj;subst hj;exact ⟨u0,u1⟩
  ·simp only [List.length_append,List.length_map] at *;simp;omega
  ·(cbv;repeat' apply And.intro);all_goals try first|trivial|rfl|(rw [X.a];rfl)
theorem F173 {m:List (S×Bool)} {d:D} {K:PV→List Ob→Prop} (hd:d=encL encKB m) (hm:m.length<4294967296)
  (h:∀ (l:List S) (r:D),r=encL encS l→l.Perm (m.map (·.1))→K (.row 9 3) [.dead,.box [.mp 2],.map .str 4 d,.row 9 r true]):
  FC Tryz.prog tt 173 [.row 9 (.list []) true,.box [.mp 2],.map .str 4 d] [.row 9 0,.clos 126 [.box 1 0]] K:=by
 refine FC.enterLive (G:=g173a) tt_ok mixed ⟨Tryz.func173,by rfl,rfl⟩ rfl rfl rfl ?_
 intro A C L X
 cbv
 refine X.range rfl ⟨Tryz.func126,by rfl,rfl⟩ rfl [(2,.box 4 0)] ?_ ?_
 ·cbv
 cbv
 refine X.call (F126 hd ?_ ?_)
 ·intro k l r K' hr hl hK
  refine YC.enter (G:=g173r) tt_ok mixed rfl rfl rfl rfl rfl ?_
  intro A C L X
  have hb:A.bnd (A.add (A.len r) (A.len (A.lit [[.str k]]))) 4294967296:=by
   obtain rfl:=X.a;rw [hr];simp only [SD,bNot];omega
  have q:=hK (A.app r (A.lit [[.str k]])) (by rw [X.a,hr];exact Std_app (k:=[k]))
  cbv
  exact ⟨hb,q⟩
 ·intro l r hr hp
  cbv
  exact h l r hr hp
theorem F125 {m:List (S×Bool)} {d:D} {K:PV→List Ob→Prop} (hd:d=encL encKB m) (hm:m.length<4294967296)
  (h:∀ (l:List S) (r:D),r=encL encS l→l.Perm (m.map (·.1))→K (.row 9 2) [.box [.mp 1],.map .str 4 d,.row 9 r true]):
  FC Tryz.prog tt 125 [.box [.mp 1],.map .str 4 d] [.clos 126 [.box 0 0]] K:=by
 refine FC.enterLive (G:=g125) tt_ok mixed ⟨Tryz.func125,by rfl,rfl⟩ rfl rfl rfl ?_
 intro A C L X
 cbv
 refine X.call (F173 hd hm fun l r hr hp=> ?_)
 cbv
 exact h l r hr hp
end Go.VC.T07
end

section
namespace Go.VC
def addK (m:List (S×Bool)) (k:S):List (S×Bool):=match m with
 |[]=>[(k,true)]
 |x::r=>if k=x.1 then (k,true)::r else x::addK r k
theorem Std_addK {m:List (S×Bool)} {k:S}:Std.mset (encL encKB m) (.str k) [.bool true]=encL encKB (addK m k):=by
 simp only [Std,std,encL,rowsD]
 congr 1
 induction m with
 |nil=>rfl
 |cons x m ih=>
  have hk:hasKey (.str k) (encKB x)=(k==x.1):=rfl
  simp only [List.map_cons,setKey,addK]
  rw [hk]
  by_cases h:k=x.1
  ·rw [if_pos (by simp [h]),if_pos h];rfl
  ·rw [if_neg (by simp [h]),if_neg h,List.map_cons,←ih]
def addKs (m:List (S×Bool)) (l:List S):List (S×Bool):=l.foldl addK m
theorem addKs_snoc {m:List (S×Bool)} {l:List S} {k:S}:addKs m (l++[k])=addK (addKs m l) k:=by simp [addKs]
theorem addK_keys {m:List (S×Bool)} {k s:S}:s∈(addK m k).map (·.1)↔s=k∨s∈m.map (·.1):=by
 induction m with
 |nil=>simp [addK]
 |cons x m ih=>
  simp only [addK]
  split
  ·rename_i h;simp only [List.map_cons,List.mem_cons,←h];constructor
   ·rintro (h1|h1);exact .inl h1;exact .inr (.inr h1)
   ·rintro (h1|h1|h1);exact .inl h1;exact .inl h1;exact .inr h1
  ·simp only [List.map_cons,List.mem_cons,ih];constructor
   ·rintro (h1|h1|h1);exact .inr (.inl h1);exact .inl h1;exact .inr (.inr h1)
   ·rintro (h1|h1|h1);exact .inr (.inl h1);exact .inl h1;exact .inr (.inr h1)
theorem addK_nodup {m:List (S×Bool)} {k:S} (h:(m.map (·.1)).Nodup):((addK m k).map (·.1)).Nodup:=by
 induction m with
 |nil=>simp [addK]
 |cons x m ih=>
  rw [List.map_cons,List.nodup_cons] at h
  simp only [addK]
  split
  ·rename_i hk;rw [List.map_cons,List.nodup_cons];subst hk;exact h
  ·rename_i hk
   rw [List.map_cons,List.nodup_cons,addK_keys]
   exact ⟨fun h1=>by rcases h1 with h1|h1;exact hk h1.symm;exact h.1 h1,ih h.2⟩
theorem addKs_keys {l:List S}:∀ {m:List (S×Bool)} {s:S},s∈(addKs m l).map (·.1)↔s∈l∨s∈m.map (·.1):=by
 induction l with
 |nil=>intro m s;simp [addKs]
 |cons x l ih=>
  intro m s
  show s∈(addKs (addK m x) l).map (·.1)↔_
  rw [ih,addK_keys,List.mem_cons]
  constructor
  ·rintro (h|h|h);exact .inl (.inr h);exact .inl (.inl h);exact .inr h
  ·rintro ((h|h)|h);exact .inr (.inl h);exact .inl h;exact .inr (.inr h)
theorem addKs_nodup {l:List S}:∀ {m:List (S×Bool)},(m.map (·.1)).Nodup→((addKs m l).map (·.1)).Nodup:=by
 induction l with
 |nil=>intro m h;exact h
 |cons x l ih=>intro m h;exact ih (addK_nodup h)
def SrtS (l:List S):Prop:=l.Pairwise fun a b=>slt a b=true
theorem SrtS_of {l:List S} (h:l.Pairwise fun a b=>slt b a=false) (hn:l.Nodup):SrtS l:=by
 induction l with
 |nil=>exact List.Pairwise.nil
 |cons x l ih=>
  rw [List.pairwise_cons] at h
  rw [List.nodup_cons] at hn
  refine List.pairwise_cons.2 ⟨fun y hy=> ?_,ih h.2 hn.2⟩
  cases hb:slt x y with
  |true=>rfl
  |false=>exact absurd (slt_tri hb (h.1 y hy)) fun e=>hn.1 (e▸hy)
end Go.VC
namespace Go.VC.T07
open Go Go.VC Go.Proofs
theorem F76 {m:List (S×Bool)} {d:D} {K:PV→List Ob→Prop} (hd:d=encL encKB m) (hm:m.length<4294967296) (hn:(m.map (·.1)).Nodup)
  (h:∀ (l:List S) (r:D),r=encL encS l→SrtS l→(∀ s,s∈l↔s∈m.map (·.1))→K (.row 9 2) [.box [.mp 1],.map .str 4 d,.row 9 r true]):
  FC Tryz.prog tt 76 [.box [.mp 1],.map .str 4 d] [.clos 126 [.box 0 0]] K:=by
 refine FC.enterLive (G:=g76) tt_ok mixed ⟨Tryz.func76,by rfl,rfl⟩ rfl rfl rfl ?_
 intro A C L X
 cbv
 refine X.call (F125 hd hm fun l r hr hp=> ?_)
 cbv
 refine X.call (F82 hr (by rw [hp.length_eq];simpa using hm) fun l' r' hp' hs hr'=> ?_)
 cbv
 have hp2:=hp'.trans hp
 exact h l' r' hr' (SrtS_of hs (hp2.nodup_iff.2 hn)) fun s=>hp2.mem_iff
end Go.VC.T07
end

section
namespace Go.VC
def encUB (x:U×Bool):List D:=[.ptr [.str x.1.1,.str x.1.2],.bool x.2]
theorem Std_pcell {l:List D} {i:Nat}:Std.pcell (.ptr l) i=l.getD i .nil:=rfl
def addU (m:List (U×Bool)) (k:U):List (U×Bool):=match m with
 |[]=>[(k,true)]
 |x::r=>if k=x.1 then (k,true)::r else x::addU r k
theorem Std_addU {m:List (U×Bool)} {k:U}:Std.mset (encL encUB m) (.ptr [.str k.1,.str k.2]) [.bool true]=encL encUB (addU m k):=by
 simp only [Std,std,encL,rowsD]
 congr 1
 induction m with
 |nil=>rfl
 |cons x m ih=>
  have hk:hasKey (.ptr [.str k.1,.str k.2]) (encUB x)=(k==x.1):=rfl
  simp only [List.map_cons,setKey,addU]
  rw [hk]
  by_cases h:k=x.1
  ·rw [if_pos (by simp [h]),if_pos h];rfl
  ·rw [if_neg (by simp [h]),if_neg h,List.map_cons,←ih]
def addUs (m:List (U×Bool)) (l:List U):List (U×Bool):=l.foldl addU m
theorem addUs_app {m:List (U×Bool)} {l k:List U}:addUs m (l++k)=addUs (addUs m l) k:=by simp [addUs]
theorem addU_keys {m:List (U×Bool)} {k s:U}:s∈(addU m k).map (·.1)↔s=k∨s∈m.map (·.1):=by
 induction m with
 |nil=>simp [addU]
 |cons x m ih=>
  simp only [addU]
  split
  ·rename_i h;simp only [List.map_cons,List.mem_cons,←h];constructor
   ·rintro (h1|h1);exact .inl h1;exact .inr (.inr h1)
   ·rintro (h1|h1|h1);exact .inl h1;exact .inl h1;exact .inr h1
  ·simp only [List.map_cons,List.mem_cons,ih];constructor
   ·rintro (h1|h1|h1);exact .inr (.inl h1);exact .inl h1;exact .inr (.inr h1)
   ·rintro (h1|h1|h1);exact .inr (.inl h1);exact .inl h1;exact .inr (.inr h1)
theorem addU_nodup {m:List (U×Bool)} {k:U} (h:(m.map (·.1)).Nodup):((addU m k).map (·.1)).Nodup:=by
 induction m with
 |nil=>simp [addU]
 |cons x m ih=>
  rw [List.map_cons,List.nodup_cons] at h
  simp only [addU]
  split
  ·rename_i hk;rw [List.map_cons,List.nodup_cons];subst hk;exact h
  ·rename_i hk
   rw [List.map_cons,List.nodup_cons,addU_keys]
   exact ⟨fun h1=>by rcases h1 with h1|h1;exact hk h1.symm;exact h.1 h1,ih h.2⟩
theorem addU_len {m:List (U×Bool)} {k:U}:(addU m k).length≤m.length+1:=by
 induction m with
 |nil=>simp [addU]
 |cons x m ih=>simp only [addU];split<;>simp;omega
theorem addUs_keys {l:List U}:∀ {m:List (U×Bool)} {s:U},s∈(addUs m l).map (·.1)↔s∈l∨s∈m.map (·.1):=by
 induction l with
 |nil=>intro m s;simp [addUs]
 |cons x l ih=>
  intro m s
  show s∈(addUs (addU m x) l).map (·.1)↔_
  rw [ih,addU_keys,List.mem_cons]
  constructor
  ·rintro (h|h|h);exact .inl (.inr h);exact .inl (.inl h);exact .inr h
  ·rintro ((h|h)|h);exact .inr (.inl h);exact .inl h;exact .inr (.inr h)
theorem addUs_nodup {l:List U}:∀ {m:List (U×Bool)},(m.map (·.1)).Nodup→((addUs m l).map (·.1)).Nodup:=by
 induction l with
 |nil=>intro m h;exact h
 |cons x l ih=>intro m h;exact ih (addU_nodup h)
theorem addUs_len {l:List U}:∀ {m:List (U×Bool)},(addUs m l).length≤m.length+l.length:=by
 induction l with
 |nil=>intro m;simp [addUs]
 |cons x l ih=>
  intro m
  have h1:=ih (m:=addU m x)
  have h2:=addU_len (m:=m) (k:=x)
  show (addUs (addU m x) l).length≤_
  simp;omega
def SrtU (l:List U):Prop:=l.Pairwise fun a b=>ltU a b=true
theorem SrtU_of {l:List U} (h:l.Pairwise fun a b=>ltU b a=false) (hn:l.Nodup):SrtU l:=by
 induction l with
 |nil=>exact List.Pairwise.nil
 |cons x l ih=>
  rw [List.pairwise_cons] at h
  rw [List.nodup_cons] at hn
  refine List.pairwise_cons.2 ⟨fun y hy=> ?_,ih h.2 hn.2⟩
  cases hb:ltU x y with
  |true=>rfl
  |false=>exact absurd (ltU_tri hb (h.1 y hy)) fun e=>hn.1 (e▸hy)
end Go.VC
namespace Go.VC.T07
open Go Go.VC Go.Proofs
theorem F122 {d:D} {K:PV→List Ob→Prop} (h:K (.clos 172 [.box 1 0]) [.map .str2 4 d,.box [.mp 0]]):FC Tryz.prog tt 122 [.map .str2 4 d] [.mp 0] K:=by
 refine FC.enterLive (G:=g122a) tt_ok mixed ⟨Tryz.func122,by rfl,rfl⟩ rfl rfl rfl ?_
 intro A C L X
 cbv
 exact h
theorem F172 {m:List (U×Bool)} {d:D} {c1 c2:Code} {K:PV→List Ob→Prop} (hd:d=encL encUB m)
  (hy:∀ (k:U) (l:List U) (r:D) (K':PV→List Ob→Prop),r=encL encU l→l.length<m.length→(∀ r',r'=encL encU (l++[k])→K' (.bl true) [.loop 13 [7] c1 c2 [(2,.box 1 0)] .ready,.box [.row 124 3],.dead,.row 124 r' true])→YC Tryz.prog tt [.loop 13 [7] c1 c2 [(2,.box 1 0)] .ready,.box [.row 124 2],.row 124 r true] [.agg [.str k.1,.str k.2]] K')
  (h:∀ (l:List U) (r:D),r=encL encU l→l.Perm (m.map (·.1))→K (.tup []) [.loop 13 [7] c1 c2 [(2,.box 2 0)] .ready,.box [.mp 3],.box [.row 124 5],.map .str2 4 d,.dead,.row 124 r true]):
  FC Tryz.prog tt 172 [.loop 13 [7] c1 c2 [(2,.box 2 0)] .ready,.box [.mp 3],.box [.row 124 4],.map .str2 4 d,.row 124 (.list []) true] [.yld 0,.box 1 0] K:=by
 refine FC.enterLive (G:=g172a) tt_ok mixed ⟨Tryz.func172,by rfl,rfl⟩ rfl rfl rfl ?_
 intro A C L X
 have hen:(A=Std):=X.a
 cbv
 refine X.loopP (fun (x:List Int×D×D)=>⟨[(5,.it 6),(4,.mp 3),(0,.yld 0),(1,.box 1 0)],[.loop 13 [7] c1 c2 [(2,.box 2 0)] .ready,.box [.mp 3],.box [.row 124 5],.map .str2 4 d,.dead,.row 124 x.2.2 true,.iter 3 x.2.1]⟩)
  (fun x=>x.2.1=encJ x.1∧x.2.2=encL encU (x.1.map fun j=>(m.getD j.toNat (([],[]),false)).1)∧x.1.Nodup∧∀ j∈x.1,0≤j∧j<m.length) (fun x=>m.length-x.1.length) ([],.list [],.list []) ⟨rfl,rfl,by simp,by simp⟩ ?_ ?_
 ·refine ⟨[0,1,2,3,4,5,6],rfl,?_⟩
  (cbv;repeat' apply And.intro);all_goals try first|trivial|rfl|(rw [X.a];rfl)
 rintro ⟨ks,z,r⟩ ⟨hz,hr,hnd,hb⟩
 simp only at hz hr hnd hb
 cbv
 refine ⟨fun h1=> ?_,fun j h1=> ?_⟩
 ·cbv
  have ha:=Std_allSeen (m:=m) (f:=encUB) (l:=ks) (by rw [← hd,←hz,←X.a];exact h1)
  refine h _ r hr ?_
  exact keys_perm hnd hb ha
 ·obtain ⟨u0,u1,u2⟩:0≤j∧j<m.length∧j∉ks:=Std_unseen (by rw [← hd,←hz,←X.a];exact h1)
  have hsee:A.see z j=encJ (ks++[j]):=by rw [X.a,hz,Std_see]
  have hlast:A.last (A.see z j)=j:=by rw [hsee,X.a,Std_last]
  obtain ⟨i,rfl⟩:∃ i:Nat,j=Int.ofNat i:=⟨j.toNat,by simp only [Int.ofNat_eq_natCast];omega⟩
  have hi:i<m.length:=by simp only [Int.ofNat_eq_natCast] at u1;omega
  have hk1:A.asStr (A.pcell (A.cell d (A.last (A.see z (Int.ofNat i))) 0) 0)=(m.getD i (([],[]),false)).1.1:=by
   rw [hlast,cellAt X.a hd hi,X.a]
   simp [encUB,Std_str,Std_pcell,hi]
  have hk2:A.asStr (A.pcell (A.cell d (A.last (A.see z (Int.ofNat i))) 0) 1)=(m.getD i (([],[]),false)).1.2:=by
   rw [hlast,cellAt X.a hd hi,X.a]
   simp [encUB,Std_str,Std_pcell,hi]
  have hk:(A.asStr (A.pcell (A.cell d (A.last (A.see z (Int.ofNat i))) 0) 0),A.asStr (A.pcell (A.cell d (A.last (A.see z (Int.ofNat i))) 0) 1))=(m.getD i (([],[]),false)).1:=Prod.ext hk1 hk2
  have g1:A.idx 0 (A.len (A.see z (Int.ofNat i))):=by rw [hsee,X.a,encJ_len,Std_idx];simp
  have g2:A.idx (A.last (A.see z (Int.ofNat i))) (A.len d):=by rw [hlast,X.a,hd];exact leaf_idx hi
  cbv
  refine ⟨g1,g2,?_⟩
  have hkl:(ks.map fun j=>(m.getD j.toNat (([],[]),false)).1).length<m.length:=by
   rw [List.length_map]
   exact keys_lt hnd hb (i:=i) hi u2
  refine X.round (hy (A.asStr (A.pcell (A.cell d (A.last (A.see z (Int.ofNat i))) 0) 0),A.asStr (A.pcell (A.cell d (A.last (A.see z (Int.ofNat i))) 0) 1)) _ _ _ hr hkl fun r' hr'=> ?_)
  cbv
  refine ⟨(ks++[Int.ofNat i],A.see z (Int.ofNat i),r'),⟨hsee,?_,?_,?_⟩,?_,[0,1,2,3,4,8,6],rfl,?_⟩
  ·show r'=_
   rw [hr',hk];simp
  ·rw [List.nodup_append];exact ⟨hnd,by simp,fun a ha b hb=>by simp at hb;subst hb;exact fun e=>u2 (show (i:Int)∈ks from e▸ha)⟩
  ·intro j hj
   rcases List.mem_append.1 hj with hj|hj
   ·exact hb j hj
   ·simp only [List.mem_singleton] at hj;subst hj;exact ⟨u0,u1⟩
  ·simp only [List.length_append,List.length_map] at *;simp;omega
  ·(cbv;repeat' apply And.intro);all_goals try first|trivial|rfl|(rw [X.a];rfl)
theorem F213 {m:List (U×Bool)} {d:D} {K:PV→List Ob→Prop} (hd:d=encL encUB m) (hm:m.length<4294967296)
  (h:∀ (l:List U) (r:D),r=encL encU l→l.Perm (m.map (·.1))→K (.row 124 3) [.dead,.box [.mp 2],.map .str2 4 d,.row 124 r true]):
  FC Tryz.prog tt 213 [.row 124 (.list []) true,.box [.mp 2],.map .str2 4 d] [.row 124 0,.clos 172 [.box 1 0]] K:=by
 refine FC.enterLive (G:=g213a) tt_ok mixed ⟨Tryz.func213,by rfl,rfl⟩ rfl rfl rfl ?_
 intro A C L X
 cbv
 refine X.range rfl ⟨Tryz.func172,by rfl,rfl⟩ rfl [(2,.box 4 0)] ?_ ?_
 ·cbv
 cbv
 refine X.call (F172 hd ?_ ?_)
 ·intro k l r K' hr hl hK
  refine YC.enter (G:=g213r) tt_ok mixed rfl rfl rfl rfl rfl ?_
  intro A C L X
  have hb:A.bnd (A.add (A.len r) (A.len (A.lit [[.str k.1,.str k.2]]))) 4294967296:=by
   obtain rfl:=X.a;rw [hr];simp only [SD,bNot];omega
  have q:=hK (A.app r (A.lit [[.str k.1,.str k.2]])) (by rw [X.a,hr];exact Std_app (k:=[k]))
  cbv
  exact ⟨hb,q⟩
 ·intro l r hr hp
  cbv
  exact h l r hr hp
theorem F170 {m:List (U×Bool)} {d:D} {K:PV→List Ob→Prop} (hd:d=encL encUB m) (hm:m.length<4294967296)
  (h:∀ (l:List U) (r:D),r=encL encU l→l.Perm (m.map (·.1))→K (.row 124 2) [.box [.mp 1],.map .str2 4 d,.row 124 r true]):
  FC Tryz.prog tt 170 [.box [.mp 1],.map .str2 4 d] [.clos 172 [.box 0 0]] K:=by
 refine FC.enterLive (G:=g170) tt_ok mixed ⟨Tryz.func170,by rfl,rfl⟩ rfl rfl rfl ?_
 intro A C L X
 cbv
 refine X.call (F213 hd hm fun l r hr hp=> ?_)
 cbv
 exact h l r hr hp
theorem F121 {m:List (U×Bool)} {d:D} {K:PV→List Ob→Prop} (hd:d=encL encUB m) (hm:m.length<4294967296) (hn:(m.map (·.1)).Nodup)
  (h:∀ (l:List U) (r:D),r=encL encU l→SrtU l→(∀ s,s∈l↔s∈m.map (·.1))→K (.row 124 2) [.box [.mp 1],.map .str2 4 d,.row 124 r true]):
  FC Tryz.prog tt 121 [.box [.mp 1],.map .str2 4 d] [.clos 172 [.box 0 0],.clos 123 []] K:=by
 refine FC.enterLive (G:=g121) tt_ok mixed ⟨Tryz.func121,by rfl,rfl⟩ rfl rfl rfl ?_
 intro A C L X
 cbv
 refine X.call (F170 hd hm fun l r hr hp=> ?_)
 cbv
 refine X.call (F171 hr (by rw [hp.length_eq];simpa using hm) fun l' r' hp' hs hr'=> ?_)
 cbv
 have hp2:=hp'.trans hp
 exact h l' r' hr' (SrtU_of hs (hp2.nodup_iff.2 hn)) fun s=>hp2.mem_iff
end Go.VC.T07
end

section
namespace Go.VC
theorem map_take {α β:Type} {f:α→β} {l:List α} {i:Nat} (h:i<l.length):(l.take (i+1)).map f=(l.take i).map f++[f l[i]]:=by rw [take_succ' h,List.map_append];rfl
end Go.VC
namespace Go.VC.T07
open Go Go.VC Go.Proofs
end Go.VC.T07
end

section
namespace Go.VC
def Ty.pts (t:Ty):List Ty:=t.ar++t.fl.map Fe.t
mutual
def Ty.size:Ty→Nat| .mk _ _ _ ar fl=>1+Ty.sizes ar+Ty.sizef fl
def Fe.size:Fe→Nat| .mk _ t _=>Ty.size t
def Ty.sizes:List Ty→Nat|[]=>0|t::l=>Ty.size t+Ty.sizes l
def Ty.sizef:List Fe→Nat|[]=>0|t::l=>Fe.size t+Ty.sizef l
end
theorem sizes_eq:∀ l:List Ty,Ty.sizes l=(l.map Ty.size).sum
 |[]=>by simp [Ty.sizes]
 |t::l=>by simp [Ty.sizes,sizes_eq l]
theorem sizef_eq:∀ l:List Fe,Ty.sizef l=((l.map Fe.t).map Ty.size).sum
 |[]=>by simp [Ty.sizef]
 | .mk s t b::l=>by simp [Ty.sizef,sizef_eq l,Fe.size,Fe.t]
theorem size_eq (t:Ty):t.size=1+(t.pts.map Ty.size).sum:=by
 cases t;simp only [Ty.size,sizes_eq,sizef_eq,Ty.pts,List.map_append,List.sum_append,Ty.ar,Ty.fl];omega
theorem pts_mem {t u:Ty} (h:u∈t.pts):(u∈t.ar)∨∃ f∈t.fl,f.t=u:=by
 rcases List.mem_append.1 h with h|h
 ·exact .inl h
 ·obtain ⟨f,h1,h2⟩:=List.mem_map.1 h;exact .inr ⟨f,h1,h2⟩
theorem Ty.pinduct {P:Ty→Prop} (h:∀ t:Ty,(∀ u∈t.pts,P u)→P t):∀ t,P t:=
 Ty.parts fun t h1 h2=>h t fun u hu=>by
  rcases pts_mem hu with hu|⟨f,hf,rfl⟩
  ·exact h1 u hu
  ·exact h2 f hf
theorem pts_le {n:Nat} {t:Ty} (h:Ty.le n t):∀ u∈t.pts,Ty.le n u:=fun u hu=>by
 rcases pts_mem hu with hu|⟨f,hf,rfl⟩
 ·exact tyLe_a h _ hu
 ·exact tyLe_f h _ hf
theorem sum_take {l:List Nat} {i:Nat} (h:i<l.length):(l.take (i+1)).sum=(l.take i).sum+l[i]:=by
 rw [List.take_succ_eq_append_getElem h,List.sum_append];simp
theorem sum_take_le {l:List Nat} {i:Nat}:(l.take i).sum≤l.sum:=by
 conv=>rhs;rw [← List.take_append_drop i l,List.sum_append]
 omega
end Go.VC
namespace Go.VC.T07
open Go Go.VC Go.Proofs
theorem F26 {t:Ty} (hle:Ty.le 4294967295 t) (hpl:t.pts.length≤4294967295) {c0:Int} {c1 c2:S} {c3 c4:D} {K:PV→List Ob→Prop} (ht:tyIs t c0 c1 c2 c3 c4)
  (h:∀ r,r=encL encTy t.pts→K (.lst 28 r) []):FC Tryz.prog tt 26 [] [tyPV c0 c1 c2 c3 c4] K:=by
 obtain ⟨t0,t1,t2,hc3,hc4⟩:=ht
 have hpl':t.ar.length+t.fl.length≤4294967295:=by simpa [Ty.pts] using hpl
 refine FC.enter (G:=g26) tt_ok mixed ⟨Tryz.func26,by rfl,rfl⟩ rfl rfl rfl ?_
 intro A C L X
 obtain ⟨n_c3,hn_c3,hlen_c3⟩:=lenOf hc3
 obtain ⟨n_c4,hn_c4,hlen_c4⟩:=lenOf hc4
 have hb:A.bnd (A.add (A.len (A.lit [])) (A.len c3)) 4294967296:=by rw [X.a];simp only [SD,bNot,hlen_c3];omega
 have q0:A.app (A.lit []) c3=encL encTy (t.ar++(t.fl.take 0).map Fe.t):=by rw [X.a,hc3];exact (Std_app (f:=encTy) (l:=[]) (k:=t.ar)).trans (by simp)
 cbv
 refine ⟨hb,?_⟩
 refine X.loopP (fun (y:Nat×D)=>⟨[(4,.int .i64 y.1),(3,.row 28 1),(1,.box 0 0)],[.box [.int .i64 c0,.str c1,.str c2,.lst 28 c3,.lst 65 c4],.row 28 y.2 true]⟩)
  (fun y=>y.1≤n_c4∧y.2=encL encTy (t.ar++(t.fl.take y.1).map Fe.t)) (fun y=>n_c4-y.1) (0,A.app (A.lit []) c3) ⟨Nat.zero_le _,q0⟩ ?_ ?_
 ·refine ⟨[0,1],rfl,?_⟩
  (cbv;repeat' apply And.intro);all_goals try first|trivial|rfl|(rw [X.a];rfl)
 rintro ⟨i,r⟩ ⟨hi,hr⟩
 simp only at hi hr
 cbv
 refine ⟨fun h1=> ?_,fun h1=> ?_⟩
 ·have h5:i<t.fl.length:=by obtain rfl:=X.a;simp only [hlen_c4,SD,bNot] at h1;omega
  obtain ⟨k0,k1,k2,k3,k4⟩:=fdTyAt X.a hc4 h5
  have hid:A.idx (Int.ofNat i) (A.len c4):=by rw [X.a,hc4];exact leaf_idx h5
  have hin:A.inr .i64 (A.add (Int.ofNat i) 1):=by rw [X.a];exact leaf_inc h5 (by omega)
  have hb2:A.bnd (A.add (A.len r) (A.len (A.lit [[.int (A.asInt (A.cell c4 (Int.ofNat i) 1)),.str (A.asStr (A.cell c4 (Int.ofNat i) 2)),.str (A.asStr (A.cell c4 (Int.ofNat i) 3)),A.cell c4 (Int.ofNat i) 4,A.cell c4 (Int.ofNat i) 5]]))) 4294967296:=by
   rw [X.a,hr];simp only [SD,bNot,List.length_map];omega
  have q1:A.app r (A.lit [[.int (A.asInt (A.cell c4 (Int.ofNat i) 1)),.str (A.asStr (A.cell c4 (Int.ofNat i) 2)),.str (A.asStr (A.cell c4 (Int.ofNat i) 3)),A.cell c4 (Int.ofNat i) 4,A.cell c4 (Int.ofNat i) 5]])=encL encTy (t.ar++(t.fl.take (i+1)).map Fe.t):=by
   rw [k0,k1,k2,k3,k4,X.a,hr,map_take h5,←List.append_assoc,←encTy_eq]
   exact Std_app (k:=[t.fl[i].t])
  cbv
  repeat' (first|apply And.intro|exact fun (_:FF)=>by kernel_rfl|(intro h2;cbv)|apply Or.inl)
  any_goals exact hid
  any_goals exact hb2
  any_goals exact hin
  refine ⟨(i+1,_),⟨?_,q1⟩,?_,[0,1],rfl,?_⟩
  ·simp only;omega
  ·simp only;omega
  (cbv;repeat' apply And.intro);all_goals try first|trivial|rfl|(rw [X.a];rfl)
 have h5:i=n_c4:=by obtain rfl:=X.a;simp only [hlen_c4,SD,bNot] at h1;omega
 subst h5
 rw [hn_c4,List.take_length] at hr
 cbv
 exact h r hr
theorem F9:∀ (t:Ty),Ty.le 4294967295 t→t.size≤4294967295→∀ {c0:Int} {c1 c2:S} {c3 c4:D} {K:PV→List Ob→Prop},tyIs t c0 c1 c2 c3 c4→(∀ r:Int,r=t.size→K (.int .i64 r) [])→FC Tryz.prog tt 9 [] [tyPV c0 c1 c2 c3 c4] K:=by
 refine Ty.pinduct fun t ih=> ?_
 intro hle hs c0 c1 c2 c3 c4 K ht h
 obtain ⟨f,hf⟩:∃ f:Nat→Nat,f=fun i=>((t.pts.map Ty.size).take i).sum:=⟨_,rfl⟩
 obtain ⟨tot,htot⟩:∃ n:Nat,n=(t.pts.map Ty.size).sum:=⟨_,rfl⟩
 have f0:f 0=0:=by rw [hf];simp
 have fs:∀ i (h:i<t.pts.length),f (i+1)=f i+t.pts[i].size:=fun i h=>by
  rw [hf];simp only
  rw [sum_take (l:=t.pts.map Ty.size) (i:=i) (by simpa using h),List.getElem_map]
 have fl:∀ i,f i≤tot:=fun i=>by rw [hf,htot];exact sum_take_le
 have fn:f t.pts.length=tot:=by rw [hf,htot];simp only;rw [List.take_of_length_le (by simp)]
 have hsz:t.size=1+tot:=by rw [size_eq,htot]
 rw [hsz] at hs h
 have hpl:t.pts.length≤tot:=by
  rw [htot]
  have:∀ l:List Ty,l.length≤(l.map Ty.size).sum:=by
   intro l
   induction l with
   |nil=>simp
   |cons x l ih=>simp only [List.length_cons,List.map_cons,List.sum_cons];have:=size_eq x;omega
  exact this _
 refine FC.enter (G:=g9) tt_ok mixed ⟨Tryz.func9,by rfl,rfl⟩ rfl rfl rfl ?_
 intro A C L X
 cbv
 refine X.call (F26 hle (by omega) ht fun r hr=> ?_)
 obtain ⟨n_r,hn_r,hlen_r⟩:=lenOf hr
 cbv
 refine X.loop (fun (y:Nat×Int)=>⟨[(5,.int .i64 y.1),(3,.int .i64 y.2),(4,.lst 28 r)],[]⟩)
  (fun y=>y.1≤n_r∧y.2=Int.ofNat (1+f y.1)) (fun y=>n_r-y.1) (0,1) ⟨Nat.zero_le _,by simp [f0]⟩ ?_ ?_
 ·(cbv;repeat' apply And.intro);all_goals try first|trivial|rfl|(rw [X.a];rfl)
 rintro ⟨i,m⟩ ⟨hi,hm⟩
 simp only at hi hm
 cbv
 refine ⟨fun h1=> ?_,fun h1=> ?_⟩
 ·have h5:i<t.pts.length:=by obtain rfl:=X.a;simp only [hlen_r,SD,bNot] at h1;omega
  have k1:=tyAt X.a hr h5
  have hid:A.idx (Int.ofNat i) (A.len r):=by rw [X.a,hr];exact leaf_idx h5
  have hin:A.inr .i64 (A.add (Int.ofNat i) 1):=by rw [X.a];exact leaf_inc h5 (by omega)
  have hst:=fs i h5
  have hsl:=fl (i+1)
  cbv
  repeat' (first|apply And.intro|exact fun (_:FF)=>by kernel_rfl|(intro h2;cbv)|apply Or.inl)
  any_goals exact hid
  refine X.call (ih _ (List.getElem_mem h5) (pts_le hle _ (List.getElem_mem h5)) (by omega) k1 fun z hz=> ?_)
  have hz':z=t.pts[i].size:=hz
  clear hz
  have hin2:A.inr .i64 (A.add m z):=by rw [X.a,Std_inr64,Std_add,hm,hz'];simp only [Int.ofNat_eq_natCast];omega
  have q:A.add m z=Int.ofNat (1+f (i+1)):=by rw [X.a,Std_add,hst,hm,hz'];simp only [Int.ofNat_eq_natCast];omega
  cbv
  repeat' (first|apply And.intro|exact fun (_:FF)=>by kernel_rfl|(intro h2;cbv)|apply Or.inl)
  any_goals exact hin
  any_goals exact hin2
  refine ⟨(i+1,_),⟨?_,q⟩,?_,?_⟩
  ·simp only;omega
  ·simp only;omega
  (cbv;repeat' apply And.intro);all_goals try first|trivial|rfl|(rw [X.a];rfl)
 have h5:i=n_r:=by obtain rfl:=X.a;simp only [hlen_r,SD,bNot] at h1;omega
 subst h5
 cbv
 refine h m ?_
 rw [hm,hn_r,fn];rfl
end Go.VC.T07
end

section
namespace Go.VC
mutual
def Ty.uses:Ty→List U| .mk k m n ar fl=>(if k=10 then [(m,n)] else [])++(Ty.usess ar++Ty.usesf fl)
def Fe.uses:Fe→List U| .mk _ t _=>Ty.uses t
def Ty.usess:List Ty→List U|[]=>[]|t::l=>Ty.uses t++Ty.usess l
def Ty.usesf:List Fe→List U|[]=>[]|t::l=>Fe.uses t++Ty.usesf l
end
theorem usess_eq:∀ l:List Ty,Ty.usess l=l.flatMap Ty.uses
 |[]=>by simp [Ty.usess]
 |t::l=>by simp [Ty.usess,usess_eq l]
theorem usesf_eq:∀ l:List Fe,Ty.usesf l=(l.map Fe.t).flatMap Ty.uses
 |[]=>by simp [Ty.usesf]
 | .mk s t b::l=>by simp [Ty.usesf,usesf_eq l,Fe.uses,Fe.t]
def Ty.self (t:Ty):List U:=if t.k=10 then [(t.m,t.n)] else []
theorem uses_eq (t:Ty):t.uses=t.self++t.pts.flatMap Ty.uses:=by
 cases t;simp only [Ty.uses,usess_eq,usesf_eq,Ty.pts,Ty.self,List.flatMap_append,Ty.ar,Ty.fl,Ty.k,Ty.m,Ty.n];rfl
theorem le_sum {l:List Nat} {x:Nat} (h:x∈l):x≤l.sum:=by
 induction l with
 |nil=>simp at h
 |cons y l ih=>rw [List.sum_cons];rcases List.mem_cons.1 h with rfl|h;omega;have:=ih h;omega
theorem flat_take {α β:Type} {f:α→List β} {l:List α} {i:Nat} (h:i<l.length):(l.take (i+1)).flatMap f=(l.take i).flatMap f++f l[i]:=by
 rw [take_succ' h,List.flatMap_append];simp
end Go.VC
namespace Go.VC.T07
open Go Go.VC Go.Proofs
theorem F98 {t:Ty} (hle:Ty.le 4294967295 t) (hpl:t.pts.length≤4294967295) {c0:Int} {c1 c2:S} {c3 c4:D} {K:PV→List Ob→Prop} (ht:tyIs t c0 c1 c2 c3 c4)
  (h:∀ r,r=encL encTy t.pts→K (.lst 28 r) []):FC Tryz.prog tt 98 [] [tyPV c0 c1 c2 c3 c4] K:=by
 obtain ⟨t0,t1,t2,hc3,hc4⟩:=ht
 have hpl':t.ar.length+t.fl.length≤4294967295:=by simpa [Ty.pts] using hpl
 refine FC.enter (G:=g98) tt_ok mixed ⟨Tryz.func98,by rfl,rfl⟩ rfl rfl rfl ?_
 intro A C L X
 obtain ⟨n_c4,hn_c4,hlen_c4⟩:=lenOf hc4
 cbv
 refine X.call (F108 hc3 (by omega) fun r1 hr1=> ?_)
 cbv
 refine X.loopP (fun (y:Nat×D)=>⟨[(12,.int .i64 y.1),(11,.int .i64 (A.len c4)),(10,.lst 65 c4),(3,.row 28 1),(1,.box 0 0)],[.box [.int .i64 c0,.str c1,.str c2,.lst 28 c3,.lst 65 c4],.row 28 y.2 true]⟩)
  (fun y=>y.1≤n_c4∧y.2=encL encTy (t.ar++(t.fl.take y.1).map Fe.t)) (fun y=>n_c4-y.1) (0,r1) ⟨Nat.zero_le _,by simpa using hr1⟩ ?_ ?_
 ·refine ⟨[0,1],rfl,?_⟩
  (cbv;repeat' apply And.intro);all_goals try first|trivial|rfl|(rw [X.a];rfl)
 rintro ⟨i,r⟩ ⟨hi,hr⟩
 simp only at hi hr
 cbv
 refine ⟨fun h1=> ?_,fun h1=> ?_⟩
 ·have h5:i<t.fl.length:=by obtain rfl:=X.a;simp only [hlen_c4,SD,bNot] at h1;omega
  obtain ⟨k0,k1,k2,k3,k4⟩:=fdTyAt X.a hc4 h5
  have hid:A.idx (Int.ofNat i) (A.len c4):=by rw [X.a,hc4];exact leaf_idx h5
  have hin:A.inr .i64 (A.add (Int.ofNat i) 1):=by rw [X.a];exact leaf_inc h5 (by omega)
  have hb2:A.bnd (A.add (A.len r) (A.len (A.lit [[.int (A.asInt (A.cell c4 (Int.ofNat i) 1)),.str (A.asStr (A.cell c4 (Int.ofNat i) 2)),.str (A.asStr (A.cell c4 (Int.ofNat i) 3)),A.cell c4 (Int.ofNat i) 4,A.cell c4 (Int.ofNat i) 5]]))) 4294967296:=by
   rw [X.a,hr];simp only [SD,bNot,List.length_map];omega
  have q1:A.app r (A.lit [[.int (A.asInt (A.cell c4 (Int.ofNat i) 1)),.str (A.asStr (A.cell c4 (Int.ofNat i) 2)),.str (A.asStr (A.cell c4 (Int.ofNat i) 3)),A.cell c4 (Int.ofNat i) 4,A.cell c4 (Int.ofNat i) 5]])=encL encTy (t.ar++(t.fl.take (i+1)).map Fe.t):=by
   rw [k0,k1,k2,k3,k4,X.a,hr,map_take h5,←List.append_assoc,←encTy_eq]
   exact Std_app (k:=[t.fl[i].t])
  cbv
  repeat' (first|apply And.intro|exact fun (_:FF)=>by kernel_rfl|(intro h2;cbv)|apply Or.inl)
  any_goals exact hid
  any_goals exact hb2
  any_goals exact hin
  refine ⟨(i+1,_),⟨?_,q1⟩,?_,[0,1],rfl,?_⟩
  ·simp only;omega
  ·simp only;omega
  (cbv;repeat' apply And.intro);all_goals try first|trivial|rfl|(rw [X.a];rfl)
 have h5:i=n_c4:=by obtain rfl:=X.a;simp only [hlen_c4,SD,bNot] at h1;omega
 subst h5
 rw [hn_c4,List.take_length] at hr
 cbv
 exact h r hr
theorem F61 {c0:Int} {c1 c2:S} {c3 c4:D} {K:PV→List Ob→Prop} (h:K (.clos 99 [.pptr [.int .i64 c0,.str c1,.str c2,.lst 28 c3,.lst 65 c4] 0]) []):FC Tryz.prog tt 61 [] [tyPV c0 c1 c2 c3 c4] K:=by
 refine FC.enter (G:=g61) tt_ok mixed ⟨Tryz.func61,by rfl,rfl⟩ rfl rfl rfl ?_
 intro A C L X
 cbv
 exact h
theorem F100 {C1 C2:Code}
  (hy:∀ (t:Ty) (m:List (U×Bool)) (d:D) (c0:Int) (c1 c2:S) (c3 c4:D) (K':PV→List Ob→Prop),tyIs t c0 c1 c2 c3 c4→d=encL encUB m→(∀ r,r=encL encUB (addUs m t.self)→K' (.bl true) [.loop 21 [8] C1 C2 [(3,.box 1 0)] .ready,.box [.mp 2],.map .str2 4 r])→YC Tryz.prog tt [.loop 21 [8] C1 C2 [(3,.box 1 0)] .ready,.box [.mp 2],.map .str2 4 d] [tyPV c0 c1 c2 c3 c4] K'):
  ∀ (t:Ty),Ty.le 4294967295 t→t.size≤4294967295→∀ {m:List (U×Bool)} {d:D} {c0:Int} {c1 c2:S} {c3 c4:D} {K:PV→List Ob→Prop},tyIs t c0 c1 c2 c3 c4→d=encL encUB m→
   (∀ r,r=encL encUB (addUs m t.uses)→K (.bool true) [.box [.yld 2],.box [.clos 100 [.box 0 0,.box 1 0]],.loop 21 [8] C1 C2 [(3,.box 3 0)] .ready,.box [.mp 4],.map .str2 4 r])→
   FC Tryz.prog tt 100 [.box [.yld 2],.box [.clos 100 [.box 0 0,.box 1 0]],.loop 21 [8] C1 C2 [(3,.box 3 0)] .ready,.box [.mp 4],.map .str2 4 d] [tyPV c0 c1 c2 c3 c4,.box 0 0,.box 1 0] K:=by
 refine Ty.pinduct fun t ih=> ?_
 intro hle hs m d c0 c1 c2 c3 c4 K ht hd h
 have hszs:∀ u∈t.pts,u.size≤4294967295:=by
  intro u hu
  have:=size_eq t
  have h2:u.size≤(t.pts.map Ty.size).sum:=le_sum (List.mem_map.2 ⟨u,hu,rfl⟩)
  omega
 have hpl:t.pts.length≤4294967295:=by
  have:∀ l:List Ty,l.length≤(l.map Ty.size).sum:=by
   intro l
   induction l with
   |nil=>simp
   |cons x l ih=>simp only [List.length_cons,List.map_cons,List.sum_cons];have:=size_eq x;omega
  have h1:=this t.pts
  have h2:=size_eq t
  omega
 refine FC.enterLive (G:=g100) tt_ok mixed ⟨Tryz.func100,by rfl,rfl⟩ rfl rfl rfl ?_
 intro A C L X
 cbv
 refine X.round (hy t m d _ _ _ _ _ _ ht hd fun r1 hr1=> ?_)
 cbv
 refine X.call (F98 hle hpl ht fun rp hrp=> ?_)
 obtain ⟨n_rp,hn_rp,hlen_rp⟩:=lenOf hrp
 cbv
 refine X.loopP (fun (y:Nat×D)=>⟨[(14,.int .i64 y.1),(13,.int .i64 (A.len rp)),(12,.lst 28 rp),(1,.box 0 0),(2,.box 1 0)],[.box [.yld 2],.box [.clos 100 [.box 0 0,.box 1 0]],.loop 21 [8] C1 C2 [(3,.box 3 0)] .ready,.box [.mp 4],.map .str2 4 y.2]⟩)
  (fun y=>y.1≤n_rp∧y.2=encL encUB (addUs (addUs m t.self) ((t.pts.take y.1).flatMap Ty.uses))) (fun y=>n_rp-y.1) (0,r1) ⟨Nat.zero_le _,by simpa [addUs] using hr1⟩ ?_ ?_
 ·refine ⟨[0,1,2,3,4],rfl,?_⟩
  (cbv;repeat' apply And.intro);all_goals try first|trivial|rfl|(rw [X.a];rfl)
 rintro ⟨i,r⟩ ⟨hi,hr⟩
 simp only at hi hr
 cbv
 refine ⟨fun h1=> ?_,fun h1=> ?_⟩
 ·have h5:i<t.pts.length:=by obtain rfl:=X.a;simp only [hlen_rp,SD,bNot] at h1;omega
  have k1:=tyAt X.a hrp h5
  have hid:A.idx (Int.ofNat i) (A.len rp):=by rw [X.a,hrp];exact leaf_idx h5
  have hin:A.inr .i64 (A.add (Int.ofNat i) 1):=by rw [X.a];exact leaf_inc h5 (by omega)
  cbv
  repeat' (first|apply And.intro|exact fun (_:FF)=>by kernel_rfl|(intro h2;cbv)|apply Or.inl)
  any_goals exact hid
  refine X.call (ih _ (List.getElem_mem h5) (pts_le hle _ (List.getElem_mem h5)) (hszs _ (List.getElem_mem h5)) k1 hr fun r' hr'=> ?_)
  cbv
  repeat' (first|apply And.intro|exact fun (_:FF)=>by kernel_rfl|(intro h2;cbv)|apply Or.inl)
  any_goals exact hin
  ·exfalso;obtain rfl:=X.a;simp [Std_not] at h2
  refine ⟨(i+1,r'),⟨?_,?_⟩,?_,[0,1,2,3,4],rfl,?_⟩
  ·simp only;omega
  ·simp only;rw [hr',flat_take h5,addUs_app]
  ·simp only;omega
  (cbv;repeat' apply And.intro);all_goals try first|trivial|rfl|(rw [X.a];rfl)
 have h5:i=n_rp:=by obtain rfl:=X.a;simp only [hlen_rp,SD,bNot] at h1;omega
 subst h5
 rw [hn_rp,List.take_length] at hr
 cbv
 refine h r ?_
 rw [hr,uses_eq,addUs_app]
theorem F99 {C1 C2:Code} {t:Ty} (hle:Ty.le 4294967295 t) (hs:t.size≤4294967295) {m:List (U×Bool)} {d:D} {c0:Int} {c1 c2:S} {c3 c4:D} {K:PV→List Ob→Prop} (ht:tyIs t c0 c1 c2 c3 c4) (hd:d=encL encUB m)
  (hy:∀ (t:Ty) (m:List (U×Bool)) (d:D) (c0:Int) (c1 c2:S) (c3 c4:D) (K':PV→List Ob→Prop),tyIs t c0 c1 c2 c3 c4→d=encL encUB m→(∀ r,r=encL encUB (addUs m t.self)→K' (.bl true) [.loop 21 [8] C1 C2 [(3,.box 1 0)] .ready,.box [.mp 2],.map .str2 4 r])→YC Tryz.prog tt [.loop 21 [8] C1 C2 [(3,.box 1 0)] .ready,.box [.mp 2],.map .str2 4 d] [tyPV c0 c1 c2 c3 c4] K')
  (h:∀ r,r=encL encUB (addUs m t.uses)→K (.tup []) [.loop 21 [8] C1 C2 [(3,.box 1 0)] .ready,.box [.mp 2],.map .str2 4 r]):
  FC Tryz.prog tt 99 [.loop 21 [8] C1 C2 [(3,.box 1 0)] .ready,.box [.mp 2],.map .str2 4 d] [.yld 0,.pptr [.int .i64 c0,.str c1,.str c2,.lst 28 c3,.lst 65 c4] 0] K:=by
 refine FC.enterLive (G:=g99) tt_ok mixed ⟨Tryz.func99,by rfl,rfl⟩ rfl rfl rfl ?_
 intro A C L X
 cbv
 refine X.call (F100 hy t hle hs ht hd fun r hr=> ?_)
 cbv
 exact h r hr
end Go.VC.T07
end

section
namespace Go.VC
theorem uses_len:∀ t:Ty,t.uses.length≤t.size:=by
 refine Ty.pinduct fun t ih=> ?_
 rw [uses_eq,size_eq,List.length_append]
 have h1:t.self.length≤1:=by unfold Ty.self;split<;>simp
 have h2:∀ l:List Ty,(∀ u∈l,u.uses.length≤u.size)→(l.flatMap Ty.uses).length≤(l.map Ty.size).sum:=by
  intro l
  induction l with
  |nil=>simp
  |cons x l ihl=>
   intro h
   simp only [List.flatMap_cons,List.length_append,List.map_cons,List.sum_cons]
   have a:=h x (by simp)
   have b:=ihl fun u hu=>h u (by simp [hu])
   omega
 have:=h2 _ ih
 omega
theorem SrtU_nodup {l:List U} (h:SrtU l):l.Nodup:=by
 unfold SrtU at h
 exact h.imp fun {a b} hab e=>by rw [e,ltU_irrefl] at hab;cases hab
theorem nodup_sub_len {α:Type} [DecidableEq α]:∀ {l m:List α},l.Nodup→(∀ x∈l,x∈m)→l.length≤m.length
 |[],m,_,_=>by simp
 |x::l,m,h,hs=>by
  rw [List.nodup_cons] at h
  have:=nodup_sub_len (l:=l) (m:=m.erase x) h.2 fun y hy=>by
   have hm:=hs y (by simp [hy])
   have hne:y≠x:=fun e=>h.1 (by rw [← e];exact hy)
   exact (List.mem_erase_of_ne hne).2 hm
  have hx:=hs x (by simp)
  rw [List.length_erase_of_mem hx] at this
  have h0:0<m.length:=List.length_pos_of_mem hx
  simp only [List.length_cons];omega
end Go.VC
namespace Go.VC.T07
open Go Go.VC Go.Proofs
theorem F74 {t:Ty} (hle:Ty.le 4294967295 t) (hs:t.size≤4294967295) {c0:Int} {c1 c2:S} {c3 c4:D} {K:PV→List Ob→Prop} (ht:tyIs t c0 c1 c2 c3 c4)
  (h:∀ (l:List U) r,r=encL encU l→SrtU l→(∀ u,u∈l↔u∈t.uses)→K (.lst 124 r) []):FC Tryz.prog tt 74 [] [tyPV c0 c1 c2 c3 c4] K:=by
 have hul:=uses_len t
 refine FC.enter (G:=g74) tt_ok mixed ⟨Tryz.func74,by rfl,rfl⟩ rfl rfl rfl ?_
 intro A C L X
 cbv
 refine X.call (F61 ?_)
 cbv
 refine X.range rfl ⟨Tryz.func99,by rfl,rfl⟩ rfl [(3,.box 2 0)] ?_ ?_
 ·cbv
 cbv
 refine X.call (F99 (m:=[]) hle hs ht rfl ?_ ?_)
 ·intro u m d b0 b1 b2 b3 b4 K' hu hd hK
  obtain ⟨u0,u1,u2,u3,u4⟩:=hu
  refine YC.enter (G:=g74r) tt_ok mixed rfl rfl rfl rfl rfl ?_
  intro A C L X
  have q1:A.mset d (.ptr [.str b1,.str b2]) [.bool true]=encL encUB (addUs m [(u.m,u.n)]):=by rw [X.a,hd,u1,u2];exact Std_addU (k:=(u.m,u.n))
  have qt:u.k=10→K' (.bl true) [.loop 21 [8] _ _ [(3,.box 1 0)] .ready,.box [.mp 2],.map .str2 4 (A.mset d (.ptr [.str b1,.str b2]) [.bool true])]:=fun e=>hK _ (by rw [q1,Ty.self,if_pos e])
  have qf:¬u.k=10→K' (.bl true) [.loop 21 [8] _ _ [(3,.box 1 0)] .ready,.box [.mp 2],.map .str2 4 d]:=fun e=>hK _ (by rw [hd,Ty.self,if_neg e];rfl)
  cbv
  repeat' (first|apply And.intro|exact fun (_:FF)=>by kernel_rfl|(intro h2;cbv)|apply Or.inl)
  ·exact qt (by rw [← u0];obtain rfl:=X.a;simpa only [SD,bNot] using h2)
  ·exact qf (by rw [← u0];obtain rfl:=X.a;simpa only [SD,bNot] using h2)
 ·intro r hr
  cbv
  refine X.call (F122 ?_)
  cbv
  refine X.call (F121 hr ?_ ?_ fun l r' hr' hsr hm=> ?_)
  ·have:=addUs_len (l:=t.uses) (m:=[]);simp at this;omega
  ·exact addUs_nodup (by simp)
  cbv
  refine h l r' hr' hsr fun s=> ?_
  rw [hm,addUs_keys];simp
end Go.VC.T07
end

section
namespace Go.VC
abbrev fePV (c0:S) (c1:Int) (c2 c3:S) (c4 c5:D) (c6:Bool):PV:=.agg [.str c0,.int .i64 c1,.str c2,.str c3,.lst 28 c4,.lst 65 c5,.bool c6]
def feIs (x:Fe) (c0:S) (c1:Int) (c2 c3:S) (c4 c5:D) (c6:Bool):Prop:=c0=x.s∧tyIs x.t c1 c2 c3 c4 c5∧c6=x.b
theorem feIsAt {A:Alg} {d:D} {i:Nat} {l:List Fe} (ha:A=Std) (hd:d=encL encFd l) (h:i<l.length):feIs l[i] (A.asStr (A.cell d (Int.ofNat i) 0)) (A.asInt (A.cell d (Int.ofNat i) 1)) (A.asStr (A.cell d (Int.ofNat i) 2)) (A.asStr (A.cell d (Int.ofNat i) 3)) (A.cell d (Int.ofNat i) 4) (A.cell d (Int.ofNat i) 5) (A.asBool (A.cell d (Int.ofNat i) 6)):=
 ⟨(fdAt ha hd h).1,fdTyAt ha hd h,(fdAt ha hd h).2⟩
end Go.VC
namespace Go.VC.T07
open Go Go.VC Go.Proofs
theorem F147 {l m:List Ty} {d1 d2:D} {K:PV→List Ob→Prop} (hd1:d1=encL encTy l) (hd2:d2=encL encTy m) (hl:l.length≤4294967295)
  (hg:∀ x∈l,∀ y (c0:Int) (c1:S) (c2:S) (c3:D) (c4:D) (d0:Int) (d1:S) (d2:S) (d3:D) (d4:D) (K':PV→List Ob→Prop),tyIs x c0 c1 c2 c3 c4→tyIs y d0 d1 d2 d3 d4→(∀ b,b=same x y→K' (.bool b) [])→FC Tryz.prog tt 90 [] [tyPV c0 c1 c2 c3 c4,tyPV d0 d1 d2 d3 d4] K')
  (h:∀ b,b=same l m→K (.bool b) []):
  FC Tryz.prog tt 147 [] [.lst 28 d1,.lst 28 d2,.clos 90 []] K:=by
 refine FC.enter (G:=g147) tt_ok mixed ⟨Tryz.func147,by rfl,rfl⟩ rfl rfl rfl ?_
 intro A C L X
 obtain ⟨n_d1,hn_d1,hlen_d1⟩:=lenOf hd1
 obtain ⟨n_d2,hn_d2,hlen_d2⟩:=lenOf hd2
 cbv
 repeat' (first|apply And.intro|exact fun (_:FF)=>by kernel_rfl|(intro h2;cbv)|apply Or.inl)
 ·refine h _ ?_
  refine (same_len ?_).symm
  obtain rfl:=X.a;simp only [hlen_d1,hlen_d2,SD,bNot] at h2;omega
 have hml:m.length=n_d1:=by obtain rfl:=X.a;simp only [hlen_d1,hlen_d2,SD,bNot] at h2;omega
 refine X.loop (fun (i:Nat)=>⟨[(17,.int .i64 i),(16,.int .i64 (A.len d1)),(15,.lst 28 d1),(1,.lst 28 d2),(2,.clos 90 [])],[]⟩) (fun i=>i≤n_d1∧l.take i=m.take i) (fun i=>n_d1-i) 0 ⟨Nat.zero_le _,by simp⟩ ?_ ?_
 ·(cbv;repeat' apply And.intro);all_goals try first|trivial|rfl|(rw [X.a];rfl)
 rintro i ⟨hi,ha⟩
 cbv
 refine ⟨fun h1=> ?_,fun h1=> ?_⟩
 ·have h5:i<l.length:=by obtain rfl:=X.a;simp only [hlen_d1,SD,bNot] at h1;omega
  have h6:i<m.length:=by omega
  have k1:=tyAt X.a hd1 h5
  have k2:=tyAt X.a hd2 h6
  have hid:A.idx (Int.ofNat i) (A.len d1):=by rw [X.a,hd1];exact leaf_idx h5
  have hie:A.idx (Int.ofNat i) (A.len d2):=by rw [X.a,hd2];exact leaf_idx h6
  have hin:A.inr .i64 (A.add (Int.ofNat i) 1):=by rw [X.a];exact leaf_inc h5 (by omega)
  have hne:l[i]≠m[i]→same l m=false:=fun e=>same_get h5 h6 e
  cbv
  repeat' (first|apply And.intro|exact fun (_:FF)=>by kernel_rfl|(intro h2;cbv)|apply Or.inl)
  any_goals exact hid
  any_goals exact hie
  refine X.call (hg _ (List.getElem_mem h5) _ _ _ _ _ _ _ _ _ _ _ _ k1 k2 fun b hb=> ?_)
  have hb':b=same l[i] m[i]:=hb
  clear hb
  cbv
  repeat' (first|apply And.intro|exact fun (_:FF)=>by kernel_rfl|(intro h2;cbv)|apply Or.inl)
  any_goals exact hin
  ·refine h _ ?_
   have:same l[i] m[i]=false:=by rw [← hb'];obtain rfl:=X.a;simpa only [SD,bNot] using h2
   exact (hne fun e=>by rw [e,same_self] at this;cases this).symm
  ·have hbt:same l[i] m[i]=true:=by rw [← hb'];obtain rfl:=X.a;simpa only [SD,bNot] using h2
   refine ⟨i+1,⟨by omega,by rw [take_succ' h5,take_succ' h6,ha,same_iff.1 hbt]⟩,by omega,?_⟩
   (cbv;repeat' apply And.intro);all_goals try first|trivial|rfl|(rw [X.a];rfl)
 ·have h5:i=n_d1:=by obtain rfl:=X.a;simp only [hlen_d1,SD,bNot] at h1;omega
  subst h5
  have e:=take_full (l:=l) (m:=m) (by omega) (by rw [← hn_d1];exact ha)
  cbv
  refine h _ ?_
  rw [e,same_self]
theorem F148 {l m:List Fe} {d1 d2:D} {K:PV→List Ob→Prop} (hd1:d1=encL encFd l) (hd2:d2=encL encFd m) (hl:l.length≤4294967295)
  (hg:∀ x∈l,∀ y (c0:S) (c1:Int) (c2:S) (c3:S) (c4:D) (c5:D) (c6:Bool) (d0:S) (d1:Int) (d2:S) (d3:S) (d4:D) (d5:D) (d6:Bool) (K':PV→List Ob→Prop),feIs x c0 c1 c2 c3 c4 c5 c6→feIs y d0 d1 d2 d3 d4 d5 d6→(∀ b,b=same x y→K' (.bool b) [])→FC Tryz.prog tt 149 [] [fePV c0 c1 c2 c3 c4 c5 c6,fePV d0 d1 d2 d3 d4 d5 d6] K')
  (h:∀ b,b=same l m→K (.bool b) []):
  FC Tryz.prog tt 148 [] [.lst 65 d1,.lst 65 d2,.clos 149 []] K:=by
 refine FC.enter (G:=g148) tt_ok mixed ⟨Tryz.func148,by rfl,rfl⟩ rfl rfl rfl ?_
 intro A C L X
 obtain ⟨n_d1,hn_d1,hlen_d1⟩:=lenOf hd1
 obtain ⟨n_d2,hn_d2,hlen_d2⟩:=lenOf hd2
 cbv
 repeat' (first|apply And.intro|exact fun (_:FF)=>by kernel_rfl|(intro h2;cbv)|apply Or.inl)
 ·refine h _ ?_
  refine (same_len ?_).symm
  obtain rfl:=X.a;simp only [hlen_d1,hlen_d2,SD,bNot] at h2;omega
 have hml:m.length=n_d1:=by obtain rfl:=X.a;simp only [hlen_d1,hlen_d2,SD,bNot] at h2;omega
 refine X.loop (fun (i:Nat)=>⟨[(17,.int .i64 i),(16,.int .i64 (A.len d1)),(15,.lst 65 d1),(1,.lst 65 d2),(2,.clos 149 [])],[]⟩) (fun i=>i≤n_d1∧l.take i=m.take i) (fun i=>n_d1-i) 0 ⟨Nat.zero_le _,by simp⟩ ?_ ?_
 ·(cbv;repeat' apply And.intro);all_goals try first|trivial|rfl|(rw [X.a];rfl)
 rintro i ⟨hi,ha⟩
 cbv
 refine ⟨fun h1=> ?_,fun h1=> ?_⟩
 ·have h5:i<l.length:=by obtain rfl:=X.a;simp only [hlen_d1,SD,bNot] at h1;omega
  have h6:i<m.length:=by omega
  have k1:=feIsAt X.a hd1 h5
  have k2:=feIsAt X.a hd2 h6
  have hid:A.idx (Int.ofNat i) (A.len d1):=by rw [X.a,hd1];exact leaf_idx h5
  have hie:A.idx (Int.ofNat i) (A.len d2):=by rw [X.a,hd2];exact leaf_idx h6
  have hin:A.inr .i64 (A.add (Int.ofNat i) 1):=by rw [X.a];exact leaf_inc h5 (by omega)
  have hne:l[i]≠m[i]→same l m=false:=fun e=>same_get h5 h6 e
  cbv
  repeat' (first|apply And.intro|exact fun (_:FF)=>by kernel_rfl|(intro h2;cbv)|apply Or.inl)
  any_goals exact hid
  any_goals exact hie
  refine X.call (hg _ (List.getElem_mem h5) _ _ _ _ _ _ _ _ _ _ _ _ _ _ _ _ k1 k2 fun b hb=> ?_)
  have hb':b=same l[i] m[i]:=hb
  clear hb
  cbv
  repeat' (first|apply And.intro|exact fun (_:FF)=>by kernel_rfl|(intro h2;cbv)|apply Or.inl)
  any_goals exact hin
  ·refine h _ ?_
   have:same l[i] m[i]=false:=by rw [← hb'];obtain rfl:=X.a;simpa only [SD,bNot] using h2
   exact (hne fun e=>by rw [e,same_self] at this;cases this).symm
  ·have hbt:same l[i] m[i]=true:=by rw [← hb'];obtain rfl:=X.a;simpa only [SD,bNot] using h2
   refine ⟨i+1,⟨by omega,by rw [take_succ' h5,take_succ' h6,ha,same_iff.1 hbt]⟩,by omega,?_⟩
   (cbv;repeat' apply And.intro);all_goals try first|trivial|rfl|(rw [X.a];rfl)
 ·have h5:i=n_d1:=by obtain rfl:=X.a;simp only [hlen_d1,SD,bNot] at h1;omega
  subst h5
  have e:=take_full (l:=l) (m:=m) (by omega) (by rw [← hn_d1];exact ha)
  cbv
  refine h _ ?_
  rw [e,same_self]
end Go.VC.T07
end

section
namespace Go.VC.T07
open Go Go.VC Go.Proofs
end Go.VC.T07
end

section
namespace Go.VC
theorem same_fe {x y:Fe}:same x y=((x.s==y.s)&&(x.b==y.b)&&same x.t y.t):=by
 rw [Bool.eq_iff_iff]
 simp only [same_iff,Bool.and_eq_true,beq_iff_eq]
 exact ⟨fun e=>by subst e;exact ⟨⟨rfl,rfl⟩,rfl⟩,fun ⟨⟨h1,h2⟩,h3⟩=>Fe.ext h1 h3 h2⟩
theorem same_tyE {x y:Ty}:same x y=(((((x.k==y.k)&&(x.m==y.m))&&(x.n==y.n))&&same x.ar y.ar)&&same x.fl y.fl):=by
 rw [Bool.eq_iff_iff]
 simp only [same_iff,Bool.and_eq_true,beq_iff_eq]
 exact ⟨fun e=>by subst e;exact ⟨⟨⟨⟨rfl,rfl⟩,rfl⟩,rfl⟩,rfl⟩,fun ⟨⟨⟨⟨h1,h2⟩,h3⟩,h4⟩,h5⟩=>Ty.ext h1 h2 h3 h4 h5⟩
end Go.VC
namespace Go.VC.T07
open Go Go.VC Go.Proofs
theorem F149g {x y:Fe} {c0:S} {c1:Int} {c2 c3:S} {c4 c5:D} {c6:Bool} {d0:S} {d1:Int} {d2 d3:S} {d4 d5:D} {d6:Bool} {K:PV→List Ob→Prop}
  (hx:feIs x c0 c1 c2 c3 c4 c5 c6) (hy:feIs y d0 d1 d2 d3 d4 d5 d6)
  (hg:∀ {K':PV→List Ob→Prop},(∀ b,b=same x.t y.t→K' (.bool b) [])→FC Tryz.prog tt 90 [] [tyPV c1 c2 c3 c4 c5,tyPV d1 d2 d3 d4 d5] K')
  (h:∀ b,b=same x y→K (.bool b) []):FC Tryz.prog tt 149 [] [fePV c0 c1 c2 c3 c4 c5 c6,fePV d0 d1 d2 d3 d4 d5 d6] K:=by
 obtain ⟨a0,a1,a2⟩:=hx
 obtain ⟨b0,b1,b2⟩:=hy
 have hs:=same_fe (x:=x) (y:=y)
 rw [← a0,←b0,←a2,←b2] at hs
 clear a0 b0 a2 b2 a1 b1
 refine FC.enter (G:=g149) tt_ok mixed ⟨Tryz.func149,by rfl,rfl⟩ rfl rfl rfl ?_
 intro A C L X
 cbv
 repeat' (first|apply And.intro|exact fun (_:FF)=>by kernel_rfl|(intro h2;cbv)|apply Or.inl|(refine X.call (hg fun b hb=> ?_);cbv))
 all_goals (refine h _ ?_;rw [hs];obtain rfl:=X.a;(try subst hb);simp only [SD,bNot] at *;simp [*])
theorem F90:∀ (t:Ty),Ty.le 4294967295 t→∀ {u:Ty} {c0:Int} {c1 c2:S} {c3 c4:D} {d0:Int} {d1 d2:S} {d3 d4:D} {K:PV→List Ob→Prop},tyIs t c0 c1 c2 c3 c4→tyIs u d0 d1 d2 d3 d4→(∀ b,b=same t u→K (.bool b) [])→FC Tryz.prog tt 90 [] [tyPV c0 c1 c2 c3 c4,tyPV d0 d1 d2 d3 d4] K:=by
 refine Ty.parts fun t iha ihf=> ?_
 intro hle u c0 c1 c2 c3 c4 d0 d1 d2 d3 d4 K ht hu h
 obtain ⟨t0,t1,t2,ht3,ht4⟩:=ht
 obtain ⟨u0,u1,u2,hu3,hu4⟩:=hu
 have hs:=same_tyE (x:=t) (y:=u)
 rw [← t0,←u0,←t1,←u1,←t2,←u2] at hs
 clear t0 t1 t2 u0 u1 u2
 refine FC.enter (G:=g90) tt_ok mixed ⟨Tryz.func90,by rfl,rfl⟩ rfl rfl rfl ?_
 intro A C L X
 cbv
 repeat' (first|apply And.intro|exact fun (_:FF)=>by kernel_rfl|(intro h2;cbv)|apply Or.inl|(refine X.call (F147 ht3 hu3 (tyLe_ar hle) (fun x hx y _ _ _ _ _ _ _ _ _ _ K' k1 k2 hK=>iha x hx (tyLe_a hle x hx) k1 k2 hK) fun b1 hb1=> ?_);cbv)|(refine X.call (F148 ht4 hu4 (tyLe_fl hle) (fun x hx y _ _ _ _ _ _ _ _ _ _ _ _ _ _ K' k1 k2 hK=>F149g k1 k2 (fun hK'=>ihf x hx (tyLe_f hle x hx) k1.2.1 k2.2.1 hK') hK) fun b2 hb2=> ?_);cbv))
 all_goals (refine h _ ?_;rw [hs];obtain rfl:=X.a;(try subst hb1);(try subst hb2);(try subst hb3);(try subst hb4);simp only [SD,bNot] at *;simp [*])
end Go.VC.T07
end

section
namespace Go.VC
def Ty.zero:Ty:=.mk 0 [] [] [] []
def TE.zero:TE:=⟨[],[],Ty.zero,Ty.zero⟩
def VE.zero:VE:=⟨[],[],Ty.zero⟩
def AE.zero:AE:=⟨[],[],[]⟩
def IF.zero:IF:=⟨[],[],[],[],[]⟩
theorem find_some' {α:Type} {p:α→Bool} {l:List α} {i:Nat} (h:i<l.length) (hp:p l[i]=true) (ha:∀ x∈l.take i,p x=false):l.find? p=some l[i]:=by
 rw [List.find?_eq_some_iff_getElem]
 refine ⟨hp,i,h,rfl,fun j hj=> ?_⟩
 have:=ha l[j] (by rw [List.mem_take_iff_getElem];exact ⟨j,by omega,rfl⟩)
 simp [this]
end Go.VC
namespace Go.VC.T07
open Go Go.VC Go.Proofs
theorem F165_112 {l:List IF} {d:D} {p:IF→Bool} {s:S} {K:PV→List Ob→Prop} (hd:d=encL encIF l) (hl:l.length≤4294967295)
  (hg:∀ x∈l,∀ (c0:S) (c1:D) (c2:D) (c3:D) (c4:D) (K':PV→List Ob→Prop),ifIs x c0 c1 c2 c3 c4→(∀ b,b=p x→K' (.bool b) [])→FC Tryz.prog tt 112 [] [ifPV c0 c1 c2 c3 c4,.pptr [.str s] 0] K')
  (h:∀ r:Int,r=idxF p l→K (.int .i64 r) []):
  FC Tryz.prog tt 165 [] [.lst 40 d,.clos 112 [.pptr [.str s] 0]] K:=by
 refine FC.enter (G:=g165) tt_ok mixed ⟨Tryz.func165,by rfl,rfl⟩ rfl rfl rfl ?_
 intro A C L X
 obtain ⟨n_d,hn_d,hlen_d⟩:=lenOf hd
 cbv
 refine X.loop (fun (i:Nat)=>⟨[(8,.int .i64 i),(7,.int .i64 (A.len d)),(1,.clos 112 [.pptr [.str s] 0]),(0,.lst 40 d)],[]⟩) (fun i=>i≤n_d∧∀ x∈l.take i,p x=false) (fun i=>n_d-i) 0 ⟨Nat.zero_le _,by simp⟩ ?_ ?_
 ·(cbv;repeat' apply And.intro);all_goals try first|trivial|rfl|(rw [X.a];rfl)
 rintro i ⟨hi,ha⟩
 cbv
 refine ⟨fun h1=> ?_,fun h1=> ?_⟩
 ·have h5:i<l.length:=by obtain rfl:=X.a;simp only [hlen_d,SD,bNot] at h1;omega
  have k1:=ifIsAt X.a hd h5
  have hid:A.idx (Int.ofNat i) (A.len d):=by rw [X.a,hd];exact leaf_idx h5
  have hin:A.inr .i64 (A.add (Int.ofNat i) 1):=by rw [X.a];exact leaf_inc h5 (by omega)
  cbv
  repeat' (first|apply And.intro|exact fun (_:FF)=>by kernel_rfl|(intro h2;cbv)|apply Or.inl)
  any_goals exact hid
  refine X.call (hg _ (List.getElem_mem h5) _ _ _ _ _ _ k1 fun b hb=> ?_)
  have hb':b=p l[i]:=hb
  clear hb
  cbv
  repeat' (first|apply And.intro|exact fun (_:FF)=>by kernel_rfl|(intro h2;cbv)|apply Or.inl)
  any_goals exact hin
  ·refine h i ?_
   exact (idxF_some h5 ha (by rw [← hb'];obtain rfl:=X.a;simpa only [SD,bNot] using h2)).symm
  ·have hf:p l[i]=false:=by rename_i h3;rw [← hb'];obtain rfl:=X.a;simpa only [SD,bNot] using h3
   refine ⟨i+1,⟨by omega,?_⟩,by omega,?_⟩
   ·rw [take_succ' h5];intro x hx
    rcases List.mem_append.1 hx with hx|hx
    ·exact ha x hx
    ·simp at hx;subst hx;exact hf
   (cbv;repeat' apply And.intro);all_goals try first|trivial|rfl|(rw [X.a];rfl)
 ·have h5:i=n_d:=by obtain rfl:=X.a;simp only [hlen_d,SD,bNot] at h1;omega
  subst h5
  cbv
  refine h (-1) ?_
  rw [hn_d,List.take_length] at ha
  exact (idxF_none ha).symm
theorem F111 {l:List IF} {d:D} {p:IF→Bool} {s:S} {K:PV→List Ob→Prop} (hd:d=encL encIF l) (hl:l.length≤4294967295)
  (hg:∀ x∈l,∀ (c0:S) (c1:D) (c2:D) (c3:D) (c4:D) (K':PV→List Ob→Prop),ifIs x c0 c1 c2 c3 c4→(∀ b,b=p x→K' (.bool b) [])→FC Tryz.prog tt 112 [] [ifPV c0 c1 c2 c3 c4,.pptr [.str s] 0] K')
  (h:∀ e0 e1 e2 e3 e4 b,ifIs ((l.find? p).getD IF.zero) e0 e1 e2 e3 e4→b=(l.find? p).isSome→K (.tup [ifPV e0 e1 e2 e3 e4,.bool b]) []):
  FC Tryz.prog tt 111 [] [.lst 40 d,.clos 112 [.pptr [.str s] 0]] K:=by
 refine FC.enter (G:=g111) tt_ok mixed ⟨Tryz.func111,by rfl,rfl⟩ rfl rfl rfl ?_
 intro A C L X
 obtain ⟨n_d,hn_d,hlen_d⟩:=lenOf hd
 cbv
 refine X.call (F165_112 hd hl hg fun r hr=> ?_)
 rcases idxF_cases p l with ⟨e1,e2⟩|⟨i,h5,e1,e2,e3⟩
 ·have hz:l.find? p=none:=by rw [List.find?_eq_none];intro x hx;simp [e2 x hx]
  cbv
  repeat' (first|apply And.intro|exact fun (_:FF)=>by kernel_rfl|(intro h2;cbv)|apply Or.inl)
  ·exfalso;rw [e1] at hr;subst hr;obtain rfl:=X.a;simp only [SD,bNot] at h2;omega
  ·exfalso;rw [e1] at hr;subst hr;obtain rfl:=X.a;simp only [SD,bNot] at h2;omega
  ·refine h _ _ _ _ _ _ ?_ ?_
   ·rw [hz];exact ⟨rfl,rfl,rfl,rfl,rfl⟩
   ·rw [hz];rfl
 ·have hz:l.find? p=some l[i]:=find_some' h5 e2 e3
  rw [e1] at hr
  obtain rfl:r=Int.ofNat i:=hr
  have k1:=ifIsAt X.a hd h5
  have hid:A.idx (Int.ofNat i) (A.len d):=by rw [X.a,hd];exact leaf_idx h5
  cbv
  repeat' (first|apply And.intro|exact fun (_:FF)=>by kernel_rfl|(intro h2;cbv)|apply Or.inl)
  any_goals exact hid
  ·refine h _ _ _ _ _ _ ?_ ?_
   ·rw [hz];exact k1
   ·rw [hz];rfl
  ·exfalso;obtain rfl:=X.a;simp only [SD,bNot] at h2;omega
theorem F112 {x:IF} {s:S} {c0:S} {c1:D} {c2:D} {c3:D} {c4:D} {K:PV→List Ob→Prop} (hx:ifIs x c0 c1 c2 c3 c4) (h:∀ b,b=(x.path==s)→K (.bool b) []):
  FC Tryz.prog tt 112 [] [ifPV c0 c1 c2 c3 c4,.pptr [.str s] 0] K:=by
 have k:=hx.1
 refine FC.enter (G:=g112) tt_ok mixed ⟨Tryz.func112,by rfl,rfl⟩ rfl rfl rfl ?_
 intro A C L X
 have q:=h (A.seq c0 s) (by rw [X.a,←k];rfl)
 cbv
 exact q
theorem F50_190 {l:List TE} {d:D} {p:TE→Bool} {s:S} {K:PV→List Ob→Prop} (hd:d=encL encTE l) (hl:l.length≤4294967295)
  (hg:∀ x∈l,∀ (c0:S) (c1:D) (c2:Int) (c3:S) (c4:S) (c5:D) (c6:D) (c7:Int) (c8:S) (c9:S) (c10:D) (c11:D) (K':PV→List Ob→Prop),teIs x c0 c1 c2 c3 c4 c5 c6 c7 c8 c9 c10 c11→(∀ b,b=p x→K' (.bool b) [])→FC Tryz.prog tt 190 [] [tePV c0 c1 c2 c3 c4 c5 c6 c7 c8 c9 c10 c11,.pptr [.str s] 0] K')
  (h:∀ r:Int,r=idxF p l→K (.int .i64 r) []):
  FC Tryz.prog tt 50 [] [.lst 51 d,.clos 190 [.pptr [.str s] 0]] K:=by
 refine FC.enter (G:=g50) tt_ok mixed ⟨Tryz.func50,by rfl,rfl⟩ rfl rfl rfl ?_
 intro A C L X
 obtain ⟨n_d,hn_d,hlen_d⟩:=lenOf hd
 cbv
 refine X.loop (fun (i:Nat)=>⟨[(8,.int .i64 i),(7,.int .i64 (A.len d)),(1,.clos 190 [.pptr [.str s] 0]),(0,.lst 51 d)],[]⟩) (fun i=>i≤n_d∧∀ x∈l.take i,p x=false) (fun i=>n_d-i) 0 ⟨Nat.zero_le _,by simp⟩ ?_ ?_
 ·(cbv;repeat' apply And.intro);all_goals try first|trivial|rfl|(rw [X.a];rfl)
 rintro i ⟨hi,ha⟩
 cbv
 refine ⟨fun h1=> ?_,fun h1=> ?_⟩
 ·have h5:i<l.length:=by obtain rfl:=X.a;simp only [hlen_d,SD,bNot] at h1;omega
  have k1:=teIsAt X.a hd h5
  have hid:A.idx (Int.ofNat i) (A.len d):=by rw [X.a,hd];exact leaf_idx h5
  have hin:A.inr .i64 (A.add (Int.ofNat i) 1):=by rw [X.a];exact leaf_inc h5 (by omega)
  cbv
  repeat' (first|apply And.intro|exact fun (_:FF)=>by kernel_rfl|(intro h2;cbv)|apply Or.inl)
  any_goals exact hid
  refine X.call (hg _ (List.getElem_mem h5) _ _ _ _ _ _ _ _ _ _ _ _ _ k1 fun b hb=> ?_)
  have hb':b=p l[i]:=hb
  clear hb
  cbv
  repeat' (first|apply And.intro|exact fun (_:FF)=>by kernel_rfl|(intro h2;cbv)|apply Or.inl)
  any_goals exact hin
  ·refine h i ?_
   exact (idxF_some h5 ha (by rw [← hb'];obtain rfl:=X.a;simpa only [SD,bNot] using h2)).symm
  ·have hf:p l[i]=false:=by rename_i h3;rw [← hb'];obtain rfl:=X.a;simpa only [SD,bNot] using h3
   refine ⟨i+1,⟨by omega,?_⟩,by omega,?_⟩
   ·rw [take_succ' h5];intro x hx
    rcases List.mem_append.1 hx with hx|hx
    ·exact ha x hx
    ·simp at hx;subst hx;exact hf
   (cbv;repeat' apply And.intro);all_goals try first|trivial|rfl|(rw [X.a];rfl)
 ·have h5:i=n_d:=by obtain rfl:=X.a;simp only [hlen_d,SD,bNot] at h1;omega
  subst h5
  cbv
  refine h (-1) ?_
  rw [hn_d,List.take_length] at ha
  exact (idxF_none ha).symm
theorem F189 {l:List TE} {d:D} {p:TE→Bool} {s:S} {K:PV→List Ob→Prop} (hd:d=encL encTE l) (hl:l.length≤4294967295)
  (hg:∀ x∈l,∀ (c0:S) (c1:D) (c2:Int) (c3:S) (c4:S) (c5:D) (c6:D) (c7:Int) (c8:S) (c9:S) (c10:D) (c11:D) (K':PV→List Ob→Prop),teIs x c0 c1 c2 c3 c4 c5 c6 c7 c8 c9 c10 c11→(∀ b,b=p x→K' (.bool b) [])→FC Tryz.prog tt 190 [] [tePV c0 c1 c2 c3 c4 c5 c6 c7 c8 c9 c10 c11,.pptr [.str s] 0] K')
  (h:∀ e0 e1 e2 e3 e4 e5 e6 e7 e8 e9 e10 e11 b,teIs ((l.find? p).getD TE.zero) e0 e1 e2 e3 e4 e5 e6 e7 e8 e9 e10 e11→b=(l.find? p).isSome→K (.tup [tePV e0 e1 e2 e3 e4 e5 e6 e7 e8 e9 e10 e11,.bool b]) []):
  FC Tryz.prog tt 189 [] [.lst 51 d,.clos 190 [.pptr [.str s] 0]] K:=by
 refine FC.enter (G:=g189) tt_ok mixed ⟨Tryz.func189,by rfl,rfl⟩ rfl rfl rfl ?_
 intro A C L X
 obtain ⟨n_d,hn_d,hlen_d⟩:=lenOf hd
 cbv
 refine X.call (F50_190 hd hl hg fun r hr=> ?_)
 rcases idxF_cases p l with ⟨e1,e2⟩|⟨i,h5,e1,e2,e3⟩
 ·have hz:l.find? p=none:=by rw [List.find?_eq_none];intro x hx;simp [e2 x hx]
  cbv
  repeat' (first|apply And.intro|exact fun (_:FF)=>by kernel_rfl|(intro h2;cbv)|apply Or.inl)
  ·exfalso;rw [e1] at hr;subst hr;obtain rfl:=X.a;simp only [SD,bNot] at h2;omega
  ·exfalso;rw [e1] at hr;subst hr;obtain rfl:=X.a;simp only [SD,bNot] at h2;omega
  ·refine h _ _ _ _ _ _ _ _ _ _ _ _ _ ?_ ?_
   ·rw [hz];exact ⟨rfl,rfl,⟨rfl,rfl,rfl,rfl,rfl⟩,rfl,rfl,rfl,rfl,rfl⟩
   ·rw [hz];rfl
 ·have hz:l.find? p=some l[i]:=find_some' h5 e2 e3
  rw [e1] at hr
  obtain rfl:r=Int.ofNat i:=hr
  have k1:=teIsAt X.a hd h5
  have hid:A.idx (Int.ofNat i) (A.len d):=by rw [X.a,hd];exact leaf_idx h5
  cbv
  repeat' (first|apply And.intro|exact fun (_:FF)=>by kernel_rfl|(intro h2;cbv)|apply Or.inl)
  any_goals exact hid
  ·refine h _ _ _ _ _ _ _ _ _ _ _ _ _ ?_ ?_
   ·rw [hz];exact k1
   ·rw [hz];rfl
  ·exfalso;obtain rfl:=X.a;simp only [SD,bNot] at h2;omega
theorem F190 {x:TE} {s:S} {c0:S} {c1:D} {c2:Int} {c3:S} {c4:S} {c5:D} {c6:D} {c7:Int} {c8:S} {c9:S} {c10:D} {c11:D} {K:PV→List Ob→Prop} (hx:teIs x c0 c1 c2 c3 c4 c5 c6 c7 c8 c9 c10 c11) (h:∀ b,b=(x.name==s)→K (.bool b) []):
  FC Tryz.prog tt 190 [] [tePV c0 c1 c2 c3 c4 c5 c6 c7 c8 c9 c10 c11,.pptr [.str s] 0] K:=by
 have k:=hx.1
 refine FC.enter (G:=g190) tt_ok mixed ⟨Tryz.func190,by rfl,rfl⟩ rfl rfl rfl ?_
 intro A C L X
 have q:=h (A.seq c0 s) (by rw [X.a,←k];rfl)
 cbv
 exact q
theorem F53_192 {l:List VE} {d:D} {p:VE→Bool} {s:S} {K:PV→List Ob→Prop} (hd:d=encL encVE l) (hl:l.length≤4294967295)
  (hg:∀ x∈l,∀ (c0:S) (c1:D) (c2:Int) (c3:S) (c4:S) (c5:D) (c6:D) (K':PV→List Ob→Prop),veIs x c0 c1 c2 c3 c4 c5 c6→(∀ b,b=p x→K' (.bool b) [])→FC Tryz.prog tt 192 [] [vePV c0 c1 c2 c3 c4 c5 c6,.pptr [.str s] 0] K')
  (h:∀ r:Int,r=idxF p l→K (.int .i64 r) []):
  FC Tryz.prog tt 53 [] [.lst 101 d,.clos 192 [.pptr [.str s] 0]] K:=by
 refine FC.enter (G:=g53) tt_ok mixed ⟨Tryz.func53,by rfl,rfl⟩ rfl rfl rfl ?_
 intro A C L X
 obtain ⟨n_d,hn_d,hlen_d⟩:=lenOf hd
 cbv
 refine X.loop (fun (i:Nat)=>⟨[(8,.int .i64 i),(7,.int .i64 (A.len d)),(1,.clos 192 [.pptr [.str s] 0]),(0,.lst 101 d)],[]⟩) (fun i=>i≤n_d∧∀ x∈l.take i,p x=false) (fun i=>n_d-i) 0 ⟨Nat.zero_le _,by simp⟩ ?_ ?_
 ·(cbv;repeat' apply And.intro);all_goals try first|trivial|rfl|(rw [X.a];rfl)
 rintro i ⟨hi,ha⟩
 cbv
 refine ⟨fun h1=> ?_,fun h1=> ?_⟩
 ·have h5:i<l.length:=by obtain rfl:=X.a;simp only [hlen_d,SD,bNot] at h1;omega
  have k1:=veIsAt X.a hd h5
  have hid:A.idx (Int.ofNat i) (A.len d):=by rw [X.a,hd];exact leaf_idx h5
  have hin:A.inr .i64 (A.add (Int.ofNat i) 1):=by rw [X.a];exact leaf_inc h5 (by omega)
  cbv
  repeat' (first|apply And.intro|exact fun (_:FF)=>by kernel_rfl|(intro h2;cbv)|apply Or.inl)
  any_goals exact hid
  refine X.call (hg _ (List.getElem_mem h5) _ _ _ _ _ _ _ _ k1 fun b hb=> ?_)
  have hb':b=p l[i]:=hb
  clear hb
  cbv
  repeat' (first|apply And.intro|exact fun (_:FF)=>by kernel_rfl|(intro h2;cbv)|apply Or.inl)
  any_goals exact hin
  ·refine h i ?_
   exact (idxF_some h5 ha (by rw [← hb'];obtain rfl:=X.a;simpa only [SD,bNot] using h2)).symm
  ·have hf:p l[i]=false:=by rename_i h3;rw [← hb'];obtain rfl:=X.a;simpa only [SD,bNot] using h3
   refine ⟨i+1,⟨by omega,?_⟩,by omega,?_⟩
   ·rw [take_succ' h5];intro x hx
    rcases List.mem_append.1 hx with hx|hx
    ·exact ha x hx
    ·simp at hx;subst hx;exact hf
   (cbv;repeat' apply And.intro);all_goals try first|trivial|rfl|(rw [X.a];rfl)
 ·have h5:i=n_d:=by obtain rfl:=X.a;simp only [hlen_d,SD,bNot] at h1;omega
  subst h5
  cbv
  refine h (-1) ?_
  rw [hn_d,List.take_length] at ha
  exact (idxF_none ha).symm
theorem F191 {l:List VE} {d:D} {p:VE→Bool} {s:S} {K:PV→List Ob→Prop} (hd:d=encL encVE l) (hl:l.length≤4294967295)
  (hg:∀ x∈l,∀ (c0:S) (c1:D) (c2:Int) (c3:S) (c4:S) (c5:D) (c6:D) (K':PV→List Ob→Prop),veIs x c0 c1 c2 c3 c4 c5 c6→(∀ b,b=p x→K' (.bool b) [])→FC Tryz.prog tt 192 [] [vePV c0 c1 c2 c3 c4 c5 c6,.pptr [.str s] 0] K')
  (h:∀ e0 e1 e2 e3 e4 e5 e6 b,veIs ((l.find? p).getD VE.zero) e0 e1 e2 e3 e4 e5 e6→b=(l.find? p).isSome→K (.tup [vePV e0 e1 e2 e3 e4 e5 e6,.bool b]) []):
  FC Tryz.prog tt 191 [] [.lst 101 d,.clos 192 [.pptr [.str s] 0]] K:=by
 refine FC.enter (G:=g191) tt_ok mixed ⟨Tryz.func191,by rfl,rfl⟩ rfl rfl rfl ?_
 intro A C L X
 obtain ⟨n_d,hn_d,hlen_d⟩:=lenOf hd
 cbv
 refine X.call (F53_192 hd hl hg fun r hr=> ?_)
 rcases idxF_cases p l with ⟨e1,e2⟩|⟨i,h5,e1,e2,e3⟩
 ·have hz:l.find? p=none:=by rw [List.find?_eq_none];intro x hx;simp [e2 x hx]
  cbv
  repeat' (first|apply And.intro|exact fun (_:FF)=>by kernel_rfl|(intro h2;cbv)|apply Or.inl)
  ·exfalso;rw [e1] at hr;subst hr;obtain rfl:=X.a;simp only [SD,bNot] at h2;omega
  ·exfalso;rw [e1] at hr;subst hr;obtain rfl:=X.a;simp only [SD,bNot] at h2;omega
  ·refine h _ _ _ _ _ _ _ _ ?_ ?_
   ·rw [hz];exact ⟨rfl,rfl,rfl,rfl,rfl,rfl,rfl⟩
   ·rw [hz];rfl
 ·have hz:l.find? p=some l[i]:=find_some' h5 e2 e3
  rw [e1] at hr
  obtain rfl:r=Int.ofNat i:=hr
  have k1:=veIsAt X.a hd h5
  have hid:A.idx (Int.ofNat i) (A.len d):=by rw [X.a,hd];exact leaf_idx h5
  cbv
  repeat' (first|apply And.intro|exact fun (_:FF)=>by kernel_rfl|(intro h2;cbv)|apply Or.inl)
  any_goals exact hid
  ·refine h _ _ _ _ _ _ _ _ ?_ ?_
   ·rw [hz];exact k1
   ·rw [hz];rfl
  ·exfalso;obtain rfl:=X.a;simp only [SD,bNot] at h2;omega
theorem F192 {x:VE} {s:S} {c0:S} {c1:D} {c2:Int} {c3:S} {c4:S} {c5:D} {c6:D} {K:PV→List Ob→Prop} (hx:veIs x c0 c1 c2 c3 c4 c5 c6) (h:∀ b,b=(x.name==s)→K (.bool b) []):
  FC Tryz.prog tt 192 [] [vePV c0 c1 c2 c3 c4 c5 c6,.pptr [.str s] 0] K:=by
 have k:=hx.1
 refine FC.enter (G:=g192) tt_ok mixed ⟨Tryz.func192,by rfl,rfl⟩ rfl rfl rfl ?_
 intro A C L X
 have q:=h (A.seq c0 s) (by rw [X.a,←k];rfl)
 cbv
 exact q
theorem F56_194 {l:List AE} {d:D} {p:AE→Bool} {s:S} {K:PV→List Ob→Prop} (hd:d=encL encAE l) (hl:l.length≤4294967295)
  (hg:∀ x∈l,∀ (c0:S) (c1:S) (c2:S) (K':PV→List Ob→Prop),aeIs x c0 c1 c2→(∀ b,b=p x→K' (.bool b) [])→FC Tryz.prog tt 194 [] [aePV c0 c1 c2,.pptr [.str s] 0] K')
  (h:∀ r:Int,r=idxF p l→K (.int .i64 r) []):
  FC Tryz.prog tt 56 [] [.lst 106 d,.clos 194 [.pptr [.str s] 0]] K:=by
 refine FC.enter (G:=g56) tt_ok mixed ⟨Tryz.func56,by rfl,rfl⟩ rfl rfl rfl ?_
 intro A C L X
 obtain ⟨n_d,hn_d,hlen_d⟩:=lenOf hd
 cbv
 refine X.loop (fun (i:Nat)=>⟨[(8,.int .i64 i),(7,.int .i64 (A.len d)),(1,.clos 194 [.pptr [.str s] 0]),(0,.lst 106 d)],[]⟩) (fun i=>i≤n_d∧∀ x∈l.take i,p x=false) (fun i=>n_d-i) 0 ⟨Nat.zero_le _,by simp⟩ ?_ ?_
 ·(cbv;repeat' apply And.intro);all_goals try first|trivial|rfl|(rw [X.a];rfl)
 rintro i ⟨hi,ha⟩
 cbv
 refine ⟨fun h1=> ?_,fun h1=> ?_⟩
 ·have h5:i<l.length:=by obtain rfl:=X.a;simp only [hlen_d,SD,bNot] at h1;omega
  have k1:=aeIsAt X.a hd h5
  have hid:A.idx (Int.ofNat i) (A.len d):=by rw [X.a,hd];exact leaf_idx h5
  have hin:A.inr .i64 (A.add (Int.ofNat i) 1):=by rw [X.a];exact leaf_inc h5 (by omega)
  cbv
  repeat' (first|apply And.intro|exact fun (_:FF)=>by kernel_rfl|(intro h2;cbv)|apply Or.inl)
  any_goals exact hid
  refine X.call (hg _ (List.getElem_mem h5) _ _ _ _ k1 fun b hb=> ?_)
  have hb':b=p l[i]:=hb
  clear hb
  cbv
  repeat' (first|apply And.intro|exact fun (_:FF)=>by kernel_rfl|(intro h2;cbv)|apply Or.inl)
  any_goals exact hin
  ·refine h i ?_
   exact (idxF_some h5 ha (by rw [← hb'];obtain rfl:=X.a;simpa only [SD,bNot] using h2)).symm
  ·have hf:p l[i]=false:=by rename_i h3;rw [← hb'];obtain rfl:=X.a;simpa only [SD,bNot] using h3
   refine ⟨i+1,⟨by omega,?_⟩,by omega,?_⟩
   ·rw [take_succ' h5];intro x hx
    rcases List.mem_append.1 hx with hx|hx
    ·exact ha x hx
    ·simp at hx;subst hx;exact hf
   (cbv;repeat' apply And.intro);all_goals try first|trivial|rfl|(rw [X.a];rfl)
 ·have h5:i=n_d:=by obtain rfl:=X.a;simp only [hlen_d,SD,bNot] at h1;omega
  subst h5
  cbv
  refine h (-1) ?_
  rw [hn_d,List.take_length] at ha
  exact (idxF_none ha).symm
theorem F193 {l:List AE} {d:D} {p:AE→Bool} {s:S} {K:PV→List Ob→Prop} (hd:d=encL encAE l) (hl:l.length≤4294967295)
  (hg:∀ x∈l,∀ (c0:S) (c1:S) (c2:S) (K':PV→List Ob→Prop),aeIs x c0 c1 c2→(∀ b,b=p x→K' (.bool b) [])→FC Tryz.prog tt 194 [] [aePV c0 c1 c2,.pptr [.str s] 0] K')
  (h:∀ e0 e1 e2 b,aeIs ((l.find? p).getD AE.zero) e0 e1 e2→b=(l.find? p).isSome→K (.tup [aePV e0 e1 e2,.bool b]) []):
  FC Tryz.prog tt 193 [] [.lst 106 d,.clos 194 [.pptr [.str s] 0]] K:=by
 refine FC.enter (G:=g193) tt_ok mixed ⟨Tryz.func193,by rfl,rfl⟩ rfl rfl rfl ?_
 intro A C L X
 obtain ⟨n_d,hn_d,hlen_d⟩:=lenOf hd
 cbv
 refine X.call (F56_194 hd hl hg fun r hr=> ?_)
 rcases idxF_cases p l with ⟨e1,e2⟩|⟨i,h5,e1,e2,e3⟩
 ·have hz:l.find? p=none:=by rw [List.find?_eq_none];intro x hx;simp [e2 x hx]
  cbv
  repeat' (first|apply And.intro|exact fun (_:FF)=>by kernel_rfl|(intro h2;cbv)|apply Or.inl)
  ·exfalso;rw [e1] at hr;subst hr;obtain rfl:=X.a;simp only [SD,bNot] at h2;omega
  ·exfalso;rw [e1] at hr;subst hr;obtain rfl:=X.a;simp only [SD,bNot] at h2;omega
  ·refine h _ _ _ _ ?_ ?_
   ·rw [hz];exact ⟨rfl,rfl,rfl⟩
   ·rw [hz];rfl
 ·have hz:l.find? p=some l[i]:=find_some' h5 e2 e3
  rw [e1] at hr
  obtain rfl:r=Int.ofNat i:=hr
  have k1:=aeIsAt X.a hd h5
  have hid:A.idx (Int.ofNat i) (A.len d):=by rw [X.a,hd];exact leaf_idx h5
  cbv
  repeat' (first|apply And.intro|exact fun (_:FF)=>by kernel_rfl|(intro h2;cbv)|apply Or.inl)
  any_goals exact hid
  ·refine h _ _ _ _ ?_ ?_
   ·rw [hz];exact k1
   ·rw [hz];rfl
  ·exfalso;obtain rfl:=X.a;simp only [SD,bNot] at h2;omega
theorem F194 {x:AE} {s:S} {c0:S} {c1:S} {c2:S} {K:PV→List Ob→Prop} (hx:aeIs x c0 c1 c2) (h:∀ b,b=(x.name==s)→K (.bool b) []):
  FC Tryz.prog tt 194 [] [aePV c0 c1 c2,.pptr [.str s] 0] K:=by
 have k:=hx.1
 refine FC.enter (G:=g194) tt_ok mixed ⟨Tryz.func194,by rfl,rfl⟩ rfl rfl rfl ?_
 intro A C L X
 have q:=h (A.seq c0 s) (by rw [X.a,←k];rfl)
 cbv
 exact q
end Go.VC.T07
end

section
namespace Go.VC.T07
open Go Go.VC Go.Proofs
theorem F144 {l:List Pm} {d:D} {K:PV→List Ob→Prop} (hd:d=encL encPm l) (hl:l.length≤4294967295) (hok:∀ p∈l,p.ok) (h:∀ r,r=encL encPm l→K (.lst 53 r) []):FC Tryz.prog tt 144 [] [.lst 53 d] K:=by
 refine FC.enter (G:=g144) tt_ok mixed ⟨Tryz.func144,by rfl,rfl⟩ rfl rfl rfl ?_
 intro A C L X
 cbv
 refine X.call (F195 hd (by omega) fun r hr=> ?_)
 obtain ⟨n_r,hn_r,hlen_r⟩:=lenOf hr
 cbv
 refine X.loopP (fun (x:Nat×D)=>⟨[(8,.int .i64 x.1),(7,.int .i64 (A.len r)),(0,.row 53 0)],[.row 53 x.2 true]⟩) (fun x=>x.1≤n_r∧x.2=encL encPm l) (fun x=>n_r-x.1) (0,r) ⟨Nat.zero_le _,hr⟩ ?_ ?_
 ·refine ⟨[0],rfl,?_⟩
  (cbv;repeat' apply And.intro);all_goals try first|trivial|rfl|(rw [X.a];rfl)
 rintro ⟨i,z⟩ ⟨hi,hz⟩
 simp only at hi hz
 cbv
 refine ⟨fun h1=> ?_,fun h1=> ?_⟩
 ·have h5:i<l.length:=by obtain rfl:=X.a;simp only [hlen_r,SD,bNot] at h1;omega
  have k1:=pmTyAt X.a hz h5
  have hid:A.idx (Int.ofNat i) (A.len z):=by rw [X.a,hz];exact leaf_idx h5
  have hin:A.inr .i64 (A.add (Int.ofNat i) 1):=by rw [X.a];exact leaf_inc h5 (by omega)
  cbv
  repeat' (first|apply And.intro|exact fun (_:FF)=>by kernel_rfl|(intro h2;cbv)|apply Or.inl)
  any_goals exact hid
  refine X.call (F145 _ (hok _ (List.getElem_mem h5)) k1 fun e0 e1 e2 e3 e4 he=> ?_)
  obtain ⟨he0,he1,he2,he3,he4⟩:=he
  have q1:A.setc z (Int.ofNat i) 2 [.int e0,.str e1,.str e2,e3,e4]=z:=setc_self X.a hz h5 (by rw [encPm_eq,he0,he1,he2,he3,he4];rfl)
  cbv
  repeat' (first|apply And.intro|exact fun (_:FF)=>by kernel_rfl|(intro h2;cbv)|apply Or.inl)
  any_goals exact hid
  any_goals exact hin
  refine ⟨(i+1,A.setc z (Int.ofNat i) 2 [.int e0,.str e1,.str e2,e3,e4]),⟨by simp only;omega,q1.trans hz⟩,by simp only;omega,[0],rfl,?_⟩
  (cbv;repeat' apply And.intro);all_goals try first|trivial|rfl|(rw [X.a];rfl)
 cbv
 exact h z hz
theorem F87 {x:TE} (hx:x.ok) {c0:S} {c1:D} {c2:Int} {c3 c4:S} {c5 c6:D} {c7:Int} {c8 c9:S} {c10 c11:D} {K:PV→List Ob→Prop} (hc:teIs x c0 c1 c2 c3 c4 c5 c6 c7 c8 c9 c10 c11)
  (h:∀ e0 e1 e2 e3 e4 e5 e6 e7 e8 e9 e10 e11,teIs x e0 e1 e2 e3 e4 e5 e6 e7 e8 e9 e10 e11→K (tePV e0 e1 e2 e3 e4 e5 e6 e7 e8 e9 e10 e11) []):
  FC Tryz.prog tt 87 [] [tePV c0 c1 c2 c3 c4 c5 c6 c7 c8 c9 c10 c11] K:=by
 obtain ⟨k0,k1,k2,k3⟩:=hc
 refine FC.enter (G:=g87) tt_ok mixed ⟨Tryz.func87,by rfl,rfl⟩ rfl rfl rfl ?_
 intro A C L X
 cbv
 repeat' (first|apply And.intro|exact fun (_:FF)=>by kernel_rfl|(intro h2;cbv)|apply Or.inl)
 refine X.call (F144 k1 hx.np hx.p fun r hr=> ?_)
 cbv
 repeat' (first|apply And.intro|exact fun (_:FF)=>by kernel_rfl|(intro h2;cbv)|apply Or.inl)
 refine X.call (F145 _ hx.lo k2 fun e0 e1 e2 e3 e4 he=> ?_)
 cbv
 repeat' (first|apply And.intro|exact fun (_:FF)=>by kernel_rfl|(intro h2;cbv)|apply Or.inl)
 refine X.call (F145 _ hx.up k3 fun g0 g1 g2 g3 g4 hg=> ?_)
 cbv
 repeat' (first|apply And.intro|exact fun (_:FF)=>by kernel_rfl|(intro h2;cbv)|apply Or.inl)
 exact h _ _ _ _ _ _ _ _ _ _ _ _ ⟨k0,hr,he,hg⟩
theorem F115 {x:VE} (hx:x.ok) {c0:S} {c1:D} {c2:Int} {c3 c4:S} {c5 c6:D} {K:PV→List Ob→Prop} (hc:veIs x c0 c1 c2 c3 c4 c5 c6)
  (h:∀ e0 e1 e2 e3 e4 e5 e6,veIs x e0 e1 e2 e3 e4 e5 e6→K (vePV e0 e1 e2 e3 e4 e5 e6) []):
  FC Tryz.prog tt 115 [] [vePV c0 c1 c2 c3 c4 c5 c6] K:=by
 obtain ⟨k0,k1,k2⟩:=hc
 refine FC.enter (G:=g115) tt_ok mixed ⟨Tryz.func115,by rfl,rfl⟩ rfl rfl rfl ?_
 intro A C L X
 cbv
 repeat' (first|apply And.intro|exact fun (_:FF)=>by kernel_rfl|(intro h2;cbv)|apply Or.inl)
 refine X.call (F144 k1 hx.np hx.p fun r hr=> ?_)
 cbv
 repeat' (first|apply And.intro|exact fun (_:FF)=>by kernel_rfl|(intro h2;cbv)|apply Or.inl)
 refine X.call (F145 _ hx.ty k2 fun e0 e1 e2 e3 e4 he=> ?_)
 cbv
 repeat' (first|apply And.intro|exact fun (_:FF)=>by kernel_rfl|(intro h2;cbv)|apply Or.inl)
 exact h _ _ _ _ _ _ _ ⟨k0,hr,he⟩
end Go.VC.T07
end

section
namespace Go.VC.T07
open Go Go.VC Go.Proofs
theorem F69 {x:IF} (hx:x.ok) {c0:S} {c1 c2 c3 c4:D} {K:PV→List Ob→Prop} (hc:ifIs x c0 c1 c2 c3 c4)
  (h:∀ e0 e1 e2 e3 e4,ifIs x e0 e1 e2 e3 e4→K (ifPV e0 e1 e2 e3 e4) []):
  FC Tryz.prog tt 69 [] [ifPV c0 c1 c2 c3 c4] K:=by
 obtain ⟨k0,hc1,hc2,hc3,hc4⟩:=hc
 have nt:=hx.nt
 have nv:=hx.nv
 have na:=hx.na
 have nd:=hx.nd
 refine FC.enter (G:=g69) tt_ok mixed ⟨Tryz.func69,by rfl,rfl⟩ rfl rfl rfl ?_
 intro A C L X
 cbv
 refine X.cut (fun (z:D×D)=>⟨[(1,.box 0 0),(2,.box 1 0)],[.box [.str c0,.row 51 2,.row 101 3,.lst 106 c3,.lst 119 c4],.box [.undef,.undef,.undef,.undef,.undef],.row 51 z.1 true,.row 101 z.2 true]⟩) (fun z=>z.1=encL encTE x.types∧z.2=encL encVE x.values) ?_ ?_
 ·cbv
  repeat' (first|apply And.intro|exact fun (_:FF)=>by kernel_rfl|(intro h2;cbv)|apply Or.inl|(refine X.call (F113 hc1 (by omega) fun r1 hr1=> ?_);cbv)|(refine X.call (F114 hc2 (by omega) fun r2 hr2=> ?_);cbv))
  all_goals (refine ⟨(r1,r2),⟨hr1,hr2⟩,[0,1,2,3],rfl,?_⟩;(cbv;repeat' apply And.intro);all_goals try first|trivial|rfl|(rw [X.a];rfl))
 rintro ⟨z1,z2⟩ ⟨hz1,hz2⟩
 simp only at hz1 hz2
 obtain ⟨n_z1,hn_z1,hlen_z1⟩:=lenOf hz1
 obtain ⟨n_z2,hn_z2,hlen_z2⟩:=lenOf hz2
 cbv
 refine X.loopP (fun (y:Nat×D)=>⟨[(18,.int .i64 y.1),(17,.int .i64 (A.len z1)),(16,.row 51 2),(1,.box 0 0),(2,.box 1 0)],[.box [.str c0,.row 51 2,.row 101 3,.lst 106 c3,.lst 119 c4],.box [.undef,.undef,.undef,.undef,.undef],.row 51 y.2 true,.row 101 z2 true]⟩)
  (fun y=>y.1≤n_z1∧y.2=encL encTE x.types) (fun y=>n_z1-y.1) (0,z1) ⟨Nat.zero_le _,hz1⟩ ?_ ?_
 ·refine ⟨[0,1,2,3],rfl,?_⟩
  (cbv;repeat' apply And.intro);all_goals try first|trivial|rfl|(rw [X.a];rfl)
 rintro ⟨j,r⟩ ⟨hj,hr⟩
 simp only at hj hr
 cbv
 refine ⟨fun h1=> ?_,fun h1=> ?_⟩
 ·have h5:j<x.types.length:=by obtain rfl:=X.a;simp only [hlen_z1,SD,bNot] at h1;omega
  have k1:=teIsAt X.a hr h5
  have hid:A.idx (Int.ofNat j) (A.len r):=by rw [X.a,hr];exact leaf_idx h5
  have hin:A.inr .i64 (A.add (Int.ofNat j) 1):=by rw [X.a];exact leaf_inc h5 (by omega)
  cbv
  repeat' (first|apply And.intro|exact fun (_:FF)=>by kernel_rfl|(intro h2;cbv)|apply Or.inl)
  any_goals exact hid
  refine X.call (F87 (hx.t _ (List.getElem_mem h5)) k1 fun e0 e1 e2 e3 e4 e5 e6 e7 e8 e9 e10 e11 he=> ?_)
  obtain ⟨he0,he1,⟨l0,l1,l2,l3,l4⟩,u0,u1,u2,u3,u4⟩:=he
  have q1:A.setc r (Int.ofNat j) 0 [.str e0,e1,.int e2,.str e3,.str e4,e5,e6,.int e7,.str e8,.str e9,e10,e11]=r:=setc_self X.a hr h5 (by rw [encTE_eq,he0,he1,l0,l1,l2,l3,l4,u0,u1,u2,u3,u4];rfl)
  cbv
  repeat' (first|apply And.intro|exact fun (_:FF)=>by kernel_rfl|(intro h2;cbv)|apply Or.inl)
  any_goals exact hid
  any_goals exact hin
  refine ⟨(j+1,A.setc r (Int.ofNat j) 0 [.str e0,e1,.int e2,.str e3,.str e4,e5,e6,.int e7,.str e8,.str e9,e10,e11]),⟨by simp only;omega,q1.trans hr⟩,by simp only;omega,[0,1,2,3],rfl,?_⟩
  (cbv;repeat' apply And.intro);all_goals try first|trivial|rfl|(rw [X.a];rfl)
 cbv
 refine X.loopP (fun (y:Nat×D)=>⟨[(33,.int .i64 y.1),(32,.int .i64 (A.len z2)),(31,.row 101 3),(1,.box 0 0),(2,.box 1 0)],[.box [.str c0,.row 51 2,.row 101 3,.lst 106 c3,.lst 119 c4],.box [.undef,.undef,.undef,.undef,.undef],.row 51 r true,.row 101 y.2 true]⟩)
  (fun y=>y.1≤n_z2∧y.2=encL encVE x.values) (fun y=>n_z2-y.1) (0,z2) ⟨Nat.zero_le _,hz2⟩ ?_ ?_
 ·refine ⟨[0,1,2,3],rfl,?_⟩
  (cbv;repeat' apply And.intro);all_goals try first|trivial|rfl|(rw [X.a];rfl)
 rintro ⟨j2,r2⟩ ⟨hj2,hr2⟩
 simp only at hj2 hr2
 cbv
 refine ⟨fun h1=> ?_,fun h1=> ?_⟩
 ·have h5:j2<x.values.length:=by obtain rfl:=X.a;simp only [hlen_z2,SD,bNot] at h1;omega
  have k1:=veIsAt X.a hr2 h5
  have hid:A.idx (Int.ofNat j2) (A.len r2):=by rw [X.a,hr2];exact leaf_idx h5
  have hin:A.inr .i64 (A.add (Int.ofNat j2) 1):=by rw [X.a];exact leaf_inc h5 (by omega)
  cbv
  repeat' (first|apply And.intro|exact fun (_:FF)=>by kernel_rfl|(intro h2;cbv)|apply Or.inl)
  any_goals exact hid
  refine X.call (F115 (hx.v _ (List.getElem_mem h5)) k1 fun e0 e1 e2 e3 e4 e5 e6 he=> ?_)
  obtain ⟨he0,he1,l0,l1,l2,l3,l4⟩:=he
  have q1:A.setc r2 (Int.ofNat j2) 0 [.str e0,e1,.int e2,.str e3,.str e4,e5,e6]=r2:=setc_self X.a hr2 h5 (by rw [encVE_eq,he0,he1,l0,l1,l2,l3,l4];rfl)
  cbv
  repeat' (first|apply And.intro|exact fun (_:FF)=>by kernel_rfl|(intro h2;cbv)|apply Or.inl)
  any_goals exact hid
  any_goals exact hin
  refine ⟨(j2+1,A.setc r2 (Int.ofNat j2) 0 [.str e0,e1,.int e2,.str e3,.str e4,e5,e6]),⟨by simp only;omega,q1.trans hr2⟩,by simp only;omega,[0,1,2,3],rfl,?_⟩
  (cbv;repeat' apply And.intro);all_goals try first|trivial|rfl|(rw [X.a];rfl)
 cbv
 refine X.cut (fun (z:D×D)=>⟨[(1,.box 0 0),(2,.box 1 0)],[.box [.str c0,.row 51 2,.row 101 3,.row 106 4,.row 119 5],.box [.undef,.undef,.undef,.undef,.undef],.row 51 r true,.row 101 r2 true,.row 106 z.1 true,.row 119 z.2 true]⟩) (fun z=>z.1=encL encAE x.aliases∧z.2=encL encDE x.deprecated) ?_ ?_
 ·cbv
  repeat' (first|apply And.intro|exact fun (_:FF)=>by kernel_rfl|(intro h2;cbv)|apply Or.inl|(refine X.call (F116 hc3 (by omega) fun r1 hr1=> ?_);cbv)|(refine X.call (F117 hc4 (by omega) fun r2 hr2=> ?_);cbv))
  all_goals (refine ⟨(_,_),⟨hr1,hr2⟩,[0,1,2,3,4,5],rfl,?_⟩;(cbv;repeat' apply And.intro);all_goals try first|trivial|rfl|(rw [X.a];rfl))
 rintro ⟨z3,z4⟩ ⟨hz3,hz4⟩
 simp only at hz3 hz4
 cbv
 exact h _ _ _ _ _ ⟨k0,hr,hr2,hz3,hz4⟩
end Go.VC.T07
end

section
namespace Go.VC
def findI (env:List IF) (path:S):Option IF:=env.find? fun i=>i.path==path
inductive Look where|none|typ (x:TE)|val (x:VE)|ali (x:AE)|noali
def lookI (i:IF) (n:S):Look:=match i.types.find? fun x=>x.name==n with
 |some x=>.typ x
 |none=>match i.values.find? fun x=>x.name==n with
  |some x=>.val x
  |none=>match i.aliases.find? fun x=>x.name==n with
   |some x=>.ali x
   |none=>.noali
def look' (env:List IF) (m n:S):Look:=match findI env m with
 |none=>.none
 |some i=>lookI i n
theorem find_mem' {α:Type} {p:α→Bool} {l:List α} {x:α} (h:l.find? p=some x):x∈l:=List.mem_of_find?_eq_some h
def envOk (env:List IF):Prop:=env.length≤4294967295∧∀ i∈env,i.ok
theorem findI_ok {env:List IF} (h:envOk env) {s:S} {i:IF} (hi:findI env s=some i):i.ok:=h.2 i (find_mem' hi)
theorem zero_ok:IF.zero.ok:=⟨by simp [IF.zero],by simp [IF.zero],by simp [IF.zero],by simp [IF.zero],by simp [IF.zero],by simp [IF.zero]⟩
end Go.VC
namespace Go.VC.T07
open Go Go.VC Go.Proofs
theorem F68 {env:List IF} {d:D} {s c:S} {K:PV→List Ob→Prop} (hd:d=encL encIF env) (hl:envOk env) (hs:c=s)
  (h:∀ e0 e1 e2 e3 e4 b,ifIs ((findI env s).getD IF.zero) e0 e1 e2 e3 e4→b=(findI env s).isSome→K (.tup [ifPV e0 e1 e2 e3 e4,.bool b]) []):
  FC Tryz.prog tt 68 [] [.lst 40 d,.str c] K:=by
 subst hs
 refine FC.enter (G:=g68) tt_ok mixed ⟨Tryz.func68,by rfl,rfl⟩ rfl rfl rfl ?_
 intro A C L X
 cbv
 refine X.call (F111 (p:=fun i=>i.path==c) hd hl.1 (fun x hx _ _ _ _ _ K' k1 hK=>F112 k1 hK) fun e0 e1 e2 e3 e4 b he hb=> ?_)
 cbv
 exact h _ _ _ _ _ _ he hb
theorem F32 {env:List IF} {d:D} {s c:S} {K:PV→List Ob→Prop} (hd:d=encL encIF env) (hl:envOk env) (hs:c=s)
  (h:∀ e0 e1 e2 e3 e4 b,ifIs ((findI env s).getD IF.zero) e0 e1 e2 e3 e4→b=(findI env s).isSome→K (.tup [ifPV e0 e1 e2 e3 e4,.bool b]) []):
  FC Tryz.prog tt 32 [] [.lst 40 d,.str c] K:=by
 refine FC.enter (G:=g32) tt_ok mixed ⟨Tryz.func32,by rfl,rfl⟩ rfl rfl rfl ?_
 intro A C L X
 cbv
 refine X.call (F68 hd hl hs fun e0 e1 e2 e3 e4 b he hb=> ?_)
 cbv
 have hok:((findI env s).getD IF.zero).ok:=by
  cases hf:findI env s with
  |none=>exact zero_ok
  |some i=>exact findI_ok hl hf
 refine X.call (F69 hok he fun g0 g1 g2 g3 g4 hg=> ?_)
 cbv
 exact h _ _ _ _ _ _ hg hb
abbrev entPV (m n:S) (a b c:PV):PV:=.agg [.str m,.str n,a,b,c]
theorem F143 {env:List IF} {d:D} {m n:S} {K:PV→List Ob→Prop} (hd:d=encL encIF env) (hl:envOk env)
  (h0:look' env m n= .none→K (.tup [entPV m n .nilp .nilp .nilp,.bool false]) [])
  (h1:∀ x c0 c1 c2 c3 c4 c5 c6 c7 c8 c9 c10 c11,look' env m n= .typ x→x.ok→teIs x c0 c1 c2 c3 c4 c5 c6 c7 c8 c9 c10 c11→K (.tup [entPV m n (.pptr [.str c0,.lst 53 c1,.int .i64 c2,.str c3,.str c4,.lst 28 c5,.lst 65 c6,.int .i64 c7,.str c8,.str c9,.lst 28 c10,.lst 65 c11] 0) .nilp .nilp,.bool true]) [])
  (hh2:∀ x c0 c1 c2 c3 c4 c5 c6,look' env m n= .val x→x.ok→veIs x c0 c1 c2 c3 c4 c5 c6→K (.tup [entPV m n .nilp (.pptr [.str c0,.lst 53 c1,.int .i64 c2,.str c3,.str c4,.lst 28 c5,.lst 65 c6] 0) .nilp,.bool true]) [])
  (h3:∀ x c0 c1 c2 b,(look' env m n= .ali x∧b=true∨look' env m n= .noali∧b=false)→aeIs x c0 c1 c2→K (.tup [entPV m n .nilp .nilp (.pptr [.str c0,.str c1,.str c2] 0),.bool b]) []):
  FC Tryz.prog tt 143 [] [.lst 40 d,.str m,.str n] K:=by
 refine FC.enter (G:=g143) tt_ok mixed ⟨Tryz.func143,by rfl,rfl⟩ rfl rfl rfl ?_
 intro A C L X
 cbv
 refine X.call (F68 hd hl rfl fun e0 e1 e2 e3 e4 b he hb=> ?_)
 cases hf:findI env m with
 |none=>
  rw [hf] at hb
  obtain rfl:b=false:=hb
  have q:=h0 (by rw [look',hf])
  cbv
  repeat' (first|apply And.intro|exact fun (_:FF)=>by kernel_rfl|(intro h2;cbv)|apply Or.inl)
  ·exact q
  ·obtain rfl:=X.a;cases h2
 |some i=>
  rw [hf] at hb he
  simp only [Option.getD_some] at he
  obtain rfl:b=true:=hb
  have hok:=findI_ok hl hf
  obtain ⟨he0,he1,he2,he3,he4⟩:=he
  have hL:look' env m n=lookI i n:=by rw [look',hf]
  rw [hL] at h0 h1 hh2 h3
  clear hL
  cbv
  repeat' (first|apply And.intro|exact fun (_:FF)=>by kernel_rfl|(intro h2;cbv)|apply Or.inl)
  ·obtain rfl:=X.a;cases h2
  clear h2
  refine X.call (F189 (p:=fun x=>x.name==n) he1 hok.nt (fun x hx _ _ _ _ _ _ _ _ _ _ _ _ K' k1 hK=>F190 k1 hK) fun c0 c1 c2 c3 c4 c5 c6 c7 c8 c9 c10 c11 b hx hb=> ?_)
  cases hft:i.types.find? (fun x=>x.name==n) with
  |some x=>
   rw [hft] at hx hb
   obtain rfl:b=true:=hb
   have q:=h1 x c0 c1 c2 c3 c4 c5 c6 c7 c8 c9 c10 c11 (by rw [lookI,hft]) (hok.t _ (find_mem' hft)) hx
   cbv
   repeat' (first|apply And.intro|exact fun (_:FF)=>by kernel_rfl|(intro h2;cbv)|apply Or.inl)
   ·exact q
   ·obtain rfl:=X.a;cases h2
  |none=>
   rw [hft] at hx hb
   obtain rfl:b=false:=hb
   cbv
   repeat' (first|apply And.intro|exact fun (_:FF)=>by kernel_rfl|(intro h2;cbv)|apply Or.inl)
   ·obtain rfl:=X.a;cases h2
   clear h2
   refine X.call (F191 (p:=fun x=>x.name==n) he2 hok.nv (fun x hx _ _ _ _ _ _ _ K' k1 hK=>F192 k1 hK) fun u0 u1 u2 u3 u4 u5 u6 b hv hb=> ?_)
   cases hfv:i.values.find? (fun x=>x.name==n) with
   |some x=>
    rw [hfv] at hv hb
    obtain rfl:b=true:=hb
    have q:=hh2 x u0 u1 u2 u3 u4 u5 u6 (by rw [lookI,hft];simp only [hfv]) (hok.v _ (find_mem' hfv)) hv
    cbv
    repeat' (first|apply And.intro|exact fun (_:FF)=>by kernel_rfl|(intro h2;cbv)|apply Or.inl)
    ·exact q
    ·obtain rfl:=X.a;cases h2
   |none=>
    rw [hfv] at hv hb
    obtain rfl:b=false:=hb
    cbv
    repeat' (first|apply And.intro|exact fun (_:FF)=>by kernel_rfl|(intro h2;cbv)|apply Or.inl)
    ·obtain rfl:=X.a;cases h2
    clear h2
    refine X.call (F193 (p:=fun x=>x.name==n) he3 hok.na (fun x hx _ _ _ K' k1 hK=>F194 k1 hK) fun a0 a1 a2 b ha hb=> ?_)
    have q:=h3 ((i.aliases.find? (fun x=>x.name==n)).getD AE.zero) a0 a1 a2 b (by
     cases hfa:i.aliases.find? (fun x=>x.name==n) with
     |some x=>rw [hfa] at hb;exact .inl ⟨by rw [lookI,hft];simp only [hfv,hfa];rfl,hb⟩
     |none=>rw [hfa] at hb;exact .inr ⟨by rw [lookI,hft];simp only [hfv,hfa],hb⟩) ha
    cbv
    repeat' (first|apply And.intro|exact fun (_:FF)=>by kernel_rfl|(intro h2;cbv)|apply Or.inl)
    exact q
end Go.VC.T07
end

section
namespace Go.VC.T07
open Go Go.VC Go.Proofs
theorem F20 {x:IF} {s c:S} {c0:S} {c1 c2 c3 c4:D} {K:PV→List Ob→Prop} (hx:ifIs x c0 c1 c2 c3 c4) (hl:x.types.length≤4294967295) (hs:c=s)
  (h:∀ e0 e1 e2 e3 e4 e5 e6 e7 e8 e9 e10 e11 b,teIs ((x.types.find? fun y=>y.name==s).getD TE.zero) e0 e1 e2 e3 e4 e5 e6 e7 e8 e9 e10 e11→b=(x.types.find? fun y=>y.name==s).isSome→K (.tup [tePV e0 e1 e2 e3 e4 e5 e6 e7 e8 e9 e10 e11,.bool b]) []):
  FC Tryz.prog tt 20 [] [ifPV c0 c1 c2 c3 c4,.str c] K:=by
 subst hs
 obtain ⟨a0,a1,a2,a3,a4⟩:=hx
 refine FC.enter (G:=g20) tt_ok mixed ⟨Tryz.func20,by rfl,rfl⟩ rfl rfl rfl ?_
 intro A C L X
 obtain ⟨n_c1,hn_c1,hlen_c1⟩:=lenOf a1
 cbv
 refine X.loop (fun (i:Nat)=>⟨[(6,.int .i64 i),(2,.box 0 0),(1,.str c),(4,.box 1 0)],[.box [.str c0,.lst 51 c1,.lst 101 c2,.lst 106 c3,.lst 119 c4],.box [.undef,.undef,.undef,.undef,.undef,.undef,.undef,.undef,.undef,.undef,.undef,.undef]]⟩) (fun i=>i≤n_c1∧∀ y∈x.types.take i,(y.name==c)=false) (fun i=>n_c1-i) 0 ⟨Nat.zero_le _,by simp⟩ ?_ ?_
 ·(cbv;repeat' apply And.intro);all_goals try first|trivial|rfl|(rw [X.a];rfl)
 rintro i ⟨hi,ha⟩
 cbv
 refine ⟨fun h1=> ?_,fun h1=> ?_⟩
 ·have h5:i<x.types.length:=by obtain rfl:=X.a;simp only [hlen_c1,SD,bNot] at h1;omega
  have k1:=teIsAt X.a a1 h5
  have k0:=k1.1
  have hid:A.idx (Int.ofNat i) (A.len c1):=by rw [X.a,a1];exact leaf_idx h5
  have hin:A.inr .i64 (A.add (Int.ofNat i) 1):=by rw [X.a];exact leaf_inc h5 (by omega)
  cbv
  repeat' (first|apply And.intro|exact fun (_:FF)=>by kernel_rfl|(intro h2;cbv)|apply Or.inl)
  any_goals exact hid
  any_goals exact hin
  ·have e:x.types[i].name=c:=by rw [← k0];obtain rfl:=X.a;simpa only [SD,bNot] using h2
   have hz:(x.types.find? fun y=>y.name==c)=some x.types[i]:=find_some' h5 (by simp [e]) ha
   refine h _ _ _ _ _ _ _ _ _ _ _ _ _ ?_ ?_
   ·rw [hz];exact k1
   ·rw [hz];rfl
  ·have e:¬x.types[i].name=c:=by rename_i g3;rw [← k0];obtain rfl:=X.a;simpa only [SD,bNot] using g3
   refine ⟨i+1,⟨by omega,?_⟩,by omega,?_⟩
   ·rw [take_succ' h5];intro y hy
    rcases List.mem_append.1 hy with hy|hy
    ·exact ha y hy
    ·simp at hy;subst hy;simpa using e
   (cbv;repeat' apply And.intro);all_goals try first|trivial|rfl|(rw [X.a];rfl)
 have h5:i=n_c1:=by obtain rfl:=X.a;simp only [hlen_c1,SD,bNot] at h1;omega
 subst h5
 rw [hn_c1,List.take_length] at ha
 have hz:(x.types.find? fun y=>y.name==c)=none:=by rw [List.find?_eq_none];intro y hy;simp [ha y hy]
 cbv
 refine h _ _ _ _ _ _ _ _ _ _ _ _ _ ?_ ?_
 ·rw [hz];exact ⟨rfl,rfl,⟨rfl,rfl,rfl,rfl,rfl⟩,rfl,rfl,rfl,rfl,rfl⟩
 ·rw [hz];rfl
theorem F127 {x:IF} {s c:S} {c0:S} {c1 c2 c3 c4:D} {K:PV→List Ob→Prop} (hx:ifIs x c0 c1 c2 c3 c4) (hl:x.values.length≤4294967295) (hs:c=s)
  (h:∀ e0 e1 e2 e3 e4 e5 e6 b,veIs ((x.values.find? fun y=>y.name==s).getD VE.zero) e0 e1 e2 e3 e4 e5 e6→b=(x.values.find? fun y=>y.name==s).isSome→K (.tup [vePV e0 e1 e2 e3 e4 e5 e6,.bool b]) []):
  FC Tryz.prog tt 127 [] [ifPV c0 c1 c2 c3 c4,.str c] K:=by
 subst hs
 obtain ⟨a0,a1,a2,a3,a4⟩:=hx
 refine FC.enter (G:=g127) tt_ok mixed ⟨Tryz.func127,by rfl,rfl⟩ rfl rfl rfl ?_
 intro A C L X
 obtain ⟨n_c2,hn_c2,hlen_c2⟩:=lenOf a2
 cbv
 refine X.loop (fun (i:Nat)=>⟨[(6,.int .i64 i),(2,.box 0 0),(1,.str c),(4,.box 1 0)],[.box [.str c0,.lst 51 c1,.lst 101 c2,.lst 106 c3,.lst 119 c4],.box [.undef,.undef,.undef,.undef,.undef,.undef,.undef]]⟩) (fun i=>i≤n_c2∧∀ y∈x.values.take i,(y.name==c)=false) (fun i=>n_c2-i) 0 ⟨Nat.zero_le _,by simp⟩ ?_ ?_
 ·(cbv;repeat' apply And.intro);all_goals try first|trivial|rfl|(rw [X.a];rfl)
 rintro i ⟨hi,ha⟩
 cbv
 refine ⟨fun h1=> ?_,fun h1=> ?_⟩
 ·have h5:i<x.values.length:=by obtain rfl:=X.a;simp only [hlen_c2,SD,bNot] at h1;omega
  have k1:=veIsAt X.a a2 h5
  have k0:=k1.1
  have hid:A.idx (Int.ofNat i) (A.len c2):=by rw [X.a,a2];exact leaf_idx h5
  have hin:A.inr .i64 (A.add (Int.ofNat i) 1):=by rw [X.a];exact leaf_inc h5 (by omega)
  cbv
  repeat' (first|apply And.intro|exact fun (_:FF)=>by kernel_rfl|(intro h2;cbv)|apply Or.inl)
  any_goals exact hid
  any_goals exact hin
  ·have e:x.values[i].name=c:=by rw [← k0];obtain rfl:=X.a;simpa only [SD,bNot] using h2
   have hz:(x.values.find? fun y=>y.name==c)=some x.values[i]:=find_some' h5 (by simp [e]) ha
   refine h _ _ _ _ _ _ _ _ ?_ ?_
   ·rw [hz];exact k1
   ·rw [hz];rfl
  ·have e:¬x.values[i].name=c:=by rename_i g3;rw [← k0];obtain rfl:=X.a;simpa only [SD,bNot] using g3
   refine ⟨i+1,⟨by omega,?_⟩,by omega,?_⟩
   ·rw [take_succ' h5];intro y hy
    rcases List.mem_append.1 hy with hy|hy
    ·exact ha y hy
    ·simp at hy;subst hy;simpa using e
   (cbv;repeat' apply And.intro);all_goals try first|trivial|rfl|(rw [X.a];rfl)
 have h5:i=n_c2:=by obtain rfl:=X.a;simp only [hlen_c2,SD,bNot] at h1;omega
 subst h5
 rw [hn_c2,List.take_length] at ha
 have hz:(x.values.find? fun y=>y.name==c)=none:=by rw [List.find?_eq_none];intro y hy;simp [ha y hy]
 cbv
 refine h _ _ _ _ _ _ _ _ ?_ ?_
 ·rw [hz];exact ⟨rfl,rfl,rfl,rfl,rfl,rfl,rfl⟩
 ·rw [hz];rfl
theorem F128 {x:IF} {s c:S} {c0:S} {c1 c2 c3 c4:D} {K:PV→List Ob→Prop} (hx:ifIs x c0 c1 c2 c3 c4) (hl:x.aliases.length≤4294967295) (hs:c=s)
  (h:∀ e0 e1 e2 b,aeIs ((x.aliases.find? fun y=>y.name==s).getD AE.zero) e0 e1 e2→b=(x.aliases.find? fun y=>y.name==s).isSome→K (.tup [aePV e0 e1 e2,.bool b]) []):
  FC Tryz.prog tt 128 [] [ifPV c0 c1 c2 c3 c4,.str c] K:=by
 subst hs
 obtain ⟨a0,a1,a2,a3,a4⟩:=hx
 refine FC.enter (G:=g128) tt_ok mixed ⟨Tryz.func128,by rfl,rfl⟩ rfl rfl rfl ?_
 intro A C L X
 obtain ⟨n_c3,hn_c3,hlen_c3⟩:=lenOf a3
 cbv
 refine X.loop (fun (i:Nat)=>⟨[(6,.int .i64 i),(2,.box 0 0),(1,.str c),(4,.box 1 0)],[.box [.str c0,.lst 51 c1,.lst 101 c2,.lst 106 c3,.lst 119 c4],.box [.undef,.undef,.undef]]⟩) (fun i=>i≤n_c3∧∀ y∈x.aliases.take i,(y.name==c)=false) (fun i=>n_c3-i) 0 ⟨Nat.zero_le _,by simp⟩ ?_ ?_
 ·(cbv;repeat' apply And.intro);all_goals try first|trivial|rfl|(rw [X.a];rfl)
 rintro i ⟨hi,ha⟩
 cbv
 refine ⟨fun h1=> ?_,fun h1=> ?_⟩
 ·have h5:i<x.aliases.length:=by obtain rfl:=X.a;simp only [hlen_c3,SD,bNot] at h1;omega
  have k1:=aeIsAt X.a a3 h5
  have k0:=k1.1
  have hid:A.idx (Int.ofNat i) (A.len c3):=by rw [X.a,a3];exact leaf_idx h5
  have hin:A.inr .i64 (A.add (Int.ofNat i) 1):=by rw [X.a];exact leaf_inc h5 (by omega)
  cbv
  repeat' (first|apply And.intro|exact fun (_:FF)=>by kernel_rfl|(intro h2;cbv)|apply Or.inl)
  any_goals exact hid
  any_goals exact hin
  ·have e:x.aliases[i].name=c:=by rw [← k0];obtain rfl:=X.a;simpa only [SD,bNot] using h2
   have hz:(x.aliases.find? fun y=>y.name==c)=some x.aliases[i]:=find_some' h5 (by simp [e]) ha
   refine h _ _ _ _ ?_ ?_
   ·rw [hz];exact k1
   ·rw [hz];rfl
  ·have e:¬x.aliases[i].name=c:=by rename_i g3;rw [← k0];obtain rfl:=X.a;simpa only [SD,bNot] using g3
   refine ⟨i+1,⟨by omega,?_⟩,by omega,?_⟩
   ·rw [take_succ' h5];intro y hy
    rcases List.mem_append.1 hy with hy|hy
    ·exact ha y hy
    ·simp at hy;subst hy;simpa using e
   (cbv;repeat' apply And.intro);all_goals try first|trivial|rfl|(rw [X.a];rfl)
 have h5:i=n_c3:=by obtain rfl:=X.a;simp only [hlen_c3,SD,bNot] at h1;omega
 subst h5
 rw [hn_c3,List.take_length] at ha
 have hz:(x.aliases.find? fun y=>y.name==c)=none:=by rw [List.find?_eq_none];intro y hy;simp [ha y hy]
 cbv
 refine h _ _ _ _ ?_ ?_
 ·rw [hz];exact ⟨rfl,rfl,rfl⟩
 ·rw [hz];rfl
theorem F13 {env:List IF} {d:D} {s c:S} {K:PV→List Ob→Prop} (hd:d=encL encIF env) (hl:env.length≤4294967295) (hs:c=s)
  (h:∀ e0 e1 e2 e3 e4 b,ifIs ((findI env s).getD IF.zero) e0 e1 e2 e3 e4→b=(findI env s).isSome→K (.tup [ifPV e0 e1 e2 e3 e4,.bool b]) []):
  FC Tryz.prog tt 13 [] [.lst 40 d,.str c] K:=by
 subst hs
 refine FC.enter (G:=g13) tt_ok mixed ⟨Tryz.func13,by rfl,rfl⟩ rfl rfl rfl ?_
 intro A C L X
 obtain ⟨n_d,hn_d,hlen_d⟩:=lenOf hd
 cbv
 refine X.loop (fun (i:Nat)=>⟨[(6,.int .i64 i),(0,.lst 40 d),(1,.str c),(4,.box 0 0)],[.box [.undef,.undef,.undef,.undef,.undef]]⟩) (fun i=>i≤n_d∧∀ y∈env.take i,(y.path==c)=false) (fun i=>n_d-i) 0 ⟨Nat.zero_le _,by simp⟩ ?_ ?_
 ·(cbv;repeat' apply And.intro);all_goals try first|trivial|rfl|(rw [X.a];rfl)
 rintro i ⟨hi,ha⟩
 cbv
 refine ⟨fun h1=> ?_,fun h1=> ?_⟩
 ·have h5:i<env.length:=by obtain rfl:=X.a;simp only [hlen_d,SD,bNot] at h1;omega
  have k1:=ifIsAt X.a hd h5
  have k0:=k1.1
  have hid:A.idx (Int.ofNat i) (A.len d):=by rw [X.a,hd];exact leaf_idx h5
  have hin:A.inr .i64 (A.add (Int.ofNat i) 1):=by rw [X.a];exact leaf_inc h5 (by omega)
  cbv
  repeat' (first|apply And.intro|exact fun (_:FF)=>by kernel_rfl|(intro h2;cbv)|apply Or.inl)
  any_goals exact hid
  any_goals exact hin
  ·have e:env[i].path=c:=by rw [← k0];obtain rfl:=X.a;simpa only [SD,bNot] using h2
   have hz:findI env c=some env[i]:=find_some' h5 (by simp [e]) ha
   refine h _ _ _ _ _ _ ?_ ?_
   ·rw [hz];exact k1
   ·rw [hz];rfl
  ·have e:¬env[i].path=c:=by rename_i g3;rw [← k0];obtain rfl:=X.a;simpa only [SD,bNot] using g3
   refine ⟨i+1,⟨by omega,?_⟩,by omega,?_⟩
   ·rw [take_succ' h5];intro y hy
    rcases List.mem_append.1 hy with hy|hy
    ·exact ha y hy
    ·simp at hy;subst hy;simpa using e
   (cbv;repeat' apply And.intro);all_goals try first|trivial|rfl|(rw [X.a];rfl)
 have h5:i=n_d:=by obtain rfl:=X.a;simp only [hlen_d,SD,bNot] at h1;omega
 subst h5
 rw [hn_d,List.take_length] at ha
 have hz:findI env c=none:=by rw [findI,List.find?_eq_none];intro y hy;simp [ha y hy]
 cbv
 refine h _ _ _ _ _ _ ?_ ?_
 ·rw [hz];exact ⟨rfl,rfl,rfl,rfl,rfl⟩
 ·rw [hz];rfl
theorem F41 {l:List Pm} {d:D} {K:PV→List Ob→Prop} (hd:d=encL encPm l) (hl:l.length≤4294967295)
  (h:∀ r,r=encL encS (l.map (·.name))→K (.lst 9 r) []):FC Tryz.prog tt 41 [] [.lst 53 d] K:=by
 refine FC.enter (G:=g41) tt_ok mixed ⟨Tryz.func41,by rfl,rfl⟩ rfl rfl rfl ?_
 intro A C L X
 obtain ⟨n_d,hn_d,hlen_d⟩:=lenOf hd
 cbv
 refine X.loopP (fun (y:Nat×D)=>⟨[(4,.int .i64 y.1),(3,.row 9 0),(0,.lst 53 d)],[.row 9 y.2 true]⟩)
  (fun y=>y.1≤n_d∧y.2=encL encS ((l.take y.1).map (·.name))) (fun y=>n_d-y.1) (0,A.lit []) ⟨Nat.zero_le _,by rw [X.a];rfl⟩ ?_ ?_
 ·refine ⟨[0],rfl,?_⟩
  (cbv;repeat' apply And.intro);all_goals try first|trivial|rfl|(rw [X.a];rfl)
 rintro ⟨i,r⟩ ⟨hi,hr⟩
 simp only at hi hr
 cbv
 refine ⟨fun h1=> ?_,fun h1=> ?_⟩
 ·have h5:i<l.length:=by obtain rfl:=X.a;simp only [hlen_d,SD,bNot] at h1;omega
  have k1:=(pmAt X.a hd h5).1
  have hid:A.idx (Int.ofNat i) (A.len d):=by rw [X.a,hd];exact leaf_idx h5
  have hin:A.inr .i64 (A.add (Int.ofNat i) 1):=by rw [X.a];exact leaf_inc h5 (by omega)
  have hb:A.bnd (A.add (A.len r) (A.len (A.lit [[.str (A.asStr (A.cell d (Int.ofNat i) 0))]]))) 4294967296:=by
   rw [X.a,hr];simp only [SD,bNot,List.length_map];omega
  have q1:A.app r (A.lit [[.str (A.asStr (A.cell d (Int.ofNat i) 0))]])=encL encS ((l.take (i+1)).map (·.name)):=by
   rw [k1,X.a,hr,map_take h5];exact Std_app (k:=[l[i].name])
  cbv
  repeat' (first|apply And.intro|exact fun (_:FF)=>by kernel_rfl|(intro h2;cbv)|apply Or.inl)
  any_goals exact hid
  any_goals exact hb
  any_goals exact hin
  refine ⟨(i+1,_),⟨?_,q1⟩,?_,[0],rfl,?_⟩
  ·simp only;omega
  ·simp only;omega
  (cbv;repeat' apply And.intro);all_goals try first|trivial|rfl|(rw [X.a];rfl)
 have h5:i=n_d:=by obtain rfl:=X.a;simp only [hlen_d,SD,bNot] at h1;omega
 subst h5
 rw [hn_d,List.take_length] at hr
 cbv
 exact h r hr
end Go.VC.T07
end

section
namespace Go.VC
mutual
def Ty.all:Ty→List Ty| .mk k m n ar fl=>.mk k m n ar fl::(Ty.alls ar++Ty.allf fl)
def Fe.all:Fe→List Ty| .mk _ t _=>Ty.all t
def Ty.alls:List Ty→List Ty|[]=>[]|t::l=>Ty.all t++Ty.alls l
def Ty.allf:List Fe→List Ty|[]=>[]|t::l=>Fe.all t++Ty.allf l
end
theorem alls_eq:∀ l:List Ty,Ty.alls l=l.flatMap Ty.all
 |[]=>by simp [Ty.alls]
 |t::l=>by simp [Ty.alls,alls_eq l]
theorem allf_eq:∀ l:List Fe,Ty.allf l=(l.map Fe.t).flatMap Ty.all
 |[]=>by simp [Ty.allf]
 | .mk s t b::l=>by simp [Ty.allf,allf_eq l,Fe.all,Fe.t]
theorem all_eq (t:Ty):t.all=t::t.pts.flatMap Ty.all:=by
 cases t;simp only [Ty.all,alls_eq,allf_eq,Ty.pts,List.flatMap_append,Ty.ar,Ty.fl]
theorem all_len:∀ t:Ty,t.all.length=t.size:=by
 refine Ty.pinduct fun t ih=> ?_
 rw [all_eq,size_eq,List.length_cons,List.length_flatMap]
 have:(t.pts.map fun u=>u.all.length)=t.pts.map Ty.size:=List.map_congr_left ih
 rw [this];omega
def runAll (go:Ty→Int→Int) (ok:Ty→Bool):List Ty→Int→Int×Bool
 |[],s=>(s,true)
 |t::l,s=>if ok t then runAll go ok l (go t s) else (go t s,false)
theorem runAll_app {go:Ty→Int→Int} {ok:Ty→Bool}:∀ (l k:List Ty) (s:Int),runAll go ok (l++k) s=if (runAll go ok l s).2 then runAll go ok k (runAll go ok l s).1 else runAll go ok l s
 |[],k,s=>by simp [runAll]
 |t::l,k,s=>by
  simp only [List.cons_append,runAll]
  split
  ·exact runAll_app l k _
  ·simp
end Go.VC
namespace Go.VC.T07
open Go Go.VC Go.Proofs
def g100b:Cfg:={tt:=tt,n:=23,live:=[100],n0:=4}
def g99b:Cfg:={tt:=tt,n:=8,live:=[100],n0:=2}
theorem F100g {Q:Ty→Prop} {C1 C2:Code} {n q:Nat} {ps:List Nat} {go:Ty→Int→Int} {ok:Ty→Bool}
  (hy:∀ (t:Ty) (s:Int) (c0:Int) (c1 c2:S) (c3 c4:D) (K':PV→List Ob→Prop),Q t→tyIs t c0 c1 c2 c3 c4→(ok t=true→∀ s',s'=go t s→K' (.bl true) [.loop n ps C1 C2 [(q,.box 1 0)] .ready,.box [.int .i64 s']])→
   (ok t=false→∀ s',s'=go t s→K' (.bl false) [.loop n ps C1 C2 [(q,.box 1 0)] (.done .ret),.box [.int .i64 s']])→YC Tryz.prog tt [.loop n ps C1 C2 [(q,.box 1 0)] .ready,.box [.int .i64 s]] [tyPV c0 c1 c2 c3 c4] K'):
  ∀ (t:Ty),Ty.le 4294967295 t→t.size≤4294967295→(∀ u∈t.all,Q u)→∀ {s:Int} {c0:Int} {c1 c2:S} {c3 c4:D} {K:PV→List Ob→Prop},tyIs t c0 c1 c2 c3 c4→
   (∀ s',runAll go ok t.all s=(s',true)→K (.bool true) [.box [.yld 2],.box [.clos 100 [.box 0 0,.box 1 0]],.loop n ps C1 C2 [(q,.box 3 0)] .ready,.box [.int .i64 s']])→
   (∀ s',runAll go ok t.all s=(s',false)→K (.bool false) [.box [.yld 2],.box [.clos 100 [.box 0 0,.box 1 0]],.loop n ps C1 C2 [(q,.box 3 0)] (.done .ret),.box [.int .i64 s']])→
   FC Tryz.prog tt 100 [.box [.yld 2],.box [.clos 100 [.box 0 0,.box 1 0]],.loop n ps C1 C2 [(q,.box 3 0)] .ready,.box [.int .i64 s]] [tyPV c0 c1 c2 c3 c4,.box 0 0,.box 1 0] K:=by
 refine Ty.pinduct fun t ih=> ?_
 intro hle hs hQ s c0 c1 c2 c3 c4 K ht h1 h0
 have hszs:∀ u∈t.pts,u.size≤4294967295:=by
  intro u hu
  have:=size_eq t
  have h2:u.size≤(t.pts.map Ty.size).sum:=le_sum (List.mem_map.2 ⟨u,hu,rfl⟩)
  omega
 have hpl:t.pts.length≤4294967295:=by
  have:∀ l:List Ty,l.length≤(l.map Ty.size).sum:=by
   intro l
   induction l with
   |nil=>simp
   |cons x l ih=>simp only [List.length_cons,List.map_cons,List.sum_cons];have:=size_eq x;omega
  have h1:=this t.pts
  have h2:=size_eq t
  omega
 have hQp:∀ v∈t.pts,∀ u∈v.all,Q u:=fun v hv u hu=>hQ u (by rw [all_eq];exact List.mem_cons_of_mem _ (List.mem_flatMap.2 ⟨v,hv,hu⟩))
 rw [all_eq] at h1 h0
 refine FC.enterLive (G:=g100b) tt_ok mixed ⟨Tryz.func100,by rfl,rfl⟩ rfl rfl rfl ?_
 intro A C L X
 cbv
 refine X.round (hy t s _ _ _ _ _ _ (hQ t (by rw [all_eq];simp)) ht (fun hok s1 hs1=> ?_) (fun hok s1 hs1=> ?_))
 ·have e1:∀ l,runAll go ok (t::l) s=runAll go ok l s1:=fun l=>by rw [runAll,if_pos hok,hs1]
  rw [e1] at h1 h0
  cbv
  refine X.call (F98 hle hpl ht fun rp hrp=> ?_)
  obtain ⟨n_rp,hn_rp,hlen_rp⟩:=lenOf hrp
  cbv
  refine X.loopP (fun (y:Nat×Int)=>⟨[(14,.int .i64 y.1),(13,.int .i64 (A.len rp)),(12,.lst 28 rp),(1,.box 0 0),(2,.box 1 0)],[.box [.yld 2],.box [.clos 100 [.box 0 0,.box 1 0]],.loop n ps C1 C2 [(q,.box 3 0)] .ready,.box [.int .i64 y.2]]⟩)
   (fun y=>y.1≤n_rp∧runAll go ok ((t.pts.take y.1).flatMap Ty.all) s1=(y.2,true)) (fun y=>n_rp-y.1) (0,s1) ⟨Nat.zero_le _,rfl⟩ ?_ ?_
  ·refine ⟨[0,1,2,3],rfl,?_⟩
   (cbv;repeat' apply And.intro);all_goals try first|trivial|rfl|(rw [X.a];rfl)
  rintro ⟨i,r⟩ ⟨hi,hr⟩
  simp only at hi hr
  cbv
  refine ⟨fun h1'=> ?_,fun h1'=> ?_⟩
  ·have h5:i<t.pts.length:=by obtain rfl:=X.a;simp only [hlen_rp,SD,bNot] at h1';omega
   have k1:=tyAt X.a hrp h5
   have hid:A.idx (Int.ofNat i) (A.len rp):=by rw [X.a,hrp];exact leaf_idx h5
   have hin:A.inr .i64 (A.add (Int.ofNat i) 1):=by rw [X.a];exact leaf_inc h5 (by omega)
   have hneg1:A.not true=false:=by rw [X.a];rfl
   have hneg0:A.not false=true:=by rw [X.a];rfl
   cbv
   repeat' (first|apply And.intro|exact fun (_:FF)=>by kernel_rfl|(intro h2;cbv)|apply Or.inl)
   any_goals exact hid
   refine X.call (ih _ (List.getElem_mem h5) (pts_le hle _ (List.getElem_mem h5)) (hszs _ (List.getElem_mem h5)) (hQp _ (List.getElem_mem h5)) k1 (fun r' hr'=> ?_) (fun r' hr'=> ?_))
   ·cbv
    repeat' (first|apply And.intro|exact fun (_:FF)=>by kernel_rfl|(intro h2;cbv)|apply Or.inl)
    any_goals exact hin
    ·exact absurd (hneg1.symm.trans h2) (by decide)
    refine ⟨(i+1,r'),⟨?_,?_⟩,?_,[0,1,2,3],rfl,?_⟩
    ·simp only;omega
    ·simp only;rw [flat_take h5,runAll_app,hr,if_pos rfl];exact hr'
    ·simp only;omega
    (cbv;repeat' apply And.intro);all_goals try first|trivial|rfl|(rw [X.a];rfl)
   ·cbv
    repeat' (first|apply And.intro|exact fun (_:FF)=>by kernel_rfl|(intro h2;cbv)|apply Or.inl)
    any_goals exact hin
    ·refine h0 r' ?_
     have e2:t.pts.flatMap Ty.all=(t.pts.take (i+1)).flatMap Ty.all++(t.pts.drop (i+1)).flatMap Ty.all:=by rw [← List.flatMap_append,List.take_append_drop]
     have e3:runAll go ok ((t.pts.take (i+1)).flatMap Ty.all) s1=(r',false):=by rw [flat_take h5,runAll_app,hr,if_pos rfl];exact hr'
     rw [e2,runAll_app,e3];rfl
    ·have h2:A.not false=false:=by assumption
     exact absurd (hneg0.symm.trans h2) (by decide)
  have h5:i=n_rp:=by obtain rfl:=X.a;simp only [hlen_rp,SD,bNot] at h1';omega
  subst h5
  rw [hn_rp,List.take_length] at hr
  cbv
  exact h1 r hr
 ·cbv
  exact h0 s1 (by rw [runAll,if_neg (by simp [hok]),hs1])
theorem F99g {Q:Ty→Prop} {C1 C2:Code} {n q:Nat} {ps:List Nat} {go:Ty→Int→Int} {ok:Ty→Bool} {t:Ty} (hle:Ty.le 4294967295 t) (hs:t.size≤4294967295) (hQ:∀ u∈t.all,Q u) {s:Int} {c0:Int} {c1 c2:S} {c3 c4:D} {K:PV→List Ob→Prop} (ht:tyIs t c0 c1 c2 c3 c4)
  (hy:∀ (t:Ty) (s:Int) (c0:Int) (c1 c2:S) (c3 c4:D) (K':PV→List Ob→Prop),Q t→tyIs t c0 c1 c2 c3 c4→(ok t=true→∀ s',s'=go t s→K' (.bl true) [.loop n ps C1 C2 [(q,.box 1 0)] .ready,.box [.int .i64 s']])→
   (ok t=false→∀ s',s'=go t s→K' (.bl false) [.loop n ps C1 C2 [(q,.box 1 0)] (.done .ret),.box [.int .i64 s']])→YC Tryz.prog tt [.loop n ps C1 C2 [(q,.box 1 0)] .ready,.box [.int .i64 s]] [tyPV c0 c1 c2 c3 c4] K')
  (h1:∀ s',runAll go ok t.all s=(s',true)→K (.tup []) [.loop n ps C1 C2 [(q,.box 1 0)] .ready,.box [.int .i64 s']])
  (h0:∀ s',runAll go ok t.all s=(s',false)→K (.tup []) [.loop n ps C1 C2 [(q,.box 1 0)] (.done .ret),.box [.int .i64 s']]):
  FC Tryz.prog tt 99 [.loop n ps C1 C2 [(q,.box 1 0)] .ready,.box [.int .i64 s]] [.yld 0,.pptr [.int .i64 c0,.str c1,.str c2,.lst 28 c3,.lst 65 c4] 0] K:=by
 refine FC.enterLive (G:=g99b) tt_ok mixed ⟨Tryz.func99,by rfl,rfl⟩ rfl rfl rfl ?_
 intro A C L X
 cbv
 refine X.call (F100g hy t hle hs hQ ht (fun r hr=> ?_) (fun r hr=> ?_))
 ·cbv
  exact h1 r hr
 ·cbv
  exact h0 r hr
def g59r:Cfg:={tt:=tt,n:=10,n0:=2,rnd:=true}
end Go.VC.T07
end

section
namespace Go.VC
mutual
def Ty.dep:Ty→Nat| .mk _ _ _ ar fl=>1+max (Ty.deps ar) (Ty.depf fl)
def Fe.dep:Fe→Nat| .mk _ t _=>Ty.dep t
def Ty.deps:List Ty→Nat|[]=>0|t::l=>max (Ty.dep t) (Ty.deps l)
def Ty.depf:List Fe→Nat|[]=>0|t::l=>max (Fe.dep t) (Ty.depf l)
end
def maxN (l:List Nat):Nat:=l.foldl max 0
theorem foldl_max:∀ (l:List Nat) (a:Nat),l.foldl max a=max a (maxN l)
 |[],a=>by simp [maxN]
 |x::l,a=>by
  unfold maxN
  simp only [List.foldl_cons]
  rw [foldl_max l (max a x),foldl_max l (max 0 x)]
  omega
theorem maxN_cons (x:Nat) (l:List Nat):maxN (x::l)=max x (maxN l):=by
 unfold maxN;rw [List.foldl_cons,foldl_max];unfold maxN;omega
theorem maxN_append (l k:List Nat):maxN (l++k)=max (maxN l) (maxN k):=by
 unfold maxN;rw [List.foldl_append,foldl_max];rfl
theorem deps_eq:∀ l:List Ty,Ty.deps l=maxN (l.map Ty.dep)
 |[]=>by simp [Ty.deps,maxN]
 |t::l=>by rw [Ty.deps,deps_eq l,List.map_cons,maxN_cons]
theorem depf_eq:∀ l:List Fe,Ty.depf l=maxN ((l.map Fe.t).map Ty.dep)
 |[]=>by simp [Ty.depf,maxN]
 | .mk s t b::l=>by rw [Ty.depf,depf_eq l,List.map_cons,List.map_cons,maxN_cons];rfl
theorem dep_eq (t:Ty):t.dep=1+maxN (t.pts.map Ty.dep):=by
 cases t;simp only [Ty.dep,deps_eq,depf_eq,Ty.pts,List.map_append,maxN_append,Ty.ar,Ty.fl]
theorem maxN_le {l:List Nat} {n:Nat} (h:∀ x∈l,x≤n):maxN l≤n:=by
 induction l with
 |nil=>simp [maxN]
 |cons x l ih=>
  rw [maxN_cons]
  have a:=h x (by simp)
  have b:=ih fun y hy=>h y (by simp [hy])
  omega
theorem dep_le:∀ t:Ty,t.dep≤t.size:=by
 refine Ty.pinduct fun t ih=> ?_
 rw [dep_eq,size_eq]
 have:maxN (t.pts.map Ty.dep)≤(t.pts.map Ty.size).sum:=maxN_le fun x hx=>by
  obtain ⟨u,hu,rfl⟩:=List.mem_map.1 hx
  have:=ih u hu
  have h2:u.size≤(t.pts.map Ty.size).sum:=le_sum (List.mem_map.2 ⟨u,hu,rfl⟩)
  omega
 omega
def wrp (s:Int):Int:=if -9223372036854775808≤s∧s≤9223372036854775807 then s else Std.wrap .i64 s
theorem runAll_cnt:∀ (l:List Ty) (s:Nat),s+l.length≤4294967296→runAll (fun _ s=>wrp (s+1)) (fun _=>true) l (Int.ofNat s)=(Int.ofNat (s+l.length),true)
 |[],s,_=>by simp [runAll]
 |t::l,s,h=>by
  simp only [List.length_cons] at h
  rw [runAll,if_pos rfl]
  have e:wrp (Int.ofNat s+1)=Int.ofNat (s+1):=by
   unfold wrp;rw [if_pos (by simp only [Int.ofNat_eq_natCast];omega)];rfl
  rw [e,runAll_cnt l (s+1) (by omega)]
  rw [show s+1+l.length=s+(l.length+1) by omega];rfl
end Go.VC
namespace Go.VC.T07
open Go Go.VC Go.Proofs
theorem F59 {t:Ty} (hle:Ty.le 4294967295 t) (hs:t.size≤4294967295) {c0:Int} {c1 c2:S} {c3 c4:D} {K:PV→List Ob→Prop} (ht:tyIs t c0 c1 c2 c3 c4)
  (h:∀ r:Int,r=Int.ofNat t.size→K (.int .i64 r) []):FC Tryz.prog tt 59 [] [tyPV c0 c1 c2 c3 c4] K:=by
 have hal:=runAll_cnt t.all 0 (by rw [all_len];omega)
 rw [all_len] at hal
 refine FC.enter (G:=g59) tt_ok mixed ⟨Tryz.func59,by rfl,rfl⟩ rfl rfl rfl ?_
 intro A C L X
 cbv
 refine X.call (F61 ?_)
 cbv
 refine X.range rfl ⟨Tryz.func99,by rfl,rfl⟩ rfl [(3,.box 1 0)] ?_ ?_
 ·cbv
 cbv
 refine X.call (F99g (Q:=fun _=>True) (s:=0) (go:=fun _ s=>wrp (s+1)) (ok:=fun _=>true) hle hs (fun _ _=>trivial) ht ?_ ?_ ?_)
 ·intro u s b0 b1 b2 b3 b4 K' _ hu h1 h0
  refine YC.enter (G:=g59r) tt_ok mixed rfl rfl rfl rfl rfl ?_
  intro A C L X
  have e1:A.inr .i64 (A.add s 1)→A.add s 1=wrp (s+1):=by rw [X.a,Std_inr64,Std_add];intro h;rw [wrp,if_pos h]
  have e2:¬A.inr .i64 (A.add s 1)→A.wrap .i64 (A.add s 1)=wrp (s+1):=by rw [X.a,Std_inr64,Std_add];intro h;rw [wrp,if_neg h]
  by_cases hin:A.inr .i64 (A.add s 1)
  ·have q:=h1 rfl _ (e1 hin)
   cbv
   refine .inl ⟨hin,fun _=> ?_⟩
   cbv
   exact q
  ·have q:=h1 rfl _ (e2 hin)
   cbv
   refine .inr fun _=> ?_
   cbv
   exact q
 ·intro s' hs'
  have e:s'=Int.ofNat t.size:=by
   have:=hs'.symm.trans hal
   rw [Nat.zero_add] at this
   exact (Prod.mk.inj this).1
  cbv
  exact h _ e
 ·intro s' hs'
  have:=hs'.symm.trans hal
  exact absurd (Prod.mk.inj this).2 (by decide)
theorem F60:∀ (t:Ty),Ty.le 4294967295 t→t.size≤4294967295→∀ {c0:Int} {c1 c2:S} {c3 c4:D} {K:PV→List Ob→Prop},tyIs t c0 c1 c2 c3 c4→(∀ r:Int,r=Int.ofNat t.dep→K (.int .i64 r) [])→FC Tryz.prog tt 60 [] [tyPV c0 c1 c2 c3 c4] K:=by
 refine Ty.pinduct fun t ih=> ?_
 intro hle hs c0 c1 c2 c3 c4 K ht h
 have hdl:=dep_le t
 have hszs:∀ u∈t.pts,u.size≤4294967295:=by
  intro u hu
  have:=size_eq t
  have h2:u.size≤(t.pts.map Ty.size).sum:=le_sum (List.mem_map.2 ⟨u,hu,rfl⟩)
  omega
 have hpl:t.pts.length≤4294967295:=by
  have:∀ l:List Ty,l.length≤(l.map Ty.size).sum:=by
   intro l
   induction l with
   |nil=>simp
   |cons x l ih=>simp only [List.length_cons,List.map_cons,List.sum_cons];have:=size_eq x;omega
  have h1:=this t.pts
  have h2:=size_eq t
  omega
 obtain ⟨f,hf⟩:∃ f:Nat→Nat,f=fun i=>maxN ((t.pts.take i).map Ty.dep):=⟨_,rfl⟩
 have f0:f 0=0:=by rw [hf];rfl
 have fs:∀ i (h:i<t.pts.length),f (i+1)=max (f i) t.pts[i].dep:=fun i h=>by
  rw [hf];simp only;rw [take_succ' h,List.map_append,maxN_append];simp [maxN]
 have fn:t.dep=1+f t.pts.length:=by rw [dep_eq,hf];simp only;rw [List.take_length]
 clear hf
 rw [fn] at h hdl
 refine FC.enter (G:=g60) tt_ok mixed ⟨Tryz.func60,by rfl,rfl⟩ rfl rfl rfl ?_
 intro A C L X
 cbv
 refine X.call (F98 hle hpl ht fun r hr=> ?_)
 obtain ⟨n_r,hn_r,hlen_r⟩:=lenOf hr
 cbv
 refine X.loop (fun (y:Nat×Int)=>⟨[(9,.int .i64 y.1),(8,.int .i64 (A.len r)),(3,.int .i64 y.2),(7,.lst 28 r)],[]⟩)
  (fun y=>y.1≤n_r∧y.2=Int.ofNat (f y.1)) (fun y=>n_r-y.1) (0,0) ⟨Nat.zero_le _,by rw [f0];rfl⟩ ?_ ?_
 ·(cbv;repeat' apply And.intro);all_goals try first|trivial|rfl|(rw [X.a];rfl)
 rintro ⟨i,m⟩ ⟨hi,hm⟩
 simp only at hi hm
 cbv
 refine ⟨fun h1=> ?_,fun h1=> ?_⟩
 ·have h5:i<t.pts.length:=by obtain rfl:=X.a;simp only [hlen_r,SD,bNot] at h1;omega
  have k1:=tyAt X.a hr h5
  have hid:A.idx (Int.ofNat i) (A.len r):=by rw [X.a,hr];exact leaf_idx h5
  have hin:A.inr .i64 (A.add (Int.ofNat i) 1):=by rw [X.a];exact leaf_inc h5 (by omega)
  have hst:=fs i h5
  cbv
  repeat' (first|apply And.intro|exact fun (_:FF)=>by kernel_rfl|(intro h2;cbv)|apply Or.inl)
  any_goals exact hid
  refine X.call (ih _ (List.getElem_mem h5) (pts_le hle _ (List.getElem_mem h5)) (hszs _ (List.getElem_mem h5)) k1 fun z hz=> ?_)
  have q:A.max m z=Int.ofNat (f (i+1)):=by rw [X.a,Std_max',hst,hm,hz];simp only [Int.ofNat_eq_natCast];omega
  cbv
  repeat' (first|apply And.intro|exact fun (_:FF)=>by kernel_rfl|(intro h2;cbv)|apply Or.inl)
  any_goals exact hin
  refine ⟨(i+1,_),⟨?_,q⟩,?_,?_⟩
  ·simp only;omega
  ·simp only;omega
  (cbv;repeat' apply And.intro);all_goals try first|trivial|rfl|(rw [X.a];rfl)
 have h5:i=n_r:=by obtain rfl:=X.a;simp only [hlen_r,SD,bNot] at h1;omega
 rw [h5,hn_r] at hm
 have hin:A.inr .i64 (A.add m 1):=by rw [X.a,hm,Std_inr64,Std_add];simp only [Int.ofNat_eq_natCast];omega
 have q:=h (A.add m 1) (by rw [X.a,hm,Std_add];simp only [Int.ofNat_eq_natCast];omega)
 cbv
 refine .inl ⟨hin,fun _=> ?_⟩
 cbv
 exact q
end Go.VC.T07
end

section
namespace Go.VC
def incE:List S→Int
 |a::b::l=>if a=b then 5 else if slt b a then 1 else incE (b::l)
 |_=>0
theorem compare_eq:∀ (a b:S),(Lib.compareBytes a b=0↔a=b)∧(0<Lib.compareBytes a b↔slt b a=true)
 |[],[]=>by simp [Lib.compareBytes,slt,Op.bytesLess]
 |[],_::_=>by simp [Lib.compareBytes,slt,Op.bytesLess]
 |_::_,[]=>by simp [Lib.compareBytes,slt,Op.bytesLess]
 |x::a,y::b=>by
  have ih:=compare_eq a b
  simp only [Lib.compareBytes,slt_eq,List.cons_lt_cons_iff] at*
  by_cases h1:x<y
  ·have h2:¬y<x:=fun h=>absurd (UInt8.lt_trans h1 h) (UInt8.lt_irrefl x)
   have h3:x≠y:=fun h=>by subst h;exact UInt8.lt_irrefl x h1
   simp [h1,h2,h3,Ne.symm h3]
  ·by_cases h2:y<x
   ·have h3:x≠y:=fun h=>by subst h;exact UInt8.lt_irrefl x h2
    simp [h1,h2,h3]
   ·have h3:x=y:=UInt8.le_antisymm (UInt8.not_lt.1 h2) (UInt8.not_lt.1 h1)
    subst h3
    simp [UInt8.lt_irrefl,ih]
theorem incE_drop {l:List S} {i:Nat} (h0:1≤i) (h:i<l.length):incE (l.drop (i-1))=if l[i-1]=l[i] then 5 else if slt l[i] l[i-1] then 1 else incE (l.drop i):=by
 rw [List.drop_eq_getElem_cons (by omega:i-1<l.length),show i-1+1=i by omega,List.drop_eq_getElem_cons h]
 rfl
def varB (s:S):Bool:=typeB s||(decide (s.length=2)&&hdB s==35&&decide (48≤((s.getD 1 0).toNat:Int))&&decide (((s.getD 1 0).toNat:Int)≤55))
def modB (s:S):Bool:=s==[]||nameB s||pathB s
def shapedB (t:Ty):Bool:=
 if t.k != 8&&t.fl.any Fe.b then false else
 if t.k=0∨t.k=1∨t.k=2∨t.k=3∨t.k=4 then t.m==[]&&t.n==[]&&decide (t.ar.length=0)&&decide (t.fl.length=0) else
 if t.k=5 then t.m==[]&&t.n==[]&&decide (t.ar.length=1)&&decide (t.fl.length=0) else
 if t.k=6∨t.k=7 then t.m==[]&&t.n==[]&&decide (t.ar.length=0) else
 if t.k=8 then t.m==[]&&t.n==[]&&decide (t.ar.length=1) else
 if t.k=9 then t.m==[]&&decide (t.ar.length=0)&&decide (t.fl.length=0) else
 if t.k=10 then decide (t.fl.length=0) else false
def tnE (t:Ty):Int:=
 if !shapedB t then 1 else
 if 32<t.fl.length∨8<t.ar.length then 7 else
 if (t.k=9∧varB t.n=false)∨(t.k=10∧(modB t.m=false∨typeB t.n=false)) then 4 else
 if t.fl.any (fun f=> !nameB f.s) then 4 else incE (t.fl.map Fe.s)
structure Ty.nod (u:Ty):Prop where
 m:u.m.length≤1048576
 n:u.n.length≤1048576
 f:∀ x∈u.fl,x.s.length≤1048576
end Go.VC
namespace Go.VC.T07
open Go Go.VC Go.Proofs
theorem F158_157 {l:List Fe} {d:D} {p:Fe→Bool} {K:PV→List Ob→Prop} (hd:d=encL encFd l) (hl:l.length≤4294967295)
  (hg:∀ x∈l,∀ (c0:S) (c1:Int) (c2:S) (c3:S) (c4:D) (c5:D) (c6:Bool) (K':PV→List Ob→Prop),feIs x c0 c1 c2 c3 c4 c5 c6→(∀ b,b=p x→K' (.bool b) [])→FC Tryz.prog tt 157 [] [fePV c0 c1 c2 c3 c4 c5 c6] K')
  (h:∀ r:Int,r=idxF p l→K (.int .i64 r) []):
  FC Tryz.prog tt 158 [] [.lst 65 d,.clos 157 []] K:=by
 refine FC.enter (G:=g158) tt_ok mixed ⟨Tryz.func158,by rfl,rfl⟩ rfl rfl rfl ?_
 intro A C L X
 obtain ⟨n_d,hn_d,hlen_d⟩:=lenOf hd
 cbv
 refine X.loop (fun (i:Nat)=>⟨[(8,.int .i64 i),(7,.int .i64 (A.len d)),(1,.clos 157 []),(0,.lst 65 d)],[]⟩) (fun i=>i≤n_d∧∀ x∈l.take i,p x=false) (fun i=>n_d-i) 0 ⟨Nat.zero_le _,by simp⟩ ?_ ?_
 ·(cbv;repeat' apply And.intro);all_goals try first|trivial|rfl|(rw [X.a];rfl)
 rintro i ⟨hi,ha⟩
 cbv
 refine ⟨fun h1=> ?_,fun h1=> ?_⟩
 ·have h5:i<l.length:=by obtain rfl:=X.a;simp only [hlen_d,SD,bNot] at h1;omega
  have k1:=feIsAt X.a hd h5
  have hid:A.idx (Int.ofNat i) (A.len d):=by rw [X.a,hd];exact leaf_idx h5
  have hin:A.inr .i64 (A.add (Int.ofNat i) 1):=by rw [X.a];exact leaf_inc h5 (by omega)
  cbv
  repeat' (first|apply And.intro|exact fun (_:FF)=>by kernel_rfl|(intro h2;cbv)|apply Or.inl)
  any_goals exact hid
  refine X.call (hg _ (List.getElem_mem h5) _ _ _ _ _ _ _ _ k1 fun b hb=> ?_)
  have hb':b=p l[i]:=hb
  clear hb
  cbv
  repeat' (first|apply And.intro|exact fun (_:FF)=>by kernel_rfl|(intro h2;cbv)|apply Or.inl)
  any_goals exact hin
  ·refine h i ?_
   exact (idxF_some h5 ha (by rw [← hb'];obtain rfl:=X.a;simpa only [SD,bNot] using h2)).symm
  ·have hf:p l[i]=false:=by rename_i h3;rw [← hb'];obtain rfl:=X.a;simpa only [SD,bNot] using h3
   refine ⟨i+1,⟨by omega,?_⟩,by omega,?_⟩
   ·rw [take_succ' h5];intro x hx
    rcases List.mem_append.1 hx with hx|hx
    ·exact ha x hx
    ·simp at hx;subst hx;exact hf
   (cbv;repeat' apply And.intro);all_goals try first|trivial|rfl|(rw [X.a];rfl)
 ·have h5:i=n_d:=by obtain rfl:=X.a;simp only [hlen_d,SD,bNot] at h1;omega
  subst h5
  cbv
  refine h (-1) ?_
  rw [hn_d,List.take_length] at ha
  exact (idxF_none ha).symm
theorem F104_157 {l:List Fe} {d:D} {p:Fe→Bool} {K:PV→List Ob→Prop} (hd:d=encL encFd l) (hl:l.length≤4294967295)
  (hg:∀ x∈l,∀ (c0:S) (c1:Int) (c2:S) (c3:S) (c4:D) (c5:D) (c6:Bool) (K':PV→List Ob→Prop),feIs x c0 c1 c2 c3 c4 c5 c6→(∀ b,b=p x→K' (.bool b) [])→FC Tryz.prog tt 157 [] [fePV c0 c1 c2 c3 c4 c5 c6] K')
  (h:∀ b,b=l.any p→K (.bool b) []):
  FC Tryz.prog tt 104 [] [.lst 65 d,.clos 157 []] K:=by
 refine FC.enter (G:=g104) tt_ok mixed ⟨Tryz.func104,by rfl,rfl⟩ rfl rfl rfl ?_
 intro A C L X
 cbv
 refine X.call (F158_157 hd hl hg fun r hr=> ?_)
 have q:=h (A.le 0 r) (by rw [X.a,Std_le,idxF_any,hr])
 cbv
 exact q
theorem F158_105 {l:List Fe} {d:D} {p:Fe→Bool} {K:PV→List Ob→Prop} (hd:d=encL encFd l) (hl:l.length≤4294967295)
  (hg:∀ x∈l,∀ (c0:S) (c1:Int) (c2:S) (c3:S) (c4:D) (c5:D) (c6:Bool) (K':PV→List Ob→Prop),feIs x c0 c1 c2 c3 c4 c5 c6→(∀ b,b=p x→K' (.bool b) [])→FC Tryz.prog tt 105 [] [fePV c0 c1 c2 c3 c4 c5 c6] K')
  (h:∀ r:Int,r=idxF p l→K (.int .i64 r) []):
  FC Tryz.prog tt 158 [] [.lst 65 d,.clos 105 []] K:=by
 refine FC.enter (G:=g158) tt_ok mixed ⟨Tryz.func158,by rfl,rfl⟩ rfl rfl rfl ?_
 intro A C L X
 obtain ⟨n_d,hn_d,hlen_d⟩:=lenOf hd
 cbv
 refine X.loop (fun (i:Nat)=>⟨[(8,.int .i64 i),(7,.int .i64 (A.len d)),(1,.clos 105 []),(0,.lst 65 d)],[]⟩) (fun i=>i≤n_d∧∀ x∈l.take i,p x=false) (fun i=>n_d-i) 0 ⟨Nat.zero_le _,by simp⟩ ?_ ?_
 ·(cbv;repeat' apply And.intro);all_goals try first|trivial|rfl|(rw [X.a];rfl)
 rintro i ⟨hi,ha⟩
 cbv
 refine ⟨fun h1=> ?_,fun h1=> ?_⟩
 ·have h5:i<l.length:=by obtain rfl:=X.a;simp only [hlen_d,SD,bNot] at h1;omega
  have k1:=feIsAt X.a hd h5
  have hid:A.idx (Int.ofNat i) (A.len d):=by rw [X.a,hd];exact leaf_idx h5
  have hin:A.inr .i64 (A.add (Int.ofNat i) 1):=by rw [X.a];exact leaf_inc h5 (by omega)
  cbv
  repeat' (first|apply And.intro|exact fun (_:FF)=>by kernel_rfl|(intro h2;cbv)|apply Or.inl)
  any_goals exact hid
  refine X.call (hg _ (List.getElem_mem h5) _ _ _ _ _ _ _ _ k1 fun b hb=> ?_)
  have hb':b=p l[i]:=hb
  clear hb
  cbv
  repeat' (first|apply And.intro|exact fun (_:FF)=>by kernel_rfl|(intro h2;cbv)|apply Or.inl)
  any_goals exact hin
  ·refine h i ?_
   exact (idxF_some h5 ha (by rw [← hb'];obtain rfl:=X.a;simpa only [SD,bNot] using h2)).symm
  ·have hf:p l[i]=false:=by rename_i h3;rw [← hb'];obtain rfl:=X.a;simpa only [SD,bNot] using h3
   refine ⟨i+1,⟨by omega,?_⟩,by omega,?_⟩
   ·rw [take_succ' h5];intro x hx
    rcases List.mem_append.1 hx with hx|hx
    ·exact ha x hx
    ·simp at hx;subst hx;exact hf
   (cbv;repeat' apply And.intro);all_goals try first|trivial|rfl|(rw [X.a];rfl)
 ·have h5:i=n_d:=by obtain rfl:=X.a;simp only [hlen_d,SD,bNot] at h1;omega
  subst h5
  cbv
  refine h (-1) ?_
  rw [hn_d,List.take_length] at ha
  exact (idxF_none ha).symm
theorem F104_105 {l:List Fe} {d:D} {p:Fe→Bool} {K:PV→List Ob→Prop} (hd:d=encL encFd l) (hl:l.length≤4294967295)
  (hg:∀ x∈l,∀ (c0:S) (c1:Int) (c2:S) (c3:S) (c4:D) (c5:D) (c6:Bool) (K':PV→List Ob→Prop),feIs x c0 c1 c2 c3 c4 c5 c6→(∀ b,b=p x→K' (.bool b) [])→FC Tryz.prog tt 105 [] [fePV c0 c1 c2 c3 c4 c5 c6] K')
  (h:∀ b,b=l.any p→K (.bool b) []):
  FC Tryz.prog tt 104 [] [.lst 65 d,.clos 105 []] K:=by
 refine FC.enter (G:=g104) tt_ok mixed ⟨Tryz.func104,by rfl,rfl⟩ rfl rfl rfl ?_
 intro A C L X
 cbv
 refine X.call (F158_105 hd hl hg fun r hr=> ?_)
 have q:=h (A.le 0 r) (by rw [X.a,Std_le,idxF_any,hr])
 cbv
 exact q
theorem F157 {x:Fe} {c0:S} {c1:Int} {c2:S} {c3:S} {c4:D} {c5:D} {c6:Bool} {K:PV→List Ob→Prop} (hx:feIs x c0 c1 c2 c3 c4 c5 c6) (h:∀ b,b=x.b→K (.bool b) []):FC Tryz.prog tt 157 [] [fePV c0 c1 c2 c3 c4 c5 c6] K:=by
 refine FC.enter (G:=g157) tt_ok mixed ⟨Tryz.func157,by rfl,rfl⟩ rfl rfl rfl ?_
 intro A C L X
 cbv
 exact h _ hx.2.2
theorem F105 {x:Fe} (hs:x.s.length≤4294967295) {c0:S} {c1:Int} {c2:S} {c3:S} {c4:D} {c5:D} {c6:Bool} {K:PV→List Ob→Prop} (hx:feIs x c0 c1 c2 c3 c4 c5 c6) (h:∀ b,b= !nameB x.s→K (.bool b) []):FC Tryz.prog tt 105 [] [fePV c0 c1 c2 c3 c4 c5 c6] K:=by
 have e:=hx.1
 refine FC.enter (G:=g105) tt_ok mixed ⟨Tryz.func105,by rfl,rfl⟩ rfl rfl rfl ?_
 intro A C L X
 cbv
 refine X.call (F96 (by rw [e];exact hs) fun b hb=> ?_)
 have q:=h (A.not b) (by rw [X.a,Std_not,hb,e])
 cbv
 exact q
theorem F107 {x:Fe} {c0:S} {c1:Int} {c2:S} {c3:S} {c4:D} {c5:D} {c6:Bool} {K:PV→List Ob→Prop} (hx:feIs x c0 c1 c2 c3 c4 c5 c6) (h:∀ s,s=x.s→K (.str s) []):FC Tryz.prog tt 107 [] [fePV c0 c1 c2 c3 c4 c5 c6] K:=by
 refine FC.enter (G:=g107) tt_ok mixed ⟨Tryz.func107,by rfl,rfl⟩ rfl rfl rfl ?_
 intro A C L X
 cbv
 exact h _ hx.1
theorem F102 {s:S} (hs:s.length≤4294967295) {K:PV→List Ob→Prop} (h:∀ b,b=varB s→K (.bool b) []):FC Tryz.prog tt 102 [] [.str s] K:=by
 refine FC.enter (G:=g102) tt_ok mixed ⟨Tryz.func102,by rfl,rfl⟩ rfl rfl rfl ?_
 intro A C L X
 have hp0:A.eq (A.slen s) 2=true→A.idx 0 (A.slen s):=by rw [X.a];intro h;rw [Std_eq,Std_slen] at h;have h:=eq_of_beq h;exact ⟨by decide,by rw [Std_slen,h];decide⟩
 have hp1:A.eq (A.slen s) 2=true→A.idx 1 (A.slen s):=by rw [X.a];intro h;rw [Std_eq,Std_slen] at h;have h:=eq_of_beq h;exact ⟨by decide,by rw [Std_slen,h];decide⟩
 obtain ⟨y,hy⟩:∃ y,y=((s.getD 1 0).toNat:Int):=⟨_,rfl⟩
 have hv:varB s=(typeB s||(decide (s.length=2)&&hdB s==35&&decide (48≤y)&&decide (y≤55))):=by rw [hy];rfl
 have g1:Std.sget s 1=y:=by rw [hy];rfl
 clear hy
 cbv
 refine X.call (F95 hs fun b hb=> ?_)
 cbv
 repeat' (first|apply And.intro|exact fun (_:FF)=>by kernel_rfl|(intro h2;cbv)|apply Or.inl)
 any_goals first|exact hp0 (by assumption)|exact hp1 (by assumption)
 all_goals (refine h _ ?_;rw [hv];obtain rfl:=X.a;clear hp0 hp1 h hv;simp only [Std_sget0,g1,SD,bNot] at* <;>simp_all<;>(intros;omega))
theorem F103 {s:S} (hs:s.length≤4294967200) {K:PV→List Ob→Prop} (h:∀ b,b=modB s→K (.bool b) []):FC Tryz.prog tt 103 [] [.str s] K:=by
 refine FC.enter (G:=g103) tt_ok mixed ⟨Tryz.func103,by rfl,rfl⟩ rfl rfl rfl ?_
 intro A C L X
 cbv
 repeat' (first|apply And.intro|exact fun (_:FF)=>by kernel_rfl|(intro h2;cbv)|apply Or.inl|(refine X.call (F96 (by omega) fun b1 hb1=> ?_);cbv)|(refine X.call (F70 hs fun b2 hb2=> ?_);cbv))
 all_goals (refine h _ ?_;obtain rfl:=X.a;clear h;simp only [SD,bNot] at* <;>simp_all [modB])
theorem F106 {l:List Fe} {d:D} {K:PV→List Ob→Prop} (hd:d=encL encFd l) (hl:l.length≤4294967295) (h:∀ r:Int,r=incE (l.map Fe.s)→K (.int .i64 r) []):FC Tryz.prog tt 106 [] [.lst 65 d,.clos 107 []] K:=by
 obtain ⟨ns,hns⟩:∃ ns,ns=l.map Fe.s:=⟨_,rfl⟩
 have hnl:ns.length=l.length:=by rw [hns,List.length_map]
 have hnget:∀ i (h:i<l.length),l[i].s=ns[i]'(by omega):=fun i h=>by simp [hns]
 rw [← hns] at h
 clear hns
 refine FC.enter (G:=g106) tt_ok mixed ⟨Tryz.func106,by rfl,rfl⟩ rfl rfl rfl ?_
 intro A C L X
 obtain ⟨n_d,hn_d,hlen_d⟩:=lenOf hd
 cbv
 refine X.loop (fun (i:Nat)=>⟨[(5,.int .i64 i),(1,.clos 107 []),(0,.lst 65 d)],[]⟩) (fun i=>1≤i∧(i≤n_d∨i=1)∧incE ns=incE (ns.drop (i-1))) (fun i=>n_d-i) 1 ⟨Nat.le_refl _,.inr rfl,rfl⟩ ?_ ?_
 ·(cbv;repeat' apply And.intro);all_goals try first|trivial|rfl|(rw [X.a];rfl)
 rintro i ⟨h1i,hi,he⟩
 cbv
 refine ⟨fun h1=> ?_,fun h1=> ?_⟩
 ·have h5:i<l.length:=by obtain rfl:=X.a;simp only [hlen_d,SD,bNot] at h1;omega
  have hm:A.sub (Int.ofNat i) 1=Int.ofNat (i-1):=by rw [X.a,Std_sub];simp only [Int.ofNat_eq_natCast];omega
  have hinm:A.inr .i64 (A.sub (Int.ofNat i) 1):=by rw [hm,X.a,Std_inr64];simp only [Int.ofNat_eq_natCast];omega
  have k1:=feIsAt X.a hd h5
  have k0:=feIsAt X.a hd (show i-1<l.length by omega)
  rw [← hm] at k0
  have hid:A.idx (Int.ofNat i) (A.len d):=by rw [X.a,hd];exact leaf_idx h5
  have hid0:A.idx (A.sub (Int.ofNat i) 1) (A.len d):=by rw [hm,X.a,hd];exact leaf_idx (by omega)
  have hin:A.inr .i64 (A.add (Int.ofNat i) 1):=by rw [X.a];exact leaf_inc h5 (by omega)
  have hst:=incE_drop h1i (show i<ns.length by omega)
  rw [hst] at he
  cbv
  repeat' (first|apply And.intro|exact fun (_:FF)=>by kernel_rfl|(intro h2;cbv)|apply Or.inl)
  any_goals first|exact hinm|exact hid0|exact hid
  refine X.call (F107 k0 fun s0 hs0=> ?_)
  cbv
  refine X.call (F107 k1 fun s1 hs1=> ?_)
  rw [hnget] at hs0 hs1
  cbv
  refine X.call (F159 fun r hr=> ?_)
  rw [← hs0,←hs1] at he
  have hc:=compare_eq s0 s1
  rw [← hr] at hc
  cbv
  repeat' (first|apply And.intro|exact fun (_:FF)=>by kernel_rfl|(intro h2;cbv)|apply Or.inl)
  any_goals exact hin
  ·have h2:A.eq r 0=true:=by assumption
   refine h 5 ?_
   rw [he,if_pos (hc.1.1 (by rw [X.a,Std_eq] at h2;exact eq_of_beq h2))]
  ·have h2:A.eq r 0=false:=by assumption
   have h3:A.lt 0 r=true:=by assumption
   refine h 1 ?_
   rw [X.a] at h2 h3
   rw [he,if_neg (fun e=>by rw [Std_eq,hc.1.2 e] at h2;cases h2),if_pos (hc.2.1 (of_decide_eq_true h3))]
  ·have h2:A.eq r 0=false:=by assumption
   have h3:A.lt 0 r=false:=by assumption
   refine ⟨i+1,⟨by omega,.inl (by omega),?_⟩,by omega,?_⟩
   ·rw [X.a] at h2 h3
    rw [he,if_neg (fun e=>by rw [Std_eq,hc.1.2 e] at h2;cases h2),if_neg (fun e=>(of_decide_eq_false h3) (hc.2.2 e))]
    rfl
   (cbv;repeat' apply And.intro);all_goals try first|trivial|rfl|(rw [X.a];rfl)
 ·have h5:l.length≤i:=by obtain rfl:=X.a;simp only [hlen_d,SD,bNot] at h1;omega
  cbv
  refine h 0 ?_
  rw [he]
  have:ns.drop (i-1)=[]∨∃ x,ns.drop (i-1)=[x]:=by
   rcases Nat.lt_or_ge (i-1) ns.length with h6|h6
   ·right
    refine ⟨ns[i-1],?_⟩
    rw [List.drop_eq_getElem_cons h6,List.drop_eq_nil_of_le (by omega)]
   ·left;exact List.drop_eq_nil_of_le h6
  rcases this with e|⟨x,e⟩<;>rw [e]<;>rfl
end Go.VC.T07
end

section
namespace Go.VC
def firstE (l:List Int):Int:=(l.find? fun e=>e != 0).getD 0
theorem firstE_cons (e:Int) (l:List Int):firstE (e::l)=if e=0 then firstE l else e:=by
 unfold firstE
 rw [List.find?_cons]
 by_cases h:e=0
 ·subst h;simp
 ·have:(e != 0)=true:=by simpa using h
  rw [this,if_neg h];rfl
theorem firstE_app:∀ (a b:List Int),firstE (a++b)=if firstE a=0 then firstE b else firstE a
 |[],b=>by simp [firstE]
 |e::a,b=>by
  rw [List.cons_append,firstE_cons,firstE_cons,firstE_app a b]
  by_cases h:e=0
  ·simp [h]
  ·simp [h]
theorem runAll_first {f:Ty→Int}:∀ (l:List Ty),runAll (fun t s=>if f t=0 then s else f t) (fun t=>f t==0) l 0=(firstE (l.map f),firstE (l.map f)==0)
 |[]=>rfl
 |t::l=>by
  rw [runAll,List.map_cons,firstE_cons]
  by_cases h:f t=0
  ·rw [if_pos (by simpa using h),if_pos h,if_pos h];exact runAll_first l
  ·rw [if_neg (by simpa using h),if_neg h,if_neg h];simp [h]
def shpB (k:Int) (fb m0 n0 e0 e1 f0:Bool):Bool:=
 if k != 8&&fb then false else
 if k=0∨k=1∨k=2∨k=3∨k=4 then m0&&n0&&e0&&f0 else
 if k=5 then m0&&n0&&e1&&f0 else
 if k=6∨k=7 then m0&&n0&&e0 else
 if k=8 then m0&&n0&&e1 else
 if k=9 then m0&&e0&&f0 else
 if k=10 then f0 else false
theorem dec_of (n m:Nat):decide (n=m)=(Int.ofNat n==(m:Int)):=by
 by_cases h:n=m
 ·subst h;simp
 ·have:¬(Int.ofNat n=(m:Int)):=fun e=>h (by simp only [Int.ofNat_eq_natCast] at e;omega)
  simp only [h,decide_false]
  exact (beq_eq_false_iff_ne.2 this).symm
theorem shapedB_eq (t:Ty):shapedB t=shpB t.k (t.fl.any Fe.b) (t.m==[]) (t.n==[]) (Int.ofNat t.ar.length==0) (Int.ofNat t.ar.length==1) (Int.ofNat t.fl.length==0):=by
 unfold shapedB shpB
 rw [dec_of,dec_of,dec_of];rfl
def ckE (t:Ty):Int:=if 4096<t.size∨32<t.dep then 7 else firstE (t.all.map tnE)
end Go.VC
namespace Go.VC.T07
open Go Go.VC Go.Proofs
theorem F101 {t:Ty} (hle:Ty.le 4294967295 t) {c0:Int} {c1 c2:S} {c3 c4:D} {K:PV→List Ob→Prop} (ht:tyIs t c0 c1 c2 c3 c4) (h:∀ b,b=shapedB t→K (.bool b) []):FC Tryz.prog tt 101 [] [tyPV c0 c1 c2 c3 c4] K:=by
 obtain ⟨t0,t1,t2,hc3,hc4⟩:=ht
 have hfl:t.fl.length≤4294967295:=by cases hle;assumption
 refine FC.enter (G:=g101) tt_ok mixed ⟨Tryz.func101,by rfl,rfl⟩ rfl rfl rfl ?_
 intro A C L X
 have l3:A.len c3=Int.ofNat t.ar.length:=lenIs X.a hc3
 have l4:A.len c4=Int.ofNat t.fl.length:=lenIs X.a hc4
 obtain ⟨m0,hm0⟩:∃ b,b=A.seq c1 []:=⟨_,rfl⟩
 obtain ⟨n0,hn0⟩:∃ b,b=A.seq c2 []:=⟨_,rfl⟩
 obtain ⟨e0,he0⟩:∃ b,b=(A.eq (A.len c3) 0):=⟨_,rfl⟩
 obtain ⟨e1,he1⟩:∃ b,b=(A.eq (A.len c3) 1):=⟨_,rfl⟩
 obtain ⟨f0,hf0⟩:∃ b,b=(A.eq (A.len c4) 0):=⟨_,rfl⟩
 obtain ⟨fb,hfb⟩:∃ b,b=t.fl.any Fe.b:=⟨_,rfl⟩
 have hsh:shapedB t=shpB c0 fb m0 n0 e0 e1 f0:=by rw [shapedB_eq,he0,he1,hf0,hfb,hm0,hn0,t0,t1,t2,l3,l4,X.a];rfl
 have hneg:=negA X.a
 have heq:=eqA X.a
 rw [hsh] at h
 clear hsh t0 t1 t2 l3 l4
 cbv
 repeat' (first|apply And.intro|exact fun (_:FF)=>by kernel_rfl|(intro h2;cbv)|apply Or.inl|(refine X.call (F104_157 hc4 hfl (fun x hx c0 c1 c2 c3 c4 c5 c6 K' hx' hK'=>F157 hx' hK') fun b hb=> ?_);cbv))
 all_goals (refine h _ ?_;clear h hle;simp only [bNot,hneg,←hm0,←hn0,←he0,←he1,←hf0,←hfb] at *;clear hm0 hn0 he0 he1 hf0 hfb;simp only [heq] at *;clear X hneg heq hc3 hc4 hfl;simp_all [shpB])
end Go.VC.T07
end

section
namespace Go.VC
def tnB (k:Int) (sh fb9:Bool) (vb mb tb:Bool) (nl:Bool) (inc:Int):Int:=
 if !sh then 1 else if fb9 then 7 else if (k=9∧vb=false)∨(k=10∧(mb=false∨tb=false)) then 4 else if nl then 4 else inc
theorem tnE_eq (t:Ty):tnE t=tnB t.k (shapedB t) (decide (32<t.fl.length∨8<t.ar.length)) (varB t.n) (modB t.m) (typeB t.n) (t.fl.any fun f=> !nameB f.s) (incE (t.fl.map Fe.s)):=by
 unfold tnE tnB
 simp only [decide_eq_true_eq]
theorem all_le:∀ (t:Ty),Ty.le 4294967295 t→∀ u∈t.all,Ty.le 4294967295 u:=by
 refine Ty.pinduct fun t ih=> ?_
 intro h u hu
 rw [all_eq] at hu
 rcases List.mem_cons.1 hu with rfl|hu
 ·exact h
 ·obtain ⟨v,hv,hu⟩:=List.mem_flatMap.1 hu
  exact ih v hv (pts_le h v hv) u hu
end Go.VC
namespace Go.VC.T07
open Go Go.VC Go.Proofs
theorem F62 {t:Ty} (hle:Ty.le 4294967295 t) (hn:t.nod) {c0:Int} {c1 c2:S} {c3 c4:D} {K:PV→List Ob→Prop} (ht:tyIs t c0 c1 c2 c3 c4) (h:∀ e,e=tnE t→K (.int .i64 e) []):FC Tryz.prog tt 62 [] [tyPV c0 c1 c2 c3 c4] K:=by
 have ht':=ht
 obtain ⟨t0,t1,t2,hc3,hc4⟩:=ht'
 have hfl:t.fl.length≤4294967295:=by cases hle;assumption
 have hm1:c1.length≤1048576:=by rw [t1];exact hn.m
 have hn1:c2.length≤1048576:=by rw [t2];exact hn.n
 refine FC.enter (G:=g62) tt_ok mixed ⟨Tryz.func62,by rfl,rfl⟩ rfl rfl rfl ?_
 intro A C L X
 have l3:A.len c3=Int.ofNat t.ar.length:=lenIs X.a hc3
 have l4:A.len c4=Int.ofNat t.fl.length:=lenIs X.a hc4
 have hneg:=negA X.a
 have heq:=eqA X.a
 obtain ⟨b1,hb1⟩:∃ b,b=A.lt 32 (A.len c4):=⟨_,rfl⟩
 obtain ⟨b2,hb2⟩:∃ b,b=A.lt 8 (A.len c3):=⟨_,rfl⟩
 obtain ⟨sh,hsh⟩:∃ b,b=shapedB t:=⟨_,rfl⟩
 obtain ⟨vb,hvb⟩:∃ b,b=varB c2:=⟨_,rfl⟩
 obtain ⟨mb,hmb⟩:∃ b,b=modB c1:=⟨_,rfl⟩
 obtain ⟨tb,htb⟩:∃ b,b=typeB c2:=⟨_,rfl⟩
 obtain ⟨nl,hnl⟩:∃ b,b=t.fl.any fun f=> !nameB f.s:=⟨_,rfl⟩
 obtain ⟨inc,hinc⟩:∃ e,e=incE (t.fl.map Fe.s):=⟨_,rfl⟩
 have hte:tnE t=tnB c0 sh (b1||b2) vb mb tb nl inc:=by
  have e:decide (32<t.fl.length∨8<t.ar.length)=(b1||b2):=by
   rw [hb1,hb2,l3,l4,X.a,Std_lt,Std_lt]
   simp only [Int.ofNat_eq_natCast]
   rw [Bool.decide_or]
   congr 1<;>(apply decide_eq_decide.2;omega)
  rw [tnE_eq,e,hsh,hvb,hmb,htb,hnl,hinc,t0,t1,t2]
 rw [hte] at h
 clear hte t0 t1 t2 l3 l4
 cbv
 refine X.call (F101 hle ht fun b hb=> ?_)
 rw [← hsh] at hb
 cbv
 repeat' (first|apply And.intro|exact fun (_:FF)=>by kernel_rfl|(intro h2;cbv)|apply Or.inl|(refine X.call (F102 (by omega) fun b3 hb3=> ?_);cbv)|(refine X.call (F103 (by omega) fun b4 hb4=> ?_);cbv)|(refine X.call (F95 (by omega) fun b5 hb5=> ?_);cbv)|(refine X.call (F104_105 hc4 hfl (fun x hx c0 c1 c2 c3 c4 c5 c6 K' hx' hK'=>F105 (Nat.le_trans (hn.f x hx) (by decide)) hx' hK') fun b6 hb6=> ?_);cbv)|(refine X.call (F106 hc4 hfl fun e he=> ?_);cbv))
 all_goals (refine h _ ?_;clear h hle;simp only [bNot,hneg,←hb1,←hb2,←hvb,←hmb,←htb,←hnl,←hinc,←hsh] at *;clear hb1 hb2 hvb hmb htb hnl hinc hsh;simp only [heq] at *;clear X hneg heq hc3 hc4 hfl ht hm1 hn1;simp_all [tnB])
def g27r:Cfg:={tt:=tt,n:=21,n0:=2,rnd:=true}
theorem F27 {t:Ty} (hle:Ty.le 4294967295 t) (hs:t.size≤4294967295) (hn:∀ u∈t.all,u.nod) {c0:Int} {c1 c2:S} {c3 c4:D} {K:PV→List Ob→Prop} (ht:tyIs t c0 c1 c2 c3 c4)
  (h:∀ r:Int,r=ckE t→K (.int .i64 r) []):FC Tryz.prog tt 27 [] [tyPV c0 c1 c2 c3 c4] K:=by
 refine FC.enter (G:=g27) tt_ok mixed ⟨Tryz.func27,by rfl,rfl⟩ rfl rfl rfl ?_
 intro A C L X
 cbv
 refine X.call (F59 hle hs ht fun n hn1=> ?_)
 have hb1:A.lt 4096 n=decide (4096<t.size):=by rw [X.a,hn1,Std_lt];apply decide_eq_decide.2;simp only [Int.ofNat_eq_natCast];omega
 have hbig:(4096<t.size∨32<t.dep)→7=ckE t:=fun h=>by rw [ckE,if_pos h]
 have hsm:¬(4096<t.size∨32<t.dep)→∀ r,r=firstE (t.all.map tnE)→r=ckE t:=fun h r hr=>by rw [ckE,if_neg h,hr]
 have hd1:∀ d:Int,d=Int.ofNat t.dep→A.lt 32 d=decide (32<t.dep):=by intro d hd;rw [X.a,hd,Std_lt];apply decide_eq_decide.2;simp only [Int.ofNat_eq_natCast];omega
 have hfst:=runAll_first (f:=tnE) t.all
 have hall:∀ u∈t.all,Ty.le 4294967295 u∧u.nod:=fun u hu=>⟨all_le t hle u hu,hn u hu⟩
 cbv
 repeat' (first|apply And.intro|exact fun (_:FF)=>by kernel_rfl|(intro h2;cbv)|apply Or.inl|(refine X.call (F60 t hle hs ht fun d hd=> ?_);cbv))
 ·have h2:A.lt 32 d=true:=h2
  have h2:=(hd1 _ hd).symm.trans h2
  exact h _ (hbig (.inr (of_decide_eq_true h2)))
 ·have h3:¬(4096<t.size∨32<t.dep):=by
   have h2:A.lt 32 d=false:=h2
   have h2:=(hd1 _ hd).symm.trans h2
   have e2:A.lt 4096 n=false:=by assumption
   have e2:=hb1.symm.trans e2
   have:=of_decide_eq_false h2
   have:=of_decide_eq_false e2
   omega
  have hsm:=hsm h3
  refine X.call (F61 ?_)
  cbv
  refine X.range rfl ⟨Tryz.func99,by rfl,rfl⟩ rfl [(2,.box 1 0)] ?_ ?_
  ·cbv
  cbv
  refine X.call (F99g (Q:=fun u=>Ty.le 4294967295 u∧u.nod) (s:=0) (go:=fun t s=>if tnE t=0 then s else tnE t) (ok:=fun t=>tnE t==0) hle hs hall ht ?_ ?_ ?_)
  ·intro u s b0 b1 b2 b3 b4 K' hq hu h1 h0
   refine YC.enter (G:=g27r) tt_ok mixed rfl rfl rfl rfl rfl ?_
   intro A C L X
   have hneg:=negA X.a
   have heq:=eqA X.a
   cbv
   refine X.call (F62 hq.1 hq.2 hu fun e he=> ?_)
   have hbad:tnE u≠0→K' (.bl false) [.loop _ _ _ _ [(2,.box 1 0)] (.done .ret),.box [.int .i64 e]]:=fun hz=>h0 (by simpa using hz) e (by rw [if_neg hz,he])
   have hgood:tnE u=0→K' (.bl true) [.loop _ _ _ _ [(2,.box 1 0)] .ready,.box [.int .i64 s]]:=fun hz=>h1 (by simpa using hz) s (by rw [if_pos hz])
   cbv
   repeat' (first|apply And.intro|exact fun (_:FF)=>by kernel_rfl|(intro h2;cbv)|apply Or.inl)
   ·have h2:A.not (A.eq e 0)=true:=h2
    rw [hneg,heq,he] at h2
    exact hbad (by simpa using h2)
   ·have h2:A.not (A.eq e 0)=false:=h2
    rw [hneg,heq,he] at h2
    exact hgood (by simpa using h2)
  ·intro s' hs'
   have e:=hs'.symm.trans hfst
   have e1:=(Prod.mk.inj e).1
   have e2:=(Prod.mk.inj e).2
   have hz:s'=0:=by rw [e1];simpa using e2.symm
   cbv
   exact h 0 (hsm 0 (by rw [← e1,hz]))
  ·intro s' hs'
   have e:=hs'.symm.trans hfst
   have e1:=(Prod.mk.inj e).1
   cbv
   exact h s' (hsm s' e1)
 ·have h2:A.lt 4096 n=true:=h2
  have h2:=hb1.symm.trans h2
  exact h _ (hbig (.inl (of_decide_eq_true h2)))
end Go.VC.T07
end
