/- Part 12 of the common texts. -/
import Derived.Test.YtflmompnagpjeaaGreatDoorPart5
set_option linter.all false
set_option maxRecDepth 100000
set_option maxHeartbeats 16000000
open Bool renaming and_eq_true→bn
open UInt8 renaming ofNat→kG
namespace Go.VC.cc.R
open Go Go.VC Go.Proofs
instance (priority:=2000) instDrR:Inhabited pY:=XZ
def MP:S->Bool|[]=>true|_=>false
def SH(n:Nat):S:=if n<10 then [kG (48+n)]else [kG (48+n/10),kG (48+n % 10)]
def P2{n:Nat}(h:n<100):Lib.decDigits n=SH n:=by
 unfold SH;rw[Lib.decDigits];split
 ·rfl
 ·rw[Lib.decDigits,dif_pos (by omega)];rfl
def Uv(f:FuncId)(o:List Ob)(a:List PV):Option { r:PV×List Ob // ∀K:PV->List Ob->Prop,K r.1 r.2->FC Tryz.prog tt f o a K }:=
 match f,o,a with
 |73,[],[.int .i64 (.ofNat n)]=>if h:n<100 then some ⟨(.str (SH n),[]),λ_ hk=>FC.lf (F73 h λr e=>by rw[e,P2 h];exact hk)⟩else none
 |309,[],[.str s,.str [47]]=>if h:s.length<4294967281 then some ⟨(.row 9 0,[.row 9 (.list ((jC s).map cT)) true]),λ_ hk=>FC.lf (W2 h λd e=>by rw[e];exact hk)⟩else none
 |307,[],[.str s,.str t]=>if h:s.length<4294967281 then some ⟨(.bool (Lib.contains s t),[]),λ_ hk=>FC.lf (W3 h λr e=>by rw[e];exact hk)⟩else none
 |186,[.box [.nilp,.row 5 1],.row 5 d true],[.box 0 0]=>some ⟨(.tup [],[.box [.box 0 0,.row 5 1],.row 5 d true]),λ_ hk=>FC.lf (KM (.inl rfl) hk)⟩
 |186,[.box [.box 0 0,.row 5 1],.row 5 d true],[.box 0 0]=>some ⟨(.tup [],[.box [.box 0 0,.row 5 1],.row 5 d true]),λ_ hk=>FC.lf (KM (.inr rfl) hk)⟩
 |132,[.box [.box 0 0,.row 5 1],.row 5 d true],[.box 0 0]=>
  match he:(match d with| .list l=>l.map (λx=>match x with|[.int n]=>kG n.toNat|_=>0)|_=>[])with
  |s=>if h:(MP s=false/\s.length<=4294967296/\BH d (.list (dR s))=true)then some ⟨(.str s,[.dead,.dead]),λ_ hk=>FC.lf (TD (by intro e;rw[e]at h;cases h.1) h.2.1 (kR h.2.2) rfl hk)⟩else none
 |290,[],[.str s,.str t]=>some ⟨(.int .i64 (Lib.compareBytes s t),[]),λ_ hk=>FC.lf (W6 λr e=>by rw[e];exact hk)⟩
 |_,_,_=>none
set_option maxRecDepth 100000
def lv:List Nat:=[30,35,37,51,53,54,57,59,66,67,68,69,70,78,81,91,93,94,96,97,99,102,103,104,105,106,107,109,115,116,118,122,129,142,151,156,173,176,177,178,179,200,202,209,211,212,240,242,244,245,246,247,248,249,255,256,287,330,331,334,337]
def rg(n:Nat):List Nat:=Fa n 0
def g(n:Nat)(l o k h:List Nat:=[])(s:List (Nat×List Nat):=[]):dH:={ tt:=tt,n:=n,mrg:=true,Bt:=[97],live:=l,own:=o,eh:=k,pC:=h,iU:=s }
def aac:List (Nat×dH):=[(7,g 37 (k:=[28]) (o:=[12]) (l:=28::29::lv)),
 (8,g 81 (s:=[(11,rg 4),(20,rg 5)]) (k:=[28]) (l:=[28,33,34,36,37])),
 (9,g 96 (s:=[(15,[0,1,2,3,4,5,6,7,8,9,10,11,12,13,14,15,16,17,18,19,20,21,23,24,25,26,22,27,28,29,30,31,32,33,34,35,36,37,38])]) (k:=[12,15]) (o:=[4]) (l:=[12,15])),
 (12,g 42 (k:=[42,43,45]) (l:=[42,43,45])),
 (13,g 23 (k:=[47]) (l:=[47])),
 (14,g 20 (o:=[13]) (l:=[49])),
 (15,g 62 (k:=[13,7]) (o:=[9]) (l:=[7,13,50,51])),
 (16,g 22 (k:=[13]) (o:=[5]) (l:=[13,34,53])),
 (17,g 34 (k:=[13]) (o:=[7]) (l:=[13,34,54])),
 (28,g 29 (s:=[(4,[0,1,2]),(5,rg 4)]) (k:=[64]) (l:=[36,64])),
 (29,g 41 (s:=[(4,rg 14)])),
 (30,g 59 (s:=[(1,rg 4),(2,rg 4)]) (l:=33::34::lv)),
 (31,g 10 (s:=[(1,[0,1,3,4,2,5,6,7])])),
 (32,g 2),
 (33,g 43 (o:=[21]) (l:=lv) (h:=[38,39])),
 (34,g 9 (l:=[71])),
 (35,g 8 (l:=[29])),
 (36,g 15 (l:=[72])),
 (38,g 17 (o:=[16])),
 (39,g 97 (s:=[(4,rg 10),(15,[0,1,2,6,7,8,9,10,11,12,13,14,3,4,5,15,16,17])])),
 (40,g 26 (s:=[(6,rg 9)])),
 (42,g 43 (k:=[43,45]) (o:=[38]) (l:=[43,45])),
 (43,g 17 (k:=[75]) (l:=[75])),
 (44,g 11 (l:=[77,78,79,80])),
 (45,g 135 (k:=[82,84,86]) (o:=[7]) (l:=82::84::86::lv)),
 (46,g 24 (l:=[88])),
 (47,g 31 (l:=lv)),
 (48,g 23 (o:=[3])),
 (49,g 91 (s:=[(6,rg 11)]) (l:=108::lv)),
 (50,g 9 (l:=[110])),
 (52,g 38 (l:=[111,112])),
 (53,g 19 (k:=[7]) (l:=[7])),
 (54,g 15),
 (64,g 55 (s:=[(7,rg 20),(9,rg 12)]) (o:=[14]) (l:=[72]) (h:=[41])),
 (65,g 59 (s:=[(17,[0,1,3,4,2,5,6,7])]) (o:=[3]) (l:=130::132::lv)),
 (66,g 49),
 (67,g 57 (s:=[(5,rg 14)])),
 (68,g 31 (o:=[8]) (l:=[121])),
 (69,g 58 (k:=[136]) (l:=[136]) (h:=[48,49,50])),
 (71,g 19 (l:=lv)),
 (72,g 69 (s:=[(17,rg 12)]) (l:=[72])),
 (74,g 9),
 (75,g 11 (k:=[141]) (l:=[141,142])),
 (76,g 54 (s:=[(1,[0,1,3,4,2,6,5,7,8,9]),(5,rg 7),(10,rg 7),(12,[0,1,3,4,2,6,5,7,8,9])])),
 (77,g 46 (l:=lv)),
 (78,g 5),
 (79,{ g 9 (k:=[150]) (l:=[149])with Bt:=[97,9,259] }),
 (80,g 4 (l:=[151])),
 (81,g 24),
 (82,g 36 (k:=[152]) (l:=[152]) (h:=[34,35])),
 (83,g 33 (o:=[5])),
 (84,g 36 (k:=[152]) (l:=[152]) (h:=[34,35])),
 (85,g 29 (o:=[12])),
 (86,g 23 (s:=[(2,rg 8)]) (k:=[152]) (l:=[152])),
 (87,g 48 (s:=[(11,rg 7)])),
 (88,g 9 (l:=[154])),
 (89,g 6),
 (90,g 58 (o:=[3]) (l:=157::lv) (h:=[29,30,31,50])),
 (91,g 18),
 (92,g 21 (k:=[28]) (l:=[28])),
 (93,g 14 (k:=[43]) (l:=[43])),
 (94,g 13 (k:=[95]) (l:=[95])),
 (95,g 36 (k:=[84]) (l:=[84]) (h:=[28,29,30,31,32,33,34,35])),
 (96,g 43 (s:=[(2,rg 33)]) (k:=[95]) (l:=[95])),
 (97,g 13 (k:=[98]) (l:=[98])),
 (98,g 36 (k:=[82]) (l:=[82]) (h:=[28,29,30,31,32,33,34,35])),
 (99,g 9 (k:=[100]) (l:=[100])),
 (100,g 91 (s:=[(2,[0,1,2,3,4,6,7,8,9,5,10,11,12]),(15,rg 14),(17,[0,1,2,3,4,6,7,5,8,9,10,11,12])]) (k:=[98]) (o:=[8,9,12]) (l:=[98])),
 (101,g 11 (o:=[3]) (l:=[132,163])),
 (102,{ g 31 (o:=[28]) (l:=[0]) (h:=[28,22])with view:=[10] }),
 (103,g 59 (o:=[6])),
 (104,g 106 (s:=[(5,rg 12),(19,[0,1,2,3,4,5,6,7,8,9,12,10,11,13,14])]) (o:=[6,41]) (l:=[164])),
 (105,g 149 (s:=[(13,rg 15),(15,rg 15)]) (k:=[84,86]) (o:=[17,6]) (l:=[84,86]) (h:=[38,39,40,51,52,53,64,65,66])),
 (106,g 28 (o:=[6,26]) (h:=[22])),
 (107,g 30 (k:=[136]) (o:=[6,27]) (l:=[136]) (h:=[21,22,23])),
 (108,g 9 (l:=[170])),
 (109,g 8 (l:=[49])),
 (110,g 19 (l:=lv)),
 (111,g 32 (l:=lv)),
 (112,g 32 (l:=lv)),
 (121,g 71 (s:=[(7,rg 20),(9,rg 20)]) (o:=[8]) (l:=[180])),
 (128,g 25),
 (129,g 10 (l:=[130])),
 (130,g 19 (l:=[186])),
 (131,g 5),
 (133,g 38 (o:=[6])),
 (136,g 69 (s:=[(14,[0,1,2,3,4,6,7,8,9,10,5,11,12,13,14])]) (k:=[84]) (o:=[10]) (l:=[84])),
 (137,{ g 8 (o:=[5,2])with Bt:=[97,9,259] }),
 (138,g 17),
 (140,g 19),
 (141,g 18 (k:=[191]) (l:=[191])),
 (142,g 8),
 (143,{ g 8 (o:=[5,2])with Bt:=[97,9,259] }),
 (144,{ g 8 (o:=[5,2])with Bt:=[97,9,259] }),
 (145,g 15 (s:=[(1,[0,1,2,3,5,6,8,9,4,7,10,11,12])])),
 (146,g 12 (s:=[(1,[0,1,2,3,5,6,4,7,8,9])])),
 (147,{ g 8 (o:=[5,2])with Bt:=[97,9,259] }),
 (148,{ g 8 (o:=[5,2])with Bt:=[97,9,259] }),
 (149,g 5 (k:=[194]) (l:=[194])),
 (150,{ g 11 (k:=[195]) (l:=[195])with Bt:=[97,9,259] }),
 (151,g 14 (l:=[151])),
 (152,g 40 (s:=[(8,rg 12)]) (k:=[197]) (l:=[197])),
 (153,g 85 (s:=[(7,rg 14),(9,rg 14),(14,rg 6)]) (l:=[199])),
 (154,g 19 (l:=lv)),
 (155,g 68 (l:=[79,80,200,202])),
 (156,g 19 (h:=[17])),
 (157,g 9 (l:=[203])),
 (158,g 11),
 (159,{ g 10 with R4:=[2,3,6,7,8,9] }),
 (160,g 20),
 (161,g 22 (s:=[(2,[0,1,2,4,5,3,6,7,8])]) (k:=[43]) (l:=[43])),
 (162,g 79 (s:=[(4,[0,1,3,4,2,6,5,7,8,9]),(8,rg 9),(13,rg 11)])),
 (163,g 83 (l:=[130,163,207])),
 (164,g 46 (o:=[8,6]) (l:=lv)),
 (165,g 10),
 (167,g 17 (l:=[208,209])),
 (169,g 40 (k:=[136]) (l:=[136,210,211])),
 (170,g 19 (l:=[109])),
 (172,g 17 (l:=[208,212])),
 (180,g 108 (k:=[84,86]) (l:=[84,86]) (h:=[37,38,39,52,53,54])),
 (181,{ g 8 (o:=[2,5])with Bt:=[97,9,259] }),
 (185,g 19 (l:=[217])),
 (187,g 4),
 (188,{ g 21 with R4:=[2,3,4,15,16,17,18,19,20,41] }),
 (189,g 33),
 (191,g 19 (l:=lv)),
 (192,g 23),
 (193,g 5),
 (194,{ g 13 with R4:=[2,4,5,7,8,9,10,11,12] }),
 (195,{ g 134 (s:=[(17,rg 15)]) (k:=[195,228]) (l:=[195,228])with Bt:=[97,9,259] }),
 (196,g 8),
 (197,g 58 (k:=[75]) (l:=[75,239,240,241,242,243,244])),
 (198,g 50 (k:=[43]) (o:=[34]) (l:=43::lv)),
 (199,g 37 (o:=[17])),
 (200,g 16),
 (201,{ g 21 (l:=[250,251])with R4:=[2,3,4,8,9,10,11,12,13,14,15,16,17,18,19,20] }),
 (202,g 16 (l:=[200])),
 (203,g 19 (l:=lv)),
 (204,g 4 (l:=[255])),
 (205,g 23),
 (206,{ g 8 (o:=[5,2])with Bt:=[97,9,259] }),
 (207,g 17 (l:=[186])),
 (208,g 19 (l:=lv)),
 (209,g 8),
 (212,g 8),
 (216,g 9),
 (217,g 18 (l:=lv)),
 (218,g 17),
 (220,g 50 (l:=[261,264])),
 (221,g 41 (k:=[84]) (l:=[84])),
 (222,g 23),
 (227,{ g 8 (o:=[5,2])with Bt:=[97,9,259] }),
 (228,{ g 49 (s:=[(4,rg 15)]) (h:=[35,36,37])with Bt:=[97,9,259] }),
 (234,g 17),
 (238,g 25),
 (239,g 18 (l:=[276])),
 (240,g 8),
 (241,g 18 (l:=[277])),
 (242,g 8),
 (245,g 26),
 (246,g 63 (l:=lv)),
 (247,g 47),
 (248,g 64),
 (249,g 38 (s:=[(5,[0,2,3,1,4,5,6])])),
 (250,{ g 12 (k:=[286]) (l:=[285])with Bt:=[97,9,259] }),
 (251,g 4 (l:=[287])),
 (255,g 8 (l:=[256])),
 (256,g 23 (l:=[256])),
 (257,g 9),
 (258,g 9),
 (259,g 106 (s:=[(1,rg 16)]) (l:=[261])),
 (260,g 13),
 (261,g 9 (l:=[208])),
 (262,g 7),
 (263,g 24 (l:=[217])),
 (264,g 33 (l:=lv) (h:=[20,21,22,23,24])),
 (275,g 6),
 (276,g 19 (l:=lv)),
 (277,g 19 (l:=lv)),
 (279,g 12),
 (280,g 79 (o:=[4])),
 (281,g 61 (s:=[(5,[0,1,2,3,4,6,7,8,9,10,5,11,12,13,14]),(10,[0,1,3,2,4,5,6])]) (l:=[296,302])),
 (282,g 46 (l:=[296]) (h:=[32,28,29,33,34])),
 (285,g 5 (k:=[305]) (l:=[305])),
 (286,{ g 14 (k:=[306]) (l:=[306])with Bt:=[97,9,259] }),
 (287,g 14 (l:=[287])),
 (288,g 5),
 (289,g 7),
 (294,g 49 (l:=[217])),
 (296,g 31 (s:=[(6,rg 7)]) (l:=lv)),
 (297,g 18),
 (298,g 19 (o:=[3])),
 (299,g 15),
 (300,g 49),
 (301,{ g 36 (s:=[(8,rg 7)])with XH:=[23],R4:=[2,3,5,6,15,16,17,18,19,20,21,22,23,24,25,26,27,28,29,30,31,32,33,34,35,355] }),
 (302,g 57),
 (305,{ g 13 with R4:=[2,4,5,7,8,9,10,11,12] }),
 (306,{ g 148 (s:=[(17,rg 17)]) (k:=[306,318]) (l:=306::318::319::320::321::322::323::324::325::lv) (h:=[96,97])with Bt:=[97,9,259] }),
 (310,g 53 (l:=[217])),
 (311,g 9),
 (312,g 17 (s:=[(5,rg 4)]) (k:=[330]) (l:=[330])),
 (313,g 4 (l:=[331])),
 (314,g 32 (o:=[16])),
 (315,g 29 (k:=[150]) (o:=[5])),
 (316,g 19 (l:=[157])),
 (317,g 26 (l:=[157,335])),
 (318,{ g 53 (s:=[(4,rg 17)]) (l:=lv) (h:=[34,39,40,41])with Bt:=[97,9,259] }),
 (329,g 11),
 (330,g 128 (k:=[330,84]) (l:=[84,330])),
 (331,g 19 (l:=[331])),
 (332,g 51 (o:=[5])),
 (333,g 29),
 (337,g 12),
 (344,g 15),
 (345,g 35 (k:=[86]) (l:=[86])),
 (354,g 18)]
def Kx(f:FuncId):Option dH:=(aac.find? λx=>x.1==f).map (·.2)
def Yc:Nat->List Nat->Option dH
 |10,[6]=>Kx 159
 |21,[15]=>Kx 188
 |13,[7]=>Kx 194
 |21,[8]=>Kx 201
 |36,[15,16]=>Kx 301
 |_,_=>none
def _root_.List.HD:List (List UInt8)->List (List UInt8)
 |a::b::l=>if a=b then List.HD (b::l)else a::List.HD (b::l)
 |l=>l
def UK:List UInt8->List UInt8->Bool
 |[],_=>true
 |_::_,[]=>false
 |a::x,b::y=>match Nat.blt a.toNat b.toNat,Nat.blt b.toNat a.toNat with|true,_=>true|false,true=>false|false,false=>UK x y
def Sr(a:List UInt8):List (List UInt8)->List (List UInt8)
 |[]=>[a]
 |b::l=>match UK a b with|true=>a::b::l|false=>b::Sr a l
def QS:List (List UInt8)->List (List UInt8)
 |[]=>[]
 |a::l=>Sr a (QS l)
def Sz:D->List (List UInt8)
 | .list l=>l.filterMap λr=>match r with| .str s::_=>some s|_=>none
 |_=>[]
def YA(f:FuncId)(o:List Ob)(a:List PV):Option (PV×List Ob):=
 match f,a with
 |44,[.agg [_,.lst _ t,.lst _ v,.lst _ l,_]]=>some (.row 9 0,[.row 9 (.list (((QS (Sz t++Sz v++Sz l)).HD).map λs=>[.str s])) true])
 |137,[.lst e d]=>some (.row e 0,[.row e d true])
 |206,[.lst e d]=>some (.row e 0,[.row e d true])
 |143,[.lst e d]=>some (.row e 0,[.row e d true])
 |144,[.lst e d]=>some (.row e 0,[.row e d true])
 |147,[.lst e d]=>some (.row e 0,[.row e d true])
 |148,[.lst e d]=>some (.row e 0,[.row e d true])
 |227,[.lst e d]=>some (.row e 0,[.row e d true])
 |181,[.lst e d]=>some (.row e 0,[.row e d true])
 |181,[.row e 0]=>(match o with|[.row e' d b]=>some (.row e 1,[.row e' d b,.row e d true])|_=>none)
 |_,_=>none
def Oi:Sd.Rn Tryz.prog tt:=⟨Kx,Yc,λf=>eI f [137,206,143,144,147,148,298,227,181,38,42,301,314,44,175,164,28,64],Uv,YA⟩
def Is(v:PV)(o:List Ob):PV->List Ob->Prop:=λa o'=>tk a v=true/\Da o' o=true
noncomputable instance {v:PV}{o:List Ob}{a:PV}{o':List Ob}:Sd (Is v o a o'):=Sd.A1
theorem Is.K{f:FuncId}{o:List Ob}{a:List PV}{v:PV}{o2:List Ob}(h:FC Tryz.prog tt f o a (Is v o2)):∀K:PV->List Ob->Prop,K v o2->FC Tryz.prog tt f o a K:=λK hk=>h.mono λc o' b=>by rw[C9 b.1,uv b.2];exact hk
set_option maxRecDepth 100000
def nl:D:=.list []
def l0:D:=.list [[(.str [35,48])]]
def l1:D:=.list [[(.int 0),(.str []),(.str []),nl,nl]]
def l2:D:=.list [[(.int 9),(.str []),(.str [35,48]),nl,nl]]
def l3:D:=.list [[(.str [118]),nl,(.int 2),(.str []),(.str []),nl,nl]]
def l4:D:=.list [[(.str [118]),nl,(.int 4),(.str []),(.str []),nl,nl]]
def l5:D:=.list [[(.str [35,48]),(.int 0),(.int 0),(.str []),(.str []),nl,nl]]
def l6:D:=.list [[(.str [97]),(.int 0),(.str []),(.str []),nl,nl,(.bool false)]]
def l7:D:=.list [[(.str [97]),(.int 9),(.str []),(.str [35,48]),nl,nl,(.bool false)]]
def l8:D:=.list [[(.int 1),(.int 2),(.str []),(.str []),nl,nl,(.int 2),(.str []),(.str []),nl,nl]]
def l9:D:=.list [[(.str [78]),l5,(.int 1),(.str []),(.str []),nl,nl,(.int 6),(.str []),(.str []),nl,l7]]
def l10:D:=.list [[(.str [109,47,118,49]),l9,l3,nl,nl]]
def Bx:D:=.list [[(.str [109,47,118,49]),l9,l4,nl,nl]]
noncomputable abbrev Up(R:Sd.Rn Tryz.prog tt)(f:FuncId)(o:List Ob)(a:List PV)(K:PV->List Ob->Prop)(hK:∀v o,Sd (K v o)):Sd (FC Tryz.prog tt f o a K):=Sd.Iq fD mixed R 60 (.fn f) o a K hK
def runT{R:Sd.Rn Tryz.prog tt}{f:FuncId}{o:List Ob}{a:List PV}{v:PV}{o2:List Ob}(h:(Up R f o a (Is v o2) λ_ _=>inferInstance).b=true):FC Tryz.prog tt f o a (Is v o2):=(Up R f o a (Is v o2) λ_ _=>inferInstance).h h
structure Mem (f:FuncId) where
 o:List Ob
 a:List PV
 v:PV
 o2:List Ob
 h:FC Tryz.prog tt f o a (Is v o2)
noncomputable def nJ{f:FuncId}(o:List Ob)(a:List PV):List (Mem f)->Option { r:PV×List Ob // ∀K:PV->List Ob->Prop,K r.1 r.2->FC Tryz.prog tt f o a K }
 |[]=>none
 |m::l=>match h:(Da o m.o&&zG a m.a)with
  |true=>some ⟨(m.v,m.o2),λK hk=>by rw[bn]at h;rw[uv h.1,pE h.2];exact Is.K m.h K hk⟩
  |false=>nJ o a l
noncomputable abbrev Yf:=Uv
noncomputable abbrev GK:=Oi
set_option maxRecDepth 100000
def Tn:FC Tryz.prog tt 101 [] [(.agg [(.int .i64 1),(.str []),(.str []),(.lst 29 nl),(.lst 57 nl),(.int .i64 6),(.str []),(.str []),(.lst 29 nl),(.lst 57 l7)])] (Is (.str [49,32,48,32,48,32,48,32,48,32,54,32,48,32,48,32,48,32,49,32,49,102,97,108,115,101,97,57,32,48,32,50,32,48,32,48,32,35,48]) []):=runT (R:=GK) (by decide +kernel)
def Tl:FC Tryz.prog tt 101 [] [(.agg [(.int .i64 6),(.str []),(.str []),(.lst 29 nl),(.lst 57 l7),(.int .i64 6),(.str []),(.str []),(.lst 29 nl),(.lst 57 l7)])] (Is (.str [54,32,48,32,48,32,48,32,49,32,49,102,97,108,115,101,97,57,32,48,32,50,32,48,32,48,32,35,48,54,32,48,32,48,32,48,32,49,32,49,102,97,108,115,101,97,57,32,48,32,50,32,48,32,48,32,35,48]) []):=runT (R:=GK) (by decide +kernel)
def Tk:FC Tryz.prog tt 101 [] [(.agg [(.int .i64 9),(.str []),(.str [35,48]),(.lst 29 nl),(.lst 57 nl),(.int .i64 9),(.str []),(.str [35,48]),(.lst 29 nl),(.lst 57 nl)])] (Is (.str [57,32,48,32,50,32,48,32,48,32,35,48,57,32,48,32,50,32,48,32,48,32,35,48]) []):=runT (R:=GK) (by decide +kernel)
def Wh:FC Tryz.prog tt 65 [] [(.agg [(.int .i64 9),(.str []),(.str [35,48]),(.lst 29 nl),(.lst 57 nl)])] (Is (.str [40,57,32,48,58,50,58,35,48,91,93,123,125,41]) []):=runT (R:=GK) (by decide +kernel)
def Wg:FC Tryz.prog tt 65 [] [(.agg [(.int .i64 10),(.str [109,47,118,49]),(.str [78]),(.lst 29 l2),(.lst 57 nl)])] (Is (.str [40,49,48,32,52,58,109,47,118,49,49,58,78,91,40,57,32,48,58,50,58,35,48,91,93,123,125,41,93,123,125,41]) []):=runT (R:=GK) (by decide +kernel)
def Wf:FC Tryz.prog tt 65 [] [(.agg [(.int .i64 6),(.str []),(.str []),(.lst 29 nl),(.lst 57 l7)])] (Is (.str [40,54,32,48,58,48,58,91,93,123,49,58,97,102,97,108,115,101,40,57,32,48,58,50,58,35,48,91,93,123,125,41,125,41]) []):=runT (R:=GK) (by decide +kernel)
def We:FC Tryz.prog tt 65 [] [(.agg [(.int .i64 2),(.str []),(.str []),(.lst 29 nl),(.lst 57 nl)])] (Is (.str [40,50,32,48,58,48,58,91,93,123,125,41]) []):=runT (R:=GK) (by decide +kernel)
def S4:FC Tryz.prog tt 220 [] [(.agg [(.int .i64 1),(.str []),(.str []),(.lst 29 nl),(.lst 57 nl)])] (Is (.int .i64 0) []):=runT (R:=GK) (by decide +kernel)
set_option maxRecDepth 100000
def S3:FC Tryz.prog tt 220 [] [(.agg [(.int .i64 6),(.str []),(.str []),(.lst 29 nl),(.lst 57 l7)])] (Is (.int .i64 0) []):=runT (R:=GK) (by decide +kernel)
def S2:FC Tryz.prog tt 220 [] [(.agg [(.int .i64 9),(.str []),(.str [35,48]),(.lst 29 nl),(.lst 57 nl)])] (Is (.int .i64 0) []):=runT (R:=GK) (by decide +kernel)
def S1:FC Tryz.prog tt 220 [] [(.agg [(.int .i64 2),(.str []),(.str []),(.lst 29 nl),(.lst 57 nl)])] (Is (.int .i64 0) []):=runT (R:=GK) (by decide +kernel)
def SZ:FC Tryz.prog tt 220 [] [(.agg [(.int .i64 0),(.str []),(.str []),(.lst 29 nl),(.lst 57 nl)])] (Is (.int .i64 0) []):=runT (R:=GK) (by decide +kernel)
def SY:FC Tryz.prog tt 220 [] [(.agg [(.int .i64 10),(.str [109,47,118,49]),(.str [78]),(.lst 29 l1),(.lst 57 nl)])] (Is (.int .i64 0) []):=runT (R:=GK) (by decide +kernel)
def Wc:FC Tryz.prog tt 76 [] [(.agg [(.str [109,47,118,49]),(.lst 136 l9),(.lst 91 l3),(.lst 210 nl),(.lst 213 nl)])] (Is (.agg [(.str [109,47,118,49]),(.lst 136 l9),(.lst 91 l3),(.lst 210 nl),(.lst 213 nl)]) []):=runT (R:=GK) (by decide +kernel)
def Wb:FC Tryz.prog tt 76 [] [(.agg [(.str [109,47,118,49]),(.lst 136 l9),(.lst 91 l4),(.lst 210 nl),(.lst 213 nl)])] (Is (.agg [(.str [109,47,118,49]),(.lst 136 l9),(.lst 91 l4),(.lst 210 nl),(.lst 213 nl)]) []):=runT (R:=GK) (by decide +kernel)
noncomputable section
def UE(f:FuncId)(o:List Ob)(a:List PV):Option { r:PV×List Ob // ∀K:PV->List Ob->Prop,K r.1 r.2->FC Tryz.prog tt f o a K }:=
 match f with
 |101=>nJ o a [⟨_,_,_,_,Tn⟩,⟨_,_,_,_,Tl⟩,⟨_,_,_,_,Tk⟩]
 |65=>nJ o a [⟨_,_,_,_,Wh⟩,⟨_,_,_,_,Wg⟩,⟨_,_,_,_,Wf⟩,⟨_,_,_,_,We⟩]
 |220=>nJ o a [⟨_,_,_,_,S4⟩,⟨_,_,_,_,S3⟩,⟨_,_,_,_,S2⟩,⟨_,_,_,_,S1⟩,⟨_,_,_,_,SZ⟩,⟨_,_,_,_,SY⟩]
 |76=>nJ o a [⟨_,_,_,_,Wc⟩,⟨_,_,_,_,Wb⟩]
 |f=>Yf f o a
def CB:Sd.Rn Tryz.prog tt:={ Oi with Oj:=UE }
end
set_option maxRecDepth 100000
def Ti:FC Tryz.prog tt 138 [] [(.lst 97 l10),(.lst 9 l0),(.agg [(.int .i64 1),(.str []),(.str []),(.lst 29 nl),(.lst 57 nl)])] (Is (.int .i64 0) []):=runT (R:=CB) (by decide +kernel)
def Th:FC Tryz.prog tt 138 [] [(.lst 97 l10),(.lst 9 l0),(.agg [(.int .i64 6),(.str []),(.str []),(.lst 29 nl),(.lst 57 l7)])] (Is (.int .i64 0) []):=runT (R:=CB) (by decide +kernel)
def Tg:FC Tryz.prog tt 138 [] [(.lst 97 l10),(.lst 9 nl),(.agg [(.int .i64 2),(.str []),(.str []),(.lst 29 nl),(.lst 57 nl)])] (Is (.int .i64 0) []):=runT (R:=CB) (by decide +kernel)
def Tf:FC Tryz.prog tt 138 [] [(.lst 97 l10),(.lst 9 nl),(.agg [(.int .i64 0),(.str []),(.str []),(.lst 29 nl),(.lst 57 nl)])] (Is (.int .i64 0) []):=runT (R:=CB) (by decide +kernel)
def Te:FC Tryz.prog tt 138 [] [(.lst 97 l10),(.lst 9 l0),(.agg [(.int .i64 9),(.str []),(.str [35,48]),(.lst 29 nl),(.lst 57 nl)])] (Is (.int .i64 0) []):=runT (R:=CB) (by decide +kernel)
set_option maxRecDepth 100000
def Td:FC Tryz.prog tt 138 [] [(.lst 97 l10),(.lst 9 l0),(.agg [(.int .i64 10),(.str [109,47,118,49]),(.str [78]),(.lst 29 l1),(.lst 57 nl)])] (Is (.int .i64 0) []):=runT (R:=CB) (by decide +kernel)
def Tc:FC Tryz.prog tt 138 [] [(.lst 97 l10),(.lst 9 l0),(.agg [(.int .i64 6),(.str []),(.str []),(.lst 29 nl),(.lst 57 l6)])] (Is (.int .i64 0) []):=runT (R:=CB) (by decide +kernel)
def Tb:FC Tryz.prog tt 138 [] [(.lst 97 Bx),(.lst 9 l0),(.agg [(.int .i64 1),(.str []),(.str []),(.lst 29 nl),(.lst 57 nl)])] (Is (.int .i64 0) []):=runT (R:=CB) (by decide +kernel)
set_option maxRecDepth 100000
def Ta:FC Tryz.prog tt 138 [] [(.lst 97 Bx),(.lst 9 l0),(.agg [(.int .i64 6),(.str []),(.str []),(.lst 29 nl),(.lst 57 l7)])] (Is (.int .i64 0) []):=runT (R:=CB) (by decide +kernel)
def S9:FC Tryz.prog tt 138 [] [(.lst 97 Bx),(.lst 9 nl),(.agg [(.int .i64 4),(.str []),(.str []),(.lst 29 nl),(.lst 57 nl)])] (Is (.int .i64 0) []):=runT (R:=CB) (by decide +kernel)
def Qx:FC Tryz.prog tt 138 [] [(.lst 97 Bx),(.lst 9 nl),(.agg [(.int .i64 2),(.str []),(.str []),(.lst 29 nl),(.lst 57 nl)])] (Is (.int .i64 0) []):=runT (R:=CB) (by decide +kernel)
def Wp:FC Tryz.prog tt 43 [] [(.lst 97 l10),(.str [109,47,118,49])] (Is (.tup [(.agg [(.str [109,47,118,49]),(.lst 136 l9),(.lst 91 l3),(.lst 210 nl),(.lst 213 nl)]),(.bool true)]) []):=runT (R:=CB) (by decide +kernel)
def Wo:FC Tryz.prog tt 43 [] [(.lst 97 Bx),(.str [109,47,118,49])] (Is (.tup [(.agg [(.str [109,47,118,49]),(.lst 136 l9),(.lst 91 l4),(.lst 210 nl),(.lst 213 nl)]),(.bool true)]) []):=runT (R:=CB) (by decide +kernel)
def Wa:FC Tryz.prog tt 84 [] [(.lst 97 l10),(.str [109,47,118,49]),(.str [78])] (Is (.tup [(.agg [(.str [78]),(.lst 73 l5),(.int .i64 1),(.str []),(.str []),(.lst 29 nl),(.lst 57 nl),(.int .i64 6),(.str []),(.str []),(.lst 29 nl),(.lst 57 l7)]),(.str [109,47,118,49]),(.int .i64 0)]) []):=runT (R:=CB) (by decide +kernel)
def V9:FC Tryz.prog tt 86 [] [(.lst 97 l10),(.str []),(.str [])] (Is (.tup [(.str []),(.str []),(.int .i64 6)]) []):=runT (R:=CB) (by decide +kernel)
def V8:FC Tryz.prog tt 86 [] [(.lst 97 l10),(.str []),(.str [35,48])] (Is (.tup [(.str []),(.str []),(.int .i64 6)]) []):=runT (R:=CB) (by decide +kernel)
set_option maxRecDepth 100000
def Wu:FC Tryz.prog tt 31 [] [(.agg [(.int .i64 10),(.str [109,47,118,49]),(.str [78]),(.lst 29 l2),(.lst 57 nl),(.int .i64 6),(.str []),(.str []),(.lst 29 nl),(.lst 57 l7)])] (Is (.str [40,49,48,32,52,58,109,47,118,49,49,58,78,91,40,57,32,48,58,50,58,35,48,91,93,123,125,41,93,123,125,41,40,54,32,48,58,48,58,91,93,123,49,58,97,102,97,108,115,101,40,57,32,48,58,50,58,35,48,91,93,123,125,41,125,41]) []):=runT (R:=CB) (by decide +kernel)
def Ws:FC Tryz.prog tt 31 [] [(.agg [(.int .i64 6),(.str []),(.str []),(.lst 29 nl),(.lst 57 l7),(.int .i64 6),(.str []),(.str []),(.lst 29 nl),(.lst 57 l7)])] (Is (.str [40,54,32,48,58,48,58,91,93,123,49,58,97,102,97,108,115,101,40,57,32,48,58,50,58,35,48,91,93,123,125,41,125,41,40,54,32,48,58,48,58,91,93,123,49,58,97,102,97,108,115,101,40,57,32,48,58,50,58,35,48,91,93,123,125,41,125,41]) []):=runT (R:=CB) (by decide +kernel)
def Wr:FC Tryz.prog tt 31 [] [(.agg [(.int .i64 2),(.str []),(.str []),(.lst 29 nl),(.lst 57 nl),(.int .i64 2),(.str []),(.str []),(.lst 29 nl),(.lst 57 nl)])] (Is (.str [40,50,32,48,58,48,58,91,93,123,125,41,40,50,32,48,58,48,58,91,93,123,125,41]) []):=runT (R:=CB) (by decide +kernel)
noncomputable section
def UD(f:FuncId)(o:List Ob)(a:List PV):Option { r:PV×List Ob // ∀K:PV->List Ob->Prop,K r.1 r.2->FC Tryz.prog tt f o a K }:=
 match f with
 |138=>nJ o a [⟨_,_,_,_,Ti⟩,⟨_,_,_,_,Th⟩,⟨_,_,_,_,Tg⟩,⟨_,_,_,_,Tf⟩,⟨_,_,_,_,Te⟩,⟨_,_,_,_,Td⟩,⟨_,_,_,_,Tc⟩,⟨_,_,_,_,Tb⟩,⟨_,_,_,_,Ta⟩,⟨_,_,_,_,S9⟩,⟨_,_,_,_,Qx⟩]
 |43=>nJ o a [⟨_,_,_,_,Wp⟩,⟨_,_,_,_,Wo⟩]
 |84=>nJ o a [⟨_,_,_,_,Wa⟩]
 |86=>nJ o a [⟨_,_,_,_,V9⟩,⟨_,_,_,_,V8⟩]
 |31=>nJ o a [⟨_,_,_,_,Wu⟩,⟨_,_,_,_,Ws⟩,⟨_,_,_,_,Wr⟩]
 |f=>UE f o a
def R5:Sd.Rn Tryz.prog tt:={ Oi with Oj:=UD }
end
set_option maxRecDepth 100000
def WE:FC Tryz.prog tt 14 [] [(.lst 97 l10),(.lst 73 l5),(.agg [(.int .i64 1),(.str []),(.str []),(.lst 29 nl),(.lst 57 nl)]),(.agg [(.int .i64 6),(.str []),(.str []),(.lst 29 nl),(.lst 57 l7)])] (Is (.bool true) []):=runT (R:=R5) (by decide +kernel)
set_option maxRecDepth 100000
def WD:FC Tryz.prog tt 14 [] [(.lst 97 l10),(.lst 73 l5),(.agg [(.int .i64 10),(.str [109,47,118,49]),(.str [78]),(.lst 29 l2),(.lst 57 nl)]),(.agg [(.int .i64 6),(.str []),(.str []),(.lst 29 nl),(.lst 57 l7)])] (Is (.bool true) []):=runT (R:=R5) (by decide +kernel)
set_option maxRecDepth 100000
def WC:FC Tryz.prog tt 14 [] [(.lst 97 l10),(.lst 73 l5),(.agg [(.int .i64 6),(.str []),(.str []),(.lst 29 nl),(.lst 57 l7)]),(.agg [(.int .i64 6),(.str []),(.str []),(.lst 29 nl),(.lst 57 l7)])] (Is (.bool true) []):=runT (R:=R5) (by decide +kernel)
def WB:FC Tryz.prog tt 14 [] [(.lst 97 Bx),(.lst 73 l5),(.agg [(.int .i64 1),(.str []),(.str []),(.lst 29 nl),(.lst 57 nl)]),(.agg [(.int .i64 6),(.str []),(.str []),(.lst 29 nl),(.lst 57 l7)])] (Is (.bool true) []):=runT (R:=R5) (by decide +kernel)
set_option maxRecDepth 100000
def Tj:FC Tryz.prog tt 136 [] [(.lst 97 l10),(.agg [(.int .i64 10),(.str [109,47,118,49]),(.str [78]),(.lst 29 l2),(.lst 57 nl)])] (Is (.tup [(.agg [(.int .i64 1),(.str []),(.str []),(.lst 29 nl),(.lst 57 nl)]),(.agg [(.int .i64 6),(.str []),(.str []),(.lst 29 nl),(.lst 57 l7)]),(.int .i64 0)]) []):=runT (R:=R5) (by decide +kernel)
set_option maxRecDepth 100000
def S6:FC Tryz.prog tt 198 [] [(.lst 97 l10),(.str [109,47,118,49])] (Is (.tup [(.str []),(.int .i64 0)]) []):=runT (R:=R5) (by decide +kernel)
set_option maxRecDepth 100000
def S5:FC Tryz.prog tt 198 [] [(.lst 97 Bx),(.str [109,47,118,49])] (Is (.tup [(.str []),(.int .i64 0)]) []):=runT (R:=R5) (by decide +kernel)
noncomputable section
def UC(f:FuncId)(o:List Ob)(a:List PV):Option { r:PV×List Ob // ∀K:PV->List Ob->Prop,K r.1 r.2->FC Tryz.prog tt f o a K }:=
 match f with
 |14=>nJ o a [⟨_,_,_,_,WE⟩,⟨_,_,_,_,WD⟩,⟨_,_,_,_,WC⟩,⟨_,_,_,_,WB⟩]
 |136=>nJ o a [⟨_,_,_,_,Tj⟩]
 |198=>nJ o a [⟨_,_,_,_,S6⟩,⟨_,_,_,_,S5⟩]
 |f=>UD f o a
def rn3:Sd.Rn Tryz.prog tt:={ Oi with Oj:=UC }
end
set_option maxRecDepth 100000
def S8:FC Tryz.prog tt 153 [] [(.lst 97 l10)] (Is (.tup [(.str []),(.int .i64 0)]) []):=runT (R:=rn3) (by decide +kernel)
set_option maxRecDepth 100000
def S7:FC Tryz.prog tt 153 [] [(.lst 97 Bx)] (Is (.tup [(.str []),(.int .i64 0)]) []):=runT (R:=rn3) (by decide +kernel)
noncomputable section
def UA(f:FuncId)(o:List Ob)(a:List PV):Option { r:PV×List Ob // ∀K:PV->List Ob->Prop,K r.1 r.2->FC Tryz.prog tt f o a K }:=
 match f with
 |153=>nJ o a [⟨_,_,_,_,S8⟩,⟨_,_,_,_,S7⟩]
 |f=>UC f o a
def rn4:Sd.Rn Tryz.prog tt:={ Oi with Oj:=UA }
end
set_option maxRecDepth 100000
def Wn:FC Tryz.prog tt 46 [] [(.lst 97 l10)] (Is (.bool true) []):=runT (R:=rn4) (by decide +kernel)
set_option maxRecDepth 100000
def Wm:FC Tryz.prog tt 46 [] [(.lst 97 Bx)] (Is (.bool true) []):=runT (R:=rn4) (by decide +kernel)
noncomputable section
def Uz(f:FuncId)(o:List Ob)(a:List PV):Option { r:PV×List Ob // ∀K:PV->List Ob->Prop,K r.1 r.2->FC Tryz.prog tt f o a K }:=
 match f with
 |46=>nJ o a [⟨_,_,_,_,Wn⟩,⟨_,_,_,_,Wm⟩]
 |f=>UA f o a
def XJ:Sd.Rn Tryz.prog tt:={ Oi with Oj:=Uz }
end
end Go.VC.cc.R
