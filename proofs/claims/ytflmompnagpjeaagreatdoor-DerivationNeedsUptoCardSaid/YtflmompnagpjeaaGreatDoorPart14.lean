/- Part 14 of the common texts. -/
import Derived.Test.YtflmompnagpjeaaGreatDoorPart6
set_option linter.all false
set_option maxRecDepth 100000
set_option maxHeartbeats 16000000
open Bool renaming and_eq_true→bw
open UInt8 renaming ofNat→iN
namespace Go.VC.cG.R
open Go Go.VC Go.Proofs
instance (priority:=2000) instDrR:Inhabited pB:=Wl
def Lz:S->Bool|[]=>true|_=>false
def Rx(n:Nat):S:=if n<10 then [iN (48+n)]else [iN (48+n/10),iN (48+n % 10)]
def OU{n:Nat}(h:n<100):Lib.decDigits n=Rx n:=by
 unfold Rx;rw[Lib.decDigits];split
 ·rfl
 ·rw[Lib.decDigits,dif_pos (by omega)];rfl
def Tk(f:FuncId)(o:List Ob)(a:List PV):Option { r:PV×List Ob // ∀K:PV->List Ob->Prop,K r.1 r.2->FC Tryz.prog tt f o a K }:=
 match f,o,a with
 |73,[],[.int .i64 (.ofNat n)]=>if h:n<100 then some ⟨(.str (Rx n),[]),λ_ hk=>FC.tl (X8 h λr e=>by rw[e,OU h];exact hk)⟩else none
 |307,[],[.str s,.str t]=>if h:s.length<4294967281 then some ⟨(.bool (Lib.contains s t),[]),λ_ hk=>FC.tl (Vv h λr e=>by rw[e];exact hk)⟩else none
 |186,[.box [.nilp,.row 5 1],.row 5 d true],[.box 0 0]=>some ⟨(.tup [],[.box [.box 0 0,.row 5 1],.row 5 d true]),λ_ hk=>FC.tl (JF (.inl rfl) hk)⟩
 |186,[.box [.box 0 0,.row 5 1],.row 5 d true],[.box 0 0]=>some ⟨(.tup [],[.box [.box 0 0,.row 5 1],.row 5 d true]),λ_ hk=>FC.tl (JF (.inr rfl) hk)⟩
 |132,[.box [.box 0 0,.row 5 1],.row 5 d true],[.box 0 0]=>
  match he:(match d with| .list l=>l.map (λx=>match x with|[.int n]=>iN n.toNat|_=>0)|_=>[])with
  |s=>if h:(Lz s=false/\s.length<=4294967296/\AU d (.list (dq s))=true)then some ⟨(.str s,[.dead,.dead]),λ_ hk=>FC.tl (Sv (by intro e;rw[e]at h;cases h.1) h.2.1 (kT h.2.2) rfl hk)⟩else none
 |290,[],[.str s,.str t]=>some ⟨(.int .i64 (Lib.compareBytes s t),[]),λ_ hk=>FC.tl (Vz λr e=>by rw[e];exact hk)⟩
 |_,_,_=>none
set_option maxRecDepth 100000
def lv:List Nat:=[30,35,37,51,53,54,57,59,66,67,68,69,70,78,81,91,93,94,96,97,99,102,103,104,105,106,107,109,115,116,118,122,129,142,151,156,173,176,177,178,179,200,202,209,211,212,240,242,244,245,246,247,248,249,255,256,287,330,331,334,337]
def rg(n:Nat):List Nat:=D6 n 0
def g(n:Nat)(l o k h:List Nat:=[])(s:List (Nat×List Nat):=[]):ea:={ tt:=tt,n:=n,ZW:=true,Wg:=[97],live:=l,own:=o,dV:=k,qC:=h,iT:=s }
def XZ:List (Nat×ea):=[(5,g 92 (k:=[7]) (l:=[7])),
 (7,g 37 (k:=[28]) (o:=[12]) (l:=28::29::lv)),
 (8,g 81 (s:=[(11,rg 4),(20,rg 5)]) (k:=[28]) (l:=[28,33,34,36,37])),
 (14,g 20 (o:=[13]) (l:=[49])),
 (18,g 5),
 (19,g 54 (s:=[(6,rg 37)])),
 (20,g 40 (k:=[28]) (o:=[13]) (l:=28::29::56::lv)),
 (21,g 27 (s:=[(6,rg 10)])),
 (22,g 60 (s:=[(16,rg 4),(18,rg 5)]) (k:=[28]) (l:=[28,34,36,58,59])),
 (23,g 110 (s:=[(6,rg 65),(11,rg 17)])),
 (24,g 33 (k:=[28]) (o:=[24]) (l:=[28,60])),
 (28,g 29 (s:=[(4,[0,1,2]),(5,rg 4)]) (k:=[64]) (l:=[36,64])),
 (29,g 41 (s:=[(4,rg 14)])),
 (30,g 59 (s:=[(1,rg 4),(2,rg 4)]) (l:=33::34::lv)),
 (31,g 10 (s:=[(1,[0,1,3,4,2,5,6,7])])),
 (32,g 2),
 (33,g 43 (o:=[21]) (l:=lv) (h:=[38,39])),
 (34,g 9 (l:=[71])),
 (35,g 8 (l:=[29])),
 (36,g 15 (l:=[72])),
 (37,g 9 (s:=[(1,rg 6)])),
 (46,g 24 (l:=[88])),
 (49,g 91 (s:=[(6,rg 11)]) (l:=108::lv)),
 (52,g 38 (l:=[111,112])),
 (55,g 17),
 (56,g 95 (o:=[22,60,31]) (l:=[58,114,115])),
 (57,g 71 (s:=[(1,rg 4),(2,rg 4),(10,rg 5),(11,rg 17),(15,rg 6)]) (l:=58::lv)),
 (58,{ g 30 (o:=[5]) (l:=[33])with Ta:=[0] }),
 (59,g 8 (s:=[(1,rg 5)])),
 (60,g 136 (s:=[(2,rg 7),(3,rg 6),(23,rg 5)]) (l:=[29,33,60,117,118,119,120,121,122,123]) (h:=[20,21,22,23,24,27,93,94,124,125])),
 (62,g 90 (s:=[(6,rg 44)])),
 (64,g 55 (s:=[(7,rg 20),(9,rg 12)]) (o:=[14]) (l:=[72]) (h:=[41])),
 (65,g 59 (s:=[(17,[0,1,3,4,2,5,6,7])]) (o:=[3]) (l:=130::132::lv)),
 (66,g 49),
 (67,g 57 (s:=[(5,rg 14)])),
 (68,g 31 (o:=[8]) (l:=[121])),
 (69,g 58 (k:=[136]) (l:=[136]) (h:=[48,49,50])),
 (70,g 31 (k:=[136]) (l:=[136]) (h:=[21,22,23])),
 (71,g 19 (l:=lv)),
 (72,g 69 (s:=[(17,rg 12)]) (l:=[72])),
 (87,g 48 (s:=[(11,rg 7)])),
 (88,g 9 (l:=[154])),
 (101,g 11 (o:=[3]) (l:=[132,163])),
 (102,{ g 31 (o:=[28]) (l:=[0]) (h:=[28,22])with view:=[10] }),
 (103,g 59 (o:=[6])),
 (104,g 106 (s:=[(5,rg 12),(19,[0,1,2,3,4,5,6,7,8,9,12,10,11,13,14])]) (o:=[6,41]) (l:=[164])),
 (105,g 149 (s:=[(13,rg 15),(15,rg 15)]) (k:=[84,86]) (o:=[17,6]) (l:=[84,86]) (h:=[38,39,40,51,52,53,64,65,66])),
 (106,g 28 (o:=[6,26]) (h:=[22])),
 (107,g 30 (k:=[136]) (o:=[6,27]) (l:=[136]) (h:=[21,22,23])),
 (108,g 9 (l:=[170])),
 (109,g 8 (l:=[49])),
 (114,g 9 (l:=[171])),
 (115,g 8 (l:=[34,116])),
 (116,g 9 (s:=[(1,rg 6)])),
 (117,g 52 (o:=[40]) (l:=lv) (h:=[40,29])),
 (119,g 46 (s:=[(1,rg 10),(3,rg 9)]) (l:=[117,173])),
 (121,g 71 (s:=[(7,rg 20),(9,rg 20)]) (o:=[8]) (l:=[180])),
 (123,{ g 30 (s:=[(1,[0,1,2,3,4,5,6,7,8,10,11,12,13,14,15,16,17,18,9,19,20,21,22,23,24])])with Uw:=[181] }),
 (124,g 27 (s:=[(6,rg 10)])),
 (129,g 10 (l:=[130])),
 (130,g 19 (l:=[186])),
 (131,g 5),
 (133,g 38 (o:=[6])),
 (137,g 8 (o:=[5,2])),
 (138,g 17),
 (153,g 85 (s:=[(7,rg 14),(9,rg 14),(14,rg 6)]) (l:=[199])),
 (154,g 19 (l:=lv)),
 (159,{ g 10 with SK:=[2,3,6,7,8,9] }),
 (160,g 20),
 (163,g 83 (l:=[130,163,207])),
 (164,g 46 (o:=[8,6]) (l:=lv)),
 (165,g 10),
 (167,g 17 (l:=[208,209])),
 (169,g 40 (k:=[136]) (l:=[136,210,211])),
 (170,g 19 (l:=[109])),
 (171,g 19 (l:=lv)),
 (172,g 17 (l:=[208,212])),
 (173,g 32 (l:=[60,123])),
 (180,g 108 (k:=[84,86]) (l:=[84,86]) (h:=[37,38,39,52,53,54])),
 (181,g 8 (o:=[2,5])),
 (187,g 4),
 (188,{ g 21 with SK:=[2,3,4,15,16,17,18,19,20,41] }),
 (189,g 33),
 (194,{ g 13 with SK:=[2,4,5,7,8,9,10,11,12] }),
 (201,{ g 21 (l:=[250,251])with SK:=[2,3,4,8,9,10,11,12,13,14,15,16,17,18,19,20] }),
 (204,g 4 (l:=[255])),
 (205,g 23),
 (206,g 8 (o:=[5,2])),
 (207,g 17 (l:=[186])),
 (208,g 19 (l:=lv)),
 (209,g 8),
 (212,g 8),
 (217,g 18 (l:=lv)),
 (218,g 17),
 (220,g 50 (l:=[261,264])),
 (221,g 41 (k:=[84]) (l:=[84])),
 (222,g 23),
 (255,g 8 (l:=[256])),
 (256,g 23 (l:=[256])),
 (257,g 9),
 (259,g 106 (s:=[(1,rg 16)]) (l:=[261])),
 (261,g 9 (l:=[208])),
 (262,g 7),
 (263,g 24 (l:=[217])),
 (264,g 33 (l:=lv) (h:=[20,21,22,23,24])),
 (265,g 5),
 (288,g 5),
 (289,g 7),
 (301,{ g 36 (s:=[(8,rg 7)])with Ta:=[23],SK:=[2,3,5,6,15,16,17,18,19,20,21,22,23,24,25,26,27,28,29,30,31,32,33,34,35,355] })]
def Js(f:FuncId):Option ea:=(XZ.find? λx=>x.1==f).map (·.2)
def Wy:Nat->List Nat->Option ea
 |10,[6]=>Js 159
 |21,[15]=>Js 188
 |13,[7]=>Js 194
 |21,[8]=>Js 201
 |36,[15,16]=>Js 301
 |_,_=>none
def _root_.List.Gw:List (List UInt8)->List (List UInt8)
 |a::b::l=>if a=b then List.Gw (b::l)else a::List.Gw (b::l)
 |l=>l
def Tw:List UInt8->List UInt8->Bool
 |[],_=>true
 |_::_,[]=>false
 |a::x,b::y=>match Nat.blt a.toNat b.toNat,Nat.blt b.toNat a.toNat with|true,_=>true|false,true=>false|false,false=>Tw x y
def Rc(a:List UInt8):List (List UInt8)->List (List UInt8)
 |[]=>[a]
 |b::l=>match Tw a b with|true=>a::b::l|false=>b::Rc a l
def PQ:List (List UInt8)->List (List UInt8)
 |[]=>[]
 |a::l=>Rc a (PQ l)
def Rm:D->List (List UInt8)
 | .list l=>l.filterMap λr=>match r with| .str s::_=>some s|_=>none
 |_=>[]
def WO(f:FuncId)(o:List Ob)(a:List PV):Option (PV×List Ob):=
 match f,a with
 |44,[.agg [_,.lst _ t,.lst _ v,.lst _ l,_]]=>some (.row 9 0,[.row 9 (.list (((PQ (Rm t++Rm v++Rm l)).Gw).map λs=>[.str s])) true])
 |137,[.lst e d]=>some (.row e 0,[.row e d true])
 |206,[.lst e d]=>some (.row e 0,[.row e d true])
 |143,[.lst e d]=>some (.row e 0,[.row e d true])
 |144,[.lst e d]=>some (.row e 0,[.row e d true])
 |147,[.lst e d]=>some (.row e 0,[.row e d true])
 |148,[.lst e d]=>some (.row e 0,[.row e d true])
 |227,[.lst e d]=>some (.row e 0,[.row e d true])
 |181,[.lst e d]=>some (.row e 0,[.row e d true])
 |181,[.row e 0]=>(match o with|[.row e' d b]=>some (.row e 1,[.row e' d b,.row e d true])|_=>none)
 |_,_=>none
def PW:Sd.Rn Tryz.prog tt:=⟨Js,Wy,λf=>eI f [137,206,143,144,147,148,298,227,181,38,42,301,314,44,175,164,28,64],Tk,WO⟩
def Is(v:PV)(o:List Ob):PV->List Ob->Prop:=λa o'=>td a v=true/\Ca o' o=true
noncomputable instance {v:PV}{o:List Ob}{a:PV}{o':List Ob}:Sd (Is v o a o'):=Sd.Ak
theorem Is.K{f:FuncId}{o:List Ob}{a:List PV}{v:PV}{o2:List Ob}(h:FC Tryz.prog tt f o a (Is v o2)):∀K:PV->List Ob->Prop,K v o2->FC Tryz.prog tt f o a K:=λK hk=>h.mono λc o' b=>by rw[B9 b.1,uf b.2];exact hk
set_option maxRecDepth 100000
def nl:D:=.list []
def l0:D:=.list [[(.str [97])]]
def l1:D:=.list [[(.str [97]),(.int 0),(.str []),(.str []),nl,nl,(.bool false)]]
def l2:D:=.list [[(.str [97]),(.int 2),(.str []),(.str []),nl,nl,(.bool false)]]
def l3:D:=.list [[(.str [97]),(.int 4),(.str []),(.str []),nl,nl,(.bool false)]]
def l4:D:=.list [[l0,(.bool false),(.int 0),(.int 2),(.str []),(.str []),nl,nl,(.int 4),(.str []),(.str []),nl,nl]]
def l5:D:=.list [[(.str [97]),(.int 2),(.str []),(.str []),nl,nl,(.bool false)],[(.str [98]),(.int 4),(.str []),(.str []),nl,nl,(.bool false)]]
def l6:D:=.list [[(.str [97]),(.int 0),(.str []),(.str []),nl,nl,(.bool false)],[(.str [98]),(.int 0),(.str []),(.str []),nl,nl,(.bool false)]]
def l7:D:=.list [[(.int 2),(.str []),(.str []),nl,nl,(.int 4),(.str []),(.str []),nl,nl],[(.int 6),(.str []),(.str []),nl,l2,(.int 6),(.str []),(.str []),nl,l3]]
def l8:D:=.list [[(.int 2),(.int 6),(.str []),(.str []),nl,l5,(.int 6),(.str []),(.str []),nl,l1],[(.int 1),(.int 2),(.str []),(.str []),nl,nl,(.int 0),(.str []),(.str []),nl,nl]]
noncomputable abbrev Tg(R:Sd.Rn Tryz.prog tt)(f:FuncId)(o:List Ob)(a:List PV)(K:PV->List Ob->Prop)(hK:∀v o,Sd (K v o)):Sd (FC Tryz.prog tt f o a K):=Sd.Hl k9 mixed R 60 (.fn f) o a K hK
def runT{R:Sd.Rn Tryz.prog tt}{f:FuncId}{o:List Ob}{a:List PV}{v:PV}{o2:List Ob}(h:(Tg R f o a (Is v o2) λ_ _=>inferInstance).b=true):FC Tryz.prog tt f o a (Is v o2):=(Tg R f o a (Is v o2) λ_ _=>inferInstance).h h
structure Mem (f:FuncId) where
 o:List Ob
 a:List PV
 v:PV
 o2:List Ob
 h:FC Tryz.prog tt f o a (Is v o2)
noncomputable def oZ{f:FuncId}(o:List Ob)(a:List PV):List (Mem f)->Option { r:PV×List Ob // ∀K:PV->List Ob->Prop,K r.1 r.2->FC Tryz.prog tt f o a K }
 |[]=>none
 |m::l=>match h:(Ca o m.o&&yT a m.a)with
  |true=>some ⟨(m.v,m.o2),λK hk=>by rw[bw]at h;rw[uf h.1,pq h.2];exact Is.K m.h K hk⟩
  |false=>oZ o a l
noncomputable abbrev WC:=Tk
noncomputable abbrev zD:=PW
set_option maxRecDepth 100000
def R3:FC Tryz.prog tt 101 [] [(.agg [(.int .i64 6),(.str []),(.str []),(.lst 29 nl),(.lst 57 l5),(.int .i64 6),(.str []),(.str []),(.lst 29 nl),(.lst 57 l1)])] (Is (.str [54,32,48,32,48,32,48,32,50,32,49,102,97,108,115,101,97,50,32,48,32,48,32,48,32,48,32,49,102,97,108,115,101,98,52,32,48,32,48,32,48,32,48,32,54,32,48,32,48,32,48,32,49,32,49,102,97,108,115,101,97,48,32,48,32,48,32,48,32,48,32]) []):=runT (R:=zD) (by decide +kernel)
def R2:FC Tryz.prog tt 101 [] [(.agg [(.int .i64 2),(.str []),(.str []),(.lst 29 nl),(.lst 57 nl),(.int .i64 0),(.str []),(.str []),(.lst 29 nl),(.lst 57 nl)])] (Is (.str [50,32,48,32,48,32,48,32,48,32,48,32,48,32,48,32,48,32,48,32]) []):=runT (R:=zD) (by decide +kernel)
def R1:FC Tryz.prog tt 101 [] [(.agg [(.int .i64 6),(.str []),(.str []),(.lst 29 nl),(.lst 57 l2),(.int .i64 6),(.str []),(.str []),(.lst 29 nl),(.lst 57 l3)])] (Is (.str [54,32,48,32,48,32,48,32,49,32,49,102,97,108,115,101,97,50,32,48,32,48,32,48,32,48,32,54,32,48,32,48,32,48,32,49,32,49,102,97,108,115,101,97,52,32,48,32,48,32,48,32,48,32]) []):=runT (R:=zD) (by decide +kernel)
def R0:FC Tryz.prog tt 101 [] [(.agg [(.int .i64 2),(.str []),(.str []),(.lst 29 nl),(.lst 57 nl),(.int .i64 4),(.str []),(.str []),(.lst 29 nl),(.lst 57 nl)])] (Is (.str [50,32,48,32,48,32,48,32,48,32,52,32,48,32,48,32,48,32,48,32]) []):=runT (R:=zD) (by decide +kernel)
set_option maxRecDepth 100000
def UY:FC Tryz.prog tt 65 [] [(.agg [(.int .i64 2),(.str []),(.str []),(.lst 29 nl),(.lst 57 nl)])] (Is (.str [40,50,32,48,58,48,58,91,93,123,125,41]) []):=runT (R:=zD) (by decide +kernel)
def UX:FC Tryz.prog tt 65 [] [(.agg [(.int .i64 4),(.str []),(.str []),(.lst 29 nl),(.lst 57 nl)])] (Is (.str [40,52,32,48,58,48,58,91,93,123,125,41]) []):=runT (R:=zD) (by decide +kernel)
def UW:FC Tryz.prog tt 65 [] [(.agg [(.int .i64 6),(.str []),(.str []),(.lst 29 nl),(.lst 57 l5)])] (Is (.str [40,54,32,48,58,48,58,91,93,123,49,58,97,102,97,108,115,101,40,50,32,48,58,48,58,91,93,123,125,41,49,58,98,102,97,108,115,101,40,52,32,48,58,48,58,91,93,123,125,41,125,41]) []):=runT (R:=zD) (by decide +kernel)
def UU:FC Tryz.prog tt 65 [] [(.agg [(.int .i64 0),(.str []),(.str []),(.lst 29 nl),(.lst 57 nl)])] (Is (.str [40,48,32,48,58,48,58,91,93,123,125,41]) []):=runT (R:=zD) (by decide +kernel)
def UT:FC Tryz.prog tt 65 [] [(.agg [(.int .i64 6),(.str []),(.str []),(.lst 29 nl),(.lst 57 l1)])] (Is (.str [40,54,32,48,58,48,58,91,93,123,49,58,97,102,97,108,115,101,40,48,32,48,58,48,58,91,93,123,125,41,125,41]) []):=runT (R:=zD) (by decide +kernel)
def UR:FC Tryz.prog tt 65 [] [(.agg [(.int .i64 6),(.str []),(.str []),(.lst 29 nl),(.lst 57 l2)])] (Is (.str [40,54,32,48,58,48,58,91,93,123,49,58,97,102,97,108,115,101,40,50,32,48,58,48,58,91,93,123,125,41,125,41]) []):=runT (R:=zD) (by decide +kernel)
def UQ:FC Tryz.prog tt 65 [] [(.agg [(.int .i64 6),(.str []),(.str []),(.lst 29 nl),(.lst 57 l3)])] (Is (.str [40,54,32,48,58,48,58,91,93,123,49,58,97,102,97,108,115,101,40,52,32,48,58,48,58,91,93,123,125,41,125,41]) []):=runT (R:=zD) (by decide +kernel)
def RS:FC Tryz.prog tt 220 [] [(.agg [(.int .i64 2),(.str []),(.str []),(.lst 29 nl),(.lst 57 nl)])] (Is (.int .i64 0) []):=runT (R:=zD) (by decide +kernel)
def RR:FC Tryz.prog tt 220 [] [(.agg [(.int .i64 4),(.str []),(.str []),(.lst 29 nl),(.lst 57 nl)])] (Is (.int .i64 0) []):=runT (R:=zD) (by decide +kernel)
def RQ:FC Tryz.prog tt 220 [] [(.agg [(.int .i64 6),(.str []),(.str []),(.lst 29 nl),(.lst 57 l6)])] (Is (.int .i64 0) []):=runT (R:=zD) (by decide +kernel)
def RP:FC Tryz.prog tt 220 [] [(.agg [(.int .i64 0),(.str []),(.str []),(.lst 29 nl),(.lst 57 nl)])] (Is (.int .i64 0) []):=runT (R:=zD) (by decide +kernel)
def RO:FC Tryz.prog tt 220 [] [(.agg [(.int .i64 6),(.str []),(.str []),(.lst 29 nl),(.lst 57 l1)])] (Is (.int .i64 0) []):=runT (R:=zD) (by decide +kernel)
def RT:FC Tryz.prog tt 153 [] [(.lst 97 nl)] (Is (.tup [(.str []),(.int .i64 0)]) []):=runT (R:=zD) (by decide +kernel)
def Vh:FC Tryz.prog tt 18 [] [(.lst 57 l5)] (Is (.agg [(.int .i64 6),(.str []),(.str []),(.lst 29 nl),(.lst 57 l5)]) []):=runT (R:=zD) (by decide +kernel)
def Vg:FC Tryz.prog tt 18 [] [(.lst 57 l1)] (Is (.agg [(.int .i64 6),(.str []),(.str []),(.lst 29 nl),(.lst 57 l1)]) []):=runT (R:=zD) (by decide +kernel)
def Vf:FC Tryz.prog tt 18 [] [(.lst 57 l2)] (Is (.agg [(.int .i64 6),(.str []),(.str []),(.lst 29 nl),(.lst 57 l2)]) []):=runT (R:=zD) (by decide +kernel)
def Ve:FC Tryz.prog tt 18 [] [(.lst 57 l3)] (Is (.agg [(.int .i64 6),(.str []),(.str []),(.lst 29 nl),(.lst 57 l3)]) []):=runT (R:=zD) (by decide +kernel)
noncomputable section
def Tr(f:FuncId)(o:List Ob)(a:List PV):Option { r:PV×List Ob // ∀K:PV->List Ob->Prop,K r.1 r.2->FC Tryz.prog tt f o a K }:=
 match f with
 |101=>oZ o a [⟨_,_,_,_,R3⟩,⟨_,_,_,_,R2⟩,⟨_,_,_,_,R1⟩,⟨_,_,_,_,R0⟩]
 |65=>oZ o a [⟨_,_,_,_,UY⟩,⟨_,_,_,_,UX⟩,⟨_,_,_,_,UW⟩,⟨_,_,_,_,UU⟩,⟨_,_,_,_,UT⟩,⟨_,_,_,_,UR⟩,⟨_,_,_,_,UQ⟩]
 |220=>oZ o a [⟨_,_,_,_,RS⟩,⟨_,_,_,_,RR⟩,⟨_,_,_,_,RQ⟩,⟨_,_,_,_,RP⟩,⟨_,_,_,_,RO⟩]
 |153=>oZ o a [⟨_,_,_,_,RT⟩]
 |18=>oZ o a [⟨_,_,_,_,Vh⟩,⟨_,_,_,_,Vg⟩,⟨_,_,_,_,Vf⟩,⟨_,_,_,_,Ve⟩]
 |f=>WC f o a
def N6:Sd.Rn Tryz.prog tt:={ PW with PZ:=Tr }
end
set_option maxRecDepth 100000
def RZ:FC Tryz.prog tt 138 [] [(.lst 97 nl),(.lst 9 nl),(.agg [(.int .i64 2),(.str []),(.str []),(.lst 29 nl),(.lst 57 nl)])] (Is (.int .i64 0) []):=runT (R:=N6) (by decide +kernel)
def RY:FC Tryz.prog tt 138 [] [(.lst 97 nl),(.lst 9 nl),(.agg [(.int .i64 4),(.str []),(.str []),(.lst 29 nl),(.lst 57 nl)])] (Is (.int .i64 0) []):=runT (R:=N6) (by decide +kernel)
def RX:FC Tryz.prog tt 138 [] [(.lst 97 nl),(.lst 9 nl),(.agg [(.int .i64 6),(.str []),(.str []),(.lst 29 nl),(.lst 57 l6)])] (Is (.int .i64 0) []):=runT (R:=N6) (by decide +kernel)
def RV:FC Tryz.prog tt 138 [] [(.lst 97 nl),(.lst 9 nl),(.agg [(.int .i64 0),(.str []),(.str []),(.lst 29 nl),(.lst 57 nl)])] (Is (.int .i64 0) []):=runT (R:=N6) (by decide +kernel)
def RU:FC Tryz.prog tt 138 [] [(.lst 97 nl),(.lst 9 nl),(.agg [(.int .i64 6),(.str []),(.str []),(.lst 29 nl),(.lst 57 l1)])] (Is (.int .i64 0) []):=runT (R:=N6) (by decide +kernel)
set_option maxRecDepth 100000
def U4:FC Tryz.prog tt 31 [] [(.agg [(.int .i64 6),(.str []),(.str []),(.lst 29 nl),(.lst 57 l5),(.int .i64 6),(.str []),(.str []),(.lst 29 nl),(.lst 57 l1)])] (Is (.str [40,54,32,48,58,48,58,91,93,123,49,58,97,102,97,108,115,101,40,50,32,48,58,48,58,91,93,123,125,41,49,58,98,102,97,108,115,101,40,52,32,48,58,48,58,91,93,123,125,41,125,41,40,54,32,48,58,48,58,91,93,123,49,58,97,102,97,108,115,101,40,48,32,48,58,48,58,91,93,123,125,41,125,41]) []):=runT (R:=N6) (by decide +kernel)
def U3:FC Tryz.prog tt 31 [] [(.agg [(.int .i64 2),(.str []),(.str []),(.lst 29 nl),(.lst 57 nl),(.int .i64 0),(.str []),(.str []),(.lst 29 nl),(.lst 57 nl)])] (Is (.str [40,50,32,48,58,48,58,91,93,123,125,41,40,48,32,48,58,48,58,91,93,123,125,41]) []):=runT (R:=N6) (by decide +kernel)
def U2:FC Tryz.prog tt 31 [] [(.agg [(.int .i64 6),(.str []),(.str []),(.lst 29 nl),(.lst 57 l2),(.int .i64 6),(.str []),(.str []),(.lst 29 nl),(.lst 57 l3)])] (Is (.str [40,54,32,48,58,48,58,91,93,123,49,58,97,102,97,108,115,101,40,50,32,48,58,48,58,91,93,123,125,41,125,41,40,54,32,48,58,48,58,91,93,123,49,58,97,102,97,108,115,101,40,52,32,48,58,48,58,91,93,123,125,41,125,41]) []):=runT (R:=N6) (by decide +kernel)
def U1:FC Tryz.prog tt 31 [] [(.agg [(.int .i64 2),(.str []),(.str []),(.lst 29 nl),(.lst 57 nl),(.int .i64 4),(.str []),(.str []),(.lst 29 nl),(.lst 57 nl)])] (Is (.str [40,50,32,48,58,48,58,91,93,123,125,41,40,52,32,48,58,48,58,91,93,123,125,41]) []):=runT (R:=N6) (by decide +kernel)
noncomputable section
def Tq(f:FuncId)(o:List Ob)(a:List PV):Option { r:PV×List Ob // ∀K:PV->List Ob->Prop,K r.1 r.2->FC Tryz.prog tt f o a K }:=
 match f with
 |138=>oZ o a [⟨_,_,_,_,RZ⟩,⟨_,_,_,_,RY⟩,⟨_,_,_,_,RX⟩,⟨_,_,_,_,RV⟩,⟨_,_,_,_,RU⟩]
 |31=>oZ o a [⟨_,_,_,_,U4⟩,⟨_,_,_,_,U3⟩,⟨_,_,_,_,U2⟩,⟨_,_,_,_,U1⟩]
 |f=>Tr f o a
def Wc:Sd.Rn Tryz.prog tt:={ PW with PZ:=Tq }
end
set_option maxRecDepth 100000
def Vl:FC Tryz.prog tt 14 [] [(.lst 97 nl),(.lst 73 nl),(.agg [(.int .i64 6),(.str []),(.str []),(.lst 29 nl),(.lst 57 l5)]),(.agg [(.int .i64 6),(.str []),(.str []),(.lst 29 nl),(.lst 57 l1)])] (Is (.bool true) []):=runT (R:=Wc) (by decide +kernel)
def Vk:FC Tryz.prog tt 14 [] [(.lst 97 nl),(.lst 73 nl),(.agg [(.int .i64 2),(.str []),(.str []),(.lst 29 nl),(.lst 57 nl)]),(.agg [(.int .i64 0),(.str []),(.str []),(.lst 29 nl),(.lst 57 nl)])] (Is (.bool true) []):=runT (R:=Wc) (by decide +kernel)
set_option maxRecDepth 100000
def Vj:FC Tryz.prog tt 14 [] [(.lst 97 nl),(.lst 73 nl),(.agg [(.int .i64 6),(.str []),(.str []),(.lst 29 nl),(.lst 57 l2)]),(.agg [(.int .i64 6),(.str []),(.str []),(.lst 29 nl),(.lst 57 l3)])] (Is (.bool false) []):=runT (R:=Wc) (by decide +kernel)
def Vi:FC Tryz.prog tt 14 [] [(.lst 97 nl),(.lst 73 nl),(.agg [(.int .i64 2),(.str []),(.str []),(.lst 29 nl),(.lst 57 nl)]),(.agg [(.int .i64 4),(.str []),(.str []),(.lst 29 nl),(.lst 57 nl)])] (Is (.bool false) []):=runT (R:=Wc) (by decide +kernel)
noncomputable section
def Tp(f:FuncId)(o:List Ob)(a:List PV):Option { r:PV×List Ob // ∀K:PV->List Ob->Prop,K r.1 r.2->FC Tryz.prog tt f o a K }:=
 match f with
 |14=>oZ o a [⟨_,_,_,_,Vl⟩,⟨_,_,_,_,Vk⟩,⟨_,_,_,_,Vj⟩,⟨_,_,_,_,Vi⟩]
 |f=>Tq f o a
def rn3:Sd.Rn Tryz.prog tt:={ PW with PZ:=Tp }
end
end Go.VC.cG.R
