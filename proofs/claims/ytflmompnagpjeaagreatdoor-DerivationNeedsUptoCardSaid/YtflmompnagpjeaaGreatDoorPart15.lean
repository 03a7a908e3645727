/- Part 15 of the common texts. -/
import Derived.Test.YtflmompnagpjeaaGreatDoorPart14
set_option linter.all false
set_option maxRecDepth 100000
set_option maxHeartbeats 16000000
namespace Go.VC.cG.R
open Go Go.VC Go.Proofs
set_option maxRecDepth 100000
def U0:FC Tryz.prog tt 46 [] [(.lst 97 nl)] (Is (.bool true) []):=runT (R:=rn3) (by decide +kernel)
noncomputable section
def To(f:FuncId)(o:List Ob)(a:List PV):Option { r:PV×List Ob // ∀K:PV->List Ob->Prop,K r.1 r.2->FC Tryz.prog tt f o a K }:=
 match f with
 |46=>oZ o a [⟨_,_,_,_,U0⟩]
 |f=>Tp f o a
def Wz:Sd.Rn Tryz.prog tt:={ PW with PZ:=To }
end
set_option maxRecDepth 100000
def U7:FC Tryz.prog tt 28 [(.row 97 nl true),(.row 73 nl true)] [(.row 97 0),(.row 73 1),(.agg [(.int .i64 6),(.str []),(.str []),(.lst 29 nl),(.lst 57 l5)]),(.agg [(.int .i64 6),(.str []),(.str []),(.lst 29 nl),(.lst 57 l1)])] (Is (.tup [(.box 2 0),(.agg [(.int .i64 6),(.str []),(.str []),(.lst 29 nl),(.lst 57 l5),(.int .i64 6),(.str []),(.str []),(.lst 29 nl),(.lst 57 l1)])]) [(.row 97 nl true),.dead,(.box [(.row 97 0),(.row 73 3),(.row 9 4),(.mp 5)]),(.row 73 nl true),(.row 9 nl true),(.map .str 4 nl)]):=runT (R:=Wz) (by decide +kernel)
set_option maxRecDepth 100000
def U6:FC Tryz.prog tt 28 [] [(.lst 97 nl),(.lst 73 nl),(.agg [(.int .i64 6),(.str []),(.str []),(.lst 29 nl),(.lst 57 l5)]),(.agg [(.int .i64 6),(.str []),(.str []),(.lst 29 nl),(.lst 57 l1)])] (Is (.tup [(.box 0 0),(.agg [(.int .i64 6),(.str []),(.str []),(.lst 29 nl),(.lst 57 l5),(.int .i64 6),(.str []),(.str []),(.lst 29 nl),(.lst 57 l1)])]) [(.box [(.lst 97 nl),(.lst 73 nl),(.row 9 1),(.mp 2)]),(.row 9 nl true),(.map .str 4 nl)]):=runT (R:=Wz) (by decide +kernel)
set_option maxRecDepth 100000
def U5:FC Tryz.prog tt 28 [] [(.lst 97 nl),(.lst 73 nl),(.agg [(.int .i64 6),(.str []),(.str []),(.lst 29 nl),(.lst 57 l2)]),(.agg [(.int .i64 6),(.str []),(.str []),(.lst 29 nl),(.lst 57 l3)])] (Is (.tup [(.box 0 0),(.agg [(.int .i64 6),(.str []),(.str []),(.lst 29 nl),(.lst 57 l2),(.int .i64 6),(.str []),(.str []),(.lst 29 nl),(.lst 57 l3)])]) [(.box [(.lst 97 nl),(.lst 73 nl),(.row 9 1),(.mp 2)]),(.row 9 nl true),(.map .str 4 nl)]):=runT (R:=Wz) (by decide +kernel)
noncomputable section
def Tn(f:FuncId)(o:List Ob)(a:List PV):Option { r:PV×List Ob // ∀K:PV->List Ob->Prop,K r.1 r.2->FC Tryz.prog tt f o a K }:=
 match f with
 |28=>oZ o a [⟨_,_,_,_,U7⟩,⟨_,_,_,_,U6⟩,⟨_,_,_,_,U5⟩]
 |f=>To f o a
def rn5:Sd.Rn Tryz.prog tt:={ PW with PZ:=Tn }
end
set_option maxRecDepth 100000
def UZ:FC Tryz.prog tt 56 [(.box [(.lst 97 nl),(.lst 73 nl),(.row 9 1),(.mp 2)]),(.row 9 nl true),(.map .str 4 (.list [[(.str [40,54,32,48,58,48,58,91,93,123,49,58,97,102,97,108,115,101,40,50,32,48,58,48,58,91,93,123,125,41,125,41,40,54,32,48,58,48,58,91,93,123,49,58,97,102,97,108,115,101,40,52,32,48,58,48,58,91,93,123,125,41,125,41]),(.bool false)]]))] [(.box 0 0),(.agg [(.int .i64 6),(.str []),(.str []),(.lst 29 nl),(.lst 57 l2),(.int .i64 6),(.str []),(.str []),(.lst 29 nl),(.lst 57 l3)])] (Is (.mp 3) [(.box [(.lst 97 nl),(.lst 73 nl),(.row 9 4),(.mp 2)]),.dead,(.map .str 4 (.list [[(.str [40,54,32,48,58,48,58,91,93,123,49,58,97,102,97,108,115,101,40,50,32,48,58,48,58,91,93,123,125,41,125,41,40,54,32,48,58,48,58,91,93,123,49,58,97,102,97,108,115,101,40,52,32,48,58,48,58,91,93,123,125,41,125,41]),(.bool false)]])),(.map .str 3 (.list [[(.str [40,50,32,48,58,48,58,91,93,123,125,41,40,52,32,48,58,48,58,91,93,123,125,41]),(.int 1)],[(.str [40,54,32,48,58,48,58,91,93,123,49,58,97,102,97,108,115,101,40,50,32,48,58,48,58,91,93,123,125,41,125,41,40,54,32,48,58,48,58,91,93,123,49,58,97,102,97,108,115,101,40,52,32,48,58,48,58,91,93,123,125,41,125,41]),(.int 2)]])),(.row 9 nl true)]):=runT (R:=rn5) (by decide +kernel)
noncomputable section
def Tl(f:FuncId)(o:List Ob)(a:List PV):Option { r:PV×List Ob // ∀K:PV->List Ob->Prop,K r.1 r.2->FC Tryz.prog tt f o a K }:=
 match f with
 |56=>oZ o a [⟨_,_,_,_,UZ⟩]
 |f=>Tn f o a
def QS:Sd.Rn Tryz.prog tt:={ PW with PZ:=Tl }
end
set_option maxRecDepth 100000
def X7:FC Tryz.prog tt 8 [] [(.lst 97 nl),(.lst 73 nl),(.lst 60 l8),(.agg [(.int .i64 6),(.str []),(.str []),(.lst 29 nl),(.lst 57 l5)]),(.agg [(.int .i64 6),(.str []),(.str []),(.lst 29 nl),(.lst 57 l1)])] (Is (.bool true) []):=runT (R:=QS) (by decide +kernel)
set_option maxRecDepth 100000
def U8:FC Tryz.prog tt 24 [] [(.lst 97 nl),(.lst 73 nl),(.agg [(.int .i64 6),(.str []),(.str []),(.lst 29 nl),(.lst 57 l2)]),(.agg [(.int .i64 6),(.str []),(.str []),(.lst 29 nl),(.lst 57 l3)])] (Is (.lst 70 l4) []):=runT (R:=QS) (by decide +kernel)
set_option maxRecDepth 100000
def Vc:FC Tryz.prog tt 20 [] [(.lst 97 nl),(.lst 73 nl),(.agg [(.int .i64 6),(.str []),(.str []),(.lst 29 nl),(.lst 57 l2)]),(.agg [(.int .i64 6),(.str []),(.str []),(.lst 29 nl),(.lst 57 l3)])] (Is (.tup [(.lst 50 l7),(.bool true)]) []):=runT (R:=QS) (by decide +kernel)
set_option maxRecDepth 100000
def Va:FC Tryz.prog tt 22 [] [(.lst 97 nl),(.lst 73 nl),(.lst 50 l7),(.agg [(.int .i64 6),(.str []),(.str []),(.lst 29 nl),(.lst 57 l2)]),(.agg [(.int .i64 6),(.str []),(.str []),(.lst 29 nl),(.lst 57 l3)])] (Is (.bool true) []):=runT (R:=QS) (by decide +kernel)
set_option maxRecDepth 100000
def Vd:FC Tryz.prog tt 19 [] [(.lst 60 l8),(.lst 60 l8)] (Is (.bool true) []):=runT (R:=QS) (by decide +kernel)
def U9:FC Tryz.prog tt 23 [] [(.lst 70 l4),(.lst 70 l4)] (Is (.bool true) []):=runT (R:=QS) (by decide +kernel)
def Vb:FC Tryz.prog tt 21 [] [(.lst 50 l7),(.lst 50 l7)] (Is (.bool true) []):=runT (R:=QS) (by decide +kernel)
noncomputable section
def WB(f:FuncId)(o:List Ob)(a:List PV):Option { r:PV×List Ob // ∀K:PV->List Ob->Prop,K r.1 r.2->FC Tryz.prog tt f o a K }:=
 match f with
 |8=>oZ o a [⟨_,_,_,_,X7⟩]
 |24=>oZ o a [⟨_,_,_,_,U8⟩]
 |20=>oZ o a [⟨_,_,_,_,Vc⟩]
 |22=>oZ o a [⟨_,_,_,_,Va⟩]
 |19=>oZ o a [⟨_,_,_,_,Vd⟩]
 |23=>oZ o a [⟨_,_,_,_,U9⟩]
 |21=>oZ o a [⟨_,_,_,_,Vb⟩]
 |f=>Tl f o a
def rn7:Sd.Rn Tryz.prog tt:={ PW with PZ:=WB }
end
set_option maxRecDepth 100000
def O3:FC Tryz.prog tt 5 [] [] (Is (.bool true) []):=runT (R:=rn7) (by decide +kernel)
def UN{K:PV->List Ob->Prop}(h:K (.bool true) []):FC Tryz.prog tt 5 [] [] K:=Is.K O3 K h
end Go.VC.cG.R
