/- Part 13 of the common texts. -/
import Derived.Test.YtflmompnagpjeaaGreatDoorPart12
set_option linter.all false
set_option maxRecDepth 100000
set_option maxHeartbeats 16000000
namespace Go.VC.cc.R
open Go Go.VC Go.Proofs
set_option maxRecDepth 100000
def Wl:FC Tryz.prog tt 64 [] [(.lst 97 l10),(.lst 73 l5)] (Is (.box 0 0) [(.box [(.lst 97 l10),(.lst 73 l5),(.row 9 1),(.mp 2)]),(.row 9 l0 true),(.map .str 4 nl)]):=runT (R:=XJ) (by decide +kernel)
set_option maxRecDepth 100000
def Wk:FC Tryz.prog tt 64 [] [(.lst 97 l10),(.lst 73 nl)] (Is (.box 0 0) [(.box [(.lst 97 l10),(.lst 73 nl),(.row 9 1),(.mp 2)]),(.row 9 nl true),(.map .str 4 nl)]):=runT (R:=XJ) (by decide +kernel)
set_option maxRecDepth 100000
def Wj:FC Tryz.prog tt 64 [(.row 97 l10 true)] [(.row 97 0),(.lst 73 nl)] (Is (.box 1 0) [(.row 97 l10 true),(.box [(.row 97 0),(.lst 73 nl),(.row 9 2),(.mp 3)]),(.row 9 nl true),(.map .str 4 nl)]):=runT (R:=XJ) (by decide +kernel)
set_option maxRecDepth 100000
def Wi:FC Tryz.prog tt 64 [] [(.lst 97 Bx),(.lst 73 nl)] (Is (.box 0 0) [(.box [(.lst 97 Bx),(.lst 73 nl),(.row 9 1),(.mp 2)]),(.row 9 nl true),(.map .str 4 nl)]):=runT (R:=XJ) (by decide +kernel)
noncomputable section
def Uy(f:FuncId)(o:List Ob)(a:List PV):Option { r:PV×List Ob // ∀K:PV->List Ob->Prop,K r.1 r.2->FC Tryz.prog tt f o a K }:=
 match f with
 |64=>nJ o a [⟨_,_,_,_,Wl⟩,⟨_,_,_,_,Wk⟩,⟨_,_,_,_,Wj⟩,⟨_,_,_,_,Wi⟩]
 |f=>Uz f o a
def KX:Sd.Rn Tryz.prog tt:={ Oi with Oj:=Uy }
end
set_option maxRecDepth 100000
def V7:FC Tryz.prog tt 92 [] [(.lst 97 l10),(.lst 73 l5),(.agg [(.int .i64 10),(.str [109,47,118,49]),(.str [78]),(.lst 29 l2),(.lst 57 nl)]),(.agg [(.int .i64 6),(.str []),(.str []),(.lst 29 nl),(.lst 57 l7)])] (Is (.bool true) []):=runT (R:=KX) (by decide +kernel)
set_option maxRecDepth 100000
def V6:FC Tryz.prog tt 92 [] [(.lst 97 l10),(.lst 73 l5),(.agg [(.int .i64 1),(.str []),(.str []),(.lst 29 nl),(.lst 57 nl)]),(.agg [(.int .i64 10),(.str [109,47,118,49]),(.str [78]),(.lst 29 l2),(.lst 57 nl)])] (Is (.bool true) []):=runT (R:=KX) (by decide +kernel)
set_option maxRecDepth 100000
def V5:FC Tryz.prog tt 92 [] [(.lst 97 l10),(.lst 73 nl),(.agg [(.int .i64 2),(.str []),(.str []),(.lst 29 nl),(.lst 57 nl)]),(.agg [(.int .i64 2),(.str []),(.str []),(.lst 29 nl),(.lst 57 nl)])] (Is (.bool true) []):=runT (R:=KX) (by decide +kernel)
set_option maxRecDepth 100000
def V4:FC Tryz.prog tt 92 [] [(.lst 97 Bx),(.lst 73 nl),(.agg [(.int .i64 2),(.str []),(.str []),(.lst 29 nl),(.lst 57 nl)]),(.agg [(.int .i64 2),(.str []),(.str []),(.lst 29 nl),(.lst 57 nl)])] (Is (.bool true) []):=runT (R:=KX) (by decide +kernel)
set_option maxRecDepth 100000
def WA:FC Tryz.prog tt 28 [] [(.lst 97 l10),(.lst 73 l5),(.agg [(.int .i64 10),(.str [109,47,118,49]),(.str [78]),(.lst 29 l2),(.lst 57 nl)]),(.agg [(.int .i64 6),(.str []),(.str []),(.lst 29 nl),(.lst 57 l7)])] (Is (.tup [(.box 0 0),(.agg [(.int .i64 10),(.str [109,47,118,49]),(.str [78]),(.lst 29 l2),(.lst 57 nl),(.int .i64 6),(.str []),(.str []),(.lst 29 nl),(.lst 57 l7)])]) [(.box [(.lst 97 l10),(.lst 73 l5),(.row 9 1),(.mp 2)]),(.row 9 l0 true),(.map .str 4 nl)]):=runT (R:=KX) (by decide +kernel)
set_option maxRecDepth 100000
def Wz:FC Tryz.prog tt 28 [] [(.lst 97 l10),(.lst 73 l5),(.agg [(.int .i64 1),(.str []),(.str []),(.lst 29 nl),(.lst 57 nl)]),(.agg [(.int .i64 10),(.str [109,47,118,49]),(.str [78]),(.lst 29 l2),(.lst 57 nl)])] (Is (.tup [(.box 0 0),(.agg [(.int .i64 1),(.str []),(.str []),(.lst 29 nl),(.lst 57 nl),(.int .i64 10),(.str [109,47,118,49]),(.str [78]),(.lst 29 l2),(.lst 57 nl)])]) [(.box [(.lst 97 l10),(.lst 73 l5),(.row 9 1),(.mp 2)]),(.row 9 l0 true),(.map .str 4 nl)]):=runT (R:=KX) (by decide +kernel)
set_option maxRecDepth 100000
def Wy:FC Tryz.prog tt 28 [] [(.lst 97 l10),(.lst 73 nl),(.agg [(.int .i64 2),(.str []),(.str []),(.lst 29 nl),(.lst 57 nl)]),(.agg [(.int .i64 2),(.str []),(.str []),(.lst 29 nl),(.lst 57 nl)])] (Is (.tup [(.box 0 0),(.agg [(.int .i64 2),(.str []),(.str []),(.lst 29 nl),(.lst 57 nl),(.int .i64 2),(.str []),(.str []),(.lst 29 nl),(.lst 57 nl)])]) [(.box [(.lst 97 l10),(.lst 73 nl),(.row 9 1),(.mp 2)]),(.row 9 nl true),(.map .str 4 nl)]):=runT (R:=KX) (by decide +kernel)
set_option maxRecDepth 100000
def Wx:FC Tryz.prog tt 28 [(.row 97 l10 true)] [(.row 97 0),(.lst 73 nl),(.agg [(.int .i64 2),(.str []),(.str []),(.lst 29 nl),(.lst 57 nl)]),(.agg [(.int .i64 2),(.str []),(.str []),(.lst 29 nl),(.lst 57 nl)])] (Is (.tup [(.box 1 0),(.agg [(.int .i64 2),(.str []),(.str []),(.lst 29 nl),(.lst 57 nl),(.int .i64 2),(.str []),(.str []),(.lst 29 nl),(.lst 57 nl)])]) [(.row 97 l10 true),(.box [(.row 97 0),(.lst 73 nl),(.row 9 2),(.mp 3)]),(.row 9 nl true),(.map .str 4 nl)]):=runT (R:=KX) (by decide +kernel)
set_option maxRecDepth 100000
def Ww:FC Tryz.prog tt 28 [] [(.lst 97 Bx),(.lst 73 nl),(.agg [(.int .i64 2),(.str []),(.str []),(.lst 29 nl),(.lst 57 nl)]),(.agg [(.int .i64 2),(.str []),(.str []),(.lst 29 nl),(.lst 57 nl)])] (Is (.tup [(.box 0 0),(.agg [(.int .i64 2),(.str []),(.str []),(.lst 29 nl),(.lst 57 nl),(.int .i64 2),(.str []),(.str []),(.lst 29 nl),(.lst 57 nl)])]) [(.box [(.lst 97 Bx),(.lst 73 nl),(.row 9 1),(.mp 2)]),(.row 9 nl true),(.map .str 4 nl)]):=runT (R:=KX) (by decide +kernel)
set_option maxRecDepth 100000
def Wv:FC Tryz.prog tt 28 [] [(.lst 97 Bx),(.lst 73 nl),(.agg [(.int .i64 4),(.str []),(.str []),(.lst 29 nl),(.lst 57 nl)]),(.agg [(.int .i64 2),(.str []),(.str []),(.lst 29 nl),(.lst 57 nl)])] (Is (.tup [(.box 0 0),(.agg [(.int .i64 4),(.str []),(.str []),(.lst 29 nl),(.lst 57 nl),(.int .i64 2),(.str []),(.str []),(.lst 29 nl),(.lst 57 nl)])]) [(.box [(.lst 97 Bx),(.lst 73 nl),(.row 9 1),(.mp 2)]),(.row 9 nl true),(.map .str 4 nl)]):=runT (R:=KX) (by decide +kernel)
set_option maxRecDepth 100000
def aal:FC Tryz.prog tt 8 [] [(.lst 97 l10),(.lst 73 nl),(.lst 60 l8),(.agg [(.int .i64 2),(.str []),(.str []),(.lst 29 nl),(.lst 57 nl)]),(.agg [(.int .i64 2),(.str []),(.str []),(.lst 29 nl),(.lst 57 nl)])] (Is (.bool true) []):=runT (R:=KX) (by decide +kernel)
set_option maxRecDepth 100000
def aak:FC Tryz.prog tt 8 [] [(.lst 97 Bx),(.lst 73 nl),(.lst 60 l8),(.agg [(.int .i64 4),(.str []),(.str []),(.lst 29 nl),(.lst 57 nl)]),(.agg [(.int .i64 2),(.str []),(.str []),(.lst 29 nl),(.lst 57 nl)])] (Is (.bool false) []):=runT (R:=KX) (by decide +kernel)
noncomputable section
def Ux(f:FuncId)(o:List Ob)(a:List PV):Option { r:PV×List Ob // ∀K:PV->List Ob->Prop,K r.1 r.2->FC Tryz.prog tt f o a K }:=
 match f with
 |92=>nJ o a [⟨_,_,_,_,V7⟩,⟨_,_,_,_,V6⟩,⟨_,_,_,_,V5⟩,⟨_,_,_,_,V4⟩]
 |28=>nJ o a [⟨_,_,_,_,WA⟩,⟨_,_,_,_,Wz⟩,⟨_,_,_,_,Wy⟩,⟨_,_,_,_,Wx⟩,⟨_,_,_,_,Ww⟩,⟨_,_,_,_,Wv⟩]
 |8=>nJ o a [⟨_,_,_,_,aal⟩,⟨_,_,_,_,aak⟩]
 |f=>Uy f o a
def Uq:Sd.Rn Tryz.prog tt:={ Oi with Oj:=Ux }
end
set_option maxRecDepth 100000
def aaq:FC Tryz.prog tt 7 [] [(.lst 97 l10),(.lst 73 l5),(.agg [(.int .i64 10),(.str [109,47,118,49]),(.str [78]),(.lst 29 l2),(.lst 57 nl)]),(.agg [(.int .i64 6),(.str []),(.str []),(.lst 29 nl),(.lst 57 l7)])] (Is (.tup [(.lst 60 (.list [[(.int 4),(.int 10),(.str [109,47,118,49]),(.str [78]),l2,nl,(.int 6),(.str []),(.str []),nl,l7],[(.int 2),(.int 6),(.str []),(.str []),nl,l7,(.int 6),(.str []),(.str []),nl,l7],[(.int 1),(.int 9),(.str []),(.str [35,48]),nl,nl,(.int 9),(.str []),(.str [35,48]),nl,nl]])),(.bool true)]) []):=runT (R:=Uq) (by decide +kernel)
set_option maxRecDepth 100000
def aap:FC Tryz.prog tt 7 [] [(.lst 97 l10),(.lst 73 l5),(.agg [(.int .i64 1),(.str []),(.str []),(.lst 29 nl),(.lst 57 nl)]),(.agg [(.int .i64 10),(.str [109,47,118,49]),(.str [78]),(.lst 29 l2),(.lst 57 nl)])] (Is (.tup [(.lst 60 (.list [[(.int 1),(.int 1),(.str []),(.str []),nl,nl,(.int 10),(.str [109,47,118,49]),(.str [78]),l2,nl]])),(.bool true)]) []):=runT (R:=Uq) (by decide +kernel)
set_option maxRecDepth 100000
def aao:FC Tryz.prog tt 7 [] [(.lst 97 l10),(.lst 73 nl),(.agg [(.int .i64 2),(.str []),(.str []),(.lst 29 nl),(.lst 57 nl)]),(.agg [(.int .i64 2),(.str []),(.str []),(.lst 29 nl),(.lst 57 nl)])] (Is (.tup [(.lst 60 l8),(.bool true)]) []):=runT (R:=Uq) (by decide +kernel)
set_option maxRecDepth 100000
def aan:FC Tryz.prog tt 7 [(.row 97 l10 true)] [(.row 97 0),(.lst 73 nl),(.agg [(.int .i64 2),(.str []),(.str []),(.lst 29 nl),(.lst 57 nl)]),(.agg [(.int .i64 2),(.str []),(.str []),(.lst 29 nl),(.lst 57 nl)])] (Is (.tup [(.row 60 1),(.bool true)]) [(.row 97 l10 true),(.row 60 l8 true)]):=runT (R:=Uq) (by decide +kernel)
set_option maxRecDepth 100000
def aam:FC Tryz.prog tt 7 [] [(.lst 97 Bx),(.lst 73 nl),(.agg [(.int .i64 4),(.str []),(.str []),(.lst 29 nl),(.lst 57 nl)]),(.agg [(.int .i64 2),(.str []),(.str []),(.lst 29 nl),(.lst 57 nl)])] (Is (.tup [(.lst 60 nl),(.bool false)]) []):=runT (R:=Uq) (by decide +kernel)
noncomputable section
def Uw(f:FuncId)(o:List Ob)(a:List PV):Option { r:PV×List Ob // ∀K:PV->List Ob->Prop,K r.1 r.2->FC Tryz.prog tt f o a K }:=
 match f with
 |7=>nJ o a [⟨_,_,_,_,aaq⟩,⟨_,_,_,_,aap⟩,⟨_,_,_,_,aao⟩,⟨_,_,_,_,aan⟩,⟨_,_,_,_,aam⟩]
 |f=>Ux f o a
def LW:Sd.Rn Tryz.prog tt:={ Oi with Oj:=Uw }
end
set_option maxRecDepth 100000
def WQ:FC Tryz.prog tt 13 [] [(.lst 97 l10),(.agg [(.int .i64 0),(.str [109,47,118,49]),(.str []),(.int .i64 0),(.lst 73 nl),(.int .i64 0),(.str []),(.str []),(.lst 29 nl),(.lst 57 nl),(.int .i64 0),(.str []),(.str []),(.lst 29 nl),(.lst 57 nl)])] (Is (.tup [(.lst 73 nl),(.lst 50 nl),(.bool true)]) []):=runT (R:=LW) (by decide +kernel)
set_option maxRecDepth 100000
def WO:FC Tryz.prog tt 13 [] [(.lst 97 l10),(.agg [(.int .i64 1),(.str [109,47,118,49]),(.str [78]),(.int .i64 0),(.lst 73 l5),(.int .i64 0),(.str []),(.str []),(.lst 29 nl),(.lst 57 nl),(.int .i64 0),(.str []),(.str []),(.lst 29 nl),(.lst 57 nl)])] (Is (.tup [(.lst 73 l5),(.lst 50 nl),(.bool true)]) []):=runT (R:=LW) (by decide +kernel)
set_option maxRecDepth 100000
def WN:FC Tryz.prog tt 13 [] [(.lst 97 l10),(.agg [(.int .i64 2),(.str [109,47,118,49]),(.str [78]),(.int .i64 0),(.lst 73 l5),(.int .i64 0),(.str []),(.str []),(.lst 29 nl),(.lst 57 nl),(.int .i64 0),(.str []),(.str []),(.lst 29 nl),(.lst 57 nl)])] (Is (.tup [(.lst 73 l5),(.lst 50 nl),(.bool true)]) []):=runT (R:=LW) (by decide +kernel)
set_option maxRecDepth 100000
def WM:FC Tryz.prog tt 13 [] [(.lst 97 l10),(.agg [(.int .i64 3),(.str [109,47,118,49]),(.str [78]),(.int .i64 0),(.lst 73 l5),(.int .i64 10),(.str [109,47,118,49]),(.str [78]),(.lst 29 l2),(.lst 57 nl),(.int .i64 6),(.str []),(.str []),(.lst 29 nl),(.lst 57 l7)])] (Is (.tup [(.lst 73 l5),(.lst 50 (.list [[(.int 10),(.str [109,47,118,49]),(.str [78]),l2,nl,(.int 6),(.str []),(.str []),nl,l7]])),(.bool true)]) []):=runT (R:=LW) (by decide +kernel)
set_option maxRecDepth 100000
def WL:FC Tryz.prog tt 13 [] [(.lst 97 l10),(.agg [(.int .i64 4),(.str [109,47,118,49]),(.str [78]),(.int .i64 0),(.lst 73 l5),(.int .i64 1),(.str []),(.str []),(.lst 29 nl),(.lst 57 nl),(.int .i64 10),(.str [109,47,118,49]),(.str [78]),(.lst 29 l2),(.lst 57 nl)])] (Is (.tup [(.lst 73 l5),(.lst 50 (.list [[(.int 1),(.str []),(.str []),nl,nl,(.int 10),(.str [109,47,118,49]),(.str [78]),l2,nl]])),(.bool true)]) []):=runT (R:=LW) (by decide +kernel)
set_option maxRecDepth 100000
def WK:FC Tryz.prog tt 13 [] [(.lst 97 l10),(.agg [(.int .i64 7),(.str [109,47,118,49]),(.str [118]),(.int .i64 0),(.lst 73 nl),(.int .i64 0),(.str []),(.str []),(.lst 29 nl),(.lst 57 nl),(.int .i64 0),(.str []),(.str []),(.lst 29 nl),(.lst 57 nl)])] (Is (.tup [(.lst 73 nl),(.lst 50 nl),(.bool true)]) []):=runT (R:=LW) (by decide +kernel)
set_option maxRecDepth 100000
def WJ:FC Tryz.prog tt 13 [] [(.lst 97 l10),(.agg [(.int .i64 8),(.str [109,47,118,49]),(.str [118]),(.int .i64 0),(.lst 73 nl),(.int .i64 0),(.str []),(.str []),(.lst 29 nl),(.lst 57 nl),(.int .i64 2),(.str []),(.str []),(.lst 29 nl),(.lst 57 nl)])] (Is (.tup [(.lst 73 nl),(.lst 50 (.list [[(.int 2),(.str []),(.str []),nl,nl,(.int 2),(.str []),(.str []),nl,nl]])),(.bool true)]) []):=runT (R:=LW) (by decide +kernel)
set_option maxRecDepth 100000
def WI:FC Tryz.prog tt 13 [(.row 97 l10 true)] [(.row 97 0),(.agg [(.int .i64 8),(.str [109,47,118,49]),(.str [118]),(.int .i64 0),(.lst 73 nl),(.int .i64 0),(.str []),(.str []),(.lst 29 nl),(.lst 57 nl),(.int .i64 2),(.str []),(.str []),(.lst 29 nl),(.lst 57 nl)])] (Is (.tup [(.lst 73 nl),(.row 50 1),(.bool true)]) [(.row 97 l10 true),(.row 50 (.list [[(.int 2),(.str []),(.str []),nl,nl,(.int 2),(.str []),(.str []),nl,nl]]) true)]):=runT (R:=LW) (by decide +kernel)
set_option maxRecDepth 100000
def WH:FC Tryz.prog tt 13 [] [(.lst 97 Bx),(.agg [(.int .i64 8),(.str [109,47,118,49]),(.str [118]),(.int .i64 0),(.lst 73 nl),(.int .i64 0),(.str []),(.str []),(.lst 29 nl),(.lst 57 nl),(.int .i64 2),(.str []),(.str []),(.lst 29 nl),(.lst 57 nl)])] (Is (.tup [(.lst 73 nl),(.lst 50 (.list [[(.int 4),(.str []),(.str []),nl,nl,(.int 2),(.str []),(.str []),nl,nl]])),(.bool true)]) []):=runT (R:=LW) (by decide +kernel)
set_option maxRecDepth 100000
def WG:FC Tryz.prog tt 13 [] [(.lst 97 Bx),(.agg [(.int .i64 7),(.str [109,47,118,49]),(.str [118]),(.int .i64 0),(.lst 73 nl),(.int .i64 0),(.str []),(.str []),(.lst 29 nl),(.lst 57 nl),(.int .i64 0),(.str []),(.str []),(.lst 29 nl),(.lst 57 nl)])] (Is (.tup [(.lst 73 nl),(.lst 50 nl),(.bool true)]) []):=runT (R:=LW) (by decide +kernel)
set_option maxRecDepth 100000
def Wq:FC Tryz.prog tt 42 [(.row 97 l10 true)] [(.row 97 0),(.str [109,47,118,49]),(.str [])] (Is (.tup [(.row 45 1),(.int .i64 0)]) [(.row 97 l10 true),(.row 45 (.list [[(.int 0),(.str [109,47,118,49]),(.str []),(.int 0),nl,(.int 0),(.str []),(.str []),nl,nl,(.int 0),(.str []),(.str []),nl,nl]]) true)]):=runT (R:=LW) (by decide +kernel)
noncomputable section
def Ye(f:FuncId)(o:List Ob)(a:List PV):Option { r:PV×List Ob // ∀K:PV->List Ob->Prop,K r.1 r.2->FC Tryz.prog tt f o a K }:=
 match f with
 |13=>nJ o a [⟨_,_,_,_,WQ⟩,⟨_,_,_,_,WO⟩,⟨_,_,_,_,WN⟩,⟨_,_,_,_,WM⟩,⟨_,_,_,_,WL⟩,⟨_,_,_,_,WK⟩,⟨_,_,_,_,WJ⟩,⟨_,_,_,_,WI⟩,⟨_,_,_,_,WH⟩,⟨_,_,_,_,WG⟩]
 |42=>nJ o a [⟨_,_,_,_,Wq⟩]
 |f=>Uw f o a
def rn9:Sd.Rn Tryz.prog tt:={ Oi with Oj:=Ye }
end
set_option maxRecDepth 100000
def Qc:FC Tryz.prog tt 9 [] [] (Is (.bool true) []):=runT (R:=rn9) (by decide +kernel)
def V2{K:PV->List Ob->Prop}(h:K (.bool true) []):FC Tryz.prog tt 9 [] [] K:=Is.K Qc K h
end Go.VC.cc.R
