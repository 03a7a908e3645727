/- Part 9 of the common texts: V00. -/
import Derived.Test.YtlpanbeeckdbpaaGreatDoorPart8
set_option linter.all false
set_option maxRecDepth 100000
set_option maxHeartbeats 16000000

section
namespace Go.VC.T07
open Go Go.VC Go.Proofs
set_option maxRecDepth 100000
def nl:D:=.list []
def ns:D:=.str []
def sm:S:=[109,47,118,49]
def s0:S:=[35,48]
def nm:D:=.str [109,47,118,49]
def fldL:D:=.list [[.str [97],.int 9,ns,.str [35,48],nl,nl,.bool false]]
def entL:D:=.list [[.str [78],.list [[.str [35,48],.int 0,.int 0,ns,ns,nl,nl]],.int 1,ns,ns,nl,nl,.int 6,ns,ns,nl,fldL]]
def envD (k:Int):D:=.list [[nm,entL,.list [[.str [118],nl,.int k,ns,ns,nl,nl]],nl,nl]]
noncomputable abbrev runM (R:Sd.Rn Tryz.prog tt) (f:FuncId) (o:List Ob) (a:List PV) (K:PV→List Ob→Prop) (hK:∀ v o,Sd (K v o)):Sd (FC Tryz.prog tt f o a K):=Sd.sdWho tt_ok mixed R 60 (.fn f) o a K hK
theorem runT {R:Sd.Rn Tryz.prog tt} {f:FuncId} {o:List Ob} {a:List PV} {v:PV} {o2:List Ob} (h:(runM R f o a (Is v o2) fun _ _=>inferInstance).b=true):FC Tryz.prog tt f o a (Is v o2):=(runM R f o a (Is v o2) fun _ _=>inferInstance).h h
structure Mem (f:FuncId) where
 o:List Ob
 a:List PV
 v:PV
 o2:List Ob
 h:FC Tryz.prog tt f o a (Is v o2)
noncomputable def tryM {f:FuncId} (o:List Ob) (a:List PV):List (Mem f)→Option { r:PV×List Ob // ∀ K:PV→List Ob→Prop,K r.1 r.2→FC Tryz.prog tt f o a K }
 |[]=>none
 |m::l=>match h:(eqOs o m.o&&eqPs a m.a) with
  |true=>some ⟨(m.v,m.o2),fun K hk=>by
   rw [Bool.and_eq_true] at h
   rw [eqOs_ok h.1,eqPs_ok h.2]
   exact Is.K m.h K hk⟩
  |false=>tryM o a l
end Go.VC.T07
end
