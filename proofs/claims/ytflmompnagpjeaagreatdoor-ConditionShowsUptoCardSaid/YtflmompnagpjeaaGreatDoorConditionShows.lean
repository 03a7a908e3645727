/- For every two environments and every module whose readings together hold at most 1048576 values and letters, the law ConditionShows returns true, and its arguments read afterwards as they read before.
   Conditions: the bound on the reading and the listed tables of Go's library, both as the given statement itself says; no other. -/
import Derived.Test.YtflmompnagpjeaaGreatDoorPart16
set_option linter.all false
set_option maxRecDepth 100000
set_option maxHeartbeats 16000000
open List renaming all_eq_true→dE
open Option.some renaming inj→lF
set_option maxRecDepth 100000
namespace Go.Proofs.YtflmompnagpjeaaGreatDoor
open Go Go.VC Go.VC.cc
open Go.ChangeShapes Go.WideShapes Go.ChangeAt Go.RowKit
attribute [-instance] instDrY
theorem qX:Rows.ConditionShowsUptoSaid:=
 OpenClaim.holds_of_cond 4 Tryz.f4 rfl rfl rfl rfl rfl rfl rfl ⟨rfl,rfl,rfl,rfl,rfl⟩ rfl rfl rfl rfl rfl (by kernel_rfl) Tryz.func4 jF
  (of_decide_eq_true (by kernel_rfl)) (by unfold Func.isWrapper;first|(rw[if_pos (by decide +kernel)];kernel_rfl)|(rw[if_neg (by decide +kernel)];exact⟨rfl,rfl⟩))
  (λos a H enc _ F=>by rw[OpenClaim.pre_eq_preRow];exact Py os a H enc F)
theorem conditionShows_card_holds:Rows.ConditionShowsUptoCardSaid:=
 Claim7.holds_tied_plain_at .later [] [.data,.data,.data,.data,.pinned] true (true, "1318e35d316de67a8666f676d3f2b6c1d3064fa8b07a4a4195c331b6889e204f") false
  qX (λ_ h=>by cases h) (by kernel_rfl) (λ_ h=>by cases h) conditionShowsUpto_row_tie rfl ⟨rfl,rfl⟩ (by kernel_rfl) rfl
  (λf fn hf b=>by
    obtain rfl:f=4:=lF ((show Tryz.prog.funcNamed "modcert/modcertlaw17.ConditionShows" =some 4 by kernel_rfl).symm.trans hf) |>.symm;obtain rfl:fn=Tryz.f4:=(lF (Tryz.func4.symm.trans b)).symm
    exact⟨by kernel_rfl,λj t c=>by
     rw[Tryz.params4]at c;have d:t∈([23,23,9]:List TypeId):=by have:=Array.mem_of_getElem? c;simpa using this
     have a:(([23,23,9]:List TypeId).all λt=> !Tryz.prog.wantsStandIn t)=true:=by kernel_rfl
     have:=dE.1 a t d;exact(show Tryz.prog.wantsStandIn t=false by simpa using this)⟩)
  gB
end Go.Proofs.YtflmompnagpjeaaGreatDoor
