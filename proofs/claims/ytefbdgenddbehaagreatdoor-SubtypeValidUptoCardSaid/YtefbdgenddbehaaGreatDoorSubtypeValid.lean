/- For every environment whose readings together hold at most 1048576 values and letters, the law SubtypeValid returns true, and its arguments read afterwards as they read before.
   Conditions: the bound on the reading and the listed tables of Go's library, both as the given statement itself says; no other. -/
import Derived.Test.YtefbdgenddbehaaGreatDoorCards
import Derived.Test.YtefbdgenddbehaaGreatDoorTie
import Derived.SevenTiedAt
import Derived.Test.YtefbdgenddbehaaGreatDoorSubtypeValidF
import Derived.Test.YtefbdgenddbehaaGreatDoorSubtypeValidA
set_option linter.all false
set_option maxRecDepth 100000
set_option maxHeartbeats 16000000
open Array renaming mem_of_getElem?→Iq
open List renaming all_eq_true→dk,mem_append_left→eu
open Nat renaming le_trans→bR
open Option renaming map_eq_some_iff→lE
open Option.some renaming inj→fF
open Prod.mk renaming injEq→ey
set_option maxRecDepth 100000
namespace Go.Proofs.YtefbdgenddbehaaGreatDoor
open Go Go.VC Go.VC.cK
open Go.ChangeShapes Go.WideShapes Go.ChangeAt Go.RowKit
theorem tw:Rows.SubtypeValidUptoSaid:=
 OpenClaim.holds_of_cond 4 Tryz.f4 rfl rfl rfl rfl rfl rfl rfl ⟨rfl,rfl,rfl,rfl,rfl⟩ rfl rfl rfl rfl rfl (by kernel_rfl) Tryz.func4 jF
  (of_decide_eq_true (by kernel_rfl)) (by unfold Func.isWrapper;first|(rw[if_pos yK];kernel_rfl)|(rw[if_neg yK];exact⟨rfl,rfl⟩))
  (λos a H enc _ F=>by rw[OpenClaim.pre_eq_preRow];exact NZ os a H enc F)
theorem subtypeValid_card_holds:Rows.SubtypeValidUptoCardSaid:=
 Claim7.holds_tied_plain_at .later [] [.data,.data,.data,.data,.pinned] true (true, "b5251eb14e8711e5ecf9c67b457d5b1a5545b9caf4a268e7619b824f81478e39") false
  tw (λ_ h=>yC h) (by kernel_rfl) (λ_ h=>yC h) subtypeValidUpto_row_tie rfl ⟨rfl,rfl⟩ (by kernel_rfl) rfl
  (λf fn hf b=>by
    obtain rfl:f=4:=fF ((show Tryz.prog.funcNamed "modcert/modcertlaw09.SubtypeValid" =some 4 by kernel_rfl).symm.trans hf) |>.symm;obtain rfl:fn=Tryz.f4:=(fF (Tryz.func4.symm.trans b)).symm
    exact⟨by kernel_rfl,λj t c=>by
     rw[Tryz.params4]at c;have d:t∈([23]:List TypeId):=by have:=Iq c;simpa using this
     have a:(([23]:List TypeId).all λt=> !Tryz.prog.wantsStandIn t)=true:=by kernel_rfl
     have:=dk.1 a t d;exact(show Tryz.prog.wantsStandIn t=false by simpa using this)⟩)
  gB
end Go.Proofs.YtefbdgenddbehaaGreatDoor
