/- For every environment, context and types whose readings together hold at most 1048576 values and letters, the law SubtypeDecides returns true, and its arguments read afterwards as they read before.
   Conditions: the bound on the reading and the listed tables of Go's library, both as the given statement itself says; no other. -/
import Derived.Test.YtefbdgenddbehaaGreatDoorCards
import Derived.Test.YtefbdgenddbehaaGreatDoorTie
import Derived.SevenTiedAt
import Derived.Test.YtefbdgenddbehaaGreatDoorSubtypeDecidesF
import Derived.Test.YtefbdgenddbehaaGreatDoorSubtypeDecidesA
set_option linter.all false
set_option maxRecDepth 100000
set_option maxHeartbeats 16000000
open Array renaming mem_of_getElem?→Iq
open List renaming all_eq_true→dk,length_append→bE,length_cons→bS,length_map→bQ,length_nil→cH,mem_append→bJ,mem_append_left→eu,mem_cons→bP,mem_map→bT,not_mem_nil→mK
open Nat renaming le_trans→bR
open Option renaming map_eq_some_iff→lE
open Option.some renaming inj→fF
open Prod.mk renaming injEq→ey
set_option maxRecDepth 100000
namespace Go.Proofs.YtefbdgenddbehaaGreatDoor
open Go Go.VC Go.VC.cK
open Go.ChangeShapes Go.WideShapes Go.ChangeAt Go.RowKit
theorem qX:Rows.SubtypeDecidesUptoSaid:=
 OpenClaim.holds_of_cond 3 Tryz.f3 rfl rfl rfl rfl rfl rfl rfl ⟨rfl,rfl,rfl,rfl,rfl⟩ rfl rfl rfl rfl rfl (by kernel_rfl) Tryz.func3 jF
  (of_decide_eq_true (by kernel_rfl)) (by unfold Func.isWrapper;first|(rw[if_pos yK];kernel_rfl)|(rw[if_neg yK];exact⟨rfl,rfl⟩))
  (λos a H enc _ F=>by rw[OpenClaim.pre_eq_preRow];exact N0 os a H enc F)
theorem subtypeDecides_card_holds:Rows.SubtypeDecidesUptoCardSaid:=
 Claim7.holds_tied_plain_at .later [] [.data,.data,.data,.data,.pinned] true (true, "b5251eb14e8711e5ecf9c67b457d5b1a5545b9caf4a268e7619b824f81478e39") false
  qX (λ_ h=>yC h) (by kernel_rfl) (λ_ h=>yC h) subtypeDecidesUpto_row_tie rfl ⟨rfl,rfl⟩ (by kernel_rfl) rfl
  (λf fn hf b=>by
    obtain rfl:f=3:=fF ((show Tryz.prog.funcNamed "modcert/modcertlaw09.SubtypeDecides" =some 3 by kernel_rfl).symm.trans hf) |>.symm;obtain rfl:fn=Tryz.f3:=(fF (Tryz.func3.symm.trans b)).symm
    exact⟨by kernel_rfl,λj t c=>by
     rw[Tryz.params3]at c;have d:t∈([23,25,29,29]:List TypeId):=by have:=Iq c;simpa using this
     have a:(([23,25,29,29]:List TypeId).all λt=> !Tryz.prog.wantsStandIn t)=true:=by kernel_rfl
     have:=dk.1 a t d;exact(show Tryz.prog.wantsStandIn t=false by simpa using this)⟩)
  gB
end Go.Proofs.YtefbdgenddbehaaGreatDoor
