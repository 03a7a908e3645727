/- For every list of changes whose readings together hold at most 1048576 values and letters, the law DiffLists returns true, and its arguments read afterwards as they read before.
   Conditions: the bound on the reading and the listed tables of Go's library, both as the given statement itself says; no other. -/
import Derived.Test.YtlpanbeeckdbpaaGreatDoorDiffListsA
import Derived.Test.YtlpanbeeckdbpaaGreatDoorDiffListsF
set_option linter.all false
set_option maxRecDepth 100000
set_option maxHeartbeats 16000000
set_option maxRecDepth 100000
namespace Go.Proofs.YtlpanbeeckdbpaaGreatDoor
open Go Go.VC Go.VC.T07
open Go.ChangeShapes Go.WideShapes Go.ChangeAt Go.RowKit

theorem diffLists_holds : Rows.DiffListsUptoSaid :=
  OpenClaim.holds_of_cond 4 Tryz.f4 rfl rfl rfl rfl rfl rfl rfl ⟨rfl, rfl, rfl, rfl, rfl⟩ rfl rfl rfl rfl rfl (by kernel_rfl) Tryz.func4 jF
    (of_decide_eq_true (by kernel_rfl)) (by unfold Func.isWrapper; first | (rw [if_pos (by decide +kernel)]; kernel_rfl) | (rw [if_neg (by decide +kernel)]; exact ⟨rfl, rfl⟩))
    (fun os started H enc _ F => by rw [OpenClaim.pre_eq_preRow]; exact lifted4 os started H enc F)

theorem diffLists_card_holds : Rows.DiffListsUptoCardSaid :=
  Claim7.holds_tied_plain_at .later [] [.data, .data, .data, .data, .listed, .data, .pinned] true (true, "6a8ffabead83f5d4a754420ba49ac911594b330b14361c83e13e2dea099df50f") false
    diffLists_holds (fun _ h => by cases h) (by kernel_rfl) (fun _ h => by cases h) diffListsUpto_row_tie rfl ⟨rfl, rfl⟩ (by kernel_rfl) rfl
    (fun f fn hf hfn => by
      obtain rfl : f = 4 := Option.some.inj ((show Tryz.prog.funcNamed "modcert/modcertlaw19.DiffLists" = some 4 by kernel_rfl).symm.trans hf) |>.symm
      obtain rfl : fn = Tryz.f4 := (Option.some.inj (Tryz.func4.symm.trans hfn)).symm
      exact ⟨by kernel_rfl, fun j t ht => by
        rw [Tryz.params4] at ht
        have hm : t ∈ ([32] : List TypeId) := by
          have := Array.mem_of_getElem? ht
          simpa using this
        have hall : (([32] : List TypeId).all fun t => !Tryz.prog.wantsStandIn t) = true := by kernel_rfl
        have := List.all_eq_true.1 hall t hm
        exact (show Tryz.prog.wantsStandIn t = false by simpa using this)⟩)
    gB
end Go.Proofs.YtlpanbeeckdbpaaGreatDoor
