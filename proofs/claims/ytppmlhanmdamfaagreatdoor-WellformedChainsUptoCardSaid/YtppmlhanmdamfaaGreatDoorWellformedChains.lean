/- For every environment whose readings together hold at most 1048576 values and letters, the law WellformedChains returns true, and its arguments read afterwards as they read before.
   Conditions: the bound on the reading and the listed tables of Go's library, both as the given statement itself says; no other. -/
import Derived.Test.YtppmlhanmdamfaaGreatDoorCards
import Derived.Test.YtppmlhanmdamfaaGreatDoorTie
import Derived.SevenTiedAt
import Derived.Test.YtppmlhanmdamfaaGreatDoorPart1
import Derived.Test.YtppmlhanmdamfaaGreatDoorPart2
import Derived.Test.YtppmlhanmdamfaaGreatDoorPart3
import Derived.Test.YtppmlhanmdamfaaGreatDoorPart4
import Derived.Test.YtppmlhanmdamfaaGreatDoorPart5
import Derived.Test.YtppmlhanmdamfaaGreatDoorPart6
import Derived.Test.YtppmlhanmdamfaaGreatDoorPart7
namespace Go.Proofs.YtppmlhanmdamfaaGreatDoor
open Go Go.VC Go.VC.T07
open Go.ChangeShapes Go.WideShapes Go.ChangeAt Go.RowKit

set_option maxRecDepth 100000 in
theorem contract5 (H : Type) (enc : TypeId × Value → H) (W : World) (base : Nat) (args : Array Value) (ds gs : List (DataW H)) (before : List MemPlace)
    (hval : ∀ (j : Nat) t v, Tryz.f5.params[j]? = some t → args[j]? = some v → Value.okWide Tryz.prog W .any base t v)
    (hW : DataW.Whole enc Tryz.prog Tryz.f5.params.toList Rows.wellformedChainsSpec.vars false W args.toList ds gs before) (hk : Rows.uptoSmall H (ds ++ gs) = true) (hsh : W.ShapedOpen Tryz.prog) :
    Calls Tryz.prog 5 args W fun e W' => ∃ v, e = .returned v ∧ Rows.wellformedChainsSpec.post enc Tryz.prog Tryz.f5 false true false false W args v W' := by
  have hW' := hW
  obtain ⟨p, q, hA0, hV, rfl, hfz, hnd⟩ := hW
  have hA : DataW.TrodAll enc Tryz.prog W 0 (fun _ => true) true Tryz.f5.params.toList args.toList ds p := hA0
  rw [Tryz.params5] at hA hval
  obtain ⟨v0, d0, rfl, rfl, h0⟩ := trodAll_one hA
  have hbk : Rows.uptoBulkAll ([d0] ++ gs) ≤ 1048576 := of_decide_eq_true hk
  have hb : ∀ d ∈ [d0], Rows.uptoBulk d ≤ 1048576 := fun d hd => Nat.le_trans (Bk.part_le (List.mem_append_left _ hd)) hbk
  obtain ⟨e0, l0, w0, a0e, a0o, a0f, a0w⟩ := argE rfl (hval 0 _ v0 rfl rfl) h0 (hb d0 (by simp))
  exact law_post (tb := 4) (c := _) hW' rfl laid (by rw [Tryz.params5]; exact of_decide_eq_true (by kernel_rfl)) (by kernel_rfl) Tryz.underlying4 ⟨rfl, rfl, rfl⟩ ⟨Tryz.func5, by rfl, rfl⟩
    (.cons _ _ _ _ w0 .nil) (globs hsh)
    (F5 a0e a0o a0f (Nat.le_trans a0w (by decide)) rfl)

theorem witness_row5 (os : Os) {H : Type} (enc : TypeId × Value → H) :
    (Rows.OpenSpec.upto Rows.wellformedChainsSpec).preRow enc Tryz.prog Tryz.f5 Rows.wellformedChainsUptoRow.domain false Rows.wellformedChainsUptoRow.laid ((laidWorld os).forCall (fun _ _ => 0) ⟨#[], #[.slice none 0 0], []⟩).memory #[.slice none 0 0] := by
  have hw : (DataW.whole enc Tryz.prog ((laidWorld os).forCall (fun _ _ => 0) ⟨#[], #[.slice none 0 0], []⟩).memory Tryz.f5.params.toList (Rows.OpenSpec.upto Rows.wellformedChainsSpec).vars false (#[.slice none 0 0] : Array Value).toList 8).map (fun x => (x.1, x.2.1)) =
      some ([.nil], []) := by kernel_rfl
  obtain ⟨⟨x1, x2, x3⟩, hx, hx1⟩ := Option.map_eq_some_iff.1 hw
  simp only [Prod.mk.injEq] at hx1
  obtain ⟨rfl, rfl⟩ := hx1
  exact OpenSpec.preRow_of_cond 8 hx (by kernel_rfl) (fun k hk => by cases hk; rfl) (by kernel_rfl) (laid_met os _)

set_option maxRecDepth 100000 in
theorem lifted5 (os : Os) (started : os.Started) (H : Type) (enc : TypeId × Value → H) (F : Stop.Interp) :
    ReturnsInHanded {} Tryz.checked os 5 .any ((Rows.OpenSpec.upto Rows.wellformedChainsSpec).preRow enc Tryz.prog Tryz.f5 Rows.wellformedChainsUptoRow.domain false Rows.wellformedChainsUptoRow.laid) (((Rows.OpenSpec.upto Rows.wellformedChainsSpec).at F).post enc Tryz.prog Tryz.f5 false true false false) := by
  refine returnsInHanded_of_row (C := Tryz.checked) (s := Rows.OpenSpec.upto Rows.wellformedChainsSpec) own started (by kernel_rfl) Tryz.func5
    (witness_row_atRef (enc := enc) (C := Tryz.checked) false (laidWorld os) #[.slice none 0 0] rfl (by kernel_rfl) (by kernel_rfl) (by kernel_rfl) (witness_row5 os enc)) ?_
  intro W base args ds gs before hval hW _ hk _ _ hsh _
  exact contract5 H enc W base args ds gs before hval hW (hk _ rfl) hsh

theorem wellformedChains_holds : Rows.WellformedChainsUptoSaid :=
  OpenClaim.holds_of_cond 5 Tryz.f5 rfl rfl rfl rfl rfl rfl rfl ⟨rfl, rfl, rfl, rfl, rfl⟩ rfl rfl rfl rfl rfl (by kernel_rfl) Tryz.func5 (by kernel_rfl)
    (of_decide_eq_true (by kernel_rfl)) (by unfold Func.isWrapper; first | (rw [if_pos (by decide +kernel)]; kernel_rfl) | (rw [if_neg (by decide +kernel)]; exact ⟨rfl, rfl⟩))
    (fun os started H enc _ F => by rw [OpenClaim.pre_eq_preRow]; exact lifted5 os started H enc F)

theorem wellformedChains_card_holds : Rows.WellformedChainsUptoCardSaid :=
  Claim7.holds_tied_plain_at .later [] [.data, .data, .data, .data, .pinned] true (true, "c46f4983d80ff8c12a4ec6fe7daddba5c68a7862346d4c10149d4eca047f82ac") false
    wellformedChains_holds (fun _ h => by cases h) (by kernel_rfl) (fun _ h => by cases h) wellformedChainsUpto_row_tie rfl ⟨rfl, rfl⟩ (by kernel_rfl) rfl
    (fun f fn hf hfn => by
      obtain rfl : f = 5 := Option.some.inj ((show Tryz.prog.funcNamed "modcert/modcertlaw08.WellformedChains" = some 5 by kernel_rfl).symm.trans hf) |>.symm
      obtain rfl : fn = Tryz.f5 := (Option.some.inj (Tryz.func5.symm.trans hfn)).symm
      exact ⟨by kernel_rfl, fun j t ht => by
        rw [Tryz.params5] at ht
        have hm : t ∈ ([23] : List TypeId) := by
          have := Array.mem_of_getElem? ht
          simpa using this
        have hall : (([23] : List TypeId).all fun t => !Tryz.prog.wantsStandIn t) = true := by kernel_rfl
        have := List.all_eq_true.1 hall t hm
        exact (show Tryz.prog.wantsStandIn t = false by simpa using this)⟩)
    (by kernel_rfl)
end Go.Proofs.YtppmlhanmdamfaaGreatDoor
