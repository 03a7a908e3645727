/- For every environment and path whose readings together hold at most 1048576 values and letters, the law EnvironChains returns true, and its arguments read afterwards as they read before.
   Conditions: the bound on the reading that the given statement itself makes; no other. -/
import Derived.Test.YtcdafdklkhdjeaaGreatPart1
import Derived.Test.YtcdafdklkhdjeaaGreatPart2
import Derived.Test.YtcdafdklkhdjeaaGreatPart3
import Derived.Test.YtcdafdklkhdjeaaGreatPart4
import Derived.Test.YtcdafdklkhdjeaaGreatPart5
import Derived.Test.YtcdafdklkhdjeaaGreatPart6
import Derived.Test.YtcdafdklkhdjeaaGreatPart7
set_option linter.unusedSimpArgs false
set_option linter.unusedVariables false
namespace Go.Proofs.YtcdafdklkhdjeaaGreat
open Go Go.VC Go.VC.T07
open Go.ChangeShapes Go.WideShapes Go.ChangeAt Go.RowKit

set_option maxRecDepth 100000 in
theorem contract9 (H : Type) (enc : TypeId × Value → H) (W : World) (base : Nat) (args : Array Value) (ds gs : List (DataW H)) (before : List MemPlace)
    (hval : ∀ (j : Nat) t v, Tryz.f9.params[j]? = some t → args[j]? = some v → Value.okWide Tryz.prog W .any base t v)
    (hW : DataW.Whole enc Tryz.prog Tryz.f9.params.toList Rows.environChainsSpec.vars false W args.toList ds gs before) (hk : Rows.uptoSmall H (ds ++ gs) = true) :
    Calls Tryz.prog 9 args W fun e W' => ∃ v, e = .returned v ∧ Rows.environChainsSpec.post enc Tryz.prog Tryz.f9 false true false false W args v W' := by
  have hW' := hW
  obtain ⟨p, q, hA0, hV, rfl, hfz, hnd⟩ := hW
  have hA : DataW.TrodAll enc Tryz.prog W 0 (fun _ => true) true Tryz.f9.params.toList args.toList ds p := hA0
  rw [Tryz.params9] at hA hval
  obtain ⟨v0, v1, d0, d1, p0, p1, rfl, rfl, rfl, h0, h1⟩ := trodAll_two hA
  have hbk : Rows.uptoBulkAll ([d0, d1] ++ gs) ≤ 1048576 := of_decide_eq_true hk
  have hb : ∀ d ∈ [d0, d1], Rows.uptoBulk d ≤ 1048576 := fun d hd => Nat.le_trans (Bk.part_le (List.mem_append_left _ hd)) hbk
  have b0 := hb d0 (by simp)
  obtain ⟨e0, l0, w0, a0e, a0o, a0w⟩ := argE rfl (hval 0 _ v0 rfl rfl) h0 (Nat.le_trans (hb _ (by simp)) (by decide))
  obtain ⟨s1, w1⟩ := argS (hval 1 _ v1 rfl rfl) h1
  exact law_post (tb := 4) (c := _) hW' rfl laid (by rw [Tryz.params9]; exact of_decide_eq_true (by kernel_rfl)) (by kernel_rfl) Tryz.underlying4 ⟨rfl, rfl, rfl⟩ ⟨Tryz.func9, by rfl, rfl⟩
    (.cons _ _ _ _ w0 (.cons _ _ _ _ w1 .nil))
    (F9 a0e a0o (by omega) rfl)

set_option maxRecDepth 100000 in
theorem lifted9 (os : Os) (started : os.Started) (H : Type) (enc : TypeId × Value → H) (F : Stop.Interp) :
    ReturnsInHanded {} Tryz.checked os 9 .any ((Rows.OpenSpec.upto Rows.environChainsSpec).pre6 enc Tryz.prog Tryz.f9 Rows.environChainsUptoRow.domain false) (((Rows.OpenSpec.upto Rows.environChainsSpec).at F).post enc Tryz.prog Tryz.f9 false true false false) := by
  refine returnsInHanded_of_cond (C := Tryz.checked) (s := Rows.OpenSpec.upto Rows.environChainsSpec) (k := Rows.uptoSmall) rfl own started (by kernel_rfl) Tryz.func9
    (OpenSpec.witness (enc := enc) (C := Tryz.checked) (s := Rows.OpenSpec.upto Rows.environChainsSpec) (k := Rows.uptoSmall) rfl false ⟨#[], #[.slice none 0 0, .string .empty], []⟩ 8 (by kernel_rfl) (by kernel_rfl) (by kernel_rfl)
      (x := ([.nil, .lit (.string [])], [], [])) (by kernel_rfl) rfl (by kernel_rfl)) ?_
  intro W base args ds gs before hval hW _ hk _
  exact contract9 H enc W base args ds gs before hval hW hk

theorem environChains_holds : Rows.EnvironChainsUptoSaid :=
  OpenClaim.holds_of_cond 9 Tryz.f9 rfl rfl rfl rfl rfl rfl rfl ⟨rfl, rfl, rfl, rfl, rfl⟩ rfl rfl rfl rfl rfl (by kernel_rfl) Tryz.func9 (by kernel_rfl)
    (of_decide_eq_true (by kernel_rfl)) (by unfold Func.isWrapper; first | (rw [if_pos (by decide +kernel)]; kernel_rfl) | (rw [if_neg (by decide +kernel)]; exact ⟨rfl, rfl⟩))
    (fun os started H enc _ F => lifted9 os started H enc F)
end Go.Proofs.YtcdafdklkhdjeaaGreat
