/- For every path, place, requirement, set and selection whose readings together hold at most 1048576 values and letters, the law TermExact returns true, and its arguments read afterwards as they read before.
   Conditions: the bound on the reading that the given statement itself makes; no other. -/
import Derived.Test.YtkccmlagckaloaaGreatPart1
import Derived.Test.YtkccmlagckaloaaGreatPart2
import Derived.Test.YtkccmlagckaloaaGreatPart3
import Derived.Test.YtkccmlagckaloaaGreatPart4
import Derived.Test.YtkccmlagckaloaaGreatPart5
set_option linter.unusedSimpArgs false
set_option linter.unusedVariables false
namespace Go.Proofs.YtkccmlagckaloaaGreat
open Go Go.VC Go.VC.T35
open Go.ChangeShapes Go.WideShapes Go.ChangeAt Go.RowKit

set_option maxRecDepth 100000 in
theorem argU {H : Type} {enc : TypeId × Value → H} {W : World} {base : Nat} {v : Value} {d : DataW H} {p : List MemPlace} (hv : Value.okWide Tryz.prog W .any base 55 v) (h : DataW.Trod enc Tryz.prog W 0 (fun _ => true) true 55 v d p) :
    ∃ k : Int, VR tt [] (AllP W) v (.int .u32 k) ∧ 0 ≤ k ∧ k ≤ 4294967295 := by
  obtain ⟨k, rfl, rfl, rfl, hw⟩ := open_int Tryz.underlying55 hv h
  exact ⟨k, .int _ _, bounds_u32 hw⟩

set_option maxRecDepth 100000 in
theorem contract6 (H : Type) (enc : TypeId × Value → H) (W : World) (base : Nat) (args : Array Value) (ds gs : List (DataW H)) (before : List MemPlace)
    (hval : ∀ (j : Nat) t v, Tryz.f6.params[j]? = some t → args[j]? = some v → Value.okWide Tryz.prog W .any base t v)
    (hW : DataW.Whole enc Tryz.prog Tryz.f6.params.toList Rows.termExactSpec.vars false W args.toList ds gs before) (hk : Rows.uptoSmall H (ds ++ gs) = true) :
    Calls Tryz.prog 6 args W fun e W' => ∃ v, e = .returned v ∧ Rows.termExactSpec.post enc Tryz.prog Tryz.f6 false true false false W args v W' := by
  have hW' := hW
  obtain ⟨p, q, hA0, hV, rfl, hfz, hnd⟩ := hW
  have hA : DataW.TrodAll enc Tryz.prog W 0 (fun _ => true) true Tryz.f6.params.toList args.toList ds p := hA0
  rw [Tryz.params6] at hA hval
  obtain ⟨v0, vs0, d0, ds0, p0, q0, hargs, rfl, rfl, h0, r0⟩ := trodAll_cons hA
  obtain ⟨v1, vs1, d1, ds1, p1, q1, rfl, rfl, rfl, h1, r1⟩ := trodAll_cons r0
  obtain ⟨v2, vs2, d2, ds2, p2, q2, rfl, rfl, rfl, h2, r2⟩ := trodAll_cons r1
  obtain ⟨v3, vs3, d3, ds3, p3, q3, rfl, rfl, rfl, h3, r3⟩ := trodAll_cons r2
  obtain ⟨v4, vs4, d4, ds4, p4, q4, rfl, rfl, rfl, h4, r4⟩ := trodAll_cons r3
  obtain ⟨rfl, rfl, rfl⟩ := trodAll_nil r4
  obtain rfl : args = #[v0, v1, v2, v3, v4] := by cases args; simp_all
  have hbk : Rows.uptoBulkAll ([d0, d1, d2, d3, d4] ++ gs) ≤ 1048576 := of_decide_eq_true hk
  have hb : ∀ d ∈ [d0, d1, d2, d3, d4], Rows.uptoBulk d ≤ 1048576 := fun d hd => Nat.le_trans (Bk.part_le (List.mem_append_left _ hd)) hbk
  obtain ⟨s0, w0, _⟩ := argS (hval 0 _ v0 rfl rfl) h0 (hb _ (by simp))
  obtain ⟨k1, w1, a1k⟩ := argU (hval 1 _ v1 rfl rfl) h1
  obtain ⟨s2, e2, l2, w2, a2e, a2l⟩ := argQ (hval 2 _ v2 rfl rfl) h2 (hb _ (by simp))
  obtain ⟨e3, l3, w3, a3e, a3l⟩ := argX rfl (hval 3 _ v3 rfl rfl) h3 (hb _ (by simp))
  obtain ⟨e4, l4, w4, a4e, a4l⟩ := argV (hval 4 _ v4 rfl rfl) h4 (hb _ (by simp))
  exact law_post (tb := 4) (c := _) hW' rfl laid (by rw [Tryz.params6]; exact of_decide_eq_true (by kernel_rfl)) (by kernel_rfl) Tryz.underlying4 ⟨rfl, rfl, rfl⟩ ⟨Tryz.func6, by rfl, rfl⟩
    (.cons _ _ _ _ w0 (.cons _ _ _ _ w1 (.cons _ _ _ _ w2 (.cons _ _ _ _ w3 (.cons _ _ _ _ w4 .nil)))))
    (F6 a2e (by omega) a3e (by omega) a4e (by omega) a1k rfl)

set_option maxRecDepth 100000 in
theorem lifted6 (os : Os) (started : os.Started) (H : Type) (enc : TypeId × Value → H) (F : Stop.Interp) :
    ReturnsInHanded {} Tryz.checked os 6 .any ((Rows.OpenSpec.upto Rows.termExactSpec).pre6 enc Tryz.prog Tryz.f6 Rows.termExactUptoRow.domain false) (((Rows.OpenSpec.upto Rows.termExactSpec).at F).post enc Tryz.prog Tryz.f6 false true false false) := by
  refine returnsInHanded_of_cond (C := Tryz.checked) (s := Rows.OpenSpec.upto Rows.termExactSpec) (k := Rows.uptoSmall) rfl own started (by kernel_rfl) Tryz.func6
    (OpenSpec.witness (enc := enc) (C := Tryz.checked) (s := Rows.OpenSpec.upto Rows.termExactSpec) (k := Rows.uptoSmall) rfl false ⟨#[], #[.string .empty, .int .u32 0, .agg #[.string .empty, .slice none 0 0], .slice none 0 0, .slice none 0 0], []⟩ 8 (by kernel_rfl) (by kernel_rfl) (by kernel_rfl)
      (x := ([.lit (.string []), .lit (.int .u32 0), .agg [.lit (.string []), .nil], .nil, .nil], [], [])) (by kernel_rfl) rfl (by kernel_rfl)) ?_
  intro W base args ds gs before hval hW _ hk _
  exact contract6 H enc W base args ds gs before hval hW hk

theorem termExact_holds : Rows.TermExactUptoSaid :=
  OpenClaim.holds_of_cond 6 Tryz.f6 rfl rfl rfl rfl rfl rfl rfl ⟨rfl, rfl, rfl, rfl, rfl⟩ rfl rfl rfl rfl rfl (by kernel_rfl) Tryz.func6 (by kernel_rfl)
    (of_decide_eq_true (by kernel_rfl)) (by unfold Func.isWrapper; first | (rw [if_pos (by decide +kernel)]; kernel_rfl) | (rw [if_neg (by decide +kernel)]; exact ⟨rfl, rfl⟩))
    (fun os started H enc _ F => lifted6 os started H enc F)
end Go.Proofs.YtkccmlagckaloaaGreat
