/- What the law ConditionTexts needs of its contract. -/
import Derived.Test.YtlpanbeeckdbpaaGreatDoorPart45
import Derived.Test.YtlpanbeeckdbpaaGreatDoorPart44
import Derived.Test.YtlpanbeeckdbpaaGreatDoorCards
import Derived.Test.YtlpanbeeckdbpaaGreatDoorTie
import Derived.SevenTiedAt
set_option linter.all false
set_option maxRecDepth 100000
set_option maxHeartbeats 16000000
set_option maxRecDepth 100000
namespace Go.Proofs.YtlpanbeeckdbpaaGreatDoor
open Go Go.VC Go.VC.T07
open Go.ChangeShapes Go.WideShapes Go.ChangeAt Go.RowKit

set_option maxRecDepth 100000 in
theorem contract3 (H : Type) (enc : TypeId × Value → H) (W : World) (base : Nat) (args : Array Value) (ds gs : List (DataW H)) (before : List MemPlace)
    (hval : ∀ (j : Nat) t v, Tryz.f3.params[j]? = some t → args[j]? = some v → Value.okWide Tryz.prog W .any base t v)
    (hW : DataW.Whole enc Tryz.prog Tryz.f3.params.toList Rows.conditionTextsSpec.vars false W args.toList ds gs before) (hk : Rows.uptoSmall H (ds ++ gs) = true) (hsh : W.ShapedOpen Tryz.prog) (hl : laidMetH Tryz.prog Rows.conditionTextsUptoRow.laid W) :
    Calls Tryz.prog 3 args W fun e W' => ∃ v, e = .returned v ∧ Rows.conditionTextsSpec.post enc Tryz.prog Tryz.f3 false true false false W args v W' := by
  have hW' := hW
  obtain ⟨p, q, hA0, hV, rfl, hfz, hnd⟩ := hW
  have hA : DataW.TrodAll enc Tryz.prog W 0 (fun _ => true) true Tryz.f3.params.toList args.toList ds p := hA0
  rw [Tryz.params3] at hA hval
  obtain ⟨v0, d0, rfl, rfl, h0⟩ := trodAll_one hA
  have hbk : Rows.uptoBulkAll ([d0] ++ gs) ≤ 1048576 := of_decide_eq_true hk
  have hb : ∀ d ∈ [d0], Rows.uptoBulk d ≤ 1048576 := fun d hd => Nat.le_trans (Bk.part_le (List.mem_append_left _ hd)) hbk
  obtain ⟨k0, x0, s0, t0, m, n, s1, s2, t1, t2, dp, d1, d2, d3, d4, pl, w0, a0l⟩ := argK (hval 0 _ v0 rfl rfl) h0 (hb d0 (by simp))
  refine law_post (tb := 4) (c := _) hW' rfl laid (by rw [Tryz.params3]; exact of_decide_eq_true (by kernel_rfl)) (by kernel_rfl) Tryz.underlying4 ⟨rfl, rfl, rfl⟩ ⟨Tryz.func3, by rfl, rfl⟩
    (.cons _ _ _ _ w0 .nil) (globs hsh)
    (F3 a0l rfl)

theorem witness_row3 (os : Os) {H : Type} (enc : TypeId × Value → H) :
    (Rows.OpenSpec.upto Rows.conditionTextsSpec).preRow enc Tryz.prog Tryz.f3 Rows.conditionTextsUptoRow.domain false Rows.conditionTextsUptoRow.laid ((laidWorld os).forCall (fun _ _ => 0) ⟨#[], #[.agg #[.int .i64 0, .string .empty, .string .empty, .int .i64 0, .slice none 0 0, .int .i64 0, .string .empty, .string .empty, .slice none 0 0, .slice none 0 0, .int .i64 0, .string .empty, .string .empty, .slice none 0 0, .slice none 0 0]], []⟩).memory #[.agg #[.int .i64 0, .string .empty, .string .empty, .int .i64 0, .slice none 0 0, .int .i64 0, .string .empty, .string .empty, .slice none 0 0, .slice none 0 0, .int .i64 0, .string .empty, .string .empty, .slice none 0 0, .slice none 0 0]] := by
  have hw : (DataW.whole enc Tryz.prog ((laidWorld os).forCall (fun _ _ => 0) ⟨#[], #[.agg #[.int .i64 0, .string .empty, .string .empty, .int .i64 0, .slice none 0 0, .int .i64 0, .string .empty, .string .empty, .slice none 0 0, .slice none 0 0, .int .i64 0, .string .empty, .string .empty, .slice none 0 0, .slice none 0 0]], []⟩).memory Tryz.f3.params.toList (Rows.OpenSpec.upto Rows.conditionTextsSpec).vars false (#[.agg #[.int .i64 0, .string .empty, .string .empty, .int .i64 0, .slice none 0 0, .int .i64 0, .string .empty, .string .empty, .slice none 0 0, .slice none 0 0, .int .i64 0, .string .empty, .string .empty, .slice none 0 0, .slice none 0 0]] : Array Value).toList 8).map (fun x => (x.1, x.2.1)) =
      some ([.agg [.lit (.int .i64 0), .lit (.string []), .lit (.string []), .lit (.int .i64 0), .nil, .agg [.lit (.int .i64 0), .lit (.string []), .lit (.string []), .nil, .nil], .agg [.lit (.int .i64 0), .lit (.string []), .lit (.string []), .nil, .nil]]], []) := by kernel_rfl
  obtain ⟨⟨x1, x2, x3⟩, hx, hx1⟩ := Option.map_eq_some_iff.1 hw
  simp only [Prod.mk.injEq] at hx1
  obtain ⟨rfl, rfl⟩ := hx1
  exact OpenSpec.preRow_of_cond 8 hx (by kernel_rfl) (fun k hk => by cases hk; rfl) (by kernel_rfl) (laid_met os _)

set_option maxRecDepth 100000 in
theorem lifted3 (os : Os) (started : os.Started) (H : Type) (enc : TypeId × Value → H) (F : Stop.Interp) :
    ReturnsInHanded {} Tryz.checked os 3 .any ((Rows.OpenSpec.upto Rows.conditionTextsSpec).preRow enc Tryz.prog Tryz.f3 Rows.conditionTextsUptoRow.domain false Rows.conditionTextsUptoRow.laid) (((Rows.OpenSpec.upto Rows.conditionTextsSpec).at F).post enc Tryz.prog Tryz.f3 false true false false) := by
  refine returnsInHanded_of_row (C := Tryz.checked) (s := Rows.OpenSpec.upto Rows.conditionTextsSpec) own started (by kernel_rfl) Tryz.func3
    (witness_row_atRef (enc := enc) (C := Tryz.checked) false (laidWorld os) #[.agg #[.int .i64 0, .string .empty, .string .empty, .int .i64 0, .slice none 0 0, .int .i64 0, .string .empty, .string .empty, .slice none 0 0, .slice none 0 0, .int .i64 0, .string .empty, .string .empty, .slice none 0 0, .slice none 0 0]] rfl (by kernel_rfl) (by kernel_rfl) (by kernel_rfl) (witness_row3 os enc)) ?_
  intro W base args ds gs before hval hW _ hk _ hl hsh _
  exact contract3 H enc W base args ds gs before hval hW (hk _ rfl) hsh hl

end Go.Proofs.YtlpanbeeckdbpaaGreatDoor
