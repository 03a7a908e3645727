/- What the law DiffLists needs of its contract. -/
import Derived.Test.YtlpanbeeckdbpaaGreatDoorPart39
import Derived.Test.YtlpanbeeckdbpaaGreatDoorPart38
import Derived.Test.YtlpanbeeckdbpaaGreatDoorCards
import Derived.Test.YtlpanbeeckdbpaaGreatDoorTie
import Derived.SevenTiedAt
set_option linter.all false
set_option maxRecDepth 100000
set_option maxHeartbeats 16000000
set_option maxRecDepth 100000
namespace Go.Proofs.YtlpanbeeckdbpaaGreatDoor
open Go Go.VC Go.VC.T07
open Go.ChangeShapes Go.WideShapes Go.ChangeAt Go.RowKit

set_option maxRecDepth 100000 in
theorem contract4 (H : Type) (enc : TypeId × Value → H) (W : World) (base : Nat) (args : Array Value) (ds gs : List (DataW H)) (before : List MemPlace)
    (hval : ∀ (j : Nat) t v, Tryz.f4.params[j]? = some t → args[j]? = some v → Value.okWide Tryz.prog W .any base t v)
    (hW : DataW.Whole enc Tryz.prog Tryz.f4.params.toList Rows.diffListsSpec.vars false W args.toList ds gs before) (hk : Rows.uptoSmall H (ds ++ gs) = true) (hsh : W.ShapedOpen Tryz.prog) (hl : laidMetH Tryz.prog Rows.diffListsUptoRow.laid W) :
    Calls Tryz.prog 4 args W fun e W' => ∃ v, e = .returned v ∧ Rows.diffListsSpec.post enc Tryz.prog Tryz.f4 false true false false W args v W' := by
  have hW' := hW
  obtain ⟨p, q, hA0, hV, rfl, hfz, hnd⟩ := hW
  have hA : DataW.TrodAll enc Tryz.prog W 0 (fun _ => true) true Tryz.f4.params.toList args.toList ds p := hA0
  rw [Tryz.params4] at hA hval
  obtain ⟨v0, d0, rfl, rfl, h0⟩ := trodAll_one hA
  have hbk : Rows.uptoBulkAll ([d0] ++ gs) ≤ 1048576 := of_decide_eq_true hk
  have hb : ∀ d ∈ [d0], Rows.uptoBulk d ≤ 1048576 := fun d hd => Nat.le_trans (Bk.part_le (List.mem_append_left _ hd)) hbk
  obtain ⟨e0, l0, w0, a0e, a0l, a0f⟩ := argL (hval 0 _ v0 rfl rfl) h0 (hb d0 (by simp))
  refine law_post (tb := 4) (c := _) hW' rfl laid (by rw [Tryz.params4]; exact of_decide_eq_true (by kernel_rfl)) (by kernel_rfl) Tryz.underlying4 ⟨rfl, rfl, rfl⟩ ⟨Tryz.func4, by rfl, rfl⟩
    (.cons _ _ _ _ w0 .nil) (globs hsh hl)
    (F4 a0e (by omega) a0f rfl)

theorem witness_row4 (os : Os) {H : Type} (enc : TypeId × Value → H) :
    (Rows.OpenSpec.upto Rows.diffListsSpec).preRow enc Tryz.prog Tryz.f4 Rows.diffListsUptoRow.domain false Rows.diffListsUptoRow.laid ((laidWorld os).forCall (fun _ _ => 0) ⟨#[], #[.slice none 0 0], []⟩).memory #[.slice none 0 0] := by
  have hw : (DataW.whole enc Tryz.prog ((laidWorld os).forCall (fun _ _ => 0) ⟨#[], #[.slice none 0 0], []⟩).memory Tryz.f4.params.toList (Rows.OpenSpec.upto Rows.diffListsSpec).vars false (#[.slice none 0 0] : Array Value).toList 8).map (fun x => (x.1, x.2.1)) =
      some ([.nil], []) := by kernel_rfl
  obtain ⟨⟨x1, x2, x3⟩, hx, hx1⟩ := Option.map_eq_some_iff.1 hw
  simp only [Prod.mk.injEq] at hx1
  obtain ⟨rfl, rfl⟩ := hx1
  exact OpenSpec.preRow_of_cond 8 hx (by kernel_rfl) (fun k hk => by cases hk; rfl) (by kernel_rfl) (laid_met os _)

set_option maxRecDepth 100000 in
theorem lifted4 (os : Os) (started : os.Started) (H : Type) (enc : TypeId × Value → H) (F : Stop.Interp) :
    ReturnsInHanded {} Tryz.checked os 4 .any ((Rows.OpenSpec.upto Rows.diffListsSpec).preRow enc Tryz.prog Tryz.f4 Rows.diffListsUptoRow.domain false Rows.diffListsUptoRow.laid) (((Rows.OpenSpec.upto Rows.diffListsSpec).at F).post enc Tryz.prog Tryz.f4 false true false false) := by
  refine returnsInHanded_of_row (C := Tryz.checked) (s := Rows.OpenSpec.upto Rows.diffListsSpec) own started (by kernel_rfl) Tryz.func4
    (witness_row_atRef (enc := enc) (C := Tryz.checked) false (laidWorld os) #[.slice none 0 0] rfl (by kernel_rfl) (by kernel_rfl) (by kernel_rfl) (witness_row4 os enc)) ?_
  intro W base args ds gs before hval hW _ hk _ hl hsh _
  exact contract4 H enc W base args ds gs before hval hW (hk _ rfl) hsh hl

end Go.Proofs.YtlpanbeeckdbpaaGreatDoor
