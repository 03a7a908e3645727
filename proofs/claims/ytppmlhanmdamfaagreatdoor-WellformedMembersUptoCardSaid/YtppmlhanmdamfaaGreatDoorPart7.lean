/- Part 7 of the common texts: Y0 YW. -/
import Derived.Test.YtppmlhanmdamfaaGreatDoorRows
import Derived.ProofKit
import Derived.OpenShut
import Derived.JoinedCond
import Derived.Deep.DeepHandedRow
import Derived.LaidMore
import Derived.LaidHandle
import Derived.LaidLaws
import Derived.Shelf.Vars
import Derived.Deep.DeepWitnessRowRef
import Derived.Test.YtppmlhanmdamfaaGreatDoorPart1
import Derived.Test.YtppmlhanmdamfaaGreatDoorPart2
import Derived.Test.YtppmlhanmdamfaaGreatDoorPart3
import Derived.Test.YtppmlhanmdamfaaGreatDoorPart4
import Derived.Test.YtppmlhanmdamfaaGreatDoorPart5
import Derived.Test.YtppmlhanmdamfaaGreatDoorPart6
set_option linter.all false
set_option maxRecDepth 100000
set_option maxHeartbeats 16000000

section
namespace Go.VC.T07
open Go Go.VC Go.Proofs
open Go.ChangeShapes Go.WideShapes Go.ChangeAt Go.RowKit

namespace Bk
open YtppmlhanmdamfaaGreatDoor
theorem one_le {H : Type} (d : DataW H) : 1 ≤ Rows.uptoBulk d := by
  cases d with
  | lit l => cases l <;> simp [Rows.uptoBulk]
  | nil => simp [Rows.uptoBulk]
  | ptr d => simp [Rows.uptoBulk]
  | slice elems spare => simp [Rows.uptoBulk]
  | agg parts => simp [Rows.uptoBulk]
  | iface t d => simp [Rows.uptoBulk]
  | map entries => simp [Rows.uptoBulk]
  | held h => simp [Rows.uptoBulk]
theorem part_le {H : Type} {d : DataW H} : ∀ {l : List (DataW H)}, d ∈ l → Rows.uptoBulk d ≤ Rows.uptoBulkAll l
  | x :: r, h => by
    simp only [Rows.uptoBulkAll]
    rcases List.mem_cons.1 h with rfl | h
    · omega
    · have := part_le h; omega
theorem len_le {H : Type} : ∀ (l : List (DataW H)), l.length ≤ Rows.uptoBulkAll l
  | [] => by simp
  | x :: r => by have := one_le x; have := len_le r; simp only [Rows.uptoBulkAll, List.length_cons]; omega
theorem sum_le {H : Type} : ∀ (l : List (DataW H)), (l.map Rows.uptoBulk).sum = Rows.uptoBulkAll l
  | [] => by simp [Rows.uptoBulkAll]
  | x :: r => by simp only [List.map_cons, List.sum_cons, Rows.uptoBulkAll, sum_le r]
theorem ok {H : Type} : BulkOk (H := H) Rows.uptoBulk where
  str s := by simp [Rows.uptoBulk]
  slice es sp := ⟨by have := len_le es; simp only [Rows.uptoBulk]; omega, fun e he => by have := part_le he; simp only [Rows.uptoBulk]; omega⟩
  agg ps e he := by have := part_le he; simp only [Rows.uptoBulk]; omega
  ptr d := by simp only [Rows.uptoBulk]; omega
  one d := one_le d
  sums es sp := by rw [sum_le]; simp only [Rows.uptoBulk]; omega
  suma ps := by rw [sum_le]; simp only [Rows.uptoBulk]; omega
end Bk

theorem own : ownKnob Tryz.prog.godebug = none := by kernel_rfl
theorem laid : laidOutB Tryz.prog = true := by kernel_rfl
abbrev TS : List TypeId := [3, 4, 9, 23, 24, 25, 26, 28, 35, 36, 37, 38, 40, 49, 51, 53, 65, 101, 106, 119]
theorem dat : TS.all (dataB tt TS) = true := by kernel_rfl
theorem sum_ones {α : Type} {l : List α} : (l.map fun _ => 1).sum = l.length := by
  induction l with
  | nil => simp
  | cons x l ih => simp only [List.map_cons, List.sum_cons, List.length_cons]; omega
section
variable {n : Nat} {Pp : Per}
theorem list_dec {e : TypeId} {α : Type} {f : α → List D} {p : α → Prop} {g : α → Nat} {m : Nat} (hrow : ∀ vs row, RowRD tt Pp n (cksOf tt e) vs row → wDs row ≤ m → ∃ x, row = f x ∧ p x ∧ g x ≤ wDs row)
    {v : Value} {d : D} (h : RD tt Pp (.slice e) v d) (hb : Bd n d) (hm : wD d ≤ m + 1) : ∃ l : List α, d = encL f l ∧ l.length ≤ n ∧ (∀ x ∈ l, p x) ∧ (l.map g).sum + 1 ≤ wD d := by
  obtain ⟨rows, rfl, hl, hr⟩ := RD.rows h hb
  simp only [wD] at hm
  obtain ⟨l, rfl, hp⟩ := lift_map (f := f) (p := fun x => p x ∧ g x ≤ wDs (f x)) (rows := rows) (fun r hr' => by
    obtain ⟨vs, hv⟩ := hr r hr'
    obtain ⟨x, e1, e2, e3⟩ := hrow vs r hv (by have := wDr_mem hr'; omega)
    exact ⟨x, e1, e2, by rw [← e1]; exact e3⟩)
  refine ⟨l, rfl, by simpa using hl, fun x hx => (hp x hx).1, ?_⟩
  simp only [wD, wDr_sum, List.map_map]
  have : ∀ l : List α, (∀ x ∈ l, g x ≤ wDs (f x)) → (l.map g).sum ≤ (l.map (wDs ∘ f)).sum := by
    intro l
    induction l with
    | nil => simp
    | cons x l ih =>
      intro h
      have a := h x (by simp)
      have b := ih fun y hy => h y (by simp [hy])
      simp only [List.map_cons, List.sum_cons, Function.comp]; omega
  have := this l fun x hx => (hp x hx).2
  omega
theorem cks28 : cksOf tt 28 = [.int .i64, .str, .str, .slice 28, .slice 65] := by kernel_rfl
theorem cks65 : cksOf tt 65 = [.str, .int .i64, .str, .str, .slice 28, .slice 65, .bool] := by kernel_rfl
theorem decTy : ∀ (m : Nat) {vs : List Value} {row : List D}, wDs row ≤ m → m ≤ 1048578 → RowRD tt Pp 1048576 [.int .i64, .str, .str, .slice 28, .slice 65] vs row → ∃ t : Ty, row = encTy t ∧ t.fit ∧ t.size + 3 ≤ wDs row
  | 0, vs, row, hm, _, h => by
    cases h with
    | cons _ _ d _ _ _ h1 _ t1 =>
    cases h1
    simp only [wDs, wD] at hm; omega
  | m+1, vs, row, hm, hm2, h => by
    have ih := fun {vs row} (h1 : wDs row ≤ m) => decTy m (vs := vs) (row := row) h1 (by omega)
    cases h with
    | cons _ _ _ _ _ _ h1 _ t1 =>
    cases t1 with
    | cons _ _ _ _ _ _ h2 b2 t2 =>
    cases t2 with
    | cons _ _ _ _ _ _ h3 b3 t3 =>
    cases t3 with
    | cons _ _ d4 _ _ _ h4 b4 t4 =>
    cases t4 with
    | cons _ _ d5 _ _ _ h5 b5 t5 =>
    cases t5
    cases h1 with
    | int _ z1 =>
    cases h2 with
    | str z2 =>
    cases h3 with
    | str z3 =>
    cases b2 with
    | str _ bb2 =>
    cases b3 with
    | str _ bb3 =>
    have hm0 := hm
    simp only [wDs, wD] at hm
    obtain ⟨la, rfl, ha1, ha2, ha3⟩ := list_dec (f := encTy) (p := Ty.fit) (g := Ty.size) (m := m) (fun vs row hr hmr => by
      rw [cks28] at hr
      obtain ⟨t, a, b, c⟩ := ih hmr hr
      exact ⟨t, a, b, by omega⟩) h4 b4 (by omega)
    obtain ⟨lf, rfl, hf1, hf2, hf3⟩ := list_dec (f := encFd) (p := fun f => f.t.fit ∧ f.s.length ≤ 1048576) (g := fun f => f.t.size) (m := m) (fun vs row hr hmr => by
      rw [cks65] at hr
      cases hr with
      | cons _ _ _ _ _ _ g0 c0 s0 =>
      cases s0 with
      | cons _ _ _ _ _ _ g1 c1 s1 =>
      cases s1 with
      | cons _ _ _ _ _ _ g2 c2 s2 =>
      cases s2 with
      | cons _ _ _ _ _ _ g3 c3 s3 =>
      cases s3 with
      | cons _ _ _ _ _ _ g4 c4 s4 =>
      cases s4 with
      | cons _ _ _ _ _ _ g5 c5 s5 =>
      cases s5 with
      | cons _ _ _ _ _ _ g6 _ s6 =>
      cases s6
      cases g0 with
      | str sb =>
      cases c0 with
      | str _ bsb =>
      cases g6 with
      | bool bb =>
      have hin := RowRD.cons _ _ _ _ _ _ g1 c1 (.cons _ _ _ _ _ _ g2 c2 (.cons _ _ _ _ _ _ g3 c3 (.cons _ _ _ _ _ _ g4 c4 (.cons _ _ _ _ _ _ g5 c5 .nil))))
      simp only [wDs, wD] at hmr
      obtain ⟨t, a, b, c⟩ := ih (by simp only [wDs]; omega) hin
      refine ⟨.mk sb.data.toList t bb, ?_, ⟨b, bsb⟩, ?_⟩
      · show _ = D.str _ :: (encTy t ++ [D.bool _])
        rw [← a]; rfl
      · simp only [wDs, wD] at c ⊢; show t.size ≤ _; omega) h5 b5 (by omega)
    have hsz : (Ty.mk z1 z2.data.toList z3.data.toList la lf).size + 3 ≤ wDs [D.int z1, D.str z2.data.toList, D.str z3.data.toList, encL encTy la, encL encFd lf] := by
      rw [size_eq]
      show 1 + (((la ++ lf.map Fe.t).map Ty.size).sum) + 3 ≤ _
      simp only [wDs, wD] at *
      rw [List.map_append, List.sum_append, List.map_map]
      have : (lf.map (Ty.size ∘ Fe.t)).sum = (lf.map fun f => f.t.size).sum := rfl
      omega
    refine ⟨.mk z1 z2.data.toList z3.data.toList la lf, ?_, ⟨?_, ?_, ?_⟩, hsz⟩
    · rw [encTy_eq]; rfl
    · exact .mk _ (Nat.le_trans ha1 (by decide)) (Nat.le_trans hf1 (by decide)) (fun u hu => (ha2 u hu).le) (fun f hf => (hf2 f hf).1.le)
    · omega
    · intro u hu
      rw [all_eq] at hu
      rcases List.mem_cons.1 hu with rfl | hu
      · exact ⟨bb2, bb3, fun x hx => (hf2 x hx).2⟩
      · obtain ⟨v, hv, hu⟩ := List.mem_flatMap.1 hu
        rcases List.mem_append.1 (show v ∈ la ++ lf.map Fe.t from hv) with hv | hv
        · exact (ha2 v hv).nod u hu
        · obtain ⟨f, hf, rfl⟩ := List.mem_map.1 hv
          exact (hf2 f hf).1.nod u hu
theorem cks53 : cksOf tt 53 = [.str, .int .i64, .int .i64, .str, .str, .slice 28, .slice 65] := by kernel_rfl
theorem cks51 : cksOf tt 51 = [.str, .slice 53, .int .i64, .str, .str, .slice 28, .slice 65, .int .i64, .str, .str, .slice 28, .slice 65] := by kernel_rfl
theorem cks101 : cksOf tt 101 = [.str, .slice 53, .int .i64, .str, .str, .slice 28, .slice 65] := by kernel_rfl
theorem cks106 : cksOf tt 106 = [.str, .str, .str] := by kernel_rfl
theorem cks119 : cksOf tt 119 = [.str, .str] := by kernel_rfl
theorem cks40 : cksOf tt 40 = [.str, .slice 51, .slice 101, .slice 106, .slice 119] := by kernel_rfl
theorem decPm {vs : List Value} {row : List D} (h : RowRD tt Pp 1048576 (cksOf tt 53) vs row) (hw : wDs row ≤ 1048576) : ∃ x : Pm, row = encPm x ∧ x.bound.fit ∧ x.wt ≤ wDs row := by
  rw [cks53] at h
  cases h with
  | cons _ _ d0 _ _ _ g0 c0 s0 =>
  cases s0 with
  | cons _ _ d1 _ _ _ g1 c1 s1 =>
  cases s1 with
  | cons _ _ d2 _ _ _ g2 c2 s2 =>
  cases s2 with
  | cons _ _ d3 _ _ _ g3 c3 s3 =>
  cases s3 with
  | cons _ _ d4 _ _ _ g4 c4 s4 =>
  cases s4 with
  | cons _ _ d5 _ _ _ g5 c5 s5 =>
  cases s5 with
  | cons _ _ d6 _ _ _ g6 c6 s6 =>
  cases s6
  cases g0 with
  | str z0 =>
  cases g1 with
  | int _ z1 =>
  have hin := RowRD.cons _ _ _ _ _ _ g2 c2 (.cons _ _ _ _ _ _ g3 c3 (.cons _ _ _ _ _ _ g4 c4 (.cons _ _ _ _ _ _ g5 c5 (.cons _ _ _ _ _ _ g6 c6 .nil))))
  simp only [wDs, wD] at hw
  obtain ⟨t, e, fit, sz⟩ := decTy 1048576 (by simp only [wDs]; omega) (by decide) hin
  refine ⟨⟨z0.data.toList, z1, t⟩, ?_, fit, ?_⟩
  · unfold encPm; rw [← e]
  · simp only [wDs, wD, Pm.wt] at sz ⊢; omega
theorem decPms {v : Value} {d : D} (h : RD tt Pp (.slice 53) v d) (hb : Bd 1048576 d) (hw : wD d ≤ 1048576) : ∃ l : List Pm, d = encL encPm l ∧ l.length ≤ 1048576 ∧ (∀ x ∈ l, x.bound.fit) ∧ (l.map Pm.wt).sum + 1 ≤ wD d :=
  list_dec (m := 1048576) (fun vs row hr hm => decPm hr hm) h hb (by omega)
theorem decAE {vs : List Value} {row : List D} (h : RowRD tt Pp 1048576 (cksOf tt 106) vs row) : ∃ x : AE, row = encAE x ∧ x.fit ∧ 1 ≤ wDs row := by
  rw [cks106] at h
  cases h with
  | cons _ _ d0 _ _ _ g0 c0 s0 =>
  cases s0 with
  | cons _ _ d1 _ _ _ g1 c1 s1 =>
  cases s1 with
  | cons _ _ d2 _ _ _ g2 c2 s2 =>
  cases s2
  cases g0 with
  | str z0 =>
  cases g1 with
  | str z1 =>
  cases g2 with
  | str z2 =>
  cases c0 with
  | str _ b0 =>
  cases c2 with
  | str _ b2 =>
  exact ⟨⟨_, _, _⟩, rfl, ⟨b0, b2⟩, by simp only [wDs, wD]; omega⟩
theorem decDE {vs : List Value} {row : List D} (h : RowRD tt Pp 1048576 (cksOf tt 119) vs row) : ∃ x : DE, row = encDE x ∧ x.fit ∧ 1 ≤ wDs row := by
  rw [cks119] at h
  cases h with
  | cons _ _ d0 _ _ _ g0 c0 s0 =>
  cases s0 with
  | cons _ _ d1 _ _ _ g1 c1 s1 =>
  cases s1
  cases g0 with
  | str z0 =>
  cases g1 with
  | str z1 =>
  cases c0 with
  | str _ b0 =>
  exact ⟨⟨_, _⟩, rfl, ⟨b0⟩, by simp only [wDs, wD]; omega⟩
theorem decTE {vs : List Value} {row : List D} (h : RowRD tt Pp 1048576 (cksOf tt 51) vs row) (hw : wDs row ≤ 1048576) : ∃ x : TE, row = encTE x ∧ (x.ok ∧ x.fit) ∧ x.wt ≤ wDs row := by
  rw [cks51] at h
  cases h with
  | cons _ _ d0 _ _ _ g0 c0 s0 =>
  cases s0 with
  | cons _ _ d1 _ _ _ g1 c1 s1 =>
  cases s1 with
  | cons _ _ d2 _ _ _ g2 c2 s2 =>
  cases s2 with
  | cons _ _ d3 _ _ _ g3 c3 s3 =>
  cases s3 with
  | cons _ _ d4 _ _ _ g4 c4 s4 =>
  cases s4 with
  | cons _ _ d5 _ _ _ g5 c5 s5 =>
  cases s5 with
  | cons _ _ d6 _ _ _ g6 c6 s6 =>
  cases s6 with
  | cons _ _ d7 _ _ _ g7 c7 s7 =>
  cases s7 with
  | cons _ _ d8 _ _ _ g8 c8 s8 =>
  cases s8 with
  | cons _ _ d9 _ _ _ g9 c9 s9 =>
  cases s9 with
  | cons _ _ d10 _ _ _ g10 c10 s10 =>
  cases s10 with
  | cons _ _ d11 _ _ _ g11 c11 s11 =>
  cases s11
  cases g0 with
  | str z0 =>
  cases c0 with
  | str _ b0 =>
  simp only [wDs, wD] at hw
  obtain ⟨lp, rfl, hp1, hp2, hp3⟩ := decPms g1 c1 (by omega)
  have hin := RowRD.cons _ _ _ _ _ _ g2 c2 (.cons _ _ _ _ _ _ g3 c3 (.cons _ _ _ _ _ _ g4 c4 (.cons _ _ _ _ _ _ g5 c5 (.cons _ _ _ _ _ _ g6 c6 .nil))))
  obtain ⟨t, e, f1, sz⟩ := decTy 1048576 (by simp only [wDs]; omega) (by decide) hin
  have hin2 := RowRD.cons _ _ _ _ _ _ g7 c7 (.cons _ _ _ _ _ _ g8 c8 (.cons _ _ _ _ _ _ g9 c9 (.cons _ _ _ _ _ _ g10 c10 (.cons _ _ _ _ _ _ g11 c11 .nil))))
  obtain ⟨t2, e2, f2, sz2⟩ := decTy 1048576 (by simp only [wDs]; omega) (by decide) hin2
  refine ⟨⟨z0.data.toList, lp, t, t2⟩, ?_, ⟨⟨by simp only; omega, fun p hp => (hp2 p hp).le, f1.le, f2.le⟩, ⟨b0, hp1, hp2, f1, f2⟩⟩, ?_⟩
  · unfold encTE; rw [← e, ← e2]; rfl
  · simp only [wDs, wD, TE.wt] at sz sz2 hp3 ⊢; omega
theorem decVE {vs : List Value} {row : List D} (h : RowRD tt Pp 1048576 (cksOf tt 101) vs row) (hw : wDs row ≤ 1048576) : ∃ x : VE, row = encVE x ∧ (x.ok ∧ x.fit) ∧ x.wt ≤ wDs row := by
  rw [cks101] at h
  cases h with
  | cons _ _ d0 _ _ _ g0 c0 s0 =>
  cases s0 with
  | cons _ _ d1 _ _ _ g1 c1 s1 =>
  cases s1 with
  | cons _ _ d2 _ _ _ g2 c2 s2 =>
  cases s2 with
  | cons _ _ d3 _ _ _ g3 c3 s3 =>
  cases s3 with
  | cons _ _ d4 _ _ _ g4 c4 s4 =>
  cases s4 with
  | cons _ _ d5 _ _ _ g5 c5 s5 =>
  cases s5 with
  | cons _ _ d6 _ _ _ g6 c6 s6 =>
  cases s6
  cases g0 with
  | str z0 =>
  cases c0 with
  | str _ b0 =>
  simp only [wDs, wD] at hw
  obtain ⟨lp, rfl, hp1, hp2, hp3⟩ := decPms g1 c1 (by omega)
  have hin := RowRD.cons _ _ _ _ _ _ g2 c2 (.cons _ _ _ _ _ _ g3 c3 (.cons _ _ _ _ _ _ g4 c4 (.cons _ _ _ _ _ _ g5 c5 (.cons _ _ _ _ _ _ g6 c6 .nil))))
  obtain ⟨t, e, f1, sz⟩ := decTy 1048576 (by simp only [wDs]; omega) (by decide) hin
  refine ⟨⟨z0.data.toList, lp, t⟩, ?_, ⟨⟨by simp only; omega, fun p hp => (hp2 p hp).le, f1.le⟩, ⟨b0, hp1, hp2, f1⟩⟩, ?_⟩
  · unfold encVE; rw [← e]
  · simp only [wDs, wD, VE.wt] at sz hp3 ⊢; omega
theorem rf_wt (x : IF) : refsSz x ≤ x.wt := by
  have : ∀ l : List TE, (l.map fun x => x.lower.size + x.upper.size).sum ≤ (l.map TE.wt).sum := by
    intro l
    induction l with
    | nil => simp
    | cons y l ih => simp only [List.map_cons, List.sum_cons, TE.wt] at ih ⊢; omega
  have := this x.types
  unfold refsSz IF.wt; omega
theorem decIF {vs : List Value} {row : List D} (h : RowRD tt Pp 1048576 (cksOf tt 40) vs row) (hw : wDs row ≤ 1048576) : ∃ x : IF, row = encIF x ∧ x.fit ∧ x.wt ≤ wDs row := by
  rw [cks40] at h
  cases h with
  | cons _ _ d0 _ _ _ g0 c0 s0 =>
  cases s0 with
  | cons _ _ d1 _ _ _ g1 c1 s1 =>
  cases s1 with
  | cons _ _ d2 _ _ _ g2 c2 s2 =>
  cases s2 with
  | cons _ _ d3 _ _ _ g3 c3 s3 =>
  cases s3 with
  | cons _ _ d4 _ _ _ g4 c4 s4 =>
  cases s4
  cases g0 with
  | str z0 =>
  cases c0 with
  | str _ b0 =>
  have hw0 := hw
  simp only [wDs, wD] at hw
  obtain ⟨l1, rfl, a1, a2, a3⟩ := list_dec (m := 1048576) (f := encTE) (fun vs row hr hm => decTE hr hm) g1 c1 (by omega)
  obtain ⟨l2, rfl, b1, b2, b3⟩ := list_dec (m := 1048576) (f := encVE) (fun vs row hr hm => decVE hr hm) g2 c2 (by omega)
  obtain ⟨l3, rfl, y1, y2, y3⟩ := list_dec (m := 1048576) (f := encAE) (g := fun _ => 1) (fun vs row hr _ => decAE hr) g3 c3 (by omega)
  obtain ⟨l4, rfl, w1, w2, w3⟩ := list_dec (m := 1048576) (f := encDE) (g := fun _ => 1) (fun vs row hr _ => decDE hr) g4 c4 (by omega)
  have hwt : (IF.mk z0.data.toList l1 l2 l3 l4).wt ≤ wDs [D.str z0.data.toList, encL encTE l1, encL encVE l2, encL encAE l3, encL encDE l4] := by
    rw [sum_ones] at y3 w3
    simp only [wDs, wD, IF.wt] at a3 b3 y3 w3 ⊢; omega
  refine ⟨⟨z0.data.toList, l1, l2, l3, l4⟩, rfl, ⟨⟨by simp only; omega, by simp only; omega, by simp only; omega, by simp only; omega, fun y hy => (a2 y hy).1, fun y hy => (b2 y hy).1⟩, b0, Nat.le_trans (rf_wt _) (Nat.le_trans hwt hw0), a1, b1, y1, w1, fun y hy => (a2 y hy).2, fun y hy => (b2 y hy).2, y2, w2⟩, hwt⟩
theorem decEnv {v : Value} {d : D} (h : RD tt Pp (.slice 40) v d) (hb : Bd 1048576 d) (hw : wD d ≤ 1048576) : ∃ l : List IF, d = encL encIF l ∧ envOk l ∧ (∀ i ∈ l, i.fit) ∧ (l.map IF.wt).sum + 1 ≤ wD d := by
  obtain ⟨l, e, a, b, c⟩ := list_dec (m := 1048576) (f := encIF) (fun vs row hr hm => decIF hr hm) h hb (by omega)
  exact ⟨l, e, ⟨by omega, fun i hi => (b i hi).ok⟩, b, c⟩
end
section
variable {H : Type} {enc : TypeId × Value → H} {W : World} {n base : Nat} {v : Value} {d : DataW H} {p : List MemPlace}
theorem one_row {t : TypeId} {ck : CK} (ht : TS.contains t = true) (hck : cksOf tt t = [ck]) {a : Option Addr} {l c : Nat} (h : DataW.Trod enc Tryz.prog W 0 (fun _ => true) true t (.slice a l c) d p) (hb : YtppmlhanmdamfaaGreatDoor.Rows.uptoBulk d ≤ 1048576) :
    ∃ e, RD tt (AllP W) ck (.slice a l c) e ∧ Bd 1048576 e ∧ wD e ≤ YtppmlhanmdamfaaGreatDoor.Rows.uptoBulk d := by
  obtain ⟨fuel, hf⟩ := h
  obtain ⟨ds, hds, hw⟩ := trod_row (n := 1048576) tt_ok dat (bulk := YtppmlhanmdamfaaGreatDoor.Rows.uptoBulk) Bk.ok fuel t _ _ ht hf hb
  rw [hck] at hds
  cases hds with
  | cons _ _ e _ _ _ h1 h2 t1 =>
    cases t1
    simp only [wDs] at hw
    exact ⟨e, h1, h2, by omega⟩
theorem argE {t : TypeId} (ht : t = 23) (hv : Value.okWide Tryz.prog W .any base t v) (h : DataW.Trod enc Tryz.prog W 0 (fun _ => true) true t v d p) (hb : YtppmlhanmdamfaaGreatDoor.Rows.uptoBulk d ≤ 1048576) :
    ∃ (e : D) (l : List IF), VR tt [] (AllP W) v (.lst 40 e) ∧ e = encL encIF l ∧ envOk l ∧ (∀ i ∈ l, i.fit) ∧ (l.map IF.wt).sum ≤ 1048576 := by
  subst ht
  obtain ⟨a, len, cap, rfl⟩ := okWide_slice Tryz.underlying23 hv
  obtain ⟨e, h1, h2, h3⟩ := one_row (by decide) (by kernel_rfl) h hb
  obtain ⟨l, he, hl, hf, hw⟩ := decEnv h1 h2 (by omega)
  exact ⟨e, l, .lst _ _ _ h1, he, hl, hf, by omega⟩
end
theorem globs {W : World} (h : W.ShapedOpen Tryz.prog) : ∀ b, globOf tt = some b → ∃ m : Int, W.cell? ⟨b, 0, none⟩ = some (.int .i64 m) := by
  intro b hb
  rw [show globOf tt = some 0 by kernel_rfl] at hb
  cases hb
  exact cell_of_shapedOpen_int (t := 3) (zero := #[.int .i64 0]) h (of_decide_eq_true (by kernel_rfl)) (by kernel_rfl) rfl (by kernel_rfl) (by kernel_rfl) Tryz.underlying3
end Go.VC.T07
end

section
namespace Go.Proofs.YtppmlhanmdamfaaGreatDoor
open Go Go.VC Go.VC.T07
open Go.ChangeShapes Go.WideShapes Go.ChangeAt Go.RowKit
def cells1 : DataW Unit → List Value
  | .lit (.int k n) => [.int k n]
  | _ => []
def cells2 : DataW Unit → List Value
  | .agg ds => ds.flatMap cells1
  | d => cells1 d
def cells3 : DataW Unit → List Value
  | .agg ds => ds.flatMap cells2
  | d => cells2 d
def putCells (h : Array Obj) (g : Nat) (cs : List Value) : Array Obj := h.modify g fun
  | .cells _ t frozen => .cells ⟨cs⟩ t frozen
  | o => o
noncomputable def laidWorld (os : Os) : World :=
  let w0 := World.holding Tryz.prog os ⟨#[], #[], []⟩
  { w0 with heap := putCells (putCells (putCells (putCells (putCells w0.heap 4 (cells3 Rows.laid_math_bits_deBruijn32tab)) 5 (cells3 Rows.laid_math_bits_deBruijn64tab)) 1 (cells3 Rows.laid_internal_strconv_uint64pow10)) 3 (cells3 Rows.laid_unicode_utf8_acceptRanges)) 2 (cells3 Rows.laid_unicode_utf8_first) }
theorem laid_met (os : Os) (args : Array Value) : laidMetH Tryz.prog Rows.wellformedMembersUptoRow.laid ((laidWorld os).forCall (fun _ _ => 0) ⟨#[], args, []⟩).memory :=
  laidMetH_of_parts3 (fuel := 8) (laidMet_of_run' 8 (by kernel_rfl) (by kernel_rfl)) (by kernel_rfl) (by kernel_rfl)
end Go.Proofs.YtppmlhanmdamfaaGreatDoor
end
