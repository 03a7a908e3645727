/- Part 6 of the common texts: Z16 Z17 Z18 Z19 Z20 Z21 N1 N3 N4 N5 N6 N7 N10 AW AX MA MB. -/
import Derived.Test.YtppmlhanmdamfaaGreatDoorPart1
import Derived.Test.YtppmlhanmdamfaaGreatDoorPart2
import Derived.Test.YtppmlhanmdamfaaGreatDoorPart3
import Derived.Test.YtppmlhanmdamfaaGreatDoorPart4
import Derived.Test.YtppmlhanmdamfaaGreatDoorPart5
set_option linter.all false
set_option maxRecDepth 100000
set_option maxHeartbeats 16000000

section
namespace Go.VC
def nameL (f : S → Bool) : Option S → List S → S × Int
  | _, [] => ([], 0)
  | none, s :: l => if f s = false then (s, 4) else nameL f (some s) l
  | some p, s :: l => if f s = false then (s, 4) else if s = p then (s, 5) else if slt s p = true then (s, 1) else nameL f (some s) l
def orE (a b : S × Int) : S × Int := if a.2 ≠ 0 then a else b
def eithB (s : S) : Bool := nameB s || typeB s
def namesE (i : IF) : S × Int := orE (nameL typeB none (nmT i)) (orE (nameL nameB none (nmV i)) (orE (nameL eithB none (nmA i)) (orE (nameL eithB none (nmD i)) ([], 0))))
def prevO (l : List S) (j : Nat) : Option S := if j = 0 then none else some (l.getD (j-1) [])
theorem nameL_f {f : S → Bool} {p : Option S} {s : S} {l : List S} (h : f s = false) : nameL f p (s :: l) = (s, 4) := by
  cases p <;> rw [nameL, if_pos h]
theorem nameL_n {f : S → Bool} {s : S} {l : List S} (h : f s = true) : nameL f none (s :: l) = nameL f (some s) l := by
  rw [nameL, if_neg (by rw [h]; decide)]
theorem nameL_5 {f : S → Bool} {p s : S} {l : List S} (h : f s = true) (h2 : s = p) : nameL f (some p) (s :: l) = (s, 5) := by
  rw [nameL, if_neg (by rw [h]; decide), if_pos h2]
theorem nameL_1 {f : S → Bool} {p s : S} {l : List S} (h : f s = true) (h2 : s ≠ p) (h3 : slt s p = true) : nameL f (some p) (s :: l) = (s, 1) := by
  rw [nameL, if_neg (by rw [h]; decide), if_neg h2, if_pos h3]
theorem nameL_s {f : S → Bool} {p s : S} {l : List S} (h : f s = true) (h2 : s ≠ p) (h3 : slt s p = false) : nameL f (some p) (s :: l) = nameL f (some s) l := by
  rw [nameL, if_neg (by rw [h]; decide), if_neg h2, if_neg (by rw [h3]; decide)]
def inL (g : S → Bool) : List S → S × Int
  | [] => ([], 0)
  | s :: l => if g s = true then (s, 5) else inL g l
def diffE (i : IF) : S × Int := orE (inL (nmT i).contains (nmV i)) (inL (fun s => (nmT i).contains s || (nmV i).contains s) (nmA i))
def entL {α : Type} (e : α → Int) (n : α → S) : List α → S × Int
  | [] => ([], 0)
  | x :: l => if e x ≠ 0 then (n x, e x) else entL e n l
noncomputable def entriesE (env : List IF) (i : IF) : S × Int := orE (entL (typE env i) TE.name i.types) (orE (entL (valE env) VE.name i.values) (entL (aliasE env) AE.name i.aliases))
end Go.VC
namespace Go.VC.T07
open Go Go.VC Go.Proofs
theorem F34 {i : IF} (hi : i.fit) {de : D} {c0 : S} {c1 c2 c3 c4 : D} (hc : ifIs i c0 c1 c2 c3 c4) {K : PV → List Ob → Prop} (h : ∀ (s : S) (r : Int), (s, r) = namesE i → K (.tup [.str s, .int .i64 r]) []) :
    FC Tryz.prog tt 34 [] [chkPV de c0 c1 c2 c3 c4] K := by
  refine FC.enter (G := g34) tt_ok mixed ⟨Tryz.func34, by rfl, rfl⟩ rfl rfl rfl ?_
  intro A C L X
  have hneg := negA X.a
  have hlt := ltA X.a
  have hsq := sqA X.a
  have hsl := slA X.a
  have hin4 : ∀ k : Nat, k < 4 → A.inr .i64 (A.add (Int.ofNat k) 1) := by rw [X.a]; exact fun k hk => leaf_inc hk (by decide)
  have nT := hi.nt
  have nV := hi.nv
  have nA := hi.na
  have nD := hi.nd
  cbv
  refine X.call (F71 hi hc fun d0 d1 d2 d3 hd0 hd1 hd2 hd3 => ?_)
  obtain ⟨E0, hE0⟩ : ∃ x, x = nameL typeB none (nmT i) := ⟨_, rfl⟩
  obtain ⟨E1, hE1⟩ : ∃ x, x = nameL nameB none (nmV i) := ⟨_, rfl⟩
  obtain ⟨E2, hE2⟩ : ∃ x, x = nameL eithB none (nmA i) := ⟨_, rfl⟩
  obtain ⟨E3, hE3⟩ : ∃ x, x = nameL eithB none (nmD i) := ⟨_, rfl⟩
  unfold namesE at h
  rw [← hE0, ← hE1, ← hE2, ← hE3] at h
  cbv
  refine X.loop (fun (k : Nat) => ⟨[(16, .int .i64 k), (15, .agg [.lst 9 d0, .lst 9 d1, .lst 9 d2, .lst 9 d3]), (5, .box 2 0), (4, .box 1 0), (1, .box 0 0)], [.box [.lst 40 de, .str c0, .lst 51 c1, .lst 101 c2, .lst 106 c3, .lst 119 c4], .box [.lst 9 d0, .lst 9 d1, .lst 9 d2, .lst 9 d3], .box [.clos 95 [], .clos 96 [], .clos 119 [], .clos 119 []]]⟩) (fun k => k ≤ 4 ∧ (0 < k → E0.2 = 0) ∧ (1 < k → E1.2 = 0) ∧ (2 < k → E2.2 = 0) ∧ (3 < k → E3.2 = 0)) (fun k => 4 - k) 0 ⟨Nat.zero_le _, by simp, by simp, by simp, by simp⟩ ?_ ?_
  · (cbv; repeat' apply And.intro); all_goals try first | trivial | rfl | (rw [X.a]; rfl)
  rintro k ⟨hk, w0, w1, w2, w3⟩
  have hk5 : k = 0 ∨ k = 1 ∨ k = 2 ∨ k = 3 ∨ k = 4 := by omega
  rcases hk5 with rfl | rfl | rfl | rfl | rfl
  · have hlit1 : A.lt (Int.ofNat 0) 4 = true := by rw [hlt]; rfl
    have hlit0 : A.lt (Int.ofNat 0) 4 ≠ false := by rw [hlit1]; decide
    have hll : (nmT i).length ≤ 1048576 := by rw [nmT, List.length_map]; exact nT
    have hsz : ∀ s ∈ nmT i, s.length ≤ 4294967295 := by
      intro s hs
      obtain ⟨x, hx, rfl⟩ := List.mem_map.1 hs
      exact Nat.le_trans (hi.t x hx).n (by decide)
    have hans : ∀ (s : S) (r : Int), E0 = (s, r) → r ≠ 0 → (s, r) = orE E0 (orE E1 (orE E2 (orE E3 ([], 0)))) := by
      intro s r e hr
      rw [orE, if_pos (by rw [e]; exact hr), e]
    obtain ⟨n_d0, hn_d0, hlen_d0⟩ := lenOf hd0
    cbv
    refine ⟨fun h1 => ?_, fun h1 => absurd h1 hlit0⟩
    cbv
    refine X.loop (fun (j : Nat) => ⟨[(22, .int .i64 j), (21, .int .i64 (A.len d0)), (20, .lst 9 d0), (7, .lst 9 d0), (6, .int .i64 0), (16, .int .i64 0), (15, .agg [.lst 9 d0, .lst 9 d1, .lst 9 d2, .lst 9 d3]), (5, .box 2 0), (4, .box 1 0), (1, .box 0 0)], [.box [.lst 40 de, .str c0, .lst 51 c1, .lst 101 c2, .lst 106 c3, .lst 119 c4], .box [.lst 9 d0, .lst 9 d1, .lst 9 d2, .lst 9 d3], .box [.clos 95 [], .clos 96 [], .clos 119 [], .clos 119 []]]⟩) (fun j => j ≤ n_d0 ∧ E0 = nameL typeB (prevO (nmT i) j) ((nmT i).drop j)) (fun j => n_d0 - j) 0 ⟨Nat.zero_le _, hE0⟩ ?_ ?_
    · (cbv; repeat' apply And.intro); all_goals try first | trivial | rfl | (rw [X.a]; rfl)
    rintro j ⟨hj, hq⟩
    cbv
    refine ⟨fun h1 => ?_, fun h1 => ?_⟩
    · have h5 : j < (nmT i).length := by obtain rfl := X.a; simp only [hlen_d0, SD, bNot] at h1; omega
      have hid : A.idx (Int.ofNat j) (A.len d0) := by rw [X.a, hd0]; exact leaf_idx h5
      have hin : A.inr .i64 (A.add (Int.ofNat j) 1) := by rw [X.a]; exact leaf_inc h5 (by omega)
      have hcell : A.asStr (A.cell d0 (Int.ofNat j) 0) = (nmT i)[j] := by rw [cellAt X.a hd0 h5, X.a]; rfl
      have hcl : (A.asStr (A.cell d0 (Int.ofNat j) 0)).length ≤ 4294967295 := by rw [hcell]; exact hsz _ (List.getElem_mem h5)
      have hin1 : A.lt 0 (Int.ofNat j) = true → A.inr .i64 (A.sub (Int.ofNat j) 1) := by
        intro h; rw [hlt] at h; have h := of_decide_eq_true h; rw [X.a]; simp only [SD, bNot] at *; omega
      have hid1 : A.lt 0 (Int.ofNat j) = true → A.idx (A.sub (Int.ofNat j) 1) (A.len d0) := by
        intro h; rw [hlt] at h; have h := of_decide_eq_true h; rw [X.a] at *; simp only [hlen_d0, SD, bNot] at *; omega
      have hcp : A.lt 0 (Int.ofNat j) = true → ∃ p, prevO (nmT i) j = some p ∧ A.asStr (A.cell d0 (A.sub (Int.ofNat j) 1) 0) = p := by
        intro h; rw [hlt] at h; have h := of_decide_eq_true h
        simp only [Int.ofNat_eq_natCast] at h
        have hjp : j - 1 < (nmT i).length := by omega
        refine ⟨(nmT i)[j-1], ?_, ?_⟩
        · rw [prevO, if_neg (by omega)]; simp [List.getD, hjp]
        · rw [show A.sub (Int.ofNat j) 1 = Int.ofNat (j-1) by rw [X.a]; simp only [SD, bNot]; omega, cellAt X.a hd0 hjp, X.a]; rfl
      have hcn : A.lt 0 (Int.ofNat j) = false → prevO (nmT i) j = none := by
        intro h; rw [hlt] at h; have h := of_decide_eq_false h
        simp only [Int.ofNat_eq_natCast] at h
        rw [prevO, if_pos (by omega)]
      have hpr : prevO (nmT i) (j+1) = some (nmT i)[j] := by rw [prevO, if_neg (by omega)]; simp [List.getD, h5]
      obtain ⟨sj, hsj⟩ : ∃ x, x = (nmT i)[j] := ⟨_, rfl⟩
      rw [List.drop_eq_getElem_cons h5, ← hsj] at hq
      rw [← hsj] at hpr hcell
      cbv
      repeat' (first | apply And.intro | exact fun (_ : FF) => by kernel_rfl | (intro h2; cbv) | apply Or.inl)
      any_goals exact hid
      refine X.call (F95 hcl fun b hb => ?_)
      have hb : b = typeB sj := by rw [← hcell]; exact hb
      cases hz : A.lt 0 (Int.ofNat j) with
      | true =>
        obtain ⟨p, hp1, hp2⟩ := hcp hz
        rw [hp1] at hq
        cbv
        repeat' (first | apply And.intro | exact fun (_ : FF) => by kernel_rfl | (intro h2; first | exact absurd ((hz).symm.trans h2) (by decide) | cbv) | apply Or.inl)
        any_goals first | exact hin | exact hin1 hz | exact hid1 hz
        · have h2 : A.not b = true := by assumption
          rw [hneg, hb] at h2
          refine h _ _ (hans _ _ ?_ (by decide))
          rw [hq, nameL_f (by simpa using h2)]; exact Prod.ext hcell.symm rfl
        · have h2 : A.not b = false := by assumption
          have h3 : A.seq (A.asStr (A.cell d0 (Int.ofNat j) 0)) (A.asStr (A.cell d0 (A.sub (Int.ofNat j) 1) 0)) = true := by assumption
          rw [hneg, hb] at h2
          rw [hcell, hp2, hsq] at h3
          refine h _ _ (hans _ _ ?_ (by decide))
          rw [hq, nameL_5 (by simpa using h2) (by simpa using h3)]; exact Prod.ext hcell.symm rfl
        · have h2 : A.not b = false := by assumption
          have h3 : A.seq (A.asStr (A.cell d0 (Int.ofNat j) 0)) (A.asStr (A.cell d0 (A.sub (Int.ofNat j) 1) 0)) = false := by assumption
          have h4 : A.slt (A.asStr (A.cell d0 (Int.ofNat j) 0)) (A.asStr (A.cell d0 (A.sub (Int.ofNat j) 1) 0)) = true := by assumption
          rw [hneg, hb] at h2
          rw [hcell, hp2, hsq] at h3
          rw [hcell, hp2, hsl] at h4
          refine h _ _ (hans _ _ ?_ (by decide))
          rw [hq, nameL_1 (by simpa using h2) (by simpa using h3) h4]; exact Prod.ext hcell.symm rfl
        · have h2 : A.not b = false := by assumption
          have h3 : A.seq (A.asStr (A.cell d0 (Int.ofNat j) 0)) (A.asStr (A.cell d0 (A.sub (Int.ofNat j) 1) 0)) = false := by assumption
          have h4 : A.slt (A.asStr (A.cell d0 (Int.ofNat j) 0)) (A.asStr (A.cell d0 (A.sub (Int.ofNat j) 1) 0)) = false := by assumption
          rw [hneg, hb] at h2
          rw [hcell, hp2, hsq] at h3
          rw [hcell, hp2, hsl] at h4
          refine ⟨j+1, ⟨by omega, ?_⟩, by omega, ?_⟩
          · rw [hpr, hq, nameL_s (by simpa using h2) (by simpa using h3) h4]
          (cbv; repeat' apply And.intro); all_goals try first | trivial | rfl | (rw [X.a]; rfl)
      | false =>
        rw [hcn hz] at hq
        cbv
        repeat' (first | apply And.intro | exact fun (_ : FF) => by kernel_rfl | (intro h2; first | exact absurd ((hz).symm.trans h2) (by decide) | cbv) | apply Or.inl)
        any_goals first | exact hin
        · have h2 : A.not b = true := by assumption
          rw [hneg, hb] at h2
          refine h _ _ (hans _ _ ?_ (by decide))
          rw [hq, nameL_f (by simpa using h2)]; exact Prod.ext hcell.symm rfl
        · have h2 : A.not b = false := by assumption
          rw [hneg, hb] at h2
          refine ⟨j+1, ⟨by omega, ?_⟩, by omega, ?_⟩
          · rw [hpr, hq, nameL_n (by simpa using h2)]
          (cbv; repeat' apply And.intro); all_goals try first | trivial | rfl | (rw [X.a]; rfl)
    · have h5 : j = n_d0 := by obtain rfl := X.a; simp only [hlen_d0, SD, bNot] at h1; omega
      rw [h5, hn_d0, List.drop_length] at hq
      have hz : E0 = ([], 0) := by rw [hq]; unfold nameL; cases prevO (nmT i) ((nmT i).length) <;> rfl
      have hin : A.inr .i64 (A.add (Int.ofNat 0) 1) := hin4 0 (by decide)
      cbv
      repeat' (first | apply And.intro | exact fun (_ : FF) => by kernel_rfl | (intro h2; cbv) | apply Or.inl)
      any_goals exact hin
      refine ⟨1, ⟨by decide, fun _ => by rw [hz], fun h => absurd h (by decide), fun h => absurd h (by decide), fun h => absurd h (by decide)⟩, by decide, ?_⟩
      (cbv; repeat' apply And.intro); all_goals try first | trivial | rfl | (rw [X.a]; rfl)
  · have hlit1 : A.lt (Int.ofNat 1) 4 = true := by rw [hlt]; rfl
    have hlit0 : A.lt (Int.ofNat 1) 4 ≠ false := by rw [hlit1]; decide
    have hll : (nmV i).length ≤ 1048576 := by rw [nmV, List.length_map]; exact nV
    have hsz : ∀ s ∈ nmV i, s.length ≤ 4294967295 := by
      intro s hs
      obtain ⟨x, hx, rfl⟩ := List.mem_map.1 hs
      exact Nat.le_trans (hi.v x hx).n (by decide)
    have hans : ∀ (s : S) (r : Int), E1 = (s, r) → r ≠ 0 → (s, r) = orE E0 (orE E1 (orE E2 (orE E3 ([], 0)))) := by
      intro s r e hr
      rw [orE, if_neg (by rw [w0 (by decide)]; decide)]; rw [orE, if_pos (by rw [e]; exact hr), e]
    obtain ⟨n_d1, hn_d1, hlen_d1⟩ := lenOf hd1
    cbv
    refine ⟨fun h1 => ?_, fun h1 => absurd h1 hlit0⟩
    cbv
    refine X.loop (fun (j : Nat) => ⟨[(22, .int .i64 j), (21, .int .i64 (A.len d1)), (20, .lst 9 d1), (7, .lst 9 d1), (6, .int .i64 1), (16, .int .i64 1), (15, .agg [.lst 9 d0, .lst 9 d1, .lst 9 d2, .lst 9 d3]), (5, .box 2 0), (4, .box 1 0), (1, .box 0 0)], [.box [.lst 40 de, .str c0, .lst 51 c1, .lst 101 c2, .lst 106 c3, .lst 119 c4], .box [.lst 9 d0, .lst 9 d1, .lst 9 d2, .lst 9 d3], .box [.clos 95 [], .clos 96 [], .clos 119 [], .clos 119 []]]⟩) (fun j => j ≤ n_d1 ∧ E1 = nameL nameB (prevO (nmV i) j) ((nmV i).drop j)) (fun j => n_d1 - j) 0 ⟨Nat.zero_le _, hE1⟩ ?_ ?_
    · (cbv; repeat' apply And.intro); all_goals try first | trivial | rfl | (rw [X.a]; rfl)
    rintro j ⟨hj, hq⟩
    cbv
    refine ⟨fun h1 => ?_, fun h1 => ?_⟩
    · have h5 : j < (nmV i).length := by obtain rfl := X.a; simp only [hlen_d1, SD, bNot] at h1; omega
      have hid : A.idx (Int.ofNat j) (A.len d1) := by rw [X.a, hd1]; exact leaf_idx h5
      have hin : A.inr .i64 (A.add (Int.ofNat j) 1) := by rw [X.a]; exact leaf_inc h5 (by omega)
      have hcell : A.asStr (A.cell d1 (Int.ofNat j) 0) = (nmV i)[j] := by rw [cellAt X.a hd1 h5, X.a]; rfl
      have hcl : (A.asStr (A.cell d1 (Int.ofNat j) 0)).length ≤ 4294967295 := by rw [hcell]; exact hsz _ (List.getElem_mem h5)
      have hin1 : A.lt 0 (Int.ofNat j) = true → A.inr .i64 (A.sub (Int.ofNat j) 1) := by
        intro h; rw [hlt] at h; have h := of_decide_eq_true h; rw [X.a]; simp only [SD, bNot] at *; omega
      have hid1 : A.lt 0 (Int.ofNat j) = true → A.idx (A.sub (Int.ofNat j) 1) (A.len d1) := by
        intro h; rw [hlt] at h; have h := of_decide_eq_true h; rw [X.a] at *; simp only [hlen_d1, SD, bNot] at *; omega
      have hcp : A.lt 0 (Int.ofNat j) = true → ∃ p, prevO (nmV i) j = some p ∧ A.asStr (A.cell d1 (A.sub (Int.ofNat j) 1) 0) = p := by
        intro h; rw [hlt] at h; have h := of_decide_eq_true h
        simp only [Int.ofNat_eq_natCast] at h
        have hjp : j - 1 < (nmV i).length := by omega
        refine ⟨(nmV i)[j-1], ?_, ?_⟩
        · rw [prevO, if_neg (by omega)]; simp [List.getD, hjp]
        · rw [show A.sub (Int.ofNat j) 1 = Int.ofNat (j-1) by rw [X.a]; simp only [SD, bNot]; omega, cellAt X.a hd1 hjp, X.a]; rfl
      have hcn : A.lt 0 (Int.ofNat j) = false → prevO (nmV i) j = none := by
        intro h; rw [hlt] at h; have h := of_decide_eq_false h
        simp only [Int.ofNat_eq_natCast] at h
        rw [prevO, if_pos (by omega)]
      have hpr : prevO (nmV i) (j+1) = some (nmV i)[j] := by rw [prevO, if_neg (by omega)]; simp [List.getD, h5]
      obtain ⟨sj, hsj⟩ : ∃ x, x = (nmV i)[j] := ⟨_, rfl⟩
      rw [List.drop_eq_getElem_cons h5, ← hsj] at hq
      rw [← hsj] at hpr hcell
      cbv
      repeat' (first | apply And.intro | exact fun (_ : FF) => by kernel_rfl | (intro h2; cbv) | apply Or.inl)
      any_goals exact hid
      refine X.call (F96 hcl fun b hb => ?_)
      have hb : b = nameB sj := by rw [← hcell]; exact hb
      cases hz : A.lt 0 (Int.ofNat j) with
      | true =>
        obtain ⟨p, hp1, hp2⟩ := hcp hz
        rw [hp1] at hq
        cbv
        repeat' (first | apply And.intro | exact fun (_ : FF) => by kernel_rfl | (intro h2; first | exact absurd ((hz).symm.trans h2) (by decide) | cbv) | apply Or.inl)
        any_goals first | exact hin | exact hin1 hz | exact hid1 hz
        · have h2 : A.not b = true := by assumption
          rw [hneg, hb] at h2
          refine h _ _ (hans _ _ ?_ (by decide))
          rw [hq, nameL_f (by simpa using h2)]; exact Prod.ext hcell.symm rfl
        · have h2 : A.not b = false := by assumption
          have h3 : A.seq (A.asStr (A.cell d1 (Int.ofNat j) 0)) (A.asStr (A.cell d1 (A.sub (Int.ofNat j) 1) 0)) = true := by assumption
          rw [hneg, hb] at h2
          rw [hcell, hp2, hsq] at h3
          refine h _ _ (hans _ _ ?_ (by decide))
          rw [hq, nameL_5 (by simpa using h2) (by simpa using h3)]; exact Prod.ext hcell.symm rfl
        · have h2 : A.not b = false := by assumption
          have h3 : A.seq (A.asStr (A.cell d1 (Int.ofNat j) 0)) (A.asStr (A.cell d1 (A.sub (Int.ofNat j) 1) 0)) = false := by assumption
          have h4 : A.slt (A.asStr (A.cell d1 (Int.ofNat j) 0)) (A.asStr (A.cell d1 (A.sub (Int.ofNat j) 1) 0)) = true := by assumption
          rw [hneg, hb] at h2
          rw [hcell, hp2, hsq] at h3
          rw [hcell, hp2, hsl] at h4
          refine h _ _ (hans _ _ ?_ (by decide))
          rw [hq, nameL_1 (by simpa using h2) (by simpa using h3) h4]; exact Prod.ext hcell.symm rfl
        · have h2 : A.not b = false := by assumption
          have h3 : A.seq (A.asStr (A.cell d1 (Int.ofNat j) 0)) (A.asStr (A.cell d1 (A.sub (Int.ofNat j) 1) 0)) = false := by assumption
          have h4 : A.slt (A.asStr (A.cell d1 (Int.ofNat j) 0)) (A.asStr (A.cell d1 (A.sub (Int.ofNat j) 1) 0)) = false := by assumption
          rw [hneg, hb] at h2
          rw [hcell, hp2, hsq] at h3
          rw [hcell, hp2, hsl] at h4
          refine ⟨j+1, ⟨by omega, ?_⟩, by omega, ?_⟩
          · rw [hpr, hq, nameL_s (by simpa using h2) (by simpa using h3) h4]
          (cbv; repeat' apply And.intro); all_goals try first | trivial | rfl | (rw [X.a]; rfl)
      | false =>
        rw [hcn hz] at hq
        cbv
        repeat' (first | apply And.intro | exact fun (_ : FF) => by kernel_rfl | (intro h2; first | exact absurd ((hz).symm.trans h2) (by decide) | cbv) | apply Or.inl)
        any_goals first | exact hin
        · have h2 : A.not b = true := by assumption
          rw [hneg, hb] at h2
          refine h _ _ (hans _ _ ?_ (by decide))
          rw [hq, nameL_f (by simpa using h2)]; exact Prod.ext hcell.symm rfl
        · have h2 : A.not b = false := by assumption
          rw [hneg, hb] at h2
          refine ⟨j+1, ⟨by omega, ?_⟩, by omega, ?_⟩
          · rw [hpr, hq, nameL_n (by simpa using h2)]
          (cbv; repeat' apply And.intro); all_goals try first | trivial | rfl | (rw [X.a]; rfl)
    · have h5 : j = n_d1 := by obtain rfl := X.a; simp only [hlen_d1, SD, bNot] at h1; omega
      rw [h5, hn_d1, List.drop_length] at hq
      have hz : E1 = ([], 0) := by rw [hq]; unfold nameL; cases prevO (nmV i) ((nmV i).length) <;> rfl
      have hin : A.inr .i64 (A.add (Int.ofNat 1) 1) := hin4 1 (by decide)
      cbv
      repeat' (first | apply And.intro | exact fun (_ : FF) => by kernel_rfl | (intro h2; cbv) | apply Or.inl)
      any_goals exact hin
      refine ⟨2, ⟨by decide, fun _ => w0 (by decide), fun _ => by rw [hz], fun h => absurd h (by decide), fun h => absurd h (by decide)⟩, by decide, ?_⟩
      (cbv; repeat' apply And.intro); all_goals try first | trivial | rfl | (rw [X.a]; rfl)
  · have hlit1 : A.lt (Int.ofNat 2) 4 = true := by rw [hlt]; rfl
    have hlit0 : A.lt (Int.ofNat 2) 4 ≠ false := by rw [hlit1]; decide
    have hll : (nmA i).length ≤ 1048576 := by rw [nmA, List.length_map]; exact nA
    have hsz : ∀ s ∈ nmA i, s.length ≤ 4294967295 := by
      intro s hs
      obtain ⟨x, hx, rfl⟩ := List.mem_map.1 hs
      exact Nat.le_trans (hi.a x hx).n (by decide)
    have hans : ∀ (s : S) (r : Int), E2 = (s, r) → r ≠ 0 → (s, r) = orE E0 (orE E1 (orE E2 (orE E3 ([], 0)))) := by
      intro s r e hr
      rw [orE, if_neg (by rw [w0 (by decide)]; decide)]; rw [orE, if_neg (by rw [w1 (by decide)]; decide)]; rw [orE, if_pos (by rw [e]; exact hr), e]
    obtain ⟨n_d2, hn_d2, hlen_d2⟩ := lenOf hd2
    cbv
    refine ⟨fun h1 => ?_, fun h1 => absurd h1 hlit0⟩
    cbv
    refine X.loop (fun (j : Nat) => ⟨[(22, .int .i64 j), (21, .int .i64 (A.len d2)), (20, .lst 9 d2), (7, .lst 9 d2), (6, .int .i64 2), (16, .int .i64 2), (15, .agg [.lst 9 d0, .lst 9 d1, .lst 9 d2, .lst 9 d3]), (5, .box 2 0), (4, .box 1 0), (1, .box 0 0)], [.box [.lst 40 de, .str c0, .lst 51 c1, .lst 101 c2, .lst 106 c3, .lst 119 c4], .box [.lst 9 d0, .lst 9 d1, .lst 9 d2, .lst 9 d3], .box [.clos 95 [], .clos 96 [], .clos 119 [], .clos 119 []]]⟩) (fun j => j ≤ n_d2 ∧ E2 = nameL eithB (prevO (nmA i) j) ((nmA i).drop j)) (fun j => n_d2 - j) 0 ⟨Nat.zero_le _, hE2⟩ ?_ ?_
    · (cbv; repeat' apply And.intro); all_goals try first | trivial | rfl | (rw [X.a]; rfl)
    rintro j ⟨hj, hq⟩
    cbv
    refine ⟨fun h1 => ?_, fun h1 => ?_⟩
    · have h5 : j < (nmA i).length := by obtain rfl := X.a; simp only [hlen_d2, SD, bNot] at h1; omega
      have hid : A.idx (Int.ofNat j) (A.len d2) := by rw [X.a, hd2]; exact leaf_idx h5
      have hin : A.inr .i64 (A.add (Int.ofNat j) 1) := by rw [X.a]; exact leaf_inc h5 (by omega)
      have hcell : A.asStr (A.cell d2 (Int.ofNat j) 0) = (nmA i)[j] := by rw [cellAt X.a hd2 h5, X.a]; rfl
      have hcl : (A.asStr (A.cell d2 (Int.ofNat j) 0)).length ≤ 4294967295 := by rw [hcell]; exact hsz _ (List.getElem_mem h5)
      have hin1 : A.lt 0 (Int.ofNat j) = true → A.inr .i64 (A.sub (Int.ofNat j) 1) := by
        intro h; rw [hlt] at h; have h := of_decide_eq_true h; rw [X.a]; simp only [SD, bNot] at *; omega
      have hid1 : A.lt 0 (Int.ofNat j) = true → A.idx (A.sub (Int.ofNat j) 1) (A.len d2) := by
        intro h; rw [hlt] at h; have h := of_decide_eq_true h; rw [X.a] at *; simp only [hlen_d2, SD, bNot] at *; omega
      have hcp : A.lt 0 (Int.ofNat j) = true → ∃ p, prevO (nmA i) j = some p ∧ A.asStr (A.cell d2 (A.sub (Int.ofNat j) 1) 0) = p := by
        intro h; rw [hlt] at h; have h := of_decide_eq_true h
        simp only [Int.ofNat_eq_natCast] at h
        have hjp : j - 1 < (nmA i).length := by omega
        refine ⟨(nmA i)[j-1], ?_, ?_⟩
        · rw [prevO, if_neg (by omega)]; simp [List.getD, hjp]
        · rw [show A.sub (Int.ofNat j) 1 = Int.ofNat (j-1) by rw [X.a]; simp only [SD, bNot]; omega, cellAt X.a hd2 hjp, X.a]; rfl
      have hcn : A.lt 0 (Int.ofNat j) = false → prevO (nmA i) j = none := by
        intro h; rw [hlt] at h; have h := of_decide_eq_false h
        simp only [Int.ofNat_eq_natCast] at h
        rw [prevO, if_pos (by omega)]
      have hpr : prevO (nmA i) (j+1) = some (nmA i)[j] := by rw [prevO, if_neg (by omega)]; simp [List.getD, h5]
      obtain ⟨sj, hsj⟩ : ∃ x, x = (nmA i)[j] := ⟨_, rfl⟩
      rw [List.drop_eq_getElem_cons h5, ← hsj] at hq
      rw [← hsj] at hpr hcell
      cbv
      repeat' (first | apply And.intro | exact fun (_ : FF) => by kernel_rfl | (intro h2; cbv) | apply Or.inl)
      any_goals exact hid
      refine X.call (F119 hcl fun b hb => ?_)
      have hb : b = eithB sj := by rw [← hcell]; exact hb
      cases hz : A.lt 0 (Int.ofNat j) with
      | true =>
        obtain ⟨p, hp1, hp2⟩ := hcp hz
        rw [hp1] at hq
        cbv
        repeat' (first | apply And.intro | exact fun (_ : FF) => by kernel_rfl | (intro h2; first | exact absurd ((hz).symm.trans h2) (by decide) | cbv) | apply Or.inl)
        any_goals first | exact hin | exact hin1 hz | exact hid1 hz
        · have h2 : A.not b = true := by assumption
          rw [hneg, hb] at h2
          refine h _ _ (hans _ _ ?_ (by decide))
          rw [hq, nameL_f (by simpa using h2)]; exact Prod.ext hcell.symm rfl
        · have h2 : A.not b = false := by assumption
          have h3 : A.seq (A.asStr (A.cell d2 (Int.ofNat j) 0)) (A.asStr (A.cell d2 (A.sub (Int.ofNat j) 1) 0)) = true := by assumption
          rw [hneg, hb] at h2
          rw [hcell, hp2, hsq] at h3
          refine h _ _ (hans _ _ ?_ (by decide))
          rw [hq, nameL_5 (by simpa using h2) (by simpa using h3)]; exact Prod.ext hcell.symm rfl
        · have h2 : A.not b = false := by assumption
          have h3 : A.seq (A.asStr (A.cell d2 (Int.ofNat j) 0)) (A.asStr (A.cell d2 (A.sub (Int.ofNat j) 1) 0)) = false := by assumption
          have h4 : A.slt (A.asStr (A.cell d2 (Int.ofNat j) 0)) (A.asStr (A.cell d2 (A.sub (Int.ofNat j) 1) 0)) = true := by assumption
          rw [hneg, hb] at h2
          rw [hcell, hp2, hsq] at h3
          rw [hcell, hp2, hsl] at h4
          refine h _ _ (hans _ _ ?_ (by decide))
          rw [hq, nameL_1 (by simpa using h2) (by simpa using h3) h4]; exact Prod.ext hcell.symm rfl
        · have h2 : A.not b = false := by assumption
          have h3 : A.seq (A.asStr (A.cell d2 (Int.ofNat j) 0)) (A.asStr (A.cell d2 (A.sub (Int.ofNat j) 1) 0)) = false := by assumption
          have h4 : A.slt (A.asStr (A.cell d2 (Int.ofNat j) 0)) (A.asStr (A.cell d2 (A.sub (Int.ofNat j) 1) 0)) = false := by assumption
          rw [hneg, hb] at h2
          rw [hcell, hp2, hsq] at h3
          rw [hcell, hp2, hsl] at h4
          refine ⟨j+1, ⟨by omega, ?_⟩, by omega, ?_⟩
          · rw [hpr, hq, nameL_s (by simpa using h2) (by simpa using h3) h4]
          (cbv; repeat' apply And.intro); all_goals try first | trivial | rfl | (rw [X.a]; rfl)
      | false =>
        rw [hcn hz] at hq
        cbv
        repeat' (first | apply And.intro | exact fun (_ : FF) => by kernel_rfl | (intro h2; first | exact absurd ((hz).symm.trans h2) (by decide) | cbv) | apply Or.inl)
        any_goals first | exact hin
        · have h2 : A.not b = true := by assumption
          rw [hneg, hb] at h2
          refine h _ _ (hans _ _ ?_ (by decide))
          rw [hq, nameL_f (by simpa using h2)]; exact Prod.ext hcell.symm rfl
        · have h2 : A.not b = false := by assumption
          rw [hneg, hb] at h2
          refine ⟨j+1, ⟨by omega, ?_⟩, by omega, ?_⟩
          · rw [hpr, hq, nameL_n (by simpa using h2)]
          (cbv; repeat' apply And.intro); all_goals try first | trivial | rfl | (rw [X.a]; rfl)
    · have h5 : j = n_d2 := by obtain rfl := X.a; simp only [hlen_d2, SD, bNot] at h1; omega
      rw [h5, hn_d2, List.drop_length] at hq
      have hz : E2 = ([], 0) := by rw [hq]; unfold nameL; cases prevO (nmA i) ((nmA i).length) <;> rfl
      have hin : A.inr .i64 (A.add (Int.ofNat 2) 1) := hin4 2 (by decide)
      cbv
      repeat' (first | apply And.intro | exact fun (_ : FF) => by kernel_rfl | (intro h2; cbv) | apply Or.inl)
      any_goals exact hin
      refine ⟨3, ⟨by decide, fun _ => w0 (by decide), fun _ => w1 (by decide), fun _ => by rw [hz], fun h => absurd h (by decide)⟩, by decide, ?_⟩
      (cbv; repeat' apply And.intro); all_goals try first | trivial | rfl | (rw [X.a]; rfl)
  · have hlit1 : A.lt (Int.ofNat 3) 4 = true := by rw [hlt]; rfl
    have hlit0 : A.lt (Int.ofNat 3) 4 ≠ false := by rw [hlit1]; decide
    have hll : (nmD i).length ≤ 1048576 := by rw [nmD, List.length_map]; exact nD
    have hsz : ∀ s ∈ nmD i, s.length ≤ 4294967295 := by
      intro s hs
      obtain ⟨x, hx, rfl⟩ := List.mem_map.1 hs
      exact Nat.le_trans (hi.d x hx).n (by decide)
    have hans : ∀ (s : S) (r : Int), E3 = (s, r) → r ≠ 0 → (s, r) = orE E0 (orE E1 (orE E2 (orE E3 ([], 0)))) := by
      intro s r e hr
      rw [orE, if_neg (by rw [w0 (by decide)]; decide)]; rw [orE, if_neg (by rw [w1 (by decide)]; decide)]; rw [orE, if_neg (by rw [w2 (by decide)]; decide)]; rw [orE, if_pos (by rw [e]; exact hr), e]
    obtain ⟨n_d3, hn_d3, hlen_d3⟩ := lenOf hd3
    cbv
    refine ⟨fun h1 => ?_, fun h1 => absurd h1 hlit0⟩
    cbv
    refine X.loop (fun (j : Nat) => ⟨[(22, .int .i64 j), (21, .int .i64 (A.len d3)), (20, .lst 9 d3), (7, .lst 9 d3), (6, .int .i64 3), (16, .int .i64 3), (15, .agg [.lst 9 d0, .lst 9 d1, .lst 9 d2, .lst 9 d3]), (5, .box 2 0), (4, .box 1 0), (1, .box 0 0)], [.box [.lst 40 de, .str c0, .lst 51 c1, .lst 101 c2, .lst 106 c3, .lst 119 c4], .box [.lst 9 d0, .lst 9 d1, .lst 9 d2, .lst 9 d3], .box [.clos 95 [], .clos 96 [], .clos 119 [], .clos 119 []]]⟩) (fun j => j ≤ n_d3 ∧ E3 = nameL eithB (prevO (nmD i) j) ((nmD i).drop j)) (fun j => n_d3 - j) 0 ⟨Nat.zero_le _, hE3⟩ ?_ ?_
    · (cbv; repeat' apply And.intro); all_goals try first | trivial | rfl | (rw [X.a]; rfl)
    rintro j ⟨hj, hq⟩
    cbv
    refine ⟨fun h1 => ?_, fun h1 => ?_⟩
    · have h5 : j < (nmD i).length := by obtain rfl := X.a; simp only [hlen_d3, SD, bNot] at h1; omega
      have hid : A.idx (Int.ofNat j) (A.len d3) := by rw [X.a, hd3]; exact leaf_idx h5
      have hin : A.inr .i64 (A.add (Int.ofNat j) 1) := by rw [X.a]; exact leaf_inc h5 (by omega)
      have hcell : A.asStr (A.cell d3 (Int.ofNat j) 0) = (nmD i)[j] := by rw [cellAt X.a hd3 h5, X.a]; rfl
      have hcl : (A.asStr (A.cell d3 (Int.ofNat j) 0)).length ≤ 4294967295 := by rw [hcell]; exact hsz _ (List.getElem_mem h5)
      have hin1 : A.lt 0 (Int.ofNat j) = true → A.inr .i64 (A.sub (Int.ofNat j) 1) := by
        intro h; rw [hlt] at h; have h := of_decide_eq_true h; rw [X.a]; simp only [SD, bNot] at *; omega
      have hid1 : A.lt 0 (Int.ofNat j) = true → A.idx (A.sub (Int.ofNat j) 1) (A.len d3) := by
        intro h; rw [hlt] at h; have h := of_decide_eq_true h; rw [X.a] at *; simp only [hlen_d3, SD, bNot] at *; omega
      have hcp : A.lt 0 (Int.ofNat j) = true → ∃ p, prevO (nmD i) j = some p ∧ A.asStr (A.cell d3 (A.sub (Int.ofNat j) 1) 0) = p := by
        intro h; rw [hlt] at h; have h := of_decide_eq_true h
        simp only [Int.ofNat_eq_natCast] at h
        have hjp : j - 1 < (nmD i).length := by omega
        refine ⟨(nmD i)[j-1], ?_, ?_⟩
        · rw [prevO, if_neg (by omega)]; simp [List.getD, hjp]
        · rw [show A.sub (Int.ofNat j) 1 = Int.ofNat (j-1) by rw [X.a]; simp only [SD, bNot]; omega, cellAt X.a hd3 hjp, X.a]; rfl
      have hcn : A.lt 0 (Int.ofNat j) = false → prevO (nmD i) j = none := by
        intro h; rw [hlt] at h; have h := of_decide_eq_false h
        simp only [Int.ofNat_eq_natCast] at h
        rw [prevO, if_pos (by omega)]
      have hpr : prevO (nmD i) (j+1) = some (nmD i)[j] := by rw [prevO, if_neg (by omega)]; simp [List.getD, h5]
      obtain ⟨sj, hsj⟩ : ∃ x, x = (nmD i)[j] := ⟨_, rfl⟩
      rw [List.drop_eq_getElem_cons h5, ← hsj] at hq
      rw [← hsj] at hpr hcell
      cbv
      repeat' (first | apply And.intro | exact fun (_ : FF) => by kernel_rfl | (intro h2; cbv) | apply Or.inl)
      any_goals exact hid
      refine X.call (F119 hcl fun b hb => ?_)
      have hb : b = eithB sj := by rw [← hcell]; exact hb
      cases hz : A.lt 0 (Int.ofNat j) with
      | true =>
        obtain ⟨p, hp1, hp2⟩ := hcp hz
        rw [hp1] at hq
        cbv
        repeat' (first | apply And.intro | exact fun (_ : FF) => by kernel_rfl | (intro h2; first | exact absurd ((hz).symm.trans h2) (by decide) | cbv) | apply Or.inl)
        any_goals first | exact hin | exact hin1 hz | exact hid1 hz
        · have h2 : A.not b = true := by assumption
          rw [hneg, hb] at h2
          refine h _ _ (hans _ _ ?_ (by decide))
          rw [hq, nameL_f (by simpa using h2)]; exact Prod.ext hcell.symm rfl
        · have h2 : A.not b = false := by assumption
          have h3 : A.seq (A.asStr (A.cell d3 (Int.ofNat j) 0)) (A.asStr (A.cell d3 (A.sub (Int.ofNat j) 1) 0)) = true := by assumption
          rw [hneg, hb] at h2
          rw [hcell, hp2, hsq] at h3
          refine h _ _ (hans _ _ ?_ (by decide))
          rw [hq, nameL_5 (by simpa using h2) (by simpa using h3)]; exact Prod.ext hcell.symm rfl
        · have h2 : A.not b = false := by assumption
          have h3 : A.seq (A.asStr (A.cell d3 (Int.ofNat j) 0)) (A.asStr (A.cell d3 (A.sub (Int.ofNat j) 1) 0)) = false := by assumption
          have h4 : A.slt (A.asStr (A.cell d3 (Int.ofNat j) 0)) (A.asStr (A.cell d3 (A.sub (Int.ofNat j) 1) 0)) = true := by assumption
          rw [hneg, hb] at h2
          rw [hcell, hp2, hsq] at h3
          rw [hcell, hp2, hsl] at h4
          refine h _ _ (hans _ _ ?_ (by decide))
          rw [hq, nameL_1 (by simpa using h2) (by simpa using h3) h4]; exact Prod.ext hcell.symm rfl
        · have h2 : A.not b = false := by assumption
          have h3 : A.seq (A.asStr (A.cell d3 (Int.ofNat j) 0)) (A.asStr (A.cell d3 (A.sub (Int.ofNat j) 1) 0)) = false := by assumption
          have h4 : A.slt (A.asStr (A.cell d3 (Int.ofNat j) 0)) (A.asStr (A.cell d3 (A.sub (Int.ofNat j) 1) 0)) = false := by assumption
          rw [hneg, hb] at h2
          rw [hcell, hp2, hsq] at h3
          rw [hcell, hp2, hsl] at h4
          refine ⟨j+1, ⟨by omega, ?_⟩, by omega, ?_⟩
          · rw [hpr, hq, nameL_s (by simpa using h2) (by simpa using h3) h4]
          (cbv; repeat' apply And.intro); all_goals try first | trivial | rfl | (rw [X.a]; rfl)
      | false =>
        rw [hcn hz] at hq
        cbv
        repeat' (first | apply And.intro | exact fun (_ : FF) => by kernel_rfl | (intro h2; first | exact absurd ((hz).symm.trans h2) (by decide) | cbv) | apply Or.inl)
        any_goals first | exact hin
        · have h2 : A.not b = true := by assumption
          rw [hneg, hb] at h2
          refine h _ _ (hans _ _ ?_ (by decide))
          rw [hq, nameL_f (by simpa using h2)]; exact Prod.ext hcell.symm rfl
        · have h2 : A.not b = false := by assumption
          rw [hneg, hb] at h2
          refine ⟨j+1, ⟨by omega, ?_⟩, by omega, ?_⟩
          · rw [hpr, hq, nameL_n (by simpa using h2)]
          (cbv; repeat' apply And.intro); all_goals try first | trivial | rfl | (rw [X.a]; rfl)
    · have h5 : j = n_d3 := by obtain rfl := X.a; simp only [hlen_d3, SD, bNot] at h1; omega
      rw [h5, hn_d3, List.drop_length] at hq
      have hz : E3 = ([], 0) := by rw [hq]; unfold nameL; cases prevO (nmD i) ((nmD i).length) <;> rfl
      have hin : A.inr .i64 (A.add (Int.ofNat 3) 1) := hin4 3 (by decide)
      cbv
      repeat' (first | apply And.intro | exact fun (_ : FF) => by kernel_rfl | (intro h2; cbv) | apply Or.inl)
      any_goals exact hin
      refine ⟨4, ⟨by decide, fun _ => w0 (by decide), fun _ => w1 (by decide), fun _ => w2 (by decide), fun _ => by rw [hz]⟩, by decide, ?_⟩
      (cbv; repeat' apply And.intro); all_goals try first | trivial | rfl | (rw [X.a]; rfl)
  · have hlit1 : A.lt (Int.ofNat 4) 4 = false := by rw [hlt]; rfl
    have hlit0 : A.lt (Int.ofNat 4) 4 ≠ true := by rw [hlit1]; decide
    cbv
    refine ⟨fun h1 => absurd h1 hlit0, fun h1 => ?_⟩
    cbv
    refine h [] 0 ?_
    rw [orE, if_neg (by rw [w0 (by decide)]; decide), orE, if_neg (by rw [w1 (by decide)]; decide), orE, if_neg (by rw [w2 (by decide)]; decide), orE, if_neg (by rw [w3 (by decide)]; decide)]
end Go.VC.T07
end

section
namespace Go.VC
theorem entL_0 {α : Type} {e : α → Int} {n : α → S} : ∀ {l : List α}, (∀ x ∈ l, e x = 0) → entL e n l = ([], 0)
  | [], _ => rfl
  | x :: l, h => by rw [entL, if_neg (by rw [h x (by simp)]; decide)]; exact entL_0 fun y hy => h y (by simp [hy])
end Go.VC
namespace Go.VC.T07
open Go Go.VC Go.Proofs
theorem F35 {i : IF} (hi : i.fit) {de : D} {c0 : S} {c1 c2 c3 c4 : D} (hc : ifIs i c0 c1 c2 c3 c4) {K : PV → List Ob → Prop} (h : ∀ (s : S) (r : Int), (s, r) = diffE i → K (.tup [.str s, .int .i64 r]) []) :
    FC Tryz.prog tt 35 [] [chkPV de c0 c1 c2 c3 c4] K := by
  refine FC.enter (G := g35) tt_ok mixed ⟨Tryz.func35, by rfl, rfl⟩ rfl rfl rfl ?_
  intro A C L X
  have nT : (nmT i).length ≤ 4294967295 := by rw [nmT, List.length_map]; exact hi.ok.nt
  have nV : (nmV i).length ≤ 4294967295 := by rw [nmV, List.length_map]; exact hi.ok.nv
  have nA : (nmA i).length ≤ 4294967295 := by rw [nmA, List.length_map]; exact hi.ok.na
  cbv
  refine X.call (F71 hi hc fun d0 d1 d2 d3 hd0 hd1 hd2 hd3 => ?_)
  obtain ⟨GT, hGT⟩ : ∃ G : S → Bool, ∀ s, (nmT i).contains s = G s := ⟨fun s => (nmT i).contains s, fun _ => rfl⟩
  obtain ⟨GV, hGV⟩ : ∃ G : S → Bool, ∀ s, (nmV i).contains s = G s := ⟨fun s => (nmV i).contains s, fun _ => rfl⟩
  obtain ⟨E0, hE0⟩ : ∃ x, x = inL GT (nmV i) := ⟨_, rfl⟩
  obtain ⟨E1, hE1⟩ : ∃ x, x = inL (fun s => GT s || GV s) (nmA i) := ⟨_, rfl⟩
  have hD : diffE i = orE E0 E1 := by
    rw [hE0, hE1]; unfold diffE
    rw [show (nmT i).contains = GT from funext hGT, show (nmV i).contains = GV from funext hGV]
  rw [hD] at h
  obtain ⟨n_d1, hn_d1, hlen_d1⟩ := lenOf hd1
  cbv
  refine X.loop (fun (j : Nat) => ⟨[(18, .int .i64 j), (17, .int .i64 (A.len d1)), (16, .lst 9 d1), (5, .box 2 0), (4, .box 1 0), (1, .box 0 0)], [.box [.lst 40 de, .str c0, .lst 51 c1, .lst 101 c2, .lst 106 c3, .lst 119 c4], .box [.lst 9 d0, .lst 9 d1, .lst 9 d2, .lst 9 d3], .box [.clos 95 [], .clos 96 [], .clos 119 [], .clos 119 []]]⟩) (fun j => j ≤ n_d1 ∧ E0 = inL GT ((nmV i).drop j)) (fun j => n_d1 - j) 0 ⟨Nat.zero_le _, hE0⟩ ?_ ?_
  · (cbv; repeat' apply And.intro); all_goals try first | trivial | rfl | (rw [X.a]; rfl)
  rintro j ⟨hj, hq⟩
  cbv
  refine ⟨fun h1 => ?_, fun h1 => ?_⟩
  · have h5 : j < (nmV i).length := by obtain rfl := X.a; simp only [hlen_d1, SD, bNot] at h1; omega
    have hid : A.idx (Int.ofNat j) (A.len d1) := by rw [X.a, hd1]; exact leaf_idx h5
    have hin : A.inr .i64 (A.add (Int.ofNat j) 1) := by rw [X.a]; exact leaf_inc h5 (by omega)
    have hcell : A.asStr (A.cell d1 (Int.ofNat j) 0) = (nmV i)[j] := by rw [cellAt X.a hd1 h5, X.a]; rfl
    obtain ⟨sj, hsj⟩ : ∃ x, x = (nmV i)[j] := ⟨_, rfl⟩
    rw [List.drop_eq_getElem_cons h5, ← hsj, inL] at hq
    rw [← hsj] at hcell
    cbv
    repeat' (first | apply And.intro | exact fun (_ : FF) => by kernel_rfl | (intro h2; cbv) | apply Or.inl | (refine X.call (F21 hd0 nT fun b1 hb1 => ?_); cbv))
    any_goals first | exact hid | exact hin
    · have h2 : b1 = true := by assumption
      have hb1 : b1 = GT sj := by rw [← hGT, ← hcell]; exact hb1
      refine h _ 5 ?_
      rw [if_pos (by rw [← hb1, h2])] at hq
      rw [hq, orE, if_pos (show (5:Int) ≠ 0 by decide)]; exact Prod.ext hcell rfl
    · have h2 : b1 = false := by assumption
      have hb1 : b1 = GT sj := by rw [← hGT, ← hcell]; exact hb1
      rw [if_neg (by rw [← hb1, h2]; decide)] at hq
      refine ⟨j+1, ⟨by omega, hq⟩, by omega, ?_⟩
      (cbv; repeat' apply And.intro); all_goals try first | trivial | rfl | (rw [X.a]; rfl)
  have h5 : j = n_d1 := by obtain rfl := X.a; simp only [hlen_d1, SD, bNot] at h1; omega
  have z0 : E0 = ([], 0) := by rw [hq, h5, hn_d1, List.drop_length]; rfl
  clear hq h1 h5 hj hE0
  obtain ⟨n_d2, hn_d2, hlen_d2⟩ := lenOf hd2
  cbv
  refine X.loop (fun (j : Nat) => ⟨[(31, .int .i64 j), (30, .int .i64 (A.len d2)), (29, .lst 9 d2), (5, .box 2 0), (4, .box 1 0), (1, .box 0 0)], [.box [.lst 40 de, .str c0, .lst 51 c1, .lst 101 c2, .lst 106 c3, .lst 119 c4], .box [.lst 9 d0, .lst 9 d1, .lst 9 d2, .lst 9 d3], .box [.clos 95 [], .clos 96 [], .clos 119 [], .clos 119 []]]⟩) (fun j => j ≤ n_d2 ∧ E1 = inL (fun s => GT s || GV s) ((nmA i).drop j)) (fun j => n_d2 - j) 0 ⟨Nat.zero_le _, hE1⟩ ?_ ?_
  · (cbv; repeat' apply And.intro); all_goals try first | trivial | rfl | (rw [X.a]; rfl)
  rintro j ⟨hj, hq⟩
  cbv
  refine ⟨fun h1 => ?_, fun h1 => ?_⟩
  · have h5 : j < (nmA i).length := by obtain rfl := X.a; simp only [hlen_d2, SD, bNot] at h1; omega
    have hid : A.idx (Int.ofNat j) (A.len d2) := by rw [X.a, hd2]; exact leaf_idx h5
    have hin : A.inr .i64 (A.add (Int.ofNat j) 1) := by rw [X.a]; exact leaf_inc h5 (by omega)
    have hcell : A.asStr (A.cell d2 (Int.ofNat j) 0) = (nmA i)[j] := by rw [cellAt X.a hd2 h5, X.a]; rfl
    obtain ⟨sj, hsj⟩ : ∃ x, x = (nmA i)[j] := ⟨_, rfl⟩
    rw [List.drop_eq_getElem_cons h5, ← hsj, inL] at hq
    rw [← hsj] at hcell
    cbv
    repeat' (first | apply And.intro | exact fun (_ : FF) => by kernel_rfl | (intro h2; cbv) | apply Or.inl | (refine X.call (F21 hd0 nT fun b1 hb1 => ?_); cbv) | (refine X.call (F21 hd1 nV fun b2 hb2 => ?_); cbv))
    any_goals first | exact hid | exact hin
    all_goals have hb1 : b1 = GT sj := by rw [← hGT, ← hcell]; exact hb1
    all_goals (try have hb2 : b2 = GV sj := by rw [← hGV, ← hcell]; exact hb2)
    · have h2 : b2 = true := by assumption
      refine h _ 5 ?_
      rw [if_pos (by rw [← hb2, h2, Bool.or_true])] at hq
      rw [z0, hq, orE, if_neg (by decide)]; exact Prod.ext hcell rfl
    · have h2 : b2 = false := by assumption
      have h3 : b1 = false := by assumption
      rw [if_neg (by rw [← hb1, ← hb2, h2, h3]; decide)] at hq
      refine ⟨j+1, ⟨by omega, hq⟩, by omega, ?_⟩
      (cbv; repeat' apply And.intro); all_goals try first | trivial | rfl | (rw [X.a]; rfl)
    · have h2 : b1 = true := by assumption
      refine h _ 5 ?_
      rw [if_pos (by rw [← hb1, h2, Bool.true_or])] at hq
      rw [z0, hq, orE, if_neg (by decide)]; exact Prod.ext hcell rfl
  have h5 : j = n_d2 := by obtain rfl := X.a; simp only [hlen_d2, SD, bNot] at h1; omega
  have z1 : E1 = ([], 0) := by rw [hq, h5, hn_d2, List.drop_length]; rfl
  clear hq h1 h5 hj hE1
  cbv
  refine h [] 0 ?_
  rw [z0, z1]; rfl
theorem F36 {env : List IF} {de : D} (he : de = encL encIF env) (hok : envOk env) {i : IF} (hi : i.fit) {c0 : S} {c1 c2 c3 c4 : D} (hc : ifIs i c0 c1 c2 c3 c4) {K : PV → List Ob → Prop} (h : ∀ (s : S) (r : Int), (s, r) = entriesE env i → K (.tup [.str s, .int .i64 r]) []) :
    FC Tryz.prog tt 36 [] [chkPV de c0 c1 c2 c3 c4] K := by
  refine FC.enter (G := g36) tt_ok mixed ⟨Tryz.func36, by rfl, rfl⟩ rfl rfl rfl ?_
  intro A C L X
  have hneg := negA X.a
  have heq := eqA X.a
  have nt := hi.nt
  have nv := hi.nv
  have na := hi.na
  obtain ⟨E0, hE0⟩ : ∃ x, x = entL (typE env i) TE.name i.types := ⟨_, rfl⟩
  obtain ⟨E1, hE1⟩ : ∃ x, x = entL (valE env) VE.name i.values := ⟨_, rfl⟩
  obtain ⟨E2, hE2⟩ : ∃ x, x = entL (aliasE env) AE.name i.aliases := ⟨_, rfl⟩
  unfold entriesE at h
  rw [← hE0, ← hE1, ← hE2] at h
  obtain ⟨n_c1, hn_c1⟩ : ∃ n, n = i.types.length := ⟨_, rfl⟩
  have hlen_c1 : Std.len c1 = Int.ofNat n_c1 := by rw [hc.2.1, Std_len, hn_c1]; rfl
  cbv
  refine X.loop (fun (j : Nat) => ⟨[(17, .int .i64 j), (16, .int .i64 (A.len c1)), (15, .lst 51 c1), (1, .box 0 0)], [.box [.lst 40 de, .str c0, .lst 51 c1, .lst 101 c2, .lst 106 c3, .lst 119 c4]]⟩) (fun j => j ≤ n_c1 ∧ E0 = entL (typE env i) TE.name (i.types.drop j)) (fun j => n_c1 - j) 0 ⟨Nat.zero_le _, hE0⟩ ?_ ?_
  · (cbv; repeat' apply And.intro); all_goals try first | trivial | rfl | (rw [X.a]; rfl)
  rintro j ⟨hj, hq⟩
  cbv
  refine ⟨fun h1 => ?_, fun h1 => ?_⟩
  · have h5 : j < i.types.length := by obtain rfl := X.a; simp only [hlen_c1, SD, bNot] at h1; omega
    have k1 := teIsAt X.a hc.2.1 h5
    have k0 := k1.1
    have hid : A.idx (Int.ofNat j) (A.len c1) := by rw [X.a, hc.2.1]; exact leaf_idx h5
    have hin : A.inr .i64 (A.add (Int.ofNat j) 1) := by rw [X.a]; exact leaf_inc h5 (by omega)
    rw [List.drop_eq_getElem_cons h5, entL] at hq
    cbv
    repeat' (first | apply And.intro | exact fun (_ : FF) => by kernel_rfl | (intro h2; cbv) | apply Or.inl)
    any_goals exact hid
    refine X.call (F52 he hok hi (hi.t _ (List.getElem_mem h5)) hc k1 fun r1 hr1 => ?_)
    rw [← hr1] at hq
    cbv
    repeat' (first | apply And.intro | exact fun (_ : FF) => by kernel_rfl | (intro h2; cbv) | apply Or.inl)
    any_goals exact hin
    · have h2 : A.not (A.eq r1 0) = true := by assumption
      rw [hneg, heq] at h2
      rw [if_pos (by simpa using h2)] at hq
      refine h _ r1 ?_
      rw [hq, orE, if_pos (show r1 ≠ 0 by simpa using h2)]; exact Prod.ext k0 rfl
    · have h2 : A.not (A.eq r1 0) = false := by assumption
      rw [hneg, heq] at h2
      have h4 : r1 = 0 := by simpa using h2
      rw [if_neg (by rw [h4]; decide)] at hq
      refine ⟨j+1, ⟨by omega, hq⟩, by omega, ?_⟩
      (cbv; repeat' apply And.intro); all_goals try first | trivial | rfl | (rw [X.a]; rfl)
  have h5 : j = n_c1 := by obtain rfl := X.a; simp only [hlen_c1, SD, bNot] at h1; omega
  have z0 : E0 = ([], 0) := by rw [hq, h5, hn_c1, List.drop_length]; rfl
  clear hq h1 h5 hj hE0
  obtain ⟨n_c2, hn_c2⟩ : ∃ n, n = i.values.length := ⟨_, rfl⟩
  have hlen_c2 : Std.len c2 = Int.ofNat n_c2 := by rw [hc.2.2.1, Std_len, hn_c2]; rfl
  cbv
  refine X.loop (fun (j : Nat) => ⟨[(34, .int .i64 j), (33, .int .i64 (A.len c2)), (32, .lst 101 c2), (1, .box 0 0)], [.box [.lst 40 de, .str c0, .lst 51 c1, .lst 101 c2, .lst 106 c3, .lst 119 c4]]⟩) (fun j => j ≤ n_c2 ∧ E1 = entL (valE env) VE.name (i.values.drop j)) (fun j => n_c2 - j) 0 ⟨Nat.zero_le _, hE1⟩ ?_ ?_
  · (cbv; repeat' apply And.intro); all_goals try first | trivial | rfl | (rw [X.a]; rfl)
  rintro j ⟨hj, hq⟩
  cbv
  refine ⟨fun h1 => ?_, fun h1 => ?_⟩
  · have h5 : j < i.values.length := by obtain rfl := X.a; simp only [hlen_c2, SD, bNot] at h1; omega
    have k1 := veIsAt X.a hc.2.2.1 h5
    have k0 := k1.1
    have hid : A.idx (Int.ofNat j) (A.len c2) := by rw [X.a, hc.2.2.1]; exact leaf_idx h5
    have hin : A.inr .i64 (A.add (Int.ofNat j) 1) := by rw [X.a]; exact leaf_inc h5 (by omega)
    rw [List.drop_eq_getElem_cons h5, entL] at hq
    cbv
    repeat' (first | apply And.intro | exact fun (_ : FF) => by kernel_rfl | (intro h2; cbv) | apply Or.inl)
    any_goals exact hid
    refine X.call (F55 he hok (hi.v _ (List.getElem_mem h5)) k1 fun r1 hr1 => ?_)
    rw [← hr1] at hq
    cbv
    repeat' (first | apply And.intro | exact fun (_ : FF) => by kernel_rfl | (intro h2; cbv) | apply Or.inl)
    any_goals exact hin
    · have h2 : A.not (A.eq r1 0) = true := by assumption
      rw [hneg, heq] at h2
      rw [if_pos (by simpa using h2)] at hq
      refine h _ r1 ?_
      rw [z0, hq, orE, if_neg (by decide), orE, if_pos (show r1 ≠ 0 by simpa using h2)]; exact Prod.ext k0 rfl
    · have h2 : A.not (A.eq r1 0) = false := by assumption
      rw [hneg, heq] at h2
      have h4 : r1 = 0 := by simpa using h2
      rw [if_neg (by rw [h4]; decide)] at hq
      refine ⟨j+1, ⟨by omega, hq⟩, by omega, ?_⟩
      (cbv; repeat' apply And.intro); all_goals try first | trivial | rfl | (rw [X.a]; rfl)
  have h5 : j = n_c2 := by obtain rfl := X.a; simp only [hlen_c2, SD, bNot] at h1; omega
  have z1 : E1 = ([], 0) := by rw [hq, h5, hn_c2, List.drop_length]; rfl
  clear hq h1 h5 hj hE1
  obtain ⟨n_c3, hn_c3⟩ : ∃ n, n = i.aliases.length := ⟨_, rfl⟩
  have hlen_c3 : Std.len c3 = Int.ofNat n_c3 := by rw [hc.2.2.2.1, Std_len, hn_c3]; rfl
  cbv
  refine X.loop (fun (j : Nat) => ⟨[(51, .int .i64 j), (50, .int .i64 (A.len c3)), (49, .lst 106 c3), (1, .box 0 0)], [.box [.lst 40 de, .str c0, .lst 51 c1, .lst 101 c2, .lst 106 c3, .lst 119 c4]]⟩) (fun j => j ≤ n_c3 ∧ E2 = entL (aliasE env) AE.name (i.aliases.drop j)) (fun j => n_c3 - j) 0 ⟨Nat.zero_le _, hE2⟩ ?_ ?_
  · (cbv; repeat' apply And.intro); all_goals try first | trivial | rfl | (rw [X.a]; rfl)
  rintro j ⟨hj, hq⟩
  cbv
  refine ⟨fun h1 => ?_, fun h1 => ?_⟩
  · have h5 : j < i.aliases.length := by obtain rfl := X.a; simp only [hlen_c3, SD, bNot] at h1; omega
    have k1 := aeIsAt X.a hc.2.2.2.1 h5
    have k0 := k1.1
    have hid : A.idx (Int.ofNat j) (A.len c3) := by rw [X.a, hc.2.2.2.1]; exact leaf_idx h5
    have hin : A.inr .i64 (A.add (Int.ofNat j) 1) := by rw [X.a]; exact leaf_inc h5 (by omega)
    rw [List.drop_eq_getElem_cons h5, entL] at hq
    cbv
    repeat' (first | apply And.intro | exact fun (_ : FF) => by kernel_rfl | (intro h2; cbv) | apply Or.inl)
    any_goals exact hid
    refine X.call (F58 he hok (hi.a _ (List.getElem_mem h5)) k1 fun r1 hr1 => ?_)
    rw [← hr1] at hq
    cbv
    repeat' (first | apply And.intro | exact fun (_ : FF) => by kernel_rfl | (intro h2; cbv) | apply Or.inl)
    any_goals exact hin
    · have h2 : A.not (A.eq r1 0) = true := by assumption
      rw [hneg, heq] at h2
      rw [if_pos (by simpa using h2)] at hq
      refine h _ r1 ?_
      rw [z0, z1, hq, orE, if_neg (by decide), orE, if_neg (by decide)]; exact Prod.ext k0 rfl
    · have h2 : A.not (A.eq r1 0) = false := by assumption
      rw [hneg, heq] at h2
      have h4 : r1 = 0 := by simpa using h2
      rw [if_neg (by rw [h4]; decide)] at hq
      refine ⟨j+1, ⟨by omega, hq⟩, by omega, ?_⟩
      (cbv; repeat' apply And.intro); all_goals try first | trivial | rfl | (rw [X.a]; rfl)
  have h5 : j = n_c3 := by obtain rfl := X.a; simp only [hlen_c3, SD, bNot] at h1; omega
  have z2 : E2 = ([], 0) := by rw [hq, h5, hn_c3, List.drop_length]; rfl
  clear hq h1 h5 hj hE2
  cbv
  refine h [] 0 ?_
  rw [z0, z1, z2]; rfl
end Go.VC.T07
end

section
namespace Go.VC
open Go
section
variable {P : Program} {tt : TypeId → Option TI} {f : FuncId} {args : List PV} {K : PV → List Ob → Prop}
theorem FC.newRow0 {e : TypeId} (hE : ∀ args w, (callFunc f args).run P w = .ok (.enter f args) w)
    (h : ∀ E Pp w vals, WR tt E Pp [] w → VRL tt E Pp vals args → Calls P f ⟨vals⟩ w fun e' w' => e' = .returned (.slice none 0 0) ∧ w' = w) (hK : K (.row e 0) [.row e (.list []) true]) : FC P tt f [] args K := by
  intro E Pp w vals hw hv
  refine .inl ⟨hE _ _, (h E Pp w vals hw hv).mono ?_⟩
  rintro e' w' ⟨rfl, rfl⟩
  have hE0 : E = [] := List.eq_nil_of_length_eq_zero (by have := hw.len; simpa using this)
  subst hE0
  refine ⟨_, [.row0], Pp, [.row e (.list []) true], .row e 0, rfl, fun i x hx => by simp at hx, fun _ _ h => h, ?_, .row0 _ _ rfl, hK, Fr.refl _ _, fun _ _ h => .inl h, ?_⟩
  · refine ⟨rfl, hw.pi, ?_, ?_, hw.gl⟩
    · intro i o ho hl
      cases i with
      | succ i => simp at ho
      | zero =>
        simp at ho; subst ho
        exact ⟨_, rfl, rfl⟩
    · intro i j oi oj ri rj b hi hj _ _ _ _ _ _
      cases i <;> cases j <;> simp at hi hj ⊢
  · intro i o ri b ho hl hr hb
    cases i with
    | succ i => simp at ho
    | zero => simp at hr; subst hr; simp [RI.block?] at hb
end
def noteL (i : IF) : List DE → S × Int
  | [] => ([], 0)
  | x :: l => if (nmT i ++ nmV i ++ nmA i).contains x.name = false then (x.name, 6) else if 65536 < x.note.length then (x.name, 7) else noteL i l
def notesE (i : IF) : S × Int := noteL i i.deprecated
end Go.VC
namespace Go.VC.T07
open Go Go.VC Go.Proofs
theorem F120 {n : Nat} (hn : n ≤ 4294967296) {K : PV → List Ob → Prop} (h : K (.row 9 0) [.row 9 (.list []) true]) : FC Tryz.prog tt 120 [] [.nils, .int .i64 (Int.ofNat n)] K := by
  by_cases h0 : n = 0
  · subst h0
    refine FC.newRow0 (enters_of Tryz.func120 (by kernel_rfl) rfl) (fun E Pp w vals hw hv => ?_) h
    cases hv with | cons v1 _ _ _ h1 hv => cases hv with | cons v2 _ _ _ h2 hv =>
    cases hv; cases h1; cases h2
    refine (Any8.slices_Grow_room Tryz.laysGrow none 0 0 0 w (by decide) (by decide) (by decide) (by decide)).mono ?_
    rintro e w' ⟨rfl, rfl⟩
    exact ⟨rfl, rfl⟩
  · refine FC.newRow (e := 9) (rows := []) (enters_of Tryz.func120 (by kernel_rfl) rfl) (fun E Pp w vals hw hv => ?_) h
    cases hv with | cons v1 _ _ _ h1 hv => cases hv with | cons v2 _ _ _ h2 hv =>
    cases hv; cases h1; cases h2
    obtain ⟨ti, hti, hck, hby, hag⟩ : ∃ ti, tt 9 = some ti ∧ ti.cks = [.str] ∧ ti.bytes = 16 ∧ ti.agg = false := ⟨_, rfl, rfl, rfl, rfl⟩
    obtain ⟨i0, z, _, hi0, hs, hb, hz, hzc, hza, _⟩ := (tt_ok 9 ti hti).info
    have hs1 : i0.size = 1 := by rw [hs, hck]; rfl
    have hz1 : z.cells.size = 1 := by rw [hza.2 hag]; rfl
    refine (Any8.slices_Grow_grow Tryz.laysGrow i0 z hi0 hz (by rw [hs1]; decide) none 0 0 n [] w (by decide) (by omega) ?_ (by omega) (by simp) (fun _ => rfl) (fun a ha => by cases ha)).mono ?_
    · rw [hb, hby]; omega
    rintro e w' ⟨rfl, rfl⟩
    refine ⟨_, _, 1, _, rfl, rfl, Nat.zero_le _, ?_, ?_⟩
    · rw [cks9']
      show grownCap w (0 + n) 0 9 * 1 ≤ Array.size _
      have h9 := grownCap_ge w (0 + n) 0 9
      show grownCap w (0 + n) 0 9 * 1 ≤ Array.size ([].toArray ++ Builtin.zeroCells z.cells (0 + n - 0) ++ Builtin.zeroCells z.cells (grownCap w (0 + n) 0 9 - (0 + n)))
      generalize grownCap w (0 + n) 0 9 = G at h9 ⊢
      simp only [Array.size_append, Builtin.zeroCells, Array.size_map, Array.size_range, hz1]
      simp; omega
    · intro i row hi
      simp at hi
def g72a : Cfg := {tt := tt, n := 36, own := [6], live := [120]}
theorem F72 {ls : List (List S)} {d : D} {K : PV → List Ob → Prop} (hd : d = encL encLS ls) (hl : ls.length ≤ 16) (hll : ∀ l ∈ ls, l.length ≤ 1048576) (h : ∀ r, r = encL encS ls.flatten → K (.row 9 0) [.row 9 r true]) :
    FC Tryz.prog tt 72 [] [.lst 24 d] K := by
  refine FC.enterOwn (G := g72a) tt_ok mixed ⟨Tryz.func72, by rfl, rfl⟩ rfl rfl rfl ?_
  intro A C L X
  obtain ⟨n_d, hn_d, hlen_d⟩ := lenOf hd
  cbv
  refine X.loop (fun (j : Nat × Nat) => ⟨[(11, .int .i64 j.1), (10, .int .i64 (A.len d)), (9, .lst 24 d), (3, .int .i64 j.2), (0, .lst 24 d)], []⟩) (fun j => j.1 ≤ n_d ∧ j.2 = ((ls.take j.1).map List.length).sum ∧ j.2 ≤ 1048576 * j.1) (fun j => n_d - j.1) (0, 0) ⟨Nat.zero_le _, rfl, Nat.zero_le _⟩ ?_ ?_
  · (cbv; repeat' apply And.intro); all_goals try first | trivial | rfl | (rw [X.a]; rfl)
  rintro ⟨j, k⟩ ⟨hj, hk, hk2⟩
  simp only at hj hk hk2
  have hltk : A.lt (Int.ofNat k) 0 = false := by rw [X.a]; simp only [SD, bNot]; omega
  cbv
  refine ⟨fun h1 => ?_, fun h1 => ?_⟩
  · have h5 : j < ls.length := by obtain rfl := X.a; simp only [hlen_d, SD, bNot] at h1; omega
    have hid : A.idx (Int.ofNat j) (A.len d) := by rw [X.a, hd]; exact leaf_idx h5
    have hin : A.inr .i64 (A.add (Int.ofNat j) 1) := by rw [X.a]; exact leaf_inc h5 (by omega)
    have hcell : A.cell d (Int.ofNat j) 0 = encL encS ls[j] := by rw [cellAt X.a hd h5]; rfl
    have hlen1 : A.len (A.cell d (Int.ofNat j) 0) = Int.ofNat ls[j].length := by rw [hcell, X.a, Std_len]; rfl
    have hlj := hll _ (List.getElem_mem h5)
    have hadd : A.add (Int.ofNat k) (A.len (A.cell d (Int.ofNat j) 0)) = Int.ofNat (k + ls[j].length) := by rw [hlen1, X.a]; rfl
    have hin2 : A.inr .i64 (A.add (Int.ofNat k) (A.len (A.cell d (Int.ofNat j) 0))) := by rw [hadd, X.a]; simp only [SD, bNot]; omega
    have hneg2 : A.lt (A.add (Int.ofNat k) (A.len (A.cell d (Int.ofNat j) 0))) 0 = false := by rw [hadd, X.a]; simp only [SD, bNot]; omega
    cbv
    repeat' (first | apply And.intro | exact fun (_ : FF) => by kernel_rfl | (intro h2; first | exact absurd ((hneg2).symm.trans h2) (by decide) | cbv) | apply Or.inl)
    any_goals first | exact hid | exact hin | exact hin2
    obtain ⟨k2, hk3⟩ : ∃ k2, k2 = k + ls[j].length := ⟨_, rfl⟩
    rw [← hk3] at hadd
    refine ⟨(j+1, k2), ⟨by simp only; omega, ?_, by simp only; omega⟩, by simp only; omega, ?_⟩
    · simp only; rw [take_succ' h5, List.map_append, List.sum_append, ← hk, hk3]; simp
    (cbv; repeat' apply And.intro); all_goals try first | trivial | rfl | (rw [X.a]; rfl)
    all_goals exact hadd
  have h5 : j = n_d := by obtain rfl := X.a; simp only [hlen_d, SD, bNot] at h1; omega
  have hkn : k ≤ 4294967296 := by omega
  have hktot : k = (ls.map List.length).sum := by rw [hk, h5, hn_d, List.take_length]
  clear hk h1
  cbv
  refine X.call (F120 hkn ?_)
  cbv
  refine X.loopP (fun (j : Nat × D) => ⟨[(27, .int .i64 j.1), (26, .int .i64 (A.len d)), (25, .lst 24 d), (6, .row 9 0)], [.row 9 j.2 true]⟩) (fun j => j.1 ≤ n_d ∧ j.2 = encL encS (ls.take j.1).flatten) (fun j => n_d - j.1) (0, .list []) ⟨Nat.zero_le _, rfl⟩ ?_ ?_
  · refine ⟨[0], rfl, ?_⟩
    (cbv; repeat' apply And.intro); all_goals try first | trivial | rfl | (rw [X.a]; rfl)
  rintro ⟨q, r⟩ ⟨hq, hr⟩
  simp only at hq hr
  cbv
  refine ⟨fun h1 => ?_, fun h1 => ?_⟩
  · have h5 : q < ls.length := by obtain rfl := X.a; simp only [hlen_d, SD, bNot] at h1; omega
    have hid : A.idx (Int.ofNat q) (A.len d) := by rw [X.a, hd]; exact leaf_idx h5
    have hin : A.inr .i64 (A.add (Int.ofNat q) 1) := by rw [X.a]; exact leaf_inc h5 (by omega)
    have hcell : A.cell d (Int.ofNat q) 0 = encL encS ls[q] := by rw [cellAt X.a hd h5]; rfl
    have hlen1 : A.len (A.cell d (Int.ofNat q) 0) = Int.ofNat ls[q].length := by rw [hcell, X.a, Std_len]; rfl
    have hfl : (ls.take (q+1)).flatten = (ls.take q).flatten ++ ls[q] := by rw [take_succ' h5, List.flatten_append]; simp
    have hfb : ((ls.take (q+1)).flatten).length ≤ k := by
      rw [hktot, List.length_flatten]
      have : (ls.map List.length).sum = ((ls.take (q+1)).map List.length).sum + ((ls.drop (q+1)).map List.length).sum := by
        rw [← List.sum_append, ← List.map_append, List.take_append_drop]
      omega
    have happ : A.app r (A.cell d (Int.ofNat q) 0) = encL encS (ls.take (q+1)).flatten := by rw [hfl, hcell, X.a, hr]; exact Std_app
    have hbn : A.bnd (A.add (A.len r) (A.len (A.cell d (Int.ofNat q) 0))) 4294967296 := by
      rw [hlen1, X.a, hr, Std_len]; rw [hfl, List.length_append] at hfb; simp only [SD, bNot]; omega
    cbv
    repeat' (first | apply And.intro | exact fun (_ : FF) => by kernel_rfl | (intro h2; cbv) | apply Or.inl)
    any_goals first | exact hid | exact hin | exact hbn
    refine ⟨(q+1, _), ⟨by simp only; omega, happ⟩, by simp only; omega, [0], rfl, ?_⟩
    (cbv; repeat' apply And.intro); all_goals try first | trivial | rfl | (rw [X.a]; rfl)
  have h5 : q = n_d := by obtain rfl := X.a; simp only [hlen_d, SD, bNot] at h1; omega
  rw [h5, hn_d, List.take_length] at hr
  cbv
  exact h r hr
theorem F37 {i : IF} (hi : i.fit) {de : D} {c0 : S} {c1 c2 c3 c4 : D} (hc : ifIs i c0 c1 c2 c3 c4) {K : PV → List Ob → Prop} (h : ∀ (s : S) (r : Int), (s, r) = notesE i → K (.tup [.str s, .int .i64 r]) []) :
    FC Tryz.prog tt 37 [] [chkPV de c0 c1 c2 c3 c4] K := by
  refine FC.enter (G := g37) tt_ok mixed ⟨Tryz.func37, by rfl, rfl⟩ rfl rfl rfl ?_
  intro A C L X
  have nT : (nmT i).length ≤ 1048576 := by rw [nmT, List.length_map]; exact hi.nt
  have nV : (nmV i).length ≤ 1048576 := by rw [nmV, List.length_map]; exact hi.nv
  have nA : (nmA i).length ≤ 1048576 := by rw [nmA, List.length_map]; exact hi.na
  cbv
  refine X.call (F71 hi hc fun d0 d1 d2 d3 hd0 hd1 hd2 hd3 => ?_)
  obtain ⟨n_c4, hn_c4⟩ : ∃ n, n = i.deprecated.length := ⟨_, rfl⟩
  have hlen_c4 : Std.len c4 = Int.ofNat n_c4 := by rw [hc.2.2.2.2, Std_len, hn_c4]; rfl
  cbv
  refine X.loopK (fun (j : Nat) => ⟨[(17, .int .i64 j), (16, .int .i64 (A.len c4)), (15, .lst 119 c4), (5, .box 1 0), (4, .pptr [.lst 9 d0, .lst 9 d1, .lst 9 d2, .lst 9 d3] 0), (1, .box 0 0)], [.box [.lst 40 de, .str c0, .lst 51 c1, .lst 101 c2, .lst 106 c3, .lst 119 c4], .box [.clos 95 [], .clos 96 [], .clos 119 [], .clos 119 []]]⟩) (fun j => j ≤ n_c4 ∧ notesE i = noteL i (i.deprecated.drop j)) (fun j => n_c4 - j) 0 ⟨Nat.zero_le _, rfl⟩ ?_ ?_
  · refine ⟨[], [1], [0, 2], rfl, ?_⟩
    (cbv; repeat' apply And.intro); all_goals try first | trivial | rfl | (rw [X.a]; rfl)
  rintro j ⟨hj, hq⟩
  cbv
  refine ⟨fun h1 => ?_, fun h1 => ?_⟩
  · have h5 : j < i.deprecated.length := by obtain rfl := X.a; simp only [hlen_c4, SD, bNot] at h1; omega
    have k1 := deIsAt X.a hc.2.2.2.2 h5
    have hid : A.idx (Int.ofNat j) (A.len c4) := by rw [X.a, hc.2.2.2.2]; exact leaf_idx h5
    have hin : A.inr .i64 (A.add (Int.ofNat j) 1) := by rw [X.a]; exact leaf_inc h5 (by have := hi.nd; omega)
    have hlit : A.lit [[d0], [d1], [d2]] = encL encLS [nmT i, nmV i, nmA i] := by rw [X.a, hd0, hd1, hd2]; rfl
    have hlls : ∀ l ∈ [nmT i, nmV i, nmA i], l.length ≤ 1048576 := by
      intro l hl; simp at hl; rcases hl with rfl | rfl | rfl <;> assumption
    rw [List.drop_eq_getElem_cons h5, noteL] at hq
    cbv
    repeat' (first | apply And.intro | exact fun (_ : FF) => by kernel_rfl | (intro h2; cbv) | apply Or.inl)
    any_goals exact hid
    refine X.call (F72 hlit (show (3:Nat) ≤ 16 by decide) hlls fun r hr => ?_)
    have hr : r = encL encS (nmT i ++ nmV i ++ nmA i) := by rw [hr]; simp
    have hrl : (nmT i ++ nmV i ++ nmA i).length ≤ 4294967295 := by simp only [List.length_append]; omega
    have hneg := negA X.a
    have hsl : A.lt 65536 (A.slen (A.asStr (A.cell c4 (Int.ofNat j) 1))) = decide (65536 < i.deprecated[j].note.length) := by
      rw [k1.2, X.a]; show decide ((65536:Int) < (i.deprecated[j].note.length : Int)) = _
      rw [decide_eq_decide]; omega
    have k0 : A.asStr (A.cell c4 (Int.ofNat j) 0) = i.deprecated[j].name := k1.1
    cbv
    refine X.call (F21 hr hrl fun b hb => ?_)
    have hb : b = (nmT i ++ nmV i ++ nmA i).contains i.deprecated[j].name := by rw [← k0]; exact hb
    rw [show List.elem i.deprecated[j].name (nmT i ++ nmV i ++ nmA i) = b from hb.symm] at hq
    clear hb
    cbv
    repeat' (first | apply And.intro | exact fun (_ : FF) => by kernel_rfl | (intro h2; cbv) | apply Or.inl)
    any_goals exact hin
    · have h2 : A.not b = true := by assumption
      rw [hneg] at h2
      rw [if_pos (by simpa using h2)] at hq
      refine h _ 6 ?_
      rw [hq]; exact Prod.ext k0 rfl
    · have h2 : A.not b = false := by assumption
      have h3 : A.lt 65536 (A.slen (A.asStr (A.cell c4 (Int.ofNat j) 1))) = true := by assumption
      rw [hneg] at h2
      rw [hsl] at h3
      rw [if_neg (by simpa using h2), if_pos (of_decide_eq_true h3)] at hq
      refine h _ 7 ?_
      rw [hq]; exact Prod.ext k0 rfl
    · have h2 : A.not b = false := by assumption
      have h3 : A.lt 65536 (A.slen (A.asStr (A.cell c4 (Int.ofNat j) 1))) = false := by assumption
      rw [hneg] at h2
      rw [hsl] at h3
      rw [if_neg (by simpa using h2), if_neg (of_decide_eq_false h3)] at hq
      refine ⟨j+1, ⟨by omega, hq⟩, by omega, [], [], [0, 1], rfl, ?_⟩
      (cbv; repeat' apply And.intro); all_goals try first | trivial | rfl | (rw [X.a]; rfl)
  · have h5 : j = n_c4 := by obtain rfl := X.a; simp only [hlen_c4, SD, bNot] at h1; omega
    cbv
    refine h [] 0 ?_
    rw [hq, h5, hn_c4, List.drop_length]; rfl
end Go.VC.T07
end

section
namespace Go.VC
noncomputable def ifaceI (env : List IF) (i : IF) : S × Int := orE ([], headE i) (orE (namesE i) (orE (diffE i) (orE (entriesE env i) (orE (notesE i) ([], 0)))))
noncomputable def ifaceE (env : List IF) (p : S) : S × Int := match findI env p with
  | none => ([], 6)
  | some i => ifaceI env i
end Go.VC
namespace Go.VC.T07
open Go Go.VC Go.Proofs
theorem F15 {env : List IF} {de : D} (he : de = encL encIF env) (hok : envOk env) (hfit : ∀ i ∈ env, i.fit) {p : S} {K : PV → List Ob → Prop} (h : ∀ (s : S) (r : Int), (s, r) = ifaceE env p → K (.tup [.str s, .int .i64 r]) []) :
    FC Tryz.prog tt 15 [] [.lst 40 de, .str p] K := by
  refine FC.enter (G := g15) tt_ok mixed ⟨Tryz.func15, by rfl, rfl⟩ rfl rfl rfl ?_
  intro A C L X
  have hneg := negA X.a
  have heq := eqA X.a
  have hlt := ltA X.a
  have hin4 : ∀ k : Nat, k < 5 → A.inr .i64 (A.add (Int.ofNat k) 1) := by rw [X.a]; exact fun k hk => leaf_inc hk (by decide)
  unfold ifaceE at h
  cbv
  refine X.call (F32 he hok rfl fun c0 c1 c2 c3 c4 b hc hb => ?_)
  cbv
  repeat' (first | apply And.intro | exact fun (_ : FF) => by kernel_rfl | (intro h2; cbv) | apply Or.inl)
  · have h2 : A.not b = true := h2
    rw [hneg, hb] at h2
    refine h _ _ ?_
    rw [show findI env p = none by simpa using h2]
  have h2 : A.not b = false := h2
  rw [hneg, hb] at h2
  obtain ⟨i, hfi⟩ : ∃ i, findI env p = some i := Option.isSome_iff_exists.1 (by simpa using h2)
  have hi : i.fit := hfit i (List.mem_of_find?_eq_some hfi)
  rw [hfi] at hc h
  simp only [Option.getD_some] at hc
  clear h2 hb
  have h : ∀ (s : S) (r : Int), (s, r) = ifaceI env i → K (.tup [.str s, .int .i64 r]) [] := h
  obtain ⟨E1, hE1⟩ : ∃ x, x = namesE i := ⟨_, rfl⟩
  obtain ⟨E2, hE2⟩ : ∃ x, x = diffE i := ⟨_, rfl⟩
  obtain ⟨E3, hE3⟩ : ∃ x, x = entriesE env i := ⟨_, rfl⟩
  obtain ⟨E4, hE4⟩ : ∃ x, x = notesE i := ⟨_, rfl⟩
  obtain ⟨E0, hE0⟩ : ∃ x, x = (([], headE i) : S × Int) := ⟨_, rfl⟩
  unfold ifaceI at h
  rw [← hE0, ← hE1, ← hE2, ← hE3, ← hE4] at h
  cbv
  refine X.loop (fun (k : Nat) => ⟨[(36, .int .i64 k), (35, .int .i64 5), (34, .pptr [.clos 1000033 [.agg [.lst 40 de, .str c0, .lst 51 c1, .lst 101 c2, .lst 106 c3, .lst 119 c4]], .clos 1000034 [.agg [.lst 40 de, .str c0, .lst 51 c1, .lst 101 c2, .lst 106 c3, .lst 119 c4]], .clos 1000035 [.agg [.lst 40 de, .str c0, .lst 51 c1, .lst 101 c2, .lst 106 c3, .lst 119 c4]], .clos 1000036 [.agg [.lst 40 de, .str c0, .lst 51 c1, .lst 101 c2, .lst 106 c3, .lst 119 c4]], .clos 1000037 [.agg [.lst 40 de, .str c0, .lst 51 c1, .lst 101 c2, .lst 106 c3, .lst 119 c4]]] 1000003)], []⟩) (fun k => k ≤ 5 ∧ (0 < k → E0.2 = 0) ∧ (1 < k → E1.2 = 0) ∧ (2 < k → E2.2 = 0) ∧ (3 < k → E3.2 = 0) ∧ (4 < k → E4.2 = 0)) (fun k => 5 - k) 0 ⟨Nat.zero_le _, by simp, by simp, by simp, by simp, by simp⟩ ?_ ?_
  · (cbv; repeat' apply And.intro); all_goals try first | trivial | rfl | (rw [X.a]; rfl)
  rintro k ⟨hk, w0, w1, w2, w3, w4⟩
  have hk5 : k = 0 ∨ k = 1 ∨ k = 2 ∨ k = 3 ∨ k = 4 ∨ k = 5 := by omega
  rcases hk5 with rfl | rfl | rfl | rfl | rfl | rfl
  · have hlit1 : A.lt (Int.ofNat 0) 5 = true := by rw [hlt]; rfl
    have hlit0 : A.lt (Int.ofNat 0) 5 ≠ false := by rw [hlit1]; decide
    have hans : ∀ (s : S) (r : Int), (s, r) = E0 → r ≠ 0 → (s, r) = orE E0 (orE E1 (orE E2 (orE E3 (orE E4 ([], 0))))) := by
      intro s r e hr
      rw [orE, if_pos (by rw [← e]; exact hr), e]
    have hin : A.inr .i64 (A.add (Int.ofNat 0) 1) := hin4 0 (by decide)
    cbv
    refine ⟨fun h1 => ?_, fun h1 => absurd h1 hlit0⟩
    cbv
    refine X.call (F33 hi hc fun r0 hr => ?_)
    have hr : (([] : S), r0) = E0 := by rw [hE0, hr]
    cbv
    repeat' (first | apply And.intro | exact fun (_ : FF) => by kernel_rfl | (intro h2; cbv) | apply Or.inl)
    any_goals exact hin
    · have h2 : A.not (A.eq r0 0) = true := by assumption
      rw [hneg, heq] at h2
      exact h _ _ (hans _ _ hr (by simpa using h2))
    · have h2 : A.not (A.eq r0 0) = false := by assumption
      rw [hneg, heq] at h2
      have hz : E0.2 = 0 := by rw [← hr]; simpa using h2
      refine ⟨1, ⟨by decide, fun _ => hz, fun h => absurd h (by decide), fun h => absurd h (by decide), fun h => absurd h (by decide), fun h => absurd h (by decide)⟩, by decide, ?_⟩
      (cbv; repeat' apply And.intro); all_goals try first | trivial | rfl | (rw [X.a]; rfl)
  · have hlit1 : A.lt (Int.ofNat 1) 5 = true := by rw [hlt]; rfl
    have hlit0 : A.lt (Int.ofNat 1) 5 ≠ false := by rw [hlit1]; decide
    have hans : ∀ (s : S) (r : Int), (s, r) = E1 → r ≠ 0 → (s, r) = orE E0 (orE E1 (orE E2 (orE E3 (orE E4 ([], 0))))) := by
      intro s r e hr
      rw [orE, if_neg (by rw [w0 (by decide)]; decide)]; rw [orE, if_pos (by rw [← e]; exact hr), e]
    have hin : A.inr .i64 (A.add (Int.ofNat 1) 1) := hin4 1 (by decide)
    cbv
    refine ⟨fun h1 => ?_, fun h1 => absurd h1 hlit0⟩
    cbv
    refine X.call (F34 hi hc fun s0 r0 hr => ?_)
    have hr : (s0, r0) = E1 := by rw [hE1, hr]
    cbv
    repeat' (first | apply And.intro | exact fun (_ : FF) => by kernel_rfl | (intro h2; cbv) | apply Or.inl)
    any_goals exact hin
    · have h2 : A.not (A.eq r0 0) = true := by assumption
      rw [hneg, heq] at h2
      exact h _ _ (hans _ _ hr (by simpa using h2))
    · have h2 : A.not (A.eq r0 0) = false := by assumption
      rw [hneg, heq] at h2
      have hz : E1.2 = 0 := by rw [← hr]; simpa using h2
      refine ⟨2, ⟨by decide, fun _ => w0 (by decide), fun _ => hz, fun h => absurd h (by decide), fun h => absurd h (by decide), fun h => absurd h (by decide)⟩, by decide, ?_⟩
      (cbv; repeat' apply And.intro); all_goals try first | trivial | rfl | (rw [X.a]; rfl)
  · have hlit1 : A.lt (Int.ofNat 2) 5 = true := by rw [hlt]; rfl
    have hlit0 : A.lt (Int.ofNat 2) 5 ≠ false := by rw [hlit1]; decide
    have hans : ∀ (s : S) (r : Int), (s, r) = E2 → r ≠ 0 → (s, r) = orE E0 (orE E1 (orE E2 (orE E3 (orE E4 ([], 0))))) := by
      intro s r e hr
      rw [orE, if_neg (by rw [w0 (by decide)]; decide)]; rw [orE, if_neg (by rw [w1 (by decide)]; decide)]; rw [orE, if_pos (by rw [← e]; exact hr), e]
    have hin : A.inr .i64 (A.add (Int.ofNat 2) 1) := hin4 2 (by decide)
    cbv
    refine ⟨fun h1 => ?_, fun h1 => absurd h1 hlit0⟩
    cbv
    refine X.call (F35 hi hc fun s0 r0 hr => ?_)
    have hr : (s0, r0) = E2 := by rw [hE2, hr]
    cbv
    repeat' (first | apply And.intro | exact fun (_ : FF) => by kernel_rfl | (intro h2; cbv) | apply Or.inl)
    any_goals exact hin
    · have h2 : A.not (A.eq r0 0) = true := by assumption
      rw [hneg, heq] at h2
      exact h _ _ (hans _ _ hr (by simpa using h2))
    · have h2 : A.not (A.eq r0 0) = false := by assumption
      rw [hneg, heq] at h2
      have hz : E2.2 = 0 := by rw [← hr]; simpa using h2
      refine ⟨3, ⟨by decide, fun _ => w0 (by decide), fun _ => w1 (by decide), fun _ => hz, fun h => absurd h (by decide), fun h => absurd h (by decide)⟩, by decide, ?_⟩
      (cbv; repeat' apply And.intro); all_goals try first | trivial | rfl | (rw [X.a]; rfl)
  · have hlit1 : A.lt (Int.ofNat 3) 5 = true := by rw [hlt]; rfl
    have hlit0 : A.lt (Int.ofNat 3) 5 ≠ false := by rw [hlit1]; decide
    have hans : ∀ (s : S) (r : Int), (s, r) = E3 → r ≠ 0 → (s, r) = orE E0 (orE E1 (orE E2 (orE E3 (orE E4 ([], 0))))) := by
      intro s r e hr
      rw [orE, if_neg (by rw [w0 (by decide)]; decide)]; rw [orE, if_neg (by rw [w1 (by decide)]; decide)]; rw [orE, if_neg (by rw [w2 (by decide)]; decide)]; rw [orE, if_pos (by rw [← e]; exact hr), e]
    have hin : A.inr .i64 (A.add (Int.ofNat 3) 1) := hin4 3 (by decide)
    cbv
    refine ⟨fun h1 => ?_, fun h1 => absurd h1 hlit0⟩
    cbv
    refine X.call (F36 he hok hi hc fun s0 r0 hr => ?_)
    have hr : (s0, r0) = E3 := by rw [hE3, hr]
    cbv
    repeat' (first | apply And.intro | exact fun (_ : FF) => by kernel_rfl | (intro h2; cbv) | apply Or.inl)
    any_goals exact hin
    · have h2 : A.not (A.eq r0 0) = true := by assumption
      rw [hneg, heq] at h2
      exact h _ _ (hans _ _ hr (by simpa using h2))
    · have h2 : A.not (A.eq r0 0) = false := by assumption
      rw [hneg, heq] at h2
      have hz : E3.2 = 0 := by rw [← hr]; simpa using h2
      refine ⟨4, ⟨by decide, fun _ => w0 (by decide), fun _ => w1 (by decide), fun _ => w2 (by decide), fun _ => hz, fun h => absurd h (by decide)⟩, by decide, ?_⟩
      (cbv; repeat' apply And.intro); all_goals try first | trivial | rfl | (rw [X.a]; rfl)
  · have hlit1 : A.lt (Int.ofNat 4) 5 = true := by rw [hlt]; rfl
    have hlit0 : A.lt (Int.ofNat 4) 5 ≠ false := by rw [hlit1]; decide
    have hans : ∀ (s : S) (r : Int), (s, r) = E4 → r ≠ 0 → (s, r) = orE E0 (orE E1 (orE E2 (orE E3 (orE E4 ([], 0))))) := by
      intro s r e hr
      rw [orE, if_neg (by rw [w0 (by decide)]; decide)]; rw [orE, if_neg (by rw [w1 (by decide)]; decide)]; rw [orE, if_neg (by rw [w2 (by decide)]; decide)]; rw [orE, if_neg (by rw [w3 (by decide)]; decide)]; rw [orE, if_pos (by rw [← e]; exact hr), e]
    have hin : A.inr .i64 (A.add (Int.ofNat 4) 1) := hin4 4 (by decide)
    cbv
    refine ⟨fun h1 => ?_, fun h1 => absurd h1 hlit0⟩
    cbv
    refine X.call (F37 hi hc fun s0 r0 hr => ?_)
    have hr : (s0, r0) = E4 := by rw [hE4, hr]
    cbv
    repeat' (first | apply And.intro | exact fun (_ : FF) => by kernel_rfl | (intro h2; cbv) | apply Or.inl)
    any_goals exact hin
    · have h2 : A.not (A.eq r0 0) = true := by assumption
      rw [hneg, heq] at h2
      exact h _ _ (hans _ _ hr (by simpa using h2))
    · have h2 : A.not (A.eq r0 0) = false := by assumption
      rw [hneg, heq] at h2
      have hz : E4.2 = 0 := by rw [← hr]; simpa using h2
      refine ⟨5, ⟨by decide, fun _ => w0 (by decide), fun _ => w1 (by decide), fun _ => w2 (by decide), fun _ => w3 (by decide), fun _ => hz⟩, by decide, ?_⟩
      (cbv; repeat' apply And.intro); all_goals try first | trivial | rfl | (rw [X.a]; rfl)
  · have hlit1 : A.lt (Int.ofNat 5) 5 = false := by rw [hlt]; rfl
    have hlit0 : A.lt (Int.ofNat 5) 5 ≠ true := by rw [hlit1]; decide
    cbv
    refine ⟨fun h1 => absurd h1 hlit0, fun h1 => ?_⟩
    cbv
    refine h [] 0 ?_
    rw [orE, if_neg (by rw [w0 (by decide)]; decide), orE, if_neg (by rw [w1 (by decide)]; decide), orE, if_neg (by rw [w2 (by decide)]; decide), orE, if_neg (by rw [w3 (by decide)]; decide), orE, if_neg (by rw [w4 (by decide)]; decide)]
end Go.VC.T07
end

section
namespace Go.VC
inductive LR (g : S → List S) : S → S → Prop
  | one {a b : S} : b ∈ g a → LR g a b
  | more {a b c : S} : LR g a b → c ∈ g b → LR g a c
structure GB (g : S → List S) (T : Nat) : Prop where
  sum : ∀ L : List S, L.Nodup → (L.map fun s => (g s).length).sum ≤ T
  all : ∃ tot : List S, tot.length ≤ T ∧ ∀ s e, e ∈ g s → e ∈ tot
theorem GB.one {g : S → List S} {T : Nat} (h : GB g T) (n : S) : (g n).length ≤ T := by
  have := h.sum [n] (by simp)
  simpa using this
structure Srg (g : S → List S) (n : S) (L W : List S) : Prop where
  nd : L.Nodup
  np : n ∉ L
  inL : ∀ s ∈ L, LR g n s
  inW : ∀ s ∈ W, LR g n s
  st : ∀ e ∈ g n, e ∈ L ∨ e ∈ W
  cl : ∀ s ∈ L, ∀ e ∈ g s, e ∈ L ∨ e ∈ W
  len : W.length ≤ (g n).length + (L.map fun s => (g s).length).sum
theorem Srg.start {g : S → List S} {n : S} : Srg g n [] (g n) :=
  ⟨by simp, by simp, by simp, fun s hs => .one hs, fun e he => .inr he, by simp, by simp⟩
theorem Srg.old {g : S → List S} {n s : S} {L W : List S} (h : Srg g n L (s :: W)) (hs : s ∈ L) : Srg g n L W := by
  refine ⟨h.nd, h.np, h.inL, fun x hx => h.inW x (by simp [hx]), fun e he => ?_, fun x hx e he => ?_, by have := h.len; simp at this; omega⟩
  · rcases h.st e he with h1 | h1
    · exact .inl h1
    · rcases List.mem_cons.1 h1 with rfl | h1
      · exact .inl hs
      · exact .inr h1
  · rcases h.cl x hx e he with h1 | h1
    · exact .inl h1
    · rcases List.mem_cons.1 h1 with rfl | h1
      · exact .inl hs
      · exact .inr h1
theorem Srg.new {g : S → List S} {n s : S} {L W : List S} (h : Srg g n L (s :: W)) (hs : s ∉ L) (hn : s ≠ n) : Srg g n (L ++ [s]) (W ++ g s) := by
  have hr := h.inW s (by simp)
  refine ⟨?_, ?_, ?_, ?_, ?_, ?_, ?_⟩
  · rw [List.nodup_append]
    exact ⟨h.nd, by simp, fun a ha b hb => by simp at hb; subst hb; exact fun e => hs (e ▸ ha)⟩
  · intro hx
    rcases List.mem_append.1 hx with hx | hx
    · exact h.np hx
    · simp at hx; exact hn hx.symm
  · intro x hx
    rcases List.mem_append.1 hx with hx | hx
    · exact h.inL x hx
    · simp at hx; subst hx; exact hr
  · intro x hx
    rcases List.mem_append.1 hx with hx | hx
    · exact h.inW x (by simp [hx])
    · exact .more hr hx
  · intro e he
    rcases h.st e he with h1 | h1
    · exact .inl (by simp [h1])
    · rcases List.mem_cons.1 h1 with rfl | h1
      · exact .inl (by simp)
      · exact .inr (by simp [h1])
  · intro x hx e he
    rcases List.mem_append.1 hx with hx | hx
    · rcases h.cl x hx e he with h1 | h1
      · exact .inl (by simp [h1])
      · rcases List.mem_cons.1 h1 with rfl | h1
        · exact .inl (by simp)
        · exact .inr (by simp [h1])
    · simp at hx; subst hx
      exact .inr (List.mem_append_right _ he)
  · have a := h.len
    simp only [List.length_cons, List.length_append, List.map_append, List.sum_append, List.map_cons, List.map_nil, List.sum_cons, List.sum_nil] at *
    omega
theorem Srg.fin {g : S → List S} {n : S} {L : List S} (h : Srg g n L []) : ¬ LR g n n := by
  have key : ∀ s, LR g n s → s ∈ L := by
    intro s hr
    induction hr with
    | one hd => rcases h.st _ hd with h1 | h1; exact h1; simp at h1
    | more _ hd ih => rcases h.cl _ ih _ hd with h1 | h1; exact h1; simp at h1
  exact fun hr => h.np (key n hr)
theorem Srg.lenL {g : S → List S} {n : S} {L W : List S} (h : Srg g n L W) {T : Nat} (hb : GB g T) : L.length ≤ T := by
  obtain ⟨tot, h1, h2⟩ := hb.all
  refine Nat.le_trans (nodup_sub_len h.nd fun s hs => ?_) h1
  have hr := h.inL s hs
  cases hr with
  | one h => exact h2 _ _ h
  | more _ h => exact h2 _ _ h
theorem Srg.lenW {g : S → List S} {n : S} {L W : List S} (h : Srg g n L W) {T : Nat} (hb : GB g T) : W.length ≤ 2 * T := by
  have a := h.len
  have b := hb.sum L h.nd
  have c := hb.one n
  omega
structure MM (mm : List (S × D)) (g : S → List S) : Prop where
  get : ∀ s q, lookV mm s = some q → q = encL encS (g s)
  no : ∀ s, lookV mm s = none → g s = []
end Go.VC
namespace Go.VC.T07
open Go Go.VC Go.Proofs
def g78a : Cfg := {tt := tt, n := 8, own := [2, 5]}
theorem F78 {l : List S} {d : D} {K : PV → List Ob → Prop} (hd : d = encL encS l) (hl : l.length < 4294967296)
    (h : ∀ r, r = encL encS l → K (.row 9 0) [.row 9 r true]) :
    FC Tryz.prog tt 78 [] [.lst 9 d] K := by
  refine FC.enterOwn (G := g78a) tt_ok mixed ⟨Tryz.func78, by rfl, rfl⟩ rfl rfl rfl ?_
  intro A C L X
  obtain ⟨n_d, hn_d, hlen_d⟩ := lenOf hd
  cbv
  intro b hb
  cbv
  repeat' (first | apply And.intro | exact fun (_ : FF) => by kernel_rfl | (intro h2; cbv) | apply Or.inl)
  · refine h _ ?_
    obtain rfl := X.a
    have hb := hb h2
    rw [Std_same, hlen_d, hn_d] at hb
    have : l = [] := List.eq_nil_of_length_eq_zero (by simp only [Int.ofNat_eq_natCast] at hb; omega)
    rw [this]; rfl
  · obtain rfl := X.a; simp only [SD, bNot, hlen_d]; omega
  · refine h _ ?_
    obtain rfl := X.a
    rw [hd]
    exact Std_app (l := [])
def g39a : Cfg := {tt := tt, n := 37, own := [17]}
theorem F39 {mm : List (S × D)} {g : S → List S} (hm : MM mm g) {T : Nat} (hb : GB g T) (hT : T ≤ 268435456) {dM : D} (hdM : dM = encL (encKV enc1) mm) {n : S} {K : PV → List Ob → Prop}
    (h : ∀ b, (b = true ↔ LR g n n) → K (.bool b) []) :
    FC Tryz.prog tt 39 [] [.dmp 24 dM, .str n] K := by
  refine FC.enterOwn (G := g39a) tt_ok mixed ⟨Tryz.func39, by rfl, rfl⟩ rfl rfl rfl ?_
  intro A C L X
  have hneg := negA X.a
  have hsq := sqA X.a
  have hgp : ∀ p, A.mhas dM (.str p) = true → A.mget dM (.str p) 0 = encL encS (g p) := by
    intro p hp
    rw [X.a, hdM, Std_hasV] at hp
    obtain ⟨q, hq⟩ := Option.isSome_iff_exists.1 hp
    rw [X.a, hdM, Std_getV (f := enc1) hq 0, hm.get p q hq]; rfl
  have hgn : ∀ p, A.mhas dM (.str p) = false → (.list [] : D) = encL encS (g p) := by
    intro p hp
    rw [X.a, hdM, Std_hasV] at hp
    rw [hm.no p (by simpa using hp)]; rfl
  have key : ∀ dw, dw = encL encS (g n) → ∀ {st : List Ob}, True := fun _ _ _ => trivial
  clear hdM hm
  cbv
  repeat' (first | apply And.intro | exact fun (_ : FF) => by kernel_rfl | (intro h2; cbv) | apply Or.inl | (refine X.call (F78 (hgp n h2) (Nat.lt_of_le_of_lt (hb.one n) (by omega)) fun r0 hr0 => ?_); cbv) | (refine X.call (F78 (hgn n h2) (Nat.lt_of_le_of_lt (hb.one n) (by omega)) fun r0 hr0 => ?_); cbv))
  all_goals (
    cbv
    refine X.loopP (fun (y : (List S × List S) × D × D × Bool) => ⟨[(6, .row 9 1), (5, .mp 0), (1, .str n), (0, .dmp 24 dM)], [.map .str 4 y.2.1, .row 9 y.2.2.1 y.2.2.2]⟩)
      (fun y => Srg g n y.1.1 y.1.2 ∧ y.2.2.1 = encL encS y.1.2 ∧ ∃ k, y.2.1 = encL encKB k ∧ KT k y.1.1) (fun y => y.1.2.length + (T - y.1.1.length) * (T + 1)) (([], g n), .list [], r0, true) ⟨.start, hr0, [], rfl, KT.nil⟩ ?_ ?_)
  · refine ⟨[0, 1], rfl, ?_⟩
    (cbv; repeat' apply And.intro); all_goals try first | trivial | rfl | (rw [X.a]; rfl)
  rotate_left
  · refine ⟨[0, 1], rfl, ?_⟩
    (cbv; repeat' apply And.intro); all_goals try first | trivial | rfl | (rw [X.a]; rfl)
  all_goals (
    rintro ⟨⟨Ls, W⟩, dm, dW, wr⟩ ⟨hS, hW, k, hdm, hk⟩
    simp only at hS hW hdm hk
    have hlW := hS.lenW hb
    have hlL := hS.lenL hb
    obtain ⟨n_dW, hn_dW, hlen_dW⟩ := lenOf hW
    cbv
    refine ⟨fun h1 => ?_, fun h1 => ?_⟩
    · have h1' : A.lt 0 (A.len dW) = true := h1
      match W, hW, hn_dW, hS, hlW with
      | [], hW, hn_dW, hS, hlW => exfalso; obtain rfl := X.a; rw [hlen_dW, hn_dW] at h1'; cases h1'
      | s :: W, hW, hn_dW, hS, hlW =>
      have hid : A.idx 0 (A.len dW) := by rw [X.a, hW]; exact leaf_idx (i := 0) (by simp)
      have ks : A.asStr (A.cell dW 0 0) = s := strAt X.a hW (i := 0) (by simp)
      have hget : A.asBool (A.mget dm (.str (A.asStr (A.cell dW 0 0))) 0) = decide (s ∈ Ls) := by rw [ks, X.a, hdm]; exact Std_getK hk _
      have hset : A.mset dm (.str (A.asStr (A.cell dW 0 0))) [.bool true] = encL encKB (addK k s) := by rw [ks, X.a, hdm]; exact Std_addK
      have hbd1 : A.bnd 1 (A.len dW) := by rw [X.a, hW, Std_len]; exact ⟨by decide, by simp; omega⟩
      have hpart : A.part dW 1 (A.len dW) = encL encS W := by rw [X.a, hW, Std_len]; have := Std_part (f := encS) (l := s :: W) (a := 1) (b := (s :: W).length); simpa using this
      have hgs : A.mhas dM (.str (A.asStr (A.cell dW 0 0))) = true → A.mget dM (.str (A.asStr (A.cell dW 0 0))) 0 = encL encS (g s) := by rw [ks]; exact hgp s
      have hgz : A.mhas dM (.str (A.asStr (A.cell dW 0 0))) = false → (.list [] : D) = encL encS (g s) := by rw [ks]; exact hgn s
      simp only [List.length_cons] at hlW
      clear h1 h1'
      have hbn : s ∉ Ls → s ≠ n → ∀ dl, dl = encL encS (g s) → A.bnd (A.add (A.len dW) (A.len dl)) 4294967296 := by
        intro hs hn dl hdl
        have hlen2 := (hS.new hs hn).lenW hb
        simp only [List.length_append] at hlen2
        rw [X.a, hW, hdl, Std_len, Std_len, Std_add]; refine ⟨by simp; omega, by simp; omega⟩
      have happ : ∀ dl, dl = encL encS (g s) → A.app dW dl = encL encS (s :: (W ++ g s)) := by intro dl hdl; rw [X.a, hW, hdl]; exact Std_app
      have hbd2 : ∀ dl, dl = encL encS (g s) → A.bnd 1 (A.len (A.app dW dl)) := by intro dl hdl; rw [happ dl hdl, X.a, Std_len]; exact ⟨by decide, by simp; omega⟩
      have hpart2 : ∀ dl, dl = encL encS (g s) → A.part (A.app dW dl) 1 (A.len (A.app dW dl)) = encL encS (W ++ g s) := by intro dl hdl; rw [happ dl hdl, X.a, Std_len]; have := Std_part (f := encS) (l := s :: (W ++ g s)) (a := 1) (b := (s :: (W ++ g s)).length); rw [List.drop_one, List.tail_cons, List.take_of_length_le (by simp)] at this; exact this
      have hmes : s ∉ Ls → s ≠ n → (W ++ g s).length + (T - (Ls ++ [s]).length) * (T + 1) < (s :: W).length + (T - Ls.length) * (T + 1) := by
        intro hs hn
        have hlL2 := (hS.new hs hn).lenL hb
        have hu1 := hb.one s
        simp only [List.length_append, List.length_singleton] at hlL2
        have : T - Ls.length = (T - (Ls.length + 1)) + 1 := by omega
        have e2 : (Ls ++ [s]).length = Ls.length + 1 := by simp
        rw [e2, this, Nat.add_mul, Nat.one_mul, List.length_append, List.length_cons]
        omega
      have hk2 := hk.add s
      have hsn : A.seq (A.asStr (A.cell dW 0 0)) n = (s == n) := by rw [ks, hsq]
      have hnew : A.not (A.asBool (A.mget dm (.str (A.asStr (A.cell dW 0 0))) 0)) = true → s ∉ Ls := by
        intro e; rw [hneg, hget] at e; simpa using e
      have hsne : A.seq (A.asStr (A.cell dW 0 0)) n = false → s ≠ n := by intro e; rw [hsn] at e; simpa using e
      cbv
      repeat' (first | apply And.intro | exact fun (_ : FF) => by kernel_rfl | (intro h2; cbv) | apply Or.inl)
      any_goals first | exact hid | exact hbd1
      any_goals first | exact hbn (hnew (by assumption)) (hsne (by assumption)) _ (hgs (by assumption)) | exact hbn (hnew (by assumption)) (hsne (by assumption)) _ (hgz (by assumption)) | exact hbd2 _ (hgs (by assumption)) | exact hbd2 _ (hgz (by assumption))
      · have e : A.seq (A.asStr (A.cell dW 0 0)) n = true := by assumption
        rw [hsn] at e
        have e := eq_of_beq e
        exact h true (Iff.intro (fun _ => e ▸ hS.inW s (by simp)) (fun _ => rfl))
      · have e1 := hnew (by assumption)
        have e2 := hsne (by assumption)
        refine ⟨((Ls ++ [s], W ++ g s), _, _, false), ⟨hS.new e1 e2, hpart2 _ (hgs (by assumption)), _, hset, hk2⟩, hmes e1 e2, [0, 1], rfl, ?_⟩
        (cbv; repeat' apply And.intro); all_goals try first | trivial | rfl | (rw [X.a]; rfl)
      · have e1 := hnew (by assumption)
        have e2 := hsne (by assumption)
        refine ⟨((Ls ++ [s], W ++ g s), _, _, false), ⟨hS.new e1 e2, hpart2 _ (hgz (by assumption)), _, hset, hk2⟩, hmes e1 e2, [0, 1], rfl, ?_⟩
        (cbv; repeat' apply And.intro); all_goals try first | trivial | rfl | (rw [X.a]; rfl)
      · have e1 : A.not (A.asBool (A.mget dm (.str (A.asStr (A.cell dW 0 0))) 0)) = false := by assumption
        rw [hneg, hget] at e1
        have hs : s ∈ Ls := by simpa using e1
        refine ⟨((Ls, W), _, _, false), ⟨hS.old hs, hpart, k, hdm, hk⟩, by simp only [List.length_cons]; omega, [0, 1], rfl, ?_⟩
        (cbv; repeat' apply And.intro); all_goals try first | trivial | rfl | (rw [X.a]; rfl)
    · have h1' : A.lt 0 (A.len dW) = false := h1
      have hW0 : W = [] := by
        obtain rfl := X.a
        rw [hlen_dW, Std_lt] at h1'
        have := of_decide_eq_false h1'
        exact List.eq_nil_of_length_eq_zero (by simp only [Int.ofNat_eq_natCast] at this; omega)
      subst hW0
      have hfin := hS.fin
      cbv
      exact h false (Iff.intro (fun e => absurd e (by decide)) (fun e => absurd e hfin))
  )
end Go.VC.T07
end

section
namespace Go.VC
open Classical in
noncomputable def menL (x : IF) : List S := if h : ∃ l : List S, SrtS l ∧ ∀ s, s ∈ l ↔ s ∈ mentS x then h.choose else []
theorem srt_uniq {l l' : List S} (h : SrtS l) (h' : SrtS l') (he : ∀ s, s ∈ l ↔ s ∈ l') : l = l' := by
  have nd : ∀ {l : List S}, SrtS l → l.Nodup := fun h => List.Pairwise.imp (fun {a b} h e => by subst e; rw [slt_irrefl] at h; cases h) h
  have hp : l.Perm l' := (List.perm_ext_iff_of_nodup (nd h) (nd h')).2 he
  have asy : ∀ a b : S, slt a b = true → slt b a = true → a = b := fun a b h1 h2 => absurd (slt_trans h1 h2) (by rw [slt_irrefl]; decide)
  exact List.Perm.eq_of_pairwise (le := fun a b => slt a b = true) (fun a b _ _ h1 h2 => asy a b h1 h2) h h' hp
theorem menL_of {x : IF} {l : List S} (h1 : SrtS l) (h2 : ∀ s, s ∈ l ↔ s ∈ mentS x) : l = menL x := by
  have hx : ∃ l : List S, SrtS l ∧ ∀ s, s ∈ l ↔ s ∈ mentS x := ⟨l, h1, h2⟩
  unfold menL
  rw [dif_pos hx]
  exact srt_uniq h1 hx.choose_spec.1 fun s => (h2 s).trans (hx.choose_spec.2 s).symm
theorem menL_mem {x : IF} {s : S} (h : s ∈ menL x) : s ∈ mentS x := by
  unfold menL at h
  split at h
  · rename_i hx; exact (hx.choose_spec.2 s).1 h
  · simp at h
theorem menL_len (x : IF) : (menL x).length ≤ x.wt := by
  refine Nat.le_trans ?_ (mentL_len x)
  have nd : ∀ {l : List S}, SrtS l → l.Nodup := fun h => List.Pairwise.imp (fun {a b} h e => by subst e; rw [slt_irrefl] at h; cases h) h
  by_cases hx : ∃ l : List S, SrtS l ∧ ∀ s, s ∈ l ↔ s ∈ mentS x
  · have e : menL x = hx.choose := by unfold menL; rw [dif_pos hx]
    refine nodup_sub_len (by rw [e]; exact nd hx.choose_spec.1) fun s hs => ?_
    exact (List.mem_filter.1 (menL_mem hs)).1
  · unfold menL; rw [dif_neg hx]; exact Nat.zero_le _
noncomputable def gOf (env : List IF) (s : S) : List S := match env.reverse.find? fun x => x.path == s with | some x => menL x | none => []
theorem gOf_snoc (env : List IF) (x : IF) (s : S) : gOf (env ++ [x]) s = if x.path = s then menL x else gOf env s := by
  unfold gOf
  rw [List.reverse_append, List.reverse_singleton, List.singleton_append, List.find?_cons]
  by_cases h : x.path = s
  · have : (x.path == s) = true := by simpa using h
    rw [this, if_pos h]
  · have : (x.path == s) = false := by simpa using h
    rw [this, if_neg h]
theorem sum_findG {α : Type} (key : α → S) : ∀ (l : List α) (f : α → Nat) (L : List S), L.Nodup → (L.map fun n => ((l.find? fun x => key x == n).map f).getD 0).sum ≤ (l.map f).sum
  | [], f, L, _ => by
    have : ∀ L : List S, (L.map fun n => ((([] : List α).find? fun x => key x == n).map f).getD 0).sum = 0 := by
      intro L
      induction L with
      | nil => rfl
      | cons s L ih => rw [List.map_cons, List.sum_cons, ih]; rfl
    rw [this]; exact Nat.zero_le _
  | x :: l, f, L, hn => by
    have ih := sum_findG key l f L hn
    have key : (L.map fun n => (((x :: l).find? fun y => key y == n).map f).getD 0).sum ≤ f x + (L.map fun n => ((l.find? fun y => key y == n).map f).getD 0).sum := by
      clear ih
      induction L with
      | nil => simp
      | cons s L ihL =>
        rw [List.nodup_cons] at hn
        have ihL := ihL hn.2
        simp only [List.map_cons, List.sum_cons]
        by_cases hs : key x = s
        · have hb : (key x == s) = true := by simpa using hs
          have hrest : ∀ n ∈ L, (((x :: l).find? fun y => key y == n).map f).getD 0 = ((l.find? fun y => key y == n).map f).getD 0 := by
            intro n hnL
            have : (key x == n) = false := by
              rw [beq_eq_false_iff_ne]; intro e; exact hn.1 (by rw [← hs, e]; exact hnL)
            rw [List.find?_cons, this]
          rw [List.map_congr_left hrest, List.find?_cons, hb]
          simp only [Option.map_some, Option.getD_some]
          omega
        · have hb : (key x == s) = false := by simpa using hs
          rw [List.find?_cons, hb]
          simp only
          omega
    simp only [List.map_cons, List.sum_cons]
    omega
theorem gOf_GB (env : List IF) : GB (gOf env) (env.map IF.wt).sum := by
  have hrev : (env.reverse.map IF.wt).sum = (env.map IF.wt).sum := by rw [List.map_reverse, List.sum_reverse]
  refine ⟨fun L hn => ?_, env.flatMap mentL, flat_len fun x _ => mentL_len x, fun s e he => ?_⟩
  · rw [← hrev]
    refine Nat.le_trans ?_ (sum_findG IF.path env.reverse IF.wt L hn)
    have key : ∀ L : List S, (L.map fun s => (gOf env s).length).sum ≤ (L.map fun n => ((env.reverse.find? fun x => x.path == n).map IF.wt).getD 0).sum := by
      intro L
      induction L with
      | nil => exact Nat.le_refl _
      | cons s L ih =>
        simp only [List.map_cons, List.sum_cons]
        refine Nat.add_le_add ?_ ih
        unfold gOf
        cases h : env.reverse.find? fun x => x.path == s with
        | none => simp
        | some x => simpa using menL_len x
    exact key L
  · unfold gOf at he
    cases h : env.reverse.find? fun x => x.path == s with
    | none => rw [h] at he; simp at he
    | some x =>
      rw [h] at he
      have hx := List.mem_reverse.1 (List.mem_of_find?_eq_some h)
      exact List.mem_flatMap.2 ⟨x, hx, (List.mem_filter.1 (menL_mem he)).1⟩
theorem MM.put {mm : List (S × D)} {env : List IF} (h : MM mm (gOf env)) (x : IF) : MM (putV x.path (encL encS (menL x)) mm) (gOf (env ++ [x])) := by
  refine ⟨fun s q hq => ?_, fun s hq => ?_⟩
  · rw [gOf_snoc]
    rw [look_put] at hq
    by_cases e : x.path = s
    · rw [if_pos e.symm] at hq; rw [if_pos e]; exact (Option.some.inj hq).symm
    · rw [if_neg (Ne.symm e)] at hq; rw [if_neg e]; exact h.get s q hq
  · rw [gOf_snoc]
    rw [look_put] at hq
    by_cases e : x.path = s
    · rw [if_pos e.symm] at hq; cases hq
    · rw [if_neg (Ne.symm e)] at hq; rw [if_neg e]; exact h.no s hq
theorem MM.nil : MM [] (gOf []) := ⟨fun s q hq => absurd hq (by simp [lookV]), fun s _ => rfl⟩
noncomputable def envL (env : List IF) : Option S → List IF → S × Int
  | _, [] => ([], 0)
  | none, x :: l => if (ifaceE env x.path).2 ≠ 0 then (x.path, (ifaceE env x.path).2) else envL env (some x.path) l
  | some p, x :: l => if x.path = p then (x.path, 5) else if slt x.path p = true then (x.path, 1) else if (ifaceE env x.path).2 ≠ 0 then (x.path, (ifaceE env x.path).2) else envL env (some x.path) l
open Classical in
noncomputable def lpE (env : List IF) (x : IF) : Int := if LR (gOf env) x.path x.path then 14 else 0
noncomputable def envE (env : List IF) : S × Int := if 64 < env.length then ([], 7) else orE (envL env none env) (entL (lpE env) IF.path env)
end Go.VC
namespace Go.VC.T07
open Go Go.VC Go.Proofs
theorem F16 {env : List IF} {de : D} (he : de = encL encIF env) (hok : envOk env) (hfit : ∀ i ∈ env, i.fit) (hwt : (env.map IF.wt).sum ≤ 268435456) {K : PV → List Ob → Prop} (h : ∀ (s : S) (r : Int), (s, r) = envE env → K (.tup [.str s, .int .i64 r]) []) :
    FC Tryz.prog tt 16 [] [.lst 40 de] K := by
  refine FC.enter (G := g16) tt_ok mixed ⟨Tryz.func16, by rfl, rfl⟩ rfl rfl rfl ?_
  intro A C L X
  have hneg := negA X.a
  have heq := eqA X.a
  have hlt := ltA X.a
  have hsq := sqA X.a
  have hsl := slA X.a
  have l1 : A.len de = Int.ofNat env.length := lenIs X.a he
  obtain ⟨n_de, hn_de, hlen_de⟩ := lenOf he
  unfold envE at h
  cbv
  repeat' (first | apply And.intro | exact fun (_ : FF) => by kernel_rfl | (intro h2; cbv) | apply Or.inl)
  · have h2 : A.lt 64 (A.len de) = true := h2
    rw [hlt, l1] at h2
    have h3 := of_decide_eq_true h2
    simp only [Int.ofNat_eq_natCast] at h3
    exact h _ _ (by rw [if_pos (by omega)])
  have hl64 : ¬ 64 < env.length := by
    have h2 : A.lt 64 (A.len de) = false := h2
    rw [hlt, l1] at h2
    have h3 := of_decide_eq_false h2
    simp only [Int.ofNat_eq_natCast] at h3
    omega
  rw [if_neg hl64] at h
  clear h2
  obtain ⟨E0, hE0⟩ : ∃ x, x = envL env none env := ⟨_, rfl⟩
  obtain ⟨E1, hE1⟩ : ∃ x, x = entL (lpE env) IF.path env := ⟨_, rfl⟩
  rw [← hE0, ← hE1] at h
  cbv
  refine X.loopP (fun (y : Nat × D) => ⟨[(17, .int .i64 y.1), (16, .int .i64 (A.len de)), (15, .lst 40 de), (4, .mp 0), (0, .lst 40 de)], [.map .str 24 y.2]⟩)
    (fun y => y.1 ≤ n_de ∧ E0 = envL env (prevO (env.map IF.path) y.1) (env.drop y.1) ∧ ∃ mm, y.2 = encL (encKV enc1) mm ∧ MM mm (gOf (env.take y.1))) (fun y => n_de - y.1) (0, .list []) ⟨Nat.zero_le _, hE0, [], rfl, MM.nil⟩ ?_ ?_
  · refine ⟨[0], rfl, ?_⟩
    (cbv; repeat' apply And.intro); all_goals try first | trivial | rfl | (rw [X.a]; rfl)
  rintro ⟨j, dM⟩ ⟨hj, hq, mm, hdM, hmm⟩
  simp only at hj hq hdM hmm
  cbv
  refine ⟨fun h1 => ?_, fun h1 => ?_⟩
  · have h5 : j < env.length := by obtain rfl := X.a; simp only [hlen_de, SD, bNot] at h1; omega
    have k1 := ifIsAt X.a he h5
    have k0 := k1.1
    have hid : A.idx (Int.ofNat j) (A.len de) := by rw [X.a, he]; exact leaf_idx h5
    have hin : A.inr .i64 (A.add (Int.ofNat j) 1) := by rw [X.a]; exact leaf_inc h5 (by omega)
    have hin1 : A.lt 0 (Int.ofNat j) = true → A.inr .i64 (A.sub (Int.ofNat j) 1) := by
      intro h; rw [hlt] at h; have h := of_decide_eq_true h; rw [X.a]; simp only [SD, bNot] at *; omega
    have hid1 : A.lt 0 (Int.ofNat j) = true → A.idx (A.sub (Int.ofNat j) 1) (A.len de) := by
      intro h; rw [hlt] at h; have h := of_decide_eq_true h; rw [X.a] at *; simp only [hlen_de, SD, bNot] at *; omega
    have hcp : A.lt 0 (Int.ofNat j) = true → ∃ p, prevO (env.map IF.path) j = some p ∧ A.asStr (A.cell de (A.sub (Int.ofNat j) 1) 0) = p := by
      intro h; rw [hlt] at h; have h := of_decide_eq_true h
      simp only [Int.ofNat_eq_natCast] at h
      have hjp : j - 1 < env.length := by omega
      refine ⟨env[j-1].path, ?_, ?_⟩
      · rw [prevO, if_neg (by omega)]; simp [List.getD, hjp]
      · rw [show A.sub (Int.ofNat j) 1 = Int.ofNat (j-1) by rw [X.a]; simp only [SD, bNot]; omega]; exact (ifIsAt X.a he hjp).1
    have hcn : A.lt 0 (Int.ofNat j) = false → prevO (env.map IF.path) j = none := by
      intro h; rw [hlt] at h; have h := of_decide_eq_false h
      simp only [Int.ofNat_eq_natCast] at h
      rw [prevO, if_pos (by omega)]
    have hpr : prevO (env.map IF.path) (j+1) = some env[j].path := by rw [prevO, if_neg (by omega)]; simp [List.getD, h5]
    have hxw : env[j].wt ≤ 4294967295 := Nat.le_trans (wt_mem (List.getElem_mem h5)) (Nat.le_trans hwt (by decide))
    have hput : ∀ l r, r = encL encS l → l = menL env[j] → A.mset dM (.str (A.asStr (A.cell de (Int.ofNat j) 0))) [r] = encL (encKV enc1) (putV env[j].path (encL encS (menL env[j])) mm) := by
      intro l r hr hl; rw [k0, X.a, hdM, hr, hl]; exact Std_putV (f := enc1)
    have htk : env.take (j+1) = env.take j ++ [env[j]] := take_succ' h5
    rw [List.drop_eq_getElem_cons h5] at hq
    cases hz : A.lt 0 (Int.ofNat j) with
    | true =>
      obtain ⟨p, hp1, hp2⟩ := hcp hz
      rw [hp1, envL] at hq
      cbv
      repeat' (first | apply And.intro | exact fun (_ : FF) => by kernel_rfl | (intro h2; first | exact absurd ((hz).symm.trans h2) (by decide) | cbv) | apply Or.inl | (refine X.call (F15 he hok hfit fun s1 r1 hr1 => ?_); cbv))
      any_goals first | exact hid | exact hin | exact hin1 hz | exact hid1 hz
      · have h3 : A.seq (A.asStr (A.cell de (Int.ofNat j) 0)) (A.asStr (A.cell de (A.sub (Int.ofNat j) 1) 0)) = true := by assumption
        rw [k0, hp2, hsq] at h3
        rw [if_pos (by simpa using h3)] at hq
        refine h _ 5 ?_
        rw [hq, orE, if_pos (show (5:Int) ≠ 0 by decide)]; exact Prod.ext k0 rfl
      · have h3 : A.seq (A.asStr (A.cell de (Int.ofNat j) 0)) (A.asStr (A.cell de (A.sub (Int.ofNat j) 1) 0)) = false := by assumption
        have h4 : A.slt (A.asStr (A.cell de (Int.ofNat j) 0)) (A.asStr (A.cell de (A.sub (Int.ofNat j) 1) 0)) = true := by assumption
        rw [k0, hp2, hsq] at h3
        rw [k0, hp2, hsl] at h4
        rw [if_neg (by simpa using h3), if_pos h4] at hq
        refine h _ 1 ?_
        rw [hq, orE, if_pos (show (1:Int) ≠ 0 by decide)]; exact Prod.ext k0 rfl
      · have h3 : A.seq (A.asStr (A.cell de (Int.ofNat j) 0)) (A.asStr (A.cell de (A.sub (Int.ofNat j) 1) 0)) = false := by assumption
        have h4 : A.slt (A.asStr (A.cell de (Int.ofNat j) 0)) (A.asStr (A.cell de (A.sub (Int.ofNat j) 1) 0)) = false := by assumption
        have h2 : A.not (A.eq r1 0) = true := by assumption
        have hr1 : (s1, r1) = ifaceE env env[j].path := by rw [← k0]; exact hr1
        rw [k0, hp2, hsq] at h3
        rw [k0, hp2, hsl] at h4
        rw [hneg, heq] at h2
        rw [if_neg (by simpa using h3), if_neg (by rw [h4]; decide), ← hr1, if_pos (by simpa using h2)] at hq
        refine h _ r1 ?_
        rw [hq, orE, if_pos (show r1 ≠ 0 by simpa using h2)]; exact Prod.ext k0 rfl
      · have h3 : A.seq (A.asStr (A.cell de (Int.ofNat j) 0)) (A.asStr (A.cell de (A.sub (Int.ofNat j) 1) 0)) = false := by assumption
        have h4 : A.slt (A.asStr (A.cell de (Int.ofNat j) 0)) (A.asStr (A.cell de (A.sub (Int.ofNat j) 1) 0)) = false := by assumption
        have h2 : A.not (A.eq r1 0) = false := by assumption
        have hr1 : (s1, r1) = ifaceE env env[j].path := by rw [← k0]; exact hr1
        rw [k0, hp2, hsq] at h3
        rw [k0, hp2, hsl] at h4
        rw [hneg, heq] at h2
        have h6 : r1 = 0 := by simpa using h2
        rw [if_neg (by simpa using h3), if_neg (by rw [h4]; decide), ← hr1, if_neg (show ¬ r1 ≠ 0 from fun e => e h6)] at hq
        refine X.call (F38 k1 (hok.2 _ (List.getElem_mem h5)) hxw fun l r hr hl1 hl2 => ?_)
        have hp := hput l r hr (menL_of hl1 hl2)
        have hm2 : MM (putV env[j].path (encL encS (menL env[j])) mm) (gOf (env.take (j+1))) := by rw [htk]; exact hmm.put _
        cbv
        repeat' (first | apply And.intro | exact fun (_ : FF) => by kernel_rfl | (intro h2; cbv) | apply Or.inl)
        any_goals exact hin
        refine ⟨(j+1, _), ⟨by simp only; omega, ?_, _, hp, hm2⟩, by simp only; omega, [0], rfl, ?_⟩
        · rw [hpr]; exact hq
        (cbv; repeat' apply And.intro); all_goals try first | trivial | rfl | (rw [X.a]; rfl)
    | false =>
      rw [hcn hz, envL] at hq
      cbv
      repeat' (first | apply And.intro | exact fun (_ : FF) => by kernel_rfl | (intro h2; first | exact absurd ((hz).symm.trans h2) (by decide) | cbv) | apply Or.inl | (refine X.call (F15 he hok hfit fun s1 r1 hr1 => ?_); cbv))
      any_goals first | exact hid | exact hin
      · have h2 : A.not (A.eq r1 0) = true := by assumption
        have hr1 : (s1, r1) = ifaceE env env[j].path := by rw [← k0]; exact hr1
        rw [hneg, heq] at h2
        rw [← hr1, if_pos (by simpa using h2)] at hq
        refine h _ r1 ?_
        rw [hq, orE, if_pos (show r1 ≠ 0 by simpa using h2)]; exact Prod.ext k0 rfl
      · have h2 : A.not (A.eq r1 0) = false := by assumption
        have hr1 : (s1, r1) = ifaceE env env[j].path := by rw [← k0]; exact hr1
        rw [hneg, heq] at h2
        have h6 : r1 = 0 := by simpa using h2
        rw [← hr1, if_neg (show ¬ r1 ≠ 0 from fun e => e h6)] at hq
        refine X.call (F38 k1 (hok.2 _ (List.getElem_mem h5)) hxw fun l r hr hl1 hl2 => ?_)
        have hp := hput l r hr (menL_of hl1 hl2)
        have hm2 : MM (putV env[j].path (encL encS (menL env[j])) mm) (gOf (env.take (j+1))) := by rw [htk]; exact hmm.put _
        cbv
        repeat' (first | apply And.intro | exact fun (_ : FF) => by kernel_rfl | (intro h2; cbv) | apply Or.inl)
        any_goals exact hin
        refine ⟨(j+1, _), ⟨by simp only; omega, ?_, _, hp, hm2⟩, by simp only; omega, [0], rfl, ?_⟩
        · rw [hpr]; exact hq
        (cbv; repeat' apply And.intro); all_goals try first | trivial | rfl | (rw [X.a]; rfl)
  · have h5 : j = n_de := by obtain rfl := X.a; simp only [hlen_de, SD, bNot] at h1; omega
    have z0 : E0 = ([], 0) := by rw [hq, h5, hn_de, List.drop_length]; unfold envL; cases prevO (env.map IF.path) env.length <;> rfl
    rw [h5, hn_de, List.take_length] at hmm
    cbv
    refine X.loopK (fun (y : Nat) => ⟨[(74, .int .i64 y), (73, .int .i64 (A.len de)), (72, .lst 40 de), (4, .dmp 24 dM)], []⟩)
      (fun y => y ≤ n_de ∧ E1 = entL (lpE env) IF.path (env.drop y)) (fun y => n_de - y) 0 ⟨Nat.zero_le _, hE1⟩ ?_ ?_
    · refine ⟨[0], [], [], rfl, ?_⟩
      (cbv; repeat' apply And.intro); all_goals try first | trivial | rfl | (rw [X.a]; rfl)
    rintro q ⟨hj2, hq2⟩
    cbv
    refine ⟨fun h1 => ?_, fun h1 => ?_⟩
    · have h5 : q < env.length := by obtain rfl := X.a; simp only [hlen_de, SD, bNot] at h1; omega
      have k1 := ifIsAt X.a he h5
      have k0 := k1.1
      have hid : A.idx (Int.ofNat q) (A.len de) := by rw [X.a, he]; exact leaf_idx h5
      have hin : A.inr .i64 (A.add (Int.ofNat q) 1) := by rw [X.a]; exact leaf_inc h5 (by omega)
      rw [List.drop_eq_getElem_cons h5, entL] at hq2
      cbv
      repeat' (first | apply And.intro | exact fun (_ : FF) => by kernel_rfl | (intro h2; cbv) | apply Or.inl)
      any_goals exact hid
      refine X.call (F39 hmm (gOf_GB env) hwt hdM fun b hb => ?_)
      cbv
      repeat' (first | apply And.intro | exact fun (_ : FF) => by kernel_rfl | (intro h2; cbv) | apply Or.inl)
      any_goals exact hin
      · have h2 : b = true := by assumption
        have hb : b = true ↔ LR (gOf env) env[q].path env[q].path := by rw [← k0]; exact hb
        have e14 : lpE env env[q] = 14 := by unfold lpE; rw [if_pos (hb.1 h2)]
        rw [e14, if_pos (by decide)] at hq2
        refine h _ 14 ?_
        rw [z0, orE, if_neg (by decide), hq2]; exact Prod.ext k0 rfl
      · have h2 : b = false := by assumption
        have hb : b = true ↔ LR (gOf env) env[q].path env[q].path := by rw [← k0]; exact hb
        have e14 : lpE env env[q] = 0 := by unfold lpE; rw [if_neg (fun e => by have := hb.2 e; rw [h2] at this; cases this)]
        rw [e14, if_neg (by decide)] at hq2
        refine ⟨q+1, ⟨by omega, hq2⟩, by omega, [], [], [], rfl, ?_⟩
        (cbv; repeat' apply And.intro); all_goals try first | trivial | rfl | (rw [X.a]; rfl)
    · have h5 : q = n_de := by obtain rfl := X.a; simp only [hlen_de, SD, bNot] at h1; omega
      cbv
      refine h [] 0 ?_
      rw [z0, hq2, h5, hn_de, List.drop_length]; rfl
end Go.VC.T07
end

section
namespace Go.VC
section
variable {α : Type} {f : α → List D} {l : List α} {i : Nat} {y : α} {ys : List D} {A : Alg} {d : D}
theorem app1 (ha : A = Std) (hd : d = encL f l) : A.app (A.lit []) (A.part d 0 (Int.ofNat i)) = encL f (l.take i) := by
  rw [ha, hd, Std_partI, show Std.lit [] = encL f [] from rfl, Std_app]; simp
theorem app2 (ha : A = Std) (hd : d = encL f l) (hy : ys = f y) : A.app (A.app (A.lit []) (A.part d 0 (Int.ofNat i))) (A.lit [ys]) = encL f (l.take i ++ [y]) := by
  rw [app1 ha hd, ha, hy]; exact Std_app (k := [y])
end
end Go.VC
namespace Go.VC.T07
open Go Go.VC Go.Proofs
end Go.VC.T07
end

section
namespace Go.VC
end Go.VC
namespace Go.VC.T07
open Go Go.VC Go.Proofs
end Go.VC.T07
end

section
namespace Go.VC
end Go.VC
namespace Go.VC.T07
open Go Go.VC Go.Proofs
end Go.VC.T07
end

section
namespace Go.VC
theorem sum_map_take_le {α : Type} {f : α → Nat} {l : List α} {i : Nat} : ((l.take i).map f).sum ≤ (l.map f).sum := by
  rw [List.map_take]; exact sum_take_le
end Go.VC
namespace Go.VC.T07
open Go Go.VC Go.Proofs
end Go.VC.T07
end

section
namespace Go.VC
def teTys (e : TE) : List Ty := [e.lower, e.upper] ++ e.params.map (·.bound)
def veTys (e : VE) : List Ty := [e.ty] ++ e.params.map (·.bound)
def typesL (x : IF) : List Ty := x.types.flatMap teTys ++ x.values.flatMap veTys
theorem flat_take_len {α β : Type} {f : α → List β} {l : List α} {i : Nat} (h : i < l.length) : ((l.take i).flatMap f).length + (f l[i]).length ≤ (l.flatMap f).length := by
  have e : l.flatMap f = (l.take (i+1)).flatMap f ++ (l.drop (i+1)).flatMap f := by rw [← List.flatMap_append, List.take_append_drop]
  rw [e, flat_take h, List.length_append, List.length_append]; omega
end Go.VC
namespace Go.VC.T07
open Go Go.VC Go.Proofs
def g25a : Cfg := {tt := tt, n := 96, sch := g25.sch, own := [8]}
theorem F25 {x : IF} {c0 : S} {c1 c2 c3 c4 : D} {K : PV → List Ob → Prop} (hx : ifIs x c0 c1 c2 c3 c4) (hok : x.ok) (hw : (typesL x).length ≤ 4294967290)
    (h : ∀ r, r = encL encTy (typesL x) → K (.lst 28 r) []) : FC Tryz.prog tt 25 [] [ifPV c0 c1 c2 c3 c4] K := by
  obtain ⟨x0, hc1, hc2, hc3, hc4⟩ := hx
  have nt := hok.nt
  have nv := hok.nv
  have htl : (typesL x).length = (x.types.flatMap teTys).length + (x.values.flatMap veTys).length := by unfold typesL; rw [List.length_append]
  refine FC.enter (G := g25a) tt_ok mixed ⟨Tryz.func25, by rfl, rfl⟩ rfl rfl rfl ?_
  intro A C L X
  obtain ⟨n_c1, hn_c1, hlen_c1⟩ := lenOf hc1
  obtain ⟨n_c2, hn_c2, hlen_c2⟩ := lenOf hc2
  cbv
  refine X.loopP (fun (y : Nat × D) => ⟨[(4, .int .i64 y.1), (3, .row 28 1), (1, .box 0 0)], [.box [.str c0, .lst 51 c1, .lst 101 c2, .lst 106 c3, .lst 119 c4], .row 28 y.2 true]⟩)
    (fun y => y.1 ≤ n_c1 ∧ y.2 = encL encTy ((x.types.take y.1).flatMap teTys)) (fun y => n_c1 - y.1) (0, A.lit []) ⟨Nat.zero_le _, by rw [X.a]; rfl⟩ ?_ ?_
  · refine ⟨[0, 1], rfl, ?_⟩
    (cbv; repeat' apply And.intro); all_goals try first | trivial | rfl | (rw [X.a]; rfl)
  rintro ⟨i, r⟩ ⟨hi, hr⟩
  simp only at hi hr
  cbv
  refine ⟨fun h1 => ?_, fun h1 => ?_⟩
  · have h5 : i < x.types.length := by obtain rfl := X.a; simp only [hlen_c1, SD, bNot] at h1; omega
    obtain ⟨k0, k1, ⟨m0, m1, m2, m3, m4⟩, ⟨u0, u1, u2, u3, u4⟩⟩ := teIsAt X.a hc1 h5
    have hid : A.idx (Int.ofNat i) (A.len c1) := by rw [X.a, hc1]; exact leaf_idx h5
    have hin : A.inr .i64 (A.add (Int.ofNat i) 1) := by rw [X.a]; exact leaf_inc h5 (by omega)
    have hfl := flat_take_len (f := teTys) h5
    have hft := flat_take (f := teTys) h5
    have htn : (teTys x.types[i]).length = 2 + x.types[i].params.length := by unfold teTys; simp; omega
    have hrl : ((x.types.take i).flatMap teTys).length + 2 + x.types[i].params.length ≤ 4294967290 := by first | omega | (simp only [List.length_append]; omega)
    have q1 : A.app r (A.lit [[.int (A.asInt (A.cell c1 (Int.ofNat i) 2)), .str (A.asStr (A.cell c1 (Int.ofNat i) 3)), .str (A.asStr (A.cell c1 (Int.ofNat i) 4)), A.cell c1 (Int.ofNat i) 5, A.cell c1 (Int.ofNat i) 6], [.int (A.asInt (A.cell c1 (Int.ofNat i) 7)), .str (A.asStr (A.cell c1 (Int.ofNat i) 8)), .str (A.asStr (A.cell c1 (Int.ofNat i) 9)), A.cell c1 (Int.ofNat i) 10, A.cell c1 (Int.ofNat i) 11]]) = encL encTy ((x.types.take i).flatMap teTys ++ [x.types[i].lower, x.types[i].upper] ++ (x.types[i].params.take 0).map (·.bound)) := by
      rw [m0, m1, m2, m3, m4, u0, u1, u2, u3, u4, ← encTy_eq, ← encTy_eq, X.a, hr]
      refine (Std_app (f := encTy) (k := [x.types[i].lower, x.types[i].upper])).trans ?_
      simp
    have b1 : A.bnd (A.add (A.len r) (A.len (A.lit [[.int (A.asInt (A.cell c1 (Int.ofNat i) 2)), .str (A.asStr (A.cell c1 (Int.ofNat i) 3)), .str (A.asStr (A.cell c1 (Int.ofNat i) 4)), A.cell c1 (Int.ofNat i) 5, A.cell c1 (Int.ofNat i) 6], [.int (A.asInt (A.cell c1 (Int.ofNat i) 7)), .str (A.asStr (A.cell c1 (Int.ofNat i) 8)), .str (A.asStr (A.cell c1 (Int.ofNat i) 9)), A.cell c1 (Int.ofNat i) 10, A.cell c1 (Int.ofNat i) 11]]))) 4294967296 := by rw [X.a, hr, Std_len, Std_len_lit]; exact ⟨by rw [Std_add]; omega, by rw [Std_add]; simp only [List.length_cons, List.length_nil]; omega⟩
    cbv
    repeat' (first | apply And.intro | exact fun (_ : FF) => by kernel_rfl | (intro h2; cbv) | apply Or.inl)
    any_goals exact hid
    any_goals exact b1
    obtain ⟨dp, hdp⟩ : ∃ dp, dp = A.cell c1 (Int.ofNat i) 1 := ⟨_, rfl⟩
    rw [← hdp] at k1
    obtain ⟨n_dp, hn_dp, hlen_dp⟩ := lenOf k1
    refine X.loopP (fun (y : Nat × D) => ⟨[(5, .int .i64 y.1), (4, .int .i64 i), (3, .row 28 1), (1, .box 0 0)], [.box [.str c0, .lst 51 c1, .lst 101 c2, .lst 106 c3, .lst 119 c4], .row 28 y.2 true]⟩)
      (fun y => y.1 ≤ n_dp ∧ y.2 = encL encTy ((x.types.take i).flatMap teTys ++ [x.types[i].lower, x.types[i].upper] ++ (x.types[i].params.take y.1).map (·.bound))) (fun y => n_dp - y.1) (0, _) ⟨Nat.zero_le _, q1⟩ ?_ ?_
    · refine ⟨[0, 1], rfl, ?_⟩
      (cbv; repeat' apply And.intro); all_goals try first | trivial | rfl | (rw [X.a]; rfl)
    rintro ⟨j, r2⟩ ⟨hj, hr2⟩
    simp only at hj hr2
    have hlj : A.len (A.cell c1 (Int.ofNat i) 1) = Int.ofNat n_dp := by rw [← hdp, X.a]; exact hlen_dp
    cbv
    refine ⟨hid, ?_⟩
    refine ⟨fun h1 => ?_, fun h1 => ?_⟩
    · have h6 : j < x.types[i].params.length := by
        have h1 : A.lt (Int.ofNat j) (A.len (A.cell c1 (Int.ofNat i) 1)) = true := h1
        rw [hlj] at h1; obtain rfl := X.a; simp only [SD, bNot] at h1; omega
      obtain ⟨w0, w1, w2, w3, w4, w5, w6⟩ := pmIsAt X.a k1 h6
      rw [hdp] at w2 w3 w4 w5 w6
      have hid2 : A.idx (Int.ofNat j) (A.len (A.cell c1 (Int.ofNat i) 1)) := by rw [← hdp, X.a, k1]; exact leaf_idx h6
      have hin2 : A.inr .i64 (A.add (Int.ofNat j) 1) := by rw [X.a]; exact leaf_inc h6 (by omega)
      have hcur : ((x.types.take i).flatMap teTys ++ [x.types[i].lower, x.types[i].upper] ++ (x.types[i].params.take j).map (·.bound)).length ≤ 4294967290 := by simp only [List.length_append, List.length_map, List.length_take, List.length_cons, List.length_nil] at hrl ⊢; omega
      have q2 : A.app r2 (A.lit [[.int (A.asInt (A.cell (A.cell c1 (Int.ofNat i) 1) (Int.ofNat j) 2)), .str (A.asStr (A.cell (A.cell c1 (Int.ofNat i) 1) (Int.ofNat j) 3)), .str (A.asStr (A.cell (A.cell c1 (Int.ofNat i) 1) (Int.ofNat j) 4)), (A.cell (A.cell c1 (Int.ofNat i) 1) (Int.ofNat j) 5), (A.cell (A.cell c1 (Int.ofNat i) 1) (Int.ofNat j) 6)]]) = encL encTy ((x.types.take i).flatMap teTys ++ [x.types[i].lower, x.types[i].upper] ++ (x.types[i].params.take (j+1)).map (·.bound)) := by
        rw [w2, w3, w4, w5, w6, X.a, hr2, map_take h6, ← List.append_assoc, ← encTy_eq]
        exact Std_app (k := [x.types[i].params[j].bound])
      have b2 : A.bnd (A.add (A.len r2) (A.len (A.lit [[.int (A.asInt (A.cell (A.cell c1 (Int.ofNat i) 1) (Int.ofNat j) 2)), .str (A.asStr (A.cell (A.cell c1 (Int.ofNat i) 1) (Int.ofNat j) 3)), .str (A.asStr (A.cell (A.cell c1 (Int.ofNat i) 1) (Int.ofNat j) 4)), (A.cell (A.cell c1 (Int.ofNat i) 1) (Int.ofNat j) 5), (A.cell (A.cell c1 (Int.ofNat i) 1) (Int.ofNat j) 6)]]))) 4294967296 := by rw [X.a, hr2, Std_len, Std_len_lit]; exact ⟨by rw [Std_add]; omega, by rw [Std_add]; simp only [List.length_cons, List.length_nil]; omega⟩
      cbv
      repeat' (first | apply And.intro | exact fun (_ : FF) => by kernel_rfl | (intro h2; cbv) | apply Or.inl)
      any_goals exact hid
      any_goals exact hid2
      any_goals exact b2
      any_goals exact hin2
      refine ⟨(j+1, _), ⟨?_, q2⟩, ?_, [0, 1], rfl, ?_⟩
      · simp only; omega
      · simp only; omega
      (cbv; repeat' apply And.intro); all_goals try first | trivial | rfl | (rw [X.a]; rfl)
    · have h6 : j = n_dp := by
        have h1 : A.lt (Int.ofNat j) (A.len (A.cell c1 (Int.ofNat i) 1)) = false := h1
        rw [hlj] at h1; obtain rfl := X.a; simp only [SD, bNot] at h1; omega
      rw [h6, hn_dp, List.take_length] at hr2
      have q3 : r2 = encL encTy ((x.types.take (i+1)).flatMap teTys) := by rw [hr2, hft]; unfold teTys; simp only [List.append_assoc]
      cbv
      repeat' (first | apply And.intro | exact fun (_ : FF) => by kernel_rfl | (intro h2; cbv) | apply Or.inl)
      any_goals exact hin
      refine ⟨(i+1, r2), ⟨?_, q3⟩, ?_, [0, 1], rfl, ?_⟩
      · simp only; omega
      · simp only; omega
      (cbv; repeat' apply And.intro); all_goals try first | trivial | rfl | (rw [X.a]; rfl)
  have h5 : i = n_c1 := by obtain rfl := X.a; simp only [hlen_c1, SD, bNot] at h1; omega
  rw [h5, hn_c1, List.take_length] at hr
  clear h1 hi
  cbv
  refine X.loopP (fun (y : Nat × D) => ⟨[(6, .int .i64 y.1), (3, .row 28 1), (1, .box 0 0)], [.box [.str c0, .lst 51 c1, .lst 101 c2, .lst 106 c3, .lst 119 c4], .row 28 y.2 true]⟩)
    (fun y => y.1 ≤ n_c2 ∧ y.2 = encL encTy (x.types.flatMap teTys ++ (x.values.take y.1).flatMap veTys)) (fun y => n_c2 - y.1) (0, r) ⟨Nat.zero_le _, by simpa using hr⟩ ?_ ?_
  · refine ⟨[0, 1], rfl, ?_⟩
    (cbv; repeat' apply And.intro); all_goals try first | trivial | rfl | (rw [X.a]; rfl)
  rintro ⟨i, r⟩ ⟨hi, hr⟩
  simp only at hi hr
  cbv
  refine ⟨fun h1 => ?_, fun h1 => ?_⟩
  · have h5 : i < x.values.length := by obtain rfl := X.a; simp only [hlen_c2, SD, bNot] at h1; omega
    obtain ⟨k0, k1, ⟨m0, m1, m2, m3, m4⟩⟩ := veIsAt X.a hc2 h5
    have hid : A.idx (Int.ofNat i) (A.len c2) := by rw [X.a, hc2]; exact leaf_idx h5
    have hin : A.inr .i64 (A.add (Int.ofNat i) 1) := by rw [X.a]; exact leaf_inc h5 (by omega)
    have hfl := flat_take_len (f := veTys) h5
    have hft := flat_take (f := veTys) h5
    have htn : (veTys x.values[i]).length = 1 + x.values[i].params.length := by unfold veTys; simp; omega
    have hrl : (x.types.flatMap teTys ++ (x.values.take i).flatMap veTys).length + 1 + x.values[i].params.length ≤ 4294967290 := by first | omega | (simp only [List.length_append]; omega)
    have q1 : A.app r (A.lit [[.int (A.asInt (A.cell c2 (Int.ofNat i) 2)), .str (A.asStr (A.cell c2 (Int.ofNat i) 3)), .str (A.asStr (A.cell c2 (Int.ofNat i) 4)), A.cell c2 (Int.ofNat i) 5, A.cell c2 (Int.ofNat i) 6]]) = encL encTy (x.types.flatMap teTys ++ (x.values.take i).flatMap veTys ++ [x.values[i].ty] ++ (x.values[i].params.take 0).map (·.bound)) := by
      rw [m0, m1, m2, m3, m4, ← encTy_eq, X.a, hr]
      refine (Std_app (f := encTy) (k := [x.values[i].ty])).trans ?_
      simp
    have b1 : A.bnd (A.add (A.len r) (A.len (A.lit [[.int (A.asInt (A.cell c2 (Int.ofNat i) 2)), .str (A.asStr (A.cell c2 (Int.ofNat i) 3)), .str (A.asStr (A.cell c2 (Int.ofNat i) 4)), A.cell c2 (Int.ofNat i) 5, A.cell c2 (Int.ofNat i) 6]]))) 4294967296 := by rw [X.a, hr, Std_len, Std_len_lit]; exact ⟨by rw [Std_add]; omega, by rw [Std_add]; simp only [List.length_cons, List.length_nil]; omega⟩
    cbv
    repeat' (first | apply And.intro | exact fun (_ : FF) => by kernel_rfl | (intro h2; cbv) | apply Or.inl)
    any_goals exact hid
    any_goals exact b1
    obtain ⟨dp, hdp⟩ : ∃ dp, dp = A.cell c2 (Int.ofNat i) 1 := ⟨_, rfl⟩
    rw [← hdp] at k1
    obtain ⟨n_dp, hn_dp, hlen_dp⟩ := lenOf k1
    refine X.loopP (fun (y : Nat × D) => ⟨[(7, .int .i64 y.1), (6, .int .i64 i), (3, .row 28 1), (1, .box 0 0)], [.box [.str c0, .lst 51 c1, .lst 101 c2, .lst 106 c3, .lst 119 c4], .row 28 y.2 true]⟩)
      (fun y => y.1 ≤ n_dp ∧ y.2 = encL encTy (x.types.flatMap teTys ++ (x.values.take i).flatMap veTys ++ [x.values[i].ty] ++ (x.values[i].params.take y.1).map (·.bound))) (fun y => n_dp - y.1) (0, _) ⟨Nat.zero_le _, q1⟩ ?_ ?_
    · refine ⟨[0, 1], rfl, ?_⟩
      (cbv; repeat' apply And.intro); all_goals try first | trivial | rfl | (rw [X.a]; rfl)
    rintro ⟨j, r2⟩ ⟨hj, hr2⟩
    simp only at hj hr2
    have hlj : A.len (A.cell c2 (Int.ofNat i) 1) = Int.ofNat n_dp := by rw [← hdp, X.a]; exact hlen_dp
    cbv
    refine ⟨hid, ?_⟩
    refine ⟨fun h1 => ?_, fun h1 => ?_⟩
    · have h6 : j < x.values[i].params.length := by
        have h1 : A.lt (Int.ofNat j) (A.len (A.cell c2 (Int.ofNat i) 1)) = true := h1
        rw [hlj] at h1; obtain rfl := X.a; simp only [SD, bNot] at h1; omega
      obtain ⟨w0, w1, w2, w3, w4, w5, w6⟩ := pmIsAt X.a k1 h6
      rw [hdp] at w2 w3 w4 w5 w6
      have hid2 : A.idx (Int.ofNat j) (A.len (A.cell c2 (Int.ofNat i) 1)) := by rw [← hdp, X.a, k1]; exact leaf_idx h6
      have hin2 : A.inr .i64 (A.add (Int.ofNat j) 1) := by rw [X.a]; exact leaf_inc h6 (by omega)
      have hcur : (x.types.flatMap teTys ++ (x.values.take i).flatMap veTys ++ [x.values[i].ty] ++ (x.values[i].params.take j).map (·.bound)).length ≤ 4294967290 := by simp only [List.length_append, List.length_map, List.length_take, List.length_cons, List.length_nil] at hrl ⊢; omega
      have q2 : A.app r2 (A.lit [[.int (A.asInt (A.cell (A.cell c2 (Int.ofNat i) 1) (Int.ofNat j) 2)), .str (A.asStr (A.cell (A.cell c2 (Int.ofNat i) 1) (Int.ofNat j) 3)), .str (A.asStr (A.cell (A.cell c2 (Int.ofNat i) 1) (Int.ofNat j) 4)), (A.cell (A.cell c2 (Int.ofNat i) 1) (Int.ofNat j) 5), (A.cell (A.cell c2 (Int.ofNat i) 1) (Int.ofNat j) 6)]]) = encL encTy (x.types.flatMap teTys ++ (x.values.take i).flatMap veTys ++ [x.values[i].ty] ++ (x.values[i].params.take (j+1)).map (·.bound)) := by
        rw [w2, w3, w4, w5, w6, X.a, hr2, map_take h6, ← List.append_assoc, ← encTy_eq]
        exact Std_app (k := [x.values[i].params[j].bound])
      have b2 : A.bnd (A.add (A.len r2) (A.len (A.lit [[.int (A.asInt (A.cell (A.cell c2 (Int.ofNat i) 1) (Int.ofNat j) 2)), .str (A.asStr (A.cell (A.cell c2 (Int.ofNat i) 1) (Int.ofNat j) 3)), .str (A.asStr (A.cell (A.cell c2 (Int.ofNat i) 1) (Int.ofNat j) 4)), (A.cell (A.cell c2 (Int.ofNat i) 1) (Int.ofNat j) 5), (A.cell (A.cell c2 (Int.ofNat i) 1) (Int.ofNat j) 6)]]))) 4294967296 := by rw [X.a, hr2, Std_len, Std_len_lit]; exact ⟨by rw [Std_add]; omega, by rw [Std_add]; simp only [List.length_cons, List.length_nil]; omega⟩
      cbv
      repeat' (first | apply And.intro | exact fun (_ : FF) => by kernel_rfl | (intro h2; cbv) | apply Or.inl)
      any_goals exact hid
      any_goals exact hid2
      any_goals exact b2
      any_goals exact hin2
      refine ⟨(j+1, _), ⟨?_, q2⟩, ?_, [0, 1], rfl, ?_⟩
      · simp only; omega
      · simp only; omega
      (cbv; repeat' apply And.intro); all_goals try first | trivial | rfl | (rw [X.a]; rfl)
    · have h6 : j = n_dp := by
        have h1 : A.lt (Int.ofNat j) (A.len (A.cell c2 (Int.ofNat i) 1)) = false := h1
        rw [hlj] at h1; obtain rfl := X.a; simp only [SD, bNot] at h1; omega
      rw [h6, hn_dp, List.take_length] at hr2
      have q3 : r2 = encL encTy (x.types.flatMap teTys ++ (x.values.take (i+1)).flatMap veTys) := by rw [hr2, hft]; unfold veTys; simp only [List.append_assoc]
      cbv
      repeat' (first | apply And.intro | exact fun (_ : FF) => by kernel_rfl | (intro h2; cbv) | apply Or.inl)
      any_goals exact hin
      refine ⟨(i+1, r2), ⟨?_, q3⟩, ?_, [0, 1], rfl, ?_⟩
      · simp only; omega
      · simp only; omega
      (cbv; repeat' apply And.intro); all_goals try first | trivial | rfl | (rw [X.a]; rfl)
  have h5 : i = n_c2 := by obtain rfl := X.a; simp only [hlen_c2, SD, bNot] at h1; omega
  rw [h5, hn_c2, List.take_length] at hr
  clear h1 hi
  cbv
  exact h r hr
end Go.VC.T07
end

section
namespace Go.VC
theorem sum_flat {α β : Type} {f : α → List β} {g : β → Nat} {w : α → Nat} : ∀ {l : List α}, (∀ x ∈ l, ((f x).map g).sum ≤ w x) → ((l.flatMap f).map g).sum ≤ (l.map w).sum
  | [], _ => by simp
  | x :: l, h => by
    have a := h x (by simp)
    have b := sum_flat (l := l) (f := f) (g := g) (w := w) fun y hy => h y (by simp [hy])
    simp only [List.flatMap_cons, List.map_append, List.sum_append, List.map_cons, List.sum_cons]; omega
theorem bound_sum (l : List Pm) : ((l.map (·.bound)).map Ty.size).sum ≤ (l.map Pm.wt).sum := by
  induction l with
  | nil => simp
  | cons p l ih => simp only [List.map_cons, List.sum_cons, Pm.wt] at ih ⊢; omega
theorem typesL_sum (x : IF) : ((typesL x).map Ty.size).sum + x.aliases.length ≤ x.wt := by
  have a := sum_flat (l := x.types) (f := teTys) (g := Ty.size) (w := TE.wt) fun y _ => by
    have := bound_sum y.params
    simp only [teTys, List.map_append, List.sum_append, List.map_cons, List.map_nil, List.sum_cons, List.sum_nil, TE.wt]; omega
  have b := sum_flat (l := x.values) (f := veTys) (g := Ty.size) (w := VE.wt) fun y _ => by
    have := bound_sum y.params
    simp only [veTys, List.map_append, List.sum_append, List.map_cons, List.map_nil, List.sum_cons, List.sum_nil, VE.wt]; omega
  simp only [typesL, List.map_append, List.sum_append, IF.wt]; omega
theorem ty_pos (t : Ty) : 1 ≤ t.size := by rw [size_eq]; omega
theorem len_sum : ∀ l : List Ty, l.length ≤ (l.map Ty.size).sum
  | [] => by simp
  | t :: l => by have a := ty_pos t; have b := len_sum l; simp only [List.length_cons, List.map_cons, List.sum_cons]; omega
theorem typesL_len (x : IF) : (typesL x).length ≤ x.wt := by have a := typesL_sum x; have b := len_sum (typesL x); omega
theorem typesL_le {x : IF} (hok : x.ok) {u : Ty} (h : u ∈ typesL x) : Ty.le 4294967295 u := by
  unfold typesL at h
  rcases List.mem_append.1 h with h | h
  · obtain ⟨e, he, hu⟩ := List.mem_flatMap.1 h
    have hk := hok.t e he
    unfold teTys at hu
    simp only [List.cons_append, List.nil_append, List.mem_cons, List.mem_map] at hu
    rcases hu with rfl | rfl | ⟨p, hp, rfl⟩
    · exact hk.lo
    · exact hk.up
    · exact hk.p p hp
  · obtain ⟨e, he, hu⟩ := List.mem_flatMap.1 h
    have hk := hok.v e he
    unfold veTys at hu
    simp only [List.cons_append, List.nil_append, List.mem_cons, List.mem_map] at hu
    rcases hu with rfl | ⟨p, hp, rfl⟩
    · exact hk.ty
    · exact hk.p p hp
end Go.VC
namespace Go.VC.T07
open Go Go.VC Go.Proofs
end Go.VC.T07
end

section
namespace Go.VC
def ifSize (x : IF) : Nat := ((typesL x).map Ty.size).sum + x.aliases.length + x.deprecated.length
def sizeE (env : List IF) : Nat := env.length + (env.map ifSize).sum
theorem ifSize_wt (x : IF) : ifSize x + 1 ≤ x.wt := by
  have a := sum_flat (l := x.types) (f := teTys) (g := Ty.size) (w := TE.wt) fun y _ => by
    have := bound_sum y.params
    simp only [teTys, List.map_append, List.sum_append, List.map_cons, List.map_nil, List.sum_cons, List.sum_nil, TE.wt]; omega
  have b := sum_flat (l := x.values) (f := veTys) (g := Ty.size) (w := VE.wt) fun y _ => by
    have := bound_sum y.params
    simp only [veTys, List.map_append, List.sum_append, List.map_cons, List.map_nil, List.sum_cons, List.sum_nil, VE.wt]; omega
  simp only [ifSize, typesL, List.map_append, List.sum_append, IF.wt]; omega
theorem sizeE_wt (env : List IF) : sizeE env ≤ (env.map IF.wt).sum := by
  unfold sizeE
  induction env with
  | nil => simp
  | cons x l ih => have := ifSize_wt x; simp only [List.length_cons, List.map_cons, List.sum_cons]; omega
theorem sum_step {α : Type} {f : α → Nat} {l : List α} {i : Nat} (h : i < l.length) : ((l.take (i+1)).map f).sum = ((l.take i).map f).sum + f l[i] := by
  rw [take_succ' h, List.map_append, List.sum_append]; simp
theorem sum_step_le {α : Type} {f : α → Nat} {l : List α} {i : Nat} (h : i < l.length) : ((l.take i).map f).sum + f l[i] ≤ (l.map f).sum := by
  rw [← sum_step h]; exact sum_map_take_le
end Go.VC
namespace Go.VC.T07
open Go Go.VC Go.Proofs
theorem F9c {t : Ty} (hle : Ty.le 4294967295 t) (hs : t.size ≤ 4294967295) {c0 : Int} {c1 c2 : S} {c3 c4 : D} {K : PV → List Ob → Prop} (ht : tyIs t c0 c1 c2 c3 c4) (h : ∀ r : Int, r = t.size → K (.int .i64 r) []) :
    FC Tryz.prog tt 9 [] [tyPV c0 c1 c2 c3 c4] K := F9 t hle hs ht h
theorem F8 {env : List IF} {d : D} {K : PV → List Ob → Prop} (hd : d = encL encIF env) (hl : envOk env) (hw : (env.map IF.wt).sum ≤ 4294967280)
    (h : ∀ r : Int, r = Int.ofNat (sizeE env) → K (.int .i64 r) []) : FC Tryz.prog tt 8 [] [.lst 40 d] K := by
  have hse := sizeE_wt env
  have hn := hl.1
  obtain ⟨g, hg⟩ : ∃ g : Nat → Nat, g = fun i => env.length + ((env.take i).map ifSize).sum := ⟨_, rfl⟩
  have g0 : g 0 = env.length := by rw [hg]; simp
  have gs : ∀ i (h : i < env.length), g (i+1) = g i + ifSize env[i] := fun i h => by rw [hg]; simp only; rw [sum_step h]; omega
  have gl : ∀ i, g i ≤ sizeE env := fun i => by rw [hg]; unfold sizeE; have := sum_map_take_le (f := ifSize) (l := env) (i := i); simp only; omega
  have gn : g env.length = sizeE env := by rw [hg]; unfold sizeE; simp only; rw [List.take_length]
  clear hg
  refine FC.enter (G := g8) tt_ok mixed ⟨Tryz.func8, by rfl, rfl⟩ rfl rfl rfl ?_
  intro A C L X
  obtain ⟨n_d, hn_d, hlen_d⟩ := lenOf hd
  cbv
  refine X.loop (fun (y : Nat × Int) => ⟨[(4, .int .i64 y.1), (3, .int .i64 y.2), (0, .lst 40 d)], []⟩)
    (fun y => y.1 ≤ n_d ∧ y.2 = Int.ofNat (g y.1)) (fun y => n_d - y.1) (0, A.len d) ⟨Nat.zero_le _, by rw [X.a, hlen_d, g0, hn_d]⟩ ?_ ?_
  · (cbv; repeat' apply And.intro); all_goals try first | trivial | rfl | (rw [X.a]; rfl)
  rintro ⟨i, z⟩ ⟨hi, hz⟩
  simp only at hi hz
  cbv
  refine ⟨fun h1 => ?_, fun h1 => ?_⟩
  · have h5 : i < env.length := by obtain rfl := X.a; simp only [hlen_d, SD, bNot] at h1; omega
    have k1 := ifIsAt X.a hd h5
    have hid : A.idx (Int.ofNat i) (A.len d) := by rw [X.a, hd]; exact leaf_idx h5
    have hin : A.inr .i64 (A.add (Int.ofNat i) 1) := by rw [X.a]; exact leaf_inc h5 (by omega)
    have hmem := List.getElem_mem h5
    have hok := hl.2 _ hmem
    have hwt : env[i].wt ≤ (env.map IF.wt).sum := wt_mem hmem
    have htl := typesL_len env[i]
    have hst := gs i h5
    have hsl := gl (i+1)
    clear h1
    cbv
    repeat' (first | apply And.intro | exact fun (_ : FF) => by kernel_rfl | (intro h2; cbv) | apply Or.inl)
    any_goals exact hid
    refine X.call (F25 k1 hok (by omega) fun dt hdt => ?_)
    obtain ⟨ts, hts⟩ : ∃ ts, ts = typesL env[i] := ⟨_, rfl⟩
    have hdt : dt = encL encTy ts := by rw [hts]; exact hdt
    have hle : ∀ u ∈ ts, Ty.le 4294967295 u := fun u hu => typesL_le hok (by rw [← hts]; exact hu)
    have hsz : ifSize env[i] = (ts.map Ty.size).sum + env[i].aliases.length + env[i].deprecated.length := by rw [hts]; rfl
    rw [← hts] at htl
    obtain ⟨n_dt, hn_dt, hlen_dt⟩ := lenOf hdt
    cbv
    refine X.loop (fun (y : Nat × Int) => ⟨[(6, .int .i64 y.1), (3, .int .i64 y.2), (5, .lst 28 dt), (4, .int .i64 i), (0, .lst 40 d)], []⟩)
      (fun y => y.1 ≤ n_dt ∧ y.2 = Int.ofNat (g i + ((ts.take y.1).map Ty.size).sum)) (fun y => n_dt - y.1) (0, z) ⟨Nat.zero_le _, by simpa using hz⟩ ?_ ?_
    · (cbv; repeat' apply And.intro); all_goals try first | trivial | rfl | (rw [X.a]; rfl)
    rintro ⟨j, z2⟩ ⟨hj, hz2⟩
    simp only at hj hz2
    cbv
    refine ⟨fun h1 => ?_, fun h1 => ?_⟩
    · have h6 : j < ts.length := by obtain rfl := X.a; simp only [hlen_dt, SD, bNot] at h1; omega
      have k2 := tyAt X.a hdt h6
      have hid : A.idx (Int.ofNat j) (A.len dt) := by rw [X.a, hdt]; exact leaf_idx h6
      have hin2 : A.inr .i64 (A.add (Int.ofNat j) 1) := by rw [X.a]; exact leaf_inc h6 (by omega)
      have hms := List.getElem_mem h6
      have hss := sum_step (f := Ty.size) h6
      have hsl2 := sum_step_le (f := Ty.size) h6
      clear h1
      cbv
      repeat' (first | apply And.intro | exact fun (_ : FF) => by kernel_rfl | (intro h2; cbv) | apply Or.inl)
      any_goals exact hid
      refine X.call (F9c (hle _ hms) (by omega) k2 fun v hv => ?_)
      have hv' : v = Int.ofNat ts[j].size := hv
      clear hv
      have q1 : A.add z2 v = Int.ofNat (g i + ((ts.take (j+1)).map Ty.size).sum) := by rw [X.a, Std_add, hss, hz2, hv']; simp only [Int.ofNat_eq_natCast]; omega
      have hin3 : A.inr .i64 (A.add z2 v) := by rw [q1, X.a, Std_inr64]; simp only [Int.ofNat_eq_natCast]; omega
      cbv
      repeat' (first | apply And.intro | exact fun (_ : FF) => by kernel_rfl | (intro h2; cbv) | apply Or.inl)
      any_goals exact hin2
      any_goals exact hin3
      refine ⟨(j+1, _), ⟨?_, q1⟩, ?_, ?_⟩
      · simp only; omega
      · simp only; omega
      (cbv; repeat' apply And.intro); all_goals try first | trivial | rfl | (rw [X.a]; rfl)
    have h6 : j = n_dt := by obtain rfl := X.a; simp only [hlen_dt, SD, bNot] at h1; omega
    rw [h6, hn_dt, List.take_length] at hz2
    clear h1 hj h6
    have la : A.len (A.cell d (Int.ofNat i) 3) = Int.ofNat env[i].aliases.length := by rw [k1.2.2.2.1, X.a, Std_len]; rfl
    have ld : A.len (A.cell d (Int.ofNat i) 4) = Int.ofNat env[i].deprecated.length := by rw [k1.2.2.2.2, X.a, Std_len]; rfl
    have q1 : A.add z2 (A.len (A.cell d (Int.ofNat i) 3)) = Int.ofNat (g i + (ts.map Ty.size).sum + env[i].aliases.length) := by rw [la, X.a, Std_add, hz2]; simp only [Int.ofNat_eq_natCast]; omega
    have q2 : A.add (A.add z2 (A.len (A.cell d (Int.ofNat i) 3))) (A.len (A.cell d (Int.ofNat i) 4)) = Int.ofNat (g (i+1)) := by rw [q1, ld, X.a, Std_add, hst, hsz]; simp only [Int.ofNat_eq_natCast]; omega
    have hi1 : A.inr .i64 (A.add z2 (A.len (A.cell d (Int.ofNat i) 3))) := by rw [q1, X.a, Std_inr64]; simp only [Int.ofNat_eq_natCast]; omega
    have hi2 : A.inr .i64 (A.add (A.add z2 (A.len (A.cell d (Int.ofNat i) 3))) (A.len (A.cell d (Int.ofNat i) 4))) := by rw [q2, X.a, Std_inr64]; simp only [Int.ofNat_eq_natCast]; omega
    cbv
    repeat' (first | apply And.intro | exact fun (_ : FF) => by kernel_rfl | (intro h2; cbv) | apply Or.inl)
    any_goals exact hid
    any_goals exact hin
    any_goals exact hi1
    any_goals exact hi2
    refine ⟨(i+1, _), ⟨?_, q2⟩, ?_, ?_⟩
    · simp only; omega
    · simp only; omega
    (cbv; repeat' apply And.intro); all_goals try first | trivial | rfl | (rw [X.a]; rfl)
  have h5 : i = n_d := by obtain rfl := X.a; simp only [hlen_d, SD, bNot] at h1; omega
  rw [h5, hn_d, gn] at hz
  cbv
  exact h z hz
end Go.VC.T07
end

section
namespace Go.VC
def sA : S := [97, 47, 118, 49]
def sN : S := [78]
def sV0 : S := [35, 48]
def sV1 : S := [35, 49]
def sF : S := [97]
def sNx : S := [110, 101, 120, 116]
def awa : Ty := .mk 9 [] sV0 [] []
def awb : Ty := .mk 9 [] sV1 [] []
def awf : Ty := .mk 8 [] [] [awb] [.mk sF (.mk 5 [] [] [awa] []) false]
def awS : Ty := .mk 10 sA sN [] []
def awR : Ty := .mk 6 [] [] [] [.mk sNx awS false]
def awN : Ty := .mk 1 [] [] [] []
def awI (u : Ty) : IF := ⟨sA, [⟨sN, [], awN, u⟩], [], [], []⟩
theorem aw1 : occ [] sV0 awf = (false, true) := by kernel_rfl
theorem aw2 : occ [] sV1 awf = (true, false) := by kernel_rfl
theorem aw4 : headE (awI awR) = 0 := by kernel_rfl
theorem aw5 : namesE (awI awR) = ([], 0) := by kernel_rfl
theorem aw6 : diffE (awI awR) = ([], 0) := by kernel_rfl
theorem aw7 : notesE (awI awR) = ([], 0) := by kernel_rfl
theorem aw8 : wfE [awI awR] [] awN = 0 := by kernel_rfl
theorem aw9 : wfE [awI awR] [] awR = 0 := by kernel_rfl
theorem aw10 : wfE [awI awR] [] awS = 0 := by kernel_rfl
theorem aw11 : wfE [awI awR] [] awa = 4 := by kernel_rfl
theorem aw12 : wfE [awI awS] [] awN = 0 := by kernel_rfl
theorem aw13 : wfE [awI awS] [] awS = 0 := by kernel_rfl
theorem aw14 : guardB (awI awR) [sN] awN = true := by kernel_rfl
theorem aw15 : guardB (awI awR) [sN] awR = true := by kernel_rfl
theorem aw16 : regB (awI awR) [sN] [] awN = true := by kernel_rfl
theorem aw17 : regB (awI awR) [sN] [] awR = true := by kernel_rfl
theorem aw18 : guardB (awI awS) [sN] awS = false := by kernel_rfl
theorem aw19 : respF [] awf [] [⟨sV0, 0, Ty.zero⟩] = false := by kernel_rfl
theorem aw20 : mentS (awI awR) = [] := by kernel_rfl
end Go.VC
namespace Go.VC
theorem awT_of {u : Ty} {s : S} (h : (tyF (awI u) s).isSome = true) : s = sN := by
  obtain ⟨x, hx⟩ := Option.isSome_iff_exists.1 h
  have h1 := List.mem_of_find?_eq_some hx
  have h2 := List.find?_some hx
  simp [awI] at h1; subst h1
  simpa using (eq_of_beq h2).symm
theorem awGM {u : Ty} (hd : dirP (awI u) sN sN) : GM (awI u) sN [sN] := by
  have hr : Rch (awI u) sN sN := .one hd
  refine ⟨fun s => ⟨fun h => ?_, fun h => ?_⟩, by simp, by simp⟩
  · simp at h; subst h; exact ⟨hr, hr⟩
  · simpa using awT_of h.1.has
theorem awD1 : dirP (awI awR) sN sN := ⟨(sA, sN), by show (sA, sN) ∈ usesOf (awI awR) sN; rw [show usesOf (awI awR) sN = [(sA, sN)] by kernel_rfl]; simp, by kernel_rfl⟩
theorem awD2 : dirP (awI awS) sN sN := ⟨(sA, sN), by show (sA, sN) ∈ usesOf (awI awS) sN; rw [show usesOf (awI awS) sN = [(sA, sN)] by kernel_rfl]; simp, by kernel_rfl⟩
theorem aw_sound1 : soundB (awI awR) ⟨sN, [], awN, awR⟩ = true := by
  unfold soundB
  rw [show grp (awI awR) (TE.name ⟨sN, [], awN, awR⟩) = [sN] from (awGM awD1).grp.symm]
  rw [aw14, aw15, aw16, aw17]
  rw [if_neg (by rw [show ([sN].all fun s => ((tyF (awI awR) s).getD TE.zero).params.length == (TE.params ⟨sN, [], awN, awR⟩).length) = true by kernel_rfl]; decide)]
  rfl
theorem aw_sound2 : soundB (awI awS) ⟨sN, [], awN, awS⟩ = false := by
  unfold soundB
  rw [show grp (awI awS) (TE.name ⟨sN, [], awN, awS⟩) = [sN] from (awGM awD2).grp.symm]
  rw [aw18]
  split
  · rfl
  · cases guardB (awI awS) [sN] awN <;> rfl
theorem aw_typ1 : typE [awI awR] (awI awR) ⟨sN, [], awN, awR⟩ = 0 := by
  unfold typE
  rw [show paramE wrongT (TE.params ⟨sN, [], awN, awR⟩) = 0 from rfl, if_neg (by decide)]
  rw [show firstE [wfE [awI awR] ((TE.params ⟨sN, [], awN, awR⟩).map Pm.name) awN, wfE [awI awR] ((TE.params ⟨sN, [], awN, awR⟩).map Pm.name) awR] = 0 by
    rw [show (TE.params ⟨sN, [], awN, awR⟩).map Pm.name = [] from rfl, aw8, aw9]; rfl, if_neg (by decide)]
  rw [show respF [awI awR] awN [] (TE.params ⟨sN, [], awN, awR⟩) = true from rfl, show respF [awI awR] awR [] (TE.params ⟨sN, [], awN, awR⟩) = true from rfl, aw_sound1]
  rfl
theorem aw_typ2 : typE [awI awS] (awI awS) ⟨sN, [], awN, awS⟩ = 14 := by
  unfold typE
  rw [show paramE wrongT (TE.params ⟨sN, [], awN, awS⟩) = 0 from rfl, if_neg (by decide)]
  rw [show firstE [wfE [awI awS] ((TE.params ⟨sN, [], awN, awS⟩).map Pm.name) awN, wfE [awI awS] ((TE.params ⟨sN, [], awN, awS⟩).map Pm.name) awS] = 0 by
    rw [show (TE.params ⟨sN, [], awN, awS⟩).map Pm.name = [] from rfl, aw12, aw13]; rfl, if_neg (by decide)]
  rw [show respF [awI awS] awN [] (TE.params ⟨sN, [], awN, awS⟩) = true from rfl, show respF [awI awS] awS [] (TE.params ⟨sN, [], awN, awS⟩) = true from rfl, aw_sound2]
  rfl
theorem aw_if1 : ifaceE [awI awR] sA = ([], 0) := by
  show ifaceI [awI awR] (awI awR) = ([], 0)
  unfold ifaceI
  rw [aw4, aw5, aw6, aw7]
  have h3 : entriesE [awI awR] (awI awR) = ([], 0) := by
    unfold entriesE
    rw [show entL (typE [awI awR] (awI awR)) TE.name (awI awR).types = ([], 0) by
      show entL (typE [awI awR] (awI awR)) TE.name [⟨sN, [], awN, awR⟩] = ([], 0)
      rw [entL, aw_typ1]; rfl]
    rfl
  rw [h3]; rfl
theorem aw_if2 : (ifaceE [awI awS] sA).2 = 14 := by
  show (ifaceI [awI awS] (awI awS)).2 = 14
  unfold ifaceI
  rw [show headE (awI awS) = 0 by kernel_rfl, show namesE (awI awS) = ([], 0) by kernel_rfl, show diffE (awI awS) = ([], 0) by kernel_rfl]
  have h3 : entriesE [awI awS] (awI awS) = (sN, 14) := by
    unfold entriesE
    rw [show entL (typE [awI awS] (awI awS)) TE.name (awI awS).types = (sN, 14) by
      show entL (typE [awI awS] (awI awS)) TE.name [⟨sN, [], awN, awS⟩] = (sN, 14)
      rw [entL, aw_typ2]; rfl]
    rfl
  rw [h3]; rfl
theorem aw_env1 : envE [awI awR] = ([], 0) := by
  unfold envE
  rw [if_neg (by decide)]
  have h1 : envL [awI awR] none [awI awR] = ([], 0) := by
    rw [envL, show ifaceE [awI awR] (awI awR).path = ([], 0) from aw_if1]; rfl
  have h2 : entL (lpE [awI awR]) IF.path [awI awR] = ([], 0) := by
    refine entL_0 fun x hx => ?_
    simp at hx; subst hx
    unfold lpE
    rw [if_neg]
    intro h
    have hg : ∀ s, gOf [awI awR] s = [] := by
      intro s
      have := gOf_snoc [] (awI awR) s
      rw [List.nil_append] at this
      rw [this]
      have hm : menL (awI awR) = [] := by
        cases hh : menL (awI awR) with
        | nil => rfl
        | cons a l => exact absurd (menL_mem (x := awI awR) (s := a) (by rw [hh]; simp)) (by rw [aw20]; simp)
      split
      · exact hm
      · rfl
    cases h with
    | one h => rw [hg] at h; simp at h
    | more _ h => rw [hg] at h; simp at h
  rw [h1, h2]; rfl
theorem aw_env2 : envE [awI awS] = (sA, 14) := by
  unfold envE
  rw [if_neg (by decide)]
  have h1 : envL [awI awS] none [awI awS] = (sA, 14) := by
    rw [envL, show (ifaceE [awI awS] (awI awS).path).2 = 14 from aw_if2]; rfl
  rw [h1]; rfl
theorem aw_ent : entryE [awI awR] sA sN = 0 := by
  show typE [awI awR] (awI awR) ⟨sN, [], awN, awR⟩ = 0
  exact aw_typ1
end Go.VC
end

section
namespace Go.VC
theorem leZ {k : Int} {m n : S} : Ty.le 4294967295 (.mk k m n [] []) := .mk _ (by simp [Ty.ar]) (by simp [Ty.fl]) (by simp [Ty.ar]) (by simp [Ty.fl])
theorem fitZ {k : Int} {m n : S} (hm : m.length ≤ 100) (hn : n.length ≤ 100) : (Ty.mk k m n [] []).fit := by
  refine ⟨leZ, by simp [Ty.size, Ty.sizes, Ty.sizef], fun u hu => ?_⟩
  have : u = Ty.mk k m n [] [] := by simpa [Ty.all, Ty.alls, Ty.allf] using hu
  subst this
  exact ⟨by simp only [Ty.m]; omega, by simp only [Ty.n]; omega, by simp [Ty.fl]⟩
theorem awa5 : Ty.le 4294967295 (.mk 5 [] [] [awa] []) := .mk _ (by simp [Ty.ar]) (by simp [Ty.fl]) (fun u hu => by simp [Ty.ar] at hu; subst hu; exact leZ) (by simp [Ty.fl])
theorem awR_fit : awR.fit := by
  refine ⟨.mk _ (by simp [awR, Ty.ar]) (by simp [awR, Ty.fl]) (by simp [awR, Ty.ar]) (fun f hf => ?_), by decide, fun u hu => ?_⟩
  · simp [awR, Ty.fl] at hf; subst hf; exact leZ
  · have : u = awR ∨ u = awS := by rw [show awR.all = [awR, awS] by rfl] at hu; simpa using hu
    rcases this with rfl | rfl
    · exact ⟨by decide, by decide, fun x hx => by simp [awR, Ty.fl] at hx; subst hx; decide⟩
    · exact ⟨by decide, by decide, fun x hx => by simp [awS, Ty.fl] at hx⟩
theorem awS_fit : awS.fit := fitZ (by decide) (by decide)
theorem awN_fit : awN.fit := fitZ (by decide) (by decide)
theorem aw_fit {u : Ty} (hu : u.fit) (hs : 1 + u.size + 0 ≤ 1048576) : (awI u).fit := by
  refine ⟨⟨by simp [awI], by simp [awI], by simp [awI], by simp [awI], fun x hx => ?_, by simp [awI]⟩, by simp [awI]; decide, ?_, by simp [awI], by simp [awI], by simp [awI], by simp [awI], fun x hx => ?_, by simp [awI], by simp [awI], by simp [awI]⟩
  · simp [awI] at hx; subst hx
    exact ⟨by simp, by simp, leZ, hu.le⟩
  · show ((awI u).types.map fun x => x.lower.size + x.upper.size).sum ≤ 1048576
    have h1 := hu.sz
    have h2 : awN.size = 1 := by rfl
    simp only [awI, List.map_cons, List.map_nil, List.sum_cons, List.sum_nil, h2]
    exact hs
  · simp [awI] at hx; subst hx
    exact ⟨by show sN.length ≤ 1048576; decide, by simp, by simp, awN_fit, hu⟩
theorem aw_ok {u : Ty} (hu : u.fit) (hs : 1 + u.size + 0 ≤ 1048576) : envOk [awI u] := ⟨by simp, fun x hx => by simp at hx; subst hx; exact (aw_fit hu hs).ok⟩
end Go.VC
namespace Go.VC.T07
open Go Go.VC Go.Proofs
theorem F23 {u : Ty} {c0 : Int} {c1 c2 : S} {c3 c4 : D} {K : PV → List Ob → Prop} (hu : tyIs u c0 c1 c2 c3 c4) (h : ∀ d, d = encL encIF [awI u] → K (.lst 40 d) []) : FC Tryz.prog tt 23 [] [tyPV c0 c1 c2 c3 c4] K := by
  refine FC.enter (G := g23) tt_ok mixed ⟨Tryz.func23, by rfl, rfl⟩ rfl rfl rfl ?_
  intro A C L X
  have q := h (A.lit [[.str sA, A.lit [[.str sN, .list [], .int 1, .str [], .str [], .list [], .list [], .int c0, .str c1, .str c2, c3, c4]], .list [], .list [], .list []]]) (by
    obtain ⟨rfl, rfl, rfl, rfl, rfl⟩ := hu
    rw [X.a]; simp only [encL, encIF, awI, List.map_cons, List.map_nil, encTE_eq]; rfl)
  cbv
  exact q
theorem okR : envOk [awI awR] := aw_ok awR_fit (by decide)
theorem okS : envOk [awI awS] := aw_ok awS_fit (by decide)
theorem fitR : ∀ i ∈ [awI awR], i.fit := fun i hi => by simp at hi; subst hi; exact aw_fit awR_fit (by decide)
theorem fitS : ∀ i ∈ [awI awS], i.fit := fun i hi => by simp at hi; subst hi; exact aw_fit awS_fit (by decide)
theorem F24c {d : D} (hd : d = encL encIF [awI awR]) {K : PV → List Ob → Prop} (h : K (.int .i64 0) []) : FC Tryz.prog tt 24 [] [.lst 40 d, .str sA, .str sN] K :=
  F24 hd okR fitR fun r hr => by rw [hr, aw_ent]; exact h
theorem F10c {d : D} (hd : d = encL encIF [awI awR]) {K : PV → List Ob → Prop} (h : K (.int .i64 0) []) : FC Tryz.prog tt 10 [] [.lst 40 d, .lst 9 (.list []), tyPV 10 sA sN (.list []) (.list [])] K :=
  F10 (vs := []) (t := awS) hd okR rfl (by simp) awS_fit.le (Nat.le_trans awS_fit.sz (by decide)) awS_fit.nod ⟨rfl, rfl, rfl, rfl, rfl⟩ fun r hr => by rw [hr, aw10]; exact h
theorem F10d {d : D} (hd : d = encL encIF [awI awR]) {K : PV → List Ob → Prop} (h : K (.int .i64 4) []) : FC Tryz.prog tt 10 [] [.lst 40 d, .lst 9 (.list []), tyPV 9 [] sV0 (.list []) (.list [])] K :=
  F10 (vs := []) (t := awa) hd okR rfl (by simp) leZ (by decide) (fitZ (by decide) (by decide)).nod ⟨rfl, rfl, rfl, rfl, rfl⟩ fun r hr => by rw [hr, aw11]; exact h
theorem F18c {dp : D} (hp : dp = encL encPm [⟨sV0, 0, Ty.zero⟩]) (hle : Ty.le 4294967295 awf) {c3 c4 : D} (ht : tyIs awf 8 [] [] c3 c4) {K : PV → List Ob → Prop} (h : K (.bool false) []) : FC Tryz.prog tt 18 [] [.lst 40 (.list []), .lst 53 dp, tyPV 8 [] [] c3 c4] K :=
  F18 (env := []) rfl ⟨by simp, by simp⟩ hp (by simp) hle ht fun b hb => by rw [hb, aw19]; exact h
theorem F19c {c0 : S} {c1 c2 c3 c4 : D} {K : PV → List Ob → Prop} (hx : ifIs (awI awR) c0 c1 c2 c3 c4) (h : ∀ r, Std.len r = 1 → K (.row 24 0) [.row 24 r true]) : FC Tryz.prog tt 19 [] [ifPV c0 c1 c2 c3 c4] K :=
  F19 (aw_fit awR_fit (by decide)).ok (aw_fit awR_fit (by decide)).hsz (aw_fit awR_fit (by decide)).rf hx fun ls r hr h1 h2 h3 => h r (by
    obtain ⟨l, g1, g2⟩ := h3 sN (by rfl)
    have : l = [sN] := g1.uniq (awGM awD1)
    subst this
    have hm := g2 rfl
    have hl : ls.length ≤ 1 := h2
    have hl2 : 0 < ls.length := List.length_pos_of_mem hm
    rw [hr, Std_len]; omega)
theorem F7 {K : PV → List Ob → Prop} (h : K (.bool true) []) : FC Tryz.prog tt 7 [] [] K := by
  refine FC.enter (G := g7) tt_ok mixed ⟨Tryz.func7, by rfl, rfl⟩ rfl rfl rfl ?_
  intro A C L X
  have eqs : ∀ z : S, A.seq z z = true := fun z => by rw [X.a]; simp [Std_seq]
  have eqi : ∀ z : Int, A.eq z z = true := fun z => by rw [X.a]; simp [Std_eq]
  have hf : tyIs awf 8 [] [] (A.lit [[.int 9, .str [], .str sV1, .list [], .list []]]) (A.lit [[.str sF, .int 5, .str [], .str [], A.lit [[.int 9, .str [], .str sV0, .list [], .list []]], .list [], .bool false]]) := by rw [X.a]; exact ⟨rfl, rfl, rfl, rfl, rfl⟩
  have hR : tyIs awR 6 [] [] (.list []) (A.lit [[.str sNx, .int 10, .str sA, .str sN, .list [], .list [], .bool false]]) := by rw [X.a]; exact ⟨rfl, rfl, rfl, rfl, rfl⟩
  have hS : tyIs awS 10 sA sN (.list []) (.list []) := ⟨rfl, rfl, rfl, rfl, rfl⟩
  have ha : tyIs awa 9 [] sV0 (.list []) (.list []) := ⟨rfl, rfl, rfl, rfl, rfl⟩
  have hle : Ty.le 4294967295 awf := .mk _ (by simp [awf, Ty.ar]) (by simp [awf, Ty.fl]) (fun u hu => by simp [awf, Ty.ar] at hu; subst hu; exact leZ) (fun f hf => by simp [awf, Ty.fl] at hf; subst hf; exact awa5)
  have ok0 : envOk [] := ⟨by simp, by simp⟩
  have hwR : ([awI awR].map IF.wt).sum ≤ 268435456 := by decide
  have hwS : ([awI awS].map IF.wt).sum ≤ 268435456 := by decide
  cbv
  repeat' (first | apply And.intro | exact fun (_ : FF) => by kernel_rfl | (intro h2; cbv) | apply Or.inl)
  refine X.call (F22 (env := []) rfl ok0 hle hf fun a b hab => ?_)
  have hab : (a, b) = occ [] sV0 awf := hab
  rw [aw1] at hab
  cases hab
  cbv
  refine X.call (F22 (env := []) rfl ok0 hle hf fun a b hab => ?_)
  have hab : (a, b) = occ [] sV1 awf := hab
  rw [aw2] at hab
  cases hab
  cbv
  refine X.call (F23 hR fun d hd => ?_)
  cbv
  refine X.call (F16 hd okR fitR hwR fun s r hsr => ?_)
  rw [aw_env1] at hsr
  cases hsr
  cbv
  refine X.call (F23 hS fun d2 hd2 => ?_)
  cbv
  refine X.call (F16 hd2 okS fitS hwS fun s r hsr => ?_)
  rw [aw_env2] at hsr
  cases hsr
  cbv
  refine X.call (F15 hd okR fitR fun s r hsr => ?_)
  have hsr : (s, r) = ifaceE [awI awR] sA := hsr
  rw [aw_if1] at hsr
  cases hsr
  have hnf : A.not false = true := by rw [X.a]; rfl
  have hpm : A.lit [[.str sV0, .int 0, .int 0, .str [], .str [], .list [], .list []]] = encL encPm [⟨sV0, 0, Ty.zero⟩] := by rw [X.a]; simp only [encL, List.map_cons, List.map_nil, encPm_eq]; rfl
  have hi0 : A.idx 0 (A.len d) := by rw [X.a, hd]; exact leaf_idx (i := 0) (by simp)
  have hif := ifIsAt (i := 0) X.a hd (by simp)
  have htt : true = true := rfl
  cbv
  repeat' (first | apply And.intro | exact fun (_ : FF) => by kernel_rfl | (intro h2; first | exact absurd ((hnf).symm.trans h2) (by decide) | exact absurd ((htt).symm.trans h2) (by decide) | exact absurd ((eqs _).symm.trans h2) (by decide) | exact absurd ((eqi _).symm.trans h2) (by decide) | cbv) | apply Or.inl | (refine X.call (F24c hd ?_); cbv) | (refine X.call (F10c hd ?_); cbv) | (refine X.call (F10d hd ?_); cbv) | (refine X.call (F18c hpm hle hf ?_); cbv) | (refine X.call (F19c hif fun r hr => ?_); cbv))
  · exact hi0
  · have q : K (.bool (A.eq (A.len r) 1)) [] := by
      rw [show A.len r = 1 by rw [X.a]; exact hr, eqi]; exact h
    exact q
end Go.VC.T07
end

section
namespace Go.VC
theorem orE_0 {a b : S × Int} (h : (orE a b).2 = 0) : a.2 = 0 ∧ b.2 = 0 := by
  unfold orE at h
  by_cases e : a.2 = 0
  · rw [if_neg (by simpa using e)] at h; exact ⟨e, h⟩
  · rw [if_pos e] at h; exact absurd h e
theorem orE_z {a b : S × Int} (h : a.2 = 0) : orE a b = b := by unfold orE; rw [if_neg (by simpa using h)]
theorem entL_z {α : Type} {e : α → Int} {n : α → S} : ∀ {l : List α}, (entL e n l).2 = 0 → ∀ x ∈ l, e x = 0
  | [], _, x, hx => by simp at hx
  | y :: l, h, x, hx => by
    rw [entL] at h
    by_cases e0 : e y = 0
    · rw [if_neg (by simpa using e0)] at h
      rcases List.mem_cons.1 hx with rfl | hx
      · exact e0
      · exact entL_z h x hx
    · rw [if_pos e0] at h; exact absurd h e0
structure IfOk (env : List IF) (i : IF) : Prop where
  head : headE i = 0
  names : (namesE i).2 = 0
  diff : (diffE i).2 = 0
  t : ∀ x ∈ i.types, typE env i x = 0
  v : ∀ x ∈ i.values, valE env x = 0
  a : ∀ x ∈ i.aliases, aliasE env x = 0
  notes : (notesE i).2 = 0
theorem ifaceI_0 {env : List IF} {i : IF} (h : (ifaceI env i).2 = 0) : IfOk env i ∧ ifaceI env i = ([], 0) := by
  unfold ifaceI at h ⊢
  obtain ⟨h0, h⟩ := orE_0 h
  obtain ⟨h1, h⟩ := orE_0 h
  obtain ⟨h2, h⟩ := orE_0 h
  obtain ⟨h3, h⟩ := orE_0 h
  obtain ⟨h4, h⟩ := orE_0 h
  refine ⟨?_, by rw [orE_z h0, orE_z h1, orE_z h2, orE_z h3, orE_z h4]⟩
  have h5 := h3
  unfold entriesE at h5
  obtain ⟨e1, h5⟩ := orE_0 h5
  obtain ⟨e2, e3⟩ := orE_0 h5
  exact ⟨h0, h1, h2, entL_z e1, entL_z e2, entL_z e3, h4⟩
theorem IfOk.iface {env : List IF} {i : IF} (h : IfOk env i) : ifaceI env i = ([], 0) := by
  unfold ifaceI
  rw [orE_z h.head, orE_z h.names, orE_z h.diff]
  have h3 : entriesE env i = ([], 0) := by
    unfold entriesE
    rw [entL_0 h.t, entL_0 h.v, entL_0 h.a]; rfl
  rw [h3, orE_z rfl, orE_z h.notes]
theorem envL_0 {env : List IF} : ∀ {l : List IF} {p : Option S}, (envL env p l).2 = 0 → (∀ x ∈ l, (ifaceE env x.path).2 = 0) ∧ (∀ q, p = some q → ∀ x ∈ l, slt q x.path = true) ∧ l.Pairwise (fun a b => slt a.path b.path = true)
  | [], p, _ => ⟨by simp, by simp, by simp⟩
  | x :: l, none, h => by
    rw [envL] at h
    by_cases e : (ifaceE env x.path).2 = 0
    · rw [if_neg (by simpa using e)] at h
      obtain ⟨a, b, c⟩ := envL_0 h
      refine ⟨fun y hy => ?_, by simp, List.pairwise_cons.2 ⟨b _ rfl, c⟩⟩
      rcases List.mem_cons.1 hy with rfl | hy
      · exact e
      · exact a y hy
    · rw [if_pos e] at h; exact absurd h e
  | x :: l, some p, h => by
    rw [envL] at h
    by_cases e1 : x.path = p
    · rw [if_pos e1] at h; cases h
    · rw [if_neg e1] at h
      by_cases e2 : slt x.path p = true
      · rw [if_pos e2] at h; cases h
      · rw [if_neg e2] at h
        by_cases e : (ifaceE env x.path).2 = 0
        · rw [if_neg (by simpa using e)] at h
          obtain ⟨a, b, c⟩ := envL_0 h
          have hpx : slt p x.path = true := by
            cases hh : slt p x.path with
            | true => rfl
            | false => exact absurd (slt_tri (by simpa using e2) hh) e1
          refine ⟨fun y hy => ?_, fun q hq y hy => ?_, List.pairwise_cons.2 ⟨b _ rfl, c⟩⟩
          · rcases List.mem_cons.1 hy with rfl | hy
            · exact e
            · exact a y hy
          · cases hq
            rcases List.mem_cons.1 hy with rfl | hy
            · exact hpx
            · exact slt_trans hpx (b _ rfl y hy)
        · rw [if_pos e] at h; exact absurd h e
theorem findI_self {env : List IF} (h : env.Pairwise (fun a b => slt a.path b.path = true)) {x : IF} (hx : x ∈ env) : findI env x.path = some x := by
  unfold findI
  induction env with
  | nil => simp at hx
  | cons y l ih =>
    rw [List.pairwise_cons] at h
    rw [List.find?_cons]
    rcases List.mem_cons.1 hx with rfl | hx
    · simp
    · have : (y.path == x.path) = false := by
        rw [beq_eq_false_iff_ne]; intro e
        have := h.1 x hx
        rw [e, slt_irrefl] at this; cases this
      rw [this]; exact ih h.2 hx
structure EnvOk (env : List IF) : Prop where
  srt : env.Pairwise (fun a b => slt a.path b.path = true)
  ok : ∀ x ∈ env, IfOk env x
theorem envE_0 {env : List IF} (h : (envE env).2 = 0) : EnvOk env := by
  unfold envE at h
  by_cases e : 64 < env.length
  · rw [if_pos e] at h; cases h
  · rw [if_neg e] at h
    obtain ⟨h1, h2⟩ := orE_0 h
    obtain ⟨a, b, c⟩ := envL_0 h1
    refine ⟨c, fun x hx => ?_⟩
    have := a x hx
    unfold ifaceE at this
    rw [findI_self c hx] at this
    exact (ifaceI_0 this).1
theorem typE_0 {env : List IF} {i : IF} {x : TE} (h : typE env i x = 0) : wfE env (x.params.map Pm.name) x.lower = 0 ∧ wfE env (x.params.map Pm.name) x.upper = 0 ∧ respF env x.lower [] x.params = true ∧ respF env x.upper [] x.params = true ∧ soundB i x = true ∧ paramE wrongT x.params = 0 := by
  unfold typE at h
  by_cases e0 : paramE wrongT x.params = 0
  · rw [if_neg (by simpa using e0)] at h
    by_cases e1 : firstE [wfE env (x.params.map Pm.name) x.lower, wfE env (x.params.map Pm.name) x.upper] = 0
    · rw [if_neg (by simpa using e1)] at h
      rw [firstE_cons, firstE_cons] at e1
      by_cases e2 : wfE env (x.params.map Pm.name) x.lower = 0
      · rw [if_pos e2] at e1
        by_cases e3 : wfE env (x.params.map Pm.name) x.upper = 0
        · by_cases e4 : (!respF env x.lower [] x.params || !respF env x.upper [] x.params) = true
          · rw [if_pos e4] at h; cases h
          · rw [if_neg e4] at h
            by_cases e5 : soundB i x = false
            · rw [if_pos e5] at h; cases h
            · simp at e4
              exact ⟨e2, e3, e4.1, e4.2, by simpa using e5, e0⟩
        · rw [if_neg e3] at e1; exact absurd e1 e3
      · rw [if_neg e2] at e1; exact absurd e1 e2
    · rw [if_pos e1] at h; exact absurd h e1
  · rw [if_pos e0] at h; exact absurd h e0
theorem GM.of_mem {i : IF} {n s : S} {l : List S} (h : GM i n l) (hs : s ∈ l) : GM i s l := by
  obtain ⟨a, b⟩ := (h.mem s).1 hs
  refine ⟨fun t => ?_, h.nd, h.srt⟩
  rw [h.mem]
  exact ⟨fun ⟨c, d⟩ => ⟨b.trans c, d.trans a⟩, fun ⟨c, d⟩ => ⟨a.trans c, d.trans b⟩⟩
theorem leads_self {i : IF} {n : S} (h : (tyF i n).isSome = true) : leadsR i i.path n = some n := by
  obtain ⟨x, hx⟩ := Option.isSome_iff_exists.1 h
  have hx' : i.types.find? (fun y => y.name == n) = some x := hx
  have he : endO [i] i.path n = .typ i.path n x := by
    unfold endO
    have hl : look' [i] i.path n = .typ x := by
      unfold look'
      rw [show findI [i] i.path = some i by simp [findI]]
      simp only [lookI, hx']
    rw [endI, hl]
  unfold leadsR
  rw [he]
  simp only [h, if_pos]
theorem member_ok {env : List IF} {i : IF} (hi : IfOk env i) {n s : S} {l : List S} (h : GM i n l) (hs : s ∈ l) :
    ∃ y, tyF i s = some y ∧ ¬ (y.upper.k = 10 ∧ y.upper.m = i.path ∧ l.contains y.upper.n = true) := by
  have h1 := ((h.mem s).1 hs).1.has
  obtain ⟨y, hy⟩ := Option.isSome_iff_exists.1 h1
  refine ⟨y, hy, ?_⟩
  rintro ⟨k1, k2, k3⟩
  have hym : y ∈ i.types := List.mem_of_find?_eq_some hy
  have hyn : y.name = s := eq_of_beq (List.find?_some (p := fun x : TE => x.name == s) hy)
  obtain ⟨_, _, _, _, hso, _⟩ := typE_0 (hi.t y hym)
  have hg : grp i y.name = l := by rw [hyn]; exact (h.of_mem hs).grp.symm
  unfold soundB at hso
  rw [hg] at hso
  split at hso
  · cases hso
  · have hgu : guardB i l y.upper = true := by
      simp only [Bool.and_eq_true] at hso; exact hso.1.1.2
    have hm : memR i l y.upper = false := by
      generalize y.upper = u at hgu k1 ⊢
      cases u with
      | mk k m nn ar fl =>
        have k1 : k = 10 := k1
        subst k1
        rw [guardB] at hgu
        by_cases e : memR i l (.mk 10 m nn ar fl) = true
        · rw [if_neg (by decide), if_pos e] at hgu; cases hgu
        · simpa using e
    have hn : (tyF i y.upper.n).isSome = true := ((h.mem _).1 (by simpa using k3)).1.has
    unfold memR at hm
    rw [k1, k2, leads_self hn] at hm
    simp only [k3] at hm
    cases hm
end Go.VC
end

section
namespace Go.VC
theorem ltOf {A : Alg} (ha : A = Std) {α : Type} {f : α → List D} {l : List α} {d : D} (hd : d = encL f l) {i : Nat} (h : A.lt (Int.ofNat i) (A.len d) = true) : i < l.length := by
  subst ha hd; exact lt_of_lt h
theorem geOf {A : Alg} (ha : A = Std) {α : Type} {f : α → List D} {l : List α} {d : D} (hd : d = encL f l) {i : Nat} (h : A.lt (Int.ofNat i) (A.len d) = false) : l.length ≤ i := by
  subst ha hd; exact ge_of_lt h
theorem idxOf {A : Alg} (ha : A = Std) {α : Type} {f : α → List D} {l : List α} {d : D} (hd : d = encL f l) {i : Nat} (h : i < l.length) : A.idx (Int.ofNat i) (A.len d) := by
  subst ha hd; exact leaf_idx h
theorem incOf {A : Alg} (ha : A = Std) {i n : Nat} (h : i < n) (hn : n ≤ 4294967295) : A.inr .i64 (A.add (Int.ofNat i) 1) := by
  subst ha; exact leaf_inc h (by omega)
theorem appOf {A : Alg} (ha : A = Std) {α : Type} {f : α → List D} {l k : List α} {d e : D} (hd : d = encL f l) (hek : e = encL f k) : A.app d e = encL f (l ++ k) := by
  subst ha hd hek; exact Std_app
theorem bndOf {A : Alg} (ha : A = Std) {α β : Type} {f : α → List D} {g : β → List D} {l : List α} {k : List β} {d e : D} (hd : d = encL f l) (hek : e = encL g k) {n : Int} (h : ((l.length + k.length : Nat) : Int) ≤ n) : A.bnd (A.add (A.len d) (A.len e)) n := by
  subst ha hd hek
  rw [Std_add, Std_len, Std_len]
  exact ⟨by omega, by omega⟩
end Go.VC
namespace Go.VC.T07
open Go Go.VC Go.Proofs
def g6a : Cfg := {tt := tt, n := 149, own := [11]}
theorem F6 {env : List IF} {de : D} (he : de = encL encIF env) (hok : envOk env) (hfit : ∀ i ∈ env, i.fit) (hwt : (env.map IF.wt).sum ≤ 268435456) {K : PV → List Ob → Prop} (h : K (.bool true) []) :
    FC Tryz.prog tt 6 [] [.lst 40 de] K := by
  refine FC.enter (G := g6a) tt_ok mixed ⟨Tryz.func6, by rfl, rfl⟩ rfl rfl rfl ?_
  intro A C L X
  have hneg := negA X.a
  have heq := eqA X.a
  have hsq := sqA X.a
  have hnt : A.not true = false := by rw [X.a]; rfl
  obtain ⟨n_de, hn_de, hlen_de⟩ := lenOf he
  cbv
  refine X.call (F7 ?_)
  cbv
  repeat' (first | apply And.intro | exact fun (_ : FF) => by kernel_rfl | (intro h2; first | exact absurd ((hnt).symm.trans h2) (by decide) | cbv) | apply Or.inl | (refine X.call (F8 he hok (Nat.le_trans hwt (by decide)) fun r0 hr0 => ?_); cbv))
  · exact h
  refine X.call (F16 he hok hfit hwt fun s r hsr => ?_)
  cbv
  repeat' (first | apply And.intro | exact fun (_ : FF) => by kernel_rfl | (intro h2; cbv) | apply Or.inl)
  · exact h
  have h2 : A.not (A.eq r 0) = false := by assumption
  rw [hneg, heq] at h2
  have hE : EnvOk env := envE_0 (by rw [← hsr]; simpa using h2)
  clear h2 hsr hr0
  cbv
  refine X.loop (fun (k : Nat) => ⟨[(34, .int .i64 k), (33, .int .i64 (A.len de)), (32, .lst 40 de), (0, .lst 40 de)], []⟩) (fun k => k ≤ n_de) (fun k => n_de - k) 0 (Nat.zero_le _) ?_ ?_
  · (cbv; repeat' apply And.intro); all_goals try first | trivial | rfl | (rw [X.a]; rfl)
  rintro k hk
  cbv
  refine ⟨fun h1 => ?_, fun h1 => ?_⟩
  rotate_left
  · cbv; exact h
  have h5 : k < env.length := ltOf X.a he h1
  have k1 := ifIsAt X.a he h5
  have hid := idxOf X.a he h5
  have hin := incOf X.a h5 hok.1
  have hmem := List.getElem_mem h5
  have hif := hfit _ hmem
  have hio := hE.ok _ hmem
  have hiface : ifaceE env (A.asStr (A.cell de (Int.ofNat k) 0)) = ([], 0) := by
    rw [k1.1]; unfold ifaceE; rw [findI_self hE.srt hmem]; exact hio.iface
  have e00 : A.not (A.eq 0 0) = false := by rw [hneg, heq]; rfl
  have s00 : A.not (A.seq [] []) = false := by rw [hneg, hsq]; rfl
  cbv
  repeat' (first | apply And.intro | exact fun (_ : FF) => by kernel_rfl | (intro h2; cbv) | apply Or.inl)
  any_goals exact hid
  refine X.call (F15 he hok hfit fun s r hsr => ?_)
  rw [hiface] at hsr
  cases hsr
  clear h1
  cbv
  repeat' (first | apply And.intro | exact fun (_ : FF) => by kernel_rfl | (intro h2; first | exact absurd ((e00).symm.trans h2) (by decide) | exact absurd ((s00).symm.trans h2) (by decide) | cbv) | apply Or.inl)
  refine X.loopP (fun (j : Nat) => ⟨[(54, .int .i64 j), (53, .int .i64 (A.len (A.cell de (Int.ofNat k) 1))), (52, .lst 51 (A.cell de (Int.ofNat k) 1)), (6, .box 0 0), (34, .int .i64 k), (33, .int .i64 (A.len de)), (32, .lst 40 de), (0, .lst 40 de)], [.box [.str (A.asStr (A.cell de (Int.ofNat k) 0)), .lst 51 (A.cell de (Int.ofNat k) 1), .lst 101 (A.cell de (Int.ofNat k) 2), .lst 106 (A.cell de (Int.ofNat k) 3), .lst 119 (A.cell de (Int.ofNat k) 4)]]⟩) (fun j => j ≤ env[k].types.length) (fun j => env[k].types.length - j) 0 (Nat.zero_le _) ?_ ?_
  · refine ⟨[0], rfl, ?_⟩
    (cbv; repeat' apply And.intro); all_goals try first | trivial | rfl | (rw [X.a]; rfl)
  · rintro j hj
    cbv
    refine ⟨fun h1 => ?_, fun h1 => ?_⟩
    · have h6 : j < env[k].types.length := ltOf X.a k1.2.1 h1
      have k2 := teIsAt X.a k1.2.1 h6
      have hidj := idxOf X.a k1.2.1 h6
      have hinj := incOf X.a h6 (Nat.le_trans hif.nt (by decide))
      have hxm := List.getElem_mem h6
      have hxf := hif.t _ hxm
      have hte := typE_0 (hio.t _ hxm)
      have hnp := hxf.np
      cbv
      repeat' (first | apply And.intro | exact fun (_ : FF) => by kernel_rfl | (intro h2; cbv) | apply Or.inl)
      any_goals exact hidj
      refine X.loopP (fun (y : Nat × D) => ⟨[(61, .int .i64 y.1), (60, .int .i64 (A.len (A.cell (A.cell de (Int.ofNat k) 1) (Int.ofNat j) 1))), (59, .lst 53 (A.cell (A.cell de (Int.ofNat k) 1) (Int.ofNat j) 1)), (11, .row 9 2), (10, .box 1 0), (54, .int .i64 j), (53, .int .i64 (A.len (A.cell de (Int.ofNat k) 1))), (52, .lst 51 (A.cell de (Int.ofNat k) 1)), (6, .box 0 0), (34, .int .i64 k), (33, .int .i64 (A.len de)), (32, .lst 40 de), (0, .lst 40 de)], [.box [.str (A.asStr (A.cell de (Int.ofNat k) 0)), .lst 51 (A.cell de (Int.ofNat k) 1), .lst 101 (A.cell de (Int.ofNat k) 2), .lst 106 (A.cell de (Int.ofNat k) 3), .lst 119 (A.cell de (Int.ofNat k) 4)], .box [.str (A.asStr (A.cell (A.cell de (Int.ofNat k) 1) (Int.ofNat j) 0)), .lst 53 (A.cell (A.cell de (Int.ofNat k) 1) (Int.ofNat j) 1), .int .i64 (A.asInt (A.cell (A.cell de (Int.ofNat k) 1) (Int.ofNat j) 2)), .str (A.asStr (A.cell (A.cell de (Int.ofNat k) 1) (Int.ofNat j) 3)), .str (A.asStr (A.cell (A.cell de (Int.ofNat k) 1) (Int.ofNat j) 4)), .lst 28 (A.cell (A.cell de (Int.ofNat k) 1) (Int.ofNat j) 5), .lst 65 (A.cell (A.cell de (Int.ofNat k) 1) (Int.ofNat j) 6), .int .i64 (A.asInt (A.cell (A.cell de (Int.ofNat k) 1) (Int.ofNat j) 7)), .str (A.asStr (A.cell (A.cell de (Int.ofNat k) 1) (Int.ofNat j) 8)), .str (A.asStr (A.cell (A.cell de (Int.ofNat k) 1) (Int.ofNat j) 9)), .lst 28 (A.cell (A.cell de (Int.ofNat k) 1) (Int.ofNat j) 10), .lst 65 (A.cell (A.cell de (Int.ofNat k) 1) (Int.ofNat j) 11)], .row 9 y.2 true]⟩)
        (fun y => y.1 ≤ (env[k].types[j]).params.length ∧ y.2 = encL encS (((env[k].types[j]).params.take y.1).map Pm.name)) (fun y => (env[k].types[j]).params.length - y.1) (0, .list []) ⟨Nat.zero_le _, rfl⟩ ?_ ?_
      · refine ⟨[0, 1, 2], rfl, ?_⟩
        (cbv; repeat' apply And.intro); all_goals try first | trivial | rfl | (rw [X.a]; rfl)
      rintro ⟨q, rn⟩ ⟨hq, hrn⟩
      simp only at hq hrn
      cbv
      refine ⟨fun h1 => ?_, fun h1 => ?_⟩
      · have h7 := ltOf X.a k2.2.1 h1
        have k3 := pmIsAt X.a k2.2.1 h7
        have k30 := k3.1
        have hidq := idxOf X.a k2.2.1 h7
        have hinq := incOf X.a h7 (Nat.le_trans hnp (by decide))
        have hlit : A.lit [[.str (A.asStr (A.cell (A.cell (A.cell de (Int.ofNat k) 1) (Int.ofNat j) 1) (Int.ofNat q) 0))]] = encL encS [(env[k].types[j]).params[q].name] := by rw [k30, X.a]; rfl
        have hb2 : A.bnd (A.add (A.len rn) (A.len (A.lit [[.str (A.asStr (A.cell (A.cell (A.cell de (Int.ofNat k) 1) (Int.ofNat j) 1) (Int.ofNat q) 0))]]))) 4294967296 := bndOf X.a hrn hlit (by simp only [List.length_map, List.length_take, List.length_singleton]; omega)
        have q1 : A.app rn (A.lit [[.str (A.asStr (A.cell (A.cell (A.cell de (Int.ofNat k) 1) (Int.ofNat j) 1) (Int.ofNat q) 0))]]) = encL encS (((env[k].types[j]).params.take (q+1)).map Pm.name) := by
          rw [map_take h7]; exact appOf X.a hrn hlit
        cbv
        repeat' (first | apply And.intro | exact fun (_ : FF) => by kernel_rfl | (intro h2; cbv) | apply Or.inl)
        any_goals first | exact hidq | exact hinq | exact hb2
        refine ⟨(q+1, _), ⟨by simp only; omega, q1⟩, by simp only; omega, [0, 1, 2], rfl, ?_⟩
        (cbv; repeat' apply And.intro); all_goals try first | trivial | rfl | (rw [X.a]; rfl)
      · have h7 : q = (env[k].types[j]).params.length := Nat.le_antisymm hq (geOf X.a k2.2.1 h1)
        rw [h7, List.take_length] at hrn
        have hvl : ((env[k].types[j]).params.map Pm.name).length ≤ 4294967295 := by rw [List.length_map]; exact Nat.le_trans hnp (by decide)
        have hpl : (env[k].types[j]).params.length ≤ 4294967295 := Nat.le_trans hnp (by decide)
        have hs1 : (env[k].types[j]).lower.size ≤ 4294967295 := Nat.le_trans hxf.lo.sz (by decide)
        have hs2 : (env[k].types[j]).upper.size ≤ 4294967295 := Nat.le_trans hxf.up.sz (by decide)
        obtain ⟨t1, t2, t3, t4, t5, t6⟩ := hte
        have g1 : ∀ {K' : PV → List Ob → Prop}, K' (.int .i64 0) [] → FC Tryz.prog tt 10 [] [.lst 40 de, .lst 9 rn, tyPV (A.asInt (A.cell (A.cell de (Int.ofNat k) 1) (Int.ofNat j) 2)) (A.asStr (A.cell (A.cell de (Int.ofNat k) 1) (Int.ofNat j) 3)) (A.asStr (A.cell (A.cell de (Int.ofNat k) 1) (Int.ofNat j) 4)) (A.cell (A.cell de (Int.ofNat k) 1) (Int.ofNat j) 5) (A.cell (A.cell de (Int.ofNat k) 1) (Int.ofNat j) 6)] K' := fun hK => F10 he hok hrn hvl hxf.lo.le hs1 hxf.lo.nod k2.2.2.1 fun r hr => by rw [hr, t1]; exact hK
        have g2 : ∀ {K' : PV → List Ob → Prop}, K' (.int .i64 0) [] → FC Tryz.prog tt 10 [] [.lst 40 de, .lst 9 rn, tyPV (A.asInt (A.cell (A.cell de (Int.ofNat k) 1) (Int.ofNat j) 7)) (A.asStr (A.cell (A.cell de (Int.ofNat k) 1) (Int.ofNat j) 8)) (A.asStr (A.cell (A.cell de (Int.ofNat k) 1) (Int.ofNat j) 9)) (A.cell (A.cell de (Int.ofNat k) 1) (Int.ofNat j) 10) (A.cell (A.cell de (Int.ofNat k) 1) (Int.ofNat j) 11)] K' := fun hK => F10 he hok hrn hvl hxf.up.le hs2 hxf.up.nod k2.2.2.2 fun r hr => by rw [hr, t2]; exact hK
        have g3 : ∀ {K' : PV → List Ob → Prop}, K' (.bool true) [] → FC Tryz.prog tt 18 [] [.lst 40 de, .lst 53 (A.cell (A.cell de (Int.ofNat k) 1) (Int.ofNat j) 1), tyPV (A.asInt (A.cell (A.cell de (Int.ofNat k) 1) (Int.ofNat j) 2)) (A.asStr (A.cell (A.cell de (Int.ofNat k) 1) (Int.ofNat j) 3)) (A.asStr (A.cell (A.cell de (Int.ofNat k) 1) (Int.ofNat j) 4)) (A.cell (A.cell de (Int.ofNat k) 1) (Int.ofNat j) 5) (A.cell (A.cell de (Int.ofNat k) 1) (Int.ofNat j) 6)] K' := fun hK => F18 he hok k2.2.1 hpl hxf.lo.le k2.2.2.1 fun b hb => by rw [hb, t3]; exact hK
        have g4 : ∀ {K' : PV → List Ob → Prop}, K' (.bool true) [] → FC Tryz.prog tt 18 [] [.lst 40 de, .lst 53 (A.cell (A.cell de (Int.ofNat k) 1) (Int.ofNat j) 1), tyPV (A.asInt (A.cell (A.cell de (Int.ofNat k) 1) (Int.ofNat j) 7)) (A.asStr (A.cell (A.cell de (Int.ofNat k) 1) (Int.ofNat j) 8)) (A.asStr (A.cell (A.cell de (Int.ofNat k) 1) (Int.ofNat j) 9)) (A.cell (A.cell de (Int.ofNat k) 1) (Int.ofNat j) 10) (A.cell (A.cell de (Int.ofNat k) 1) (Int.ofNat j) 11)] K' := fun hK => F18 he hok k2.2.1 hpl hxf.up.le k2.2.2.2 fun b hb => by rw [hb, t4]; exact hK
        clear h1
        cbv
        repeat' (first | apply And.intro | exact fun (_ : FF) => by kernel_rfl | (intro h2; first | exact absurd ((e00).symm.trans h2) (by decide) | exact absurd ((hnt).symm.trans h2) (by decide) | cbv) | apply Or.inl | (refine X.call (g1 ?_); cbv) | (refine X.call (g2 ?_); cbv) | (refine X.call (g3 ?_); cbv) | (refine X.call (g4 ?_); cbv))
        any_goals exact hinj
        refine ⟨j+1, by omega, by omega, [0], rfl, ?_⟩
        (cbv; repeat' apply And.intro); all_goals try first | trivial | rfl | (rw [X.a]; rfl)
    · clear h1
      cbv
      refine X.call (F19 hif.ok hif.hsz hif.rf k1 fun ls rg hrg hg1 hg2 _ => ?_)
      have hlsl : ls.length ≤ 1048576 := Nat.le_trans hg2 hif.nt
      cbv
      refine X.loopP (fun (q : Nat) => ⟨[(107, .int .i64 q), (106, .int .i64 (A.len rg)), (105, .row 24 1), (6, .box 0 0), (34, .int .i64 k), (33, .int .i64 (A.len de)), (32, .lst 40 de), (0, .lst 40 de)], [.box [.str (A.asStr (A.cell de (Int.ofNat k) 0)), .lst 51 (A.cell de (Int.ofNat k) 1), .lst 101 (A.cell de (Int.ofNat k) 2), .lst 106 (A.cell de (Int.ofNat k) 3), .lst 119 (A.cell de (Int.ofNat k) 4)], .row 24 rg true]⟩) (fun q => q ≤ ls.length) (fun q => ls.length - q) 0 (Nat.zero_le _) ?_ ?_
      · refine ⟨[0, 1], rfl, ?_⟩
        (cbv; repeat' apply And.intro); all_goals try first | trivial | rfl | (rw [X.a]; rfl)
      rintro q hq
      cbv
      refine ⟨fun h1 => ?_, fun h1 => ?_⟩
      · have h7 := ltOf X.a hrg h1
        have hidq := idxOf X.a hrg h7
        have hinq := incOf X.a h7 (Nat.le_trans hlsl (by decide))
        have hG : A.cell rg (Int.ofNat q) 0 = encL encS ls[q] := by rw [cellAt X.a hrg h7]; rfl
        obtain ⟨n, hgm, _⟩ := hg1 _ (List.getElem_mem h7)
        have hgl : ls[q].length ≤ 1048576 := Nat.le_trans (nodup_types hgm.nd fun s hs => ((hgm.mem s).1 hs).1.has) hif.nt
        clear h1
        cbv
        repeat' (first | apply And.intro | exact fun (_ : FF) => by kernel_rfl | (intro h2; cbv) | apply Or.inl)
        any_goals exact hidq
        refine X.loopP (fun (p : Nat) => ⟨[(113, .int .i64 p), (112, .int .i64 (A.len (A.cell rg (Int.ofNat q) 0))), (111, .lst 9 (A.cell rg (Int.ofNat q) 0)), (15, .lst 9 (A.cell rg (Int.ofNat q) 0)), (107, .int .i64 q), (106, .int .i64 (A.len rg)), (105, .row 24 1), (6, .box 0 0), (34, .int .i64 k), (33, .int .i64 (A.len de)), (32, .lst 40 de), (0, .lst 40 de)], [.box [.str (A.asStr (A.cell de (Int.ofNat k) 0)), .lst 51 (A.cell de (Int.ofNat k) 1), .lst 101 (A.cell de (Int.ofNat k) 2), .lst 106 (A.cell de (Int.ofNat k) 3), .lst 119 (A.cell de (Int.ofNat k) 4)], .row 24 rg true]⟩) (fun p => p ≤ ls[q].length) (fun p => ls[q].length - p) 0 (Nat.zero_le _) ?_ ?_
        · refine ⟨[0, 1], rfl, ?_⟩
          (cbv; repeat' apply And.intro); all_goals try first | trivial | rfl | (rw [X.a]; rfl)
        rintro p hp
        cbv
        refine ⟨fun h1 => ?_, fun h1 => ?_⟩
        · have h8 := ltOf X.a hG h1
          have hidp := idxOf X.a hG h8
          have hinp := incOf X.a h8 (Nat.le_trans hgl (by decide))
          have hs : A.asStr (A.cell (A.cell rg (Int.ofNat q) 0) (Int.ofNat p) 0) = ls[q][p] := strAt X.a hG h8
          obtain ⟨y, hy, hno⟩ := member_ok hio hgm (List.getElem_mem h8)
          clear h1
          cbv
          repeat' (first | apply And.intro | exact fun (_ : FF) => by kernel_rfl | (intro h2; cbv) | apply Or.inl)
          any_goals exact hidp
          refine X.call (F20 k1 hif.ok.nt rfl fun e0 e1 e2 e3 e4 e5 e6 e7 e8 e9 e10 e11 b hte hb => ?_)
          have hy2 : env[k].types.find? (fun z => z.name == A.asStr (A.cell (A.cell rg (Int.ofNat q) 0) (Int.ofNat p) 0)) = some y := by rw [hs]; exact hy
          have hb : b = true := by rw [hb]; exact congrArg Option.isSome hy2
          have hte : teIs y e0 e1 e2 e3 e4 e5 e6 e7 e8 e9 e10 e11 := by have := hte; rw [show env[k].types.find? (fun z => z.name == A.asStr (A.cell (A.cell rg (Int.ofNat q) 0) (Int.ofNat p) 0)) = some y from hy2] at this; exact this
          subst hb
          cbv
          repeat' (first | apply And.intro | exact fun (_ : FF) => by kernel_rfl | (intro h2; first | exact absurd ((hnt).symm.trans h2) (by decide) | cbv) | apply Or.inl | (refine X.call (F21 hG (Nat.le_trans hgl (by decide)) fun b2 hb2 => ?_); cbv))
          any_goals exact hinp
          all_goals (try (refine ⟨p+1, by omega, by omega, [0, 1], rfl, ?_⟩; (cbv; repeat' apply And.intro); all_goals try first | trivial | rfl | (rw [X.a]; rfl)))
          exfalso
          have g1 : A.eq e7 10 = true := by assumption
          have g2 : A.seq e8 (A.asStr (A.cell de (Int.ofNat k) 0)) = true := by assumption
          have g3 : b2 = true := by assumption
          rw [heq] at g1
          rw [hsq, k1.1] at g2
          rw [hb2] at g3
          refine hno ⟨?_, ?_, ?_⟩
          · rw [← hte.2.2.2.1]; exact eq_of_beq g1
          · rw [← hte.2.2.2.2.1]; exact eq_of_beq g2
          · rw [← hte.2.2.2.2.2.1]; exact g3
        · clear h1
          cbv
          repeat' (first | apply And.intro | exact fun (_ : FF) => by kernel_rfl | (intro h2; cbv) | apply Or.inl)
          any_goals exact hinq
          refine ⟨q+1, by omega, by omega, [0, 1], rfl, ?_⟩
          (cbv; repeat' apply And.intro); all_goals try first | trivial | rfl | (rw [X.a]; rfl)
      · clear h1
        cbv
        repeat' (first | apply And.intro | exact fun (_ : FF) => by kernel_rfl | (intro h2; cbv) | apply Or.inl)
        any_goals exact hin
        refine ⟨k+1, by omega, by omega, ?_⟩
        (cbv; repeat' apply And.intro); all_goals try first | trivial | rfl | (rw [X.a]; rfl)
end Go.VC.T07
end
