/- Part 6 of the common texts: N9 N10 R2 R4 B1 M1 Y0. -/
import Derived.Test.YtcdafdklkhdjeaaGreatRows
import Derived.ProofKit
import Derived.OpenShut
import Derived.JoinedCond
import Derived.Test.YtcdafdklkhdjeaaGreatPart1
import Derived.Test.YtcdafdklkhdjeaaGreatPart2
import Derived.Test.YtcdafdklkhdjeaaGreatPart3
import Derived.Test.YtcdafdklkhdjeaaGreatPart4
import Derived.Test.YtcdafdklkhdjeaaGreatPart5
set_option linter.all false

section
/- The reference's equality of interfaces. -/
set_option linter.unusedSimpArgs false
set_option linter.unusedVariables false
namespace Go.VC
theorem te_ne {a b : TE} (h : a.name ≠ b.name ∨ same a.params b.params = false ∨ same a.lower b.lower = false ∨ same a.upper b.upper = false) : a ≠ b := by
  rintro rfl
  rcases h with h | h | h | h
  · exact h rfl
  all_goals (rw [same_self] at h; cases h)
theorem te_eq {a b : TE} (h0 : a.name = b.name) (h1 : same a.params b.params = true) (h2 : same a.lower b.lower = true) (h3 : same a.upper b.upper = true) : a = b := by
  refine same_iff.1 ?_
  rw [same_te, h1, h2, h3, h0]; simp
theorem ve_ne {a b : VE} (h : a.name ≠ b.name ∨ same a.params b.params = false ∨ same a.ty b.ty = false) : a ≠ b := by
  rintro rfl
  rcases h with h | h | h
  · exact h rfl
  all_goals (rw [same_self] at h; cases h)
theorem ve_eq {a b : VE} (h0 : a.name = b.name) (h1 : same a.params b.params = true) (h2 : same a.ty b.ty = true) : a = b := by
  refine same_iff.1 ?_
  rw [same_ve, h1, h2, h0]; simp
theorem get_ne {α β : Type} {f : α → List β} {x y : α} {i : Nat} (h5 : i < (f x).length) (h6 : i < (f y).length) (h : (f x)[i] ≠ (f y)[i]) : same x y = false := same_ne fun e => h (by subst e; rfl)
theorem nt {A : Alg} (ha : A = Std) {b : Bool} (h : A.not b = true) : b = false := by rw [ha, Std_not] at h; simpa using h
theorem nf {A : Alg} (ha : A = Std) {b : Bool} (h : A.not b = false) : b = true := by rw [ha, Std_not] at h; simpa using h
end Go.VC
namespace Go.VC.T07
open Go Go.VC Go.Proofs
def g14a : Cfg := {tt := tt, n := 174, cuts := [6, 12], pers := true, hard := [62, 67, 108, 113, 146, 151, 164, 169]}
set_option maxRecDepth 100000 in
set_option maxHeartbeats 4000000 in
theorem F14 {x y : IF} {c0 : S} {c1 c2 c3 c4 : D} {d0 : S} {d1 d2 d3 d4 : D} {K : PV → List Ob → Prop} (hok : x.ok) (hx : ifIs x c0 c1 c2 c3 c4) (hy : ifIs y d0 d1 d2 d3 d4)
    (h : ∀ b, b = same x y → K (.bool b) []) : FC Tryz.prog tt 14 [] [ifPV c0 c1 c2 c3 c4, ifPV d0 d1 d2 d3 d4] K := by
  have hs := same_if (x := x) (y := y)
  obtain ⟨x0, hc1, hc2, hc3, hc4⟩ := hx
  obtain ⟨y0, hd1, hd2, hd3, hd4⟩ := hy
  refine FC.enter (G := g14a) tt_ok mixed ⟨Tryz.func14, by rfl, rfl⟩ rfl rfl rfl ?_
  intro A C L X
  obtain ⟨n_c1, hn_c1⟩ : ∃ n, n = (x.types).length := ⟨_, rfl⟩
  have hlen_c1 : Std.len c1 = Int.ofNat n_c1 := by rw [hc1, Std_len, hn_c1]; rfl
  obtain ⟨n_c2, hn_c2⟩ : ∃ n, n = (x.values).length := ⟨_, rfl⟩
  have hlen_c2 : Std.len c2 = Int.ofNat n_c2 := by rw [hc2, Std_len, hn_c2]; rfl
  obtain ⟨n_c3, hn_c3⟩ : ∃ n, n = (x.aliases).length := ⟨_, rfl⟩
  have hlen_c3 : Std.len c3 = Int.ofNat n_c3 := by rw [hc3, Std_len, hn_c3]; rfl
  obtain ⟨n_c4, hn_c4⟩ : ∃ n, n = (x.deprecated).length := ⟨_, rfl⟩
  have hlen_c4 : Std.len c4 = Int.ofNat n_c4 := by rw [hc4, Std_len, hn_c4]; rfl
  obtain ⟨n_d1, hn_d1⟩ : ∃ n, n = (y.types).length := ⟨_, rfl⟩
  have hlen_d1 : Std.len d1 = Int.ofNat n_d1 := by rw [hd1, Std_len, hn_d1]; rfl
  obtain ⟨n_d2, hn_d2⟩ : ∃ n, n = (y.values).length := ⟨_, rfl⟩
  have hlen_d2 : Std.len d2 = Int.ofNat n_d2 := by rw [hd2, Std_len, hn_d2]; rfl
  obtain ⟨n_d3, hn_d3⟩ : ∃ n, n = (y.aliases).length := ⟨_, rfl⟩
  have hlen_d3 : Std.len d3 = Int.ofNat n_d3 := by rw [hd3, Std_len, hn_d3]; rfl
  obtain ⟨n_d4, hn_d4⟩ : ∃ n, n = (y.deprecated).length := ⟨_, rfl⟩
  have hlen_d4 : Std.len d4 = Int.ofNat n_d4 := by rw [hd4, Std_len, hn_d4]; rfl
  have qf : same x y = false → K (.bool false) [] := fun e => h _ e.symm
  have p0 : A.seq c0 d0 = (x.path == y.path) := by rw [X.a, x0, y0]; rfl
  have n0 : A.not (A.seq c0 d0) = true → same x y = false := fun e => same_ne fun e2 => by rw [p0, X.a, e2] at e; simp [Std_not] at e
  have m0 : A.not (A.seq c0 d0) = false → x.path = y.path := fun e => by rw [p0, X.a] at e; simpa [Std_not] using e
  have l1 : A.eq (A.len c1) (A.len d1) = decide (x.types.length = y.types.length) := by rw [X.a, hlen_c1, hlen_d1, hn_c1, hn_d1]; show decide _ = _; simp; omega
  have l2 : A.eq (A.len c2) (A.len d2) = decide (x.values.length = y.values.length) := by rw [X.a, hlen_c2, hlen_d2, hn_c2, hn_d2]; show decide _ = _; simp; omega
  have l3 : A.eq (A.len c3) (A.len d3) = decide (x.aliases.length = y.aliases.length) := by rw [X.a, hlen_c3, hlen_d3, hn_c3, hn_d3]; show decide _ = _; simp; omega
  have l4 : A.eq (A.len c4) (A.len d4) = decide (x.deprecated.length = y.deprecated.length) := by rw [X.a, hlen_c4, hlen_d4, hn_c4, hn_d4]; show decide _ = _; simp; omega
  have n1 : A.not (A.eq (A.len c1) (A.len d1)) = true → same x y = false := fun e => same_ne fun e2 => by rw [l1, X.a, e2] at e; simp [Std_not] at e
  have n2 : A.not (A.eq (A.len c2) (A.len d2)) = true → same x y = false := fun e => same_ne fun e2 => by rw [l2, X.a, e2] at e; simp [Std_not] at e
  have n3 : A.not (A.eq (A.len c3) (A.len d3)) = true → same x y = false := fun e => same_ne fun e2 => by rw [l3, X.a, e2] at e; simp [Std_not] at e
  have n4 : A.not (A.eq (A.len c4) (A.len d4)) = true → same x y = false := fun e => same_ne fun e2 => by rw [l4, X.a, e2] at e; simp [Std_not] at e
  have m1 : A.not (A.eq (A.len c1) (A.len d1)) = false → x.types.length = y.types.length := fun e => by rw [l1, X.a] at e; simpa [Std_not] using e
  have m2 : A.not (A.eq (A.len c2) (A.len d2)) = false → x.values.length = y.values.length := fun e => by rw [l2, X.a] at e; simpa [Std_not] using e
  have m3 : A.not (A.eq (A.len c3) (A.len d3)) = false → x.aliases.length = y.aliases.length := fun e => by rw [l3, X.a] at e; simpa [Std_not] using e
  have m4 : A.not (A.eq (A.len c4) (A.len d4)) = false → x.deprecated.length = y.deprecated.length := fun e => by rw [l4, X.a] at e; simpa [Std_not] using e
  cbv
  repeat' (first | apply And.intro | exact fun (_ : False → False) => by kernel_rfl | (intro h2; cbv) | apply Or.inl)
  · exact qf (n4 h2)
  rotate_left 1
  · exact qf (n3 h2)
  · exact qf (n2 h2)
  · exact qf (n1 h2)
  · exact qf (n0 h2)
  rename_i g0 g1 g2 g3
  have r0 := m0 g0
  have r1 := m1 g1
  have r2 := m2 g2
  have r3 := m3 g3
  have r4 := m4 h2
  clear g0 g1 g2 g3 h2 l1 l2 l3 l4 n0 n1 n2 n3 n4 m0 m1 m2 m3 m4 p0
  refine X.loop (fun (i : Nat) => ⟨[(5, .int .i64 i), (2, .box 0 0), (3, .box 1 0)], [.box [.str c0, .lst 58 c1, .lst 76 c2, .lst 72 c3, .lst 87 c4], .box [.str d0, .lst 58 d1, .lst 76 d2, .lst 72 d3, .lst 87 d4]]⟩) (fun i => i ≤ n_c1 ∧ x.types.take i = y.types.take i) (fun i => n_c1 - i) 0 ⟨Nat.zero_le _, by simp⟩ ?_ ?_
  · (cbv; repeat' apply And.intro); all_goals (try (first | trivial | rfl | (rw [X.a]; rfl)))
  rintro i ⟨hi, ha⟩
  cbv
  refine ⟨fun h1 => ?_, fun h1 => ?_⟩
  · have h5 : i < x.types.length := by obtain rfl := X.a; simp only [hlen_c1, SD, bNot] at h1; omega
    have h6 : i < y.types.length := by omega
    have k1 := teIsAt X.a hc1 h5
    have k2 := teIsAt X.a hd1 h6
    have hid : A.idx (Int.ofNat i) (A.len c1) := by rw [X.a, hc1]; exact leaf_idx h5
    have hie : A.idx (Int.ofNat i) (A.len d1) := by rw [X.a, hd1]; exact leaf_idx h6
    have hin : A.inr .i64 (A.add (Int.ofNat i) 1) := by rw [X.a]; exact leaf_inc h5 (by have := hok.nt; omega)
    cbv
    refine X.cut (fun (z : Unit) => ⟨[(5, .int .i64 i), (2, .box 0 0), (3, .box 1 0), (6, .box 2 0), (7, .box 3 0)], [.box [.str c0, .lst 58 c1, .lst 76 c2, .lst 72 c3, .lst 87 c4], .box [.str d0, .lst 58 d1, .lst 76 d2, .lst 72 d3, .lst 87 d4], .box [.str (A.asStr (A.cell c1 (Int.ofNat i) 0)), .lst 62 (A.cell c1 (Int.ofNat i) 1), .int .i64 (A.asInt (A.cell c1 (Int.ofNat i) 2)), .str (A.asStr (A.cell c1 (Int.ofNat i) 3)), .str (A.asStr (A.cell c1 (Int.ofNat i) 4)), .lst 43 (A.cell c1 (Int.ofNat i) 5), .lst 105 (A.cell c1 (Int.ofNat i) 6), .int .i64 (A.asInt (A.cell c1 (Int.ofNat i) 7)), .str (A.asStr (A.cell c1 (Int.ofNat i) 8)), .str (A.asStr (A.cell c1 (Int.ofNat i) 9)), .lst 43 (A.cell c1 (Int.ofNat i) 10), .lst 105 (A.cell c1 (Int.ofNat i) 11)], .box [.str (A.asStr (A.cell d1 (Int.ofNat i) 0)), .lst 62 (A.cell d1 (Int.ofNat i) 1), .int .i64 (A.asInt (A.cell d1 (Int.ofNat i) 2)), .str (A.asStr (A.cell d1 (Int.ofNat i) 3)), .str (A.asStr (A.cell d1 (Int.ofNat i) 4)), .lst 43 (A.cell d1 (Int.ofNat i) 5), .lst 105 (A.cell d1 (Int.ofNat i) 6), .int .i64 (A.asInt (A.cell d1 (Int.ofNat i) 7)), .str (A.asStr (A.cell d1 (Int.ofNat i) 8)), .str (A.asStr (A.cell d1 (Int.ofNat i) 9)), .lst 43 (A.cell d1 (Int.ofNat i) 10), .lst 105 (A.cell d1 (Int.ofNat i) 11)]]⟩) (fun _ => True) ?_ ?_
    · cbv
      repeat' (first | apply And.intro | exact fun (_ : False → False) => by kernel_rfl | (intro h2; cbv) | apply Or.inl)
      any_goals exact hid
      any_goals exact hie
      all_goals (
        refine ⟨(), trivial, ?_⟩
        first
          | (refine ⟨[0, 1, 2, 3], rfl, ?_⟩; (cbv; repeat' apply And.intro); all_goals (try (first | trivial | rfl | (rw [X.a]; rfl))); done)
          | (refine ⟨[0, 1, 3, 2], rfl, ?_⟩; (cbv; repeat' apply And.intro); all_goals (try (first | trivial | rfl | (rw [X.a]; rfl))); done))
    rintro ⟨⟩ _
    have okt := hok.t _ (List.getElem_mem h5)
    obtain ⟨k10, k11, k12, k13⟩ := k1
    obtain ⟨k20, k21, k22, k23⟩ := k2
    have es : A.seq (A.asStr (A.cell c1 (Int.ofNat i) 0)) (A.asStr (A.cell d1 (Int.ofNat i) 0)) = (x.types[i].name == y.types[i].name) := by rw [k10, k20, X.a]; rfl
    have e0 : A.seq (A.asStr (A.cell c1 (Int.ofNat i) 0)) (A.asStr (A.cell d1 (Int.ofNat i) 0)) = true → x.types[i].name = y.types[i].name := fun e => by rw [es] at e; simpa using e
    have e0' : A.seq (A.asStr (A.cell c1 (Int.ofNat i) 0)) (A.asStr (A.cell d1 (Int.ofNat i) 0)) = false → x.types[i].name ≠ y.types[i].name := fun e => by rw [es] at e; simpa using e
    cbv
    repeat' (first | apply And.intro | exact fun (_ : False → False) => by kernel_rfl | (intro h2; cbv) | apply Or.inl | (refine X.call (F45 k11 k21 okt.np okt.p fun b1 hb1 => ?_); cbv) | (refine X.call (F25 _ okt.lo k12 k22 fun b2 hb2 => ?_); cbv) | (refine X.call (F25 _ okt.up k13 k23 fun b3 hb3 => ?_); cbv))
    any_goals exact hin
    · rename_i g0 g1 g2; exact qf (get_ne (f := IF.types) h5 h6 (te_ne (.inr (.inr (.inr (hb3.symm.trans (nt X.a h2)))))))
    · rename_i g0 g1 g2 g3
      have e : x.types[i] = y.types[i] := te_eq (e0 (nf X.a g0)) (hb1.symm.trans (nf X.a g1)) (hb2.symm.trans (nf X.a g2)) (hb3.symm.trans (nf X.a g3))
      refine ⟨i+1, ⟨by omega, by rw [take_succ' h5, take_succ' h6, ha, e]⟩, by omega, ?_⟩
      (cbv; repeat' apply And.intro); all_goals (try (first | trivial | rfl | (rw [X.a]; rfl)))
    · exact qf (get_ne (f := IF.types) h5 h6 (te_ne (.inr (.inr (.inl (hb2.symm.trans (nt X.a h2)))))))
    · exact qf (get_ne (f := IF.types) h5 h6 (te_ne (.inr (.inl (hb1.symm.trans (nt X.a h2))))))
    · exact qf (get_ne (f := IF.types) h5 h6 (te_ne (.inl (e0' (nt X.a h2)))))
  have h7 : i = n_c1 := by obtain rfl := X.a; simp only [hlen_c1, SD, bNot] at h1; omega
  have E_c1 : x.types = y.types := take_full (by omega) (by rw [← hn_c1, ← h7]; exact ha)
  clear h1 hi ha h7
  cbv
  refine X.loop (fun (i : Nat) => ⟨[(8, .int .i64 i), (2, .box 0 0), (3, .box 1 0)], [.box [.str c0, .lst 58 c1, .lst 76 c2, .lst 72 c3, .lst 87 c4], .box [.str d0, .lst 58 d1, .lst 76 d2, .lst 72 d3, .lst 87 d4]]⟩) (fun i => i ≤ n_c2 ∧ x.values.take i = y.values.take i) (fun i => n_c2 - i) 0 ⟨Nat.zero_le _, by simp⟩ ?_ ?_
  · (cbv; repeat' apply And.intro); all_goals (try (first | trivial | rfl | (rw [X.a]; rfl)))
  rintro i ⟨hi, ha⟩
  cbv
  refine ⟨fun h1 => ?_, fun h1 => ?_⟩
  · have h5 : i < x.values.length := by obtain rfl := X.a; simp only [hlen_c2, SD, bNot] at h1; omega
    have h6 : i < y.values.length := by omega
    have hid : A.idx (Int.ofNat i) (A.len c2) := by rw [X.a, hc2]; exact leaf_idx h5
    have hie : A.idx (Int.ofNat i) (A.len d2) := by rw [X.a, hd2]; exact leaf_idx h6
    have hin : A.inr .i64 (A.add (Int.ofNat i) 1) := by rw [X.a]; exact leaf_inc h5 (by have := hok.nv; omega)
    obtain ⟨k10, k11, k12⟩ := veIsAt X.a hc2 h5
    obtain ⟨k20, k21, k22⟩ := veIsAt X.a hd2 h6
    cbv
    refine X.cut (fun (z : Unit) => ⟨[(8, .int .i64 i), (2, .box 0 0), (3, .box 1 0), (9, .box 2 0), (10, .box 3 0)], [.box [.str c0, .lst 58 c1, .lst 76 c2, .lst 72 c3, .lst 87 c4], .box [.str d0, .lst 58 d1, .lst 76 d2, .lst 72 d3, .lst 87 d4], .box [.str (A.asStr (A.cell c2 (Int.ofNat i) 0)), .lst 62 (A.cell c2 (Int.ofNat i) 1), .int .i64 (A.asInt (A.cell c2 (Int.ofNat i) 2)), .str (A.asStr (A.cell c2 (Int.ofNat i) 3)), .str (A.asStr (A.cell c2 (Int.ofNat i) 4)), .lst 43 (A.cell c2 (Int.ofNat i) 5), .lst 105 (A.cell c2 (Int.ofNat i) 6)], .box [.str (A.asStr (A.cell d2 (Int.ofNat i) 0)), .lst 62 (A.cell d2 (Int.ofNat i) 1), .int .i64 (A.asInt (A.cell d2 (Int.ofNat i) 2)), .str (A.asStr (A.cell d2 (Int.ofNat i) 3)), .str (A.asStr (A.cell d2 (Int.ofNat i) 4)), .lst 43 (A.cell d2 (Int.ofNat i) 5), .lst 105 (A.cell d2 (Int.ofNat i) 6)]]⟩) (fun _ => True) ?_ ?_
    · cbv
      repeat' (first | apply And.intro | exact fun (_ : False → False) => by kernel_rfl | (intro h2; cbv) | apply Or.inl)
      any_goals exact hid
      any_goals exact hie
      all_goals (
        refine ⟨(), trivial, ?_⟩
        first
          | (refine ⟨[0, 1, 2, 3], rfl, ?_⟩; (cbv; repeat' apply And.intro); all_goals (try (first | trivial | rfl | (rw [X.a]; rfl))); done)
          | (refine ⟨[0, 1, 3, 2], rfl, ?_⟩; (cbv; repeat' apply And.intro); all_goals (try (first | trivial | rfl | (rw [X.a]; rfl))); done))
    rintro ⟨⟩ _
    have okt := hok.v _ (List.getElem_mem h5)
    have es : A.seq (A.asStr (A.cell c2 (Int.ofNat i) 0)) (A.asStr (A.cell d2 (Int.ofNat i) 0)) = (x.values[i].name == y.values[i].name) := by rw [k10, k20, X.a]; rfl
    have e0 : A.seq (A.asStr (A.cell c2 (Int.ofNat i) 0)) (A.asStr (A.cell d2 (Int.ofNat i) 0)) = true → x.values[i].name = y.values[i].name := fun e => by rw [es] at e; simpa using e
    have e0' : A.seq (A.asStr (A.cell c2 (Int.ofNat i) 0)) (A.asStr (A.cell d2 (Int.ofNat i) 0)) = false → x.values[i].name ≠ y.values[i].name := fun e => by rw [es] at e; simpa using e
    cbv
    repeat' (first | apply And.intro | exact fun (_ : False → False) => by kernel_rfl | (intro h2; cbv) | apply Or.inl | (refine X.call (F45 k11 k21 okt.np okt.p fun b1 hb1 => ?_); cbv) | (refine X.call (F25 _ okt.ty k12 k22 fun b2 hb2 => ?_); cbv))
    any_goals exact hin
    · exact qf (get_ne (f := IF.values) h5 h6 (ve_ne (.inr (.inr (hb2.symm.trans (nt X.a h2))))))
    · rename_i g0 g1 g2
      have e : x.values[i] = y.values[i] := ve_eq (e0 (nf X.a g0)) (hb1.symm.trans (nf X.a g1)) (hb2.symm.trans (nf X.a g2))
      refine ⟨i+1, ⟨by omega, by rw [take_succ' h5, take_succ' h6, ha, e]⟩, by omega, ?_⟩
      (cbv; repeat' apply And.intro); all_goals (try (first | trivial | rfl | (rw [X.a]; rfl)))
    · exact qf (get_ne (f := IF.values) h5 h6 (ve_ne (.inr (.inl (hb1.symm.trans (nt X.a h2))))))
    · exact qf (get_ne (f := IF.values) h5 h6 (ve_ne (.inl (e0' (nt X.a h2)))))
  have h7 : i = n_c2 := by obtain rfl := X.a; simp only [hlen_c2, SD, bNot] at h1; omega
  have E_c2 : x.values = y.values := take_full (by omega) (by rw [← hn_c2, ← h7]; exact ha)
  clear h1 hi ha h7
  cbv
  refine X.loop (fun (i : Nat) => ⟨[(11, .int .i64 i), (2, .box 0 0), (3, .box 1 0)], [.box [.str c0, .lst 58 c1, .lst 76 c2, .lst 72 c3, .lst 87 c4], .box [.str d0, .lst 58 d1, .lst 76 d2, .lst 72 d3, .lst 87 d4]]⟩) (fun i => i ≤ n_c3 ∧ x.aliases.take i = y.aliases.take i) (fun i => n_c3 - i) 0 ⟨Nat.zero_le _, by simp⟩ ?_ ?_
  · (cbv; repeat' apply And.intro); all_goals (try (first | trivial | rfl | (rw [X.a]; rfl)))
  rintro i ⟨hi, ha⟩
  cbv
  refine ⟨fun h1 => ?_, fun h1 => ?_⟩
  · have h5 : i < x.aliases.length := by obtain rfl := X.a; simp only [hlen_c3, SD, bNot] at h1; omega
    have h6 : i < y.aliases.length := by omega
    have hid : A.idx (Int.ofNat i) (A.len c3) := by rw [X.a, hc3]; exact leaf_idx h5
    have hie : A.idx (Int.ofNat i) (A.len d3) := by rw [X.a, hd3]; exact leaf_idx h6
    have hin : A.inr .i64 (A.add (Int.ofNat i) 1) := by rw [X.a]; exact leaf_inc h5 (by have := hok.na; omega)
    obtain ⟨k10, k11, k12⟩ := aeIsAt X.a hc3 h5
    obtain ⟨k20, k21, k22⟩ := aeIsAt X.a hd3 h6
    cbv
    repeat' (first | apply And.intro | exact fun (_ : False → False) => by kernel_rfl | (intro h2; cbv) | apply Or.inl)
    any_goals exact hid
    any_goals exact hie
    any_goals exact hin
    all_goals first
      | (refine qf (get_ne (f := IF.aliases) h5 h6 fun e => ?_)
         obtain rfl := X.a
         simp only [k10, k20, k11, k21, k12, k22, Std_not, Std_ite, Std_seq, Std_eq, e] at h2
         simp at h2)
      | (have e : x.aliases[i] = y.aliases[i] := by
           rename_i h3
           obtain rfl := X.a
           simp only [k10, k20, k11, k21, k12, k22, Std_not, Std_ite, Std_seq] at h3
           simp at h3
           exact AE.ext1 h3.1 h3.2.1 h3.2.2
         refine ⟨i+1, ⟨by omega, by rw [take_succ' h5, take_succ' h6, ha, e]⟩, by omega, ?_⟩
         (cbv; repeat' apply And.intro); all_goals (try (first | trivial | rfl | (rw [X.a]; rfl))))
  have h7 : i = n_c3 := by obtain rfl := X.a; simp only [hlen_c3, SD, bNot] at h1; omega
  have E_c3 : x.aliases = y.aliases := take_full (by omega) (by rw [← hn_c3, ← h7]; exact ha)
  clear h1 hi ha h7
  cbv
  refine X.loop (fun (i : Nat) => ⟨[(12, .int .i64 i), (2, .box 0 0), (3, .box 1 0)], [.box [.str c0, .lst 58 c1, .lst 76 c2, .lst 72 c3, .lst 87 c4], .box [.str d0, .lst 58 d1, .lst 76 d2, .lst 72 d3, .lst 87 d4]]⟩) (fun i => i ≤ n_c4 ∧ x.deprecated.take i = y.deprecated.take i) (fun i => n_c4 - i) 0 ⟨Nat.zero_le _, by simp⟩ ?_ ?_
  · (cbv; repeat' apply And.intro); all_goals (try (first | trivial | rfl | (rw [X.a]; rfl)))
  rintro i ⟨hi, ha⟩
  cbv
  refine ⟨fun h1 => ?_, fun h1 => ?_⟩
  · have h5 : i < x.deprecated.length := by obtain rfl := X.a; simp only [hlen_c4, SD, bNot] at h1; omega
    have h6 : i < y.deprecated.length := by omega
    have hid : A.idx (Int.ofNat i) (A.len c4) := by rw [X.a, hc4]; exact leaf_idx h5
    have hie : A.idx (Int.ofNat i) (A.len d4) := by rw [X.a, hd4]; exact leaf_idx h6
    have hin : A.inr .i64 (A.add (Int.ofNat i) 1) := by rw [X.a]; exact leaf_inc h5 (by have := hok.nd; omega)
    obtain ⟨k10, k11⟩ := deIsAt X.a hc4 h5
    obtain ⟨k20, k21⟩ := deIsAt X.a hd4 h6
    cbv
    repeat' (first | apply And.intro | exact fun (_ : False → False) => by kernel_rfl | (intro h2; cbv) | apply Or.inl)
    any_goals exact hid
    any_goals exact hie
    any_goals exact hin
    all_goals first
      | (refine qf (get_ne (f := IF.deprecated) h5 h6 fun e => ?_)
         obtain rfl := X.a
         simp only [k10, k20, k11, k21, Std_not, Std_ite, Std_seq, Std_eq, e] at h2
         simp at h2)
      | (have e : x.deprecated[i] = y.deprecated[i] := by
           rename_i h3
           obtain rfl := X.a
           simp only [k10, k20, k11, k21, Std_not, Std_ite, Std_seq] at h3
           simp at h3
           exact DE.ext1 h3.1 h3.2
         refine ⟨i+1, ⟨by omega, by rw [take_succ' h5, take_succ' h6, ha, e]⟩, by omega, ?_⟩
         (cbv; repeat' apply And.intro); all_goals (try (first | trivial | rfl | (rw [X.a]; rfl))))
  have h7 : i = n_c4 := by obtain rfl := X.a; simp only [hlen_c4, SD, bNot] at h1; omega
  have E_c4 : x.deprecated = y.deprecated := take_full (by omega) (by rw [← hn_c4, ← h7]; exact ha)
  clear h1 hi ha h7
  cbv
  refine h true ?_
  rw [hs, r0, E_c1, E_c2, E_c3, E_c4, same_self, same_self, same_self, same_self]; simp
end Go.VC.T07
end

section
/- The reference's Equal and Size. -/
set_option linter.unusedSimpArgs false
set_option linter.unusedVariables false
namespace Go.VC
def ifSize (x : IF) : Nat := ((typesL x).map Ty.size).sum + x.aliases.length + x.deprecated.length
def sizeE (env : List IF) : Nat := env.length + (env.map ifSize).sum
theorem ifSize_wt (x : IF) : ifSize x + 1 ≤ x.wt := by
  have a := sum_flat (l := x.types) (f := teTys) (g := Ty.size) (w := TE.wt) fun y _ => by
    have := bound_sum y.params
    simp only [teTys, List.map_append, List.sum_append, List.map_cons, List.map_nil, List.sum_cons, List.sum_nil, TE.wt]; omega
  have b := sum_flat (l := x.values) (f := veTys) (g := Ty.size) (w := VE.wt) fun y _ => by
    have := bound_sum y.params
    simp only [veTys, List.map_append, List.sum_append, List.map_cons, List.map_nil, List.sum_cons, List.sum_nil, VE.wt]; omega
  simp only [ifSize, typesL, List.map_append, List.sum_append, IF.wt]; omega
theorem sizeE_wt (env : List IF) : sizeE env ≤ (env.map IF.wt).sum := by
  unfold sizeE
  induction env with
  | nil => simp
  | cons x l ih => have := ifSize_wt x; simp only [List.length_cons, List.map_cons, List.sum_cons]; omega
theorem sum_step {α : Type} {f : α → Nat} {l : List α} {i : Nat} (h : i < l.length) : ((l.take (i+1)).map f).sum = ((l.take i).map f).sum + f l[i] := by
  rw [take_succ' h, List.map_append, List.sum_append]; simp
theorem sum_step_le {α : Type} {f : α → Nat} {l : List α} {i : Nat} (h : i < l.length) : ((l.take i).map f).sum + f l[i] ≤ (l.map f).sum := by
  rw [← sum_step h]; exact sum_map_take_le
end Go.VC
namespace Go.VC.T07
open Go Go.VC Go.Proofs
set_option maxRecDepth 100000 in
set_option maxHeartbeats 2000000 in
theorem F16 {l m : List IF} {d1 d2 : D} {K : PV → List Ob → Prop} (hd1 : d1 = encL encIF l) (hd2 : d2 = encL encIF m) (hl : l.length ≤ 4294967295) (hok : ∀ p ∈ l, p.ok)
    (h : ∀ b, b = same l m → K (.bool b) []) : FC Tryz.prog tt 16 [] [.lst 31 d1, .lst 31 d2] K := by
  refine FC.enter (G := g16) tt_ok mixed ⟨Tryz.func16, by rfl, rfl⟩ rfl rfl rfl ?_
  intro A C L X
  obtain ⟨n_d1, hn_d1⟩ : ∃ n, n = (l).length := ⟨_, rfl⟩
  have hlen_d1 : Std.len d1 = Int.ofNat n_d1 := by rw [hd1, Std_len, hn_d1]; rfl
  obtain ⟨n_d2, hn_d2⟩ : ∃ n, n = (m).length := ⟨_, rfl⟩
  have hlen_d2 : Std.len d2 = Int.ofNat n_d2 := by rw [hd2, Std_len, hn_d2]; rfl
  have qf : same l m = false → K (.bool false) [] := fun e => h _ e.symm
  cbv
  repeat' (first | apply And.intro | exact fun (_ : False → False) => by kernel_rfl | (intro h2; cbv) | apply Or.inl)
  · refine qf (same_len ?_)
    obtain rfl := X.a; simp only [hlen_d1, hlen_d2, SD, bNot] at h2; omega
  have hml : m.length = n_d1 := by obtain rfl := X.a; simp only [hlen_d1, hlen_d2, SD, bNot] at h2; omega
  clear h2
  refine X.loop (fun (i : Nat) => ⟨[(5, .int .i64 i), (0, .lst 31 d1), (1, .lst 31 d2)], []⟩) (fun i => i ≤ n_d1 ∧ l.take i = m.take i) (fun i => n_d1 - i) 0 ⟨Nat.zero_le _, by simp⟩ ?_ ?_
  · (cbv; repeat' apply And.intro); all_goals (try (first | trivial | rfl | (rw [X.a]; rfl)))
  rintro i ⟨hi, ha⟩
  cbv
  refine ⟨fun h1 => ?_, fun h1 => ?_⟩
  · have h5 : i < l.length := by obtain rfl := X.a; simp only [hlen_d1, SD, bNot] at h1; omega
    have h6 : i < m.length := by omega
    have k1 := ifIsAt X.a hd1 h5
    have k2 := ifIsAt X.a hd2 h6
    have hid : A.idx (Int.ofNat i) (A.len d1) := by rw [X.a, hd1]; exact leaf_idx h5
    have hie : A.idx (Int.ofNat i) (A.len d2) := by rw [X.a, hd2]; exact leaf_idx h6
    have hin : A.inr .i64 (A.add (Int.ofNat i) 1) := by rw [X.a]; exact leaf_inc h5 (by omega)
    clear h1
    cbv
    repeat' (first | apply And.intro | exact fun (_ : False → False) => by kernel_rfl | (intro h2; cbv) | apply Or.inl | (refine X.call (F14 (hok _ (List.getElem_mem h5)) k1 k2 fun b hb => ?_); cbv))
    any_goals exact hid
    any_goals exact hie
    any_goals exact hin
    · refine qf (same_get h5 h6 fun e => ?_)
      have := hb.symm.trans (nt X.a h2)
      rw [e, same_self] at this; cases this
    · rename_i g1
      have e : l[i] = m[i] := same_iff.1 (hb.symm.trans (nf X.a g1))
      refine ⟨i+1, ⟨by omega, by rw [take_succ' h5, take_succ' h6, ha, e]⟩, by omega, ?_⟩
      (cbv; repeat' apply And.intro); all_goals (try (first | trivial | rfl | (rw [X.a]; rfl)))
  · have h5 : i = n_d1 := by obtain rfl := X.a; simp only [hlen_d1, SD, bNot] at h1; omega
    subst h5
    have e := take_full (l := l) (m := m) (by omega) (by rw [← hn_d1]; exact ha)
    cbv
    refine h _ ?_
    rw [e, same_self]

theorem F22c {t : Ty} (hle : Ty.le 4294967295 t) (hs : t.size ≤ 4294967295) {c0 : Int} {c1 c2 : S} {c3 c4 : D} {K : PV → List Ob → Prop} (ht : tyIs t c0 c1 c2 c3 c4) (h : ∀ r : Int, r = t.size → K (.int .i64 r) []) :
    FC Tryz.prog tt 22 [] [tyPV c0 c1 c2 c3 c4] K := F22 t hle hs ht h
set_option maxRecDepth 100000 in
set_option maxHeartbeats 4000000 in
theorem F11 {env : List IF} {d : D} {K : PV → List Ob → Prop} (hd : d = encL encIF env) (hl : envOk env) (hw : (env.map IF.wt).sum ≤ 4294967280)
    (h : ∀ r : Int, r = Int.ofNat (sizeE env) → K (.int .i64 r) []) : FC Tryz.prog tt 11 [] [.lst 31 d] K := by
  have hse := sizeE_wt env
  have hn := hl.1
  obtain ⟨g, hg⟩ : ∃ g : Nat → Nat, g = fun i => env.length + ((env.take i).map ifSize).sum := ⟨_, rfl⟩
  have g0 : g 0 = env.length := by rw [hg]; simp
  have gs : ∀ i (h : i < env.length), g (i+1) = g i + ifSize env[i] := fun i h => by rw [hg]; simp only; rw [sum_step h]; omega
  have gl : ∀ i, g i ≤ sizeE env := fun i => by rw [hg]; unfold sizeE; have := sum_map_take_le (f := ifSize) (l := env) (i := i); simp only; omega
  have gn : g env.length = sizeE env := by rw [hg]; unfold sizeE; simp only; rw [List.take_length]
  clear hg
  refine FC.enter (G := g11) tt_ok mixed ⟨Tryz.func11, by rfl, rfl⟩ rfl rfl rfl ?_
  intro A C L X
  obtain ⟨n_d, hn_d⟩ : ∃ n, n = (env).length := ⟨_, rfl⟩
  have hlen_d : Std.len d = Int.ofNat n_d := by rw [hd, Std_len, hn_d]; rfl
  cbv
  refine X.loop (fun (y : Nat × Int) => ⟨[(4, .int .i64 y.1), (3, .int .i64 y.2), (0, .lst 31 d)], []⟩)
    (fun y => y.1 ≤ n_d ∧ y.2 = Int.ofNat (g y.1)) (fun y => n_d - y.1) (0, A.len d) ⟨Nat.zero_le _, by rw [X.a, hlen_d, g0, hn_d]⟩ ?_ ?_
  · (cbv; repeat' apply And.intro); all_goals (try (first | trivial | rfl | (rw [X.a]; rfl)))
  rintro ⟨i, z⟩ ⟨hi, hz⟩
  simp only at hi hz
  cbv
  refine ⟨fun h1 => ?_, fun h1 => ?_⟩
  · have h5 : i < env.length := by obtain rfl := X.a; simp only [hlen_d, SD, bNot] at h1; omega
    have k1 := ifIsAt X.a hd h5
    have hid : A.idx (Int.ofNat i) (A.len d) := by rw [X.a, hd]; exact leaf_idx h5
    have hin : A.inr .i64 (A.add (Int.ofNat i) 1) := by rw [X.a]; exact leaf_inc h5 (by omega)
    have hmem := List.getElem_mem h5
    have hok := hl.2 _ hmem
    have hwt : env[i].wt ≤ (env.map IF.wt).sum := wt_mem hmem
    have htl := typesL_len env[i]
    have hst := gs i h5
    have hsl := gl (i+1)
    clear h1
    cbv
    repeat' (first | apply And.intro | exact fun (_ : False → False) => by kernel_rfl | (intro h2; cbv) | apply Or.inl)
    any_goals exact hid
    refine X.call (F42 k1 hok (by omega) fun dt hdt => ?_)
    obtain ⟨ts, hts⟩ : ∃ ts, ts = typesL env[i] := ⟨_, rfl⟩
    have hdt : dt = encL encTy ts := by rw [hts]; exact hdt
    have hle : ∀ u ∈ ts, Ty.le 4294967295 u := fun u hu => typesL_le hok (by rw [← hts]; exact hu)
    have hsz : ifSize env[i] = (ts.map Ty.size).sum + env[i].aliases.length + env[i].deprecated.length := by rw [hts]; rfl
    rw [← hts] at htl
    obtain ⟨n_dt, hn_dt⟩ : ∃ n, n = (ts).length := ⟨_, rfl⟩
    have hlen_dt : Std.len dt = Int.ofNat n_dt := by rw [hdt, Std_len, hn_dt]; rfl
    cbv
    refine X.loop (fun (y : Nat × Int) => ⟨[(6, .int .i64 y.1), (3, .int .i64 y.2), (5, .lst 43 dt), (4, .int .i64 i), (0, .lst 31 d)], []⟩)
      (fun y => y.1 ≤ n_dt ∧ y.2 = Int.ofNat (g i + ((ts.take y.1).map Ty.size).sum)) (fun y => n_dt - y.1) (0, z) ⟨Nat.zero_le _, by simpa using hz⟩ ?_ ?_
    · (cbv; repeat' apply And.intro); all_goals (try (first | trivial | rfl | (rw [X.a]; rfl)))
    rintro ⟨j, z2⟩ ⟨hj, hz2⟩
    simp only at hj hz2
    cbv
    refine ⟨fun h1 => ?_, fun h1 => ?_⟩
    · have h6 : j < ts.length := by obtain rfl := X.a; simp only [hlen_dt, SD, bNot] at h1; omega
      have k2 := tyAt X.a hdt h6
      have hid : A.idx (Int.ofNat j) (A.len dt) := by rw [X.a, hdt]; exact leaf_idx h6
      have hin2 : A.inr .i64 (A.add (Int.ofNat j) 1) := by rw [X.a]; exact leaf_inc h6 (by omega)
      have hms := List.getElem_mem h6
      have hss := sum_step (f := Ty.size) h6
      have hsl2 := sum_step_le (f := Ty.size) h6
      clear h1
      cbv
      repeat' (first | apply And.intro | exact fun (_ : False → False) => by kernel_rfl | (intro h2; cbv) | apply Or.inl)
      any_goals exact hid
      refine X.call (F22c (hle _ hms) (by omega) k2 fun v hv => ?_)
      have hv' : v = Int.ofNat ts[j].size := hv
      clear hv
      have q1 : A.add z2 v = Int.ofNat (g i + ((ts.take (j+1)).map Ty.size).sum) := by rw [X.a, Std_add, hss, hz2, hv']; simp only [Int.ofNat_eq_natCast]; omega
      have hin3 : A.inr .i64 (A.add z2 v) := by rw [q1, X.a, Std_inr64]; simp only [Int.ofNat_eq_natCast]; omega
      cbv
      repeat' (first | apply And.intro | exact fun (_ : False → False) => by kernel_rfl | (intro h2; cbv) | apply Or.inl)
      any_goals exact hin2
      any_goals exact hin3
      refine ⟨(j+1, _), ⟨?_, q1⟩, ?_, ?_⟩
      · simp only; omega
      · simp only; omega
      (cbv; repeat' apply And.intro); all_goals (try (first | trivial | rfl | (rw [X.a]; rfl)))
    have h6 : j = n_dt := by obtain rfl := X.a; simp only [hlen_dt, SD, bNot] at h1; omega
    rw [h6, hn_dt, List.take_length] at hz2
    clear h1 hj h6
    have la : A.len (A.cell d (Int.ofNat i) 3) = Int.ofNat env[i].aliases.length := by rw [k1.2.2.2.1, X.a, Std_len]; rfl
    have ld : A.len (A.cell d (Int.ofNat i) 4) = Int.ofNat env[i].deprecated.length := by rw [k1.2.2.2.2, X.a, Std_len]; rfl
    have q1 : A.add z2 (A.len (A.cell d (Int.ofNat i) 3)) = Int.ofNat (g i + (ts.map Ty.size).sum + env[i].aliases.length) := by rw [la, X.a, Std_add, hz2]; simp only [Int.ofNat_eq_natCast]; omega
    have q2 : A.add (A.add z2 (A.len (A.cell d (Int.ofNat i) 3))) (A.len (A.cell d (Int.ofNat i) 4)) = Int.ofNat (g (i+1)) := by rw [q1, ld, X.a, Std_add, hst, hsz]; simp only [Int.ofNat_eq_natCast]; omega
    have hi1 : A.inr .i64 (A.add z2 (A.len (A.cell d (Int.ofNat i) 3))) := by rw [q1, X.a, Std_inr64]; simp only [Int.ofNat_eq_natCast]; omega
    have hi2 : A.inr .i64 (A.add (A.add z2 (A.len (A.cell d (Int.ofNat i) 3))) (A.len (A.cell d (Int.ofNat i) 4))) := by rw [q2, X.a, Std_inr64]; simp only [Int.ofNat_eq_natCast]; omega
    cbv
    repeat' (first | apply And.intro | exact fun (_ : False → False) => by kernel_rfl | (intro h2; cbv) | apply Or.inl)
    any_goals exact hid
    any_goals exact hin
    any_goals exact hi1
    any_goals exact hi2
    refine ⟨(i+1, _), ⟨?_, q2⟩, ?_, ?_⟩
    · simp only; omega
    · simp only; omega
    (cbv; repeat' apply And.intro); all_goals (try (first | trivial | rfl | (rw [X.a]; rfl)))
  have h5 : i = n_d := by obtain rfl := X.a; simp only [hlen_d, SD, bNot] at h1; omega
  rw [h5, hn_d, gn] at hz
  cbv
  exact h z hz
end Go.VC.T07
end

section
/- The reference's substitution. -/
set_option linter.unusedSimpArgs false
set_option linter.unusedVariables false
namespace Go.VC
theorem idxS_at {l : List S} {s : S} {i : Nat} (h : i < l.length) (ha : ∀ x ∈ l.take i, (x == s) = false) (hp : l[i] = s) : idxS l s = (i : Int) := idxF_some h ha (by simp [hp])
theorem idxS_ge {l : List S} {s : S} {i : Nat} (ha : ∀ x ∈ l.take i, (x == s) = false) : idxS l s = -1 ∨ (i : Int) ≤ idxS l s := by
  rcases idxF_cases (fun x => x == s) l with ⟨e1, _⟩ | ⟨j, h5, e1, e2, e3⟩
  · exact .inl e1
  · refine .inr ?_
    rw [idxS, e1]
    rcases Nat.lt_or_ge j i with h | h
    · have h9 : (l[j] == s) = false := ha l[j] (by rw [List.mem_take_iff_getElem]; exact ⟨j, by omega, rfl⟩)
      have h8 : (l[j] == s) = true := e2
      rw [h8] at h9; cases h9
    · omega
end Go.VC
namespace Go.VC.T07
open Go Go.VC Go.Proofs

set_option maxRecDepth 100000 in
set_option maxHeartbeats 2000000 in
theorem F34 {ns : List S} {ts : List Ty} {dn dt : D} (hn : dn = encL encS ns) (hts : dt = encL encTy ts) (hl1 : ns.length ≤ 4294967295) (hl2 : ts.length ≤ 4294967295) :
    ∀ (t : Ty), Ty.le 4294967295 t → ∀ {c0 : Int} {c1 c2 : S} {c3 c4 : D} {K : PV → List Ob → Prop}, tyIs t c0 c1 c2 c3 c4 → (∀ e0 e1 e2 e3 e4, tyIs (t.sub ns ts) e0 e1 e2 e3 e4 → K (tyPV e0 e1 e2 e3 e4) []) → FC Tryz.prog tt 34 [] [tyPV c0 c1 c2 c3 c4, .lst 9 dn, .lst 43 dt] K := by
  refine Ty.parts fun t iha ihf => ?_
  intro hle c0 c1 c2 c3 c4 K ht h
  obtain ⟨t0, t1, t2, hc3, hc4⟩ := ht
  have hla := tyLe_ar hle
  have hlf := tyLe_fl hle
  refine FC.enter (G := g34) tt_ok mixed ⟨Tryz.func34, by rfl, rfl⟩ rfl rfl rfl ?_
  intro A C L X
  obtain ⟨n_dn, hn_dn⟩ : ∃ n, n = (ns).length := ⟨_, rfl⟩
  have hlen_dn : Std.len dn = Int.ofNat n_dn := by rw [hn, Std_len, hn_dn]; rfl
  obtain ⟨n_dt, hn_dt⟩ : ∃ n, n = (ts).length := ⟨_, rfl⟩
  have hlen_dt : Std.len dt = Int.ofNat n_dt := by rw [hts, Std_len, hn_dt]; rfl
  obtain ⟨n_c3, hn_c3⟩ : ∃ n, n = (t.ar).length := ⟨_, rfl⟩
  have hlen_c3 : Std.len c3 = Int.ofNat n_c3 := by rw [hc3, Std_len, hn_c3]; rfl
  obtain ⟨n_c4, hn_c4⟩ : ∃ n, n = (t.fl).length := ⟨_, rfl⟩
  have hlen_c4 : Std.len c4 = Int.ofNat n_c4 := by rw [hc4, Std_len, hn_c4]; rfl
  cbv
  repeat' (first | apply And.intro | exact fun (_ : False → False) => by kernel_rfl | (intro h2; cbv) | apply Or.inl)
  · refine X.loop (fun (y : Nat) => ⟨[(7, .int .i64 y), (1, .lst 9 dn), (2, .lst 43 dt), (3, .box 0 0), (6, .box 1 0)], [.box [.int .i64 c0, .str c1, .str c2, .lst 43 c3, .lst 105 c4], .box [.undef, .undef, .undef, .undef, .undef]]⟩)
      (fun y => y ≤ n_dn ∧ ∀ x ∈ ns.take y, (x == t.n) = false) (fun y => n_dn - y) 0 ⟨Nat.zero_le _, by simp⟩ ?_ ?_
    · (cbv; repeat' apply And.intro); all_goals (try (first | trivial | rfl | (rw [X.a]; rfl)))
    rintro i ⟨hi, ha⟩
    cbv
    repeat' (first | apply And.intro | exact fun (_ : False → False) => by kernel_rfl | (intro h2; cbv) | apply Or.inl)
    · have h5 : i < ns.length := by obtain rfl := X.a; simp only [hlen_dn, SD, bNot] at *; omega
      have h6 : i < ts.length := by obtain rfl := X.a; simp only [hlen_dt, SD, bNot] at *; omega
      rw [X.a, hn]; exact leaf_idx h5
    · have h5 : i < ns.length := by obtain rfl := X.a; simp only [hlen_dn, SD, bNot] at *; omega
      have h6 : i < ts.length := by obtain rfl := X.a; simp only [hlen_dt, SD, bNot] at *; omega
      rw [X.a, hts]; exact leaf_idx h6
    · have h5 : i < ns.length := by obtain rfl := X.a; simp only [hlen_dn, SD, bNot] at *; omega
      have h6 : i < ts.length := by obtain rfl := X.a; simp only [hlen_dt, SD, bNot] at *; omega
      have k1 := tyAt X.a hts h6
      have k2 := strAt X.a hn h5
      have hk : t.k = 9 := by rw [← t0]; obtain rfl := X.a; simp only [SD, bNot] at *; omega
      have hs : ns[i] = t.n := by rw [← k2, ← t2]; obtain rfl := X.a; simpa only [SD, bNot] using h2
      refine h _ _ _ _ _ ?_
      rw [sub_var hk (idxS_at h5 ha hs) h6]
      exact k1
    · have h5 : i < ns.length := by obtain rfl := X.a; simp only [hlen_dn, SD, bNot] at *; omega
      have h6 : i < ts.length := by obtain rfl := X.a; simp only [hlen_dt, SD, bNot] at *; omega
      rw [X.a]; exact leaf_inc h5 (by omega)
    · have h5 : i < ns.length := by obtain rfl := X.a; simp only [hlen_dn, SD, bNot] at *; omega
      have h6 : i < ts.length := by obtain rfl := X.a; simp only [hlen_dt, SD, bNot] at *; omega
      have k2 := strAt X.a hn h5
      have hs : ¬ ns[i] = t.n := by rename_i g3; rw [← k2, ← t2]; obtain rfl := X.a; simpa only [SD, bNot] using g3
      refine ⟨i+1, ⟨by omega, ?_⟩, by omega, ?_⟩
      · rw [take_succ' h5]; intro x hx
        rcases List.mem_append.1 hx with hx | hx
        · exact ha x hx
        · simp at hx; subst hx; simpa using hs
      (cbv; repeat' apply And.intro); all_goals (try (first | trivial | rfl | (rw [X.a]; rfl)))
    · have hno : ¬ (t.k = 9 ∧ 0 ≤ idxS ns t.n ∧ idxS ns t.n < ts.length) := by
        have h6 : ts.length ≤ i := by obtain rfl := X.a; simp only [hlen_dt, SD, bNot] at h2; omega
        rcases idxS_ge ha with e | e <;> omega
      clear ha hi
      refine     X.loopP (fun (y : Nat × D) => ⟨[(9, .int .i64 y.1), (1, .lst 9 dn), (2, .lst 43 dt), (3, .box 0 0), (6, .box 1 0), (8, .box 4 0)], [.box [.int .i64 c0, .str c1, .str c2, .lst 43 c3, .lst 105 c4], .box [.undef, .undef, .undef, .undef, .undef], .row 43 y.2 true, .row 105 (.list []) true, .box [.int .i64 c0, .str c1, .str c2, .row 43 2, .row 105 3]]⟩)
        (fun y => y.1 ≤ n_c3 ∧ y.2 = encL encTy ((t.ar.take y.1).map (Ty.sub ns ts))) (fun y => n_c3 - y.1) (0, .list []) ⟨Nat.zero_le _, rfl⟩ ?_ ?_
      · refine ⟨[0, 1, 2, 3, 4], rfl, ?_⟩
        (cbv; repeat' apply And.intro); all_goals (try (first | trivial | rfl | (rw [X.a]; rfl)))
      rintro ⟨i, r⟩ ⟨hi, hr⟩
      simp only at hi hr
      cbv
      refine ⟨fun h1 => ?_, fun h1 => ?_⟩
      · have h5 : i < t.ar.length := by obtain rfl := X.a; simp only [hlen_c3, SD, bNot] at h1; omega
        have k1 := tyAt X.a hc3 h5
        have hid : A.idx (Int.ofNat i) (A.len c3) := by rw [X.a, hc3]; exact leaf_idx h5
        have hin : A.inr .i64 (A.add (Int.ofNat i) 1) := by rw [X.a]; exact leaf_inc h5 (by omega)
        cbv
        repeat' (first | apply And.intro | exact fun (_ : False → False) => by kernel_rfl | (intro h2; cbv) | apply Or.inl)
        any_goals exact hid
        refine X.call (iha _ (List.getElem_mem h5) (tyLe_a hle _ (List.getElem_mem h5)) k1 fun e0 e1 e2 e3 e4 he => ?_)
        obtain ⟨he0, he1, he2, he3, he4⟩ := he
        have hb2 : A.bnd (A.add (A.len r) (A.len (A.lit [[.int e0, .str e1, .str e2, e3, e4]]))) 4294967296 := by
          rw [X.a, hr]; simp only [SD, bNot, List.length_map]; omega
        have q1 : A.app r (A.lit [[.int e0, .str e1, .str e2, e3, e4]]) = encL encTy ((t.ar.take (i+1)).map (Ty.sub ns ts)) := by
          rw [he0, he1, he2, he3, he4, X.a, hr, map_take h5, ← encTy_eq]
          exact Std_app (k := [t.ar[i].sub ns ts])
        cbv
        repeat' (first | apply And.intro | exact fun (_ : False → False) => by kernel_rfl | (intro h2; cbv) | apply Or.inl)
        any_goals exact hb2
        any_goals exact hin
        refine ⟨(i+1, _), ⟨?_, q1⟩, ?_, [0, 1, 2, 3, 4], rfl, ?_⟩
        · simp only; omega
        · simp only; omega
        (cbv; repeat' apply And.intro); all_goals (try (first | trivial | rfl | (rw [X.a]; rfl)))
      have h5 : i = n_c3 := by obtain rfl := X.a; simp only [hlen_c3, SD, bNot] at h1; omega
      subst h5
      rw [hn_c3, List.take_length] at hr
      cbv
      refine X.loopP (fun (y : Nat × D) => ⟨[(10, .int .i64 y.1), (1, .lst 9 dn), (2, .lst 43 dt), (3, .box 0 0), (6, .box 1 0), (8, .box 4 0)], [.box [.int .i64 c0, .str c1, .str c2, .lst 43 c3, .lst 105 c4], .box [.undef, .undef, .undef, .undef, .undef], .row 43 r true, .row 105 y.2 true, .box [.int .i64 c0, .str c1, .str c2, .row 43 2, .row 105 3]]⟩)
        (fun y => y.1 ≤ n_c4 ∧ y.2 = encL encFd ((t.fl.take y.1).map (Fe.sub ns ts))) (fun y => n_c4 - y.1) (0, .list []) ⟨Nat.zero_le _, rfl⟩ ?_ ?_
      · refine ⟨[0, 1, 2, 3, 4], rfl, ?_⟩
        (cbv; repeat' apply And.intro); all_goals (try (first | trivial | rfl | (rw [X.a]; rfl)))
      rintro ⟨i, r2⟩ ⟨hi, hr2⟩
      simp only at hi hr2
      cbv
      refine ⟨fun h1 => ?_, fun h1 => ?_⟩
      · have h5 : i < t.fl.length := by obtain rfl := X.a; simp only [hlen_c4, SD, bNot] at h1; omega
        have k1 := fdTyAt X.a hc4 h5
        have k2 := fdAt X.a hc4 h5
        have hid : A.idx (Int.ofNat i) (A.len c4) := by rw [X.a, hc4]; exact leaf_idx h5
        have hin : A.inr .i64 (A.add (Int.ofNat i) 1) := by rw [X.a]; exact leaf_inc h5 (by omega)
        cbv
        repeat' (first | apply And.intro | exact fun (_ : False → False) => by kernel_rfl | (intro h2; cbv) | apply Or.inl)
        any_goals exact hid
        refine X.call (ihf _ (List.getElem_mem h5) (tyLe_f hle _ (List.getElem_mem h5)) k1 fun e0 e1 e2 e3 e4 he => ?_)
        obtain ⟨he0, he1, he2, he3, he4⟩ := he
        have hb2 : A.bnd (A.add (A.len r2) (A.len (A.lit [[.str (A.asStr (A.cell c4 (Int.ofNat i) 0)), .int e0, .str e1, .str e2, e3, e4, .bool (A.asBool (A.cell c4 (Int.ofNat i) 6))]]))) 4294967296 := by
          rw [X.a, hr2]; simp only [SD, bNot, List.length_map]; omega
        have q1 : A.app r2 (A.lit [[.str (A.asStr (A.cell c4 (Int.ofNat i) 0)), .int e0, .str e1, .str e2, e3, e4, .bool (A.asBool (A.cell c4 (Int.ofNat i) 6))]]) = encL encFd ((t.fl.take (i+1)).map (Fe.sub ns ts)) := by
          rw [he0, he1, he2, he3, he4, k2.1, k2.2, X.a, hr2, map_take h5]
          refine Eq.trans ?_ (Std_app (k := [Fe.sub ns ts t.fl[i]]))
          congr 1
          refine lit1 ?_
          rw [encFd_eq, Fe.sub_eq]; rfl
        cbv
        repeat' (first | apply And.intro | exact fun (_ : False → False) => by kernel_rfl | (intro h2; cbv) | apply Or.inl)
        any_goals exact hb2
        any_goals exact hin
        refine ⟨(i+1, _), ⟨?_, q1⟩, ?_, [0, 1, 2, 3, 4], rfl, ?_⟩
        · simp only; omega
        · simp only; omega
        (cbv; repeat' apply And.intro); all_goals (try (first | trivial | rfl | (rw [X.a]; rfl)))
      have h5 : i = n_c4 := by obtain rfl := X.a; simp only [hlen_c4, SD, bNot] at h1; omega
      subst h5
      rw [hn_c4, List.take_length] at hr2
      cbv
      refine h _ _ _ _ _ ?_
      rw [sub_node hno]
      exact ⟨t0, t1, t2, hr, hr2⟩

    · have hno : ¬ (t.k = 9 ∧ 0 ≤ idxS ns t.n ∧ idxS ns t.n < ts.length) := by
        have h6 : ns.length ≤ i := by obtain rfl := X.a; simp only [hlen_dn, SD, bNot] at h2; omega
        rw [List.take_of_length_le h6] at ha
        rw [idxS, idxF_none ha]; omega
      clear ha hi
      refine     X.loopP (fun (y : Nat × D) => ⟨[(9, .int .i64 y.1), (1, .lst 9 dn), (2, .lst 43 dt), (3, .box 0 0), (6, .box 1 0), (8, .box 4 0)], [.box [.int .i64 c0, .str c1, .str c2, .lst 43 c3, .lst 105 c4], .box [.undef, .undef, .undef, .undef, .undef], .row 43 y.2 true, .row 105 (.list []) true, .box [.int .i64 c0, .str c1, .str c2, .row 43 2, .row 105 3]]⟩)
        (fun y => y.1 ≤ n_c3 ∧ y.2 = encL encTy ((t.ar.take y.1).map (Ty.sub ns ts))) (fun y => n_c3 - y.1) (0, .list []) ⟨Nat.zero_le _, rfl⟩ ?_ ?_
      · refine ⟨[0, 1, 2, 3, 4], rfl, ?_⟩
        (cbv; repeat' apply And.intro); all_goals (try (first | trivial | rfl | (rw [X.a]; rfl)))
      rintro ⟨i, r⟩ ⟨hi, hr⟩
      simp only at hi hr
      cbv
      refine ⟨fun h1 => ?_, fun h1 => ?_⟩
      · have h5 : i < t.ar.length := by obtain rfl := X.a; simp only [hlen_c3, SD, bNot] at h1; omega
        have k1 := tyAt X.a hc3 h5
        have hid : A.idx (Int.ofNat i) (A.len c3) := by rw [X.a, hc3]; exact leaf_idx h5
        have hin : A.inr .i64 (A.add (Int.ofNat i) 1) := by rw [X.a]; exact leaf_inc h5 (by omega)
        cbv
        repeat' (first | apply And.intro | exact fun (_ : False → False) => by kernel_rfl | (intro h2; cbv) | apply Or.inl)
        any_goals exact hid
        refine X.call (iha _ (List.getElem_mem h5) (tyLe_a hle _ (List.getElem_mem h5)) k1 fun e0 e1 e2 e3 e4 he => ?_)
        obtain ⟨he0, he1, he2, he3, he4⟩ := he
        have hb2 : A.bnd (A.add (A.len r) (A.len (A.lit [[.int e0, .str e1, .str e2, e3, e4]]))) 4294967296 := by
          rw [X.a, hr]; simp only [SD, bNot, List.length_map]; omega
        have q1 : A.app r (A.lit [[.int e0, .str e1, .str e2, e3, e4]]) = encL encTy ((t.ar.take (i+1)).map (Ty.sub ns ts)) := by
          rw [he0, he1, he2, he3, he4, X.a, hr, map_take h5, ← encTy_eq]
          exact Std_app (k := [t.ar[i].sub ns ts])
        cbv
        repeat' (first | apply And.intro | exact fun (_ : False → False) => by kernel_rfl | (intro h2; cbv) | apply Or.inl)
        any_goals exact hb2
        any_goals exact hin
        refine ⟨(i+1, _), ⟨?_, q1⟩, ?_, [0, 1, 2, 3, 4], rfl, ?_⟩
        · simp only; omega
        · simp only; omega
        (cbv; repeat' apply And.intro); all_goals (try (first | trivial | rfl | (rw [X.a]; rfl)))
      have h5 : i = n_c3 := by obtain rfl := X.a; simp only [hlen_c3, SD, bNot] at h1; omega
      subst h5
      rw [hn_c3, List.take_length] at hr
      cbv
      refine X.loopP (fun (y : Nat × D) => ⟨[(10, .int .i64 y.1), (1, .lst 9 dn), (2, .lst 43 dt), (3, .box 0 0), (6, .box 1 0), (8, .box 4 0)], [.box [.int .i64 c0, .str c1, .str c2, .lst 43 c3, .lst 105 c4], .box [.undef, .undef, .undef, .undef, .undef], .row 43 r true, .row 105 y.2 true, .box [.int .i64 c0, .str c1, .str c2, .row 43 2, .row 105 3]]⟩)
        (fun y => y.1 ≤ n_c4 ∧ y.2 = encL encFd ((t.fl.take y.1).map (Fe.sub ns ts))) (fun y => n_c4 - y.1) (0, .list []) ⟨Nat.zero_le _, rfl⟩ ?_ ?_
      · refine ⟨[0, 1, 2, 3, 4], rfl, ?_⟩
        (cbv; repeat' apply And.intro); all_goals (try (first | trivial | rfl | (rw [X.a]; rfl)))
      rintro ⟨i, r2⟩ ⟨hi, hr2⟩
      simp only at hi hr2
      cbv
      refine ⟨fun h1 => ?_, fun h1 => ?_⟩
      · have h5 : i < t.fl.length := by obtain rfl := X.a; simp only [hlen_c4, SD, bNot] at h1; omega
        have k1 := fdTyAt X.a hc4 h5
        have k2 := fdAt X.a hc4 h5
        have hid : A.idx (Int.ofNat i) (A.len c4) := by rw [X.a, hc4]; exact leaf_idx h5
        have hin : A.inr .i64 (A.add (Int.ofNat i) 1) := by rw [X.a]; exact leaf_inc h5 (by omega)
        cbv
        repeat' (first | apply And.intro | exact fun (_ : False → False) => by kernel_rfl | (intro h2; cbv) | apply Or.inl)
        any_goals exact hid
        refine X.call (ihf _ (List.getElem_mem h5) (tyLe_f hle _ (List.getElem_mem h5)) k1 fun e0 e1 e2 e3 e4 he => ?_)
        obtain ⟨he0, he1, he2, he3, he4⟩ := he
        have hb2 : A.bnd (A.add (A.len r2) (A.len (A.lit [[.str (A.asStr (A.cell c4 (Int.ofNat i) 0)), .int e0, .str e1, .str e2, e3, e4, .bool (A.asBool (A.cell c4 (Int.ofNat i) 6))]]))) 4294967296 := by
          rw [X.a, hr2]; simp only [SD, bNot, List.length_map]; omega
        have q1 : A.app r2 (A.lit [[.str (A.asStr (A.cell c4 (Int.ofNat i) 0)), .int e0, .str e1, .str e2, e3, e4, .bool (A.asBool (A.cell c4 (Int.ofNat i) 6))]]) = encL encFd ((t.fl.take (i+1)).map (Fe.sub ns ts)) := by
          rw [he0, he1, he2, he3, he4, k2.1, k2.2, X.a, hr2, map_take h5]
          refine Eq.trans ?_ (Std_app (k := [Fe.sub ns ts t.fl[i]]))
          congr 1
          refine lit1 ?_
          rw [encFd_eq, Fe.sub_eq]; rfl
        cbv
        repeat' (first | apply And.intro | exact fun (_ : False → False) => by kernel_rfl | (intro h2; cbv) | apply Or.inl)
        any_goals exact hb2
        any_goals exact hin
        refine ⟨(i+1, _), ⟨?_, q1⟩, ?_, [0, 1, 2, 3, 4], rfl, ?_⟩
        · simp only; omega
        · simp only; omega
        (cbv; repeat' apply And.intro); all_goals (try (first | trivial | rfl | (rw [X.a]; rfl)))
      have h5 : i = n_c4 := by obtain rfl := X.a; simp only [hlen_c4, SD, bNot] at h1; omega
      subst h5
      rw [hn_c4, List.take_length] at hr2
      cbv
      refine h _ _ _ _ _ ?_
      rw [sub_node hno]
      exact ⟨t0, t1, t2, hr, hr2⟩
  · have hno : ¬ (t.k = 9 ∧ 0 ≤ idxS ns t.n ∧ idxS ns t.n < ts.length) := by
      rw [← t0]; rintro ⟨e, _⟩; obtain rfl := X.a; simp only [SD, bNot] at h2; simp [e] at h2
    refine   X.loopP (fun (y : Nat × D) => ⟨[(9, .int .i64 y.1), (1, .lst 9 dn), (2, .lst 43 dt), (3, .box 0 0), (6, .box 1 0), (8, .box 4 0)], [.box [.int .i64 c0, .str c1, .str c2, .lst 43 c3, .lst 105 c4], .box [.undef, .undef, .undef, .undef, .undef], .row 43 y.2 true, .row 105 (.list []) true, .box [.int .i64 c0, .str c1, .str c2, .row 43 2, .row 105 3]]⟩)
      (fun y => y.1 ≤ n_c3 ∧ y.2 = encL encTy ((t.ar.take y.1).map (Ty.sub ns ts))) (fun y => n_c3 - y.1) (0, .list []) ⟨Nat.zero_le _, rfl⟩ ?_ ?_
    · refine ⟨[0, 1, 2, 3, 4], rfl, ?_⟩
      (cbv; repeat' apply And.intro); all_goals (try (first | trivial | rfl | (rw [X.a]; rfl)))
    rintro ⟨i, r⟩ ⟨hi, hr⟩
    simp only at hi hr
    cbv
    refine ⟨fun h1 => ?_, fun h1 => ?_⟩
    · have h5 : i < t.ar.length := by obtain rfl := X.a; simp only [hlen_c3, SD, bNot] at h1; omega
      have k1 := tyAt X.a hc3 h5
      have hid : A.idx (Int.ofNat i) (A.len c3) := by rw [X.a, hc3]; exact leaf_idx h5
      have hin : A.inr .i64 (A.add (Int.ofNat i) 1) := by rw [X.a]; exact leaf_inc h5 (by omega)
      cbv
      repeat' (first | apply And.intro | exact fun (_ : False → False) => by kernel_rfl | (intro h2; cbv) | apply Or.inl)
      any_goals exact hid
      refine X.call (iha _ (List.getElem_mem h5) (tyLe_a hle _ (List.getElem_mem h5)) k1 fun e0 e1 e2 e3 e4 he => ?_)
      obtain ⟨he0, he1, he2, he3, he4⟩ := he
      have hb2 : A.bnd (A.add (A.len r) (A.len (A.lit [[.int e0, .str e1, .str e2, e3, e4]]))) 4294967296 := by
        rw [X.a, hr]; simp only [SD, bNot, List.length_map]; omega
      have q1 : A.app r (A.lit [[.int e0, .str e1, .str e2, e3, e4]]) = encL encTy ((t.ar.take (i+1)).map (Ty.sub ns ts)) := by
        rw [he0, he1, he2, he3, he4, X.a, hr, map_take h5, ← encTy_eq]
        exact Std_app (k := [t.ar[i].sub ns ts])
      cbv
      repeat' (first | apply And.intro | exact fun (_ : False → False) => by kernel_rfl | (intro h2; cbv) | apply Or.inl)
      any_goals exact hb2
      any_goals exact hin
      refine ⟨(i+1, _), ⟨?_, q1⟩, ?_, [0, 1, 2, 3, 4], rfl, ?_⟩
      · simp only; omega
      · simp only; omega
      (cbv; repeat' apply And.intro); all_goals (try (first | trivial | rfl | (rw [X.a]; rfl)))
    have h5 : i = n_c3 := by obtain rfl := X.a; simp only [hlen_c3, SD, bNot] at h1; omega
    subst h5
    rw [hn_c3, List.take_length] at hr
    cbv
    refine X.loopP (fun (y : Nat × D) => ⟨[(10, .int .i64 y.1), (1, .lst 9 dn), (2, .lst 43 dt), (3, .box 0 0), (6, .box 1 0), (8, .box 4 0)], [.box [.int .i64 c0, .str c1, .str c2, .lst 43 c3, .lst 105 c4], .box [.undef, .undef, .undef, .undef, .undef], .row 43 r true, .row 105 y.2 true, .box [.int .i64 c0, .str c1, .str c2, .row 43 2, .row 105 3]]⟩)
      (fun y => y.1 ≤ n_c4 ∧ y.2 = encL encFd ((t.fl.take y.1).map (Fe.sub ns ts))) (fun y => n_c4 - y.1) (0, .list []) ⟨Nat.zero_le _, rfl⟩ ?_ ?_
    · refine ⟨[0, 1, 2, 3, 4], rfl, ?_⟩
      (cbv; repeat' apply And.intro); all_goals (try (first | trivial | rfl | (rw [X.a]; rfl)))
    rintro ⟨i, r2⟩ ⟨hi, hr2⟩
    simp only at hi hr2
    cbv
    refine ⟨fun h1 => ?_, fun h1 => ?_⟩
    · have h5 : i < t.fl.length := by obtain rfl := X.a; simp only [hlen_c4, SD, bNot] at h1; omega
      have k1 := fdTyAt X.a hc4 h5
      have k2 := fdAt X.a hc4 h5
      have hid : A.idx (Int.ofNat i) (A.len c4) := by rw [X.a, hc4]; exact leaf_idx h5
      have hin : A.inr .i64 (A.add (Int.ofNat i) 1) := by rw [X.a]; exact leaf_inc h5 (by omega)
      cbv
      repeat' (first | apply And.intro | exact fun (_ : False → False) => by kernel_rfl | (intro h2; cbv) | apply Or.inl)
      any_goals exact hid
      refine X.call (ihf _ (List.getElem_mem h5) (tyLe_f hle _ (List.getElem_mem h5)) k1 fun e0 e1 e2 e3 e4 he => ?_)
      obtain ⟨he0, he1, he2, he3, he4⟩ := he
      have hb2 : A.bnd (A.add (A.len r2) (A.len (A.lit [[.str (A.asStr (A.cell c4 (Int.ofNat i) 0)), .int e0, .str e1, .str e2, e3, e4, .bool (A.asBool (A.cell c4 (Int.ofNat i) 6))]]))) 4294967296 := by
        rw [X.a, hr2]; simp only [SD, bNot, List.length_map]; omega
      have q1 : A.app r2 (A.lit [[.str (A.asStr (A.cell c4 (Int.ofNat i) 0)), .int e0, .str e1, .str e2, e3, e4, .bool (A.asBool (A.cell c4 (Int.ofNat i) 6))]]) = encL encFd ((t.fl.take (i+1)).map (Fe.sub ns ts)) := by
        rw [he0, he1, he2, he3, he4, k2.1, k2.2, X.a, hr2, map_take h5]
        refine Eq.trans ?_ (Std_app (k := [Fe.sub ns ts t.fl[i]]))
        congr 1
        refine lit1 ?_
        rw [encFd_eq, Fe.sub_eq]; rfl
      cbv
      repeat' (first | apply And.intro | exact fun (_ : False → False) => by kernel_rfl | (intro h2; cbv) | apply Or.inl)
      any_goals exact hb2
      any_goals exact hin
      refine ⟨(i+1, _), ⟨?_, q1⟩, ?_, [0, 1, 2, 3, 4], rfl, ?_⟩
      · simp only; omega
      · simp only; omega
      (cbv; repeat' apply And.intro); all_goals (try (first | trivial | rfl | (rw [X.a]; rfl)))
    have h5 : i = n_c4 := by obtain rfl := X.a; simp only [hlen_c4, SD, bNot] at h1; omega
    subst h5
    rw [hn_c4, List.take_length] at hr2
    cbv
    refine h _ _ _ _ _ ?_
    rw [sub_node hno]
    exact ⟨t0, t1, t2, hr, hr2⟩

end Go.VC.T07
end

section
/- The reference's ends of names, types, bounds. -/
set_option linter.unusedSimpArgs false
set_option linter.unusedVariables false
namespace Go.VC
def resolveR (env : List IF) (m n : S) : S × S × Int := match endO env m n with | .nf => ([], [], 6) | .loop => ([], [], 14) | .typ m' n' _ => (m', n', 0) | .val m' n' _ => (m', n', 0)
theorem lookI_spec {i : IF} {n : S} : (∀ x, lookI i n = .typ x → i.types.find? (fun y => y.name == n) = some x) ∧ (∀ x, lookI i n = .val x → i.types.find? (fun y => y.name == n) = none ∧ i.values.find? (fun y => y.name == n) = some x) := by
  unfold lookI
  cases h1 : i.types.find? (fun y => y.name == n) with
  | some y => exact ⟨fun x e => by cases e; rfl, fun x e => by cases e⟩
  | none =>
    cases h2 : i.values.find? (fun y => y.name == n) with
    | some y => exact ⟨fun x e => (by cases e), fun x e => by cases e; exact ⟨rfl, rfl⟩⟩
    | none =>
      simp only
      cases i.aliases.find? (fun y => y.name == n) with
      | some y => exact ⟨fun x e => (by cases e), fun x e => (by cases e)⟩
      | none => exact ⟨fun x e => (by cases e), fun x e => (by cases e)⟩
theorem endI_spec {env : List IF} : ∀ (k : Nat) (m n : S), (∀ m' n' x, endI env k m n = .typ m' n' x → ∃ i, findI env m' = some i ∧ i.types.find? (fun y => y.name == n') = some x) ∧ (∀ m' n' x, endI env k m n = .val m' n' x → ∃ i, findI env m' = some i ∧ i.types.find? (fun y => y.name == n') = none ∧ i.values.find? (fun y => y.name == n') = some x)
  | 0, m, n => by simp [endI]
  | k+1, m, n => by
    have hk := fun m n => endI_spec (env := env) k m n
    simp only [endI]
    unfold look'
    cases hf : findI env m with
    | none => simp
    | some i =>
      have hs := lookI_spec (i := i) (n := n)
      simp only
      cases hl : lookI i n with
      | none => simp
      | noali => simp
      | typ x => refine ⟨fun m' n' y e => ?_, fun _ _ _ e => (by cases e)⟩; cases e; exact ⟨i, hf, hs.1 _ hl⟩
      | val x => refine ⟨fun _ _ _ e => (by cases e), fun m' n' y e => ?_⟩; cases e; exact ⟨i, hf, hs.2 _ hl⟩
      | ali x => exact hk _ _
end Go.VC
namespace Go.VC.T07
open Go Go.VC Go.Proofs

set_option maxRecDepth 100000 in
set_option maxHeartbeats 2000000 in
theorem F99 {env : List IF} {d : D} {m n : S} {K : PV → List Ob → Prop} (hd : d = encL encIF env) (hl : envOk env)
    (h : ∀ r0 r1 r2, (r0, r1, r2) = resolveR env m n → K (.tup [.str r0, .str r1, .int .i64 r2]) []) :
    FC Tryz.prog tt 99 [] [.lst 31 d, .str m, .str n] K := by
  unfold resolveR at h
  refine FC.enter (G := g99) tt_ok mixed ⟨Tryz.func99, by rfl, rfl⟩ rfl rfl rfl ?_
  intro A C L X
  cbv
  refine X.loop (fun (y : Nat × S × S) => ⟨[(9, .int .i64 y.1), (0, .lst 31 d), (1, .str y.2.1), (2, .str y.2.2)], []⟩)
    (fun y => y.1 ≤ 65 ∧ endI env (65 - y.1) y.2.1 y.2.2 = endO env m n) (fun y => 65 - y.1) (0, m, n) ⟨Nat.zero_le _, rfl⟩ ?_ ?_
  · (cbv; repeat' apply And.intro); all_goals (try (first | trivial | rfl | (rw [X.a]; rfl)))
  rintro ⟨i, m', n'⟩ ⟨hi, he⟩
  simp only at hi he
  cbv
  refine ⟨fun h1 => ?_, fun h1 => ?_⟩
  · have h5 : i < 65 := by obtain rfl := X.a; simp only [SD, bNot] at h1; omega
    obtain ⟨k, hk⟩ : ∃ k, 65 - i = k + 1 := ⟨64 - i, by omega⟩
    have hk' : 65 - (i+1) = k := by omega
    rw [hk] at he
    simp only [endI] at he
    have hin : A.inr .i64 (A.add (Int.ofNat i) 1) := by rw [X.a]; exact leaf_inc h5 (by omega)
    cbv
    refine X.call (F13 hd hl.1 rfl fun e0 e1 e2 e3 e4 b hx hb => ?_)
    cases hf : findI env m' with
    | none =>
      rw [hf] at hb
      obtain rfl : b = false := hb
      rw [show look' env m' n' = .none by rw [look', hf]] at he
      rw [← he] at h
      have q := h _ _ _ rfl
      cbv
      repeat' (first | apply And.intro | exact fun (_ : False → False) => by kernel_rfl | (intro h2; cbv) | apply Or.inl)
      · exact q
      · obtain rfl := X.a; cases h2
    | some x =>
      rw [hf] at hb hx
      simp only [Option.getD_some] at hx
      obtain rfl : b = true := hb
      have hok := findI_ok hl hf
      have hL : look' env m' n' = lookI x n' := by rw [look', hf]
      rw [hL] at he
      cbv
      repeat' (first | apply And.intro | exact fun (_ : False → False) => by kernel_rfl | (intro h2; cbv) | apply Or.inl)
      · obtain rfl := X.a; cases h2
      clear h2
      refine X.call (F38 hx hok.nt rfl fun c0 c1 c2 c3 c4 c5 c6 c7 c8 c9 c10 c11 b1 hc hb1 => ?_)
      cbv
      refine X.call (F39 hx hok.nv rfl fun u0 u1 u2 u3 u4 u5 u6 b2 hu hb2 => ?_)
      cbv
      refine X.call (F40 hx hok.na rfl fun a0 a1 a2 b3 ha hb3 => ?_)
      cases hft : x.types.find? (fun y => y.name == n') with
      | some y =>
        rw [hft] at hb1
        obtain rfl : b1 = true := hb1
        rw [lookI, hft] at he
        rw [← he] at h
        have q := h _ _ _ rfl
        cbv
        repeat' (first | apply And.intro | exact fun (_ : False → False) => by kernel_rfl | (intro h2; cbv) | apply Or.inl)
        all_goals first
          | exact q
          | (exfalso; obtain rfl := X.a; simp [Std_eq, Std_not, bNot] at *; done)
      | none =>
        rw [hft] at hb1
        obtain rfl : b1 = false := hb1
        cases hfv : x.values.find? (fun y => y.name == n') with
        | some y =>
          rw [hfv] at hb2
          obtain rfl : b2 = true := hb2
          rw [lookI, hft] at he
          simp only [hfv] at he
          rw [← he] at h
          have q := h _ _ _ rfl
          cbv
          repeat' (first | apply And.intro | exact fun (_ : False → False) => by kernel_rfl | (intro h2; cbv) | apply Or.inl)
          all_goals first
            | exact q
            | (exfalso; obtain rfl := X.a; simp [Std_eq, Std_not, bNot] at *; done)
        | none =>
          rw [hfv] at hb2
          obtain rfl : b2 = false := hb2
          cases hfa : x.aliases.find? (fun y => y.name == n') with
          | none =>
            rw [hfa] at hb3
            obtain rfl : b3 = false := hb3
            rw [lookI, hft] at he
            simp only [hfv, hfa] at he
            rw [← he] at h
            have q := h _ _ _ rfl
            cbv
            repeat' (first | apply And.intro | exact fun (_ : False → False) => by kernel_rfl | (intro h2; cbv) | apply Or.inl)
            all_goals first
              | exact q
              | (exfalso; obtain rfl := X.a; simp [Std_eq, Std_not, bNot] at *; done)
          | some y =>
            rw [hfa] at hb3 ha
            obtain rfl : b3 = true := hb3
            rw [lookI, hft] at he
            simp only [hfv, hfa] at he
            simp only [Option.getD_some] at ha
            obtain ⟨ha0, ha1, ha2⟩ := ha
            cbv
            repeat' (first | apply And.intro | exact fun (_ : False → False) => by kernel_rfl | (intro h2; cbv) | apply Or.inl)
            all_goals first
              | exact hin
              | (exfalso; obtain rfl := X.a; simp [Std_eq, Std_not, bNot] at *; done)
              | (refine ⟨(i+1, y.module, y.target), ⟨?_, ?_⟩, ?_, ?_⟩)
            · simp only; omega
            · simp only [hk']; exact he
            · simp only; omega
            · rw [← ha1, ← ha2]
              (cbv; repeat' apply And.intro); all_goals (try (first | trivial | rfl | (rw [X.a]; rfl)))
  · have h5 : i = 65 := by obtain rfl := X.a; simp only [SD, bNot] at h1; omega
    subst h5
    rw [← he] at h
    have q := h _ _ _ rfl
    cbv
    exact q

set_option maxRecDepth 100000 in
set_option maxHeartbeats 1000000 in
theorem F59 {env : List IF} {d : D} {m n : S} {K : PV → List Ob → Prop} (hd : d = encL encIF env) (hl : envOk env)
    (h : ∀ e0 e1 e2 e3 e4 e5 e6 e7 e8 e9 e10 e11 r1 r2, teIs (typeR env m n).1 e0 e1 e2 e3 e4 e5 e6 e7 e8 e9 e10 e11 → r1 = (typeR env m n).2.1 → r2 = (typeR env m n).2.2 → K (.tup [tePV e0 e1 e2 e3 e4 e5 e6 e7 e8 e9 e10 e11, .str r1, .int .i64 r2]) []) :
    FC Tryz.prog tt 59 [] [.lst 31 d, .str m, .str n] K := by
  have hsp := endI_spec (env := env) 65 m n
  refine FC.enter (G := g59) tt_ok mixed ⟨Tryz.func59, by rfl, rfl⟩ rfl rfl rfl ?_
  intro A C L X
  cbv
  refine X.call (F99 hd hl fun r0 r1 r2 hr => ?_)
  unfold resolveR at hr
  have bad : ∀ (e : Int), e ≠ 0 → typeR env m n = (TE.zero, [], e) → (r0, r1, r2) = (([], [], e) : S × S × Int) → A.eq r2 0 = false ∧ K (.tup [tePV [] (.list []) 0 [] [] (.list []) (.list []) 0 [] [] (.list []) (.list []), .str [], .int .i64 r2]) [] := by
    intro e h0 hT he
    simp only [Prod.mk.injEq] at he
    obtain ⟨rfl, rfl, rfl⟩ := he
    rw [hT] at h
    refine ⟨?_, h _ _ _ _ _ _ _ _ _ _ _ _ _ _ ⟨rfl, rfl, ⟨rfl, rfl, rfl, rfl, rfl⟩, rfl, rfl, rfl, rfl, rfl⟩ rfl rfl⟩
    rw [X.a, Std_eq]; simpa using h0
  cases he : endO env m n with
  | nf =>
    rw [he] at hr
    obtain ⟨g1, g2⟩ := bad 6 (by simp) (by unfold typeR; rw [show endI env 65 m n = endO env m n from rfl, he]) hr
    cbv
    repeat' (first | apply And.intro | exact fun (_ : False → False) => by kernel_rfl | (intro h2; cbv) | apply Or.inl)
    all_goals first
      | exact g2
      | (exfalso; rw [g1] at h2; obtain rfl := X.a; simp [Std_eq, Std_not, bNot] at *; done)
  | loop =>
    rw [he] at hr
    obtain ⟨g1, g2⟩ := bad 14 (by simp) (by unfold typeR; rw [show endI env 65 m n = endO env m n from rfl, he]) hr
    cbv
    repeat' (first | apply And.intro | exact fun (_ : False → False) => by kernel_rfl | (intro h2; cbv) | apply Or.inl)
    all_goals first
      | exact g2
      | (exfalso; rw [g1] at h2; obtain rfl := X.a; simp [Std_eq, Std_not, bNot] at *; done)
  | typ m' n' x =>
    rw [he] at hr
    simp only [Prod.mk.injEq] at hr
    obtain ⟨hr0, hr1, hr2⟩ := hr
    obtain ⟨i, hi, hx⟩ := hsp.1 m' n' x he
    have hT : typeR env m n = (x, m', 0) := by unfold typeR; rw [show endI env 65 m n = endO env m n from rfl, he]
    rw [hT, ← hr0] at h
    clear bad
    cbv
    repeat' (first | apply And.intro | exact fun (_ : False → False) => by kernel_rfl | (intro h2; cbv) | apply Or.inl)
    · exfalso; obtain rfl := X.a; simp only [SD, bNot] at h2; omega
    refine X.call (F13 hd hl.1 hr0 fun e0 e1 e2 e3 e4 b hx1 hb => ?_)
    rw [hi] at hx1 hb
    simp only [Option.getD_some] at hx1
    cbv
    refine X.call (F38 hx1 (findI_ok hl hi).nt hr1 fun c0 c1 c2 c3 c4 c5 c6 c7 c8 c9 c10 c11 b1 hc hb1 => ?_)
    rw [hx] at hc hb1
    simp only [Option.getD_some] at hc
    obtain rfl : b1 = true := hb1
    clear hb
    cbv
    repeat' (first | apply And.intro | exact fun (_ : False → False) => by kernel_rfl | (intro h2; cbv) | apply Or.inl)
    · exfalso; obtain rfl := X.a; simp [Std_not] at *
    exact h _ _ _ _ _ _ _ _ _ _ _ _ _ _ hc rfl rfl
  | val m' n' x =>
    rw [he] at hr
    simp only [Prod.mk.injEq] at hr
    obtain ⟨hr0, hr1, hr2⟩ := hr
    obtain ⟨i, hi, hx, hv⟩ := hsp.2 m' n' x he
    have hT : typeR env m n = (TE.zero, [], 6) := by unfold typeR; rw [show endI env 65 m n = endO env m n from rfl, he]
    rw [hT] at h
    clear bad
    cbv
    repeat' (first | apply And.intro | exact fun (_ : False → False) => by kernel_rfl | (intro h2; cbv) | apply Or.inl)
    · exfalso; obtain rfl := X.a; simp only [SD, bNot] at h2; omega
    refine X.call (F13 hd hl.1 hr0 fun e0 e1 e2 e3 e4 b hx1 hb => ?_)
    rw [hi] at hx1 hb
    simp only [Option.getD_some] at hx1
    cbv
    refine X.call (F38 hx1 (findI_ok hl hi).nt hr1 fun c0 c1 c2 c3 c4 c5 c6 c7 c8 c9 c10 c11 b1 hc hb1 => ?_)
    rw [hx] at hc hb1
    obtain rfl : b1 = false := hb1
    clear hb
    cbv
    repeat' (first | apply And.intro | exact fun (_ : False → False) => by kernel_rfl | (intro h2; cbv) | apply Or.inl)
    · exact h _ _ _ _ _ _ _ _ _ _ _ _ _ _ ⟨rfl, rfl, ⟨rfl, rfl, rfl, rfl, rfl⟩, rfl, rfl, rfl, rfl, rfl⟩ rfl rfl
    · exfalso; obtain rfl := X.a; simp [Std_not] at *

set_option maxRecDepth 100000 in
set_option maxHeartbeats 2000000 in
theorem F24 {env : List IF} {t : Ty} {d : D} {c0 : Int} {c1 c2 : S} {c3 c4 : D} {K : PV → List Ob → Prop} (hd : d = encL encIF env) (hl : envOk env) (hle : Ty.le 4294967295 t) (ht : tyIs t c0 c1 c2 c3 c4)
    (h : ∀ e0 e1 e2 e3 e4 g0 g1 g2 g3 g4 r, tyIs (boundsR env t).1 e0 e1 e2 e3 e4 → tyIs (boundsR env t).2.1 g0 g1 g2 g3 g4 → r = (boundsR env t).2.2 → K (.tup [tyPV e0 e1 e2 e3 e4, tyPV g0 g1 g2 g3 g4, .int .i64 r]) []) :
    FC Tryz.prog tt 24 [] [.lst 31 d, tyPV c0 c1 c2 c3 c4] K := by
  obtain ⟨t0, t1, t2, hc3, hc4⟩ := ht
  have hla := tyLe_ar hle
  have hx := typeR_ok hl (m := t.m) (n := t.n)
  unfold boundsR at h
  rw [← t0] at h
  rw [← t1, ← t2] at h hx
  obtain ⟨R, hR⟩ : ∃ R, R = typeR env c1 c2 := ⟨_, rfl⟩
  rw [← hR] at h hx
  have hnp := hx.np
  refine FC.enter (G := g24) tt_ok mixed ⟨Tryz.func24, by rfl, rfl⟩ rfl rfl rfl ?_
  intro A C L X
  obtain ⟨n_c3, hn_c3⟩ : ∃ n, n = (t.ar).length := ⟨_, rfl⟩
  have hlen_c3 : Std.len c3 = Int.ofNat n_c3 := by rw [hc3, Std_len, hn_c3]; rfl
  cbv
  repeat' (first | apply And.intro | exact fun (_ : False → False) => by kernel_rfl | (intro h2; cbv) | apply Or.inl)
  · rw [if_pos (by obtain rfl := X.a; simp only [SD, bNot] at h2; exact h2)] at h
    exact h _ _ _ _ _ _ _ _ _ _ _ ⟨rfl, rfl, rfl, rfl, rfl⟩ ⟨rfl, rfl, rfl, rfl, rfl⟩ rfl
  rw [if_neg (by obtain rfl := X.a; simp only [SD, bNot] at h2; simp [h2])] at h
  clear h2
  refine X.call (F59 hd hl fun e0 e1 e2 e3 e4 e5 e6 e7 e8 e9 e10 e11 r1 r2 he hr1 hr2 => ?_)
  rw [← hR] at he hr1 hr2
  rw [← hr2] at h
  obtain ⟨a0, a1, alo, aup⟩ := he
  obtain ⟨n_e1, hn_e1⟩ : ∃ n, n = (R.1.params).length := ⟨_, rfl⟩
  have hlen_e1 : Std.len e1 = Int.ofNat n_e1 := by rw [a1, Std_len, hn_e1]; rfl
  cbv
  repeat' (first | apply And.intro | exact fun (_ : False → False) => by kernel_rfl | (intro h2; cbv) | apply Or.inl)
  · rw [if_pos (by obtain rfl := X.a; simp only [SD, bNot] at h2; omega)] at h
    exact h _ _ _ _ _ _ _ _ _ _ _ ⟨rfl, rfl, rfl, rfl, rfl⟩ ⟨rfl, rfl, rfl, rfl, rfl⟩ rfl
  · rename_i g0
    rw [if_neg (by obtain rfl := X.a; simp only [SD, bNot] at g0; simp [g0]), if_pos (by obtain rfl := X.a; simp only [hlen_c3, hlen_e1, SD, bNot] at h2; omega)] at h
    exact h _ _ _ _ _ _ _ _ _ _ _ ⟨rfl, rfl, rfl, rfl, rfl⟩ ⟨rfl, rfl, rfl, rfl, rfl⟩ rfl
  rename_i g0
  have hlen : t.ar.length = R.1.params.length := by obtain rfl := X.a; simp only [hlen_c3, hlen_e1, SD, bNot] at h2; omega
  rw [if_neg (by obtain rfl := X.a; simp only [SD, bNot] at g0; simp [g0]), if_neg (by simp [hlen])] at h
  clear g0 h2
  refine X.call (F60 a1 hnp fun r hr => ?_)
  cbv
  repeat' (first | apply And.intro | exact fun (_ : False → False) => by kernel_rfl | (intro h2; cbv) | apply Or.inl)
  refine X.call (F34 hr hc3 (by simpa using hnp) hla _ hx.lo alo fun g0 g1 g2 g3 g4 hg => ?_)
  cbv
  repeat' (first | apply And.intro | exact fun (_ : False → False) => by kernel_rfl | (intro h2; cbv) | apply Or.inl)
  refine X.call (F34 hr hc3 (by simpa using hnp) hla _ hx.up aup fun k0 k1 k2 k3 k4 hk => ?_)
  cbv
  repeat' (first | apply And.intro | exact fun (_ : False → False) => by kernel_rfl | (intro h2; cbv) | apply Or.inl)
  exact h _ _ _ _ _ _ _ _ _ _ _ hg hk rfl
end Go.VC.T07
end

section
/- The chapter's example. -/
set_option linter.unusedSimpArgs false
set_option linter.unusedVariables false
namespace Go.VC
def sA : S := [97, 47, 118, 49]
def sB : S := [98, 47, 118, 49]
def sN : S := [78]
def sT : S := [84]
def s0 : S := [35, 48]
def awA : IF := ⟨sA, [⟨sN, [⟨s0, 0, .mk 0 [] [] [] []⟩], .mk 1 [] [] [] [], .mk 9 [] s0 [] []⟩], [], [], []⟩
def awB : IF := ⟨sB, [], [], [⟨sT, sA, sN⟩], []⟩
def awT : Ty := .mk 10 sB sT [.mk 2 [] [] [] []] []
theorem aw1 : addI [] awB = [awB] := by rfl
theorem aw2 : addI [awB] awA = [awA, awB] := by rfl
theorem aw3 : resolveR [awA, awB] sB sT = (sA, sN, 0) := by rfl
theorem aw4 : (boundsR [awA, awB] awT).2.1 = .mk 2 [] [] [] [] ∧ (boundsR [awA, awB] awT).2.2 = 0 := by exact ⟨by rfl, by rfl⟩
theorem aw5 : closureR [awA, awB] sB = ([awA, awB], 0) := by rfl
theorem aw6 : findI [awA, awB] sA = some awA := by rfl
theorem aw7 : sortS (namesL awB) = [sT] := by rfl
theorem aw8 : sortS (mentS awB) = [sA] := by rfl
theorem aw9 : [awA, awB].filter (fun i => i.path != sA) = [awB] := by rfl
theorem awB_ok : awB.ok := ⟨by simp [awB], by simp [awB], by simp [awB], by simp [awB], by simp [awB], by simp [awB]⟩
theorem leZ {k : Int} {m n : S} : Ty.le 4294967295 (.mk k m n [] []) := .mk _ (by simp [Ty.ar]) (by simp [Ty.fl]) (by simp [Ty.ar]) (by simp [Ty.fl])
theorem awA_ok : awA.ok := ⟨by simp [awA], by simp [awA], by simp [awA], by simp [awA], fun y hy => by
  simp [awA] at hy; subst hy; exact ⟨by simp, fun p hp => by simp at hp; subst hp; exact leZ, leZ, leZ⟩, by simp [awA]⟩
theorem awT_le : Ty.le 4294967295 awT := .mk _ (by simp [awT, Ty.ar]) (by simp [awT, Ty.fl]) (fun u hu => by simp [awT, Ty.ar] at hu; subst hu; exact leZ) (by simp [awT, Ty.fl])
theorem awE_ok : envOk [awA, awB] := ⟨by simp, fun x hx => by simp at hx; rcases hx with rfl | rfl; exact awA_ok; exact awB_ok⟩
end Go.VC
namespace Go.VC.T07
open Go Go.VC Go.Proofs
theorem F18c {x : IF} {c0 : S} {c1 c2 c3 c4 : D} {K : PV → List Ob → Prop} (hx : ifIs x c0 c1 c2 c3 c4) (hok : x.ok) (hnl : (namesL x).length < 4294967296)
    (h : ∀ r, r = encL encS (sortS (namesL x)) → K (.lst 9 r) []) : FC Tryz.prog tt 18 [] [ifPV c0 c1 c2 c3 c4] K :=
  F18 hx hok hnl fun l r hr hs hm => h r (by rw [hr, sortS_of hs hm])
theorem F20c {x : IF} {c0 : S} {c1 c2 c3 c4 : D} {K : PV → List Ob → Prop} (hx : ifIs x c0 c1 c2 c3 c4) (hok : x.ok) (hw : x.wt ≤ 4294967295)
    (h : ∀ r, r = encL encS (mentO x) → K (.lst 9 r) []) : FC Tryz.prog tt 20 [] [ifPV c0 c1 c2 c3 c4] K :=
  F20 hx hok hw fun l r hr hs hm => h r (by rw [hr, sortS_of hs hm]; rfl)
set_option maxRecDepth 100000 in
set_option maxHeartbeats 4000000 in
theorem F10 {K : PV → List Ob → Prop} (h : K (.bool true) []) : FC Tryz.prog tt 10 [] [] K := by
  refine FC.enter (G := g10) tt_ok mixed ⟨Tryz.func10, by rfl, rfl⟩ rfl rfl rfl ?_
  intro A C L X
  have hA : ifIs awA sA (A.lit [[.str sN, A.lit [[.str s0, .int 0, .int 0, .str [], .str [], .list [], .list []]], .int 1, .str [], .str [], .list [], .list [], .int 9, .str [], .str s0, .list [], .list []]]) (.list []) (.list []) (.list []) := by rw [X.a]; exact ⟨rfl, rfl, rfl, rfl, rfl⟩
  have hB : ifIs awB sB (.list []) (.list []) (A.lit [[.str sT, .str sA, .str sN]]) (.list []) := by rw [X.a]; exact ⟨rfl, rfl, rfl, rfl, rfl⟩
  have hT : tyIs awT 10 sB sT (A.lit [[.int 2, .str [], .str [], .list [], .list []]]) (.list []) := by rw [X.a]; exact ⟨rfl, rfl, rfl, rfl, rfl⟩
  cbv
  repeat' (first | apply And.intro | exact fun (_ : False → False) => by kernel_rfl | (intro h2; cbv) | apply Or.inl)
  refine X.call (F28 (env := []) rfl ⟨by simp, by simp⟩ (by simp) awB_ok hB fun r hr => ?_)
  rw [aw1] at hr
  cbv
  refine X.call (F28 hr ⟨by simp, by simp [awB_ok]⟩ (by simp) awA_ok hA fun e he => ?_)
  rw [aw2] at he
  cbv
  refine X.call (F37 he awE_ok fun r0 r1 r2 h3 => ?_)
  have h3 : (r0, r1, r2) = resolveR [awA, awB] sB sT := h3
  rw [aw3] at h3
  cases h3
  cbv
  refine X.call (F23 he awE_ok awT_le hT fun e0 e1 e2 e3 e4 g0 g1 g2 g3 g4 rb k1 k2 k3 => ?_)
  rw [aw4.1] at k2
  rw [aw4.2] at k3
  obtain ⟨q0, _⟩ := k2
  have q0 : g0 = 2 := q0
  subst q0 k3
  cbv
  refine X.call (F26 he awE_ok (by decide) fun rc ec hc => ?_)
  have hc : (rc, ec) = closureR [awA, awB] sB := hc
  rw [aw5] at hc
  cases hc
  obtain ⟨ce, hce⟩ : ∃ ce, ce = encL encIF [awA, awB] := ⟨_, rfl⟩
  rw [← hce]
  cbv
  refine X.call (F12 he awE_ok rfl fun x0 x1 x2 x3 x4 bx hx hbx => ?_)
  have hbx : bx = (findI [awA, awB] sA).isSome := hbx
  have hx : ifIs ((findI [awA, awB] sA).getD IF.zero) x0 x1 x2 x3 x4 := hx
  rw [aw6] at hbx hx
  have hx0 : x0 = sA := hx.1
  have hbx : bx = true := hbx
  subst hbx hx0
  have f1 : A.eq (A.len e) 2 = true := by rw [he, X.a]; rfl
  have f2 : A.seq (A.asStr (A.cell e 0 0)) sA = true := by rw [he, X.a]; rfl
  have hid : A.idx 0 (A.len e) := by rw [X.a, he]; exact leaf_idx (by simp)
  have eqs : ∀ z : S, A.seq z z = true := fun z => by rw [X.a]; simp [Std_seq]
  have eqi : ∀ z : Int, A.eq z z = true := fun z => by rw [X.a]; simp [Std_eq]
  have hlT : A.lit [[.str sT]] = encL encS [sT] := by rw [X.a]; rfl
  have hlA : A.lit [[.str sA]] = encL encS [sA] := by rw [X.a]; rfl
  have hne : same [awA, awB] ([] : List IF) = false := same_ne (by simp)
  have hss : ∀ {α : Type} (z : α), same z z = true := fun z => same_self z
  have awl : ∀ p ∈ [awA, awB], p.ok := awE_ok.2
  cbv
  repeat' (first | apply And.intro | exact fun (_ : False → False) => by kernel_rfl | (intro h2; cbv) | apply Or.inl | (refine X.call (F15 hce he (by simp) awl fun b1 hb1 => ?_); cbv) | (refine X.call (F15 (m := []) hce rfl (by simp) awl fun b2 hb2 => ?_); cbv) | (refine X.call (F18c hB awB_ok (by decide) fun rx hrx => ?_); cbv) | (refine X.call (F17 (hrx.trans (by rw [aw7])) hlT (by simp) fun b3 hb3 => ?_); cbv) | (refine X.call (F20c hB awB_ok (by decide) fun ry hry => ?_); cbv) | (refine X.call (F17 (hry.trans (by rw [show mentO awB = [sA] from aw8])) hlA (by simp) fun b4 hb4 => ?_); cbv) | (refine X.call (F30 he awE_ok fun rw0 hrw => ?_); cbv))
  all_goals first
    | exact hid
    | exact absurd (f1.symm.trans h2) (by decide)
    | exact absurd (f2.symm.trans h2) (by decide)
    | exact absurd ((eqs _).symm.trans h2) (by decide)
    | exact absurd ((eqi _).symm.trans h2) (by decide)
    | exact absurd h2 (by decide)
    | exact absurd ((hss _).symm.trans (hb1.symm.trans h2)) (by decide)
    | exact absurd ((hss _).symm.trans (hb3.symm.trans h2)) (by decide)
    | exact absurd ((hss _).symm.trans (hb4.symm.trans h2)) (by decide)
    | (exfalso; have := hb2.trans hne; rw [this, X.a] at h2; exact absurd h2 (by decide))
    | (have q : K (.bool (A.eq (A.len rw0) 1)) [] := by
         have e : A.eq (A.len rw0) 1 = true := by rw [hrw, X.a]; rfl
         rw [e]; exact h
       exact q)
    | trace_state
end Go.VC.T07
end

section
/- EnvironBounds. -/
set_option linter.unusedSimpArgs false
set_option linter.unusedVariables false
namespace Go.VC
theorem sub_le {n : Nat} {ns : List S} {ts : List Ty} (hts : ∀ u ∈ ts, Ty.le n u) : ∀ t : Ty, Ty.le n t → Ty.le n (t.sub ns ts) :=
  Ty.parts fun t iha ihf => by
    intro h
    cases t with
    | mk k m nm ar fl =>
    unfold Ty.sub
    split
    · rename_i hc
      refine hts _ ?_
      have hlt : (idxS ns nm).toNat < ts.length := by omega
      rw [List.getD_eq_getElem?_getD, List.getElem?_eq_getElem hlt]
      exact List.getElem_mem hlt
    · have h1 := tyLe_a h
      have h2 := tyLe_f h
      cases h with
      | mk _ ha hf _ _ =>
      simp only [Ty.ar, Ty.fl] at ha hf h1 h2 iha ihf
      refine .mk _ ?_ ?_ ?_ ?_
      · simp only [Ty.ar, subs_eq, List.length_map]; exact ha
      · simp only [Ty.fl, subf_eq, List.length_map]; exact hf
      · simp only [Ty.ar, subs_eq]
        intro u hu
        obtain ⟨v, hv, rfl⟩ := List.mem_map.1 hu
        exact iha v hv (h1 v hv)
      · simp only [Ty.fl, subf_eq]
        intro u hu
        obtain ⟨v, hv, rfl⟩ := List.mem_map.1 hu
        cases v with
        | mk s t b => exact ihf _ hv (h2 _ hv)
end Go.VC
namespace Go.VC
theorem boundsR_ok {env : List IF} (h : envOk env) {t : Ty} (hle : Ty.le 4294967295 t) : Ty.le 4294967295 (boundsR env t).1 ∧ Ty.le 4294967295 (boundsR env t).2.1 := by
  have hx := typeR_ok h (m := t.m) (n := t.n)
  have hz := zeroT_ok
  unfold boundsR
  split
  · exact ⟨hz, hz⟩
  · split
    · exact ⟨hz, hz⟩
    · split
      · exact ⟨hz, hz⟩
      · exact ⟨sub_le (tyLe_a hle) _ hx.lo, sub_le (tyLe_a hle) _ hx.up⟩
end Go.VC
namespace Go.VC.T07
open Go Go.VC Go.Proofs
theorem F25c {t u : Ty} (hle : Ty.le 4294967295 t) {c0 : Int} {c1 c2 : S} {c3 c4 : D} {d0 : Int} {d1 d2 : S} {d3 d4 : D} {K : PV → List Ob → Prop} (ht : tyIs t c0 c1 c2 c3 c4) (hu : tyIs u d0 d1 d2 d3 d4) (h : ∀ b, b = same t u → K (.bool b) []) :
    FC Tryz.prog tt 25 [] [tyPV c0 c1 c2 c3 c4, tyPV d0 d1 d2 d3 d4] K := F25 t hle ht hu h
set_option maxRecDepth 100000 in
set_option maxHeartbeats 4000000 in
theorem F4 {env : List IF} {d : D} {t : Ty} {c0 : Int} {c1 c2 : S} {c3 c4 : D} {K : PV → List Ob → Prop} (hd : d = encL encIF env) (hl : envOk env) (hw : (env.map IF.wt).sum ≤ 4294967280)
    (ht : tyIs t c0 c1 c2 c3 c4) (hle : Ty.le 4294967295 t) (hs : t.size ≤ 4294967295) (h : K (.bool true) []) : FC Tryz.prog tt 4 [] [.lst 31 d, tyPV c0 c1 c2 c3 c4] K := by
  have hbk := boundsR_ok hl hle
  refine FC.enter (G := g4) tt_ok mixed ⟨Tryz.func4, by rfl, rfl⟩ rfl rfl rfl ?_
  intro A C L X
  cbv
  refine X.call (F10 ?_)
  cbv
  repeat' (first | apply And.intro | exact fun (_ : False → False) => by kernel_rfl | (intro h2; cbv) | apply Or.inl)
  · obtain rfl := X.a; exact absurd h2 (by decide)
  refine X.call (F11 hd hl hw fun r hr => ?_)
  cbv
  repeat' (first | apply And.intro | exact fun (_ : False → False) => by kernel_rfl | (intro h2; cbv) | apply Or.inl | (refine X.call (F22c hle hs ht fun v hv => ?_); cbv))
  · exact h
  rotate_left 1
  · exact h
  refine X.call (F23 hd hl hle ht fun e0 e1 e2 e3 e4 g0 g1 g2 g3 g4 z k1 k2 k3 => ?_)
  cbv
  refine X.call (F24 hd hl hle ht fun e0' e1' e2' e3' e4' g0' g1' g2' g3' g4' z' k1' k2' k3' => ?_)
  have hz : z' = z := k3'.trans k3.symm
  subst hz
  have q : K (.bool (A.eq z' z')) [] := by rw [show A.eq z' z' = true by rw [X.a]; simp [Std_eq]]; exact h
  cbv
  repeat' (first | apply And.intro | exact fun (_ : False → False) => by kernel_rfl | (intro h2; cbv) | apply Or.inl | (refine X.call (F25c hbk.1 k1 k1' fun b1 hb1 => ?_); cbv) | (refine X.call (F25c hbk.2 k2 k2' fun b2 hb2 => ?_); cbv))
  all_goals first
    | exact absurd ((same_self _).symm.trans (hb1.symm.trans h2)) (by decide)
    | exact absurd ((same_self _).symm.trans (hb2.symm.trans h2)) (by decide)
    | exact q
    | trace_state
end Go.VC.T07
end

section
/- What a law's arguments read as. -/
set_option linter.unusedSimpArgs false
set_option linter.unusedVariables false
set_option linter.constructorNameAsVariable false
namespace Go.VC.T07
open Go Go.VC Go.Proofs
open Go.ChangeShapes Go.WideShapes Go.ChangeAt Go.RowKit

namespace Bk
open YtcdafdklkhdjeaaGreat
theorem one_le {H : Type} (d : DataW H) : 1 ≤ Rows.uptoBulk d := by
  cases d with
  | lit l => cases l <;> simp [Rows.uptoBulk]
  | nil => simp [Rows.uptoBulk]
  | ptr d => simp [Rows.uptoBulk]
  | slice elems spare => simp [Rows.uptoBulk]
  | agg parts => simp [Rows.uptoBulk]
  | iface t d => simp [Rows.uptoBulk]
  | map entries => simp [Rows.uptoBulk]
  | held h => simp [Rows.uptoBulk]
theorem part_le {H : Type} {d : DataW H} : ∀ {l : List (DataW H)}, d ∈ l → Rows.uptoBulk d ≤ Rows.uptoBulkAll l
  | x :: r, h => by
    simp only [Rows.uptoBulkAll]
    rcases List.mem_cons.1 h with rfl | h
    · omega
    · have := part_le h; omega
theorem len_le {H : Type} : ∀ (l : List (DataW H)), l.length ≤ Rows.uptoBulkAll l
  | [] => by simp
  | x :: r => by have := one_le x; have := len_le r; simp only [Rows.uptoBulkAll, List.length_cons]; omega
theorem sum_le {H : Type} : ∀ (l : List (DataW H)), (l.map Rows.uptoBulk).sum = Rows.uptoBulkAll l
  | [] => by simp [Rows.uptoBulkAll]
  | x :: r => by simp only [List.map_cons, List.sum_cons, Rows.uptoBulkAll, sum_le r]
theorem ok {H : Type} : BulkOk (H := H) Rows.uptoBulk where
  str s := by simp [Rows.uptoBulk]
  slice es sp := ⟨by have := len_le es; simp only [Rows.uptoBulk]; omega, fun e he => by have := part_le he; simp only [Rows.uptoBulk]; omega⟩
  agg ps e he := by have := part_le he; simp only [Rows.uptoBulk]; omega
  ptr d := by simp only [Rows.uptoBulk]; omega
  one d := one_le d
  sums es sp := by rw [sum_le]; simp only [Rows.uptoBulk]; omega
  suma ps := by rw [sum_le]; simp only [Rows.uptoBulk]; omega
end Bk

theorem own : ownKnob Tryz.prog.godebug = none := by kernel_rfl
theorem laid : laidOutB Tryz.prog = true := by kernel_rfl
abbrev TS : List TypeId := [3, 4, 9, 23, 26, 27, 28, 29, 31, 40, 41, 43, 56, 58, 62, 72, 76, 87, 105]
theorem dat : TS.all (dataB tt TS) = true := by kernel_rfl
theorem tyLe_up {n : Nat} (hn : n ≤ 4294967295) {t : Ty} (h : Ty.le n t) : Ty.le 4294967295 t := by
  induction h with
  | mk t ha hf _ _ i1 i2 => exact .mk _ (by omega) (by omega) i1 i2
theorem sum_ones {α : Type} {l : List α} : (l.map fun _ => 1).sum = l.length := by
  induction l with
  | nil => simp
  | cons x l ih => simp only [List.map_cons, List.sum_cons, List.length_cons]; omega
section
variable {n : Nat} {Pp : Per}
theorem list_dec {e : TypeId} {α : Type} {f : α → List D} {p : α → Prop} {g : α → Nat} {m : Nat} (hrow : ∀ vs row, RowRD tt Pp n (cksOf tt e) vs row → wDs row ≤ m → ∃ x, row = f x ∧ p x ∧ g x ≤ wDs row)
    {v : Value} {d : D} (h : RD tt Pp (.slice e) v d) (hb : Bd n d) (hm : wD d ≤ m + 1) : ∃ l : List α, d = encL f l ∧ l.length ≤ n ∧ (∀ x ∈ l, p x) ∧ (l.map g).sum + 1 ≤ wD d := by
  obtain ⟨rows, rfl, hl, hr⟩ := RD.rows h hb
  simp only [wD] at hm
  obtain ⟨l, rfl, hp⟩ := lift_map (f := f) (p := fun x => p x ∧ g x ≤ wDs (f x)) (rows := rows) (fun r hr' => by
    obtain ⟨vs, hv⟩ := hr r hr'
    obtain ⟨x, e1, e2, e3⟩ := hrow vs r hv (by have := wDr_mem hr'; omega)
    exact ⟨x, e1, e2, by rw [← e1]; exact e3⟩)
  refine ⟨l, rfl, by simpa using hl, fun x hx => (hp x hx).1, ?_⟩
  simp only [wD, wDr_sum, List.map_map]
  have : ∀ l : List α, (∀ x ∈ l, g x ≤ wDs (f x)) → (l.map g).sum ≤ (l.map (wDs ∘ f)).sum := by
    intro l
    induction l with
    | nil => simp
    | cons x l ih =>
      intro h
      have a := h x (by simp)
      have b := ih fun y hy => h y (by simp [hy])
      simp only [List.map_cons, List.sum_cons, Function.comp]; omega
  have := this l fun x hx => (hp x hx).2
  omega
theorem cks43 : cksOf tt 43 = [.int .i64, .str, .str, .slice 43, .slice 105] := by kernel_rfl
theorem cks105 : cksOf tt 105 = [.str, .int .i64, .str, .str, .slice 43, .slice 105, .bool] := by kernel_rfl
theorem decTy : ∀ (m : Nat) {vs : List Value} {row : List D}, wDs row ≤ m → RowRD tt Pp n [.int .i64, .str, .str, .slice 43, .slice 105] vs row → ∃ t : Ty, row = encTy t ∧ Ty.le n t ∧ t.size + 3 ≤ wDs row
  | 0, vs, row, hm, h => by
    cases h with
    | cons _ _ d _ _ _ h1 _ t1 =>
    cases h1
    simp only [wDs, wD] at hm; omega
  | m+1, vs, row, hm, h => by
    have ih := fun {vs row} => decTy m (vs := vs) (row := row)
    cases h with
    | cons _ _ _ _ _ _ h1 _ t1 =>
    cases t1 with
    | cons _ _ _ _ _ _ h2 _ t2 =>
    cases t2 with
    | cons _ _ _ _ _ _ h3 _ t3 =>
    cases t3 with
    | cons _ _ d4 _ _ _ h4 b4 t4 =>
    cases t4 with
    | cons _ _ d5 _ _ _ h5 b5 t5 =>
    cases t5
    cases h1 with
    | int _ z1 =>
    cases h2 with
    | str z2 =>
    cases h3 with
    | str z3 =>
    simp only [wDs, wD] at hm
    obtain ⟨la, rfl, ha1, ha2, ha3⟩ := list_dec (f := encTy) (p := Ty.le n) (g := Ty.size) (m := m) (fun vs row hr hmr => by
      rw [cks43] at hr
      obtain ⟨t, a, b, c⟩ := ih hmr hr
      exact ⟨t, a, b, by omega⟩) h4 b4 (by omega)
    obtain ⟨lf, rfl, hf1, hf2, hf3⟩ := list_dec (f := encFd) (p := fun f => Ty.le n f.t) (g := fun f => f.t.size) (m := m) (fun vs row hr hmr => by
      rw [cks105] at hr
      cases hr with
      | cons _ _ _ _ _ _ g0 _ s0 =>
      cases s0 with
      | cons _ _ _ _ _ _ g1 c1 s1 =>
      cases s1 with
      | cons _ _ _ _ _ _ g2 c2 s2 =>
      cases s2 with
      | cons _ _ _ _ _ _ g3 c3 s3 =>
      cases s3 with
      | cons _ _ _ _ _ _ g4 c4 s4 =>
      cases s4 with
      | cons _ _ _ _ _ _ g5 c5 s5 =>
      cases s5 with
      | cons _ _ _ _ _ _ g6 _ s6 =>
      cases s6
      cases g0 with
      | str sb =>
      cases g6 with
      | bool bb =>
      have hin := RowRD.cons _ _ _ _ _ _ g1 c1 (.cons _ _ _ _ _ _ g2 c2 (.cons _ _ _ _ _ _ g3 c3 (.cons _ _ _ _ _ _ g4 c4 (.cons _ _ _ _ _ _ g5 c5 .nil))))
      simp only [wDs, wD] at hmr
      obtain ⟨t, a, b, c⟩ := ih (by simp only [wDs]; omega) hin
      refine ⟨.mk sb.data.toList t bb, ?_, b, ?_⟩
      · show _ = D.str _ :: (encTy t ++ [D.bool _])
        rw [← a]; rfl
      · simp only [wDs, wD] at c ⊢; show t.size ≤ _; omega) h5 b5 (by omega)
    refine ⟨.mk z1 z2.data.toList z3.data.toList la lf, ?_, ?_, ?_⟩
    · rw [encTy_eq]; rfl
    · exact .mk _ ha1 hf1 ha2 hf2
    · rw [size_eq]
      show 1 + (((la ++ lf.map Fe.t).map Ty.size).sum) + 3 ≤ _
      simp only [wDs, wD] at *
      rw [List.map_append, List.sum_append, List.map_map]
      have : (lf.map (Ty.size ∘ Fe.t)).sum = (lf.map fun f => f.t.size).sum := rfl
      omega
theorem cks62 : cksOf tt 62 = [.str, .int .i64, .int .i64, .str, .str, .slice 43, .slice 105] := by kernel_rfl
theorem cks58 : cksOf tt 58 = [.str, .slice 62, .int .i64, .str, .str, .slice 43, .slice 105, .int .i64, .str, .str, .slice 43, .slice 105] := by kernel_rfl
theorem cks76 : cksOf tt 76 = [.str, .slice 62, .int .i64, .str, .str, .slice 43, .slice 105] := by kernel_rfl
theorem cks72 : cksOf tt 72 = [.str, .str, .str] := by kernel_rfl
theorem cks87 : cksOf tt 87 = [.str, .str] := by kernel_rfl
theorem cks31 : cksOf tt 31 = [.str, .slice 58, .slice 76, .slice 72, .slice 87] := by kernel_rfl
theorem decPm {vs : List Value} {row : List D} (h : RowRD tt Pp n (cksOf tt 62) vs row) : ∃ x : Pm, row = encPm x ∧ Ty.le n x.bound ∧ x.wt ≤ wDs row := by
  rw [cks62] at h
  cases h with
  | cons _ _ d0 _ _ _ g0 c0 s0 =>
  cases s0 with
  | cons _ _ d1 _ _ _ g1 c1 s1 =>
  cases s1 with
  | cons _ _ d2 _ _ _ g2 c2 s2 =>
  cases s2 with
  | cons _ _ d3 _ _ _ g3 c3 s3 =>
  cases s3 with
  | cons _ _ d4 _ _ _ g4 c4 s4 =>
  cases s4 with
  | cons _ _ d5 _ _ _ g5 c5 s5 =>
  cases s5 with
  | cons _ _ d6 _ _ _ g6 c6 s6 =>
  cases s6
  cases g0 with
  | str z0 =>
  cases g1 with
  | int _ z1 =>
  have hin := RowRD.cons _ _ _ _ _ _ g2 c2 (.cons _ _ _ _ _ _ g3 c3 (.cons _ _ _ _ _ _ g4 c4 (.cons _ _ _ _ _ _ g5 c5 (.cons _ _ _ _ _ _ g6 c6 .nil))))
  obtain ⟨t, e, le, sz⟩ := decTy _ (Nat.le_refl _) hin
  refine ⟨⟨z0.data.toList, z1, t⟩, ?_, le, ?_⟩
  · unfold encPm; rw [← e]
  · simp only [wDs, wD, Pm.wt] at sz ⊢; omega
theorem decPms {v : Value} {d : D} (h : RD tt Pp (.slice 62) v d) (hb : Bd n d) : ∃ l : List Pm, d = encL encPm l ∧ l.length ≤ n ∧ (∀ x ∈ l, Ty.le n x.bound) ∧ (l.map Pm.wt).sum + 1 ≤ wD d :=
  list_dec (m := wD d) (fun vs row hr _ => decPm hr) h hb (by omega)
theorem decAE {vs : List Value} {row : List D} (h : RowRD tt Pp n (cksOf tt 72) vs row) : ∃ x : AE, row = encAE x ∧ True ∧ 1 ≤ wDs row := by
  rw [cks72] at h
  cases h with
  | cons _ _ d0 _ _ _ g0 c0 s0 =>
  cases s0 with
  | cons _ _ d1 _ _ _ g1 c1 s1 =>
  cases s1 with
  | cons _ _ d2 _ _ _ g2 c2 s2 =>
  cases s2
  cases g0 with
  | str z0 =>
  cases g1 with
  | str z1 =>
  cases g2 with
  | str z2 =>
  exact ⟨⟨_, _, _⟩, rfl, trivial, by simp only [wDs, wD]; omega⟩
theorem decDE {vs : List Value} {row : List D} (h : RowRD tt Pp n (cksOf tt 87) vs row) : ∃ x : DE, row = encDE x ∧ True ∧ 1 ≤ wDs row := by
  rw [cks87] at h
  cases h with
  | cons _ _ d0 _ _ _ g0 c0 s0 =>
  cases s0 with
  | cons _ _ d1 _ _ _ g1 c1 s1 =>
  cases s1
  cases g0 with
  | str z0 =>
  cases g1 with
  | str z1 =>
  exact ⟨⟨_, _⟩, rfl, trivial, by simp only [wDs, wD]; omega⟩
theorem decTE {vs : List Value} {row : List D} (hn : n ≤ 4294967295) (h : RowRD tt Pp n (cksOf tt 58) vs row) : ∃ x : TE, row = encTE x ∧ (x.ok) ∧ x.wt ≤ wDs row := by
  rw [cks58] at h
  cases h with
  | cons _ _ d0 _ _ _ g0 c0 s0 =>
  cases s0 with
  | cons _ _ d1 _ _ _ g1 c1 s1 =>
  cases s1 with
  | cons _ _ d2 _ _ _ g2 c2 s2 =>
  cases s2 with
  | cons _ _ d3 _ _ _ g3 c3 s3 =>
  cases s3 with
  | cons _ _ d4 _ _ _ g4 c4 s4 =>
  cases s4 with
  | cons _ _ d5 _ _ _ g5 c5 s5 =>
  cases s5 with
  | cons _ _ d6 _ _ _ g6 c6 s6 =>
  cases s6 with
  | cons _ _ d7 _ _ _ g7 c7 s7 =>
  cases s7 with
  | cons _ _ d8 _ _ _ g8 c8 s8 =>
  cases s8 with
  | cons _ _ d9 _ _ _ g9 c9 s9 =>
  cases s9 with
  | cons _ _ d10 _ _ _ g10 c10 s10 =>
  cases s10 with
  | cons _ _ d11 _ _ _ g11 c11 s11 =>
  cases s11
  cases g0 with
  | str z0 =>
  obtain ⟨lp, rfl, hp1, hp2, hp3⟩ := decPms g1 c1
  have hin := RowRD.cons _ _ _ _ _ _ g2 c2 (.cons _ _ _ _ _ _ g3 c3 (.cons _ _ _ _ _ _ g4 c4 (.cons _ _ _ _ _ _ g5 c5 (.cons _ _ _ _ _ _ g6 c6 .nil))))
  obtain ⟨t, e, le, sz⟩ := decTy _ (Nat.le_refl _) hin
  have hin2 := RowRD.cons _ _ _ _ _ _ g7 c7 (.cons _ _ _ _ _ _ g8 c8 (.cons _ _ _ _ _ _ g9 c9 (.cons _ _ _ _ _ _ g10 c10 (.cons _ _ _ _ _ _ g11 c11 .nil))))
  obtain ⟨t2, e2, le2, sz2⟩ := decTy _ (Nat.le_refl _) hin2
  refine ⟨⟨z0.data.toList, lp, t, t2⟩, ?_, ⟨by simp only; omega, fun p hp => tyLe_up hn (hp2 p hp), tyLe_up hn le, tyLe_up hn le2⟩, ?_⟩
  · unfold encTE; rw [← e, ← e2]; rfl
  · simp only [wDs, wD, TE.wt] at sz sz2 hp3 ⊢; omega
theorem decVE {vs : List Value} {row : List D} (hn : n ≤ 4294967295) (h : RowRD tt Pp n (cksOf tt 76) vs row) : ∃ x : VE, row = encVE x ∧ (x.ok) ∧ x.wt ≤ wDs row := by
  rw [cks76] at h
  cases h with
  | cons _ _ d0 _ _ _ g0 c0 s0 =>
  cases s0 with
  | cons _ _ d1 _ _ _ g1 c1 s1 =>
  cases s1 with
  | cons _ _ d2 _ _ _ g2 c2 s2 =>
  cases s2 with
  | cons _ _ d3 _ _ _ g3 c3 s3 =>
  cases s3 with
  | cons _ _ d4 _ _ _ g4 c4 s4 =>
  cases s4 with
  | cons _ _ d5 _ _ _ g5 c5 s5 =>
  cases s5 with
  | cons _ _ d6 _ _ _ g6 c6 s6 =>
  cases s6
  cases g0 with
  | str z0 =>
  obtain ⟨lp, rfl, hp1, hp2, hp3⟩ := decPms g1 c1
  have hin := RowRD.cons _ _ _ _ _ _ g2 c2 (.cons _ _ _ _ _ _ g3 c3 (.cons _ _ _ _ _ _ g4 c4 (.cons _ _ _ _ _ _ g5 c5 (.cons _ _ _ _ _ _ g6 c6 .nil))))
  obtain ⟨t, e, le, sz⟩ := decTy _ (Nat.le_refl _) hin
  refine ⟨⟨z0.data.toList, lp, t⟩, ?_, ⟨by simp only; omega, fun p hp => tyLe_up hn (hp2 p hp), tyLe_up hn le⟩, ?_⟩
  · unfold encVE; rw [← e]
  · simp only [wDs, wD, VE.wt] at sz hp3 ⊢; omega
theorem decIF {vs : List Value} {row : List D} (hn : n ≤ 4294967295) (h : RowRD tt Pp n (cksOf tt 31) vs row) : ∃ x : IF, row = encIF x ∧ x.ok ∧ x.wt ≤ wDs row := by
  rw [cks31] at h
  cases h with
  | cons _ _ d0 _ _ _ g0 c0 s0 =>
  cases s0 with
  | cons _ _ d1 _ _ _ g1 c1 s1 =>
  cases s1 with
  | cons _ _ d2 _ _ _ g2 c2 s2 =>
  cases s2 with
  | cons _ _ d3 _ _ _ g3 c3 s3 =>
  cases s3 with
  | cons _ _ d4 _ _ _ g4 c4 s4 =>
  cases s4
  cases g0 with
  | str z0 =>
  obtain ⟨l1, rfl, a1, a2, a3⟩ := list_dec (m := wD d1) (f := encTE) (fun vs row hr _ => decTE hn hr) g1 c1 (by omega)
  obtain ⟨l2, rfl, b1, b2, b3⟩ := list_dec (m := wD d2) (f := encVE) (fun vs row hr _ => decVE hn hr) g2 c2 (by omega)
  obtain ⟨l3, rfl, y1, y2, y3⟩ := list_dec (m := wD d3) (f := encAE) (g := fun _ => 1) (fun vs row hr _ => decAE hr) g3 c3 (by omega)
  obtain ⟨l4, rfl, w1, w2, w3⟩ := list_dec (m := wD d4) (f := encDE) (g := fun _ => 1) (fun vs row hr _ => decDE hr) g4 c4 (by omega)
  refine ⟨⟨z0.data.toList, l1, l2, l3, l4⟩, rfl, ⟨by simp only; omega, by simp only; omega, by simp only; omega, by simp only; omega, a2, b2⟩, ?_⟩
  rw [sum_ones] at y3 w3
  simp only [wDs, wD, IF.wt] at a3 b3 y3 w3 ⊢; omega
theorem decEnv {v : Value} {d : D} (hn : n ≤ 4294967295) (h : RD tt Pp (.slice 31) v d) (hb : Bd n d) : ∃ l : List IF, d = encL encIF l ∧ envOk l ∧ (l.map IF.wt).sum + 1 ≤ wD d := by
  obtain ⟨l, e, a, b, c⟩ := list_dec (m := wD d) (f := encIF) (fun vs row hr _ => decIF hn hr) h hb (by omega)
  exact ⟨l, e, ⟨by omega, b⟩, c⟩
end
theorem vr_int {Pp : Per} {k : IntKind} {v : Value} {z : Int} (h : RD tt Pp (.int k) v (.int z)) : VR tt [] Pp v (.int k z) := by cases h; exact .int _ _
theorem vr_str {Pp : Per} {v : Value} {z : S} (h : RD tt Pp .str v (.str z)) : VR tt [] Pp v (.str z) := by cases h; exact .str _
section
variable {H : Type} {enc : TypeId × Value → H} {W : World} {n base : Nat} {v : Value} {d : DataW H} {p : List MemPlace}
set_option maxRecDepth 100000 in
/-- a string among the arguments -/
theorem argS (hv : Value.okWide Tryz.prog W .any base 9 v) (h : DataW.Trod enc Tryz.prog W 0 (fun _ => true) true 9 v d p) :
    ∃ s : List UInt8, VR tt [] (AllP W) v (.str s) := by
  obtain ⟨s, rfl, rfl, rfl, _⟩ := ChangeMaps.open_string Tryz.underlying9 hv h
  exact ⟨_, .str _⟩
set_option maxRecDepth 100000 in
theorem one_row {t : TypeId} {ck : CK} (ht : TS.contains t = true) (hck : cksOf tt t = [ck]) {a : Option Addr} {l c : Nat} (h : DataW.Trod enc Tryz.prog W 0 (fun _ => true) true t (.slice a l c) d p) :
    ∃ e, RD tt (AllP W) ck (.slice a l c) e ∧ Bd (YtcdafdklkhdjeaaGreat.Rows.uptoBulk d) e ∧ wD e ≤ YtcdafdklkhdjeaaGreat.Rows.uptoBulk d := by
  obtain ⟨fuel, hf⟩ := h
  obtain ⟨ds, hds, hw⟩ := trod_row (n := YtcdafdklkhdjeaaGreat.Rows.uptoBulk d) tt_ok dat (bulk := YtcdafdklkhdjeaaGreat.Rows.uptoBulk) Bk.ok fuel t _ _ ht hf (Nat.le_refl _)
  rw [hck] at hds
  cases hds with
  | cons _ _ e _ _ _ h1 h2 t1 =>
    cases t1
    simp only [wDs] at hw
    exact ⟨e, h1, h2, by omega⟩
set_option maxRecDepth 100000 in
/-- an environment -/
theorem argE {t : TypeId} (ht : t = 23) (hv : Value.okWide Tryz.prog W .any base t v) (h : DataW.Trod enc Tryz.prog W 0 (fun _ => true) true t v d p) (hb : YtcdafdklkhdjeaaGreat.Rows.uptoBulk d ≤ 4294967295) :
    ∃ (e : D) (l : List IF), VR tt [] (AllP W) v (.lst 31 e) ∧ e = encL encIF l ∧ envOk l ∧ (l.map IF.wt).sum ≤ YtcdafdklkhdjeaaGreat.Rows.uptoBulk d := by
  subst ht
  obtain ⟨a, len, cap, rfl⟩ := okWide_slice Tryz.underlying23 hv
  obtain ⟨e, h1, h2, h3⟩ := one_row (by decide) (by kernel_rfl) h
  obtain ⟨l, he, hl, hw⟩ := decEnv hb h1 h2
  exact ⟨e, l, .lst _ _ _ h1, he, hl, by omega⟩
set_option maxRecDepth 100000 in
/-- types -/
theorem argTs {t : TypeId} (ht : t = 40) (hv : Value.okWide Tryz.prog W .any base t v) (h : DataW.Trod enc Tryz.prog W 0 (fun _ => true) true t v d p) (hb : YtcdafdklkhdjeaaGreat.Rows.uptoBulk d ≤ 4294967295) :
    ∃ (e : D) (l : List Ty), VR tt [] (AllP W) v (.lst 43 e) ∧ e = encL encTy l ∧ l.length ≤ 4294967295 ∧ (∀ u ∈ l, Ty.le 4294967295 u) ∧ (l.map Ty.size).sum ≤ YtcdafdklkhdjeaaGreat.Rows.uptoBulk d := by
  subst ht
  obtain ⟨a, len, cap, rfl⟩ := okWide_slice Tryz.underlying40 hv
  obtain ⟨e, h1, h2, h3⟩ := one_row (by decide) (by kernel_rfl) h
  obtain ⟨l, he, hl, hp, hw⟩ := list_dec (m := wD e) (f := encTy) (p := Ty.le (YtcdafdklkhdjeaaGreat.Rows.uptoBulk d)) (g := Ty.size) (fun vs row hr _ => by
    rw [cks43] at hr
    obtain ⟨t, a, b, c⟩ := decTy _ (Nat.le_refl _) hr
    exact ⟨t, a, b, by omega⟩) h1 h2 (by omega)
  exact ⟨e, l, .lst _ _ _ h1, he, by omega, fun u hu => tyLe_up hb (hp u hu), by omega⟩
set_option maxRecDepth 100000 in
/-- a type -/
theorem argT (hv : Value.okWide Tryz.prog W .any base 43 v) (h : DataW.Trod enc Tryz.prog W 0 (fun _ => true) true 43 v d p) (hb : YtcdafdklkhdjeaaGreat.Rows.uptoBulk d ≤ 4294967295) :
    ∃ (t : Ty) (c0 : Int) (c1 c2 : S) (c3 c4 : D), VR tt [] (AllP W) v (tyPV c0 c1 c2 c3 c4) ∧ tyIs t c0 c1 c2 c3 c4 ∧ Ty.le 4294967295 t ∧ t.size ≤ YtcdafdklkhdjeaaGreat.Rows.uptoBulk d := by
  obtain ⟨cs, rfl, _⟩ := okWide_struct Tryz.underlying43 hv
  obtain ⟨fuel, hf⟩ := h
  obtain ⟨ds, hds, hw⟩ := trod_row (n := YtcdafdklkhdjeaaGreat.Rows.uptoBulk d) tt_ok dat (bulk := YtcdafdklkhdjeaaGreat.Rows.uptoBulk) Bk.ok fuel 43 _ _ (by decide) hf (Nat.le_refl _)
  rw [cks43] at hds
  generalize hx : (Value.agg cs).cells.toList = vs at hds
  have hcs : cs = ⟨vs⟩ := by rw [← hx]; rfl
  subst hcs
  clear hx hf
  obtain ⟨t, e, le, sz⟩ := decTy _ (Nat.le_refl _) hds
  subst e
  rw [encTy_eq] at hds
  cases hds with
  | cons _ _ _ _ _ _ g0 _ s0 =>
  cases s0 with
  | cons _ _ _ _ _ _ g1 _ s1 =>
  cases s1 with
  | cons _ _ _ _ _ _ g2 _ s2 =>
  cases s2 with
  | cons _ _ _ _ _ _ g3 _ s3 =>
  cases s3 with
  | cons _ _ _ _ _ _ g4 _ s4 =>
  cases s4
  refine ⟨t, t.k, t.m, t.n, _, _, .agg _ _ (.cons _ _ _ _ (vr_int g0) (.cons _ _ _ _ (vr_str g1) (.cons _ _ _ _ (vr_str g2) (.cons _ _ _ _ (.lst _ _ _ g3) (.cons _ _ _ _ (.lst _ _ _ g4) .nil))))), ⟨rfl, rfl, rfl, rfl, rfl⟩, tyLe_up hb le, by simp only at hw; omega⟩
set_option maxRecDepth 100000 in
/-- an interface -/
theorem argI (hv : Value.okWide Tryz.prog W .any base 31 v) (h : DataW.Trod enc Tryz.prog W 0 (fun _ => true) true 31 v d p) (hb : YtcdafdklkhdjeaaGreat.Rows.uptoBulk d ≤ 4294967295) :
    ∃ (x : IF) (c0 : S) (c1 c2 c3 c4 : D), VR tt [] (AllP W) v (ifPV c0 c1 c2 c3 c4) ∧ ifIs x c0 c1 c2 c3 c4 ∧ x.ok ∧ x.wt ≤ YtcdafdklkhdjeaaGreat.Rows.uptoBulk d := by
  obtain ⟨cs, rfl, _⟩ := okWide_struct Tryz.underlying31 hv
  obtain ⟨fuel, hf⟩ := h
  obtain ⟨ds, hds, hw⟩ := trod_row (n := YtcdafdklkhdjeaaGreat.Rows.uptoBulk d) tt_ok dat (bulk := YtcdafdklkhdjeaaGreat.Rows.uptoBulk) Bk.ok fuel 31 _ _ (by decide) hf (Nat.le_refl _)
  generalize hx : (Value.agg cs).cells.toList = vs at hds
  have hcs : cs = ⟨vs⟩ := by rw [← hx]; rfl
  subst hcs
  clear hx hf
  obtain ⟨x, e, ok, wt⟩ := decIF hb hds
  subst e
  rw [cks31] at hds
  cases hds with
  | cons _ _ _ _ _ _ g0 _ s0 =>
  cases s0 with
  | cons _ _ _ _ _ _ g1 _ s1 =>
  cases s1 with
  | cons _ _ _ _ _ _ g2 _ s2 =>
  cases s2 with
  | cons _ _ _ _ _ _ g3 _ s3 =>
  cases s3 with
  | cons _ _ _ _ _ _ g4 _ s4 =>
  cases s4
  refine ⟨x, x.path, _, _, _, _, .agg _ _ (.cons _ _ _ _ (vr_str g0) (.cons _ _ _ _ (.lst _ _ _ g1) (.cons _ _ _ _ (.lst _ _ _ g2) (.cons _ _ _ _ (.lst _ _ _ g3) (.cons _ _ _ _ (.lst _ _ _ g4) .nil))))), ⟨rfl, rfl, rfl, rfl, rfl⟩, ok, by simp only at hw; omega⟩
end
end Go.VC.T07
end
