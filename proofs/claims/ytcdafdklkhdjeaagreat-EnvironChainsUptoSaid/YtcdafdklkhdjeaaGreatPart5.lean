/- Part 5 of the common texts: W1 W2 W3 W4 V8 V9 W5 W6 W7 W8 I2 I1 I3 A1 V10 U7 A2 A3 N7 N2 R3 N8. -/
import Derived.Shelf.RegionOpenPlain
import Derived.WalkKit
import Derived.Lib.Walk
import Derived.Lib.SliceRun
import Derived.Lib.JoinLaws
import Derived.Lib.AppendZeros
import Derived.Lib.AppendZerosOnto
import Derived.Lib.Overlaps
import Derived.Laws.Externs
import Derived.Laws.IdiomCopy
import Derived.Laws.NewBlocks
import Derived.Test.YtcdafdklkhdjeaaGreatPart1
import Derived.Test.YtcdafdklkhdjeaaGreatPart2
import Derived.Test.YtcdafdklkhdjeaaGreatPart3
import Derived.Test.YtcdafdklkhdjeaaGreatPart4
set_option linter.all false

section
/- The library's comparisons of lists. -/
set_option linter.unusedSimpArgs false
set_option linter.unusedVariables false
namespace Go.VC
abbrev fePV (c0 : S) (c1 : Int) (c2 c3 : S) (c4 c5 : D) (c6 : Bool) : PV := .agg [.str c0, .int .i64 c1, .str c2, .str c3, .lst 43 c4, .lst 105 c5, .bool c6]
def feIs (x : Fe) (c0 : S) (c1 : Int) (c2 c3 : S) (c4 c5 : D) (c6 : Bool) : Prop := c0 = x.s ∧ tyIs x.t c1 c2 c3 c4 c5 ∧ c6 = x.b
theorem feIsAt {A : Alg} {d : D} {i : Nat} {l : List Fe} (ha : A = Std) (hd : d = encL encFd l) (h : i < l.length) : feIs l[i] (A.asStr (A.cell d (Int.ofNat i) 0)) (A.asInt (A.cell d (Int.ofNat i) 1)) (A.asStr (A.cell d (Int.ofNat i) 2)) (A.asStr (A.cell d (Int.ofNat i) 3)) (A.cell d (Int.ofNat i) 4) (A.cell d (Int.ofNat i) 5) (A.asBool (A.cell d (Int.ofNat i) 6)) :=
  ⟨(fdAt ha hd h).1, fdTyAt ha hd h, (fdAt ha hd h).2⟩
theorem AE.ext1 {a b : AE} (h1 : a.name = b.name) (h2 : a.module = b.module) (h3 : a.target = b.target) : a = b := by cases a; cases b; simp_all
theorem DE.ext1 {a b : DE} (h1 : a.name = b.name) (h2 : a.note = b.note) : a = b := by cases a; cases b; simp_all
theorem same_of {α β : Type} {f : α → β} {a b : α} (h : f a ≠ f b) : same a b = false := same_ne fun e => h (by rw [e])
end Go.VC
namespace Go.VC.T07
open Go Go.VC Go.Proofs

set_option maxRecDepth 100000 in
set_option maxHeartbeats 1000000 in
theorem F108 {l m : List Ty} {d1 d2 : D} {K : PV → List Ob → Prop} (hd1 : d1 = encL encTy l) (hd2 : d2 = encL encTy m) (hl : l.length ≤ 4294967295)
    (hg : ∀ x ∈ l, ∀ y (c0 : Int) (c1 : S) (c2 : S) (c3 : D) (c4 : D) (d0 : Int) (d1 : S) (d2 : S) (d3 : D) (d4 : D) (K' : PV → List Ob → Prop), tyIs x c0 c1 c2 c3 c4 → tyIs y d0 d1 d2 d3 d4 → (∀ b, b = same x y → K' (.bool b) []) → FC Tryz.prog tt 83 [] [tyPV c0 c1 c2 c3 c4, tyPV d0 d1 d2 d3 d4] K')
    (h : ∀ b, b = same l m → K (.bool b) []) :
    FC Tryz.prog tt 108 [] [.lst 43 d1, .lst 43 d2, .clos 83 []] K := by
  refine FC.enter (G := g108) tt_ok mixed ⟨Tryz.func108, by rfl, rfl⟩ rfl rfl rfl ?_
  intro A C L X
  obtain ⟨n_d1, hn_d1⟩ : ∃ n, n = (l).length := ⟨_, rfl⟩
  have hlen_d1 : Std.len d1 = Int.ofNat n_d1 := by rw [hd1, Std_len, hn_d1]; rfl
  obtain ⟨n_d2, hn_d2⟩ : ∃ n, n = (m).length := ⟨_, rfl⟩
  have hlen_d2 : Std.len d2 = Int.ofNat n_d2 := by rw [hd2, Std_len, hn_d2]; rfl
  cbv
  repeat' (first | apply And.intro | exact fun (_ : False → False) => by kernel_rfl | (intro h2; cbv) | apply Or.inl)
  · refine h _ ?_
    refine (same_len ?_).symm
    obtain rfl := X.a; simp only [hlen_d1, hlen_d2, SD, bNot] at h2; omega
  have hml : m.length = n_d1 := by obtain rfl := X.a; simp only [hlen_d1, hlen_d2, SD, bNot] at h2; omega
  refine X.loop (fun (i : Nat) => ⟨[(17, .int .i64 i), (16, .int .i64 (A.len d1)), (15, .lst 43 d1), (1, .lst 43 d2), (2, .clos 83 [])], []⟩) (fun i => i ≤ n_d1 ∧ l.take i = m.take i) (fun i => n_d1 - i) 0 ⟨Nat.zero_le _, by simp⟩ ?_ ?_
  · (cbv; repeat' apply And.intro); all_goals (try (first | trivial | rfl | (rw [X.a]; rfl)))
  rintro i ⟨hi, ha⟩
  cbv
  refine ⟨fun h1 => ?_, fun h1 => ?_⟩
  · have h5 : i < l.length := by obtain rfl := X.a; simp only [hlen_d1, SD, bNot] at h1; omega
    have h6 : i < m.length := by omega
    have k1 := tyAt X.a hd1 h5
    have k2 := tyAt X.a hd2 h6
    have hid : A.idx (Int.ofNat i) (A.len d1) := by rw [X.a, hd1]; exact leaf_idx h5
    have hie : A.idx (Int.ofNat i) (A.len d2) := by rw [X.a, hd2]; exact leaf_idx h6
    have hin : A.inr .i64 (A.add (Int.ofNat i) 1) := by rw [X.a]; exact leaf_inc h5 (by omega)
    have hne : l[i] ≠ m[i] → same l m = false := fun e => same_get h5 h6 e
    cbv
    repeat' (first | apply And.intro | exact fun (_ : False → False) => by kernel_rfl | (intro h2; cbv) | apply Or.inl)
    any_goals exact hid
    any_goals exact hie
    refine X.call (hg _ (List.getElem_mem h5) _ _ _ _ _ _ _ _ _ _ _ _ k1 k2 fun b hb => ?_)
    have hb' : b = same l[i] m[i] := hb
    clear hb
    cbv
    repeat' (first | apply And.intro | exact fun (_ : False → False) => by kernel_rfl | (intro h2; cbv) | apply Or.inl)
    any_goals exact hin
    · refine h _ ?_
      have : same l[i] m[i] = false := by rw [← hb']; obtain rfl := X.a; simpa only [SD, bNot] using h2
      exact (hne fun e => by rw [e, same_self] at this; cases this).symm
    · have hbt : same l[i] m[i] = true := by rw [← hb']; obtain rfl := X.a; simpa only [SD, bNot] using h2
      refine ⟨i+1, ⟨by omega, by rw [take_succ' h5, take_succ' h6, ha, same_iff.1 hbt]⟩, by omega, ?_⟩
      (cbv; repeat' apply And.intro); all_goals (try (first | trivial | rfl | (rw [X.a]; rfl)))
  · have h5 : i = n_d1 := by obtain rfl := X.a; simp only [hlen_d1, SD, bNot] at h1; omega
    subst h5
    have e := take_full (l := l) (m := m) (by omega) (by rw [← hn_d1]; exact ha)
    cbv
    refine h _ ?_
    rw [e, same_self]

set_option maxRecDepth 100000 in
set_option maxHeartbeats 1000000 in
theorem F109 {l m : List Fe} {d1 d2 : D} {K : PV → List Ob → Prop} (hd1 : d1 = encL encFd l) (hd2 : d2 = encL encFd m) (hl : l.length ≤ 4294967295)
    (hg : ∀ x ∈ l, ∀ y (c0 : S) (c1 : Int) (c2 : S) (c3 : S) (c4 : D) (c5 : D) (c6 : Bool) (d0 : S) (d1 : Int) (d2 : S) (d3 : S) (d4 : D) (d5 : D) (d6 : Bool) (K' : PV → List Ob → Prop), feIs x c0 c1 c2 c3 c4 c5 c6 → feIs y d0 d1 d2 d3 d4 d5 d6 → (∀ b, b = same x y → K' (.bool b) []) → FC Tryz.prog tt 110 [] [fePV c0 c1 c2 c3 c4 c5 c6, fePV d0 d1 d2 d3 d4 d5 d6] K')
    (h : ∀ b, b = same l m → K (.bool b) []) :
    FC Tryz.prog tt 109 [] [.lst 105 d1, .lst 105 d2, .clos 110 []] K := by
  refine FC.enter (G := g109) tt_ok mixed ⟨Tryz.func109, by rfl, rfl⟩ rfl rfl rfl ?_
  intro A C L X
  obtain ⟨n_d1, hn_d1⟩ : ∃ n, n = (l).length := ⟨_, rfl⟩
  have hlen_d1 : Std.len d1 = Int.ofNat n_d1 := by rw [hd1, Std_len, hn_d1]; rfl
  obtain ⟨n_d2, hn_d2⟩ : ∃ n, n = (m).length := ⟨_, rfl⟩
  have hlen_d2 : Std.len d2 = Int.ofNat n_d2 := by rw [hd2, Std_len, hn_d2]; rfl
  cbv
  repeat' (first | apply And.intro | exact fun (_ : False → False) => by kernel_rfl | (intro h2; cbv) | apply Or.inl)
  · refine h _ ?_
    refine (same_len ?_).symm
    obtain rfl := X.a; simp only [hlen_d1, hlen_d2, SD, bNot] at h2; omega
  have hml : m.length = n_d1 := by obtain rfl := X.a; simp only [hlen_d1, hlen_d2, SD, bNot] at h2; omega
  refine X.loop (fun (i : Nat) => ⟨[(17, .int .i64 i), (16, .int .i64 (A.len d1)), (15, .lst 105 d1), (1, .lst 105 d2), (2, .clos 110 [])], []⟩) (fun i => i ≤ n_d1 ∧ l.take i = m.take i) (fun i => n_d1 - i) 0 ⟨Nat.zero_le _, by simp⟩ ?_ ?_
  · (cbv; repeat' apply And.intro); all_goals (try (first | trivial | rfl | (rw [X.a]; rfl)))
  rintro i ⟨hi, ha⟩
  cbv
  refine ⟨fun h1 => ?_, fun h1 => ?_⟩
  · have h5 : i < l.length := by obtain rfl := X.a; simp only [hlen_d1, SD, bNot] at h1; omega
    have h6 : i < m.length := by omega
    have k1 := feIsAt X.a hd1 h5
    have k2 := feIsAt X.a hd2 h6
    have hid : A.idx (Int.ofNat i) (A.len d1) := by rw [X.a, hd1]; exact leaf_idx h5
    have hie : A.idx (Int.ofNat i) (A.len d2) := by rw [X.a, hd2]; exact leaf_idx h6
    have hin : A.inr .i64 (A.add (Int.ofNat i) 1) := by rw [X.a]; exact leaf_inc h5 (by omega)
    have hne : l[i] ≠ m[i] → same l m = false := fun e => same_get h5 h6 e
    cbv
    repeat' (first | apply And.intro | exact fun (_ : False → False) => by kernel_rfl | (intro h2; cbv) | apply Or.inl)
    any_goals exact hid
    any_goals exact hie
    refine X.call (hg _ (List.getElem_mem h5) _ _ _ _ _ _ _ _ _ _ _ _ _ _ _ _ k1 k2 fun b hb => ?_)
    have hb' : b = same l[i] m[i] := hb
    clear hb
    cbv
    repeat' (first | apply And.intro | exact fun (_ : False → False) => by kernel_rfl | (intro h2; cbv) | apply Or.inl)
    any_goals exact hin
    · refine h _ ?_
      have : same l[i] m[i] = false := by rw [← hb']; obtain rfl := X.a; simpa only [SD, bNot] using h2
      exact (hne fun e => by rw [e, same_self] at this; cases this).symm
    · have hbt : same l[i] m[i] = true := by rw [← hb']; obtain rfl := X.a; simpa only [SD, bNot] using h2
      refine ⟨i+1, ⟨by omega, by rw [take_succ' h5, take_succ' h6, ha, same_iff.1 hbt]⟩, by omega, ?_⟩
      (cbv; repeat' apply And.intro); all_goals (try (first | trivial | rfl | (rw [X.a]; rfl)))
  · have h5 : i = n_d1 := by obtain rfl := X.a; simp only [hlen_d1, SD, bNot] at h1; omega
    subst h5
    have e := take_full (l := l) (m := m) (by omega) (by rw [← hn_d1]; exact ha)
    cbv
    refine h _ ?_
    rw [e, same_self]

set_option maxRecDepth 100000 in
set_option maxHeartbeats 1000000 in
theorem F106 {l m : List Pm} {d1 d2 : D} {K : PV → List Ob → Prop} (hd1 : d1 = encL encPm l) (hd2 : d2 = encL encPm m) (hl : l.length ≤ 4294967295)
    (hg : ∀ x ∈ l, ∀ y (c0 : S) (c1 : Int) (c2 : Int) (c3 : S) (c4 : S) (c5 : D) (c6 : D) (d0 : S) (d1 : Int) (d2 : Int) (d3 : S) (d4 : S) (d5 : D) (d6 : D) (K' : PV → List Ob → Prop), pmIs x c0 c1 c2 c3 c4 c5 c6 → pmIs y d0 d1 d2 d3 d4 d5 d6 → (∀ b, b = same x y → K' (.bool b) []) → FC Tryz.prog tt 107 [] [pmPV c0 c1 c2 c3 c4 c5 c6, pmPV d0 d1 d2 d3 d4 d5 d6] K')
    (h : ∀ b, b = same l m → K (.bool b) []) :
    FC Tryz.prog tt 106 [] [.lst 62 d1, .lst 62 d2, .clos 107 []] K := by
  refine FC.enter (G := g106) tt_ok mixed ⟨Tryz.func106, by rfl, rfl⟩ rfl rfl rfl ?_
  intro A C L X
  obtain ⟨n_d1, hn_d1⟩ : ∃ n, n = (l).length := ⟨_, rfl⟩
  have hlen_d1 : Std.len d1 = Int.ofNat n_d1 := by rw [hd1, Std_len, hn_d1]; rfl
  obtain ⟨n_d2, hn_d2⟩ : ∃ n, n = (m).length := ⟨_, rfl⟩
  have hlen_d2 : Std.len d2 = Int.ofNat n_d2 := by rw [hd2, Std_len, hn_d2]; rfl
  cbv
  repeat' (first | apply And.intro | exact fun (_ : False → False) => by kernel_rfl | (intro h2; cbv) | apply Or.inl)
  · refine h _ ?_
    refine (same_len ?_).symm
    obtain rfl := X.a; simp only [hlen_d1, hlen_d2, SD, bNot] at h2; omega
  have hml : m.length = n_d1 := by obtain rfl := X.a; simp only [hlen_d1, hlen_d2, SD, bNot] at h2; omega
  refine X.loop (fun (i : Nat) => ⟨[(17, .int .i64 i), (16, .int .i64 (A.len d1)), (15, .lst 62 d1), (1, .lst 62 d2), (2, .clos 107 [])], []⟩) (fun i => i ≤ n_d1 ∧ l.take i = m.take i) (fun i => n_d1 - i) 0 ⟨Nat.zero_le _, by simp⟩ ?_ ?_
  · (cbv; repeat' apply And.intro); all_goals (try (first | trivial | rfl | (rw [X.a]; rfl)))
  rintro i ⟨hi, ha⟩
  cbv
  refine ⟨fun h1 => ?_, fun h1 => ?_⟩
  · have h5 : i < l.length := by obtain rfl := X.a; simp only [hlen_d1, SD, bNot] at h1; omega
    have h6 : i < m.length := by omega
    have k1 := pmIsAt X.a hd1 h5
    have k2 := pmIsAt X.a hd2 h6
    have hid : A.idx (Int.ofNat i) (A.len d1) := by rw [X.a, hd1]; exact leaf_idx h5
    have hie : A.idx (Int.ofNat i) (A.len d2) := by rw [X.a, hd2]; exact leaf_idx h6
    have hin : A.inr .i64 (A.add (Int.ofNat i) 1) := by rw [X.a]; exact leaf_inc h5 (by omega)
    have hne : l[i] ≠ m[i] → same l m = false := fun e => same_get h5 h6 e
    cbv
    repeat' (first | apply And.intro | exact fun (_ : False → False) => by kernel_rfl | (intro h2; cbv) | apply Or.inl)
    any_goals exact hid
    any_goals exact hie
    refine X.call (hg _ (List.getElem_mem h5) _ _ _ _ _ _ _ _ _ _ _ _ _ _ _ _ k1 k2 fun b hb => ?_)
    have hb' : b = same l[i] m[i] := hb
    clear hb
    cbv
    repeat' (first | apply And.intro | exact fun (_ : False → False) => by kernel_rfl | (intro h2; cbv) | apply Or.inl)
    any_goals exact hin
    · refine h _ ?_
      have : same l[i] m[i] = false := by rw [← hb']; obtain rfl := X.a; simpa only [SD, bNot] using h2
      exact (hne fun e => by rw [e, same_self] at this; cases this).symm
    · have hbt : same l[i] m[i] = true := by rw [← hb']; obtain rfl := X.a; simpa only [SD, bNot] using h2
      refine ⟨i+1, ⟨by omega, by rw [take_succ' h5, take_succ' h6, ha, same_iff.1 hbt]⟩, by omega, ?_⟩
      (cbv; repeat' apply And.intro); all_goals (try (first | trivial | rfl | (rw [X.a]; rfl)))
  · have h5 : i = n_d1 := by obtain rfl := X.a; simp only [hlen_d1, SD, bNot] at h1; omega
    subst h5
    have e := take_full (l := l) (m := m) (by omega) (by rw [← hn_d1]; exact ha)
    cbv
    refine h _ ?_
    rw [e, same_self]

set_option maxRecDepth 100000 in
set_option maxHeartbeats 1000000 in
theorem F80 {l m : List TE} {d1 d2 : D} {K : PV → List Ob → Prop} (hd1 : d1 = encL encTE l) (hd2 : d2 = encL encTE m) (hl : l.length ≤ 4294967295)
    (hg : ∀ x ∈ l, ∀ y (c0 : S) (c1 : D) (c2 : Int) (c3 : S) (c4 : S) (c5 : D) (c6 : D) (c7 : Int) (c8 : S) (c9 : S) (c10 : D) (c11 : D) (d0 : S) (d1 : D) (d2 : Int) (d3 : S) (d4 : S) (d5 : D) (d6 : D) (d7 : Int) (d8 : S) (d9 : S) (d10 : D) (d11 : D) (K' : PV → List Ob → Prop), teIs x c0 c1 c2 c3 c4 c5 c6 c7 c8 c9 c10 c11 → teIs y d0 d1 d2 d3 d4 d5 d6 d7 d8 d9 d10 d11 → (∀ b, b = same x y → K' (.bool b) []) → FC Tryz.prog tt 81 [] [tePV c0 c1 c2 c3 c4 c5 c6 c7 c8 c9 c10 c11, tePV d0 d1 d2 d3 d4 d5 d6 d7 d8 d9 d10 d11] K')
    (h : ∀ b, b = same l m → K (.bool b) []) :
    FC Tryz.prog tt 80 [] [.lst 58 d1, .lst 58 d2, .clos 81 []] K := by
  refine FC.enter (G := g80) tt_ok mixed ⟨Tryz.func80, by rfl, rfl⟩ rfl rfl rfl ?_
  intro A C L X
  obtain ⟨n_d1, hn_d1⟩ : ∃ n, n = (l).length := ⟨_, rfl⟩
  have hlen_d1 : Std.len d1 = Int.ofNat n_d1 := by rw [hd1, Std_len, hn_d1]; rfl
  obtain ⟨n_d2, hn_d2⟩ : ∃ n, n = (m).length := ⟨_, rfl⟩
  have hlen_d2 : Std.len d2 = Int.ofNat n_d2 := by rw [hd2, Std_len, hn_d2]; rfl
  cbv
  repeat' (first | apply And.intro | exact fun (_ : False → False) => by kernel_rfl | (intro h2; cbv) | apply Or.inl)
  · refine h _ ?_
    refine (same_len ?_).symm
    obtain rfl := X.a; simp only [hlen_d1, hlen_d2, SD, bNot] at h2; omega
  have hml : m.length = n_d1 := by obtain rfl := X.a; simp only [hlen_d1, hlen_d2, SD, bNot] at h2; omega
  refine X.loop (fun (i : Nat) => ⟨[(17, .int .i64 i), (16, .int .i64 (A.len d1)), (15, .lst 58 d1), (1, .lst 58 d2), (2, .clos 81 [])], []⟩) (fun i => i ≤ n_d1 ∧ l.take i = m.take i) (fun i => n_d1 - i) 0 ⟨Nat.zero_le _, by simp⟩ ?_ ?_
  · (cbv; repeat' apply And.intro); all_goals (try (first | trivial | rfl | (rw [X.a]; rfl)))
  rintro i ⟨hi, ha⟩
  cbv
  refine ⟨fun h1 => ?_, fun h1 => ?_⟩
  · have h5 : i < l.length := by obtain rfl := X.a; simp only [hlen_d1, SD, bNot] at h1; omega
    have h6 : i < m.length := by omega
    have k1 := teIsAt X.a hd1 h5
    have k2 := teIsAt X.a hd2 h6
    have hid : A.idx (Int.ofNat i) (A.len d1) := by rw [X.a, hd1]; exact leaf_idx h5
    have hie : A.idx (Int.ofNat i) (A.len d2) := by rw [X.a, hd2]; exact leaf_idx h6
    have hin : A.inr .i64 (A.add (Int.ofNat i) 1) := by rw [X.a]; exact leaf_inc h5 (by omega)
    have hne : l[i] ≠ m[i] → same l m = false := fun e => same_get h5 h6 e
    cbv
    repeat' (first | apply And.intro | exact fun (_ : False → False) => by kernel_rfl | (intro h2; cbv) | apply Or.inl)
    any_goals exact hid
    any_goals exact hie
    refine X.call (hg _ (List.getElem_mem h5) _ _ _ _ _ _ _ _ _ _ _ _ _ _ _ _ _ _ _ _ _ _ _ _ _ _ k1 k2 fun b hb => ?_)
    have hb' : b = same l[i] m[i] := hb
    clear hb
    cbv
    repeat' (first | apply And.intro | exact fun (_ : False → False) => by kernel_rfl | (intro h2; cbv) | apply Or.inl)
    any_goals exact hin
    · refine h _ ?_
      have : same l[i] m[i] = false := by rw [← hb']; obtain rfl := X.a; simpa only [SD, bNot] using h2
      exact (hne fun e => by rw [e, same_self] at this; cases this).symm
    · have hbt : same l[i] m[i] = true := by rw [← hb']; obtain rfl := X.a; simpa only [SD, bNot] using h2
      refine ⟨i+1, ⟨by omega, by rw [take_succ' h5, take_succ' h6, ha, same_iff.1 hbt]⟩, by omega, ?_⟩
      (cbv; repeat' apply And.intro); all_goals (try (first | trivial | rfl | (rw [X.a]; rfl)))
  · have h5 : i = n_d1 := by obtain rfl := X.a; simp only [hlen_d1, SD, bNot] at h1; omega
    subst h5
    have e := take_full (l := l) (m := m) (by omega) (by rw [← hn_d1]; exact ha)
    cbv
    refine h _ ?_
    rw [e, same_self]

set_option maxRecDepth 100000 in
set_option maxHeartbeats 1000000 in
theorem F84 {l m : List VE} {d1 d2 : D} {K : PV → List Ob → Prop} (hd1 : d1 = encL encVE l) (hd2 : d2 = encL encVE m) (hl : l.length ≤ 4294967295)
    (hg : ∀ x ∈ l, ∀ y (c0 : S) (c1 : D) (c2 : Int) (c3 : S) (c4 : S) (c5 : D) (c6 : D) (d0 : S) (d1 : D) (d2 : Int) (d3 : S) (d4 : S) (d5 : D) (d6 : D) (K' : PV → List Ob → Prop), veIs x c0 c1 c2 c3 c4 c5 c6 → veIs y d0 d1 d2 d3 d4 d5 d6 → (∀ b, b = same x y → K' (.bool b) []) → FC Tryz.prog tt 85 [] [vePV c0 c1 c2 c3 c4 c5 c6, vePV d0 d1 d2 d3 d4 d5 d6] K')
    (h : ∀ b, b = same l m → K (.bool b) []) :
    FC Tryz.prog tt 84 [] [.lst 76 d1, .lst 76 d2, .clos 85 []] K := by
  refine FC.enter (G := g84) tt_ok mixed ⟨Tryz.func84, by rfl, rfl⟩ rfl rfl rfl ?_
  intro A C L X
  obtain ⟨n_d1, hn_d1⟩ : ∃ n, n = (l).length := ⟨_, rfl⟩
  have hlen_d1 : Std.len d1 = Int.ofNat n_d1 := by rw [hd1, Std_len, hn_d1]; rfl
  obtain ⟨n_d2, hn_d2⟩ : ∃ n, n = (m).length := ⟨_, rfl⟩
  have hlen_d2 : Std.len d2 = Int.ofNat n_d2 := by rw [hd2, Std_len, hn_d2]; rfl
  cbv
  repeat' (first | apply And.intro | exact fun (_ : False → False) => by kernel_rfl | (intro h2; cbv) | apply Or.inl)
  · refine h _ ?_
    refine (same_len ?_).symm
    obtain rfl := X.a; simp only [hlen_d1, hlen_d2, SD, bNot] at h2; omega
  have hml : m.length = n_d1 := by obtain rfl := X.a; simp only [hlen_d1, hlen_d2, SD, bNot] at h2; omega
  refine X.loop (fun (i : Nat) => ⟨[(17, .int .i64 i), (16, .int .i64 (A.len d1)), (15, .lst 76 d1), (1, .lst 76 d2), (2, .clos 85 [])], []⟩) (fun i => i ≤ n_d1 ∧ l.take i = m.take i) (fun i => n_d1 - i) 0 ⟨Nat.zero_le _, by simp⟩ ?_ ?_
  · (cbv; repeat' apply And.intro); all_goals (try (first | trivial | rfl | (rw [X.a]; rfl)))
  rintro i ⟨hi, ha⟩
  cbv
  refine ⟨fun h1 => ?_, fun h1 => ?_⟩
  · have h5 : i < l.length := by obtain rfl := X.a; simp only [hlen_d1, SD, bNot] at h1; omega
    have h6 : i < m.length := by omega
    have k1 := veIsAt X.a hd1 h5
    have k2 := veIsAt X.a hd2 h6
    have hid : A.idx (Int.ofNat i) (A.len d1) := by rw [X.a, hd1]; exact leaf_idx h5
    have hie : A.idx (Int.ofNat i) (A.len d2) := by rw [X.a, hd2]; exact leaf_idx h6
    have hin : A.inr .i64 (A.add (Int.ofNat i) 1) := by rw [X.a]; exact leaf_inc h5 (by omega)
    have hne : l[i] ≠ m[i] → same l m = false := fun e => same_get h5 h6 e
    cbv
    repeat' (first | apply And.intro | exact fun (_ : False → False) => by kernel_rfl | (intro h2; cbv) | apply Or.inl)
    any_goals exact hid
    any_goals exact hie
    refine X.call (hg _ (List.getElem_mem h5) _ _ _ _ _ _ _ _ _ _ _ _ _ _ _ _ k1 k2 fun b hb => ?_)
    have hb' : b = same l[i] m[i] := hb
    clear hb
    cbv
    repeat' (first | apply And.intro | exact fun (_ : False → False) => by kernel_rfl | (intro h2; cbv) | apply Or.inl)
    any_goals exact hin
    · refine h _ ?_
      have : same l[i] m[i] = false := by rw [← hb']; obtain rfl := X.a; simpa only [SD, bNot] using h2
      exact (hne fun e => by rw [e, same_self] at this; cases this).symm
    · have hbt : same l[i] m[i] = true := by rw [← hb']; obtain rfl := X.a; simpa only [SD, bNot] using h2
      refine ⟨i+1, ⟨by omega, by rw [take_succ' h5, take_succ' h6, ha, same_iff.1 hbt]⟩, by omega, ?_⟩
      (cbv; repeat' apply And.intro); all_goals (try (first | trivial | rfl | (rw [X.a]; rfl)))
  · have h5 : i = n_d1 := by obtain rfl := X.a; simp only [hlen_d1, SD, bNot] at h1; omega
    subst h5
    have e := take_full (l := l) (m := m) (by omega) (by rw [← hn_d1]; exact ha)
    cbv
    refine h _ ?_
    rw [e, same_self]

set_option maxRecDepth 100000 in
set_option maxHeartbeats 1000000 in
theorem F46 {l m : List IF} {d1 d2 : D} {K : PV → List Ob → Prop} (hd1 : d1 = encL encIF l) (hd2 : d2 = encL encIF m) (hl : l.length ≤ 4294967295)
    (hg : ∀ x ∈ l, ∀ y (c0 : S) (c1 : D) (c2 : D) (c3 : D) (c4 : D) (d0 : S) (d1 : D) (d2 : D) (d3 : D) (d4 : D) (K' : PV → List Ob → Prop), ifIs x c0 c1 c2 c3 c4 → ifIs y d0 d1 d2 d3 d4 → (∀ b, b = same x y → K' (.bool b) []) → FC Tryz.prog tt 47 [] [ifPV c0 c1 c2 c3 c4, ifPV d0 d1 d2 d3 d4] K')
    (h : ∀ b, b = same l m → K (.bool b) []) :
    FC Tryz.prog tt 46 [] [.lst 31 d1, .lst 31 d2, .clos 47 []] K := by
  refine FC.enter (G := g46) tt_ok mixed ⟨Tryz.func46, by rfl, rfl⟩ rfl rfl rfl ?_
  intro A C L X
  obtain ⟨n_d1, hn_d1⟩ : ∃ n, n = (l).length := ⟨_, rfl⟩
  have hlen_d1 : Std.len d1 = Int.ofNat n_d1 := by rw [hd1, Std_len, hn_d1]; rfl
  obtain ⟨n_d2, hn_d2⟩ : ∃ n, n = (m).length := ⟨_, rfl⟩
  have hlen_d2 : Std.len d2 = Int.ofNat n_d2 := by rw [hd2, Std_len, hn_d2]; rfl
  cbv
  repeat' (first | apply And.intro | exact fun (_ : False → False) => by kernel_rfl | (intro h2; cbv) | apply Or.inl)
  · refine h _ ?_
    refine (same_len ?_).symm
    obtain rfl := X.a; simp only [hlen_d1, hlen_d2, SD, bNot] at h2; omega
  have hml : m.length = n_d1 := by obtain rfl := X.a; simp only [hlen_d1, hlen_d2, SD, bNot] at h2; omega
  refine X.loop (fun (i : Nat) => ⟨[(17, .int .i64 i), (16, .int .i64 (A.len d1)), (15, .lst 31 d1), (1, .lst 31 d2), (2, .clos 47 [])], []⟩) (fun i => i ≤ n_d1 ∧ l.take i = m.take i) (fun i => n_d1 - i) 0 ⟨Nat.zero_le _, by simp⟩ ?_ ?_
  · (cbv; repeat' apply And.intro); all_goals (try (first | trivial | rfl | (rw [X.a]; rfl)))
  rintro i ⟨hi, ha⟩
  cbv
  refine ⟨fun h1 => ?_, fun h1 => ?_⟩
  · have h5 : i < l.length := by obtain rfl := X.a; simp only [hlen_d1, SD, bNot] at h1; omega
    have h6 : i < m.length := by omega
    have k1 := ifIsAt X.a hd1 h5
    have k2 := ifIsAt X.a hd2 h6
    have hid : A.idx (Int.ofNat i) (A.len d1) := by rw [X.a, hd1]; exact leaf_idx h5
    have hie : A.idx (Int.ofNat i) (A.len d2) := by rw [X.a, hd2]; exact leaf_idx h6
    have hin : A.inr .i64 (A.add (Int.ofNat i) 1) := by rw [X.a]; exact leaf_inc h5 (by omega)
    have hne : l[i] ≠ m[i] → same l m = false := fun e => same_get h5 h6 e
    cbv
    repeat' (first | apply And.intro | exact fun (_ : False → False) => by kernel_rfl | (intro h2; cbv) | apply Or.inl)
    any_goals exact hid
    any_goals exact hie
    refine X.call (hg _ (List.getElem_mem h5) _ _ _ _ _ _ _ _ _ _ _ _ k1 k2 fun b hb => ?_)
    have hb' : b = same l[i] m[i] := hb
    clear hb
    cbv
    repeat' (first | apply And.intro | exact fun (_ : False → False) => by kernel_rfl | (intro h2; cbv) | apply Or.inl)
    any_goals exact hin
    · refine h _ ?_
      have : same l[i] m[i] = false := by rw [← hb']; obtain rfl := X.a; simpa only [SD, bNot] using h2
      exact (hne fun e => by rw [e, same_self] at this; cases this).symm
    · have hbt : same l[i] m[i] = true := by rw [← hb']; obtain rfl := X.a; simpa only [SD, bNot] using h2
      refine ⟨i+1, ⟨by omega, by rw [take_succ' h5, take_succ' h6, ha, same_iff.1 hbt]⟩, by omega, ?_⟩
      (cbv; repeat' apply And.intro); all_goals (try (first | trivial | rfl | (rw [X.a]; rfl)))
  · have h5 : i = n_d1 := by obtain rfl := X.a; simp only [hlen_d1, SD, bNot] at h1; omega
    subst h5
    have e := take_full (l := l) (m := m) (by omega) (by rw [← hn_d1]; exact ha)
    cbv
    refine h _ ?_
    rw [e, same_self]
end Go.VC.T07
end

section
/- The library's comparisons of lists. -/
namespace Go.VC.T07
open Go Go.VC Go.Proofs

set_option maxRecDepth 100000 in
set_option maxHeartbeats 1000000 in
theorem F17 {l m : List S} {d1 d2 : D} {K : PV → List Ob → Prop} (hd1 : d1 = encL encS l) (hd2 : d2 = encL encS m) (hl : l.length ≤ 4294967295)
    (h : ∀ b, b = same l m → K (.bool b) []) :
    FC Tryz.prog tt 17 [] [.lst 9 d1, .lst 9 d2] K := by
  refine FC.enter (G := g17) tt_ok mixed ⟨Tryz.func17, by rfl, rfl⟩ rfl rfl rfl ?_
  intro A C L X
  obtain ⟨n_d1, hn_d1⟩ : ∃ n, n = (l).length := ⟨_, rfl⟩
  have hlen_d1 : Std.len d1 = Int.ofNat n_d1 := by rw [hd1, Std_len, hn_d1]; rfl
  obtain ⟨n_d2, hn_d2⟩ : ∃ n, n = (m).length := ⟨_, rfl⟩
  have hlen_d2 : Std.len d2 = Int.ofNat n_d2 := by rw [hd2, Std_len, hn_d2]; rfl
  cbv
  repeat' (first | apply And.intro | exact fun (_ : False → False) => by kernel_rfl | (intro h2; cbv) | apply Or.inl)
  · refine h _ ?_
    refine (same_len ?_).symm
    obtain rfl := X.a; simp only [hlen_d1, hlen_d2, SD, bNot] at h2; omega
  have hml : m.length = n_d1 := by obtain rfl := X.a; simp only [hlen_d1, hlen_d2, SD, bNot] at h2; omega
  refine X.loop (fun (i : Nat) => ⟨[(13, .int .i64 i), (12, .int .i64 (A.len d1)), (0, .lst 9 d1), (1, .lst 9 d2)], []⟩) (fun i => i ≤ n_d1 ∧ l.take i = m.take i) (fun i => n_d1 - i) 0 ⟨Nat.zero_le _, by simp⟩ ?_ ?_
  · (cbv; repeat' apply And.intro); all_goals (try (first | trivial | rfl | (rw [X.a]; rfl)))
  rintro i ⟨hi, ha⟩
  cbv
  refine ⟨fun h1 => ?_, fun h1 => ?_⟩
  · have h5 : i < l.length := by obtain rfl := X.a; simp only [hlen_d1, SD, bNot] at h1; omega
    have h6 : i < m.length := by omega
    have k10 := strAt X.a hd1 h5
    have k20 := strAt X.a hd2 h6
    have hid : A.idx (Int.ofNat i) (A.len d1) := by rw [X.a, hd1]; exact leaf_idx h5
    have hie : A.idx (Int.ofNat i) (A.len d2) := by rw [X.a, hd2]; exact leaf_idx h6
    have hin : A.inr .i64 (A.add (Int.ofNat i) 1) := by rw [X.a]; exact leaf_inc h5 (by omega)
    have hne : l[i] ≠ m[i] → same l m = false := fun e => same_get h5 h6 e
    cbv
    repeat' (first | apply And.intro | exact fun (_ : False → False) => by kernel_rfl | (intro h2; cbv) | apply Or.inl)
    any_goals exact hid
    any_goals exact hie
    any_goals exact hin
    · refine h _ (same_get h5 h6 fun e => ?_).symm
      obtain rfl := X.a
      simp only [k10, k20, Std_not, Std_ite, Std_seq, Std_eq, e] at h2
      simp at h2
    · have e : l[i] = m[i] := by
        rename_i h3
        obtain rfl := X.a
        simp only [k10, k20, Std_not, Std_ite, Std_seq] at h3
        simp at h3
        exact h3
      refine ⟨i+1, ⟨by omega, by rw [take_succ' h5, take_succ' h6, ha, e]⟩, by omega, ?_⟩
      (cbv; repeat' apply And.intro); all_goals (try (first | trivial | rfl | (rw [X.a]; rfl)))
  · have h5 : i = n_d1 := by obtain rfl := X.a; simp only [hlen_d1, SD, bNot] at h1; omega
    subst h5
    have e := take_full (l := l) (m := m) (by omega) (by rw [← hn_d1]; exact ha)
    cbv
    refine h _ ?_
    rw [e, same_self]

set_option maxRecDepth 100000 in
set_option maxHeartbeats 1000000 in
theorem F78 {l m : List AE} {d1 d2 : D} {K : PV → List Ob → Prop} (hd1 : d1 = encL encAE l) (hd2 : d2 = encL encAE m) (hl : l.length ≤ 4294967295)
    (h : ∀ b, b = same l m → K (.bool b) []) :
    FC Tryz.prog tt 78 [] [.lst 72 d1, .lst 72 d2] K := by
  refine FC.enter (G := g78) tt_ok mixed ⟨Tryz.func78, by rfl, rfl⟩ rfl rfl rfl ?_
  intro A C L X
  obtain ⟨n_d1, hn_d1⟩ : ∃ n, n = (l).length := ⟨_, rfl⟩
  have hlen_d1 : Std.len d1 = Int.ofNat n_d1 := by rw [hd1, Std_len, hn_d1]; rfl
  obtain ⟨n_d2, hn_d2⟩ : ∃ n, n = (m).length := ⟨_, rfl⟩
  have hlen_d2 : Std.len d2 = Int.ofNat n_d2 := by rw [hd2, Std_len, hn_d2]; rfl
  cbv
  repeat' (first | apply And.intro | exact fun (_ : False → False) => by kernel_rfl | (intro h2; cbv) | apply Or.inl)
  · refine h _ ?_
    refine (same_len ?_).symm
    obtain rfl := X.a; simp only [hlen_d1, hlen_d2, SD, bNot] at h2; omega
  have hml : m.length = n_d1 := by obtain rfl := X.a; simp only [hlen_d1, hlen_d2, SD, bNot] at h2; omega
  refine X.loop (fun (i : Nat) => ⟨[(13, .int .i64 i), (12, .int .i64 (A.len d1)), (0, .lst 72 d1), (1, .lst 72 d2)], []⟩) (fun i => i ≤ n_d1 ∧ l.take i = m.take i) (fun i => n_d1 - i) 0 ⟨Nat.zero_le _, by simp⟩ ?_ ?_
  · (cbv; repeat' apply And.intro); all_goals (try (first | trivial | rfl | (rw [X.a]; rfl)))
  rintro i ⟨hi, ha⟩
  cbv
  refine ⟨fun h1 => ?_, fun h1 => ?_⟩
  · have h5 : i < l.length := by obtain rfl := X.a; simp only [hlen_d1, SD, bNot] at h1; omega
    have h6 : i < m.length := by omega
    obtain ⟨k10, k11, k12⟩ := aeAt X.a hd1 h5
    obtain ⟨k20, k21, k22⟩ := aeAt X.a hd2 h6
    have hid : A.idx (Int.ofNat i) (A.len d1) := by rw [X.a, hd1]; exact leaf_idx h5
    have hie : A.idx (Int.ofNat i) (A.len d2) := by rw [X.a, hd2]; exact leaf_idx h6
    have hin : A.inr .i64 (A.add (Int.ofNat i) 1) := by rw [X.a]; exact leaf_inc h5 (by omega)
    have hne : l[i] ≠ m[i] → same l m = false := fun e => same_get h5 h6 e
    cbv
    repeat' (first | apply And.intro | exact fun (_ : False → False) => by kernel_rfl | (intro h2; cbv) | apply Or.inl)
    any_goals exact hid
    any_goals exact hie
    any_goals exact hin
    · refine h _ (same_get h5 h6 fun e => ?_).symm
      obtain rfl := X.a
      simp only [k10, k20, k11, k21, k12, k22, Std_not, Std_ite, Std_seq, Std_eq, e] at h2
      simp at h2
    · have e : l[i] = m[i] := by
        rename_i h3
        obtain rfl := X.a
        simp only [k10, k20, k11, k21, k12, k22, Std_not, Std_ite, Std_seq] at h3
        simp at h3
        exact AE.ext1 h3.1 h3.2.1 h3.2.2
      refine ⟨i+1, ⟨by omega, by rw [take_succ' h5, take_succ' h6, ha, e]⟩, by omega, ?_⟩
      (cbv; repeat' apply And.intro); all_goals (try (first | trivial | rfl | (rw [X.a]; rfl)))
  · have h5 : i = n_d1 := by obtain rfl := X.a; simp only [hlen_d1, SD, bNot] at h1; omega
    subst h5
    have e := take_full (l := l) (m := m) (by omega) (by rw [← hn_d1]; exact ha)
    cbv
    refine h _ ?_
    rw [e, same_self]

set_option maxRecDepth 100000 in
set_option maxHeartbeats 1000000 in
theorem F79 {l m : List DE} {d1 d2 : D} {K : PV → List Ob → Prop} (hd1 : d1 = encL encDE l) (hd2 : d2 = encL encDE m) (hl : l.length ≤ 4294967295)
    (h : ∀ b, b = same l m → K (.bool b) []) :
    FC Tryz.prog tt 79 [] [.lst 87 d1, .lst 87 d2] K := by
  refine FC.enter (G := g79) tt_ok mixed ⟨Tryz.func79, by rfl, rfl⟩ rfl rfl rfl ?_
  intro A C L X
  obtain ⟨n_d1, hn_d1⟩ : ∃ n, n = (l).length := ⟨_, rfl⟩
  have hlen_d1 : Std.len d1 = Int.ofNat n_d1 := by rw [hd1, Std_len, hn_d1]; rfl
  obtain ⟨n_d2, hn_d2⟩ : ∃ n, n = (m).length := ⟨_, rfl⟩
  have hlen_d2 : Std.len d2 = Int.ofNat n_d2 := by rw [hd2, Std_len, hn_d2]; rfl
  cbv
  repeat' (first | apply And.intro | exact fun (_ : False → False) => by kernel_rfl | (intro h2; cbv) | apply Or.inl)
  · refine h _ ?_
    refine (same_len ?_).symm
    obtain rfl := X.a; simp only [hlen_d1, hlen_d2, SD, bNot] at h2; omega
  have hml : m.length = n_d1 := by obtain rfl := X.a; simp only [hlen_d1, hlen_d2, SD, bNot] at h2; omega
  refine X.loop (fun (i : Nat) => ⟨[(13, .int .i64 i), (12, .int .i64 (A.len d1)), (0, .lst 87 d1), (1, .lst 87 d2)], []⟩) (fun i => i ≤ n_d1 ∧ l.take i = m.take i) (fun i => n_d1 - i) 0 ⟨Nat.zero_le _, by simp⟩ ?_ ?_
  · (cbv; repeat' apply And.intro); all_goals (try (first | trivial | rfl | (rw [X.a]; rfl)))
  rintro i ⟨hi, ha⟩
  cbv
  refine ⟨fun h1 => ?_, fun h1 => ?_⟩
  · have h5 : i < l.length := by obtain rfl := X.a; simp only [hlen_d1, SD, bNot] at h1; omega
    have h6 : i < m.length := by omega
    obtain ⟨k10, k11⟩ := deAt X.a hd1 h5
    obtain ⟨k20, k21⟩ := deAt X.a hd2 h6
    have hid : A.idx (Int.ofNat i) (A.len d1) := by rw [X.a, hd1]; exact leaf_idx h5
    have hie : A.idx (Int.ofNat i) (A.len d2) := by rw [X.a, hd2]; exact leaf_idx h6
    have hin : A.inr .i64 (A.add (Int.ofNat i) 1) := by rw [X.a]; exact leaf_inc h5 (by omega)
    have hne : l[i] ≠ m[i] → same l m = false := fun e => same_get h5 h6 e
    cbv
    repeat' (first | apply And.intro | exact fun (_ : False → False) => by kernel_rfl | (intro h2; cbv) | apply Or.inl)
    any_goals exact hid
    any_goals exact hie
    any_goals exact hin
    · refine h _ (same_get h5 h6 fun e => ?_).symm
      obtain rfl := X.a
      simp only [k10, k20, k11, k21, Std_not, Std_ite, Std_seq, Std_eq, e] at h2
      simp at h2
    · have e : l[i] = m[i] := by
        rename_i h3
        obtain rfl := X.a
        simp only [k10, k20, k11, k21, Std_not, Std_ite, Std_seq] at h3
        simp at h3
        exact DE.ext1 h3.1 h3.2
      refine ⟨i+1, ⟨by omega, by rw [take_succ' h5, take_succ' h6, ha, e]⟩, by omega, ?_⟩
      (cbv; repeat' apply And.intro); all_goals (try (first | trivial | rfl | (rw [X.a]; rfl)))
  · have h5 : i = n_d1 := by obtain rfl := X.a; simp only [hlen_d1, SD, bNot] at h1; omega
    subst h5
    have e := take_full (l := l) (m := m) (by omega) (by rw [← hn_d1]; exact ha)
    cbv
    refine h _ ?_
    rw [e, same_self]
end Go.VC.T07
end

section
/- Equality of types, entries, interfaces, environments. -/
set_option linter.unusedSimpArgs false
set_option linter.unusedVariables false
namespace Go.VC
theorem same_fe {x y : Fe} : same x y = ((x.s == y.s) && (x.b == y.b) && same x.t y.t) := by
  rw [Bool.eq_iff_iff]
  simp only [same_iff, Bool.and_eq_true, beq_iff_eq]
  exact ⟨fun e => by subst e; exact ⟨⟨rfl, rfl⟩, rfl⟩, fun ⟨⟨h1, h2⟩, h3⟩ => Fe.ext h1 h3 h2⟩
theorem same_tyE {x y : Ty} : same x y = (((((x.k == y.k) && (x.m == y.m)) && (x.n == y.n)) && same x.ar y.ar) && same x.fl y.fl) := by
  rw [Bool.eq_iff_iff]
  simp only [same_iff, Bool.and_eq_true, beq_iff_eq]
  exact ⟨fun e => by subst e; exact ⟨⟨⟨⟨rfl, rfl⟩, rfl⟩, rfl⟩, rfl⟩, fun ⟨⟨⟨⟨h1, h2⟩, h3⟩, h4⟩, h5⟩ => Ty.ext h1 h2 h3 h4 h5⟩
theorem same_pm {x y : Pm} : same x y = ((x.name == y.name) && (x.var == y.var) && same x.bound y.bound) := by
  rw [Bool.eq_iff_iff]
  simp only [same_iff, Bool.and_eq_true, beq_iff_eq]
  constructor
  · intro e; subst e; simp
  · cases x; cases y; simp_all
theorem same_te {x y : TE} : same x y = (((x.name == y.name) && same x.params y.params) && same x.lower y.lower && same x.upper y.upper) := by
  rw [Bool.eq_iff_iff]
  simp only [same_iff, Bool.and_eq_true, beq_iff_eq]
  constructor
  · intro e; subst e; simp
  · cases x; cases y; simp_all
theorem same_ve {x y : VE} : same x y = ((x.name == y.name) && same x.params y.params && same x.ty y.ty) := by
  rw [Bool.eq_iff_iff]
  simp only [same_iff, Bool.and_eq_true, beq_iff_eq]
  constructor
  · intro e; subst e; simp
  · cases x; cases y; simp_all
theorem same_if {x y : IF} : same x y = ((x.path == y.path) && same x.aliases y.aliases && same x.deprecated y.deprecated && same x.types y.types && same x.values y.values) := by
  rw [Bool.eq_iff_iff]
  simp only [same_iff, Bool.and_eq_true, beq_iff_eq]
  constructor
  · intro e; subst e; simp
  · cases x; cases y; simp_all
end Go.VC
namespace Go.VC.T07
open Go Go.VC Go.Proofs

set_option maxRecDepth 100000 in
set_option maxHeartbeats 1000000 in
theorem F110g {x y : Fe} {c0 : S} {c1 : Int} {c2 c3 : S} {c4 c5 : D} {c6 : Bool} {d0 : S} {d1 : Int} {d2 d3 : S} {d4 d5 : D} {d6 : Bool} {K : PV → List Ob → Prop}
    (hx : feIs x c0 c1 c2 c3 c4 c5 c6) (hy : feIs y d0 d1 d2 d3 d4 d5 d6)
    (hg : ∀ {K' : PV → List Ob → Prop}, (∀ b, b = same x.t y.t → K' (.bool b) []) → FC Tryz.prog tt 83 [] [tyPV c1 c2 c3 c4 c5, tyPV d1 d2 d3 d4 d5] K')
    (h : ∀ b, b = same x y → K (.bool b) []) : FC Tryz.prog tt 110 [] [fePV c0 c1 c2 c3 c4 c5 c6, fePV d0 d1 d2 d3 d4 d5 d6] K := by
  obtain ⟨a0, a1, a2⟩ := hx
  obtain ⟨b0, b1, b2⟩ := hy
  have hs := same_fe (x := x) (y := y)
  rw [← a0, ← b0, ← a2, ← b2] at hs
  clear a0 b0 a2 b2 a1 b1
  refine FC.enter (G := g110) tt_ok mixed ⟨Tryz.func110, by rfl, rfl⟩ rfl rfl rfl ?_
  intro A C L X
  cbv
  repeat' (first | apply And.intro | exact fun (_ : False → False) => by kernel_rfl | (intro h2; cbv) | apply Or.inl | (refine X.call (hg fun b hb => ?_); cbv))
  all_goals (refine h _ ?_; rw [hs]; obtain rfl := X.a; (try subst hb); simp only [SD, bNot] at *; simp [*])

set_option maxRecDepth 100000 in
set_option maxHeartbeats 2000000 in
theorem F83 : ∀ (t : Ty), Ty.le 4294967295 t → ∀ {u : Ty} {c0 : Int} {c1 c2 : S} {c3 c4 : D} {d0 : Int} {d1 d2 : S} {d3 d4 : D} {K : PV → List Ob → Prop}, tyIs t c0 c1 c2 c3 c4 → tyIs u d0 d1 d2 d3 d4 → (∀ b, b = same t u → K (.bool b) []) → FC Tryz.prog tt 83 [] [tyPV c0 c1 c2 c3 c4, tyPV d0 d1 d2 d3 d4] K := by
  refine Ty.parts fun t iha ihf => ?_
  intro hle u c0 c1 c2 c3 c4 d0 d1 d2 d3 d4 K ht hu h
  obtain ⟨t0, t1, t2, ht3, ht4⟩ := ht
  obtain ⟨u0, u1, u2, hu3, hu4⟩ := hu
  have hs := same_tyE (x := t) (y := u)
  rw [← t0, ← u0, ← t1, ← u1, ← t2, ← u2] at hs
  clear t0 t1 t2 u0 u1 u2
  refine FC.enter (G := g83) tt_ok mixed ⟨Tryz.func83, by rfl, rfl⟩ rfl rfl rfl ?_
  intro A C L X
  cbv
  repeat' (first | apply And.intro | exact fun (_ : False → False) => by kernel_rfl | (intro h2; cbv) | apply Or.inl | (refine X.call (F108 ht3 hu3 (tyLe_ar hle) (fun x hx y _ _ _ _ _ _ _ _ _ _ K' k1 k2 hK => iha x hx (tyLe_a hle x hx) k1 k2 hK) fun b1 hb1 => ?_); cbv) | (refine X.call (F109 ht4 hu4 (tyLe_fl hle) (fun x hx y _ _ _ _ _ _ _ _ _ _ _ _ _ _ K' k1 k2 hK => F110g k1 k2 (fun hK' => ihf x hx (tyLe_f hle x hx) k1.2.1 k2.2.1 hK') hK) fun b2 hb2 => ?_); cbv))
  all_goals (refine h _ ?_; rw [hs]; obtain rfl := X.a; (try subst hb1); (try subst hb2); (try subst hb3); (try subst hb4); simp only [SD, bNot] at *; simp [*])

set_option maxRecDepth 100000 in
set_option maxHeartbeats 1000000 in
theorem F107 {x y : Pm} {c0 : S} {c1 c2 : Int} {c3 c4 : S} {c5 c6 : D} {d0 : S} {d1 d2 : Int} {d3 d4 : S} {d5 d6 : D} {K : PV → List Ob → Prop} (hok : x.ok)
    (hx : pmIs x c0 c1 c2 c3 c4 c5 c6) (hy : pmIs y d0 d1 d2 d3 d4 d5 d6)
    (h : ∀ b, b = same x y → K (.bool b) []) : FC Tryz.prog tt 107 [] [pmPV c0 c1 c2 c3 c4 c5 c6, pmPV d0 d1 d2 d3 d4 d5 d6] K := by
  obtain ⟨a0, a1, a2⟩ := hx
  obtain ⟨b0, b1, b2⟩ := hy
  have hs := same_pm (x := x) (y := y)
  rw [← a0, ← b0, ← a1, ← b1] at hs
  clear a0 b0 a1 b1
  refine FC.enter (G := g107) tt_ok mixed ⟨Tryz.func107, by rfl, rfl⟩ rfl rfl rfl ?_
  intro A C L X
  cbv
  repeat' (first | apply And.intro | exact fun (_ : False → False) => by kernel_rfl | (intro h2; cbv) | apply Or.inl | (refine X.call (F83 _ hok a2 b2 fun b hb1 => ?_); cbv))
  all_goals (refine h _ ?_; rw [hs]; obtain rfl := X.a; (try subst hb1); (try subst hb2); (try subst hb3); (try subst hb4); simp only [SD, bNot] at *; simp [*])

set_option maxRecDepth 100000 in
theorem F82 {l m : List Pm} {d1 d2 : D} {K : PV → List Ob → Prop} (hd1 : d1 = encL encPm l) (hd2 : d2 = encL encPm m) (hl : l.length ≤ 4294967295) (hok : ∀ p ∈ l, p.ok)
    (h : ∀ b, b = same l m → K (.bool b) []) : FC Tryz.prog tt 82 [] [.lst 62 d1, .lst 62 d2] K := by
  refine FC.enter (G := g82) tt_ok mixed ⟨Tryz.func82, by rfl, rfl⟩ rfl rfl rfl ?_
  intro A C L X
  cbv
  refine X.call (F106 hd1 hd2 hl (fun x hx y _ _ _ _ _ _ _ _ _ _ _ _ _ _ K' k1 k2 hK => F107 (hok x hx) k1 k2 hK) fun b hb => ?_)
  cbv
  exact h _ hb

set_option maxRecDepth 100000 in
set_option maxHeartbeats 1000000 in
theorem F81 {x y : TE} {c0 : S} {c1 : D} {c2 : Int} {c3 c4 : S} {c5 c6 : D} {c7 : Int} {c8 c9 : S} {c10 c11 : D} {d0 : S} {d1 : D} {d2 : Int} {d3 d4 : S} {d5 d6 : D} {d7 : Int} {d8 d9 : S} {d10 d11 : D} {K : PV → List Ob → Prop} (hok : x.ok)
    (hx : teIs x c0 c1 c2 c3 c4 c5 c6 c7 c8 c9 c10 c11) (hy : teIs y d0 d1 d2 d3 d4 d5 d6 d7 d8 d9 d10 d11)
    (h : ∀ b, b = same x y → K (.bool b) []) : FC Tryz.prog tt 81 [] [tePV c0 c1 c2 c3 c4 c5 c6 c7 c8 c9 c10 c11, tePV d0 d1 d2 d3 d4 d5 d6 d7 d8 d9 d10 d11] K := by
  obtain ⟨a0, a1, a2, a3⟩ := hx
  obtain ⟨b0, b1, b2, b3⟩ := hy
  have hs := same_te (x := x) (y := y)
  rw [← a0, ← b0] at hs
  clear a0 b0
  refine FC.enter (G := g81) tt_ok mixed ⟨Tryz.func81, by rfl, rfl⟩ rfl rfl rfl ?_
  intro A C L X
  cbv
  repeat' (first | apply And.intro | exact fun (_ : False → False) => by kernel_rfl | (intro h2; cbv) | apply Or.inl)
  rotate_left
  · refine h _ ?_
    rw [hs]; obtain rfl := X.a; simp only [SD, bNot] at *; simp [*]
  refine X.call (F82 a1 b1 hok.np hok.p fun b hb1 => ?_)
  cbv
  repeat' (first | apply And.intro | exact fun (_ : False → False) => by kernel_rfl | (intro h2; cbv) | apply Or.inl)
  rotate_left
  · refine h _ ?_
    rw [hs]; obtain rfl := X.a; subst hb1; simp only [SD, bNot] at *; simp [*]
  refine X.call (F83 _ hok.lo a2 b2 fun b hb2 => ?_)
  cbv
  repeat' (first | apply And.intro | exact fun (_ : False → False) => by kernel_rfl | (intro h2; cbv) | apply Or.inl)
  rotate_left
  · refine h _ ?_
    rw [hs]; obtain rfl := X.a; subst hb1 hb2; simp only [SD, bNot] at *; simp [*]
  refine X.call (F83 _ hok.up a3 b3 fun b hb3 => ?_)
  cbv
  repeat' (first | apply And.intro | exact fun (_ : False → False) => by kernel_rfl | (intro h2; cbv) | apply Or.inl)
  all_goals (refine h _ ?_; rw [hs]; obtain rfl := X.a; (try subst hb1); (try subst hb2); (try subst hb3); (try subst hb4); simp only [SD, bNot] at *; simp [*])

set_option maxRecDepth 100000 in
set_option maxHeartbeats 1000000 in
theorem F85 {x y : VE} {c0 : S} {c1 : D} {c2 : Int} {c3 c4 : S} {c5 c6 : D} {d0 : S} {d1 : D} {d2 : Int} {d3 d4 : S} {d5 d6 : D} {K : PV → List Ob → Prop} (hok : x.ok)
    (hx : veIs x c0 c1 c2 c3 c4 c5 c6) (hy : veIs y d0 d1 d2 d3 d4 d5 d6)
    (h : ∀ b, b = same x y → K (.bool b) []) : FC Tryz.prog tt 85 [] [vePV c0 c1 c2 c3 c4 c5 c6, vePV d0 d1 d2 d3 d4 d5 d6] K := by
  obtain ⟨a0, a1, a2⟩ := hx
  obtain ⟨b0, b1, b2⟩ := hy
  have hs := same_ve (x := x) (y := y)
  rw [← a0, ← b0] at hs
  clear a0 b0
  refine FC.enter (G := g85) tt_ok mixed ⟨Tryz.func85, by rfl, rfl⟩ rfl rfl rfl ?_
  intro A C L X
  cbv
  repeat' (first | apply And.intro | exact fun (_ : False → False) => by kernel_rfl | (intro h2; cbv) | apply Or.inl | (refine X.call (F82 a1 b1 hok.np hok.p fun b hb1 => ?_); cbv) | (refine X.call (F83 _ hok.ty a2 b2 fun b hb2 => ?_); cbv))
  all_goals (refine h _ ?_; rw [hs]; obtain rfl := X.a; (try subst hb1); (try subst hb2); (try subst hb3); (try subst hb4); simp only [SD, bNot] at *; simp [*])

set_option maxRecDepth 100000 in
set_option maxHeartbeats 1000000 in
theorem F47 {x y : IF} {c0 : S} {c1 c2 c3 c4 : D} {d0 : S} {d1 d2 d3 d4 : D} {K : PV → List Ob → Prop} (hok : x.ok)
    (hx : ifIs x c0 c1 c2 c3 c4) (hy : ifIs y d0 d1 d2 d3 d4)
    (h : ∀ b, b = same x y → K (.bool b) []) : FC Tryz.prog tt 47 [] [ifPV c0 c1 c2 c3 c4, ifPV d0 d1 d2 d3 d4] K := by
  obtain ⟨a0, a1, a2, a3, a4⟩ := hx
  obtain ⟨b0, b1, b2, b3, b4⟩ := hy
  have hs := same_if (x := x) (y := y)
  rw [← a0, ← b0] at hs
  clear a0 b0
  refine FC.enter (G := g47) tt_ok mixed ⟨Tryz.func47, by rfl, rfl⟩ rfl rfl rfl ?_
  intro A C L X
  cbv
  repeat' (first | apply And.intro | exact fun (_ : False → False) => by kernel_rfl | (intro h2; cbv) | apply Or.inl | (refine X.call (F78 a3 b3 hok.na fun b hb1 => ?_); cbv) | (refine X.call (F79 a4 b4 hok.nd fun b hb2 => ?_); cbv) | (refine X.call (F80 a1 b1 hok.nt (fun x hx y _ _ _ _ _ _ _ _ _ _ _ _ _ _ _ _ _ _ _ _ _ _ _ _ K' k1 k2 hK => F81 (hok.t x hx) k1 k2 hK) fun b hb3 => ?_); cbv) | (refine X.call (F84 a2 b2 hok.nv (fun x hx y _ _ _ _ _ _ _ _ _ _ _ _ _ _ K' k1 k2 hK => F85 (hok.v x hx) k1 k2 hK) fun b hb4 => ?_); cbv))
  all_goals (refine h _ ?_; rw [hs]; obtain rfl := X.a; (try subst hb1); (try subst hb2); (try subst hb3); (try subst hb4); simp only [SD, bNot] at *; simp [*])

set_option maxRecDepth 100000 in
theorem F15 {l m : List IF} {d1 d2 : D} {K : PV → List Ob → Prop} (hd1 : d1 = encL encIF l) (hd2 : d2 = encL encIF m) (hl : l.length ≤ 4294967295) (hok : ∀ p ∈ l, p.ok)
    (h : ∀ b, b = same l m → K (.bool b) []) : FC Tryz.prog tt 15 [] [.lst 31 d1, .lst 31 d2] K := by
  refine FC.enter (G := g15) tt_ok mixed ⟨Tryz.func15, by rfl, rfl⟩ rfl rfl rfl ?_
  intro A C L X
  cbv
  refine X.call (F46 hd1 hd2 hl (fun x hx y _ _ _ _ _ _ _ _ _ _ K' k1 k2 hK => F47 (hok x hx) k1 k2 hK) fun b hb => ?_)
  cbv
  exact h _ hb
end Go.VC.T07
end

section
/- The library's search. -/
set_option linter.unusedSimpArgs false
set_option linter.unusedVariables false
namespace Go.VC
def Ty.zero : Ty := .mk 0 [] [] [] []
def TE.zero : TE := ⟨[], [], Ty.zero, Ty.zero⟩
def VE.zero : VE := ⟨[], [], Ty.zero⟩
def AE.zero : AE := ⟨[], [], []⟩
def IF.zero : IF := ⟨[], [], [], [], []⟩
theorem find_some' {α : Type} {p : α → Bool} {l : List α} {i : Nat} (h : i < l.length) (hp : p l[i] = true) (ha : ∀ x ∈ l.take i, p x = false) : l.find? p = some l[i] := by
  rw [List.find?_eq_some_iff_getElem]
  refine ⟨hp, i, h, rfl, fun j hj => ?_⟩
  have := ha l[j] (by rw [List.mem_take_iff_getElem]; exact ⟨j, by omega, rfl⟩)
  simp [this]
end Go.VC
namespace Go.VC.T07
open Go Go.VC Go.Proofs

set_option maxRecDepth 100000 in
set_option maxHeartbeats 1000000 in
theorem F105_73 {l : List IF} {d : D} {p : IF → Bool} {s : S} {K : PV → List Ob → Prop} (hd : d = encL encIF l) (hl : l.length ≤ 4294967295)
    (hg : ∀ x ∈ l, ∀ (c0 : S) (c1 : D) (c2 : D) (c3 : D) (c4 : D) (K' : PV → List Ob → Prop), ifIs x c0 c1 c2 c3 c4 → (∀ b, b = p x → K' (.bool b) []) → FC Tryz.prog tt 73 [] [ifPV c0 c1 c2 c3 c4, .pptr [.str s] 0] K')
    (h : ∀ r : Int, r = idxF p l → K (.int .i64 r) []) :
    FC Tryz.prog tt 105 [] [.lst 31 d, .clos 73 [.pptr [.str s] 0]] K := by
  refine FC.enter (G := g105) tt_ok mixed ⟨Tryz.func105, by rfl, rfl⟩ rfl rfl rfl ?_
  intro A C L X
  obtain ⟨n_d, hn_d⟩ : ∃ n, n = (l).length := ⟨_, rfl⟩
  have hlen_d : Std.len d = Int.ofNat n_d := by rw [hd, Std_len, hn_d]; rfl
  cbv
  refine X.loop (fun (i : Nat) => ⟨[(8, .int .i64 i), (7, .int .i64 (A.len d)), (1, .clos 73 [.pptr [.str s] 0]), (0, .lst 31 d)], []⟩) (fun i => i ≤ n_d ∧ ∀ x ∈ l.take i, p x = false) (fun i => n_d - i) 0 ⟨Nat.zero_le _, by simp⟩ ?_ ?_
  · (cbv; repeat' apply And.intro); all_goals (try (first | trivial | rfl | (rw [X.a]; rfl)))
  rintro i ⟨hi, ha⟩
  cbv
  refine ⟨fun h1 => ?_, fun h1 => ?_⟩
  · have h5 : i < l.length := by obtain rfl := X.a; simp only [hlen_d, SD, bNot] at h1; omega
    have k1 := ifIsAt X.a hd h5
    have hid : A.idx (Int.ofNat i) (A.len d) := by rw [X.a, hd]; exact leaf_idx h5
    have hin : A.inr .i64 (A.add (Int.ofNat i) 1) := by rw [X.a]; exact leaf_inc h5 (by omega)
    cbv
    repeat' (first | apply And.intro | exact fun (_ : False → False) => by kernel_rfl | (intro h2; cbv) | apply Or.inl)
    any_goals exact hid
    refine X.call (hg _ (List.getElem_mem h5) _ _ _ _ _ _ k1 fun b hb => ?_)
    have hb' : b = p l[i] := hb
    clear hb
    cbv
    repeat' (first | apply And.intro | exact fun (_ : False → False) => by kernel_rfl | (intro h2; cbv) | apply Or.inl)
    any_goals exact hin
    · refine h i ?_
      exact (idxF_some h5 ha (by rw [← hb']; obtain rfl := X.a; simpa only [SD, bNot] using h2)).symm
    · have hf : p l[i] = false := by rename_i h3; rw [← hb']; obtain rfl := X.a; simpa only [SD, bNot] using h3
      refine ⟨i+1, ⟨by omega, ?_⟩, by omega, ?_⟩
      · rw [take_succ' h5]; intro x hx
        rcases List.mem_append.1 hx with hx | hx
        · exact ha x hx
        · simp at hx; subst hx; exact hf
      (cbv; repeat' apply And.intro); all_goals (try (first | trivial | rfl | (rw [X.a]; rfl)))
  · have h5 : i = n_d := by obtain rfl := X.a; simp only [hlen_d, SD, bNot] at h1; omega
    subst h5
    cbv
    refine h (-1) ?_
    rw [hn_d, List.take_length] at ha
    exact (idxF_none ha).symm

set_option maxRecDepth 100000 in
set_option maxHeartbeats 1000000 in
theorem F72 {l : List IF} {d : D} {p : IF → Bool} {s : S} {K : PV → List Ob → Prop} (hd : d = encL encIF l) (hl : l.length ≤ 4294967295)
    (hg : ∀ x ∈ l, ∀ (c0 : S) (c1 : D) (c2 : D) (c3 : D) (c4 : D) (K' : PV → List Ob → Prop), ifIs x c0 c1 c2 c3 c4 → (∀ b, b = p x → K' (.bool b) []) → FC Tryz.prog tt 73 [] [ifPV c0 c1 c2 c3 c4, .pptr [.str s] 0] K')
    (h : ∀ e0 e1 e2 e3 e4 b, ifIs ((l.find? p).getD IF.zero) e0 e1 e2 e3 e4 → b = (l.find? p).isSome → K (.tup [ifPV e0 e1 e2 e3 e4, .bool b]) []) :
    FC Tryz.prog tt 72 [] [.lst 31 d, .clos 73 [.pptr [.str s] 0]] K := by
  refine FC.enter (G := g72) tt_ok mixed ⟨Tryz.func72, by rfl, rfl⟩ rfl rfl rfl ?_
  intro A C L X
  obtain ⟨n_d, hn_d⟩ : ∃ n, n = (l).length := ⟨_, rfl⟩
  have hlen_d : Std.len d = Int.ofNat n_d := by rw [hd, Std_len, hn_d]; rfl
  cbv
  refine X.call (F105_73 hd hl hg fun r hr => ?_)
  rcases idxF_cases p l with ⟨e1, e2⟩ | ⟨i, h5, e1, e2, e3⟩
  · have hz : l.find? p = none := by rw [List.find?_eq_none]; intro x hx; simp [e2 x hx]
    cbv
    repeat' (first | apply And.intro | exact fun (_ : False → False) => by kernel_rfl | (intro h2; cbv) | apply Or.inl)
    · exfalso; rw [e1] at hr; subst hr; obtain rfl := X.a; simp only [SD, bNot] at h2; omega
    · exfalso; rw [e1] at hr; subst hr; obtain rfl := X.a; simp only [SD, bNot] at h2; omega
    · refine h _ _ _ _ _ _ ?_ ?_
      · rw [hz]; exact ⟨rfl, rfl, rfl, rfl, rfl⟩
      · rw [hz]; rfl
  · have hz : l.find? p = some l[i] := find_some' h5 e2 e3
    rw [e1] at hr
    obtain rfl : r = Int.ofNat i := hr
    have k1 := ifIsAt X.a hd h5
    have hid : A.idx (Int.ofNat i) (A.len d) := by rw [X.a, hd]; exact leaf_idx h5
    cbv
    repeat' (first | apply And.intro | exact fun (_ : False → False) => by kernel_rfl | (intro h2; cbv) | apply Or.inl)
    any_goals exact hid
    · refine h _ _ _ _ _ _ ?_ ?_
      · rw [hz]; exact k1
      · rw [hz]; rfl
    · exfalso; obtain rfl := X.a; simp only [SD, bNot] at h2; omega

set_option maxRecDepth 100000 in
theorem F73 {x : IF} {s : S} {c0 : S} {c1 : D} {c2 : D} {c3 : D} {c4 : D} {K : PV → List Ob → Prop} (hx : ifIs x c0 c1 c2 c3 c4) (h : ∀ b, b = (x.path == s) → K (.bool b) []) :
    FC Tryz.prog tt 73 [] [ifPV c0 c1 c2 c3 c4, .pptr [.str s] 0] K := by
  have k := hx.1
  refine FC.enter (G := g73) tt_ok mixed ⟨Tryz.func73, by rfl, rfl⟩ rfl rfl rfl ?_
  intro A C L X
  have q := h (A.seq c0 s) (by rw [X.a, ← k]; rfl)
  cbv
  exact q

set_option maxRecDepth 100000 in
set_option maxHeartbeats 1000000 in
theorem F144_124 {l : List TE} {d : D} {p : TE → Bool} {s : S} {K : PV → List Ob → Prop} (hd : d = encL encTE l) (hl : l.length ≤ 4294967295)
    (hg : ∀ x ∈ l, ∀ (c0 : S) (c1 : D) (c2 : Int) (c3 : S) (c4 : S) (c5 : D) (c6 : D) (c7 : Int) (c8 : S) (c9 : S) (c10 : D) (c11 : D) (K' : PV → List Ob → Prop), teIs x c0 c1 c2 c3 c4 c5 c6 c7 c8 c9 c10 c11 → (∀ b, b = p x → K' (.bool b) []) → FC Tryz.prog tt 124 [] [tePV c0 c1 c2 c3 c4 c5 c6 c7 c8 c9 c10 c11, .pptr [.str s] 0] K')
    (h : ∀ r : Int, r = idxF p l → K (.int .i64 r) []) :
    FC Tryz.prog tt 144 [] [.lst 58 d, .clos 124 [.pptr [.str s] 0]] K := by
  refine FC.enter (G := g144) tt_ok mixed ⟨Tryz.func144, by rfl, rfl⟩ rfl rfl rfl ?_
  intro A C L X
  obtain ⟨n_d, hn_d⟩ : ∃ n, n = (l).length := ⟨_, rfl⟩
  have hlen_d : Std.len d = Int.ofNat n_d := by rw [hd, Std_len, hn_d]; rfl
  cbv
  refine X.loop (fun (i : Nat) => ⟨[(8, .int .i64 i), (7, .int .i64 (A.len d)), (1, .clos 124 [.pptr [.str s] 0]), (0, .lst 58 d)], []⟩) (fun i => i ≤ n_d ∧ ∀ x ∈ l.take i, p x = false) (fun i => n_d - i) 0 ⟨Nat.zero_le _, by simp⟩ ?_ ?_
  · (cbv; repeat' apply And.intro); all_goals (try (first | trivial | rfl | (rw [X.a]; rfl)))
  rintro i ⟨hi, ha⟩
  cbv
  refine ⟨fun h1 => ?_, fun h1 => ?_⟩
  · have h5 : i < l.length := by obtain rfl := X.a; simp only [hlen_d, SD, bNot] at h1; omega
    have k1 := teIsAt X.a hd h5
    have hid : A.idx (Int.ofNat i) (A.len d) := by rw [X.a, hd]; exact leaf_idx h5
    have hin : A.inr .i64 (A.add (Int.ofNat i) 1) := by rw [X.a]; exact leaf_inc h5 (by omega)
    cbv
    repeat' (first | apply And.intro | exact fun (_ : False → False) => by kernel_rfl | (intro h2; cbv) | apply Or.inl)
    any_goals exact hid
    refine X.call (hg _ (List.getElem_mem h5) _ _ _ _ _ _ _ _ _ _ _ _ _ k1 fun b hb => ?_)
    have hb' : b = p l[i] := hb
    clear hb
    cbv
    repeat' (first | apply And.intro | exact fun (_ : False → False) => by kernel_rfl | (intro h2; cbv) | apply Or.inl)
    any_goals exact hin
    · refine h i ?_
      exact (idxF_some h5 ha (by rw [← hb']; obtain rfl := X.a; simpa only [SD, bNot] using h2)).symm
    · have hf : p l[i] = false := by rename_i h3; rw [← hb']; obtain rfl := X.a; simpa only [SD, bNot] using h3
      refine ⟨i+1, ⟨by omega, ?_⟩, by omega, ?_⟩
      · rw [take_succ' h5]; intro x hx
        rcases List.mem_append.1 hx with hx | hx
        · exact ha x hx
        · simp at hx; subst hx; exact hf
      (cbv; repeat' apply And.intro); all_goals (try (first | trivial | rfl | (rw [X.a]; rfl)))
  · have h5 : i = n_d := by obtain rfl := X.a; simp only [hlen_d, SD, bNot] at h1; omega
    subst h5
    cbv
    refine h (-1) ?_
    rw [hn_d, List.take_length] at ha
    exact (idxF_none ha).symm

set_option maxRecDepth 100000 in
set_option maxHeartbeats 1000000 in
theorem F123 {l : List TE} {d : D} {p : TE → Bool} {s : S} {K : PV → List Ob → Prop} (hd : d = encL encTE l) (hl : l.length ≤ 4294967295)
    (hg : ∀ x ∈ l, ∀ (c0 : S) (c1 : D) (c2 : Int) (c3 : S) (c4 : S) (c5 : D) (c6 : D) (c7 : Int) (c8 : S) (c9 : S) (c10 : D) (c11 : D) (K' : PV → List Ob → Prop), teIs x c0 c1 c2 c3 c4 c5 c6 c7 c8 c9 c10 c11 → (∀ b, b = p x → K' (.bool b) []) → FC Tryz.prog tt 124 [] [tePV c0 c1 c2 c3 c4 c5 c6 c7 c8 c9 c10 c11, .pptr [.str s] 0] K')
    (h : ∀ e0 e1 e2 e3 e4 e5 e6 e7 e8 e9 e10 e11 b, teIs ((l.find? p).getD TE.zero) e0 e1 e2 e3 e4 e5 e6 e7 e8 e9 e10 e11 → b = (l.find? p).isSome → K (.tup [tePV e0 e1 e2 e3 e4 e5 e6 e7 e8 e9 e10 e11, .bool b]) []) :
    FC Tryz.prog tt 123 [] [.lst 58 d, .clos 124 [.pptr [.str s] 0]] K := by
  refine FC.enter (G := g123) tt_ok mixed ⟨Tryz.func123, by rfl, rfl⟩ rfl rfl rfl ?_
  intro A C L X
  obtain ⟨n_d, hn_d⟩ : ∃ n, n = (l).length := ⟨_, rfl⟩
  have hlen_d : Std.len d = Int.ofNat n_d := by rw [hd, Std_len, hn_d]; rfl
  cbv
  refine X.call (F144_124 hd hl hg fun r hr => ?_)
  rcases idxF_cases p l with ⟨e1, e2⟩ | ⟨i, h5, e1, e2, e3⟩
  · have hz : l.find? p = none := by rw [List.find?_eq_none]; intro x hx; simp [e2 x hx]
    cbv
    repeat' (first | apply And.intro | exact fun (_ : False → False) => by kernel_rfl | (intro h2; cbv) | apply Or.inl)
    · exfalso; rw [e1] at hr; subst hr; obtain rfl := X.a; simp only [SD, bNot] at h2; omega
    · exfalso; rw [e1] at hr; subst hr; obtain rfl := X.a; simp only [SD, bNot] at h2; omega
    · refine h _ _ _ _ _ _ _ _ _ _ _ _ _ ?_ ?_
      · rw [hz]; exact ⟨rfl, rfl, ⟨rfl, rfl, rfl, rfl, rfl⟩, rfl, rfl, rfl, rfl, rfl⟩
      · rw [hz]; rfl
  · have hz : l.find? p = some l[i] := find_some' h5 e2 e3
    rw [e1] at hr
    obtain rfl : r = Int.ofNat i := hr
    have k1 := teIsAt X.a hd h5
    have hid : A.idx (Int.ofNat i) (A.len d) := by rw [X.a, hd]; exact leaf_idx h5
    cbv
    repeat' (first | apply And.intro | exact fun (_ : False → False) => by kernel_rfl | (intro h2; cbv) | apply Or.inl)
    any_goals exact hid
    · refine h _ _ _ _ _ _ _ _ _ _ _ _ _ ?_ ?_
      · rw [hz]; exact k1
      · rw [hz]; rfl
    · exfalso; obtain rfl := X.a; simp only [SD, bNot] at h2; omega

set_option maxRecDepth 100000 in
theorem F124 {x : TE} {s : S} {c0 : S} {c1 : D} {c2 : Int} {c3 : S} {c4 : S} {c5 : D} {c6 : D} {c7 : Int} {c8 : S} {c9 : S} {c10 : D} {c11 : D} {K : PV → List Ob → Prop} (hx : teIs x c0 c1 c2 c3 c4 c5 c6 c7 c8 c9 c10 c11) (h : ∀ b, b = (x.name == s) → K (.bool b) []) :
    FC Tryz.prog tt 124 [] [tePV c0 c1 c2 c3 c4 c5 c6 c7 c8 c9 c10 c11, .pptr [.str s] 0] K := by
  have k := hx.1
  refine FC.enter (G := g124) tt_ok mixed ⟨Tryz.func124, by rfl, rfl⟩ rfl rfl rfl ?_
  intro A C L X
  have q := h (A.seq c0 s) (by rw [X.a, ← k]; rfl)
  cbv
  exact q

set_option maxRecDepth 100000 in
set_option maxHeartbeats 1000000 in
theorem F145_126 {l : List VE} {d : D} {p : VE → Bool} {s : S} {K : PV → List Ob → Prop} (hd : d = encL encVE l) (hl : l.length ≤ 4294967295)
    (hg : ∀ x ∈ l, ∀ (c0 : S) (c1 : D) (c2 : Int) (c3 : S) (c4 : S) (c5 : D) (c6 : D) (K' : PV → List Ob → Prop), veIs x c0 c1 c2 c3 c4 c5 c6 → (∀ b, b = p x → K' (.bool b) []) → FC Tryz.prog tt 126 [] [vePV c0 c1 c2 c3 c4 c5 c6, .pptr [.str s] 0] K')
    (h : ∀ r : Int, r = idxF p l → K (.int .i64 r) []) :
    FC Tryz.prog tt 145 [] [.lst 76 d, .clos 126 [.pptr [.str s] 0]] K := by
  refine FC.enter (G := g145) tt_ok mixed ⟨Tryz.func145, by rfl, rfl⟩ rfl rfl rfl ?_
  intro A C L X
  obtain ⟨n_d, hn_d⟩ : ∃ n, n = (l).length := ⟨_, rfl⟩
  have hlen_d : Std.len d = Int.ofNat n_d := by rw [hd, Std_len, hn_d]; rfl
  cbv
  refine X.loop (fun (i : Nat) => ⟨[(8, .int .i64 i), (7, .int .i64 (A.len d)), (1, .clos 126 [.pptr [.str s] 0]), (0, .lst 76 d)], []⟩) (fun i => i ≤ n_d ∧ ∀ x ∈ l.take i, p x = false) (fun i => n_d - i) 0 ⟨Nat.zero_le _, by simp⟩ ?_ ?_
  · (cbv; repeat' apply And.intro); all_goals (try (first | trivial | rfl | (rw [X.a]; rfl)))
  rintro i ⟨hi, ha⟩
  cbv
  refine ⟨fun h1 => ?_, fun h1 => ?_⟩
  · have h5 : i < l.length := by obtain rfl := X.a; simp only [hlen_d, SD, bNot] at h1; omega
    have k1 := veIsAt X.a hd h5
    have hid : A.idx (Int.ofNat i) (A.len d) := by rw [X.a, hd]; exact leaf_idx h5
    have hin : A.inr .i64 (A.add (Int.ofNat i) 1) := by rw [X.a]; exact leaf_inc h5 (by omega)
    cbv
    repeat' (first | apply And.intro | exact fun (_ : False → False) => by kernel_rfl | (intro h2; cbv) | apply Or.inl)
    any_goals exact hid
    refine X.call (hg _ (List.getElem_mem h5) _ _ _ _ _ _ _ _ k1 fun b hb => ?_)
    have hb' : b = p l[i] := hb
    clear hb
    cbv
    repeat' (first | apply And.intro | exact fun (_ : False → False) => by kernel_rfl | (intro h2; cbv) | apply Or.inl)
    any_goals exact hin
    · refine h i ?_
      exact (idxF_some h5 ha (by rw [← hb']; obtain rfl := X.a; simpa only [SD, bNot] using h2)).symm
    · have hf : p l[i] = false := by rename_i h3; rw [← hb']; obtain rfl := X.a; simpa only [SD, bNot] using h3
      refine ⟨i+1, ⟨by omega, ?_⟩, by omega, ?_⟩
      · rw [take_succ' h5]; intro x hx
        rcases List.mem_append.1 hx with hx | hx
        · exact ha x hx
        · simp at hx; subst hx; exact hf
      (cbv; repeat' apply And.intro); all_goals (try (first | trivial | rfl | (rw [X.a]; rfl)))
  · have h5 : i = n_d := by obtain rfl := X.a; simp only [hlen_d, SD, bNot] at h1; omega
    subst h5
    cbv
    refine h (-1) ?_
    rw [hn_d, List.take_length] at ha
    exact (idxF_none ha).symm

set_option maxRecDepth 100000 in
set_option maxHeartbeats 1000000 in
theorem F125 {l : List VE} {d : D} {p : VE → Bool} {s : S} {K : PV → List Ob → Prop} (hd : d = encL encVE l) (hl : l.length ≤ 4294967295)
    (hg : ∀ x ∈ l, ∀ (c0 : S) (c1 : D) (c2 : Int) (c3 : S) (c4 : S) (c5 : D) (c6 : D) (K' : PV → List Ob → Prop), veIs x c0 c1 c2 c3 c4 c5 c6 → (∀ b, b = p x → K' (.bool b) []) → FC Tryz.prog tt 126 [] [vePV c0 c1 c2 c3 c4 c5 c6, .pptr [.str s] 0] K')
    (h : ∀ e0 e1 e2 e3 e4 e5 e6 b, veIs ((l.find? p).getD VE.zero) e0 e1 e2 e3 e4 e5 e6 → b = (l.find? p).isSome → K (.tup [vePV e0 e1 e2 e3 e4 e5 e6, .bool b]) []) :
    FC Tryz.prog tt 125 [] [.lst 76 d, .clos 126 [.pptr [.str s] 0]] K := by
  refine FC.enter (G := g125) tt_ok mixed ⟨Tryz.func125, by rfl, rfl⟩ rfl rfl rfl ?_
  intro A C L X
  obtain ⟨n_d, hn_d⟩ : ∃ n, n = (l).length := ⟨_, rfl⟩
  have hlen_d : Std.len d = Int.ofNat n_d := by rw [hd, Std_len, hn_d]; rfl
  cbv
  refine X.call (F145_126 hd hl hg fun r hr => ?_)
  rcases idxF_cases p l with ⟨e1, e2⟩ | ⟨i, h5, e1, e2, e3⟩
  · have hz : l.find? p = none := by rw [List.find?_eq_none]; intro x hx; simp [e2 x hx]
    cbv
    repeat' (first | apply And.intro | exact fun (_ : False → False) => by kernel_rfl | (intro h2; cbv) | apply Or.inl)
    · exfalso; rw [e1] at hr; subst hr; obtain rfl := X.a; simp only [SD, bNot] at h2; omega
    · exfalso; rw [e1] at hr; subst hr; obtain rfl := X.a; simp only [SD, bNot] at h2; omega
    · refine h _ _ _ _ _ _ _ _ ?_ ?_
      · rw [hz]; exact ⟨rfl, rfl, rfl, rfl, rfl, rfl, rfl⟩
      · rw [hz]; rfl
  · have hz : l.find? p = some l[i] := find_some' h5 e2 e3
    rw [e1] at hr
    obtain rfl : r = Int.ofNat i := hr
    have k1 := veIsAt X.a hd h5
    have hid : A.idx (Int.ofNat i) (A.len d) := by rw [X.a, hd]; exact leaf_idx h5
    cbv
    repeat' (first | apply And.intro | exact fun (_ : False → False) => by kernel_rfl | (intro h2; cbv) | apply Or.inl)
    any_goals exact hid
    · refine h _ _ _ _ _ _ _ _ ?_ ?_
      · rw [hz]; exact k1
      · rw [hz]; rfl
    · exfalso; obtain rfl := X.a; simp only [SD, bNot] at h2; omega

set_option maxRecDepth 100000 in
theorem F126 {x : VE} {s : S} {c0 : S} {c1 : D} {c2 : Int} {c3 : S} {c4 : S} {c5 : D} {c6 : D} {K : PV → List Ob → Prop} (hx : veIs x c0 c1 c2 c3 c4 c5 c6) (h : ∀ b, b = (x.name == s) → K (.bool b) []) :
    FC Tryz.prog tt 126 [] [vePV c0 c1 c2 c3 c4 c5 c6, .pptr [.str s] 0] K := by
  have k := hx.1
  refine FC.enter (G := g126) tt_ok mixed ⟨Tryz.func126, by rfl, rfl⟩ rfl rfl rfl ?_
  intro A C L X
  have q := h (A.seq c0 s) (by rw [X.a, ← k]; rfl)
  cbv
  exact q

set_option maxRecDepth 100000 in
set_option maxHeartbeats 1000000 in
theorem F146_128 {l : List AE} {d : D} {p : AE → Bool} {s : S} {K : PV → List Ob → Prop} (hd : d = encL encAE l) (hl : l.length ≤ 4294967295)
    (hg : ∀ x ∈ l, ∀ (c0 : S) (c1 : S) (c2 : S) (K' : PV → List Ob → Prop), aeIs x c0 c1 c2 → (∀ b, b = p x → K' (.bool b) []) → FC Tryz.prog tt 128 [] [aePV c0 c1 c2, .pptr [.str s] 0] K')
    (h : ∀ r : Int, r = idxF p l → K (.int .i64 r) []) :
    FC Tryz.prog tt 146 [] [.lst 72 d, .clos 128 [.pptr [.str s] 0]] K := by
  refine FC.enter (G := g146) tt_ok mixed ⟨Tryz.func146, by rfl, rfl⟩ rfl rfl rfl ?_
  intro A C L X
  obtain ⟨n_d, hn_d⟩ : ∃ n, n = (l).length := ⟨_, rfl⟩
  have hlen_d : Std.len d = Int.ofNat n_d := by rw [hd, Std_len, hn_d]; rfl
  cbv
  refine X.loop (fun (i : Nat) => ⟨[(8, .int .i64 i), (7, .int .i64 (A.len d)), (1, .clos 128 [.pptr [.str s] 0]), (0, .lst 72 d)], []⟩) (fun i => i ≤ n_d ∧ ∀ x ∈ l.take i, p x = false) (fun i => n_d - i) 0 ⟨Nat.zero_le _, by simp⟩ ?_ ?_
  · (cbv; repeat' apply And.intro); all_goals (try (first | trivial | rfl | (rw [X.a]; rfl)))
  rintro i ⟨hi, ha⟩
  cbv
  refine ⟨fun h1 => ?_, fun h1 => ?_⟩
  · have h5 : i < l.length := by obtain rfl := X.a; simp only [hlen_d, SD, bNot] at h1; omega
    have k1 := aeIsAt X.a hd h5
    have hid : A.idx (Int.ofNat i) (A.len d) := by rw [X.a, hd]; exact leaf_idx h5
    have hin : A.inr .i64 (A.add (Int.ofNat i) 1) := by rw [X.a]; exact leaf_inc h5 (by omega)
    cbv
    repeat' (first | apply And.intro | exact fun (_ : False → False) => by kernel_rfl | (intro h2; cbv) | apply Or.inl)
    any_goals exact hid
    refine X.call (hg _ (List.getElem_mem h5) _ _ _ _ k1 fun b hb => ?_)
    have hb' : b = p l[i] := hb
    clear hb
    cbv
    repeat' (first | apply And.intro | exact fun (_ : False → False) => by kernel_rfl | (intro h2; cbv) | apply Or.inl)
    any_goals exact hin
    · refine h i ?_
      exact (idxF_some h5 ha (by rw [← hb']; obtain rfl := X.a; simpa only [SD, bNot] using h2)).symm
    · have hf : p l[i] = false := by rename_i h3; rw [← hb']; obtain rfl := X.a; simpa only [SD, bNot] using h3
      refine ⟨i+1, ⟨by omega, ?_⟩, by omega, ?_⟩
      · rw [take_succ' h5]; intro x hx
        rcases List.mem_append.1 hx with hx | hx
        · exact ha x hx
        · simp at hx; subst hx; exact hf
      (cbv; repeat' apply And.intro); all_goals (try (first | trivial | rfl | (rw [X.a]; rfl)))
  · have h5 : i = n_d := by obtain rfl := X.a; simp only [hlen_d, SD, bNot] at h1; omega
    subst h5
    cbv
    refine h (-1) ?_
    rw [hn_d, List.take_length] at ha
    exact (idxF_none ha).symm

set_option maxRecDepth 100000 in
set_option maxHeartbeats 1000000 in
theorem F127 {l : List AE} {d : D} {p : AE → Bool} {s : S} {K : PV → List Ob → Prop} (hd : d = encL encAE l) (hl : l.length ≤ 4294967295)
    (hg : ∀ x ∈ l, ∀ (c0 : S) (c1 : S) (c2 : S) (K' : PV → List Ob → Prop), aeIs x c0 c1 c2 → (∀ b, b = p x → K' (.bool b) []) → FC Tryz.prog tt 128 [] [aePV c0 c1 c2, .pptr [.str s] 0] K')
    (h : ∀ e0 e1 e2 b, aeIs ((l.find? p).getD AE.zero) e0 e1 e2 → b = (l.find? p).isSome → K (.tup [aePV e0 e1 e2, .bool b]) []) :
    FC Tryz.prog tt 127 [] [.lst 72 d, .clos 128 [.pptr [.str s] 0]] K := by
  refine FC.enter (G := g127) tt_ok mixed ⟨Tryz.func127, by rfl, rfl⟩ rfl rfl rfl ?_
  intro A C L X
  obtain ⟨n_d, hn_d⟩ : ∃ n, n = (l).length := ⟨_, rfl⟩
  have hlen_d : Std.len d = Int.ofNat n_d := by rw [hd, Std_len, hn_d]; rfl
  cbv
  refine X.call (F146_128 hd hl hg fun r hr => ?_)
  rcases idxF_cases p l with ⟨e1, e2⟩ | ⟨i, h5, e1, e2, e3⟩
  · have hz : l.find? p = none := by rw [List.find?_eq_none]; intro x hx; simp [e2 x hx]
    cbv
    repeat' (first | apply And.intro | exact fun (_ : False → False) => by kernel_rfl | (intro h2; cbv) | apply Or.inl)
    · exfalso; rw [e1] at hr; subst hr; obtain rfl := X.a; simp only [SD, bNot] at h2; omega
    · exfalso; rw [e1] at hr; subst hr; obtain rfl := X.a; simp only [SD, bNot] at h2; omega
    · refine h _ _ _ _ ?_ ?_
      · rw [hz]; exact ⟨rfl, rfl, rfl⟩
      · rw [hz]; rfl
  · have hz : l.find? p = some l[i] := find_some' h5 e2 e3
    rw [e1] at hr
    obtain rfl : r = Int.ofNat i := hr
    have k1 := aeIsAt X.a hd h5
    have hid : A.idx (Int.ofNat i) (A.len d) := by rw [X.a, hd]; exact leaf_idx h5
    cbv
    repeat' (first | apply And.intro | exact fun (_ : False → False) => by kernel_rfl | (intro h2; cbv) | apply Or.inl)
    any_goals exact hid
    · refine h _ _ _ _ ?_ ?_
      · rw [hz]; exact k1
      · rw [hz]; rfl
    · exfalso; obtain rfl := X.a; simp only [SD, bNot] at h2; omega

set_option maxRecDepth 100000 in
theorem F128 {x : AE} {s : S} {c0 : S} {c1 : S} {c2 : S} {K : PV → List Ob → Prop} (hx : aeIs x c0 c1 c2) (h : ∀ b, b = (x.name == s) → K (.bool b) []) :
    FC Tryz.prog tt 128 [] [aePV c0 c1 c2, .pptr [.str s] 0] K := by
  have k := hx.1
  refine FC.enter (G := g128) tt_ok mixed ⟨Tryz.func128, by rfl, rfl⟩ rfl rfl rfl ?_
  intro A C L X
  have q := h (A.seq c0 s) (by rw [X.a, ← k]; rfl)
  cbv
  exact q
end Go.VC.T07
end

section
/- Copies of entries. -/
set_option linter.unusedSimpArgs false
set_option linter.unusedVariables false
namespace Go.VC.T07
open Go Go.VC Go.Proofs

set_option maxRecDepth 100000 in
set_option maxHeartbeats 1000000 in
theorem F103 {l : List Pm} {d : D} {K : PV → List Ob → Prop} (hd : d = encL encPm l) (hl : l.length ≤ 4294967295) (hok : ∀ p ∈ l, p.ok) (h : ∀ r, r = encL encPm l → K (.lst 62 r) []) : FC Tryz.prog tt 103 [] [.lst 62 d] K := by
  refine FC.enter (G := g103) tt_ok mixed ⟨Tryz.func103, by rfl, rfl⟩ rfl rfl rfl ?_
  intro A C L X
  cbv
  refine X.call (F129 hd (by omega) fun r hr => ?_)
  obtain ⟨n_r, hn_r⟩ : ∃ n, n = (l).length := ⟨_, rfl⟩
  have hlen_r : Std.len r = Int.ofNat n_r := by rw [hr, Std_len, hn_r]; rfl
  cbv
  refine X.loopP (fun (x : Nat × D) => ⟨[(8, .int .i64 x.1), (7, .int .i64 (A.len r)), (0, .row 62 0)], [.row 62 x.2 true]⟩) (fun x => x.1 ≤ n_r ∧ x.2 = encL encPm l) (fun x => n_r - x.1) (0, r) ⟨Nat.zero_le _, hr⟩ ?_ ?_
  · refine ⟨[0], rfl, ?_⟩
    (cbv; repeat' apply And.intro); all_goals (try (first | trivial | rfl | (rw [X.a]; rfl)))
  rintro ⟨i, z⟩ ⟨hi, hz⟩
  simp only at hi hz
  cbv
  refine ⟨fun h1 => ?_, fun h1 => ?_⟩
  · have h5 : i < l.length := by obtain rfl := X.a; simp only [hlen_r, SD, bNot] at h1; omega
    have k1 := pmTyAt X.a hz h5
    have hid : A.idx (Int.ofNat i) (A.len z) := by rw [X.a, hz]; exact leaf_idx h5
    have hin : A.inr .i64 (A.add (Int.ofNat i) 1) := by rw [X.a]; exact leaf_inc h5 (by omega)
    cbv
    repeat' (first | apply And.intro | exact fun (_ : False → False) => by kernel_rfl | (intro h2; cbv) | apply Or.inl)
    any_goals exact hid
    refine X.call (F104 _ (hok _ (List.getElem_mem h5)) k1 fun e0 e1 e2 e3 e4 he => ?_)
    obtain ⟨he0, he1, he2, he3, he4⟩ := he
    have q1 : A.setc z (Int.ofNat i) 2 [.int e0, .str e1, .str e2, e3, e4] = z := setc_self X.a hz h5 (by rw [encPm_eq, he0, he1, he2, he3, he4]; rfl)
    cbv
    repeat' (first | apply And.intro | exact fun (_ : False → False) => by kernel_rfl | (intro h2; cbv) | apply Or.inl)
    any_goals exact hid
    any_goals exact hin
    refine ⟨(i+1, A.setc z (Int.ofNat i) 2 [.int e0, .str e1, .str e2, e3, e4]), ⟨by simp only; omega, q1.trans hz⟩, by simp only; omega, [0], rfl, ?_⟩
    (cbv; repeat' apply And.intro); all_goals (try (first | trivial | rfl | (rw [X.a]; rfl)))
  cbv
  exact h z hz

set_option maxRecDepth 100000 in
set_option maxHeartbeats 1000000 in
theorem F70 {x : TE} (hx : x.ok) {c0 : S} {c1 : D} {c2 : Int} {c3 c4 : S} {c5 c6 : D} {c7 : Int} {c8 c9 : S} {c10 c11 : D} {K : PV → List Ob → Prop} (hc : teIs x c0 c1 c2 c3 c4 c5 c6 c7 c8 c9 c10 c11)
    (h : ∀ e0 e1 e2 e3 e4 e5 e6 e7 e8 e9 e10 e11, teIs x e0 e1 e2 e3 e4 e5 e6 e7 e8 e9 e10 e11 → K (tePV e0 e1 e2 e3 e4 e5 e6 e7 e8 e9 e10 e11) []) :
    FC Tryz.prog tt 70 [] [tePV c0 c1 c2 c3 c4 c5 c6 c7 c8 c9 c10 c11] K := by
  obtain ⟨k0, k1, k2, k3⟩ := hc
  refine FC.enter (G := g70) tt_ok mixed ⟨Tryz.func70, by rfl, rfl⟩ rfl rfl rfl ?_
  intro A C L X
  cbv
  repeat' (first | apply And.intro | exact fun (_ : False → False) => by kernel_rfl | (intro h2; cbv) | apply Or.inl)
  refine X.call (F103 k1 hx.np hx.p fun r hr => ?_)
  cbv
  repeat' (first | apply And.intro | exact fun (_ : False → False) => by kernel_rfl | (intro h2; cbv) | apply Or.inl)
  refine X.call (F104 _ hx.lo k2 fun e0 e1 e2 e3 e4 he => ?_)
  cbv
  repeat' (first | apply And.intro | exact fun (_ : False → False) => by kernel_rfl | (intro h2; cbv) | apply Or.inl)
  refine X.call (F104 _ hx.up k3 fun g0 g1 g2 g3 g4 hg => ?_)
  cbv
  repeat' (first | apply And.intro | exact fun (_ : False → False) => by kernel_rfl | (intro h2; cbv) | apply Or.inl)
  exact h _ _ _ _ _ _ _ _ _ _ _ _ ⟨k0, hr, he, hg⟩

set_option maxRecDepth 100000 in
set_option maxHeartbeats 1000000 in
theorem F71 {x : VE} (hx : x.ok) {c0 : S} {c1 : D} {c2 : Int} {c3 c4 : S} {c5 c6 : D} {K : PV → List Ob → Prop} (hc : veIs x c0 c1 c2 c3 c4 c5 c6)
    (h : ∀ e0 e1 e2 e3 e4 e5 e6, veIs x e0 e1 e2 e3 e4 e5 e6 → K (vePV e0 e1 e2 e3 e4 e5 e6) []) :
    FC Tryz.prog tt 71 [] [vePV c0 c1 c2 c3 c4 c5 c6] K := by
  obtain ⟨k0, k1, k2⟩ := hc
  refine FC.enter (G := g71) tt_ok mixed ⟨Tryz.func71, by rfl, rfl⟩ rfl rfl rfl ?_
  intro A C L X
  cbv
  repeat' (first | apply And.intro | exact fun (_ : False → False) => by kernel_rfl | (intro h2; cbv) | apply Or.inl)
  refine X.call (F103 k1 hx.np hx.p fun r hr => ?_)
  cbv
  repeat' (first | apply And.intro | exact fun (_ : False → False) => by kernel_rfl | (intro h2; cbv) | apply Or.inl)
  refine X.call (F104 _ hx.ty k2 fun e0 e1 e2 e3 e4 he => ?_)
  cbv
  repeat' (first | apply And.intro | exact fun (_ : False → False) => by kernel_rfl | (intro h2; cbv) | apply Or.inl)
  exact h _ _ _ _ _ _ _ ⟨k0, hr, he⟩
end Go.VC.T07
end

section
/- The copy of an interface. -/
set_option linter.unusedSimpArgs false
set_option linter.unusedVariables false
namespace Go.VC.T07
open Go Go.VC Go.Proofs

set_option maxRecDepth 100000 in
set_option maxHeartbeats 2000000 in
theorem F44 {x : IF} (hx : x.ok) {c0 : S} {c1 c2 c3 c4 : D} {K : PV → List Ob → Prop} (hc : ifIs x c0 c1 c2 c3 c4)
    (h : ∀ e0 e1 e2 e3 e4, ifIs x e0 e1 e2 e3 e4 → K (ifPV e0 e1 e2 e3 e4) []) :
    FC Tryz.prog tt 44 [] [ifPV c0 c1 c2 c3 c4] K := by
  obtain ⟨k0, hc1, hc2, hc3, hc4⟩ := hc
  have nt := hx.nt
  have nv := hx.nv
  have na := hx.na
  have nd := hx.nd
  refine FC.enter (G := g44) tt_ok mixed ⟨Tryz.func44, by rfl, rfl⟩ rfl rfl rfl ?_
  intro A C L X
  cbv
  refine X.cut (fun (z : D × D) => ⟨[(1, .box 0 0), (2, .box 1 0)], [.box [.str c0, .row 58 2, .row 76 3, .lst 72 c3, .lst 87 c4], .box [.undef, .undef, .undef, .undef, .undef], .row 58 z.1 true, .row 76 z.2 true]⟩) (fun z => z.1 = encL encTE x.types ∧ z.2 = encL encVE x.values) ?_ ?_
  · cbv
    repeat' (first | apply And.intro | exact fun (_ : False → False) => by kernel_rfl | (intro h2; cbv) | apply Or.inl | (refine X.call (F74 hc1 (by omega) fun r1 hr1 => ?_); cbv) | (refine X.call (F75 hc2 (by omega) fun r2 hr2 => ?_); cbv))
    all_goals (refine ⟨(r1, r2), ⟨hr1, hr2⟩, [0, 1, 2, 3], rfl, ?_⟩; (cbv; repeat' apply And.intro); all_goals (try (first | trivial | rfl | (rw [X.a]; rfl))))
  rintro ⟨z1, z2⟩ ⟨hz1, hz2⟩
  simp only at hz1 hz2
  obtain ⟨n_z1, hn_z1⟩ : ∃ n, n = (x.types).length := ⟨_, rfl⟩
  have hlen_z1 : Std.len z1 = Int.ofNat n_z1 := by rw [hz1, Std_len, hn_z1]; rfl
  obtain ⟨n_z2, hn_z2⟩ : ∃ n, n = (x.values).length := ⟨_, rfl⟩
  have hlen_z2 : Std.len z2 = Int.ofNat n_z2 := by rw [hz2, Std_len, hn_z2]; rfl
  cbv
  refine X.loopP (fun (y : Nat × D) => ⟨[(18, .int .i64 y.1), (17, .int .i64 (A.len z1)), (16, .row 58 2), (1, .box 0 0), (2, .box 1 0)], [.box [.str c0, .row 58 2, .row 76 3, .lst 72 c3, .lst 87 c4], .box [.undef, .undef, .undef, .undef, .undef], .row 58 y.2 true, .row 76 z2 true]⟩)
    (fun y => y.1 ≤ n_z1 ∧ y.2 = encL encTE x.types) (fun y => n_z1 - y.1) (0, z1) ⟨Nat.zero_le _, hz1⟩ ?_ ?_
  · refine ⟨[0, 1, 2, 3], rfl, ?_⟩
    (cbv; repeat' apply And.intro); all_goals (try (first | trivial | rfl | (rw [X.a]; rfl)))
  rintro ⟨j, r⟩ ⟨hj, hr⟩
  simp only at hj hr
  cbv
  refine ⟨fun h1 => ?_, fun h1 => ?_⟩
  · have h5 : j < x.types.length := by obtain rfl := X.a; simp only [hlen_z1, SD, bNot] at h1; omega
    have k1 := teIsAt X.a hr h5
    have hid : A.idx (Int.ofNat j) (A.len r) := by rw [X.a, hr]; exact leaf_idx h5
    have hin : A.inr .i64 (A.add (Int.ofNat j) 1) := by rw [X.a]; exact leaf_inc h5 (by omega)
    cbv
    repeat' (first | apply And.intro | exact fun (_ : False → False) => by kernel_rfl | (intro h2; cbv) | apply Or.inl)
    any_goals exact hid
    refine X.call (F70 (hx.t _ (List.getElem_mem h5)) k1 fun e0 e1 e2 e3 e4 e5 e6 e7 e8 e9 e10 e11 he => ?_)
    obtain ⟨he0, he1, ⟨l0, l1, l2, l3, l4⟩, u0, u1, u2, u3, u4⟩ := he
    have q1 : A.setc r (Int.ofNat j) 0 [.str e0, e1, .int e2, .str e3, .str e4, e5, e6, .int e7, .str e8, .str e9, e10, e11] = r := setc_self X.a hr h5 (by rw [encTE_eq, he0, he1, l0, l1, l2, l3, l4, u0, u1, u2, u3, u4]; rfl)
    cbv
    repeat' (first | apply And.intro | exact fun (_ : False → False) => by kernel_rfl | (intro h2; cbv) | apply Or.inl)
    any_goals exact hid
    any_goals exact hin
    refine ⟨(j+1, A.setc r (Int.ofNat j) 0 [.str e0, e1, .int e2, .str e3, .str e4, e5, e6, .int e7, .str e8, .str e9, e10, e11]), ⟨by simp only; omega, q1.trans hr⟩, by simp only; omega, [0, 1, 2, 3], rfl, ?_⟩
    (cbv; repeat' apply And.intro); all_goals (try (first | trivial | rfl | (rw [X.a]; rfl)))
  cbv
  refine X.loopP (fun (y : Nat × D) => ⟨[(33, .int .i64 y.1), (32, .int .i64 (A.len z2)), (31, .row 76 3), (1, .box 0 0), (2, .box 1 0)], [.box [.str c0, .row 58 2, .row 76 3, .lst 72 c3, .lst 87 c4], .box [.undef, .undef, .undef, .undef, .undef], .row 58 r true, .row 76 y.2 true]⟩)
    (fun y => y.1 ≤ n_z2 ∧ y.2 = encL encVE x.values) (fun y => n_z2 - y.1) (0, z2) ⟨Nat.zero_le _, hz2⟩ ?_ ?_
  · refine ⟨[0, 1, 2, 3], rfl, ?_⟩
    (cbv; repeat' apply And.intro); all_goals (try (first | trivial | rfl | (rw [X.a]; rfl)))
  rintro ⟨j2, r2⟩ ⟨hj2, hr2⟩
  simp only at hj2 hr2
  cbv
  refine ⟨fun h1 => ?_, fun h1 => ?_⟩
  · have h5 : j2 < x.values.length := by obtain rfl := X.a; simp only [hlen_z2, SD, bNot] at h1; omega
    have k1 := veIsAt X.a hr2 h5
    have hid : A.idx (Int.ofNat j2) (A.len r2) := by rw [X.a, hr2]; exact leaf_idx h5
    have hin : A.inr .i64 (A.add (Int.ofNat j2) 1) := by rw [X.a]; exact leaf_inc h5 (by omega)
    cbv
    repeat' (first | apply And.intro | exact fun (_ : False → False) => by kernel_rfl | (intro h2; cbv) | apply Or.inl)
    any_goals exact hid
    refine X.call (F71 (hx.v _ (List.getElem_mem h5)) k1 fun e0 e1 e2 e3 e4 e5 e6 he => ?_)
    obtain ⟨he0, he1, l0, l1, l2, l3, l4⟩ := he
    have q1 : A.setc r2 (Int.ofNat j2) 0 [.str e0, e1, .int e2, .str e3, .str e4, e5, e6] = r2 := setc_self X.a hr2 h5 (by rw [encVE_eq, he0, he1, l0, l1, l2, l3, l4]; rfl)
    cbv
    repeat' (first | apply And.intro | exact fun (_ : False → False) => by kernel_rfl | (intro h2; cbv) | apply Or.inl)
    any_goals exact hid
    any_goals exact hin
    refine ⟨(j2+1, A.setc r2 (Int.ofNat j2) 0 [.str e0, e1, .int e2, .str e3, .str e4, e5, e6]), ⟨by simp only; omega, q1.trans hr2⟩, by simp only; omega, [0, 1, 2, 3], rfl, ?_⟩
    (cbv; repeat' apply And.intro); all_goals (try (first | trivial | rfl | (rw [X.a]; rfl)))
  cbv
  refine X.cut (fun (z : D × D) => ⟨[(1, .box 0 0), (2, .box 1 0)], [.box [.str c0, .row 58 2, .row 76 3, .row 72 4, .row 87 5], .box [.undef, .undef, .undef, .undef, .undef], .row 58 r true, .row 76 r2 true, .row 72 z.1 true, .row 87 z.2 true]⟩) (fun z => z.1 = encL encAE x.aliases ∧ z.2 = encL encDE x.deprecated) ?_ ?_
  · cbv
    repeat' (first | apply And.intro | exact fun (_ : False → False) => by kernel_rfl | (intro h2; cbv) | apply Or.inl | (refine X.call (F76 hc3 (by omega) fun r1 hr1 => ?_); cbv) | (refine X.call (F77 hc4 (by omega) fun r2 hr2 => ?_); cbv))
    all_goals (refine ⟨(_, _), ⟨hr1, hr2⟩, [0, 1, 2, 3, 4, 5], rfl, ?_⟩; (cbv; repeat' apply And.intro); all_goals (try (first | trivial | rfl | (rw [X.a]; rfl))))
  rintro ⟨z3, z4⟩ ⟨hz3, hz4⟩
  simp only at hz3 hz4
  cbv
  exact h _ _ _ _ _ ⟨k0, hr, hr2, hz3, hz4⟩
end Go.VC.T07
end

section
/- The entries of names. -/
set_option linter.unusedSimpArgs false
set_option linter.unusedVariables false
namespace Go.VC
def findI (env : List IF) (path : S) : Option IF := env.find? fun i => i.path == path
inductive Look where | none | typ (x : TE) | val (x : VE) | ali (x : AE) | noali
def lookI (i : IF) (n : S) : Look := match i.types.find? fun x => x.name == n with
  | some x => .typ x
  | none => match i.values.find? fun x => x.name == n with
    | some x => .val x
    | none => match i.aliases.find? fun x => x.name == n with
      | some x => .ali x
      | none => .noali
def look' (env : List IF) (m n : S) : Look := match findI env m with
  | none => .none
  | some i => lookI i n
theorem find_mem' {α : Type} {p : α → Bool} {l : List α} {x : α} (h : l.find? p = some x) : x ∈ l := List.mem_of_find?_eq_some h
def envOk (env : List IF) : Prop := env.length ≤ 4294967295 ∧ ∀ i ∈ env, i.ok
theorem findI_ok {env : List IF} (h : envOk env) {s : S} {i : IF} (hi : findI env s = some i) : i.ok := h.2 i (find_mem' hi)
theorem zero_ok : IF.zero.ok := ⟨by simp [IF.zero], by simp [IF.zero], by simp [IF.zero], by simp [IF.zero], by simp [IF.zero], by simp [IF.zero]⟩
end Go.VC
namespace Go.VC.T07
open Go Go.VC Go.Proofs

set_option maxRecDepth 100000 in
theorem F43 {env : List IF} {d : D} {s c : S} {K : PV → List Ob → Prop} (hd : d = encL encIF env) (hl : envOk env) (hs : c = s)
    (h : ∀ e0 e1 e2 e3 e4 b, ifIs ((findI env s).getD IF.zero) e0 e1 e2 e3 e4 → b = (findI env s).isSome → K (.tup [ifPV e0 e1 e2 e3 e4, .bool b]) []) :
    FC Tryz.prog tt 43 [] [.lst 31 d, .str c] K := by
  subst hs
  refine FC.enter (G := g43) tt_ok mixed ⟨Tryz.func43, by rfl, rfl⟩ rfl rfl rfl ?_
  intro A C L X
  cbv
  refine X.call (F72 (p := fun i => i.path == c) hd hl.1 (fun x hx _ _ _ _ _ K' k1 hK => F73 k1 hK) fun e0 e1 e2 e3 e4 b he hb => ?_)
  cbv
  exact h _ _ _ _ _ _ he hb

set_option maxRecDepth 100000 in
theorem F12 {env : List IF} {d : D} {s c : S} {K : PV → List Ob → Prop} (hd : d = encL encIF env) (hl : envOk env) (hs : c = s)
    (h : ∀ e0 e1 e2 e3 e4 b, ifIs ((findI env s).getD IF.zero) e0 e1 e2 e3 e4 → b = (findI env s).isSome → K (.tup [ifPV e0 e1 e2 e3 e4, .bool b]) []) :
    FC Tryz.prog tt 12 [] [.lst 31 d, .str c] K := by
  refine FC.enter (G := g12) tt_ok mixed ⟨Tryz.func12, by rfl, rfl⟩ rfl rfl rfl ?_
  intro A C L X
  cbv
  refine X.call (F43 hd hl hs fun e0 e1 e2 e3 e4 b he hb => ?_)
  cbv
  have hok : ((findI env s).getD IF.zero).ok := by
    cases hf : findI env s with
    | none => exact zero_ok
    | some i => exact findI_ok hl hf
  refine X.call (F44 hok he fun g0 g1 g2 g3 g4 hg => ?_)
  cbv
  exact h _ _ _ _ _ _ hg hb

abbrev entPV (m n : S) (a b c : PV) : PV := .agg [.str m, .str n, a, b, c]
set_option maxRecDepth 100000 in
set_option maxHeartbeats 1000000 in
theorem F102 {env : List IF} {d : D} {m n : S} {K : PV → List Ob → Prop} (hd : d = encL encIF env) (hl : envOk env)
    (h0 : look' env m n = .none → K (.tup [entPV m n .nilp .nilp .nilp, .bool false]) [])
    (h1 : ∀ x c0 c1 c2 c3 c4 c5 c6 c7 c8 c9 c10 c11, look' env m n = .typ x → x.ok → teIs x c0 c1 c2 c3 c4 c5 c6 c7 c8 c9 c10 c11 → K (.tup [entPV m n (.pptr [.str c0, .lst 62 c1, .int .i64 c2, .str c3, .str c4, .lst 43 c5, .lst 105 c6, .int .i64 c7, .str c8, .str c9, .lst 43 c10, .lst 105 c11] 0) .nilp .nilp, .bool true]) [])
    (hh2 : ∀ x c0 c1 c2 c3 c4 c5 c6, look' env m n = .val x → x.ok → veIs x c0 c1 c2 c3 c4 c5 c6 → K (.tup [entPV m n .nilp (.pptr [.str c0, .lst 62 c1, .int .i64 c2, .str c3, .str c4, .lst 43 c5, .lst 105 c6] 0) .nilp, .bool true]) [])
    (h3 : ∀ x c0 c1 c2 b, (look' env m n = .ali x ∧ b = true ∨ look' env m n = .noali ∧ b = false) → aeIs x c0 c1 c2 → K (.tup [entPV m n .nilp .nilp (.pptr [.str c0, .str c1, .str c2] 0), .bool b]) []) :
    FC Tryz.prog tt 102 [] [.lst 31 d, .str m, .str n] K := by
  refine FC.enter (G := g102) tt_ok mixed ⟨Tryz.func102, by rfl, rfl⟩ rfl rfl rfl ?_
  intro A C L X
  cbv
  refine X.call (F43 hd hl rfl fun e0 e1 e2 e3 e4 b he hb => ?_)
  cases hf : findI env m with
  | none =>
    rw [hf] at hb
    obtain rfl : b = false := hb
    have q := h0 (by rw [look', hf])
    cbv
    repeat' (first | apply And.intro | exact fun (_ : False → False) => by kernel_rfl | (intro h2; cbv) | apply Or.inl)
    · exact q
    · obtain rfl := X.a; cases h2
  | some i =>
    rw [hf] at hb he
    simp only [Option.getD_some] at he
    obtain rfl : b = true := hb
    have hok := findI_ok hl hf
    obtain ⟨he0, he1, he2, he3, he4⟩ := he
    have hL : look' env m n = lookI i n := by rw [look', hf]
    rw [hL] at h0 h1 hh2 h3
    clear hL
    cbv
    repeat' (first | apply And.intro | exact fun (_ : False → False) => by kernel_rfl | (intro h2; cbv) | apply Or.inl)
    · obtain rfl := X.a; cases h2
    clear h2
    refine X.call (F123 (p := fun x => x.name == n) he1 hok.nt (fun x hx _ _ _ _ _ _ _ _ _ _ _ _ K' k1 hK => F124 k1 hK) fun c0 c1 c2 c3 c4 c5 c6 c7 c8 c9 c10 c11 b hx hb => ?_)
    cases hft : i.types.find? (fun x => x.name == n) with
    | some x =>
      rw [hft] at hx hb
      obtain rfl : b = true := hb
      have q := h1 x c0 c1 c2 c3 c4 c5 c6 c7 c8 c9 c10 c11 (by rw [lookI, hft]) (hok.t _ (find_mem' hft)) hx
      cbv
      repeat' (first | apply And.intro | exact fun (_ : False → False) => by kernel_rfl | (intro h2; cbv) | apply Or.inl)
      · exact q
      · obtain rfl := X.a; cases h2
    | none =>
      rw [hft] at hx hb
      obtain rfl : b = false := hb
      cbv
      repeat' (first | apply And.intro | exact fun (_ : False → False) => by kernel_rfl | (intro h2; cbv) | apply Or.inl)
      · obtain rfl := X.a; cases h2
      clear h2
      refine X.call (F125 (p := fun x => x.name == n) he2 hok.nv (fun x hx _ _ _ _ _ _ _ K' k1 hK => F126 k1 hK) fun u0 u1 u2 u3 u4 u5 u6 b hv hb => ?_)
      cases hfv : i.values.find? (fun x => x.name == n) with
      | some x =>
        rw [hfv] at hv hb
        obtain rfl : b = true := hb
        have q := hh2 x u0 u1 u2 u3 u4 u5 u6 (by rw [lookI, hft]; simp only [hfv]) (hok.v _ (find_mem' hfv)) hv
        cbv
        repeat' (first | apply And.intro | exact fun (_ : False → False) => by kernel_rfl | (intro h2; cbv) | apply Or.inl)
        · exact q
        · obtain rfl := X.a; cases h2
      | none =>
        rw [hfv] at hv hb
        obtain rfl : b = false := hb
        cbv
        repeat' (first | apply And.intro | exact fun (_ : False → False) => by kernel_rfl | (intro h2; cbv) | apply Or.inl)
        · obtain rfl := X.a; cases h2
        clear h2
        refine X.call (F127 (p := fun x => x.name == n) he3 hok.na (fun x hx _ _ _ K' k1 hK => F128 k1 hK) fun a0 a1 a2 b ha hb => ?_)
        have q := h3 ((i.aliases.find? (fun x => x.name == n)).getD AE.zero) a0 a1 a2 b (by
          cases hfa : i.aliases.find? (fun x => x.name == n) with
          | some x => rw [hfa] at hb; exact .inl ⟨by rw [lookI, hft]; simp only [hfv, hfa]; rfl, hb⟩
          | none => rw [hfa] at hb; exact .inr ⟨by rw [lookI, hft]; simp only [hfv, hfa], hb⟩) ha
        cbv
        repeat' (first | apply And.intro | exact fun (_ : False → False) => by kernel_rfl | (intro h2; cbv) | apply Or.inl)
        exact q
end Go.VC.T07
end

section
/- The ends of names. -/
set_option linter.unusedSimpArgs false
set_option linter.unusedVariables false
namespace Go.VC
inductive End where | nf | loop | typ (m n : S) (x : TE) | val (m n : S) (x : VE)
def endI (env : List IF) : Nat → S → S → End
  | 0, _, _ => .loop
  | k+1, m, n => match look' env m n with
    | .none => .nf
    | .noali => .nf
    | .typ x => .typ m n x
    | .val x => .val m n x
    | .ali x => endI env k x.module x.target
def typeR (env : List IF) (m n : S) : TE × S × Int := match endI env 65 m n with
  | .typ m' _ x => (x, m', 0)
  | .val _ _ _ => (TE.zero, [], 6)
  | .nf => (TE.zero, [], 6)
  | .loop => (TE.zero, [], 14)
def valueR (env : List IF) (m n : S) : VE × S × Int := match endI env 65 m n with
  | .typ _ _ _ => (VE.zero, [], 6)
  | .val m' _ x => (x, m', 0)
  | .nf => (VE.zero, [], 6)
  | .loop => (VE.zero, [], 14)
def endO (env : List IF) (m n : S) : End := endI env 65 m n
end Go.VC
namespace Go.VC.T07
open Go Go.VC Go.Proofs

set_option maxRecDepth 100000 in
set_option maxHeartbeats 1000000 in
theorem F69 {env : List IF} {d : D} {m n : S} {K : PV → List Ob → Prop} (hd : d = encL encIF env) (hl : envOk env)
    (h0 : endO env m n = .nf → K (.tup [entPV [] [] .nilp .nilp .nilp, .int .i64 6]) [])
    (hloop : endO env m n = .loop → K (.tup [entPV [] [] .nilp .nilp .nilp, .int .i64 14]) [])
    (ht : ∀ m' n' x c0 c1 c2 c3 c4 c5 c6 c7 c8 c9 c10 c11, endO env m n = .typ m' n' x → x.ok → teIs x c0 c1 c2 c3 c4 c5 c6 c7 c8 c9 c10 c11 → K (.tup [entPV m' n' (.pptr [.str c0, .lst 62 c1, .int .i64 c2, .str c3, .str c4, .lst 43 c5, .lst 105 c6, .int .i64 c7, .str c8, .str c9, .lst 43 c10, .lst 105 c11] 0) .nilp .nilp, .int .i64 0]) [])
    (hv : ∀ m' n' x c0 c1 c2 c3 c4 c5 c6, endO env m n = .val m' n' x → x.ok → veIs x c0 c1 c2 c3 c4 c5 c6 → K (.tup [entPV m' n' .nilp (.pptr [.str c0, .lst 62 c1, .int .i64 c2, .str c3, .str c4, .lst 43 c5, .lst 105 c6] 0) .nilp, .int .i64 0]) []) :
    FC Tryz.prog tt 69 [] [.lst 31 d, .str m, .str n] K := by
  refine FC.enter (G := g69) tt_ok mixed ⟨Tryz.func69, by rfl, rfl⟩ rfl rfl rfl ?_
  intro A C L X
  cbv
  refine X.loopP (fun (y : Nat × S × S) => ⟨[(10, .int .i64 y.1), (0, .lst 31 d), (1, .str y.2.1), (2, .str y.2.2), (6, .box 0 0)], [.box [.undef, .undef, .undef, .undef, .undef]]⟩)
    (fun y => y.1 ≤ 65 ∧ endI env (65 - y.1) y.2.1 y.2.2 = endO env m n) (fun y => 65 - y.1) (0, m, n) ⟨Nat.zero_le _, rfl⟩ ?_ ?_
  · refine ⟨[0], rfl, ?_⟩
    (cbv; repeat' apply And.intro); all_goals (try (first | trivial | rfl | (rw [X.a]; rfl)))
  rintro ⟨i, m', n'⟩ ⟨hi, he⟩
  simp only at hi he
  cbv
  refine ⟨fun h1 => ?_, fun h1 => ?_⟩
  · have h5 : i < 65 := by obtain rfl := X.a; simp only [SD, bNot] at h1; omega
    obtain ⟨k, hk⟩ : ∃ k, 65 - i = k + 1 := ⟨64 - i, by omega⟩
    have hk' : 65 - (i+1) = k := by omega
    rw [hk] at he
    simp only [endI] at he
    have hin : A.inr .i64 (A.add (Int.ofNat i) 1) := by rw [X.a]; exact leaf_inc h5 (by omega)
    cbv
    refine X.call (F102 hd hl ?_ ?_ ?_ ?_)
    · intro e
      rw [e] at he
      have q := h0 he.symm
      cbv
      repeat' (first | apply And.intro | exact fun (_ : False → False) => by kernel_rfl | (intro h2; cbv) | apply Or.inl)
      · exact q
      · obtain rfl := X.a; cases h2
    · intro x c0 c1 c2 c3 c4 c5 c6 c7 c8 c9 c10 c11 e hx hc
      rw [e] at he
      have q := ht _ _ _ _ _ _ _ _ _ _ _ _ _ _ _ he.symm hx hc
      cbv
      repeat' (first | apply And.intro | exact fun (_ : False → False) => by kernel_rfl | (intro h2; cbv) | apply Or.inl)
      · obtain rfl := X.a; cases h2
      · exact q
    · intro x c0 c1 c2 c3 c4 c5 c6 e hx hc
      rw [e] at he
      have q := hv _ _ _ _ _ _ _ _ _ _ he.symm hx hc
      cbv
      repeat' (first | apply And.intro | exact fun (_ : False → False) => by kernel_rfl | (intro h2; cbv) | apply Or.inl)
      · obtain rfl := X.a; cases h2
      · exact q
    · intro x c0 c1 c2 b e hc
      have hn : b = false → K (.tup [entPV [] [] .nilp .nilp .nilp, .int .i64 6]) [] := by
        intro eb
        rcases e with ⟨e, e2⟩ | ⟨e, e2⟩
        · rw [e2] at eb; cases eb
        · rw [e] at he; exact h0 he.symm
      cbv
      repeat' (first | apply And.intro | exact fun (_ : False → False) => by kernel_rfl | (intro h2; cbv) | apply Or.inl)
      · exact hn (by obtain rfl := X.a; simpa only [SD, bNot] using h2)
      · exact hin
      · have eb : b = true := by rename_i h3; obtain rfl := X.a; simpa only [SD, bNot] using h3
        rcases e with ⟨e, e2⟩ | ⟨e, e2⟩
        · rw [e] at he
          simp only at he
          refine ⟨(i+1, x.module, x.target), ⟨by simp only; omega, by simp only [hk']; exact he⟩, by simp only; omega, [0], rfl, ?_⟩
          obtain ⟨hc0, hc1, hc2⟩ := hc
          rw [← hc1, ← hc2]
          (cbv; repeat' apply And.intro); all_goals (try (first | trivial | rfl | (rw [X.a]; rfl)))
        · rw [e2] at eb; cases eb
  · have h5 : i = 65 := by obtain rfl := X.a; simp only [SD, bNot] at h1; omega
    subst h5
    have q := hloop he.symm
    cbv
    exact q

set_option maxRecDepth 100000 in
theorem F37 {env : List IF} {d : D} {m n : S} {K : PV → List Ob → Prop} (hd : d = encL encIF env) (hl : envOk env)
    (h : ∀ r0 r1 r2, (r0, r1, r2) = (match endO env m n with | .nf => ([], [], 6) | .loop => ([], [], 14) | .typ m' n' _ => (m', n', 0) | .val m' n' _ => (m', n', 0) : S × S × Int) → K (.tup [.str r0, .str r1, .int .i64 r2]) []) :
    FC Tryz.prog tt 37 [] [.lst 31 d, .str m, .str n] K := by
  refine FC.enter (G := g37) tt_ok mixed ⟨Tryz.func37, by rfl, rfl⟩ rfl rfl rfl ?_
  intro A C L X
  cbv
  refine X.call (F69 hd hl ?_ ?_ ?_ ?_)
  · intro e
    rw [e] at h
    have q := h _ _ _ rfl
    cbv
    repeat' (first | apply And.intro | exact fun (_ : False → False) => by kernel_rfl | (intro h2; cbv) | apply Or.inl)
    exact q
  · intro e
    rw [e] at h
    have q := h _ _ _ rfl
    cbv
    repeat' (first | apply And.intro | exact fun (_ : False → False) => by kernel_rfl | (intro h2; cbv) | apply Or.inl)
    exact q
  · intro m' n' x c0 c1 c2 c3 c4 c5 c6 c7 c8 c9 c10 c11 e hx hc
    rw [e] at h
    have q := h _ _ _ rfl
    cbv
    repeat' (first | apply And.intro | exact fun (_ : False → False) => by kernel_rfl | (intro h2; cbv) | apply Or.inl)
    exact q
  · intro m' n' x c0 c1 c2 c3 c4 c5 c6 e hx hc
    rw [e] at h
    have q := h _ _ _ rfl
    cbv
    repeat' (first | apply And.intro | exact fun (_ : False → False) => by kernel_rfl | (intro h2; cbv) | apply Or.inl)
    exact q

set_option maxRecDepth 100000 in
set_option maxHeartbeats 1000000 in
theorem F33 {env : List IF} {d : D} {m n : S} {K : PV → List Ob → Prop} (hd : d = encL encIF env) (hl : envOk env)
    (h : ∀ e0 e1 e2 e3 e4 e5 e6 e7 e8 e9 e10 e11 r1 r2, teIs (typeR env m n).1 e0 e1 e2 e3 e4 e5 e6 e7 e8 e9 e10 e11 → r1 = (typeR env m n).2.1 → r2 = (typeR env m n).2.2 → K (.tup [tePV e0 e1 e2 e3 e4 e5 e6 e7 e8 e9 e10 e11, .str r1, .int .i64 r2]) []) :
    FC Tryz.prog tt 33 [] [.lst 31 d, .str m, .str n] K := by
  refine FC.enter (G := g33) tt_ok mixed ⟨Tryz.func33, by rfl, rfl⟩ rfl rfl rfl ?_
  intro A C L X
  cbv
  refine X.call (F69 hd hl ?_ ?_ ?_ ?_)
  · intro e
    have hT : typeR env m n = (TE.zero, [], 6) := by unfold typeR; rw [show endI env 65 m n = endO env m n from rfl, e]
    rw [hT] at h
    cbv
    repeat' (first | apply And.intro | exact fun (_ : False → False) => by kernel_rfl | (intro h2; cbv) | apply Or.inl)
    all_goals first
      | exact h _ _ _ _ _ _ _ _ _ _ _ _ _ _ ⟨rfl, rfl, ⟨rfl, rfl, rfl, rfl, rfl⟩, rfl, rfl, rfl, rfl, rfl⟩ rfl rfl
      | (exfalso; obtain rfl := X.a; simp only [SD, bNot] at *; omega)
      | (exfalso; obtain rfl := X.a; simp [Std_eq, Std_not, bNot] at *; done)
      | (exfalso; obtain rfl := X.a; cases h2)
  · intro e
    have hT : typeR env m n = (TE.zero, [], 14) := by unfold typeR; rw [show endI env 65 m n = endO env m n from rfl, e]
    rw [hT] at h
    cbv
    repeat' (first | apply And.intro | exact fun (_ : False → False) => by kernel_rfl | (intro h2; cbv) | apply Or.inl)
    all_goals first
      | exact h _ _ _ _ _ _ _ _ _ _ _ _ _ _ ⟨rfl, rfl, ⟨rfl, rfl, rfl, rfl, rfl⟩, rfl, rfl, rfl, rfl, rfl⟩ rfl rfl
      | (exfalso; obtain rfl := X.a; simp only [SD, bNot] at *; omega)
      | (exfalso; obtain rfl := X.a; simp [Std_eq, Std_not, bNot] at *; done)
      | (exfalso; obtain rfl := X.a; cases h2)
  · intro m' n' x c0 c1 c2 c3 c4 c5 c6 c7 c8 c9 c10 c11 e hx hc
    have hT : typeR env m n = (x, m', 0) := by unfold typeR; rw [show endI env 65 m n = endO env m n from rfl, e]
    rw [hT] at h
    cbv
    repeat' (first | apply And.intro | exact fun (_ : False → False) => by kernel_rfl | (intro h2; cbv) | apply Or.inl)
    all_goals first
      | (exfalso; obtain rfl := X.a; simp [Std_eq, Std_not, bNot] at *; done)
      | refine X.cut (fun (z : S × D × Int × S × S × D × D × Int × S × S × D × D) => ⟨[(6, .box 0 0), (7, .str m'), (8, .int .i64 0)], [.box [.str z.1, .lst 62 z.2.1, .int .i64 z.2.2.1, .str z.2.2.2.1, .str z.2.2.2.2.1, .lst 43 z.2.2.2.2.2.1, .lst 105 z.2.2.2.2.2.2.1, .int .i64 z.2.2.2.2.2.2.2.1, .str z.2.2.2.2.2.2.2.2.1, .str z.2.2.2.2.2.2.2.2.2.1, .lst 43 z.2.2.2.2.2.2.2.2.2.2.1, .lst 105 z.2.2.2.2.2.2.2.2.2.2.2]]⟩) (fun z => teIs x z.1 z.2.1 z.2.2.1 z.2.2.2.1 z.2.2.2.2.1 z.2.2.2.2.2.1 z.2.2.2.2.2.2.1 z.2.2.2.2.2.2.2.1 z.2.2.2.2.2.2.2.2.1 z.2.2.2.2.2.2.2.2.2.1 z.2.2.2.2.2.2.2.2.2.2.1 z.2.2.2.2.2.2.2.2.2.2.2) ?_ ?_
    · cbv
      repeat' (first | apply And.intro | exact fun (_ : False → False) => by kernel_rfl | (intro h2; cbv) | apply Or.inl | (refine X.call (F70 hx hc fun e0 e1 e2 e3 e4 e5 e6 e7 e8 e9 e10 e11 he => ?_); cbv))
      all_goals (refine ⟨(e0, e1, e2, e3, e4, e5, e6, e7, e8, e9, e10, e11), he, [0], rfl, ?_⟩; (cbv; repeat' apply And.intro); all_goals (try (first | trivial | rfl | (rw [X.a]; rfl))))
    · rintro ⟨e0, e1, e2, e3, e4, e5, e6, e7, e8, e9, e10, e11⟩ he
      simp only at he
      cbv
      exact h _ _ _ _ _ _ _ _ _ _ _ _ _ _ he rfl rfl
    all_goals first
      | (exfalso; obtain rfl := X.a; simp only [SD, bNot] at *; omega)
      | (exfalso; obtain rfl := X.a; simp [Std_eq, Std_not, bNot] at *; done)
      | (exfalso; obtain rfl := X.a; cases h2)
  · intro m' n' x c0 c1 c2 c3 c4 c5 c6 e hx hc
    have hT : typeR env m n = (TE.zero, [], 6) := by unfold typeR; rw [show endI env 65 m n = endO env m n from rfl, e]
    rw [hT] at h
    cbv
    repeat' (first | apply And.intro | exact fun (_ : False → False) => by kernel_rfl | (intro h2; cbv) | apply Or.inl)
    all_goals first
      | exact h _ _ _ _ _ _ _ _ _ _ _ _ _ _ ⟨rfl, rfl, ⟨rfl, rfl, rfl, rfl, rfl⟩, rfl, rfl, rfl, rfl, rfl⟩ rfl rfl
      | (exfalso; obtain rfl := X.a; simp only [SD, bNot] at *; omega)
      | (exfalso; obtain rfl := X.a; simp [Std_eq, Std_not, bNot] at *; done)
      | (exfalso; obtain rfl := X.a; cases h2)

set_option maxRecDepth 100000 in
set_option maxHeartbeats 1000000 in
theorem F41 {env : List IF} {d : D} {m n : S} {K : PV → List Ob → Prop} (hd : d = encL encIF env) (hl : envOk env)
    (h : ∀ e0 e1 e2 e3 e4 e5 e6 r1 r2, veIs (valueR env m n).1 e0 e1 e2 e3 e4 e5 e6 → r1 = (valueR env m n).2.1 → r2 = (valueR env m n).2.2 → K (.tup [vePV e0 e1 e2 e3 e4 e5 e6, .str r1, .int .i64 r2]) []) :
    FC Tryz.prog tt 41 [] [.lst 31 d, .str m, .str n] K := by
  refine FC.enter (G := g41) tt_ok mixed ⟨Tryz.func41, by rfl, rfl⟩ rfl rfl rfl ?_
  intro A C L X
  cbv
  refine X.call (F69 hd hl ?_ ?_ ?_ ?_)
  · intro e
    have hT : valueR env m n = (VE.zero, [], 6) := by unfold valueR; rw [show endI env 65 m n = endO env m n from rfl, e]
    rw [hT] at h
    cbv
    repeat' (first | apply And.intro | exact fun (_ : False → False) => by kernel_rfl | (intro h2; cbv) | apply Or.inl)
    all_goals first
      | exact h _ _ _ _ _ _ _ _ _ ⟨rfl, rfl, rfl, rfl, rfl, rfl, rfl⟩ rfl rfl
      | (exfalso; obtain rfl := X.a; simp only [SD, bNot] at *; omega)
      | (exfalso; obtain rfl := X.a; simp [Std_eq, Std_not, bNot] at *; done)
      | (exfalso; obtain rfl := X.a; cases h2)
  · intro e
    have hT : valueR env m n = (VE.zero, [], 14) := by unfold valueR; rw [show endI env 65 m n = endO env m n from rfl, e]
    rw [hT] at h
    cbv
    repeat' (first | apply And.intro | exact fun (_ : False → False) => by kernel_rfl | (intro h2; cbv) | apply Or.inl)
    all_goals first
      | exact h _ _ _ _ _ _ _ _ _ ⟨rfl, rfl, rfl, rfl, rfl, rfl, rfl⟩ rfl rfl
      | (exfalso; obtain rfl := X.a; simp only [SD, bNot] at *; omega)
      | (exfalso; obtain rfl := X.a; simp [Std_eq, Std_not, bNot] at *; done)
      | (exfalso; obtain rfl := X.a; cases h2)
  · intro m' n' x c0 c1 c2 c3 c4 c5 c6 c7 c8 c9 c10 c11 e hx hc
    have hT : valueR env m n = (VE.zero, [], 6) := by unfold valueR; rw [show endI env 65 m n = endO env m n from rfl, e]
    rw [hT] at h
    cbv
    repeat' (first | apply And.intro | exact fun (_ : False → False) => by kernel_rfl | (intro h2; cbv) | apply Or.inl)
    all_goals first
      | exact h _ _ _ _ _ _ _ _ _ ⟨rfl, rfl, rfl, rfl, rfl, rfl, rfl⟩ rfl rfl
      | (exfalso; obtain rfl := X.a; simp only [SD, bNot] at *; omega)
      | (exfalso; obtain rfl := X.a; simp [Std_eq, Std_not, bNot] at *; done)
      | (exfalso; obtain rfl := X.a; cases h2)
  · intro m' n' x c0 c1 c2 c3 c4 c5 c6 e hx hc
    have hT : valueR env m n = (x, m', 0) := by unfold valueR; rw [show endI env 65 m n = endO env m n from rfl, e]
    rw [hT] at h
    cbv
    repeat' (first | apply And.intro | exact fun (_ : False → False) => by kernel_rfl | (intro h2; cbv) | apply Or.inl)
    all_goals first
      | (exfalso; obtain rfl := X.a; simp [Std_eq, Std_not, bNot] at *; done)
      | refine X.cut (fun (z : S × D × Int × S × S × D × D) => ⟨[(6, .box 0 0), (7, .str m'), (8, .int .i64 0)], [.box [.str z.1, .lst 62 z.2.1, .int .i64 z.2.2.1, .str z.2.2.2.1, .str z.2.2.2.2.1, .lst 43 z.2.2.2.2.2.1, .lst 105 z.2.2.2.2.2.2]]⟩) (fun z => veIs x z.1 z.2.1 z.2.2.1 z.2.2.2.1 z.2.2.2.2.1 z.2.2.2.2.2.1 z.2.2.2.2.2.2) ?_ ?_
    · cbv
      repeat' (first | apply And.intro | exact fun (_ : False → False) => by kernel_rfl | (intro h2; cbv) | apply Or.inl | (refine X.call (F71 hx hc fun e0 e1 e2 e3 e4 e5 e6 he => ?_); cbv))
      all_goals (refine ⟨(e0, e1, e2, e3, e4, e5, e6), he, [0], rfl, ?_⟩; (cbv; repeat' apply And.intro); all_goals (try (first | trivial | rfl | (rw [X.a]; rfl))))
    · rintro ⟨e0, e1, e2, e3, e4, e5, e6⟩ he
      simp only at he
      cbv
      exact h _ _ _ _ _ _ _ _ _ he rfl rfl
    all_goals first
      | (exfalso; obtain rfl := X.a; simp only [SD, bNot] at *; omega)
      | (exfalso; obtain rfl := X.a; simp [Std_eq, Std_not, bNot] at *; done)
      | (exfalso; obtain rfl := X.a; cases h2)
end Go.VC.T07
end

section
/- The bounds of a reference. -/
set_option linter.unusedSimpArgs false
set_option linter.unusedVariables false
namespace Go.VC
def boundsR (env : List IF) (t : Ty) : Ty × Ty × Int :=
  if t.k ≠ 10 then (Ty.zero, Ty.zero, 1) else
  if (typeR env t.m t.n).2.2 ≠ 0 then (Ty.zero, Ty.zero, (typeR env t.m t.n).2.2) else
  if t.ar.length ≠ (typeR env t.m t.n).1.params.length then (Ty.zero, Ty.zero, 11) else
  ((typeR env t.m t.n).1.lower.sub ((typeR env t.m t.n).1.params.map (·.name)) t.ar, (typeR env t.m t.n).1.upper.sub ((typeR env t.m t.n).1.params.map (·.name)) t.ar, 0)
theorem zeroT_ok : Ty.le 4294967295 Ty.zero := .mk _ (by simp [Ty.zero, Ty.ar]) (by simp [Ty.zero, Ty.fl]) (by simp [Ty.zero, Ty.ar]) (by simp [Ty.zero, Ty.fl])
theorem zeroTE_ok : TE.zero.ok := ⟨by simp [TE.zero], by simp [TE.zero], zeroT_ok, zeroT_ok⟩
theorem zeroVE_ok : VE.zero.ok := ⟨by simp [VE.zero], by simp [VE.zero], zeroT_ok⟩
theorem lookI_ok {i : IF} (h : i.ok) {n : S} : (∀ x, lookI i n = .typ x → x.ok) ∧ (∀ x, lookI i n = .val x → x.ok) := by
  unfold lookI
  refine ⟨fun x => ?_, fun x => ?_⟩
  · split
    · rename_i y hy; intro e; cases e; exact h.t _ (find_mem' hy)
    · split
      · intro e; cases e
      · split <;> (intro e; cases e)
  · split
    · intro e; cases e
    · split
      · rename_i y hy; intro e; cases e; exact h.v _ (find_mem' hy)
      · split <;> (intro e; cases e)
theorem endI_ok {env : List IF} (h : envOk env) : ∀ (k : Nat) (m n : S), (∀ m' n' x, endI env k m n = .typ m' n' x → x.ok) ∧ (∀ m' n' x, endI env k m n = .val m' n' x → x.ok)
  | 0, m, n => by simp [endI]
  | k+1, m, n => by
    have hk := fun m n => endI_ok h k m n
    simp only [endI]
    unfold look'
    cases hf : findI env m with
    | none => simp
    | some i =>
      have := lookI_ok (findI_ok h hf) (n := n)
      simp only
      cases hl : lookI i n with
      | none => simp
      | noali => simp
      | typ x => refine ⟨fun m' n' y e => ?_, fun _ _ _ e => by cases e⟩; cases e; exact this.1 x hl
      | val x => refine ⟨fun _ _ _ e => (by cases e), fun m' n' y e => ?_⟩; cases e; exact this.2 x hl
      | ali x => exact hk _ _
theorem typeR_ok {env : List IF} (h : envOk env) {m n : S} : (typeR env m n).1.ok := by
  have := endI_ok h 65 m n
  unfold typeR
  cases he : endI env 65 m n with
  | typ m' n' x => exact this.1 _ _ _ he
  | val m' n' x => exact zeroTE_ok
  | nf => exact zeroTE_ok
  | loop => exact zeroTE_ok
theorem valueR_ok {env : List IF} (h : envOk env) {m n : S} : (valueR env m n).1.ok := by
  have := endI_ok h 65 m n
  unfold valueR
  cases he : endI env 65 m n with
  | typ m' n' x => exact zeroVE_ok
  | val m' n' x => exact this.2 _ _ _ he
  | nf => exact zeroVE_ok
  | loop => exact zeroVE_ok
end Go.VC
namespace Go.VC.T07
open Go Go.VC Go.Proofs

set_option maxRecDepth 100000 in
set_option maxHeartbeats 2000000 in
theorem F23 {env : List IF} {t : Ty} {d : D} {c0 : Int} {c1 c2 : S} {c3 c4 : D} {K : PV → List Ob → Prop} (hd : d = encL encIF env) (hl : envOk env) (hle : Ty.le 4294967295 t) (ht : tyIs t c0 c1 c2 c3 c4)
    (h : ∀ e0 e1 e2 e3 e4 g0 g1 g2 g3 g4 r, tyIs (boundsR env t).1 e0 e1 e2 e3 e4 → tyIs (boundsR env t).2.1 g0 g1 g2 g3 g4 → r = (boundsR env t).2.2 → K (.tup [tyPV e0 e1 e2 e3 e4, tyPV g0 g1 g2 g3 g4, .int .i64 r]) []) :
    FC Tryz.prog tt 23 [] [.lst 31 d, tyPV c0 c1 c2 c3 c4] K := by
  obtain ⟨t0, t1, t2, hc3, hc4⟩ := ht
  have hla := tyLe_ar hle
  have hta := tyLe_a hle
  have hx := typeR_ok hl (m := t.m) (n := t.n)
  unfold boundsR at h
  rw [← t0] at h
  rw [← t1, ← t2] at h hx
  obtain ⟨R, hR⟩ : ∃ R, R = typeR env c1 c2 := ⟨_, rfl⟩
  rw [← hR] at h hx
  have hnp := hx.np
  refine FC.enter (G := g23) tt_ok mixed ⟨Tryz.func23, by rfl, rfl⟩ rfl rfl rfl ?_
  intro A C L X
  obtain ⟨n_c3, hn_c3⟩ : ∃ n, n = (t.ar).length := ⟨_, rfl⟩
  have hlen_c3 : Std.len c3 = Int.ofNat n_c3 := by rw [hc3, Std_len, hn_c3]; rfl
  cbv
  repeat' (first | apply And.intro | exact fun (_ : False → False) => by kernel_rfl | (intro h2; cbv) | apply Or.inl)
  · rw [if_pos (by obtain rfl := X.a; simp only [SD, bNot] at h2; exact h2)] at h
    exact h _ _ _ _ _ _ _ _ _ _ _ ⟨rfl, rfl, rfl, rfl, rfl⟩ ⟨rfl, rfl, rfl, rfl, rfl⟩ rfl
  rw [if_neg (by obtain rfl := X.a; simp only [SD, bNot] at h2; simp [h2])] at h
  clear h2
  refine X.call (F33 hd hl fun e0 e1 e2 e3 e4 e5 e6 e7 e8 e9 e10 e11 r1 r2 he hr1 hr2 => ?_)
  rw [← hR] at he hr1 hr2
  rw [← hr2] at h
  obtain ⟨a0, a1, alo, aup⟩ := he
  obtain ⟨n_e1, hn_e1⟩ : ∃ n, n = (R.1.params).length := ⟨_, rfl⟩
  have hlen_e1 : Std.len e1 = Int.ofNat n_e1 := by rw [a1, Std_len, hn_e1]; rfl
  cbv
  repeat' (first | apply And.intro | exact fun (_ : False → False) => by kernel_rfl | (intro h2; cbv) | apply Or.inl)
  · rename_i g0 g1
    rw [if_neg (by obtain rfl := X.a; simp only [SD, bNot] at g0; simp [g0]), if_pos (by obtain rfl := X.a; simp only [hlen_c3, hlen_e1, SD, bNot] at g1; omega)] at h
    exact h _ _ _ _ _ _ _ _ _ _ _ ⟨rfl, rfl, rfl, rfl, rfl⟩ ⟨rfl, rfl, rfl, rfl, rfl⟩ rfl
  · exfalso; obtain rfl := X.a; simp [Std_eq, Std_not] at h2
  · exfalso; rename_i g0 g1; obtain rfl := X.a; simp only [SD, bNot] at g0 h2; omega
  rotate_left
  · rename_i g0
    rw [if_pos (by obtain rfl := X.a; simp only [SD, bNot] at g0; omega)] at h
    exact h _ _ _ _ _ _ _ _ _ _ _ ⟨rfl, rfl, rfl, rfl, rfl⟩ ⟨rfl, rfl, rfl, rfl, rfl⟩ rfl
  · exfalso; rename_i g0; obtain rfl := X.a; simp only [SD, bNot] at g0 h2; omega
  rename_i g0 g1
  have hlen : t.ar.length = R.1.params.length := by obtain rfl := X.a; simp only [hlen_c3, hlen_e1, SD, bNot] at g1; omega
  rw [if_neg (by obtain rfl := X.a; simp only [SD, bNot] at g0; simp [g0]), if_neg (by simp [hlen])] at h
  clear g0 g1 h2
  refine X.loopP (fun (y : Nat × D) => ⟨[(47, .int .i64 y.1), (46, .int .i64 (A.len e1)), (45, .lst 62 e1), (10, .row 9 4), (3, .box 0 0), (4, .box 1 0), (5, .box 2 0), (7, .box 3 0)], [.box [.int .i64 c0, .str c1, .str c2, .lst 43 c3, .lst 105 c4], .box [.undef, .undef, .undef, .undef, .undef], .box [.undef, .undef, .undef, .undef, .undef], .box [.str e0, .lst 62 e1, .int .i64 e2, .str e3, .str e4, .lst 43 e5, .lst 105 e6, .int .i64 e7, .str e8, .str e9, .lst 43 e10, .lst 105 e11], .row 9 y.2 true]⟩)
    (fun y => y.1 ≤ n_e1 ∧ y.2 = encL encS ((R.1.params.take y.1).map (·.name))) (fun y => n_e1 - y.1) (0, .list []) ⟨Nat.zero_le _, rfl⟩ ?_ ?_
  · refine ⟨[0, 1, 2, 3, 4], rfl, ?_⟩
    (cbv; repeat' apply And.intro); all_goals (try (first | trivial | rfl | (rw [X.a]; rfl)))
  rintro ⟨i, r⟩ ⟨hi, hr⟩
  simp only at hi hr
  cbv
  refine ⟨fun h1 => ?_, fun h1 => ?_⟩
  · have h5 : i < R.1.params.length := by obtain rfl := X.a; simp only [hlen_e1, SD, bNot] at h1; omega
    have k1 := (pmAt X.a a1 h5).1
    have hid : A.idx (Int.ofNat i) (A.len e1) := by rw [X.a, a1]; exact leaf_idx h5
    have hin : A.inr .i64 (A.add (Int.ofNat i) 1) := by rw [X.a]; exact leaf_inc h5 (by omega)
    have hb : A.bnd (A.add (A.len r) (A.len (A.lit [[.str (A.asStr (A.cell e1 (Int.ofNat i) 0))]]))) 4294967296 := by
      rw [X.a, hr]; simp only [SD, bNot, List.length_map]; omega
    have q1 : A.app r (A.lit [[.str (A.asStr (A.cell e1 (Int.ofNat i) 0))]]) = encL encS ((R.1.params.take (i+1)).map (·.name)) := by
      rw [k1, X.a, hr, map_take h5]; exact Std_app (k := [R.1.params[i].name])
    cbv
    repeat' (first | apply And.intro | exact fun (_ : False → False) => by kernel_rfl | (intro h2; cbv) | apply Or.inl)
    any_goals exact hid
    any_goals exact hb
    any_goals exact hin
    refine ⟨(i+1, A.app r (A.lit [[.str (A.asStr (A.cell e1 (Int.ofNat i) 0))]])), ⟨by simp only; omega, q1⟩, by simp only; omega, [0, 1, 2, 3, 4], rfl, ?_⟩
    (cbv; repeat' apply And.intro); all_goals (try (first | trivial | rfl | (rw [X.a]; rfl)))
  have h5 : i = n_e1 := by obtain rfl := X.a; simp only [hlen_e1, SD, bNot] at h1; omega
  subst h5
  rw [hn_e1, List.take_length] at hr
  cbv
  repeat' (first | apply And.intro | exact fun (_ : False → False) => by kernel_rfl | (intro h2; cbv) | apply Or.inl)
  refine X.call (F58 hr hc3 (by simpa using (by omega : R.1.params.length < 4294967296)) (by omega) hta _ hx.lo alo fun g0 g1 g2 g3 g4 hg => ?_)
  cbv
  repeat' (first | apply And.intro | exact fun (_ : False → False) => by kernel_rfl | (intro h2; cbv) | apply Or.inl)
  refine X.call (F58 hr hc3 (by simpa using (by omega : R.1.params.length < 4294967296)) (by omega) hta _ hx.up aup fun k0 k1 k2 k3 k4 hk => ?_)
  cbv
  repeat' (first | apply And.intro | exact fun (_ : False → False) => by kernel_rfl | (intro h2; cbv) | apply Or.inl)
  exact h _ _ _ _ _ _ _ _ _ _ _ hg hk rfl
end Go.VC.T07
end

section
/- Without. -/
set_option linter.unusedSimpArgs false
set_option linter.unusedVariables false
namespace Go.VC
theorem filt_take {α : Type} {p : α → Bool} {l : List α} {i : Nat} (h : i < l.length) : (l.take (i+1)).filter p = (l.take i).filter p ++ (if p l[i] then [l[i]] else []) := by
  rw [take_succ' h, List.filter_append]; simp [List.filter_cons]
end Go.VC
namespace Go.VC.T07
open Go Go.VC Go.Proofs

set_option maxRecDepth 100000 in
theorem F68 {x : IF} {s : S} {c0 : S} {c1 c2 c3 c4 : D} {K : PV → List Ob → Prop} (hx : ifIs x c0 c1 c2 c3 c4) (h : ∀ b, b = (x.path != s) → K (.bool b) []) :
    FC Tryz.prog tt 68 [] [ifPV c0 c1 c2 c3 c4, .pptr [.str s] 0] K := by
  have k := hx.1
  refine FC.enter (G := g68) tt_ok mixed ⟨Tryz.func68, by rfl, rfl⟩ rfl rfl rfl ?_
  intro A C L X
  have q := h (A.not (A.seq c0 s)) (by rw [X.a, ← k]; rfl)
  cbv
  exact q

set_option maxRecDepth 100000 in
set_option maxHeartbeats 1000000 in
theorem F62 {env : List IF} {d : D} {s : S} {K : PV → List Ob → Prop} (hd : d = encL encIF env) (hl : envOk env)
    (h : ∀ r, r = encL encIF (env.filter fun i => i.path != s) → K (.row 31 0) [.row 31 r true]) :
    FC Tryz.prog tt 62 [] [.lst 31 d, .clos 68 [.pptr [.str s] 0]] K := by
  have hn := hl.1
  refine FC.enterOwn (G := g62) tt_ok mixed ⟨Tryz.func62, by rfl, rfl⟩ rfl rfl rfl ?_
  intro A C L X
  obtain ⟨n_d, hn_d⟩ : ∃ n, n = (env).length := ⟨_, rfl⟩
  have hlen_d : Std.len d = Int.ofNat n_d := by rw [hd, Std_len, hn_d]; rfl
  cbv
  refine X.loopP (fun (y : Nat × D) => ⟨[(10, .int .i64 y.1), (9, .int .i64 (A.len d)), (8, .lst 31 d), (5, .row 31 0), (1, .clos 68 [.pptr [.str s] 0])], [.row 31 y.2 true]⟩)
    (fun y => y.1 ≤ n_d ∧ y.2 = encL encIF ((env.take y.1).filter fun i => i.path != s)) (fun y => n_d - y.1) (0, .list []) ⟨Nat.zero_le _, rfl⟩ ?_ ?_
  · refine ⟨[0], rfl, ?_⟩
    (cbv; repeat' apply And.intro); all_goals (try (first | trivial | rfl | (rw [X.a]; rfl)))
  rintro ⟨i, r⟩ ⟨hi, hr⟩
  simp only at hi hr
  cbv
  refine ⟨fun h1 => ?_, fun h1 => ?_⟩
  · have h5 : i < env.length := by obtain rfl := X.a; simp only [hlen_d, SD, bNot] at h1; omega
    have k1 := ifIsAt X.a hd h5
    have hid : A.idx (Int.ofNat i) (A.len d) := by rw [X.a, hd]; exact leaf_idx h5
    have hin : A.inr .i64 (A.add (Int.ofNat i) 1) := by rw [X.a]; exact leaf_inc h5 (by omega)
    have hft := filt_take (p := fun i => i.path != s) h5
    have hfl : ((env.take i).filter fun i => i.path != s).length ≤ i := Nat.le_trans (List.length_filter_le _ _) (by simp; omega)
    cbv
    repeat' (first | apply And.intro | exact fun (_ : False → False) => by kernel_rfl | (intro h2; cbv) | apply Or.inl)
    any_goals exact hid
    refine X.call (F68 k1 fun b hb => ?_)
    have hb' : b = (env[i].path != s) := hb
    clear hb
    cbv
    repeat' (first | apply And.intro | exact fun (_ : False → False) => by kernel_rfl | (intro h2; cbv) | apply Or.inl)
    any_goals exact hin
    · have eb : (env[i].path != s) = true := by rw [← hb']; obtain rfl := X.a; simpa only [SD, bNot] using h2
      rw [if_pos eb] at hft
      refine X.call (F44 (hl.2 _ (List.getElem_mem h5)) k1 fun e0 e1 e2 e3 e4 he => ?_)
      obtain ⟨he0, he1, he2, he3, he4⟩ := he
      have hb2 : A.bnd (A.add (A.len r) (A.len (A.lit [[.str e0, e1, e2, e3, e4]]))) 4294967296 := by
        rw [X.a, hr]; simp only [SD, bNot]; omega
      have q1 : A.app r (A.lit [[.str e0, e1, e2, e3, e4]]) = encL encIF ((env.take (i+1)).filter fun i => i.path != s) := by
        rw [hft, he0, he1, he2, he3, he4, X.a, hr]
        exact Std_app (k := [env[i]])
      cbv
      repeat' (first | apply And.intro | exact fun (_ : False → False) => by kernel_rfl | (intro h2; cbv) | apply Or.inl)
      any_goals exact hb2
      any_goals exact hin
      refine ⟨(i+1, _), ⟨?_, q1⟩, ?_, [0], rfl, ?_⟩
      · simp only; omega
      · simp only; omega
      (cbv; repeat' apply And.intro); all_goals (try (first | trivial | rfl | (rw [X.a]; rfl)))
    · have eb : (env[i].path != s) = false := by rename_i g3; rw [← hb']; obtain rfl := X.a; simpa only [SD, bNot] using g3
      rw [eb] at hft
      refine ⟨(i+1, r), ⟨?_, ?_⟩, ?_, [0], rfl, ?_⟩
      · simp only; omega
      · simp only; rw [hr, hft]; simp
      · simp only; omega
      (cbv; repeat' apply And.intro); all_goals (try (first | trivial | rfl | (rw [X.a]; rfl)))
  have h5 : i = n_d := by obtain rfl := X.a; simp only [hlen_d, SD, bNot] at h1; omega
  subst h5
  rw [hn_d, List.take_length] at hr
  cbv
  exact h r hr

set_option maxRecDepth 100000 in
theorem F30 {env : List IF} {d : D} {s : S} {K : PV → List Ob → Prop} (hd : d = encL encIF env) (hl : envOk env)
    (h : ∀ r, r = encL encIF (env.filter fun i => i.path != s) → K (.row 31 0) [.row 31 r true]) :
    FC Tryz.prog tt 30 [] [.lst 31 d, .str s] K := by
  refine FC.enterOwn (G := g30) tt_ok mixed ⟨Tryz.func30, by rfl, rfl⟩ rfl rfl rfl ?_
  intro A C L X
  cbv
  refine X.call (F62 hd hl fun r hr => ?_)
  cbv
  exact h r hr
end Go.VC.T07
end

section
/- slices.Insert at the end. -/
set_option linter.unusedSimpArgs false
set_option linter.unusedVariables false
namespace Go.VC.T07
open Go Go.VC Go.Proofs
def g67a : Cfg := {tt := tt, n := 95, n0 := 1, sch := g67.sch, cuts := g67.cuts}
set_option maxRecDepth 100000 in
set_option maxHeartbeats 1000000 in
theorem F67e {l : List IF} {y : IF} {d dv : D} (hn : l.length < 4294967295) (hd : d = encL encIF l) (hv : dv = encL encIF [y]) {K : PV → List Ob → Prop}
    (h : ∀ r b, r = encL encIF (l ++ [y]) → K (.row 31 1) [.dead, .row 31 r b]) :
    FC Tryz.prog tt 67 [.row 31 d true] [.row 31 0, .int .i64 (Int.ofNat l.length), .lst 31 dv] K := by
  obtain ⟨n, hnl⟩ : ∃ n, n = l.length := ⟨_, rfl⟩
  rw [← hnl]
  refine FC.enterLive (G := g67a) tt_ok mixed ⟨Tryz.func67, by rfl, rfl⟩ rfl rfl rfl ?_
  intro A C L X
  have hl : A.len d = Int.ofNat n := by rw [X.a, hd, Std_len, hnl]; rfl
  have hlv : A.len dv = 1 := by rw [X.a, hv, Std_len]; rfl
  have hb : A.bnd (A.add (A.len d) (A.len dv)) 4294967296 := by rw [hl, hlv, X.a]; simp only [SD, bNot]; omega
  have q := h (A.app d dv) false (by rw [X.a, hd, hv]; exact Std_app)
  have b1 : A.bnd (A.len d) (A.len d) := by rw [hl, X.a]; simp only [SD, bNot]; omega
  have b2 : A.bnd (Int.ofNat n) (A.len d) := by rw [hl, X.a]; simp only [SD, bNot]; omega
  have e1 : A.eq (A.len dv) 0 = false := by rw [hlv, X.a]; rfl
  have e2 : A.eq (Int.ofNat n) (A.len d) = true := by rw [hl, X.a]; simp only [SD, bNot]
  cbv
  repeat' (first | apply And.intro | exact fun (_ : False → False) => by kernel_rfl | (intro h2; cbv) | apply Or.inl)
  · exact b1
  · exact b2
  · rw [show A.eq (A.len dv) 0 = true from h2] at e1; cases e1
  · exact hb
  · exact q
  · rw [show A.eq (Int.ofNat n) (A.len d) = false from h2] at e2; cases e2
  · rename_i h3 h4; rw [show A.eq (Int.ofNat n) (A.len d) = false from h4] at e2; cases e2
end Go.VC.T07
end

section
/- slices.Insert at api.Interface, one value, ahead of the end (after the kit's proofs at one-cell elements). -/
set_option linter.unusedVariables false
set_option linter.unusedSimpArgs false
namespace Go.Proofs
open Go.Shelf Go.RowKit Go.Lib
section
variable {P : Program}
theorem copy_cellsK (w : World) (dT sT ty elem : TypeId) (k b o dLen dCap : Nat) (a : Addr) (sLen sCap : Nat) (cs : List Value)
    (hu : P.underlying dT = some (.slice elem)) (hs : (P.info? elem).map (·.size) = some k) (hn : cs.length = Nat.min sLen dLen * k)
    (hsrc : ∀ j v, cs[j]? = some v → w.cell? (a.add j) = some v) (hc : ∀ j, j < cs.length → (w.cell? ⟨b, o + j, none⟩).isSome = true) (hf : ∀ j, j < cs.length → w.frozen? ⟨b, o + j, none⟩ = false) (h1 : ∀ v ∈ cs, v.oneCell' = true) :
    (Builtin.copy_ #[dT, sT] ty #[.slice (some ⟨b, o, none⟩) dLen dCap, .slice (some a) sLen sCap]).run P w = .ok (goInt (Nat.min sLen dLen)) (w.setCells b o cs) := by
  have hl := run_loadCells_list (P := P) w a cs hsrc
  have hst := run_storeCells_cells (P := P) b o cs 0 w (by simpa using hc) (by simpa using hf) h1
  cases hq : P.info? elem with
  | none => simp [hq] at hs
  | some i =>
    have hi : i.size = k := by simpa [hq] using hs
    simp [Builtin.copy_, run_underlying hu, Builtin.lenOf, Builtin.firstCells, sizeOf, typeInfo, hq, hi, ← hn, hl, hst]
theorem wp_copyI (w : World) {o : Oper} {a : Act} {K : Act → World → Prop} {Q : Exit → Act → World → Prop} (d s : Operand) (t t' : TypeId)
    (ho : o.op = .call { callee := .builtin .copy, args := #[d, s], argTypes := #[t, t'] }) (v u : Value) (hd : a.eval d = v) (hs : a.eval s = u) {v' : Value} {w' : World}
    (hr : (Builtin.copy_ #[t, t'] o.type #[v, u]).run P w = .ok v' w') (h : K (a.put o.dst v') w') : o.wp P a w K Q := by
  unfold Oper.wp execOp
  simp only [ho, resolve, invoke, builtin, Sem.run_bind, Sem.run_pure, Result.andThen_ok, List.map_toArray, List.map_cons, List.map_nil, hd, hs, hr]
  exact h
theorem wpList_copyI (w : World) {ops : Array Oper} {rest : List Oper} {o : Oper} {a : Act} {Q : Exit → Act → World → Prop} (hgd : o.guard = none) (d s : Operand) (t t' : TypeId)
    (ho : o.op = .call { callee := .builtin .copy, args := #[d, s], argTypes := #[t, t'] }) (v u : Value) (hd : a.eval d = v) (hs : a.eval s = u) {v' : Value} {w' : World}
    (hr : (Builtin.copy_ #[t, t'] o.type #[v, u]).run P w = .ok v' w') (h : wpList P ops Q rest (a.put o.dst v') w') : wpList P ops Q (o :: rest) a w :=
  wpList_plain hgd fun _ hK => wp_copyI w d s t t' ho v u hd hs hr (hK _ _ h)
theorem step_copyI {ops : Array Oper} {o : Oper} {a : Act} {w : World} {K : Act → World → Prop} {Q : Exit → Act → World → Prop} {E : Prop}
    (hg : o.guard = none) (d x : Operand) (dT sT : TypeId) (hop : o.op = Op.call { callee := Callee.builtin Builtin.copy, args := #[d, x], argTypes := #[dT, sT] })
    (v u : Value) (hd : a.eval d = v) (hx : a.eval x = u) {v' : Value} {w' : World} (hr : (Builtin.copy_ #[dT, sT] o.type #[v, u]).run P w = .ok v' w') (hK : K (a.put o.dst v') w') :
    if Region.wanted o (yielded ops a.tmps) = true then Oper.wp P o a w K Q else E := by
  have hw : Region.wanted o (yielded ops a.tmps) = true := by simp [Region.wanted, hg]
  rw [if_pos hw]
  unfold Oper.wp
  simp [execOp, hop, resolve, invoke, builtin, hd, hx, hr, Result.andThen]
  exact hK
theorem isSome_set (b : Nat) (vs : List Value) (o : Nat) (w : World) (h : ∀ j, j < vs.length → (w.cell? ⟨b, o + j, none⟩).isSome = true) (k : Nat) (hk : (w.cell? ⟨b, k, none⟩).isSome = true) : ((w.setCells b o vs).cell? ⟨b, k, none⟩).isSome = true := by
  by_cases hin : o ≤ k ∧ k < o + vs.length
  · have := World.cell?_setCells_in b vs o w h (k - o) (by omega)
    rw [show o + (k - o) = k by omega] at this
    rw [this]; rfl
  · rw [World.cell?_setCells_out b vs o w ⟨b, k, none⟩ (fun _ _ => by show k < o ∨ o + vs.length ≤ k; omega)]
    exact hk
/-- two blocks, the second a row of cells that are not frozen -/
theorem overlaps_no (w : World) (tS tR e : TypeId) (ht : P.underlying tS = some (.slice e)) (size : Nat) (hz : ∀ w, (Go.sizeOf e).run P w = .ok size w)
    (a b : Addr) (la ca lb cb : Nat) (hne : a.block ≠ b.block) (cA cB : Array Value) (tA tB : TypeId)
    (fA : Nat × Nat) (hA : w.heap[a.block]? = some (.cells cA tA fA)) (hB : w.heap[b.block]? = some (.cells cB tB (0, 0))) (hkA : cA.size ≠ 0) (hkB : cB.size ≠ 0) :
    (Extern.SlicesOverlaps.overlaps #[tS, tS] #[tR] #[.slice (some a) la ca, .slice (some b) lb cb]).run P w = .ok (.bool false) w := by
  have hsa : w.shape? a.block = some (tA, cA.size) := by unfold World.shape?; rw [hA]
  have hsb : w.shape? b.block = some (tB, cB.size) := by unfold World.shape?; rw [hB]
  have hfb : w.frozen? b = false := by unfold World.frozen?; rw [hB]; simp
  have hfe : w.frozen? { block := b.block, off := cB.size } = false := by unfold World.frozen?; simp only; rw [hB]; simp
  have hnb : (a.block != b.block) = true := by simpa using hne
  have hnb' : (a.block == b.block) = false := by simpa using hne
  change Sem.run P (α := Value) (do
    let some t := (#[tS, tS] : Array TypeId)[0]? | stuck "slices.overlaps: no parameter types"
    let .slice elem ← underlying t | stuck "slices.overlaps: slice type expected"
    let size ← sizeOf elem
    match (some a : Option Addr), (some b : Option Addr) with
    | some a, some b =>
      if la = 0 ∨ lb = 0 ∨ size = 0 then pure (Value.bool false)
      else if a.block != b.block && (← frozen a) && (← frozen b) then unsupported .addressObserved
      else do
        if a.block != b.block then do
          noView a; noView b
          if ← mayBeOne a b then return Value.bool ((← choose (.extern "sameAddr.stringBytes" 2)) == 1)
        pure (Value.bool (a.block == b.block && a.off < b.off + lb * size && b.off < a.off + la * size))
    | _, _ => pure (Value.bool false)) w = _
  by_cases h0 : la = 0 ∨ lb = 0 ∨ size = 0
  · simp [run_underlying ht, hz, h0]
  · obtain ⟨kB, hkB'⟩ : ∃ kB, cB.size = kB + 1 := ⟨cB.size - 1, by omega⟩
    obtain ⟨kA, hkA'⟩ : ∃ kA, cA.size = kA + 1 := ⟨cA.size - 1, by omega⟩
    rw [hkB'] at hsb hfe
    rw [hkA'] at hsa
    cases hfa : w.frozen? a <;> cases hfx : w.frozen? { block := a.block, off := kA + 1 } <;>
      simp [run_underlying ht, hz, h0, hnb, hnb', frozen, noView, viewAt, mayBeOne, stringish, shape, Sem.run, hsa, hsb, hfa, hfb, hfe, hfx]
end

theorem info31z : (Tryz.prog.info? 31).map (fun i => (i.zero, i.size, i.bytes)) = some (some (Value.agg #[Value.string ⟨#[]⟩, Value.slice none 0 0, Value.slice none 0 0, Value.slice none 0 0, Value.slice none 0 0]), 5, 112) := by kernel_rfl
theorem info31 : (Tryz.prog.info? 31).map (·.size) = some 5 := by kernel_rfl

set_option maxHeartbeats 4000000 in
set_option maxRecDepth 100000 in
/-- there is room, ahead of the end: in place -/
theorem ins_shift (b off n c i vb voff vc : Nat) (cs vs : List Value) (w : World) (hi : i < n) (hroom : n + 1 ≤ c) (hc63 : n < 4294967296) (hvb : vb ≠ b)
    (hcl : cs.length = n * 5) (hvl : vs.length = 5)
    (hcs : ∀ j v, cs[j]? = some v → w.cell? ⟨b, off + j, none⟩ = some v) (hsp : ∀ j, j < (n + 1) * 5 → (w.cell? ⟨b, off + j, none⟩).isSome = true) (hfz : ∀ j, w.frozen? ⟨b, j, none⟩ = false)
    (hvs : ∀ j v, vs[j]? = some v → w.cell? ⟨vb, voff + j, none⟩ = some v) (h1c : ∀ v ∈ cs, v.oneCell' = true) (h1v : ∀ v ∈ vs, v.oneCell' = true)
    (hov : ∀ o2 lb cb, (callFunc 100 #[.slice (some ⟨vb, voff, none⟩) 1 vc, .slice (some ⟨b, o2, none⟩) lb cb]).run Tryz.prog w = .ok (.value (.bool false)) w) :
    Calls Tryz.prog 67 #[.slice (some ⟨b, off, none⟩) n c, .int .i64 i, .slice (some ⟨vb, voff, none⟩) 1 vc] w fun e w' =>
      e = .returned (.slice (some ⟨b, off, none⟩) (n + 1) c) ∧ w' = (w.drew.setCells b (off + (i + 1) * 5) (cs.drop (i * 5))).setCells b (off + i * 5) vs := by
  have mixed : Tryz.prog.follows Departure.mixedOrders = true := by kernel_rfl
  have hb1 : (0 : Int) ≤ (i : Int) + 1 := by omega
  have hz2 : ¬ ((i : Int) = (n : Int)) := by omega
  have hdl : (cs.drop (i * 5)).length = (n - i) * 5 := by rw [List.length_drop, hcl]; omega
  have hw1 : IntKind.i64.wrap ((i : Int) + 1) = (i : Int) + 1 := by rw [IntKind.wrap_i64]; omega
  have hw2 : IntKind.i64.wrap ((n : Int) + 1) = (n : Int) + 1 := by rw [IntKind.wrap_i64]; omega
  have hin : i ≤ n := by omega
  have htn : ((i : Int) + 1).toNat = i + 1 := by omega
  have htn2 : ((n : Int) + 1).toNat = n + 1 := by omega
  have hb2 : ¬ (c = i + 1) := by omega
  have hb3 : (i : Int) ≤ (n : Int) + 1 := by omega
  have hb4 : ¬ (c = i) := by omega
  have hcp1 : ∀ ty dc sc, (Builtin.copy_ #[23, 23] ty #[.slice (some ⟨b, off + (i + 1) * 5, none⟩) (n - i) dc, .slice (some ⟨b, off + i * 5, none⟩) (n + 1 - i) sc]).run Tryz.prog w.drew = .ok (goInt (Nat.min (n + 1 - i) (n - i))) (w.drew.setCells b (off + (i + 1) * 5) (cs.drop (i * 5))) := fun ty dc sc => by
    have hmin : Nat.min (n + 1 - i) (n - i) = n - i := by simp only [Nat.min_def]; split <;> omega
    exact copy_cellsK (P := Tryz.prog) w.drew 23 23 ty 31 5 b (off + (i + 1) * 5) (n - i) dc ⟨b, off + i * 5, none⟩ (n + 1 - i) sc (cs.drop (i * 5)) Tryz.underlying23 info31 (by rw [hdl, hmin])
      (fun j v hj => by rw [Addr.add_lit, Nat.add_assoc]; exact hcs (i * 5 + j) v (by rwa [List.getElem?_drop] at hj))
      (fun j hj => by rw [Nat.add_assoc]; exact hsp _ (by omega)) (fun j hj => hfz _) (fun v hv => h1c v (List.mem_of_mem_drop hv))
  obtain ⟨W1, hW1⟩ : ∃ W1, W1 = w.drew.setCells b (off + (i + 1) * 5) (cs.drop (i * 5)) := ⟨_, rfl⟩
  have hsp1 : ∀ k, k < (n + 1) * 5 → (W1.cell? ⟨b, off + k, none⟩).isSome = true := fun k hk => by
    rw [hW1]
    exact isSome_set b _ _ _ (fun j hj => by rw [Nat.add_assoc]; exact hsp _ (by omega)) _ (hsp k hk)
  have hcp2 : ∀ (W : World), (∀ x, W.cell? x = W1.cell? x) → (∀ x, W.frozen? x = W1.frozen? x) → ∀ ty dc, (Builtin.copy_ #[23, 22] ty #[.slice (some ⟨b, off + i * 5, none⟩) (n + 1 - i) dc, .slice (some ⟨vb, voff, none⟩) 1 vc]).run Tryz.prog W = .ok (goInt (Nat.min 1 (n + 1 - i))) (W.setCells b (off + i * 5) vs) := fun W hWc hWf ty dc => by
    have hmin : Nat.min 1 (n + 1 - i) = 1 := by simp only [Nat.min_def]; split <;> omega
    exact copy_cellsK (P := Tryz.prog) W 23 22 ty 31 5 b (off + i * 5) (n + 1 - i) dc ⟨vb, voff, none⟩ 1 vc vs Tryz.underlying23 info31 (by rw [hvl, hmin])
      (fun j v hj => by
        rw [Addr.add_lit, hWc, hW1, World.cell?_setCells_out b _ _ _ _ (fun h _ => absurd h hvb)]
        exact hvs j v hj)
      (fun j hj => by rw [hWc, Nat.add_assoc]; exact hsp1 _ (by omega)) (fun j hj => by rw [hWf, hW1, World.frozen?_setCells]; exact hfz _) h1v
  rw [← hW1] at hcp1
  clear hcs hsp hfz hvs h1c h1v hsp1
  go_enter Tryz.func67, Tryz.ntmps67
  go_wp2_with (simp only [hov])
  go_region_law_o (refine step_copyI rfl _ _ 23 23 rfl _ _ (by simp [Act.eval, Act.put]) (by simp [Act.eval, Act.put]) (hcp1 _ _ _) ?_)
  go_wp2_with (at_builtin; refine wpList_copyI _ rfl _ _ 23 22 rfl _ _ rfl rfl (hcp2 _ (fun _ => rfl) (fun _ => rfl) _ _) ?_)
  go_ret
  first | exact ⟨rfl, rfl⟩ | exact ⟨rfl, by rw [hW1]⟩

set_option maxHeartbeats 4000000 in
set_option maxRecDepth 100000 in
/-- no room, ahead of the end: a new row -/
theorem ins_grow (b off n c i vb voff vc : Nat) (cs vs : List Value) (w : World) (hi : i < n) (hnc : n ≤ c) (hroom : c < n + 1) (hbig : n < 4294967296)
    (hcl : cs.length = n * 5) (hvl : vs.length = 5) (hbw : b < w.heap.size) (hvw : vb < w.heap.size)
    (hcs : ∀ j v, cs[j]? = some v → w.cell? ⟨b, off + j, none⟩ = some v)
    (hvs : ∀ j v, vs[j]? = some v → w.cell? ⟨vb, voff + j, none⟩ = some v) (h1c : ∀ v ∈ cs, v.oneCell' = true) (h1v : ∀ v ∈ vs, v.oneCell' = true) :
    ∃ (G : Nat) (zs : List Value), n + 1 ≤ G ∧ zs.length = (G - i) * 5 ∧
    Calls Tryz.prog 67 #[.slice (some ⟨b, off, none⟩) n c, .int .i64 i, .slice (some ⟨vb, voff, none⟩) 1 vc] w fun e w' =>
      e = .returned (.slice (some ⟨w.heap.size, 0, none⟩) (n + 1) G) ∧
      w' = (((w.alloc (.cells ⟨cs.take (i * 5) ++ zs⟩ 31)).drew.setCells w.heap.size (i * 5) vs).drew).setCells w.heap.size ((i + 1) * 5) (cs.drop (i * 5)) := by
  have mixed : Tryz.prog.follows Departure.mixedOrders = true := by kernel_rfl
  obtain ⟨i0, hi0, hz0, hzs, hzb⟩ : ∃ i0 : TypeInfo, Tryz.prog.info? 31 = some i0 ∧ i0.zero = some (Value.agg #[Value.string ⟨#[]⟩, Value.slice none 0 0, Value.slice none 0 0, Value.slice none 0 0, Value.slice none 0 0]) ∧ i0.size = 5 ∧ i0.bytes = 112 := by
    have hk := info31z
    cases h : Tryz.prog.info? 31 with
    | none => rw [h] at hk; cases hk
    | some i0 =>
      rw [h] at hk
      simp only [Option.map_some, Option.some.injEq, Prod.mk.injEq] at hk
      exact ⟨i0, rfl, hk.1, hk.2.1, hk.2.2⟩
  have hz2 : ¬ ((i : Int) = (n : Int)) := by omega
  have hz3 : (c : Int) < (n : Int) + 1 := by omega
  have hkk : (n : Int) + 1 - (i : Int) = ((n + 1 - i : Nat) : Int) := by omega
  have hik : i + (n + 1 - i) = n + 1 := by omega
  have htl : (cs.take (i * 5)).length = i * 5 := by rw [List.length_take, hcl]; omega
  have hold : (Builtin.firstCells i0.size i (.slice (some ⟨b, off, none⟩) i c)).run Tryz.prog w.drew = .ok (cs.take (i * 5)).toArray w.drew := by
    rw [hzs]
    exact run_firstCells_some w.drew 5 i ⟨b, off, none⟩ i c (cs.take (i * 5)) htl (fun j v hj => by
      rw [Addr.add_lit]
      rw [List.getElem?_take] at hj
      split at hj
      · exact hcs j v hj
      · cases hj)
  obtain ⟨Z, hZ⟩ : ∃ Z, Z = (Value.agg #[Value.string ⟨#[]⟩, Value.slice none 0 0, Value.slice none 0 0, Value.slice none 0 0, Value.slice none 0 0]) := ⟨_, rfl⟩
  have hZ5 : Z.cells.size = 5 := by rw [hZ]; rfl
  rw [← hZ] at hz0
  obtain ⟨G, hG⟩ : ∃ G, G = grownCap w (n + 1) c 31 := ⟨_, rfl⟩
  have hGn : n + 1 ≤ G := by rw [hG]; exact grownCap_ge w _ _ _
  have hrz : ∀ ty, (Builtin.append_ #[23, 3] ty #[.slice (some ⟨b, off, none⟩) i c, .int .i64 ((n : Int) + 1 - (i : Int))]).run Tryz.prog w =
      .ok (.slice (some ⟨w.heap.size, 0, none⟩) (n + 1) G) (w.drew.alloc (.cells ((cs.take (i * 5)).toArray ++ Builtin.zeroCells Z.cells (n + 1 - i) ++ Builtin.zeroCells Z.cells (G - (n + 1))) 31)) := fun ty => by
    have h := Lib.run_append_grow_zeros w 23 3 ty 31 i0 _ .i64 .i64 Tryz.underlying23 Tryz.underlying3 hi0 hz0 (some ⟨b, off, none⟩) i c (cs.take (i * 5)) hold (n + 1 - i) (by omega) (by omega) (by omega) (by omega) (by rw [hzb]; omega) (by rw [hzb, hik]; exact growslice_fits (by omega) (by omega))
    rw [hik] at h
    rw [hkk, hG]
    exact h
  obtain ⟨zs, hzl⟩ : ∃ zs : List Value, zs = (Builtin.zeroCells Z.cells (n + 1 - i) ++ Builtin.zeroCells Z.cells (G - (n + 1))).toList := ⟨_, rfl⟩
  have hzsl : zs.length = (G - i) * 5 := by
    rw [hzl]
    simp [Builtin.zeroCells, hZ5]
    rw [← Nat.add_mul]; congr 1; omega
  have hrow : (cs.take (i * 5)).toArray ++ Builtin.zeroCells Z.cells (n + 1 - i) ++ Builtin.zeroCells Z.cells (G - (n + 1)) = ⟨cs.take (i * 5) ++ zs⟩ := by
    rw [hzl]; apply Array.ext'; simp
  rw [hrow] at hrz
  refine ⟨G, zs, hGn, hzsl, ?_⟩
  obtain ⟨ROW, hROW⟩ : ∃ ROW : Array Value, ROW = ⟨cs.take (i * 5) ++ zs⟩ := ⟨_, rfl⟩
  rw [← hROW] at hrz ⊢
  have hRl : (n + 1) * 5 ≤ ROW.size := by
    rw [hROW]
    simp only [List.size_toArray, List.length_append, htl, hzsl]
    omega
  obtain ⟨W1, hW1⟩ : ∃ W1, W1 = w.drew.alloc (.cells ROW 31) := ⟨_, rfl⟩
  rw [← hW1] at hrz
  have hN : ∀ j, j < (n + 1) * 5 → (W1.cell? ⟨w.heap.size, j, none⟩).isSome = true := fun j hj => by
    rw [hW1, World.cell?_alloc_at (w := w.drew) ROW _ w.heap.size j rfl, Array.getElem?_eq_getElem (by omega)]; rfl
  have hNf : ∀ j, W1.frozen? ⟨w.heap.size, j, none⟩ = false := fun j => by rw [hW1]; exact World.frozen?_alloc_at (w := w.drew) ROW _ w.heap.size j rfl
  have hOb : ∀ j v, w.cell? ⟨b, j, none⟩ = some v → W1.cell? ⟨b, j, none⟩ = some v := fun j v h => by rw [hW1, World.cell?_alloc_past (w := w.drew) _ b j hbw]; exact h
  have hOv : ∀ j v, w.cell? ⟨vb, j, none⟩ = some v → W1.cell? ⟨vb, j, none⟩ = some v := fun j v h => by rw [hW1, World.cell?_alloc_past (w := w.drew) _ vb j hvw]; exact h
  have hdl : (cs.drop (i * 5)).length = (n - i) * 5 := by rw [List.length_drop, hcl]; omega
  have hcpA : ∀ (W : World), (∀ x, W.cell? x = W1.cell? x) → (∀ x, W.frozen? x = W1.frozen? x) → ∀ ty dc, (Builtin.copy_ #[23, 22] ty #[.slice (some ⟨w.heap.size, i * 5, none⟩) (n + 1 - i) dc, .slice (some ⟨vb, voff, none⟩) 1 vc]).run Tryz.prog W = .ok (goInt (Nat.min 1 (n + 1 - i))) (W.setCells w.heap.size (i * 5) vs) := fun W hWc hWf ty dc => by
    have hmin : Nat.min 1 (n + 1 - i) = 1 := by simp only [Nat.min_def]; split <;> omega
    exact copy_cellsK (P := Tryz.prog) W 23 22 ty 31 5 w.heap.size (i * 5) (n + 1 - i) dc ⟨vb, voff, none⟩ 1 vc vs Tryz.underlying23 info31 (by rw [hvl, hmin])
      (fun j v hj => by rw [Addr.add_lit, hWc]; exact hOv _ v (hvs j v hj))
      (fun j hj => by rw [hWc]; exact hN _ (by omega)) (fun j hj => by rw [hWf]; exact hNf _) h1v
  have hG63 : G ≤ 9223372036854775807 := by
    have := grownCap_le_maxLen w (n + 1) c 31 (by unfold maxLen; omega)
    rw [← hG] at this
    unfold maxLen at this
    omega
  have hGi : ¬ (G = i) := by omega
  have hGim : ¬ (G = i + 1) := by omega
  have hci : ¬ (c = i) := by omega
  have hbN : b ≠ w.heap.size := by omega
  have hcpB : ∀ (W : World), (∀ x, W.cell? x = (W1.setCells w.heap.size (i * 5) vs).cell? x) → (∀ x, W.frozen? x = (W1.setCells w.heap.size (i * 5) vs).frozen? x) → ∀ ty dc sc, (Builtin.copy_ #[23, 23] ty #[.slice (some ⟨w.heap.size, (i + 1) * 5, none⟩) (n - i) dc, .slice (some ⟨b, off + i * 5, none⟩) (n - i) sc]).run Tryz.prog W = .ok (goInt (Nat.min (n - i) (n - i))) (W.setCells w.heap.size ((i + 1) * 5) (cs.drop (i * 5))) := fun W hWc hWf ty dc sc => by
    have hmin : Nat.min (n - i) (n - i) = n - i := Nat.min_self _
    exact copy_cellsK (P := Tryz.prog) W 23 23 ty 31 5 w.heap.size ((i + 1) * 5) (n - i) dc ⟨b, off + i * 5, none⟩ (n - i) sc (cs.drop (i * 5)) Tryz.underlying23 info31 (by rw [hdl, hmin])
      (fun j v hj => by
        rw [Addr.add_lit, hWc, World.cell?_setCells_out _ _ _ _ _ (fun h _ => absurd h hbN), Nat.add_assoc]
        exact hOb _ v (hcs (i * 5 + j) v (by rwa [List.getElem?_drop] at hj)))
      (fun j hj => by rw [hWc]; exact isSome_set _ _ _ _ (fun t ht => hN _ (by omega)) _ (hN _ (by omega)))
      (fun j hj => by rw [hWf, World.frozen?_setCells]; exact hNf _) (fun v hv => h1c v (List.mem_of_mem_drop hv))
  subst hW1
  have hE1 : ∀ x, ((w.alloc (.cells ROW 31)).drew).cell? x = (w.drew.alloc (.cells ROW 31)).cell? x := fun x => rfl
  have hE2 : ∀ x, ((w.alloc (.cells ROW 31)).drew).frozen? x = (w.drew.alloc (.cells ROW 31)).frozen? x := fun x => rfl
  have hF1 : ∀ x, (((w.alloc (.cells ROW 31)).drew.setCells w.heap.size (i * 5) vs).drew).cell? x = ((w.drew.alloc (.cells ROW 31)).setCells w.heap.size (i * 5) vs).cell? x := fun x => rfl
  have hF2 : ∀ x, (((w.alloc (.cells ROW 31)).drew.setCells w.heap.size (i * 5) vs).drew).frozen? x = ((w.drew.alloc (.cells ROW 31)).setCells w.heap.size (i * 5) vs).frozen? x := fun x => rfl
  have hw1 : IntKind.i64.wrap ((i : Int) + 1) = (i : Int) + 1 := by rw [IntKind.wrap_i64]; omega
  have hw2 : IntKind.i64.wrap ((n : Int) + 1) = (n : Int) + 1 := by rw [IntKind.wrap_i64]; omega
  have hb1 : (0 : Int) ≤ (i : Int) + 1 := by omega
  have hin : i ≤ n := by omega
  have htn : ((i : Int) + 1).toNat = i + 1 := by omega
  have hb3 : (i : Int) ≤ (n : Int) + 1 := by omega
  clear hkk hik hold hROW hG hRl hrow hzl hzsl hcs hvs h1c h1v hN hNf hOb hOv
  go_enter Tryz.func67, Tryz.ntmps67
  go_wp2_with (first
    | (at_builtin; refine Lib.wpList_append_run _ rfl _ _ _ _ rfl _ _ rfl rfl _ _ (hrz _) ?_)
    | (at_builtin; refine wpList_copyI _ rfl _ _ 23 22 rfl _ _ rfl rfl (hcpA _ hE1 hE2 _ _) ?_)
    | (at_builtin; refine wpList_copyI _ rfl _ _ 23 23 rfl _ _ rfl rfl (hcpB _ (fun _ => rfl) (fun _ => rfl) _ _ _) ?_))
  go_region_law_o (refine step_copyI rfl _ _ 23 23 rfl (.slice (some ⟨w.heap.size, (i + 1) * 5, none⟩) (n - i) (G - (i + 1))) (.slice (some ⟨b, off + i * 5, none⟩) (n - i) (c - i)) (by simp [Act.eval, Act.put]) (by simp [Act.eval, Act.put]) (hcpB _ hF1 hF2 3 (G - (i + 1)) (c - i)) ?_)
  go_wp2
  go_ret
  exact ⟨rfl, rfl⟩
end Go.Proofs
end

section
/- slices.Insert at api.Interface, one value, ahead of the end: the contract. -/
set_option linter.unusedVariables false
set_option linter.unusedSimpArgs false
namespace Go.Proofs
open Go.Shelf Go.RowKit Go.Lib
theorem put_cells (b : Nat) : ∀ (us : List Value) (o : Nat) (w : World) (vs : List Value) (T : TypeId) (fr : Nat × Nat), w.heap[b]? = some (.cells ⟨vs⟩ T fr) →
    ∃ vs', (w.setCells b o us).heap[b]? = some (.cells ⟨vs'⟩ T fr) ∧ vs'.length = vs.length ∧ (∀ t, t < us.length → o + t < vs.length → vs'[o + t]? = us[t]?) ∧ (∀ k, (k < o ∨ o + us.length ≤ k) → vs'[k]? = vs[k]?)
  | [], o, w, vs, T, fr, h => ⟨vs, h, rfl, fun t ht => by simp at ht, fun k _ => rfl⟩
  | u :: us, o, w, vs, T, fr, h => by
    have h1 : (w.setCell ⟨b, o, none⟩ u).heap[b]? = some (.cells ⟨vs.set o u⟩ T fr) := by
      simp only [World.setCell, Array.getElem?_modify, if_pos, h, Option.map_some]
      simp
    obtain ⟨vs', h2, h3, h4, h5⟩ := put_cells b us (o + 1) _ _ _ _ h1
    refine ⟨vs', h2, by rw [h3]; simp, ?_, ?_⟩
    · intro t ht hlt
      cases t with
      | zero =>
        rw [Nat.add_zero] at hlt ⊢
        rw [h5 o (.inl (Nat.lt_succ_self _)), List.getElem?_set_self hlt]; rfl
      | succ t =>
        have := h4 t (by simpa using ht) (by simp; omega)
        rw [show o + (t + 1) = o + 1 + t by omega, this]; rfl
    · intro k hk
      rw [h5 k (by simp at hk; omega), List.getElem?_set_ne (by simp at hk; omega)]
theorem put_rest (b : Nat) : ∀ (us : List Value) (o : Nat) (w : World), (w.setCells b o us).heap.size = w.heap.size ∧ (w.setCells b o us).os = w.os ∧ (w.setCells b o us).tape = w.tape ∧ (w.setCells b o us).output = w.output ∧ (w.setCells b o us).drawn = w.drawn ∧
    ∀ k, k ≠ b → (w.setCells b o us).heap[k]? = w.heap[k]?
  | [], o, w => ⟨rfl, rfl, rfl, rfl, rfl, fun _ _ => rfl⟩
  | u :: us, o, w => by
    obtain ⟨h1, h2, h3, h4, h5, h6⟩ := put_rest b us (o + 1) (w.setCell ⟨b, o, none⟩ u)
    refine ⟨by rw [World.setCells, h1]; simp [World.setCell], by rw [World.setCells, h2]; rfl, by rw [World.setCells, h3]; rfl, by rw [World.setCells, h4]; rfl, by rw [World.setCells, h5]; rfl, ?_⟩
    intro k hk
    rw [World.setCells, h6 k hk]
    simp only [World.setCell, Array.getElem?_modify, if_neg (Ne.symm hk)]
end Go.Proofs
namespace Go.VC.T07
open Go Go.VC Go.Proofs
theorem ins_fin {rows' : List (List D)} {K : PV → List Ob → Prop} {E : List RI} {Pp : Per} {w W : World} {d : D} {gb o len cap g o2 n2 cap2 : Nat} {vs2 : List Value} {T2 : TypeId}
    (hw : WR tt E Pp [.row 31 d true] w) (hri : E[0]? = some (.row gb o len cap)) (hg : g = gb ∨ w.heap.size ≤ g) (hnb : NoPi Pp gb) (hno : NoPi Pp g)
    (hfin : W.heap[g]? = some (.cells ⟨vs2⟩ T2 (0, 0))) (hfit : o2 + cap2 * 5 ≤ vs2.length) (hcap : n2 ≤ cap2) (hrow : RowAt tt Pp 31 vs2 o2 rows') (hl : rows'.length = n2)
    (hother : ∀ b, b < w.heap.size → b ≠ gb → W.heap[b]? = w.heap[b]?) (hs : w.heap.size ≤ W.heap.size) (hos : W.os = w.os) (hta : W.tape = w.tape) (hou : W.output = w.output) (hdr : w.drawn ≤ W.drawn)
    (h : K (.row 31 1) [.dead, .row 31 (.list rows') true]) :
    FCPost tt E Pp [.row 31 d true] w K (.returned (.slice (some ⟨g, o2, none⟩) n2 cap2)) W := by
  have hEl : E.length = 1 := hw.len
  have hE1 : (E ++ [RI.row g o2 n2 cap2])[1]? = some (.row g o2 n2 cap2) := by rw [List.getElem?_append_right (by omega), hEl]; rfl
  refine ⟨_, E ++ [.row g o2 n2 cap2], Pp, _, _, rfl, .of fun i x hx => ?_, fun _ _ h => h, ⟨by simp [hEl], ?_, ?_, ?_⟩, .row _ _ _ _ _ _ hE1, h, ⟨hos, hta, hou, hs, hdr, ?_⟩, fun _ _ h => .inl h, ?_⟩
  · rw [List.getElem?_append_left (by exact (List.getElem?_eq_some_iff.1 hx).1)]; exact hx
  · intro ad v hpv
    have hne := hnb ad v hpv
    have hc := hw.pi ad v hpv
    have hlt4 : ad.block < w.heap.size := by
      rcases Nat.lt_or_ge ad.block w.heap.size with h' | h'
      · exact h'
      · simp only [World.cell?, Array.getElem?_eq_none h'] at hc; simp at hc
    simp only [World.cell?] at hc ⊢
    rw [hother _ hlt4 hne]; exact hc
  · intro i ob ho hlv
    match i, ho with
    | 0, ho => simp at ho; subst ho; simp [Ob.live] at hlv
    | 1, ho =>
      simp at ho; subst ho
      refine ⟨_, hE1, ?_⟩
      simp only [OR]
      exact ⟨vs2, T2, rows', hfin, rfl, hl, hcap, hfit, hrow, fun _ => hno, by simp⟩
    | i+2, ho => simp at ho
  · intro i j oi oj ri rj b hi hj li lj ei ej bi bj
    match i, j, hi, hj with
    | 0, _, hi, _ => simp at hi; subst hi; simp [Ob.live] at li
    | _, 0, _, hj => simp at hj; subst hj; simp [Ob.live] at lj
    | 1, 1, _, _ => rfl
    | i+2, _, hi, _ => simp at hi
    | _, j+2, _, hj => simp at hj
  · intro k hk hn
    refine hother k hk fun e => hn ?_
    subst e
    exact ⟨0, _, _, rfl, rfl, hri, rfl⟩
  · intro i ob ri b ho hlv hE' hb
    match i, ho with
    | 0, ho => simp at ho; subst ho; simp [Ob.live] at hlv
    | 1, ho =>
      rw [hE1] at hE'; cases hE'
      simp [RI.block?] at hb; subst hb
      rcases hg with rfl | hg
      · exact .inr ⟨0, _, _, rfl, rfl, hri, rfl⟩
      · exact .inl hg
    | i+2, ho => simp at ho
theorem rd_one {Pp : Per} {ck : CK} {v : Value} {d : D} (h : RD tt Pp ck v d) : v.oneCell' = true := by
  cases h <;> rfl
/-- cells whose rows are known, one by one -/
theorem row_of {Pp : Per} {vs2 : List Value} {o2 n i : Nat} {cs us : List Value} {rows : List (List D)} {vrow : List D} (hi : i < n) (hl : rows.length = n) (hcl : cs.length = n * 5) (hul : us.length = 5)
    (h1 : ∀ t, t < i * 5 → vs2[o2 + t]? = cs[t]?) (h2 : ∀ t, t < 5 → vs2[o2 + i * 5 + t]? = us[t]?) (h3 : ∀ t, i * 5 ≤ t → t < n * 5 → vs2[o2 + 5 + t]? = cs[t]?)
    (hr : RowAt tt Pp 31 cs 0 rows) (hv : RowAt tt Pp 31 us 0 [vrow]) : RowAt tt Pp 31 vs2 o2 (rows.take i ++ vrow :: rows.drop i) := by
  have hk : (cksOf tt 31).length = 5 := rfl
  intro q row hq
  rw [hk]
  rcases Nat.lt_trichotomy q i with hqi | hqi | hqi
  · rw [List.getElem?_append_left (by rw [List.length_take]; omega), List.getElem?_take_of_lt hqi] at hq
    obtain ⟨a, b⟩ := hr q row hq
    refine ⟨a, fun j d ck hj hck => ?_⟩
    obtain ⟨v, e, r⟩ := b j d ck hj hck
    have hj5 : j < 5 := by rw [← hk]; exact (List.getElem?_eq_some_iff.1 hck).1
    refine ⟨v, ?_, r⟩
    rw [hk] at e
    rw [Nat.add_assoc, h1 _ (by omega), ← e]; congr 1; omega
  · subst hqi
    rw [List.getElem?_append_right (by rw [List.length_take]; omega), List.length_take, show q - min q rows.length = 0 by omega] at hq
    simp only [List.getElem?_cons_zero, Option.some.injEq] at hq
    subst hq
    obtain ⟨a, b⟩ := hv 0 vrow rfl
    refine ⟨a, fun j d ck hj hck => ?_⟩
    obtain ⟨v, e, r⟩ := b j d ck hj hck
    have hj5 : j < 5 := by rw [← hk]; exact (List.getElem?_eq_some_iff.1 hck).1
    refine ⟨v, ?_, r⟩
    rw [h2 _ hj5, ← e]; congr 1; omega
  · rw [List.getElem?_append_right (by rw [List.length_take]; omega), List.length_take, show q - min i rows.length = (q - i - 1) + 1 by omega, List.getElem?_cons_succ, List.getElem?_drop, show i + (q - i - 1) = q - 1 by omega] at hq
    obtain ⟨a, b⟩ := hr (q-1) row hq
    have hq1 : q - 1 < n := by rw [← hl]; exact (List.getElem?_eq_some_iff.1 hq).1
    refine ⟨a, fun j d ck hj hck => ?_⟩
    obtain ⟨v, e, r⟩ := b j d ck hj hck
    have hj5 : j < 5 := by rw [← hk]; exact (List.getElem?_eq_some_iff.1 hck).1
    refine ⟨v, ?_, r⟩
    rw [hk] at e
    rw [show o2 + q * 5 + j = o2 + 5 + ((q-1) * 5 + j) by omega, h3 _ (by omega) (by omega), ← e]; congr 1; omega
theorem over31 (w : World) (a b : Addr) (la ca lb cb : Nat) (hne : a.block ≠ b.block) (cA cB : Array Value) (tA tB : TypeId)
    (fA : Nat × Nat) (hA : w.heap[a.block]? = some (.cells cA tA fA)) (hB : w.heap[b.block]? = some (.cells cB tB (0, 0))) (hkA : cA.size ≠ 0) (hkB : cB.size ≠ 0) :
    (callFunc 100 #[.slice (some a) la ca, .slice (some b) lb cb]).run Tryz.prog w = .ok (.value (.bool false)) w := by
  rw [run_callFunc_extern (e := Extern.SlicesOverlaps.overlaps #[22, 22] #[4]) Tryz.func100 (by kernel_rfl) (by kernel_rfl) (by kernel_rfl) (by kernel_rfl)]
  rw [overlaps_no w 22 4 31 Tryz.underlying22 5 Tryz.sizeOf31 a b la ca lb cb hne cA cB tA tB fA hA hB hkA hkB]
  rfl
set_option maxHeartbeats 1000000 in
/-- F67, ahead of the end -/
theorem F67i {rows : List (List D)} {vrow : List D} {i : Nat} (hi : i < rows.length) (hn : rows.length < 4294967296) {K : PV → List Ob → Prop}
    (h : K (.row 31 1) [.dead, .row 31 (.list (rows.take i ++ vrow :: rows.drop i)) true]) :
    FC Tryz.prog tt 67 [.row 31 (.list rows) true] [.row 31 0, .int .i64 (Int.ofNat i), .lst 31 (.list [vrow])] K := by
  intro E Pp w vals hw hv
  have hk : (cksOf tt 31).length = 5 := rfl
  obtain ⟨ri, hri, hor⟩ := hw.ob 0 _ rfl rfl
  cases hv with
  | cons v0 _ vs0 _ hv0 hv1 =>
  cases hv1 with
  | cons v1 _ vs1 _ hv1 hv2 =>
  cases hv2 with
  | cons v2 _ vs2 _ hv2 hv3 =>
  cases hv3
  cases hv1
  cases hv0 with
  | row0 _ _ hr =>
    rw [hri] at hr; cases hr
    simp only [OR, D.list.injEq] at hor
    subst hor; simp at hi
  | row _ _ gb o len cap hr =>
  rw [hri] at hr; cases hr
  simp only [OR, D.list.injEq] at hor
  obtain ⟨vs, T, rows2, hheap, hrr, hlen, hcap, hfit, hrow, hnb, _⟩ := hor
  subst hrr
  have hnb := hnb trivial
  rw [hk] at hfit
  cases hv2 with
  | lst _ _ _ hrd =>
  cases hrd with
  | sl _ vb vo vlen vc _ vf hvl hvc hvrow hvpi hvrd =>
  simp only [List.length_cons, List.length_nil, Nat.zero_add] at hvl
  subst hvl
  rw [hk] at hvpi
  have hvne : vb ≠ gb := fun e => hnb _ _ (hvpi 0 0 (by omega) (by omega)) e
  obtain ⟨us, hus⟩ : ∃ us, us = (List.range 5).map (vf 0) := ⟨_, rfl⟩
  have hul : us.length = 5 := by rw [hus]; simp
  have hug : ∀ t v, us[t]? = some v → t < 5 ∧ v = vf 0 t := fun t v e => by
    have ht : t < 5 := by rw [← hul]; exact (List.getElem?_eq_some_iff.1 e).1
    rw [hus, List.getElem?_map, List.getElem?_range ht] at e
    simp at e; exact ⟨ht, e.symm⟩
  have hvs : ∀ t v, us[t]? = some v → w.cell? ⟨vb, vo + t, none⟩ = some v := fun t v e => by
    obtain ⟨ht, rfl⟩ := hug t v e
    have := hw.pi _ _ (hvpi 0 t (by omega) ht)
    rwa [Nat.zero_mul, Nat.add_zero] at this
  have hvR : RowAt tt Pp 31 us 0 [vrow] := by
    intro q row hq
    cases q with
    | succ q => simp at hq
    | zero =>
      simp at hq; subst hq
      refine ⟨hvrow 0 _ rfl, fun j d ck hj hck => ?_⟩
      have hj5 : j < 5 := by rw [← hk]; exact (List.getElem?_eq_some_iff.1 hck).1
      refine ⟨vf 0 j, ?_, hvrd 0 j _ d ck rfl hj hck⟩
      rw [Nat.zero_mul, Nat.zero_add, hus, List.getElem?_map, List.getElem?_range hj5]; rfl
  have h1v : ∀ v ∈ us, v.oneCell' = true := fun v hm => by
    obtain ⟨t, ht, e⟩ := List.mem_iff_getElem.1 hm
    obtain ⟨ht5, rfl⟩ := hug t v (List.getElem?_eq_some_iff.2 ⟨ht, e⟩)
    have hrl := hvrow 0 vrow rfl
    rw [hk] at hrl
    exact rd_one (hvrd 0 t vrow (vrow[t]'(by omega)) ((cksOf tt 31)[t]'(by rw [hk]; omega)) rfl (by simp) (by simp))
  obtain ⟨cs, hcs⟩ : ∃ cs, cs = (vs.drop o).take (len * 5) := ⟨_, rfl⟩
  have hcapm : len * 5 ≤ cap * 5 := Nat.mul_le_mul_right 5 hcap
  have hcl : cs.length = len * 5 := by rw [hcs, List.length_take, List.length_drop]; omega
  have hcg : ∀ t, t < len * 5 → cs[t]? = vs[o + t]? := fun t ht => by rw [hcs, List.getElem?_take_of_lt ht, List.getElem?_drop]
  have hcell : ∀ t v, cs[t]? = some v → w.cell? ⟨gb, o + t, none⟩ = some v := fun t v e => by
    have ht : t < len * 5 := by rw [← hcl]; exact (List.getElem?_eq_some_iff.1 e).1
    rw [cell_of_block hheap, ← hcg t ht]; exact e
  have hcR : RowAt tt Pp 31 cs 0 rows := by
    intro q row hq
    obtain ⟨a, b⟩ := hrow q row hq
    refine ⟨a, fun j d ck hj hck => ?_⟩
    obtain ⟨v, e, r⟩ := b j d ck hj hck
    have hj5 : j < 5 := by rw [← hk]; exact (List.getElem?_eq_some_iff.1 hck).1
    have hq1 : q < len := by rw [← hlen]; exact (List.getElem?_eq_some_iff.1 hq).1
    refine ⟨v, ?_, r⟩
    rw [hk] at e ⊢
    rw [hcg _ (by omega), ← e]; congr 1; omega
  have h1c : ∀ v ∈ cs, v.oneCell' = true := fun v hm => by
    obtain ⟨t, ht, e⟩ := List.mem_iff_getElem.1 hm
    have hq : t / 5 < rows.length := by omega
    obtain ⟨a, b⟩ := hcR (t / 5) rows[t / 5] (by simp)
    rw [hk] at a
    obtain ⟨v', e', r⟩ := b (t % 5) (rows[t / 5][t % 5]'(by omega)) ((cksOf tt 31)[t % 5]'(by rw [hk]; omega)) (by simp) (by simp)
    rw [hk, show 0 + t / 5 * 5 + t % 5 = t by omega, List.getElem?_eq_some_iff.2 ⟨ht, e⟩] at e'
    cases e'
    exact rd_one r
  have hgb : gb < w.heap.size := by
    rcases Nat.lt_or_ge gb w.heap.size with h' | h'
    · exact h'
    · rw [Array.getElem?_eq_none h'] at hheap; simp at hheap
  have hvlen : 0 < vs.length := by omega
  obtain ⟨cA, tA, fA, hA, hkA⟩ : ∃ cA tA fA, w.heap[vb]? = some (.cells cA tA fA) ∧ cA.size ≠ 0 := by
    have h0 := hvs 0 (vf 0 0) (by rw [hus]; rfl)
    simp only [World.cell?] at h0
    split at h0
    · rename_i c t f e
      simp at h0
      refine ⟨c, t, f, e, fun hz => ?_⟩
      rw [Array.getElem?_eq_none (by omega)] at h0; cases h0
    · cases h0
  have hvw : vb < w.heap.size := by
    rcases Nat.lt_or_ge vb w.heap.size with h' | h'
    · exact h'
    · rw [Array.getElem?_eq_none h'] at hA; simp at hA
  refine .inl ⟨enter_run (Has.f ⟨Tryz.func67, by rfl, rfl⟩) (by rfl) (by rfl), ?_⟩
  rw [hlen] at hi hn
  by_cases hroom : len + 1 ≤ cap
  · have hrm5 : (len + 1) * 5 ≤ cap * 5 := Nat.mul_le_mul_right 5 hroom
    refine (ins_shift gb o len cap i vb vo vc cs us w hi hroom hn hvne hcl hul hcell (fun j hj => by
        have hj' : o + j < vs.length := by omega
        rw [cell_of_block hheap, List.getElem?_eq_getElem hj']; rfl) (fun j => by simp [World.frozen?, hheap]) hvs h1c h1v
        (fun o2 lb cb => over31 w _ _ _ _ _ _ hvne cA ⟨vs⟩ tA T fA hA hheap hkA (by show vs.length ≠ 0; omega))).mono ?_
    rintro e w' ⟨rfl, rfl⟩
    have hB : (w.drew).heap[gb]? = some (.cells ⟨vs⟩ T (0, 0)) := hheap
    obtain ⟨vs1, a1, a2, a3, a4⟩ := put_cells gb (cs.drop (i * 5)) (o + (i + 1) * 5) w.drew vs T (0, 0) hB
    obtain ⟨vs3, b1, b2, b3, b4⟩ := put_cells gb us (o + i * 5) _ vs1 T (0, 0) a1
    obtain ⟨p1, p2, p3, p4, p5, p6⟩ := put_rest gb (cs.drop (i * 5)) (o + (i + 1) * 5) w.drew
    obtain ⟨q1, q2, q3, q4, q5, q6⟩ := put_rest gb us (o + i * 5) (w.drew.setCells gb (o + (i + 1) * 5) (cs.drop (i * 5)))
    have hdl : (cs.drop (i * 5)).length = (len - i) * 5 := by rw [List.length_drop, hcl]; omega
    refine ins_fin hw hri (.inl rfl) hnb hnb b1 (by rw [b2, a2]; exact hfit) hroom (row_of hi hlen hcl hul ?_ ?_ ?_ hcR hvR) (by simp; omega) ?_ ?_ ?_ ?_ ?_ ?_ h
    · intro t ht
      rw [b4 _ (by omega), a4 _ (by omega), hcg t (by omega)]
    · intro t ht
      rw [b3 _ (by omega) (by omega)]
    · intro t ht1 ht2
      rw [b4 _ (by omega), show o + 5 + t = o + (i + 1) * 5 + (t - i * 5) by omega, a3 _ (by omega) (by omega), List.getElem?_drop]
      congr 1; omega
    · intro b hb hne
      rw [q6 b hne, p6 b hne]; rfl
    · rw [q1, p1]; exact Nat.le_refl _
    · rw [q2, p2]; rfl
    · rw [q3, p3]; rfl
    · rw [q4, p4]; rfl
    · rw [q5, p5]; exact Nat.le_succ _
  · obtain ⟨G, zs, hG, hzl, hC⟩ := ins_grow gb o len cap i vb vo vc cs us w hi hcap (by omega) hn hcl hul hgb hvw hcell hvs h1c h1v
    refine hC.mono ?_
    rintro e w' ⟨rfl, rfl⟩
    have htl : (cs.take (i * 5)).length = i * 5 := by rw [List.length_take, hcl]; omega
    have hzl' : zs.length = G * 5 - i * 5 := by rw [hzl, Nat.sub_mul]
    have hG5 : (len + 1) * 5 ≤ G * 5 := Nat.mul_le_mul_right 5 hG
    obtain ⟨v1, hv1⟩ : ∃ v1, v1 = cs.take (i * 5) ++ zs := ⟨_, rfl⟩
    have hv1l : v1.length = G * 5 := by rw [hv1, List.length_append, htl, hzl']; omega
    rw [← hv1]
    have hB : ((w.alloc (.cells ⟨v1⟩ 31)).drew).heap[w.heap.size]? = some (.cells ⟨v1⟩ 31 (0, 0)) := by
      show (w.heap.push (.cells ⟨v1⟩ 31 (0, 0)))[w.heap.size]? = _
      rw [Array.getElem?_push_size]
    obtain ⟨vs1, a1, a2, a3, a4⟩ := put_cells w.heap.size us (i * 5) _ v1 31 (0, 0) hB
    obtain ⟨vs3, b1, b2, b3, b4⟩ := put_cells w.heap.size (cs.drop (i * 5)) ((i + 1) * 5) (((w.alloc (.cells ⟨v1⟩ 31)).drew.setCells w.heap.size (i * 5) us).drew) vs1 31 (0, 0) a1
    obtain ⟨p1, p2, p3, p4, p5, p6⟩ := put_rest w.heap.size us (i * 5) ((w.alloc (.cells ⟨v1⟩ 31)).drew)
    obtain ⟨q1, q2, q3, q4, q5, q6⟩ := put_rest w.heap.size (cs.drop (i * 5)) ((i + 1) * 5) (((w.alloc (.cells ⟨v1⟩ 31)).drew.setCells w.heap.size (i * 5) us).drew)
    have hdl : (cs.drop (i * 5)).length = (len - i) * 5 := by rw [List.length_drop, hcl]; omega
    refine ins_fin hw hri (.inr (Nat.le_refl _)) hnb ?_ b1 (by rw [b2, a2, hv1l]; omega) hG (row_of hi hlen hcl hul ?_ ?_ ?_ hcR hvR) (by simp; omega) ?_ ?_ ?_ ?_ ?_ ?_ h
    · intro ad v hpv e
      have hc := hw.pi ad v hpv
      simp only [World.cell?, Array.getElem?_eq_none (Nat.le_of_eq e.symm)] at hc; simp at hc
    · intro t ht
      rw [b4 _ (by omega), a4 _ (by omega), Nat.zero_add, hv1, List.getElem?_append_left (by omega), List.getElem?_take_of_lt ht]
    · intro t ht
      rw [b4 _ (by omega), Nat.zero_add, a3 _ (by omega) (by omega)]
    · intro t ht1 ht2
      rw [show 0 + 5 + t = (i + 1) * 5 + (t - i * 5) by omega, b3 _ (by omega) (by omega), List.getElem?_drop]
      congr 1; omega
    · intro b hb hne
      rw [q6 b (by omega)]
      show ((w.alloc (.cells ⟨v1⟩ 31)).drew.setCells w.heap.size (i * 5) us).heap[b]? = _
      rw [p6 b (by omega)]
      show (w.heap.push (.cells ⟨v1⟩ 31 (0, 0)))[b]? = _
      rw [Array.getElem?_push_lt hb, Array.getElem?_eq_getElem hb]
    · rw [q1]
      show _ ≤ ((w.alloc (.cells ⟨v1⟩ 31)).drew.setCells w.heap.size (i * 5) us).heap.size
      rw [p1]
      show _ ≤ (w.heap.push (.cells ⟨v1⟩ 31 (0, 0))).size
      rw [Array.size_push]; omega
    · rw [q2]; exact p2
    · rw [q3]; exact p3
    · rw [q4]; exact p4
    · rw [q5]
      show _ ≤ ((w.alloc (.cells ⟨v1⟩ 31)).drew.setCells w.heap.size (i * 5) us).drawn + 1
      rw [p5]
      show w.drawn ≤ w.drawn + 1 + 1
      omega
end Go.VC.T07
end

section
/- Add. -/
set_option linter.unusedSimpArgs false
set_option linter.unusedVariables false
namespace Go.VC
def atI (l : List IF) (i : IF) : Nat := (l.findIdx? fun x => slt i.path x.path).getD l.length
def addI (env : List IF) (i : IF) : List IF := (env.filter fun x => x.path != i.path).take (atI (env.filter fun x => x.path != i.path) i) ++ i :: (env.filter fun x => x.path != i.path).drop (atI (env.filter fun x => x.path != i.path) i)
end Go.VC
namespace Go.VC.T07
open Go Go.VC Go.Proofs
set_option maxRecDepth 100000 in
theorem F66 {x y : IF} {y0 : S} {y1 y2 y3 y4 : D} {c0 : S} {c1 c2 c3 c4 : D} {K : PV → List Ob → Prop} (hx : ifIs x c0 c1 c2 c3 c4) (hy : ifIs y y0 y1 y2 y3 y4) (h : ∀ b, b = slt y.path x.path → K (.bool b) []) :
    FC Tryz.prog tt 66 [] [ifPV c0 c1 c2 c3 c4, .pptr [.str y0, .lst 58 y1, .lst 76 y2, .lst 72 y3, .lst 87 y4] 0] K := by
  have k := hx.1
  have k' := hy.1
  refine FC.enter (G := g66) tt_ok mixed ⟨Tryz.func66, by rfl, rfl⟩ rfl rfl rfl ?_
  intro A C L X
  have q := h (A.slt y0 c0) (by rw [X.a, ← k, ← k']; rfl)
  cbv
  exact q

set_option maxRecDepth 100000 in
set_option maxHeartbeats 1000000 in
theorem F65_66 {l : List IF} {d : D} {p : IF → Bool} {y0 : S} {y1 y2 y3 y4 : D} {K : PV → List Ob → Prop} (hd : d = encL encIF l) (hl : l.length ≤ 4294967295)
    (hg : ∀ x ∈ l, ∀ (c0 : S) (c1 : D) (c2 : D) (c3 : D) (c4 : D) (K' : PV → List Ob → Prop), ifIs x c0 c1 c2 c3 c4 → (∀ b, b = p x → K' (.bool b) []) → FC Tryz.prog tt 66 [] [ifPV c0 c1 c2 c3 c4, .pptr [.str y0, .lst 58 y1, .lst 76 y2, .lst 72 y3, .lst 87 y4] 0] K')
    (h : ∀ r : Int, r = idxF p l → K (.int .i64 r) []) :
    FC Tryz.prog tt 65 [] [.lst 31 d, .clos 66 [.pptr [.str y0, .lst 58 y1, .lst 76 y2, .lst 72 y3, .lst 87 y4] 0]] K := by
  refine FC.enter (G := g65) tt_ok mixed ⟨Tryz.func65, by rfl, rfl⟩ rfl rfl rfl ?_
  intro A C L X
  obtain ⟨n_d, hn_d⟩ : ∃ n, n = (l).length := ⟨_, rfl⟩
  have hlen_d : Std.len d = Int.ofNat n_d := by rw [hd, Std_len, hn_d]; rfl
  cbv
  refine X.loop (fun (i : Nat) => ⟨[(8, .int .i64 i), (7, .int .i64 (A.len d)), (1, .clos 66 [.pptr [.str y0, .lst 58 y1, .lst 76 y2, .lst 72 y3, .lst 87 y4] 0]), (0, .lst 31 d)], []⟩) (fun i => i ≤ n_d ∧ ∀ x ∈ l.take i, p x = false) (fun i => n_d - i) 0 ⟨Nat.zero_le _, by simp⟩ ?_ ?_
  · (cbv; repeat' apply And.intro); all_goals (try (first | trivial | rfl | (rw [X.a]; rfl)))
  rintro i ⟨hi, ha⟩
  cbv
  refine ⟨fun h1 => ?_, fun h1 => ?_⟩
  · have h5 : i < l.length := by obtain rfl := X.a; simp only [hlen_d, SD, bNot] at h1; omega
    have k1 := ifIsAt X.a hd h5
    have hid : A.idx (Int.ofNat i) (A.len d) := by rw [X.a, hd]; exact leaf_idx h5
    have hin : A.inr .i64 (A.add (Int.ofNat i) 1) := by rw [X.a]; exact leaf_inc h5 (by omega)
    cbv
    repeat' (first | apply And.intro | exact fun (_ : False → False) => by kernel_rfl | (intro h2; cbv) | apply Or.inl)
    any_goals exact hid
    refine X.call (hg _ (List.getElem_mem h5) _ _ _ _ _ _ k1 fun b hb => ?_)
    have hb' : b = p l[i] := hb
    clear hb
    cbv
    repeat' (first | apply And.intro | exact fun (_ : False → False) => by kernel_rfl | (intro h2; cbv) | apply Or.inl)
    any_goals exact hin
    · refine h i ?_
      exact (idxF_some h5 ha (by rw [← hb']; obtain rfl := X.a; simpa only [SD, bNot] using h2)).symm
    · have hf : p l[i] = false := by rename_i h3; rw [← hb']; obtain rfl := X.a; simpa only [SD, bNot] using h3
      refine ⟨i+1, ⟨by omega, ?_⟩, by omega, ?_⟩
      · rw [take_succ' h5]; intro x hx
        rcases List.mem_append.1 hx with hx | hx
        · exact ha x hx
        · simp at hx; subst hx; exact hf
      (cbv; repeat' apply And.intro); all_goals (try (first | trivial | rfl | (rw [X.a]; rfl)))
  · have h5 : i = n_d := by obtain rfl := X.a; simp only [hlen_d, SD, bNot] at h1; omega
    subst h5
    cbv
    refine h (-1) ?_
    rw [hn_d, List.take_length] at ha
    exact (idxF_none ha).symm
def g28a : Cfg := {tt := tt, n := 24, live := [67], keep := [67]}
theorem atI_le (l : List IF) (i : IF) : atI l i ≤ l.length := by
  unfold atI
  cases h : l.findIdx? (fun x => slt i.path x.path) with
  | none => simp
  | some k =>
    rw [List.findIdx?_eq_some_iff_getElem] at h
    obtain ⟨h, _⟩ := h
    simp; omega
theorem encL_ins {l : List IF} {y : IF} {k : Nat} : D.list ((l.map encIF).take k ++ encIF y :: (l.map encIF).drop k) = encL encIF (l.take k ++ y :: l.drop k) := by
  simp [encL, List.map_take, List.map_drop]
theorem F67 {l : List IF} {y : IF} {d dv : D} {k : Nat} {z : Int} (hz : z = Int.ofNat k) (hk : k ≤ l.length) (hn : l.length < 4294967295) (hd : d = encL encIF l) (hv : dv = encL encIF [y]) {K : PV → List Ob → Prop}
    (h : ∀ r b, r = encL encIF (l.take k ++ y :: l.drop k) → K (.row 31 1) [.dead, .row 31 r b]) :
    FC Tryz.prog tt 67 [.row 31 d true] [.row 31 0, .int .i64 z, .lst 31 dv] K := by
  subst hz
  rcases Nat.lt_or_eq_of_le hk with hk | rfl
  · subst hd hv
    have := F67i (rows := l.map encIF) (vrow := encIF y) (i := k) (by simpa using hk) (by simp; omega) (K := K) (h _ _ encL_ins)
    exact this
  · exact F67e hn hd hv fun r b e => h r b (by rw [e]; simp)
set_option maxRecDepth 100000 in
set_option maxHeartbeats 1000000 in
theorem F28 {env : List IF} {d : D} {i : IF} {c0 : S} {c1 c2 c3 c4 : D} {K : PV → List Ob → Prop} (hd : d = encL encIF env) (hl : envOk env) (hn : env.length < 4294967295) (hi : i.ok) (hx : ifIs i c0 c1 c2 c3 c4)
    (h : ∀ r, r = encL encIF (addI env i) → K (.lst 31 r) []) :
    FC Tryz.prog tt 28 [] [.lst 31 d, ifPV c0 c1 c2 c3 c4] K := by
  have k0 := hx.1
  refine FC.enter (G := g28a) tt_ok mixed ⟨Tryz.func28, by rfl, rfl⟩ rfl rfl rfl ?_
  intro A C L X
  obtain ⟨l, hl0⟩ : ∃ l, l = env.filter fun x => x.path != i.path := ⟨_, rfl⟩
  have hll : l.length ≤ env.length := by rw [hl0]; exact List.length_filter_le _ _
  unfold addI at h
  rw [← hl0] at h
  cbv
  refine X.call (F30 (s := c0) hd hl fun r hr => ?_)
  rw [k0, ← hl0] at hr
  cbv
  refine X.call (F65_66 (p := fun x => slt i.path x.path) hr (by omega) (fun x _ c0 c1 c2 c3 c4 K' hx' hK => F66 hx' hx hK) fun a ha => ?_)
  cbv
  have hlen : A.len r = Int.ofNat l.length := by rw [X.a, hr, Std_len]; rfl
  rcases idxF_cases (fun x => slt i.path x.path) l with ⟨e1, e2⟩ | ⟨k, h5, e1, e2, e3⟩
  · have hat : atI l i = l.length := by
      unfold atI
      have : l.findIdx? (fun x => slt i.path x.path) = none := by rw [List.findIdx?_eq_none_iff]; intro x hx; exact e2 x hx
      rw [this]; rfl
    rw [hat] at h
    rw [e1] at ha
    cbv
    repeat' (first | apply And.intro | exact fun (_ : False → False) => by kernel_rfl | (intro h2; cbv) | apply Or.inl)
    · refine X.call (F44 hi hx fun e0 e1 e2 e3 e4 he => ?_)
      obtain ⟨he0, he1, he2, he3, he4⟩ := he
      have hv : A.lit [[.str e0, e1, e2, e3, e4]] = encL encIF [i] := by rw [he0, he1, he2, he3, he4, X.a]; rfl
      cbv
      repeat' (first | apply And.intro | exact fun (_ : False → False) => by kernel_rfl | (intro h2; cbv) | apply Or.inl)
      refine X.call (F67 hlen (Nat.le_refl _) (by omega) hr hv fun r' b hr' => ?_)
      have q := h r' hr'
      cbv
      exact q
    · exfalso; subst ha; obtain rfl := X.a; simp only [SD, bNot] at h2; omega
  · have hat : atI l i = k := by
      unfold atI
      have : l.findIdx? (fun x => slt i.path x.path) = some k := by
        rw [List.findIdx?_eq_some_iff_getElem]
        refine ⟨h5, e2, fun j hj => ?_⟩
        have := e3 l[j] (by rw [List.mem_take_iff_getElem]; exact ⟨j, by omega, rfl⟩)
        simp [this]
      rw [this]; rfl
    rw [hat] at h
    rw [e1] at ha
    replace ha : a = Int.ofNat k := ha
    cbv
    repeat' (first | apply And.intro | exact fun (_ : False → False) => by kernel_rfl | (intro h2; cbv) | apply Or.inl)
    · exfalso; subst ha; obtain rfl := X.a; simp only [SD, bNot] at h2; omega
    · refine X.call (F44 hi hx fun e0 e1 e2 e3 e4 he => ?_)
      obtain ⟨he0, he1, he2, he3, he4⟩ := he
      have hv : A.lit [[.str e0, e1, e2, e3, e4]] = encL encIF [i] := by rw [he0, he1, he2, he3, he4, X.a]; rfl
      cbv
      repeat' (first | apply And.intro | exact fun (_ : False → False) => by kernel_rfl | (intro h2; cbv) | apply Or.inl)
      refine X.call (F67 ha (by omega) (by omega) hr hv fun r' b hr' => ?_)
      have q := h r' hr'
      cbv
      exact q
end Go.VC.T07
end

section
/- environ.Exports. -/
set_option linter.unusedSimpArgs false
set_option linter.unusedVariables false
namespace Go.VC.T07
open Go Go.VC Go.Proofs

set_option maxRecDepth 100000 in
set_option maxHeartbeats 1000000 in
theorem F18 {x : IF} {c0 : S} {c1 c2 c3 c4 : D} {K : PV → List Ob → Prop} (hx : ifIs x c0 c1 c2 c3 c4) (hok : x.ok) (hnl : (namesL x).length < 4294967296)
    (h : ∀ (l : List S) r, r = encL encS l → SrtS l → (∀ s, s ∈ l ↔ s ∈ namesL x) → K (.lst 9 r) []) :
    FC Tryz.prog tt 18 [] [ifPV c0 c1 c2 c3 c4] K := by
  have nt := hok.nt
  have nv := hok.nv
  have na := hok.na
  refine FC.enter (G := g18) tt_ok mixed ⟨Tryz.func18, by rfl, rfl⟩ rfl rfl rfl ?_
  intro A C L X
  cbv
  refine X.call (F48 (m := []) rfl hx (by omega) (by omega) (by omega) fun r hr => ?_)
  cbv
  refine X.call (F51 ?_)
  cbv
  refine X.call (F50 hr ?_ ?_ fun l r' hr' hs hm => ?_)
  · have := addKs_len (l := namesL x) (m := []); simp at this; omega
  · exact addKs_nodup (by simp)
  cbv
  refine h l r' hr' hs fun s => ?_
  rw [hm, addKs_keys]; simp
end Go.VC.T07
end

section
/- environ.Mentions. -/
set_option linter.unusedSimpArgs false
set_option linter.unusedVariables false
namespace Go.VC
def mentS (x : IF) : List S := (mentL x).filter fun s => s != x.path
end Go.VC
namespace Go.VC.T07
open Go Go.VC Go.Proofs

set_option maxRecDepth 100000 in
set_option maxHeartbeats 4000000 in
theorem F20 {x : IF} {c0 : S} {c1 c2 c3 c4 : D} {K : PV → List Ob → Prop} (hx : ifIs x c0 c1 c2 c3 c4) (hok : x.ok) (hw : x.wt ≤ 4294967295)
    (h : ∀ (l : List S) r, r = encL encS l → SrtS l → (∀ s, s ∈ l ↔ s ∈ mentS x) → K (.lst 9 r) []) :
    FC Tryz.prog tt 20 [] [ifPV c0 c1 c2 c3 c4] K := by
  obtain ⟨x0, hc1, hc2, hc3, hc4⟩ := hx
  have nt := hok.nt
  have nv := hok.nv
  have na := hok.na
  have hml := mentL_len x
  have wt_t : ∀ y ∈ x.types, y.wt ≤ 4294967295 := fun y hy => by
    have := wt_mem (f := TE.wt) hy; unfold IF.wt at hw; omega
  have wt_v : ∀ y ∈ x.values, y.wt ≤ 4294967295 := fun y hy => by
    have := wt_mem (f := VE.wt) hy; unfold IF.wt at hw; omega
  have wp : ∀ (l : List Pm) n, (l.map Pm.wt).sum ≤ n → ∀ p ∈ l, p.bound.size ≤ n := fun l n hn p hp => by
    have := wt_mem (f := Pm.wt) hp; unfold Pm.wt at *; omega
  refine FC.enter (G := g20) tt_ok mixed ⟨Tryz.func20, by rfl, rfl⟩ rfl rfl rfl ?_
  intro A C L X
  obtain ⟨n_c1, hn_c1⟩ : ∃ n, n = (x.types).length := ⟨_, rfl⟩
  have hlen_c1 : Std.len c1 = Int.ofNat n_c1 := by rw [hc1, Std_len, hn_c1]; rfl
  obtain ⟨n_c2, hn_c2⟩ : ∃ n, n = (x.values).length := ⟨_, rfl⟩
  have hlen_c2 : Std.len c2 = Int.ofNat n_c2 := by rw [hc2, Std_len, hn_c2]; rfl
  obtain ⟨n_c3, hn_c3⟩ : ∃ n, n = (x.aliases).length := ⟨_, rfl⟩
  have hlen_c3 : Std.len c3 = Int.ofNat n_c3 := by rw [hc3, Std_len, hn_c3]; rfl
  cbv
  refine X.loopP (fun (y : Nat × D × List (S × Bool)) => ⟨[(18, .int .i64 y.1), (17, .int .i64 (A.len c1)), (16, .lst 58 c1), (1, .box 0 0), (3, .box 2 0), (4, .box 3 0), (5, .clos 55 [.box 3 0])], [.box [.str c0, .lst 58 c1, .lst 76 c2, .lst 72 c3, .lst 87 c4], .map .str 4 y.2.1, .box [.mp 1], .box [.clos 53 [.box 2 0]]]⟩)
    (fun y => y.1 ≤ n_c1 ∧ y.2.1 = encL encKB y.2.2 ∧ SetIs y.2.2 ((x.types.take y.1).flatMap teMods)) (fun y => n_c1 - y.1) (0, .list [], []) ⟨Nat.zero_le _, rfl, SetIs.nil⟩ ?_ ?_
  · refine ⟨[0, 1, 2, 3], rfl, ?_⟩
    (cbv; repeat' apply And.intro); all_goals (try (first | trivial | rfl | (rw [X.a]; rfl)))
  rintro ⟨i, r, m⟩ ⟨hi, hr, hm⟩
  simp only at hi hr hm
  cbv
  refine ⟨fun h1 => ?_, fun h1 => ?_⟩
  · have h5 : i < x.types.length := by obtain rfl := X.a; simp only [hlen_c1, SD, bNot] at h1; omega
    obtain ⟨k0, k1, k2, k3⟩ := teIsAt X.a hc1 h5
    have hyok := hok.t _ (List.getElem_mem h5)
    have hyw := wt_t _ (List.getElem_mem h5)
    have hyw' : 1 + (x.types[i].params.map Pm.wt).sum + x.types[i].lower.size + x.types[i].upper.size ≤ 4294967295 := hyw
    have hid : A.idx (Int.ofNat i) (A.len c1) := by rw [X.a, hc1]; exact leaf_idx h5
    have hin : A.inr .i64 (A.add (Int.ofNat i) 1) := by rw [X.a]; exact leaf_inc h5 (by omega)
    cbv
    repeat' (first | apply And.intro | exact fun (_ : False → False) => by kernel_rfl | (intro h2; cbv) | apply Or.inl)
    any_goals exact hid
    refine X.call (F55 hyok.np hyok.p (wp _ _ (by omega)) k1 hr hm fun m1 r1 hr1 hm1 => ?_)
    cbv
    repeat' (first | apply And.intro | exact fun (_ : False → False) => by kernel_rfl | (intro h2; cbv) | apply Or.inl)
    refine X.call (F53 hyok.lo (by omega) k2 hr1 hm1 fun m2 r2 hr2 hm2 => ?_)
    cbv
    repeat' (first | apply And.intro | exact fun (_ : False → False) => by kernel_rfl | (intro h2; cbv) | apply Or.inl)
    refine X.call (F53 hyok.up (by omega) k3 hr2 hm2 fun m3 r3 hr3 hm3 => ?_)
    cbv
    repeat' (first | apply And.intro | exact fun (_ : False → False) => by kernel_rfl | (intro h2; cbv) | apply Or.inl)
    any_goals exact hin
    refine ⟨(i+1, r3, m3), ⟨?_, hr3, ?_⟩, ?_, [0, 1, 2, 3], rfl, ?_⟩
    · simp only; omega
    · simp only; rw [flat_take h5]; simpa only [teMods, List.append_assoc] using hm3
    · simp only; omega
    (cbv; repeat' apply And.intro); all_goals (try (first | trivial | rfl | (rw [X.a]; rfl)))
  have h5 : i = n_c1 := by obtain rfl := X.a; simp only [hlen_c1, SD, bNot] at h1; omega
  subst h5
  rw [hn_c1, List.take_length] at hm
  cbv
  refine X.loopP (fun (y : Nat × D × List (S × Bool)) => ⟨[(38, .int .i64 y.1), (37, .int .i64 (A.len c2)), (36, .lst 76 c2), (1, .box 0 0), (3, .box 2 0), (4, .box 3 0), (5, .clos 55 [.box 3 0])], [.box [.str c0, .lst 58 c1, .lst 76 c2, .lst 72 c3, .lst 87 c4], .map .str 4 y.2.1, .box [.mp 1], .box [.clos 53 [.box 2 0]]]⟩)
    (fun y => y.1 ≤ n_c2 ∧ y.2.1 = encL encKB y.2.2 ∧ SetIs y.2.2 (x.types.flatMap teMods ++ (x.values.take y.1).flatMap veMods)) (fun y => n_c2 - y.1) (0, r, m) ⟨Nat.zero_le _, hr, by simpa using hm⟩ ?_ ?_
  · refine ⟨[0, 1, 2, 3], rfl, ?_⟩
    (cbv; repeat' apply And.intro); all_goals (try (first | trivial | rfl | (rw [X.a]; rfl)))
  clear hr hm h1 hi
  rintro ⟨i, r, m⟩ ⟨hi, hr, hm⟩
  simp only at hi hr hm
  cbv
  refine ⟨fun h1 => ?_, fun h1 => ?_⟩
  · have h5 : i < x.values.length := by obtain rfl := X.a; simp only [hlen_c2, SD, bNot] at h1; omega
    obtain ⟨k0, k1, k2⟩ := veIsAt X.a hc2 h5
    have hyok := hok.v _ (List.getElem_mem h5)
    have hyw := wt_v _ (List.getElem_mem h5)
    have hyw' : 1 + (x.values[i].params.map Pm.wt).sum + x.values[i].ty.size ≤ 4294967295 := hyw
    have hid : A.idx (Int.ofNat i) (A.len c2) := by rw [X.a, hc2]; exact leaf_idx h5
    have hin : A.inr .i64 (A.add (Int.ofNat i) 1) := by rw [X.a]; exact leaf_inc h5 (by omega)
    cbv
    repeat' (first | apply And.intro | exact fun (_ : False → False) => by kernel_rfl | (intro h2; cbv) | apply Or.inl)
    any_goals exact hid
    refine X.call (F55 hyok.np hyok.p (wp _ _ (by omega)) k1 hr hm fun m1 r1 hr1 hm1 => ?_)
    cbv
    repeat' (first | apply And.intro | exact fun (_ : False → False) => by kernel_rfl | (intro h2; cbv) | apply Or.inl)
    refine X.call (F53 hyok.ty (by omega) k2 hr1 hm1 fun m2 r2 hr2 hm2 => ?_)
    cbv
    repeat' (first | apply And.intro | exact fun (_ : False → False) => by kernel_rfl | (intro h2; cbv) | apply Or.inl)
    any_goals exact hin
    refine ⟨(i+1, r2, m2), ⟨?_, hr2, ?_⟩, ?_, [0, 1, 2, 3], rfl, ?_⟩
    · simp only; omega
    · simp only; rw [flat_take h5]; simpa only [veMods, List.append_assoc] using hm2
    · simp only; omega
    (cbv; repeat' apply And.intro); all_goals (try (first | trivial | rfl | (rw [X.a]; rfl)))
  have h5 : i = n_c2 := by obtain rfl := X.a; simp only [hlen_c2, SD, bNot] at h1; omega
  subst h5
  rw [hn_c2, List.take_length] at hm
  cbv
  refine X.loopP (fun (y : Nat × D × List (S × Bool)) => ⟨[(54, .int .i64 y.1), (53, .int .i64 (A.len c3)), (52, .lst 72 c3), (1, .box 0 0), (3, .box 2 0)], [.box [.str c0, .lst 58 c1, .lst 76 c2, .lst 72 c3, .lst 87 c4], .map .str 4 y.2.1, .box [.mp 1]]⟩)
    (fun y => y.1 ≤ n_c3 ∧ y.2.1 = encL encKB y.2.2 ∧ SetIs y.2.2 (x.types.flatMap teMods ++ x.values.flatMap veMods ++ (x.aliases.take y.1).map (·.module))) (fun y => n_c3 - y.1) (0, r, m) ⟨Nat.zero_le _, hr, by simpa using hm⟩ ?_ ?_
  · refine ⟨[0, 1, 2], rfl, ?_⟩
    (cbv; repeat' apply And.intro); all_goals (try (first | trivial | rfl | (rw [X.a]; rfl)))
  clear hr hm h1 hi
  rintro ⟨i, r, m⟩ ⟨hi, hr, hm⟩
  simp only at hi hr hm
  cbv
  refine ⟨fun h1 => ?_, fun h1 => ?_⟩
  · have h5 : i < x.aliases.length := by obtain rfl := X.a; simp only [hlen_c3, SD, bNot] at h1; omega
    have k1 := (aeAt X.a hc3 h5).2.1
    have hid : A.idx (Int.ofNat i) (A.len c3) := by rw [X.a, hc3]; exact leaf_idx h5
    have hin : A.inr .i64 (A.add (Int.ofNat i) 1) := by rw [X.a]; exact leaf_inc h5 (by omega)
    have q1 : A.mset r (.str (A.asStr (A.cell c3 (Int.ofNat i) 1))) [.bool true] = encL encKB (addK m x.aliases[i].module) := by
      rw [k1, X.a, hr, Std_addK]
    cbv
    repeat' (first | apply And.intro | exact fun (_ : False → False) => by kernel_rfl | (intro h2; cbv) | apply Or.inl)
    any_goals exact hid
    any_goals exact hin
    refine ⟨(i+1, _, addK m x.aliases[i].module), ⟨?_, q1, ?_⟩, ?_, [0, 1, 2], rfl, ?_⟩
    · simp only; omega
    · simp only; rw [map_take h5, ← List.append_assoc]; exact hm.add [x.aliases[i].module]
    · simp only; omega
    (cbv; repeat' apply And.intro); all_goals (try (first | trivial | rfl | (rw [X.a]; rfl)))
  have h5 : i = n_c3 := by obtain rfl := X.a; simp only [hlen_c3, SD, bNot] at h1; omega
  subst h5
  rw [hn_c3, List.take_length] at hm
  have hd := hm.del c0
  have q2 : A.mdel r (.str c0) = encL encKB (delK m c0) := by rw [X.a, hr, Std_delK]
  cbv
  refine X.call (F51 ?_)
  cbv
  refine X.call (F50 q2 ?_ hd.1 fun l rl hrl hsl hml => ?_)
  · have a := hd.len
    have b : ((mentL x).filter fun s => s != c0).length ≤ (mentL x).length := List.length_filter_le _ _
    exact Nat.lt_of_le_of_lt (Nat.le_trans a (Nat.le_trans b (Nat.le_trans hml hw))) (by omega)
  cbv
  refine h l rl hrl hsl fun s => ?_
  rw [hml, hd.2, mentS, ← x0]; rfl
end Go.VC.T07
end

section
/- Closure. -/
set_option linter.unusedSimpArgs false
set_option linter.unusedVariables false
namespace Go.VC
/-- a set of names, as a map -/
structure KT (m : List (S × Bool)) (L : List S) : Prop where
  nd : (m.map (·.1)).Nodup
  mem : ∀ s, s ∈ m.map (·.1) ↔ s ∈ L
  tr : ∀ x ∈ m, x.2 = true
theorem hasK {k : S} {x : S × Bool} : hasKey (.str k) (encKB x) = (k == x.1) := rfl
theorem Std_getK {m : List (S × Bool)} {L : List S} (h : KT m L) (k : S) : Std.asBool (Std.mget (encL encKB m) (.str k) 0) = decide (k ∈ L) := by
  have e : Std.asBool (Std.mget (encL encKB m) (.str k) 0) = decide (k ∈ m.map (·.1)) := by
    have ht := h.tr
    clear h
    show Std.asBool ((((m.map encKB).find? (hasKey (.str k))).getD []).getD 1 .nil) = _
    induction m with
    | nil => rfl
    | cons x m ih =>
      rw [List.map_cons, List.find?_cons, hasK]
      by_cases hk : k = x.1
      · have h2 := ht x (by simp)
        rw [beq_iff_eq.2 hk]
        have : decide (k ∈ (x :: m).map (·.1)) = true := by simp [hk]
        rw [this]
        show x.2 = true
        exact h2
      · rw [beq_eq_false_iff_ne.2 hk]
        have := ih (fun y hy => ht y (by simp [hy]))
        rw [this]
        simp [hk]
  rw [e]
  exact decide_eq_decide.2 (h.mem k)
def delB (m : List (S × Bool)) (k : S) : List (S × Bool) := m.eraseP fun x => k == x.1
theorem Std_delB {m : List (S × Bool)} {k : S} : Std.mdel (encL encKB m) (.str k) = encL encKB (delB m k) := by
  show D.list ((m.map encKB).eraseP (hasKey (.str k))) = D.list ((delB m k).map encKB)
  congr 1
  unfold delB
  induction m with
  | nil => rfl
  | cons x m ih =>
    rw [List.map_cons, List.eraseP_cons, List.eraseP_cons, hasK]
    cases k == x.1 with
    | true => rfl
    | false => simp only [cond_false, List.map_cons, ih]
theorem delB_mem {m : List (S × Bool)} {k s : S} (hn : (m.map (·.1)).Nodup) : s ∈ (delB m k).map (·.1) ↔ s ∈ m.map (·.1) ∧ s ≠ k := by
  unfold delB
  induction m with
  | nil => simp
  | cons x m ih =>
    rw [List.map_cons, List.nodup_cons] at hn
    rw [List.eraseP_cons]
    by_cases hk : k = x.1
    · rw [beq_iff_eq.2 hk, cond_true, List.map_cons, List.mem_cons]
      constructor
      · intro h; exact ⟨.inr h, fun e => hn.1 (by rw [← hk, ← e]; exact h)⟩
      · rintro ⟨h | h, h2⟩
        · exact absurd (h.trans hk.symm) h2
        · exact h
    · rw [beq_eq_false_iff_ne.2 hk, cond_false, List.map_cons, List.mem_cons, ih hn.2, List.map_cons, List.mem_cons]
      constructor
      · rintro (h | ⟨h, h2⟩)
        · exact ⟨.inl h, fun e => hk (e.symm.trans h)⟩
        · exact ⟨.inr h, h2⟩
      · rintro ⟨h | h, h2⟩
        · exact .inl h
        · exact .inr ⟨h, h2⟩
theorem KT.del {m : List (S × Bool)} {L : List S} (h : KT m L) (k : S) : KT (delB m k) (L.filter fun s => s != k) where
  nd := by
    have : ((delB m k).map (·.1)).Sublist (m.map (·.1)) := (List.eraseP_sublist).map _
    exact this.nodup h.nd
  mem s := by rw [delB_mem h.nd, h.mem]; simp
  tr x hx := h.tr x (List.mem_of_mem_eraseP hx)
theorem KT.add {m : List (S × Bool)} {L : List S} (h : KT m L) (k : S) : KT (addK m k) (L ++ [k]) where
  nd := addK_nodup h.nd
  mem s := by rw [addK_keys, h.mem]; simp; exact Or.comm
  tr x hx := by
    have ht := h.tr
    clear h
    induction m with
    | nil => simp [addK] at hx; subst hx; rfl
    | cons y m ih =>
      simp only [addK] at hx
      split at hx
      · rcases List.mem_cons.1 hx with rfl | hx
        · rfl
        · exact ht x (by simp [hx])
      · rcases List.mem_cons.1 hx with rfl | hx
        · exact ht _ (by simp)
        · exact ih hx (fun y hy => ht y (by simp [hy]))
theorem KT.of {m : List (S × Bool)} {L L' : List S} (h : KT m L) (e : ∀ s, s ∈ L ↔ s ∈ L') : KT m L' := ⟨h.nd, fun s => by rw [h.mem, e], h.tr⟩
/-- the first interface of each path -/
def pickStep (L : List S) (out : List IF) (x : IF) : List IF := if x.path ∈ L ∧ x.path ∉ out.map (·.path) then out ++ [x] else out
def pickE (L : List S) (env : List IF) : List IF := env.foldl (pickStep L) []
theorem pick_take {L : List S} {l : List IF} {i : Nat} (h : i < l.length) : pickE L (l.take (i+1)) = pickStep L (pickE L (l.take i)) l[i] := by
  unfold pickE
  rw [take_succ' h, List.foldl_append]; rfl
theorem pick_len {L : List S} {l : List IF} : (pickE L l).length ≤ l.length := by
  have key : ∀ (l : List IF) (o : List IF), (l.foldl (pickStep L) o).length ≤ o.length + l.length := by
    intro l
    induction l with
    | nil => intro o; simp
    | cons x l ih =>
      intro o
      have := ih (pickStep L o x)
      have h1 : (pickStep L o x).length ≤ o.length + 1 := by unfold pickStep; split <;> simp
      simp only [List.foldl_cons, List.length_cons]; omega
  have := key l []
  simpa [pickE] using this
def leftE (L : List S) (out : List IF) : List S := L.filter fun s => !(out.map (·.path)).contains s
theorem left_mem {L : List S} {out : List IF} {s : S} : s ∈ leftE L out ↔ s ∈ L ∧ s ∉ out.map (·.path) := by
  unfold leftE; rw [List.mem_filter]; simp
theorem left_step {m : List (S × Bool)} {L : List S} {out : List IF} {x : IF} (h : KT m ((leftE L out).filter fun s => s != x.path)) : KT m (leftE L (pickStep L out x)) := by
  refine h.of fun s => ?_
  rw [List.mem_filter, left_mem, left_mem]
  unfold pickStep
  split
  · rename_i hc
    simp only [List.map_append, List.mem_append, bne_iff_ne, ne_eq, List.map_cons, List.map_nil, List.mem_singleton, not_or]
    constructor
    · rintro ⟨⟨a, b⟩, c⟩; exact ⟨a, b, c⟩
    · rintro ⟨a, b, c⟩; exact ⟨⟨a, b⟩, c⟩
  · rename_i hc
    constructor
    · rintro ⟨a, b⟩; exact a
    · intro a; exact ⟨a, by simp only [bne_iff_ne, ne_eq]; intro e; subst e; exact hc a⟩
theorem KT.nil : KT [] [] := ⟨by simp, by simp, by simp⟩
end Go.VC
namespace Go.VC.T07
open Go Go.VC Go.Proofs
set_option maxRecDepth 100000 in
theorem F63 {x : IF} {m : List (S × Bool)} {W : List S} {d : D} {c0 : S} {c1 c2 c3 c4 : D} {K : PV → List Ob → Prop} (hd : d = encL encKB m) (hm : KT m W) (hx : ifIs x c0 c1 c2 c3 c4)
    (h : ∀ m' r, r = encL encKB m' → KT m' (W.filter fun s => s != x.path) → K (.bool (decide (x.path ∈ W))) [.box [.mp 1], .map .str 4 r]) :
    FC Tryz.prog tt 63 [.box [.mp 1], .map .str 4 d] [ifPV c0 c1 c2 c3 c4, .box 0 0] K := by
  have k := hx.1
  refine FC.enterLive (G := g63) tt_ok mixed ⟨Tryz.func63, by rfl, rfl⟩ rfl rfl rfl ?_
  intro A C L X
  have q := h (delB m c0) (A.mdel d (.str c0)) (by rw [X.a, hd]; exact Std_delB) (by rw [← k]; exact hm.del c0)
  have e : A.asBool (A.mget d (.str c0) 0) = decide (x.path ∈ W) := by rw [X.a, hd, ← k]; exact Std_getK hm c0
  rw [← e] at q
  cbv
  exact q
set_option maxRecDepth 100000 in
set_option maxHeartbeats 1000000 in
theorem F62c {env : List IF} {m : List (S × Bool)} {W : List S} {d dm : D} {K : PV → List Ob → Prop} (hd : d = encL encIF env) (hl : envOk env) (hdm : dm = encL encKB m) (hm : KT m W)
    (h : ∀ dm' r, r = encL encIF (pickE W env) → K (.row 31 2) [.box [.mp 1], .map .str 4 dm', .row 31 r true]) :
    FC Tryz.prog tt 62 [.box [.mp 1], .map .str 4 dm] [.lst 31 d, .clos 63 [.box 0 0]] K := by
  have hn := hl.1
  refine FC.enterLive (G := g62a) tt_ok mixed ⟨Tryz.func62, by rfl, rfl⟩ rfl rfl rfl ?_
  intro A C L X
  obtain ⟨n_d, hn_d⟩ : ∃ n, n = (env).length := ⟨_, rfl⟩
  have hlen_d : Std.len d = Int.ofNat n_d := by rw [hd, Std_len, hn_d]; rfl
  cbv
  refine X.loopP (fun (y : Nat × D × D) => ⟨[(10, .int .i64 y.1), (9, .int .i64 (A.len d)), (8, .lst 31 d), (5, .row 31 2), (1, .clos 63 [.box 0 0])], [.box [.mp 1], .map .str 4 y.2.1, .row 31 y.2.2 true]⟩)
    (fun y => y.1 ≤ n_d ∧ y.2.2 = encL encIF (pickE W (env.take y.1)) ∧ ∃ m, y.2.1 = encL encKB m ∧ KT m (leftE W (pickE W (env.take y.1)))) (fun y => n_d - y.1) (0, dm, .list []) ⟨Nat.zero_le _, rfl, m, hdm, hm.of fun s => by rw [left_mem]; simp [pickE]⟩ ?_ ?_
  · refine ⟨[0, 1, 2], rfl, ?_⟩
    (cbv; repeat' apply And.intro); all_goals (try (first | trivial | rfl | (rw [X.a]; rfl)))
  rintro ⟨i, dm, r⟩ ⟨hi, hr, m', hdm', hm'⟩
  simp only at hi hr hdm' hm'
  cbv
  refine ⟨fun h1 => ?_, fun h1 => ?_⟩
  · have h5 : i < env.length := by obtain rfl := X.a; simp only [hlen_d, SD, bNot] at h1; omega
    have k1 := ifIsAt X.a hd h5
    have hid : A.idx (Int.ofNat i) (A.len d) := by rw [X.a, hd]; exact leaf_idx h5
    have hin : A.inr .i64 (A.add (Int.ofNat i) 1) := by rw [X.a]; exact leaf_inc h5 (by omega)
    have hft := pick_take (L := W) h5
    have hfl : (pickE W (env.take i)).length ≤ i := Nat.le_trans pick_len (by simp; omega)
    cbv
    repeat' (first | apply And.intro | exact fun (_ : False → False) => by kernel_rfl | (intro h2; cbv) | apply Or.inl)
    any_goals exact hid
    refine X.call (F63 hdm' hm' k1 fun m2 dm2 hdm2 hm2 => ?_)
    have hm3 := left_step hm2
    rw [← hft] at hm3
    obtain ⟨b, hb⟩ : ∃ b, b = decide (env[i].path ∈ leftE W (pickE W (env.take i))) := ⟨_, rfl⟩
    rw [← hb]
    have hb' : b = true ↔ env[i].path ∈ W ∧ env[i].path ∉ (pickE W (env.take i)).map (·.path) := by rw [hb, decide_eq_true_eq, left_mem]
    clear hb
    cbv
    repeat' (first | apply And.intro | exact fun (_ : False → False) => by kernel_rfl | (intro h2; cbv) | apply Or.inl)
    any_goals exact hin
    · have eb : env[i].path ∈ W ∧ env[i].path ∉ (pickE W (env.take i)).map (·.path) := hb'.1 (by obtain rfl := X.a; simpa only [SD, bNot] using h2)
      have e5 : pickE W (env.take (i+1)) = pickE W (env.take i) ++ [env[i]] := by rw [hft]; unfold pickStep; rw [if_pos eb]
      refine X.call (F44 (hl.2 _ (List.getElem_mem h5)) k1 fun e0 e1 e2 e3 e4 he => ?_)
      obtain ⟨he0, he1, he2, he3, he4⟩ := he
      have hb2 : A.bnd (A.add (A.len r) (A.len (A.lit [[.str e0, e1, e2, e3, e4]]))) 4294967296 := by
        rw [X.a, hr]; simp only [SD, bNot]; omega
      have q1 : A.app r (A.lit [[.str e0, e1, e2, e3, e4]]) = encL encIF (pickE W (env.take (i+1))) := by
        rw [e5, he0, he1, he2, he3, he4, X.a, hr]
        exact Std_app (k := [env[i]])
      cbv
      repeat' (first | apply And.intro | exact fun (_ : False → False) => by kernel_rfl | (intro h2; cbv) | apply Or.inl)
      any_goals exact hb2
      any_goals exact hin
      refine ⟨(i+1, _, _), ⟨?_, q1, m2, hdm2, hm3⟩, ?_, [0, 1, 2], rfl, ?_⟩
      · simp only; omega
      · simp only; omega
      (cbv; repeat' apply And.intro); all_goals (try (first | trivial | rfl | (rw [X.a]; rfl)))
    · have eb : ¬ (env[i].path ∈ W ∧ env[i].path ∉ (pickE W (env.take i)).map (·.path)) := by
        rename_i g3
        intro e
        rw [hb'.2 e] at g3; obtain rfl := X.a; simp only [SD, bNot] at g3
      have e5 : pickE W (env.take (i+1)) = pickE W (env.take i) := by rw [hft]; unfold pickStep; rw [if_neg eb]
      refine ⟨(i+1, dm2, r), ⟨?_, ?_, m2, hdm2, hm3⟩, ?_, [0, 1, 2], rfl, ?_⟩
      · simp only; omega
      · simp only; rw [hr, e5]
      · simp only; omega
      (cbv; repeat' apply And.intro); all_goals (try (first | trivial | rfl | (rw [X.a]; rfl)))
  have h5 : i = n_d := by obtain rfl := X.a; simp only [hlen_d, SD, bNot] at h1; omega
  subst h5
  rw [hn_d, List.take_length] at hr
  cbv
  exact h _ r hr
end Go.VC.T07
end

section
/- Closure. -/
set_option linter.unusedSimpArgs false
set_option linter.unusedVariables false
namespace Go.VC
def pushS (t : List S) (s : S) : List S := if s ∈ t then t else t ++ [s]
def pushAll (t ms : List S) : List S := ms.foldl pushS t
def mentO (i : IF) : List S := sortS (mentS i)
def closeL (env : List IF) : Nat → List S → Nat → Option (List S)
  | 0, _, _ => none
  | n+1, t, k => match t[k]? with
    | none => some t
    | some s => match findI env s with
      | none => none
      | some i => closeL env n (pushAll t (mentO i)) (k+1)
def closeO (env : List IF) (p : S) : Option (List S) := closeL env (env.length + 2) [p] 0
def closureR (env : List IF) (p : S) : List IF × Int := match closeO env p with | none => ([], 6) | some t => (pickE t env, 0)
theorem push_take {t ms : List S} {i : Nat} (h : i < ms.length) : pushAll t (ms.take (i+1)) = pushS (pushAll t (ms.take i)) ms[i] := by
  unfold pushAll
  rw [take_succ' h, List.foldl_append]; rfl
theorem pushS_pre {t : List S} {s : S} : ∃ u, pushS t s = t ++ u := by
  unfold pushS; split
  · exact ⟨[], by simp⟩
  · exact ⟨[s], rfl⟩
theorem pushAll_pre {ms : List S} : ∀ {t : List S}, ∃ u, pushAll t ms = t ++ u := by
  induction ms with
  | nil => intro t; exact ⟨[], by simp [pushAll]⟩
  | cons s ms ih =>
    intro t
    obtain ⟨u, hu⟩ := pushS_pre (t := t) (s := s)
    obtain ⟨v, hv⟩ := ih (t := pushS t s)
    refine ⟨u ++ v, ?_⟩
    show pushAll (pushS t s) ms = _
    rw [hv, hu, List.append_assoc]
theorem pushS_mem {t : List S} {s y : S} : y ∈ pushS t s ↔ y ∈ t ∨ y = s := by
  unfold pushS; split
  · rename_i h; constructor
    · exact .inl
    · rintro (h' | rfl); exact h'; exact h
  · simp
theorem pushAll_mem {ms : List S} : ∀ {t : List S} {y : S}, y ∈ pushAll t ms ↔ y ∈ t ∨ y ∈ ms := by
  induction ms with
  | nil => intro t y; simp [pushAll]
  | cons s ms ih =>
    intro t y
    show y ∈ pushAll (pushS t s) ms ↔ _
    rw [ih, pushS_mem, List.mem_cons]
    constructor
    · rintro ((h | h) | h); exact .inl h; exact .inr (.inl h); exact .inr (.inr h)
    · rintro (h | h | h); exact .inl (.inl h); exact .inl (.inr h); exact .inr h
theorem pushS_nd {t : List S} {s : S} (h : t.Nodup) : (pushS t s).Nodup := by
  unfold pushS; split
  · exact h
  · rename_i hs
    rw [List.nodup_append]
    exact ⟨h, by simp, fun a ha b hb => by simp at hb; subst hb; exact fun e => hs (e ▸ ha)⟩
theorem pushAll_nd {ms : List S} : ∀ {t : List S}, t.Nodup → (pushAll t ms).Nodup := by
  induction ms with
  | nil => intro t h; exact h
  | cons s ms ih => intro t h; exact ih (pushS_nd h)
end Go.VC
namespace Go.VC
theorem mentO_sub {i : IF} {s : S} (h : s ∈ mentO i) : s ∈ mentL i := by
  unfold mentO at h
  rw [sortS_mem] at h
  exact (List.mem_filter.1 h).1
theorem SrtS_nd {l : List S} (h : SrtS l) : l.Nodup := by
  unfold SrtS at h
  exact h.imp fun {a b} hab e => by rw [e, slt_irrefl] at hab; cases hab
theorem mentO_len (i : IF) : (mentO i).length ≤ i.wt :=
  Nat.le_trans (nodup_sub_len (m := mentL i) (SrtS_nd (sortS_srt _)) fun s hs => by
    exact mentO_sub hs) (mentL_len i)
theorem push_take_len {t ms : List S} {j : Nat} : (pushAll t (ms.take j)).length ≤ (pushAll t ms).length := by
  have : pushAll t ms = pushAll (pushAll t (ms.take j)) (ms.drop j) := by
    unfold pushAll
    rw [← List.foldl_append, List.take_append_drop]
  rw [this]
  obtain ⟨u, hu⟩ := pushAll_pre (t := pushAll t (ms.take j)) (ms := ms.drop j)
  rw [hu, List.length_append]; omega
structure Bfs (env : List IF) (p : S) (t : List S) (k : Nat) : Prop where
  hk : k ≤ t.length
  nd : t.Nodup
  sub : ∀ s ∈ t, s ∈ p :: env.flatMap mentL
  fnd : ∀ s ∈ t.take k, (findI env s).isSome = true
  cl : closeL env (env.length + 2 - k) t k = closeO env p
theorem Bfs.init (env : List IF) (p : S) : Bfs env p [p] 0 := ⟨by simp, by simp, by simp, by simp, rfl⟩
theorem Bfs.klen {env : List IF} {p : S} {t : List S} {k : Nat} (h : Bfs env p t k) : k ≤ env.length := by
  have := nodup_sub_len (l := t.take k) (m := env.map (·.path)) (h.nd.sublist (List.take_sublist _ _)) fun s hs => by
    have := h.fnd s hs
    unfold findI at this
    rw [List.find?_isSome] at this
    obtain ⟨x, hx, e⟩ := this
    exact List.mem_map.2 ⟨x, hx, by simpa using e⟩
  have hk := h.hk
  simp at this; omega
theorem Bfs.tlen {env : List IF} {p : S} {t : List S} {k : Nat} (h : Bfs env p t k) : t.length ≤ 1 + (env.map IF.wt).sum := by
  have h1 := nodup_sub_len h.nd h.sub
  have h2 := flat_len (f := mentL) (g := IF.wt) (l := env) fun x _ => mentL_len x
  rw [List.length_cons] at h1
  omega
theorem Bfs.done {env : List IF} {p : S} {t : List S} {k : Nat} (h : Bfs env p t k) (hk : k = t.length) : closeO env p = some t := by
  have h1 := h.klen
  have h2 := h.cl
  rw [← h2, show env.length + 2 - k = (env.length + 1 - k) + 1 by omega, closeL, List.getElem?_eq_none (by omega)]
theorem Bfs.fail {env : List IF} {p : S} {t : List S} {k : Nat} (h : Bfs env p t k) (hk : k < t.length) (hf : findI env t[k] = none) : closeO env p = none := by
  have h1 := h.klen
  have h2 := h.cl
  rw [← h2, show env.length + 2 - k = (env.length + 1 - k) + 1 by omega, closeL, List.getElem?_eq_getElem hk]
  simp only [hf]
theorem Bfs.next {env : List IF} {p : S} {t : List S} {k : Nat} {i : IF} (h : Bfs env p t k) (hk : k < t.length) (hf : findI env t[k] = some i) : Bfs env p (pushAll t (mentO i)) (k+1) := by
  obtain ⟨u, hu⟩ := pushAll_pre (t := t) (ms := mentO i)
  refine ⟨by rw [hu, List.length_append]; omega, pushAll_nd h.nd, fun s hs => ?_, fun s hs => ?_, ?_⟩
  · rcases pushAll_mem.1 hs with hs | hs
    · exact h.sub s hs
    · refine List.mem_cons.2 (.inr (List.mem_flatMap.2 ⟨i, ?_, mentO_sub hs⟩))
      exact find_mem' hf
  · rw [hu, List.take_append_of_le_length (by omega), take_succ' hk] at hs
    rcases List.mem_append.1 hs with hs | hs
    · exact h.fnd s hs
    · simp at hs; subst hs; rw [hf]; rfl
  · have h1 := h.klen
    rw [← h.cl, show env.length + 2 - k = (env.length + 1 - k) + 1 by omega]
    conv => rhs; rw [closeL, List.getElem?_eq_getElem hk]
    simp only [hf]
    rw [show env.length + 2 - (k + 1) = env.length + 1 - k by omega]
end Go.VC
namespace Go.VC.T07
open Go Go.VC Go.Proofs
def g26a : Cfg := {tt := tt, n := 53, live := [62], own := [16, 29]}
set_option maxRecDepth 100000 in
set_option maxHeartbeats 2000000 in
theorem F26 {env : List IF} {d : D} {p : S} {K : PV → List Ob → Prop} (hd : d = encL encIF env) (hl : envOk env) (hw : (env.map IF.wt).sum ≤ 4294967290)
    (h : ∀ r e, (r, e) = closureR env p → K (.tup [.lst 31 (encL encIF r), .int .i64 e]) []) :
    FC Tryz.prog tt 26 [] [.lst 31 d, .str p] K := by
  have hn := hl.1
  refine FC.enter (G := g26a) tt_ok mixed ⟨Tryz.func26, by rfl, rfl⟩ rfl rfl rfl ?_
  intro A C L X
  obtain ⟨n_d, hn_d⟩ : ∃ n, n = (env).length := ⟨_, rfl⟩
  have hlen_d : Std.len d = Int.ofNat n_d := by rw [hd, Std_len, hn_d]; rfl
  have m0 : A.mset (.list []) (.str p) [.bool true] = encL encKB (addK [] p) := by rw [X.a]; exact Std_addK (m := []) (k := p)
  have t0 : A.lit [[.str p]] = encL encS [p] := by rw [X.a]; rfl
  cbv
  refine X.loopP (fun (y : (Nat × List S) × D × D × Bool) => ⟨[(0, .lst 31 d), (7, .row 9 2), (6, .box 1 0)], [.map .str 4 y.2.1, .box [.mp 0], .row 9 y.2.2.1 y.2.2.2]⟩)
    (fun y => Bfs env p y.1.2 y.1.1 ∧ y.2.2.1 = encL encS (y.1.2.drop y.1.1) ∧ ∃ m, y.2.1 = encL encKB m ∧ KT m y.1.2) (fun y => env.length + 2 - y.1.1) ((0, [p]), _, _, true) ⟨Bfs.init _ _, t0, _, m0, KT.nil.add p⟩ ?_ ?_
  · refine ⟨[0, 1, 2], rfl, ?_⟩
    (cbv; repeat' apply And.intro); all_goals (try (first | trivial | rfl | (rw [X.a]; rfl)))
  rintro ⟨⟨k, t⟩, dm, dw, fl⟩ ⟨hb, hdw, m, hdm, hm⟩
  simp only at hb hdw hdm hm
  obtain ⟨n_dw, hn_dw⟩ : ∃ n, n = (t.drop k).length := ⟨_, rfl⟩
  have hlen_dw : Std.len dw = Int.ofNat n_dw := by rw [hdw, Std_len, hn_dw]; rfl
  have hb2 := hb.tlen
  have hdl : (t.drop k).length = t.length - k := List.length_drop
  cbv
  refine ⟨fun h1 => ?_, fun h1 => ?_⟩
  · have h5 : 0 < (t.drop k).length := by obtain rfl := X.a; simp only [hlen_dw, SD, bNot] at h1; omega
    have h6 : k < t.length := by omega
    have k1 : A.asStr (A.cell dw 0 0) = t[k] := (strAt X.a hdw h5).trans (by simp)
    have hid : A.idx 0 (A.len dw) := by rw [X.a, hdw]; exact leaf_idx h5
    have b1 : A.bnd 1 (A.len dw) := by rw [X.a, hlen_dw]; simp only [SD, bNot]; omega
    have hp1 : A.part dw 1 (A.len dw) = encL encS (t.drop (k+1)) := by
      rw [X.a, hdw, Std_partI, Std_len]
      simp only [Int.toNat_natCast, show (1 : Int).toNat = 1 from rfl, List.drop_drop]
      rw [List.take_of_length_le (by simp; omega)]
    cbv
    repeat' (first | apply And.intro | exact fun (_ : False → False) => by kernel_rfl | (intro h2; cbv) | apply Or.inl)
    any_goals exact hid
    refine X.call (F43 hd hl k1 fun e0 e1 e2 e3 e4 b hx hbs => ?_)
    cases hf : findI env t[k] with
    | none =>
      rw [hf] at hbs
      obtain rfl : b = false := hbs
      have q := h [] 6 (by unfold closureR; rw [hb.fail h6 hf])
      cbv
      repeat' (first | apply And.intro | exact fun (_ : False → False) => by kernel_rfl | (intro h2; cbv) | apply Or.inl)
      any_goals exact b1
      · exact q
      · obtain rfl := X.a; cases h2
    | some i =>
      rw [hf] at hbs hx
      simp only [Option.getD_some] at hx
      obtain rfl : b = true := hbs
      have hie : i ∈ env := find_mem' hf
      have hok := hl.2 _ hie
      have hiw : i.wt ≤ (env.map IF.wt).sum := by
        have : ∀ l : List IF, i ∈ l → i.wt ≤ (l.map IF.wt).sum := by
          intro l
          induction l with
          | nil => simp
          | cons x l ih =>
            intro hm
            rcases List.mem_cons.1 hm with rfl | hm
            · simp
            · have := ih hm; simp; omega
        exact this env hie
      have hnx := hb.next h6 hf
      have hnl := hnx.tlen
      have hml := mentO_len i
      cbv
      repeat' (first | apply And.intro | exact fun (_ : False → False) => by kernel_rfl | (intro h2; cbv) | apply Or.inl)
      any_goals exact b1
      · obtain rfl := X.a; cases h2
      refine X.call (F20 hx hok (by omega) fun ms r hr hsr hms => ?_)
      obtain rfl : ms = mentO i := sortS_of hsr hms
      obtain ⟨n_r, hn_r⟩ : ∃ n, n = (mentO i).length := ⟨_, rfl⟩
      have hlen_r : Std.len r = Int.ofNat n_r := by rw [hr, Std_len, hn_r]; rfl
      cbv
      refine X.loopP (fun (y : Nat × D × D × Bool) => ⟨[(35, .int .i64 y.1), (34, .int .i64 (A.len r)), (33, .lst 9 r), (0, .lst 31 d), (7, .row 9 2), (6, .box 1 0)], [.map .str 4 y.2.1, .box [.mp 0], .row 9 y.2.2.1 y.2.2.2]⟩)
        (fun y => y.1 ≤ n_r ∧ y.2.2.1 = encL encS ((pushAll t ((mentO i).take y.1)).drop (k+1)) ∧ ∃ m, y.2.1 = encL encKB m ∧ KT m (pushAll t ((mentO i).take y.1))) (fun y => n_r - y.1) (0, dm, _, false) ⟨Nat.zero_le _, hp1, m, hdm, hm⟩ ?_ ?_
      · refine ⟨[0, 1, 2], rfl, ?_⟩
        (cbv; repeat' apply And.intro); all_goals (try (first | trivial | rfl | (rw [X.a]; rfl)))
      rintro ⟨j, dm2, dw2, fl2⟩ ⟨hj, hdw2, m2, hdm2, hm2⟩
      simp only at hj hdw2 hdm2 hm2
      obtain ⟨t2, ht2⟩ : ∃ t2, t2 = pushAll t ((mentO i).take j) := ⟨_, rfl⟩
      rw [← ht2] at hdw2 hm2
      have hl2 : t2.length ≤ (pushAll t (mentO i)).length := by rw [ht2]; exact push_take_len
      have hl3 : t.length ≤ t2.length := by obtain ⟨u, hu⟩ := pushAll_pre (t := t) (ms := (mentO i).take j); rw [ht2, hu, List.length_append]; omega
      cbv
      refine ⟨fun h1 => ?_, fun h1 => ?_⟩
      · have h5 : j < (mentO i).length := by obtain rfl := X.a; simp only [hlen_r, SD, bNot] at h1; omega
        have k2 := strAt X.a hr h5
        have hid : A.idx (Int.ofNat j) (A.len r) := by rw [X.a, hr]; exact leaf_idx h5
        have hin : A.inr .i64 (A.add (Int.ofNat j) 1) := by rw [X.a]; exact leaf_inc h5 (by omega)
        have hpt := push_take (t := t) h5
        rw [← ht2] at hpt
        obtain ⟨s, hs⟩ : ∃ s, s = A.asStr (A.cell r (Int.ofNat j) 0) := ⟨_, rfl⟩
        have hget : A.asBool (A.mget dm2 (.str (A.asStr (A.cell r (Int.ofNat j) 0))) 0) = decide ((mentO i)[j] ∈ t2) := by rw [k2, X.a, hdm2]; exact Std_getK hm2 _
        have hset : A.mset dm2 (.str (A.asStr (A.cell r (Int.ofNat j) 0))) [.bool true] = encL encKB (addK m2 (mentO i)[j]) := by rw [k2, X.a, hdm2]; exact Std_addK
        have hb3 : A.bnd (A.add (A.len dw2) (A.len (A.lit [[.str (A.asStr (A.cell r (Int.ofNat j) 0))]]))) 4294967296 := by
          rw [X.a, hdw2]; simp only [SD, bNot]; omega
        have happ : A.app dw2 (A.lit [[.str (A.asStr (A.cell r (Int.ofNat j) 0))]]) = encL encS ((t2 ++ [(mentO i)[j]]).drop (k+1)) := by
          rw [k2, X.a, hdw2, List.drop_append_of_le_length (by omega)]; exact Std_app (k := [(mentO i)[j]])
        cbv
        repeat' (first | apply And.intro | exact fun (_ : False → False) => by kernel_rfl | (intro h2; cbv) | apply Or.inl)
        any_goals exact hid
        any_goals exact hin
        any_goals exact hb3
        · rename_i g1
          have e : (mentO i)[j] ∉ t2 := by
            rw [hget] at g1; obtain rfl := X.a; simpa only [SD, bNot] using g1
          have hp : pushAll t ((mentO i).take (j+1)) = t2 ++ [(mentO i)[j]] := by rw [hpt]; unfold pushS; rw [if_neg e]
          have happ2 := happ
          rw [← hp] at happ2
          have hm4 := hm2.add (mentO i)[j]
          rw [← hp] at hm4
          have hj3 : j + 1 ≤ n_r := by omega
          have hj4 : n_r - (j + 1) < n_r - j := by omega
          refine ⟨(j+1, _, _, fl2), ⟨hj3, happ2, _, hset, hm4⟩, hj4, [0, 1, 2], rfl, ?_⟩
          (cbv; repeat' apply And.intro); all_goals (try (first | trivial | rfl | (rw [X.a]; rfl)))
        · rename_i g1
          have e : (mentO i)[j] ∈ t2 := by
            rw [hget] at g1; obtain rfl := X.a; simpa only [SD, bNot, Decidable.not_not] using g1
          have hp : pushAll t ((mentO i).take (j+1)) = t2 := by rw [hpt]; unfold pushS; rw [if_pos e]
          refine ⟨(j+1, dm2, dw2, fl2), ⟨?_, ?_, m2, ?_, ?_⟩, ?_, [0, 1, 2], rfl, ?_⟩
          · simp only; omega
          · simp only; rw [hp]; exact hdw2
          · exact hdm2
          · simp only; rw [hp]; exact hm2
          · simp only; omega
          (cbv; repeat' apply And.intro); all_goals (try (first | trivial | rfl | (rw [X.a]; rfl)))
      · have h5 : j = n_r := by obtain rfl := X.a; simp only [hlen_r, SD, bNot] at h1; omega
        subst h5
        rw [hn_r, List.take_length] at ht2
        subst ht2
        cbv
        refine ⟨((k+1, pushAll t (mentO i)), dm2, dw2, fl2), ⟨hnx, hdw2, m2, hdm2, hm2⟩, ?_, [0, 1, 2], rfl, ?_⟩
        · have := hb.klen; simp only; omega
        (cbv; repeat' apply And.intro); all_goals (try (first | trivial | rfl | (rw [X.a]; rfl)))
  · have h5 : k = t.length := by have := hb.hk; obtain rfl := X.a; simp only [hlen_dw, SD, bNot] at h1; omega
    have hcl := hb.done h5
    cbv
    refine X.call (F62c hd hl hdm hm fun dm' r hr => ?_)
    have q := h (pickE t env) 0 (by unfold closureR; rw [hcl])
    rw [← hr] at q
    cbv
    exact q
end Go.VC.T07
end

section
/- The reference's mentions of an interface. -/
set_option linter.unusedSimpArgs false
set_option linter.unusedVariables false
namespace Go.VC
theorem sum_flat {α β : Type} {f : α → List β} {g : β → Nat} {w : α → Nat} : ∀ {l : List α}, (∀ x ∈ l, ((f x).map g).sum ≤ w x) → ((l.flatMap f).map g).sum ≤ (l.map w).sum
  | [], _ => by simp
  | x :: l, h => by
    have a := h x (by simp)
    have b := sum_flat (l := l) (f := f) (g := g) (w := w) fun y hy => h y (by simp [hy])
    simp only [List.flatMap_cons, List.map_append, List.sum_append, List.map_cons, List.sum_cons]; omega
theorem bound_sum (l : List Pm) : ((l.map (·.bound)).map Ty.size).sum ≤ (l.map Pm.wt).sum := by
  induction l with
  | nil => simp
  | cons p l ih => simp only [List.map_cons, List.sum_cons, Pm.wt] at ih ⊢; omega
theorem typesL_sum (x : IF) : ((typesL x).map Ty.size).sum + x.aliases.length ≤ x.wt := by
  have a := sum_flat (l := x.types) (f := teTys) (g := Ty.size) (w := TE.wt) fun y _ => by
    have := bound_sum y.params
    simp only [teTys, List.map_append, List.sum_append, List.map_cons, List.map_nil, List.sum_cons, List.sum_nil, TE.wt]; omega
  have b := sum_flat (l := x.values) (f := veTys) (g := Ty.size) (w := VE.wt) fun y _ => by
    have := bound_sum y.params
    simp only [veTys, List.map_append, List.sum_append, List.map_cons, List.map_nil, List.sum_cons, List.sum_nil, VE.wt]; omega
  simp only [typesL, List.map_append, List.sum_append, IF.wt]; omega
theorem ty_pos (t : Ty) : 1 ≤ t.size := by rw [size_eq]; omega
theorem len_sum : ∀ l : List Ty, l.length ≤ (l.map Ty.size).sum
  | [] => by simp
  | t :: l => by have a := ty_pos t; have b := len_sum l; simp only [List.length_cons, List.map_cons, List.sum_cons]; omega
theorem typesL_len (x : IF) : (typesL x).length ≤ x.wt := by have a := typesL_sum x; have b := len_sum (typesL x); omega
theorem typesL_le {x : IF} (hok : x.ok) {u : Ty} (h : u ∈ typesL x) : Ty.le 4294967295 u := by
  unfold typesL at h
  rcases List.mem_append.1 h with h | h
  · obtain ⟨e, he, hu⟩ := List.mem_flatMap.1 h
    have hk := hok.t e he
    unfold teTys at hu
    simp only [List.cons_append, List.nil_append, List.mem_cons, List.mem_map] at hu
    rcases hu with rfl | rfl | ⟨p, hp, rfl⟩
    · exact hk.lo
    · exact hk.up
    · exact hk.p p hp
  · obtain ⟨e, he, hu⟩ := List.mem_flatMap.1 h
    have hk := hok.v e he
    unfold veTys at hu
    simp only [List.cons_append, List.nil_append, List.mem_cons, List.mem_map] at hu
    rcases hu with rfl | ⟨p, hp, rfl⟩
    · exact hk.ty
    · exact hk.p p hp
def modsT (l : List Ty) : List S := l.flatMap fun t => (sortU t.uses).map (·.1)
theorem modsT_take {l : List Ty} {i : Nat} (h : i < l.length) : modsT (l.take (i+1)) = modsT (l.take i) ++ (sortU l[i].uses).map (·.1) := by
  unfold modsT; rw [flat_take h]
theorem modsT_len (l : List Ty) : (modsT l).length ≤ (l.map Ty.size).sum := flat_len fun t _ => by
  rw [List.length_map]; exact Nat.le_trans sortU_len (uses_len t)
theorem modsT_mem {l : List Ty} {s : S} : s ∈ modsT l ↔ s ∈ l.flatMap tyMods := by
  unfold modsT tyMods
  simp only [List.mem_flatMap, List.mem_map, sortU_mem]
theorem pm_mem {l : List Pm} {s : S} : s ∈ (l.map (·.bound)).flatMap tyMods ↔ s ∈ pmMods l := by
  unfold pmMods; simp only [List.mem_flatMap, List.mem_map]
  constructor
  · rintro ⟨u, ⟨p, hp, rfl⟩, hs⟩; exact ⟨p, hp, hs⟩
  · rintro ⟨p, hp, hs⟩; exact ⟨_, ⟨p, hp, rfl⟩, hs⟩
theorem ment_mem (x : IF) (s : S) : s ∈ modsT (typesL x) ++ x.aliases.map (·.module) ↔ s ∈ mentL x := by
  have h1 : ∀ e : TE, (s ∈ (teTys e).flatMap tyMods ↔ s ∈ teMods e) := fun e => by
    unfold teTys teMods
    rw [List.flatMap_append, List.mem_append, pm_mem]
    simp only [List.flatMap_cons, List.flatMap_nil, List.append_nil, List.mem_append]
    constructor
    · rintro ((h | h) | h); exact .inl (.inr h); exact .inr h; exact .inl (.inl h)
    · rintro ((h | h) | h); exact .inr h; exact .inl (.inl h); exact .inl (.inr h)
  have h2 : ∀ e : VE, (s ∈ (veTys e).flatMap tyMods ↔ s ∈ veMods e) := fun e => by
    unfold veTys veMods
    rw [List.flatMap_append, List.mem_append, pm_mem]
    simp only [List.flatMap_cons, List.flatMap_nil, List.append_nil, List.mem_append]
    exact Or.comm
  rw [List.mem_append, modsT_mem]
  unfold mentL typesL
  rw [List.flatMap_append, List.mem_append, List.mem_append, List.mem_append]
  have e1 : s ∈ (x.types.flatMap teTys).flatMap tyMods ↔ s ∈ x.types.flatMap teMods := by
    rw [List.flatMap_assoc]; simp only [List.mem_flatMap (l := x.types)]
    exact ⟨fun ⟨a, b, c⟩ => ⟨a, b, (h1 a).1 c⟩, fun ⟨a, b, c⟩ => ⟨a, b, (h1 a).2 c⟩⟩
  have e2 : s ∈ (x.values.flatMap veTys).flatMap tyMods ↔ s ∈ x.values.flatMap veMods := by
    rw [List.flatMap_assoc]; simp only [List.mem_flatMap (l := x.values)]
    exact ⟨fun ⟨a, b, c⟩ => ⟨a, b, (h2 a).1 c⟩, fun ⟨a, b, c⟩ => ⟨a, b, (h2 a).2 c⟩⟩
  rw [e1, e2]
def neP (p : S) (s : S) : Bool := !(s == p)
theorem ment_filter (x : IF) : (insA [] (modsT (typesL x) ++ x.aliases.map (·.module))).filter (neP x.path) = mentO x := by
  refine sortS_of (l := (insA [] _).filter _) ?_ fun s => ?_
  · have := sortS_srt (modsT (typesL x) ++ x.aliases.map (·.module))
    unfold SrtS at this ⊢
    exact List.Pairwise.filter _ this
  · rw [List.mem_filter]
    unfold mentS
    rw [List.mem_filter, ← ment_mem]
    have := sortS_mem (modsT (typesL x) ++ x.aliases.map (·.module)) s
    unfold sortS at this
    unfold insA
    rw [this]
    simp only [neP, bne]
end Go.VC
namespace Go.VC.T07
open Go Go.VC Go.Proofs
theorem F56c {t : Ty} (hle : Ty.le 4294967295 t) (hs : t.size ≤ 4294967290) {c0 : Int} {c1 c2 : S} {c3 c4 : D} {K : PV → List Ob → Prop} (ht : tyIs t c0 c1 c2 c3 c4) (h : ∀ r, r = encL encU (sortU t.uses) → K (.lst 99 r) []) :
    FC Tryz.prog tt 56 [] [tyPV c0 c1 c2 c3 c4] K := F56 t hle hs ht h
def g21a : Cfg := {tt := tt, n := 75, sch := g21.sch, own := [53]}
set_option maxRecDepth 100000 in
set_option maxHeartbeats 4000000 in
theorem F21 {x : IF} {c0 : S} {c1 c2 c3 c4 : D} {K : PV → List Ob → Prop} (hx : ifIs x c0 c1 c2 c3 c4) (hok : x.ok) (hw : x.wt ≤ 4294967290)
    (h : ∀ r, r = encL encS (mentO x) → K (.lst 9 r) []) : FC Tryz.prog tt 21 [] [ifPV c0 c1 c2 c3 c4] K := by
  have hx' := hx
  obtain ⟨x0, hc1, hc2, hc3, hc4⟩ := hx
  have hts := typesL_sum x
  have htl := typesL_len x
  obtain ⟨ts, hts0⟩ : ∃ ts, ts = typesL x := ⟨_, rfl⟩
  have hmf := ment_filter x
  have hle : ∀ u ∈ ts, Ty.le 4294967295 u := fun u hu => typesL_le hok (by rw [← hts0]; exact hu)
  rw [← hts0] at hts htl hmf
  have hml := modsT_len ts
  refine FC.enter (G := g21a) tt_ok mixed ⟨Tryz.func21, by rfl, rfl⟩ rfl rfl rfl ?_
  intro A C L X
  obtain ⟨n_c3, hn_c3⟩ : ∃ n, n = (x.aliases).length := ⟨_, rfl⟩
  have hlen_c3 : Std.len c3 = Int.ofNat n_c3 := by rw [hc3, Std_len, hn_c3]; rfl
  cbv
  refine X.call (F42 hx' hok (by rw [← hts0]; omega) fun dt hdt => ?_)
  rw [← hts0] at hdt
  obtain ⟨n_dt, hn_dt⟩ : ∃ n, n = (ts).length := ⟨_, rfl⟩
  have hlen_dt : Std.len dt = Int.ofNat n_dt := by rw [hdt, Std_len, hn_dt]; rfl
  cbv
  refine X.loop (fun (y : Nat × D) => ⟨[(5, .int .i64 y.1), (3, .lst 9 y.2), (4, .lst 43 dt), (1, .box 0 0)], [.box [.str c0, .lst 58 c1, .lst 76 c2, .lst 72 c3, .lst 87 c4]]⟩)
    (fun y => y.1 ≤ n_dt ∧ y.2 = encL encS (insA [] (modsT (ts.take y.1)))) (fun y => n_dt - y.1) (0, A.lit []) ⟨Nat.zero_le _, by rw [X.a]; rfl⟩ ?_ ?_
  · (cbv; repeat' apply And.intro); all_goals (try (first | trivial | rfl | (rw [X.a]; rfl)))
  · rintro ⟨i, out⟩ ⟨hi, hr⟩
    simp only at hi hr
    cbv
    refine ⟨fun h1 => ?_, fun h1 => ?_⟩
    · have h5 : i < ts.length := by obtain rfl := X.a; simp only [hlen_dt, SD, bNot] at h1; omega
      have k1 := tyAt X.a hdt h5
      have hid : A.idx (Int.ofNat i) (A.len dt) := by rw [X.a, hdt]; exact leaf_idx h5
      have hin : A.inr .i64 (A.add (Int.ofNat i) 1) := by rw [X.a]; exact leaf_inc h5 (by omega)
      have hmem := List.getElem_mem h5
      have hsm : ts[i].size ≤ (ts.map Ty.size).sum := wt_mem hmem
      cbv
      repeat' (first | apply And.intro | exact fun (_ : False → False) => by kernel_rfl | (intro h2; cbv) | apply Or.inl)
      any_goals exact hid
      refine X.call (F56c (hle _ hmem) (by omega) k1 fun r2 hr2 => ?_)
      obtain ⟨l, hl0⟩ : ∃ l, l = sortU ts[i].uses := ⟨_, rfl⟩
      have hr2 : r2 = encL encU l := by rw [hl0]; exact hr2
      have hpt := modsT_take h5
      rw [← hl0] at hpt
      have hll : l.length ≤ ts[i].size := by rw [hl0]; exact Nat.le_trans sortU_len (uses_len _)
      have hol : (modsT (ts.take i)).length + l.length ≤ (ts.map Ty.size).sum := by
        have a := modsT_len (ts.take (i+1))
        have b := sum_map_take_le (f := Ty.size) (l := ts) (i := i+1)
        rw [hpt, List.length_append, List.length_map] at a; omega
      obtain ⟨n_r2, hn_r2⟩ : ∃ n, n = (l).length := ⟨_, rfl⟩
      have hlen_r2 : Std.len r2 = Int.ofNat n_r2 := by rw [hr2, Std_len, hn_r2]; rfl
      cbv
      refine X.loop (fun (y : Nat × D) => ⟨[(7, .int .i64 y.1), (6, .lst 99 r2), (3, .lst 9 y.2), (5, .int .i64 i), (4, .lst 43 dt), (1, .box 0 0)], [.box [.str c0, .lst 58 c1, .lst 76 c2, .lst 72 c3, .lst 87 c4]]⟩)
        (fun y => y.1 ≤ n_r2 ∧ y.2 = encL encS (insA [] (modsT (ts.take i) ++ (l.take y.1).map (·.1)))) (fun y => n_r2 - y.1) (0, out) ⟨Nat.zero_le _, by simpa using hr⟩ ?_ ?_
      · (cbv; repeat' apply And.intro); all_goals (try (first | trivial | rfl | (rw [X.a]; rfl)))
      · rintro ⟨j, o2⟩ ⟨hj, hr3⟩
        simp only at hj hr3
        cbv
        refine ⟨fun h1 => ?_, fun h1 => ?_⟩
        · have h6 : j < l.length := by obtain rfl := X.a; simp only [hlen_r2, SD, bNot] at h1; omega
          obtain ⟨k2, k3⟩ := uAt X.a hr2 h6
          have hid : A.idx (Int.ofNat j) (A.len r2) := by rw [X.a, hr2]; exact leaf_idx h6
          have hin2 : A.inr .i64 (A.add (Int.ofNat j) 1) := by rw [X.a]; exact leaf_inc h6 (by omega)
          have hlen3 := insA_len (l := modsT (ts.take i) ++ (l.take j).map (·.1))
          simp only [List.length_append, List.length_map, List.length_take] at hlen3
          cbv
          repeat' (first | apply And.intro | exact fun (_ : False → False) => by kernel_rfl | (intro h2; cbv) | apply Or.inl)
          any_goals exact hid
          refine X.call (F52c k2 hr3 (by omega) fun r4 hr4 => ?_)
          have q1 : r4 = encL encS (insA [] (modsT (ts.take i) ++ (l.take (j+1)).map (·.1))) := by rw [map_take h6, ← List.append_assoc, insA_snoc]; exact hr4
          cbv
          repeat' (first | apply And.intro | exact fun (_ : False → False) => by kernel_rfl | (intro h2; cbv) | apply Or.inl)
          any_goals exact hin2
          refine ⟨(j+1, r4), ⟨?_, q1⟩, ?_, ?_⟩
          · simp only; omega
          · simp only; omega
          (cbv; repeat' apply And.intro); all_goals (try (first | trivial | rfl | (rw [X.a]; rfl)))
        · have h6 : j = n_r2 := by obtain rfl := X.a; simp only [hlen_r2, SD, bNot] at h1; omega
          rw [h6, hn_r2, List.take_length, ← hpt] at hr3
          cbv
          repeat' (first | apply And.intro | exact fun (_ : False → False) => by kernel_rfl | (intro h2; cbv) | apply Or.inl)
          any_goals exact hin
          refine ⟨(i+1, o2), ⟨?_, hr3⟩, ?_, ?_⟩
          · simp only; omega
          · simp only; omega
          (cbv; repeat' apply And.intro); all_goals (try (first | trivial | rfl | (rw [X.a]; rfl)))
    have h5 : i = n_dt := by obtain rfl := X.a; simp only [hlen_dt, SD, bNot] at h1; omega
    rw [h5, hn_dt, List.take_length] at hr
    clear h1 hi
    cbv
    refine X.loop (fun (y : Nat × D) => ⟨[(8, .int .i64 y.1), (3, .lst 9 y.2), (1, .box 0 0)], [.box [.str c0, .lst 58 c1, .lst 76 c2, .lst 72 c3, .lst 87 c4]]⟩)
      (fun y => y.1 ≤ n_c3 ∧ y.2 = encL encS (insA [] (modsT ts ++ (x.aliases.take y.1).map (·.module)))) (fun y => n_c3 - y.1) (0, out) ⟨Nat.zero_le _, by simpa using hr⟩ ?_ ?_
    · (cbv; repeat' apply And.intro); all_goals (try (first | trivial | rfl | (rw [X.a]; rfl)))
    rintro ⟨j, o2⟩ ⟨hj, hr3⟩
    simp only at hj hr3
    cbv
    refine ⟨fun h1 => ?_, fun h1 => ?_⟩
    · have h6 : j < x.aliases.length := by obtain rfl := X.a; simp only [hlen_c3, SD, bNot] at h1; omega
      obtain ⟨k1, k2, k3⟩ := aeIsAt X.a hc3 h6
      have hid : A.idx (Int.ofNat j) (A.len c3) := by rw [X.a, hc3]; exact leaf_idx h6
      have hin2 : A.inr .i64 (A.add (Int.ofNat j) 1) := by rw [X.a]; exact leaf_inc h6 (by omega)
      have hlen3 := insA_len (l := modsT ts ++ (x.aliases.take j).map (·.module))
      simp only [List.length_append, List.length_map, List.length_take] at hlen3
      cbv
      repeat' (first | apply And.intro | exact fun (_ : False → False) => by kernel_rfl | (intro h2; cbv) | apply Or.inl)
      any_goals exact hid
      refine X.call (F52c k2 hr3 (by omega) fun r4 hr4 => ?_)
      have q1 : r4 = encL encS (insA [] (modsT ts ++ (x.aliases.take (j+1)).map (·.module))) := by rw [map_take h6, ← List.append_assoc, insA_snoc]; exact hr4
      cbv
      repeat' (first | apply And.intro | exact fun (_ : False → False) => by kernel_rfl | (intro h2; cbv) | apply Or.inl)
      any_goals exact hin2
      refine ⟨(j+1, r4), ⟨?_, q1⟩, ?_, ?_⟩
      · simp only; omega
      · simp only; omega
      (cbv; repeat' apply And.intro); all_goals (try (first | trivial | rfl | (rw [X.a]; rfl)))
    have h6 : j = n_c3 := by obtain rfl := X.a; simp only [hlen_c3, SD, bNot] at h1; omega
    rw [h6, hn_c3, List.take_length] at hr3
    obtain ⟨al, hal⟩ : ∃ al, al = insA [] (modsT ts ++ x.aliases.map (·.module)) := ⟨_, rfl⟩
    rw [← hal] at hr3 hmf
    have hall : al.length ≤ 4294967290 := by
      have hlen3 := insA_len (l := modsT ts ++ x.aliases.map (·.module))
      simp only [List.length_append, List.length_map] at hlen3
      rw [hal]; omega
    obtain ⟨n_o2, hn_o2⟩ : ∃ n, n = (al).length := ⟨_, rfl⟩
    have hlen_o2 : Std.len o2 = Int.ofNat n_o2 := by rw [hr3, Std_len, hn_o2]; rfl
    clear h1 hj
    cbv
    refine X.loopP (fun (y : Nat × D) => ⟨[(10, .int .i64 y.1), (3, .lst 9 o2), (1, .box 0 0), (9, .row 9 1)], [.box [.str c0, .lst 58 c1, .lst 76 c2, .lst 72 c3, .lst 87 c4], .row 9 y.2 true]⟩)
      (fun y => y.1 ≤ n_o2 ∧ y.2 = encL encS ((al.take y.1).filter (neP x.path))) (fun y => n_o2 - y.1) (0, A.lit []) ⟨Nat.zero_le _, by rw [X.a]; rfl⟩ ?_ ?_
    · refine ⟨[0, 1], rfl, ?_⟩
      (cbv; repeat' apply And.intro); all_goals (try (first | trivial | rfl | (rw [X.a]; rfl)))
    rintro ⟨k, o3⟩ ⟨hk, hr4⟩
    simp only at hk hr4
    cbv
    refine ⟨fun h1 => ?_, fun h1 => ?_⟩
    · have h7 : k < al.length := by obtain rfl := X.a; simp only [hlen_o2, SD, bNot] at h1; omega
      have k1 := strAt X.a hr3 h7
      have hid : A.idx (Int.ofNat k) (A.len o2) := by rw [X.a, hr3]; exact leaf_idx h7
      have hin : A.inr .i64 (A.add (Int.ofNat k) 1) := by rw [X.a]; exact leaf_inc h7 (by omega)
      have hft := filt_take (p := neP x.path) h7
      have hfl : ((al.take k).filter (neP x.path)).length ≤ k := Nat.le_trans (List.length_filter_le _ _) (by simp; omega)
      have heq : A.seq (A.asStr (A.cell o2 (Int.ofNat k) 0)) c0 = (al[k] == x.path) := by rw [k1, x0, X.a]; rfl
      have hb2 : A.bnd (A.add (A.len o3) (A.len (A.lit [[.str (A.asStr (A.cell o2 (Int.ofNat k) 0))]]))) 4294967296 := by
        rw [X.a, hr4, Std_len, Std_len_lit]; exact ⟨by rw [Std_add]; omega, by rw [Std_add]; simp only [List.length_cons, List.length_nil]; omega⟩
      have q1 : A.app o3 (A.lit [[.str (A.asStr (A.cell o2 (Int.ofNat k) 0))]]) = encL encS ((al.take k).filter (neP x.path) ++ [al[k]]) := by
        rw [k1, X.a, hr4]
        exact Std_app (k := [al[k]])
      cbv
      repeat' (first | apply And.intro | exact fun (_ : False → False) => by kernel_rfl | (intro h2; cbv) | apply Or.inl)
      any_goals exact hid
      any_goals exact hb2
      any_goals exact hin
      · rename_i g1
        have e : neP x.path al[k] = true := by rw [heq] at g1; obtain rfl := X.a; unfold neP; simpa only [SD, bNot] using g1
        rw [if_pos e] at hft
        have q2 := q1.trans (by rw [← hft])
        refine ⟨(k+1, _), ⟨?_, q2⟩, ?_, [0, 1], rfl, ?_⟩
        · simp only; omega
        · simp only; omega
        (cbv; repeat' apply And.intro); all_goals (try (first | trivial | rfl | (rw [X.a]; rfl)))
      · rename_i g1
        have e : neP x.path al[k] = false := by rw [heq] at g1; obtain rfl := X.a; unfold neP; simpa only [SD, bNot] using g1
        rw [e] at hft
        refine ⟨(k+1, o3), ⟨?_, ?_⟩, ?_, [0, 1], rfl, ?_⟩
        · simp only; omega
        · simp only; rw [hr4, hft]; simp
        · simp only; omega
        (cbv; repeat' apply And.intro); all_goals (try (first | trivial | rfl | (rw [X.a]; rfl)))
    have h7 : k = n_o2 := by obtain rfl := X.a; simp only [hlen_o2, SD, bNot] at h1; omega
    rw [h7, hn_o2, List.take_length, hmf] at hr4
    have q := h o3 hr4
    cbv
    exact q
end Go.VC.T07
end

section
/- The reference's Without and Add. -/
set_option linter.unusedSimpArgs false
set_option linter.unusedVariables false
namespace Go.VC
theorem atI_of {l : List IF} {x : IF} {i : Nat} (hi : i ≤ l.length) (hne : ∀ y ∈ l, y.path ≠ x.path) (ha : ∀ y ∈ l.take i, slt y.path x.path = true) (hb : ∀ hi : i < l.length, slt l[i].path x.path = false) : atI l x = i := by
  unfold atI
  rcases Nat.lt_or_eq_of_le hi with h | rfl
  · have : l.findIdx? (fun y => slt x.path y.path) = some i := by
      rw [List.findIdx?_eq_some_iff_getElem]
      refine ⟨h, ?_, fun j hj => ?_⟩
      · cases hs : slt x.path l[i].path with
        | true => rfl
        | false => exact absurd (slt_tri (hb h) hs) (hne _ (List.getElem_mem h))
      · have := slt_asymm (ha l[j] (by rw [List.mem_take_iff_getElem]; exact ⟨j, by omega, rfl⟩))
        simp [this]
    rw [this]; rfl
  · have : l.findIdx? (fun y => slt x.path y.path) = none := by
      rw [List.findIdx?_eq_none_iff]
      intro y hy
      exact slt_asymm (ha y (by rw [List.take_length]; exact hy))
    rw [this]; rfl
theorem addI_of {env l : List IF} {x : IF} {i : Nat} (hi : i ≤ l.length) (hl : l = env.filter fun y => y.path != x.path) (ha : ∀ y ∈ l.take i, slt y.path x.path = true) (hb : ∀ hi : i < l.length, slt l[i].path x.path = false) :
    l.take i ++ x :: l.drop i = addI env x := by
  unfold addI
  rw [← hl, atI_of hi (fun y hy => by rw [hl, List.mem_filter] at hy; simpa using hy.2) ha hb]
end Go.VC
namespace Go.VC.T07
open Go Go.VC Go.Proofs
set_option maxRecDepth 100000 in
set_option maxHeartbeats 1000000 in
theorem F64 {l : List S} {s : S} {d : D} {K : PV → List Ob → Prop} (hd : d = encL encS l) (hl : l.length ≤ 4294967290) (h : ∀ b, b = decide (s ∈ l) → K (.bool b) []) :
    FC Tryz.prog tt 64 [] [.lst 9 d, .str s] K := by
  refine FC.enter (G := g64) tt_ok mixed ⟨Tryz.func64, by rfl, rfl⟩ rfl rfl rfl ?_
  intro A C L X
  obtain ⟨n_d, hn_d⟩ : ∃ n, n = (l).length := ⟨_, rfl⟩
  have hlen_d : Std.len d = Int.ofNat n_d := by rw [hd, Std_len, hn_d]; rfl
  cbv
  refine X.loop (fun (i : Nat) => ⟨[(5, .int .i64 i), (0, .lst 9 d), (1, .str s)], []⟩) (fun i => i ≤ n_d ∧ s ∉ l.take i) (fun i => n_d - i) 0 ⟨Nat.zero_le _, by simp⟩ ?_ ?_
  · (cbv; repeat' apply And.intro); all_goals (try (first | trivial | rfl | (rw [X.a]; rfl)))
  rintro i ⟨hi, ha⟩
  cbv
  refine ⟨fun h1 => ?_, fun h1 => ?_⟩
  · have h5 : i < l.length := by obtain rfl := X.a; simp only [hlen_d, SD, bNot] at h1; omega
    have k1 := strAt X.a hd h5
    have hid : A.idx (Int.ofNat i) (A.len d) := by rw [X.a, hd]; exact leaf_idx h5
    have hin : A.inr .i64 (A.add (Int.ofNat i) 1) := by rw [X.a]; exact leaf_inc h5 (by omega)
    have heq : A.seq (A.asStr (A.cell d (Int.ofNat i) 0)) s = decide (l[i] = s) := by rw [k1, X.a]; show (l[i] == s) = _; rw [Bool.eq_iff_iff]; simp
    cbv
    repeat' (first | apply And.intro | exact fun (_ : False → False) => by kernel_rfl | (intro h2; cbv) | apply Or.inl)
    any_goals exact hid
    any_goals exact hin
    · have e : l[i] = s := by have := heq.symm.trans h2; simpa using this
      have q := h true (by rw [eq_comm, decide_eq_true_eq, ← e]; exact List.getElem_mem h5)
      first | exact q | trace_state
    · rename_i g1
      have e : ¬ l[i] = s := by have := heq.symm.trans g1; simpa using this
      refine ⟨i+1, ⟨by omega, ?_⟩, by omega, ?_⟩
      · rw [take_succ' h5]; intro hx
        rcases List.mem_append.1 hx with hx | hx
        · exact ha hx
        · simp at hx; exact e hx.symm
      (cbv; repeat' apply And.intro); all_goals (try (first | trivial | rfl | (rw [X.a]; rfl)))
  · have h5 : i = n_d := by obtain rfl := X.a; simp only [hlen_d, SD, bNot] at h1; omega
    subst h5
    rw [hn_d, List.take_length] at ha
    have q := h false (by rw [eq_comm, decide_eq_false_iff_not]; exact ha)
    cbv
    first | exact q | trace_state

def g31a : Cfg := {tt := tt, n := 29, own := [7]}
set_option maxRecDepth 100000 in
set_option maxHeartbeats 1000000 in
theorem F31 {env : List IF} {d : D} {s : S} {K : PV → List Ob → Prop} (hd : d = encL encIF env) (hn : env.length ≤ 4294967290)
    (h : ∀ r, r = encL encIF (env.filter fun i => i.path != s) → K (.lst 31 r) []) :
    FC Tryz.prog tt 31 [] [.lst 31 d, .str s] K := by
  refine FC.enter (G := g31a) tt_ok mixed ⟨Tryz.func31, by rfl, rfl⟩ rfl rfl rfl ?_
  intro A C L X
  obtain ⟨n_d, hn_d⟩ : ∃ n, n = (env).length := ⟨_, rfl⟩
  have hlen_d : Std.len d = Int.ofNat n_d := by rw [hd, Std_len, hn_d]; rfl
  cbv
  refine X.loopP (fun (y : Nat × D) => ⟨[(6, .int .i64 y.1), (0, .lst 31 d), (1, .str s), (5, .row 31 0)], [.row 31 y.2 true]⟩)
    (fun y => y.1 ≤ n_d ∧ y.2 = encL encIF ((env.take y.1).filter fun i => i.path != s)) (fun y => n_d - y.1) (0, A.lit []) ⟨Nat.zero_le _, by rw [X.a]; rfl⟩ ?_ ?_
  · refine ⟨[0], rfl, ?_⟩
    (cbv; repeat' apply And.intro); all_goals (try (first | trivial | rfl | (rw [X.a]; rfl)))
  rintro ⟨i, r⟩ ⟨hi, hr⟩
  simp only at hi hr
  cbv
  refine ⟨fun h1 => ?_, fun h1 => ?_⟩
  · have h5 : i < env.length := by obtain rfl := X.a; simp only [hlen_d, SD, bNot] at h1; omega
    have k1 := ifIsAt X.a hd h5
    have hid : A.idx (Int.ofNat i) (A.len d) := by rw [X.a, hd]; exact leaf_idx h5
    have hin : A.inr .i64 (A.add (Int.ofNat i) 1) := by rw [X.a]; exact leaf_inc h5 (by omega)
    have hft := filt_take (p := fun i => i.path != s) h5
    have hfl : ((env.take i).filter fun i => i.path != s).length ≤ i := Nat.le_trans (List.length_filter_le _ _) (by simp; omega)
    have heq : A.seq (A.asStr (A.cell d (Int.ofNat i) 0)) s = (env[i].path == s) := by rw [k1.1, X.a]; rfl
    obtain ⟨he0, he1, he2, he3, he4⟩ := k1
    have hb2 : A.bnd (A.add (A.len r) (A.len (A.lit [[.str (A.asStr (A.cell d (Int.ofNat i) 0)), A.cell d (Int.ofNat i) 1, A.cell d (Int.ofNat i) 2, A.cell d (Int.ofNat i) 3, A.cell d (Int.ofNat i) 4]]))) 4294967296 := by
      rw [X.a, hr]; simp only [SD, bNot]; omega
    have q1 : A.app r (A.lit [[.str (A.asStr (A.cell d (Int.ofNat i) 0)), A.cell d (Int.ofNat i) 1, A.cell d (Int.ofNat i) 2, A.cell d (Int.ofNat i) 3, A.cell d (Int.ofNat i) 4]]) = encL encIF ((env.take i).filter (fun i => i.path != s) ++ [env[i]]) := by
      rw [he0, he1, he2, he3, he4, X.a, hr]
      exact Std_app (k := [env[i]])
    cbv
    repeat' (first | apply And.intro | exact fun (_ : False → False) => by kernel_rfl | (intro h2; cbv) | apply Or.inl)
    any_goals exact hid
    any_goals exact hin
    any_goals exact hb2
    · have e : (env[i].path != s) = true := by rw [bne, ← heq]; obtain rfl := X.a; simpa only [SD, bNot] using h2
      rw [if_pos e] at hft
      have q2 := q1.trans (by rw [← hft])
      refine ⟨(i+1, _), ⟨?_, q2⟩, ?_, [0], rfl, ?_⟩
      · simp only; omega
      · simp only; omega
      (cbv; repeat' apply And.intro); all_goals (try (first | trivial | rfl | (rw [X.a]; rfl)))
    · rename_i g1
      have e : (env[i].path != s) = false := by rw [bne, ← heq]; obtain rfl := X.a; simpa only [SD, bNot] using g1
      rw [e] at hft
      refine ⟨(i+1, r), ⟨?_, ?_⟩, ?_, [0], rfl, ?_⟩
      · simp only; omega
      · simp only; rw [hr, hft]; simp
      · simp only; omega
      (cbv; repeat' apply And.intro); all_goals (try (first | trivial | rfl | (rw [X.a]; rfl)))
  have h5 : i = n_d := by obtain rfl := X.a; simp only [hlen_d, SD, bNot] at h1; omega
  subst h5
  rw [hn_d, List.take_length] at hr
  have q := h r hr
  cbv
  exact q

def g29a : Cfg := {tt := tt, n := 39, sch := g29.sch, own := [27]}
set_option maxRecDepth 100000 in
set_option maxHeartbeats 2000000 in
theorem F29 {env : List IF} {d : D} {x : IF} {c0 : S} {c1 c2 c3 c4 : D} {K : PV → List Ob → Prop} (hd : d = encL encIF env) (hn : env.length ≤ 4294967290) (hx : ifIs x c0 c1 c2 c3 c4)
    (h : ∀ r, r = encL encIF (addI env x) → K (.lst 31 r) []) :
    FC Tryz.prog tt 29 [] [.lst 31 d, ifPV c0 c1 c2 c3 c4] K := by
  have k0 := hx.1
  refine FC.enter (G := g29a) tt_ok mixed ⟨Tryz.func29, by rfl, rfl⟩ rfl rfl rfl ?_
  intro A C L X
  obtain ⟨l, hl0⟩ : ∃ l, l = env.filter fun y => y.path != x.path := ⟨_, rfl⟩
  have hll : l.length ≤ env.length := by rw [hl0]; exact List.length_filter_le _ _
  cbv
  refine X.call (F31 (s := c0) hd hn fun r hr => ?_)
  rw [k0, ← hl0] at hr
  obtain ⟨n_r, hn_r⟩ : ∃ n, n = (l).length := ⟨_, rfl⟩
  have hlen_r : Std.len r = Int.ofNat n_r := by rw [hr, Std_len, hn_r]; rfl
  cbv
  refine X.loop (fun (i : Nat) => ⟨[(6, .int .i64 i), (5, .lst 31 r), (3, .box 0 0)], [.box [.str c0, .lst 58 c1, .lst 76 c2, .lst 72 c3, .lst 87 c4]]⟩) (fun i => i ≤ n_r ∧ ∀ y ∈ l.take i, slt y.path x.path = true) (fun i => n_r - i) 0 ⟨Nat.zero_le _, by simp⟩ ?_ ?_
  · (cbv; repeat' apply And.intro); all_goals (try (first | trivial | rfl | (rw [X.a]; rfl)))
  rintro i ⟨hi, ha⟩
  cbv
  have b1 : A.bnd (Int.ofNat i) (A.len r) := by rw [X.a, hlen_r]; simp only [SD, bNot]; omega
  have b2 : A.bnd 0 (Int.ofNat i) := by rw [X.a]; simp only [SD, bNot]; omega
  have b3 : A.bnd (A.len r) (A.len r) := by rw [X.a, hlen_r]; simp only [SD, bNot]; omega
  have hys : ([.str c0, c1, c2, c3, c4] : List D) = encIF x := by obtain ⟨a0, a1, a2, a3, a4⟩ := hx; rw [a0, a1, a2, a3, a4]; rfl
  have b4 := bnd1 (i := i) X.a hr (by omega)
  have b5 := bnd2 (i := i) (ys := [.str c0, c1, c2, c3, c4]) X.a hr (by omega)
  have b6 := bnd3 X.a hr (by omega : i ≤ l.length) (by omega) hys
  have e3 := app3 (i := i) X.a hr hys
  have q := fun h1 => h _ (e3.trans (by rw [addI_of (by omega) hl0 ha h1]))
  refine ⟨fun (_ : False → False) => by kernel_rfl, fun h1 => ?_, fun h1 => ?_⟩
  · have h5 : i < l.length := by obtain rfl := X.a; simp only [hlen_r, SD, bNot] at h1; omega
    have k1 := ifIsAt X.a hr h5
    have hlt : A.slt (A.asStr (A.cell r (Int.ofNat i) 0)) c0 = slt l[i].path x.path := by rw [k1.1, k0, X.a]; rfl
    have hlt0 : A.lt (Int.ofNat i) (A.len r) = true := h1
    have hid : A.idx (Int.ofNat i) (A.len r) := by rw [X.a, hr]; exact leaf_idx h5
    have hin : A.inr .i64 (A.add (Int.ofNat i) 1) := by rw [X.a]; exact leaf_inc h5 (by omega)
    cbv
    repeat' (first | apply And.intro | exact fun (_ : False → False) => by kernel_rfl | (intro h2; cbv) | apply Or.inl)
    any_goals exact hid
    any_goals exact hin
    any_goals exact b1
    any_goals exact b2
    any_goals exact b3
    any_goals exact b4
    any_goals exact b5
    any_goals exact b6
    · refine ⟨i+1, ⟨by omega, ?_⟩, by omega, ?_⟩
      · rename_i h3
        have h4 : slt l[i].path x.path = true := hlt.symm.trans h3
        rw [take_succ' h5]; intro y hy
        rcases List.mem_append.1 hy with hy | hy
        · exact ha y hy
        · simp at hy; subst hy; exact h4
      (cbv; repeat' apply And.intro); all_goals (try (first | trivial | rfl | (rw [X.a]; rfl)))
    all_goals first
      | exact q (fun _ => hlt.symm.trans h2)
      | trace_state
  · have h5 : i = n_r := by obtain rfl := X.a; simp only [hlen_r, SD, bNot] at h1; omega
    have q := q (fun _ => by omega)
    cbv
    repeat' (first | apply And.intro | exact fun (_ : False → False) => by kernel_rfl | (intro h2; cbv) | apply Or.inl)
    any_goals exact b1
    any_goals exact b2
    any_goals exact b3
    any_goals exact b4
    any_goals exact b5
    any_goals exact b6
    all_goals first
      | exact q
      | trace_state
end Go.VC.T07
end

section
/- The reference's search. -/
set_option linter.unusedSimpArgs false
set_option linter.unusedVariables false
namespace Go.VC.T07
open Go Go.VC Go.Proofs

set_option maxRecDepth 100000 in
set_option maxHeartbeats 1000000 in
theorem F38 {x : IF} {s c : S} {c0 : S} {c1 c2 c3 c4 : D} {K : PV → List Ob → Prop} (hx : ifIs x c0 c1 c2 c3 c4) (hl : x.types.length ≤ 4294967295) (hs : c = s)
    (h : ∀ e0 e1 e2 e3 e4 e5 e6 e7 e8 e9 e10 e11 b, teIs ((x.types.find? fun y => y.name == s).getD TE.zero) e0 e1 e2 e3 e4 e5 e6 e7 e8 e9 e10 e11 → b = (x.types.find? fun y => y.name == s).isSome → K (.tup [tePV e0 e1 e2 e3 e4 e5 e6 e7 e8 e9 e10 e11, .bool b]) []) :
    FC Tryz.prog tt 38 [] [ifPV c0 c1 c2 c3 c4, .str c] K := by
  subst hs
  obtain ⟨a0, a1, a2, a3, a4⟩ := hx
  refine FC.enter (G := g38) tt_ok mixed ⟨Tryz.func38, by rfl, rfl⟩ rfl rfl rfl ?_
  intro A C L X
  obtain ⟨n_c1, hn_c1⟩ : ∃ n, n = (x.types).length := ⟨_, rfl⟩
  have hlen_c1 : Std.len c1 = Int.ofNat n_c1 := by rw [a1, Std_len, hn_c1]; rfl
  cbv
  refine X.loop (fun (i : Nat) => ⟨[(6, .int .i64 i), (2, .box 0 0), (1, .str c), (4, .box 1 0)], [.box [.str c0, .lst 58 c1, .lst 76 c2, .lst 72 c3, .lst 87 c4], .box [.undef, .undef, .undef, .undef, .undef, .undef, .undef, .undef, .undef, .undef, .undef, .undef]]⟩) (fun i => i ≤ n_c1 ∧ ∀ y ∈ x.types.take i, (y.name == c) = false) (fun i => n_c1 - i) 0 ⟨Nat.zero_le _, by simp⟩ ?_ ?_
  · (cbv; repeat' apply And.intro); all_goals (try (first | trivial | rfl | (rw [X.a]; rfl)))
  rintro i ⟨hi, ha⟩
  cbv
  refine ⟨fun h1 => ?_, fun h1 => ?_⟩
  · have h5 : i < x.types.length := by obtain rfl := X.a; simp only [hlen_c1, SD, bNot] at h1; omega
    have k1 := teIsAt X.a a1 h5
    have k0 := k1.1
    have hid : A.idx (Int.ofNat i) (A.len c1) := by rw [X.a, a1]; exact leaf_idx h5
    have hin : A.inr .i64 (A.add (Int.ofNat i) 1) := by rw [X.a]; exact leaf_inc h5 (by omega)
    cbv
    repeat' (first | apply And.intro | exact fun (_ : False → False) => by kernel_rfl | (intro h2; cbv) | apply Or.inl)
    any_goals exact hid
    any_goals exact hin
    · have e : x.types[i].name = c := by rw [← k0]; obtain rfl := X.a; simpa only [SD, bNot] using h2
      have hz : (x.types.find? fun y => y.name == c) = some x.types[i] := find_some' h5 (by simp [e]) ha
      refine h _ _ _ _ _ _ _ _ _ _ _ _ _ ?_ ?_
      · rw [hz]; exact k1
      · rw [hz]; rfl
    · have e : ¬ x.types[i].name = c := by rename_i g3; rw [← k0]; obtain rfl := X.a; simpa only [SD, bNot] using g3
      refine ⟨i+1, ⟨by omega, ?_⟩, by omega, ?_⟩
      · rw [take_succ' h5]; intro y hy
        rcases List.mem_append.1 hy with hy | hy
        · exact ha y hy
        · simp at hy; subst hy; simpa using e
      (cbv; repeat' apply And.intro); all_goals (try (first | trivial | rfl | (rw [X.a]; rfl)))
  have h5 : i = n_c1 := by obtain rfl := X.a; simp only [hlen_c1, SD, bNot] at h1; omega
  subst h5
  rw [hn_c1, List.take_length] at ha
  have hz : (x.types.find? fun y => y.name == c) = none := by rw [List.find?_eq_none]; intro y hy; simp [ha y hy]
  cbv
  refine h _ _ _ _ _ _ _ _ _ _ _ _ _ ?_ ?_
  · rw [hz]; exact ⟨rfl, rfl, ⟨rfl, rfl, rfl, rfl, rfl⟩, rfl, rfl, rfl, rfl, rfl⟩
  · rw [hz]; rfl

set_option maxRecDepth 100000 in
set_option maxHeartbeats 1000000 in
theorem F39 {x : IF} {s c : S} {c0 : S} {c1 c2 c3 c4 : D} {K : PV → List Ob → Prop} (hx : ifIs x c0 c1 c2 c3 c4) (hl : x.values.length ≤ 4294967295) (hs : c = s)
    (h : ∀ e0 e1 e2 e3 e4 e5 e6 b, veIs ((x.values.find? fun y => y.name == s).getD VE.zero) e0 e1 e2 e3 e4 e5 e6 → b = (x.values.find? fun y => y.name == s).isSome → K (.tup [vePV e0 e1 e2 e3 e4 e5 e6, .bool b]) []) :
    FC Tryz.prog tt 39 [] [ifPV c0 c1 c2 c3 c4, .str c] K := by
  subst hs
  obtain ⟨a0, a1, a2, a3, a4⟩ := hx
  refine FC.enter (G := g39) tt_ok mixed ⟨Tryz.func39, by rfl, rfl⟩ rfl rfl rfl ?_
  intro A C L X
  obtain ⟨n_c2, hn_c2⟩ : ∃ n, n = (x.values).length := ⟨_, rfl⟩
  have hlen_c2 : Std.len c2 = Int.ofNat n_c2 := by rw [a2, Std_len, hn_c2]; rfl
  cbv
  refine X.loop (fun (i : Nat) => ⟨[(6, .int .i64 i), (2, .box 0 0), (1, .str c), (4, .box 1 0)], [.box [.str c0, .lst 58 c1, .lst 76 c2, .lst 72 c3, .lst 87 c4], .box [.undef, .undef, .undef, .undef, .undef, .undef, .undef]]⟩) (fun i => i ≤ n_c2 ∧ ∀ y ∈ x.values.take i, (y.name == c) = false) (fun i => n_c2 - i) 0 ⟨Nat.zero_le _, by simp⟩ ?_ ?_
  · (cbv; repeat' apply And.intro); all_goals (try (first | trivial | rfl | (rw [X.a]; rfl)))
  rintro i ⟨hi, ha⟩
  cbv
  refine ⟨fun h1 => ?_, fun h1 => ?_⟩
  · have h5 : i < x.values.length := by obtain rfl := X.a; simp only [hlen_c2, SD, bNot] at h1; omega
    have k1 := veIsAt X.a a2 h5
    have k0 := k1.1
    have hid : A.idx (Int.ofNat i) (A.len c2) := by rw [X.a, a2]; exact leaf_idx h5
    have hin : A.inr .i64 (A.add (Int.ofNat i) 1) := by rw [X.a]; exact leaf_inc h5 (by omega)
    cbv
    repeat' (first | apply And.intro | exact fun (_ : False → False) => by kernel_rfl | (intro h2; cbv) | apply Or.inl)
    any_goals exact hid
    any_goals exact hin
    · have e : x.values[i].name = c := by rw [← k0]; obtain rfl := X.a; simpa only [SD, bNot] using h2
      have hz : (x.values.find? fun y => y.name == c) = some x.values[i] := find_some' h5 (by simp [e]) ha
      refine h _ _ _ _ _ _ _ _ ?_ ?_
      · rw [hz]; exact k1
      · rw [hz]; rfl
    · have e : ¬ x.values[i].name = c := by rename_i g3; rw [← k0]; obtain rfl := X.a; simpa only [SD, bNot] using g3
      refine ⟨i+1, ⟨by omega, ?_⟩, by omega, ?_⟩
      · rw [take_succ' h5]; intro y hy
        rcases List.mem_append.1 hy with hy | hy
        · exact ha y hy
        · simp at hy; subst hy; simpa using e
      (cbv; repeat' apply And.intro); all_goals (try (first | trivial | rfl | (rw [X.a]; rfl)))
  have h5 : i = n_c2 := by obtain rfl := X.a; simp only [hlen_c2, SD, bNot] at h1; omega
  subst h5
  rw [hn_c2, List.take_length] at ha
  have hz : (x.values.find? fun y => y.name == c) = none := by rw [List.find?_eq_none]; intro y hy; simp [ha y hy]
  cbv
  refine h _ _ _ _ _ _ _ _ ?_ ?_
  · rw [hz]; exact ⟨rfl, rfl, rfl, rfl, rfl, rfl, rfl⟩
  · rw [hz]; rfl

set_option maxRecDepth 100000 in
set_option maxHeartbeats 1000000 in
theorem F40 {x : IF} {s c : S} {c0 : S} {c1 c2 c3 c4 : D} {K : PV → List Ob → Prop} (hx : ifIs x c0 c1 c2 c3 c4) (hl : x.aliases.length ≤ 4294967295) (hs : c = s)
    (h : ∀ e0 e1 e2 b, aeIs ((x.aliases.find? fun y => y.name == s).getD AE.zero) e0 e1 e2 → b = (x.aliases.find? fun y => y.name == s).isSome → K (.tup [aePV e0 e1 e2, .bool b]) []) :
    FC Tryz.prog tt 40 [] [ifPV c0 c1 c2 c3 c4, .str c] K := by
  subst hs
  obtain ⟨a0, a1, a2, a3, a4⟩ := hx
  refine FC.enter (G := g40) tt_ok mixed ⟨Tryz.func40, by rfl, rfl⟩ rfl rfl rfl ?_
  intro A C L X
  obtain ⟨n_c3, hn_c3⟩ : ∃ n, n = (x.aliases).length := ⟨_, rfl⟩
  have hlen_c3 : Std.len c3 = Int.ofNat n_c3 := by rw [a3, Std_len, hn_c3]; rfl
  cbv
  refine X.loop (fun (i : Nat) => ⟨[(6, .int .i64 i), (2, .box 0 0), (1, .str c), (4, .box 1 0)], [.box [.str c0, .lst 58 c1, .lst 76 c2, .lst 72 c3, .lst 87 c4], .box [.undef, .undef, .undef]]⟩) (fun i => i ≤ n_c3 ∧ ∀ y ∈ x.aliases.take i, (y.name == c) = false) (fun i => n_c3 - i) 0 ⟨Nat.zero_le _, by simp⟩ ?_ ?_
  · (cbv; repeat' apply And.intro); all_goals (try (first | trivial | rfl | (rw [X.a]; rfl)))
  rintro i ⟨hi, ha⟩
  cbv
  refine ⟨fun h1 => ?_, fun h1 => ?_⟩
  · have h5 : i < x.aliases.length := by obtain rfl := X.a; simp only [hlen_c3, SD, bNot] at h1; omega
    have k1 := aeIsAt X.a a3 h5
    have k0 := k1.1
    have hid : A.idx (Int.ofNat i) (A.len c3) := by rw [X.a, a3]; exact leaf_idx h5
    have hin : A.inr .i64 (A.add (Int.ofNat i) 1) := by rw [X.a]; exact leaf_inc h5 (by omega)
    cbv
    repeat' (first | apply And.intro | exact fun (_ : False → False) => by kernel_rfl | (intro h2; cbv) | apply Or.inl)
    any_goals exact hid
    any_goals exact hin
    · have e : x.aliases[i].name = c := by rw [← k0]; obtain rfl := X.a; simpa only [SD, bNot] using h2
      have hz : (x.aliases.find? fun y => y.name == c) = some x.aliases[i] := find_some' h5 (by simp [e]) ha
      refine h _ _ _ _ ?_ ?_
      · rw [hz]; exact k1
      · rw [hz]; rfl
    · have e : ¬ x.aliases[i].name = c := by rename_i g3; rw [← k0]; obtain rfl := X.a; simpa only [SD, bNot] using g3
      refine ⟨i+1, ⟨by omega, ?_⟩, by omega, ?_⟩
      · rw [take_succ' h5]; intro y hy
        rcases List.mem_append.1 hy with hy | hy
        · exact ha y hy
        · simp at hy; subst hy; simpa using e
      (cbv; repeat' apply And.intro); all_goals (try (first | trivial | rfl | (rw [X.a]; rfl)))
  have h5 : i = n_c3 := by obtain rfl := X.a; simp only [hlen_c3, SD, bNot] at h1; omega
  subst h5
  rw [hn_c3, List.take_length] at ha
  have hz : (x.aliases.find? fun y => y.name == c) = none := by rw [List.find?_eq_none]; intro y hy; simp [ha y hy]
  cbv
  refine h _ _ _ _ ?_ ?_
  · rw [hz]; exact ⟨rfl, rfl, rfl⟩
  · rw [hz]; rfl

set_option maxRecDepth 100000 in
set_option maxHeartbeats 1000000 in
theorem F13 {env : List IF} {d : D} {s c : S} {K : PV → List Ob → Prop} (hd : d = encL encIF env) (hl : env.length ≤ 4294967295) (hs : c = s)
    (h : ∀ e0 e1 e2 e3 e4 b, ifIs ((findI env s).getD IF.zero) e0 e1 e2 e3 e4 → b = (findI env s).isSome → K (.tup [ifPV e0 e1 e2 e3 e4, .bool b]) []) :
    FC Tryz.prog tt 13 [] [.lst 31 d, .str c] K := by
  subst hs
  refine FC.enter (G := g13) tt_ok mixed ⟨Tryz.func13, by rfl, rfl⟩ rfl rfl rfl ?_
  intro A C L X
  obtain ⟨n_d, hn_d⟩ : ∃ n, n = (env).length := ⟨_, rfl⟩
  have hlen_d : Std.len d = Int.ofNat n_d := by rw [hd, Std_len, hn_d]; rfl
  cbv
  refine X.loop (fun (i : Nat) => ⟨[(6, .int .i64 i), (0, .lst 31 d), (1, .str c), (4, .box 0 0)], [.box [.undef, .undef, .undef, .undef, .undef]]⟩) (fun i => i ≤ n_d ∧ ∀ y ∈ env.take i, (y.path == c) = false) (fun i => n_d - i) 0 ⟨Nat.zero_le _, by simp⟩ ?_ ?_
  · (cbv; repeat' apply And.intro); all_goals (try (first | trivial | rfl | (rw [X.a]; rfl)))
  rintro i ⟨hi, ha⟩
  cbv
  refine ⟨fun h1 => ?_, fun h1 => ?_⟩
  · have h5 : i < env.length := by obtain rfl := X.a; simp only [hlen_d, SD, bNot] at h1; omega
    have k1 := ifIsAt X.a hd h5
    have k0 := k1.1
    have hid : A.idx (Int.ofNat i) (A.len d) := by rw [X.a, hd]; exact leaf_idx h5
    have hin : A.inr .i64 (A.add (Int.ofNat i) 1) := by rw [X.a]; exact leaf_inc h5 (by omega)
    cbv
    repeat' (first | apply And.intro | exact fun (_ : False → False) => by kernel_rfl | (intro h2; cbv) | apply Or.inl)
    any_goals exact hid
    any_goals exact hin
    · have e : env[i].path = c := by rw [← k0]; obtain rfl := X.a; simpa only [SD, bNot] using h2
      have hz : findI env c = some env[i] := find_some' h5 (by simp [e]) ha
      refine h _ _ _ _ _ _ ?_ ?_
      · rw [hz]; exact k1
      · rw [hz]; rfl
    · have e : ¬ env[i].path = c := by rename_i g3; rw [← k0]; obtain rfl := X.a; simpa only [SD, bNot] using g3
      refine ⟨i+1, ⟨by omega, ?_⟩, by omega, ?_⟩
      · rw [take_succ' h5]; intro y hy
        rcases List.mem_append.1 hy with hy | hy
        · exact ha y hy
        · simp at hy; subst hy; simpa using e
      (cbv; repeat' apply And.intro); all_goals (try (first | trivial | rfl | (rw [X.a]; rfl)))
  have h5 : i = n_d := by obtain rfl := X.a; simp only [hlen_d, SD, bNot] at h1; omega
  subst h5
  rw [hn_d, List.take_length] at ha
  have hz : findI env c = none := by rw [findI, List.find?_eq_none]; intro y hy; simp [ha y hy]
  cbv
  refine h _ _ _ _ _ _ ?_ ?_
  · rw [hz]; exact ⟨rfl, rfl, rfl, rfl, rfl⟩
  · rw [hz]; rfl

set_option maxRecDepth 100000 in
set_option maxHeartbeats 1000000 in
theorem F60 {l : List Pm} {d : D} {K : PV → List Ob → Prop} (hd : d = encL encPm l) (hl : l.length ≤ 4294967295)
    (h : ∀ r, r = encL encS (l.map (·.name)) → K (.lst 9 r) []) : FC Tryz.prog tt 60 [] [.lst 62 d] K := by
  refine FC.enter (G := g60) tt_ok mixed ⟨Tryz.func60, by rfl, rfl⟩ rfl rfl rfl ?_
  intro A C L X
  obtain ⟨n_d, hn_d⟩ : ∃ n, n = (l).length := ⟨_, rfl⟩
  have hlen_d : Std.len d = Int.ofNat n_d := by rw [hd, Std_len, hn_d]; rfl
  cbv
  refine X.loopP (fun (y : Nat × D) => ⟨[(4, .int .i64 y.1), (3, .row 9 0), (0, .lst 62 d)], [.row 9 y.2 true]⟩)
    (fun y => y.1 ≤ n_d ∧ y.2 = encL encS ((l.take y.1).map (·.name))) (fun y => n_d - y.1) (0, A.lit []) ⟨Nat.zero_le _, by rw [X.a]; rfl⟩ ?_ ?_
  · refine ⟨[0], rfl, ?_⟩
    (cbv; repeat' apply And.intro); all_goals (try (first | trivial | rfl | (rw [X.a]; rfl)))
  rintro ⟨i, r⟩ ⟨hi, hr⟩
  simp only at hi hr
  cbv
  refine ⟨fun h1 => ?_, fun h1 => ?_⟩
  · have h5 : i < l.length := by obtain rfl := X.a; simp only [hlen_d, SD, bNot] at h1; omega
    have k1 := (pmAt X.a hd h5).1
    have hid : A.idx (Int.ofNat i) (A.len d) := by rw [X.a, hd]; exact leaf_idx h5
    have hin : A.inr .i64 (A.add (Int.ofNat i) 1) := by rw [X.a]; exact leaf_inc h5 (by omega)
    have hb : A.bnd (A.add (A.len r) (A.len (A.lit [[.str (A.asStr (A.cell d (Int.ofNat i) 0))]]))) 4294967296 := by
      rw [X.a, hr]; simp only [SD, bNot, List.length_map]; omega
    have q1 : A.app r (A.lit [[.str (A.asStr (A.cell d (Int.ofNat i) 0))]]) = encL encS ((l.take (i+1)).map (·.name)) := by
      rw [k1, X.a, hr, map_take h5]; exact Std_app (k := [l[i].name])
    cbv
    repeat' (first | apply And.intro | exact fun (_ : False → False) => by kernel_rfl | (intro h2; cbv) | apply Or.inl)
    any_goals exact hid
    any_goals exact hb
    any_goals exact hin
    refine ⟨(i+1, _), ⟨?_, q1⟩, ?_, [0], rfl, ?_⟩
    · simp only; omega
    · simp only; omega
    (cbv; repeat' apply And.intro); all_goals (try (first | trivial | rfl | (rw [X.a]; rfl)))
  have h5 : i = n_d := by obtain rfl := X.a; simp only [hlen_d, SD, bNot] at h1; omega
  subst h5
  rw [hn_d, List.take_length] at hr
  cbv
  exact h r hr

set_option maxRecDepth 100000 in
set_option maxHeartbeats 1000000 in
theorem F45 {l m : List Pm} {d1 d2 : D} {K : PV → List Ob → Prop} (hd1 : d1 = encL encPm l) (hd2 : d2 = encL encPm m) (hl : l.length ≤ 4294967295) (hok : ∀ p ∈ l, p.ok)
    (h : ∀ b, b = same l m → K (.bool b) []) : FC Tryz.prog tt 45 [] [.lst 62 d1, .lst 62 d2] K := by
  refine FC.enter (G := g45) tt_ok mixed ⟨Tryz.func45, by rfl, rfl⟩ rfl rfl rfl ?_
  intro A C L X
  obtain ⟨n_d1, hn_d1⟩ : ∃ n, n = (l).length := ⟨_, rfl⟩
  have hlen_d1 : Std.len d1 = Int.ofNat n_d1 := by rw [hd1, Std_len, hn_d1]; rfl
  obtain ⟨n_d2, hn_d2⟩ : ∃ n, n = (m).length := ⟨_, rfl⟩
  have hlen_d2 : Std.len d2 = Int.ofNat n_d2 := by rw [hd2, Std_len, hn_d2]; rfl
  cbv
  repeat' (first | apply And.intro | exact fun (_ : False → False) => by kernel_rfl | (intro h2; cbv) | apply Or.inl)
  · refine h _ ?_
    refine (same_len ?_).symm
    obtain rfl := X.a; simp only [hlen_d1, hlen_d2, SD, bNot] at h2; omega
  have hml : m.length = n_d1 := by obtain rfl := X.a; simp only [hlen_d1, hlen_d2, SD, bNot] at h2; omega
  clear h2
  refine X.loop (fun (i : Nat) => ⟨[(5, .int .i64 i), (0, .lst 62 d1), (1, .lst 62 d2)], []⟩) (fun i => i ≤ n_d1 ∧ l.take i = m.take i) (fun i => n_d1 - i) 0 ⟨Nat.zero_le _, by simp⟩ ?_ ?_
  · (cbv; repeat' apply And.intro); all_goals (try (first | trivial | rfl | (rw [X.a]; rfl)))
  rintro i ⟨hi, ha⟩
  cbv
  refine ⟨fun h1 => ?_, fun h1 => ?_⟩
  · have h5 : i < l.length := by obtain rfl := X.a; simp only [hlen_d1, SD, bNot] at h1; omega
    have h6 : i < m.length := by omega
    obtain ⟨k10, k11, k12⟩ := pmIsAt X.a hd1 h5
    obtain ⟨k20, k21, k22⟩ := pmIsAt X.a hd2 h6
    have hid : A.idx (Int.ofNat i) (A.len d1) := by rw [X.a, hd1]; exact leaf_idx h5
    have hie : A.idx (Int.ofNat i) (A.len d2) := by rw [X.a, hd2]; exact leaf_idx h6
    have hin : A.inr .i64 (A.add (Int.ofNat i) 1) := by rw [X.a]; exact leaf_inc h5 (by omega)
    have hne : same l[i] m[i] = false → same l m = false := fun e => same_get h5 h6 fun e2 => by rw [e2, same_self] at e; cases e
    have hs := same_pm (x := l[i]) (y := m[i])
    rw [← k10, ← k20, ← k11, ← k21] at hs
    clear h1
    cbv
    repeat' (first | apply And.intro | exact fun (_ : False → False) => by kernel_rfl | (intro h2; cbv) | apply Or.inl | (refine X.call (F25 _ (hok _ (List.getElem_mem h5)) k12 k22 fun b hb => ?_); cbv))
    any_goals exact hid
    any_goals exact hie
    any_goals exact hin
    · (refine h _ (hne ?_).symm; rw [hs]; clear ha hs hne hd1 hd2 k10 k11 k20 k21; obtain rfl := X.a; (try subst hb); simp only [SD, bNot] at *; simp [*])
    · have e : l[i] = m[i] := by
        refine same_iff.1 ?_
        rw [hs]; clear ha hs hne hd1 hd2 k10 k11 k20 k21; obtain rfl := X.a; subst hb; simp only [SD, bNot] at *; simp [*]
      refine ⟨i+1, ⟨by omega, by rw [take_succ' h5, take_succ' h6, ha, e]⟩, by omega, ?_⟩
      (cbv; repeat' apply And.intro); all_goals (try (first | trivial | rfl | (rw [X.a]; rfl)))
    · (refine h _ (hne ?_).symm; rw [hs]; clear ha hs hne hd1 hd2 k10 k11 k20 k21; obtain rfl := X.a; (try subst hb); simp only [SD, bNot] at *; simp [*])
    · (refine h _ (hne ?_).symm; rw [hs]; clear ha hs hne hd1 hd2 k10 k11 k20 k21; obtain rfl := X.a; (try subst hb); simp only [SD, bNot] at *; simp [*])
  · have h5 : i = n_d1 := by obtain rfl := X.a; simp only [hlen_d1, SD, bNot] at h1; omega
    subst h5
    have e := take_full (l := l) (m := m) (by omega) (by rw [← hn_d1]; exact ha)
    cbv
    refine h _ ?_
    rw [e, same_self]
end Go.VC.T07
end

section
/- The reference's Closure. -/
set_option linter.unusedSimpArgs false
set_option linter.unusedVariables false
namespace Go.VC.T07
open Go Go.VC Go.Proofs
theorem F64c {l : List S} {s c : S} {d : D} {K : PV → List Ob → Prop} (hs : c = s) (hd : d = encL encS l) (hl : l.length ≤ 4294967290) (h : ∀ b, b = decide (s ∈ l) → K (.bool b) []) :
    FC Tryz.prog tt 64 [] [.lst 9 d, .str c] K := by
  subst hs; exact F64 hd hl h
def g27a : Cfg := {tt := tt, n := 97, own := [16, 56, 57]}
set_option maxRecDepth 100000 in
set_option maxHeartbeats 4000000 in
theorem F27 {env : List IF} {d : D} {p : S} {K : PV → List Ob → Prop} (hd : d = encL encIF env) (hl : envOk env) (hw : (env.map IF.wt).sum ≤ 4294967280)
    (h : ∀ r e, (r, e) = closureR env p → K (.tup [.lst 31 (encL encIF r), .int .i64 e]) []) :
    FC Tryz.prog tt 27 [] [.lst 31 d, .str p] K := by
  have hn := hl.1
  have hnw : env.length ≤ (env.map IF.wt).sum := by
    have : ∀ l : List IF, l.length ≤ (l.map IF.wt).sum := by
      intro l
      induction l with
      | nil => simp
      | cons x l ih => simp only [List.length_cons, List.map_cons, List.sum_cons]; have : 1 ≤ x.wt := by unfold IF.wt; omega
                       omega
    exact this env
  refine FC.enter (G := g27a) tt_ok mixed ⟨Tryz.func27, by rfl, rfl⟩ rfl rfl rfl ?_
  intro A C L X
  obtain ⟨n_d, hn_d⟩ : ∃ n, n = (env).length := ⟨_, rfl⟩
  have hlen_d : Std.len d = Int.ofNat n_d := by rw [hd, Std_len, hn_d]; rfl
  have t0 : A.lit [[.str p]] = encL encS [p] := by rw [X.a]; rfl
  cbv
  refine X.loopP (fun (y : (Nat × List S) × D × Bool) => ⟨[(7, .int .i64 y.1.1), (6, .row 9 0), (0, .lst 31 d)], [.row 9 y.2.1 y.2.2]⟩)
    (fun y => Bfs env p y.1.2 y.1.1 ∧ y.2.1 = encL encS y.1.2) (fun y => env.length + 2 - y.1.1) ((0, [p]), _, true) ⟨Bfs.init _ _, t0⟩ ?_ ?_
  · refine ⟨[0], rfl, ?_⟩
    (cbv; repeat' apply And.intro); all_goals (try (first | trivial | rfl | (rw [X.a]; rfl)))
  rintro ⟨⟨k, t⟩, dt, fl⟩ ⟨hb, hdt⟩
  simp only at hb hdt
  obtain ⟨n_dt, hn_dt⟩ : ∃ n, n = (t).length := ⟨_, rfl⟩
  have hlen_dt : Std.len dt = Int.ofNat n_dt := by rw [hdt, Std_len, hn_dt]; rfl
  have hb2 := hb.tlen
  cbv
  refine ⟨fun h1 => ?_, fun h1 => ?_⟩
  · have h6 : k < t.length := by obtain rfl := X.a; simp only [hlen_dt, SD, bNot] at h1; omega
    have k1 := strAt X.a hdt h6
    have hid : A.idx (Int.ofNat k) (A.len dt) := by rw [X.a, hdt]; exact leaf_idx h6
    have hin : A.inr .i64 (A.add (Int.ofNat k) 1) := by rw [X.a]; exact leaf_inc h6 (by omega)
    cbv
    repeat' (first | apply And.intro | exact fun (_ : False → False) => by kernel_rfl | (intro h2; cbv) | apply Or.inl)
    any_goals exact hid
    refine X.call (F13 hd (by omega) k1 fun e0 e1 e2 e3 e4 b hx hbs => ?_)
    cases hf : findI env t[k] with
    | none =>
      rw [hf] at hbs
      obtain rfl : b = false := hbs
      have q := h [] 6 (by unfold closureR; rw [hb.fail h6 hf])
      cbv
      repeat' (first | apply And.intro | exact fun (_ : False → False) => by kernel_rfl | (intro h2; cbv) | apply Or.inl)
      · exact q
      · obtain rfl := X.a; cases h2
    | some i =>
      rw [hf] at hbs hx
      simp only [Option.getD_some] at hx
      obtain rfl : b = true := hbs
      have hie : i ∈ env := find_mem' hf
      have hok := hl.2 _ hie
      have hiw : i.wt ≤ (env.map IF.wt).sum := wt_mem hie
      have hnx := hb.next h6 hf
      have hnl := hnx.tlen
      have hml := mentO_len i
      cbv
      repeat' (first | apply And.intro | exact fun (_ : False → False) => by kernel_rfl | (intro h2; cbv) | apply Or.inl)
      · obtain rfl := X.a; cases h2
      refine X.call (F21 hx hok (by omega) fun r hr => ?_)
      obtain ⟨n_r, hn_r⟩ : ∃ n, n = (mentO i).length := ⟨_, rfl⟩
      have hlen_r : Std.len r = Int.ofNat n_r := by rw [hr, Std_len, hn_r]; rfl
      cbv
      refine X.loopP (fun (y : Nat × D × Bool) => ⟨[(11, .int .i64 y.1), (10, .lst 9 r), (7, .int .i64 k), (6, .row 9 0), (0, .lst 31 d)], [.row 9 y.2.1 y.2.2]⟩)
        (fun y => y.1 ≤ n_r ∧ y.2.1 = encL encS (pushAll t ((mentO i).take y.1))) (fun y => n_r - y.1) (0, dt, fl) ⟨Nat.zero_le _, hdt⟩ ?_ ?_
      · refine ⟨[0], rfl, ?_⟩
        (cbv; repeat' apply And.intro); all_goals (try (first | trivial | rfl | (rw [X.a]; rfl)))
      rintro ⟨j, dt2, fl2⟩ ⟨hj, hdt2⟩
      simp only at hj hdt2
      obtain ⟨t2, ht2⟩ : ∃ t2, t2 = pushAll t ((mentO i).take j) := ⟨_, rfl⟩
      rw [← ht2] at hdt2
      have hl2 : t2.length ≤ (pushAll t (mentO i)).length := by rw [ht2]; exact push_take_len
      cbv
      refine ⟨fun h1 => ?_, fun h1 => ?_⟩
      · have h5 : j < (mentO i).length := by obtain rfl := X.a; simp only [hlen_r, SD, bNot] at h1; omega
        have k2 := strAt X.a hr h5
        have hid : A.idx (Int.ofNat j) (A.len r) := by rw [X.a, hr]; exact leaf_idx h5
        have hin2 : A.inr .i64 (A.add (Int.ofNat j) 1) := by rw [X.a]; exact leaf_inc h5 (by omega)
        have hpt := push_take (t := t) h5
        rw [← ht2] at hpt
        have hb3 : A.bnd (A.add (A.len dt2) (A.len (A.lit [[.str (A.asStr (A.cell r (Int.ofNat j) 0))]]))) 4294967296 := by
          rw [X.a, hdt2, Std_len, Std_len_lit]; exact ⟨by rw [Std_add]; omega, by rw [Std_add]; simp only [List.length_cons, List.length_nil]; omega⟩
        have happ : A.app dt2 (A.lit [[.str (A.asStr (A.cell r (Int.ofNat j) 0))]]) = encL encS (t2 ++ [(mentO i)[j]]) := by
          rw [k2, X.a, hdt2]; exact Std_app (k := [(mentO i)[j]])
        cbv
        repeat' (first | apply And.intro | exact fun (_ : False → False) => by kernel_rfl | (intro h2; cbv) | apply Or.inl)
        any_goals exact hid
        refine X.call (F64c k2 hdt2 (by omega) fun b hb => ?_)
        have hb9 : b = decide ((mentO i)[j] ∈ t2) := hb
        clear hb
        cbv
        repeat' (first | apply And.intro | exact fun (_ : False → False) => by kernel_rfl | (intro h2; cbv) | apply Or.inl)
        any_goals exact hid
        any_goals exact hin2
        any_goals exact hb3
        · rename_i g1
          have e : (mentO i)[j] ∉ t2 := by
            rw [hb9] at g1; obtain rfl := X.a; simpa only [SD, bNot] using g1
          have hp : pushAll t ((mentO i).take (j+1)) = t2 ++ [(mentO i)[j]] := by rw [hpt]; unfold pushS; rw [if_neg e]
          rw [← hp] at happ
          have hj3 : j + 1 ≤ n_r := by omega
          have hj4 : n_r - (j + 1) < n_r - j := by omega
          refine ⟨(j+1, _, fl2), ⟨hj3, happ⟩, hj4, [0], rfl, ?_⟩
          (cbv; repeat' apply And.intro); all_goals (try (first | trivial | rfl | (rw [X.a]; rfl)))
        · rename_i g1
          have e : (mentO i)[j] ∈ t2 := by
            rw [hb9] at g1; obtain rfl := X.a; simpa only [SD, bNot, Decidable.not_not] using g1
          have hp : pushAll t ((mentO i).take (j+1)) = t2 := by rw [hpt]; unfold pushS; rw [if_pos e]
          rw [← hp] at hdt2
          have hj3 : j + 1 ≤ n_r := by omega
          have hj4 : n_r - (j + 1) < n_r - j := by omega
          refine ⟨(j+1, _, fl2), ⟨hj3, hdt2⟩, hj4, [0], rfl, ?_⟩
          (cbv; repeat' apply And.intro); all_goals (try (first | trivial | rfl | (rw [X.a]; rfl)))
      · have h5 : j = n_r := by obtain rfl := X.a; simp only [hlen_r, SD, bNot] at h1; omega
        subst h5
        rw [hn_r, List.take_length] at ht2
        subst ht2
        cbv
        repeat' (first | apply And.intro | exact fun (_ : False → False) => by kernel_rfl | (intro h2; cbv) | apply Or.inl)
        any_goals exact hin
        refine ⟨((k+1, pushAll t (mentO i)), dt2, fl2), ⟨hnx, hdt2⟩, ?_, [0], rfl, ?_⟩
        · have := hb.klen; simp only; omega
        (cbv; repeat' apply And.intro); all_goals (try (first | trivial | rfl | (rw [X.a]; rfl)))
  have h5 : k = t.length := by have := hb.hk; obtain rfl := X.a; simp only [hlen_dt, SD, bNot] at h1; omega
  have hcl := hb.done h5
  have q := h (pickE t env) 0 (by unfold closureR; rw [hcl])
  clear h1
  cbv
  refine X.loopP (fun (y : Nat × D × D) => ⟨[(14, .int .i64 y.1), (6, .row 9 0), (12, .row 31 1), (13, .row 9 2), (0, .lst 31 d)], [.row 9 dt fl, .row 31 y.2.1 true, .row 9 y.2.2 true]⟩)
    (fun y => y.1 ≤ n_d ∧ y.2.1 = encL encIF (pickE t (env.take y.1)) ∧ y.2.2 = encL encS ((pickE t (env.take y.1)).map (·.path))) (fun y => n_d - y.1) (0, A.lit [], A.lit []) ⟨Nat.zero_le _, by rw [X.a]; rfl, by rw [X.a]; rfl⟩ ?_ ?_
  · refine ⟨[0, 1, 2], rfl, ?_⟩
    (cbv; repeat' apply And.intro); all_goals (try (first | trivial | rfl | (rw [X.a]; rfl)))
  rintro ⟨i, do1, dn⟩ ⟨hi, ho1, hdn⟩
  simp only at hi ho1 hdn
  cbv
  refine ⟨fun h1 => ?_, fun h1 => ?_⟩
  · have h6 : i < env.length := by obtain rfl := X.a; simp only [hlen_d, SD, bNot] at h1; omega
    have k1 := ifIsAt X.a hd h6
    have hid : A.idx (Int.ofNat i) (A.len d) := by rw [X.a, hd]; exact leaf_idx h6
    have hin : A.inr .i64 (A.add (Int.ofNat i) 1) := by rw [X.a]; exact leaf_inc h6 (by omega)
    have hft := pick_take (L := t) h6
    have hfl : (pickE t (env.take i)).length ≤ i := Nat.le_trans pick_len (by simp; omega)
    obtain ⟨po, hpo⟩ : ∃ po, po = pickE t (env.take i) := ⟨_, rfl⟩
    rw [← hpo] at ho1 hdn hft hfl
    cbv
    repeat' (first | apply And.intro | exact fun (_ : False → False) => by kernel_rfl | (intro h2; cbv) | apply Or.inl)
    any_goals exact hid
    refine X.call (F64c k1.1 hdt (by omega) fun v1 hb1 => ?_)
    have hb1' : v1 = decide (env[i].path ∈ t) := hb1
    clear hb1
    have b1 : A.bnd (A.add (A.len do1) (A.len (A.lit [[.str (A.asStr (A.cell d (Int.ofNat i) 0)), A.cell d (Int.ofNat i) 1, A.cell d (Int.ofNat i) 2, A.cell d (Int.ofNat i) 3, A.cell d (Int.ofNat i) 4]]))) 4294967296 := by
      rw [X.a, ho1, Std_len, Std_len_lit]; exact ⟨by rw [Std_add]; omega, by rw [Std_add]; simp only [List.length_cons, List.length_nil]; omega⟩
    have b2 : A.bnd (A.add (A.len dn) (A.len (A.lit [[.str (A.asStr (A.cell d (Int.ofNat i) 0))]]))) 4294967296 := by
      rw [X.a, hdn, Std_len, Std_len_lit, List.length_map]; exact ⟨by rw [Std_add]; omega, by rw [Std_add]; simp only [List.length_cons, List.length_nil]; omega⟩
    have q1 : A.app do1 (A.lit [[.str (A.asStr (A.cell d (Int.ofNat i) 0)), A.cell d (Int.ofNat i) 1, A.cell d (Int.ofNat i) 2, A.cell d (Int.ofNat i) 3, A.cell d (Int.ofNat i) 4]]) = encL encIF (po ++ [env[i]]) := by
      obtain ⟨a0, a1, a2, a3, a4⟩ := k1
      rw [a0, a1, a2, a3, a4, X.a, ho1]
      exact Std_app (k := [env[i]])
    have q2 : A.app dn (A.lit [[.str (A.asStr (A.cell d (Int.ofNat i) 0))]]) = encL encS ((po ++ [env[i]]).map (·.path)) := by
      rw [k1.1, X.a, hdn, List.map_append]
      exact Std_app (k := [env[i].path])
    cbv
    repeat' (first | apply And.intro | exact fun (_ : False → False) => by kernel_rfl | (intro h2; cbv) | apply Or.inl)
    any_goals exact hid
    any_goals exact hin
    · have g1 : env[i].path ∈ t := by have := hb1'.symm.trans h2; simpa using this
      refine X.call (F64c k1.1 hdn (by rw [List.length_map]; omega) fun v2 hb2 => ?_)
      have hb2' : v2 = decide (env[i].path ∈ po.map (·.path)) := hb2
      clear hb2
      cbv
      repeat' (first | apply And.intro | exact fun (_ : False → False) => by kernel_rfl | (intro h2; cbv) | apply Or.inl)
      any_goals exact hid
      any_goals exact hin
      any_goals exact b1
      any_goals exact b2
      · rename_i g2
        have e : env[i].path ∉ po.map (·.path) := by rw [hb2'] at g2; obtain rfl := X.a; simpa only [SD, bNot] using g2
        have e5 : pickE t (env.take (i+1)) = po ++ [env[i]] := by rw [hft]; unfold pickStep; rw [if_pos ⟨g1, e⟩]
        rw [← e5] at q1 q2
        have hj3 : i + 1 ≤ n_d := by omega
        have hj4 : n_d - (i + 1) < n_d - i := by omega
        refine ⟨(i+1, _, _), ⟨hj3, q1, q2⟩, hj4, [0, 1, 2], rfl, ?_⟩
        (cbv; repeat' apply And.intro); all_goals (try (first | trivial | rfl | (rw [X.a]; rfl)))
      · rename_i g2
        have e : env[i].path ∈ po.map (·.path) := by rw [hb2'] at g2; obtain rfl := X.a; simpa only [SD, bNot, Decidable.not_not] using g2
        have e5 : pickE t (env.take (i+1)) = po := by rw [hft]; unfold pickStep; rw [if_neg (fun h => h.2 e)]
        rw [← e5] at ho1 hdn
        have hj3 : i + 1 ≤ n_d := by omega
        have hj4 : n_d - (i + 1) < n_d - i := by omega
        refine ⟨(i+1, _, _), ⟨hj3, ho1, hdn⟩, hj4, [0, 1, 2], rfl, ?_⟩
        (cbv; repeat' apply And.intro); all_goals (try (first | trivial | rfl | (rw [X.a]; rfl)))
    all_goals first
      | (rename_i g2
         have e : ¬ env[i].path ∈ t := by have := hb1'.symm.trans g2; simpa [bNot] using this
         have e5 : pickE t (env.take (i+1)) = po := by rw [hft]; unfold pickStep; rw [if_neg (fun h => e h.1)]
         rw [← e5] at ho1 hdn
         have hj3 : i + 1 ≤ n_d := by omega
         have hj4 : n_d - (i + 1) < n_d - i := by omega
         refine ⟨(i+1, _, _), ⟨hj3, ho1, hdn⟩, hj4, [0, 1, 2], rfl, ?_⟩
         (cbv; repeat' apply And.intro); all_goals (try (first | trivial | rfl | (rw [X.a]; rfl))))
      | trace_state
  have h7 : i = n_d := by obtain rfl := X.a; simp only [hlen_d, SD, bNot] at h1; omega
  rw [h7, hn_d, List.take_length] at ho1
  rw [← ho1] at q
  cbv
  exact q
end Go.VC.T07
end
