/- Part 5 of the common texts: D6 D7 D8 Q1 Q2 Q3 Y0 Q4 P1 P2 Z1 Z2 P3 Q6. -/
import Derived.Test.YtkccmlagckaloaaGreatRows
import Derived.ProofKit
import Derived.OpenShut
import Derived.JoinedCond
import Derived.Test.YtkccmlagckaloaaGreatPart1
import Derived.Test.YtkccmlagckaloaaGreatPart2
import Derived.Test.YtkccmlagckaloaaGreatPart3
import Derived.Test.YtkccmlagckaloaaGreatPart4
set_option linter.all false

section
set_option linter.unusedSimpArgs false
set_option linter.unusedVariables false
namespace Go.VC.T35
open Go Go.VC Go.Proofs

set_option maxRecDepth 100000 in
set_option maxHeartbeats 2000000 in
theorem F18 {a b : List Term} {path : List UInt8} {d e : D} {K : PV → List Ob → Prop} (hd : d = encL encT a) (he : e = encL encT b) (ha : a.length ≤ 400) (hb : b.length ≤ 400) (has : ∀ t ∈ a, t.set.length ≤ 2000000) (hbs : ∀ t ∈ b, t.set.length ≤ 2000000)
    (h : ∀ r x, r = encL encT (resolveT a b path).1 → x = (resolveT a b path).2 → K (.tup [.lst 51 r, .int .i64 x]) []) : FC Tryz.prog tt 18 [] [.lst 51 d, .lst 51 e, .str path] K := by
  refine FC.enter (G := g18) tt_ok mixed ⟨Tryz.func18, by rfl, rfl⟩ rfl rfl rfl ?_
  intro A C L X
  have hdef : resolveT a b path = resolveX (canonT a).1 (canonT b).1 (canonT a).2 (canonT b).2 path := rfl
  have hl1 := canonT_len (l := a)
  have hl2 := canonT_len (l := b)
  have hc1 := canonT_can (l := a)
  have hc2 := canonT_can (l := b)
  obtain ⟨x, hx⟩ : ∃ x, x = (canonT a).1 := ⟨_, rfl⟩
  obtain ⟨y, hy⟩ : ∃ y, y = (canonT b).1 := ⟨_, rfl⟩
  obtain ⟨b1, hb1⟩ : ∃ b1, b1 = (canonT a).2 := ⟨_, rfl⟩
  obtain ⟨b2, hb2⟩ : ∃ b2, b2 = (canonT b).2 := ⟨_, rfl⟩
  rw [← hx] at hl1 hc1 hdef
  rw [← hy] at hl2 hc2 hdef
  rw [← hb1, ← hb2] at hdef
  cbv
  refine X.call (F46 hd (by omega) has (fun h1 => ?_) fun t1 e1 r1 hb1' ht1 he1 hr1 => ?_)
  · rw [← hx, ← hb1] at h1
    have hres : resolveT a b path = ([], 1) := by rw [hdef]; exact h1.elim rX1 rX3
    cbv
    refine X.call (F46 he (by omega) hbs (fun h2 => ?_) fun t2 e2 r2 hb2' ht2 he2 hr2 => ?_)
    all_goals
      cbv
      repeat' (first | apply And.intro | exact fun (_ : False → False) => by kernel_rfl | (intro h2; cbv) | apply Or.inl)
    all_goals try (exfalso; obtain rfl := X.a; simp only [Std_t0, Std_t1, Std_x0, Std_x1, Std_len, Std_lt, Std_le, Std_eq, Std_add, Std_sub, Std_mul, Std_not, Std_ite, Std_str, Std_bool, Std_int, Std_slen, Std_seq, Std_slt', Std_beq, Std_idx, Std_bnd, Std_same, Std_max', Std_min', Std_partI, Std_app, Std_len_app, Std_len_lit, Std_len_setc, List.length_take, List.length_drop, List.length_append, List.length_cons, List.length_nil, Int.toNat_natCast, Std_inr64, bNot, Int.ofNat_eq_natCast, Int.natCast_zero, decide_eq_true_eq, decide_eq_false_iff_not, Bool.not_eq_true, Bool.not_eq_false, Bool.not_eq_eq_eq_not, Bool.not_true, Bool.not_false, beq_iff_eq, beq_eq_false_iff_ne, ne_eq, Bool.true_eq_false, Bool.false_eq_true, cond_true, cond_false] at *; done)
    all_goals exact h _ _ (by rw [hres]; rfl) (by rw [hres])
  · rw [← hx] at ht1 hr1
    rw [← hb1] at hb1'
    cbv
    refine X.call (F46 he (by omega) hbs (fun h2 => ?_) fun t2 e2 r2 hb2' ht2 he2 hr2 => ?_)
    · rw [← hy, ← hb2] at h2
      have hres : resolveT a b path = ([], 1) := by rw [hdef]; exact h2.elim rX2 rX4
      cbv
      repeat' (first | apply And.intro | exact fun (_ : False → False) => by kernel_rfl | (intro h2; cbv) | apply Or.inl)
      all_goals try (exfalso; obtain rfl := X.a; simp only [Std_t0, Std_t1, Std_x0, Std_x1, Std_len, Std_lt, Std_le, Std_eq, Std_add, Std_sub, Std_mul, Std_not, Std_ite, Std_str, Std_bool, Std_int, Std_slen, Std_seq, Std_slt', Std_beq, Std_idx, Std_bnd, Std_same, Std_max', Std_min', Std_partI, Std_app, Std_len_app, Std_len_lit, Std_len_setc, List.length_take, List.length_drop, List.length_append, List.length_cons, List.length_nil, Int.toNat_natCast, Std_inr64, bNot, Int.ofNat_eq_natCast, Int.natCast_zero, decide_eq_true_eq, decide_eq_false_iff_not, Bool.not_eq_true, Bool.not_eq_false, Bool.not_eq_eq_eq_not, Bool.not_true, Bool.not_false, beq_iff_eq, beq_eq_false_iff_ne, ne_eq, Bool.true_eq_false, Bool.false_eq_true, cond_true, cond_false] at *; done)
      all_goals exact h _ _ (by rw [hres]; rfl) (by rw [hres])
    · rw [← hy] at ht2 hr2
      rw [← hb2] at hb2'
      have hd1 : t1.set.length ≤ 1000001 := (hc1 _ (findT'_mem ht1).1).length
      have hd2 : t2.set.length ≤ 1000001 := (hc2 _ (findT'_mem ht2).1).length
      have hwl1 := without_len (l := x) (p := path)
      have hwl2 := without_len (l := y) (p := path)
      have hdef2 : resolveT a b path = if (canonT (without x path ++ without y path ++ [eitherT path t1 t2])).2 = true then ((canonT (without x path ++ without y path ++ [eitherT path t1 t2])).1, 0) else ([], 8) := by
        rw [hdef, resolveX, if_pos ⟨hb1'.symm ▸ rfl, hb2'.symm ▸ rfl⟩, ht1, ht2]
      cbv
      repeat' (first | apply And.intro | exact fun (_ : False → False) => by kernel_rfl | (intro h2; cbv) | apply Or.inl)
      · exfalso; obtain rfl := X.a; simp only [Std_t0, Std_t1, Std_x0, Std_x1, Std_len, Std_lt, Std_le, Std_eq, Std_add, Std_sub, Std_mul, Std_not, Std_ite, Std_str, Std_bool, Std_int, Std_slen, Std_seq, Std_slt', Std_beq, Std_idx, Std_bnd, Std_same, Std_max', Std_min', Std_partI, Std_app, Std_len_app, Std_len_lit, Std_len_setc, List.length_take, List.length_drop, List.length_append, List.length_cons, List.length_nil, Int.toNat_natCast, Std_inr64, bNot, Int.ofNat_eq_natCast, Int.natCast_zero, decide_eq_true_eq, decide_eq_false_iff_not, Bool.not_eq_true, Bool.not_eq_false, Bool.not_eq_eq_eq_not, Bool.not_true, Bool.not_false, beq_iff_eq, beq_eq_false_iff_ne, ne_eq, Bool.true_eq_false, Bool.false_eq_true, cond_true, cond_false] at *; done
      · obtain rfl := X.a; subst hr1; subst hr2; simp only [Std_t0, Std_t1, Std_x0, Std_x1, Std_len, Std_lt, Std_le, Std_eq, Std_add, Std_sub, Std_mul, Std_not, Std_ite, Std_str, Std_bool, Std_int, Std_slen, Std_seq, Std_slt', Std_beq, Std_idx, Std_bnd, Std_same, Std_max', Std_min', Std_partI, Std_app, Std_len_app, Std_len_lit, Std_len_setc, List.length_take, List.length_drop, List.length_append, List.length_cons, List.length_nil, Int.toNat_natCast, Std_inr64, bNot, Int.ofNat_eq_natCast, Int.natCast_zero, decide_eq_true_eq, decide_eq_false_iff_not, Bool.not_eq_true, Bool.not_eq_false, Bool.not_eq_eq_eq_not, Bool.not_true, Bool.not_false, beq_iff_eq, beq_eq_false_iff_ne, ne_eq, Bool.true_eq_false, Bool.false_eq_true, cond_true, cond_false]; omega
      · refine X.call (F47 he1 he2 (by omega) (by omega) fun r3 b3 hr3 hb3 => ?_)
        cbv
        repeat' (first | apply And.intro | exact fun (_ : False → False) => by kernel_rfl | (intro h2; cbv) | apply Or.inl)
        all_goals first
          | (obtain rfl := X.a; subst hr1; subst hr2; simp only [Std_t0, Std_t1, Std_x0, Std_x1, Std_len, Std_lt, Std_le, Std_eq, Std_add, Std_sub, Std_mul, Std_not, Std_ite, Std_str, Std_bool, Std_int, Std_slen, Std_seq, Std_slt', Std_beq, Std_idx, Std_bnd, Std_same, Std_max', Std_min', Std_partI, Std_app, Std_len_app, Std_len_lit, Std_len_setc, List.length_take, List.length_drop, List.length_append, List.length_cons, List.length_nil, Int.toNat_natCast, Std_inr64, bNot, Int.ofNat_eq_natCast, Int.natCast_zero, decide_eq_true_eq, decide_eq_false_iff_not, Bool.not_eq_true, Bool.not_eq_false, Bool.not_eq_eq_eq_not, Bool.not_true, Bool.not_false, beq_iff_eq, beq_eq_false_iff_ne, ne_eq, Bool.true_eq_false, Bool.false_eq_true, cond_true, cond_false]; omega)
          | skip
        refine X.call (F34 (l := without x path ++ without y path ++ [eitherT path t1 t2]) ?_ (by simp; omega) ?_ fun r4 b4 hr4 hb4 => ?_)
        · rw [X.a]; exact Std_app' (Std_app' hr1 hr2) (lit1e (eitherT path t1 t2) (by rw [hr3, hb3]; rfl))
        · intro t ht
          simp only [List.mem_append, List.mem_singleton] at ht
          rcases ht with (ht | ht) | rfl
          · have := (hc1 _ (without_mem ht)).length; omega
          · have := (hc2 _ (without_mem ht)).length; omega
          · have := (can_union [t1.set, t2.set]).length; show (union [t1.set, t2.set]).length ≤ _; omega
        cbv
        repeat' (first | apply And.intro | exact fun (_ : False → False) => by kernel_rfl | (intro h2; cbv) | apply Or.inl)
        · have : b4 = false := by obtain rfl := X.a; simp only [Std_x0, Std_x1, Std_len, Std_lt, Std_le, Std_eq, Std_add, Std_sub, Std_mul, Std_not, Std_ite, Std_str, Std_bool, Std_int, Std_slen, Std_seq, Std_slt', Std_beq, Std_idx, Std_bnd, Std_same, Std_max', Std_min', Std_partI, Std_app, Std_len_app, Std_len_lit, Std_len_setc, List.length_take, List.length_drop, List.length_append, List.length_cons, List.length_nil, Int.toNat_natCast, Std_inr64, bNot, Int.ofNat_eq_natCast, Int.natCast_zero, decide_eq_true_eq, decide_eq_false_iff_not, Bool.not_eq_true, Bool.not_eq_false, Bool.not_eq_eq_eq_not, Bool.not_true, Bool.not_false, beq_iff_eq, beq_eq_false_iff_ne, ne_eq, Bool.true_eq_false, Bool.false_eq_true, cond_true, cond_false] at *; assumption
          rw [if_neg (by rw [← hb4, this]; simp)] at hdef2
          exact h _ _ (by rw [hdef2]; rfl) (by rw [hdef2])
        · have : b4 = true := by obtain rfl := X.a; simp only [Std_x0, Std_x1, Std_len, Std_lt, Std_le, Std_eq, Std_add, Std_sub, Std_mul, Std_not, Std_ite, Std_str, Std_bool, Std_int, Std_slen, Std_seq, Std_slt', Std_beq, Std_idx, Std_bnd, Std_same, Std_max', Std_min', Std_partI, Std_app, Std_len_app, Std_len_lit, Std_len_setc, List.length_take, List.length_drop, List.length_append, List.length_cons, List.length_nil, Int.toNat_natCast, Std_inr64, bNot, Int.ofNat_eq_natCast, Int.natCast_zero, decide_eq_true_eq, decide_eq_false_iff_not, Bool.not_eq_true, Bool.not_eq_false, Bool.not_eq_eq_eq_not, Bool.not_true, Bool.not_false, beq_iff_eq, beq_eq_false_iff_ne, ne_eq, Bool.true_eq_false, Bool.false_eq_true, cond_true, cond_false] at *; assumption
          rw [if_pos (by rw [← hb4, this])] at hdef2
          exact h _ _ (by rw [hdef2, hr4]) (by rw [hdef2])
      · exfalso; obtain rfl := X.a; simp only [Std_t0, Std_t1, Std_x0, Std_x1, Std_len, Std_lt, Std_le, Std_eq, Std_add, Std_sub, Std_mul, Std_not, Std_ite, Std_str, Std_bool, Std_int, Std_slen, Std_seq, Std_slt', Std_beq, Std_idx, Std_bnd, Std_same, Std_max', Std_min', Std_partI, Std_app, Std_len_app, Std_len_lit, Std_len_setc, List.length_take, List.length_drop, List.length_append, List.length_cons, List.length_nil, Int.toNat_natCast, Std_inr64, bNot, Int.ofNat_eq_natCast, Int.natCast_zero, decide_eq_true_eq, decide_eq_false_iff_not, Bool.not_eq_true, Bool.not_eq_false, Bool.not_eq_eq_eq_not, Bool.not_true, Bool.not_false, beq_iff_eq, beq_eq_false_iff_ne, ne_eq, Bool.true_eq_false, Bool.false_eq_true, cond_true, cond_false] at *; done
end Go.VC.T35
end

section
set_option linter.unusedSimpArgs false
set_option linter.unusedVariables false
namespace Go.VC.T35
open Go Go.VC Go.Proofs

set_option maxRecDepth 100000 in
set_option maxHeartbeats 2000000 in
theorem F20 {a b : List Term} {d e : D} {K : PV → List Ob → Prop} (hd : d = encL encT a) (he : e = encL encT b) (ha : a.length ≤ 400) (hb : b.length ≤ 400) (has : ∀ t ∈ a, t.set.length ≤ 2000000) (hbs : ∀ t ∈ b, t.set.length ≤ 2000000)
    (h : ∀ r, r = subsumesT a b → K (.bool r) []) : FC Tryz.prog tt 20 [] [.lst 51 d, .lst 51 e] K := by
  refine FC.enter (G := g20) tt_ok mixed ⟨Tryz.func20, by rfl, rfl⟩ rfl rfl rfl ?_
  intro A C L X
  cbv
  refine X.call (F34 hd (by omega) has fun r1 b1 hr1 hb1 => ?_)
  cbv
  refine X.call (F34 he (by omega) hbs fun r2 b2 hr2 hb2 => ?_)
  have hl1 := canonT_len (l := a)
  have hl2 := canonT_len (l := b)
  have hc1 := canonT_can (l := a)
  have hc2 := canonT_can (l := b)
  have hdef : subsumesT a b = subsumesX (canonT a).1 (canonT b).1 b1 b2 := by rw [hb1, hb2]; rfl
  obtain ⟨x, hx⟩ : ∃ x, x = (canonT a).1 := ⟨_, rfl⟩
  obtain ⟨y, hy⟩ : ∃ y, y = (canonT b).1 := ⟨_, rfl⟩
  rw [← hx] at hr1 hl1 hc1 hdef
  rw [← hy] at hr2 hl2 hc2 hdef
  cbv
  repeat' (first | apply And.intro | exact fun (_ : False → False) => by kernel_rfl | (intro h2; cbv) | apply Or.inl)
  · refine h _ ?_
    obtain rfl := X.a; simp only [Std_t0, Std_t1, Std_x0, Std_x1, Std_len, Std_lt, Std_le, Std_eq, Std_add, Std_sub, Std_mul, Std_not, Std_ite, Std_str, Std_bool, Std_int, Std_slen, Std_seq, Std_slt', Std_beq, Std_idx, Std_bnd, Std_same, Std_max', Std_min', Std_partI, Std_app, Std_len_app, Std_len_lit, Std_len_setc, List.length_take, List.length_drop, List.length_append, List.length_cons, List.length_nil, Int.toNat_natCast, Std_inr64, bNot, Int.ofNat_eq_natCast, Int.natCast_zero, decide_eq_true_eq, decide_eq_false_iff_not, Bool.not_eq_true, Bool.not_eq_false, Bool.not_eq_eq_eq_not, Bool.not_true, Bool.not_false, beq_iff_eq, beq_eq_false_iff_ne, ne_eq, Bool.true_eq_false, Bool.false_eq_true, cond_true, cond_false] at *
    rw [hdef]; simp only [subsumesX]; simp_all
  · have hb12 : b1 = true ∧ b2 = true := by obtain rfl := X.a; simp only [Std_t0, Std_t1, Std_x0, Std_x1, Std_len, Std_lt, Std_le, Std_eq, Std_add, Std_sub, Std_mul, Std_not, Std_ite, Std_str, Std_bool, Std_int, Std_slen, Std_seq, Std_slt', Std_beq, Std_idx, Std_bnd, Std_same, Std_max', Std_min', Std_partI, Std_app, Std_len_app, Std_len_lit, Std_len_setc, List.length_take, List.length_drop, List.length_append, List.length_cons, List.length_nil, Int.toNat_natCast, Std_inr64, bNot, Int.ofNat_eq_natCast, Int.natCast_zero, decide_eq_true_eq, decide_eq_false_iff_not, Bool.not_eq_true, Bool.not_eq_false, Bool.not_eq_eq_eq_not, Bool.not_true, Bool.not_false, beq_iff_eq, beq_eq_false_iff_ne, ne_eq, Bool.true_eq_false, Bool.false_eq_true, cond_true, cond_false] at *; exact ⟨by assumption, by assumption⟩
    have hdef2 : subsumesT a b = x.all (sub1 y) := by rw [hdef, subsumesX, if_pos ⟨hb12.2, hb12.1⟩]
    refine X.loop (fun (i : Nat) => ⟨[(30, .lst 51 r1), (31, .int .i64 (A.len r1)), (32, .int .i64 i), (4, .bl false), (5, .lst 51 r1), (7, .lst 51 r2)], []⟩) (fun i => i ≤ x.length ∧ ∀ t ∈ x.take i, sub1 y t = true) (fun i => x.length - i) 0 ⟨Nat.zero_le _, by simp⟩ ?_ ?_
    · (cbv; repeat' apply And.intro); all_goals (try (first | trivial | rfl | (rw [X.a]; rfl)))
    rintro i ⟨hi, ha'⟩
    cbv
    refine ⟨fun h1 => ?_, fun h1 => ?_⟩
    · have h5 : i < x.length := by obtain rfl := X.a; rw [hr1] at h1; simp only [Std_t0, Std_t1, Std_x0, Std_x1, Std_len, Std_lt, Std_le, Std_eq, Std_add, Std_sub, Std_mul, Std_not, Std_ite, Std_str, Std_bool, Std_int, Std_slen, Std_seq, Std_slt', Std_beq, Std_idx, Std_bnd, Std_same, Std_max', Std_min', Std_partI, Std_app, Std_len_app, Std_len_lit, Std_len_setc, List.length_take, List.length_drop, List.length_append, List.length_cons, List.length_nil, Int.toNat_natCast, Std_inr64, bNot, Int.ofNat_eq_natCast, Int.natCast_zero, decide_eq_true_eq, decide_eq_false_iff_not, Bool.not_eq_true, Bool.not_eq_false, Bool.not_eq_eq_eq_not, Bool.not_true, Bool.not_false, beq_iff_eq, beq_eq_false_iff_ne, ne_eq, Bool.true_eq_false, Bool.false_eq_true, cond_true, cond_false] at *; omega
      have e5 := encT_cell2 (l := x) (a := Int.ofNat i) i rfl h5
      have g5 : gt x (Int.ofNat i) = x[i] := gt_get i rfl h5
      have hst := (hc1 _ (List.getElem_mem h5)).length
      have hall : sub1 y x[i] = false → x.all (sub1 y) = false := fun hf => all_false h5 hf
      obtain ⟨t, ht⟩ : ∃ t, t = x[i] := ⟨_, rfl⟩
      have htk : ∀ u ∈ x.take (i+1), u ∈ x.take i ∨ u = t := by
        intro u hu
        rw [take_succ' h5] at hu
        rcases List.mem_append.1 hu with hu | hu
        · exact .inl hu
        · simp only [List.mem_singleton] at hu; exact .inr (by rw [hu, ht])
      rw [← ht] at e5 g5 hst hall
      have hnext : sub1 y t = true → ∀ u ∈ x.take (i+1), sub1 y u = true := by
        intro hs u hu
        rcases htk u hu with hu | rfl
        · exact ha' u hu
        · exact hs
      have hp : A.asStr (A.cell r1 (Int.ofNat i) 0) = t.path := by rw [X.a, hr1]; have := g5; rw [Std_t0, this]
      have hb' : A.asBool (A.cell r1 (Int.ofNat i) 1) = t.absent := by rw [X.a, hr1]; rw [Std_t1, g5]
      have hset : A.cell r1 (Int.ofNat i) 2 = encL encX t.set := by rw [X.a, hr1]; exact e5
      cbv
      refine ⟨?_, ?_⟩
      · obtain rfl := X.a; rw [hr1] at *; simp only [Std_t0, Std_t1, Std_x0, Std_x1, Std_len, Std_lt, Std_le, Std_eq, Std_add, Std_sub, Std_mul, Std_not, Std_ite, Std_str, Std_bool, Std_int, Std_slen, Std_seq, Std_slt', Std_beq, Std_idx, Std_bnd, Std_same, Std_max', Std_min', Std_partI, Std_app, Std_len_app, Std_len_lit, Std_len_setc, List.length_take, List.length_drop, List.length_append, List.length_cons, List.length_nil, Int.toNat_natCast, Std_inr64, bNot, Int.ofNat_eq_natCast, Int.natCast_zero, decide_eq_true_eq, decide_eq_false_iff_not, Bool.not_eq_true, Bool.not_eq_false, Bool.not_eq_eq_eq_not, Bool.not_true, Bool.not_false, beq_iff_eq, beq_eq_false_iff_ne, ne_eq, Bool.true_eq_false, Bool.false_eq_true, cond_true, cond_false] at *; omega
      refine X.call (F52x53 (q := A.asStr (A.cell r1 (Int.ofNat i) 0)) (p := fun u => u.path == t.path) hr2 (by omega) (fun x _ c0 c1 c2 e0 e1 e2 K' hK => F53 e0 fun b hb => hK b (by rw [hb, hp])) fun k hk => ?_)
      rcases idxF_cases (fun u : Term => u.path == t.path) y with ⟨hx, hno⟩ | ⟨j, hj, hx, hpk, hbk⟩
      · rw [hx] at hk
        subst hk
        have hn1 := findT'_none hno
        have hs : sub1 y t = false := by simp only [sub1, hn1]
        cbv
        repeat' (first | apply And.intro | exact fun (_ : False → False) => by kernel_rfl | (intro h2; cbv) | apply Or.inl)
        all_goals first
          | exact h _ (by rw [hdef2, hall hs])
          | (exfalso; obtain rfl := X.a; simp only [Std_t0, Std_t1, Std_x0, Std_x1, Std_len, Std_lt, Std_le, Std_eq, Std_add, Std_sub, Std_mul, Std_not, Std_ite, Std_str, Std_bool, Std_int, Std_slen, Std_seq, Std_slt', Std_beq, Std_idx, Std_bnd, Std_same, Std_max', Std_min', Std_partI, Std_app, Std_len_app, Std_len_lit, Std_len_setc, List.length_take, List.length_drop, List.length_append, List.length_cons, List.length_nil, Int.toNat_natCast, Std_inr64, bNot, Int.ofNat_eq_natCast, Int.natCast_zero, decide_eq_true_eq, decide_eq_false_iff_not, Bool.not_eq_true, Bool.not_eq_false, Bool.not_eq_eq_eq_not, Bool.not_true, Bool.not_false, beq_iff_eq, beq_eq_false_iff_ne, ne_eq, Bool.true_eq_false, Bool.false_eq_true, cond_true, cond_false] at *; first | done | omega)
      · rw [hx] at hk
        have ht1 := findT'_idx hj hpk hbk
        have hi2 : k = Int.ofNat j := hk
        subst hi2
        have e6 := encT_cell2 (l := y) (a := Int.ofNat j) j rfl hj
        have g6 : gt y (Int.ofNat j) = y[j] := gt_get j rfl hj
        have hst1 := (hc2 _ (List.getElem_mem hj)).length
        have hs : sub1 y t = (!(y[j].absent && !t.absent) && subset y[j].set t.set) := by simp only [sub1, ht1]
        obtain ⟨t1, ht1'⟩ : ∃ t, t = y[j] := ⟨_, rfl⟩
        rw [← ht1'] at e6 g6 hst1 hs
        have hb6 : A.asBool (A.cell r2 (Int.ofNat j) 1) = t1.absent := by rw [X.a, hr2]; rw [Std_t1, g6]
        have he6 : A.cell r2 (Int.ofNat j) 2 = encL encX t1.set := by rw [X.a, hr2]; exact e6
        have fin : (t1.absent && !t.absent) = false → ∀ q, q = subset t1.set t.set → q = sub1 y t := by
          intro h8 q hq
          rw [hs, h8, hq]; simp
        cbv
        repeat' (first | apply And.intro | exact fun (_ : False → False) => by kernel_rfl | (intro h2; cbv) | apply Or.inl)
        all_goals try (subst hr2; obtain rfl := X.a; simp only [Std_t0, Std_t1, Std_x0, Std_x1, Std_len, Std_lt, Std_le, Std_eq, Std_add, Std_sub, Std_mul, Std_not, Std_ite, Std_str, Std_bool, Std_int, Std_slen, Std_seq, Std_slt', Std_beq, Std_idx, Std_bnd, Std_same, Std_max', Std_min', Std_partI, Std_app, Std_len_app, Std_len_lit, Std_len_setc, List.length_take, List.length_drop, List.length_append, List.length_cons, List.length_nil, Int.toNat_natCast, Std_inr64, bNot, Int.ofNat_eq_natCast, Int.natCast_zero, decide_eq_true_eq, decide_eq_false_iff_not, Bool.not_eq_true, Bool.not_eq_false, Bool.not_eq_eq_eq_not, Bool.not_true, Bool.not_false, beq_iff_eq, beq_eq_false_iff_ne, ne_eq, Bool.true_eq_false, Bool.false_eq_true, cond_true, cond_false] at * <;> omega)
        rotate_left
        · have h7 : t.absent = false := by
            rw [← hb']; obtain rfl := X.a; simp only [Std_t0, Std_t1, Std_x0, Std_x1, Std_len, Std_lt, Std_le, Std_eq, Std_add, Std_sub, Std_mul, Std_not, Std_ite, Std_str, Std_bool, Std_int, Std_slen, Std_seq, Std_slt', Std_beq, Std_idx, Std_bnd, Std_same, Std_max', Std_min', Std_partI, Std_app, Std_len_app, Std_len_lit, Std_len_setc, List.length_take, List.length_drop, List.length_append, List.length_cons, List.length_nil, Int.toNat_natCast, Std_inr64, bNot, Int.ofNat_eq_natCast, Int.natCast_zero, decide_eq_true_eq, decide_eq_false_iff_not, Bool.not_eq_true, Bool.not_eq_false, Bool.not_eq_eq_eq_not, Bool.not_true, Bool.not_false, beq_iff_eq, beq_eq_false_iff_ne, ne_eq, Bool.true_eq_false, Bool.false_eq_true, cond_true, cond_false] at *; assumption
          have h8 : t1.absent = true := by rw [← hb6]; assumption
          exact h _ (by rw [hdef2, hall (by rw [hs, h7, h8]; rfl)])
        rotate_left
        all_goals
          have h8 : (t1.absent && !t.absent) = false := by
            rw [← hb', ← hb6]; obtain rfl := X.a; simp only [Std_t0, Std_t1, Std_x0, Std_x1, Std_len, Std_lt, Std_le, Std_eq, Std_add, Std_sub, Std_mul, Std_not, Std_ite, Std_str, Std_bool, Std_int, Std_slen, Std_seq, Std_slt', Std_beq, Std_idx, Std_bnd, Std_same, Std_max', Std_min', Std_partI, Std_app, Std_len_app, Std_len_lit, Std_len_setc, List.length_take, List.length_drop, List.length_append, List.length_cons, List.length_nil, Int.toNat_natCast, Std_inr64, bNot, Int.ofNat_eq_natCast, Int.natCast_zero, decide_eq_true_eq, decide_eq_false_iff_not, Bool.not_eq_true, Bool.not_eq_false, Bool.not_eq_eq_eq_not, Bool.not_true, Bool.not_false, beq_iff_eq, beq_eq_false_iff_ne, ne_eq, Bool.true_eq_false, Bool.false_eq_true, cond_true, cond_false] at *; simp_all
          refine X.call (F54 he6 hset (by omega) (by omega) fun q hq => ?_)
          have hq2 := fin h8 q hq
          cbv
          repeat' (first | apply And.intro | exact fun (_ : False → False) => by kernel_rfl | (intro h2; cbv) | apply Or.inl)
        all_goals first
          | (have hqv : q = false := by obtain rfl := X.a; simp only [Std_t0, Std_t1, Std_x0, Std_x1, Std_len, Std_lt, Std_le, Std_eq, Std_add, Std_sub, Std_mul, Std_not, Std_ite, Std_str, Std_bool, Std_int, Std_slen, Std_seq, Std_slt', Std_beq, Std_idx, Std_bnd, Std_same, Std_max', Std_min', Std_partI, Std_app, Std_len_app, Std_len_lit, Std_len_setc, List.length_take, List.length_drop, List.length_append, List.length_cons, List.length_nil, Int.toNat_natCast, Std_inr64, bNot, Int.ofNat_eq_natCast, Int.natCast_zero, decide_eq_true_eq, decide_eq_false_iff_not, Bool.not_eq_true, Bool.not_eq_false, Bool.not_eq_eq_eq_not, Bool.not_true, Bool.not_false, beq_iff_eq, beq_eq_false_iff_ne, ne_eq, Bool.true_eq_false, Bool.false_eq_true, cond_true, cond_false] at *; assumption
             exact h _ (by rw [hdef2, hall (by rw [← hq2, hqv])]))
          | (have hqv : q = true := by obtain rfl := X.a; simp only [Std_t0, Std_t1, Std_x0, Std_x1, Std_len, Std_lt, Std_le, Std_eq, Std_add, Std_sub, Std_mul, Std_not, Std_ite, Std_str, Std_bool, Std_int, Std_slen, Std_seq, Std_slt', Std_beq, Std_idx, Std_bnd, Std_same, Std_max', Std_min', Std_partI, Std_app, Std_len_app, Std_len_lit, Std_len_setc, List.length_take, List.length_drop, List.length_append, List.length_cons, List.length_nil, Int.toNat_natCast, Std_inr64, bNot, Int.ofNat_eq_natCast, Int.natCast_zero, decide_eq_true_eq, decide_eq_false_iff_not, Bool.not_eq_true, Bool.not_eq_false, Bool.not_eq_eq_eq_not, Bool.not_true, Bool.not_false, beq_iff_eq, beq_eq_false_iff_ne, ne_eq, Bool.true_eq_false, Bool.false_eq_true, cond_true, cond_false] at *; assumption
             refine ⟨i+1, ⟨by omega, hnext (by rw [← hq2, hqv])⟩, by omega, ?_⟩
             (cbv; repeat' apply And.intro); all_goals (try (first | trivial | rfl | (rw [X.a]; rfl))))
          | (subst hr1; obtain rfl := X.a; simp only [Std_t0, Std_t1, Std_x0, Std_x1, Std_len, Std_lt, Std_le, Std_eq, Std_add, Std_sub, Std_mul, Std_not, Std_ite, Std_str, Std_bool, Std_int, Std_slen, Std_seq, Std_slt', Std_beq, Std_idx, Std_bnd, Std_same, Std_max', Std_min', Std_partI, Std_app, Std_len_app, Std_len_lit, Std_len_setc, List.length_take, List.length_drop, List.length_append, List.length_cons, List.length_nil, Int.toNat_natCast, Std_inr64, bNot, Int.ofNat_eq_natCast, Int.natCast_zero, decide_eq_true_eq, decide_eq_false_iff_not, Bool.not_eq_true, Bool.not_eq_false, Bool.not_eq_eq_eq_not, Bool.not_true, Bool.not_false, beq_iff_eq, beq_eq_false_iff_ne, ne_eq, Bool.true_eq_false, Bool.false_eq_true, cond_true, cond_false] at * <;> omega)
    · refine h _ ?_
      have h5 : i = x.length := by obtain rfl := X.a; rw [hr1] at h1; simp only [Std_t0, Std_t1, Std_x0, Std_x1, Std_len, Std_lt, Std_le, Std_eq, Std_add, Std_sub, Std_mul, Std_not, Std_ite, Std_str, Std_bool, Std_int, Std_slen, Std_seq, Std_slt', Std_beq, Std_idx, Std_bnd, Std_same, Std_max', Std_min', Std_partI, Std_app, Std_len_app, Std_len_lit, Std_len_setc, List.length_take, List.length_drop, List.length_append, List.length_cons, List.length_nil, Int.toNat_natCast, Std_inr64, bNot, Int.ofNat_eq_natCast, Int.natCast_zero, decide_eq_true_eq, decide_eq_false_iff_not, Bool.not_eq_true, Bool.not_eq_false, Bool.not_eq_eq_eq_not, Bool.not_true, Bool.not_false, beq_iff_eq, beq_eq_false_iff_ne, ne_eq, Bool.true_eq_false, Bool.false_eq_true, cond_true, cond_false] at *; omega
      rw [h5, List.take_length] at ha'
      rw [hdef2, eq_comm, List.all_eq_true]; exact ha'
  · refine h _ ?_
    obtain rfl := X.a; simp only [Std_t0, Std_t1, Std_x0, Std_x1, Std_len, Std_lt, Std_le, Std_eq, Std_add, Std_sub, Std_mul, Std_not, Std_ite, Std_str, Std_bool, Std_int, Std_slen, Std_seq, Std_slt', Std_beq, Std_idx, Std_bnd, Std_same, Std_max', Std_min', Std_partI, Std_app, Std_len_app, Std_len_lit, Std_len_setc, List.length_take, List.length_drop, List.length_append, List.length_cons, List.length_nil, Int.toNat_natCast, Std_inr64, bNot, Int.ofNat_eq_natCast, Int.natCast_zero, decide_eq_true_eq, decide_eq_false_iff_not, Bool.not_eq_true, Bool.not_eq_false, Bool.not_eq_eq_eq_not, Bool.not_true, Bool.not_false, beq_iff_eq, beq_eq_false_iff_ne, ne_eq, Bool.true_eq_false, Bool.false_eq_true, cond_true, cond_false] at *
    rw [hdef]; simp only [subsumesX]; simp_all
end Go.VC.T35
end

section
/- Holds, Violated, Entailed. -/
set_option linter.unusedSimpArgs false
set_option linter.unusedVariables false
namespace Go.VC.T35
open Go Go.VC Go.Proofs

/-- the place of a release, and if it has one -/
def placeS (y : Sel) : Int := 1000 * y.minor + y.patch
def okS (y : Sel) : Bool := validV y.major y.minor y.patch
def holdsS (t : Term) (s : List Sel) : Bool := match s.find? (fun y => y.path == t.path) with
  | none => t.absent
  | some y => okS y && hasS t.set (placeS y)
def violS (l : List Term) (s : List Sel) : Bool := l.all fun t => holdsS t s
def entS (l : List Term) (s : List Sel) : Bool := violS l s && !(l.any fun t => !(s.any fun y => y.path == t.path))
theorem find_idxS {s : List Sel} {p : Sel → Bool} {i : Nat} (h : i < s.length) (hp : p s[i] = true) (ha : ∀ x ∈ s.take i, p x = false) : s.find? p = some s[i] := by
  induction s generalizing i with
  | nil => simp at h
  | cons x s ih =>
    cases i with
    | zero => simp at hp; simp [hp]
    | succ i =>
      have := ha x (by simp)
      simp only [List.find?_cons, this, List.getElem_cons_succ]
      exact ih (by simpa using h) (by simpa using hp) fun y hy => ha y (by simp [hy])

set_option maxRecDepth 100000 in
set_option maxHeartbeats 2000000 in
theorem F29 {s : List Sel} {t : Term} {p : List UInt8} {b : Bool} {d e : D} {K : PV → List Ob → Prop} (hp : p = t.path) (hb : b = t.absent) (hd : d = encL encX t.set) (hs : t.set.length < 4294967296) (he : e = encL encV s) (hl : s.length < 4294967296)
    (h : ∀ r, r = holdsS t s → K (.bool r) []) : FC Tryz.prog tt 29 [] [.agg [.str p, .bool b, .lst 65 d], .lst 45 e] K := by
  refine FC.enter (G := g29) tt_ok mixed ⟨Tryz.func29, by rfl, rfl⟩ rfl rfl rfl ?_
  intro A C L X
  cbv
  refine X.call (F56x58 (q := p) (p := fun y => y.path == t.path) he hl (fun x _ c0 c1 c2 c3 e0 e1 e2 e3 K' hK => F58 e0 fun b hb => hK b (by rw [hb, hp])) fun i hi => ?_)
  rcases idxF_cases (fun y : Sel => y.path == t.path) s with ⟨hx, hno⟩ | ⟨k, hk, hx, hpk, hbk⟩
  · rw [hx] at hi
    subst hi
    have hnone : s.find? (fun y => y.path == t.path) = none := by rw [List.find?_eq_none]; intro y hy; rw [hno y hy]; simp
    have hdef : holdsS t s = t.absent := by simp only [holdsS, hnone]
    cbv
    repeat' (first | apply And.intro | exact fun (_ : False → False) => by kernel_rfl | (intro h2; cbv) | apply Or.inl)
    all_goals first
      | exact h _ (by rw [hdef, hb])
      | (exfalso; obtain rfl := X.a; simp only [Std_x0, Std_x1, Std_len, Std_lt, Std_le, Std_eq, Std_add, Std_sub, Std_mul, Std_not, Std_ite, Std_str, Std_bool, Std_int, Std_slen, Std_seq, Std_slt', Std_beq, Std_idx, Std_bnd, Std_same, Std_max', Std_min', Std_partI, Std_app, Std_len_app, Std_len_lit, Std_len_setc, List.length_take, List.length_drop, List.length_append, List.length_cons, List.length_nil, Int.toNat_natCast, Std_inr64, bNot, Int.ofNat_eq_natCast, Int.natCast_zero, decide_eq_true_eq, decide_eq_false_iff_not, Bool.not_eq_true, Bool.not_eq_false, Bool.not_eq_eq_eq_not, Bool.not_true, Bool.not_false, beq_iff_eq, beq_eq_false_iff_ne, ne_eq, Bool.true_eq_false, Bool.false_eq_true, cond_true, cond_false] at *; first | done | omega)
  · rw [hx] at hi
    have hfind := find_idxS hk hpk hbk
    have hdef : holdsS t s = (okS s[k] && hasS t.set (placeS s[k])) := by simp only [holdsS, hfind]
    have hi2 : i = Int.ofNat k := hi
    subst hi2
    have g5 : gs s (Int.ofNat k) = s[k] := gs_get k rfl hk
    obtain ⟨y, hy⟩ : ∃ y, y = s[k] := ⟨_, rfl⟩
    rw [← hy] at hdef g5
    have q1 : A.asInt (A.cell e (Int.ofNat k) 1) = y.major := by rw [X.a, he, Std_s1, g5]
    have q2 : A.asInt (A.cell e (Int.ofNat k) 2) = y.minor := by rw [X.a, he, Std_s2, g5]
    have q3 : A.asInt (A.cell e (Int.ofNat k) 3) = y.patch := by rw [X.a, he, Std_s3, g5]
    have q4 : validV (A.asInt (A.cell e (Int.ofNat k) 1)) (A.asInt (A.cell e (Int.ofNat k) 2)) (A.asInt (A.cell e (Int.ofNat k) 3)) = okS y := by rw [q1, q2, q3]; rfl
    cbv
    repeat' (first | apply And.intro | exact fun (_ : False → False) => by kernel_rfl | (intro h2; cbv) | apply Or.inl)
    · exfalso; obtain rfl := X.a; simp only [Std_x0, Std_x1, Std_len, Std_lt, Std_le, Std_eq, Std_add, Std_sub, Std_mul, Std_not, Std_ite, Std_str, Std_bool, Std_int, Std_slen, Std_seq, Std_slt', Std_beq, Std_idx, Std_bnd, Std_same, Std_max', Std_min', Std_partI, Std_app, Std_len_app, Std_len_lit, Std_len_setc, List.length_take, List.length_drop, List.length_append, List.length_cons, List.length_nil, Int.toNat_natCast, Std_inr64, bNot, Int.ofNat_eq_natCast, Int.natCast_zero, decide_eq_true_eq, decide_eq_false_iff_not, Bool.not_eq_true, Bool.not_eq_false, Bool.not_eq_eq_eq_not, Bool.not_true, Bool.not_false, beq_iff_eq, beq_eq_false_iff_ne, ne_eq, Bool.true_eq_false, Bool.false_eq_true, cond_true, cond_false] at *; omega
    · obtain rfl := X.a; subst he; simp only [Std_x0, Std_x1, Std_len, Std_lt, Std_le, Std_eq, Std_add, Std_sub, Std_mul, Std_not, Std_ite, Std_str, Std_bool, Std_int, Std_slen, Std_seq, Std_slt', Std_beq, Std_idx, Std_bnd, Std_same, Std_max', Std_min', Std_partI, Std_app, Std_len_app, Std_len_lit, Std_len_setc, List.length_take, List.length_drop, List.length_append, List.length_cons, List.length_nil, Int.toNat_natCast, Std_inr64, bNot, Int.ofNat_eq_natCast, Int.natCast_zero, decide_eq_true_eq, decide_eq_false_iff_not, Bool.not_eq_true, Bool.not_eq_false, Bool.not_eq_eq_eq_not, Bool.not_true, Bool.not_false, beq_iff_eq, beq_eq_false_iff_ne, ne_eq, Bool.true_eq_false, Bool.false_eq_true, cond_true, cond_false]; omega
    · refine X.call (F25 (fun hv => ?_) fun hv => ?_)
      · rw [q4] at hv
        cbv
        repeat' (first | apply And.intro | exact fun (_ : False → False) => by kernel_rfl | (intro h2; cbv) | apply Or.inl)
        all_goals first
          | exact h _ (by rw [hdef, hv]; rfl)
          | (exfalso; obtain rfl := X.a; simp only [Std_x0, Std_x1, Std_len, Std_lt, Std_le, Std_eq, Std_add, Std_sub, Std_mul, Std_not, Std_ite, Std_str, Std_bool, Std_int, Std_slen, Std_seq, Std_slt', Std_beq, Std_idx, Std_bnd, Std_same, Std_max', Std_min', Std_partI, Std_app, Std_len_app, Std_len_lit, Std_len_setc, List.length_take, List.length_drop, List.length_append, List.length_cons, List.length_nil, Int.toNat_natCast, Std_inr64, bNot, Int.ofNat_eq_natCast, Int.natCast_zero, decide_eq_true_eq, decide_eq_false_iff_not, Bool.not_eq_true, Bool.not_eq_false, Bool.not_eq_eq_eq_not, Bool.not_true, Bool.not_false, beq_iff_eq, beq_eq_false_iff_ne, ne_eq, Bool.true_eq_false, Bool.false_eq_true, cond_true, cond_false] at *; first | done | omega | simp_all)
      · rw [q4] at hv
        obtain ⟨n, hn⟩ : ∃ n, n = 1000 * A.asInt (A.cell e (Int.ofNat k) 2) + A.asInt (A.cell e (Int.ofNat k) 3) := ⟨_, rfl⟩
        rw [← hn]
        rw [q2, q3] at hn
        cbv
        repeat' (first | apply And.intro | exact fun (_ : False → False) => by kernel_rfl | (intro h2; cbv) | apply Or.inl)
        · refine X.call (F30 hd hs fun r hr => ?_)
          cbv
          exact h _ (by rw [hdef, hv, hr, hn]; rfl)
        all_goals first
          | (exfalso; obtain rfl := X.a; simp only [Std_x0, Std_x1, Std_len, Std_lt, Std_le, Std_eq, Std_add, Std_sub, Std_mul, Std_not, Std_ite, Std_str, Std_bool, Std_int, Std_slen, Std_seq, Std_slt', Std_beq, Std_idx, Std_bnd, Std_same, Std_max', Std_min', Std_partI, Std_app, Std_len_app, Std_len_lit, Std_len_setc, List.length_take, List.length_drop, List.length_append, List.length_cons, List.length_nil, Int.toNat_natCast, Std_inr64, bNot, Int.ofNat_eq_natCast, Int.natCast_zero, decide_eq_true_eq, decide_eq_false_iff_not, Bool.not_eq_true, Bool.not_eq_false, Bool.not_eq_eq_eq_not, Bool.not_true, Bool.not_false, beq_iff_eq, beq_eq_false_iff_ne, ne_eq, Bool.true_eq_false, Bool.false_eq_true, cond_true, cond_false] at *; first | done | omega | simp_all)

set_option maxRecDepth 100000 in
set_option maxHeartbeats 2000000 in
theorem F22 {l : List Term} {s : List Sel} {d e : D} {K : PV → List Ob → Prop} (hd : d = encL encT l) (hl : l.length < 4294967296) (hs : ∀ t ∈ l, t.set.length < 4294967296) (he : e = encL encV s) (hsl : s.length < 4294967296)
    (h : ∀ r, r = violS l s → K (.bool r) []) : FC Tryz.prog tt 22 [] [.lst 51 d, .lst 45 e] K := by
  refine FC.enter (G := g22) tt_ok mixed ⟨Tryz.func22, by rfl, rfl⟩ rfl rfl rfl ?_
  intro A C L X
  cbv
  refine X.loop (fun (i : Nat) => ⟨[(7, .int .i64 (A.len d)), (8, .int .i64 i), (4, .bl false), (0, .lst 51 d), (1, .lst 45 e)], []⟩) (fun i => i ≤ l.length ∧ ∀ t ∈ l.take i, holdsS t s = true) (fun i => l.length - i) 0 ⟨Nat.zero_le _, by simp⟩ ?_ ?_
  · (cbv; repeat' apply And.intro); all_goals (try (first | trivial | rfl | (rw [X.a]; rfl)))
  rintro i ⟨hi, ha⟩
  cbv
  refine ⟨fun h1 => ?_, fun h1 => ?_⟩
  · have h5 : i < l.length := by obtain rfl := X.a; rw [hd] at h1; simp only [Std_t0, Std_t1, Std_x0, Std_x1, Std_len, Std_lt, Std_le, Std_eq, Std_add, Std_sub, Std_mul, Std_not, Std_ite, Std_str, Std_bool, Std_int, Std_slen, Std_seq, Std_slt', Std_beq, Std_idx, Std_bnd, Std_same, Std_max', Std_min', Std_partI, Std_app, Std_len_app, Std_len_lit, Std_len_setc, List.length_take, List.length_drop, List.length_append, List.length_cons, List.length_nil, Int.toNat_natCast, Std_inr64, bNot, Int.ofNat_eq_natCast, Int.natCast_zero, decide_eq_true_eq, decide_eq_false_iff_not, Bool.not_eq_true, Bool.not_eq_false, Bool.not_eq_eq_eq_not, Bool.not_true, Bool.not_false, beq_iff_eq, beq_eq_false_iff_ne, ne_eq, Bool.true_eq_false, Bool.false_eq_true, cond_true, cond_false] at *; omega
    have e5 : A.cell d (Int.ofNat i) 2 = encL encX l[i].set := by rw [X.a, hd]; exact encT_cell2 i rfl h5
    have g5 : gt l (Int.ofNat i) = l[i] := gt_get i rfl h5
    have hp : A.asStr (A.cell d (Int.ofNat i) 0) = l[i].path := by rw [X.a, hd]; have := g5; rw [Std_t0, this]
    have hb' : A.asBool (A.cell d (Int.ofNat i) 1) = l[i].absent := by rw [X.a, hd]; rw [Std_t1, g5]
    have hall : holdsS l[i] s = false → violS l s = false := fun hf => all_false h5 hf
    have hst := hs _ (List.getElem_mem h5)
    have hnext : holdsS l[i] s = true → ∀ t ∈ l.take (i+1), holdsS t s = true := by
      intro hh u hu
      rw [take_succ' h5] at hu
      rcases List.mem_append.1 hu with hu | hu
      · exact ha u hu
      · simp only [List.mem_singleton] at hu; subst hu; exact hh
    obtain ⟨t, ht⟩ : ∃ t, t = l[i] := ⟨_, rfl⟩
    rw [← ht] at e5 g5 hp hb' hall hnext hst
    cbv
    refine ⟨?_, ?_⟩
    · obtain rfl := X.a; rw [hd] at *; simp only [Std_t0, Std_t1, Std_x0, Std_x1, Std_len, Std_lt, Std_le, Std_eq, Std_add, Std_sub, Std_mul, Std_not, Std_ite, Std_str, Std_bool, Std_int, Std_slen, Std_seq, Std_slt', Std_beq, Std_idx, Std_bnd, Std_same, Std_max', Std_min', Std_partI, Std_app, Std_len_app, Std_len_lit, Std_len_setc, List.length_take, List.length_drop, List.length_append, List.length_cons, List.length_nil, Int.toNat_natCast, Std_inr64, bNot, Int.ofNat_eq_natCast, Int.natCast_zero, decide_eq_true_eq, decide_eq_false_iff_not, Bool.not_eq_true, Bool.not_eq_false, Bool.not_eq_eq_eq_not, Bool.not_true, Bool.not_false, beq_iff_eq, beq_eq_false_iff_ne, ne_eq, Bool.true_eq_false, Bool.false_eq_true, cond_true, cond_false] at *; omega
    refine X.call (F29 (t := t) hp hb' e5 hst he hsl fun r hr => ?_)
    cbv
    repeat' (first | apply And.intro | exact fun (_ : False → False) => by kernel_rfl | (intro h2; cbv) | apply Or.inl)
    all_goals first
      | (have hqv : r = false := by obtain rfl := X.a; simp only [Std_x0, Std_x1, Std_len, Std_lt, Std_le, Std_eq, Std_add, Std_sub, Std_mul, Std_not, Std_ite, Std_str, Std_bool, Std_int, Std_slen, Std_seq, Std_slt', Std_beq, Std_idx, Std_bnd, Std_same, Std_max', Std_min', Std_partI, Std_app, Std_len_app, Std_len_lit, Std_len_setc, List.length_take, List.length_drop, List.length_append, List.length_cons, List.length_nil, Int.toNat_natCast, Std_inr64, bNot, Int.ofNat_eq_natCast, Int.natCast_zero, decide_eq_true_eq, decide_eq_false_iff_not, Bool.not_eq_true, Bool.not_eq_false, Bool.not_eq_eq_eq_not, Bool.not_true, Bool.not_false, beq_iff_eq, beq_eq_false_iff_ne, ne_eq, Bool.true_eq_false, Bool.false_eq_true, cond_true, cond_false] at *; assumption
         exact h _ (by rw [hall (by rw [← hr, hqv])]))
      | (have hqv : r = true := by obtain rfl := X.a; simp only [Std_x0, Std_x1, Std_len, Std_lt, Std_le, Std_eq, Std_add, Std_sub, Std_mul, Std_not, Std_ite, Std_str, Std_bool, Std_int, Std_slen, Std_seq, Std_slt', Std_beq, Std_idx, Std_bnd, Std_same, Std_max', Std_min', Std_partI, Std_app, Std_len_app, Std_len_lit, Std_len_setc, List.length_take, List.length_drop, List.length_append, List.length_cons, List.length_nil, Int.toNat_natCast, Std_inr64, bNot, Int.ofNat_eq_natCast, Int.natCast_zero, decide_eq_true_eq, decide_eq_false_iff_not, Bool.not_eq_true, Bool.not_eq_false, Bool.not_eq_eq_eq_not, Bool.not_true, Bool.not_false, beq_iff_eq, beq_eq_false_iff_ne, ne_eq, Bool.true_eq_false, Bool.false_eq_true, cond_true, cond_false] at *; assumption
         refine ⟨i+1, ⟨by omega, hnext (by rw [← hr, hqv])⟩, by omega, ?_⟩
         (cbv; repeat' apply And.intro); all_goals (try (first | trivial | rfl | (rw [X.a]; rfl))))
      | (obtain rfl := X.a; simp only [Std_x0, Std_x1, Std_len, Std_lt, Std_le, Std_eq, Std_add, Std_sub, Std_mul, Std_not, Std_ite, Std_str, Std_bool, Std_int, Std_slen, Std_seq, Std_slt', Std_beq, Std_idx, Std_bnd, Std_same, Std_max', Std_min', Std_partI, Std_app, Std_len_app, Std_len_lit, Std_len_setc, List.length_take, List.length_drop, List.length_append, List.length_cons, List.length_nil, Int.toNat_natCast, Std_inr64, bNot, Int.ofNat_eq_natCast, Int.natCast_zero, decide_eq_true_eq, decide_eq_false_iff_not, Bool.not_eq_true, Bool.not_eq_false, Bool.not_eq_eq_eq_not, Bool.not_true, Bool.not_false, beq_iff_eq, beq_eq_false_iff_ne, ne_eq, Bool.true_eq_false, Bool.false_eq_true, cond_true, cond_false] at * <;> omega)
  · refine h _ ?_
    have h5 : i = l.length := by obtain rfl := X.a; rw [hd] at h1; simp only [Std_t0, Std_t1, Std_x0, Std_x1, Std_len, Std_lt, Std_le, Std_eq, Std_add, Std_sub, Std_mul, Std_not, Std_ite, Std_str, Std_bool, Std_int, Std_slen, Std_seq, Std_slt', Std_beq, Std_idx, Std_bnd, Std_same, Std_max', Std_min', Std_partI, Std_app, Std_len_app, Std_len_lit, Std_len_setc, List.length_take, List.length_drop, List.length_append, List.length_cons, List.length_nil, Int.toNat_natCast, Std_inr64, bNot, Int.ofNat_eq_natCast, Int.natCast_zero, decide_eq_true_eq, decide_eq_false_iff_not, Bool.not_eq_true, Bool.not_eq_false, Bool.not_eq_eq_eq_not, Bool.not_true, Bool.not_false, beq_iff_eq, beq_eq_false_iff_ne, ne_eq, Bool.true_eq_false, Bool.false_eq_true, cond_true, cond_false] at *; omega
    rw [h5, List.take_length] at ha
    rw [violS, eq_comm, List.all_eq_true]; exact ha

set_option maxRecDepth 100000 in
set_option maxHeartbeats 2000000 in
theorem F68 {s : List Sel} {p c0 : List UInt8} {c1 : Bool} {c2 e : D} {K : PV → List Ob → Prop} (h0 : c0 = p) (he : e = encL encV s) (hsl : s.length < 4294967296) (h : ∀ b, b = !(s.any fun y => y.path == p) → K (.bool b) []) : FC Tryz.prog tt 68 [] (.agg [.str c0, .bool c1, .lst 65 c2] :: [.pptr [.lst 45 e] 0]) K := by
  refine FC.enter (G := g68) tt_ok mixed ⟨Tryz.func68, by rfl, rfl⟩ rfl rfl rfl ?_
  intro A C L X
  cbv
  repeat' (first | apply And.intro | exact fun (_ : False → False) => by kernel_rfl | (intro h2; cbv) | apply Or.inl)
  all_goals
    refine X.call (F23x69 (q := c0) (p := fun y => y.path == p) he hsl (fun x _ c0 c1 c2 c3 e0 e1 e2 e3 K' hK => F69 e0 fun b hb => hK b (by rw [hb, h0])) fun r hr => ?_)
    cbv
    refine h _ ?_
    obtain rfl := X.a; rw [hr]; rfl

set_option maxRecDepth 100000 in
set_option maxHeartbeats 2000000 in
theorem F36 {l : List Term} {s : List Sel} {d e : D} {K : PV → List Ob → Prop} (hd : d = encL encT l) (hl : l.length < 4294967296) (hs : ∀ t ∈ l, t.set.length < 4294967296) (he : e = encL encV s) (hsl : s.length < 4294967296)
    (h : ∀ r, r = entS l s → K (.bool r) []) : FC Tryz.prog tt 36 [] [.lst 51 d, .lst 45 e] K := by
  refine FC.enter (G := g36) tt_ok mixed ⟨Tryz.func36, by rfl, rfl⟩ rfl rfl rfl ?_
  intro A C L X
  cbv
  refine X.call (F22 hd hl hs he hsl fun r hr => ?_)
  cbv
  repeat' (first | apply And.intro | exact fun (_ : False → False) => by kernel_rfl | (intro h2; cbv) | apply Or.inl)
  · refine X.call (F27x68 (e := e) (p := fun t => !(s.any fun y => y.path == t.path)) hd hl (fun x _ c0 c1 c2 e0 e1 e2 K' hK => F68 e0 he hsl fun b hb => hK b hb) fun r2 hr2 => ?_)
    cbv
    refine h _ ?_
    obtain rfl := X.a; rw [entS, ← hr, hr2, h2]; rfl
  · refine h _ ?_
    rw [entS, ← hr, h2]; rfl
end Go.VC.T35
end

section
namespace Go.VC.T35
open Go Go.VC
def sa : List UInt8 := [97,47,118,49]
def sb : List UInt8 := [98,47,118,49]
theorem ev_need : requiresT sa 0 sb [(2000, 1000000)] = [⟨sa, false, [(0,1)]⟩, ⟨sb, true, [(0,2000)]⟩] := by decide +kernel
theorem ev_none : noneT sb [(0,1),(1000,1001)] = [⟨sb, false, [(1,1000),(1001,1000000)]⟩] := by decide +kernel
theorem ev_res : resolveT [⟨sa, false, [(0,1)]⟩, ⟨sb, true, [(0,2000)]⟩] [⟨sb, false, [(1,1000),(1001,1000000)]⟩] sb = ([⟨sa, false, [(0,1)]⟩], 0) := by decide +kernel
theorem ev_root : rootT sa [(0,1000000)] = [⟨sa, true, []⟩] := by decide +kernel
theorem ev_viol : violS [⟨sa, false, [(0,1)]⟩] [⟨sa, 1, 0, 0⟩] = true := by decide +kernel
theorem ev_ent : entS [⟨sa, false, [(0,1)]⟩] [⟨sa, 1, 0, 0⟩] = true := by decide +kernel
theorem ev_sub : subsumesT [⟨sa, false, [(0,1)]⟩] [⟨sa, false, [(0,1)]⟩, ⟨sb, true, [(0,2000)]⟩] = true := by decide +kernel
end Go.VC.T35
end

section
set_option linter.unusedSimpArgs false
set_option linter.unusedVariables false
namespace Go.VC.T35
open Go Go.VC Go.Proofs

set_option maxRecDepth 100000 in
set_option maxHeartbeats 2000000 in
theorem F9 {K : PV → List Ob → Prop} (h : K (.bool true) []) : FC Tryz.prog tt 9 [] [] K := by
  refine FC.enter (G := g9) tt_ok mixed ⟨Tryz.func9, by rfl, rfl⟩ rfl rfl rfl ?_
  intro A C L X
  cbv
  refine X.call (F13 (s := [(2000, 1000000)]) (by rw [X.a]; rfl) (by simp) (by omega) fun r1 hr1 => ?_)
  have hr1 : r1 = encL encT [⟨sa, false, [(0,1)]⟩, ⟨sb, true, [(0,2000)]⟩] := by rw [hr1]; exact congrArg (encL encT) ev_need
  cbv
  refine X.call (F15 (s := [(0,1),(1000,1001)]) (by rw [X.a]; rfl) (by simp) fun r2 hr2 => ?_)
  have hr2 : r2 = encL encT [⟨sb, false, [(1,1000),(1001,1000000)]⟩] := by rw [hr2]; exact congrArg (encL encT) ev_none
  cbv
  refine X.call (F18 hr1 hr2 (by simp) (by simp) ?_ ?_ fun r3 e3 hr3 he3 => ?_)
  · intro t ht; simp only [List.mem_cons, List.not_mem_nil, or_false] at ht; rcases ht with rfl | rfl <;> simp
  · intro t ht; simp only [List.mem_cons, List.not_mem_nil, or_false] at ht; subst ht; simp
  have hr3 : r3 = encL encT [⟨sa, false, [(0,1)]⟩] := by rw [hr3]; exact congrArg (fun x => encL encT x.1) ev_res
  have he3 : e3 = 0 := by rw [he3]; exact congrArg (fun x => x.2) ev_res
  cbv
  refine X.call (F11 (s := [(0,1000000)]) (by rw [X.a]; rfl) (by simp) fun r4 hr4 => ?_)
  have hr4 : r4 = encL encT [⟨sa, true, []⟩] := by rw [hr4]; exact congrArg (encL encT) ev_root
  have c1 : A.eq (A.len r1) 2 = true := by rw [X.a, hr1]; rfl
  have c2 : A.eq e3 0 = true := by rw [X.a, he3]; rfl
  cbv
  repeat' (first | apply And.intro | exact fun (_ : False → False) => by kernel_rfl | (intro h2; cbv) | apply Or.inl)
  rotate_left
  all_goals try first
    | (rw [c1] at h2; exact absurd h2 (by decide))
    | (rw [c2] at h2; exact absurd h2 (by decide))
  refine X.call (F10 hr3 (k := [⟨sa, false, [(0,1)]⟩]) (by rw [X.a]; rfl) (by simp) (by intro t ht; simp only [List.mem_cons, List.not_mem_nil, or_false] at ht; subst ht; simp) fun q1 hq1 => ?_)
  have hq1 : q1 = true := by rw [hq1]; decide
  cbv
  repeat' (first | apply And.intro | exact fun (_ : False → False) => by kernel_rfl | (intro h2; cbv) | apply Or.inl)
  rotate_left
  all_goals try first
    | (rw [hq1] at h2; exact absurd h2 (by decide))
  refine X.call (F10 hr4 (k := [⟨sa, true, []⟩]) (by rw [X.a]; rfl) (by simp) (by intro t ht; simp only [List.mem_cons, List.not_mem_nil, or_false] at ht; subst ht; simp) fun q2 hq2 => ?_)
  have hq2 : q2 = true := by rw [hq2]; decide
  cbv
  repeat' (first | apply And.intro | exact fun (_ : False → False) => by kernel_rfl | (intro h2; cbv) | apply Or.inl)
  rotate_left
  all_goals try first
    | (rw [hq2] at h2; exact absurd h2 (by decide))
  refine X.call (F22 hr3 (s := [⟨sa, 1, 0, 0⟩]) (by simp) (by intro t ht; simp only [List.mem_cons, List.not_mem_nil, or_false] at ht; subst ht; simp) (by rw [X.a]; rfl) (by simp) fun q3 hq3 => ?_)
  have hq3 : q3 = true := by rw [hq3]; exact ev_viol
  cbv
  repeat' (first | apply And.intro | exact fun (_ : False → False) => by kernel_rfl | (intro h2; cbv) | apply Or.inl)
  rotate_left
  all_goals try first
    | (rw [hq3] at h2; exact absurd h2 (by decide))
  refine X.call (F36 hr3 (s := [⟨sa, 1, 0, 0⟩]) (by simp) (by intro t ht; simp only [List.mem_cons, List.not_mem_nil, or_false] at ht; subst ht; simp) (by rw [X.a]; rfl) (by simp) fun q4 hq4 => ?_)
  have hq4 : q4 = true := by rw [hq4]; exact ev_ent
  cbv
  repeat' (first | apply And.intro | exact fun (_ : False → False) => by kernel_rfl | (intro h2; cbv) | apply Or.inl)
  rotate_left
  all_goals try first
    | (rw [hq4] at h2; exact absurd h2 (by decide))
  refine X.call (F20 hr3 hr1 (by simp) (by simp) ?_ ?_ fun q5 hq5 => ?_)
  · intro t ht; simp only [List.mem_cons, List.not_mem_nil, or_false] at ht; subst ht; simp
  · intro t ht; simp only [List.mem_cons, List.not_mem_nil, or_false] at ht; rcases ht with rfl | rfl <;> simp
  have hq5 : q5 = true := by rw [hq5]; exact ev_sub
  cbv
  subst hq5
  exact h
end Go.VC.T35
end

section
set_option linter.unusedSimpArgs false
set_option linter.unusedVariables false
namespace Go.VC.T35
open Go Go.VC Go.Proofs
theorem canon_lt {l : List Term} {n : Nat} (h : l.length ≤ n) (hn : n < 4294967296) : (canonT l).1.length < 4294967296 ∧ ∀ t ∈ (canonT l).1, t.set.length < 4294967296 := by
  refine ⟨?_, fun t ht => ?_⟩
  · have := canonT_len (l := l); omega
  · have := (canonT_can (l := l) t ht).length; omega

set_option maxRecDepth 100000 in
set_option maxHeartbeats 2000000 in
theorem F3 {path q : List UInt8} {pl : Int} {s t : List (Int × Int)} {d e : D} {K : PV → List Ob → Prop} (hd : d = encL encX s) (hs : s.length < 4294967296) (he : e = encL encX t) (ht : t.length < 4294967296) (hp : -9223372036854775808 ≤ pl ∧ pl ≤ 9223372036854775807)
    (h : K (.bool true) []) : FC Tryz.prog tt 3 [] [.str path, .int .i64 pl, .agg [.str q, .lst 65 d], .lst 65 e] K := by
  refine FC.enter (G := g3) tt_ok mixed ⟨Tryz.func3, by rfl, rfl⟩ rfl rfl rfl ?_
  intro A C L X
  cbv
  refine X.call (F9 ?_)
  cbv
  repeat' (first | apply And.intro | exact fun (_ : False → False) => by kernel_rfl | (intro h2; cbv) | apply Or.inl)
  all_goals first
    | exact h
    | (exfalso; obtain rfl := X.a; simp only [Std_x0, Std_x1, Std_len, Std_lt, Std_le, Std_eq, Std_add, Std_sub, Std_mul, Std_not, Std_ite, Std_str, Std_bool, Std_int, Std_slen, Std_seq, Std_slt', Std_beq, Std_idx, Std_bnd, Std_same, Std_max', Std_min', Std_partI, Std_app, Std_len_app, Std_len_lit, Std_len_setc, List.length_take, List.length_drop, List.length_append, List.length_cons, List.length_nil, Int.toNat_natCast, Std_inr64, bNot, Int.ofNat_eq_natCast, Int.natCast_zero, decide_eq_true_eq, decide_eq_false_iff_not, Bool.not_eq_true, Bool.not_eq_false, Bool.not_eq_eq_eq_not, Bool.not_true, Bool.not_false, beq_iff_eq, beq_eq_false_iff_ne, ne_eq, Bool.true_eq_false, Bool.false_eq_true, cond_true, cond_false] at *; done)
    | skip
  have hsl : s.length ≤ 12 := by obtain rfl := X.a; subst hd; subst he; simp only [Std_x0, Std_x1, Std_len, Std_lt, Std_le, Std_eq, Std_add, Std_sub, Std_mul, Std_not, Std_ite, Std_str, Std_bool, Std_int, Std_slen, Std_seq, Std_slt', Std_beq, Std_idx, Std_bnd, Std_same, Std_max', Std_min', Std_partI, Std_app, Std_len_app, Std_len_lit, Std_len_setc, List.length_take, List.length_drop, List.length_append, List.length_cons, List.length_nil, Int.toNat_natCast, Std_inr64, bNot, Int.ofNat_eq_natCast, Int.natCast_zero, decide_eq_true_eq, decide_eq_false_iff_not, Bool.not_eq_true, Bool.not_eq_false, Bool.not_eq_eq_eq_not, Bool.not_true, Bool.not_false, beq_iff_eq, beq_eq_false_iff_ne, ne_eq, Bool.true_eq_false, Bool.false_eq_true, cond_true, cond_false] at *; omega
  have htl : t.length ≤ 12 := by obtain rfl := X.a; subst hd; subst he; simp only [Std_x0, Std_x1, Std_len, Std_lt, Std_le, Std_eq, Std_add, Std_sub, Std_mul, Std_not, Std_ite, Std_str, Std_bool, Std_int, Std_slen, Std_seq, Std_slt', Std_beq, Std_idx, Std_bnd, Std_same, Std_max', Std_min', Std_partI, Std_app, Std_len_app, Std_len_lit, Std_len_setc, List.length_take, List.length_drop, List.length_append, List.length_cons, List.length_nil, Int.toNat_natCast, Std_inr64, bNot, Int.ofNat_eq_natCast, Int.natCast_zero, decide_eq_true_eq, decide_eq_false_iff_not, Bool.not_eq_true, Bool.not_eq_false, Bool.not_eq_eq_eq_not, Bool.not_true, Bool.not_false, beq_iff_eq, beq_eq_false_iff_ne, ne_eq, Bool.true_eq_false, Bool.false_eq_true, cond_true, cond_false] at *; omega
  refine X.call (F11 hd (by omega) fun r1 hr1 => ?_)
  cbv
  repeat' (first | apply And.intro | exact fun (_ : False → False) => by kernel_rfl | (intro h2; cbv) | apply Or.inl)
  refine X.call (F12 hd (by omega) fun r2 hr2 => ?_)
  cbv
  repeat' (first | apply And.intro | exact fun (_ : False → False) => by kernel_rfl | (intro h2; cbv) | apply Or.inl)
  have q1 := canon_lt (l := [unsat q s]) (n := 1) (by simp) (by omega)
  refine X.call (F10 hr1 hr2 q1.1 q1.2 fun b1 hb1 => ?_)
  have hb1 : b1 = true := by rw [hb1]; simp
  cbv
  repeat' (first | apply And.intro | exact fun (_ : False → False) => by kernel_rfl | (intro h2; cbv) | apply Or.inl)
  rotate_left
  · rw [hb1] at h2; exact absurd h2 (by decide)
  refine X.call (F13 hd (by omega) hp fun r3 hr3 => ?_)
  cbv
  repeat' (first | apply And.intro | exact fun (_ : False → False) => by kernel_rfl | (intro h2; cbv) | apply Or.inl)
  refine X.call (F14 hd (by omega) hp fun r4 hr4 => ?_)
  cbv
  repeat' (first | apply And.intro | exact fun (_ : False → False) => by kernel_rfl | (intro h2; cbv) | apply Or.inl)
  have q2 := canon_lt (l := [⟨path, false, oneP pl⟩, unsat q s]) (n := 2) (by simp) (by omega)
  refine X.call (F10 hr3 hr4 q2.1 q2.2 fun b2 hb2 => ?_)
  have hb2 : b2 = true := by rw [hb2]; simp
  cbv
  repeat' (first | apply And.intro | exact fun (_ : False → False) => by kernel_rfl | (intro h2; cbv) | apply Or.inl)
  rotate_left
  · rw [hb2] at h2; exact absurd h2 (by decide)
  refine X.call (F15 he (by omega) fun r5 hr5 => ?_)
  cbv
  repeat' (first | apply And.intro | exact fun (_ : False → False) => by kernel_rfl | (intro h2; cbv) | apply Or.inl)
  refine X.call (F16 he (by omega) fun r6 hr6 => ?_)
  cbv
  repeat' (first | apply And.intro | exact fun (_ : False → False) => by kernel_rfl | (intro h2; cbv) | apply Or.inl)
  have q3 := canon_lt (l := [⟨path, false, compl t⟩]) (n := 1) (by simp) (by omega)
  refine X.call (F10 hr5 hr6 q3.1 q3.2 fun b3 hb3 => ?_)
  have hb3 : b3 = true := by rw [hb3]; simp
  subst hb3
  cbv
  exact h
end Go.VC.T35
end

section
set_option linter.unusedSimpArgs false
set_option linter.unusedVariables false
set_option linter.constructorNameAsVariable false
namespace Go.VC.T35
open Go Go.VC Go.Proofs
open Go.ChangeShapes Go.WideShapes Go.ChangeAt Go.RowKit

namespace Bk
open YtkccmlagckaloaaGreat
theorem one_le {H : Type} (d : DataW H) : 1 ≤ Rows.uptoBulk d := by
  cases d with
  | lit l => cases l <;> simp [Rows.uptoBulk]
  | nil => simp [Rows.uptoBulk]
  | ptr d => simp [Rows.uptoBulk]
  | slice elems spare => simp [Rows.uptoBulk]
  | agg parts => simp [Rows.uptoBulk]
  | iface t d => simp [Rows.uptoBulk]
  | map entries => simp [Rows.uptoBulk]
  | held h => simp [Rows.uptoBulk]
theorem part_le {H : Type} {d : DataW H} : ∀ {l : List (DataW H)}, d ∈ l → Rows.uptoBulk d ≤ Rows.uptoBulkAll l
  | x :: r, h => by
    simp only [Rows.uptoBulkAll]
    rcases List.mem_cons.1 h with rfl | h
    · omega
    · have := part_le h; omega
theorem len_le {H : Type} : ∀ (l : List (DataW H)), l.length ≤ Rows.uptoBulkAll l
  | [] => by simp
  | x :: r => by have := one_le x; have := len_le r; simp only [Rows.uptoBulkAll, List.length_cons]; omega
theorem ok {H : Type} : BulkOk (H := H) Rows.uptoBulk where
  str s := by simp [Rows.uptoBulk]
  slice es sp := ⟨by have := len_le es; simp only [Rows.uptoBulk]; omega, fun e he => by have := part_le he; simp only [Rows.uptoBulk]; omega⟩
  agg ps e he := by have := part_le he; simp only [Rows.uptoBulk]; omega
  ptr d := by simp only [Rows.uptoBulk]; omega
end Bk

theorem own : ownKnob Tryz.prog.godebug = none := by kernel_rfl
theorem laid : laidOutB Tryz.prog = true := by kernel_rfl
theorem dat : [3, 4, 9, 22, 23, 25, 29, 39, 43, 45, 51, 55, 65].all (dataB tt [3, 4, 9, 22, 23, 25, 29, 39, 43, 45, 51, 55, 65]) = true := by kernel_rfl

theorem rowX {n : Nat} {Pp : Per} {vs : List Value} {row : List D} (h : RowRD tt Pp n (cksOf tt 65) vs row) : ∃ x : (Int × Int), row = encX x ∧ True := by
  rw [cks65] at h
  cases h with
  | cons _ _ _ _ _ _ h1 _ t1 =>
    cases t1 with
    | cons _ _ _ _ _ _ h2 _ t2 =>
      cases t2
      cases h1; cases h2
      exact ⟨(_, _), rfl, trivial⟩
theorem listX {n : Nat} {Pp : Per} {v : Value} {d : D} (h : RD tt Pp (.slice 65) v d) (hb : Bd n d) : ∃ l : List (Int × Int), d = encL encX l ∧ l.length ≤ n := by
  obtain ⟨rows, rfl, hl, hr⟩ := RD.rows h hb
  obtain ⟨l, rfl, _⟩ := lift_map (fun r hr' => by obtain ⟨vs, hv⟩ := hr r hr'; exact rowX hv)
  exact ⟨l, rfl, by simpa using hl⟩
theorem rowT {n : Nat} {Pp : Per} {vs : List Value} {row : List D} (h : RowRD tt Pp n (cksOf tt 51) vs row) : ∃ x : Term, row = encT x ∧ x.set.length ≤ n := by
  rw [cks51] at h
  cases h with
  | cons _ _ _ _ _ _ h1 _ t1 =>
    cases t1 with
    | cons _ _ _ _ _ _ h2 _ t2 =>
      cases t2 with
      | cons _ _ _ _ _ _ h3 hb t3 =>
        cases t3
        cases h1; cases h2
        obtain ⟨l, rfl, hl⟩ := listX h3 hb
        exact ⟨⟨_, _, l⟩, rfl, hl⟩
theorem listT {n : Nat} {Pp : Per} {v : Value} {d : D} (h : RD tt Pp (.slice 51) v d) (hb : Bd n d) : ∃ l : List Term, d = encL encT l ∧ l.length ≤ n ∧ ∀ t ∈ l, t.set.length ≤ n := by
  obtain ⟨rows, rfl, hl, hr⟩ := RD.rows h hb
  obtain ⟨l, rfl, h2⟩ := lift_map (fun r hr' => by obtain ⟨vs, hv⟩ := hr r hr'; exact rowT hv)
  exact ⟨l, rfl, by simpa using hl, h2⟩
theorem cks45 : cksOf tt 45 = [.str, .int .i64, .int .i64, .int .i64] := by kernel_rfl
theorem rowV {n : Nat} {Pp : Per} {vs : List Value} {row : List D} (h : RowRD tt Pp n (cksOf tt 45) vs row) : ∃ x : Sel, row = encV x ∧ True := by
  rw [cks45] at h
  cases h with
  | cons _ _ _ _ _ _ h1 _ t1 =>
    cases t1 with
    | cons _ _ _ _ _ _ h2 _ t2 =>
      cases t2 with
      | cons _ _ _ _ _ _ h3 _ t3 =>
        cases t3 with
        | cons _ _ _ _ _ _ h4 _ t4 =>
          cases t4
          cases h1; cases h2; cases h3; cases h4
          exact ⟨⟨_, _, _, _⟩, rfl, trivial⟩
theorem listV {n : Nat} {Pp : Per} {v : Value} {d : D} (h : RD tt Pp (.slice 45) v d) (hb : Bd n d) : ∃ l : List Sel, d = encL encV l ∧ l.length ≤ n := by
  obtain ⟨rows, rfl, hl, hr⟩ := RD.rows h hb
  obtain ⟨l, rfl, _⟩ := lift_map (fun r hr' => by obtain ⟨vs, hv⟩ := hr r hr'; exact rowV hv)
  exact ⟨l, rfl, by simpa using hl⟩

section
variable {H : Type} {enc : TypeId × Value → H} {W : World} {n base : Nat} {v : Value} {d : DataW H} {p : List MemPlace}
set_option maxRecDepth 100000 in
/-- a string among the arguments -/
theorem argS (hv : Value.okWide Tryz.prog W .any base 9 v) (h : DataW.Trod enc Tryz.prog W 0 (fun _ => true) true 9 v d p) (hb : YtkccmlagckaloaaGreat.Rows.uptoBulk d ≤ n) :
    ∃ s : List UInt8, VR tt [] (AllP W) v (.str s) ∧ s.length ≤ n := by
  obtain ⟨s, rfl, rfl, rfl, _⟩ := ChangeMaps.open_string Tryz.underlying9 hv h
  exact ⟨_, .str _, Nat.le_trans (Bk.ok.str _) hb⟩
set_option maxRecDepth 100000 in
theorem argI (hv : Value.okWide Tryz.prog W .any base 3 v) (h : DataW.Trod enc Tryz.prog W 0 (fun _ => true) true 3 v d p) :
    ∃ k : Int, VR tt [] (AllP W) v (.int .i64 k) ∧ -9223372036854775808 ≤ k ∧ k ≤ 9223372036854775807 := by
  obtain ⟨k, rfl, rfl, rfl, hw⟩ := open_int Tryz.underlying3 hv h
  exact ⟨k, .int _ _, bounds_i64 hw⟩
set_option maxRecDepth 100000 in
theorem one_row {t : TypeId} {ck : CK} (ht : [3, 4, 9, 22, 23, 25, 29, 39, 43, 45, 51, 55, 65].contains t = true) (hck : cksOf tt t = [ck]) {a : Option Addr} {l c : Nat} (h : DataW.Trod enc Tryz.prog W 0 (fun _ => true) true t (.slice a l c) d p) (hb : YtkccmlagckaloaaGreat.Rows.uptoBulk d ≤ n) :
    ∃ e, RD tt (AllP W) ck (.slice a l c) e ∧ Bd n e := by
  obtain ⟨fuel, hf⟩ := h
  obtain ⟨ds, hds⟩ := trod_row (n := n) tt_ok dat (bulk := YtkccmlagckaloaaGreat.Rows.uptoBulk) Bk.ok fuel t _ _ ht hf hb
  rw [hck] at hds
  cases hds with
  | cons _ _ e _ _ _ h1 h2 t1 => exact ⟨e, h1, h2⟩
set_option maxRecDepth 100000 in
theorem argX {t : TypeId} (ht : t = 23) (hv : Value.okWide Tryz.prog W .any base t v) (h : DataW.Trod enc Tryz.prog W 0 (fun _ => true) true t v d p) (hb : YtkccmlagckaloaaGreat.Rows.uptoBulk d ≤ n) :
    ∃ (e : D) (l : List (Int × Int)), VR tt [] (AllP W) v (.lst 65 e) ∧ e = encL encX l ∧ l.length ≤ n := by
  subst ht
  obtain ⟨a, len, cap, rfl⟩ := okWide_slice Tryz.underlying23 hv
  obtain ⟨e, h1, h2⟩ := one_row (by decide) (by kernel_rfl) h hb
  obtain ⟨l, he, hl⟩ := listX h1 h2
  exact ⟨e, l, .lst _ _ _ h1, he, hl⟩
set_option maxRecDepth 100000 in
theorem argT (hv : Value.okWide Tryz.prog W .any base 29 v) (h : DataW.Trod enc Tryz.prog W 0 (fun _ => true) true 29 v d p) (hb : YtkccmlagckaloaaGreat.Rows.uptoBulk d ≤ n) :
    ∃ (e : D) (l : List Term), VR tt [] (AllP W) v (.lst 51 e) ∧ e = encL encT l ∧ l.length ≤ n ∧ ∀ t ∈ l, t.set.length ≤ n := by
  obtain ⟨a, len, cap, rfl⟩ := okWide_slice Tryz.underlying29 hv
  obtain ⟨e, h1, h2⟩ := one_row (by decide) (by kernel_rfl) h hb
  obtain ⟨l, he, hl⟩ := listT h1 h2
  exact ⟨e, l, .lst _ _ _ h1, he, hl⟩
set_option maxRecDepth 100000 in
theorem argV (hv : Value.okWide Tryz.prog W .any base 39 v) (h : DataW.Trod enc Tryz.prog W 0 (fun _ => true) true 39 v d p) (hb : YtkccmlagckaloaaGreat.Rows.uptoBulk d ≤ n) :
    ∃ (e : D) (l : List Sel), VR tt [] (AllP W) v (.lst 45 e) ∧ e = encL encV l ∧ l.length ≤ n := by
  obtain ⟨a, len, cap, rfl⟩ := okWide_slice Tryz.underlying39 hv
  obtain ⟨e, h1, h2⟩ := one_row (by decide) (by kernel_rfl) h hb
  obtain ⟨l, he, hl⟩ := listV h1 h2
  exact ⟨e, l, .lst _ _ _ h1, he, hl⟩
set_option maxRecDepth 100000 in
theorem argQ (hv : Value.okWide Tryz.prog W .any base 25 v) (h : DataW.Trod enc Tryz.prog W 0 (fun _ => true) true 25 v d p) (hb : YtkccmlagckaloaaGreat.Rows.uptoBulk d ≤ n) :
    ∃ (s : List UInt8) (e : D) (l : List (Int × Int)), VR tt [] (AllP W) v (.agg [.str s, .lst 65 e]) ∧ e = encL encX l ∧ l.length ≤ n := by
  obtain ⟨cs, rfl, _⟩ := okWide_struct Tryz.underlying25 hv
  obtain ⟨fuel, hf⟩ := h
  obtain ⟨ds, hds⟩ := trod_row (n := n) tt_ok dat (bulk := YtkccmlagckaloaaGreat.Rows.uptoBulk) Bk.ok fuel 25 _ _ (by decide) hf hb
  rw [show cksOf tt 25 = [.str, .slice 65] by kernel_rfl] at hds
  generalize hx : (Value.agg cs).cells.toList = vs at hds
  have hcs : cs = ⟨vs⟩ := by rw [← hx]; rfl
  subst hcs
  clear hx hf
  cases hds with
  | cons _ _ _ _ _ _ h1 _ t1 =>
    cases t1 with
    | cons _ _ e _ _ _ h2 hb2 t2 =>
      cases t2
      cases h1
      obtain ⟨l, he, hl⟩ := listX h2 hb2
      exact ⟨_, e, l, .agg _ _ (.cons _ _ _ _ (.str _) (.cons _ _ _ _ (.lst _ _ _ h2) .nil)), he, hl⟩
end
end Go.VC.T35
end

section
set_option linter.unusedSimpArgs false
set_option linter.unusedVariables false
namespace Go.VC.T35
open Go Go.VC Go.Proofs

theorem few_len {l : List Term} (h : few l = true) : l.length ≤ 12 ∧ ∀ t ∈ l, t.set.length ≤ 12 := by
  simp only [few, Bool.and_eq_true, decide_eq_true_eq, List.all_eq_true, few1] at h
  exact ⟨h.2, fun t ht => (h.1 t ht).2⟩
theorem few_some {l : List Term} (h : few l = true) : l.length ≤ 400 ∧ ∀ t ∈ l, t.set.length ≤ 2000000 := by
  have := few_len h
  exact ⟨by omega, fun t ht => by have := this.2 t ht; omega⟩
theorem resolveT_lt {a b : List Term} {p : List UInt8} (ha : a.length ≤ 400) (hb : b.length ≤ 400) : (resolveT a b p).1.length < 4294967296 ∧ ∀ t ∈ (resolveT a b p).1, t.set.length < 4294967296 := by
  unfold resolveT resolveX
  split
  · split
    · rename_i s t hs ht
      split
      · refine canon_lt (n := 801) ?_ (by omega)
        have h1 := without_len (l := (canonT a).1) (p := p)
        have h2 := without_len (l := (canonT b).1) (p := p)
        have h3 := canonT_len (l := a)
        have h4 := canonT_len (l := b)
        simp only [List.length_append, List.length_cons, List.length_nil]
        omega
      · exact ⟨by simp, fun t ht => by simp at ht⟩
    · exact ⟨by simp, fun t ht => by simp at ht⟩
  · exact ⟨by simp, fun t ht => by simp at ht⟩

set_option maxRecDepth 100000 in
set_option maxHeartbeats 2000000 in
theorem F4 {a b : List Term} {path : List UInt8} {d e : D} {K : PV → List Ob → Prop} (hd : d = encL encT a) (he : e = encL encT b) (ha : a.length < 4294967296) (hb : b.length < 4294967296)
    (h : K (.bool true) []) : FC Tryz.prog tt 4 [] [.lst 51 d, .lst 51 e, .str path] K := by
  refine FC.enter (G := g4) tt_ok mixed ⟨Tryz.func4, by rfl, rfl⟩ rfl rfl rfl ?_
  intro A C L X
  cbv
  refine X.call (F9 ?_)
  cbv
  repeat' (first | apply And.intro | exact fun (_ : False → False) => by kernel_rfl | (intro h2; cbv) | apply Or.inl)
  · exfalso; obtain rfl := X.a; simp only [Std_x0, Std_x1, Std_len, Std_lt, Std_le, Std_eq, Std_add, Std_sub, Std_mul, Std_not, Std_ite, Std_str, Std_bool, Std_int, Std_slen, Std_seq, Std_slt', Std_beq, Std_idx, Std_bnd, Std_same, Std_max', Std_min', Std_partI, Std_app, Std_len_app, Std_len_lit, Std_len_setc, List.length_take, List.length_drop, List.length_append, List.length_cons, List.length_nil, Int.toNat_natCast, Std_inr64, bNot, Int.ofNat_eq_natCast, Int.natCast_zero, decide_eq_true_eq, decide_eq_false_iff_not, Bool.not_eq_true, Bool.not_eq_false, Bool.not_eq_eq_eq_not, Bool.not_true, Bool.not_false, beq_iff_eq, beq_eq_false_iff_ne, ne_eq, Bool.true_eq_false, Bool.false_eq_true, cond_true, cond_false] at *; done
  refine X.call (F17 hd ha fun f1 hf1 => ?_)
  cbv
  repeat' (first | apply And.intro | exact fun (_ : False → False) => by kernel_rfl | (intro h2; cbv) | apply Or.inl)
  rotate_left
  · exact h
  refine X.call (F17 he hb fun f2 hf2 => ?_)
  cbv
  repeat' (first | apply And.intro | exact fun (_ : False → False) => by kernel_rfl | (intro h2; cbv) | apply Or.inl)
  · exact h
  rotate_left
  · exact h
  have h1 : few a = true := by obtain rfl := X.a; simp only [Std_x0, Std_x1, Std_len, Std_lt, Std_le, Std_eq, Std_add, Std_sub, Std_mul, Std_not, Std_ite, Std_str, Std_bool, Std_int, Std_slen, Std_seq, Std_slt', Std_beq, Std_idx, Std_bnd, Std_same, Std_max', Std_min', Std_partI, Std_app, Std_len_app, Std_len_lit, Std_len_setc, List.length_take, List.length_drop, List.length_append, List.length_cons, List.length_nil, Int.toNat_natCast, Std_inr64, bNot, Int.ofNat_eq_natCast, Int.natCast_zero, decide_eq_true_eq, decide_eq_false_iff_not, Bool.not_eq_true, Bool.not_eq_false, Bool.not_eq_eq_eq_not, Bool.not_true, Bool.not_false, beq_iff_eq, beq_eq_false_iff_ne, ne_eq, Bool.true_eq_false, Bool.false_eq_true, cond_true, cond_false] at *; simp_all
  have h2 : few b = true := by obtain rfl := X.a; simp only [Std_x0, Std_x1, Std_len, Std_lt, Std_le, Std_eq, Std_add, Std_sub, Std_mul, Std_not, Std_ite, Std_str, Std_bool, Std_int, Std_slen, Std_seq, Std_slt', Std_beq, Std_idx, Std_bnd, Std_same, Std_max', Std_min', Std_partI, Std_app, Std_len_app, Std_len_lit, Std_len_setc, List.length_take, List.length_drop, List.length_append, List.length_cons, List.length_nil, Int.toNat_natCast, Std_inr64, bNot, Int.ofNat_eq_natCast, Int.natCast_zero, decide_eq_true_eq, decide_eq_false_iff_not, Bool.not_eq_true, Bool.not_eq_false, Bool.not_eq_eq_eq_not, Bool.not_true, Bool.not_false, beq_iff_eq, beq_eq_false_iff_ne, ne_eq, Bool.true_eq_false, Bool.false_eq_true, cond_true, cond_false] at *; simp_all
  have g1 := few_some h1
  have g2 := few_some h2
  refine X.call (F18 hd he g1.1 g2.1 g1.2 g2.2 fun r1 e1 hr1 he1 => ?_)
  cbv
  refine X.call (F19 hd he g1.1 g2.1 g1.2 g2.2 fun r2 e2 hr2 he2 => ?_)
  cbv
  have g3 := resolveT_lt (p := path) g1.1 g2.1
  refine X.call (F10 hr1 hr2 g3.1 g3.2 fun b1 hb1 => ?_)
  have hb1 : b1 = true := by rw [hb1]; simp
  have c1 : A.eq e1 e2 = true := by rw [X.a, he1, he2]; simp only [Std_x0, Std_x1, Std_len, Std_lt, Std_le, Std_eq, Std_add, Std_sub, Std_mul, Std_not, Std_ite, Std_str, Std_bool, Std_int, Std_slen, Std_seq, Std_slt', Std_beq, Std_idx, Std_bnd, Std_same, Std_max', Std_min', Std_partI, Std_app, Std_len_app, Std_len_lit, Std_len_setc, List.length_take, List.length_drop, List.length_append, List.length_cons, List.length_nil, Int.toNat_natCast, Std_inr64, bNot, Int.ofNat_eq_natCast, Int.natCast_zero, decide_eq_true_eq, decide_eq_false_iff_not, Bool.not_eq_true, Bool.not_eq_false, Bool.not_eq_eq_eq_not, Bool.not_true, Bool.not_false, beq_iff_eq, beq_eq_false_iff_ne, ne_eq, Bool.true_eq_false, Bool.false_eq_true, cond_true, cond_false]
  cbv
  repeat' (first | apply And.intro | exact fun (_ : False → False) => by kernel_rfl | (intro h2; cbv) | apply Or.inl)
  rotate_left
  · rw [c1] at h2; exact absurd h2 (by decide)
  · rw [hb1] at h2; exact absurd h2 (by decide)
  refine X.call (F20 hd he g1.1 g2.1 g1.2 g2.2 fun r3 hr3 => ?_)
  cbv
  repeat' (first | apply And.intro | exact fun (_ : False → False) => by kernel_rfl | (intro h2; cbv) | apply Or.inl)
  refine X.call (F21 hd he g1.1 g2.1 g1.2 g2.2 fun r4 hr4 => ?_)
  have c2 : A.beq r3 r4 = true := by obtain rfl := X.a; rw [hr3, hr4]; simp only [Std_x0, Std_x1, Std_len, Std_lt, Std_le, Std_eq, Std_add, Std_sub, Std_mul, Std_not, Std_ite, Std_str, Std_bool, Std_int, Std_slen, Std_seq, Std_slt', Std_beq, Std_idx, Std_bnd, Std_same, Std_max', Std_min', Std_partI, Std_app, Std_len_app, Std_len_lit, Std_len_setc, List.length_take, List.length_drop, List.length_append, List.length_cons, List.length_nil, Int.toNat_natCast, Std_inr64, bNot, Int.ofNat_eq_natCast, Int.natCast_zero, decide_eq_true_eq, decide_eq_false_iff_not, Bool.not_eq_true, Bool.not_eq_false, Bool.not_eq_eq_eq_not, Bool.not_true, Bool.not_false, beq_iff_eq, beq_eq_false_iff_ne, ne_eq, Bool.true_eq_false, Bool.false_eq_true, cond_true, cond_false]; try simp
  have q : K (.bool (A.beq r3 r4)) [] := by rw [c2]; exact h
  cbv
  exact q
end Go.VC.T35
end

section
/- What lists of terms mean: the states that they leave to each path. No program in sight. -/
set_option linter.unusedSimpArgs false
set_option linter.unusedVariables false
namespace Go.VC.T35
open Go.VC

/-- the state of a path: no release, or a place -/
abbrev State := Option Int
def hasT (t : Term) : State → Prop
  | none => t.absent = true
  | some p => pl t.set p
def okSt : State → Prop
  | none => True
  | some p => 0 ≤ p ∧ p < 1000000
/-- the states that a list leaves to a path -/
def semT (l : List Term) (q : List UInt8) (σ : State) : Prop := okSt σ ∧ ∀ t ∈ l, t.path = q → hasT t σ

theorem semT_nil {q : List UInt8} {σ : State} : semT [] q σ ↔ okSt σ := by simp [semT]
theorem semT_cons {t : Term} {l : List Term} {q : List UInt8} {σ : State} : semT (t :: l) q σ ↔ (t.path = q → hasT t σ) ∧ semT l q σ := by
  simp only [semT, List.mem_cons, forall_eq_or_imp]
  constructor
  · rintro ⟨h1, h2, h3⟩; exact ⟨h2, h1, h3⟩
  · rintro ⟨h2, h1, h3⟩; exact ⟨h1, h2, h3⟩
theorem semT_append {l k : List Term} {q : List UInt8} {σ : State} : semT (l ++ k) q σ ↔ semT l q σ ∧ semT k q σ := by
  induction l with
  | nil => simp only [List.nil_append, semT_nil]; exact ⟨fun h => ⟨h.1, h⟩, fun h => h.2⟩
  | cons t l ih => simp only [List.cons_append, semT_cons, ih, and_assoc]
theorem hasT_norm {t : Term} {σ : State} : hasT (normT t) σ ↔ hasT t σ := by
  cases σ with
  | none => rfl
  | some p => exact pl_canon
theorem hasT_both {a b : Term} {σ : State} (h : okSt σ) : hasT (both a b) σ ↔ hasT a σ ∧ hasT b σ := by
  cases σ with
  | none => simp [hasT, both]
  | some p =>
    obtain ⟨h0, h1⟩ := h
    simp only [hasT, both, pl_inter, List.mem_cons, List.not_mem_nil, or_false, forall_eq_or_imp, forall_eq]
    exact ⟨fun h => h.2.2, fun h => ⟨h0, h1, h⟩⟩
theorem hasT_either {p : List UInt8} {a b : Term} {σ : State} : hasT (eitherT p a b) σ ↔ hasT a σ ∨ hasT b σ := by
  cases σ with
  | none => simp [hasT, eitherT]
  | some p => simp [hasT, eitherT, pl_union]
theorem semT_addT {t : Term} {m : List Term} {q : List UInt8} {σ : State} : semT (addT t m) q σ ↔ semT m q σ ∧ (t.path = q → hasT t σ) := by
  induction m with
  | nil => simp only [addT, semT_cons, semT_nil]; exact and_comm
  | cons u m ih =>
    simp only [addT]
    split
    · simp only [semT_cons, ih, and_assoc]
    · split
      · rename_i hp
        simp only [semT_cons]
        by_cases ho : okSt σ
        · rw [show (both u t).path = u.path from rfl, hasT_both ho, hp]
          constructor
          · rintro ⟨h1, h2⟩; exact ⟨⟨fun h => (h1 h).1, h2⟩, fun h => (h1 h).2⟩
          · rintro ⟨⟨h1, h2⟩, h3⟩; exact ⟨fun h => ⟨h1 h, h3 h⟩, h2⟩
        · constructor
          · rintro ⟨_, h2⟩; exact absurd h2.1 ho
          · rintro ⟨⟨_, h2⟩, _⟩; exact absurd h2.1 ho
      · simp only [semT_cons]
        constructor
        · rintro ⟨h1, h2, h3⟩; exact ⟨⟨h2, h3⟩, h1⟩
        · rintro ⟨⟨h2, h3⟩, h1⟩; exact ⟨h1, h2, h3⟩
theorem semT_merged {m l : List Term} {q : List UInt8} {σ : State} : semT (mergedT m l) q σ ↔ semT m q σ ∧ semT l q σ := by
  induction l generalizing m with
  | nil => simp only [mergedT, semT_nil]; exact ⟨fun h => ⟨h, h.1⟩, fun h => h.1⟩
  | cons t l ih =>
    simp only [mergedT, ih, semT_addT, semT_cons, hasT_norm, show (normT t).path = t.path from rfl, and_assoc]
theorem srt_inj {M : List Term} (hs : SrtT M) {u t : Term} (hu : u ∈ M) (ht : t ∈ M) (he : u.path = t.path) : u = t := by
  induction M with
  | nil => simp at hu
  | cons x M ih =>
    obtain ⟨h1, h2⟩ := List.pairwise_cons.1 hs
    rcases List.mem_cons.1 hu with e1 | e1 <;> rcases List.mem_cons.1 ht with e2 | e2
    · rw [e1, e2]
    · have := h1 t e2; rw [← e1, he, slt_irrefl] at this; cases this
    · have := h1 u e1; rw [← e2, he, slt_irrefl] at this; cases this
    · exact ih h2 e1 e2
theorem semT_one {M : List Term} (hs : SrtT M) {t : Term} (ht : t ∈ M) {σ : State} : semT M t.path σ ↔ okSt σ ∧ hasT t σ := by
  constructor
  · intro h; exact ⟨h.1, h.2 t ht rfl⟩
  · rintro ⟨h1, h2⟩
    refine ⟨h1, fun u hu he => ?_⟩
    rw [srt_inj hs hu ht he]; exact h2
theorem canAll : Can [(0, 1000000)] := by simp [Can, CanF]
theorem tAlways_has {t : Term} (h : tAlways t = true) {σ : State} (ho : okSt σ) : hasT t σ := by
  simp only [tAlways, Bool.and_eq_true, beq_iff_eq] at h
  cases σ with
  | none => exact h.1
  | some p =>
    obtain ⟨h0, h1⟩ := ho
    show pl t.set p
    rw [h.2]
    exact ⟨h0, h1, (0, 1000000), by simp, h0, h1⟩
theorem not_always {t : Term} (hc : Can t.set) (h : tAlways t = false) : ∃ σ, okSt σ ∧ ¬ hasT t σ := by
  by_cases ha : t.absent = true
  · by_cases hall : ∀ p, 0 ≤ p ∧ p < 1000000 → pl t.set p
    · exfalso
      have : t.set = [(0, 1000000)] := Can.uniq hc canAll fun p => ⟨fun hp => ⟨hp.1, hp.2.1, (0, 1000000), by simp, hp.1, hp.2.1⟩, fun hp => hall p ⟨hp.1, hp.2.1⟩⟩
      simp [tAlways, ha, this] at h
    · simp only [Classical.not_forall] at hall
      obtain ⟨p, hp, hn⟩ := hall
      exact ⟨some p, hp, hn⟩
  · exact ⟨none, trivial, ha⟩
theorem not_never {t : Term} (hc : Can t.set) (h : tNever t = false) : ∃ σ, okSt σ ∧ hasT t σ := by
  by_cases ha : t.absent = true
  · exact ⟨none, trivial, ha⟩
  · have hne : ¬ t.set = [] := by
      intro he
      simp [tNever, ha, he] at h
    rw [can_nil_iff hc] at hne
    simp only [Classical.not_forall, Classical.not_not] at hne
    obtain ⟨p, hp⟩ := hne
    exact ⟨some p, ⟨hp.1, hp.2.1⟩, hp⟩
theorem never_has {t : Term} (h : tNever t = true) {σ : State} : ¬ hasT t σ := by
  simp only [tNever, Bool.and_eq_true, Bool.not_eq_true', List.isEmpty_iff] at h
  cases σ with
  | none => intro h2; rw [show t.absent = true from h2] at h; exact absurd h.1 (by simp)
  | some p =>
    rintro ⟨_, _, x, hx, _⟩
    rw [h.2] at hx; simp at hx

theorem merged_srt {l : List Term} : SrtT (mergedT [] l) := SrtT.merged List.Pairwise.nil
theorem merged_can {l : List Term} : CanT (mergedT [] l) := CanT.mergedT (fun t ht => by simp at ht)
theorem sem_merged0 {l : List Term} {q : List UInt8} {σ : State} : semT (mergedT [] l) q σ ↔ semT l q σ := by
  rw [semT_merged, semT_nil]; exact ⟨fun h => h.2, fun h => ⟨h.1, h⟩⟩
theorem canon_ok_iff {l : List Term} : (canonT l).2 = true ↔ ∀ q, ∃ σ, semT l q σ := by
  have hd : (canonT l).2 = true ↔ ∀ t ∈ mergedT [] l, tNever t = false := by
    unfold canonT
    split
    · rename_i h
      rw [List.any_eq_true] at h
      obtain ⟨t, ht, hn⟩ := h
      refine ⟨fun h => (by cases h), fun h => ?_⟩
      have := h t ht
      rw [hn] at this; cases this
    · rename_i h
      have h : (mergedT [] l).any tNever = false := by simpa using h
      rw [List.any_eq_false] at h
      exact ⟨fun _ t ht => by simpa using h t ht, fun _ => rfl⟩
  rw [hd]
  constructor
  · intro h q
    by_cases hq : ∃ t ∈ mergedT [] l, t.path = q
    · obtain ⟨t, ht, rfl⟩ := hq
      obtain ⟨σ, h1, h2⟩ := not_never (merged_can t ht) (h t ht)
      exact ⟨σ, sem_merged0.1 ((semT_one merged_srt ht).2 ⟨h1, h2⟩)⟩
    · exact ⟨none, sem_merged0.1 ⟨trivial, fun t ht he => absurd ⟨t, ht, he⟩ hq⟩⟩
  · intro h t ht
    cases hn : tNever t with
    | false => rfl
    | true =>
      obtain ⟨σ, hσ⟩ := h t.path
      have := (semT_one merged_srt ht).1 (sem_merged0.2 hσ)
      exact absurd this.2 (never_has hn)
theorem sem_canon {l : List Term} (h : (canonT l).2 = true) {q : List UInt8} {σ : State} : semT (canonT l).1 q σ ↔ semT l q σ := by
  rw [← sem_merged0 (l := l)]
  unfold canonT at *
  split at h
  · cases h
  · rename_i hn
    rw [if_neg hn]
    show semT ((mergedT [] l).filter fun t => !tAlways t) q σ ↔ _
    constructor
    · rintro ⟨h1, h2⟩
      refine ⟨h1, fun t ht he => ?_⟩
      cases ha : tAlways t with
      | true => exact tAlways_has ha h1
      | false => exact h2 t (List.mem_filter.2 ⟨ht, by simp [ha]⟩) he
    · rintro ⟨h1, h2⟩
      exact ⟨h1, fun t ht he => h2 t (List.mem_filter.1 ht).1 he⟩
/-- no term of it leaves all states -/
def NonA (l : List Term) : Prop := ∀ t ∈ l, ∃ σ, okSt σ ∧ ¬ hasT t σ
theorem canonT_nonA {l : List Term} : NonA (canonT l).1 := by
  intro t ht
  refine not_always (canonT_can t ht) ?_
  unfold canonT at ht
  split at ht
  · simp at ht
  · simpa using (List.mem_filter.1 ht).2
theorem sub_of_sem {x y : List Term} (hx : SrtT x) (hy : SrtT y) (cx : CanT x) (cy : CanT y) (hn : NonA x) (h : ∀ q σ, semT x q σ ↔ semT y q σ) : ∀ t ∈ x, t ∈ y := by
  intro t ht
  obtain ⟨σ0, h0, h1⟩ := hn t ht
  have h2 : ¬ semT y t.path σ0 := by
    rw [← h, semT_one hx ht]; exact fun h => h1 h.2
  have h3 : ∃ u ∈ y, u.path = t.path := by
    by_cases hu : ∃ u ∈ y, u.path = t.path
    · exact hu
    · exact absurd ⟨h0, fun u hm he => absurd ⟨u, hm, he⟩ hu⟩ h2
  obtain ⟨u, hu, he⟩ := h3
  have h4 : ∀ σ, okSt σ → (hasT t σ ↔ hasT u σ) := by
    intro σ ho
    have e1 := semT_one hx ht (σ := σ)
    have e2 := semT_one hy hu (σ := σ)
    rw [h, ← he, e2] at e1
    exact ⟨fun k => (e1.2 ⟨ho, k⟩).2, fun k => (e1.1 ⟨ho, k⟩).2⟩
  have e1 : t.absent = u.absent := by
    have := h4 none trivial
    simp only [hasT] at this
    cases ha : t.absent <;> cases hb : u.absent <;> simp [ha, hb] at this ⊢
  have e2 : t.set = u.set := Can.uniq (cx t ht) (cy u hu) fun p =>
    ⟨fun hp => (h4 (some p) ⟨hp.1, hp.2.1⟩).1 hp, fun hp => (h4 (some p) ⟨hp.1, hp.2.1⟩).2 hp⟩
  have : t = u := by
    cases t; cases u; simp only at e1 e2 he; subst e1 e2 he; rfl
  rw [this]; exact hu
theorem sem_uniq {x y : List Term} (hx : SrtT x) (hy : SrtT y) (cx : CanT x) (cy : CanT y) (nx : NonA x) (ny : NonA y) (h : ∀ q σ, semT x q σ ↔ semT y q σ) : x = y := by
  have nd : ∀ {l : List Term}, SrtT l → l.Nodup := fun hs => List.Pairwise.of_map (S := (· ≠ ·)) (fun t => t.path) (fun a b h e => h (by rw [e])) hs.nodup
  have hp : x.Perm y := (List.perm_ext_iff_of_nodup (nd hx) (nd hy)).2 fun t => ⟨sub_of_sem hx hy cx cy nx h t, sub_of_sem hy hx cy cx ny (fun q σ => (h q σ).symm) t⟩
  refine sortedT_uniq hp (fun i j hi hj hij => ?_) hy
  exact slt_asymm (List.pairwise_iff_getElem.1 hx i j hi hj hij)
theorem canonT_ext {l k : List Term} (h : ∀ q σ, semT l q σ ↔ semT k q σ) : canonT l = canonT k := by
  have h2 : (canonT l).2 = (canonT k).2 := by
    rw [Bool.eq_iff_iff, canon_ok_iff, canon_ok_iff]
    exact ⟨fun g q => by obtain ⟨σ, hσ⟩ := g q; exact ⟨σ, (h q σ).1 hσ⟩, fun g q => by obtain ⟨σ, hσ⟩ := g q; exact ⟨σ, (h q σ).2 hσ⟩⟩
  refine Prod.ext ?_ h2
  cases hk : (canonT k).2 with
  | false => rw [canonT_false (h2.trans hk), canonT_false hk]
  | true => exact sem_uniq canonT_srt canonT_srt canonT_can canonT_can canonT_nonA canonT_nonA fun q σ => by rw [sem_canon (h2.trans hk), sem_canon hk, h]

/-- the state of a path in a selection; none, where its version is not valid -/
def stS (s : List Sel) (q : List UInt8) : Option State := match s.find? (fun y => y.path == q) with
  | none => some none
  | some y => if okS y = true then some (some (placeS y)) else none
theorem stS_ok {s : List Sel} {q : List UInt8} {σ : State} (h : stS s q = some σ) : okSt σ := by
  unfold stS at h
  split at h
  · cases h; trivial
  · rename_i y _
    split at h
    · rename_i ho
      cases h
      simp only [okS, validV, Bool.and_eq_true, decide_eq_true_eq] at ho
      simp only [okSt, placeS]
      omega
    · cases h
theorem holds_iff {t : Term} {s : List Sel} : holdsS t s = true ↔ ∃ σ, stS s t.path = some σ ∧ hasT t σ := by
  unfold holdsS stS
  cases hf : s.find? (fun y => y.path == t.path) with
  | none => simp [hasT]
  | some y =>
    by_cases ho : okS y = true
    · simp only [ho, Bool.true_and, if_true, Option.some.injEq, exists_eq_left', hasT, hasS_iff]
    · simp [ho]
theorem viol_iff {l : List Term} {s : List Sel} : violS l s = true ↔ ∀ t ∈ l, ∃ σ, stS s t.path = some σ ∧ hasT t σ := by
  rw [violS, List.all_eq_true]
  exact ⟨fun h t ht => holds_iff.1 (h t ht), fun h t ht => holds_iff.2 (h t ht)⟩
def AllOk (s : List Sel) : Prop := ∀ q, ∃ σ, stS s q = some σ
theorem allOk_of {s : List Sel} (h : s.any (fun y => !okS y) = false) : AllOk s := by
  intro q
  unfold stS
  split
  · exact ⟨_, rfl⟩
  · rename_i y hy
    rw [List.any_eq_false] at h
    have := h y (List.mem_of_find?_eq_some hy)
    have : okS y = true := by simpa using this
    rw [if_pos this]; exact ⟨_, rfl⟩
theorem viol_sem {l : List Term} {s : List Sel} (h : AllOk s) : violS l s = true ↔ ∀ q σ, stS s q = some σ → semT l q σ := by
  rw [viol_iff]
  constructor
  · intro hl q σ hσ
    refine ⟨stS_ok hσ, fun t ht he => ?_⟩
    obtain ⟨σ', h1, h2⟩ := hl t ht
    rw [he, hσ] at h1; cases h1; exact h2
  · intro hl t ht
    obtain ⟨σ, hσ⟩ := h t.path
    exact ⟨σ, hσ, (hl _ _ hσ).2 t ht rfl⟩
theorem findT'_of {x : List Term} (hs : SrtT x) {t : Term} (ht : t ∈ x) : findT' x t.path = some t := by
  cases hf : findT' x t.path with
  | none =>
    rw [findT', List.find?_eq_none] at hf
    have := hf t ht
    simp at this
  | some u =>
    obtain ⟨h1, h2⟩ := findT'_mem hf
    rw [srt_inj hs h1 ht h2]
theorem sem_without {x : List Term} {p q : List UInt8} {σ : State} : semT (without x p) q σ ↔ okSt σ ∧ (q ≠ p → semT x q σ) := by
  constructor
  · rintro ⟨h1, h2⟩
    refine ⟨h1, fun hne => ⟨h1, fun t ht he => h2 t (List.mem_filter.2 ⟨ht, ?_⟩) he⟩⟩
    rw [he]; simp [hne]
  · rintro ⟨h1, h2⟩
    refine ⟨h1, fun t ht he => ?_⟩
    obtain ⟨h3, h4⟩ := List.mem_filter.1 ht
    have hne : q ≠ p := by rw [← he]; simpa using h4
    exact (h2 hne).2 t h3 he
end Go.VC.T35
end

section
/- The laws of chapter 35 on lists of terms. No program in sight. -/
set_option linter.unusedSimpArgs false
set_option linter.unusedVariables false
namespace Go.VC.T35
open Go.VC

/-! ### TermSubsumed -/
theorem sub1_iff {y : List Term} (hy : SrtT y) {t : Term} (hn : ∃ σ, okSt σ ∧ ¬ hasT t σ) : sub1 y t = true ↔ ∀ σ, semT y t.path σ → hasT t σ := by
  have key : ∀ {u : Term}, ((!(u.absent && !t.absent) && subset u.set t.set) = true) ↔ ∀ σ, okSt σ → hasT u σ → hasT t σ := by
    intro u
    simp only [Bool.and_eq_true, Bool.not_eq_true', Bool.and_eq_false_iff, Bool.not_eq_false', subset_iff]
    constructor
    · rintro ⟨h1, h2⟩ σ ho hu
      cases σ with
      | none => rcases h1 with h1 | h1
                · rw [show u.absent = true from hu] at h1; cases h1
                · exact h1
      | some p => exact h2 p hu
    · intro h
      refine ⟨?_, fun p hp => h (some p) ⟨hp.1, hp.2.1⟩ hp⟩
      cases ha : u.absent with
      | false => exact .inl rfl
      | true => exact .inr (h none trivial ha)
  unfold sub1
  cases hf : findT' y t.path with
  | none =>
    simp only [Bool.false_eq_true, false_iff]
    intro h
    obtain ⟨σ, ho, hx⟩ := hn
    refine hx (h σ ⟨ho, fun u hu he => ?_⟩)
    rw [findT', List.find?_eq_none] at hf
    have := hf u hu
    rw [he] at this; simp at this
  | some u =>
    obtain ⟨h1, h2⟩ := findT'_mem hf
    show ((!(u.absent && !t.absent) && subset u.set t.set) = true) ↔ _
    rw [key, ← h2]
    exact ⟨fun h σ hσ => by rw [semT_one hy h1] at hσ; exact h σ hσ.1 hσ.2, fun h σ ho hu => h σ ((semT_one hy h1).2 ⟨ho, hu⟩)⟩
theorem subsumes_iff {a b : List Term} (hb : (canonT b).2 = true) : subsumesT a b = true ↔ (canonT a).2 = true ∧ ∀ q σ, semT b q σ → semT a q σ := by
  unfold subsumesT subsumesX
  rw [hb]
  cases ha : (canonT a).2 with
  | false => simp
  | true =>
    simp only [and_self, if_true, true_and, List.all_eq_true]
    constructor
    · intro h q σ hq
      rw [← sem_canon ha]
      refine ⟨hq.1, fun t ht he => ?_⟩
      have := (sub1_iff canonT_srt (canonT_nonA t ht)).1 (h t ht)
      refine this σ ?_
      rw [sem_canon hb, he]; exact hq
    · intro h t ht
      refine (sub1_iff canonT_srt (canonT_nonA t ht)).2 fun σ hσ => ?_
      rw [sem_canon hb] at hσ
      have := h _ _ hσ
      rw [← sem_canon ha] at this
      exact this.2 t ht rfl
theorem law7a {a b : List Term} {s : List Sel} (h1 : subsumesT a b = true) (h2 : violS b s = true) (h3 : violS a s = false) : s.any (fun y => !okS y) = true := by
  cases hs : s.any (fun y => !okS y) with
  | true => rfl
  | false =>
    exfalso
    have hok := allOk_of hs
    have hv := (viol_sem hok).1 h2
    have hb : (canonT b).2 = true := canon_ok_iff.2 fun q => by obtain ⟨σ, hσ⟩ := hok q; exact ⟨σ, hv q σ hσ⟩
    obtain ⟨_, h4⟩ := (subsumes_iff hb).1 h1
    have : violS a s = true := (viol_sem hok).2 fun q σ hσ => h4 q σ (hv q σ hσ)
    rw [this] at h3; cases h3
theorem law7b {a k : List Term} (h : (canonT a).2 = true) (hk : ∀ q σ, semT a q σ → semT k q σ) : subsumesT k a = true :=
  (subsumes_iff h).2 ⟨canon_ok_iff.2 fun q => by obtain ⟨σ, hσ⟩ := canon_ok_iff.1 h q; exact ⟨σ, hk q σ hσ⟩, hk⟩
theorem law7c {a : List Term} (h : (canonT a).2 = true) : subsumesT (a.drop 1) a = true := by
  refine law7b h fun q σ hq => ?_
  cases a with
  | nil => exact hq
  | cons t a => exact (semT_cons.1 hq).2

/-! ### TermOrder -/
theorem law8a {a b : List Term} {p : List UInt8} : resolveT a b p = resolveT b a p := by
  unfold resolveT resolveX
  cases h1 : (canonT a).2 <;> cases h2 : (canonT b).2 <;> simp only [Bool.false_eq_true, and_self, and_false, false_and, if_false, if_true]
  cases h3 : findT' (canonT a).1 p with
  | none => cases h4 : findT' (canonT b).1 p <;> rfl
  | some s =>
    cases h4 : findT' (canonT b).1 p with
    | none => rfl
    | some t =>
      have : canonT (without (canonT a).1 p ++ without (canonT b).1 p ++ [eitherT p s t]) = canonT (without (canonT b).1 p ++ without (canonT a).1 p ++ [eitherT p t s]) := by
        refine canonT_ext fun q σ => ?_
        simp only [semT_append, semT_cons, semT_nil, hasT_either, show ∀ s t, (eitherT p s t).path = p from fun _ _ => rfl, or_comm, and_assoc]
        constructor
        · rintro ⟨g1, g2, g3⟩; exact ⟨g2, g1, g3⟩
        · rintro ⟨g1, g2, g3⟩; exact ⟨g2, g1, g3⟩
      simp only [this]
theorem law8b {a : List Term} {p : List UInt8} : (((canonT a).2 = false ∨ (canonT a).1.any (fun t => t.path == p) = false) → resolveT a a p = ([], 1)) ∧
    ((canonT a).2 = true → (canonT a).1.any (fun t => t.path == p) = true → resolveT a a p = ((canonT a).1, 0)) := by
  have hnone : (canonT a).1.any (fun t => t.path == p) = false → findT' (canonT a).1 p = none := by
    intro h
    rw [List.any_eq_false] at h
    exact findT'_none fun x hx => by simpa using h x hx
  refine ⟨fun h => ?_, fun h1 h2 => ?_⟩
  · rcases h with h | h
    · exact rX1 h
    · exact rX3 (hnone h)
  · rw [List.any_eq_true] at h2
    obtain ⟨t, ht, he⟩ := h2
    have he : t.path = p := by simpa using he
    subst he
    have hf := findT'_of canonT_srt ht
    have hL : canonT (without (canonT a).1 t.path ++ without (canonT a).1 t.path ++ [eitherT t.path t t]) = ((canonT a).1, true) := by
      rw [← h1]
      show _ = canonT a
      refine canonT_ext fun q σ => ?_
      rw [← sem_canon h1]
      simp only [semT_append, semT_cons, semT_nil, hasT_either, or_self, sem_without, show (eitherT t.path t t).path = t.path from rfl]
      constructor
      · rintro ⟨⟨⟨ho, g1⟩, _⟩, g2, _⟩
        by_cases hq : q = t.path
        · subst hq
          exact (semT_one canonT_srt ht).2 ⟨ho, g2 rfl⟩
        · exact g1 hq
      · intro g
        exact ⟨⟨⟨g.1, fun _ => g⟩, ⟨g.1, fun _ => g⟩⟩, fun hq => g.2 t ht hq, g.1⟩
    unfold resolveT resolveX
    rw [h1, if_pos ⟨rfl, rfl⟩, hf]
    simp only [hL, if_true]

/-! ### TermImplied -/
theorem resolve_ok {a b : List Term} {p : List UInt8} (h : (resolveT a b p).2 = 0) : ∃ t1 t2, (canonT a).2 = true ∧ (canonT b).2 = true ∧ t1 ∈ (canonT a).1 ∧ t2 ∈ (canonT b).1 ∧ t1.path = p ∧ t2.path = p ∧
    (canonT (without (canonT a).1 p ++ without (canonT b).1 p ++ [eitherT p t1 t2])).2 = true ∧ (resolveT a b p).1 = (canonT (without (canonT a).1 p ++ without (canonT b).1 p ++ [eitherT p t1 t2])).1 := by
  unfold resolveT resolveX at *
  split at h
  · rename_i h12
    rw [if_pos h12]
    split at h
    · rename_i s t hs ht
      split at h
      · rename_i hok
        obtain ⟨e1, e2⟩ := findT'_mem hs
        obtain ⟨e3, e4⟩ := findT'_mem ht
        refine ⟨s, t, h12.1, h12.2, e1, e3, e2, e4, hok, ?_⟩
        simp only [hok, if_true]
      · exact absurd h (by decide)
    · exact absurd h (by decide)
  · exact absurd h (by decide)
theorem sem_resolve {a b : List Term} {p : List UInt8} {t1 t2 : Term} (h1 : (canonT a).2 = true) (h2 : (canonT b).2 = true) (m1 : t1 ∈ (canonT a).1) (m2 : t2 ∈ (canonT b).1) (e1 : t1.path = p) (e2 : t2.path = p)
    (hok : (canonT (without (canonT a).1 p ++ without (canonT b).1 p ++ [eitherT p t1 t2])).2 = true) {q : List UInt8} {σ : State} :
    semT (canonT (without (canonT a).1 p ++ without (canonT b).1 p ++ [eitherT p t1 t2])).1 q σ ↔ okSt σ ∧ (q ≠ p → semT a q σ ∧ semT b q σ) ∧ (q = p → semT a q σ ∨ semT b q σ) := by
  rw [sem_canon hok]
  simp only [semT_append, semT_cons, semT_nil, hasT_either, sem_without, sem_canon h1, sem_canon h2, show (eitherT p t1 t2).path = p from rfl]
  have k1 : okSt σ → (hasT t1 σ ↔ semT a p σ) := fun ho => by rw [← sem_canon h1, ← e1, semT_one canonT_srt m1]; exact ⟨fun h => ⟨ho, h⟩, fun h => h.2⟩
  have k2 : okSt σ → (hasT t2 σ ↔ semT b p σ) := fun ho => by rw [← sem_canon h2, ← e2, semT_one canonT_srt m2]; exact ⟨fun h => ⟨ho, h⟩, fun h => h.2⟩
  constructor
  · rintro ⟨⟨⟨ho, g1⟩, _, g2⟩, g3, _⟩
    refine ⟨ho, fun hq => ⟨g1 hq, g2 hq⟩, fun hq => ?_⟩
    have := g3 hq.symm
    rw [k1 ho, k2 ho] at this
    rw [hq]; exact this
  · rintro ⟨ho, g1, g2⟩
    refine ⟨⟨⟨ho, fun hq => (g1 hq).1⟩, ho, fun hq => (g1 hq).2⟩, fun hq => ?_, ho⟩
    rw [k1 ho, k2 ho]
    have := g2 hq.symm
    rw [hq]; exact this
theorem law5a {a b : List Term} {p : List UInt8} {s : List Sel} (h0 : (resolveT a b p).2 = 0) (h1 : violS (resolveT a b p).1 s = true) (h2 : violS a s = false) (h3 : violS b s = false) : s.any (fun y => !okS y) = true := by
  cases hs : s.any (fun y => !okS y) with
  | true => rfl
  | false =>
    exfalso
    have hok := allOk_of hs
    obtain ⟨t1, t2, c1, c2, m1, m2, e1, e2, c3, hr⟩ := resolve_ok h0
    rw [hr] at h1
    have hv := (viol_sem hok).1 h1
    have hv : ∀ q σ, stS s q = some σ → okSt σ ∧ (q ≠ p → semT a q σ ∧ semT b q σ) ∧ (q = p → semT a q σ ∨ semT b q σ) := fun q σ h => (sem_resolve c1 c2 m1 m2 e1 e2 c3).1 (hv q σ h)
    obtain ⟨σp, hp⟩ := hok p
    rcases (hv p σp hp).2.2 rfl with g | g
    · have : violS a s = true := (viol_sem hok).2 fun q σ hσ => by
        by_cases hq : q = p
        · subst hq; rw [hp] at hσ; cases hσ; exact g
        · exact ((hv q σ hσ).2.1 hq).1
      rw [this] at h2; cases h2
    · have : violS b s = true := (viol_sem hok).2 fun q σ hσ => by
        by_cases hq : q = p
        · subst hq; rw [hp] at hσ; cases hσ; exact g
        · exact ((hv q σ hσ).2.1 hq).2
      rw [this] at h3; cases h3
/-- the other terms hold -/
def othersS (p : List UInt8) (s : List Sel) (x : List Term) : Bool := !(x.any fun t => !(t.path == p) && !holdsS t s)
theorem others_iff {p : List UInt8} {s : List Sel} {x : List Term} : othersS p s x = true ↔ ∀ t ∈ x, t.path ≠ p → ∃ σ, stS s t.path = some σ ∧ hasT t σ := by
  simp only [othersS, Bool.not_eq_true', List.any_eq_false, Bool.and_eq_true, not_and, Bool.not_eq_true, beq_eq_false_iff_ne, Bool.not_eq_false']
  constructor
  · intro h t ht hne
    have := h t ht
    simp [hne] at this
    exact holds_iff.1 this
  · intro h t ht
    by_cases hp : t.path = p
    · simp [hp]
    · simp [hp]; exact holds_iff.2 (h t ht hp)
theorem sem_of_holds {x : List Term} {s : List Sel} {q : List UInt8} {σ : State} (hσ : stS s q = some σ) (h : ∀ t ∈ x, t.path = q → ∃ σ, stS s t.path = some σ ∧ hasT t σ) : semT x q σ := by
  refine ⟨stS_ok hσ, fun t ht he => ?_⟩
  obtain ⟨σ', h1, h2⟩ := h t ht he
  rw [he, hσ] at h1; cases h1; exact h2
theorem mention {x : List Term} {q : List UInt8} {σ : State} (ho : okSt σ) (h : ¬ semT x q σ) : ∃ t ∈ x, t.path = q := by
  by_cases hu : ∃ u ∈ x, u.path = q
  · exact hu
  · exact absurd ⟨ho, fun u hm he => absurd ⟨u, hm, he⟩ hu⟩ h
theorem law5b' {a b : List Term} {p : List UInt8} {s : List Sel} (h0 : (resolveT a b p).2 = 0) (ha : othersS p s a = true) (hb : othersS p s b = true) (hv : violS a s = true) : violS (resolveT a b p).1 s = true := by
  obtain ⟨t1, t2, c1, c2, m1, m2, e1, e2, c3, hr⟩ := resolve_ok h0
  have hsem := fun q σ => sem_resolve c1 c2 m1 m2 e1 e2 c3 (q := q) (σ := σ)
  rw [hr, viol_iff]
  have va := viol_iff.1 hv
  have vb := others_iff.1 hb
  intro t ht
  obtain ⟨σ0, ho, hn⟩ := canonT_nonA t ht
  have hns : ¬ semT (canonT (without (canonT a).1 p ++ without (canonT b).1 p ++ [eitherT p t1 t2])).1 t.path σ0 := by
    rw [semT_one canonT_srt ht]; exact fun h => hn h.2
  have fin : ∀ σ, stS s t.path = some σ → (okSt σ ∧ (t.path ≠ p → semT a t.path σ ∧ semT b t.path σ) ∧ (t.path = p → semT a t.path σ ∨ semT b t.path σ)) → ∃ σ, stS s t.path = some σ ∧ hasT t σ := fun σ hσ h => ⟨σ, hσ, ((hsem _ _).2 h).2 t ht rfl⟩
  by_cases hq : t.path = p
  · obtain ⟨σ1, ho1, hn1⟩ := canonT_nonA t1 m1
    have : ¬ semT a p σ1 := by
      rw [← sem_canon c1, ← e1, semT_one canonT_srt m1]; exact fun h => hn1 h.2
    obtain ⟨u, hu, he⟩ := mention ho1 this
    obtain ⟨σ, hσ, _⟩ := va u hu
    rw [he] at hσ
    rw [hq] at fin ⊢
    exact fin σ hσ ⟨stS_ok hσ, fun h => absurd rfl h, fun _ => .inl (sem_of_holds hσ fun t ht _ => va t ht)⟩
  · have : ¬ (semT a t.path σ0 ∧ semT b t.path σ0) := by
      intro h; exact hns ((hsem _ _).2 ⟨ho, fun _ => h, fun h => absurd h hq⟩)
    have hst : ∃ σ, stS s t.path = some σ := by
      by_cases hsa : semT a t.path σ0
      · obtain ⟨u, hu, he⟩ := mention ho (fun h => this ⟨hsa, h⟩)
        obtain ⟨σ, hσ, _⟩ := vb u hu (by rw [he]; exact hq)
        rw [he] at hσ; exact ⟨σ, hσ⟩
      · obtain ⟨u, hu, he⟩ := mention ho hsa
        obtain ⟨σ, hσ, _⟩ := va u hu
        rw [he] at hσ; exact ⟨σ, hσ⟩
    obtain ⟨σ, hσ⟩ := hst
    exact fin σ hσ ⟨stS_ok hσ, fun _ => ⟨sem_of_holds hσ fun t ht _ => va t ht, sem_of_holds hσ fun t ht he => vb t ht (by rw [he]; exact hq)⟩, fun h => absurd h hq⟩
theorem law5b {a b : List Term} {p : List UInt8} {s : List Sel} (h0 : (resolveT a b p).2 = 0) (ha : othersS p s a = true) (hb : othersS p s b = true) (hv : violS a s = true ∨ violS b s = true) : violS (resolveT a b p).1 s = true := by
  rcases hv with hv | hv
  · exact law5b' h0 ha hb hv
  · rw [law8a] at h0 ⊢
    exact law5b' h0 hb ha hv

/-! ### TermExact -/
def vioL (l : List Term) (s : List Sel) : Bool := decide (0 < l.length) && violS l s
theorem vio_iff {l : List Term} {s : List Sel} (hok : AllOk s) (hn : ∃ q σ, okSt σ ∧ ¬ semT l q σ) : vioL (canonT l).1 s = true ↔ ∀ t ∈ l, ∃ σ, stS s t.path = some σ ∧ hasT t σ := by
  rw [← viol_iff, vioL, Bool.and_eq_true, decide_eq_true_eq]
  cases hc : (canonT l).2 with
  | false =>
    rw [canonT_false hc]
    simp only [List.length_nil, Nat.lt_irrefl, false_and, false_iff]
    intro h
    have := (viol_sem hok).1 h
    have : (canonT l).2 = true := canon_ok_iff.2 fun q => by obtain ⟨σ, hσ⟩ := hok q; exact ⟨σ, this q σ hσ⟩
    rw [this] at hc; cases hc
  | true =>
    have hne : 0 < (canonT l).1.length := by
      cases hl : (canonT l).1 with
      | cons t r => simp
      | nil =>
        exfalso
        obtain ⟨q, σ, ho, hx⟩ := hn
        rw [← sem_canon hc, hl] at hx
        exact hx (semT_nil.2 ho)
    rw [viol_sem hok, viol_sem hok]
    simp only [sem_canon hc]
    exact ⟨fun h => h.2, fun h => ⟨hne, h⟩⟩
theorem pl_one {k p : Int} (hk : 0 ≤ k ∧ k < 1000000) : pl (oneP k) p ↔ p = k := by
  unfold oneP
  rw [if_neg (by omega)]
  have h1 : ∀ a b : Int, pl [(a, b)] p ↔ 0 ≤ p ∧ p < 1000000 ∧ a ≤ p ∧ p < b := by intro a b; simp [pl]
  rw [pl_minus, pl_canon, pl_canon, h1, h1]
  omega
end Go.VC.T35
end

section
/- The laws' closures. -/
set_option linter.unusedSimpArgs false
set_option linter.unusedVariables false
namespace Go.VC.T35
open Go Go.VC Go.Proofs

set_option maxRecDepth 100000 in
set_option maxHeartbeats 2000000 in
theorem F24 {x : Sel} {c0 : List UInt8} {c1 c2 c3 : Int} {K : PV → List Ob → Prop} (h1 : c1 = x.major) (h2 : c2 = x.minor) (h3 : c3 = x.patch) (h : ∀ b, b = !okS x → K (.bool b) []) : FC Tryz.prog tt 24 [] (.agg [.str c0, .int .i64 c1, .int .i64 c2, .int .i64 c3] :: []) K := by
  refine FC.enter (G := g24) tt_ok mixed ⟨Tryz.func24, by rfl, rfl⟩ rfl rfl rfl ?_
  intro A C L X
  have q4 : validV c1 c2 c3 = okS x := by rw [h1, h2, h3]; rfl
  cbv
  refine X.call (F25 (fun hv => ?_) fun hv => ?_)
  · rw [q4] at hv
    have q : K (.bool (A.not (A.eq 2 0))) [] := h _ (by rw [X.a, hv]; rfl)
    cbv
    exact q
  · rw [q4] at hv
    obtain ⟨n, hn⟩ : ∃ n, n = 1000 * c2 + c3 := ⟨_, rfl⟩
    rw [← hn]
    have q : K (.bool (A.not (A.eq 0 0))) [] := h _ (by rw [X.a, hv]; rfl)
    cbv
    exact q

set_option maxRecDepth 100000 in
set_option maxHeartbeats 2000000 in
theorem F33 {x : Sel} {c0 : List UInt8} {c1 c2 c3 : Int} {K : PV → List Ob → Prop} (h1 : c1 = x.major) (h2 : c2 = x.minor) (h3 : c3 = x.patch) (h : ∀ b, b = !okS x → K (.bool b) []) : FC Tryz.prog tt 33 [] (.agg [.str c0, .int .i64 c1, .int .i64 c2, .int .i64 c3] :: []) K := by
  refine FC.enter (G := g33) tt_ok mixed ⟨Tryz.func33, by rfl, rfl⟩ rfl rfl rfl ?_
  intro A C L X
  have q4 : validV c1 c2 c3 = okS x := by rw [h1, h2, h3]; rfl
  cbv
  refine X.call (F25 (fun hv => ?_) fun hv => ?_)
  · rw [q4] at hv
    have q : K (.bool (A.not (A.eq 2 0))) [] := h _ (by rw [X.a, hv]; rfl)
    cbv
    exact q
  · rw [q4] at hv
    obtain ⟨n, hn⟩ : ∃ n, n = 1000 * c2 + c3 := ⟨_, rfl⟩
    rw [← hn]
    have q : K (.bool (A.not (A.eq 0 0))) [] := h _ (by rw [X.a, hv]; rfl)
    cbv
    exact q

set_option maxRecDepth 100000 in
set_option maxHeartbeats 2000000 in
theorem F31 {l : List Term} {s : List Sel} {d e : D} {K : PV → List Ob → Prop} (hd : d = encL encT l) (hl : l.length < 4294967296) (hs : ∀ t ∈ l, t.set.length < 4294967296) (he : e = encL encV s) (hsl : s.length < 4294967296)
    (h : ∀ r, r = vioL l s → K (.bool r) []) : FC Tryz.prog tt 31 [] (.lst 51 d :: [.pptr [.lst 45 e] 0]) K := by
  refine FC.enter (G := g31) tt_ok mixed ⟨Tryz.func31, by rfl, rfl⟩ rfl rfl rfl ?_
  intro A C L X
  cbv
  repeat' (first | apply And.intro | exact fun (_ : False → False) => by kernel_rfl | (intro h2; cbv) | apply Or.inl)
  · refine X.call (F22 hd hl hs he hsl fun r hr => ?_)
    cbv
    refine h _ ?_
    rw [hr, vioL]
    have : 0 < l.length := by obtain rfl := X.a; subst hd; simp only [Std_x0, Std_x1, Std_len, Std_lt, Std_le, Std_eq, Std_add, Std_sub, Std_mul, Std_not, Std_ite, Std_str, Std_bool, Std_int, Std_slen, Std_seq, Std_slt', Std_beq, Std_idx, Std_bnd, Std_same, Std_max', Std_min', Std_partI, Std_app, Std_len_app, Std_len_lit, Std_len_setc, List.length_take, List.length_drop, List.length_append, List.length_cons, List.length_nil, Int.toNat_natCast, Std_inr64, bNot, Int.ofNat_eq_natCast, Int.natCast_zero, decide_eq_true_eq, decide_eq_false_iff_not, Bool.not_eq_true, Bool.not_eq_false, Bool.not_eq_eq_eq_not, Bool.not_true, Bool.not_false, beq_iff_eq, beq_eq_false_iff_ne, ne_eq, Bool.true_eq_false, Bool.false_eq_true, cond_true, cond_false] at *; omega
    simp [this]
  · refine h _ ?_
    have : ¬ 0 < l.length := by obtain rfl := X.a; subst hd; simp only [Std_x0, Std_x1, Std_len, Std_lt, Std_le, Std_eq, Std_add, Std_sub, Std_mul, Std_not, Std_ite, Std_str, Std_bool, Std_int, Std_slen, Std_seq, Std_slt', Std_beq, Std_idx, Std_bnd, Std_same, Std_max', Std_min', Std_partI, Std_app, Std_len_app, Std_len_lit, Std_len_setc, List.length_take, List.length_drop, List.length_append, List.length_cons, List.length_nil, Int.toNat_natCast, Std_inr64, bNot, Int.ofNat_eq_natCast, Int.natCast_zero, decide_eq_true_eq, decide_eq_false_iff_not, Bool.not_eq_true, Bool.not_eq_false, Bool.not_eq_eq_eq_not, Bool.not_true, Bool.not_false, beq_iff_eq, beq_eq_false_iff_ne, ne_eq, Bool.true_eq_false, Bool.false_eq_true, cond_true, cond_false] at *; omega
    simp [vioL, this]

set_option maxRecDepth 100000 in
set_option maxHeartbeats 2000000 in
theorem F28 {p c0 : List UInt8} {c1 : Bool} {c2 e : D} {s : List Sel} {x : Term} {K : PV → List Ob → Prop} (h0 : c0 = x.path) (h1 : c1 = x.absent) (hc2 : c2 = encL encX x.set) (hx : x.set.length < 4294967296) (he : e = encL encV s) (hsl : s.length < 4294967296)
    (h : ∀ b, b = (!(x.path == p) && !holdsS x s) → K (.bool b) []) : FC Tryz.prog tt 28 [] (.agg [.str c0, .bool c1, .lst 65 c2] :: [.pptr [.str p] 0, .pptr [.lst 45 e] 0]) K := by
  refine FC.enter (G := g28) tt_ok mixed ⟨Tryz.func28, by rfl, rfl⟩ rfl rfl rfl ?_
  intro A C L X
  cbv
  repeat' (first | apply And.intro | exact fun (_ : False → False) => by kernel_rfl | (intro h2; cbv) | apply Or.inl)
  · refine X.call (F29 (t := x) h0 h1 hc2 hx he hsl fun r hr => ?_)
    have hp : (x.path == p) = false := by obtain rfl := X.a; subst h0; simp only [Std_x0, Std_x1, Std_len, Std_lt, Std_le, Std_eq, Std_add, Std_sub, Std_mul, Std_not, Std_ite, Std_str, Std_bool, Std_int, Std_slen, Std_seq, Std_slt', Std_beq, Std_idx, Std_bnd, Std_same, Std_max', Std_min', Std_partI, Std_app, Std_len_app, Std_len_lit, Std_len_setc, List.length_take, List.length_drop, List.length_append, List.length_cons, List.length_nil, Int.toNat_natCast, Std_inr64, bNot, Int.ofNat_eq_natCast, Int.natCast_zero, decide_eq_true_eq, decide_eq_false_iff_not, Bool.not_eq_true, Bool.not_eq_false, Bool.not_eq_eq_eq_not, Bool.not_true, Bool.not_false, beq_iff_eq, beq_eq_false_iff_ne, ne_eq, Bool.true_eq_false, Bool.false_eq_true, cond_true, cond_false] at *; simpa using ‹¬x.path = p›
    have q : K (.bool (A.not r)) [] := h _ (by rw [X.a, hr, hp]; rfl)
    cbv
    exact q
  · have hp : (x.path == p) = true := by obtain rfl := X.a; subst h0; simp only [Std_x0, Std_x1, Std_len, Std_lt, Std_le, Std_eq, Std_add, Std_sub, Std_mul, Std_not, Std_ite, Std_str, Std_bool, Std_int, Std_slen, Std_seq, Std_slt', Std_beq, Std_idx, Std_bnd, Std_same, Std_max', Std_min', Std_partI, Std_app, Std_len_app, Std_len_lit, Std_len_setc, List.length_take, List.length_drop, List.length_append, List.length_cons, List.length_nil, Int.toNat_natCast, Std_inr64, bNot, Int.ofNat_eq_natCast, Int.natCast_zero, decide_eq_true_eq, decide_eq_false_iff_not, Bool.not_eq_true, Bool.not_eq_false, Bool.not_eq_eq_eq_not, Bool.not_true, Bool.not_false, beq_iff_eq, beq_eq_false_iff_ne, ne_eq, Bool.true_eq_false, Bool.false_eq_true, cond_true, cond_false] at *; simpa using h2
    exact h _ (by rw [hp]; rfl)
end Go.VC.T35
end

section
set_option linter.unusedSimpArgs false
set_option linter.unusedVariables false
namespace Go.VC.T35
open Go Go.VC Go.Proofs

set_option maxRecDepth 100000 in
theorem F52x28 {q : List UInt8} {e : D} {p : Term → Bool} {l : List Term} {d : D} {K : PV → List Ob → Prop} (hd : d = encL encT l) (hl : l.length < 4294967296)
    (hq : ∀ x ∈ l, ∀ (c0 : List UInt8) (c1 : Bool) (c2 : D), c0 = x.path → c1 = x.absent → c2 = encL encX x.set → ∀ (K' : PV → List Ob → Prop), (∀ b, b = p x → K' (.bool b) []) → FC Tryz.prog tt 28 [] (.agg [.str c0, .bool c1, .lst 65 c2] :: [.pptr [.str q] 0, .pptr [.lst 45 e] 0]) K')
    (h : ∀ r, r = idxF p l → K (.int .i64 r) []) : FC Tryz.prog tt 52 [] [.lst 51 d, .clos 28 [.pptr [.str q] 0, .pptr [.lst 45 e] 0]] K := by
  refine FC.enter (G := g52) tt_ok mixed ⟨Tryz.func52, by rfl, rfl⟩ rfl rfl rfl ?_
  intro A C L X
  obtain ⟨n, hn⟩ : ∃ n, n = l.length := ⟨_, rfl⟩
  have hlen : Std.len d = Int.ofNat n := by rw [hd, Std_len, hn]; rfl
  cbv
  refine X.loop (fun (i : Nat) => ⟨[(8, .int .i64 i), (7, .int .i64 (A.len d)), (0, .lst 51 d), (1, .clos 28 [.pptr [.str q] 0, .pptr [.lst 45 e] 0])], []⟩) (fun i => i ≤ n ∧ ∀ x ∈ l.take i, p x = false) (fun i => n - i) 0 ⟨Nat.zero_le _, by simp⟩ ?_ ?_
  · (cbv; repeat' apply And.intro); all_goals (try (first | trivial | rfl | (rw [X.a]; rfl)))
  rintro i ⟨hi, ha⟩
  cbv
  refine ⟨fun h1 => ?_, fun h1 => ?_⟩
  · have h5 : i < l.length := by obtain rfl := X.a; simp only [hlen, Std_t0, Std_t1, Std_x0, Std_x1, Std_len, Std_lt, Std_le, Std_eq, Std_add, Std_sub, Std_mul, Std_not, Std_ite, Std_str, Std_bool, Std_int, Std_slen, Std_seq, Std_slt', Std_beq, Std_idx, Std_bnd, Std_same, Std_max', Std_min', Std_partI, Std_app, Std_len_app, Std_len_lit, Std_len_setc, List.length_take, List.length_drop, List.length_append, List.length_cons, List.length_nil, Int.toNat_natCast, Std_inr64, bNot, Int.ofNat_eq_natCast, Int.natCast_zero, decide_eq_true_eq, decide_eq_false_iff_not, Bool.not_eq_true, Bool.not_eq_false, Bool.not_eq_eq_eq_not, Bool.not_true, Bool.not_false, beq_iff_eq, beq_eq_false_iff_ne, ne_eq, Bool.true_eq_false, Bool.false_eq_true, cond_true, cond_false] at h1; omega
    have hx := List.getElem_mem h5
    have hidx : p l[i] = true → idxF p l = i := fun hp => idxF_some h5 ha hp
    have g5 : gt l (Int.ofNat i) = l[i] := gt_get i rfl h5
    have k0 : A.asStr (A.cell d (Int.ofNat i) 0) = l[i].path := by rw [X.a, hd, Std_t0, g5]
    have k1 : A.asBool (A.cell d (Int.ofNat i) 1) = l[i].absent := by rw [X.a, hd, Std_t1, g5]
    have k2 : A.cell d (Int.ofNat i) 2 = encL encX l[i].set := by rw [X.a, hd]; exact encT_cell2 i rfl h5
    cbv
    refine ⟨?_, ?_⟩
    · obtain rfl := X.a; simp only [hlen, Std_t0, Std_t1, Std_x0, Std_x1, Std_len, Std_lt, Std_le, Std_eq, Std_add, Std_sub, Std_mul, Std_not, Std_ite, Std_str, Std_bool, Std_int, Std_slen, Std_seq, Std_slt', Std_beq, Std_idx, Std_bnd, Std_same, Std_max', Std_min', Std_partI, Std_app, Std_len_app, Std_len_lit, Std_len_setc, List.length_take, List.length_drop, List.length_append, List.length_cons, List.length_nil, Int.toNat_natCast, Std_inr64, bNot, Int.ofNat_eq_natCast, Int.natCast_zero, decide_eq_true_eq, decide_eq_false_iff_not, Bool.not_eq_true, Bool.not_eq_false, Bool.not_eq_eq_eq_not, Bool.not_true, Bool.not_false, beq_iff_eq, beq_eq_false_iff_ne, ne_eq, Bool.true_eq_false, Bool.false_eq_true, cond_true, cond_false] at *; omega
    refine X.call (hq _ hx _ _ _ k0 k1 k2 _ fun b hb => ?_)
    have hb' : b = p l[i] := hb
    obtain ⟨c, hc⟩ : ∃ c, c = p l[i] := ⟨_, rfl⟩
    rw [← hc] at hb' hidx
    have hnext : c = false → ∀ x ∈ l.take (i+1), p x = false := by
      intro hcf x hx'
      rw [take_succ' h5] at hx'
      rcases List.mem_append.1 hx' with hx' | hx'
      · exact ha x hx'
      · simp only [List.mem_singleton] at hx'; rw [hx', ← hc]; exact hcf
    clear hb
    cbv
    repeat' (first | apply And.intro | exact fun (_ : False → False) => by kernel_rfl | (intro h2; cbv) | apply Or.inl)
    · refine h _ ?_
      rw [hidx (by rw [← hb']; assumption)]; rfl
    · obtain rfl := X.a; simp only [hlen, Std_t0, Std_t1, Std_x0, Std_x1, Std_len, Std_lt, Std_le, Std_eq, Std_add, Std_sub, Std_mul, Std_not, Std_ite, Std_str, Std_bool, Std_int, Std_slen, Std_seq, Std_slt', Std_beq, Std_idx, Std_bnd, Std_same, Std_max', Std_min', Std_partI, Std_app, Std_len_app, Std_len_lit, Std_len_setc, List.length_take, List.length_drop, List.length_append, List.length_cons, List.length_nil, Int.toNat_natCast, Std_inr64, bNot, Int.ofNat_eq_natCast, Int.natCast_zero, decide_eq_true_eq, decide_eq_false_iff_not, Bool.not_eq_true, Bool.not_eq_false, Bool.not_eq_eq_eq_not, Bool.not_true, Bool.not_false, beq_iff_eq, beq_eq_false_iff_ne, ne_eq, Bool.true_eq_false, Bool.false_eq_true, cond_true, cond_false] at *; omega
    · refine ⟨i+1, ⟨by omega, hnext (by rw [← hb']; assumption)⟩, by omega, ?_⟩
      (cbv; repeat' apply And.intro); all_goals (try (first | trivial | rfl | (rw [X.a]; rfl)))
  · have h5 : i = n := by obtain rfl := X.a; simp only [hlen, Std_t0, Std_t1, Std_x0, Std_x1, Std_len, Std_lt, Std_le, Std_eq, Std_add, Std_sub, Std_mul, Std_not, Std_ite, Std_str, Std_bool, Std_int, Std_slen, Std_seq, Std_slt', Std_beq, Std_idx, Std_bnd, Std_same, Std_max', Std_min', Std_partI, Std_app, Std_len_app, Std_len_lit, Std_len_setc, List.length_take, List.length_drop, List.length_append, List.length_cons, List.length_nil, Int.toNat_natCast, Std_inr64, bNot, Int.ofNat_eq_natCast, Int.natCast_zero, decide_eq_true_eq, decide_eq_false_iff_not, Bool.not_eq_true, Bool.not_eq_false, Bool.not_eq_eq_eq_not, Bool.not_true, Bool.not_false, beq_iff_eq, beq_eq_false_iff_ne, ne_eq, Bool.true_eq_false, Bool.false_eq_true, cond_true, cond_false] at h1; omega
    rw [h5, hn, List.take_length] at ha
    refine h _ ?_
    rw [idxF_none ha]

set_option maxRecDepth 100000 in
theorem F27x28 {q : List UInt8} {e : D} {p : Term → Bool} {l : List Term} {d : D} {K : PV → List Ob → Prop} (hd : d = encL encT l) (hl : l.length < 4294967296)
    (hq : ∀ x ∈ l, ∀ (c0 : List UInt8) (c1 : Bool) (c2 : D), c0 = x.path → c1 = x.absent → c2 = encL encX x.set → ∀ (K' : PV → List Ob → Prop), (∀ b, b = p x → K' (.bool b) []) → FC Tryz.prog tt 28 [] (.agg [.str c0, .bool c1, .lst 65 c2] :: [.pptr [.str q] 0, .pptr [.lst 45 e] 0]) K')
    (h : ∀ r, r = l.any p → K (.bool r) []) : FC Tryz.prog tt 27 [] [.lst 51 d, .clos 28 [.pptr [.str q] 0, .pptr [.lst 45 e] 0]] K := by
  refine FC.enter (G := g27) tt_ok mixed ⟨Tryz.func27, by rfl, rfl⟩ rfl rfl rfl ?_
  intro A C L X
  cbv
  refine X.call (F52x28 hd hl hq fun r hr => ?_)
  cbv
  refine h _ ?_
  rw [hr, X.a]
  show Std.le 0 (idxF p l) = _
  rw [Std_le, ← idxF_any]


set_option maxRecDepth 100000 in
set_option maxHeartbeats 2000000 in
theorem F26 {p : List UInt8} {l : List Term} {s : List Sel} {d e : D} {K : PV → List Ob → Prop} (hd : d = encL encT l) (hl : l.length < 4294967296) (hs : ∀ t ∈ l, t.set.length < 4294967296) (he : e = encL encV s) (hsl : s.length < 4294967296)
    (h : ∀ r, r = othersS p s l → K (.bool r) []) : FC Tryz.prog tt 26 [] (.lst 51 d :: [.pptr [.str p] 0, .pptr [.lst 45 e] 0]) K := by
  refine FC.enter (G := g26) tt_ok mixed ⟨Tryz.func26, by rfl, rfl⟩ rfl rfl rfl ?_
  intro A C L X
  cbv
  refine X.call (F27x28 (q := p) (e := e) (p := fun t => !(t.path == p) && !holdsS t s) hd hl (fun x hx c0 c1 c2 e0 e1 e2 K' hK => F28 e0 e1 e2 (hs x hx) he hsl fun b hb => hK b hb) fun r hr => ?_)
  have q : K (.bool (A.not r)) [] := h _ (by rw [X.a, hr, othersS]; rfl)
  cbv
  exact q
end Go.VC.T35
end

section
/- TermExact: what the incompatibilities of requirements say of a selection. No program in sight. -/
set_option linter.unusedSimpArgs false
set_option linter.unusedVariables false
namespace Go.VC.T35
open Go.VC

abbrev KI := List UInt8 × Int
def encI (x : KI) : List D := [.str x.1, .int x.2]
def getI (m : List KI) (k : List UInt8) : Option Int := (m.find? fun x => x.1 == k).map (·.2)
theorem key_encI {k : List UInt8} {x : KI} : hasKey (.str k) (encI x) = (x.1 == k) := by
  show (k == x.1) = (x.1 == k)
  rw [Bool.eq_iff_iff, beq_iff_eq, beq_iff_eq]; exact eq_comm
theorem Std_imhas {m : List KI} {k : List UInt8} : Std.mhas (encL encI m) (.str k) = (getI m k).isSome := by
  simp only [Std, std, encL, rowsD, List.any_map, getI, Option.isSome_map]
  rw [List.isSome_find?]
  congr 1
  funext x
  exact key_encI
theorem Std_imget {m : List KI} {k : List UInt8} : Std.asInt (Std.mget (encL encI m) (.str k) 0) = (getI m k).getD 0 := by
  simp only [Std, std, encL, rowsD]
  induction m with
  | nil => rfl
  | cons x m ih =>
    simp only [List.map_cons, List.find?_cons, key_encI]
    cases hx : (x.1 == k) with
    | true => simp only [getI, List.find?_cons, hx]; rfl
    | false => rw [ih]; simp only [getI, List.find?_cons, hx]
theorem Std_imset {m : List KI} {k : List UInt8} {p : Int} (h : getI m k = none) : Std.mset (encL encI m) (.str k) [.int p] = encL encI (m ++ [(k, p)]) := by
  simp only [Std, std, encL, rowsD]
  congr 1
  induction m with
  | nil => rfl
  | cons x m ih =>
    have hx : (x.1 == k) = false := by
      cases hx : (x.1 == k) with
      | false => rfl
      | true => simp [getI, hx] at h
    have h2 : getI m k = none := by simpa [getI, hx] using h
    simp only [List.map_cons, setKey, key_encI, hx, Bool.false_eq_true, if_false, List.cons_append]
    rw [ih h2]
/-- the places of a selection -/
def atM (s : List Sel) : List KI := s.map fun y => (y.path, placeS y)
theorem getI_atM {s : List Sel} {q : List UInt8} : getI (atM s) q = (s.find? fun y => y.path == q).map placeS := by
  simp only [getI, atM, List.find?_map, Option.map_map]
  rfl
theorem st_atM {s : List Sel} (h : ∀ y ∈ s, okS y = true) (q : List UInt8) : stS s q = some (getI (atM s) q) := by
  rw [getI_atM]
  unfold stS
  cases hf : s.find? (fun y => y.path == q) with
  | none => rfl
  | some y =>
    show (if okS y = true then some (some (placeS y)) else none) = _
    rw [if_pos (h y (List.mem_of_find?_eq_some hf))]; rfl
theorem allOk_all {s : List Sel} (h : ∀ y ∈ s, okS y = true) : AllOk s := fun q => ⟨_, st_atM h q⟩
def satS (s : List Sel) (q : List UInt8) (set : List (Int × Int)) : Bool := (getI (atM s) q).isSome && hasS set ((getI (atM s) q).getD 0)
theorem hasT_unsat {s : List Sel} (h : ∀ y ∈ s, okS y = true) {q : List UInt8} {set : List (Int × Int)} : hasT (unsat q set) (getI (atM s) q) ↔ satS s q set = false := by
  have ho := stS_ok (st_atM h q)
  unfold satS
  cases hg : getI (atM s) q with
  | none => simp [hasT, unsat]
  | some n =>
    rw [hg] at ho
    simp only [hasT, unsat, pl_compl, Option.isSome_some, Bool.true_and, Option.getD_some]
    rw [← Bool.not_eq_true, hasS_iff]
    exact ⟨fun h => h.2.2, fun h => ⟨ho.1, ho.2, h⟩⟩
theorem ex_iff {s : List Sel} (h : ∀ y ∈ s, okS y = true) {t : Term} : (∃ σ, stS s t.path = some σ ∧ hasT t σ) ↔ hasT t (getI (atM s) t.path) := by
  rw [st_atM h]; simp
theorem law6a {path q : List UInt8} {k : Int} {set : List (Int × Int)} {s : List Sel} (hk : 0 ≤ k ∧ k < 1000000) (h : ∀ y ∈ s, okS y = true) :
    vioL (requiresT path k q set) s = ((getI (atM s) path).isSome && decide ((getI (atM s) path).getD 0 = k) && !satS s q set) := by
  have hn : ∃ q' σ, okSt σ ∧ ¬ semT [⟨path, false, oneP k⟩, unsat q set] q' σ := ⟨path, none, trivial, fun h => by have := h.2 ⟨path, false, oneP k⟩ (by simp) rfl; simp [hasT] at this⟩
  rw [Bool.eq_iff_iff, requiresT, vio_iff (allOk_all h) hn]
  simp only [List.mem_cons, List.not_mem_nil, or_false, forall_eq_or_imp, forall_eq, ex_iff h, show (unsat q set).path = q from rfl, hasT_unsat h, Bool.and_eq_true, decide_eq_true_eq, Bool.not_eq_true']
  cases hg : getI (atM s) path with
  | none => simp [hasT]
  | some n =>
    simp only [hasT, pl_one hk, Option.isSome_some, true_and, Option.getD_some]
theorem law6b {q : List UInt8} {set : List (Int × Int)} {s : List Sel} (hne : 0 < (canon set).length) (h : ∀ y ∈ s, okS y = true) : vioL (rootT q set) s = !satS s q set := by
  have hn : ∃ q' σ, okSt σ ∧ ¬ semT [unsat q set] q' σ := by
    have : ¬ canon set = [] := by intro e; rw [e] at hne; simp at hne
    rw [can_nil_iff (can_canon set)] at this
    simp only [Classical.not_forall, Classical.not_not] at this
    obtain ⟨p, hp⟩ := this
    rw [pl_canon] at hp
    refine ⟨q, some p, ⟨hp.1, hp.2.1⟩, fun h => ?_⟩
    have := h.2 (unsat q set) (by simp) rfl
    simp only [hasT, unsat, pl_compl] at this
    exact this.2.2 hp
  rw [Bool.eq_iff_iff, rootT, vio_iff (allOk_all h) hn]
  simp only [List.mem_cons, List.not_mem_nil, or_false, forall_eq_or_imp, forall_eq, ex_iff h, show (unsat q set).path = q from rfl, hasT_unsat h, Bool.not_eq_true']
theorem law6c {path : List UInt8} {set : List (Int × Int)} {s : List Sel} (h : ∀ y ∈ s, okS y = true) : vioL (noneT path set) s = ((getI (atM s) path).isSome && !hasS set ((getI (atM s) path).getD 0)) := by
  have hn : ∃ q' σ, okSt σ ∧ ¬ semT [⟨path, false, compl set⟩] q' σ := ⟨path, none, trivial, fun h => by have := h.2 ⟨path, false, compl set⟩ (by simp) rfl; simp [hasT] at this⟩
  rw [Bool.eq_iff_iff, noneT, vio_iff (allOk_all h) hn]
  simp only [List.mem_cons, List.not_mem_nil, or_false, forall_eq_or_imp, forall_eq, ex_iff h, Bool.and_eq_true, Bool.not_eq_true']
  have ho := stS_ok (st_atM h path)
  cases hg : getI (atM s) path with
  | none => simp [hasT]
  | some n =>
    rw [hg] at ho
    simp only [hasT, pl_compl, Option.isSome_some, true_and, Option.getD_some]
    rw [← Bool.not_eq_true, hasS_iff]
    exact ⟨fun h => h.2.2, fun h => ⟨ho.1, ho.2, h⟩⟩
end Go.VC.T35
end

section
set_option linter.unusedSimpArgs false
set_option linter.unusedVariables false
namespace Go.VC.T35
open Go Go.VC Go.Proofs

set_option maxRecDepth 100000 in
set_option maxHeartbeats 4000000 in
theorem F6 {path q : List UInt8} {pl : Int} {set av : List (Int × Int)} {s : List Sel} {d e g : D} {K : PV → List Ob → Prop} (hd : d = encL encX set) (hset : set.length < 4294967296) (he : e = encL encX av) (hav : av.length < 4294967296) (hg : g = encL encV s) (hs : s.length < 4294967296)
    (hp : 0 ≤ pl ∧ pl ≤ 4294967295) (h : K (.bool true) []) : FC Tryz.prog tt 6 [] [.str path, .int .u32 pl, .agg [.str q, .lst 65 d], .lst 65 e, .lst 45 g] K := by
  refine FC.enter (G := g6) tt_ok mixed ⟨Tryz.func6, by rfl, rfl⟩ rfl rfl rfl ?_
  intro A C L X
  obtain ⟨T, hT⟩ : ∃ T, T =  encL encI := ⟨_, rfl⟩
  obtain ⟨n, hn⟩ : ∃ n, n = s.length := ⟨_, rfl⟩
  have hlen : Std.len g = Int.ofNat n := by rw [hg, Std_len, hn]; rfl
  cbv
  refine X.call (F9 ?_)
  cbv
  repeat' (first | apply And.intro | exact fun (_ : False → False) => by kernel_rfl | (intro h2; cbv) | apply Or.inl)
  · exfalso; obtain rfl := X.a; simp only [Std_x0, Std_x1, Std_len, Std_lt, Std_le, Std_eq, Std_add, Std_sub, Std_mul, Std_not, Std_ite, Std_str, Std_bool, Std_int, Std_slen, Std_seq, Std_slt', Std_beq, Std_idx, Std_bnd, Std_same, Std_max', Std_min', Std_partI, Std_app, Std_len_app, Std_len_lit, Std_len_setc, List.length_take, List.length_drop, List.length_append, List.length_cons, List.length_nil, Int.toNat_natCast, Std_inr64, bNot, Int.ofNat_eq_natCast, Int.natCast_zero, decide_eq_true_eq, decide_eq_false_iff_not, Bool.not_eq_true, Bool.not_eq_false, Bool.not_eq_eq_eq_not, Bool.not_true, Bool.not_false, beq_iff_eq, beq_eq_false_iff_ne, ne_eq, Bool.true_eq_false, Bool.false_eq_true, cond_true, cond_false] at *; done
  all_goals first
    | exact h
    | skip
  have h12 : set.length ≤ 12 ∧ av.length ≤ 12 ∧ s.length ≤ 12 := by
    obtain rfl := X.a; subst hd; subst he; subst hg; simp only [Std_x0, Std_x1, Std_len, Std_lt, Std_le, Std_eq, Std_add, Std_sub, Std_mul, Std_not, Std_ite, Std_str, Std_bool, Std_int, Std_slen, Std_seq, Std_slt', Std_beq, Std_idx, Std_bnd, Std_same, Std_max', Std_min', Std_partI, Std_app, Std_len_app, Std_len_lit, Std_len_setc, List.length_take, List.length_drop, List.length_append, List.length_cons, List.length_nil, Int.toNat_natCast, Std_inr64, bNot, Int.ofNat_eq_natCast, Int.natCast_zero, decide_eq_true_eq, decide_eq_false_iff_not, Bool.not_eq_true, Bool.not_eq_false, Bool.not_eq_eq_eq_not, Bool.not_true, Bool.not_false, beq_iff_eq, beq_eq_false_iff_ne, ne_eq, Bool.true_eq_false, Bool.false_eq_true, cond_true, cond_false] at *; omega
  have hpre : ∀ y : Sel, validV y.major y.minor y.patch = okS y := fun _ => rfl
  refine X.loopP (fun (x : Nat × List KI) => ⟨[(56, .int .i64 x.1), (55, .int .i64 (A.len g)), (54, .lst 45 g), (11, .mp 2), (7, .box 0 0), (9, .box 1 0), (0, .str path), (1, .int .u32 pl), (3, .lst 65 e), (10, .bl false)], [.box [.str q, .lst 65 d], .box [.lst 45 g], .map .str 3 (T x.2)]⟩) (fun x => x.1 ≤ n ∧ x.2 = atM (s.take x.1) ∧ ∀ y ∈ s.take x.1, okS y = true) (fun x => n - x.1) (0, []) ⟨Nat.zero_le _, rfl, by simp⟩ ?_ ?_
  · refine ⟨[0, 1, 2], ?_⟩
    (cbv; repeat' apply And.intro); all_goals (try (first | trivial | rfl | (rw [X.a]; rfl)))
    rw [hT]; rfl
  rintro ⟨i, m⟩ ⟨hi, hm, hok⟩
  dsimp only at hi hm hok ⊢
  cbv
  refine ⟨fun h1 => ?_, fun h1 => ?_⟩
  · have h5 : i < s.length := by obtain rfl := X.a; simp only [hlen, Std_t0, Std_t1, Std_x0, Std_x1, Std_len, Std_lt, Std_le, Std_eq, Std_add, Std_sub, Std_mul, Std_not, Std_ite, Std_str, Std_bool, Std_int, Std_slen, Std_seq, Std_slt', Std_beq, Std_idx, Std_bnd, Std_same, Std_max', Std_min', Std_partI, Std_app, Std_len_app, Std_len_lit, Std_len_setc, List.length_take, List.length_drop, List.length_append, List.length_cons, List.length_nil, Int.toNat_natCast, Std_inr64, bNot, Int.ofNat_eq_natCast, Int.natCast_zero, decide_eq_true_eq, decide_eq_false_iff_not, Bool.not_eq_true, Bool.not_eq_false, Bool.not_eq_eq_eq_not, Bool.not_true, Bool.not_false, beq_iff_eq, beq_eq_false_iff_ne, ne_eq, Bool.true_eq_false, Bool.false_eq_true, cond_true, cond_false] at h1; omega
    have g5 : gs s (Int.ofNat i) = s[i] := gs_get i rfl h5
    have hm2 : atM (s.take (i+1)) = m ++ [(s[i].path, placeS s[i])] := by rw [take_succ' h5, hm]; simp only [atM, List.map_append, List.map_cons, List.map_nil]
    have hok2 : okS s[i] = true → ∀ y ∈ s.take (i+1), okS y = true := by
      intro ho y hy
      rw [take_succ' h5] at hy
      rcases List.mem_append.1 hy with hy | hy
      · exact hok y hy
      · simp only [List.mem_singleton] at hy; rw [hy]; exact ho
    obtain ⟨y, hy⟩ : ∃ y, y = s[i] := ⟨_, rfl⟩
    rw [← hy] at g5 hm2 hok2
    have q0 : A.asStr (A.cell g (Int.ofNat i) 0) = y.path := by rw [X.a, hg, Std_s0, g5]
    have q1 : A.asInt (A.cell g (Int.ofNat i) 1) = y.major := by rw [X.a, hg, Std_s1, g5]
    have q2 : A.asInt (A.cell g (Int.ofNat i) 2) = y.minor := by rw [X.a, hg, Std_s2, g5]
    have q3 : A.asInt (A.cell g (Int.ofNat i) 3) = y.patch := by rw [X.a, hg, Std_s3, g5]
    have q4 : validV (A.asInt (A.cell g (Int.ofNat i) 1)) (A.asInt (A.cell g (Int.ofNat i) 2)) (A.asInt (A.cell g (Int.ofNat i) 3)) = okS y := by rw [q1, q2, q3]; rfl
    cbv
    refine ⟨?_, ?_⟩
    · obtain rfl := X.a; simp only [hlen, Std_t0, Std_t1, Std_x0, Std_x1, Std_len, Std_lt, Std_le, Std_eq, Std_add, Std_sub, Std_mul, Std_not, Std_ite, Std_str, Std_bool, Std_int, Std_slen, Std_seq, Std_slt', Std_beq, Std_idx, Std_bnd, Std_same, Std_max', Std_min', Std_partI, Std_app, Std_len_app, Std_len_lit, Std_len_setc, List.length_take, List.length_drop, List.length_append, List.length_cons, List.length_nil, Int.toNat_natCast, Std_inr64, bNot, Int.ofNat_eq_natCast, Int.natCast_zero, decide_eq_true_eq, decide_eq_false_iff_not, Bool.not_eq_true, Bool.not_eq_false, Bool.not_eq_eq_eq_not, Bool.not_true, Bool.not_false, beq_iff_eq, beq_eq_false_iff_ne, ne_eq, Bool.true_eq_false, Bool.false_eq_true, cond_true, cond_false] at *; omega
    refine X.call (F25 (fun hv => ?_) fun hv => ?_)
    · cbv
      repeat' (first | apply And.intro | exact fun (_ : False → False) => by kernel_rfl | (intro h2; cbv) | apply Or.inl)
      all_goals first
        | exact h
        | (exfalso; clear h; obtain rfl := X.a; simp only [Std_x0, Std_x1, Std_len, Std_lt, Std_le, Std_eq, Std_add, Std_sub, Std_mul, Std_not, Std_ite, Std_str, Std_bool, Std_int, Std_slen, Std_seq, Std_slt', Std_beq, Std_idx, Std_bnd, Std_same, Std_max', Std_min', Std_partI, Std_app, Std_len_app, Std_len_lit, Std_len_setc, List.length_take, List.length_drop, List.length_append, List.length_cons, List.length_nil, Int.toNat_natCast, Std_inr64, bNot, Int.ofNat_eq_natCast, Int.natCast_zero, decide_eq_true_eq, decide_eq_false_iff_not, Bool.not_eq_true, Bool.not_eq_false, Bool.not_eq_eq_eq_not, Bool.not_true, Bool.not_false, beq_iff_eq, beq_eq_false_iff_ne, ne_eq, Bool.true_eq_false, Bool.false_eq_true, cond_true, cond_false] at *; first | done | omega | simp_all)
    · rw [q4] at hv
      obtain ⟨k, hk⟩ : ∃ k, k = 1000 * A.asInt (A.cell g (Int.ofNat i) 2) + A.asInt (A.cell g (Int.ofNat i) 3) := ⟨_, rfl⟩
      rw [← hk]
      rw [q2, q3] at hk
      have hk2 : k = placeS y := hk
      have hset2 : A.mhas (T m) (.str (A.asStr (A.cell g (Int.ofNat i) 0))) = false → A.mset (T m) (.str (A.asStr (A.cell g (Int.ofNat i) 0))) [.int k] = T (m ++ [(y.path, placeS y)]) := by
        intro hx
        rw [q0] at hx ⊢
        rw [X.a, hT] at hx ⊢
        rw [Std_imhas] at hx
        rw [hk2]
        exact Std_imset (by simpa using hx)
      obtain ⟨m4, hm4⟩ : ∃ m4, m4 = m ++ [(y.path, placeS y)] := ⟨_, rfl⟩
      rw [← hm4] at hset2 hm2
      cbv
      repeat' (first | apply And.intro | exact fun (_ : False → False) => by kernel_rfl | (intro h2; cbv) | apply Or.inl)
      all_goals first
        | exact h
        | skip
      · obtain rfl := X.a; simp only [hlen, Std_t0, Std_t1, Std_x0, Std_x1, Std_len, Std_lt, Std_le, Std_eq, Std_add, Std_sub, Std_mul, Std_not, Std_ite, Std_str, Std_bool, Std_int, Std_slen, Std_seq, Std_slt', Std_beq, Std_idx, Std_bnd, Std_same, Std_max', Std_min', Std_partI, Std_app, Std_len_app, Std_len_lit, Std_len_setc, List.length_take, List.length_drop, List.length_append, List.length_cons, List.length_nil, Int.toNat_natCast, Std_inr64, bNot, Int.ofNat_eq_natCast, Int.natCast_zero, decide_eq_true_eq, decide_eq_false_iff_not, Bool.not_eq_true, Bool.not_eq_false, Bool.not_eq_eq_eq_not, Bool.not_true, Bool.not_false, beq_iff_eq, beq_eq_false_iff_ne, ne_eq, Bool.true_eq_false, Bool.false_eq_true, cond_true, cond_false] at *; omega
      · rename_i hh _ _
        have hset3 := hset2 (by assumption)
        refine ⟨(i+1, m4), ⟨by dsimp only; omega, hm2.symm, hok2 hv⟩, by dsimp only; omega, [0, 1, 2], ?_⟩
        (cbv; repeat' apply And.intro); all_goals (try (first | trivial | rfl | (rw [X.a]; rfl)))
  · have h5 : i = n := by obtain rfl := X.a; simp only [hlen, Std_t0, Std_t1, Std_x0, Std_x1, Std_len, Std_lt, Std_le, Std_eq, Std_add, Std_sub, Std_mul, Std_not, Std_ite, Std_str, Std_bool, Std_int, Std_slen, Std_seq, Std_slt', Std_beq, Std_idx, Std_bnd, Std_same, Std_max', Std_min', Std_partI, Std_app, Std_len_app, Std_len_lit, Std_len_setc, List.length_take, List.length_drop, List.length_append, List.length_cons, List.length_nil, Int.toNat_natCast, Std_inr64, bNot, Int.ofNat_eq_natCast, Int.natCast_zero, decide_eq_true_eq, decide_eq_false_iff_not, Bool.not_eq_true, Bool.not_eq_false, Bool.not_eq_eq_eq_not, Bool.not_true, Bool.not_false, beq_iff_eq, beq_eq_false_iff_ne, ne_eq, Bool.true_eq_false, Bool.false_eq_true, cond_true, cond_false] at h1; omega
    rw [h5, hn, List.take_length] at hm hok
    have hkr : 0 ≤ A.rem pl 1000000 ∧ A.rem pl 1000000 < 1000000 := by
      rw [X.a]
      exact ⟨Int.tmod_nonneg _ hp.1, Int.tmod_lt_of_pos _ (by omega)⟩
    have hP : A.mhas (T m) (.str path) = (getI m path).isSome := by rw [X.a, hT, Std_imhas]
    have hQ : A.mhas (T m) (.str q) = (getI m q).isSome := by rw [X.a, hT, Std_imhas]
    have vP : A.asInt (A.mget (T m) (.str path) 0) = (getI m path).getD 0 := by rw [X.a, hT, Std_imget]
    have vQ : A.asInt (A.mget (T m) (.str q) 0) = (getI m q).getD 0 := by rw [X.a, hT, Std_imget]
    have b1 := canon_lt (l := [⟨path, false, oneP (A.rem pl 1000000)⟩, unsat q set]) (n := 2) (by simp) (by omega)
    have b2 := canon_lt (l := [unsat q set]) (n := 1) (by simp) (by omega)
    have b3 := canon_lt (l := [⟨path, false, compl av⟩]) (n := 1) (by simp) (by omega)
    have l6a := law6a (path := path) (q := q) (set := set) hkr hok
    have l6b := law6b (q := q) (set := set) (s := s)
    have l6c := law6c (path := path) (set := av) hok
    rw [← hm] at l6a l6c
    cbv
    repeat' (first | apply And.intro | exact fun (_ : False → False) => by kernel_rfl | (intro h2; cbv) | apply Or.inl)
    · obtain rfl := X.a; simp only [Std_x0, Std_x1, Std_len, Std_lt, Std_le, Std_eq, Std_add, Std_sub, Std_mul, Std_not, Std_ite, Std_str, Std_bool, Std_int, Std_slen, Std_seq, Std_slt', Std_beq, Std_idx, Std_bnd, Std_same, Std_max', Std_min', Std_partI, Std_app, Std_len_app, Std_len_lit, Std_len_setc, List.length_take, List.length_drop, List.length_append, List.length_cons, List.length_nil, Int.toNat_natCast, Std_inr64, bNot, Int.ofNat_eq_natCast, Int.natCast_zero, decide_eq_true_eq, decide_eq_false_iff_not, Bool.not_eq_true, Bool.not_eq_false, Bool.not_eq_eq_eq_not, Bool.not_true, Bool.not_false, beq_iff_eq, beq_eq_false_iff_ne, ne_eq, Bool.true_eq_false, Bool.false_eq_true, cond_true, cond_false]; omega
    · obtain rfl := X.a; exact (by decide : (1000000 : Int) ≠ 0)
    · refine X.call (F30 hd hset fun r hr => ?_)
      have hr : r = hasS set (A.asInt (A.mget (T m) (.str q) 0)) := hr
      have hsat : satS s q set = r := by rw [hr, satS, ← hm, ← hQ, h2, vQ]; rfl
      cbv
      refine X.call (F13 hd (by omega) (show -9223372036854775808 ≤ A.rem pl 1000000 ∧ A.rem pl 1000000 ≤ 9223372036854775807 by omega) fun r1 hr1 => ?_)
      cbv
      refine X.call (F31 hr1 b1.1 b1.2 hg hs fun v1 hv1 => ?_)
      have hv1 : v1 = ((getI m path).isSome && decide ((getI m path).getD 0 = A.rem pl 1000000) && !satS s q set) := hv1.trans l6a
      have c1 : v1 = (A.eq (A.asInt (A.mget (T m) (.str path) 0)) (A.rem pl 1000000) && !r) := by
        rw [hv1, ← vP, ← hP, show A.mhas (T m) (.str path) = true by assumption, hsat]
        obtain rfl := X.a
        rw [Bool.true_and, Std_eq]
        rfl
      cbv
      repeat' (first | apply And.intro | exact fun (_ : False → False) => by kernel_rfl | (intro h2; cbv) | apply Or.inl)
      · exfalso
        rw [c1, show A.eq (A.asInt (A.mget (T m) (.str path) 0)) (A.rem pl 1000000) = true by assumption, X.a] at h2
        revert h2
        (cases r <;> decide)
      · refine X.call (F11 hd (by omega) fun r2 hr2 => ?_)
        cbv
        refine X.call (F32 hd hset fun r3 hr3 => ?_)
        cbv
        repeat' (first | apply And.intro | exact fun (_ : False → False) => by kernel_rfl | (intro h2; cbv) | apply Or.inl)
        · refine X.call (F31 hr2 b2.1 b2.2 hg hs fun v2 hv2 => ?_)
          have hne : 0 < (canon set).length := by
            have e4 : A.lt 0 (A.len r3) = true := by assumption
            obtain rfl := X.a; rw [hr3] at e4; simp only [Std_x0, Std_x1, Std_len, Std_lt, Std_le, Std_eq, Std_add, Std_sub, Std_mul, Std_not, Std_ite, Std_str, Std_bool, Std_int, Std_slen, Std_seq, Std_slt', Std_beq, Std_idx, Std_bnd, Std_same, Std_max', Std_min', Std_partI, Std_app, Std_len_app, Std_len_lit, Std_len_setc, List.length_take, List.length_drop, List.length_append, List.length_cons, List.length_nil, Int.toNat_natCast, Std_inr64, bNot, Int.ofNat_eq_natCast, Int.natCast_zero, decide_eq_true_eq, decide_eq_false_iff_not, Bool.not_eq_true, Bool.not_eq_false, Bool.not_eq_eq_eq_not, Bool.not_true, Bool.not_false, beq_iff_eq, beq_eq_false_iff_ne, ne_eq, Bool.true_eq_false, Bool.false_eq_true, cond_true, cond_false] at e4; omega
          have hv2 : v2 = !satS s q set := hv2.trans (l6b hne hok)
          rw [hsat] at hv2
          cbv
          repeat' (first | apply And.intro | exact fun (_ : False → False) => by kernel_rfl | (intro h2; cbv) | apply Or.inl)
          · exfalso
            rw [hv2, X.a] at h2
            revert h2
            (cases r <;> decide)
          · refine X.call (F15 he (by omega) fun r4 hr4 => ?_)
            cbv
            refine X.call (F31 hr4 b3.1 b3.2 hg hs fun v3 hv3 => ?_)
            have hv3 : v3 = ((getI m path).isSome && !hasS av ((getI m path).getD 0)) := hv3.trans l6c
            cbv
            refine X.call (F30 he hav fun r5 hr5 => ?_)
            have hr5 : r5 = hasS av (A.asInt (A.mget (T m) (.str path) 0)) := hr5
            have c3 : A.beq v3 (A.not r5) = true := by
              rw [hv3, ← vP, ← hr5, ← hP, show A.mhas (T m) (.str path) = true by assumption, X.a]
              cases r5 <;> rfl
            have k3 : K (.bool (A.beq v3 (A.not r5))) [] := by rw [c3]; exact h
            cbv
            exact k3
        · refine X.call (F15 he (by omega) fun r4 hr4 => ?_)
          cbv
          refine X.call (F31 hr4 b3.1 b3.2 hg hs fun v3 hv3 => ?_)
          have hv3 : v3 = ((getI m path).isSome && !hasS av ((getI m path).getD 0)) := hv3.trans l6c
          cbv
          refine X.call (F30 he hav fun r5 hr5 => ?_)
          have hr5 : r5 = hasS av (A.asInt (A.mget (T m) (.str path) 0)) := hr5
          have c3 : A.beq v3 (A.not r5) = true := by
            rw [hv3, ← vP, ← hr5, ← hP, show A.mhas (T m) (.str path) = true by assumption, X.a]
            cases r5 <;> rfl
          have k3 : K (.bool (A.beq v3 (A.not r5))) [] := by rw [c3]; exact h
          cbv
          exact k3
      · exfalso
        rw [c1, show A.eq (A.asInt (A.mget (T m) (.str path) 0)) (A.rem pl 1000000) = false by assumption, X.a] at h2
        revert h2
        (cases r <;> decide)
      · refine X.call (F11 hd (by omega) fun r2 hr2 => ?_)
        cbv
        refine X.call (F32 hd hset fun r3 hr3 => ?_)
        cbv
        repeat' (first | apply And.intro | exact fun (_ : False → False) => by kernel_rfl | (intro h2; cbv) | apply Or.inl)
        · refine X.call (F31 hr2 b2.1 b2.2 hg hs fun v2 hv2 => ?_)
          have hne : 0 < (canon set).length := by
            have e4 : A.lt 0 (A.len r3) = true := by assumption
            obtain rfl := X.a; rw [hr3] at e4; simp only [Std_x0, Std_x1, Std_len, Std_lt, Std_le, Std_eq, Std_add, Std_sub, Std_mul, Std_not, Std_ite, Std_str, Std_bool, Std_int, Std_slen, Std_seq, Std_slt', Std_beq, Std_idx, Std_bnd, Std_same, Std_max', Std_min', Std_partI, Std_app, Std_len_app, Std_len_lit, Std_len_setc, List.length_take, List.length_drop, List.length_append, List.length_cons, List.length_nil, Int.toNat_natCast, Std_inr64, bNot, Int.ofNat_eq_natCast, Int.natCast_zero, decide_eq_true_eq, decide_eq_false_iff_not, Bool.not_eq_true, Bool.not_eq_false, Bool.not_eq_eq_eq_not, Bool.not_true, Bool.not_false, beq_iff_eq, beq_eq_false_iff_ne, ne_eq, Bool.true_eq_false, Bool.false_eq_true, cond_true, cond_false] at e4; omega
          have hv2 : v2 = !satS s q set := hv2.trans (l6b hne hok)
          rw [hsat] at hv2
          cbv
          repeat' (first | apply And.intro | exact fun (_ : False → False) => by kernel_rfl | (intro h2; cbv) | apply Or.inl)
          · exfalso
            rw [hv2, X.a] at h2
            revert h2
            (cases r <;> decide)
          · refine X.call (F15 he (by omega) fun r4 hr4 => ?_)
            cbv
            refine X.call (F31 hr4 b3.1 b3.2 hg hs fun v3 hv3 => ?_)
            have hv3 : v3 = ((getI m path).isSome && !hasS av ((getI m path).getD 0)) := hv3.trans l6c
            cbv
            refine X.call (F30 he hav fun r5 hr5 => ?_)
            have hr5 : r5 = hasS av (A.asInt (A.mget (T m) (.str path) 0)) := hr5
            have c3 : A.beq v3 (A.not r5) = true := by
              rw [hv3, ← vP, ← hr5, ← hP, show A.mhas (T m) (.str path) = true by assumption, X.a]
              cases r5 <;> rfl
            have k3 : K (.bool (A.beq v3 (A.not r5))) [] := by rw [c3]; exact h
            cbv
            exact k3
        · refine X.call (F15 he (by omega) fun r4 hr4 => ?_)
          cbv
          refine X.call (F31 hr4 b3.1 b3.2 hg hs fun v3 hv3 => ?_)
          have hv3 : v3 = ((getI m path).isSome && !hasS av ((getI m path).getD 0)) := hv3.trans l6c
          cbv
          refine X.call (F30 he hav fun r5 hr5 => ?_)
          have hr5 : r5 = hasS av (A.asInt (A.mget (T m) (.str path) 0)) := hr5
          have c3 : A.beq v3 (A.not r5) = true := by
            rw [hv3, ← vP, ← hr5, ← hP, show A.mhas (T m) (.str path) = true by assumption, X.a]
            cases r5 <;> rfl
          have k3 : K (.bool (A.beq v3 (A.not r5))) [] := by rw [c3]; exact h
          cbv
          exact k3
    · have hsat : satS s q set = false := by rw [satS, ← hm, ← hQ, h2]; rfl
      cbv
      refine X.call (F13 hd (by omega) (show -9223372036854775808 ≤ A.rem pl 1000000 ∧ A.rem pl 1000000 ≤ 9223372036854775807 by omega) fun r1 hr1 => ?_)
      cbv
      refine X.call (F31 hr1 b1.1 b1.2 hg hs fun v1 hv1 => ?_)
      have hv1 : v1 = ((getI m path).isSome && decide ((getI m path).getD 0 = A.rem pl 1000000) && !satS s q set) := hv1.trans l6a
      have c1 : v1 = (A.eq (A.asInt (A.mget (T m) (.str path) 0)) (A.rem pl 1000000) && !false) := by
        rw [hv1, ← vP, ← hP, show A.mhas (T m) (.str path) = true by assumption, hsat]
        obtain rfl := X.a
        rw [Bool.true_and, Std_eq]
        rfl
      cbv
      repeat' (first | apply And.intro | exact fun (_ : False → False) => by kernel_rfl | (intro h2; cbv) | apply Or.inl)
      · exfalso
        rw [c1, show A.eq (A.asInt (A.mget (T m) (.str path) 0)) (A.rem pl 1000000) = true by assumption, X.a] at h2
        revert h2
        decide
      · refine X.call (F11 hd (by omega) fun r2 hr2 => ?_)
        cbv
        refine X.call (F32 hd hset fun r3 hr3 => ?_)
        cbv
        repeat' (first | apply And.intro | exact fun (_ : False → False) => by kernel_rfl | (intro h2; cbv) | apply Or.inl)
        · refine X.call (F31 hr2 b2.1 b2.2 hg hs fun v2 hv2 => ?_)
          have hne : 0 < (canon set).length := by
            have e4 : A.lt 0 (A.len r3) = true := by assumption
            obtain rfl := X.a; rw [hr3] at e4; simp only [Std_x0, Std_x1, Std_len, Std_lt, Std_le, Std_eq, Std_add, Std_sub, Std_mul, Std_not, Std_ite, Std_str, Std_bool, Std_int, Std_slen, Std_seq, Std_slt', Std_beq, Std_idx, Std_bnd, Std_same, Std_max', Std_min', Std_partI, Std_app, Std_len_app, Std_len_lit, Std_len_setc, List.length_take, List.length_drop, List.length_append, List.length_cons, List.length_nil, Int.toNat_natCast, Std_inr64, bNot, Int.ofNat_eq_natCast, Int.natCast_zero, decide_eq_true_eq, decide_eq_false_iff_not, Bool.not_eq_true, Bool.not_eq_false, Bool.not_eq_eq_eq_not, Bool.not_true, Bool.not_false, beq_iff_eq, beq_eq_false_iff_ne, ne_eq, Bool.true_eq_false, Bool.false_eq_true, cond_true, cond_false] at e4; omega
          have hv2 : v2 = !satS s q set := hv2.trans (l6b hne hok)
          rw [hsat] at hv2
          cbv
          repeat' (first | apply And.intro | exact fun (_ : False → False) => by kernel_rfl | (intro h2; cbv) | apply Or.inl)
          · exfalso
            rw [hv2, X.a] at h2
            revert h2
            decide
          · refine X.call (F15 he (by omega) fun r4 hr4 => ?_)
            cbv
            refine X.call (F31 hr4 b3.1 b3.2 hg hs fun v3 hv3 => ?_)
            have hv3 : v3 = ((getI m path).isSome && !hasS av ((getI m path).getD 0)) := hv3.trans l6c
            cbv
            refine X.call (F30 he hav fun r5 hr5 => ?_)
            have hr5 : r5 = hasS av (A.asInt (A.mget (T m) (.str path) 0)) := hr5
            have c3 : A.beq v3 (A.not r5) = true := by
              rw [hv3, ← vP, ← hr5, ← hP, show A.mhas (T m) (.str path) = true by assumption, X.a]
              cases r5 <;> rfl
            have k3 : K (.bool (A.beq v3 (A.not r5))) [] := by rw [c3]; exact h
            cbv
            exact k3
        · refine X.call (F15 he (by omega) fun r4 hr4 => ?_)
          cbv
          refine X.call (F31 hr4 b3.1 b3.2 hg hs fun v3 hv3 => ?_)
          have hv3 : v3 = ((getI m path).isSome && !hasS av ((getI m path).getD 0)) := hv3.trans l6c
          cbv
          refine X.call (F30 he hav fun r5 hr5 => ?_)
          have hr5 : r5 = hasS av (A.asInt (A.mget (T m) (.str path) 0)) := hr5
          have c3 : A.beq v3 (A.not r5) = true := by
            rw [hv3, ← vP, ← hr5, ← hP, show A.mhas (T m) (.str path) = true by assumption, X.a]
            cases r5 <;> rfl
          have k3 : K (.bool (A.beq v3 (A.not r5))) [] := by rw [c3]; exact h
          cbv
          exact k3
      · exfalso
        rw [c1, show A.eq (A.asInt (A.mget (T m) (.str path) 0)) (A.rem pl 1000000) = false by assumption, X.a] at h2
        revert h2
        decide
      · refine X.call (F11 hd (by omega) fun r2 hr2 => ?_)
        cbv
        refine X.call (F32 hd hset fun r3 hr3 => ?_)
        cbv
        repeat' (first | apply And.intro | exact fun (_ : False → False) => by kernel_rfl | (intro h2; cbv) | apply Or.inl)
        · refine X.call (F31 hr2 b2.1 b2.2 hg hs fun v2 hv2 => ?_)
          have hne : 0 < (canon set).length := by
            have e4 : A.lt 0 (A.len r3) = true := by assumption
            obtain rfl := X.a; rw [hr3] at e4; simp only [Std_x0, Std_x1, Std_len, Std_lt, Std_le, Std_eq, Std_add, Std_sub, Std_mul, Std_not, Std_ite, Std_str, Std_bool, Std_int, Std_slen, Std_seq, Std_slt', Std_beq, Std_idx, Std_bnd, Std_same, Std_max', Std_min', Std_partI, Std_app, Std_len_app, Std_len_lit, Std_len_setc, List.length_take, List.length_drop, List.length_append, List.length_cons, List.length_nil, Int.toNat_natCast, Std_inr64, bNot, Int.ofNat_eq_natCast, Int.natCast_zero, decide_eq_true_eq, decide_eq_false_iff_not, Bool.not_eq_true, Bool.not_eq_false, Bool.not_eq_eq_eq_not, Bool.not_true, Bool.not_false, beq_iff_eq, beq_eq_false_iff_ne, ne_eq, Bool.true_eq_false, Bool.false_eq_true, cond_true, cond_false] at e4; omega
          have hv2 : v2 = !satS s q set := hv2.trans (l6b hne hok)
          rw [hsat] at hv2
          cbv
          repeat' (first | apply And.intro | exact fun (_ : False → False) => by kernel_rfl | (intro h2; cbv) | apply Or.inl)
          · exfalso
            rw [hv2, X.a] at h2
            revert h2
            decide
          · refine X.call (F15 he (by omega) fun r4 hr4 => ?_)
            cbv
            refine X.call (F31 hr4 b3.1 b3.2 hg hs fun v3 hv3 => ?_)
            have hv3 : v3 = ((getI m path).isSome && !hasS av ((getI m path).getD 0)) := hv3.trans l6c
            cbv
            refine X.call (F30 he hav fun r5 hr5 => ?_)
            have hr5 : r5 = hasS av (A.asInt (A.mget (T m) (.str path) 0)) := hr5
            have c3 : A.beq v3 (A.not r5) = true := by
              rw [hv3, ← vP, ← hr5, ← hP, show A.mhas (T m) (.str path) = true by assumption, X.a]
              cases r5 <;> rfl
            have k3 : K (.bool (A.beq v3 (A.not r5))) [] := by rw [c3]; exact h
            cbv
            exact k3
        · refine X.call (F15 he (by omega) fun r4 hr4 => ?_)
          cbv
          refine X.call (F31 hr4 b3.1 b3.2 hg hs fun v3 hv3 => ?_)
          have hv3 : v3 = ((getI m path).isSome && !hasS av ((getI m path).getD 0)) := hv3.trans l6c
          cbv
          refine X.call (F30 he hav fun r5 hr5 => ?_)
          have hr5 : r5 = hasS av (A.asInt (A.mget (T m) (.str path) 0)) := hr5
          have c3 : A.beq v3 (A.not r5) = true := by
            rw [hv3, ← vP, ← hr5, ← hP, show A.mhas (T m) (.str path) = true by assumption, X.a]
            cases r5 <;> rfl
          have k3 : K (.bool (A.beq v3 (A.not r5))) [] := by rw [c3]; exact h
          cbv
          exact k3
    · refine X.call (F30 hd hset fun r hr => ?_)
      have hr : r = hasS set (A.asInt (A.mget (T m) (.str q) 0)) := hr
      have hsat : satS s q set = r := by rw [hr, satS, ← hm, ← hQ, h2, vQ]; rfl
      cbv
      refine X.call (F13 hd (by omega) (show -9223372036854775808 ≤ A.rem pl 1000000 ∧ A.rem pl 1000000 ≤ 9223372036854775807 by omega) fun r1 hr1 => ?_)
      cbv
      refine X.call (F31 hr1 b1.1 b1.2 hg hs fun v1 hv1 => ?_)
      have hv1 : v1 = ((getI m path).isSome && decide ((getI m path).getD 0 = A.rem pl 1000000) && !satS s q set) := hv1.trans l6a
      have c1 : v1 = false := by
        rw [hv1, ← hP, show A.mhas (T m) (.str path) = false by assumption]; rfl
      cbv
      repeat' (first | apply And.intro | exact fun (_ : False → False) => by kernel_rfl | (intro h2; cbv) | apply Or.inl)
      · exfalso
        rw [c1, X.a] at h2
        revert h2
        decide
      · refine X.call (F11 hd (by omega) fun r2 hr2 => ?_)
        cbv
        refine X.call (F32 hd hset fun r3 hr3 => ?_)
        cbv
        repeat' (first | apply And.intro | exact fun (_ : False → False) => by kernel_rfl | (intro h2; cbv) | apply Or.inl)
        · refine X.call (F31 hr2 b2.1 b2.2 hg hs fun v2 hv2 => ?_)
          have hne : 0 < (canon set).length := by
            have e4 : A.lt 0 (A.len r3) = true := by assumption
            obtain rfl := X.a; rw [hr3] at e4; simp only [Std_x0, Std_x1, Std_len, Std_lt, Std_le, Std_eq, Std_add, Std_sub, Std_mul, Std_not, Std_ite, Std_str, Std_bool, Std_int, Std_slen, Std_seq, Std_slt', Std_beq, Std_idx, Std_bnd, Std_same, Std_max', Std_min', Std_partI, Std_app, Std_len_app, Std_len_lit, Std_len_setc, List.length_take, List.length_drop, List.length_append, List.length_cons, List.length_nil, Int.toNat_natCast, Std_inr64, bNot, Int.ofNat_eq_natCast, Int.natCast_zero, decide_eq_true_eq, decide_eq_false_iff_not, Bool.not_eq_true, Bool.not_eq_false, Bool.not_eq_eq_eq_not, Bool.not_true, Bool.not_false, beq_iff_eq, beq_eq_false_iff_ne, ne_eq, Bool.true_eq_false, Bool.false_eq_true, cond_true, cond_false] at e4; omega
          have hv2 : v2 = !satS s q set := hv2.trans (l6b hne hok)
          rw [hsat] at hv2
          cbv
          repeat' (first | apply And.intro | exact fun (_ : False → False) => by kernel_rfl | (intro h2; cbv) | apply Or.inl)
          · exfalso
            rw [hv2, X.a] at h2
            revert h2
            (cases r <;> decide)
          · refine X.call (F15 he (by omega) fun r4 hr4 => ?_)
            cbv
            refine X.call (F31 hr4 b3.1 b3.2 hg hs fun v3 hv3 => ?_)
            have hv3 : v3 = ((getI m path).isSome && !hasS av ((getI m path).getD 0)) := hv3.trans l6c
            have c3 : A.beq v3 false = true := by
              rw [hv3, ← hP, show A.mhas (T m) (.str path) = false by assumption, X.a]
              rfl
            have k3 : K (.bool (A.beq v3 false)) [] := by rw [c3]; exact h
            cbv
            exact k3
        · refine X.call (F15 he (by omega) fun r4 hr4 => ?_)
          cbv
          refine X.call (F31 hr4 b3.1 b3.2 hg hs fun v3 hv3 => ?_)
          have hv3 : v3 = ((getI m path).isSome && !hasS av ((getI m path).getD 0)) := hv3.trans l6c
          have c3 : A.beq v3 false = true := by
            rw [hv3, ← hP, show A.mhas (T m) (.str path) = false by assumption, X.a]
            rfl
          have k3 : K (.bool (A.beq v3 false)) [] := by rw [c3]; exact h
          cbv
          exact k3
    · have hsat : satS s q set = false := by rw [satS, ← hm, ← hQ, h2]; rfl
      cbv
      refine X.call (F13 hd (by omega) (show -9223372036854775808 ≤ A.rem pl 1000000 ∧ A.rem pl 1000000 ≤ 9223372036854775807 by omega) fun r1 hr1 => ?_)
      cbv
      refine X.call (F31 hr1 b1.1 b1.2 hg hs fun v1 hv1 => ?_)
      have hv1 : v1 = ((getI m path).isSome && decide ((getI m path).getD 0 = A.rem pl 1000000) && !satS s q set) := hv1.trans l6a
      have c1 : v1 = false := by
        rw [hv1, ← hP, show A.mhas (T m) (.str path) = false by assumption]; rfl
      cbv
      repeat' (first | apply And.intro | exact fun (_ : False → False) => by kernel_rfl | (intro h2; cbv) | apply Or.inl)
      · exfalso
        rw [c1, X.a] at h2
        revert h2
        decide
      · refine X.call (F11 hd (by omega) fun r2 hr2 => ?_)
        cbv
        refine X.call (F32 hd hset fun r3 hr3 => ?_)
        cbv
        repeat' (first | apply And.intro | exact fun (_ : False → False) => by kernel_rfl | (intro h2; cbv) | apply Or.inl)
        · refine X.call (F31 hr2 b2.1 b2.2 hg hs fun v2 hv2 => ?_)
          have hne : 0 < (canon set).length := by
            have e4 : A.lt 0 (A.len r3) = true := by assumption
            obtain rfl := X.a; rw [hr3] at e4; simp only [Std_x0, Std_x1, Std_len, Std_lt, Std_le, Std_eq, Std_add, Std_sub, Std_mul, Std_not, Std_ite, Std_str, Std_bool, Std_int, Std_slen, Std_seq, Std_slt', Std_beq, Std_idx, Std_bnd, Std_same, Std_max', Std_min', Std_partI, Std_app, Std_len_app, Std_len_lit, Std_len_setc, List.length_take, List.length_drop, List.length_append, List.length_cons, List.length_nil, Int.toNat_natCast, Std_inr64, bNot, Int.ofNat_eq_natCast, Int.natCast_zero, decide_eq_true_eq, decide_eq_false_iff_not, Bool.not_eq_true, Bool.not_eq_false, Bool.not_eq_eq_eq_not, Bool.not_true, Bool.not_false, beq_iff_eq, beq_eq_false_iff_ne, ne_eq, Bool.true_eq_false, Bool.false_eq_true, cond_true, cond_false] at e4; omega
          have hv2 : v2 = !satS s q set := hv2.trans (l6b hne hok)
          rw [hsat] at hv2
          cbv
          repeat' (first | apply And.intro | exact fun (_ : False → False) => by kernel_rfl | (intro h2; cbv) | apply Or.inl)
          · exfalso
            rw [hv2, X.a] at h2
            revert h2
            decide
          · refine X.call (F15 he (by omega) fun r4 hr4 => ?_)
            cbv
            refine X.call (F31 hr4 b3.1 b3.2 hg hs fun v3 hv3 => ?_)
            have hv3 : v3 = ((getI m path).isSome && !hasS av ((getI m path).getD 0)) := hv3.trans l6c
            have c3 : A.beq v3 false = true := by
              rw [hv3, ← hP, show A.mhas (T m) (.str path) = false by assumption, X.a]
              rfl
            have k3 : K (.bool (A.beq v3 false)) [] := by rw [c3]; exact h
            cbv
            exact k3
        · refine X.call (F15 he (by omega) fun r4 hr4 => ?_)
          cbv
          refine X.call (F31 hr4 b3.1 b3.2 hg hs fun v3 hv3 => ?_)
          have hv3 : v3 = ((getI m path).isSome && !hasS av ((getI m path).getD 0)) := hv3.trans l6c
          have c3 : A.beq v3 false = true := by
            rw [hv3, ← hP, show A.mhas (T m) (.str path) = false by assumption, X.a]
            rfl
          have k3 : K (.bool (A.beq v3 false)) [] := by rw [c3]; exact h
          cbv
          exact k3
end Go.VC.T35
end
