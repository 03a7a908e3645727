/- Part 5 of the common texts: D6 D7 D8 Q1 Q2 Q3 Y0 Q4. -/
import Derived.Test.YtkccmlagckaloaaGreatRows
import Derived.ProofKit
import Derived.OpenShut
import Derived.JoinedCond
import Derived.Test.YtkccmlagckaloaaGreatPart1
import Derived.Test.YtkccmlagckaloaaGreatPart2
import Derived.Test.YtkccmlagckaloaaGreatPart3
import Derived.Test.YtkccmlagckaloaaGreatPart4
set_option linter.all false

section
set_option linter.unusedSimpArgs false
set_option linter.unusedVariables false
namespace Go.VC.T35
open Go Go.VC Go.Proofs

set_option maxRecDepth 100000 in
set_option maxHeartbeats 2000000 in
theorem F18 {a b : List Term} {path : List UInt8} {d e : D} {K : PV → List Ob → Prop} (hd : d = encL encT a) (he : e = encL encT b) (ha : a.length ≤ 400) (hb : b.length ≤ 400) (has : ∀ t ∈ a, t.set.length ≤ 2000000) (hbs : ∀ t ∈ b, t.set.length ≤ 2000000)
    (h : ∀ r x, r = encL encT (resolveT a b path).1 → x = (resolveT a b path).2 → K (.tup [.lst 51 r, .int .i64 x]) []) : FC Tryz.prog tt 18 [] [.lst 51 d, .lst 51 e, .str path] K := by
  refine FC.enter (G := g18) tt_ok mixed ⟨Tryz.func18, by rfl, rfl⟩ rfl rfl rfl ?_
  intro A C L X
  have hdef : resolveT a b path = resolveX (canonT a).1 (canonT b).1 (canonT a).2 (canonT b).2 path := rfl
  have hl1 := canonT_len (l := a)
  have hl2 := canonT_len (l := b)
  have hc1 := canonT_can (l := a)
  have hc2 := canonT_can (l := b)
  obtain ⟨x, hx⟩ : ∃ x, x = (canonT a).1 := ⟨_, rfl⟩
  obtain ⟨y, hy⟩ : ∃ y, y = (canonT b).1 := ⟨_, rfl⟩
  obtain ⟨b1, hb1⟩ : ∃ b1, b1 = (canonT a).2 := ⟨_, rfl⟩
  obtain ⟨b2, hb2⟩ : ∃ b2, b2 = (canonT b).2 := ⟨_, rfl⟩
  rw [← hx] at hl1 hc1 hdef
  rw [← hy] at hl2 hc2 hdef
  rw [← hb1, ← hb2] at hdef
  cbv
  refine X.call (F46 hd (by omega) has (fun h1 => ?_) fun t1 e1 r1 hb1' ht1 he1 hr1 => ?_)
  · rw [← hx, ← hb1] at h1
    have hres : resolveT a b path = ([], 1) := by rw [hdef]; exact h1.elim rX1 rX3
    cbv
    refine X.call (F46 he (by omega) hbs (fun h2 => ?_) fun t2 e2 r2 hb2' ht2 he2 hr2 => ?_)
    all_goals
      cbv
      repeat' (first | apply And.intro | exact fun (_ : False → False) => by kernel_rfl | (intro h2; cbv) | apply Or.inl)
    all_goals try (exfalso; obtain rfl := X.a; simp only [Std_t0, Std_t1, Std_x0, Std_x1, Std_len, Std_lt, Std_le, Std_eq, Std_add, Std_sub, Std_mul, Std_not, Std_ite, Std_str, Std_bool, Std_int, Std_slen, Std_seq, Std_slt', Std_beq, Std_idx, Std_bnd, Std_same, Std_max', Std_min', Std_partI, Std_app, Std_len_app, Std_len_lit, Std_len_setc, List.length_take, List.length_drop, List.length_append, List.length_cons, List.length_nil, Int.toNat_natCast, Std_inr64, bNot, Int.ofNat_eq_natCast, Int.natCast_zero, decide_eq_true_eq, decide_eq_false_iff_not, Bool.not_eq_true, Bool.not_eq_false, Bool.not_eq_eq_eq_not, Bool.not_true, Bool.not_false, beq_iff_eq, beq_eq_false_iff_ne, ne_eq, Bool.true_eq_false, Bool.false_eq_true, cond_true, cond_false] at *; done)
    all_goals exact h _ _ (by rw [hres]; rfl) (by rw [hres])
  · rw [← hx] at ht1 hr1
    rw [← hb1] at hb1'
    cbv
    refine X.call (F46 he (by omega) hbs (fun h2 => ?_) fun t2 e2 r2 hb2' ht2 he2 hr2 => ?_)
    · rw [← hy, ← hb2] at h2
      have hres : resolveT a b path = ([], 1) := by rw [hdef]; exact h2.elim rX2 rX4
      cbv
      repeat' (first | apply And.intro | exact fun (_ : False → False) => by kernel_rfl | (intro h2; cbv) | apply Or.inl)
      all_goals try (exfalso; obtain rfl := X.a; simp only [Std_t0, Std_t1, Std_x0, Std_x1, Std_len, Std_lt, Std_le, Std_eq, Std_add, Std_sub, Std_mul, Std_not, Std_ite, Std_str, Std_bool, Std_int, Std_slen, Std_seq, Std_slt', Std_beq, Std_idx, Std_bnd, Std_same, Std_max', Std_min', Std_partI, Std_app, Std_len_app, Std_len_lit, Std_len_setc, List.length_take, List.length_drop, List.length_append, List.length_cons, List.length_nil, Int.toNat_natCast, Std_inr64, bNot, Int.ofNat_eq_natCast, Int.natCast_zero, decide_eq_true_eq, decide_eq_false_iff_not, Bool.not_eq_true, Bool.not_eq_false, Bool.not_eq_eq_eq_not, Bool.not_true, Bool.not_false, beq_iff_eq, beq_eq_false_iff_ne, ne_eq, Bool.true_eq_false, Bool.false_eq_true, cond_true, cond_false] at *; done)
      all_goals exact h _ _ (by rw [hres]; rfl) (by rw [hres])
    · rw [← hy] at ht2 hr2
      rw [← hb2] at hb2'
      have hd1 : t1.set.length ≤ 1000001 := (hc1 _ (findT'_mem ht1).1).length
      have hd2 : t2.set.length ≤ 1000001 := (hc2 _ (findT'_mem ht2).1).length
      have hwl1 := without_len (l := x) (p := path)
      have hwl2 := without_len (l := y) (p := path)
      have hdef2 : resolveT a b path = if (canonT (without x path ++ without y path ++ [eitherT path t1 t2])).2 = true then ((canonT (without x path ++ without y path ++ [eitherT path t1 t2])).1, 0) else ([], 8) := by
        rw [hdef, resolveX, if_pos ⟨hb1'.symm ▸ rfl, hb2'.symm ▸ rfl⟩, ht1, ht2]
      cbv
      repeat' (first | apply And.intro | exact fun (_ : False → False) => by kernel_rfl | (intro h2; cbv) | apply Or.inl)
      · exfalso; obtain rfl := X.a; simp only [Std_t0, Std_t1, Std_x0, Std_x1, Std_len, Std_lt, Std_le, Std_eq, Std_add, Std_sub, Std_mul, Std_not, Std_ite, Std_str, Std_bool, Std_int, Std_slen, Std_seq, Std_slt', Std_beq, Std_idx, Std_bnd, Std_same, Std_max', Std_min', Std_partI, Std_app, Std_len_app, Std_len_lit, Std_len_setc, List.length_take, List.length_drop, List.length_append, List.length_cons, List.length_nil, Int.toNat_natCast, Std_inr64, bNot, Int.ofNat_eq_natCast, Int.natCast_zero, decide_eq_true_eq, decide_eq_false_iff_not, Bool.not_eq_true, Bool.not_eq_false, Bool.not_eq_eq_eq_not, Bool.not_true, Bool.not_false, beq_iff_eq, beq_eq_false_iff_ne, ne_eq, Bool.true_eq_false, Bool.false_eq_true, cond_true, cond_false] at *; done
      · obtain rfl := X.a; subst hr1; subst hr2; simp only [Std_t0, Std_t1, Std_x0, Std_x1, Std_len, Std_lt, Std_le, Std_eq, Std_add, Std_sub, Std_mul, Std_not, Std_ite, Std_str, Std_bool, Std_int, Std_slen, Std_seq, Std_slt', Std_beq, Std_idx, Std_bnd, Std_same, Std_max', Std_min', Std_partI, Std_app, Std_len_app, Std_len_lit, Std_len_setc, List.length_take, List.length_drop, List.length_append, List.length_cons, List.length_nil, Int.toNat_natCast, Std_inr64, bNot, Int.ofNat_eq_natCast, Int.natCast_zero, decide_eq_true_eq, decide_eq_false_iff_not, Bool.not_eq_true, Bool.not_eq_false, Bool.not_eq_eq_eq_not, Bool.not_true, Bool.not_false, beq_iff_eq, beq_eq_false_iff_ne, ne_eq, Bool.true_eq_false, Bool.false_eq_true, cond_true, cond_false]; omega
      · refine X.call (F47 he1 he2 (by omega) (by omega) fun r3 b3 hr3 hb3 => ?_)
        cbv
        repeat' (first | apply And.intro | exact fun (_ : False → False) => by kernel_rfl | (intro h2; cbv) | apply Or.inl)
        all_goals first
          | (obtain rfl := X.a; subst hr1; subst hr2; simp only [Std_t0, Std_t1, Std_x0, Std_x1, Std_len, Std_lt, Std_le, Std_eq, Std_add, Std_sub, Std_mul, Std_not, Std_ite, Std_str, Std_bool, Std_int, Std_slen, Std_seq, Std_slt', Std_beq, Std_idx, Std_bnd, Std_same, Std_max', Std_min', Std_partI, Std_app, Std_len_app, Std_len_lit, Std_len_setc, List.length_take, List.length_drop, List.length_append, List.length_cons, List.length_nil, Int.toNat_natCast, Std_inr64, bNot, Int.ofNat_eq_natCast, Int.natCast_zero, decide_eq_true_eq, decide_eq_false_iff_not, Bool.not_eq_true, Bool.not_eq_false, Bool.not_eq_eq_eq_not, Bool.not_true, Bool.not_false, beq_iff_eq, beq_eq_false_iff_ne, ne_eq, Bool.true_eq_false, Bool.false_eq_true, cond_true, cond_false]; omega)
          | skip
        refine X.call (F34 (l := without x path ++ without y path ++ [eitherT path t1 t2]) ?_ (by simp; omega) ?_ fun r4 b4 hr4 hb4 => ?_)
        · rw [X.a]; exact Std_app' (Std_app' hr1 hr2) (lit1e (eitherT path t1 t2) (by rw [hr3, hb3]; rfl))
        · intro t ht
          simp only [List.mem_append, List.mem_singleton] at ht
          rcases ht with (ht | ht) | rfl
          · have := (hc1 _ (without_mem ht)).length; omega
          · have := (hc2 _ (without_mem ht)).length; omega
          · have := (can_union [t1.set, t2.set]).length; show (union [t1.set, t2.set]).length ≤ _; omega
        cbv
        repeat' (first | apply And.intro | exact fun (_ : False → False) => by kernel_rfl | (intro h2; cbv) | apply Or.inl)
        · have : b4 = false := by obtain rfl := X.a; simp only [Std_x0, Std_x1, Std_len, Std_lt, Std_le, Std_eq, Std_add, Std_sub, Std_mul, Std_not, Std_ite, Std_str, Std_bool, Std_int, Std_slen, Std_seq, Std_slt', Std_beq, Std_idx, Std_bnd, Std_same, Std_max', Std_min', Std_partI, Std_app, Std_len_app, Std_len_lit, Std_len_setc, List.length_take, List.length_drop, List.length_append, List.length_cons, List.length_nil, Int.toNat_natCast, Std_inr64, bNot, Int.ofNat_eq_natCast, Int.natCast_zero, decide_eq_true_eq, decide_eq_false_iff_not, Bool.not_eq_true, Bool.not_eq_false, Bool.not_eq_eq_eq_not, Bool.not_true, Bool.not_false, beq_iff_eq, beq_eq_false_iff_ne, ne_eq, Bool.true_eq_false, Bool.false_eq_true, cond_true, cond_false] at *; assumption
          rw [if_neg (by rw [← hb4, this]; simp)] at hdef2
          exact h _ _ (by rw [hdef2]; rfl) (by rw [hdef2])
        · have : b4 = true := by obtain rfl := X.a; simp only [Std_x0, Std_x1, Std_len, Std_lt, Std_le, Std_eq, Std_add, Std_sub, Std_mul, Std_not, Std_ite, Std_str, Std_bool, Std_int, Std_slen, Std_seq, Std_slt', Std_beq, Std_idx, Std_bnd, Std_same, Std_max', Std_min', Std_partI, Std_app, Std_len_app, Std_len_lit, Std_len_setc, List.length_take, List.length_drop, List.length_append, List.length_cons, List.length_nil, Int.toNat_natCast, Std_inr64, bNot, Int.ofNat_eq_natCast, Int.natCast_zero, decide_eq_true_eq, decide_eq_false_iff_not, Bool.not_eq_true, Bool.not_eq_false, Bool.not_eq_eq_eq_not, Bool.not_true, Bool.not_false, beq_iff_eq, beq_eq_false_iff_ne, ne_eq, Bool.true_eq_false, Bool.false_eq_true, cond_true, cond_false] at *; assumption
          rw [if_pos (by rw [← hb4, this])] at hdef2
          exact h _ _ (by rw [hdef2, hr4]) (by rw [hdef2])
      · exfalso; obtain rfl := X.a; simp only [Std_t0, Std_t1, Std_x0, Std_x1, Std_len, Std_lt, Std_le, Std_eq, Std_add, Std_sub, Std_mul, Std_not, Std_ite, Std_str, Std_bool, Std_int, Std_slen, Std_seq, Std_slt', Std_beq, Std_idx, Std_bnd, Std_same, Std_max', Std_min', Std_partI, Std_app, Std_len_app, Std_len_lit, Std_len_setc, List.length_take, List.length_drop, List.length_append, List.length_cons, List.length_nil, Int.toNat_natCast, Std_inr64, bNot, Int.ofNat_eq_natCast, Int.natCast_zero, decide_eq_true_eq, decide_eq_false_iff_not, Bool.not_eq_true, Bool.not_eq_false, Bool.not_eq_eq_eq_not, Bool.not_true, Bool.not_false, beq_iff_eq, beq_eq_false_iff_ne, ne_eq, Bool.true_eq_false, Bool.false_eq_true, cond_true, cond_false] at *; done
end Go.VC.T35
end

section
set_option linter.unusedSimpArgs false
set_option linter.unusedVariables false
namespace Go.VC.T35
open Go Go.VC Go.Proofs

set_option maxRecDepth 100000 in
set_option maxHeartbeats 2000000 in
theorem F20 {a b : List Term} {d e : D} {K : PV → List Ob → Prop} (hd : d = encL encT a) (he : e = encL encT b) (ha : a.length ≤ 400) (hb : b.length ≤ 400) (has : ∀ t ∈ a, t.set.length ≤ 2000000) (hbs : ∀ t ∈ b, t.set.length ≤ 2000000)
    (h : ∀ r, r = subsumesT a b → K (.bool r) []) : FC Tryz.prog tt 20 [] [.lst 51 d, .lst 51 e] K := by
  refine FC.enter (G := g20) tt_ok mixed ⟨Tryz.func20, by rfl, rfl⟩ rfl rfl rfl ?_
  intro A C L X
  cbv
  refine X.call (F34 hd (by omega) has fun r1 b1 hr1 hb1 => ?_)
  cbv
  refine X.call (F34 he (by omega) hbs fun r2 b2 hr2 hb2 => ?_)
  have hl1 := canonT_len (l := a)
  have hl2 := canonT_len (l := b)
  have hc1 := canonT_can (l := a)
  have hc2 := canonT_can (l := b)
  have hdef : subsumesT a b = subsumesX (canonT a).1 (canonT b).1 b1 b2 := by rw [hb1, hb2]; rfl
  obtain ⟨x, hx⟩ : ∃ x, x = (canonT a).1 := ⟨_, rfl⟩
  obtain ⟨y, hy⟩ : ∃ y, y = (canonT b).1 := ⟨_, rfl⟩
  rw [← hx] at hr1 hl1 hc1 hdef
  rw [← hy] at hr2 hl2 hc2 hdef
  cbv
  repeat' (first | apply And.intro | exact fun (_ : False → False) => by kernel_rfl | (intro h2; cbv) | apply Or.inl)
  · refine h _ ?_
    obtain rfl := X.a; simp only [Std_t0, Std_t1, Std_x0, Std_x1, Std_len, Std_lt, Std_le, Std_eq, Std_add, Std_sub, Std_mul, Std_not, Std_ite, Std_str, Std_bool, Std_int, Std_slen, Std_seq, Std_slt', Std_beq, Std_idx, Std_bnd, Std_same, Std_max', Std_min', Std_partI, Std_app, Std_len_app, Std_len_lit, Std_len_setc, List.length_take, List.length_drop, List.length_append, List.length_cons, List.length_nil, Int.toNat_natCast, Std_inr64, bNot, Int.ofNat_eq_natCast, Int.natCast_zero, decide_eq_true_eq, decide_eq_false_iff_not, Bool.not_eq_true, Bool.not_eq_false, Bool.not_eq_eq_eq_not, Bool.not_true, Bool.not_false, beq_iff_eq, beq_eq_false_iff_ne, ne_eq, Bool.true_eq_false, Bool.false_eq_true, cond_true, cond_false] at *
    rw [hdef]; simp only [subsumesX]; simp_all
  · have hb12 : b1 = true ∧ b2 = true := by obtain rfl := X.a; simp only [Std_t0, Std_t1, Std_x0, Std_x1, Std_len, Std_lt, Std_le, Std_eq, Std_add, Std_sub, Std_mul, Std_not, Std_ite, Std_str, Std_bool, Std_int, Std_slen, Std_seq, Std_slt', Std_beq, Std_idx, Std_bnd, Std_same, Std_max', Std_min', Std_partI, Std_app, Std_len_app, Std_len_lit, Std_len_setc, List.length_take, List.length_drop, List.length_append, List.length_cons, List.length_nil, Int.toNat_natCast, Std_inr64, bNot, Int.ofNat_eq_natCast, Int.natCast_zero, decide_eq_true_eq, decide_eq_false_iff_not, Bool.not_eq_true, Bool.not_eq_false, Bool.not_eq_eq_eq_not, Bool.not_true, Bool.not_false, beq_iff_eq, beq_eq_false_iff_ne, ne_eq, Bool.true_eq_false, Bool.false_eq_true, cond_true, cond_false] at *; exact ⟨by assumption, by assumption⟩
    have hdef2 : subsumesT a b = x.all (sub1 y) := by rw [hdef, subsumesX, if_pos ⟨hb12.2, hb12.1⟩]
    refine X.loop (fun (i : Nat) => ⟨[(30, .lst 51 r1), (31, .int .i64 (A.len r1)), (32, .int .i64 i), (4, .bl false), (5, .lst 51 r1), (7, .lst 51 r2)], []⟩) (fun i => i ≤ x.length ∧ ∀ t ∈ x.take i, sub1 y t = true) (fun i => x.length - i) 0 ⟨Nat.zero_le _, by simp⟩ ?_ ?_
    · (cbv; repeat' apply And.intro); all_goals (try (first | trivial | rfl | (rw [X.a]; rfl)))
    rintro i ⟨hi, ha'⟩
    cbv
    refine ⟨fun h1 => ?_, fun h1 => ?_⟩
    · have h5 : i < x.length := by obtain rfl := X.a; rw [hr1] at h1; simp only [Std_t0, Std_t1, Std_x0, Std_x1, Std_len, Std_lt, Std_le, Std_eq, Std_add, Std_sub, Std_mul, Std_not, Std_ite, Std_str, Std_bool, Std_int, Std_slen, Std_seq, Std_slt', Std_beq, Std_idx, Std_bnd, Std_same, Std_max', Std_min', Std_partI, Std_app, Std_len_app, Std_len_lit, Std_len_setc, List.length_take, List.length_drop, List.length_append, List.length_cons, List.length_nil, Int.toNat_natCast, Std_inr64, bNot, Int.ofNat_eq_natCast, Int.natCast_zero, decide_eq_true_eq, decide_eq_false_iff_not, Bool.not_eq_true, Bool.not_eq_false, Bool.not_eq_eq_eq_not, Bool.not_true, Bool.not_false, beq_iff_eq, beq_eq_false_iff_ne, ne_eq, Bool.true_eq_false, Bool.false_eq_true, cond_true, cond_false] at *; omega
      have e5 := encT_cell2 (l := x) (a := Int.ofNat i) i rfl h5
      have g5 : gt x (Int.ofNat i) = x[i] := gt_get i rfl h5
      have hst := (hc1 _ (List.getElem_mem h5)).length
      have hall : sub1 y x[i] = false → x.all (sub1 y) = false := fun hf => all_false h5 hf
      obtain ⟨t, ht⟩ : ∃ t, t = x[i] := ⟨_, rfl⟩
      have htk : ∀ u ∈ x.take (i+1), u ∈ x.take i ∨ u = t := by
        intro u hu
        rw [take_succ' h5] at hu
        rcases List.mem_append.1 hu with hu | hu
        · exact .inl hu
        · simp only [List.mem_singleton] at hu; exact .inr (by rw [hu, ht])
      rw [← ht] at e5 g5 hst hall
      have hnext : sub1 y t = true → ∀ u ∈ x.take (i+1), sub1 y u = true := by
        intro hs u hu
        rcases htk u hu with hu | rfl
        · exact ha' u hu
        · exact hs
      have hp : A.asStr (A.cell r1 (Int.ofNat i) 0) = t.path := by rw [X.a, hr1]; have := g5; rw [Std_t0, this]
      have hb' : A.asBool (A.cell r1 (Int.ofNat i) 1) = t.absent := by rw [X.a, hr1]; rw [Std_t1, g5]
      have hset : A.cell r1 (Int.ofNat i) 2 = encL encX t.set := by rw [X.a, hr1]; exact e5
      cbv
      refine ⟨?_, ?_⟩
      · obtain rfl := X.a; rw [hr1] at *; simp only [Std_t0, Std_t1, Std_x0, Std_x1, Std_len, Std_lt, Std_le, Std_eq, Std_add, Std_sub, Std_mul, Std_not, Std_ite, Std_str, Std_bool, Std_int, Std_slen, Std_seq, Std_slt', Std_beq, Std_idx, Std_bnd, Std_same, Std_max', Std_min', Std_partI, Std_app, Std_len_app, Std_len_lit, Std_len_setc, List.length_take, List.length_drop, List.length_append, List.length_cons, List.length_nil, Int.toNat_natCast, Std_inr64, bNot, Int.ofNat_eq_natCast, Int.natCast_zero, decide_eq_true_eq, decide_eq_false_iff_not, Bool.not_eq_true, Bool.not_eq_false, Bool.not_eq_eq_eq_not, Bool.not_true, Bool.not_false, beq_iff_eq, beq_eq_false_iff_ne, ne_eq, Bool.true_eq_false, Bool.false_eq_true, cond_true, cond_false] at *; omega
      refine X.call (F52x53 (q := A.asStr (A.cell r1 (Int.ofNat i) 0)) (p := fun u => u.path == t.path) hr2 (by omega) (fun x _ c0 c1 c2 e0 e1 e2 K' hK => F53 e0 fun b hb => hK b (by rw [hb, hp])) fun k hk => ?_)
      rcases idxF_cases (fun u : Term => u.path == t.path) y with ⟨hx, hno⟩ | ⟨j, hj, hx, hpk, hbk⟩
      · rw [hx] at hk
        subst hk
        have hn1 := findT'_none hno
        have hs : sub1 y t = false := by simp only [sub1, hn1]
        cbv
        repeat' (first | apply And.intro | exact fun (_ : False → False) => by kernel_rfl | (intro h2; cbv) | apply Or.inl)
        all_goals first
          | exact h _ (by rw [hdef2, hall hs])
          | (exfalso; obtain rfl := X.a; simp only [Std_t0, Std_t1, Std_x0, Std_x1, Std_len, Std_lt, Std_le, Std_eq, Std_add, Std_sub, Std_mul, Std_not, Std_ite, Std_str, Std_bool, Std_int, Std_slen, Std_seq, Std_slt', Std_beq, Std_idx, Std_bnd, Std_same, Std_max', Std_min', Std_partI, Std_app, Std_len_app, Std_len_lit, Std_len_setc, List.length_take, List.length_drop, List.length_append, List.length_cons, List.length_nil, Int.toNat_natCast, Std_inr64, bNot, Int.ofNat_eq_natCast, Int.natCast_zero, decide_eq_true_eq, decide_eq_false_iff_not, Bool.not_eq_true, Bool.not_eq_false, Bool.not_eq_eq_eq_not, Bool.not_true, Bool.not_false, beq_iff_eq, beq_eq_false_iff_ne, ne_eq, Bool.true_eq_false, Bool.false_eq_true, cond_true, cond_false] at *; first | done | omega)
      · rw [hx] at hk
        have ht1 := findT'_idx hj hpk hbk
        have hi2 : k = Int.ofNat j := hk
        subst hi2
        have e6 := encT_cell2 (l := y) (a := Int.ofNat j) j rfl hj
        have g6 : gt y (Int.ofNat j) = y[j] := gt_get j rfl hj
        have hst1 := (hc2 _ (List.getElem_mem hj)).length
        have hs : sub1 y t = (!(y[j].absent && !t.absent) && subset y[j].set t.set) := by simp only [sub1, ht1]
        obtain ⟨t1, ht1'⟩ : ∃ t, t = y[j] := ⟨_, rfl⟩
        rw [← ht1'] at e6 g6 hst1 hs
        have hb6 : A.asBool (A.cell r2 (Int.ofNat j) 1) = t1.absent := by rw [X.a, hr2]; rw [Std_t1, g6]
        have he6 : A.cell r2 (Int.ofNat j) 2 = encL encX t1.set := by rw [X.a, hr2]; exact e6
        have fin : (t1.absent && !t.absent) = false → ∀ q, q = subset t1.set t.set → q = sub1 y t := by
          intro h8 q hq
          rw [hs, h8, hq]; simp
        cbv
        repeat' (first | apply And.intro | exact fun (_ : False → False) => by kernel_rfl | (intro h2; cbv) | apply Or.inl)
        all_goals try (subst hr2; obtain rfl := X.a; simp only [Std_t0, Std_t1, Std_x0, Std_x1, Std_len, Std_lt, Std_le, Std_eq, Std_add, Std_sub, Std_mul, Std_not, Std_ite, Std_str, Std_bool, Std_int, Std_slen, Std_seq, Std_slt', Std_beq, Std_idx, Std_bnd, Std_same, Std_max', Std_min', Std_partI, Std_app, Std_len_app, Std_len_lit, Std_len_setc, List.length_take, List.length_drop, List.length_append, List.length_cons, List.length_nil, Int.toNat_natCast, Std_inr64, bNot, Int.ofNat_eq_natCast, Int.natCast_zero, decide_eq_true_eq, decide_eq_false_iff_not, Bool.not_eq_true, Bool.not_eq_false, Bool.not_eq_eq_eq_not, Bool.not_true, Bool.not_false, beq_iff_eq, beq_eq_false_iff_ne, ne_eq, Bool.true_eq_false, Bool.false_eq_true, cond_true, cond_false] at * <;> omega)
        rotate_left
        · have h7 : t.absent = false := by
            rw [← hb']; obtain rfl := X.a; simp only [Std_t0, Std_t1, Std_x0, Std_x1, Std_len, Std_lt, Std_le, Std_eq, Std_add, Std_sub, Std_mul, Std_not, Std_ite, Std_str, Std_bool, Std_int, Std_slen, Std_seq, Std_slt', Std_beq, Std_idx, Std_bnd, Std_same, Std_max', Std_min', Std_partI, Std_app, Std_len_app, Std_len_lit, Std_len_setc, List.length_take, List.length_drop, List.length_append, List.length_cons, List.length_nil, Int.toNat_natCast, Std_inr64, bNot, Int.ofNat_eq_natCast, Int.natCast_zero, decide_eq_true_eq, decide_eq_false_iff_not, Bool.not_eq_true, Bool.not_eq_false, Bool.not_eq_eq_eq_not, Bool.not_true, Bool.not_false, beq_iff_eq, beq_eq_false_iff_ne, ne_eq, Bool.true_eq_false, Bool.false_eq_true, cond_true, cond_false] at *; assumption
          have h8 : t1.absent = true := by rw [← hb6]; assumption
          exact h _ (by rw [hdef2, hall (by rw [hs, h7, h8]; rfl)])
        rotate_left
        all_goals
          have h8 : (t1.absent && !t.absent) = false := by
            rw [← hb', ← hb6]; obtain rfl := X.a; simp only [Std_t0, Std_t1, Std_x0, Std_x1, Std_len, Std_lt, Std_le, Std_eq, Std_add, Std_sub, Std_mul, Std_not, Std_ite, Std_str, Std_bool, Std_int, Std_slen, Std_seq, Std_slt', Std_beq, Std_idx, Std_bnd, Std_same, Std_max', Std_min', Std_partI, Std_app, Std_len_app, Std_len_lit, Std_len_setc, List.length_take, List.length_drop, List.length_append, List.length_cons, List.length_nil, Int.toNat_natCast, Std_inr64, bNot, Int.ofNat_eq_natCast, Int.natCast_zero, decide_eq_true_eq, decide_eq_false_iff_not, Bool.not_eq_true, Bool.not_eq_false, Bool.not_eq_eq_eq_not, Bool.not_true, Bool.not_false, beq_iff_eq, beq_eq_false_iff_ne, ne_eq, Bool.true_eq_false, Bool.false_eq_true, cond_true, cond_false] at *; simp_all
          refine X.call (F54 he6 hset (by omega) (by omega) fun q hq => ?_)
          have hq2 := fin h8 q hq
          cbv
          repeat' (first | apply And.intro | exact fun (_ : False → False) => by kernel_rfl | (intro h2; cbv) | apply Or.inl)
        all_goals first
          | (have hqv : q = false := by obtain rfl := X.a; simp only [Std_t0, Std_t1, Std_x0, Std_x1, Std_len, Std_lt, Std_le, Std_eq, Std_add, Std_sub, Std_mul, Std_not, Std_ite, Std_str, Std_bool, Std_int, Std_slen, Std_seq, Std_slt', Std_beq, Std_idx, Std_bnd, Std_same, Std_max', Std_min', Std_partI, Std_app, Std_len_app, Std_len_lit, Std_len_setc, List.length_take, List.length_drop, List.length_append, List.length_cons, List.length_nil, Int.toNat_natCast, Std_inr64, bNot, Int.ofNat_eq_natCast, Int.natCast_zero, decide_eq_true_eq, decide_eq_false_iff_not, Bool.not_eq_true, Bool.not_eq_false, Bool.not_eq_eq_eq_not, Bool.not_true, Bool.not_false, beq_iff_eq, beq_eq_false_iff_ne, ne_eq, Bool.true_eq_false, Bool.false_eq_true, cond_true, cond_false] at *; assumption
             exact h _ (by rw [hdef2, hall (by rw [← hq2, hqv])]))
          | (have hqv : q = true := by obtain rfl := X.a; simp only [Std_t0, Std_t1, Std_x0, Std_x1, Std_len, Std_lt, Std_le, Std_eq, Std_add, Std_sub, Std_mul, Std_not, Std_ite, Std_str, Std_bool, Std_int, Std_slen, Std_seq, Std_slt', Std_beq, Std_idx, Std_bnd, Std_same, Std_max', Std_min', Std_partI, Std_app, Std_len_app, Std_len_lit, Std_len_setc, List.length_take, List.length_drop, List.length_append, List.length_cons, List.length_nil, Int.toNat_natCast, Std_inr64, bNot, Int.ofNat_eq_natCast, Int.natCast_zero, decide_eq_true_eq, decide_eq_false_iff_not, Bool.not_eq_true, Bool.not_eq_false, Bool.not_eq_eq_eq_not, Bool.not_true, Bool.not_false, beq_iff_eq, beq_eq_false_iff_ne, ne_eq, Bool.true_eq_false, Bool.false_eq_true, cond_true, cond_false] at *; assumption
             refine ⟨i+1, ⟨by omega, hnext (by rw [← hq2, hqv])⟩, by omega, ?_⟩
             (cbv; repeat' apply And.intro); all_goals (try (first | trivial | rfl | (rw [X.a]; rfl))))
          | (subst hr1; obtain rfl := X.a; simp only [Std_t0, Std_t1, Std_x0, Std_x1, Std_len, Std_lt, Std_le, Std_eq, Std_add, Std_sub, Std_mul, Std_not, Std_ite, Std_str, Std_bool, Std_int, Std_slen, Std_seq, Std_slt', Std_beq, Std_idx, Std_bnd, Std_same, Std_max', Std_min', Std_partI, Std_app, Std_len_app, Std_len_lit, Std_len_setc, List.length_take, List.length_drop, List.length_append, List.length_cons, List.length_nil, Int.toNat_natCast, Std_inr64, bNot, Int.ofNat_eq_natCast, Int.natCast_zero, decide_eq_true_eq, decide_eq_false_iff_not, Bool.not_eq_true, Bool.not_eq_false, Bool.not_eq_eq_eq_not, Bool.not_true, Bool.not_false, beq_iff_eq, beq_eq_false_iff_ne, ne_eq, Bool.true_eq_false, Bool.false_eq_true, cond_true, cond_false] at * <;> omega)
    · refine h _ ?_
      have h5 : i = x.length := by obtain rfl := X.a; rw [hr1] at h1; simp only [Std_t0, Std_t1, Std_x0, Std_x1, Std_len, Std_lt, Std_le, Std_eq, Std_add, Std_sub, Std_mul, Std_not, Std_ite, Std_str, Std_bool, Std_int, Std_slen, Std_seq, Std_slt', Std_beq, Std_idx, Std_bnd, Std_same, Std_max', Std_min', Std_partI, Std_app, Std_len_app, Std_len_lit, Std_len_setc, List.length_take, List.length_drop, List.length_append, List.length_cons, List.length_nil, Int.toNat_natCast, Std_inr64, bNot, Int.ofNat_eq_natCast, Int.natCast_zero, decide_eq_true_eq, decide_eq_false_iff_not, Bool.not_eq_true, Bool.not_eq_false, Bool.not_eq_eq_eq_not, Bool.not_true, Bool.not_false, beq_iff_eq, beq_eq_false_iff_ne, ne_eq, Bool.true_eq_false, Bool.false_eq_true, cond_true, cond_false] at *; omega
      rw [h5, List.take_length] at ha'
      rw [hdef2, eq_comm, List.all_eq_true]; exact ha'
  · refine h _ ?_
    obtain rfl := X.a; simp only [Std_t0, Std_t1, Std_x0, Std_x1, Std_len, Std_lt, Std_le, Std_eq, Std_add, Std_sub, Std_mul, Std_not, Std_ite, Std_str, Std_bool, Std_int, Std_slen, Std_seq, Std_slt', Std_beq, Std_idx, Std_bnd, Std_same, Std_max', Std_min', Std_partI, Std_app, Std_len_app, Std_len_lit, Std_len_setc, List.length_take, List.length_drop, List.length_append, List.length_cons, List.length_nil, Int.toNat_natCast, Std_inr64, bNot, Int.ofNat_eq_natCast, Int.natCast_zero, decide_eq_true_eq, decide_eq_false_iff_not, Bool.not_eq_true, Bool.not_eq_false, Bool.not_eq_eq_eq_not, Bool.not_true, Bool.not_false, beq_iff_eq, beq_eq_false_iff_ne, ne_eq, Bool.true_eq_false, Bool.false_eq_true, cond_true, cond_false] at *
    rw [hdef]; simp only [subsumesX]; simp_all
end Go.VC.T35
end

section
/- Holds, Violated, Entailed. -/
set_option linter.unusedSimpArgs false
set_option linter.unusedVariables false
namespace Go.VC.T35
open Go Go.VC Go.Proofs

/-- the place of a release, and if it has one -/
def placeS (y : Sel) : Int := 1000 * y.minor + y.patch
def okS (y : Sel) : Bool := validV y.major y.minor y.patch
def holdsS (t : Term) (s : List Sel) : Bool := match s.find? (fun y => y.path == t.path) with
  | none => t.absent
  | some y => okS y && hasS t.set (placeS y)
def violS (l : List Term) (s : List Sel) : Bool := l.all fun t => holdsS t s
def entS (l : List Term) (s : List Sel) : Bool := violS l s && !(l.any fun t => !(s.any fun y => y.path == t.path))
theorem find_idxS {s : List Sel} {p : Sel → Bool} {i : Nat} (h : i < s.length) (hp : p s[i] = true) (ha : ∀ x ∈ s.take i, p x = false) : s.find? p = some s[i] := by
  induction s generalizing i with
  | nil => simp at h
  | cons x s ih =>
    cases i with
    | zero => simp at hp; simp [hp]
    | succ i =>
      have := ha x (by simp)
      simp only [List.find?_cons, this, List.getElem_cons_succ]
      exact ih (by simpa using h) (by simpa using hp) fun y hy => ha y (by simp [hy])

set_option maxRecDepth 100000 in
set_option maxHeartbeats 2000000 in
theorem F29 {s : List Sel} {t : Term} {p : List UInt8} {b : Bool} {d e : D} {K : PV → List Ob → Prop} (hp : p = t.path) (hb : b = t.absent) (hd : d = encL encX t.set) (hs : t.set.length < 4294967296) (he : e = encL encV s) (hl : s.length < 4294967296)
    (h : ∀ r, r = holdsS t s → K (.bool r) []) : FC Tryz.prog tt 29 [] [.agg [.str p, .bool b, .lst 65 d], .lst 45 e] K := by
  refine FC.enter (G := g29) tt_ok mixed ⟨Tryz.func29, by rfl, rfl⟩ rfl rfl rfl ?_
  intro A C L X
  cbv
  refine X.call (F56x58 (q := p) (p := fun y => y.path == t.path) he hl (fun x _ c0 c1 c2 c3 e0 e1 e2 e3 K' hK => F58 e0 fun b hb => hK b (by rw [hb, hp])) fun i hi => ?_)
  rcases idxF_cases (fun y : Sel => y.path == t.path) s with ⟨hx, hno⟩ | ⟨k, hk, hx, hpk, hbk⟩
  · rw [hx] at hi
    subst hi
    have hnone : s.find? (fun y => y.path == t.path) = none := by rw [List.find?_eq_none]; intro y hy; rw [hno y hy]; simp
    have hdef : holdsS t s = t.absent := by simp only [holdsS, hnone]
    cbv
    repeat' (first | apply And.intro | exact fun (_ : False → False) => by kernel_rfl | (intro h2; cbv) | apply Or.inl)
    all_goals first
      | exact h _ (by rw [hdef, hb])
      | (exfalso; obtain rfl := X.a; simp only [Std_x0, Std_x1, Std_len, Std_lt, Std_le, Std_eq, Std_add, Std_sub, Std_mul, Std_not, Std_ite, Std_str, Std_bool, Std_int, Std_slen, Std_seq, Std_slt', Std_beq, Std_idx, Std_bnd, Std_same, Std_max', Std_min', Std_partI, Std_app, Std_len_app, Std_len_lit, Std_len_setc, List.length_take, List.length_drop, List.length_append, List.length_cons, List.length_nil, Int.toNat_natCast, Std_inr64, bNot, Int.ofNat_eq_natCast, Int.natCast_zero, decide_eq_true_eq, decide_eq_false_iff_not, Bool.not_eq_true, Bool.not_eq_false, Bool.not_eq_eq_eq_not, Bool.not_true, Bool.not_false, beq_iff_eq, beq_eq_false_iff_ne, ne_eq, Bool.true_eq_false, Bool.false_eq_true, cond_true, cond_false] at *; first | done | omega)
  · rw [hx] at hi
    have hfind := find_idxS hk hpk hbk
    have hdef : holdsS t s = (okS s[k] && hasS t.set (placeS s[k])) := by simp only [holdsS, hfind]
    have hi2 : i = Int.ofNat k := hi
    subst hi2
    have g5 : gs s (Int.ofNat k) = s[k] := gs_get k rfl hk
    obtain ⟨y, hy⟩ : ∃ y, y = s[k] := ⟨_, rfl⟩
    rw [← hy] at hdef g5
    have q1 : A.asInt (A.cell e (Int.ofNat k) 1) = y.major := by rw [X.a, he, Std_s1, g5]
    have q2 : A.asInt (A.cell e (Int.ofNat k) 2) = y.minor := by rw [X.a, he, Std_s2, g5]
    have q3 : A.asInt (A.cell e (Int.ofNat k) 3) = y.patch := by rw [X.a, he, Std_s3, g5]
    have q4 : validV (A.asInt (A.cell e (Int.ofNat k) 1)) (A.asInt (A.cell e (Int.ofNat k) 2)) (A.asInt (A.cell e (Int.ofNat k) 3)) = okS y := by rw [q1, q2, q3]; rfl
    cbv
    repeat' (first | apply And.intro | exact fun (_ : False → False) => by kernel_rfl | (intro h2; cbv) | apply Or.inl)
    · exfalso; obtain rfl := X.a; simp only [Std_x0, Std_x1, Std_len, Std_lt, Std_le, Std_eq, Std_add, Std_sub, Std_mul, Std_not, Std_ite, Std_str, Std_bool, Std_int, Std_slen, Std_seq, Std_slt', Std_beq, Std_idx, Std_bnd, Std_same, Std_max', Std_min', Std_partI, Std_app, Std_len_app, Std_len_lit, Std_len_setc, List.length_take, List.length_drop, List.length_append, List.length_cons, List.length_nil, Int.toNat_natCast, Std_inr64, bNot, Int.ofNat_eq_natCast, Int.natCast_zero, decide_eq_true_eq, decide_eq_false_iff_not, Bool.not_eq_true, Bool.not_eq_false, Bool.not_eq_eq_eq_not, Bool.not_true, Bool.not_false, beq_iff_eq, beq_eq_false_iff_ne, ne_eq, Bool.true_eq_false, Bool.false_eq_true, cond_true, cond_false] at *; omega
    · obtain rfl := X.a; subst he; simp only [Std_x0, Std_x1, Std_len, Std_lt, Std_le, Std_eq, Std_add, Std_sub, Std_mul, Std_not, Std_ite, Std_str, Std_bool, Std_int, Std_slen, Std_seq, Std_slt', Std_beq, Std_idx, Std_bnd, Std_same, Std_max', Std_min', Std_partI, Std_app, Std_len_app, Std_len_lit, Std_len_setc, List.length_take, List.length_drop, List.length_append, List.length_cons, List.length_nil, Int.toNat_natCast, Std_inr64, bNot, Int.ofNat_eq_natCast, Int.natCast_zero, decide_eq_true_eq, decide_eq_false_iff_not, Bool.not_eq_true, Bool.not_eq_false, Bool.not_eq_eq_eq_not, Bool.not_true, Bool.not_false, beq_iff_eq, beq_eq_false_iff_ne, ne_eq, Bool.true_eq_false, Bool.false_eq_true, cond_true, cond_false]; omega
    · refine X.call (F25 (fun hv => ?_) fun hv => ?_)
      · rw [q4] at hv
        cbv
        repeat' (first | apply And.intro | exact fun (_ : False → False) => by kernel_rfl | (intro h2; cbv) | apply Or.inl)
        all_goals first
          | exact h _ (by rw [hdef, hv]; rfl)
          | (exfalso; obtain rfl := X.a; simp only [Std_x0, Std_x1, Std_len, Std_lt, Std_le, Std_eq, Std_add, Std_sub, Std_mul, Std_not, Std_ite, Std_str, Std_bool, Std_int, Std_slen, Std_seq, Std_slt', Std_beq, Std_idx, Std_bnd, Std_same, Std_max', Std_min', Std_partI, Std_app, Std_len_app, Std_len_lit, Std_len_setc, List.length_take, List.length_drop, List.length_append, List.length_cons, List.length_nil, Int.toNat_natCast, Std_inr64, bNot, Int.ofNat_eq_natCast, Int.natCast_zero, decide_eq_true_eq, decide_eq_false_iff_not, Bool.not_eq_true, Bool.not_eq_false, Bool.not_eq_eq_eq_not, Bool.not_true, Bool.not_false, beq_iff_eq, beq_eq_false_iff_ne, ne_eq, Bool.true_eq_false, Bool.false_eq_true, cond_true, cond_false] at *; first | done | omega | simp_all)
      · rw [q4] at hv
        obtain ⟨n, hn⟩ : ∃ n, n = 1000 * A.asInt (A.cell e (Int.ofNat k) 2) + A.asInt (A.cell e (Int.ofNat k) 3) := ⟨_, rfl⟩
        rw [← hn]
        rw [q2, q3] at hn
        cbv
        repeat' (first | apply And.intro | exact fun (_ : False → False) => by kernel_rfl | (intro h2; cbv) | apply Or.inl)
        · refine X.call (F30 hd hs fun r hr => ?_)
          cbv
          exact h _ (by rw [hdef, hv, hr, hn]; rfl)
        all_goals first
          | (exfalso; obtain rfl := X.a; simp only [Std_x0, Std_x1, Std_len, Std_lt, Std_le, Std_eq, Std_add, Std_sub, Std_mul, Std_not, Std_ite, Std_str, Std_bool, Std_int, Std_slen, Std_seq, Std_slt', Std_beq, Std_idx, Std_bnd, Std_same, Std_max', Std_min', Std_partI, Std_app, Std_len_app, Std_len_lit, Std_len_setc, List.length_take, List.length_drop, List.length_append, List.length_cons, List.length_nil, Int.toNat_natCast, Std_inr64, bNot, Int.ofNat_eq_natCast, Int.natCast_zero, decide_eq_true_eq, decide_eq_false_iff_not, Bool.not_eq_true, Bool.not_eq_false, Bool.not_eq_eq_eq_not, Bool.not_true, Bool.not_false, beq_iff_eq, beq_eq_false_iff_ne, ne_eq, Bool.true_eq_false, Bool.false_eq_true, cond_true, cond_false] at *; first | done | omega | simp_all)

set_option maxRecDepth 100000 in
set_option maxHeartbeats 2000000 in
theorem F22 {l : List Term} {s : List Sel} {d e : D} {K : PV → List Ob → Prop} (hd : d = encL encT l) (hl : l.length < 4294967296) (hs : ∀ t ∈ l, t.set.length < 4294967296) (he : e = encL encV s) (hsl : s.length < 4294967296)
    (h : ∀ r, r = violS l s → K (.bool r) []) : FC Tryz.prog tt 22 [] [.lst 51 d, .lst 45 e] K := by
  refine FC.enter (G := g22) tt_ok mixed ⟨Tryz.func22, by rfl, rfl⟩ rfl rfl rfl ?_
  intro A C L X
  cbv
  refine X.loop (fun (i : Nat) => ⟨[(7, .int .i64 (A.len d)), (8, .int .i64 i), (4, .bl false), (0, .lst 51 d), (1, .lst 45 e)], []⟩) (fun i => i ≤ l.length ∧ ∀ t ∈ l.take i, holdsS t s = true) (fun i => l.length - i) 0 ⟨Nat.zero_le _, by simp⟩ ?_ ?_
  · (cbv; repeat' apply And.intro); all_goals (try (first | trivial | rfl | (rw [X.a]; rfl)))
  rintro i ⟨hi, ha⟩
  cbv
  refine ⟨fun h1 => ?_, fun h1 => ?_⟩
  · have h5 : i < l.length := by obtain rfl := X.a; rw [hd] at h1; simp only [Std_t0, Std_t1, Std_x0, Std_x1, Std_len, Std_lt, Std_le, Std_eq, Std_add, Std_sub, Std_mul, Std_not, Std_ite, Std_str, Std_bool, Std_int, Std_slen, Std_seq, Std_slt', Std_beq, Std_idx, Std_bnd, Std_same, Std_max', Std_min', Std_partI, Std_app, Std_len_app, Std_len_lit, Std_len_setc, List.length_take, List.length_drop, List.length_append, List.length_cons, List.length_nil, Int.toNat_natCast, Std_inr64, bNot, Int.ofNat_eq_natCast, Int.natCast_zero, decide_eq_true_eq, decide_eq_false_iff_not, Bool.not_eq_true, Bool.not_eq_false, Bool.not_eq_eq_eq_not, Bool.not_true, Bool.not_false, beq_iff_eq, beq_eq_false_iff_ne, ne_eq, Bool.true_eq_false, Bool.false_eq_true, cond_true, cond_false] at *; omega
    have e5 : A.cell d (Int.ofNat i) 2 = encL encX l[i].set := by rw [X.a, hd]; exact encT_cell2 i rfl h5
    have g5 : gt l (Int.ofNat i) = l[i] := gt_get i rfl h5
    have hp : A.asStr (A.cell d (Int.ofNat i) 0) = l[i].path := by rw [X.a, hd]; have := g5; rw [Std_t0, this]
    have hb' : A.asBool (A.cell d (Int.ofNat i) 1) = l[i].absent := by rw [X.a, hd]; rw [Std_t1, g5]
    have hall : holdsS l[i] s = false → violS l s = false := fun hf => all_false h5 hf
    have hst := hs _ (List.getElem_mem h5)
    have hnext : holdsS l[i] s = true → ∀ t ∈ l.take (i+1), holdsS t s = true := by
      intro hh u hu
      rw [take_succ' h5] at hu
      rcases List.mem_append.1 hu with hu | hu
      · exact ha u hu
      · simp only [List.mem_singleton] at hu; subst hu; exact hh
    obtain ⟨t, ht⟩ : ∃ t, t = l[i] := ⟨_, rfl⟩
    rw [← ht] at e5 g5 hp hb' hall hnext hst
    cbv
    refine ⟨?_, ?_⟩
    · obtain rfl := X.a; rw [hd] at *; simp only [Std_t0, Std_t1, Std_x0, Std_x1, Std_len, Std_lt, Std_le, Std_eq, Std_add, Std_sub, Std_mul, Std_not, Std_ite, Std_str, Std_bool, Std_int, Std_slen, Std_seq, Std_slt', Std_beq, Std_idx, Std_bnd, Std_same, Std_max', Std_min', Std_partI, Std_app, Std_len_app, Std_len_lit, Std_len_setc, List.length_take, List.length_drop, List.length_append, List.length_cons, List.length_nil, Int.toNat_natCast, Std_inr64, bNot, Int.ofNat_eq_natCast, Int.natCast_zero, decide_eq_true_eq, decide_eq_false_iff_not, Bool.not_eq_true, Bool.not_eq_false, Bool.not_eq_eq_eq_not, Bool.not_true, Bool.not_false, beq_iff_eq, beq_eq_false_iff_ne, ne_eq, Bool.true_eq_false, Bool.false_eq_true, cond_true, cond_false] at *; omega
    refine X.call (F29 (t := t) hp hb' e5 hst he hsl fun r hr => ?_)
    cbv
    repeat' (first | apply And.intro | exact fun (_ : False → False) => by kernel_rfl | (intro h2; cbv) | apply Or.inl)
    all_goals first
      | (have hqv : r = false := by obtain rfl := X.a; simp only [Std_x0, Std_x1, Std_len, Std_lt, Std_le, Std_eq, Std_add, Std_sub, Std_mul, Std_not, Std_ite, Std_str, Std_bool, Std_int, Std_slen, Std_seq, Std_slt', Std_beq, Std_idx, Std_bnd, Std_same, Std_max', Std_min', Std_partI, Std_app, Std_len_app, Std_len_lit, Std_len_setc, List.length_take, List.length_drop, List.length_append, List.length_cons, List.length_nil, Int.toNat_natCast, Std_inr64, bNot, Int.ofNat_eq_natCast, Int.natCast_zero, decide_eq_true_eq, decide_eq_false_iff_not, Bool.not_eq_true, Bool.not_eq_false, Bool.not_eq_eq_eq_not, Bool.not_true, Bool.not_false, beq_iff_eq, beq_eq_false_iff_ne, ne_eq, Bool.true_eq_false, Bool.false_eq_true, cond_true, cond_false] at *; assumption
         exact h _ (by rw [hall (by rw [← hr, hqv])]))
      | (have hqv : r = true := by obtain rfl := X.a; simp only [Std_x0, Std_x1, Std_len, Std_lt, Std_le, Std_eq, Std_add, Std_sub, Std_mul, Std_not, Std_ite, Std_str, Std_bool, Std_int, Std_slen, Std_seq, Std_slt', Std_beq, Std_idx, Std_bnd, Std_same, Std_max', Std_min', Std_partI, Std_app, Std_len_app, Std_len_lit, Std_len_setc, List.length_take, List.length_drop, List.length_append, List.length_cons, List.length_nil, Int.toNat_natCast, Std_inr64, bNot, Int.ofNat_eq_natCast, Int.natCast_zero, decide_eq_true_eq, decide_eq_false_iff_not, Bool.not_eq_true, Bool.not_eq_false, Bool.not_eq_eq_eq_not, Bool.not_true, Bool.not_false, beq_iff_eq, beq_eq_false_iff_ne, ne_eq, Bool.true_eq_false, Bool.false_eq_true, cond_true, cond_false] at *; assumption
         refine ⟨i+1, ⟨by omega, hnext (by rw [← hr, hqv])⟩, by omega, ?_⟩
         (cbv; repeat' apply And.intro); all_goals (try (first | trivial | rfl | (rw [X.a]; rfl))))
      | (obtain rfl := X.a; simp only [Std_x0, Std_x1, Std_len, Std_lt, Std_le, Std_eq, Std_add, Std_sub, Std_mul, Std_not, Std_ite, Std_str, Std_bool, Std_int, Std_slen, Std_seq, Std_slt', Std_beq, Std_idx, Std_bnd, Std_same, Std_max', Std_min', Std_partI, Std_app, Std_len_app, Std_len_lit, Std_len_setc, List.length_take, List.length_drop, List.length_append, List.length_cons, List.length_nil, Int.toNat_natCast, Std_inr64, bNot, Int.ofNat_eq_natCast, Int.natCast_zero, decide_eq_true_eq, decide_eq_false_iff_not, Bool.not_eq_true, Bool.not_eq_false, Bool.not_eq_eq_eq_not, Bool.not_true, Bool.not_false, beq_iff_eq, beq_eq_false_iff_ne, ne_eq, Bool.true_eq_false, Bool.false_eq_true, cond_true, cond_false] at * <;> omega)
  · refine h _ ?_
    have h5 : i = l.length := by obtain rfl := X.a; rw [hd] at h1; simp only [Std_t0, Std_t1, Std_x0, Std_x1, Std_len, Std_lt, Std_le, Std_eq, Std_add, Std_sub, Std_mul, Std_not, Std_ite, Std_str, Std_bool, Std_int, Std_slen, Std_seq, Std_slt', Std_beq, Std_idx, Std_bnd, Std_same, Std_max', Std_min', Std_partI, Std_app, Std_len_app, Std_len_lit, Std_len_setc, List.length_take, List.length_drop, List.length_append, List.length_cons, List.length_nil, Int.toNat_natCast, Std_inr64, bNot, Int.ofNat_eq_natCast, Int.natCast_zero, decide_eq_true_eq, decide_eq_false_iff_not, Bool.not_eq_true, Bool.not_eq_false, Bool.not_eq_eq_eq_not, Bool.not_true, Bool.not_false, beq_iff_eq, beq_eq_false_iff_ne, ne_eq, Bool.true_eq_false, Bool.false_eq_true, cond_true, cond_false] at *; omega
    rw [h5, List.take_length] at ha
    rw [violS, eq_comm, List.all_eq_true]; exact ha

set_option maxRecDepth 100000 in
set_option maxHeartbeats 2000000 in
theorem F68 {s : List Sel} {p c0 : List UInt8} {c1 : Bool} {c2 e : D} {K : PV → List Ob → Prop} (h0 : c0 = p) (he : e = encL encV s) (hsl : s.length < 4294967296) (h : ∀ b, b = !(s.any fun y => y.path == p) → K (.bool b) []) : FC Tryz.prog tt 68 [] (.agg [.str c0, .bool c1, .lst 65 c2] :: [.pptr [.lst 45 e] 0]) K := by
  refine FC.enter (G := g68) tt_ok mixed ⟨Tryz.func68, by rfl, rfl⟩ rfl rfl rfl ?_
  intro A C L X
  cbv
  repeat' (first | apply And.intro | exact fun (_ : False → False) => by kernel_rfl | (intro h2; cbv) | apply Or.inl)
  all_goals
    refine X.call (F23x69 (q := c0) (p := fun y => y.path == p) he hsl (fun x _ c0 c1 c2 c3 e0 e1 e2 e3 K' hK => F69 e0 fun b hb => hK b (by rw [hb, h0])) fun r hr => ?_)
    cbv
    refine h _ ?_
    obtain rfl := X.a; rw [hr]; rfl

set_option maxRecDepth 100000 in
set_option maxHeartbeats 2000000 in
theorem F36 {l : List Term} {s : List Sel} {d e : D} {K : PV → List Ob → Prop} (hd : d = encL encT l) (hl : l.length < 4294967296) (hs : ∀ t ∈ l, t.set.length < 4294967296) (he : e = encL encV s) (hsl : s.length < 4294967296)
    (h : ∀ r, r = entS l s → K (.bool r) []) : FC Tryz.prog tt 36 [] [.lst 51 d, .lst 45 e] K := by
  refine FC.enter (G := g36) tt_ok mixed ⟨Tryz.func36, by rfl, rfl⟩ rfl rfl rfl ?_
  intro A C L X
  cbv
  refine X.call (F22 hd hl hs he hsl fun r hr => ?_)
  cbv
  repeat' (first | apply And.intro | exact fun (_ : False → False) => by kernel_rfl | (intro h2; cbv) | apply Or.inl)
  · refine X.call (F27x68 (e := e) (p := fun t => !(s.any fun y => y.path == t.path)) hd hl (fun x _ c0 c1 c2 e0 e1 e2 K' hK => F68 e0 he hsl fun b hb => hK b hb) fun r2 hr2 => ?_)
    cbv
    refine h _ ?_
    obtain rfl := X.a; rw [entS, ← hr, hr2, h2]; rfl
  · refine h _ ?_
    rw [entS, ← hr, h2]; rfl
end Go.VC.T35
end

section
namespace Go.VC.T35
open Go Go.VC
def sa : List UInt8 := [97,47,118,49]
def sb : List UInt8 := [98,47,118,49]
theorem ev_need : requiresT sa 0 sb [(2000, 1000000)] = [⟨sa, false, [(0,1)]⟩, ⟨sb, true, [(0,2000)]⟩] := by decide +kernel
theorem ev_none : noneT sb [(0,1),(1000,1001)] = [⟨sb, false, [(1,1000),(1001,1000000)]⟩] := by decide +kernel
theorem ev_res : resolveT [⟨sa, false, [(0,1)]⟩, ⟨sb, true, [(0,2000)]⟩] [⟨sb, false, [(1,1000),(1001,1000000)]⟩] sb = ([⟨sa, false, [(0,1)]⟩], 0) := by decide +kernel
theorem ev_root : rootT sa [(0,1000000)] = [⟨sa, true, []⟩] := by decide +kernel
theorem ev_viol : violS [⟨sa, false, [(0,1)]⟩] [⟨sa, 1, 0, 0⟩] = true := by decide +kernel
theorem ev_ent : entS [⟨sa, false, [(0,1)]⟩] [⟨sa, 1, 0, 0⟩] = true := by decide +kernel
theorem ev_sub : subsumesT [⟨sa, false, [(0,1)]⟩] [⟨sa, false, [(0,1)]⟩, ⟨sb, true, [(0,2000)]⟩] = true := by decide +kernel
end Go.VC.T35
end

section
set_option linter.unusedSimpArgs false
set_option linter.unusedVariables false
namespace Go.VC.T35
open Go Go.VC Go.Proofs

set_option maxRecDepth 100000 in
set_option maxHeartbeats 2000000 in
theorem F9 {K : PV → List Ob → Prop} (h : K (.bool true) []) : FC Tryz.prog tt 9 [] [] K := by
  refine FC.enter (G := g9) tt_ok mixed ⟨Tryz.func9, by rfl, rfl⟩ rfl rfl rfl ?_
  intro A C L X
  cbv
  refine X.call (F13 (s := [(2000, 1000000)]) (by rw [X.a]; rfl) (by simp) (by omega) fun r1 hr1 => ?_)
  have hr1 : r1 = encL encT [⟨sa, false, [(0,1)]⟩, ⟨sb, true, [(0,2000)]⟩] := by rw [hr1]; exact congrArg (encL encT) ev_need
  cbv
  refine X.call (F15 (s := [(0,1),(1000,1001)]) (by rw [X.a]; rfl) (by simp) fun r2 hr2 => ?_)
  have hr2 : r2 = encL encT [⟨sb, false, [(1,1000),(1001,1000000)]⟩] := by rw [hr2]; exact congrArg (encL encT) ev_none
  cbv
  refine X.call (F18 hr1 hr2 (by simp) (by simp) ?_ ?_ fun r3 e3 hr3 he3 => ?_)
  · intro t ht; simp only [List.mem_cons, List.not_mem_nil, or_false] at ht; rcases ht with rfl | rfl <;> simp
  · intro t ht; simp only [List.mem_cons, List.not_mem_nil, or_false] at ht; subst ht; simp
  have hr3 : r3 = encL encT [⟨sa, false, [(0,1)]⟩] := by rw [hr3]; exact congrArg (fun x => encL encT x.1) ev_res
  have he3 : e3 = 0 := by rw [he3]; exact congrArg (fun x => x.2) ev_res
  cbv
  refine X.call (F11 (s := [(0,1000000)]) (by rw [X.a]; rfl) (by simp) fun r4 hr4 => ?_)
  have hr4 : r4 = encL encT [⟨sa, true, []⟩] := by rw [hr4]; exact congrArg (encL encT) ev_root
  have c1 : A.eq (A.len r1) 2 = true := by rw [X.a, hr1]; rfl
  have c2 : A.eq e3 0 = true := by rw [X.a, he3]; rfl
  cbv
  repeat' (first | apply And.intro | exact fun (_ : False → False) => by kernel_rfl | (intro h2; cbv) | apply Or.inl)
  rotate_left
  all_goals try first
    | (rw [c1] at h2; exact absurd h2 (by decide))
    | (rw [c2] at h2; exact absurd h2 (by decide))
  refine X.call (F10 hr3 (k := [⟨sa, false, [(0,1)]⟩]) (by rw [X.a]; rfl) (by simp) (by intro t ht; simp only [List.mem_cons, List.not_mem_nil, or_false] at ht; subst ht; simp) fun q1 hq1 => ?_)
  have hq1 : q1 = true := by rw [hq1]; decide
  cbv
  repeat' (first | apply And.intro | exact fun (_ : False → False) => by kernel_rfl | (intro h2; cbv) | apply Or.inl)
  rotate_left
  all_goals try first
    | (rw [hq1] at h2; exact absurd h2 (by decide))
  refine X.call (F10 hr4 (k := [⟨sa, true, []⟩]) (by rw [X.a]; rfl) (by simp) (by intro t ht; simp only [List.mem_cons, List.not_mem_nil, or_false] at ht; subst ht; simp) fun q2 hq2 => ?_)
  have hq2 : q2 = true := by rw [hq2]; decide
  cbv
  repeat' (first | apply And.intro | exact fun (_ : False → False) => by kernel_rfl | (intro h2; cbv) | apply Or.inl)
  rotate_left
  all_goals try first
    | (rw [hq2] at h2; exact absurd h2 (by decide))
  refine X.call (F22 hr3 (s := [⟨sa, 1, 0, 0⟩]) (by simp) (by intro t ht; simp only [List.mem_cons, List.not_mem_nil, or_false] at ht; subst ht; simp) (by rw [X.a]; rfl) (by simp) fun q3 hq3 => ?_)
  have hq3 : q3 = true := by rw [hq3]; exact ev_viol
  cbv
  repeat' (first | apply And.intro | exact fun (_ : False → False) => by kernel_rfl | (intro h2; cbv) | apply Or.inl)
  rotate_left
  all_goals try first
    | (rw [hq3] at h2; exact absurd h2 (by decide))
  refine X.call (F36 hr3 (s := [⟨sa, 1, 0, 0⟩]) (by simp) (by intro t ht; simp only [List.mem_cons, List.not_mem_nil, or_false] at ht; subst ht; simp) (by rw [X.a]; rfl) (by simp) fun q4 hq4 => ?_)
  have hq4 : q4 = true := by rw [hq4]; exact ev_ent
  cbv
  repeat' (first | apply And.intro | exact fun (_ : False → False) => by kernel_rfl | (intro h2; cbv) | apply Or.inl)
  rotate_left
  all_goals try first
    | (rw [hq4] at h2; exact absurd h2 (by decide))
  refine X.call (F20 hr3 hr1 (by simp) (by simp) ?_ ?_ fun q5 hq5 => ?_)
  · intro t ht; simp only [List.mem_cons, List.not_mem_nil, or_false] at ht; subst ht; simp
  · intro t ht; simp only [List.mem_cons, List.not_mem_nil, or_false] at ht; rcases ht with rfl | rfl <;> simp
  have hq5 : q5 = true := by rw [hq5]; exact ev_sub
  cbv
  subst hq5
  exact h
end Go.VC.T35
end

section
set_option linter.unusedSimpArgs false
set_option linter.unusedVariables false
namespace Go.VC.T35
open Go Go.VC Go.Proofs
theorem canon_lt {l : List Term} {n : Nat} (h : l.length ≤ n) (hn : n < 4294967296) : (canonT l).1.length < 4294967296 ∧ ∀ t ∈ (canonT l).1, t.set.length < 4294967296 := by
  refine ⟨?_, fun t ht => ?_⟩
  · have := canonT_len (l := l); omega
  · have := (canonT_can (l := l) t ht).length; omega

set_option maxRecDepth 100000 in
set_option maxHeartbeats 2000000 in
theorem F3 {path q : List UInt8} {pl : Int} {s t : List (Int × Int)} {d e : D} {K : PV → List Ob → Prop} (hd : d = encL encX s) (hs : s.length < 4294967296) (he : e = encL encX t) (ht : t.length < 4294967296) (hp : -9223372036854775808 ≤ pl ∧ pl ≤ 9223372036854775807)
    (h : K (.bool true) []) : FC Tryz.prog tt 3 [] [.str path, .int .i64 pl, .agg [.str q, .lst 65 d], .lst 65 e] K := by
  refine FC.enter (G := g3) tt_ok mixed ⟨Tryz.func3, by rfl, rfl⟩ rfl rfl rfl ?_
  intro A C L X
  cbv
  refine X.call (F9 ?_)
  cbv
  repeat' (first | apply And.intro | exact fun (_ : False → False) => by kernel_rfl | (intro h2; cbv) | apply Or.inl)
  all_goals first
    | exact h
    | (exfalso; obtain rfl := X.a; simp only [Std_x0, Std_x1, Std_len, Std_lt, Std_le, Std_eq, Std_add, Std_sub, Std_mul, Std_not, Std_ite, Std_str, Std_bool, Std_int, Std_slen, Std_seq, Std_slt', Std_beq, Std_idx, Std_bnd, Std_same, Std_max', Std_min', Std_partI, Std_app, Std_len_app, Std_len_lit, Std_len_setc, List.length_take, List.length_drop, List.length_append, List.length_cons, List.length_nil, Int.toNat_natCast, Std_inr64, bNot, Int.ofNat_eq_natCast, Int.natCast_zero, decide_eq_true_eq, decide_eq_false_iff_not, Bool.not_eq_true, Bool.not_eq_false, Bool.not_eq_eq_eq_not, Bool.not_true, Bool.not_false, beq_iff_eq, beq_eq_false_iff_ne, ne_eq, Bool.true_eq_false, Bool.false_eq_true, cond_true, cond_false] at *; done)
    | skip
  have hsl : s.length ≤ 12 := by obtain rfl := X.a; subst hd; subst he; simp only [Std_x0, Std_x1, Std_len, Std_lt, Std_le, Std_eq, Std_add, Std_sub, Std_mul, Std_not, Std_ite, Std_str, Std_bool, Std_int, Std_slen, Std_seq, Std_slt', Std_beq, Std_idx, Std_bnd, Std_same, Std_max', Std_min', Std_partI, Std_app, Std_len_app, Std_len_lit, Std_len_setc, List.length_take, List.length_drop, List.length_append, List.length_cons, List.length_nil, Int.toNat_natCast, Std_inr64, bNot, Int.ofNat_eq_natCast, Int.natCast_zero, decide_eq_true_eq, decide_eq_false_iff_not, Bool.not_eq_true, Bool.not_eq_false, Bool.not_eq_eq_eq_not, Bool.not_true, Bool.not_false, beq_iff_eq, beq_eq_false_iff_ne, ne_eq, Bool.true_eq_false, Bool.false_eq_true, cond_true, cond_false] at *; omega
  have htl : t.length ≤ 12 := by obtain rfl := X.a; subst hd; subst he; simp only [Std_x0, Std_x1, Std_len, Std_lt, Std_le, Std_eq, Std_add, Std_sub, Std_mul, Std_not, Std_ite, Std_str, Std_bool, Std_int, Std_slen, Std_seq, Std_slt', Std_beq, Std_idx, Std_bnd, Std_same, Std_max', Std_min', Std_partI, Std_app, Std_len_app, Std_len_lit, Std_len_setc, List.length_take, List.length_drop, List.length_append, List.length_cons, List.length_nil, Int.toNat_natCast, Std_inr64, bNot, Int.ofNat_eq_natCast, Int.natCast_zero, decide_eq_true_eq, decide_eq_false_iff_not, Bool.not_eq_true, Bool.not_eq_false, Bool.not_eq_eq_eq_not, Bool.not_true, Bool.not_false, beq_iff_eq, beq_eq_false_iff_ne, ne_eq, Bool.true_eq_false, Bool.false_eq_true, cond_true, cond_false] at *; omega
  refine X.call (F11 hd (by omega) fun r1 hr1 => ?_)
  cbv
  repeat' (first | apply And.intro | exact fun (_ : False → False) => by kernel_rfl | (intro h2; cbv) | apply Or.inl)
  refine X.call (F12 hd (by omega) fun r2 hr2 => ?_)
  cbv
  repeat' (first | apply And.intro | exact fun (_ : False → False) => by kernel_rfl | (intro h2; cbv) | apply Or.inl)
  have q1 := canon_lt (l := [unsat q s]) (n := 1) (by simp) (by omega)
  refine X.call (F10 hr1 hr2 q1.1 q1.2 fun b1 hb1 => ?_)
  have hb1 : b1 = true := by rw [hb1]; simp
  cbv
  repeat' (first | apply And.intro | exact fun (_ : False → False) => by kernel_rfl | (intro h2; cbv) | apply Or.inl)
  rotate_left
  · rw [hb1] at h2; exact absurd h2 (by decide)
  refine X.call (F13 hd (by omega) hp fun r3 hr3 => ?_)
  cbv
  repeat' (first | apply And.intro | exact fun (_ : False → False) => by kernel_rfl | (intro h2; cbv) | apply Or.inl)
  refine X.call (F14 hd (by omega) hp fun r4 hr4 => ?_)
  cbv
  repeat' (first | apply And.intro | exact fun (_ : False → False) => by kernel_rfl | (intro h2; cbv) | apply Or.inl)
  have q2 := canon_lt (l := [⟨path, false, oneP pl⟩, unsat q s]) (n := 2) (by simp) (by omega)
  refine X.call (F10 hr3 hr4 q2.1 q2.2 fun b2 hb2 => ?_)
  have hb2 : b2 = true := by rw [hb2]; simp
  cbv
  repeat' (first | apply And.intro | exact fun (_ : False → False) => by kernel_rfl | (intro h2; cbv) | apply Or.inl)
  rotate_left
  · rw [hb2] at h2; exact absurd h2 (by decide)
  refine X.call (F15 he (by omega) fun r5 hr5 => ?_)
  cbv
  repeat' (first | apply And.intro | exact fun (_ : False → False) => by kernel_rfl | (intro h2; cbv) | apply Or.inl)
  refine X.call (F16 he (by omega) fun r6 hr6 => ?_)
  cbv
  repeat' (first | apply And.intro | exact fun (_ : False → False) => by kernel_rfl | (intro h2; cbv) | apply Or.inl)
  have q3 := canon_lt (l := [⟨path, false, compl t⟩]) (n := 1) (by simp) (by omega)
  refine X.call (F10 hr5 hr6 q3.1 q3.2 fun b3 hb3 => ?_)
  have hb3 : b3 = true := by rw [hb3]; simp
  subst hb3
  cbv
  exact h
end Go.VC.T35
end

section
set_option linter.unusedSimpArgs false
set_option linter.unusedVariables false
set_option linter.constructorNameAsVariable false
namespace Go.VC.T35
open Go Go.VC Go.Proofs
open Go.ChangeShapes Go.WideShapes Go.ChangeAt Go.RowKit

namespace Bk
open YtkccmlagckaloaaGreat
theorem one_le {H : Type} (d : DataW H) : 1 ≤ Rows.uptoBulk d := by
  cases d with
  | lit l => cases l <;> simp [Rows.uptoBulk]
  | nil => simp [Rows.uptoBulk]
  | ptr d => simp [Rows.uptoBulk]
  | slice elems spare => simp [Rows.uptoBulk]
  | agg parts => simp [Rows.uptoBulk]
  | iface t d => simp [Rows.uptoBulk]
  | map entries => simp [Rows.uptoBulk]
  | held h => simp [Rows.uptoBulk]
theorem part_le {H : Type} {d : DataW H} : ∀ {l : List (DataW H)}, d ∈ l → Rows.uptoBulk d ≤ Rows.uptoBulkAll l
  | x :: r, h => by
    simp only [Rows.uptoBulkAll]
    rcases List.mem_cons.1 h with rfl | h
    · omega
    · have := part_le h; omega
theorem len_le {H : Type} : ∀ (l : List (DataW H)), l.length ≤ Rows.uptoBulkAll l
  | [] => by simp
  | x :: r => by have := one_le x; have := len_le r; simp only [Rows.uptoBulkAll, List.length_cons]; omega
theorem ok {H : Type} : BulkOk (H := H) Rows.uptoBulk where
  str s := by simp [Rows.uptoBulk]
  slice es sp := ⟨by have := len_le es; simp only [Rows.uptoBulk]; omega, fun e he => by have := part_le he; simp only [Rows.uptoBulk]; omega⟩
  agg ps e he := by have := part_le he; simp only [Rows.uptoBulk]; omega
  ptr d := by simp only [Rows.uptoBulk]; omega
end Bk

theorem own : ownKnob Tryz.prog.godebug = none := by kernel_rfl
theorem laid : laidOutB Tryz.prog = true := by kernel_rfl
theorem dat : [3, 4, 9, 22, 23, 25, 29, 39, 43, 45, 51, 55, 65].all (dataB tt [3, 4, 9, 22, 23, 25, 29, 39, 43, 45, 51, 55, 65]) = true := by kernel_rfl

theorem rowX {n : Nat} {Pp : Per} {vs : List Value} {row : List D} (h : RowRD tt Pp n (cksOf tt 65) vs row) : ∃ x : (Int × Int), row = encX x ∧ True := by
  rw [cks65] at h
  cases h with
  | cons _ _ _ _ _ _ h1 _ t1 =>
    cases t1 with
    | cons _ _ _ _ _ _ h2 _ t2 =>
      cases t2
      cases h1; cases h2
      exact ⟨(_, _), rfl, trivial⟩
theorem listX {n : Nat} {Pp : Per} {v : Value} {d : D} (h : RD tt Pp (.slice 65) v d) (hb : Bd n d) : ∃ l : List (Int × Int), d = encL encX l ∧ l.length ≤ n := by
  obtain ⟨rows, rfl, hl, hr⟩ := RD.rows h hb
  obtain ⟨l, rfl, _⟩ := lift_map (fun r hr' => by obtain ⟨vs, hv⟩ := hr r hr'; exact rowX hv)
  exact ⟨l, rfl, by simpa using hl⟩
theorem rowT {n : Nat} {Pp : Per} {vs : List Value} {row : List D} (h : RowRD tt Pp n (cksOf tt 51) vs row) : ∃ x : Term, row = encT x ∧ x.set.length ≤ n := by
  rw [cks51] at h
  cases h with
  | cons _ _ _ _ _ _ h1 _ t1 =>
    cases t1 with
    | cons _ _ _ _ _ _ h2 _ t2 =>
      cases t2 with
      | cons _ _ _ _ _ _ h3 hb t3 =>
        cases t3
        cases h1; cases h2
        obtain ⟨l, rfl, hl⟩ := listX h3 hb
        exact ⟨⟨_, _, l⟩, rfl, hl⟩
theorem listT {n : Nat} {Pp : Per} {v : Value} {d : D} (h : RD tt Pp (.slice 51) v d) (hb : Bd n d) : ∃ l : List Term, d = encL encT l ∧ l.length ≤ n ∧ ∀ t ∈ l, t.set.length ≤ n := by
  obtain ⟨rows, rfl, hl, hr⟩ := RD.rows h hb
  obtain ⟨l, rfl, h2⟩ := lift_map (fun r hr' => by obtain ⟨vs, hv⟩ := hr r hr'; exact rowT hv)
  exact ⟨l, rfl, by simpa using hl, h2⟩
theorem cks45 : cksOf tt 45 = [.str, .int .i64, .int .i64, .int .i64] := by kernel_rfl
theorem rowV {n : Nat} {Pp : Per} {vs : List Value} {row : List D} (h : RowRD tt Pp n (cksOf tt 45) vs row) : ∃ x : Sel, row = encV x ∧ True := by
  rw [cks45] at h
  cases h with
  | cons _ _ _ _ _ _ h1 _ t1 =>
    cases t1 with
    | cons _ _ _ _ _ _ h2 _ t2 =>
      cases t2 with
      | cons _ _ _ _ _ _ h3 _ t3 =>
        cases t3 with
        | cons _ _ _ _ _ _ h4 _ t4 =>
          cases t4
          cases h1; cases h2; cases h3; cases h4
          exact ⟨⟨_, _, _, _⟩, rfl, trivial⟩
theorem listV {n : Nat} {Pp : Per} {v : Value} {d : D} (h : RD tt Pp (.slice 45) v d) (hb : Bd n d) : ∃ l : List Sel, d = encL encV l ∧ l.length ≤ n := by
  obtain ⟨rows, rfl, hl, hr⟩ := RD.rows h hb
  obtain ⟨l, rfl, _⟩ := lift_map (fun r hr' => by obtain ⟨vs, hv⟩ := hr r hr'; exact rowV hv)
  exact ⟨l, rfl, by simpa using hl⟩

section
variable {H : Type} {enc : TypeId × Value → H} {W : World} {n base : Nat} {v : Value} {d : DataW H} {p : List MemPlace}
set_option maxRecDepth 100000 in
/-- a string among the arguments -/
theorem argS (hv : Value.okWide Tryz.prog W .any base 9 v) (h : DataW.Trod enc Tryz.prog W 0 (fun _ => true) true 9 v d p) (hb : YtkccmlagckaloaaGreat.Rows.uptoBulk d ≤ n) :
    ∃ s : List UInt8, VR tt [] (AllP W) v (.str s) ∧ s.length ≤ n := by
  obtain ⟨s, rfl, rfl, rfl, _⟩ := ChangeMaps.open_string Tryz.underlying9 hv h
  exact ⟨_, .str _, Nat.le_trans (Bk.ok.str _) hb⟩
set_option maxRecDepth 100000 in
theorem argI (hv : Value.okWide Tryz.prog W .any base 3 v) (h : DataW.Trod enc Tryz.prog W 0 (fun _ => true) true 3 v d p) :
    ∃ k : Int, VR tt [] (AllP W) v (.int .i64 k) ∧ -9223372036854775808 ≤ k ∧ k ≤ 9223372036854775807 := by
  obtain ⟨k, rfl, rfl, rfl, hw⟩ := open_int Tryz.underlying3 hv h
  exact ⟨k, .int _ _, bounds_i64 hw⟩
set_option maxRecDepth 100000 in
theorem one_row {t : TypeId} {ck : CK} (ht : [3, 4, 9, 22, 23, 25, 29, 39, 43, 45, 51, 55, 65].contains t = true) (hck : cksOf tt t = [ck]) {a : Option Addr} {l c : Nat} (h : DataW.Trod enc Tryz.prog W 0 (fun _ => true) true t (.slice a l c) d p) (hb : YtkccmlagckaloaaGreat.Rows.uptoBulk d ≤ n) :
    ∃ e, RD tt (AllP W) ck (.slice a l c) e ∧ Bd n e := by
  obtain ⟨fuel, hf⟩ := h
  obtain ⟨ds, hds⟩ := trod_row (n := n) tt_ok dat (bulk := YtkccmlagckaloaaGreat.Rows.uptoBulk) Bk.ok fuel t _ _ ht hf hb
  rw [hck] at hds
  cases hds with
  | cons _ _ e _ _ _ h1 h2 t1 => exact ⟨e, h1, h2⟩
set_option maxRecDepth 100000 in
theorem argX {t : TypeId} (ht : t = 23) (hv : Value.okWide Tryz.prog W .any base t v) (h : DataW.Trod enc Tryz.prog W 0 (fun _ => true) true t v d p) (hb : YtkccmlagckaloaaGreat.Rows.uptoBulk d ≤ n) :
    ∃ (e : D) (l : List (Int × Int)), VR tt [] (AllP W) v (.lst 65 e) ∧ e = encL encX l ∧ l.length ≤ n := by
  subst ht
  obtain ⟨a, len, cap, rfl⟩ := okWide_slice Tryz.underlying23 hv
  obtain ⟨e, h1, h2⟩ := one_row (by decide) (by kernel_rfl) h hb
  obtain ⟨l, he, hl⟩ := listX h1 h2
  exact ⟨e, l, .lst _ _ _ h1, he, hl⟩
set_option maxRecDepth 100000 in
theorem argT (hv : Value.okWide Tryz.prog W .any base 29 v) (h : DataW.Trod enc Tryz.prog W 0 (fun _ => true) true 29 v d p) (hb : YtkccmlagckaloaaGreat.Rows.uptoBulk d ≤ n) :
    ∃ (e : D) (l : List Term), VR tt [] (AllP W) v (.lst 51 e) ∧ e = encL encT l ∧ l.length ≤ n ∧ ∀ t ∈ l, t.set.length ≤ n := by
  obtain ⟨a, len, cap, rfl⟩ := okWide_slice Tryz.underlying29 hv
  obtain ⟨e, h1, h2⟩ := one_row (by decide) (by kernel_rfl) h hb
  obtain ⟨l, he, hl⟩ := listT h1 h2
  exact ⟨e, l, .lst _ _ _ h1, he, hl⟩
set_option maxRecDepth 100000 in
theorem argV (hv : Value.okWide Tryz.prog W .any base 39 v) (h : DataW.Trod enc Tryz.prog W 0 (fun _ => true) true 39 v d p) (hb : YtkccmlagckaloaaGreat.Rows.uptoBulk d ≤ n) :
    ∃ (e : D) (l : List Sel), VR tt [] (AllP W) v (.lst 45 e) ∧ e = encL encV l ∧ l.length ≤ n := by
  obtain ⟨a, len, cap, rfl⟩ := okWide_slice Tryz.underlying39 hv
  obtain ⟨e, h1, h2⟩ := one_row (by decide) (by kernel_rfl) h hb
  obtain ⟨l, he, hl⟩ := listV h1 h2
  exact ⟨e, l, .lst _ _ _ h1, he, hl⟩
set_option maxRecDepth 100000 in
theorem argQ (hv : Value.okWide Tryz.prog W .any base 25 v) (h : DataW.Trod enc Tryz.prog W 0 (fun _ => true) true 25 v d p) (hb : YtkccmlagckaloaaGreat.Rows.uptoBulk d ≤ n) :
    ∃ (s : List UInt8) (e : D) (l : List (Int × Int)), VR tt [] (AllP W) v (.agg [.str s, .lst 65 e]) ∧ e = encL encX l ∧ l.length ≤ n := by
  obtain ⟨cs, rfl, _⟩ := okWide_struct Tryz.underlying25 hv
  obtain ⟨fuel, hf⟩ := h
  obtain ⟨ds, hds⟩ := trod_row (n := n) tt_ok dat (bulk := YtkccmlagckaloaaGreat.Rows.uptoBulk) Bk.ok fuel 25 _ _ (by decide) hf hb
  rw [show cksOf tt 25 = [.str, .slice 65] by kernel_rfl] at hds
  generalize hx : (Value.agg cs).cells.toList = vs at hds
  have hcs : cs = ⟨vs⟩ := by rw [← hx]; rfl
  subst hcs
  clear hx hf
  cases hds with
  | cons _ _ _ _ _ _ h1 _ t1 =>
    cases t1 with
    | cons _ _ e _ _ _ h2 hb2 t2 =>
      cases t2
      cases h1
      obtain ⟨l, he, hl⟩ := listX h2 hb2
      exact ⟨_, e, l, .agg _ _ (.cons _ _ _ _ (.str _) (.cons _ _ _ _ (.lst _ _ _ h2) .nil)), he, hl⟩
end
end Go.VC.T35
end

section
set_option linter.unusedSimpArgs false
set_option linter.unusedVariables false
namespace Go.VC.T35
open Go Go.VC Go.Proofs

theorem few_len {l : List Term} (h : few l = true) : l.length ≤ 12 ∧ ∀ t ∈ l, t.set.length ≤ 12 := by
  simp only [few, Bool.and_eq_true, decide_eq_true_eq, List.all_eq_true, few1] at h
  exact ⟨h.2, fun t ht => (h.1 t ht).2⟩
theorem few_some {l : List Term} (h : few l = true) : l.length ≤ 400 ∧ ∀ t ∈ l, t.set.length ≤ 2000000 := by
  have := few_len h
  exact ⟨by omega, fun t ht => by have := this.2 t ht; omega⟩
theorem resolveT_lt {a b : List Term} {p : List UInt8} (ha : a.length ≤ 400) (hb : b.length ≤ 400) : (resolveT a b p).1.length < 4294967296 ∧ ∀ t ∈ (resolveT a b p).1, t.set.length < 4294967296 := by
  unfold resolveT resolveX
  split
  · split
    · rename_i s t hs ht
      split
      · refine canon_lt (n := 801) ?_ (by omega)
        have h1 := without_len (l := (canonT a).1) (p := p)
        have h2 := without_len (l := (canonT b).1) (p := p)
        have h3 := canonT_len (l := a)
        have h4 := canonT_len (l := b)
        simp only [List.length_append, List.length_cons, List.length_nil]
        omega
      · exact ⟨by simp, fun t ht => by simp at ht⟩
    · exact ⟨by simp, fun t ht => by simp at ht⟩
  · exact ⟨by simp, fun t ht => by simp at ht⟩

set_option maxRecDepth 100000 in
set_option maxHeartbeats 2000000 in
theorem F4 {a b : List Term} {path : List UInt8} {d e : D} {K : PV → List Ob → Prop} (hd : d = encL encT a) (he : e = encL encT b) (ha : a.length < 4294967296) (hb : b.length < 4294967296)
    (h : K (.bool true) []) : FC Tryz.prog tt 4 [] [.lst 51 d, .lst 51 e, .str path] K := by
  refine FC.enter (G := g4) tt_ok mixed ⟨Tryz.func4, by rfl, rfl⟩ rfl rfl rfl ?_
  intro A C L X
  cbv
  refine X.call (F9 ?_)
  cbv
  repeat' (first | apply And.intro | exact fun (_ : False → False) => by kernel_rfl | (intro h2; cbv) | apply Or.inl)
  · exfalso; obtain rfl := X.a; simp only [Std_x0, Std_x1, Std_len, Std_lt, Std_le, Std_eq, Std_add, Std_sub, Std_mul, Std_not, Std_ite, Std_str, Std_bool, Std_int, Std_slen, Std_seq, Std_slt', Std_beq, Std_idx, Std_bnd, Std_same, Std_max', Std_min', Std_partI, Std_app, Std_len_app, Std_len_lit, Std_len_setc, List.length_take, List.length_drop, List.length_append, List.length_cons, List.length_nil, Int.toNat_natCast, Std_inr64, bNot, Int.ofNat_eq_natCast, Int.natCast_zero, decide_eq_true_eq, decide_eq_false_iff_not, Bool.not_eq_true, Bool.not_eq_false, Bool.not_eq_eq_eq_not, Bool.not_true, Bool.not_false, beq_iff_eq, beq_eq_false_iff_ne, ne_eq, Bool.true_eq_false, Bool.false_eq_true, cond_true, cond_false] at *; done
  refine X.call (F17 hd ha fun f1 hf1 => ?_)
  cbv
  repeat' (first | apply And.intro | exact fun (_ : False → False) => by kernel_rfl | (intro h2; cbv) | apply Or.inl)
  rotate_left
  · exact h
  refine X.call (F17 he hb fun f2 hf2 => ?_)
  cbv
  repeat' (first | apply And.intro | exact fun (_ : False → False) => by kernel_rfl | (intro h2; cbv) | apply Or.inl)
  · exact h
  rotate_left
  · exact h
  have h1 : few a = true := by obtain rfl := X.a; simp only [Std_x0, Std_x1, Std_len, Std_lt, Std_le, Std_eq, Std_add, Std_sub, Std_mul, Std_not, Std_ite, Std_str, Std_bool, Std_int, Std_slen, Std_seq, Std_slt', Std_beq, Std_idx, Std_bnd, Std_same, Std_max', Std_min', Std_partI, Std_app, Std_len_app, Std_len_lit, Std_len_setc, List.length_take, List.length_drop, List.length_append, List.length_cons, List.length_nil, Int.toNat_natCast, Std_inr64, bNot, Int.ofNat_eq_natCast, Int.natCast_zero, decide_eq_true_eq, decide_eq_false_iff_not, Bool.not_eq_true, Bool.not_eq_false, Bool.not_eq_eq_eq_not, Bool.not_true, Bool.not_false, beq_iff_eq, beq_eq_false_iff_ne, ne_eq, Bool.true_eq_false, Bool.false_eq_true, cond_true, cond_false] at *; simp_all
  have h2 : few b = true := by obtain rfl := X.a; simp only [Std_x0, Std_x1, Std_len, Std_lt, Std_le, Std_eq, Std_add, Std_sub, Std_mul, Std_not, Std_ite, Std_str, Std_bool, Std_int, Std_slen, Std_seq, Std_slt', Std_beq, Std_idx, Std_bnd, Std_same, Std_max', Std_min', Std_partI, Std_app, Std_len_app, Std_len_lit, Std_len_setc, List.length_take, List.length_drop, List.length_append, List.length_cons, List.length_nil, Int.toNat_natCast, Std_inr64, bNot, Int.ofNat_eq_natCast, Int.natCast_zero, decide_eq_true_eq, decide_eq_false_iff_not, Bool.not_eq_true, Bool.not_eq_false, Bool.not_eq_eq_eq_not, Bool.not_true, Bool.not_false, beq_iff_eq, beq_eq_false_iff_ne, ne_eq, Bool.true_eq_false, Bool.false_eq_true, cond_true, cond_false] at *; simp_all
  have g1 := few_some h1
  have g2 := few_some h2
  refine X.call (F18 hd he g1.1 g2.1 g1.2 g2.2 fun r1 e1 hr1 he1 => ?_)
  cbv
  refine X.call (F19 hd he g1.1 g2.1 g1.2 g2.2 fun r2 e2 hr2 he2 => ?_)
  cbv
  have g3 := resolveT_lt (p := path) g1.1 g2.1
  refine X.call (F10 hr1 hr2 g3.1 g3.2 fun b1 hb1 => ?_)
  have hb1 : b1 = true := by rw [hb1]; simp
  have c1 : A.eq e1 e2 = true := by rw [X.a, he1, he2]; simp only [Std_x0, Std_x1, Std_len, Std_lt, Std_le, Std_eq, Std_add, Std_sub, Std_mul, Std_not, Std_ite, Std_str, Std_bool, Std_int, Std_slen, Std_seq, Std_slt', Std_beq, Std_idx, Std_bnd, Std_same, Std_max', Std_min', Std_partI, Std_app, Std_len_app, Std_len_lit, Std_len_setc, List.length_take, List.length_drop, List.length_append, List.length_cons, List.length_nil, Int.toNat_natCast, Std_inr64, bNot, Int.ofNat_eq_natCast, Int.natCast_zero, decide_eq_true_eq, decide_eq_false_iff_not, Bool.not_eq_true, Bool.not_eq_false, Bool.not_eq_eq_eq_not, Bool.not_true, Bool.not_false, beq_iff_eq, beq_eq_false_iff_ne, ne_eq, Bool.true_eq_false, Bool.false_eq_true, cond_true, cond_false]
  cbv
  repeat' (first | apply And.intro | exact fun (_ : False → False) => by kernel_rfl | (intro h2; cbv) | apply Or.inl)
  rotate_left
  · rw [c1] at h2; exact absurd h2 (by decide)
  · rw [hb1] at h2; exact absurd h2 (by decide)
  refine X.call (F20 hd he g1.1 g2.1 g1.2 g2.2 fun r3 hr3 => ?_)
  cbv
  repeat' (first | apply And.intro | exact fun (_ : False → False) => by kernel_rfl | (intro h2; cbv) | apply Or.inl)
  refine X.call (F21 hd he g1.1 g2.1 g1.2 g2.2 fun r4 hr4 => ?_)
  have c2 : A.beq r3 r4 = true := by obtain rfl := X.a; rw [hr3, hr4]; simp only [Std_x0, Std_x1, Std_len, Std_lt, Std_le, Std_eq, Std_add, Std_sub, Std_mul, Std_not, Std_ite, Std_str, Std_bool, Std_int, Std_slen, Std_seq, Std_slt', Std_beq, Std_idx, Std_bnd, Std_same, Std_max', Std_min', Std_partI, Std_app, Std_len_app, Std_len_lit, Std_len_setc, List.length_take, List.length_drop, List.length_append, List.length_cons, List.length_nil, Int.toNat_natCast, Std_inr64, bNot, Int.ofNat_eq_natCast, Int.natCast_zero, decide_eq_true_eq, decide_eq_false_iff_not, Bool.not_eq_true, Bool.not_eq_false, Bool.not_eq_eq_eq_not, Bool.not_true, Bool.not_false, beq_iff_eq, beq_eq_false_iff_ne, ne_eq, Bool.true_eq_false, Bool.false_eq_true, cond_true, cond_false]; try simp
  have q : K (.bool (A.beq r3 r4)) [] := by rw [c2]; exact h
  cbv
  exact q
end Go.VC.T35
end
