/- Part 4 of the common texts: D2 S12 D3 L5 L6 T32 T31 T17 T37 R1 R2 R3 R4 D4 S13 D5. -/
import Derived.Shelf.SlicesE.Kit
import Derived.Shelf.RegionOpenPlain
import Derived.WalkKit
import Derived.Deep.RegionLaw
import Derived.Lib.SliceRun
import Derived.Sort.WalkB12
import Derived.Lib.SlicesDelete
import Derived.Test.YtkccmlagckaloaaGreatPart1
import Derived.Test.YtkccmlagckaloaaGreatPart2
import Derived.Test.YtkccmlagckaloaaGreatPart3
set_option linter.all false

section
set_option linter.unusedSimpArgs false
set_option linter.unusedVariables false
namespace Go.VC
def gk (m : List KT) (j : Int) : Term := (m.getD j.toNat ([], ⟨[], false, []⟩)).2
theorem gk_get {m : List KT} {a : Int} (i : Nat) (ha : a = i) (h : i < m.length) : gk m a = m[i].2 := by subst ha; simp [gk, h]
theorem encP_cell {m : List KT} {a : Int} (h : 0 ≤ a ∧ a < m.length) (j : Nat) : Std.cell (encL encP m) a (j+1) = (encT (gk m a)).getD j .nil := by
  have := Std_cellI (f := encP) (l := m) (a := a) (j := j+1) a.toNat (by omega) (by omega)
  rw [this, gk_get a.toNat (by omega) (by omega)]; rfl
theorem gk_mem {m : List KT} {a : Int} (h : 0 ≤ a ∧ a < m.length) : gk m a ∈ m.map (·.2) := by
  rw [gk_get a.toNat (by omega) (by omega)]
  exact List.mem_map.2 ⟨_, List.getElem_mem _, rfl⟩
theorem range_terms {m : List KT} : ((List.range m.length).map fun j : Nat => gk m (j : Int)) = m.map (·.2) := by
  apply List.ext_getElem (by simp)
  intro i h1 h2
  have hi : i < m.length := by simpa using h2
  simp [gk, hi]
theorem seen_terms {m : List KT} {ks : List Int} (hnd : ks.Nodup) (hr : ∀ j ∈ ks, 0 ≤ j ∧ j < m.length) (ha : ∀ j : Nat, j < m.length → (j : Int) ∈ ks) : (ks.map (gk m)).Perm (m.map (·.2)) := by
  have hp : ks.Perm ((List.range m.length).map fun j : Nat => (j : Int)) := by
    rw [List.perm_ext_iff_of_nodup hnd]
    · intro j
      simp only [List.mem_map, List.mem_range]
      constructor
      · intro hj
        have := hr j hj
        exact ⟨j.toNat, by omega, by omega⟩
      · rintro ⟨k, hk, rfl⟩; exact ha k hk
    · refine List.Pairwise.map _ ?_ List.nodup_range
      intro a b hab h; exact hab (by omega)
  have := hp.map (gk m)
  rw [List.map_map] at this
  rw [← range_terms]; exact this
theorem canonT_never {l : List Term} {m : List KT} (hm : m = mergeP [] l) {j : Int} (hj : 0 ≤ j ∧ j < m.length) (h : tNever (gk m j) = true) : canonT l = ([], false) := by
  have h1 := gk_mem hj
  rw [hm] at h1
  have h2 := (mp_merge l).perm.mem_iff.1 h1
  rw [canonT, if_pos]
  simp only [List.any_eq_true]
  exact ⟨_, h2, by rw [← hm]; exact h⟩
theorem canonT_all {l : List Term} {m : List KT} (hm : m = mergeP [] l) {o S : List Term} (hn : ∀ t ∈ m.map (·.2), tNever t = false) (ho : o.Perm ((m.map (·.2)).filter fun t => !tAlways t)) (hS : S.Perm o)
    (hs : ∀ i j (hi : i < S.length) (hj : j < S.length), i < j → slt S[j].path S[i].path = false) : canonT l = (S, true) := by
  have hmp := (mp_merge l).perm
  rw [← hm] at hmp
  have hany : ¬ (mergedT [] l).any tNever = true := by
    simp only [List.any_eq_true, not_exists, not_and]
    intro t ht
    rw [hn t (hmp.mem_iff.2 ht)]; simp
  rw [canonT, if_neg hany]
  have hSM : S = (mergedT [] l).filter fun t => !tAlways t := by
    refine sortedT_uniq (hS.trans (ho.trans (hmp.filter _))) hs ?_
    exact List.Pairwise.filter _ (SrtT.merged List.Pairwise.nil)
  rw [hSM]
end Go.VC
namespace Go.VC.T35
open Go Go.VC Go.Proofs

set_option maxRecDepth 100000 in
set_option maxHeartbeats 4000000 in
theorem F34 {l : List Term} {d : D} {K : PV → List Ob → Prop} (hd : d = encL encT l) (hl : l.length ≤ 1000) (hs : ∀ t ∈ l, t.set.length ≤ 2000000)
    (h : ∀ r b, r = encL encT (canonT l).1 → b = (canonT l).2 → K (.tup [.lst 51 r, .bool b]) []) : FC Tryz.prog tt 34 [] [.lst 51 d] K := by
  refine FC.enter (G := g34) tt_ok mixed ⟨Tryz.func34, by rfl, rfl⟩ rfl rfl rfl ?_
  intro A C L X
  obtain ⟨T, hT⟩ : ∃ T, T =  encL encP := ⟨_, rfl⟩
  obtain ⟨U, hU⟩ : ∃ T, T =  encL encT := ⟨_, rfl⟩
  obtain ⟨V, hV⟩ : ∃ T, T =  encJ := ⟨_, rfl⟩
  cbv
  refine X.call (F61 hd hl hs fun r hr => ?_)
  have hml := length_mergeP (m := []) (l := l)
  have hcan : ∀ t ∈ (mergeP [] l).map (·.2), Can t.set := fun t ht => by
    have h2 : CanT (mergedT [] l) := CanT.mergedT (fun t ht => by simp at ht)
    exact h2 t ((mp_merge l).perm.mem_iff.1 ht)
  obtain ⟨m, hm⟩ : ∃ m, m = mergeP [] l := ⟨_, rfl⟩
  rw [← hm] at hml hcan hr
  rw [← hT] at hr
  have hml2 : m.length ≤ 1000 := by simp at hml; omega
  cbv
  refine X.loop (fun (x : List Int × List Term) => ⟨[(9, .it 2), (4, .row 51 0)], [.row 51 (U x.2) true, .map .str 51 r, .iter 1 (V x.1)]⟩) (fun x => x.1.Nodup ∧ (∀ j ∈ x.1, 0 ≤ j ∧ j < m.length) ∧ (∀ j ∈ x.1, tNever (gk m j) = false) ∧ x.2 = (x.1.map (gk m)).filter fun t => !tAlways t) (fun x => m.length - x.1.length) ([], []) ⟨List.nodup_nil, by simp, by simp, rfl⟩ ?_ ?_
  · (cbv; repeat' apply And.intro); all_goals (try (first | trivial | rfl | (rw [X.a]; rfl)))
    · rw [hU]; rfl
    · rw [hV]; rfl
  rintro ⟨ks, o⟩ ⟨hnd, hrg, hnv, ho⟩
  dsimp only at hnd hrg hnv ho ⊢
  have hkl := nodup_len hnd hrg
  have hol : o.length ≤ ks.length := by rw [ho]; refine Nat.le_trans (List.length_filter_le _ _) (by simp)
  cbv
  refine ⟨fun h7 => ?_, fun j h7 => ?_⟩
  · have hall : ∀ j : Nat, j < m.length → (j : Int) ∈ ks := by rw [hr, X.a, hT, hV] at h7; exact Std_allSeen h7
    have hperm := seen_terms hnd hrg hall
    have hn2 : ∀ t ∈ m.map (·.2), tNever t = false := by
      intro t ht
      obtain ⟨j, hj, rfl⟩ := List.mem_map.1 (hperm.mem_iff.2 ht)
      exact hnv j hj
    have ho2 : o.Perm ((m.map (·.2)).filter fun t => !tAlways t) := by rw [ho]; exact hperm.filter _
    cbv
    refine X.call (F65 (rows := o) (by rw [hU]) (by omega) fun S rS hpS hsS hrS => ?_)
    have hfin := canonT_all hm hn2 ho2 hpS hsS
    cbv
    exact h _ _ (by rw [hfin, hrS]) (by rw [hfin])
  · have h8 : 0 ≤ j ∧ j < m.length ∧ j ∉ ks := by rw [hr, X.a, hT, hV] at h7; exact Std_unseen h7
    have hj2 : 0 ≤ j ∧ j < m.length := ⟨h8.1, h8.2.1⟩
    have hnew : (ks ++ [j]).Nodup := by
      rw [List.nodup_append]
      refine ⟨hnd, by simp, ?_⟩
      intro a ha b hb hab
      simp only [List.mem_singleton] at hb
      subst hb; subst hab; exact h8.2.2 ha
    have hnr : ∀ i ∈ ks ++ [j], 0 ≤ i ∧ i < m.length := by
      intro i hi
      rcases List.mem_append.1 hi with hi | hi
      · exact hrg i hi
      · simp only [List.mem_singleton] at hi; subst hi; exact hj2
    have hnv2 : tNever (gk m j) = false → ∀ i ∈ ks ++ [j], tNever (gk m i) = false := by
      intro ht i hi
      rcases List.mem_append.1 hi with hi | hi
      · exact hnv i hi
      · simp only [List.mem_singleton] at hi; subst hi; exact ht
    have hkl2 := nodup_len hnew hnr
    have hmap : ((ks ++ [j]).map (gk m)).filter (fun t => !tAlways t) = o ++ (if tAlways (gk m j) = true then [] else [gk m j]) := by
      rw [ho, List.map_append, List.filter_append]
      congr 1
      simp only [List.map_cons, List.map_nil, List.filter_cons, List.filter_nil]
      cases tAlways (gk m j) <;> rfl
    have hcj : Can (gk m j).set := hcan _ (gk_mem hj2)
    have hcjl := hcj.length
    have hnever := fun hn => canonT_never hm hj2 hn
    have hlast : Std.last (Std.see (encJ ks) j) = j := by rw [Std_see, Std_last]
    have hsee : Std.see (encJ ks) j = encJ (ks ++ [j]) := Std_see
    have c0 := encP_cell hj2 0
    have c1 := encP_cell hj2 1
    have c2 := encP_cell hj2 2
    obtain ⟨k2, hk2⟩ : ∃ k2, k2 = ks ++ [j] := ⟨_, rfl⟩
    rw [← hk2] at hnew hnr hkl2 hmap hnv2 hsee
    have hkn : k2.length = ks.length + 1 := by rw [hk2]; simp
    obtain ⟨t, ht⟩ : ∃ t, t = gk m j := ⟨_, rfl⟩
    rw [← ht] at c0 c1 c2 hcj hcjl hmap hnever hnv2
    have hsl : A.last (A.see (V ks) j) = j := by rw [X.a, hV]; exact hlast
    have hp : A.asStr (A.cell r (A.last (A.see (V ks) j)) 1) = t.path := by rw [hsl, X.a, hr, hT, c0]; rfl
    have hb : A.asBool (A.cell r (A.last (A.see (V ks) j)) 2) = t.absent := by rw [hsl, X.a, hr, hT, c1]; rfl
    have hst : A.cell r (A.last (A.see (V ks) j)) 3 = encL encX t.set := by rw [hsl, X.a, hr, hT]; exact c2
    have hca : canon t.set = t.set := canon_can hcj
    have hal : (t.absent && (compl t.set).isEmpty) = tAlways t := by rw [compl_nil hcj]; rfl
    have hne : tNever ⟨t.path, t.absent, canon t.set⟩ = tNever t := by rw [hca]
    cbv
    refine ⟨?_, ?_, ?_⟩
    · rw [X.a, hV]
      refine (show Std.idx 0 (Std.len (Std.see (encJ ks) j)) from ?_)
      rw [hsee, encJ_len, Std_idx]; omega
    · rw [X.a, hV, hr, hT]
      refine (show Std.idx (Std.last (Std.see (encJ ks) j)) (Std.len (encL encP m)) from ?_)
      rw [hlast, Std_len, Std_idx]; exact hj2
    refine X.call (F63 (s := t.set) hst (by omega) fun b1 hb1 => ?_)
    have hb1 : b1 = tNever t := by
      rw [hb1, ← hne]
      have e : ∀ p p' : List UInt8, ∀ a a' : Bool, p = p' → a = a' → tNever ⟨p, a, canon t.set⟩ = tNever ⟨p', a', canon t.set⟩ := by rintro p _ a _ rfl rfl; rfl
      exact e _ _ _ _ hp hb
    cbv
    repeat' (first | apply And.intro | exact fun (_ : False → False) => by kernel_rfl | (intro h2; cbv) | apply Or.inl)
    · have hn := hnever (by rw [← hb1]; assumption)
      exact h _ _ (by rw [hn]; rfl) (by rw [hn])
    · have hnf : tNever t = false := by rw [← hb1]; assumption
      refine X.call (F64 (s := t.set) hst (by omega) fun b2 hb2 => ?_)
      have hb2 : b2 = tAlways t := by
        rw [hb2, ← hal]
        exact congrArg (fun a => a && (compl t.set).isEmpty) hb
      cbv
      repeat' (first | apply And.intro | exact fun (_ : False → False) => by kernel_rfl | (intro h2; cbv) | apply Or.inl)
      · obtain rfl := X.a; subst hU
        simp only [Std_x0, Std_x1, Std_len, Std_lt, Std_le, Std_eq, Std_add, Std_sub, Std_mul, Std_not, Std_ite, Std_str, Std_bool, Std_int, Std_slen, Std_seq, Std_slt', Std_beq, Std_idx, Std_bnd, Std_same, Std_max', Std_min', Std_partI, Std_app, Std_len_app, Std_len_lit, Std_len_setc, List.length_take, List.length_drop, List.length_append, List.length_cons, List.length_nil, Int.toNat_natCast, Std_inr64, bNot, Int.ofNat_eq_natCast, Int.natCast_zero, decide_eq_true_eq, decide_eq_false_iff_not, Bool.not_eq_true, Bool.not_eq_false, Bool.not_eq_eq_eq_not, Bool.not_true, Bool.not_false, beq_iff_eq, beq_eq_false_iff_ne, ne_eq, Bool.true_eq_false, Bool.false_eq_true, cond_true, cond_false]; omega
      · have hbf : ¬ tAlways t = true := by rw [← hb2]; obtain rfl := X.a; simp only [Std_x0, Std_x1, Std_len, Std_lt, Std_le, Std_eq, Std_add, Std_sub, Std_mul, Std_not, Std_ite, Std_str, Std_bool, Std_int, Std_slen, Std_seq, Std_slt', Std_beq, Std_idx, Std_bnd, Std_same, Std_max', Std_min', Std_partI, Std_app, Std_len_app, Std_len_lit, Std_len_setc, List.length_take, List.length_drop, List.length_append, List.length_cons, List.length_nil, Int.toNat_natCast, Std_inr64, bNot, Int.ofNat_eq_natCast, Int.natCast_zero, decide_eq_true_eq, decide_eq_false_iff_not, Bool.not_eq_true, Bool.not_eq_false, Bool.not_eq_eq_eq_not, Bool.not_true, Bool.not_false, beq_iff_eq, beq_eq_false_iff_ne, ne_eq, Bool.true_eq_false, Bool.false_eq_true, cond_true, cond_false] at *; simp_all
        rw [if_neg hbf] at hmap
        obtain ⟨o2, ho2⟩ : ∃ o2, o2 = o ++ [t] := ⟨_, rfl⟩
        rw [← ho2] at hmap
        refine ⟨(k2, o2), ⟨hnew, hnr, hnv2 hnf, hmap.symm⟩, by dsimp only; omega, ?_⟩
        (cbv; repeat' apply And.intro); all_goals (try (first | trivial | rfl | (rw [X.a]; rfl)))
        · obtain rfl := X.a; subst hU; subst ho2
          refine Std_app' rfl (lit1e t ?_)
          have e : ∀ p p' : List UInt8, ∀ a a' : Bool, ∀ s s' : D, p = p' → a = a' → s = s' → [D.str p, D.bool a, s] = [D.str p', D.bool a', s'] := by rintro p _ a _ s _ rfl rfl rfl; rfl
          exact e _ _ _ _ _ _ hp hb hst
        · obtain rfl := X.a; subst hV; exact hsee
      · have hbf : tAlways t = true := by rw [← hb2]; obtain rfl := X.a; simp only [Std_x0, Std_x1, Std_len, Std_lt, Std_le, Std_eq, Std_add, Std_sub, Std_mul, Std_not, Std_ite, Std_str, Std_bool, Std_int, Std_slen, Std_seq, Std_slt', Std_beq, Std_idx, Std_bnd, Std_same, Std_max', Std_min', Std_partI, Std_app, Std_len_app, Std_len_lit, Std_len_setc, List.length_take, List.length_drop, List.length_append, List.length_cons, List.length_nil, Int.toNat_natCast, Std_inr64, bNot, Int.ofNat_eq_natCast, Int.natCast_zero, decide_eq_true_eq, decide_eq_false_iff_not, Bool.not_eq_true, Bool.not_eq_false, Bool.not_eq_eq_eq_not, Bool.not_true, Bool.not_false, beq_iff_eq, beq_eq_false_iff_ne, ne_eq, Bool.true_eq_false, Bool.false_eq_true, cond_true, cond_false] at *; simp_all
        rw [if_pos hbf, List.append_nil] at hmap
        refine ⟨(k2, o), ⟨hnew, hnr, hnv2 hnf, hmap.symm⟩, by dsimp only; omega, ?_⟩
        (cbv; repeat' apply And.intro); all_goals (try (first | trivial | rfl | (rw [X.a]; rfl)))
        obtain rfl := X.a; subst hV; exact hsee

set_option maxRecDepth 100000 in
theorem F38 {l : List Term} {d : D} {K : PV → List Ob → Prop} (hd : d = encL encT l) (hl : l.length ≤ 1000) (hs : ∀ t ∈ l, t.set.length ≤ 2000000)
    (h : ∀ r, r = encL encT (canonT l).1 → K (.lst 51 r) []) : FC Tryz.prog tt 38 [] [.lst 51 d] K := by
  refine FC.enter (G := g38) tt_ok mixed ⟨Tryz.func38, by rfl, rfl⟩ rfl rfl rfl ?_
  intro A C L X
  cbv
  refine X.call (F34 hd hl hs fun r b hr hb => ?_)
  cbv
  exact h r hr

set_option maxRecDepth 100000 in
theorem F39 {p : List UInt8} {s : List (Int × Int)} {d : D} {K : PV → List Ob → Prop} (hd : d = encL encX s) (hs : s.length ≤ 2000000)
    (h : ∀ r, r = encL encX (compl s) → K (.agg [.str p, .bool true, .lst 65 r]) []) : FC Tryz.prog tt 39 [] [.agg [.str p, .lst 65 d]] K := by
  refine FC.enter (G := g39) tt_ok mixed ⟨Tryz.func39, by rfl, rfl⟩ rfl rfl rfl ?_
  intro A C L X
  cbv
  repeat' (first | apply And.intro | exact fun (_ : False → False) => by kernel_rfl | (intro h2; cbv) | apply Or.inl)
  all_goals
    refine X.call (F44 hd (by omega) fun r hr => ?_)
    cbv
    exact h r hr
theorem encT1 {p : List UInt8} {b : Bool} {s : List (Int × Int)} {d : D} (h : d = encL encX s) : [D.str p, D.bool b, d] = encT ⟨p, b, s⟩ := by subst h; rfl

set_option maxRecDepth 100000 in
theorem F11 {p : List UInt8} {s : List (Int × Int)} {d : D} {K : PV → List Ob → Prop} (hd : d = encL encX s) (hs : s.length ≤ 2000000)
    (h : ∀ r, r = encL encT (rootT p s) → K (.lst 51 r) []) : FC Tryz.prog tt 11 [] [.agg [.str p, .lst 65 d]] K := by
  refine FC.enter (G := g11) tt_ok mixed ⟨Tryz.func11, by rfl, rfl⟩ rfl rfl rfl ?_
  intro A C L X
  cbv
  refine X.call (F39 hd hs fun r hr => ?_)
  cbv
  refine X.call (F38 (l := [unsat p s]) (by rw [X.a]; exact lit1e _ (encT1 hr)) (by simp) ?_ fun r hr => ?_)
  · intro t ht; simp only [List.mem_singleton] at ht; subst ht; have := (can_compl s).length; show (compl s).length ≤ _; omega
  cbv
  exact h r hr

set_option maxRecDepth 100000 in
theorem F15 {p : List UInt8} {s : List (Int × Int)} {d : D} {K : PV → List Ob → Prop} (hd : d = encL encX s) (hs : s.length ≤ 2000000)
    (h : ∀ r, r = encL encT (noneT p s) → K (.lst 51 r) []) : FC Tryz.prog tt 15 [] [.str p, .lst 65 d] K := by
  refine FC.enter (G := g15) tt_ok mixed ⟨Tryz.func15, by rfl, rfl⟩ rfl rfl rfl ?_
  intro A C L X
  cbv
  refine X.call (F44 hd (by omega) fun r hr => ?_)
  cbv
  refine X.call (F38 (l := [⟨p, false, compl s⟩]) (by rw [X.a]; exact lit1e _ (encT1 hr)) (by simp) ?_ fun r hr => ?_)
  · intro t ht; simp only [List.mem_singleton] at ht; subst ht; have := (can_compl s).length; show (compl s).length ≤ _; omega
  cbv
  exact h r hr

theorem one_congr {a : Int} (ha : -9223372036854775808 ≤ a ∧ a ≤ 9223372036854775807) : canon [(a, IntKind.i64.wrap (a + 1))] = canon (oneP a) := by
  refine canon_congr fun p => ?_
  have hw : IntKind.i64.wrap (a + 1) = if a = 9223372036854775807 then -9223372036854775808 else a + 1 := by
    simp [IntKind.wrap, IntKind.bits, IntKind.signed]
    split <;> omega
  rw [hw]
  unfold oneP
  by_cases h : a < 0 ∨ 1000000 ≤ a
  · rw [if_pos h]
    simp only [pl, List.mem_singleton, exists_eq_left, List.not_mem_nil, false_and, exists_false, and_false, iff_false]
    split <;> omega
  · rw [if_neg h, pl_minus, pl_canon, pl_canon, if_neg (by omega)]
    simp only [pl, List.mem_singleton, exists_eq_left]
    omega
/-- the canonical form looks at the sets' places alone -/
theorem mergedT_congr : ∀ {l k : List Term} {m : List Term}, l.map normT = k.map normT → mergedT m l = mergedT m k
  | [], [], _, _ => rfl
  | a :: l, b :: k, m, h => by
    simp only [List.map_cons, List.cons.injEq] at h
    simp only [mergedT]
    rw [h.1]; exact mergedT_congr h.2
  | [], _ :: _, _, h => by simp at h
  | _ :: _, [], _, h => by simp at h
theorem canonT_congr {l k : List Term} (h : l.map normT = k.map normT) : canonT l = canonT k := by
  unfold canonT; rw [mergedT_congr h]

set_option maxRecDepth 100000 in
theorem F13 {path : List UInt8} {pl : Int} {p : List UInt8} {s : List (Int × Int)} {d : D} {K : PV → List Ob → Prop} (hd : d = encL encX s) (hs : s.length ≤ 2000000) (hp : -9223372036854775808 ≤ pl ∧ pl ≤ 9223372036854775807)
    (h : ∀ r, r = encL encT (requiresT path pl p s) → K (.lst 51 r) []) : FC Tryz.prog tt 13 [] [.str path, .int .i64 pl, .agg [.str p, .lst 65 d]] K := by
  refine FC.enter (G := g13) tt_ok mixed ⟨Tryz.func13, by rfl, rfl⟩ rfl rfl rfl ?_
  intro A C L X
  cbv
  apply Or.inr
  intro _
  cbv
  refine X.call (F39 hd hs fun r2 hr2 => ?_)
  have hreq : requiresT path pl p s = (canonT [⟨path, false, [(pl, IntKind.i64.wrap (pl + 1))]⟩, unsat p s]).1 := by
    unfold requiresT
    rw [canonT_congr]
    simp only [List.map_cons, List.map_nil, normT]
    rw [one_congr hp]
  have hw : A.wrap .i64 (A.add pl 1) = IntKind.i64.wrap (pl + 1) := by rw [X.a]; rfl
  have hset : A.lit [[.int pl, .int (A.wrap .i64 (A.add pl 1))]] = encL encX [(pl, IntKind.i64.wrap (pl + 1))] := by rw [hw, X.a]; rfl
  obtain ⟨w, hww⟩ : ∃ w, w = IntKind.i64.wrap (pl + 1) := ⟨_, rfl⟩
  rw [← hww] at hreq hset
  cbv
  refine X.call (F38 (l := [⟨path, false, [(pl, w)]⟩, unsat p s]) ?_ (by simp) ?_ fun r hr => ?_)
  · refine Eq.trans (b := A.lit [[.str path, .bool false, A.lit [[.int pl, .int (A.wrap .i64 (A.add pl 1))]]], [.str p, .bool true, r2]]) rfl ?_
    rw [hset, X.a]
    exact lit2 (encT1 rfl) (encT1 hr2)
  · intro t ht
    simp only [List.mem_cons, List.not_mem_nil, or_false] at ht
    rcases ht with rfl | rfl
    · show [(pl, w)].length ≤ _; simp
    · have := (can_compl s).length; show (compl s).length ≤ _; omega
  cbv
  exact h r (by rw [hr, hreq])
end Go.VC.T35
end

section
/- Selections; where a predicate holds first. -/
namespace Go.VC
def idxF {α : Type} (p : α → Bool) (l : List α) : Int := match l.findIdx? p with | some i => i | none => -1
theorem idxF_some {α : Type} {p : α → Bool} {l : List α} {i : Nat} (h : i < l.length) (ha : ∀ x ∈ l.take i, p x = false) (hp : p l[i] = true) : idxF p l = i := by
  have : l.findIdx? p = some i := by
    rw [List.findIdx?_eq_some_iff_getElem]
    refine ⟨h, hp, fun j hj => ?_⟩
    have := ha l[j] (by rw [List.mem_take_iff_getElem]; exact ⟨j, by omega, rfl⟩)
    simp [this]
  rw [idxF, this]
theorem idxF_none {α : Type} {p : α → Bool} {l : List α} (ha : ∀ x ∈ l, p x = false) : idxF p l = -1 := by
  have : l.findIdx? p = none := by rw [List.findIdx?_eq_none_iff]; exact ha
  rw [idxF, this]
theorem idxF_any {α : Type} {p : α → Bool} {l : List α} : l.any p = decide (0 ≤ idxF p l) := by
  cases h : l.findIdx? p with
  | none =>
    have h1 := List.findIdx?_eq_none_iff.1 h
    have : l.any p = false := by rw [List.any_eq_false]; intro x hx; rw [h1 x hx]; simp
    simp only [idxF, h, this]; rfl
  | some i =>
    obtain ⟨h1, h2, _⟩ := List.findIdx?_eq_some_iff_getElem.1 h
    have : l.any p = true := by rw [List.any_eq_true]; exact ⟨_, List.getElem_mem h1, h2⟩
    simp only [idxF, h, this]; simp
theorem idxF_cases {α : Type} (p : α → Bool) (l : List α) : (idxF p l = -1 ∧ ∀ x ∈ l, p x = false) ∨ ∃ i, ∃ h : i < l.length, idxF p l = (i : Int) ∧ p l[i] = true ∧ ∀ x ∈ l.take i, p x = false := by
  cases h : l.findIdx? p with
  | none => exact .inl ⟨by simp only [idxF, h], List.findIdx?_eq_none_iff.1 h⟩
  | some i =>
    obtain ⟨h1, h2, h3⟩ := List.findIdx?_eq_some_iff_getElem.1 h
    refine .inr ⟨i, h1, by simp only [idxF, h], h2, fun x hx => ?_⟩
    rw [List.mem_take_iff_getElem] at hx
    obtain ⟨j, hj, rfl⟩ := hx
    have := h3 j (by omega)
    simpa using this
/-- a selected release -/
structure Sel where
  path : List UInt8
  major : Int
  minor : Int
  patch : Int
def encV (s : Sel) : List D := [.str s.path, .int s.major, .int s.minor, .int s.patch]
def gs (l : List Sel) (a : Int) : Sel := l.getD a.toNat ⟨[], 0, 0, 0⟩
theorem gs_get {l : List Sel} {a : Int} (i : Nat) (ha : a = i) (h : i < l.length) : gs l a = l[i] := by subst ha; simp [gs, h]
theorem Std_s0 {l : List Sel} {a : Int} : Std.asStr (Std.cell (encL encV l) a 0) = (gs l a).path := by
  simp only [Std, std, encL, rowsD, gs]
  rcases Nat.lt_or_ge a.toNat l.length with h | h
  · simp [List.getD_eq_getElem?_getD, h, encV]
  · simp [List.getD_eq_getElem?_getD, h]
theorem Std_s1 {l : List Sel} {a : Int} : Std.asInt (Std.cell (encL encV l) a 1) = (gs l a).major := by
  simp only [Std, std, encL, rowsD, gs]
  rcases Nat.lt_or_ge a.toNat l.length with h | h
  · simp [List.getD_eq_getElem?_getD, h, encV]
  · simp [List.getD_eq_getElem?_getD, h]
theorem Std_s2 {l : List Sel} {a : Int} : Std.asInt (Std.cell (encL encV l) a 2) = (gs l a).minor := by
  simp only [Std, std, encL, rowsD, gs]
  rcases Nat.lt_or_ge a.toNat l.length with h | h
  · simp [List.getD_eq_getElem?_getD, h, encV]
  · simp [List.getD_eq_getElem?_getD, h]
theorem Std_s3 {l : List Sel} {a : Int} : Std.asInt (Std.cell (encL encV l) a 3) = (gs l a).patch := by
  simp only [Std, std, encL, rowsD, gs]
  rcases Nat.lt_or_ge a.toNat l.length with h | h
  · simp [List.getD_eq_getElem?_getD, h, encV]
  · simp [List.getD_eq_getElem?_getD, h]
end Go.VC
end

section
set_option linter.unusedSimpArgs false
set_option linter.unusedVariables false
namespace Go.VC.T35
open Go Go.VC Go.Proofs

set_option maxRecDepth 100000 in
theorem F81x60 {q : Int} {p : (Int × Int) → Bool} {l : List (Int × Int)} {d : D} {K : PV → List Ob → Prop} (hd : d = encL encX l) (hl : l.length < 4294967296)
    (hq : ∀ x ∈ l, ∀ (c0 c1 : Int), c0 = x.1 → c1 = x.2 → ∀ (K' : PV → List Ob → Prop), (∀ b, b = p x → K' (.bool b) []) → FC Tryz.prog tt 60 [] (.agg [.int .i64 c0, .int .i64 c1] :: [.pptr [.int .i64 q] 0]) K')
    (h : ∀ r, r = idxF p l → K (.int .i64 r) []) : FC Tryz.prog tt 81 [] [.lst 65 d, .clos 60 [.pptr [.int .i64 q] 0]] K := by
  refine FC.enter (G := g81) tt_ok mixed ⟨Tryz.func81, by rfl, rfl⟩ rfl rfl rfl ?_
  intro A C L X
  obtain ⟨n, hn⟩ : ∃ n, n = l.length := ⟨_, rfl⟩
  have hlen : Std.len d = Int.ofNat n := by rw [hd, Std_len, hn]; rfl
  cbv
  refine X.loop (fun (i : Nat) => ⟨[(8, .int .i64 i), (7, .int .i64 (A.len d)), (0, .lst 65 d), (1, .clos 60 [.pptr [.int .i64 q] 0])], []⟩) (fun i => i ≤ n ∧ ∀ x ∈ l.take i, p x = false) (fun i => n - i) 0 ⟨Nat.zero_le _, by simp⟩ ?_ ?_
  · (cbv; repeat' apply And.intro); all_goals (try (first | trivial | rfl | (rw [X.a]; rfl)))
  rintro i ⟨hi, ha⟩
  cbv
  refine ⟨fun h1 => ?_, fun h1 => ?_⟩
  · have h5 : i < l.length := by obtain rfl := X.a; simp only [hlen, Std_t0, Std_t1, Std_x0, Std_x1, Std_len, Std_lt, Std_le, Std_eq, Std_add, Std_sub, Std_mul, Std_not, Std_ite, Std_str, Std_bool, Std_int, Std_slen, Std_seq, Std_slt', Std_beq, Std_idx, Std_bnd, Std_same, Std_max', Std_min', Std_partI, Std_app, Std_len_app, Std_len_lit, Std_len_setc, List.length_take, List.length_drop, List.length_append, List.length_cons, List.length_nil, Int.toNat_natCast, Std_inr64, bNot, Int.ofNat_eq_natCast, Int.natCast_zero, decide_eq_true_eq, decide_eq_false_iff_not, Bool.not_eq_true, Bool.not_eq_false, Bool.not_eq_eq_eq_not, Bool.not_true, Bool.not_false, beq_iff_eq, beq_eq_false_iff_ne, ne_eq, Bool.true_eq_false, Bool.false_eq_true, cond_true, cond_false] at h1; omega
    have hx := List.getElem_mem h5
    have hidx : p l[i] = true → idxF p l = i := fun hp => idxF_some h5 ha hp
    have g5 : gx l (Int.ofNat i) = l[i] := gx_get i rfl h5
    have k0 : A.asInt (A.cell d (Int.ofNat i) 0) = l[i].1 := by rw [X.a, hd, Std_x0, g5]
    have k1 : A.asInt (A.cell d (Int.ofNat i) 1) = l[i].2 := by rw [X.a, hd, Std_x1, g5]
    cbv
    refine ⟨?_, ?_⟩
    · obtain rfl := X.a; simp only [hlen, Std_t0, Std_t1, Std_x0, Std_x1, Std_len, Std_lt, Std_le, Std_eq, Std_add, Std_sub, Std_mul, Std_not, Std_ite, Std_str, Std_bool, Std_int, Std_slen, Std_seq, Std_slt', Std_beq, Std_idx, Std_bnd, Std_same, Std_max', Std_min', Std_partI, Std_app, Std_len_app, Std_len_lit, Std_len_setc, List.length_take, List.length_drop, List.length_append, List.length_cons, List.length_nil, Int.toNat_natCast, Std_inr64, bNot, Int.ofNat_eq_natCast, Int.natCast_zero, decide_eq_true_eq, decide_eq_false_iff_not, Bool.not_eq_true, Bool.not_eq_false, Bool.not_eq_eq_eq_not, Bool.not_true, Bool.not_false, beq_iff_eq, beq_eq_false_iff_ne, ne_eq, Bool.true_eq_false, Bool.false_eq_true, cond_true, cond_false] at *; omega
    refine X.call (hq _ hx _ _ k0 k1 _ fun b hb => ?_)
    have hb' : b = p l[i] := hb
    obtain ⟨c, hc⟩ : ∃ c, c = p l[i] := ⟨_, rfl⟩
    rw [← hc] at hb' hidx
    have hnext : c = false → ∀ x ∈ l.take (i+1), p x = false := by
      intro hcf x hx'
      rw [take_succ' h5] at hx'
      rcases List.mem_append.1 hx' with hx' | hx'
      · exact ha x hx'
      · simp only [List.mem_singleton] at hx'; rw [hx', ← hc]; exact hcf
    clear hb
    cbv
    repeat' (first | apply And.intro | exact fun (_ : False → False) => by kernel_rfl | (intro h2; cbv) | apply Or.inl)
    · refine h _ ?_
      rw [hidx (by rw [← hb']; assumption)]; rfl
    · obtain rfl := X.a; simp only [hlen, Std_t0, Std_t1, Std_x0, Std_x1, Std_len, Std_lt, Std_le, Std_eq, Std_add, Std_sub, Std_mul, Std_not, Std_ite, Std_str, Std_bool, Std_int, Std_slen, Std_seq, Std_slt', Std_beq, Std_idx, Std_bnd, Std_same, Std_max', Std_min', Std_partI, Std_app, Std_len_app, Std_len_lit, Std_len_setc, List.length_take, List.length_drop, List.length_append, List.length_cons, List.length_nil, Int.toNat_natCast, Std_inr64, bNot, Int.ofNat_eq_natCast, Int.natCast_zero, decide_eq_true_eq, decide_eq_false_iff_not, Bool.not_eq_true, Bool.not_eq_false, Bool.not_eq_eq_eq_not, Bool.not_true, Bool.not_false, beq_iff_eq, beq_eq_false_iff_ne, ne_eq, Bool.true_eq_false, Bool.false_eq_true, cond_true, cond_false] at *; omega
    · refine ⟨i+1, ⟨by omega, hnext (by rw [← hb']; assumption)⟩, by omega, ?_⟩
      (cbv; repeat' apply And.intro); all_goals (try (first | trivial | rfl | (rw [X.a]; rfl)))
  · have h5 : i = n := by obtain rfl := X.a; simp only [hlen, Std_t0, Std_t1, Std_x0, Std_x1, Std_len, Std_lt, Std_le, Std_eq, Std_add, Std_sub, Std_mul, Std_not, Std_ite, Std_str, Std_bool, Std_int, Std_slen, Std_seq, Std_slt', Std_beq, Std_idx, Std_bnd, Std_same, Std_max', Std_min', Std_partI, Std_app, Std_len_app, Std_len_lit, Std_len_setc, List.length_take, List.length_drop, List.length_append, List.length_cons, List.length_nil, Int.toNat_natCast, Std_inr64, bNot, Int.ofNat_eq_natCast, Int.natCast_zero, decide_eq_true_eq, decide_eq_false_iff_not, Bool.not_eq_true, Bool.not_eq_false, Bool.not_eq_eq_eq_not, Bool.not_true, Bool.not_false, beq_iff_eq, beq_eq_false_iff_ne, ne_eq, Bool.true_eq_false, Bool.false_eq_true, cond_true, cond_false] at h1; omega
    rw [h5, hn, List.take_length] at ha
    refine h _ ?_
    rw [idxF_none ha]

set_option maxRecDepth 100000 in
theorem F59x60 {q : Int} {p : (Int × Int) → Bool} {l : List (Int × Int)} {d : D} {K : PV → List Ob → Prop} (hd : d = encL encX l) (hl : l.length < 4294967296)
    (hq : ∀ x ∈ l, ∀ (c0 c1 : Int), c0 = x.1 → c1 = x.2 → ∀ (K' : PV → List Ob → Prop), (∀ b, b = p x → K' (.bool b) []) → FC Tryz.prog tt 60 [] (.agg [.int .i64 c0, .int .i64 c1] :: [.pptr [.int .i64 q] 0]) K')
    (h : ∀ r, r = l.any p → K (.bool r) []) : FC Tryz.prog tt 59 [] [.lst 65 d, .clos 60 [.pptr [.int .i64 q] 0]] K := by
  refine FC.enter (G := g59) tt_ok mixed ⟨Tryz.func59, by rfl, rfl⟩ rfl rfl rfl ?_
  intro A C L X
  cbv
  refine X.call (F81x60 hd hl hq fun r hr => ?_)
  cbv
  refine h _ ?_
  rw [hr, X.a]
  show Std.le 0 (idxF p l) = _
  rw [Std_le, ← idxF_any]

set_option maxRecDepth 100000 in
theorem F52x73 {q : List UInt8} {p : Term → Bool} {l : List Term} {d : D} {K : PV → List Ob → Prop} (hd : d = encL encT l) (hl : l.length < 4294967296)
    (hq : ∀ x ∈ l, ∀ (c0 : List UInt8) (c1 : Bool) (c2 : D), c0 = x.path → c1 = x.absent → c2 = encL encX x.set → ∀ (K' : PV → List Ob → Prop), (∀ b, b = p x → K' (.bool b) []) → FC Tryz.prog tt 73 [] (.agg [.str c0, .bool c1, .lst 65 c2] :: [.pptr [.str q] 0]) K')
    (h : ∀ r, r = idxF p l → K (.int .i64 r) []) : FC Tryz.prog tt 52 [] [.lst 51 d, .clos 73 [.pptr [.str q] 0]] K := by
  refine FC.enter (G := g52) tt_ok mixed ⟨Tryz.func52, by rfl, rfl⟩ rfl rfl rfl ?_
  intro A C L X
  obtain ⟨n, hn⟩ : ∃ n, n = l.length := ⟨_, rfl⟩
  have hlen : Std.len d = Int.ofNat n := by rw [hd, Std_len, hn]; rfl
  cbv
  refine X.loop (fun (i : Nat) => ⟨[(8, .int .i64 i), (7, .int .i64 (A.len d)), (0, .lst 51 d), (1, .clos 73 [.pptr [.str q] 0])], []⟩) (fun i => i ≤ n ∧ ∀ x ∈ l.take i, p x = false) (fun i => n - i) 0 ⟨Nat.zero_le _, by simp⟩ ?_ ?_
  · (cbv; repeat' apply And.intro); all_goals (try (first | trivial | rfl | (rw [X.a]; rfl)))
  rintro i ⟨hi, ha⟩
  cbv
  refine ⟨fun h1 => ?_, fun h1 => ?_⟩
  · have h5 : i < l.length := by obtain rfl := X.a; simp only [hlen, Std_t0, Std_t1, Std_x0, Std_x1, Std_len, Std_lt, Std_le, Std_eq, Std_add, Std_sub, Std_mul, Std_not, Std_ite, Std_str, Std_bool, Std_int, Std_slen, Std_seq, Std_slt', Std_beq, Std_idx, Std_bnd, Std_same, Std_max', Std_min', Std_partI, Std_app, Std_len_app, Std_len_lit, Std_len_setc, List.length_take, List.length_drop, List.length_append, List.length_cons, List.length_nil, Int.toNat_natCast, Std_inr64, bNot, Int.ofNat_eq_natCast, Int.natCast_zero, decide_eq_true_eq, decide_eq_false_iff_not, Bool.not_eq_true, Bool.not_eq_false, Bool.not_eq_eq_eq_not, Bool.not_true, Bool.not_false, beq_iff_eq, beq_eq_false_iff_ne, ne_eq, Bool.true_eq_false, Bool.false_eq_true, cond_true, cond_false] at h1; omega
    have hx := List.getElem_mem h5
    have hidx : p l[i] = true → idxF p l = i := fun hp => idxF_some h5 ha hp
    have g5 : gt l (Int.ofNat i) = l[i] := gt_get i rfl h5
    have k0 : A.asStr (A.cell d (Int.ofNat i) 0) = l[i].path := by rw [X.a, hd, Std_t0, g5]
    have k1 : A.asBool (A.cell d (Int.ofNat i) 1) = l[i].absent := by rw [X.a, hd, Std_t1, g5]
    have k2 : A.cell d (Int.ofNat i) 2 = encL encX l[i].set := by rw [X.a, hd]; exact encT_cell2 i rfl h5
    cbv
    refine ⟨?_, ?_⟩
    · obtain rfl := X.a; simp only [hlen, Std_t0, Std_t1, Std_x0, Std_x1, Std_len, Std_lt, Std_le, Std_eq, Std_add, Std_sub, Std_mul, Std_not, Std_ite, Std_str, Std_bool, Std_int, Std_slen, Std_seq, Std_slt', Std_beq, Std_idx, Std_bnd, Std_same, Std_max', Std_min', Std_partI, Std_app, Std_len_app, Std_len_lit, Std_len_setc, List.length_take, List.length_drop, List.length_append, List.length_cons, List.length_nil, Int.toNat_natCast, Std_inr64, bNot, Int.ofNat_eq_natCast, Int.natCast_zero, decide_eq_true_eq, decide_eq_false_iff_not, Bool.not_eq_true, Bool.not_eq_false, Bool.not_eq_eq_eq_not, Bool.not_true, Bool.not_false, beq_iff_eq, beq_eq_false_iff_ne, ne_eq, Bool.true_eq_false, Bool.false_eq_true, cond_true, cond_false] at *; omega
    refine X.call (hq _ hx _ _ _ k0 k1 k2 _ fun b hb => ?_)
    have hb' : b = p l[i] := hb
    obtain ⟨c, hc⟩ : ∃ c, c = p l[i] := ⟨_, rfl⟩
    rw [← hc] at hb' hidx
    have hnext : c = false → ∀ x ∈ l.take (i+1), p x = false := by
      intro hcf x hx'
      rw [take_succ' h5] at hx'
      rcases List.mem_append.1 hx' with hx' | hx'
      · exact ha x hx'
      · simp only [List.mem_singleton] at hx'; rw [hx', ← hc]; exact hcf
    clear hb
    cbv
    repeat' (first | apply And.intro | exact fun (_ : False → False) => by kernel_rfl | (intro h2; cbv) | apply Or.inl)
    · refine h _ ?_
      rw [hidx (by rw [← hb']; assumption)]; rfl
    · obtain rfl := X.a; simp only [hlen, Std_t0, Std_t1, Std_x0, Std_x1, Std_len, Std_lt, Std_le, Std_eq, Std_add, Std_sub, Std_mul, Std_not, Std_ite, Std_str, Std_bool, Std_int, Std_slen, Std_seq, Std_slt', Std_beq, Std_idx, Std_bnd, Std_same, Std_max', Std_min', Std_partI, Std_app, Std_len_app, Std_len_lit, Std_len_setc, List.length_take, List.length_drop, List.length_append, List.length_cons, List.length_nil, Int.toNat_natCast, Std_inr64, bNot, Int.ofNat_eq_natCast, Int.natCast_zero, decide_eq_true_eq, decide_eq_false_iff_not, Bool.not_eq_true, Bool.not_eq_false, Bool.not_eq_eq_eq_not, Bool.not_true, Bool.not_false, beq_iff_eq, beq_eq_false_iff_ne, ne_eq, Bool.true_eq_false, Bool.false_eq_true, cond_true, cond_false] at *; omega
    · refine ⟨i+1, ⟨by omega, hnext (by rw [← hb']; assumption)⟩, by omega, ?_⟩
      (cbv; repeat' apply And.intro); all_goals (try (first | trivial | rfl | (rw [X.a]; rfl)))
  · have h5 : i = n := by obtain rfl := X.a; simp only [hlen, Std_t0, Std_t1, Std_x0, Std_x1, Std_len, Std_lt, Std_le, Std_eq, Std_add, Std_sub, Std_mul, Std_not, Std_ite, Std_str, Std_bool, Std_int, Std_slen, Std_seq, Std_slt', Std_beq, Std_idx, Std_bnd, Std_same, Std_max', Std_min', Std_partI, Std_app, Std_len_app, Std_len_lit, Std_len_setc, List.length_take, List.length_drop, List.length_append, List.length_cons, List.length_nil, Int.toNat_natCast, Std_inr64, bNot, Int.ofNat_eq_natCast, Int.natCast_zero, decide_eq_true_eq, decide_eq_false_iff_not, Bool.not_eq_true, Bool.not_eq_false, Bool.not_eq_eq_eq_not, Bool.not_true, Bool.not_false, beq_iff_eq, beq_eq_false_iff_ne, ne_eq, Bool.true_eq_false, Bool.false_eq_true, cond_true, cond_false] at h1; omega
    rw [h5, hn, List.take_length] at ha
    refine h _ ?_
    rw [idxF_none ha]

set_option maxRecDepth 100000 in
theorem F52x53 {q : List UInt8} {qb : Bool} {qd : D} {p : Term → Bool} {l : List Term} {d : D} {K : PV → List Ob → Prop} (hd : d = encL encT l) (hl : l.length < 4294967296)
    (hq : ∀ x ∈ l, ∀ (c0 : List UInt8) (c1 : Bool) (c2 : D), c0 = x.path → c1 = x.absent → c2 = encL encX x.set → ∀ (K' : PV → List Ob → Prop), (∀ b, b = p x → K' (.bool b) []) → FC Tryz.prog tt 53 [] (.agg [.str c0, .bool c1, .lst 65 c2] :: [.pptr [.str q, .bool qb, .lst 65 qd] 0]) K')
    (h : ∀ r, r = idxF p l → K (.int .i64 r) []) : FC Tryz.prog tt 52 [] [.lst 51 d, .clos 53 [.pptr [.str q, .bool qb, .lst 65 qd] 0]] K := by
  refine FC.enter (G := g52) tt_ok mixed ⟨Tryz.func52, by rfl, rfl⟩ rfl rfl rfl ?_
  intro A C L X
  obtain ⟨n, hn⟩ : ∃ n, n = l.length := ⟨_, rfl⟩
  have hlen : Std.len d = Int.ofNat n := by rw [hd, Std_len, hn]; rfl
  cbv
  refine X.loop (fun (i : Nat) => ⟨[(8, .int .i64 i), (7, .int .i64 (A.len d)), (0, .lst 51 d), (1, .clos 53 [.pptr [.str q, .bool qb, .lst 65 qd] 0])], []⟩) (fun i => i ≤ n ∧ ∀ x ∈ l.take i, p x = false) (fun i => n - i) 0 ⟨Nat.zero_le _, by simp⟩ ?_ ?_
  · (cbv; repeat' apply And.intro); all_goals (try (first | trivial | rfl | (rw [X.a]; rfl)))
  rintro i ⟨hi, ha⟩
  cbv
  refine ⟨fun h1 => ?_, fun h1 => ?_⟩
  · have h5 : i < l.length := by obtain rfl := X.a; simp only [hlen, Std_t0, Std_t1, Std_x0, Std_x1, Std_len, Std_lt, Std_le, Std_eq, Std_add, Std_sub, Std_mul, Std_not, Std_ite, Std_str, Std_bool, Std_int, Std_slen, Std_seq, Std_slt', Std_beq, Std_idx, Std_bnd, Std_same, Std_max', Std_min', Std_partI, Std_app, Std_len_app, Std_len_lit, Std_len_setc, List.length_take, List.length_drop, List.length_append, List.length_cons, List.length_nil, Int.toNat_natCast, Std_inr64, bNot, Int.ofNat_eq_natCast, Int.natCast_zero, decide_eq_true_eq, decide_eq_false_iff_not, Bool.not_eq_true, Bool.not_eq_false, Bool.not_eq_eq_eq_not, Bool.not_true, Bool.not_false, beq_iff_eq, beq_eq_false_iff_ne, ne_eq, Bool.true_eq_false, Bool.false_eq_true, cond_true, cond_false] at h1; omega
    have hx := List.getElem_mem h5
    have hidx : p l[i] = true → idxF p l = i := fun hp => idxF_some h5 ha hp
    have g5 : gt l (Int.ofNat i) = l[i] := gt_get i rfl h5
    have k0 : A.asStr (A.cell d (Int.ofNat i) 0) = l[i].path := by rw [X.a, hd, Std_t0, g5]
    have k1 : A.asBool (A.cell d (Int.ofNat i) 1) = l[i].absent := by rw [X.a, hd, Std_t1, g5]
    have k2 : A.cell d (Int.ofNat i) 2 = encL encX l[i].set := by rw [X.a, hd]; exact encT_cell2 i rfl h5
    cbv
    refine ⟨?_, ?_⟩
    · obtain rfl := X.a; simp only [hlen, Std_t0, Std_t1, Std_x0, Std_x1, Std_len, Std_lt, Std_le, Std_eq, Std_add, Std_sub, Std_mul, Std_not, Std_ite, Std_str, Std_bool, Std_int, Std_slen, Std_seq, Std_slt', Std_beq, Std_idx, Std_bnd, Std_same, Std_max', Std_min', Std_partI, Std_app, Std_len_app, Std_len_lit, Std_len_setc, List.length_take, List.length_drop, List.length_append, List.length_cons, List.length_nil, Int.toNat_natCast, Std_inr64, bNot, Int.ofNat_eq_natCast, Int.natCast_zero, decide_eq_true_eq, decide_eq_false_iff_not, Bool.not_eq_true, Bool.not_eq_false, Bool.not_eq_eq_eq_not, Bool.not_true, Bool.not_false, beq_iff_eq, beq_eq_false_iff_ne, ne_eq, Bool.true_eq_false, Bool.false_eq_true, cond_true, cond_false] at *; omega
    refine X.call (hq _ hx _ _ _ k0 k1 k2 _ fun b hb => ?_)
    have hb' : b = p l[i] := hb
    obtain ⟨c, hc⟩ : ∃ c, c = p l[i] := ⟨_, rfl⟩
    rw [← hc] at hb' hidx
    have hnext : c = false → ∀ x ∈ l.take (i+1), p x = false := by
      intro hcf x hx'
      rw [take_succ' h5] at hx'
      rcases List.mem_append.1 hx' with hx' | hx'
      · exact ha x hx'
      · simp only [List.mem_singleton] at hx'; rw [hx', ← hc]; exact hcf
    clear hb
    cbv
    repeat' (first | apply And.intro | exact fun (_ : False → False) => by kernel_rfl | (intro h2; cbv) | apply Or.inl)
    · refine h _ ?_
      rw [hidx (by rw [← hb']; assumption)]; rfl
    · obtain rfl := X.a; simp only [hlen, Std_t0, Std_t1, Std_x0, Std_x1, Std_len, Std_lt, Std_le, Std_eq, Std_add, Std_sub, Std_mul, Std_not, Std_ite, Std_str, Std_bool, Std_int, Std_slen, Std_seq, Std_slt', Std_beq, Std_idx, Std_bnd, Std_same, Std_max', Std_min', Std_partI, Std_app, Std_len_app, Std_len_lit, Std_len_setc, List.length_take, List.length_drop, List.length_append, List.length_cons, List.length_nil, Int.toNat_natCast, Std_inr64, bNot, Int.ofNat_eq_natCast, Int.natCast_zero, decide_eq_true_eq, decide_eq_false_iff_not, Bool.not_eq_true, Bool.not_eq_false, Bool.not_eq_eq_eq_not, Bool.not_true, Bool.not_false, beq_iff_eq, beq_eq_false_iff_ne, ne_eq, Bool.true_eq_false, Bool.false_eq_true, cond_true, cond_false] at *; omega
    · refine ⟨i+1, ⟨by omega, hnext (by rw [← hb']; assumption)⟩, by omega, ?_⟩
      (cbv; repeat' apply And.intro); all_goals (try (first | trivial | rfl | (rw [X.a]; rfl)))
  · have h5 : i = n := by obtain rfl := X.a; simp only [hlen, Std_t0, Std_t1, Std_x0, Std_x1, Std_len, Std_lt, Std_le, Std_eq, Std_add, Std_sub, Std_mul, Std_not, Std_ite, Std_str, Std_bool, Std_int, Std_slen, Std_seq, Std_slt', Std_beq, Std_idx, Std_bnd, Std_same, Std_max', Std_min', Std_partI, Std_app, Std_len_app, Std_len_lit, Std_len_setc, List.length_take, List.length_drop, List.length_append, List.length_cons, List.length_nil, Int.toNat_natCast, Std_inr64, bNot, Int.ofNat_eq_natCast, Int.natCast_zero, decide_eq_true_eq, decide_eq_false_iff_not, Bool.not_eq_true, Bool.not_eq_false, Bool.not_eq_eq_eq_not, Bool.not_true, Bool.not_false, beq_iff_eq, beq_eq_false_iff_ne, ne_eq, Bool.true_eq_false, Bool.false_eq_true, cond_true, cond_false] at h1; omega
    rw [h5, hn, List.take_length] at ha
    refine h _ ?_
    rw [idxF_none ha]

set_option maxRecDepth 100000 in
theorem F52x35 {q : List UInt8} {p : Term → Bool} {l : List Term} {d : D} {K : PV → List Ob → Prop} (hd : d = encL encT l) (hl : l.length < 4294967296)
    (hq : ∀ x ∈ l, ∀ (c0 : List UInt8) (c1 : Bool) (c2 : D), c0 = x.path → c1 = x.absent → c2 = encL encX x.set → ∀ (K' : PV → List Ob → Prop), (∀ b, b = p x → K' (.bool b) []) → FC Tryz.prog tt 35 [] (.agg [.str c0, .bool c1, .lst 65 c2] :: [.pptr [.str q] 0]) K')
    (h : ∀ r, r = idxF p l → K (.int .i64 r) []) : FC Tryz.prog tt 52 [] [.lst 51 d, .clos 35 [.pptr [.str q] 0]] K := by
  refine FC.enter (G := g52) tt_ok mixed ⟨Tryz.func52, by rfl, rfl⟩ rfl rfl rfl ?_
  intro A C L X
  obtain ⟨n, hn⟩ : ∃ n, n = l.length := ⟨_, rfl⟩
  have hlen : Std.len d = Int.ofNat n := by rw [hd, Std_len, hn]; rfl
  cbv
  refine X.loop (fun (i : Nat) => ⟨[(8, .int .i64 i), (7, .int .i64 (A.len d)), (0, .lst 51 d), (1, .clos 35 [.pptr [.str q] 0])], []⟩) (fun i => i ≤ n ∧ ∀ x ∈ l.take i, p x = false) (fun i => n - i) 0 ⟨Nat.zero_le _, by simp⟩ ?_ ?_
  · (cbv; repeat' apply And.intro); all_goals (try (first | trivial | rfl | (rw [X.a]; rfl)))
  rintro i ⟨hi, ha⟩
  cbv
  refine ⟨fun h1 => ?_, fun h1 => ?_⟩
  · have h5 : i < l.length := by obtain rfl := X.a; simp only [hlen, Std_t0, Std_t1, Std_x0, Std_x1, Std_len, Std_lt, Std_le, Std_eq, Std_add, Std_sub, Std_mul, Std_not, Std_ite, Std_str, Std_bool, Std_int, Std_slen, Std_seq, Std_slt', Std_beq, Std_idx, Std_bnd, Std_same, Std_max', Std_min', Std_partI, Std_app, Std_len_app, Std_len_lit, Std_len_setc, List.length_take, List.length_drop, List.length_append, List.length_cons, List.length_nil, Int.toNat_natCast, Std_inr64, bNot, Int.ofNat_eq_natCast, Int.natCast_zero, decide_eq_true_eq, decide_eq_false_iff_not, Bool.not_eq_true, Bool.not_eq_false, Bool.not_eq_eq_eq_not, Bool.not_true, Bool.not_false, beq_iff_eq, beq_eq_false_iff_ne, ne_eq, Bool.true_eq_false, Bool.false_eq_true, cond_true, cond_false] at h1; omega
    have hx := List.getElem_mem h5
    have hidx : p l[i] = true → idxF p l = i := fun hp => idxF_some h5 ha hp
    have g5 : gt l (Int.ofNat i) = l[i] := gt_get i rfl h5
    have k0 : A.asStr (A.cell d (Int.ofNat i) 0) = l[i].path := by rw [X.a, hd, Std_t0, g5]
    have k1 : A.asBool (A.cell d (Int.ofNat i) 1) = l[i].absent := by rw [X.a, hd, Std_t1, g5]
    have k2 : A.cell d (Int.ofNat i) 2 = encL encX l[i].set := by rw [X.a, hd]; exact encT_cell2 i rfl h5
    cbv
    refine ⟨?_, ?_⟩
    · obtain rfl := X.a; simp only [hlen, Std_t0, Std_t1, Std_x0, Std_x1, Std_len, Std_lt, Std_le, Std_eq, Std_add, Std_sub, Std_mul, Std_not, Std_ite, Std_str, Std_bool, Std_int, Std_slen, Std_seq, Std_slt', Std_beq, Std_idx, Std_bnd, Std_same, Std_max', Std_min', Std_partI, Std_app, Std_len_app, Std_len_lit, Std_len_setc, List.length_take, List.length_drop, List.length_append, List.length_cons, List.length_nil, Int.toNat_natCast, Std_inr64, bNot, Int.ofNat_eq_natCast, Int.natCast_zero, decide_eq_true_eq, decide_eq_false_iff_not, Bool.not_eq_true, Bool.not_eq_false, Bool.not_eq_eq_eq_not, Bool.not_true, Bool.not_false, beq_iff_eq, beq_eq_false_iff_ne, ne_eq, Bool.true_eq_false, Bool.false_eq_true, cond_true, cond_false] at *; omega
    refine X.call (hq _ hx _ _ _ k0 k1 k2 _ fun b hb => ?_)
    have hb' : b = p l[i] := hb
    obtain ⟨c, hc⟩ : ∃ c, c = p l[i] := ⟨_, rfl⟩
    rw [← hc] at hb' hidx
    have hnext : c = false → ∀ x ∈ l.take (i+1), p x = false := by
      intro hcf x hx'
      rw [take_succ' h5] at hx'
      rcases List.mem_append.1 hx' with hx' | hx'
      · exact ha x hx'
      · simp only [List.mem_singleton] at hx'; rw [hx', ← hc]; exact hcf
    clear hb
    cbv
    repeat' (first | apply And.intro | exact fun (_ : False → False) => by kernel_rfl | (intro h2; cbv) | apply Or.inl)
    · refine h _ ?_
      rw [hidx (by rw [← hb']; assumption)]; rfl
    · obtain rfl := X.a; simp only [hlen, Std_t0, Std_t1, Std_x0, Std_x1, Std_len, Std_lt, Std_le, Std_eq, Std_add, Std_sub, Std_mul, Std_not, Std_ite, Std_str, Std_bool, Std_int, Std_slen, Std_seq, Std_slt', Std_beq, Std_idx, Std_bnd, Std_same, Std_max', Std_min', Std_partI, Std_app, Std_len_app, Std_len_lit, Std_len_setc, List.length_take, List.length_drop, List.length_append, List.length_cons, List.length_nil, Int.toNat_natCast, Std_inr64, bNot, Int.ofNat_eq_natCast, Int.natCast_zero, decide_eq_true_eq, decide_eq_false_iff_not, Bool.not_eq_true, Bool.not_eq_false, Bool.not_eq_eq_eq_not, Bool.not_true, Bool.not_false, beq_iff_eq, beq_eq_false_iff_ne, ne_eq, Bool.true_eq_false, Bool.false_eq_true, cond_true, cond_false] at *; omega
    · refine ⟨i+1, ⟨by omega, hnext (by rw [← hb']; assumption)⟩, by omega, ?_⟩
      (cbv; repeat' apply And.intro); all_goals (try (first | trivial | rfl | (rw [X.a]; rfl)))
  · have h5 : i = n := by obtain rfl := X.a; simp only [hlen, Std_t0, Std_t1, Std_x0, Std_x1, Std_len, Std_lt, Std_le, Std_eq, Std_add, Std_sub, Std_mul, Std_not, Std_ite, Std_str, Std_bool, Std_int, Std_slen, Std_seq, Std_slt', Std_beq, Std_idx, Std_bnd, Std_same, Std_max', Std_min', Std_partI, Std_app, Std_len_app, Std_len_lit, Std_len_setc, List.length_take, List.length_drop, List.length_append, List.length_cons, List.length_nil, Int.toNat_natCast, Std_inr64, bNot, Int.ofNat_eq_natCast, Int.natCast_zero, decide_eq_true_eq, decide_eq_false_iff_not, Bool.not_eq_true, Bool.not_eq_false, Bool.not_eq_eq_eq_not, Bool.not_true, Bool.not_false, beq_iff_eq, beq_eq_false_iff_ne, ne_eq, Bool.true_eq_false, Bool.false_eq_true, cond_true, cond_false] at h1; omega
    rw [h5, hn, List.take_length] at ha
    refine h _ ?_
    rw [idxF_none ha]

set_option maxRecDepth 100000 in
theorem F27x35 {q : List UInt8} {p : Term → Bool} {l : List Term} {d : D} {K : PV → List Ob → Prop} (hd : d = encL encT l) (hl : l.length < 4294967296)
    (hq : ∀ x ∈ l, ∀ (c0 : List UInt8) (c1 : Bool) (c2 : D), c0 = x.path → c1 = x.absent → c2 = encL encX x.set → ∀ (K' : PV → List Ob → Prop), (∀ b, b = p x → K' (.bool b) []) → FC Tryz.prog tt 35 [] (.agg [.str c0, .bool c1, .lst 65 c2] :: [.pptr [.str q] 0]) K')
    (h : ∀ r, r = l.any p → K (.bool r) []) : FC Tryz.prog tt 27 [] [.lst 51 d, .clos 35 [.pptr [.str q] 0]] K := by
  refine FC.enter (G := g27) tt_ok mixed ⟨Tryz.func27, by rfl, rfl⟩ rfl rfl rfl ?_
  intro A C L X
  cbv
  refine X.call (F52x35 hd hl hq fun r hr => ?_)
  cbv
  refine h _ ?_
  rw [hr, X.a]
  show Std.le 0 (idxF p l) = _
  rw [Std_le, ← idxF_any]

set_option maxRecDepth 100000 in
theorem F56x58 {q : List UInt8} {qb : Bool} {qd : D} {p : Sel → Bool} {l : List Sel} {d : D} {K : PV → List Ob → Prop} (hd : d = encL encV l) (hl : l.length < 4294967296)
    (hq : ∀ x ∈ l, ∀ (c0 : List UInt8) (c1 c2 c3 : Int), c0 = x.path → c1 = x.major → c2 = x.minor → c3 = x.patch → ∀ (K' : PV → List Ob → Prop), (∀ b, b = p x → K' (.bool b) []) → FC Tryz.prog tt 58 [] (.agg [.str c0, .int .i64 c1, .int .i64 c2, .int .i64 c3] :: [.pptr [.str q, .bool qb, .lst 65 qd] 0]) K')
    (h : ∀ r, r = idxF p l → K (.int .i64 r) []) : FC Tryz.prog tt 56 [] [.lst 45 d, .clos 58 [.pptr [.str q, .bool qb, .lst 65 qd] 0]] K := by
  refine FC.enter (G := g56) tt_ok mixed ⟨Tryz.func56, by rfl, rfl⟩ rfl rfl rfl ?_
  intro A C L X
  obtain ⟨n, hn⟩ : ∃ n, n = l.length := ⟨_, rfl⟩
  have hlen : Std.len d = Int.ofNat n := by rw [hd, Std_len, hn]; rfl
  cbv
  refine X.loop (fun (i : Nat) => ⟨[(8, .int .i64 i), (7, .int .i64 (A.len d)), (0, .lst 45 d), (1, .clos 58 [.pptr [.str q, .bool qb, .lst 65 qd] 0])], []⟩) (fun i => i ≤ n ∧ ∀ x ∈ l.take i, p x = false) (fun i => n - i) 0 ⟨Nat.zero_le _, by simp⟩ ?_ ?_
  · (cbv; repeat' apply And.intro); all_goals (try (first | trivial | rfl | (rw [X.a]; rfl)))
  rintro i ⟨hi, ha⟩
  cbv
  refine ⟨fun h1 => ?_, fun h1 => ?_⟩
  · have h5 : i < l.length := by obtain rfl := X.a; simp only [hlen, Std_t0, Std_t1, Std_x0, Std_x1, Std_len, Std_lt, Std_le, Std_eq, Std_add, Std_sub, Std_mul, Std_not, Std_ite, Std_str, Std_bool, Std_int, Std_slen, Std_seq, Std_slt', Std_beq, Std_idx, Std_bnd, Std_same, Std_max', Std_min', Std_partI, Std_app, Std_len_app, Std_len_lit, Std_len_setc, List.length_take, List.length_drop, List.length_append, List.length_cons, List.length_nil, Int.toNat_natCast, Std_inr64, bNot, Int.ofNat_eq_natCast, Int.natCast_zero, decide_eq_true_eq, decide_eq_false_iff_not, Bool.not_eq_true, Bool.not_eq_false, Bool.not_eq_eq_eq_not, Bool.not_true, Bool.not_false, beq_iff_eq, beq_eq_false_iff_ne, ne_eq, Bool.true_eq_false, Bool.false_eq_true, cond_true, cond_false] at h1; omega
    have hx := List.getElem_mem h5
    have hidx : p l[i] = true → idxF p l = i := fun hp => idxF_some h5 ha hp
    have g5 : gs l (Int.ofNat i) = l[i] := gs_get i rfl h5
    have k0 : A.asStr (A.cell d (Int.ofNat i) 0) = l[i].path := by rw [X.a, hd, Std_s0, g5]
    have k1 : A.asInt (A.cell d (Int.ofNat i) 1) = l[i].major := by rw [X.a, hd, Std_s1, g5]
    have k2 : A.asInt (A.cell d (Int.ofNat i) 2) = l[i].minor := by rw [X.a, hd, Std_s2, g5]
    have k3 : A.asInt (A.cell d (Int.ofNat i) 3) = l[i].patch := by rw [X.a, hd, Std_s3, g5]
    cbv
    refine ⟨?_, ?_⟩
    · obtain rfl := X.a; simp only [hlen, Std_t0, Std_t1, Std_x0, Std_x1, Std_len, Std_lt, Std_le, Std_eq, Std_add, Std_sub, Std_mul, Std_not, Std_ite, Std_str, Std_bool, Std_int, Std_slen, Std_seq, Std_slt', Std_beq, Std_idx, Std_bnd, Std_same, Std_max', Std_min', Std_partI, Std_app, Std_len_app, Std_len_lit, Std_len_setc, List.length_take, List.length_drop, List.length_append, List.length_cons, List.length_nil, Int.toNat_natCast, Std_inr64, bNot, Int.ofNat_eq_natCast, Int.natCast_zero, decide_eq_true_eq, decide_eq_false_iff_not, Bool.not_eq_true, Bool.not_eq_false, Bool.not_eq_eq_eq_not, Bool.not_true, Bool.not_false, beq_iff_eq, beq_eq_false_iff_ne, ne_eq, Bool.true_eq_false, Bool.false_eq_true, cond_true, cond_false] at *; omega
    refine X.call (hq _ hx _ _ _ _ k0 k1 k2 k3 _ fun b hb => ?_)
    have hb' : b = p l[i] := hb
    obtain ⟨c, hc⟩ : ∃ c, c = p l[i] := ⟨_, rfl⟩
    rw [← hc] at hb' hidx
    have hnext : c = false → ∀ x ∈ l.take (i+1), p x = false := by
      intro hcf x hx'
      rw [take_succ' h5] at hx'
      rcases List.mem_append.1 hx' with hx' | hx'
      · exact ha x hx'
      · simp only [List.mem_singleton] at hx'; rw [hx', ← hc]; exact hcf
    clear hb
    cbv
    repeat' (first | apply And.intro | exact fun (_ : False → False) => by kernel_rfl | (intro h2; cbv) | apply Or.inl)
    · refine h _ ?_
      rw [hidx (by rw [← hb']; assumption)]; rfl
    · obtain rfl := X.a; simp only [hlen, Std_t0, Std_t1, Std_x0, Std_x1, Std_len, Std_lt, Std_le, Std_eq, Std_add, Std_sub, Std_mul, Std_not, Std_ite, Std_str, Std_bool, Std_int, Std_slen, Std_seq, Std_slt', Std_beq, Std_idx, Std_bnd, Std_same, Std_max', Std_min', Std_partI, Std_app, Std_len_app, Std_len_lit, Std_len_setc, List.length_take, List.length_drop, List.length_append, List.length_cons, List.length_nil, Int.toNat_natCast, Std_inr64, bNot, Int.ofNat_eq_natCast, Int.natCast_zero, decide_eq_true_eq, decide_eq_false_iff_not, Bool.not_eq_true, Bool.not_eq_false, Bool.not_eq_eq_eq_not, Bool.not_true, Bool.not_false, beq_iff_eq, beq_eq_false_iff_ne, ne_eq, Bool.true_eq_false, Bool.false_eq_true, cond_true, cond_false] at *; omega
    · refine ⟨i+1, ⟨by omega, hnext (by rw [← hb']; assumption)⟩, by omega, ?_⟩
      (cbv; repeat' apply And.intro); all_goals (try (first | trivial | rfl | (rw [X.a]; rfl)))
  · have h5 : i = n := by obtain rfl := X.a; simp only [hlen, Std_t0, Std_t1, Std_x0, Std_x1, Std_len, Std_lt, Std_le, Std_eq, Std_add, Std_sub, Std_mul, Std_not, Std_ite, Std_str, Std_bool, Std_int, Std_slen, Std_seq, Std_slt', Std_beq, Std_idx, Std_bnd, Std_same, Std_max', Std_min', Std_partI, Std_app, Std_len_app, Std_len_lit, Std_len_setc, List.length_take, List.length_drop, List.length_append, List.length_cons, List.length_nil, Int.toNat_natCast, Std_inr64, bNot, Int.ofNat_eq_natCast, Int.natCast_zero, decide_eq_true_eq, decide_eq_false_iff_not, Bool.not_eq_true, Bool.not_eq_false, Bool.not_eq_eq_eq_not, Bool.not_true, Bool.not_false, beq_iff_eq, beq_eq_false_iff_ne, ne_eq, Bool.true_eq_false, Bool.false_eq_true, cond_true, cond_false] at h1; omega
    rw [h5, hn, List.take_length] at ha
    refine h _ ?_
    rw [idxF_none ha]

set_option maxRecDepth 100000 in
theorem F56x69 {q : List UInt8} {qb : Bool} {qd : D} {p : Sel → Bool} {l : List Sel} {d : D} {K : PV → List Ob → Prop} (hd : d = encL encV l) (hl : l.length < 4294967296)
    (hq : ∀ x ∈ l, ∀ (c0 : List UInt8) (c1 c2 c3 : Int), c0 = x.path → c1 = x.major → c2 = x.minor → c3 = x.patch → ∀ (K' : PV → List Ob → Prop), (∀ b, b = p x → K' (.bool b) []) → FC Tryz.prog tt 69 [] (.agg [.str c0, .int .i64 c1, .int .i64 c2, .int .i64 c3] :: [.pptr [.str q, .bool qb, .lst 65 qd] 0]) K')
    (h : ∀ r, r = idxF p l → K (.int .i64 r) []) : FC Tryz.prog tt 56 [] [.lst 45 d, .clos 69 [.pptr [.str q, .bool qb, .lst 65 qd] 0]] K := by
  refine FC.enter (G := g56) tt_ok mixed ⟨Tryz.func56, by rfl, rfl⟩ rfl rfl rfl ?_
  intro A C L X
  obtain ⟨n, hn⟩ : ∃ n, n = l.length := ⟨_, rfl⟩
  have hlen : Std.len d = Int.ofNat n := by rw [hd, Std_len, hn]; rfl
  cbv
  refine X.loop (fun (i : Nat) => ⟨[(8, .int .i64 i), (7, .int .i64 (A.len d)), (0, .lst 45 d), (1, .clos 69 [.pptr [.str q, .bool qb, .lst 65 qd] 0])], []⟩) (fun i => i ≤ n ∧ ∀ x ∈ l.take i, p x = false) (fun i => n - i) 0 ⟨Nat.zero_le _, by simp⟩ ?_ ?_
  · (cbv; repeat' apply And.intro); all_goals (try (first | trivial | rfl | (rw [X.a]; rfl)))
  rintro i ⟨hi, ha⟩
  cbv
  refine ⟨fun h1 => ?_, fun h1 => ?_⟩
  · have h5 : i < l.length := by obtain rfl := X.a; simp only [hlen, Std_t0, Std_t1, Std_x0, Std_x1, Std_len, Std_lt, Std_le, Std_eq, Std_add, Std_sub, Std_mul, Std_not, Std_ite, Std_str, Std_bool, Std_int, Std_slen, Std_seq, Std_slt', Std_beq, Std_idx, Std_bnd, Std_same, Std_max', Std_min', Std_partI, Std_app, Std_len_app, Std_len_lit, Std_len_setc, List.length_take, List.length_drop, List.length_append, List.length_cons, List.length_nil, Int.toNat_natCast, Std_inr64, bNot, Int.ofNat_eq_natCast, Int.natCast_zero, decide_eq_true_eq, decide_eq_false_iff_not, Bool.not_eq_true, Bool.not_eq_false, Bool.not_eq_eq_eq_not, Bool.not_true, Bool.not_false, beq_iff_eq, beq_eq_false_iff_ne, ne_eq, Bool.true_eq_false, Bool.false_eq_true, cond_true, cond_false] at h1; omega
    have hx := List.getElem_mem h5
    have hidx : p l[i] = true → idxF p l = i := fun hp => idxF_some h5 ha hp
    have g5 : gs l (Int.ofNat i) = l[i] := gs_get i rfl h5
    have k0 : A.asStr (A.cell d (Int.ofNat i) 0) = l[i].path := by rw [X.a, hd, Std_s0, g5]
    have k1 : A.asInt (A.cell d (Int.ofNat i) 1) = l[i].major := by rw [X.a, hd, Std_s1, g5]
    have k2 : A.asInt (A.cell d (Int.ofNat i) 2) = l[i].minor := by rw [X.a, hd, Std_s2, g5]
    have k3 : A.asInt (A.cell d (Int.ofNat i) 3) = l[i].patch := by rw [X.a, hd, Std_s3, g5]
    cbv
    refine ⟨?_, ?_⟩
    · obtain rfl := X.a; simp only [hlen, Std_t0, Std_t1, Std_x0, Std_x1, Std_len, Std_lt, Std_le, Std_eq, Std_add, Std_sub, Std_mul, Std_not, Std_ite, Std_str, Std_bool, Std_int, Std_slen, Std_seq, Std_slt', Std_beq, Std_idx, Std_bnd, Std_same, Std_max', Std_min', Std_partI, Std_app, Std_len_app, Std_len_lit, Std_len_setc, List.length_take, List.length_drop, List.length_append, List.length_cons, List.length_nil, Int.toNat_natCast, Std_inr64, bNot, Int.ofNat_eq_natCast, Int.natCast_zero, decide_eq_true_eq, decide_eq_false_iff_not, Bool.not_eq_true, Bool.not_eq_false, Bool.not_eq_eq_eq_not, Bool.not_true, Bool.not_false, beq_iff_eq, beq_eq_false_iff_ne, ne_eq, Bool.true_eq_false, Bool.false_eq_true, cond_true, cond_false] at *; omega
    refine X.call (hq _ hx _ _ _ _ k0 k1 k2 k3 _ fun b hb => ?_)
    have hb' : b = p l[i] := hb
    obtain ⟨c, hc⟩ : ∃ c, c = p l[i] := ⟨_, rfl⟩
    rw [← hc] at hb' hidx
    have hnext : c = false → ∀ x ∈ l.take (i+1), p x = false := by
      intro hcf x hx'
      rw [take_succ' h5] at hx'
      rcases List.mem_append.1 hx' with hx' | hx'
      · exact ha x hx'
      · simp only [List.mem_singleton] at hx'; rw [hx', ← hc]; exact hcf
    clear hb
    cbv
    repeat' (first | apply And.intro | exact fun (_ : False → False) => by kernel_rfl | (intro h2; cbv) | apply Or.inl)
    · refine h _ ?_
      rw [hidx (by rw [← hb']; assumption)]; rfl
    · obtain rfl := X.a; simp only [hlen, Std_t0, Std_t1, Std_x0, Std_x1, Std_len, Std_lt, Std_le, Std_eq, Std_add, Std_sub, Std_mul, Std_not, Std_ite, Std_str, Std_bool, Std_int, Std_slen, Std_seq, Std_slt', Std_beq, Std_idx, Std_bnd, Std_same, Std_max', Std_min', Std_partI, Std_app, Std_len_app, Std_len_lit, Std_len_setc, List.length_take, List.length_drop, List.length_append, List.length_cons, List.length_nil, Int.toNat_natCast, Std_inr64, bNot, Int.ofNat_eq_natCast, Int.natCast_zero, decide_eq_true_eq, decide_eq_false_iff_not, Bool.not_eq_true, Bool.not_eq_false, Bool.not_eq_eq_eq_not, Bool.not_true, Bool.not_false, beq_iff_eq, beq_eq_false_iff_ne, ne_eq, Bool.true_eq_false, Bool.false_eq_true, cond_true, cond_false] at *; omega
    · refine ⟨i+1, ⟨by omega, hnext (by rw [← hb']; assumption)⟩, by omega, ?_⟩
      (cbv; repeat' apply And.intro); all_goals (try (first | trivial | rfl | (rw [X.a]; rfl)))
  · have h5 : i = n := by obtain rfl := X.a; simp only [hlen, Std_t0, Std_t1, Std_x0, Std_x1, Std_len, Std_lt, Std_le, Std_eq, Std_add, Std_sub, Std_mul, Std_not, Std_ite, Std_str, Std_bool, Std_int, Std_slen, Std_seq, Std_slt', Std_beq, Std_idx, Std_bnd, Std_same, Std_max', Std_min', Std_partI, Std_app, Std_len_app, Std_len_lit, Std_len_setc, List.length_take, List.length_drop, List.length_append, List.length_cons, List.length_nil, Int.toNat_natCast, Std_inr64, bNot, Int.ofNat_eq_natCast, Int.natCast_zero, decide_eq_true_eq, decide_eq_false_iff_not, Bool.not_eq_true, Bool.not_eq_false, Bool.not_eq_eq_eq_not, Bool.not_true, Bool.not_false, beq_iff_eq, beq_eq_false_iff_ne, ne_eq, Bool.true_eq_false, Bool.false_eq_true, cond_true, cond_false] at h1; omega
    rw [h5, hn, List.take_length] at ha
    refine h _ ?_
    rw [idxF_none ha]

set_option maxRecDepth 100000 in
theorem F23x69 {q : List UInt8} {qb : Bool} {qd : D} {p : Sel → Bool} {l : List Sel} {d : D} {K : PV → List Ob → Prop} (hd : d = encL encV l) (hl : l.length < 4294967296)
    (hq : ∀ x ∈ l, ∀ (c0 : List UInt8) (c1 c2 c3 : Int), c0 = x.path → c1 = x.major → c2 = x.minor → c3 = x.patch → ∀ (K' : PV → List Ob → Prop), (∀ b, b = p x → K' (.bool b) []) → FC Tryz.prog tt 69 [] (.agg [.str c0, .int .i64 c1, .int .i64 c2, .int .i64 c3] :: [.pptr [.str q, .bool qb, .lst 65 qd] 0]) K')
    (h : ∀ r, r = l.any p → K (.bool r) []) : FC Tryz.prog tt 23 [] [.lst 45 d, .clos 69 [.pptr [.str q, .bool qb, .lst 65 qd] 0]] K := by
  refine FC.enter (G := g23) tt_ok mixed ⟨Tryz.func23, by rfl, rfl⟩ rfl rfl rfl ?_
  intro A C L X
  cbv
  refine X.call (F56x69 hd hl hq fun r hr => ?_)
  cbv
  refine h _ ?_
  rw [hr, X.a]
  show Std.le 0 (idxF p l) = _
  rw [Std_le, ← idxF_any]

set_option maxRecDepth 100000 in
theorem F52x68 {e : D} {p : Term → Bool} {l : List Term} {d : D} {K : PV → List Ob → Prop} (hd : d = encL encT l) (hl : l.length < 4294967296)
    (hq : ∀ x ∈ l, ∀ (c0 : List UInt8) (c1 : Bool) (c2 : D), c0 = x.path → c1 = x.absent → c2 = encL encX x.set → ∀ (K' : PV → List Ob → Prop), (∀ b, b = p x → K' (.bool b) []) → FC Tryz.prog tt 68 [] (.agg [.str c0, .bool c1, .lst 65 c2] :: [.pptr [.lst 45 e] 0]) K')
    (h : ∀ r, r = idxF p l → K (.int .i64 r) []) : FC Tryz.prog tt 52 [] [.lst 51 d, .clos 68 [.pptr [.lst 45 e] 0]] K := by
  refine FC.enter (G := g52) tt_ok mixed ⟨Tryz.func52, by rfl, rfl⟩ rfl rfl rfl ?_
  intro A C L X
  obtain ⟨n, hn⟩ : ∃ n, n = l.length := ⟨_, rfl⟩
  have hlen : Std.len d = Int.ofNat n := by rw [hd, Std_len, hn]; rfl
  cbv
  refine X.loop (fun (i : Nat) => ⟨[(8, .int .i64 i), (7, .int .i64 (A.len d)), (0, .lst 51 d), (1, .clos 68 [.pptr [.lst 45 e] 0])], []⟩) (fun i => i ≤ n ∧ ∀ x ∈ l.take i, p x = false) (fun i => n - i) 0 ⟨Nat.zero_le _, by simp⟩ ?_ ?_
  · (cbv; repeat' apply And.intro); all_goals (try (first | trivial | rfl | (rw [X.a]; rfl)))
  rintro i ⟨hi, ha⟩
  cbv
  refine ⟨fun h1 => ?_, fun h1 => ?_⟩
  · have h5 : i < l.length := by obtain rfl := X.a; simp only [hlen, Std_t0, Std_t1, Std_x0, Std_x1, Std_len, Std_lt, Std_le, Std_eq, Std_add, Std_sub, Std_mul, Std_not, Std_ite, Std_str, Std_bool, Std_int, Std_slen, Std_seq, Std_slt', Std_beq, Std_idx, Std_bnd, Std_same, Std_max', Std_min', Std_partI, Std_app, Std_len_app, Std_len_lit, Std_len_setc, List.length_take, List.length_drop, List.length_append, List.length_cons, List.length_nil, Int.toNat_natCast, Std_inr64, bNot, Int.ofNat_eq_natCast, Int.natCast_zero, decide_eq_true_eq, decide_eq_false_iff_not, Bool.not_eq_true, Bool.not_eq_false, Bool.not_eq_eq_eq_not, Bool.not_true, Bool.not_false, beq_iff_eq, beq_eq_false_iff_ne, ne_eq, Bool.true_eq_false, Bool.false_eq_true, cond_true, cond_false] at h1; omega
    have hx := List.getElem_mem h5
    have hidx : p l[i] = true → idxF p l = i := fun hp => idxF_some h5 ha hp
    have g5 : gt l (Int.ofNat i) = l[i] := gt_get i rfl h5
    have k0 : A.asStr (A.cell d (Int.ofNat i) 0) = l[i].path := by rw [X.a, hd, Std_t0, g5]
    have k1 : A.asBool (A.cell d (Int.ofNat i) 1) = l[i].absent := by rw [X.a, hd, Std_t1, g5]
    have k2 : A.cell d (Int.ofNat i) 2 = encL encX l[i].set := by rw [X.a, hd]; exact encT_cell2 i rfl h5
    cbv
    refine ⟨?_, ?_⟩
    · obtain rfl := X.a; simp only [hlen, Std_t0, Std_t1, Std_x0, Std_x1, Std_len, Std_lt, Std_le, Std_eq, Std_add, Std_sub, Std_mul, Std_not, Std_ite, Std_str, Std_bool, Std_int, Std_slen, Std_seq, Std_slt', Std_beq, Std_idx, Std_bnd, Std_same, Std_max', Std_min', Std_partI, Std_app, Std_len_app, Std_len_lit, Std_len_setc, List.length_take, List.length_drop, List.length_append, List.length_cons, List.length_nil, Int.toNat_natCast, Std_inr64, bNot, Int.ofNat_eq_natCast, Int.natCast_zero, decide_eq_true_eq, decide_eq_false_iff_not, Bool.not_eq_true, Bool.not_eq_false, Bool.not_eq_eq_eq_not, Bool.not_true, Bool.not_false, beq_iff_eq, beq_eq_false_iff_ne, ne_eq, Bool.true_eq_false, Bool.false_eq_true, cond_true, cond_false] at *; omega
    refine X.call (hq _ hx _ _ _ k0 k1 k2 _ fun b hb => ?_)
    have hb' : b = p l[i] := hb
    obtain ⟨c, hc⟩ : ∃ c, c = p l[i] := ⟨_, rfl⟩
    rw [← hc] at hb' hidx
    have hnext : c = false → ∀ x ∈ l.take (i+1), p x = false := by
      intro hcf x hx'
      rw [take_succ' h5] at hx'
      rcases List.mem_append.1 hx' with hx' | hx'
      · exact ha x hx'
      · simp only [List.mem_singleton] at hx'; rw [hx', ← hc]; exact hcf
    clear hb
    cbv
    repeat' (first | apply And.intro | exact fun (_ : False → False) => by kernel_rfl | (intro h2; cbv) | apply Or.inl)
    · refine h _ ?_
      rw [hidx (by rw [← hb']; assumption)]; rfl
    · obtain rfl := X.a; simp only [hlen, Std_t0, Std_t1, Std_x0, Std_x1, Std_len, Std_lt, Std_le, Std_eq, Std_add, Std_sub, Std_mul, Std_not, Std_ite, Std_str, Std_bool, Std_int, Std_slen, Std_seq, Std_slt', Std_beq, Std_idx, Std_bnd, Std_same, Std_max', Std_min', Std_partI, Std_app, Std_len_app, Std_len_lit, Std_len_setc, List.length_take, List.length_drop, List.length_append, List.length_cons, List.length_nil, Int.toNat_natCast, Std_inr64, bNot, Int.ofNat_eq_natCast, Int.natCast_zero, decide_eq_true_eq, decide_eq_false_iff_not, Bool.not_eq_true, Bool.not_eq_false, Bool.not_eq_eq_eq_not, Bool.not_true, Bool.not_false, beq_iff_eq, beq_eq_false_iff_ne, ne_eq, Bool.true_eq_false, Bool.false_eq_true, cond_true, cond_false] at *; omega
    · refine ⟨i+1, ⟨by omega, hnext (by rw [← hb']; assumption)⟩, by omega, ?_⟩
      (cbv; repeat' apply And.intro); all_goals (try (first | trivial | rfl | (rw [X.a]; rfl)))
  · have h5 : i = n := by obtain rfl := X.a; simp only [hlen, Std_t0, Std_t1, Std_x0, Std_x1, Std_len, Std_lt, Std_le, Std_eq, Std_add, Std_sub, Std_mul, Std_not, Std_ite, Std_str, Std_bool, Std_int, Std_slen, Std_seq, Std_slt', Std_beq, Std_idx, Std_bnd, Std_same, Std_max', Std_min', Std_partI, Std_app, Std_len_app, Std_len_lit, Std_len_setc, List.length_take, List.length_drop, List.length_append, List.length_cons, List.length_nil, Int.toNat_natCast, Std_inr64, bNot, Int.ofNat_eq_natCast, Int.natCast_zero, decide_eq_true_eq, decide_eq_false_iff_not, Bool.not_eq_true, Bool.not_eq_false, Bool.not_eq_eq_eq_not, Bool.not_true, Bool.not_false, beq_iff_eq, beq_eq_false_iff_ne, ne_eq, Bool.true_eq_false, Bool.false_eq_true, cond_true, cond_false] at h1; omega
    rw [h5, hn, List.take_length] at ha
    refine h _ ?_
    rw [idxF_none ha]

set_option maxRecDepth 100000 in
theorem F27x68 {e : D} {p : Term → Bool} {l : List Term} {d : D} {K : PV → List Ob → Prop} (hd : d = encL encT l) (hl : l.length < 4294967296)
    (hq : ∀ x ∈ l, ∀ (c0 : List UInt8) (c1 : Bool) (c2 : D), c0 = x.path → c1 = x.absent → c2 = encL encX x.set → ∀ (K' : PV → List Ob → Prop), (∀ b, b = p x → K' (.bool b) []) → FC Tryz.prog tt 68 [] (.agg [.str c0, .bool c1, .lst 65 c2] :: [.pptr [.lst 45 e] 0]) K')
    (h : ∀ r, r = l.any p → K (.bool r) []) : FC Tryz.prog tt 27 [] [.lst 51 d, .clos 68 [.pptr [.lst 45 e] 0]] K := by
  refine FC.enter (G := g27) tt_ok mixed ⟨Tryz.func27, by rfl, rfl⟩ rfl rfl rfl ?_
  intro A C L X
  cbv
  refine X.call (F52x68 hd hl hq fun r hr => ?_)
  cbv
  refine h _ ?_
  rw [hr, X.a]
  show Std.le 0 (idxF p l) = _
  rw [Std_le, ← idxF_any]

set_option maxRecDepth 100000 in
theorem F56x24  {p : Sel → Bool} {l : List Sel} {d : D} {K : PV → List Ob → Prop} (hd : d = encL encV l) (hl : l.length < 4294967296)
    (hq : ∀ x ∈ l, ∀ (c0 : List UInt8) (c1 c2 c3 : Int), c0 = x.path → c1 = x.major → c2 = x.minor → c3 = x.patch → ∀ (K' : PV → List Ob → Prop), (∀ b, b = p x → K' (.bool b) []) → FC Tryz.prog tt 24 [] (.agg [.str c0, .int .i64 c1, .int .i64 c2, .int .i64 c3] :: []) K')
    (h : ∀ r, r = idxF p l → K (.int .i64 r) []) : FC Tryz.prog tt 56 [] [.lst 45 d, .clos 24 []] K := by
  refine FC.enter (G := g56) tt_ok mixed ⟨Tryz.func56, by rfl, rfl⟩ rfl rfl rfl ?_
  intro A C L X
  obtain ⟨n, hn⟩ : ∃ n, n = l.length := ⟨_, rfl⟩
  have hlen : Std.len d = Int.ofNat n := by rw [hd, Std_len, hn]; rfl
  cbv
  refine X.loop (fun (i : Nat) => ⟨[(8, .int .i64 i), (7, .int .i64 (A.len d)), (0, .lst 45 d), (1, .clos 24 [])], []⟩) (fun i => i ≤ n ∧ ∀ x ∈ l.take i, p x = false) (fun i => n - i) 0 ⟨Nat.zero_le _, by simp⟩ ?_ ?_
  · (cbv; repeat' apply And.intro); all_goals (try (first | trivial | rfl | (rw [X.a]; rfl)))
  rintro i ⟨hi, ha⟩
  cbv
  refine ⟨fun h1 => ?_, fun h1 => ?_⟩
  · have h5 : i < l.length := by obtain rfl := X.a; simp only [hlen, Std_t0, Std_t1, Std_x0, Std_x1, Std_len, Std_lt, Std_le, Std_eq, Std_add, Std_sub, Std_mul, Std_not, Std_ite, Std_str, Std_bool, Std_int, Std_slen, Std_seq, Std_slt', Std_beq, Std_idx, Std_bnd, Std_same, Std_max', Std_min', Std_partI, Std_app, Std_len_app, Std_len_lit, Std_len_setc, List.length_take, List.length_drop, List.length_append, List.length_cons, List.length_nil, Int.toNat_natCast, Std_inr64, bNot, Int.ofNat_eq_natCast, Int.natCast_zero, decide_eq_true_eq, decide_eq_false_iff_not, Bool.not_eq_true, Bool.not_eq_false, Bool.not_eq_eq_eq_not, Bool.not_true, Bool.not_false, beq_iff_eq, beq_eq_false_iff_ne, ne_eq, Bool.true_eq_false, Bool.false_eq_true, cond_true, cond_false] at h1; omega
    have hx := List.getElem_mem h5
    have hidx : p l[i] = true → idxF p l = i := fun hp => idxF_some h5 ha hp
    have g5 : gs l (Int.ofNat i) = l[i] := gs_get i rfl h5
    have k0 : A.asStr (A.cell d (Int.ofNat i) 0) = l[i].path := by rw [X.a, hd, Std_s0, g5]
    have k1 : A.asInt (A.cell d (Int.ofNat i) 1) = l[i].major := by rw [X.a, hd, Std_s1, g5]
    have k2 : A.asInt (A.cell d (Int.ofNat i) 2) = l[i].minor := by rw [X.a, hd, Std_s2, g5]
    have k3 : A.asInt (A.cell d (Int.ofNat i) 3) = l[i].patch := by rw [X.a, hd, Std_s3, g5]
    cbv
    refine ⟨?_, ?_⟩
    · obtain rfl := X.a; simp only [hlen, Std_t0, Std_t1, Std_x0, Std_x1, Std_len, Std_lt, Std_le, Std_eq, Std_add, Std_sub, Std_mul, Std_not, Std_ite, Std_str, Std_bool, Std_int, Std_slen, Std_seq, Std_slt', Std_beq, Std_idx, Std_bnd, Std_same, Std_max', Std_min', Std_partI, Std_app, Std_len_app, Std_len_lit, Std_len_setc, List.length_take, List.length_drop, List.length_append, List.length_cons, List.length_nil, Int.toNat_natCast, Std_inr64, bNot, Int.ofNat_eq_natCast, Int.natCast_zero, decide_eq_true_eq, decide_eq_false_iff_not, Bool.not_eq_true, Bool.not_eq_false, Bool.not_eq_eq_eq_not, Bool.not_true, Bool.not_false, beq_iff_eq, beq_eq_false_iff_ne, ne_eq, Bool.true_eq_false, Bool.false_eq_true, cond_true, cond_false] at *; omega
    refine X.call (hq _ hx _ _ _ _ k0 k1 k2 k3 _ fun b hb => ?_)
    have hb' : b = p l[i] := hb
    obtain ⟨c, hc⟩ : ∃ c, c = p l[i] := ⟨_, rfl⟩
    rw [← hc] at hb' hidx
    have hnext : c = false → ∀ x ∈ l.take (i+1), p x = false := by
      intro hcf x hx'
      rw [take_succ' h5] at hx'
      rcases List.mem_append.1 hx' with hx' | hx'
      · exact ha x hx'
      · simp only [List.mem_singleton] at hx'; rw [hx', ← hc]; exact hcf
    clear hb
    cbv
    repeat' (first | apply And.intro | exact fun (_ : False → False) => by kernel_rfl | (intro h2; cbv) | apply Or.inl)
    · refine h _ ?_
      rw [hidx (by rw [← hb']; assumption)]; rfl
    · obtain rfl := X.a; simp only [hlen, Std_t0, Std_t1, Std_x0, Std_x1, Std_len, Std_lt, Std_le, Std_eq, Std_add, Std_sub, Std_mul, Std_not, Std_ite, Std_str, Std_bool, Std_int, Std_slen, Std_seq, Std_slt', Std_beq, Std_idx, Std_bnd, Std_same, Std_max', Std_min', Std_partI, Std_app, Std_len_app, Std_len_lit, Std_len_setc, List.length_take, List.length_drop, List.length_append, List.length_cons, List.length_nil, Int.toNat_natCast, Std_inr64, bNot, Int.ofNat_eq_natCast, Int.natCast_zero, decide_eq_true_eq, decide_eq_false_iff_not, Bool.not_eq_true, Bool.not_eq_false, Bool.not_eq_eq_eq_not, Bool.not_true, Bool.not_false, beq_iff_eq, beq_eq_false_iff_ne, ne_eq, Bool.true_eq_false, Bool.false_eq_true, cond_true, cond_false] at *; omega
    · refine ⟨i+1, ⟨by omega, hnext (by rw [← hb']; assumption)⟩, by omega, ?_⟩
      (cbv; repeat' apply And.intro); all_goals (try (first | trivial | rfl | (rw [X.a]; rfl)))
  · have h5 : i = n := by obtain rfl := X.a; simp only [hlen, Std_t0, Std_t1, Std_x0, Std_x1, Std_len, Std_lt, Std_le, Std_eq, Std_add, Std_sub, Std_mul, Std_not, Std_ite, Std_str, Std_bool, Std_int, Std_slen, Std_seq, Std_slt', Std_beq, Std_idx, Std_bnd, Std_same, Std_max', Std_min', Std_partI, Std_app, Std_len_app, Std_len_lit, Std_len_setc, List.length_take, List.length_drop, List.length_append, List.length_cons, List.length_nil, Int.toNat_natCast, Std_inr64, bNot, Int.ofNat_eq_natCast, Int.natCast_zero, decide_eq_true_eq, decide_eq_false_iff_not, Bool.not_eq_true, Bool.not_eq_false, Bool.not_eq_eq_eq_not, Bool.not_true, Bool.not_false, beq_iff_eq, beq_eq_false_iff_ne, ne_eq, Bool.true_eq_false, Bool.false_eq_true, cond_true, cond_false] at h1; omega
    rw [h5, hn, List.take_length] at ha
    refine h _ ?_
    rw [idxF_none ha]

set_option maxRecDepth 100000 in
theorem F23x24  {p : Sel → Bool} {l : List Sel} {d : D} {K : PV → List Ob → Prop} (hd : d = encL encV l) (hl : l.length < 4294967296)
    (hq : ∀ x ∈ l, ∀ (c0 : List UInt8) (c1 c2 c3 : Int), c0 = x.path → c1 = x.major → c2 = x.minor → c3 = x.patch → ∀ (K' : PV → List Ob → Prop), (∀ b, b = p x → K' (.bool b) []) → FC Tryz.prog tt 24 [] (.agg [.str c0, .int .i64 c1, .int .i64 c2, .int .i64 c3] :: []) K')
    (h : ∀ r, r = l.any p → K (.bool r) []) : FC Tryz.prog tt 23 [] [.lst 45 d, .clos 24 []] K := by
  refine FC.enter (G := g23) tt_ok mixed ⟨Tryz.func23, by rfl, rfl⟩ rfl rfl rfl ?_
  intro A C L X
  cbv
  refine X.call (F56x24 hd hl hq fun r hr => ?_)
  cbv
  refine h _ ?_
  rw [hr, X.a]
  show Std.le 0 (idxF p l) = _
  rw [Std_le, ← idxF_any]

set_option maxRecDepth 100000 in
theorem F56x33  {p : Sel → Bool} {l : List Sel} {d : D} {K : PV → List Ob → Prop} (hd : d = encL encV l) (hl : l.length < 4294967296)
    (hq : ∀ x ∈ l, ∀ (c0 : List UInt8) (c1 c2 c3 : Int), c0 = x.path → c1 = x.major → c2 = x.minor → c3 = x.patch → ∀ (K' : PV → List Ob → Prop), (∀ b, b = p x → K' (.bool b) []) → FC Tryz.prog tt 33 [] (.agg [.str c0, .int .i64 c1, .int .i64 c2, .int .i64 c3] :: []) K')
    (h : ∀ r, r = idxF p l → K (.int .i64 r) []) : FC Tryz.prog tt 56 [] [.lst 45 d, .clos 33 []] K := by
  refine FC.enter (G := g56) tt_ok mixed ⟨Tryz.func56, by rfl, rfl⟩ rfl rfl rfl ?_
  intro A C L X
  obtain ⟨n, hn⟩ : ∃ n, n = l.length := ⟨_, rfl⟩
  have hlen : Std.len d = Int.ofNat n := by rw [hd, Std_len, hn]; rfl
  cbv
  refine X.loop (fun (i : Nat) => ⟨[(8, .int .i64 i), (7, .int .i64 (A.len d)), (0, .lst 45 d), (1, .clos 33 [])], []⟩) (fun i => i ≤ n ∧ ∀ x ∈ l.take i, p x = false) (fun i => n - i) 0 ⟨Nat.zero_le _, by simp⟩ ?_ ?_
  · (cbv; repeat' apply And.intro); all_goals (try (first | trivial | rfl | (rw [X.a]; rfl)))
  rintro i ⟨hi, ha⟩
  cbv
  refine ⟨fun h1 => ?_, fun h1 => ?_⟩
  · have h5 : i < l.length := by obtain rfl := X.a; simp only [hlen, Std_t0, Std_t1, Std_x0, Std_x1, Std_len, Std_lt, Std_le, Std_eq, Std_add, Std_sub, Std_mul, Std_not, Std_ite, Std_str, Std_bool, Std_int, Std_slen, Std_seq, Std_slt', Std_beq, Std_idx, Std_bnd, Std_same, Std_max', Std_min', Std_partI, Std_app, Std_len_app, Std_len_lit, Std_len_setc, List.length_take, List.length_drop, List.length_append, List.length_cons, List.length_nil, Int.toNat_natCast, Std_inr64, bNot, Int.ofNat_eq_natCast, Int.natCast_zero, decide_eq_true_eq, decide_eq_false_iff_not, Bool.not_eq_true, Bool.not_eq_false, Bool.not_eq_eq_eq_not, Bool.not_true, Bool.not_false, beq_iff_eq, beq_eq_false_iff_ne, ne_eq, Bool.true_eq_false, Bool.false_eq_true, cond_true, cond_false] at h1; omega
    have hx := List.getElem_mem h5
    have hidx : p l[i] = true → idxF p l = i := fun hp => idxF_some h5 ha hp
    have g5 : gs l (Int.ofNat i) = l[i] := gs_get i rfl h5
    have k0 : A.asStr (A.cell d (Int.ofNat i) 0) = l[i].path := by rw [X.a, hd, Std_s0, g5]
    have k1 : A.asInt (A.cell d (Int.ofNat i) 1) = l[i].major := by rw [X.a, hd, Std_s1, g5]
    have k2 : A.asInt (A.cell d (Int.ofNat i) 2) = l[i].minor := by rw [X.a, hd, Std_s2, g5]
    have k3 : A.asInt (A.cell d (Int.ofNat i) 3) = l[i].patch := by rw [X.a, hd, Std_s3, g5]
    cbv
    refine ⟨?_, ?_⟩
    · obtain rfl := X.a; simp only [hlen, Std_t0, Std_t1, Std_x0, Std_x1, Std_len, Std_lt, Std_le, Std_eq, Std_add, Std_sub, Std_mul, Std_not, Std_ite, Std_str, Std_bool, Std_int, Std_slen, Std_seq, Std_slt', Std_beq, Std_idx, Std_bnd, Std_same, Std_max', Std_min', Std_partI, Std_app, Std_len_app, Std_len_lit, Std_len_setc, List.length_take, List.length_drop, List.length_append, List.length_cons, List.length_nil, Int.toNat_natCast, Std_inr64, bNot, Int.ofNat_eq_natCast, Int.natCast_zero, decide_eq_true_eq, decide_eq_false_iff_not, Bool.not_eq_true, Bool.not_eq_false, Bool.not_eq_eq_eq_not, Bool.not_true, Bool.not_false, beq_iff_eq, beq_eq_false_iff_ne, ne_eq, Bool.true_eq_false, Bool.false_eq_true, cond_true, cond_false] at *; omega
    refine X.call (hq _ hx _ _ _ _ k0 k1 k2 k3 _ fun b hb => ?_)
    have hb' : b = p l[i] := hb
    obtain ⟨c, hc⟩ : ∃ c, c = p l[i] := ⟨_, rfl⟩
    rw [← hc] at hb' hidx
    have hnext : c = false → ∀ x ∈ l.take (i+1), p x = false := by
      intro hcf x hx'
      rw [take_succ' h5] at hx'
      rcases List.mem_append.1 hx' with hx' | hx'
      · exact ha x hx'
      · simp only [List.mem_singleton] at hx'; rw [hx', ← hc]; exact hcf
    clear hb
    cbv
    repeat' (first | apply And.intro | exact fun (_ : False → False) => by kernel_rfl | (intro h2; cbv) | apply Or.inl)
    · refine h _ ?_
      rw [hidx (by rw [← hb']; assumption)]; rfl
    · obtain rfl := X.a; simp only [hlen, Std_t0, Std_t1, Std_x0, Std_x1, Std_len, Std_lt, Std_le, Std_eq, Std_add, Std_sub, Std_mul, Std_not, Std_ite, Std_str, Std_bool, Std_int, Std_slen, Std_seq, Std_slt', Std_beq, Std_idx, Std_bnd, Std_same, Std_max', Std_min', Std_partI, Std_app, Std_len_app, Std_len_lit, Std_len_setc, List.length_take, List.length_drop, List.length_append, List.length_cons, List.length_nil, Int.toNat_natCast, Std_inr64, bNot, Int.ofNat_eq_natCast, Int.natCast_zero, decide_eq_true_eq, decide_eq_false_iff_not, Bool.not_eq_true, Bool.not_eq_false, Bool.not_eq_eq_eq_not, Bool.not_true, Bool.not_false, beq_iff_eq, beq_eq_false_iff_ne, ne_eq, Bool.true_eq_false, Bool.false_eq_true, cond_true, cond_false] at *; omega
    · refine ⟨i+1, ⟨by omega, hnext (by rw [← hb']; assumption)⟩, by omega, ?_⟩
      (cbv; repeat' apply And.intro); all_goals (try (first | trivial | rfl | (rw [X.a]; rfl)))
  · have h5 : i = n := by obtain rfl := X.a; simp only [hlen, Std_t0, Std_t1, Std_x0, Std_x1, Std_len, Std_lt, Std_le, Std_eq, Std_add, Std_sub, Std_mul, Std_not, Std_ite, Std_str, Std_bool, Std_int, Std_slen, Std_seq, Std_slt', Std_beq, Std_idx, Std_bnd, Std_same, Std_max', Std_min', Std_partI, Std_app, Std_len_app, Std_len_lit, Std_len_setc, List.length_take, List.length_drop, List.length_append, List.length_cons, List.length_nil, Int.toNat_natCast, Std_inr64, bNot, Int.ofNat_eq_natCast, Int.natCast_zero, decide_eq_true_eq, decide_eq_false_iff_not, Bool.not_eq_true, Bool.not_eq_false, Bool.not_eq_eq_eq_not, Bool.not_true, Bool.not_false, beq_iff_eq, beq_eq_false_iff_ne, ne_eq, Bool.true_eq_false, Bool.false_eq_true, cond_true, cond_false] at h1; omega
    rw [h5, hn, List.take_length] at ha
    refine h _ ?_
    rw [idxF_none ha]

set_option maxRecDepth 100000 in
theorem F23x33  {p : Sel → Bool} {l : List Sel} {d : D} {K : PV → List Ob → Prop} (hd : d = encL encV l) (hl : l.length < 4294967296)
    (hq : ∀ x ∈ l, ∀ (c0 : List UInt8) (c1 c2 c3 : Int), c0 = x.path → c1 = x.major → c2 = x.minor → c3 = x.patch → ∀ (K' : PV → List Ob → Prop), (∀ b, b = p x → K' (.bool b) []) → FC Tryz.prog tt 33 [] (.agg [.str c0, .int .i64 c1, .int .i64 c2, .int .i64 c3] :: []) K')
    (h : ∀ r, r = l.any p → K (.bool r) []) : FC Tryz.prog tt 23 [] [.lst 45 d, .clos 33 []] K := by
  refine FC.enter (G := g23) tt_ok mixed ⟨Tryz.func23, by rfl, rfl⟩ rfl rfl rfl ?_
  intro A C L X
  cbv
  refine X.call (F56x33 hd hl hq fun r hr => ?_)
  cbv
  refine h _ ?_
  rw [hr, X.a]
  show Std.le 0 (idxF p l) = _
  rw [Std_le, ← idxF_any]

end Go.VC.T35
end

section
set_option linter.unusedSimpArgs false
namespace Go.Proofs
open Go.Shelf Go.RowKit Go.Lib Go.Sort

def zero51 : List Value := [.string ⟨#[]⟩, .bool false, .slice none 0 0]
theorem zeroV51 (w : World) : (zeroValue 51).run Tryz.prog w = .ok (.agg ⟨zero51⟩) w := by
  have h := Tryz.zeroValue51 w
  exact h

theorem setCells_block {b : Nat} : ∀ (us : List Value) (o : Nat) (w : World) (vs : List Value) (T : TypeId) (fr : Nat × Nat), w.heap[b]? = some (.cells ⟨vs⟩ T fr) → o + us.length ≤ vs.length →
    ∃ vs', (w.setCells b o us).heap[b]? = some (.cells ⟨vs'⟩ T fr) ∧ vs'.length = vs.length ∧ (∀ t, vs'[t]? = if o ≤ t ∧ t < o + us.length then us[t-o]? else vs[t]?) ∧
      (∀ k, k ≠ b → (w.setCells b o us).heap[k]? = w.heap[k]?) ∧ (w.setCells b o us).heap.size = w.heap.size ∧ (w.setCells b o us).os = w.os ∧ (w.setCells b o us).tape = w.tape ∧ (w.setCells b o us).output = w.output
  | [], o, w, vs, T, fr, h, _ => ⟨vs, h, rfl, fun t => by simp; omega, fun _ _ => rfl, rfl, rfl, rfl, rfl⟩
  | v :: us, o, w, vs, T, fr, h, hl => by
    have h1 : (w.setCell ⟨b, o, none⟩ v).heap[b]? = some (.cells ⟨vs.set o v⟩ T fr) := by
      rw [setCell_eq]
      simp [mapBlock, Array.getElem?_modify, h, onCells]
    obtain ⟨vs', a1, a2, a3, a4, a5, a6, a7, a8⟩ := setCells_block us (o+1) (w.setCell ⟨b, o, none⟩ v) (vs.set o v) T fr h1 (by simp at hl ⊢; omega)
    refine ⟨vs', a1, by rw [a2]; simp, fun t => ?_, fun k hk => ?_, ?_, a6, a7, a8⟩
    · rw [a3 t]
      simp only [List.length_cons]
      by_cases ht : t = o
      · subst ht
        rw [if_neg (by omega), if_pos (by omega)]
        simp only [List.length_cons] at hl
        rw [Nat.sub_self, List.getElem?_cons_zero, List.getElem?_set_self (by omega)]
      · by_cases h2 : o + 1 ≤ t ∧ t < o + 1 + us.length
        · rw [if_pos h2, if_pos (by omega)]
          obtain ⟨q, rfl⟩ : ∃ q, t = o + 1 + q := ⟨t - (o+1), by omega⟩
          rw [show o + 1 + q - (o + 1) = q by omega, show o + 1 + q - o = q + 1 by omega]; simp
        · rw [if_neg h2, if_neg (by omega), List.getElem?_set_ne (fun e => ht e.symm)]
    · show ((w.setCell ⟨b, o, none⟩ v).setCells b (o+1) us).heap[k]? = _
      rw [a4 k hk, setCell_eq]
      simp only [mapBlock, Array.getElem?_modify]
      rw [if_neg (fun e => hk (Eq.symm e))]
    · show ((w.setCell ⟨b, o, none⟩ v).setCells b (o+1) us).heap.size = _
      rw [a5, setCell_eq]; simp [mapBlock]
theorem run_clear51 (w : World) (ty : TypeId) (b o c : Nat) (ht : Tryz.prog.underlying 29 = some (.slice 51))
    (hc : ∀ j, j < 3 → (w.cell? ⟨b, o + j, none⟩).isSome = true) (hf : ∀ j, j < 3 → w.frozen? ⟨b, o + j, none⟩ = false) :
    (Builtin.clear_ #[29] ty #[.slice (some ⟨b, o, none⟩) 1 c]).run Tryz.prog w = .ok (.tuple #[]) (w.setCells b o zero51) := by
  have hzc : (Builtin.zeroCells (Value.agg #[Value.string ⟨#[]⟩, Value.bool false, Value.slice none 0 0]).cells 1).toList = zero51 := by
    simp [Builtin.zeroCells, Value.cells, zero51, Array.range]
  have hst := run_storeCells_cells (P := Tryz.prog) b o zero51 0 w (by simpa [zero51] using hc) (by simpa [zero51] using hf) (by intro v hv; simp [zero51] at hv; rcases hv with rfl | rfl | rfl <;> rfl)
  simp only [Nat.add_zero] at hst
  have hz := zeroV51
  simp only [zero51] at hz
  simp [Builtin.clear_, run_underlying ht, hz, hzc, hst]

set_option maxHeartbeats 4000000 in
set_option maxRecDepth 1000000 in
theorem delete74 (blk off n cap i j : Nat) (hj1 : j = i + 1) (vs F : List Value) (T : TypeId) (w : World) (hF : F = (vs.drop off).take (n * 3)) (hb : w.heap[blk]? = some (.cells ⟨vs⟩ T (0, 0))) (hvl : off + n * 3 ≤ vs.length)
    (h1 : ∀ v ∈ F, v.oneCell' = true) (hcap : n ≤ cap) (hi : i < n) :
    Calls Tryz.prog 74 #[.slice (some ⟨blk, off, none⟩) n cap, .int .i64 i, .int .i64 j] w fun e w' => e = .returned (.slice (some ⟨blk, off, none⟩) (n - 1) cap) ∧
      ∃ W1, W1 = w.drew.setCells blk (off + i * 3) (F.drop (j * 3)) ∧ w' = W1.setCells blk (off + (n - 1) * 3) zero51 := by
  have hFl : F.length = n * 3 := by rw [hF, List.length_take, List.length_drop]; omega
  have hc : ∀ t u, F[t]? = some u → w.cell? ⟨blk, off + t, none⟩ = some u := by
    intro t u hu
    have ht : t < n * 3 := by rw [← hFl]; exact (List.getElem?_eq_some_iff.1 hu).1
    rw [hF, List.getElem?_take_of_lt ht, List.getElem?_drop] at hu
    simp [World.cell?, hb, hu]
  have hf : ∀ t, w.frozen? ⟨blk, t, none⟩ = false := by
    intro t; simp [World.frozen?, hb]
  have t29 : Tryz.prog.underlying 29 = some (.slice 51) := Tryz.underlying29
  obtain ⟨i0, hi0, hz1⟩ : ∃ i0, Tryz.prog.info? 51 = some i0 ∧ i0.size = 3 := by
    obtain ⟨i0, _, _, h1, h2, _⟩ := (Go.VC.T35.tt_ok 51 _ rfl).info
    exact ⟨i0, h1, h2⟩
  obtain ⟨news, hnews⟩ : ∃ news, news = F.drop (j * 3) := ⟨_, rfl⟩
  have hlen : news.length = (n - j) * 3 := by rw [hnews, List.length_drop, hFl, Nat.mul_sub_right_distrib]
  obtain ⟨A, hA, hsrc⟩ : ∃ A : Addr, (if cap = j then some (⟨blk, off, none⟩ : Addr) else some ⟨blk, off + j * 3, none⟩) = some A ∧ Hid (∀ t u, news[t]? = some u → w.drew.cell? (A.add t) = some u) := by
    by_cases h : cap = j
    · refine ⟨⟨blk, off, none⟩, by simp [h], fun t u hu => ?_⟩
      have h0 : news.length = 0 := by rw [hlen, show n - j = 0 by omega]
      rw [List.length_eq_zero_iff.1 h0] at hu
      simp at hu
    · refine ⟨⟨blk, off + j * 3, none⟩, by simp [h], fun t u hu => ?_⟩
      rw [hnews, List.getElem?_drop] at hu
      rw [Addr.add_lit, Nat.add_assoc]
      exact hc _ u hu
  have s1 : Hid (news.length = (n - j) * 3) := hlen
  have s2 : Hid (∀ u ∈ news, u.oneCell' = true) := by
    intro u hu
    rw [hnews] at hu
    exact h1 u (List.mem_of_mem_drop hu)
  have isS : ∀ t, t < n * 3 → (w.cell? ⟨blk, off + t, none⟩).isSome = true := by
    intro t ht
    rw [hc t (F[t]'(by rw [hFl]; exact ht)) (by simp [hFl, ht])]; rfl
  have s3 : Hid (∀ t, t < news.length → (w.drew.cell? ⟨blk, off + i * 3 + t, none⟩).isSome = true ∧ w.drew.frozen? ⟨blk, off + i * 3 + t, none⟩ = false) := by
    intro t ht
    rw [hlen] at ht
    rw [Nat.add_assoc]
    exact ⟨isS _ (by omega), hf _⟩
  obtain ⟨W1, hW1⟩ : ∃ W1, W1 = w.drew.setCells blk (off + i * 3) news := ⟨_, rfl⟩
  have hcl : ∀ ty, (Builtin.clear_ #[29] ty #[.slice (some ⟨blk, off + (n - 1) * 3, none⟩) (n - (n - 1)) (cap - (n - 1))]).run Tryz.prog W1 = .ok (.tuple #[]) (W1.setCells blk (off + (n - 1) * 3) zero51) := by
    intro ty
    have e2 : n - (n - 1) = 1 := by omega
    rw [e2]
    refine run_clear51 W1 ty blk _ _ t29 ?_ ?_
    · intro j hj
      obtain ⟨vs', a1, a2, a3, _⟩ := setCells_block (b := blk) news (off + i * 3) w.drew vs T (0, 0) hb (by rw [hlen]; omega)
      rw [← hW1] at a1
      have hlt : off + (n - 1) * 3 + j < vs'.length := by omega
      simp [World.cell?, a1, hlt]
    · intro j hj
      obtain ⟨vs', a1, a2, a3, _⟩ := setCells_block (b := blk) news (off + i * 3) w.drew vs T (0, 0) hb (by rw [hlen]; omega)
      rw [← hW1] at a1
      simp [World.frozen?, a1]
  have hW : Hid (W1 = w.drew.setCells blk (off + i * 3) news) := hW1
  have X : Aside (W1 = w.drew.setCells blk (off + i * 3) (F.drop (j * 3))) := by rw [hW1, hnews]; exact rfl
  have hic : i ≤ cap := by omega
  have hjc : j ≤ cap := by omega
  have hij : i < j := by omega
  have hij2 : i ≤ j := by omega
  have hjn : j ≤ n := by omega
  have mixed : Tryz.prog.follows .mixedOrders = true := Go.VC.T35.mixed
  have hfin : i + (n - j) = n - 1 := by omega
  have hne : ¬ i = j := by omega
  have a51 := Tryz.isAgg51
  have z51 := Tryz.sizeOf51
  clear hW1 hc hf hnews hlen isS hb hF hFl hvl hj1 hi
  go_enter Tryz.func74, Tryz.ntmps74
  go_wp2_with fail
  go_region_law_o (refine step_append_room rfl (.tmp 22) (.tmp 25) 29 rfl 51 i0 3 t29 hi0 hz1 blk off i cap (by simp [Act.eval, Act.put]) A (n - j) (cap - j) news (by simp [Act.eval, Act.put]) s1.out hsrc.out s2.out (by omega) s3.out ?_; rw [← hW.out])
  go_wp2
  go_ret
  exact ⟨rfl, W1, X.out, rfl⟩
end Go.Proofs
end

section
set_option linter.unusedSimpArgs false
set_option linter.unusedVariables false
namespace Go.VC
theorem erase_map {α β : Type} {f : α → β} {l : List α} {i : Nat} : (l.eraseIdx i).map f = (l.map f).eraseIdx i := by
  apply List.ext_getElem?
  intro n
  simp only [List.getElem?_map, List.getElem?_eraseIdx]
  split <;> rfl
theorem rowAt_cells {tt : TypeId → Option TI} {Pp : Per} {e : TypeId} {vs : List Value} {o : Nat} {rows : List (List D)} (h : RowAt tt Pp e vs o rows) {i : Nat} (hi : i < rows.length) : rows[i].length = (cksOf tt e).length ∧
    ∀ (j : Nat) (d : D) (ck : CK), rows[i][j]? = some d → (cksOf tt e)[j]? = some ck → ∃ v, vs[o + i * (cksOf tt e).length + j]? = some v ∧ RD tt Pp ck v d := h i rows[i] (by simp [hi])
end Go.VC
namespace Go.VC.T35
open Go Go.VC Go.Proofs

theorem rd_one {Pp : Per} {ck : CK} {v : Value} {d : D} (h : RD tt Pp ck v d) : v.oneCell' = true := by cases h <;> rfl

theorem F74 {l : List Term} {i : Nat} {a b : Int} (ha : a = i) (hb : b = i + 1) (hi : i < l.length) {d : D} (hd : d = encL encT l) {K : PV → List Ob → Prop} (h : ∀ r, r = encL encT (l.eraseIdx i) → K (.row 51 1) [.dead, .row 51 r true]) : FC Tryz.prog tt 74 [.row 51 d true] [.row 51 0, .int .i64 a, .int .i64 b] K := by
  subst hd; subst ha
  obtain ⟨rows, hrows⟩ : ∃ rows, rows = l.map encT := ⟨_, rfl⟩
  have hrl : rows.length = l.length := by rw [hrows]; simp
  have henc : encL encT l = .list rows := by rw [hrows]; rfl
  have herase : encL encT (l.eraseIdx i) = .list (rows.eraseIdx i) := by rw [hrows, encL, erase_map]
  have h := h _ rfl
  rw [herase] at h
  rw [henc]
  intro E Pp w vals hw hv
  cases hv with
  | cons v0 _ vs0 _ hv0 hv1 =>
  cases hv1 with
  | cons v1 _ vs1 _ hv1 hv2 =>
  cases hv2 with
  | cons v2 _ vs2 _ hv2 hv3 =>
  cases hv3
  cases hv1
  cases hv2
  have hEl := hw.len
  obtain ⟨ri, hri, hor⟩ := hw.ob 0 _ rfl rfl
  refine .inl ⟨enters_of Tryz.func74 (by kernel_rfl) rfl _ _, ?_⟩
  cases hv0 with
  | row0 _ _ hr =>
    rw [hri] at hr; cases hr
    simp only [OR, D.list.injEq] at hor
    rw [hor] at hrl; simp at hrl; omega
  | row _ _ gb o len cap hr =>
    rw [hri] at hr; cases hr
    simp only [OR, D.list.injEq] at hor
    obtain ⟨vs, T, rows2, hheap, hrr, hlen, hcap, hfit, hrow, hno, _⟩ := hor
    subst hrr
    have hno := hno trivial
    have k51 : (cksOf tt 51).length = 3 := by rw [cks51]; rfl
    rw [k51] at hfit
    have hvl : o + len * 3 ≤ vs.length := by have := Nat.mul_le_mul_right 3 hcap; omega
    have hil : i < len := by omega
    have hrc : ∀ (q j : Nat), q < len → j < 3 → ∃ v d ck, vs[o + q * 3 + j]? = some v ∧ (rows[q]?.bind fun r => r[j]?) = some d ∧ (cksOf tt 51)[j]? = some ck ∧ RD tt Pp ck v d := by
      intro q j hq hj
      obtain ⟨h1, h2⟩ := rowAt_cells hrow (i := q) (by omega)
      rw [k51] at h1 h2
      have hj1 : j < (rows[q]'(by omega)).length := by omega
      have hj2 : j < (cksOf tt 51).length := by omega
      obtain ⟨v, hv, hrd⟩ := h2 j _ _ (List.getElem?_eq_getElem hj1) (List.getElem?_eq_getElem hj2)
      refine ⟨v, _, _, hv, ?_, List.getElem?_eq_getElem hj2, hrd⟩
      have hq2 : q < rows.length := by omega
      simp [hq2, hj1]
    obtain ⟨F, hF⟩ : ∃ F, F = (vs.drop o).take (len * 3) := ⟨_, rfl⟩
    have hFl : F.length = len * 3 := by rw [hF, List.length_take, List.length_drop]; omega
    have hFg : ∀ t, t < len * 3 → F[t]? = vs[o + t]? := fun t ht => by rw [hF, List.getElem?_take_of_lt ht, List.getElem?_drop]
    have hF1 : ∀ v ∈ F, v.oneCell' = true := by
      intro v hv
      obtain ⟨t, ht, rfl⟩ := List.mem_iff_getElem.1 hv
      have ht' : t < len * 3 := by omega
      obtain ⟨v', d, ck, q1, _, _, q4⟩ := hrc (t / 3) (t % 3) (by omega) (by omega)
      have e : o + t / 3 * 3 + t % 3 = o + t := by omega
      rw [e, ← hFg t ht', List.getElem?_eq_getElem ht] at q1
      cases q1
      exact rd_one q4
    have hC := delete74 gb o len cap i (i+1) rfl vs F T w hF hheap hvl hF1 hcap hil
    rw [show (b : Int) = ((i + 1 : Nat) : Int) by omega]
    refine hC.mono ?_
    rintro e' w' ⟨rfl, W1, hW1, hw'⟩
    obtain ⟨vs1, a1, a2, a3, a4, a5, a6, a7, a8⟩ := setCells_block (b := gb) (F.drop ((i+1) * 3)) (o + i * 3) w.drew vs T (0, 0) hheap (by rw [List.length_drop, hFl]; omega)
    rw [← hW1] at a1 a4 a5 a6 a7 a8
    obtain ⟨vs2, b1, b2, b3, b4, b5, b6, b7, b8⟩ := setCells_block (b := gb) zero51 (o + (len - 1) * 3) W1 vs1 T (0, 0) a1 (by simp only [zero51, List.length_cons, List.length_nil]; omega)
    rw [← hw'] at b1 b4 b5 b6 b7 b8
    have hgb : gb < w.heap.size := by
      rcases Nat.lt_or_ge gb w.heap.size with h' | h'
      · exact h'
      · rw [Array.getElem?_eq_none h'] at hheap; simp at hheap
    have hother : ∀ k, k ≠ gb → w'.heap[k]? = w.heap[k]? := fun k hk => (b4 k hk).trans (a4 k hk)
    have hsz : w'.heap.size = w.heap.size := b5.trans a5
    have hget : ∀ q j, q < len - 1 → j < 3 → vs2[o + q * 3 + j]? = vs[o + (if q < i then q else q + 1) * 3 + j]? := by
      intro q j hq hj
      rw [b3, if_neg (by simp only [zero51, List.length_cons, List.length_nil]; omega), a3]
      simp only [List.length_drop, hFl]
      by_cases hqi : q < i
      · rw [if_pos hqi, if_neg (by omega)]
      · rw [if_neg hqi, if_pos (by omega), List.getElem?_drop, hFg _ (by omega)]
        congr 1; omega
    have hrows' : ∀ q, (hq : q < len - 1) → (rows.eraseIdx i)[q]? = rows[if q < i then q else q + 1]? := by
      intro q hq
      rw [List.getElem?_eraseIdx]
      split <;> rfl
    refine ⟨_, E ++ [.row gb o (len - 1) cap], Pp, [.dead, .row 51 (.list (rows.eraseIdx i)) true], .row 51 1, rfl, ?_, fun _ _ h => h, ?_, ?_, h, ?_, fun _ _ h => .inl h, ?_⟩
    · intro q x hx
      rw [List.getElem?_append_left (List.getElem?_eq_some_iff.1 hx).1]; exact hx
    · refine ⟨by simp [hEl], ?_, ?_, ?_⟩
      · intro ad v hpv
        have hne := hno ad v hpv
        have hc := hw.pi ad v hpv
        simp only [World.cell?] at hc ⊢
        rw [hother _ hne]; exact hc
      · intro q ob ho hl
        match q with
        | 0 => simp at ho; subst ho; simp [Ob.live] at hl
        | 1 =>
          simp at ho; subst ho
          refine ⟨.row gb o (len - 1) cap, by rw [List.getElem?_append_right (by simp [hEl])]; simp [hEl], ?_⟩
          simp only [OR, D.list.injEq]
          refine ⟨vs2, T, _, b1, rfl, by rw [List.length_eraseIdx_of_lt (by omega)]; omega, by omega, by rw [k51]; omega, ?_, fun _ => hno, by simp⟩
          intro q row hq
          have hql : q < len - 1 := by
            have := (List.getElem?_eq_some_iff.1 hq).1
            rw [List.length_eraseIdx_of_lt (by omega)] at this; omega
          rw [hrows' q hql] at hq
          obtain ⟨h1, h2⟩ := hrow _ row hq
          refine ⟨h1, fun j dd ck hj hck => ?_⟩
          obtain ⟨v, hv, hrd⟩ := h2 j dd ck hj hck
          refine ⟨v, ?_, hrd⟩
          rw [k51] at hv ⊢
          rw [hget q j hql (by rw [← k51]; exact (List.getElem?_eq_some_iff.1 hck).1)]
          exact hv
        | q+2 => simp at ho
      · intro p q oi oj ri rj b hp hq hli hlj _ _ _ _
        match p, q with
        | 0, _ => simp at hp; subst hp; simp [Ob.live] at hli
        | 1, 0 => simp at hq; subst hq; simp [Ob.live] at hlj
        | 1, 1 => rfl
        | 1, q+2 => simp at hq
        | p+2, _ => simp at hp
    · refine .row _ _ _ _ _ _ ?_
      rw [List.getElem?_append_right (by simp [hEl])]; simp [hEl]
    · refine ⟨?_, ?_, ?_, by omega, ?_⟩
      · rw [b6, a6]; rfl
      · rw [b7, a7]; rfl
      · rw [b8, a8]; rfl
      · intro k hk hown
        refine hother k fun hkg => hown ?_
        subst hkg
        exact ⟨0, _, _, rfl, rfl, hri, rfl⟩
    · intro q ob ri b ho hl hE' hbk
      refine .inr ?_
      match q with
      | 0 => simp at ho; subst ho; simp [Ob.live] at hl
      | 1 =>
        rw [List.getElem?_append_right (by simp [hEl])] at hE'
        simp [hEl] at hE'; subst hE'
        exact ⟨0, _, _, rfl, rfl, hri, by simpa [RI.block?] using hbk⟩
      | q+2 => simp at ho
end Go.VC.T35
end

section
set_option linter.unusedSimpArgs false
set_option linter.unusedVariables false
namespace Go.VC.T35
open Go Go.VC Go.Proofs

set_option maxRecDepth 100000 in
theorem canon31_fc (s : List (Int × Int)) (K : PV → List Ob → Prop) (hl : s.length < 4294967296) (h : K (PV.lst 65 (encL encX (canon s))) []) : FC Tryz.prog tt 32 [] [.lst 65 (encL encX s)] K := by
  refine FC.enter (G := g32) tt_ok mixed ⟨Tryz.func32, by rfl, rfl⟩ rfl rfl rfl ?_
  intro A C L X
  obtain ⟨T, hT⟩ : ∃ T, T =  encL encX := ⟨_, rfl⟩
  rw [← hT]
  cbv
  refine X.loop (fun (i : Nat) => ⟨[(4, .int .i64 i), (3, .lst 65 (T (sorted [] (s.take i)))), (0,.lst 65 (T s))], []⟩) (fun i => i ≤ s.length) (fun i => s.length - i) 0 (Nat.zero_le _) ?_ ?_
  · cbv
    exact ⟨⟨rfl, by rw [X.a, hT]; rfl, trivial⟩, trivial⟩
  rintro i hi
  cbv
  refine ⟨fun h1 => ?_, fun h1 => ?_⟩
  · have hil : i < s.length := by rw [X.a, hT] at h1; exact lt_of_lt h1
    have hsn : sorted [] (s.take (i+1)) = if (clip s[i]).1 < (clip s[i]).2 then insX (clip s[i]) (sorted [] (s.take i)) else sorted [] (s.take i) := by rw [take_succ' hil, sorted_snoc]
    have hgi : gx s (i : Int) = s[i] := gx_get i rfl hil
    have hsl : (sorted [] (s.take i)).length ≤ i := by
      have := length_sorted (acc := []) (l := s.take i); simp at this; omega
    have hsr : Srt (sorted [] (s.take i)) := Srt.nil.sorted
    have hx1 : (clip s[i]).1 = max 0 s[i].1 := rfl
    have hx2 : (clip s[i]).2 = min 1000000 s[i].2 := rfl
    obtain ⟨S, hS⟩ : ∃ S, S = sorted [] (s.take i) := ⟨_, rfl⟩
    rw [← hS] at hsn hsl hsr ⊢
    obtain ⟨x, hx⟩ : ∃ x, x = clip s[i] := ⟨_, rfl⟩
    rw [← hx] at hsn hx1 hx2
    cbv
    refine ⟨fun _ => by kernel_rfl, ?_, ?_, ?_, fun h2 => ?_⟩
    · obtain rfl := X.a; subst hT; exact leaf_idx hil
    · obtain rfl := X.a; subst hT; exact leaf_idx hil
    · intro h2; cbv; apply Or.inl
      refine ⟨?_, fun _ => ⟨i+1, by omega, by omega, ?_⟩⟩
      · obtain rfl := X.a; exact leaf_inc hil (by omega)
      · cbv
        refine ⟨⟨by rw [X.a]; rfl, ?_, trivial⟩, trivial⟩
        rw [hsn, if_neg]
        obtain rfl := X.a; subst hT
        simp only [hgi, Std_x0, Std_x1, Std_len, Std_lt, Std_le, Std_eq, Std_add, Std_sub, Std_mul, Std_not, Std_ite, Std_str, Std_bool, Std_int, Std_slen, Std_seq, Std_slt', Std_beq, Std_idx, Std_bnd, Std_same, Std_max', Std_min', Std_partI, Std_app, Std_len_app, Std_len_lit, Std_len_setc, List.length_take, List.length_drop, List.length_append, List.length_cons, List.length_nil, Int.toNat_natCast, Std_inr64, bNot, Int.ofNat_eq_natCast, Int.natCast_zero, decide_eq_true_eq, decide_eq_false_iff_not, Bool.not_eq_true, Bool.not_eq_false, Bool.not_eq_eq_eq_not, Bool.not_true, Bool.not_false, beq_iff_eq, beq_eq_false_iff_ne, ne_eq, Bool.true_eq_false, Bool.false_eq_true, cond_true, cond_false] at h2
        omega
    · have hm0 : Std.max 0 (Std.asInt (Std.cell (encL encX s) (i : Int) 0)) = x.1 := by rw [Std_x0, hgi, Std_max']; omega
      have hm1 : Std.min 1000000 (Std.asInt (Std.cell (encL encX s) (i : Int) 1)) = x.2 := by rw [Std_x1, hgi, Std_min']; omega
      have hx12 : x.1 < x.2 := by
        obtain rfl := X.a; subst hT
        simp only [hgi, Std_x0, Std_x1, Std_len, Std_lt, Std_le, Std_eq, Std_add, Std_sub, Std_mul, Std_not, Std_ite, Std_str, Std_bool, Std_int, Std_slen, Std_seq, Std_slt', Std_beq, Std_idx, Std_bnd, Std_same, Std_max', Std_min', Std_partI, Std_app, Std_len_app, Std_len_lit, Std_len_setc, List.length_take, List.length_drop, List.length_append, List.length_cons, List.length_nil, Int.toNat_natCast, Std_inr64, bNot, Int.ofNat_eq_natCast, Int.natCast_zero, decide_eq_true_eq, decide_eq_false_iff_not, Bool.not_eq_true, Bool.not_eq_false, Bool.not_eq_eq_eq_not, Bool.not_true, Bool.not_false, beq_iff_eq, beq_eq_false_iff_ne, ne_eq, Bool.true_eq_false, Bool.false_eq_true, cond_true, cond_false] at h2; omega
      rw [if_pos hx12] at hsn
      obtain ⟨n, hn⟩ : ∃ n, n = S.length := ⟨_, rfl⟩
      cbv
      refine X.loop (fun (k : Nat) => ⟨[(6, .int .i64 k), (5, .box 0 0), (4, .int .i64 i), (3, .lst 65 (T S)), (0,.lst 65 (T s))], [.box [.int .i64 (A.max 0 (A.asInt (A.cell (T s) (Int.ofNat i) 0))), .int .i64 (A.min 1000000 (A.asInt (A.cell (T s) (Int.ofNat i) 1)))]]⟩) (fun k => k ≤ n ∧ ∀ y ∈ S.drop k, x.1 < y.1) (fun k => k) n ⟨Nat.le_refl _, by simp [hn]⟩ ?_ ?_
      · cbv
        exact ⟨⟨by rw [X.a, hT, hn]; exact Std_len, trivial⟩, trivial⟩
      rintro k ⟨hk, hgt⟩
      have fin : (∀ y ∈ S.take k, y.1 ≤ x.1) → Std.app (Std.part (encL encX S) 0 (k : Int)) (Std.app (Std.lit [[.int (Std.max 0 (Std.asInt (Std.cell (encL encX s) (i : Int) 0))), .int (Std.min 1000000 (Std.asInt (Std.cell (encL encX s) (i : Int) 1)))]]) (Std.part (encL encX S) (k : Int) (Std.len (encL encX S)))) = encL encX (sorted [] (s.take (i+1))) := by
        intro hle
        rw [hsn, insX_split hle hgt, Std_len]
        have e0 := Std_part (f := encX) (l := S) (a := 0) (b := k)
        have e1 := Std_part (f := encX) (l := S) (a := k) (b := S.length)
        rw [show ((0 : Nat) : Int) = 0 from rfl] at e0
        rw [e0, e1, hm0, hm1, show Std.lit [[.int x.1, .int x.2]] = encL encX [x] from rfl, Std_app, Std_app]
        simp [List.take_of_length_le]
      cbv
      repeat' (first | apply And.intro | exact fun (_ : False → False) => by kernel_rfl | (intro h2; cbv) | apply Or.inl)
      all_goals try (obtain rfl := X.a; clear X; subst hT; simp only [Std_x0, Std_x1, Std_len, Std_lt, Std_le, Std_eq, Std_add, Std_sub, Std_mul, Std_not, Std_ite, Std_str, Std_bool, Std_int, Std_slen, Std_seq, Std_slt', Std_beq, Std_idx, Std_bnd, Std_same, Std_max', Std_min', Std_partI, Std_app, Std_len_app, Std_len_lit, Std_len_setc, List.length_take, List.length_drop, List.length_append, List.length_cons, List.length_nil, Int.toNat_natCast, Std_inr64, bNot, Int.ofNat_eq_natCast, Int.natCast_zero, decide_eq_true_eq, decide_eq_false_iff_not, Bool.not_eq_true, Bool.not_eq_false, Bool.not_eq_eq_eq_not, Bool.not_true, Bool.not_false, beq_iff_eq, beq_eq_false_iff_ne, ne_eq, Bool.true_eq_false, Bool.false_eq_true, cond_true, cond_false] at * <;> omega)
      · have hk0 : 0 < k ∧ x.1 < (gx S ((k:Int)-1)).1 := by
          obtain rfl := X.a; subst hT; simp only [hgi, Std_x0, Std_x1, Std_len, Std_lt, Std_le, Std_eq, Std_add, Std_sub, Std_mul, Std_not, Std_ite, Std_str, Std_bool, Std_int, Std_slen, Std_seq, Std_slt', Std_beq, Std_idx, Std_bnd, Std_same, Std_max', Std_min', Std_partI, Std_app, Std_len_app, Std_len_lit, Std_len_setc, List.length_take, List.length_drop, List.length_append, List.length_cons, List.length_nil, Int.toNat_natCast, Std_inr64, bNot, Int.ofNat_eq_natCast, Int.natCast_zero, decide_eq_true_eq, decide_eq_false_iff_not, Bool.not_eq_true, Bool.not_eq_false, Bool.not_eq_eq_eq_not, Bool.not_true, Bool.not_false, beq_iff_eq, beq_eq_false_iff_ne, ne_eq, Bool.true_eq_false, Bool.false_eq_true, cond_true, cond_false] at *; exact ⟨by omega, by omega⟩
        have hg := gx_get (l := S) (a := (k : Int) - 1) (k-1) (by omega) (by omega)
        rw [hg] at hk0
        refine ⟨k-1, ⟨by omega, ?_⟩, by omega, ?_⟩
        · rw [drop_pred hk0.1 (by omega)]
          intro y hy
          rcases List.mem_cons.1 hy with rfl | hy
          · exact hk0.2
          · exact hgt y hy
        · cbv
          refine ⟨⟨?_, trivial⟩, trivial⟩
          rw [X.a]; show (k : Int) - 1 = ((k - 1 : Nat) : Int); omega
      · have hle : ∀ y ∈ S.take k, y.1 ≤ x.1 := by
          have hk0 : 0 < k ∧ (gx S ((k:Int)-1)).1 ≤ x.1 := by
            obtain rfl := X.a; subst hT; simp only [hgi, Std_x0, Std_x1, Std_len, Std_lt, Std_le, Std_eq, Std_add, Std_sub, Std_mul, Std_not, Std_ite, Std_str, Std_bool, Std_int, Std_slen, Std_seq, Std_slt', Std_beq, Std_idx, Std_bnd, Std_same, Std_max', Std_min', Std_partI, Std_app, Std_len_app, Std_len_lit, Std_len_setc, List.length_take, List.length_drop, List.length_append, List.length_cons, List.length_nil, Int.toNat_natCast, Std_inr64, bNot, Int.ofNat_eq_natCast, Int.natCast_zero, decide_eq_true_eq, decide_eq_false_iff_not, Bool.not_eq_true, Bool.not_eq_false, Bool.not_eq_eq_eq_not, Bool.not_true, Bool.not_false, beq_iff_eq, beq_eq_false_iff_ne, ne_eq, Bool.true_eq_false, Bool.false_eq_true, cond_true, cond_false] at *; exact ⟨by omega, by omega⟩
          have hg := gx_get (l := S) (a := (k : Int) - 1) (k-1) (by omega) (by omega)
          rw [hg] at hk0
          intro y hy
          have := hsr.take_le (k := k-1) (by omega) y (by rw [Nat.sub_add_cancel hk0.1]; exact hy)
          omega
        refine ⟨i+1, by omega, by omega, ?_⟩
        cbv
        refine ⟨⟨by rw [X.a]; rfl, ?_, trivial⟩, trivial⟩
        obtain rfl := X.a; subst hT; exact fin hle
      · have hle : ∀ y ∈ S.take k, y.1 ≤ x.1 := by
          have hk0 : k = 0 := by
            obtain rfl := X.a; subst hT; simp only [Std_x0, Std_x1, Std_len, Std_lt, Std_le, Std_eq, Std_add, Std_sub, Std_mul, Std_not, Std_ite, Std_str, Std_bool, Std_int, Std_slen, Std_seq, Std_slt', Std_beq, Std_idx, Std_bnd, Std_same, Std_max', Std_min', Std_partI, Std_app, Std_len_app, Std_len_lit, Std_len_setc, List.length_take, List.length_drop, List.length_append, List.length_cons, List.length_nil, Int.toNat_natCast, Std_inr64, bNot, Int.ofNat_eq_natCast, Int.natCast_zero, decide_eq_true_eq, decide_eq_false_iff_not, Bool.not_eq_true, Bool.not_eq_false, Bool.not_eq_eq_eq_not, Bool.not_true, Bool.not_false, beq_iff_eq, beq_eq_false_iff_ne, ne_eq, Bool.true_eq_false, Bool.false_eq_true, cond_true, cond_false] at *; omega
          subst hk0; simp
        refine ⟨i+1, by omega, by omega, ?_⟩
        cbv
        refine ⟨⟨by rw [X.a]; rfl, ?_, trivial⟩, trivial⟩
        obtain rfl := X.a; subst hT; exact fin hle
  · have hi' : i = s.length := by rw [X.a, hT] at h1; have := ge_of_lt h1; omega
    rw [show s.take i = s by rw [hi', List.take_length]]
    have hsl : (sorted [] s).length ≤ s.length := by
      have := length_sorted (acc := []) (l := s); simp at this; omega
    obtain ⟨S, hS⟩ : ∃ S, S = sorted [] s := ⟨_, rfl⟩
    have hcan : canon s = mrgL S := by rw [hS]; rfl
    rw [hcan] at h
    rw [← hS] at hsl ⊢
    cbv
    refine X.loop (fun (io : Nat × List (Int × Int)) => ⟨[(8, .int .i64 io.1), (7, .row 65 0), (3, .lst 65 (T S))], [.row 65 (T io.2) true]⟩) (fun io => io.1 ≤ S.length ∧ io.2.length ≤ io.1 ∧ MrgInv S io.1 io.2) (fun io => S.length - io.1) (0, []) ⟨Nat.zero_le _, Nat.zero_le _, .inl ⟨rfl, rfl⟩⟩ ?_ ?_
    · cbv
      exact ⟨⟨rfl, trivial⟩, ⟨by rw [X.a, hT]; rfl, trivial⟩, trivial⟩
    rintro ⟨j, o⟩ ⟨hj, hoj, hinv⟩
    dsimp only at hj hoj hinv ⊢
    obtain ⟨n, hn⟩ : ∃ n, n = S.length := ⟨_, rfl⟩
    have hj' : j ≤ n := by omega
    have hinj : ∀ h : j < S.length, gx S (j : Int) = S[j] := fun h => gx_get j rfl h
    cbv
    repeat' (first | apply And.intro | exact fun (_ : False → False) => by kernel_rfl | (intro h2; cbv) | apply Or.inl)
    all_goals try (obtain rfl := X.a; clear X; subst hT; simp only [Std_x0, Std_x1, Std_len, Std_lt, Std_le, Std_eq, Std_add, Std_sub, Std_mul, Std_not, Std_ite, Std_str, Std_bool, Std_int, Std_slen, Std_seq, Std_slt', Std_beq, Std_idx, Std_bnd, Std_same, Std_max', Std_min', Std_partI, Std_app, Std_len_app, Std_len_lit, Std_len_setc, List.length_take, List.length_drop, List.length_append, List.length_cons, List.length_nil, Int.toNat_natCast, Std_inr64, bNot, Int.ofNat_eq_natCast, Int.natCast_zero, decide_eq_true_eq, decide_eq_false_iff_not, Bool.not_eq_true, Bool.not_eq_false, Bool.not_eq_eq_eq_not, Bool.not_true, Bool.not_false, beq_iff_eq, beq_eq_false_iff_ne, ne_eq, Bool.true_eq_false, Bool.false_eq_true, cond_true, cond_false] at * <;> omega)
    · obtain ⟨h5, h6, h7⟩ : j < S.length ∧ 0 < o.length ∧ (gx S (j:Int)).1 ≤ (gx o ((o.length : Int) - 1)).2 := by
        obtain rfl := X.a; subst hT; simp only [Std_x0, Std_x1, Std_len, Std_lt, Std_le, Std_eq, Std_add, Std_sub, Std_mul, Std_not, Std_ite, Std_str, Std_bool, Std_int, Std_slen, Std_seq, Std_slt', Std_beq, Std_idx, Std_bnd, Std_same, Std_max', Std_min', Std_partI, Std_app, Std_len_app, Std_len_lit, Std_len_setc, List.length_take, List.length_drop, List.length_append, List.length_cons, List.length_nil, Int.toNat_natCast, Std_inr64, bNot, Int.ofNat_eq_natCast, Int.natCast_zero, decide_eq_true_eq, decide_eq_false_iff_not, Bool.not_eq_true, Bool.not_eq_false, Bool.not_eq_eq_eq_not, Bool.not_true, Bool.not_false, beq_iff_eq, beq_eq_false_iff_ne, ne_eq, Bool.true_eq_false, Bool.false_eq_true, cond_true, cond_false] at *; exact ⟨by omega, by omega, by omega⟩
      obtain ⟨o', x, rfl⟩ : ∃ o' x, o = o' ++ [x] := ⟨_, _, (List.dropLast_concat_getLast (l := o) (by intro e; subst e; simp at h6)).symm⟩
      have hgo : gx (o' ++ [x]) (((o' ++ [x]).length : Int) - 1) = x := by rw [gx_get o'.length (by simp) (by simp), getElem_last]
      rw [hinj h5, hgo] at h7
      have hinv2 := hinv.grow h5 h7
      have hol : (o' ++ [(x.1, max x.2 S[j].2)]).length ≤ j + 1 := by simp at hoj ⊢; omega
      obtain ⟨o2, ho2⟩ : ∃ o2, o2 = o' ++ [(x.1, max x.2 S[j].2)] := ⟨_, rfl⟩
      rw [← ho2] at hinv2 hol
      refine ⟨(j+1, o2), ⟨by dsimp only; omega, hol, hinv2⟩, by dsimp only; omega, ?_⟩
      obtain ⟨o1, ho1⟩ : ∃ o1, o1 = o' ++ [x] := ⟨_, rfl⟩
      rw [← ho1]
      cbv
      refine ⟨⟨by rw [X.a]; rfl, trivial⟩, ⟨?_, trivial⟩, trivial⟩
      obtain rfl := X.a; subst hT; subst ho1; subst ho2
      have hb : Std.len (encL encX (o' ++ [x])) - 1 = (o'.length : Int) := by rw [Std_len]; simp
      have hgx : Std.max (Std.asInt (Std.cell (encL encX (o' ++ [x])) (Std.sub (Std.len (encL encX (o' ++ [x]))) 1) 1)) (Std.asInt (Std.cell (encL encX S) (j : Int) 1)) = max x.2 S[j].2 := by
        rw [Std_x1, Std_x1, Std_max', Std_sub, Std_len, hgo, hinj h5]
      have := Std_setc (f := encX) (l := o' ++ [x]) (a := Std.sub (Std.len (encL encX (o' ++ [x]))) 1) (i := o'.length) (off := 1) (vs := [.int (Std.max (Std.asInt (Std.cell (encL encX (o' ++ [x])) (Std.sub (Std.len (encL encX (o' ++ [x]))) 1) 1)) (Std.asInt (Std.cell (encL encX S) (j : Int) 1)))]) (y := (x.1, max x.2 S[j].2)) hb (by simp) (by rw [getElem_last, hgx]; rfl)
      rw [set_last] at this
      exact this
    · obtain ⟨h5, h6, h7⟩ : j < S.length ∧ 0 < o.length ∧ (gx o ((o.length : Int) - 1)).2 < (gx S (j:Int)).1 := by
        obtain rfl := X.a; subst hT; simp only [Std_x0, Std_x1, Std_len, Std_lt, Std_le, Std_eq, Std_add, Std_sub, Std_mul, Std_not, Std_ite, Std_str, Std_bool, Std_int, Std_slen, Std_seq, Std_slt', Std_beq, Std_idx, Std_bnd, Std_same, Std_max', Std_min', Std_partI, Std_app, Std_len_app, Std_len_lit, Std_len_setc, List.length_take, List.length_drop, List.length_append, List.length_cons, List.length_nil, Int.toNat_natCast, Std_inr64, bNot, Int.ofNat_eq_natCast, Int.natCast_zero, decide_eq_true_eq, decide_eq_false_iff_not, Bool.not_eq_true, Bool.not_eq_false, Bool.not_eq_eq_eq_not, Bool.not_true, Bool.not_false, beq_iff_eq, beq_eq_false_iff_ne, ne_eq, Bool.true_eq_false, Bool.false_eq_true, cond_true, cond_false] at *; exact ⟨by omega, by omega, by omega⟩
      rw [hinj h5] at h7
      have hinv2 := hinv.add h5 fun o' x ho => by
        subst ho
        rwa [gx_get o'.length (by simp) (by simp), getElem_last] at h7
      have hol : (o ++ [S[j]]).length ≤ j + 1 := by simp; omega
      obtain ⟨o2, ho2⟩ : ∃ o2, o2 = o ++ [S[j]] := ⟨_, rfl⟩
      rw [← ho2] at hinv2 hol
      refine ⟨(j+1, o2), ⟨by dsimp only; omega, hol, hinv2⟩, by dsimp only; omega, ?_⟩
      · cbv
        refine ⟨⟨by rw [X.a]; rfl, trivial⟩, ⟨?_, trivial⟩, trivial⟩
        obtain rfl := X.a; subst hT; subst ho2
        refine Std_app' rfl (lit1 (x := S[j]) ?_)
        rw [encX, ← hinj h5, ← Std_x0, ← Std_x1]; rfl
    · obtain ⟨h5, h6⟩ : j < S.length ∧ o.length = 0 := by
        obtain rfl := X.a; subst hT; simp only [Std_x0, Std_x1, Std_len, Std_lt, Std_le, Std_eq, Std_add, Std_sub, Std_mul, Std_not, Std_ite, Std_str, Std_bool, Std_int, Std_slen, Std_seq, Std_slt', Std_beq, Std_idx, Std_bnd, Std_same, Std_max', Std_min', Std_partI, Std_app, Std_len_app, Std_len_lit, Std_len_setc, List.length_take, List.length_drop, List.length_append, List.length_cons, List.length_nil, Int.toNat_natCast, Std_inr64, bNot, Int.ofNat_eq_natCast, Int.natCast_zero, decide_eq_true_eq, decide_eq_false_iff_not, Bool.not_eq_true, Bool.not_eq_false, Bool.not_eq_eq_eq_not, Bool.not_true, Bool.not_false, beq_iff_eq, beq_eq_false_iff_ne, ne_eq, Bool.true_eq_false, Bool.false_eq_true, cond_true, cond_false] at *; exact ⟨by omega, by omega⟩
      have hinv2 := hinv.add h5 fun o' x ho => by subst ho; simp at h6
      have hol : (o ++ [S[j]]).length ≤ j + 1 := by simp; omega
      obtain ⟨o2, ho2⟩ : ∃ o2, o2 = o ++ [S[j]] := ⟨_, rfl⟩
      rw [← ho2] at hinv2 hol
      refine ⟨(j+1, o2), ⟨by dsimp only; omega, hol, hinv2⟩, by dsimp only; omega, ?_⟩
      · cbv
        refine ⟨⟨by rw [X.a]; rfl, trivial⟩, ⟨?_, trivial⟩, trivial⟩
        obtain rfl := X.a; subst hT; subst ho2
        refine Std_app' rfl (lit1 (x := S[j]) ?_)
        rw [encX, ← hinj h5, ← Std_x0, ← Std_x1]; rfl
    · show K (PV.lst 65 (T o)) []
      have : j = S.length := by
        obtain rfl := X.a; subst hT; simp only [Std_x0, Std_x1, Std_len, Std_lt, Std_le, Std_eq, Std_add, Std_sub, Std_mul, Std_not, Std_ite, Std_str, Std_bool, Std_int, Std_slen, Std_seq, Std_slt', Std_beq, Std_idx, Std_bnd, Std_same, Std_max', Std_min', Std_partI, Std_app, Std_len_app, Std_len_lit, Std_len_setc, List.length_take, List.length_drop, List.length_append, List.length_cons, List.length_nil, Int.toNat_natCast, Std_inr64, bNot, Int.ofNat_eq_natCast, Int.natCast_zero, decide_eq_true_eq, decide_eq_false_iff_not, Bool.not_eq_true, Bool.not_eq_false, Bool.not_eq_eq_eq_not, Bool.not_true, Bool.not_false, beq_iff_eq, beq_eq_false_iff_ne, ne_eq, Bool.true_eq_false, Bool.false_eq_true, cond_true, cond_false] at *; omega
      rw [hT, hinv.done this]; exact h
end Go.VC.T35
end

section
set_option linter.unusedSimpArgs false
set_option linter.unusedVariables false
namespace Go.VC.T35
open Go Go.VC Go.Proofs

theorem F32 {s : List (Int × Int)} {d : D} {K : PV → List Ob → Prop} (hd : d = encL encX s) (hl : s.length < 4294967296) (h : ∀ r, r = encL encX (canon s) → K (.lst 65 r) []) : FC Tryz.prog tt 32 [] [.lst 65 d] K := by
  subst hd; exact canon31_fc s K hl (h _ rfl)

set_option maxRecDepth 100000 in
theorem F45 {s : List (Int × Int)} {d : D} {K : PV → List Ob → Prop} (hd : d = encL encX s) (hl : s.length < 4294967296) (h : ∀ r, r = encL encX (compl s) → K (.lst 65 r) []) : FC Tryz.prog tt 45 [] [.lst 65 d] K := by
  refine FC.enter (G := g45) tt_ok mixed ⟨Tryz.func45, by rfl, rfl⟩ rfl rfl rfl ?_
  intro A C L X
  cbv
  refine X.call (F32 hd hl fun r hr => ?_)
  have hcl := (can_canon s).length
  have hcc : compl s = compF 0 (canon s) := rfl
  obtain ⟨c, hc⟩ : ∃ c, c = canon s := ⟨_, rfl⟩
  rw [← hc] at hr hcl hcc
  obtain ⟨T, hT⟩ : ∃ T, T =  encL encX := ⟨_, rfl⟩
  cbv
  refine X.loop (fun (p : Nat × Int × List (Int × Int)) => ⟨[(6, .int .i64 p.1), (5, .int .i64 p.2.1), (4, .row 65 0), (3, .lst 65 r)], [.row 65 (T p.2.2) true]⟩) (fun p => p.1 ≤ c.length ∧ p.2.2.length ≤ p.1 ∧ compF 0 c = p.2.2 ++ compF p.2.1 (c.drop p.1)) (fun p => c.length - p.1) (0, 0, []) ⟨Nat.zero_le _, Nat.zero_le _, rfl⟩ ?_ ?_
  · (cbv; repeat' apply And.intro); all_goals (try (first | trivial | rfl | (rw [X.a]; rfl)))
    rw [X.a, hT]; rfl
  rintro ⟨i, a, o⟩ ⟨hi, hol, ho⟩
  dsimp only at hi hol ho ⊢
  have hgi : ∀ h : i < c.length, gx c (i : Int) = c[i] := fun h => gx_get i rfl h
  obtain ⟨n, hn⟩ : ∃ n, n = c.length := ⟨_, rfl⟩
  cbv
  repeat' (first | apply And.intro | exact fun (_ : False → False) => by kernel_rfl | (intro h2; cbv) | apply Or.inl)
  all_goals try (subst hr; (obtain rfl := X.a; clear X; subst hT; simp only [Std_x0, Std_x1, Std_len, Std_lt, Std_le, Std_eq, Std_add, Std_sub, Std_mul, Std_not, Std_ite, Std_str, Std_bool, Std_int, Std_slen, Std_seq, Std_slt', Std_beq, Std_idx, Std_bnd, Std_same, Std_max', Std_min', Std_partI, Std_app, Std_len_app, Std_len_lit, Std_len_setc, List.length_take, List.length_drop, List.length_append, List.length_cons, List.length_nil, Int.toNat_natCast, Std_inr64, bNot, Int.ofNat_eq_natCast, Int.natCast_zero, decide_eq_true_eq, decide_eq_false_iff_not, Bool.not_eq_true, Bool.not_eq_false, Bool.not_eq_eq_eq_not, Bool.not_true, Bool.not_false, beq_iff_eq, beq_eq_false_iff_ne, ne_eq, Bool.true_eq_false, Bool.false_eq_true, cond_true, cond_false] at * <;> omega))
  · obtain ⟨h5, h6⟩ : i < c.length ∧ a < (gx c (i:Int)).1 := by
      subst hr; obtain rfl := X.a; subst hT; simp only [Std_x0, Std_x1, Std_len, Std_lt, Std_le, Std_eq, Std_add, Std_sub, Std_mul, Std_not, Std_ite, Std_str, Std_bool, Std_int, Std_slen, Std_seq, Std_slt', Std_beq, Std_idx, Std_bnd, Std_same, Std_max', Std_min', Std_partI, Std_app, Std_len_app, Std_len_lit, Std_len_setc, List.length_take, List.length_drop, List.length_append, List.length_cons, List.length_nil, Int.toNat_natCast, Std_inr64, bNot, Int.ofNat_eq_natCast, Int.natCast_zero, decide_eq_true_eq, decide_eq_false_iff_not, Bool.not_eq_true, Bool.not_eq_false, Bool.not_eq_eq_eq_not, Bool.not_true, Bool.not_false, beq_iff_eq, beq_eq_false_iff_ne, ne_eq, Bool.true_eq_false, Bool.false_eq_true, cond_true, cond_false] at *; exact ⟨by omega, by omega⟩
    have h7 : compF 0 c = (o ++ [(a, c[i].1)]) ++ compF c[i].2 (c.drop (i+1)) := by
      rw [ho, List.drop_eq_getElem_cons h5, compF_cons, if_pos (by rw [← hgi h5]; exact h6)]; simp
    obtain ⟨b, hb⟩ : ∃ b, b = c[i].2 := ⟨_, rfl⟩
    obtain ⟨o2, ho2⟩ : ∃ o2, o2 = o ++ [(a, c[i].1)] := ⟨_, rfl⟩
    rw [← hb, ← ho2] at h7
    refine ⟨(i+1, b, o2), ⟨by dsimp only; omega, by subst ho2; simpa using hol, h7⟩, by dsimp only; omega, ?_⟩
    (cbv; repeat' apply And.intro); all_goals (try (first | trivial | rfl | (rw [X.a]; rfl)))
    · rw [hb, ← hgi h5, ← Std_x1]; subst hr; rw [X.a]; rfl
    · obtain rfl := X.a; subst hT; subst ho2
      refine Std_app' rfl (lit1e (a, c[i].1) ?_)
      rw [encX, ← hgi h5, ← Std_x0, hr]; rfl
  · obtain ⟨h5, h6⟩ : i < c.length ∧ (gx c (i:Int)).1 ≤ a := by
      subst hr; obtain rfl := X.a; subst hT; simp only [Std_x0, Std_x1, Std_len, Std_lt, Std_le, Std_eq, Std_add, Std_sub, Std_mul, Std_not, Std_ite, Std_str, Std_bool, Std_int, Std_slen, Std_seq, Std_slt', Std_beq, Std_idx, Std_bnd, Std_same, Std_max', Std_min', Std_partI, Std_app, Std_len_app, Std_len_lit, Std_len_setc, List.length_take, List.length_drop, List.length_append, List.length_cons, List.length_nil, Int.toNat_natCast, Std_inr64, bNot, Int.ofNat_eq_natCast, Int.natCast_zero, decide_eq_true_eq, decide_eq_false_iff_not, Bool.not_eq_true, Bool.not_eq_false, Bool.not_eq_eq_eq_not, Bool.not_true, Bool.not_false, beq_iff_eq, beq_eq_false_iff_ne, ne_eq, Bool.true_eq_false, Bool.false_eq_true, cond_true, cond_false] at *; exact ⟨by omega, by omega⟩
    have h7 : compF 0 c = o ++ compF c[i].2 (c.drop (i+1)) := by
      rw [ho, List.drop_eq_getElem_cons h5, compF_cons, if_neg (by rw [← hgi h5]; exact Int.not_lt.2 h6)]; simp
    obtain ⟨b, hb⟩ : ∃ b, b = c[i].2 := ⟨_, rfl⟩
    rw [← hb] at h7
    refine ⟨(i+1, b, o), ⟨by dsimp only; omega, by dsimp only; omega, h7⟩, by dsimp only; omega, ?_⟩
    (cbv; repeat' apply And.intro); all_goals (try (first | trivial | rfl | (rw [X.a]; rfl)))
    · rw [hb, ← hgi h5, ← Std_x1]; subst hr; rw [X.a]; rfl
  · have h5 : i = c.length ∧ a < 1000000 := by
      subst hr; obtain rfl := X.a; subst hT; simp only [Std_x0, Std_x1, Std_len, Std_lt, Std_le, Std_eq, Std_add, Std_sub, Std_mul, Std_not, Std_ite, Std_str, Std_bool, Std_int, Std_slen, Std_seq, Std_slt', Std_beq, Std_idx, Std_bnd, Std_same, Std_max', Std_min', Std_partI, Std_app, Std_len_app, Std_len_lit, Std_len_setc, List.length_take, List.length_drop, List.length_append, List.length_cons, List.length_nil, Int.toNat_natCast, Std_inr64, bNot, Int.ofNat_eq_natCast, Int.natCast_zero, decide_eq_true_eq, decide_eq_false_iff_not, Bool.not_eq_true, Bool.not_eq_false, Bool.not_eq_eq_eq_not, Bool.not_true, Bool.not_false, beq_iff_eq, beq_eq_false_iff_ne, ne_eq, Bool.true_eq_false, Bool.false_eq_true, cond_true, cond_false] at *; exact ⟨by omega, by omega⟩
    have h7 : compl s = o ++ [(a, 1000000)] := by
      rw [hcc, ho, h5.1, List.drop_length, compF, if_pos h5.2]
    refine h _ ?_
    rw [h7]
    obtain rfl := X.a; subst hT
    exact Std_app' rfl (lit1e (a, 1000000) rfl)
  · have h5 : i = c.length ∧ ¬ a < 1000000 := by
      subst hr; obtain rfl := X.a; subst hT; simp only [Std_x0, Std_x1, Std_len, Std_lt, Std_le, Std_eq, Std_add, Std_sub, Std_mul, Std_not, Std_ite, Std_str, Std_bool, Std_int, Std_slen, Std_seq, Std_slt', Std_beq, Std_idx, Std_bnd, Std_same, Std_max', Std_min', Std_partI, Std_app, Std_len_app, Std_len_lit, Std_len_setc, List.length_take, List.length_drop, List.length_append, List.length_cons, List.length_nil, Int.toNat_natCast, Std_inr64, bNot, Int.ofNat_eq_natCast, Int.natCast_zero, decide_eq_true_eq, decide_eq_false_iff_not, Bool.not_eq_true, Bool.not_eq_false, Bool.not_eq_eq_eq_not, Bool.not_true, Bool.not_false, beq_iff_eq, beq_eq_false_iff_ne, ne_eq, Bool.true_eq_false, Bool.false_eq_true, cond_true, cond_false] at *; exact ⟨by omega, by omega⟩
    have h7 : compl s = o := by
      rw [hcc, ho, h5.1, List.drop_length, compF, if_neg h5.2, List.append_nil]
    refine h _ ?_
    rw [h7, hT]

theorem length_flatten_le {l : List (List (Int × Int))} {n : Nat} (h : ∀ s ∈ l, s.length ≤ n) : l.flatten.length ≤ l.length * n := by
  induction l with
  | nil => simp
  | cons s l ih =>
    have := ih fun t ht => h t (by simp [ht])
    have := h s (by simp)
    simp only [List.flatten_cons, List.length_append, List.length_cons, Nat.add_mul]; omega

set_option maxRecDepth 100000 in
theorem F50 {l : List (List (Int × Int))} {d : D} {K : PV → List Ob → Prop} (hd : d = encSS l) (hl : l.length ≤ 1000) (hs : ∀ s ∈ l, s.length ≤ 2000000) (h : ∀ r, r = encL encX (union l) → K (.lst 65 r) []) : FC Tryz.prog tt 50 [] [.lst 23 d] K := by
  refine FC.enter (G := g50) tt_ok mixed ⟨Tryz.func50, by rfl, rfl⟩ rfl rfl rfl ?_
  intro A C L X
  obtain ⟨T, hT⟩ : ∃ T, T =  encL encX := ⟨_, rfl⟩
  have hfl := length_flatten_le hs
  cbv
  refine X.loop (fun (p : Nat × List (Int × Int)) => ⟨[(4, .int .i64 p.1), (3, .row 65 0), (0, .lst 23 d)], [.row 65 (T p.2) true]⟩) (fun p => p.1 ≤ l.length ∧ p.2 = (l.take p.1).flatten) (fun p => l.length - p.1) (0, []) ⟨Nat.zero_le _, rfl⟩ ?_ ?_
  · (cbv; repeat' apply And.intro); all_goals (try (first | trivial | rfl | (rw [X.a]; rfl)))
    rw [X.a, hT]; rfl
  rintro ⟨i, o⟩ ⟨hi, ho⟩
  dsimp only at hi ho ⊢
  have hol : o.length ≤ i * 2000000 := by
    have := length_flatten_le (l := l.take i) (n := 2000000) fun s hs' => hs s (List.mem_of_mem_take hs')
    rw [← ho, List.length_take, Nat.min_eq_left hi] at this; exact this
  have hci : ∀ h : i < l.length, Std.cell (encSS l) (Int.ofNat i) 0 = encL encX l[i] := fun h => encSS_cell i rfl h
  have hll : ∀ h : i < l.length, l[i].length ≤ 2000000 := fun h => hs _ (List.getElem_mem h)
  obtain ⟨n, hn⟩ : ∃ n, n = l.length := ⟨_, rfl⟩
  have hlen : Std.len d = Int.ofNat n := by rw [hd, encSS_len, hn]; rfl
  cbv
  repeat' (first | apply And.intro | exact fun (_ : False → False) => by kernel_rfl | (intro h2; cbv) | apply Or.inl)
  · obtain rfl := X.a; simp only [hlen, Std_x0, Std_x1, Std_len, Std_lt, Std_le, Std_eq, Std_add, Std_sub, Std_mul, Std_not, Std_ite, Std_str, Std_bool, Std_int, Std_slen, Std_seq, Std_slt', Std_beq, Std_idx, Std_bnd, Std_same, Std_max', Std_min', Std_partI, Std_app, Std_len_app, Std_len_lit, Std_len_setc, List.length_take, List.length_drop, List.length_append, List.length_cons, List.length_nil, Int.toNat_natCast, Std_inr64, bNot, Int.ofNat_eq_natCast, Int.natCast_zero, decide_eq_true_eq, decide_eq_false_iff_not, Bool.not_eq_true, Bool.not_eq_false, Bool.not_eq_eq_eq_not, Bool.not_true, Bool.not_false, beq_iff_eq, beq_eq_false_iff_ne, ne_eq, Bool.true_eq_false, Bool.false_eq_true, cond_true, cond_false] at *; omega
  · subst hd; obtain rfl := X.a; subst hT
    have h5 : i < l.length := by simp only [hlen, Std_x0, Std_x1, Std_len, Std_lt, Std_le, Std_eq, Std_add, Std_sub, Std_mul, Std_not, Std_ite, Std_str, Std_bool, Std_int, Std_slen, Std_seq, Std_slt', Std_beq, Std_idx, Std_bnd, Std_same, Std_max', Std_min', Std_partI, Std_app, Std_len_app, Std_len_lit, Std_len_setc, List.length_take, List.length_drop, List.length_append, List.length_cons, List.length_nil, Int.toNat_natCast, Std_inr64, bNot, Int.ofNat_eq_natCast, Int.natCast_zero, decide_eq_true_eq, decide_eq_false_iff_not, Bool.not_eq_true, Bool.not_eq_false, Bool.not_eq_eq_eq_not, Bool.not_true, Bool.not_false, beq_iff_eq, beq_eq_false_iff_ne, ne_eq, Bool.true_eq_false, Bool.false_eq_true, cond_true, cond_false] at *; omega
    obtain ⟨x, hx⟩ : ∃ x, x = l[i] := ⟨_, rfl⟩
    have h6 : x.length ≤ 2000000 := by rw [hx]; exact hs _ (List.getElem_mem h5)
    have h7 : Std.len (Std.cell (encSS l) (i : Int) 0) = (x.length : Int) := by
      have := hci h5; rw [Int.ofNat_eq_natCast] at this; rw [hx, this]; exact Std_len
    simp only [h7, Std_x0, Std_x1, Std_len, Std_lt, Std_le, Std_eq, Std_add, Std_sub, Std_mul, Std_not, Std_ite, Std_str, Std_bool, Std_int, Std_slen, Std_seq, Std_slt', Std_beq, Std_idx, Std_bnd, Std_same, Std_max', Std_min', Std_partI, Std_app, Std_len_app, Std_len_lit, Std_len_setc, List.length_take, List.length_drop, List.length_append, List.length_cons, List.length_nil, Int.toNat_natCast, Std_inr64, bNot, Int.ofNat_eq_natCast, Int.natCast_zero, decide_eq_true_eq, decide_eq_false_iff_not, Bool.not_eq_true, Bool.not_eq_false, Bool.not_eq_eq_eq_not, Bool.not_true, Bool.not_false, beq_iff_eq, beq_eq_false_iff_ne, ne_eq, Bool.true_eq_false, Bool.false_eq_true, cond_true, cond_false]
    omega
  · obtain rfl := X.a; simp only [hlen, Std_x0, Std_x1, Std_len, Std_lt, Std_le, Std_eq, Std_add, Std_sub, Std_mul, Std_not, Std_ite, Std_str, Std_bool, Std_int, Std_slen, Std_seq, Std_slt', Std_beq, Std_idx, Std_bnd, Std_same, Std_max', Std_min', Std_partI, Std_app, Std_len_app, Std_len_lit, Std_len_setc, List.length_take, List.length_drop, List.length_append, List.length_cons, List.length_nil, Int.toNat_natCast, Std_inr64, bNot, Int.ofNat_eq_natCast, Int.natCast_zero, decide_eq_true_eq, decide_eq_false_iff_not, Bool.not_eq_true, Bool.not_eq_false, Bool.not_eq_eq_eq_not, Bool.not_true, Bool.not_false, beq_iff_eq, beq_eq_false_iff_ne, ne_eq, Bool.true_eq_false, Bool.false_eq_true, cond_true, cond_false] at *; omega
  · have h5 : i < l.length := by obtain rfl := X.a; simp only [hlen, Std_x0, Std_x1, Std_len, Std_lt, Std_le, Std_eq, Std_add, Std_sub, Std_mul, Std_not, Std_ite, Std_str, Std_bool, Std_int, Std_slen, Std_seq, Std_slt', Std_beq, Std_idx, Std_bnd, Std_same, Std_max', Std_min', Std_partI, Std_app, Std_len_app, Std_len_lit, Std_len_setc, List.length_take, List.length_drop, List.length_append, List.length_cons, List.length_nil, Int.toNat_natCast, Std_inr64, bNot, Int.ofNat_eq_natCast, Int.natCast_zero, decide_eq_true_eq, decide_eq_false_iff_not, Bool.not_eq_true, Bool.not_eq_false, Bool.not_eq_eq_eq_not, Bool.not_true, Bool.not_false, beq_iff_eq, beq_eq_false_iff_ne, ne_eq, Bool.true_eq_false, Bool.false_eq_true, cond_true, cond_false] at *; omega
    obtain ⟨o2, ho2⟩ : ∃ o2, o2 = o ++ l[i] := ⟨_, rfl⟩
    refine ⟨(i+1, o2), ⟨by dsimp only; omega, by rw [ho2, ho, take_succ' h5]; simp only [List.flatten_append, List.flatten_cons, List.flatten_nil, List.append_nil]⟩, by dsimp only; omega, ?_⟩
    (cbv; repeat' apply And.intro); all_goals (try (first | trivial | rfl | (rw [X.a]; rfl)))
    obtain rfl := X.a; subst hT; subst ho2; subst hd
    exact Std_app' rfl (hci h5)
  · have h5 : i = l.length := by obtain rfl := X.a; simp only [hlen, Std_x0, Std_x1, Std_len, Std_lt, Std_le, Std_eq, Std_add, Std_sub, Std_mul, Std_not, Std_ite, Std_str, Std_bool, Std_int, Std_slen, Std_seq, Std_slt', Std_beq, Std_idx, Std_bnd, Std_same, Std_max', Std_min', Std_partI, Std_app, Std_len_app, Std_len_lit, Std_len_setc, List.length_take, List.length_drop, List.length_append, List.length_cons, List.length_nil, Int.toNat_natCast, Std_inr64, bNot, Int.ofNat_eq_natCast, Int.natCast_zero, decide_eq_true_eq, decide_eq_false_iff_not, Bool.not_eq_true, Bool.not_eq_false, Bool.not_eq_eq_eq_not, Bool.not_true, Bool.not_false, beq_iff_eq, beq_eq_false_iff_ne, ne_eq, Bool.true_eq_false, Bool.false_eq_true, cond_true, cond_false] at *; omega
    rw [h5, List.take_length] at ho
    cbv
    refine X.call (F32 (by rw [hT]) (by omega) fun r hr => ?_)
    cbv
    refine h r ?_
    rw [hr, ho]; rfl

set_option maxRecDepth 100000 in
theorem F70 {l : List (List (Int × Int))} {d : D} {K : PV → List Ob → Prop} (hd : d = encSS l) (hl : l.length ≤ 1000) (hs : ∀ s ∈ l, s.length ≤ 2000000) (h : ∀ r, r = encL encX (inter l) → K (.lst 65 r) []) : FC Tryz.prog tt 70 [] [.lst 23 d] K := by
  refine FC.enter (G := g70) tt_ok mixed ⟨Tryz.func70, by rfl, rfl⟩ rfl rfl rfl ?_
  intro A C L X
  obtain ⟨T, hT⟩ : ∃ T, T =  encSS := ⟨_, rfl⟩
  cbv
  refine X.loop (fun (p : Nat × List (List (Int × Int))) => ⟨[(4, .int .i64 p.1), (3, .row 23 0), (0, .lst 23 d)], [.row 23 (T p.2) true]⟩) (fun p => p.1 ≤ l.length ∧ p.2 = (l.take p.1).map compl) (fun p => l.length - p.1) (0, []) ⟨Nat.zero_le _, rfl⟩ ?_ ?_
  · (cbv; repeat' apply And.intro); all_goals (try (first | trivial | rfl | (rw [X.a]; rfl)))
    rw [X.a, hT]; rfl
  rintro ⟨i, o⟩ ⟨hi, ho⟩
  dsimp only at hi ho ⊢
  have hol : o.length = i := by rw [ho]; simp; omega
  have hci : ∀ h : i < l.length, Std.cell (encSS l) (Int.ofNat i) 0 = encL encX l[i] := fun h => encSS_cell i rfl h
  have hll : ∀ h : i < l.length, l[i].length ≤ 2000000 := fun h => hs _ (List.getElem_mem h)
  obtain ⟨n, hn⟩ : ∃ n, n = l.length := ⟨_, rfl⟩
  have hlen : Std.len d = Int.ofNat n := by rw [hd, encSS_len, hn]; rfl
  cbv
  repeat' (first | apply And.intro | exact fun (_ : False → False) => by kernel_rfl | (intro h2; cbv) | apply Or.inl)
  · obtain rfl := X.a; simp only [hlen, Std_x0, Std_x1, Std_len, Std_lt, Std_le, Std_eq, Std_add, Std_sub, Std_mul, Std_not, Std_ite, Std_str, Std_bool, Std_int, Std_slen, Std_seq, Std_slt', Std_beq, Std_idx, Std_bnd, Std_same, Std_max', Std_min', Std_partI, Std_app, Std_len_app, Std_len_lit, Std_len_setc, List.length_take, List.length_drop, List.length_append, List.length_cons, List.length_nil, Int.toNat_natCast, Std_inr64, bNot, Int.ofNat_eq_natCast, Int.natCast_zero, decide_eq_true_eq, decide_eq_false_iff_not, Bool.not_eq_true, Bool.not_eq_false, Bool.not_eq_eq_eq_not, Bool.not_true, Bool.not_false, beq_iff_eq, beq_eq_false_iff_ne, ne_eq, Bool.true_eq_false, Bool.false_eq_true, cond_true, cond_false] at *; omega
  · have h5 : i < l.length := by obtain rfl := X.a; simp only [hlen, Std_x0, Std_x1, Std_len, Std_lt, Std_le, Std_eq, Std_add, Std_sub, Std_mul, Std_not, Std_ite, Std_str, Std_bool, Std_int, Std_slen, Std_seq, Std_slt', Std_beq, Std_idx, Std_bnd, Std_same, Std_max', Std_min', Std_partI, Std_app, Std_len_app, Std_len_lit, Std_len_setc, List.length_take, List.length_drop, List.length_append, List.length_cons, List.length_nil, Int.toNat_natCast, Std_inr64, bNot, Int.ofNat_eq_natCast, Int.natCast_zero, decide_eq_true_eq, decide_eq_false_iff_not, Bool.not_eq_true, Bool.not_eq_false, Bool.not_eq_eq_eq_not, Bool.not_true, Bool.not_false, beq_iff_eq, beq_eq_false_iff_ne, ne_eq, Bool.true_eq_false, Bool.false_eq_true, cond_true, cond_false] at *; omega
    have h6 : l[i].length ≤ 2000000 := hs _ (List.getElem_mem h5)
    cbv
    refine X.call (F45 (s := l[i]) (by subst hd; obtain rfl := X.a; exact hci h5) (by omega) fun r hr => ?_)
    obtain ⟨o2, ho2⟩ : ∃ o2, o2 = o ++ [compl l[i]] := ⟨_, rfl⟩
    have ho3 : o2 = (l.take (i+1)).map compl := by rw [ho2, ho, take_succ' h5]; simp only [List.map_append, List.map_cons, List.map_nil]
    cbv
    repeat' (first | apply And.intro | exact fun (_ : False → False) => by kernel_rfl | (intro h2; cbv) | apply Or.inl)
    · obtain rfl := X.a; subst hT
      have : Std.len (encSS o) = (o.length : Int) := encSS_len
      simp only [this, Std_x0, Std_x1, Std_len, Std_lt, Std_le, Std_eq, Std_add, Std_sub, Std_mul, Std_not, Std_ite, Std_str, Std_bool, Std_int, Std_slen, Std_seq, Std_slt', Std_beq, Std_idx, Std_bnd, Std_same, Std_max', Std_min', Std_partI, Std_app, Std_len_app, Std_len_lit, Std_len_setc, List.length_take, List.length_drop, List.length_append, List.length_cons, List.length_nil, Int.toNat_natCast, Std_inr64, bNot, Int.ofNat_eq_natCast, Int.natCast_zero, decide_eq_true_eq, decide_eq_false_iff_not, Bool.not_eq_true, Bool.not_eq_false, Bool.not_eq_eq_eq_not, Bool.not_true, Bool.not_false, beq_iff_eq, beq_eq_false_iff_ne, ne_eq, Bool.true_eq_false, Bool.false_eq_true, cond_true, cond_false]; omega
    · obtain rfl := X.a; simp only [Std_x0, Std_x1, Std_len, Std_lt, Std_le, Std_eq, Std_add, Std_sub, Std_mul, Std_not, Std_ite, Std_str, Std_bool, Std_int, Std_slen, Std_seq, Std_slt', Std_beq, Std_idx, Std_bnd, Std_same, Std_max', Std_min', Std_partI, Std_app, Std_len_app, Std_len_lit, Std_len_setc, List.length_take, List.length_drop, List.length_append, List.length_cons, List.length_nil, Int.toNat_natCast, Std_inr64, bNot, Int.ofNat_eq_natCast, Int.natCast_zero, decide_eq_true_eq, decide_eq_false_iff_not, Bool.not_eq_true, Bool.not_eq_false, Bool.not_eq_eq_eq_not, Bool.not_true, Bool.not_false, beq_iff_eq, beq_eq_false_iff_ne, ne_eq, Bool.true_eq_false, Bool.false_eq_true, cond_true, cond_false]; omega
    · refine ⟨(i+1, o2), ⟨by dsimp only; omega, ho3⟩, by dsimp only; omega, ?_⟩
      (cbv; repeat' apply And.intro); all_goals (try (first | trivial | rfl | (rw [X.a]; rfl)))
      obtain rfl := X.a; subst hT; subst ho2
      exact Std_app' rfl (lit1e (compl l[i]) (by rw [hr]))
  · have h5 : i = l.length := by obtain rfl := X.a; simp only [hlen, Std_x0, Std_x1, Std_len, Std_lt, Std_le, Std_eq, Std_add, Std_sub, Std_mul, Std_not, Std_ite, Std_str, Std_bool, Std_int, Std_slen, Std_seq, Std_slt', Std_beq, Std_idx, Std_bnd, Std_same, Std_max', Std_min', Std_partI, Std_app, Std_len_app, Std_len_lit, Std_len_setc, List.length_take, List.length_drop, List.length_append, List.length_cons, List.length_nil, Int.toNat_natCast, Std_inr64, bNot, Int.ofNat_eq_natCast, Int.natCast_zero, decide_eq_true_eq, decide_eq_false_iff_not, Bool.not_eq_true, Bool.not_eq_false, Bool.not_eq_eq_eq_not, Bool.not_true, Bool.not_false, beq_iff_eq, beq_eq_false_iff_ne, ne_eq, Bool.true_eq_false, Bool.false_eq_true, cond_true, cond_false] at *; omega
    rw [h5, List.take_length] at ho
    cbv
    refine X.call (F50 (l := o) (by rw [hT]) (by omega) ?_ fun r hr => ?_)
    · subst ho
      intro s hs'
      obtain ⟨t, ht, rfl⟩ := List.mem_map.1 hs'
      have := (can_compl t).length; omega
    cbv
    refine X.call (F45 hr (by have := (can_union o).length; omega) fun r hr => ?_)
    cbv
    refine h r ?_
    rw [hr, ho]; rfl

set_option maxRecDepth 100000 in
theorem F42 {a b : List (Int × Int)} {d e : D} {K : PV → List Ob → Prop} (hd : d = encL encX a) (he : e = encL encX b) (ha : a.length ≤ 2000000) (hb : b.length ≤ 2000000) (h : ∀ r, r = encL encX (minus a b) → K (.lst 65 r) []) : FC Tryz.prog tt 42 [] [.lst 65 d, .lst 65 e] K := by
  refine FC.enter (G := g42) tt_ok mixed ⟨Tryz.func42, by rfl, rfl⟩ rfl rfl rfl ?_
  intro A C L X
  cbv
  refine X.call (F45 he (by omega) fun r hr => ?_)
  cbv
  refine X.call (F70 (l := [a, compl b]) (by rw [X.a, hd, hr]; rfl) (by simp) ?_ fun r hr => ?_)
  · intro s hs
    simp only [List.mem_cons, List.not_mem_nil, or_false] at hs
    rcases hs with rfl | rfl
    · exact ha
    · have := (can_compl b).length; omega
  cbv
  exact h r hr

set_option maxRecDepth 100000 in
theorem F55 {a b : List (Int × Int)} {d e : D} {K : PV → List Ob → Prop} (hd : d = encL encX a) (he : e = encL encX b) (ha : a.length ≤ 2000000) (hb : b.length ≤ 2000000) (h : ∀ r, r = subset a b → K (.bool r) []) : FC Tryz.prog tt 55 [] [.lst 65 d, .lst 65 e] K := by
  refine FC.enter (G := g55) tt_ok mixed ⟨Tryz.func55, by rfl, rfl⟩ rfl rfl rfl ?_
  intro A C L X
  cbv
  refine X.call (F42 hd he ha hb fun r hr => ?_)
  cbv
  refine h _ ?_
  rw [hr, X.a]
  show Std.eq (Std.len _) 0 = _
  rw [Std_len, Std_eq, subset]
  cases minus a b <;> rfl

set_option maxRecDepth 100000 in
theorem F43 {p : Int} {K : PV → List Ob → Prop} (h : ∀ r, r = encL encX (canon [(p, 1000000)]) → K (.lst 65 r) []) : FC Tryz.prog tt 43 [] [.int .i64 p] K := by
  refine FC.enter (G := g43) tt_ok mixed ⟨Tryz.func43, by rfl, rfl⟩ rfl rfl rfl ?_
  intro A C L X
  cbv
  refine X.call (F32 (s := [(p, 1000000)]) (by rw [X.a]; rfl) (by simp) fun r hr => ?_)
  cbv
  exact h r hr
end Go.VC.T35
end

section
namespace Go.VC.T35
open Go Go.VC Go.Proofs


def few1 (t : Term) : Bool := decide (t.path.length ≤ 100) && decide (t.set.length ≤ 12)
def few (l : List Term) : Bool := l.all few1 && decide (l.length ≤ 12)

theorem subCbv {p : Prop} (h : p) : p := h

theorem few_fc (l : List Term) (K : PV → List Ob → Prop) (hl : l.length < 4294967296) (h : K (PV.bool (few l)) []) : FC Tryz.prog tt 17 [] [.lst 51 (encL encT l)] K := by
  refine FC.enter (G := {tt := tt, n := 29}) tt_ok mixed ⟨Tryz.func17, by rfl, rfl⟩ rfl rfl rfl ?_
  intro A C L X
  obtain ⟨T, hT⟩ : ∃ T, T = encL encT := ⟨_, rfl⟩
  rw [← hT]
  cbv
  refine X.loop (fun (i : Nat) => ⟨[(3, .int .i64 i), (2,.bl false), (0,.lst 51 (T l))], []⟩) (fun i => i ≤ l.length ∧ (l.take i).all few1 = true) (fun i => l.length - i) 0 ⟨Nat.zero_le _, rfl⟩ ?_ ?_
  · cbv
    exact ⟨⟨rfl, trivial⟩, trivial⟩
  rintro i ⟨hi, ha⟩
  cbv
  refine ⟨fun h1 => ?_, fun h1 => ?_⟩
  · cbv
    repeat' (first | apply And.intro | exact fun (_ : False → False) => by kernel_rfl | (intro h2; cbv) | apply Or.inl)
    all_goals (first | (refine ⟨i+1, ⟨?_, ?_⟩, ?_, ?_⟩) | skip)
    all_goals (try (exact subCbv (by cbv; exact ⟨⟨by rw [X.a]; rfl, trivial⟩, trivial⟩)))
    all_goals (obtain rfl := X.a; clear X; subst hT)
    all_goals (have hil := lt_of_lt h1)
    all_goals (have hc0 : Std.cell (encL encT l) (i : Int) 0 = .str l[i].path := by rw [Std_cell' hil]; rfl)
    all_goals (have hc2 : Std.cell (encL encT l) (i : Int) 2 = encL encX l[i].set := by rw [Std_cell' hil]; rfl)
    all_goals (simp only [hc0, hc2, Std_len, Std_lt, Std_str, Std_slen, Std_idx, Std_add, Std_inr64, bNot, Int.ofNat_eq_natCast, decide_eq_true_eq, decide_eq_false_iff_not] at *)
    · omega
    · omega
    · rw [show few l = false by simp only [few, all_false hil (show few1 l[i] = false by simp [few1]; omega), Bool.false_and]] at h; exact h
    · omega
    · omega
    · exact all_take hil ha (by simp [few1]; omega)
    · omega
    · rw [show few l = false by simp only [few, all_false hil (show few1 l[i] = false by simp [few1]; omega), Bool.false_and]] at h; exact h
  · cbv
    obtain rfl := X.a; subst hT
    have hil : i = l.length := by have := ge_of_lt h1; omega
    subst hil
    have hr : few l = decide (l.length ≤ 12) := by
      rw [List.take_length] at ha
      simp [few, ha]
    rw [hr] at h
    have e : decide (l.length ≤ 12) = Std.le (Std.len (encL encT l)) 12 := by
      rw [Std_len, Std_le]; apply decide_eq_decide.2; omega
    rw [e] at h
    exact h
theorem F17 {l : List Term} {d : D} {K : PV → List Ob → Prop} (hd : d = encL encT l) (hl : l.length < 4294967296) (h : ∀ r, r = few l → K (.bool r) []) : FC Tryz.prog tt 17 [] [.lst 51 d] K := by
  subst hd; exact few_fc l K hl (h _ rfl)
end Go.VC.T35
end

section
namespace Go.VC.T35
open Go Go.VC Go.Proofs


theorem take_eq_succ {α : Type} {l k : List α} {i : Nat} (h : i < l.length) (h' : i < k.length) (ht : l.take i = k.take i) (he : l[i] = k[i]) : l.take (i+1) = k.take (i+1) := by
  rw [List.take_succ_eq_append_getElem h, List.take_succ_eq_append_getElem h', ht, he]

theorem same31_fc (l k : List (Int × Int)) (K : PV → List Ob → Prop) (hl : l.length < 4294967296) (h : K (PV.bool (l == k)) []) : FC Tryz.prog tt 37 [] [.lst 65 (encL encX l), .lst 65 (encL encX k)] K := by
  refine FC.enter (G := {tt := tt, n := 26}) tt_ok mixed ⟨Tryz.func37, by rfl, rfl⟩ rfl rfl rfl ?_
  intro A C L X
  obtain ⟨T, hT⟩ : ∃ T, T = encL encX := ⟨_, rfl⟩
  rw [← hT]
  cbv
  refine ⟨fun h0 => ?_, fun h0 => ?_⟩
  · cbv
    obtain rfl := X.a; subst hT
    have : (l == k) = false := by
      simp only [Std_len, Std_eq, Std_not] at h0
      simp at h0
      exact beq_eq_false_iff_ne.2 (fun e => h0 (by rw [e]))
    rw [this] at h; exact h
  cbv
  have hlk : l.length = k.length := by
    obtain rfl := X.a; subst hT
    simp only [Std_len, Std_eq, Std_not] at h0
    simp at h0; omega
  refine X.loop (fun (i : Nat) => ⟨[(5, .int .i64 i), (4,.bl false), (0,.lst 65 (T l)), (1,.lst 65 (T k))], []⟩) (fun i => i ≤ l.length ∧ l.take i = k.take i) (fun i => l.length - i) 0 ⟨Nat.zero_le _, rfl⟩ ?_ ?_
  · cbv
    exact ⟨⟨rfl, trivial⟩, trivial⟩
  rintro i ⟨hi, ha⟩
  cbv
  refine ⟨fun h1 => ?_, fun h1 => ?_⟩
  · cbv
    repeat' (first | apply And.intro | exact fun (_ : False → False) => by kernel_rfl | (intro h2; cbv) | apply Or.inl)
    all_goals (first | (refine ⟨i+1, ⟨?_, ?_⟩, ?_, ?_⟩) | skip)
    all_goals (try (exact id (by cbv; exact ⟨⟨by rw [X.a]; rfl, trivial⟩, trivial⟩)))
    all_goals (obtain rfl := X.a; clear X; subst hT)
    all_goals (have hil := lt_of_lt h1)
    all_goals (have hkl : i < k.length := by omega)
    all_goals (have hc0 : Std.cell (encL encX l) (i : Int) 0 = .int l[i].1 := by rw [Std_cell' hil]; rfl)
    all_goals (have hc1 : Std.cell (encL encX l) (i : Int) 1 = .int l[i].2 := by rw [Std_cell' hil]; rfl)
    all_goals (have hd0 : Std.cell (encL encX k) (i : Int) 0 = .int k[i].1 := by rw [Std_cell' hkl]; rfl)
    all_goals (have hd1 : Std.cell (encL encX k) (i : Int) 1 = .int k[i].2 := by rw [Std_cell' hkl]; rfl)
    all_goals (simp only [hc0, hc1, hd0, hd1, Std_len, Std_lt, Std_str, Std_slen, Std_idx, Std_add, Std_inr64, Std_not, Std_ite, Std_eq, Std_int, bNot, Int.ofNat_eq_natCast, decide_eq_true_eq, decide_eq_false_iff_not] at *)
    · omega
    · omega
    · have : (l == k) = false := beq_eq_false_iff_ne.2 (fun e => by subst e; simp at h2)
      rw [this] at h; exact h
    · omega
    · omega
    · refine take_eq_succ hil hkl ha (Prod.ext ?_ ?_) <;> (cases e1 : (l[i].1 == k[i].1) <;> cases e2 : (l[i].2 == k[i].2) <;> simp_all)
    · omega
  · cbv
    obtain rfl := X.a; subst hT
    have hil : i = l.length := by have := ge_of_lt h1; omega
    subst hil
    have : (l == k) = true := by
      rw [List.take_length, hlk, List.take_length] at ha
      simp [ha]
    rw [this] at h; exact h
theorem F37 {l k : List (Int × Int)} {d e : D} {K : PV → List Ob → Prop} (hd : d = encL encX l) (he : e = encL encX k) (hl : l.length < 4294967296) (h : ∀ r, r = (l == k) → K (.bool r) []) : FC Tryz.prog tt 37 [] [.lst 65 d, .lst 65 e] K := by
  subst hd; subst he; exact same31_fc l k K hl (h _ rfl)
end Go.VC.T35
end

section
set_option linter.unusedSimpArgs false
set_option linter.unusedVariables false
namespace Go.VC.T35
open Go Go.VC Go.Proofs

set_option maxRecDepth 100000 in
theorem F10 {l k : List Term} {d e : D} {K : PV → List Ob → Prop} (hd : d = encL encT l) (he : e = encL encT k) (hl : l.length < 4294967296) (hs : ∀ t ∈ l, t.set.length < 4294967296) (h : ∀ r, r = decide (l = k) → K (.bool r) []) : FC Tryz.prog tt 10 [] [.lst 51 d, .lst 51 e] K := by
  refine FC.enter (G := g10) tt_ok mixed ⟨Tryz.func10, by rfl, rfl⟩ rfl rfl rfl ?_
  intro A C L X
  cbv
  refine ⟨fun h0 => ?_, fun h0 => ?_⟩
  · cbv
    refine h _ ?_
    subst hd; subst he; obtain rfl := X.a
    simp only [Std_x0, Std_x1, Std_len, Std_lt, Std_le, Std_eq, Std_add, Std_sub, Std_mul, Std_not, Std_ite, Std_str, Std_bool, Std_int, Std_slen, Std_seq, Std_slt', Std_beq, Std_idx, Std_bnd, Std_same, Std_max', Std_min', Std_partI, Std_app, Std_len_app, Std_len_lit, Std_len_setc, List.length_take, List.length_drop, List.length_append, List.length_cons, List.length_nil, Int.toNat_natCast, Std_inr64, bNot, Int.ofNat_eq_natCast, Int.natCast_zero, decide_eq_true_eq, decide_eq_false_iff_not, Bool.not_eq_true, Bool.not_eq_false, Bool.not_eq_eq_eq_not, Bool.not_true, Bool.not_false, beq_iff_eq, beq_eq_false_iff_ne, ne_eq, Bool.true_eq_false, Bool.false_eq_true, cond_true, cond_false] at h0
    have : ¬ l = k := fun e => by subst e; simp at h0
    simp [this]
  have hlk : l.length = k.length := by
    subst hd; subst he; obtain rfl := X.a
    simp only [Std_x0, Std_x1, Std_len, Std_lt, Std_le, Std_eq, Std_add, Std_sub, Std_mul, Std_not, Std_ite, Std_str, Std_bool, Std_int, Std_slen, Std_seq, Std_slt', Std_beq, Std_idx, Std_bnd, Std_same, Std_max', Std_min', Std_partI, Std_app, Std_len_app, Std_len_lit, Std_len_setc, List.length_take, List.length_drop, List.length_append, List.length_cons, List.length_nil, Int.toNat_natCast, Std_inr64, bNot, Int.ofNat_eq_natCast, Int.natCast_zero, decide_eq_true_eq, decide_eq_false_iff_not, Bool.not_eq_true, Bool.not_eq_false, Bool.not_eq_eq_eq_not, Bool.not_true, Bool.not_false, beq_iff_eq, beq_eq_false_iff_ne, ne_eq, Bool.true_eq_false, Bool.false_eq_true, cond_true, cond_false] at h0
    omega
  cbv
  refine X.loop (fun (i : Nat) => ⟨[(5, .int .i64 i), (4,.bl false), (0,.lst 51 d), (1,.lst 51 e)], []⟩) (fun i => i ≤ l.length ∧ l.take i = k.take i) (fun i => l.length - i) 0 ⟨Nat.zero_le _, rfl⟩ ?_ ?_
  · (cbv; repeat' apply And.intro); all_goals (try (first | trivial | rfl | (rw [X.a]; rfl)))
  rintro i ⟨hi, ha⟩
  cbv
  repeat' (first | apply And.intro | exact fun (_ : False → False) => by kernel_rfl | (intro h2; cbv) | apply Or.inl)
  all_goals try (subst hd; subst he; obtain rfl := X.a; clear X; simp only [Std_t0, Std_t1, Std_x0, Std_x1, Std_len, Std_lt, Std_le, Std_eq, Std_add, Std_sub, Std_mul, Std_not, Std_ite, Std_str, Std_bool, Std_int, Std_slen, Std_seq, Std_slt', Std_beq, Std_idx, Std_bnd, Std_same, Std_max', Std_min', Std_partI, Std_app, Std_len_app, Std_len_lit, Std_len_setc, List.length_take, List.length_drop, List.length_append, List.length_cons, List.length_nil, Int.toNat_natCast, Std_inr64, bNot, Int.ofNat_eq_natCast, Int.natCast_zero, decide_eq_true_eq, decide_eq_false_iff_not, Bool.not_eq_true, Bool.not_eq_false, Bool.not_eq_eq_eq_not, Bool.not_true, Bool.not_false, beq_iff_eq, beq_eq_false_iff_ne, ne_eq, Bool.true_eq_false, Bool.false_eq_true, cond_true, cond_false] at * <;> omega)
  · have h5 : i < l.length := by subst hd; obtain rfl := X.a; simp only [Std_t0, Std_t1, Std_x0, Std_x1, Std_len, Std_lt, Std_le, Std_eq, Std_add, Std_sub, Std_mul, Std_not, Std_ite, Std_str, Std_bool, Std_int, Std_slen, Std_seq, Std_slt', Std_beq, Std_idx, Std_bnd, Std_same, Std_max', Std_min', Std_partI, Std_app, Std_len_app, Std_len_lit, Std_len_setc, List.length_take, List.length_drop, List.length_append, List.length_cons, List.length_nil, Int.toNat_natCast, Std_inr64, bNot, Int.ofNat_eq_natCast, Int.natCast_zero, decide_eq_true_eq, decide_eq_false_iff_not, Bool.not_eq_true, Bool.not_eq_false, Bool.not_eq_eq_eq_not, Bool.not_true, Bool.not_false, beq_iff_eq, beq_eq_false_iff_ne, ne_eq, Bool.true_eq_false, Bool.false_eq_true, cond_true, cond_false] at *; omega
    have h6 : i < k.length := by omega
    have g5 : gt l (i : Int) = l[i] := gt_get i rfl h5
    have g6 : gt k (i : Int) = k[i] := gt_get i rfl h6
    have h7 : l[i].path = k[i].path ∧ l[i].absent = k[i].absent := by
      subst hd; subst he; obtain rfl := X.a; simp only [g5, g6, Std_t0, Std_t1, Std_x0, Std_x1, Std_len, Std_lt, Std_le, Std_eq, Std_add, Std_sub, Std_mul, Std_not, Std_ite, Std_str, Std_bool, Std_int, Std_slen, Std_seq, Std_slt', Std_beq, Std_idx, Std_bnd, Std_same, Std_max', Std_min', Std_partI, Std_app, Std_len_app, Std_len_lit, Std_len_setc, List.length_take, List.length_drop, List.length_append, List.length_cons, List.length_nil, Int.toNat_natCast, Std_inr64, bNot, Int.ofNat_eq_natCast, Int.natCast_zero, decide_eq_true_eq, decide_eq_false_iff_not, Bool.not_eq_true, Bool.not_eq_false, Bool.not_eq_eq_eq_not, Bool.not_true, Bool.not_false, beq_iff_eq, beq_eq_false_iff_ne, ne_eq, Bool.true_eq_false, Bool.false_eq_true, cond_true, cond_false] at *; exact ⟨by assumption, by assumption⟩
    have hs7 : l[i].set.length < 4294967296 := hs _ (List.getElem_mem h5)
    have e5 := encT_cell2 (l := l) (a := Int.ofNat i) i rfl h5
    have e6 := encT_cell2 (l := k) (a := Int.ofNat i) i rfl h6
    obtain ⟨x, hx⟩ : ∃ x, x = l[i] := ⟨_, rfl⟩
    obtain ⟨y, hy⟩ : ∃ y, y = k[i] := ⟨_, rfl⟩
    rw [← hx] at e5 h7 hs7
    rw [← hy] at e6 h7
    cbv
    refine X.call (F37 (l := x.set) (k := y.set) (by subst hd; obtain rfl := X.a; exact e5) (by subst he; obtain rfl := X.a; exact e6) hs7 fun r hr => ?_)
    cbv
    repeat' (first | apply And.intro | exact fun (_ : False → False) => by kernel_rfl | (intro h2; cbv) | apply Or.inl)
    · refine h _ ?_
      rename_i hn
      have : r = false := by obtain rfl := X.a; simp only [Std_t0, Std_t1, Std_x0, Std_x1, Std_len, Std_lt, Std_le, Std_eq, Std_add, Std_sub, Std_mul, Std_not, Std_ite, Std_str, Std_bool, Std_int, Std_slen, Std_seq, Std_slt', Std_beq, Std_idx, Std_bnd, Std_same, Std_max', Std_min', Std_partI, Std_app, Std_len_app, Std_len_lit, Std_len_setc, List.length_take, List.length_drop, List.length_append, List.length_cons, List.length_nil, Int.toNat_natCast, Std_inr64, bNot, Int.ofNat_eq_natCast, Int.natCast_zero, decide_eq_true_eq, decide_eq_false_iff_not, Bool.not_eq_true, Bool.not_eq_false, Bool.not_eq_eq_eq_not, Bool.not_true, Bool.not_false, beq_iff_eq, beq_eq_false_iff_ne, ne_eq, Bool.true_eq_false, Bool.false_eq_true, cond_true, cond_false] at *; assumption
      have hxy : ¬ l = k := fun e => by subst e; subst hx; subst hy; rw [hr] at this; simp at this
      simp [hxy]
    · subst hd; subst he; obtain rfl := X.a; simp only [Std_t0, Std_t1, Std_x0, Std_x1, Std_len, Std_lt, Std_le, Std_eq, Std_add, Std_sub, Std_mul, Std_not, Std_ite, Std_str, Std_bool, Std_int, Std_slen, Std_seq, Std_slt', Std_beq, Std_idx, Std_bnd, Std_same, Std_max', Std_min', Std_partI, Std_app, Std_len_app, Std_len_lit, Std_len_setc, List.length_take, List.length_drop, List.length_append, List.length_cons, List.length_nil, Int.toNat_natCast, Std_inr64, bNot, Int.ofNat_eq_natCast, Int.natCast_zero, decide_eq_true_eq, decide_eq_false_iff_not, Bool.not_eq_true, Bool.not_eq_false, Bool.not_eq_eq_eq_not, Bool.not_true, Bool.not_false, beq_iff_eq, beq_eq_false_iff_ne, ne_eq, Bool.true_eq_false, Bool.false_eq_true, cond_true, cond_false] at *; omega
    · have : r = true := by obtain rfl := X.a; simp only [Std_t0, Std_t1, Std_x0, Std_x1, Std_len, Std_lt, Std_le, Std_eq, Std_add, Std_sub, Std_mul, Std_not, Std_ite, Std_str, Std_bool, Std_int, Std_slen, Std_seq, Std_slt', Std_beq, Std_idx, Std_bnd, Std_same, Std_max', Std_min', Std_partI, Std_app, Std_len_app, Std_len_lit, Std_len_setc, List.length_take, List.length_drop, List.length_append, List.length_cons, List.length_nil, Int.toNat_natCast, Std_inr64, bNot, Int.ofNat_eq_natCast, Int.natCast_zero, decide_eq_true_eq, decide_eq_false_iff_not, Bool.not_eq_true, Bool.not_eq_false, Bool.not_eq_eq_eq_not, Bool.not_true, Bool.not_false, beq_iff_eq, beq_eq_false_iff_ne, ne_eq, Bool.true_eq_false, Bool.false_eq_true, cond_true, cond_false] at *; assumption
      have hxy : x = y := by
        rw [hr] at this
        obtain ⟨p, b, s⟩ := x; obtain ⟨p', b', s'⟩ := y
        obtain ⟨h8, h9⟩ := h7
        have h10 := eq_of_beq this
        simp only at h8 h9 h10
        subst h8; subst h9; subst h10; rfl
      rw [hx, hy] at hxy
      refine ⟨i+1, ⟨by omega, take_eq_succ h5 h6 ha hxy⟩, by omega, ?_⟩
      (cbv; repeat' apply And.intro); all_goals (try (first | trivial | rfl | (rw [X.a]; rfl)))
  · refine h _ ?_
    have h5 : i < l.length := by subst hd; obtain rfl := X.a; simp only [Std_t0, Std_t1, Std_x0, Std_x1, Std_len, Std_lt, Std_le, Std_eq, Std_add, Std_sub, Std_mul, Std_not, Std_ite, Std_str, Std_bool, Std_int, Std_slen, Std_seq, Std_slt', Std_beq, Std_idx, Std_bnd, Std_same, Std_max', Std_min', Std_partI, Std_app, Std_len_app, Std_len_lit, Std_len_setc, List.length_take, List.length_drop, List.length_append, List.length_cons, List.length_nil, Int.toNat_natCast, Std_inr64, bNot, Int.ofNat_eq_natCast, Int.natCast_zero, decide_eq_true_eq, decide_eq_false_iff_not, Bool.not_eq_true, Bool.not_eq_false, Bool.not_eq_eq_eq_not, Bool.not_true, Bool.not_false, beq_iff_eq, beq_eq_false_iff_ne, ne_eq, Bool.true_eq_false, Bool.false_eq_true, cond_true, cond_false] at *; omega
    have h6 : i < k.length := by omega
    have g5 : gt l (i : Int) = l[i] := gt_get i rfl h5
    have g6 : gt k (i : Int) = k[i] := gt_get i rfl h6
    have h7 : ¬ l[i].absent = k[i].absent := by
      subst hd; subst he; obtain rfl := X.a; simp only [g5, g6, Std_t0, Std_t1, Std_x0, Std_x1, Std_len, Std_lt, Std_le, Std_eq, Std_add, Std_sub, Std_mul, Std_not, Std_ite, Std_str, Std_bool, Std_int, Std_slen, Std_seq, Std_slt', Std_beq, Std_idx, Std_bnd, Std_same, Std_max', Std_min', Std_partI, Std_app, Std_len_app, Std_len_lit, Std_len_setc, List.length_take, List.length_drop, List.length_append, List.length_cons, List.length_nil, Int.toNat_natCast, Std_inr64, bNot, Int.ofNat_eq_natCast, Int.natCast_zero, decide_eq_true_eq, decide_eq_false_iff_not, Bool.not_eq_true, Bool.not_eq_false, Bool.not_eq_eq_eq_not, Bool.not_true, Bool.not_false, beq_iff_eq, beq_eq_false_iff_ne, ne_eq, Bool.true_eq_false, Bool.false_eq_true, cond_true, cond_false] at *; simp_all
    have hxy : ¬ l = k := fun e => by subst e; exact h7 rfl
    simp [hxy]
  · refine h _ ?_
    have h5 : i < l.length := by subst hd; obtain rfl := X.a; simp only [Std_t0, Std_t1, Std_x0, Std_x1, Std_len, Std_lt, Std_le, Std_eq, Std_add, Std_sub, Std_mul, Std_not, Std_ite, Std_str, Std_bool, Std_int, Std_slen, Std_seq, Std_slt', Std_beq, Std_idx, Std_bnd, Std_same, Std_max', Std_min', Std_partI, Std_app, Std_len_app, Std_len_lit, Std_len_setc, List.length_take, List.length_drop, List.length_append, List.length_cons, List.length_nil, Int.toNat_natCast, Std_inr64, bNot, Int.ofNat_eq_natCast, Int.natCast_zero, decide_eq_true_eq, decide_eq_false_iff_not, Bool.not_eq_true, Bool.not_eq_false, Bool.not_eq_eq_eq_not, Bool.not_true, Bool.not_false, beq_iff_eq, beq_eq_false_iff_ne, ne_eq, Bool.true_eq_false, Bool.false_eq_true, cond_true, cond_false] at *; omega
    have h6 : i < k.length := by omega
    have g5 : gt l (i : Int) = l[i] := gt_get i rfl h5
    have g6 : gt k (i : Int) = k[i] := gt_get i rfl h6
    have h7 : ¬ l[i].path = k[i].path := by
      subst hd; subst he; obtain rfl := X.a; simp only [g5, g6, Std_t0, Std_t1, Std_x0, Std_x1, Std_len, Std_lt, Std_le, Std_eq, Std_add, Std_sub, Std_mul, Std_not, Std_ite, Std_str, Std_bool, Std_int, Std_slen, Std_seq, Std_slt', Std_beq, Std_idx, Std_bnd, Std_same, Std_max', Std_min', Std_partI, Std_app, Std_len_app, Std_len_lit, Std_len_setc, List.length_take, List.length_drop, List.length_append, List.length_cons, List.length_nil, Int.toNat_natCast, Std_inr64, bNot, Int.ofNat_eq_natCast, Int.natCast_zero, decide_eq_true_eq, decide_eq_false_iff_not, Bool.not_eq_true, Bool.not_eq_false, Bool.not_eq_eq_eq_not, Bool.not_true, Bool.not_false, beq_iff_eq, beq_eq_false_iff_ne, ne_eq, Bool.true_eq_false, Bool.false_eq_true, cond_true, cond_false] at *; simp_all
    have hxy : ¬ l = k := fun e => by subst e; exact h7 rfl
    simp [hxy]
  · refine h _ ?_
    have h5 : i = l.length := by subst hd; obtain rfl := X.a; simp only [Std_t0, Std_t1, Std_x0, Std_x1, Std_len, Std_lt, Std_le, Std_eq, Std_add, Std_sub, Std_mul, Std_not, Std_ite, Std_str, Std_bool, Std_int, Std_slen, Std_seq, Std_slt', Std_beq, Std_idx, Std_bnd, Std_same, Std_max', Std_min', Std_partI, Std_app, Std_len_app, Std_len_lit, Std_len_setc, List.length_take, List.length_drop, List.length_append, List.length_cons, List.length_nil, Int.toNat_natCast, Std_inr64, bNot, Int.ofNat_eq_natCast, Int.natCast_zero, decide_eq_true_eq, decide_eq_false_iff_not, Bool.not_eq_true, Bool.not_eq_false, Bool.not_eq_eq_eq_not, Bool.not_true, Bool.not_false, beq_iff_eq, beq_eq_false_iff_ne, ne_eq, Bool.true_eq_false, Bool.false_eq_true, cond_true, cond_false] at *; omega
    rw [h5, List.take_length, hlk, List.take_length] at ha
    simp [ha]

set_option maxRecDepth 100000 in
theorem F77 {s : List (Int × Int)} {b : Bool} {p : List UInt8} {d : D} {K : PV → List Ob → Prop} (hd : d = encL encX s) (h : ∀ r, r = tNever ⟨p, b, s⟩ → K (.bool r) []) : FC Tryz.prog tt 77 [] [.agg [.str p, .bool b, .lst 65 d]] K := by
  refine FC.enter (G := g77) tt_ok mixed ⟨Tryz.func77, by rfl, rfl⟩ rfl rfl rfl ?_
  intro A C L X
  cbv
  repeat' (first | apply And.intro | exact fun (_ : False → False) => by kernel_rfl | (intro h2; cbv) | apply Or.inl)
  · refine h _ ?_
    subst hd; obtain rfl := X.a; simp only [Std_t0, Std_t1, Std_x0, Std_x1, Std_len, Std_lt, Std_le, Std_eq, Std_add, Std_sub, Std_mul, Std_not, Std_ite, Std_str, Std_bool, Std_int, Std_slen, Std_seq, Std_slt', Std_beq, Std_idx, Std_bnd, Std_same, Std_max', Std_min', Std_partI, Std_app, Std_len_app, Std_len_lit, Std_len_setc, List.length_take, List.length_drop, List.length_append, List.length_cons, List.length_nil, Int.toNat_natCast, Std_inr64, bNot, Int.ofNat_eq_natCast, Int.natCast_zero, decide_eq_true_eq, decide_eq_false_iff_not, Bool.not_eq_true, Bool.not_eq_false, Bool.not_eq_eq_eq_not, Bool.not_true, Bool.not_false, beq_iff_eq, beq_eq_false_iff_ne, ne_eq, Bool.true_eq_false, Bool.false_eq_true, cond_true, cond_false] at *
    rw [h2]
    rw [tNever]
    cases s <;> rfl
  · refine h _ ?_
    obtain rfl := X.a; simp only [Std_t0, Std_t1, Std_x0, Std_x1, Std_len, Std_lt, Std_le, Std_eq, Std_add, Std_sub, Std_mul, Std_not, Std_ite, Std_str, Std_bool, Std_int, Std_slen, Std_seq, Std_slt', Std_beq, Std_idx, Std_bnd, Std_same, Std_max', Std_min', Std_partI, Std_app, Std_len_app, Std_len_lit, Std_len_setc, List.length_take, List.length_drop, List.length_append, List.length_cons, List.length_nil, Int.toNat_natCast, Std_inr64, bNot, Int.ofNat_eq_natCast, Int.natCast_zero, decide_eq_true_eq, decide_eq_false_iff_not, Bool.not_eq_true, Bool.not_eq_false, Bool.not_eq_eq_eq_not, Bool.not_true, Bool.not_false, beq_iff_eq, beq_eq_false_iff_ne, ne_eq, Bool.true_eq_false, Bool.false_eq_true, cond_true, cond_false] at *
    simp [tNever, h2]

theorem F89 {K : PV → List Ob → Prop} (h : ∀ r, r = encL encX [(0, 1000000)] → K (.lst 65 r) []) : FC Tryz.prog tt 89 [] [] K := by
  refine FC.enter (G := g89) tt_ok mixed ⟨Tryz.func89, by rfl, rfl⟩ rfl rfl rfl ?_
  intro A C L X
  cbv
  refine h _ ?_
  rw [X.a]; rfl

set_option maxRecDepth 100000 in
theorem F78 {s : List (Int × Int)} {b : Bool} {p : List UInt8} {d : D} {K : PV → List Ob → Prop} (hd : d = encL encX s) (hs : s.length < 4294967296) (h : ∀ r, r = tAlways ⟨p, b, s⟩ → K (.bool r) []) : FC Tryz.prog tt 78 [] [.agg [.str p, .bool b, .lst 65 d]] K := by
  refine FC.enter (G := g78) tt_ok mixed ⟨Tryz.func78, by rfl, rfl⟩ rfl rfl rfl ?_
  intro A C L X
  cbv
  repeat' (first | apply And.intro | exact fun (_ : False → False) => by kernel_rfl | (intro h2; cbv) | apply Or.inl)
  · subst h2
    refine X.call (F89 fun r hr => ?_)
    cbv
    refine X.call (F37 hd hr hs fun r hr => ?_)
    cbv
    repeat' (first | apply And.intro | exact fun (_ : False → False) => by kernel_rfl | (intro h2; cbv) | apply Or.inl)
    all_goals refine h _ ?_
    all_goals (try rw [hr]; try simp [tAlways])
    all_goals (obtain rfl := X.a; simp [tAlways, hr, Std_ite])
  · refine h _ ?_
    simp only [bNot] at h2
    simp [tAlways, h2]

set_option maxRecDepth 100000 in
theorem F49 {l : List Term} {p : List UInt8} {d : D} {K : PV → List Ob → Prop} (hd : d = encL encT l) (hl : l.length < 4294967296) 
    (h0 : findT' l p = none → K (.tup [.agg [.str [], .bool false, .lst 65 (.list [])], .bool false]) [])
    (h1 : ∀ t e, findT' l p = some t → e = encL encX t.set → K (.tup [.agg [.str t.path, .bool t.absent, .lst 65 e], .bool true]) []) : FC Tryz.prog tt 49 [] [.lst 51 d, .str p] K := by
  refine FC.enter (G := g49) tt_ok mixed ⟨Tryz.func49, by rfl, rfl⟩ rfl rfl rfl ?_
  intro A C L X
  cbv
  refine X.loop (fun (i : Nat) => ⟨[(6, .int .i64 i), (5,.bl false), (4, .box 0 0), (0,.lst 51 d), (1,.str p)], [.box [.str [], .bl false, .lst 65 (.list [])]]⟩) (fun i => i ≤ l.length ∧ ∀ t ∈ l.take i, (t.path == p) = false) (fun i => l.length - i) 0 ⟨Nat.zero_le _, by simp⟩ ?_ ?_
  · (cbv; repeat' apply And.intro); all_goals (try (first | trivial | rfl | (rw [X.a]; rfl)))
  rintro i ⟨hi, ha⟩
  cbv
  repeat' (first | apply And.intro | exact fun (_ : False → False) => by kernel_rfl | (intro h2; cbv) | apply Or.inl)
  all_goals try (subst hd; obtain rfl := X.a; clear X; simp only [Std_t0, Std_t1, Std_x0, Std_x1, Std_len, Std_lt, Std_le, Std_eq, Std_add, Std_sub, Std_mul, Std_not, Std_ite, Std_str, Std_bool, Std_int, Std_slen, Std_seq, Std_slt', Std_beq, Std_idx, Std_bnd, Std_same, Std_max', Std_min', Std_partI, Std_app, Std_len_app, Std_len_lit, Std_len_setc, List.length_take, List.length_drop, List.length_append, List.length_cons, List.length_nil, Int.toNat_natCast, Std_inr64, bNot, Int.ofNat_eq_natCast, Int.natCast_zero, decide_eq_true_eq, decide_eq_false_iff_not, Bool.not_eq_true, Bool.not_eq_false, Bool.not_eq_eq_eq_not, Bool.not_true, Bool.not_false, beq_iff_eq, beq_eq_false_iff_ne, ne_eq, Bool.true_eq_false, Bool.false_eq_true, cond_true, cond_false] at * <;> omega)
  · have h5 : i < l.length := by subst hd; obtain rfl := X.a; simp only [Std_t0, Std_t1, Std_x0, Std_x1, Std_len, Std_lt, Std_le, Std_eq, Std_add, Std_sub, Std_mul, Std_not, Std_ite, Std_str, Std_bool, Std_int, Std_slen, Std_seq, Std_slt', Std_beq, Std_idx, Std_bnd, Std_same, Std_max', Std_min', Std_partI, Std_app, Std_len_app, Std_len_lit, Std_len_setc, List.length_take, List.length_drop, List.length_append, List.length_cons, List.length_nil, Int.toNat_natCast, Std_inr64, bNot, Int.ofNat_eq_natCast, Int.natCast_zero, decide_eq_true_eq, decide_eq_false_iff_not, Bool.not_eq_true, Bool.not_eq_false, Bool.not_eq_eq_eq_not, Bool.not_true, Bool.not_false, beq_iff_eq, beq_eq_false_iff_ne, ne_eq, Bool.true_eq_false, Bool.false_eq_true, cond_true, cond_false] at *; omega
    have g5 : gt l (i : Int) = l[i] := gt_get i rfl h5
    have h6 : l[i].path = p := by subst hd; obtain rfl := X.a; simp only [g5, Std_t0, Std_t1, Std_x0, Std_x1, Std_len, Std_lt, Std_le, Std_eq, Std_add, Std_sub, Std_mul, Std_not, Std_ite, Std_str, Std_bool, Std_int, Std_slen, Std_seq, Std_slt', Std_beq, Std_idx, Std_bnd, Std_same, Std_max', Std_min', Std_partI, Std_app, Std_len_app, Std_len_lit, Std_len_setc, List.length_take, List.length_drop, List.length_append, List.length_cons, List.length_nil, Int.toNat_natCast, Std_inr64, bNot, Int.ofNat_eq_natCast, Int.natCast_zero, decide_eq_true_eq, decide_eq_false_iff_not, Bool.not_eq_true, Bool.not_eq_false, Bool.not_eq_eq_eq_not, Bool.not_true, Bool.not_false, beq_iff_eq, beq_eq_false_iff_ne, ne_eq, Bool.true_eq_false, Bool.false_eq_true, cond_true, cond_false] at *; assumption
    have e5 := encT_cell2 (l := l) (a := Int.ofNat i) i rfl h5
    have h7 : findT' l p = some l[i] := by
      rw [findT', List.find?_eq_some_iff_append]
      refine ⟨by simp [h6], l.take i, l.drop (i+1), ?_, fun t ht => by simp [ha t ht]⟩
      rw [← List.drop_eq_getElem_cons h5, List.take_append_drop]
    have := h1 _ _ h7 rfl
    refine cast ?_ this
    subst hd; obtain rfl := X.a
    rw [← g5, ← Std_t0, ← Std_t1, g5]
    rw [← e5]
    rfl
  · have h5 : i < l.length := by subst hd; obtain rfl := X.a; simp only [Std_t0, Std_t1, Std_x0, Std_x1, Std_len, Std_lt, Std_le, Std_eq, Std_add, Std_sub, Std_mul, Std_not, Std_ite, Std_str, Std_bool, Std_int, Std_slen, Std_seq, Std_slt', Std_beq, Std_idx, Std_bnd, Std_same, Std_max', Std_min', Std_partI, Std_app, Std_len_app, Std_len_lit, Std_len_setc, List.length_take, List.length_drop, List.length_append, List.length_cons, List.length_nil, Int.toNat_natCast, Std_inr64, bNot, Int.ofNat_eq_natCast, Int.natCast_zero, decide_eq_true_eq, decide_eq_false_iff_not, Bool.not_eq_true, Bool.not_eq_false, Bool.not_eq_eq_eq_not, Bool.not_true, Bool.not_false, beq_iff_eq, beq_eq_false_iff_ne, ne_eq, Bool.true_eq_false, Bool.false_eq_true, cond_true, cond_false] at *; omega
    have g5 : gt l (i : Int) = l[i] := gt_get i rfl h5
    have h6 : ¬ l[i].path = p := by subst hd; obtain rfl := X.a; simp only [g5, Std_t0, Std_t1, Std_x0, Std_x1, Std_len, Std_lt, Std_le, Std_eq, Std_add, Std_sub, Std_mul, Std_not, Std_ite, Std_str, Std_bool, Std_int, Std_slen, Std_seq, Std_slt', Std_beq, Std_idx, Std_bnd, Std_same, Std_max', Std_min', Std_partI, Std_app, Std_len_app, Std_len_lit, Std_len_setc, List.length_take, List.length_drop, List.length_append, List.length_cons, List.length_nil, Int.toNat_natCast, Std_inr64, bNot, Int.ofNat_eq_natCast, Int.natCast_zero, decide_eq_true_eq, decide_eq_false_iff_not, Bool.not_eq_true, Bool.not_eq_false, Bool.not_eq_eq_eq_not, Bool.not_true, Bool.not_false, beq_iff_eq, beq_eq_false_iff_ne, ne_eq, Bool.true_eq_false, Bool.false_eq_true, cond_true, cond_false] at *; simp_all
    refine ⟨i+1, ⟨by omega, fun t ht => ?_⟩, by omega, ?_⟩
    · rw [take_succ' h5] at ht
      rcases List.mem_append.1 ht with ht | ht
      · exact ha t ht
      · simp at ht; subst ht; simp [h6]
    · (cbv; repeat' apply And.intro); all_goals (try (first | trivial | rfl | (rw [X.a]; rfl)))
  · have h5 : i = l.length := by subst hd; obtain rfl := X.a; simp only [Std_t0, Std_t1, Std_x0, Std_x1, Std_len, Std_lt, Std_le, Std_eq, Std_add, Std_sub, Std_mul, Std_not, Std_ite, Std_str, Std_bool, Std_int, Std_slen, Std_seq, Std_slt', Std_beq, Std_idx, Std_bnd, Std_same, Std_max', Std_min', Std_partI, Std_app, Std_len_app, Std_len_lit, Std_len_setc, List.length_take, List.length_drop, List.length_append, List.length_cons, List.length_nil, Int.toNat_natCast, Std_inr64, bNot, Int.ofNat_eq_natCast, Int.natCast_zero, decide_eq_true_eq, decide_eq_false_iff_not, Bool.not_eq_true, Bool.not_eq_false, Bool.not_eq_eq_eq_not, Bool.not_true, Bool.not_false, beq_iff_eq, beq_eq_false_iff_ne, ne_eq, Bool.true_eq_false, Bool.false_eq_true, cond_true, cond_false] at *; omega
    subst h5
    rw [List.take_length] at ha
    have h7 : findT' l p = none := by
      rw [findT', List.find?_eq_none]
      intro t ht; simp [ha t ht]
    exact h0 h7

set_option maxRecDepth 100000 in
theorem F51 {l : List Term} {p : List UInt8} {d : D} {K : PV → List Ob → Prop} (hd : d = encL encT l) (hl : l.length < 4294967296) (h : ∀ r, r = encL encT (without l p) → K (.lst 51 r) []) : FC Tryz.prog tt 51 [] [.lst 51 d, .str p] K := by
  refine FC.enter (G := g51) tt_ok mixed ⟨Tryz.func51, by rfl, rfl⟩ rfl rfl rfl ?_
  intro A C L X
  obtain ⟨T, hT⟩ : ∃ T, T =  encL encT := ⟨_, rfl⟩
  cbv
  refine X.loop (fun (x : Nat × List Term) => ⟨[(6, .int .i64 x.1), (5,.row 51 0), (0,.lst 51 d), (1,.str p)], [.row 51 (T x.2) true]⟩) (fun x => x.1 ≤ l.length ∧ x.2.length ≤ x.1 ∧ x.2 = without (l.take x.1) p) (fun x => l.length - x.1) (0, []) ⟨Nat.zero_le _, Nat.zero_le _, rfl⟩ ?_ ?_
  · (cbv; repeat' apply And.intro); all_goals (try (first | trivial | rfl | (rw [X.a]; rfl)))
    rw [X.a, hT]; rfl
  rintro ⟨i, o⟩ ⟨hi, hol, ho⟩
  dsimp only at hi hol ho ⊢
  cbv
  repeat' (first | apply And.intro | exact fun (_ : False → False) => by kernel_rfl | (intro h2; cbv) | apply Or.inl)
  all_goals try (subst hd; obtain rfl := X.a; clear X; subst hT; simp only [Std_t0, Std_t1, Std_x0, Std_x1, Std_len, Std_lt, Std_le, Std_eq, Std_add, Std_sub, Std_mul, Std_not, Std_ite, Std_str, Std_bool, Std_int, Std_slen, Std_seq, Std_slt', Std_beq, Std_idx, Std_bnd, Std_same, Std_max', Std_min', Std_partI, Std_app, Std_len_app, Std_len_lit, Std_len_setc, List.length_take, List.length_drop, List.length_append, List.length_cons, List.length_nil, Int.toNat_natCast, Std_inr64, bNot, Int.ofNat_eq_natCast, Int.natCast_zero, decide_eq_true_eq, decide_eq_false_iff_not, Bool.not_eq_true, Bool.not_eq_false, Bool.not_eq_eq_eq_not, Bool.not_true, Bool.not_false, beq_iff_eq, beq_eq_false_iff_ne, ne_eq, Bool.true_eq_false, Bool.false_eq_true, cond_true, cond_false] at * <;> omega)
  · have h5 : i < l.length := by subst hd; obtain rfl := X.a; simp only [Std_t0, Std_t1, Std_x0, Std_x1, Std_len, Std_lt, Std_le, Std_eq, Std_add, Std_sub, Std_mul, Std_not, Std_ite, Std_str, Std_bool, Std_int, Std_slen, Std_seq, Std_slt', Std_beq, Std_idx, Std_bnd, Std_same, Std_max', Std_min', Std_partI, Std_app, Std_len_app, Std_len_lit, Std_len_setc, List.length_take, List.length_drop, List.length_append, List.length_cons, List.length_nil, Int.toNat_natCast, Std_inr64, bNot, Int.ofNat_eq_natCast, Int.natCast_zero, decide_eq_true_eq, decide_eq_false_iff_not, Bool.not_eq_true, Bool.not_eq_false, Bool.not_eq_eq_eq_not, Bool.not_true, Bool.not_false, beq_iff_eq, beq_eq_false_iff_ne, ne_eq, Bool.true_eq_false, Bool.false_eq_true, cond_true, cond_false] at *; omega
    have g5 : gt l (i : Int) = l[i] := gt_get i rfl h5
    have h6 : ¬ l[i].path = p := by subst hd; obtain rfl := X.a; simp only [g5, Std_t0, Std_t1, Std_x0, Std_x1, Std_len, Std_lt, Std_le, Std_eq, Std_add, Std_sub, Std_mul, Std_not, Std_ite, Std_str, Std_bool, Std_int, Std_slen, Std_seq, Std_slt', Std_beq, Std_idx, Std_bnd, Std_same, Std_max', Std_min', Std_partI, Std_app, Std_len_app, Std_len_lit, Std_len_setc, List.length_take, List.length_drop, List.length_append, List.length_cons, List.length_nil, Int.toNat_natCast, Std_inr64, bNot, Int.ofNat_eq_natCast, Int.natCast_zero, decide_eq_true_eq, decide_eq_false_iff_not, Bool.not_eq_true, Bool.not_eq_false, Bool.not_eq_eq_eq_not, Bool.not_true, Bool.not_false, beq_iff_eq, beq_eq_false_iff_ne, ne_eq, Bool.true_eq_false, Bool.false_eq_true, cond_true, cond_false] at *; simp_all
    have e5 := encT_cell2 (l := l) (a := Int.ofNat i) i rfl h5
    obtain ⟨o2, ho2⟩ : ∃ o2, o2 = o ++ [l[i]] := ⟨_, rfl⟩
    have h8 : o2 = without (l.take (i+1)) p := by
      rw [ho2, ho, take_succ' h5, without, without, List.filter_append]; simp only [List.filter_cons, List.filter_nil]; rw [if_pos (by simp [h6])]
    refine ⟨(i+1, o2), ⟨by dsimp only; omega, by subst ho2; simpa using hol, h8⟩, by dsimp only; omega, ?_⟩
    (cbv; repeat' apply And.intro); all_goals (try (first | trivial | rfl | (rw [X.a]; rfl)))
    obtain rfl := X.a; subst hT; subst ho2; subst hd
    refine Std_app' rfl (lit1e l[i] ?_)
    rw [encT, ← g5, ← Std_t0, ← Std_t1, g5, ← e5]; rfl
  · have h5 : i < l.length := by subst hd; obtain rfl := X.a; simp only [Std_t0, Std_t1, Std_x0, Std_x1, Std_len, Std_lt, Std_le, Std_eq, Std_add, Std_sub, Std_mul, Std_not, Std_ite, Std_str, Std_bool, Std_int, Std_slen, Std_seq, Std_slt', Std_beq, Std_idx, Std_bnd, Std_same, Std_max', Std_min', Std_partI, Std_app, Std_len_app, Std_len_lit, Std_len_setc, List.length_take, List.length_drop, List.length_append, List.length_cons, List.length_nil, Int.toNat_natCast, Std_inr64, bNot, Int.ofNat_eq_natCast, Int.natCast_zero, decide_eq_true_eq, decide_eq_false_iff_not, Bool.not_eq_true, Bool.not_eq_false, Bool.not_eq_eq_eq_not, Bool.not_true, Bool.not_false, beq_iff_eq, beq_eq_false_iff_ne, ne_eq, Bool.true_eq_false, Bool.false_eq_true, cond_true, cond_false] at *; omega
    have g5 : gt l (i : Int) = l[i] := gt_get i rfl h5
    have h6 : l[i].path = p := by subst hd; obtain rfl := X.a; simp only [g5, Std_t0, Std_t1, Std_x0, Std_x1, Std_len, Std_lt, Std_le, Std_eq, Std_add, Std_sub, Std_mul, Std_not, Std_ite, Std_str, Std_bool, Std_int, Std_slen, Std_seq, Std_slt', Std_beq, Std_idx, Std_bnd, Std_same, Std_max', Std_min', Std_partI, Std_app, Std_len_app, Std_len_lit, Std_len_setc, List.length_take, List.length_drop, List.length_append, List.length_cons, List.length_nil, Int.toNat_natCast, Std_inr64, bNot, Int.ofNat_eq_natCast, Int.natCast_zero, decide_eq_true_eq, decide_eq_false_iff_not, Bool.not_eq_true, Bool.not_eq_false, Bool.not_eq_eq_eq_not, Bool.not_true, Bool.not_false, beq_iff_eq, beq_eq_false_iff_ne, ne_eq, Bool.true_eq_false, Bool.false_eq_true, cond_true, cond_false] at *; assumption
    have h8 : o = without (l.take (i+1)) p := by
      rw [ho, take_succ' h5, without, without, List.filter_append]; simp only [List.filter_cons, List.filter_nil]; simp only [h6, beq_self_eq_true, Bool.not_true, Bool.false_eq_true, if_false, List.append_nil]
    refine ⟨(i+1, o), ⟨by dsimp only; omega, by dsimp only; omega, h8⟩, by dsimp only; omega, ?_⟩
    (cbv; repeat' apply And.intro); all_goals (try (first | trivial | rfl | (rw [X.a]; rfl)))
  · have h5 : i = l.length := by subst hd; obtain rfl := X.a; simp only [Std_t0, Std_t1, Std_x0, Std_x1, Std_len, Std_lt, Std_le, Std_eq, Std_add, Std_sub, Std_mul, Std_not, Std_ite, Std_str, Std_bool, Std_int, Std_slen, Std_seq, Std_slt', Std_beq, Std_idx, Std_bnd, Std_same, Std_max', Std_min', Std_partI, Std_app, Std_len_app, Std_len_lit, Std_len_setc, List.length_take, List.length_drop, List.length_append, List.length_cons, List.length_nil, Int.toNat_natCast, Std_inr64, bNot, Int.ofNat_eq_natCast, Int.natCast_zero, decide_eq_true_eq, decide_eq_false_iff_not, Bool.not_eq_true, Bool.not_eq_false, Bool.not_eq_eq_eq_not, Bool.not_true, Bool.not_false, beq_iff_eq, beq_eq_false_iff_ne, ne_eq, Bool.true_eq_false, Bool.false_eq_true, cond_true, cond_false] at *; omega
    rw [h5, List.take_length] at ho
    refine h _ ?_
    rw [← ho, hT]
end Go.VC.T35
end

section
set_option linter.unusedSimpArgs false
set_option linter.unusedVariables false
namespace Go.VC.T35
open Go Go.VC Go.Proofs

set_option maxRecDepth 100000 in
set_option maxHeartbeats 2000000 in
theorem F48 {l : List Term} {d : D} {K : PV → List Ob → Prop} (hd : d = encL encT l) (hl : l.length ≤ 1000) (hs : ∀ t ∈ l, t.set.length ≤ 2000000)
    (h : ∀ r b, r = encL encT (canonT l).1 → b = (canonT l).2 → K (.tup [.lst 51 r, .bool b]) []) : FC Tryz.prog tt 48 [] [.lst 51 d] K := by
  refine FC.enter (G := g48) tt_ok mixed ⟨Tryz.func48, by rfl, rfl⟩ rfl rfl rfl ?_
  intro A C L X
  obtain ⟨T, hT⟩ : ∃ T, T =  encL encT := ⟨_, rfl⟩
  cbv
  refine X.loopP (fun (x : Nat × List Term) => ⟨[(5, .int .i64 x.1), (4,.row 51 0), (0,.lst 51 d)], [.row 51 (T x.2) true]⟩) (fun x => x.1 ≤ l.length ∧ x.2 = mergedT [] (l.take x.1)) (fun x => l.length - x.1) (0, []) ⟨Nat.zero_le _, rfl⟩ ?_ ?_
  · refine ⟨[0], ?_⟩
    (cbv; repeat' apply And.intro); all_goals (try (first | trivial | rfl | (rw [X.a]; rfl)))
    rw [X.a, hT]; rfl
  rintro ⟨i, M⟩ ⟨hi, hM⟩
  dsimp only at hi hM ⊢
  have hMl : M.length ≤ i := by
    have := length_mergedT (m := []) (l := l.take i); rw [← hM] at this; simp at this; omega
  have hMc : CanT M := by rw [hM]; exact CanT.mergedT (fun t ht => by simp at ht)
  cbv
  refine ⟨fun h1 => ?_, fun h1 => ?_⟩
  · have h5 : i < l.length := by subst hd; obtain rfl := X.a; simp only [Std_t0, Std_t1, Std_x0, Std_x1, Std_len, Std_lt, Std_le, Std_eq, Std_add, Std_sub, Std_mul, Std_not, Std_ite, Std_str, Std_bool, Std_int, Std_slen, Std_seq, Std_slt', Std_beq, Std_idx, Std_bnd, Std_same, Std_max', Std_min', Std_partI, Std_app, Std_len_app, Std_len_lit, Std_len_setc, List.length_take, List.length_drop, List.length_append, List.length_cons, List.length_nil, Int.toNat_natCast, Std_inr64, bNot, Int.ofNat_eq_natCast, Int.natCast_zero, decide_eq_true_eq, decide_eq_false_iff_not, Bool.not_eq_true, Bool.not_eq_false, Bool.not_eq_eq_eq_not, Bool.not_true, Bool.not_false, beq_iff_eq, beq_eq_false_iff_ne, ne_eq, Bool.true_eq_false, Bool.false_eq_true, cond_true, cond_false] at *; omega
    have e5 := encT_cell2 (l := l) (a := Int.ofNat i) i rfl h5
    have hsi : l[i].set.length ≤ 2000000 := hs _ (List.getElem_mem h5)
    have hM2 : mergedT [] (l.take (i+1)) = addT (normT l[i]) M := by rw [take_succ' h5, mergedT_snoc, ← hM]
    have g5 : gt l (Int.ofNat i) = l[i] := gt_get i rfl h5
    obtain ⟨t, ht⟩ : ∃ t, t = l[i] := ⟨_, rfl⟩
    rw [← ht] at e5 hsi hM2 g5
    cbv
    refine X.cut (fun (r : D) => ⟨[(6, .box 1 0), (5, .int .i64 i), (4,.row 51 0), (0,.lst 51 d)], [.row 51 (T M) true, .box [.str (A.asStr (A.cell d (Int.ofNat i) 0)), .bool (A.asBool (A.cell d (Int.ofNat i) 1)), .lst 65 r]]⟩) (fun r => r = encL encX (canon t.set)) ?_ fun r hr => ?_
    · cbv
      repeat' (first | apply And.intro | exact fun (_ : False → False) => by kernel_rfl | (intro h2; cbv) | apply Or.inl)
      all_goals try (subst hd; obtain rfl := X.a; clear X; subst hT; simp only [Std_t0, Std_t1, Std_x0, Std_x1, Std_len, Std_lt, Std_le, Std_eq, Std_add, Std_sub, Std_mul, Std_not, Std_ite, Std_str, Std_bool, Std_int, Std_slen, Std_seq, Std_slt', Std_beq, Std_idx, Std_bnd, Std_same, Std_max', Std_min', Std_partI, Std_app, Std_len_app, Std_len_lit, Std_len_setc, List.length_take, List.length_drop, List.length_append, List.length_cons, List.length_nil, Int.toNat_natCast, Std_inr64, bNot, Int.ofNat_eq_natCast, Int.natCast_zero, decide_eq_true_eq, decide_eq_false_iff_not, Bool.not_eq_true, Bool.not_eq_false, Bool.not_eq_eq_eq_not, Bool.not_true, Bool.not_false, beq_iff_eq, beq_eq_false_iff_ne, ne_eq, Bool.true_eq_false, Bool.false_eq_true, cond_true, cond_false] at * <;> omega)
      all_goals refine X.call (F32 (s := t.set) (by subst hd; obtain rfl := X.a; exact e5) (by omega) fun r hr => ?_)
      all_goals cbv
      all_goals refine ⟨r, hr, [0, 1], ?_⟩
      all_goals (cbv; repeat' apply And.intro); all_goals (try (first | trivial | rfl | (rw [X.a]; rfl)))
    · cbv
      refine X.loop (fun (k : Nat) => ⟨[(7, .int .i64 k), (6, .box 1 0), (5, .int .i64 i), (4,.row 51 0), (0,.lst 51 d)], [.row 51 (T M) true, .box [.str (A.asStr (A.cell d (Int.ofNat i) 0)), .bool (A.asBool (A.cell d (Int.ofNat i) 1)), .lst 65 r]]⟩) (fun k => k ≤ M.length ∧ ∀ u ∈ M.take k, slt u.path t.path = true) (fun k => M.length - k) 0 ⟨Nat.zero_le _, by simp⟩ ?_ ?_
      · (cbv; repeat' apply And.intro); all_goals (try (first | trivial | rfl | (rw [X.a]; rfl)))
      rintro k ⟨hk, hka⟩
      cbv
      repeat' (first | apply And.intro | exact fun (_ : False → False) => by kernel_rfl | (intro h2; cbv) | apply Or.inl)
      all_goals have g5' : gt l (i : Int) = t := g5
      all_goals try (subst hd; obtain rfl := X.a; clear X; subst hT; simp only [Std_t0, Std_t1, Std_x0, Std_x1, Std_len, Std_lt, Std_le, Std_eq, Std_add, Std_sub, Std_mul, Std_not, Std_ite, Std_str, Std_bool, Std_int, Std_slen, Std_seq, Std_slt', Std_beq, Std_idx, Std_bnd, Std_same, Std_max', Std_min', Std_partI, Std_app, Std_len_app, Std_len_lit, Std_len_setc, List.length_take, List.length_drop, List.length_append, List.length_cons, List.length_nil, Int.toNat_natCast, Std_inr64, bNot, Int.ofNat_eq_natCast, Int.natCast_zero, decide_eq_true_eq, decide_eq_false_iff_not, Bool.not_eq_true, Bool.not_eq_false, Bool.not_eq_eq_eq_not, Bool.not_true, Bool.not_false, beq_iff_eq, beq_eq_false_iff_ne, ne_eq, Bool.true_eq_false, Bool.false_eq_true, cond_true, cond_false] at * <;> omega)
      · have hk' : k < M.length := by subst hd; obtain rfl := X.a; subst hT; simp only [Std_t0, Std_t1, Std_x0, Std_x1, Std_len, Std_lt, Std_le, Std_eq, Std_add, Std_sub, Std_mul, Std_not, Std_ite, Std_str, Std_bool, Std_int, Std_slen, Std_seq, Std_slt', Std_beq, Std_idx, Std_bnd, Std_same, Std_max', Std_min', Std_partI, Std_app, Std_len_app, Std_len_lit, Std_len_setc, List.length_take, List.length_drop, List.length_append, List.length_cons, List.length_nil, Int.toNat_natCast, Std_inr64, bNot, Int.ofNat_eq_natCast, Int.natCast_zero, decide_eq_true_eq, decide_eq_false_iff_not, Bool.not_eq_true, Bool.not_eq_false, Bool.not_eq_eq_eq_not, Bool.not_true, Bool.not_false, beq_iff_eq, beq_eq_false_iff_ne, ne_eq, Bool.true_eq_false, Bool.false_eq_true, cond_true, cond_false] at *; omega
        have gk : gt M (k : Int) = M[k] := gt_get k rfl hk'
        have h6 : slt M[k].path t.path = true := by subst hd; obtain rfl := X.a; subst hT; simp only [g5', gk, Std_t0, Std_t1, Std_x0, Std_x1, Std_len, Std_lt, Std_le, Std_eq, Std_add, Std_sub, Std_mul, Std_not, Std_ite, Std_str, Std_bool, Std_int, Std_slen, Std_seq, Std_slt', Std_beq, Std_idx, Std_bnd, Std_same, Std_max', Std_min', Std_partI, Std_app, Std_len_app, Std_len_lit, Std_len_setc, List.length_take, List.length_drop, List.length_append, List.length_cons, List.length_nil, Int.toNat_natCast, Std_inr64, bNot, Int.ofNat_eq_natCast, Int.natCast_zero, decide_eq_true_eq, decide_eq_false_iff_not, Bool.not_eq_true, Bool.not_eq_false, Bool.not_eq_eq_eq_not, Bool.not_true, Bool.not_false, beq_iff_eq, beq_eq_false_iff_ne, ne_eq, Bool.true_eq_false, Bool.false_eq_true, cond_true, cond_false] at *; assumption
        refine ⟨k+1, ⟨by omega, ?_⟩, by omega, ?_⟩
        · intro u hu
          rw [take_succ' hk'] at hu
          rcases List.mem_append.1 hu with hu | hu
          · exact hka u hu
          · simp only [List.mem_singleton] at hu; rw [hu]; exact h6
        · (cbv; repeat' apply And.intro); all_goals (try (first | trivial | rfl | (rw [X.a]; rfl)))
      iterate 2
        · have hk' : k < M.length := by subst hd; obtain rfl := X.a; subst hT; simp only [Std_t0, Std_t1, Std_x0, Std_x1, Std_len, Std_lt, Std_le, Std_eq, Std_add, Std_sub, Std_mul, Std_not, Std_ite, Std_str, Std_bool, Std_int, Std_slen, Std_seq, Std_slt', Std_beq, Std_idx, Std_bnd, Std_same, Std_max', Std_min', Std_partI, Std_app, Std_len_app, Std_len_lit, Std_len_setc, List.length_take, List.length_drop, List.length_append, List.length_cons, List.length_nil, Int.toNat_natCast, Std_inr64, bNot, Int.ofNat_eq_natCast, Int.natCast_zero, decide_eq_true_eq, decide_eq_false_iff_not, Bool.not_eq_true, Bool.not_eq_false, Bool.not_eq_eq_eq_not, Bool.not_true, Bool.not_false, beq_iff_eq, beq_eq_false_iff_ne, ne_eq, Bool.true_eq_false, Bool.false_eq_true, cond_true, cond_false] at *; omega
          have gk : gt M (k : Int) = M[k] := gt_get k rfl hk'
          obtain ⟨h6, h7, h8⟩ : slt M[k].path t.path = false ∧ M[k].path = t.path ∧ (M[k].absent = true ∨ M[k].absent = false) := by
            subst hd; obtain rfl := X.a; subst hT; simp only [g5', gk, Std_t0, Std_t1, Std_x0, Std_x1, Std_len, Std_lt, Std_le, Std_eq, Std_add, Std_sub, Std_mul, Std_not, Std_ite, Std_str, Std_bool, Std_int, Std_slen, Std_seq, Std_slt', Std_beq, Std_idx, Std_bnd, Std_same, Std_max', Std_min', Std_partI, Std_app, Std_len_app, Std_len_lit, Std_len_setc, List.length_take, List.length_drop, List.length_append, List.length_cons, List.length_nil, Int.toNat_natCast, Std_inr64, bNot, Int.ofNat_eq_natCast, Int.natCast_zero, decide_eq_true_eq, decide_eq_false_iff_not, Bool.not_eq_true, Bool.not_eq_false, Bool.not_eq_eq_eq_not, Bool.not_true, Bool.not_false, beq_iff_eq, beq_eq_false_iff_ne, ne_eq, Bool.true_eq_false, Bool.false_eq_true, cond_true, cond_false] at *; exact ⟨by assumption, by assumption, by simp_all⟩
          have hM3 := addT_set hk' hka h6 h7
          have hmc : M[k].set.length ≤ 1000001 := (hMc _ (List.getElem_mem hk')).length
          have hr9 := fun v => upd2 (M := M) (k := k) hk' (v := v) (t := t)
          have hc9 := fun v => upd1c (M := M) (k := k) hk' (v := v)
          obtain ⟨M3, hM4⟩ : ∃ M3, M3 = M.set k (both M[k] (normT t)) := ⟨_, rfl⟩
          have habs : M[k].absent = (gt M (k : Int)).absent := by rw [gk]
          obtain ⟨m, hm⟩ : ∃ m, m = M[k] := ⟨_, rfl⟩
          rw [← hm] at habs hmc hr9 hc9
          cbv
          refine X.call (F70 (l := [m.set, canon t.set]) (by subst hd; subst hr; obtain rfl := X.a; subst hT; exact lit2 (congrArg (fun z => [z]) (hc9 _)) rfl) (by simp) ?_ fun r2 hr2 => ?_)
          · intro s hs'
            simp only [List.mem_cons, List.not_mem_nil, or_false] at hs'
            rcases hs' with rfl | rfl
            · omega
            · have := (can_canon t.set).length; omega
          cbv
          repeat' (first | apply And.intro | exact fun (_ : False → False) => by kernel_rfl | (intro h2; cbv) | apply Or.inl)
          all_goals try (subst hd; obtain rfl := X.a; clear X; subst hT; simp only [Std_t0, Std_t1, Std_x0, Std_x1, Std_len, Std_lt, Std_le, Std_eq, Std_add, Std_sub, Std_mul, Std_not, Std_ite, Std_str, Std_bool, Std_int, Std_slen, Std_seq, Std_slt', Std_beq, Std_idx, Std_bnd, Std_same, Std_max', Std_min', Std_partI, Std_app, Std_len_app, Std_len_lit, Std_len_setc, List.length_take, List.length_drop, List.length_append, List.length_cons, List.length_nil, Int.toNat_natCast, Std_inr64, bNot, Int.ofNat_eq_natCast, Int.natCast_zero, decide_eq_true_eq, decide_eq_false_iff_not, Bool.not_eq_true, Bool.not_eq_false, Bool.not_eq_eq_eq_not, Bool.not_true, Bool.not_false, beq_iff_eq, beq_eq_false_iff_ne, ne_eq, Bool.true_eq_false, Bool.false_eq_true, cond_true, cond_false] at * <;> omega)
          refine ⟨(i+1, M3), ⟨by dsimp only; omega, by dsimp only; rw [hM4, hM2, hM3]⟩, by dsimp only; omega, [0], ?_⟩
          (cbv; repeat' apply And.intro); all_goals (try (first | trivial | rfl | (rw [X.a]; rfl)))
          rw [hM4]
          obtain rfl := X.a; subst hd; subst hT
          subst hm
          refine hr9 _ ?_ hr2
          first
            | (show Std.asBool (Std.cell (encL encT l) (i : Int) 1) = _; rw [Std_t1, g5']; simp only [gk, Std_t0, Std_t1, Std_x0, Std_x1, Std_len, Std_lt, Std_le, Std_eq, Std_add, Std_sub, Std_mul, Std_not, Std_ite, Std_str, Std_bool, Std_int, Std_slen, Std_seq, Std_slt', Std_beq, Std_idx, Std_bnd, Std_same, Std_max', Std_min', Std_partI, Std_app, Std_len_app, Std_len_lit, Std_len_setc, List.length_take, List.length_drop, List.length_append, List.length_cons, List.length_nil, Int.toNat_natCast, Std_inr64, bNot, Int.ofNat_eq_natCast, Int.natCast_zero, decide_eq_true_eq, decide_eq_false_iff_not, Bool.not_eq_true, Bool.not_eq_false, Bool.not_eq_eq_eq_not, Bool.not_true, Bool.not_false, beq_iff_eq, beq_eq_false_iff_ne, ne_eq, Bool.true_eq_false, Bool.false_eq_true, cond_true, cond_false] at *; simp_all)
            | (simp only [gk, Std_t0, Std_t1, Std_x0, Std_x1, Std_len, Std_lt, Std_le, Std_eq, Std_add, Std_sub, Std_mul, Std_not, Std_ite, Std_str, Std_bool, Std_int, Std_slen, Std_seq, Std_slt', Std_beq, Std_idx, Std_bnd, Std_same, Std_max', Std_min', Std_partI, Std_app, Std_len_app, Std_len_lit, Std_len_setc, List.length_take, List.length_drop, List.length_append, List.length_cons, List.length_nil, Int.toNat_natCast, Std_inr64, bNot, Int.ofNat_eq_natCast, Int.natCast_zero, decide_eq_true_eq, decide_eq_false_iff_not, Bool.not_eq_true, Bool.not_eq_false, Bool.not_eq_eq_eq_not, Bool.not_true, Bool.not_false, beq_iff_eq, beq_eq_false_iff_ne, ne_eq, Bool.true_eq_false, Bool.false_eq_true, cond_true, cond_false] at *; simp_all)
      iterate 2
        · have hM3 : addT (normT t) M = M.take k ++ normT t :: M.drop k := by
            refine addT_ins hk hka fun hk' => ?_
            have gk : gt M (k : Int) = M[k] := gt_get k rfl hk'
            subst hd; obtain rfl := X.a; subst hT
            first
              | (simp only [g5', gk, Std_t0, Std_t1, Std_x0, Std_x1, Std_len, Std_lt, Std_le, Std_eq, Std_add, Std_sub, Std_mul, Std_not, Std_ite, Std_str, Std_bool, Std_int, Std_slen, Std_seq, Std_slt', Std_beq, Std_idx, Std_bnd, Std_same, Std_max', Std_min', Std_partI, Std_app, Std_len_app, Std_len_lit, Std_len_setc, List.length_take, List.length_drop, List.length_append, List.length_cons, List.length_nil, Int.toNat_natCast, Std_inr64, bNot, Int.ofNat_eq_natCast, Int.natCast_zero, decide_eq_true_eq, decide_eq_false_iff_not, Bool.not_eq_true, Bool.not_eq_false, Bool.not_eq_eq_eq_not, Bool.not_true, Bool.not_false, beq_iff_eq, beq_eq_false_iff_ne, ne_eq, Bool.true_eq_false, Bool.false_eq_true, cond_true, cond_false] at *; exact ⟨by assumption, by assumption⟩)
              | (exfalso; simp only [g5', gk, Std_t0, Std_t1, Std_x0, Std_x1, Std_len, Std_lt, Std_le, Std_eq, Std_add, Std_sub, Std_mul, Std_not, Std_ite, Std_str, Std_bool, Std_int, Std_slen, Std_seq, Std_slt', Std_beq, Std_idx, Std_bnd, Std_same, Std_max', Std_min', Std_partI, Std_app, Std_len_app, Std_len_lit, Std_len_setc, List.length_take, List.length_drop, List.length_append, List.length_cons, List.length_nil, Int.toNat_natCast, Std_inr64, bNot, Int.ofNat_eq_natCast, Int.natCast_zero, decide_eq_true_eq, decide_eq_false_iff_not, Bool.not_eq_true, Bool.not_eq_false, Bool.not_eq_eq_eq_not, Bool.not_true, Bool.not_false, beq_iff_eq, beq_eq_false_iff_ne, ne_eq, Bool.true_eq_false, Bool.false_eq_true, cond_true, cond_false] at *; omega)
          obtain ⟨M3, hM4⟩ : ∃ M3, M3 = M.take k ++ normT t :: M.drop k := ⟨_, rfl⟩
          refine ⟨(i+1, M3), ⟨by dsimp only; omega, by dsimp only; rw [hM4, hM2, hM3]⟩, by dsimp only; omega, [2], ?_⟩
          (cbv; repeat' apply And.intro); all_goals (try (first | trivial | rfl | (rw [X.a]; rfl)))
          obtain rfl := X.a; subst hd; subst hT; subst hM4
          refine ins_ok ?_
          rw [hr]
          show [D.str (Std.asStr (Std.cell (encL encT l) (i : Int) 0)), D.bool (Std.asBool (Std.cell (encL encT l) (i : Int) 1)), _] = _
          rw [Std_t0, Std_t1, g5']; rfl
  · have h5 : i = l.length := by subst hd; obtain rfl := X.a; simp only [Std_t0, Std_t1, Std_x0, Std_x1, Std_len, Std_lt, Std_le, Std_eq, Std_add, Std_sub, Std_mul, Std_not, Std_ite, Std_str, Std_bool, Std_int, Std_slen, Std_seq, Std_slt', Std_beq, Std_idx, Std_bnd, Std_same, Std_max', Std_min', Std_partI, Std_app, Std_len_app, Std_len_lit, Std_len_setc, List.length_take, List.length_drop, List.length_append, List.length_cons, List.length_nil, Int.toNat_natCast, Std_inr64, bNot, Int.ofNat_eq_natCast, Int.natCast_zero, decide_eq_true_eq, decide_eq_false_iff_not, Bool.not_eq_true, Bool.not_eq_false, Bool.not_eq_eq_eq_not, Bool.not_true, Bool.not_false, beq_iff_eq, beq_eq_false_iff_ne, ne_eq, Bool.true_eq_false, Bool.false_eq_true, cond_true, cond_false] at *; omega
    rw [h5, List.take_length] at hM
    have hcan : canonT l = if M.any tNever then ([], false) else (M.filter fun t => !tAlways t, true) := by rw [hM]; rfl
    obtain ⟨n, hn⟩ : ∃ n, n = M.length := ⟨_, rfl⟩
    cbv
    refine X.loop (fun (x : Nat × List Term) => ⟨[(9, .int .i64 x.1), (8,.row 51 1), (4,.row 51 0)], [.row 51 (T M) true, .row 51 (T x.2) true]⟩) (fun x => x.1 ≤ M.length ∧ x.2.length ≤ x.1 ∧ (∀ t ∈ M.take x.1, tNever t = false) ∧ x.2 = (M.take x.1).filter fun t => !tAlways t) (fun x => M.length - x.1) (0, []) ⟨Nat.zero_le _, Nat.zero_le _, by simp, rfl⟩ ?_ ?_
    · (cbv; repeat' apply And.intro); all_goals (try (first | trivial | rfl | (rw [X.a]; rfl)))
      rw [X.a, hT]; rfl
    rintro ⟨j, o⟩ ⟨hj, hol, hne, ho⟩
    dsimp only at hj hol hne ho ⊢
    cbv
    repeat' (first | apply And.intro | exact fun (_ : False → False) => by kernel_rfl | (intro h2; cbv) | apply Or.inl)
    all_goals try (subst hd; obtain rfl := X.a; clear X; subst hT; simp only [Std_t0, Std_t1, Std_x0, Std_x1, Std_len, Std_lt, Std_le, Std_eq, Std_add, Std_sub, Std_mul, Std_not, Std_ite, Std_str, Std_bool, Std_int, Std_slen, Std_seq, Std_slt', Std_beq, Std_idx, Std_bnd, Std_same, Std_max', Std_min', Std_partI, Std_app, Std_len_app, Std_len_lit, Std_len_setc, List.length_take, List.length_drop, List.length_append, List.length_cons, List.length_nil, Int.toNat_natCast, Std_inr64, bNot, Int.ofNat_eq_natCast, Int.natCast_zero, decide_eq_true_eq, decide_eq_false_iff_not, Bool.not_eq_true, Bool.not_eq_false, Bool.not_eq_eq_eq_not, Bool.not_true, Bool.not_false, beq_iff_eq, beq_eq_false_iff_ne, ne_eq, Bool.true_eq_false, Bool.false_eq_true, cond_true, cond_false] at * <;> omega)
    · have h5 : j < M.length := by subst hd; obtain rfl := X.a; subst hT; simp only [Std_t0, Std_t1, Std_x0, Std_x1, Std_len, Std_lt, Std_le, Std_eq, Std_add, Std_sub, Std_mul, Std_not, Std_ite, Std_str, Std_bool, Std_int, Std_slen, Std_seq, Std_slt', Std_beq, Std_idx, Std_bnd, Std_same, Std_max', Std_min', Std_partI, Std_app, Std_len_app, Std_len_lit, Std_len_setc, List.length_take, List.length_drop, List.length_append, List.length_cons, List.length_nil, Int.toNat_natCast, Std_inr64, bNot, Int.ofNat_eq_natCast, Int.natCast_zero, decide_eq_true_eq, decide_eq_false_iff_not, Bool.not_eq_true, Bool.not_eq_false, Bool.not_eq_eq_eq_not, Bool.not_true, Bool.not_false, beq_iff_eq, beq_eq_false_iff_ne, ne_eq, Bool.true_eq_false, Bool.false_eq_true, cond_true, cond_false] at *; omega
      have e5 := encT_cell2 (l := M) (a := (j : Int)) j rfl h5
      have g5 : gt M (j : Int) = M[j] := gt_get j rfl h5
      have hc5 : M[j].set.length ≤ 1000001 := (hMc _ (List.getElem_mem h5)).length
      have hM3 : (∃ t ∈ M, tNever t = true) ∨ (∀ t ∈ M, tNever t = false) := by
        rcases Bool.eq_false_or_eq_true (M.any tNever) with h | h
        · exact .inl (by simpa using h)
        · exact .inr (by simpa using h)
      obtain ⟨t, ht⟩ : ∃ t, t = M[j] := ⟨_, rfl⟩
      have htm : t ∈ M := by rw [ht]; exact List.getElem_mem h5
      have htk : ∀ u ∈ M.take (j+1), u ∈ M.take j ∨ u = t := by
        intro u hu
        rw [take_succ' h5] at hu
        rcases List.mem_append.1 hu with hu | hu
        · exact .inl hu
        · simp only [List.mem_singleton] at hu; exact .inr (by rw [hu, ht])
      have hfk : (M.take (j+1)).filter (fun t => !tAlways t) = o ++ (if tAlways t then [] else [t]) := by
        rw [take_succ' h5, List.filter_append, ← ho, ← ht]
        cases htA : tAlways t <;> simp [htA]
      rw [← ht] at e5 g5 hc5
      have ht2 : tNever ⟨t.path, t.absent, t.set⟩ = tNever t := rfl
      have ht3 : tAlways ⟨t.path, t.absent, t.set⟩ = tAlways t := rfl
      cbv
      refine X.call (F77 (s := t.set) (by obtain rfl := X.a; subst hT; exact e5) fun r hr => ?_)
      rw [show A.asStr (A.cell (T M) (Int.ofNat j) 0) = t.path by obtain rfl := X.a; subst hT; rw [Int.ofNat_eq_natCast, Std_t0, g5], show A.asBool (A.cell (T M) (Int.ofNat j) 1) = t.absent by obtain rfl := X.a; subst hT; rw [Int.ofNat_eq_natCast, Std_t1, g5]] at hr
      rw [ht2] at hr
      cbv
      repeat' (first | apply And.intro | exact fun (_ : False → False) => by kernel_rfl | (intro h2; cbv) | apply Or.inl)
      all_goals try (subst hd; obtain rfl := X.a; clear X; subst hT; simp only [Std_t0, Std_t1, Std_x0, Std_x1, Std_len, Std_lt, Std_le, Std_eq, Std_add, Std_sub, Std_mul, Std_not, Std_ite, Std_str, Std_bool, Std_int, Std_slen, Std_seq, Std_slt', Std_beq, Std_idx, Std_bnd, Std_same, Std_max', Std_min', Std_partI, Std_app, Std_len_app, Std_len_lit, Std_len_setc, List.length_take, List.length_drop, List.length_append, List.length_cons, List.length_nil, Int.toNat_natCast, Std_inr64, bNot, Int.ofNat_eq_natCast, Int.natCast_zero, decide_eq_true_eq, decide_eq_false_iff_not, Bool.not_eq_true, Bool.not_eq_false, Bool.not_eq_eq_eq_not, Bool.not_true, Bool.not_false, beq_iff_eq, beq_eq_false_iff_ne, ne_eq, Bool.true_eq_false, Bool.false_eq_true, cond_true, cond_false] at * <;> omega)
      · have hany : M.any tNever = true := by simp only [List.any_eq_true]; exact ⟨t, htm, by rw [← hr]; exact h2⟩
        rw [hany] at hcan
        exact h _ _ (by rw [hcan]; rfl) (by rw [hcan]; rfl)
      · have hrf : tNever t = false := by rw [← hr]; assumption
        refine X.call (F78 (s := t.set) (by obtain rfl := X.a; subst hT; exact e5) (by omega) fun r2 hr2 => ?_)
        have hr3 : r2 = tAlways t := by
          rw [hr2]; obtain rfl := X.a; subst hT
          show tAlways ⟨Std.asStr (Std.cell (encL encT M) (j : Int) 0), Std.asBool (Std.cell (encL encT M) (j : Int) 1), t.set⟩ = _
          rw [Std_t0, Std_t1, g5]
        have hne2 : ∀ u ∈ M.take (j+1), tNever u = false := by
          intro u hu
          rcases htk u hu with hu | rfl
          · exact hne u hu
          · exact hrf
        cbv
        repeat' (first | apply And.intro | exact fun (_ : False → False) => by kernel_rfl | (intro h2; cbv) | apply Or.inl)
        all_goals try (subst hd; obtain rfl := X.a; clear X; subst hT; simp only [Std_t0, Std_t1, Std_x0, Std_x1, Std_len, Std_lt, Std_le, Std_eq, Std_add, Std_sub, Std_mul, Std_not, Std_ite, Std_str, Std_bool, Std_int, Std_slen, Std_seq, Std_slt', Std_beq, Std_idx, Std_bnd, Std_same, Std_max', Std_min', Std_partI, Std_app, Std_len_app, Std_len_lit, Std_len_setc, List.length_take, List.length_drop, List.length_append, List.length_cons, List.length_nil, Int.toNat_natCast, Std_inr64, bNot, Int.ofNat_eq_natCast, Int.natCast_zero, decide_eq_true_eq, decide_eq_false_iff_not, Bool.not_eq_true, Bool.not_eq_false, Bool.not_eq_eq_eq_not, Bool.not_true, Bool.not_false, beq_iff_eq, beq_eq_false_iff_ne, ne_eq, Bool.true_eq_false, Bool.false_eq_true, cond_true, cond_false] at * <;> omega)
        · have hfk2 : o ++ [t] = (M.take (j+1)).filter (fun t => !tAlways t) := by
            have : tAlways t = false := by
              rw [← hr3]; obtain rfl := X.a; simp only [Std_t0, Std_t1, Std_x0, Std_x1, Std_len, Std_lt, Std_le, Std_eq, Std_add, Std_sub, Std_mul, Std_not, Std_ite, Std_str, Std_bool, Std_int, Std_slen, Std_seq, Std_slt', Std_beq, Std_idx, Std_bnd, Std_same, Std_max', Std_min', Std_partI, Std_app, Std_len_app, Std_len_lit, Std_len_setc, List.length_take, List.length_drop, List.length_append, List.length_cons, List.length_nil, Int.toNat_natCast, Std_inr64, bNot, Int.ofNat_eq_natCast, Int.natCast_zero, decide_eq_true_eq, decide_eq_false_iff_not, Bool.not_eq_true, Bool.not_eq_false, Bool.not_eq_eq_eq_not, Bool.not_true, Bool.not_false, beq_iff_eq, beq_eq_false_iff_ne, ne_eq, Bool.true_eq_false, Bool.false_eq_true, cond_true, cond_false] at *; assumption
            rw [hfk, this]; simp
          obtain ⟨o2, ho2⟩ : ∃ o2, o2 = o ++ [t] := ⟨_, rfl⟩
          rw [← ho2] at hfk2
          refine ⟨(j+1, o2), ⟨by dsimp only; omega, by subst ho2; simpa using hol, hne2, hfk2⟩, by dsimp only; omega, ?_⟩
          (cbv; repeat' apply And.intro); all_goals (try (first | trivial | rfl | (rw [X.a]; rfl)))
          obtain rfl := X.a; subst hT; subst ho2
          refine Std_app' rfl (lit1e t ?_)
          show [D.str (Std.asStr (Std.cell (encL encT M) (j : Int) 0)), D.bool (Std.asBool (Std.cell (encL encT M) (j : Int) 1)), Std.cell (encL encT M) (j : Int) 2] = _
          rw [Std_t0, Std_t1, g5]
          exact congrArg (fun z => [D.str t.path, D.bool t.absent, z]) e5
        · have hfk2 : o = (M.take (j+1)).filter (fun t => !tAlways t) := by
            have : tAlways t = true := by
              rw [← hr3]; obtain rfl := X.a; simp only [Std_t0, Std_t1, Std_x0, Std_x1, Std_len, Std_lt, Std_le, Std_eq, Std_add, Std_sub, Std_mul, Std_not, Std_ite, Std_str, Std_bool, Std_int, Std_slen, Std_seq, Std_slt', Std_beq, Std_idx, Std_bnd, Std_same, Std_max', Std_min', Std_partI, Std_app, Std_len_app, Std_len_lit, Std_len_setc, List.length_take, List.length_drop, List.length_append, List.length_cons, List.length_nil, Int.toNat_natCast, Std_inr64, bNot, Int.ofNat_eq_natCast, Int.natCast_zero, decide_eq_true_eq, decide_eq_false_iff_not, Bool.not_eq_true, Bool.not_eq_false, Bool.not_eq_eq_eq_not, Bool.not_true, Bool.not_false, beq_iff_eq, beq_eq_false_iff_ne, ne_eq, Bool.true_eq_false, Bool.false_eq_true, cond_true, cond_false] at *; assumption
            rw [hfk, this]; simp
          refine ⟨(j+1, o), ⟨by dsimp only; omega, by dsimp only; omega, hne2, hfk2⟩, by dsimp only; omega, ?_⟩
          (cbv; repeat' apply And.intro); all_goals (try (first | trivial | rfl | (rw [X.a]; rfl)))
    · have h5 : j = M.length := by subst hd; obtain rfl := X.a; subst hT; simp only [Std_t0, Std_t1, Std_x0, Std_x1, Std_len, Std_lt, Std_le, Std_eq, Std_add, Std_sub, Std_mul, Std_not, Std_ite, Std_str, Std_bool, Std_int, Std_slen, Std_seq, Std_slt', Std_beq, Std_idx, Std_bnd, Std_same, Std_max', Std_min', Std_partI, Std_app, Std_len_app, Std_len_lit, Std_len_setc, List.length_take, List.length_drop, List.length_append, List.length_cons, List.length_nil, Int.toNat_natCast, Std_inr64, bNot, Int.ofNat_eq_natCast, Int.natCast_zero, decide_eq_true_eq, decide_eq_false_iff_not, Bool.not_eq_true, Bool.not_eq_false, Bool.not_eq_eq_eq_not, Bool.not_true, Bool.not_false, beq_iff_eq, beq_eq_false_iff_ne, ne_eq, Bool.true_eq_false, Bool.false_eq_true, cond_true, cond_false] at *; omega
      rw [h5, List.take_length] at hne ho
      have hany : M.any tNever = false := by rw [List.any_eq_false]; intro u hu; rw [hne u hu]; simp
      rw [hany] at hcan
      exact h _ _ (by rw [hcan, hT, ho]; rfl) (by rw [hcan]; rfl)
end Go.VC.T35
end

section
set_option linter.unusedSimpArgs false
set_option linter.unusedVariables false
namespace Go.VC.T35
open Go Go.VC Go.Proofs

set_option maxRecDepth 100000 in
theorem F40 {l : List Term} {d : D} {K : PV → List Ob → Prop} (hd : d = encL encT l) (hl : l.length ≤ 1000) (hs : ∀ t ∈ l, t.set.length ≤ 2000000)
    (h : ∀ r, r = encL encT (canonT l).1 → K (.lst 51 r) []) : FC Tryz.prog tt 40 [] [.lst 51 d] K := by
  refine FC.enter (G := g40) tt_ok mixed ⟨Tryz.func40, by rfl, rfl⟩ rfl rfl rfl ?_
  intro A C L X
  cbv
  refine X.call (F48 hd hl hs fun r b hr hb => ?_)
  cbv
  exact h r hr

set_option maxRecDepth 100000 in
theorem F41 {p : List UInt8} {s : List (Int × Int)} {d : D} {K : PV → List Ob → Prop} (hd : d = encL encX s) (hs : s.length ≤ 2000000)
    (h : ∀ r, r = encL encX (compl s) → K (.agg [.str p, .bool true, .lst 65 r]) []) : FC Tryz.prog tt 41 [] [.agg [.str p, .lst 65 d]] K := by
  refine FC.enter (G := g41) tt_ok mixed ⟨Tryz.func41, by rfl, rfl⟩ rfl rfl rfl ?_
  intro A C L X
  cbv
  repeat' (first | apply And.intro | exact fun (_ : False → False) => by kernel_rfl | (intro h2; cbv) | apply Or.inl)
  all_goals
    refine X.call (F45 hd (by omega) fun r hr => ?_)
    cbv
    exact h r hr

theorem encT1r {p : List UInt8} {b : Bool} {s : List (Int × Int)} {d : D} (h : d = encL encX s) : [D.str p, D.bool b, d] = encT ⟨p, b, s⟩ := by subst h; rfl

set_option maxRecDepth 100000 in
theorem F12 {p : List UInt8} {s : List (Int × Int)} {d : D} {K : PV → List Ob → Prop} (hd : d = encL encX s) (hs : s.length ≤ 2000000)
    (h : ∀ r, r = encL encT (rootT p s) → K (.lst 51 r) []) : FC Tryz.prog tt 12 [] [.agg [.str p, .lst 65 d]] K := by
  refine FC.enter (G := g12) tt_ok mixed ⟨Tryz.func12, by rfl, rfl⟩ rfl rfl rfl ?_
  intro A C L X
  cbv
  refine X.call (F41 hd hs fun r hr => ?_)
  cbv
  refine X.call (F40 (l := [unsat p s]) (by rw [X.a]; exact lit1e _ (encT1r hr)) (by simp) ?_ fun r hr => ?_)
  · intro t ht; simp only [List.mem_singleton] at ht; subst ht; have := (can_compl s).length; show (compl s).length ≤ _; omega
  cbv
  exact h r hr

set_option maxRecDepth 100000 in
theorem F16 {p : List UInt8} {s : List (Int × Int)} {d : D} {K : PV → List Ob → Prop} (hd : d = encL encX s) (hs : s.length ≤ 2000000)
    (h : ∀ r, r = encL encT (noneT p s) → K (.lst 51 r) []) : FC Tryz.prog tt 16 [] [.str p, .lst 65 d] K := by
  refine FC.enter (G := g16) tt_ok mixed ⟨Tryz.func16, by rfl, rfl⟩ rfl rfl rfl ?_
  intro A C L X
  cbv
  refine X.call (F45 hd (by omega) fun r hr => ?_)
  cbv
  refine X.call (F40 (l := [⟨p, false, compl s⟩]) (by rw [X.a]; exact lit1e _ (encT1r hr)) (by simp) ?_ fun r hr => ?_)
  · intro t ht; simp only [List.mem_singleton] at ht; subst ht; have := (can_compl s).length; show (compl s).length ≤ _; omega
  cbv
  exact h r hr

set_option maxRecDepth 100000 in
theorem F14 {path : List UInt8} {pl : Int} {p : List UInt8} {s : List (Int × Int)} {d : D} {K : PV → List Ob → Prop} (hd : d = encL encX s) (hs : s.length ≤ 2000000) (hp : -9223372036854775808 ≤ pl ∧ pl ≤ 9223372036854775807)
    (h : ∀ r, r = encL encT (requiresT path pl p s) → K (.lst 51 r) []) : FC Tryz.prog tt 14 [] [.str path, .int .i64 pl, .agg [.str p, .lst 65 d]] K := by
  refine FC.enter (G := g14) tt_ok mixed ⟨Tryz.func14, by rfl, rfl⟩ rfl rfl rfl ?_
  intro A C L X
  cbv
  refine X.call (F43 fun r1 hr1 => ?_)
  cbv
  apply Or.inr
  intro _
  cbv
  refine X.call (F43 fun r2 hr2 => ?_)
  cbv
  have hc1 := (can_canon [(pl, 1000000)]).length
  have hc2 := fun q : Int => (can_canon [(q, 1000000)]).length
  refine X.call (F42 hr1 hr2 (by omega) (by have := hc2 (A.wrap .i64 (A.add pl 1)); omega) fun r3 hr3 => ?_)
  have e1 : 0 ≤ pl → pl < 1000000 → r3 = encL encX (oneP pl) := by
    intro h1 h2
    rw [hr3, oneP, if_neg (by omega)]
    have : A.wrap .i64 (A.add pl 1) = pl + 1 := by
      rw [X.a]
      show IntKind.i64.wrap (pl + 1) = pl + 1
      simp [IntKind.wrap, IntKind.bits, IntKind.signed]; omega
    rw [this]
  have fin : ∀ r, r = encL encX (oneP pl) → ∀ K', (∀ r, r = encL encT (requiresT path pl p s) → K' (.lst 51 r) []) → ∀ r', r' = encL encX (compl s) → FC Tryz.prog tt 40 [] [.lst 51 (A.lit [[.str path, .bool false, r], [.str p, .bool true, r']])] K' := by
    intro r hr K' hK r' hr'
    refine F40 (l := [⟨path, false, oneP pl⟩, unsat p s]) (by rw [X.a]; exact lit2 (encT1r hr) (encT1r hr')) (by simp) ?_ hK
    intro t ht
    have h1 := (can_compl s).length
    have h2 : (oneP pl).length ≤ 1000001 := by
      unfold oneP; split
      · simp
      · exact (can_minus _ _).length
    simp only [List.mem_cons, List.not_mem_nil, or_false] at ht
    rcases ht with rfl | rfl
    · show (oneP pl).length ≤ _; omega
    · show (compl s).length ≤ _; omega
  cbv
  repeat' (first | apply And.intro | exact fun (_ : False → False) => by kernel_rfl | (intro h2; cbv) | apply Or.inl)
  all_goals
    refine X.call (F41 hd hs fun r4 hr4 => ?_)
    cbv
    refine X.call (fin _ ?_ _ (fun r5 hr5 => ?_) _ hr4)
  · obtain rfl := X.a; simp only [Std_x0, Std_x1, Std_len, Std_lt, Std_le, Std_eq, Std_add, Std_sub, Std_mul, Std_not, Std_ite, Std_str, Std_bool, Std_int, Std_slen, Std_seq, Std_slt', Std_beq, Std_idx, Std_bnd, Std_same, Std_max', Std_min', Std_partI, Std_app, Std_len_app, Std_len_lit, Std_len_setc, List.length_take, List.length_drop, List.length_append, List.length_cons, List.length_nil, Int.toNat_natCast, Std_inr64, bNot, Int.ofNat_eq_natCast, Int.natCast_zero, decide_eq_true_eq, decide_eq_false_iff_not, Bool.not_eq_true, Bool.not_eq_false, Bool.not_eq_eq_eq_not, Bool.not_true, Bool.not_false, beq_iff_eq, beq_eq_false_iff_ne, ne_eq, Bool.true_eq_false, Bool.false_eq_true, cond_true, cond_false] at *
    rw [oneP, if_pos (by omega)]; rfl
  · cbv; exact h _ hr5
  · obtain rfl := X.a; simp only [Std_x0, Std_x1, Std_len, Std_lt, Std_le, Std_eq, Std_add, Std_sub, Std_mul, Std_not, Std_ite, Std_str, Std_bool, Std_int, Std_slen, Std_seq, Std_slt', Std_beq, Std_idx, Std_bnd, Std_same, Std_max', Std_min', Std_partI, Std_app, Std_len_app, Std_len_lit, Std_len_setc, List.length_take, List.length_drop, List.length_append, List.length_cons, List.length_nil, Int.toNat_natCast, Std_inr64, bNot, Int.ofNat_eq_natCast, Int.natCast_zero, decide_eq_true_eq, decide_eq_false_iff_not, Bool.not_eq_true, Bool.not_eq_false, Bool.not_eq_eq_eq_not, Bool.not_true, Bool.not_false, beq_iff_eq, beq_eq_false_iff_ne, ne_eq, Bool.true_eq_false, Bool.false_eq_true, cond_true, cond_false] at *
    exact e1 (by omega) (by omega)
  · cbv; exact h _ hr5
  · obtain rfl := X.a; simp only [Std_x0, Std_x1, Std_len, Std_lt, Std_le, Std_eq, Std_add, Std_sub, Std_mul, Std_not, Std_ite, Std_str, Std_bool, Std_int, Std_slen, Std_seq, Std_slt', Std_beq, Std_idx, Std_bnd, Std_same, Std_max', Std_min', Std_partI, Std_app, Std_len_app, Std_len_lit, Std_len_setc, List.length_take, List.length_drop, List.length_append, List.length_cons, List.length_nil, Int.toNat_natCast, Std_inr64, bNot, Int.ofNat_eq_natCast, Int.natCast_zero, decide_eq_true_eq, decide_eq_false_iff_not, Bool.not_eq_true, Bool.not_eq_false, Bool.not_eq_eq_eq_not, Bool.not_true, Bool.not_false, beq_iff_eq, beq_eq_false_iff_ne, ne_eq, Bool.true_eq_false, Bool.false_eq_true, cond_true, cond_false] at *
    rw [oneP, if_pos (by omega)]; rfl
  · cbv; exact h _ hr5

set_option maxRecDepth 100000 in
theorem FO51 {l : List Term} {p : List UInt8} {d : D} {K : PV → List Ob → Prop} (hd : d = encL encT l) (hl : l.length < 4294967296) (h : ∀ r, r = encL encT (without l p) → K (.row 51 0) [.row 51 r true]) : FC Tryz.prog tt 51 [] [.lst 51 d, .str p] K := by
  refine FC.enterOwn (G := g51) tt_ok mixed ⟨Tryz.func51, by rfl, rfl⟩ rfl rfl rfl ?_
  intro A C L X
  obtain ⟨T, hT⟩ : ∃ T, T =  encL encT := ⟨_, rfl⟩
  cbv
  refine X.loop (fun (x : Nat × List Term) => ⟨[(6, .int .i64 x.1), (5,.row 51 0), (0,.lst 51 d), (1,.str p)], [.row 51 (T x.2) true]⟩) (fun x => x.1 ≤ l.length ∧ x.2.length ≤ x.1 ∧ x.2 = without (l.take x.1) p) (fun x => l.length - x.1) (0, []) ⟨Nat.zero_le _, Nat.zero_le _, rfl⟩ ?_ ?_
  · (cbv; repeat' apply And.intro); all_goals (try (first | trivial | rfl | (rw [X.a]; rfl)))
    rw [X.a, hT]; rfl
  rintro ⟨i, o⟩ ⟨hi, hol, ho⟩
  dsimp only at hi hol ho ⊢
  cbv
  repeat' (first | apply And.intro | exact fun (_ : False → False) => by kernel_rfl | (intro h2; cbv) | apply Or.inl)
  all_goals try (subst hd; obtain rfl := X.a; clear X; subst hT; simp only [Std_t0, Std_t1, Std_x0, Std_x1, Std_len, Std_lt, Std_le, Std_eq, Std_add, Std_sub, Std_mul, Std_not, Std_ite, Std_str, Std_bool, Std_int, Std_slen, Std_seq, Std_slt', Std_beq, Std_idx, Std_bnd, Std_same, Std_max', Std_min', Std_partI, Std_app, Std_len_app, Std_len_lit, Std_len_setc, List.length_take, List.length_drop, List.length_append, List.length_cons, List.length_nil, Int.toNat_natCast, Std_inr64, bNot, Int.ofNat_eq_natCast, Int.natCast_zero, decide_eq_true_eq, decide_eq_false_iff_not, Bool.not_eq_true, Bool.not_eq_false, Bool.not_eq_eq_eq_not, Bool.not_true, Bool.not_false, beq_iff_eq, beq_eq_false_iff_ne, ne_eq, Bool.true_eq_false, Bool.false_eq_true, cond_true, cond_false] at * <;> omega)
  · have h5 : i < l.length := by subst hd; obtain rfl := X.a; simp only [Std_t0, Std_t1, Std_x0, Std_x1, Std_len, Std_lt, Std_le, Std_eq, Std_add, Std_sub, Std_mul, Std_not, Std_ite, Std_str, Std_bool, Std_int, Std_slen, Std_seq, Std_slt', Std_beq, Std_idx, Std_bnd, Std_same, Std_max', Std_min', Std_partI, Std_app, Std_len_app, Std_len_lit, Std_len_setc, List.length_take, List.length_drop, List.length_append, List.length_cons, List.length_nil, Int.toNat_natCast, Std_inr64, bNot, Int.ofNat_eq_natCast, Int.natCast_zero, decide_eq_true_eq, decide_eq_false_iff_not, Bool.not_eq_true, Bool.not_eq_false, Bool.not_eq_eq_eq_not, Bool.not_true, Bool.not_false, beq_iff_eq, beq_eq_false_iff_ne, ne_eq, Bool.true_eq_false, Bool.false_eq_true, cond_true, cond_false] at *; omega
    have g5 : gt l (i : Int) = l[i] := gt_get i rfl h5
    have h6 : ¬ l[i].path = p := by subst hd; obtain rfl := X.a; simp only [g5, Std_t0, Std_t1, Std_x0, Std_x1, Std_len, Std_lt, Std_le, Std_eq, Std_add, Std_sub, Std_mul, Std_not, Std_ite, Std_str, Std_bool, Std_int, Std_slen, Std_seq, Std_slt', Std_beq, Std_idx, Std_bnd, Std_same, Std_max', Std_min', Std_partI, Std_app, Std_len_app, Std_len_lit, Std_len_setc, List.length_take, List.length_drop, List.length_append, List.length_cons, List.length_nil, Int.toNat_natCast, Std_inr64, bNot, Int.ofNat_eq_natCast, Int.natCast_zero, decide_eq_true_eq, decide_eq_false_iff_not, Bool.not_eq_true, Bool.not_eq_false, Bool.not_eq_eq_eq_not, Bool.not_true, Bool.not_false, beq_iff_eq, beq_eq_false_iff_ne, ne_eq, Bool.true_eq_false, Bool.false_eq_true, cond_true, cond_false] at *; simp_all
    have e5 := encT_cell2 (l := l) (a := Int.ofNat i) i rfl h5
    obtain ⟨o2, ho2⟩ : ∃ o2, o2 = o ++ [l[i]] := ⟨_, rfl⟩
    have h8 : o2 = without (l.take (i+1)) p := by
      rw [ho2, ho, take_succ' h5, without, without, List.filter_append]; simp only [List.filter_cons, List.filter_nil]; rw [if_pos (by simp [h6])]
    refine ⟨(i+1, o2), ⟨by dsimp only; omega, by subst ho2; simpa using hol, h8⟩, by dsimp only; omega, ?_⟩
    (cbv; repeat' apply And.intro); all_goals (try (first | trivial | rfl | (rw [X.a]; rfl)))
    obtain rfl := X.a; subst hT; subst ho2; subst hd
    refine Std_app' rfl (lit1e l[i] ?_)
    rw [encT, ← g5, ← Std_t0, ← Std_t1, g5, ← e5]; rfl
  · have h5 : i < l.length := by subst hd; obtain rfl := X.a; simp only [Std_t0, Std_t1, Std_x0, Std_x1, Std_len, Std_lt, Std_le, Std_eq, Std_add, Std_sub, Std_mul, Std_not, Std_ite, Std_str, Std_bool, Std_int, Std_slen, Std_seq, Std_slt', Std_beq, Std_idx, Std_bnd, Std_same, Std_max', Std_min', Std_partI, Std_app, Std_len_app, Std_len_lit, Std_len_setc, List.length_take, List.length_drop, List.length_append, List.length_cons, List.length_nil, Int.toNat_natCast, Std_inr64, bNot, Int.ofNat_eq_natCast, Int.natCast_zero, decide_eq_true_eq, decide_eq_false_iff_not, Bool.not_eq_true, Bool.not_eq_false, Bool.not_eq_eq_eq_not, Bool.not_true, Bool.not_false, beq_iff_eq, beq_eq_false_iff_ne, ne_eq, Bool.true_eq_false, Bool.false_eq_true, cond_true, cond_false] at *; omega
    have g5 : gt l (i : Int) = l[i] := gt_get i rfl h5
    have h6 : l[i].path = p := by subst hd; obtain rfl := X.a; simp only [g5, Std_t0, Std_t1, Std_x0, Std_x1, Std_len, Std_lt, Std_le, Std_eq, Std_add, Std_sub, Std_mul, Std_not, Std_ite, Std_str, Std_bool, Std_int, Std_slen, Std_seq, Std_slt', Std_beq, Std_idx, Std_bnd, Std_same, Std_max', Std_min', Std_partI, Std_app, Std_len_app, Std_len_lit, Std_len_setc, List.length_take, List.length_drop, List.length_append, List.length_cons, List.length_nil, Int.toNat_natCast, Std_inr64, bNot, Int.ofNat_eq_natCast, Int.natCast_zero, decide_eq_true_eq, decide_eq_false_iff_not, Bool.not_eq_true, Bool.not_eq_false, Bool.not_eq_eq_eq_not, Bool.not_true, Bool.not_false, beq_iff_eq, beq_eq_false_iff_ne, ne_eq, Bool.true_eq_false, Bool.false_eq_true, cond_true, cond_false] at *; assumption
    have h8 : o = without (l.take (i+1)) p := by
      rw [ho, take_succ' h5, without, without, List.filter_append]; simp only [List.filter_cons, List.filter_nil]; simp only [h6, beq_self_eq_true, Bool.not_true, Bool.false_eq_true, if_false, List.append_nil]
    refine ⟨(i+1, o), ⟨by dsimp only; omega, by dsimp only; omega, h8⟩, by dsimp only; omega, ?_⟩
    (cbv; repeat' apply And.intro); all_goals (try (first | trivial | rfl | (rw [X.a]; rfl)))
  · have h5 : i = l.length := by subst hd; obtain rfl := X.a; simp only [Std_t0, Std_t1, Std_x0, Std_x1, Std_len, Std_lt, Std_le, Std_eq, Std_add, Std_sub, Std_mul, Std_not, Std_ite, Std_str, Std_bool, Std_int, Std_slen, Std_seq, Std_slt', Std_beq, Std_idx, Std_bnd, Std_same, Std_max', Std_min', Std_partI, Std_app, Std_len_app, Std_len_lit, Std_len_setc, List.length_take, List.length_drop, List.length_append, List.length_cons, List.length_nil, Int.toNat_natCast, Std_inr64, bNot, Int.ofNat_eq_natCast, Int.natCast_zero, decide_eq_true_eq, decide_eq_false_iff_not, Bool.not_eq_true, Bool.not_eq_false, Bool.not_eq_eq_eq_not, Bool.not_true, Bool.not_false, beq_iff_eq, beq_eq_false_iff_ne, ne_eq, Bool.true_eq_false, Bool.false_eq_true, cond_true, cond_false] at *; omega
    rw [h5, List.take_length] at ho
    refine h _ ?_
    rw [← ho, hT]

set_option maxRecDepth 100000 in
set_option maxHeartbeats 2000000 in
theorem F19 {a b : List Term} {path : List UInt8} {d e : D} {K : PV → List Ob → Prop} (hd : d = encL encT a) (he : e = encL encT b) (ha : a.length ≤ 400) (hb : b.length ≤ 400) (has : ∀ t ∈ a, t.set.length ≤ 2000000) (hbs : ∀ t ∈ b, t.set.length ≤ 2000000)
    (h : ∀ r x, r = encL encT (resolveT a b path).1 → x = (resolveT a b path).2 → K (.tup [.lst 51 r, .int .i64 x]) []) : FC Tryz.prog tt 19 [] [.lst 51 d, .lst 51 e, .str path] K := by
  refine FC.enter (G := g19) tt_ok mixed ⟨Tryz.func19, by rfl, rfl⟩ rfl rfl rfl ?_
  intro A C L X
  cbv
  refine X.call (F48 hd (by omega) has fun r1 b1 hr1 hb1 => ?_)
  cbv
  refine X.call (F48 he (by omega) hbs fun r2 b2 hr2 hb2 => ?_)
  have hl1 := canonT_len (l := a)
  have hl2 := canonT_len (l := b)
  have hc1 := canonT_can (l := a)
  have hc2 := canonT_can (l := b)
  have hdef : resolveT a b path = resolveX (canonT a).1 (canonT b).1 b1 b2 path := by rw [hb1, hb2]; rfl
  obtain ⟨x, hx⟩ : ∃ x, x = (canonT a).1 := ⟨_, rfl⟩
  obtain ⟨y, hy⟩ : ∃ y, y = (canonT b).1 := ⟨_, rfl⟩
  rw [← hx] at hr1 hl1 hc1 hdef
  rw [← hy] at hr2 hl2 hc2 hdef
  cbv
  refine X.call (F49 hr1 (by omega) (fun hn1 => ?_) fun t1 e1 ht1 he1 => ?_)
  · cbv
    refine X.call (F49 hr2 (by omega) (fun hn2 => ?_) fun t2 e2 ht2 he2 => ?_)
    all_goals
      cbv
      repeat' (first | apply And.intro | exact fun (_ : False → False) => by kernel_rfl | (intro h2; cbv) | apply Or.inl)
    all_goals try (exfalso; obtain rfl := X.a; simp only [Std_t0, Std_t1, Std_x0, Std_x1, Std_len, Std_lt, Std_le, Std_eq, Std_add, Std_sub, Std_mul, Std_not, Std_ite, Std_str, Std_bool, Std_int, Std_slen, Std_seq, Std_slt', Std_beq, Std_idx, Std_bnd, Std_same, Std_max', Std_min', Std_partI, Std_app, Std_len_app, Std_len_lit, Std_len_setc, List.length_take, List.length_drop, List.length_append, List.length_cons, List.length_nil, Int.toNat_natCast, Std_inr64, bNot, Int.ofNat_eq_natCast, Int.natCast_zero, decide_eq_true_eq, decide_eq_false_iff_not, Bool.not_eq_true, Bool.not_eq_false, Bool.not_eq_eq_eq_not, Bool.not_true, Bool.not_false, beq_iff_eq, beq_eq_false_iff_ne, ne_eq, Bool.true_eq_false, Bool.false_eq_true, cond_true, cond_false] at *; done)
    all_goals exact h _ _ (by rw [hdef, rX3 hn1]; rfl) (by rw [hdef, rX3 hn1])
  · cbv
    refine X.call (F49 hr2 (by omega) (fun hn2 => ?_) fun t2 e2 ht2 he2 => ?_)
    · cbv
      repeat' (first | apply And.intro | exact fun (_ : False → False) => by kernel_rfl | (intro h2; cbv) | apply Or.inl)
      all_goals try (exfalso; obtain rfl := X.a; simp only [Std_t0, Std_t1, Std_x0, Std_x1, Std_len, Std_lt, Std_le, Std_eq, Std_add, Std_sub, Std_mul, Std_not, Std_ite, Std_str, Std_bool, Std_int, Std_slen, Std_seq, Std_slt', Std_beq, Std_idx, Std_bnd, Std_same, Std_max', Std_min', Std_partI, Std_app, Std_len_app, Std_len_lit, Std_len_setc, List.length_take, List.length_drop, List.length_append, List.length_cons, List.length_nil, Int.toNat_natCast, Std_inr64, bNot, Int.ofNat_eq_natCast, Int.natCast_zero, decide_eq_true_eq, decide_eq_false_iff_not, Bool.not_eq_true, Bool.not_eq_false, Bool.not_eq_eq_eq_not, Bool.not_true, Bool.not_false, beq_iff_eq, beq_eq_false_iff_ne, ne_eq, Bool.true_eq_false, Bool.false_eq_true, cond_true, cond_false] at *; done)
      all_goals exact h _ _ (by rw [hdef, rX4 hn2]; rfl) (by rw [hdef, rX4 hn2])
    · cbv
      repeat' (first | apply And.intro | exact fun (_ : False → False) => by kernel_rfl | (intro h2; cbv) | apply Or.inl)
      all_goals try (exfalso; obtain rfl := X.a; simp only [Std_t0, Std_t1, Std_x0, Std_x1, Std_len, Std_lt, Std_le, Std_eq, Std_add, Std_sub, Std_mul, Std_not, Std_ite, Std_str, Std_bool, Std_int, Std_slen, Std_seq, Std_slt', Std_beq, Std_idx, Std_bnd, Std_same, Std_max', Std_min', Std_partI, Std_app, Std_len_app, Std_len_lit, Std_len_setc, List.length_take, List.length_drop, List.length_append, List.length_cons, List.length_nil, Int.toNat_natCast, Std_inr64, bNot, Int.ofNat_eq_natCast, Int.natCast_zero, decide_eq_true_eq, decide_eq_false_iff_not, Bool.not_eq_true, Bool.not_eq_false, Bool.not_eq_eq_eq_not, Bool.not_true, Bool.not_false, beq_iff_eq, beq_eq_false_iff_ne, ne_eq, Bool.true_eq_false, Bool.false_eq_true, cond_true, cond_false] at *; done)
      rotate_left
      · have hb2' : b2 = false := by obtain rfl := X.a; simp only [Std_t0, Std_t1, Std_x0, Std_x1, Std_len, Std_lt, Std_le, Std_eq, Std_add, Std_sub, Std_mul, Std_not, Std_ite, Std_str, Std_bool, Std_int, Std_slen, Std_seq, Std_slt', Std_beq, Std_idx, Std_bnd, Std_same, Std_max', Std_min', Std_partI, Std_app, Std_len_app, Std_len_lit, Std_len_setc, List.length_take, List.length_drop, List.length_append, List.length_cons, List.length_nil, Int.toNat_natCast, Std_inr64, bNot, Int.ofNat_eq_natCast, Int.natCast_zero, decide_eq_true_eq, decide_eq_false_iff_not, Bool.not_eq_true, Bool.not_eq_false, Bool.not_eq_eq_eq_not, Bool.not_true, Bool.not_false, beq_iff_eq, beq_eq_false_iff_ne, ne_eq, Bool.true_eq_false, Bool.false_eq_true, cond_true, cond_false] at *; assumption
        exact h _ _ (by rw [hdef, rX2 hb2']; rfl) (by rw [hdef, rX2 hb2'])
      · have hb1' : b1 = false := by obtain rfl := X.a; simp only [Std_t0, Std_t1, Std_x0, Std_x1, Std_len, Std_lt, Std_le, Std_eq, Std_add, Std_sub, Std_mul, Std_not, Std_ite, Std_str, Std_bool, Std_int, Std_slen, Std_seq, Std_slt', Std_beq, Std_idx, Std_bnd, Std_same, Std_max', Std_min', Std_partI, Std_app, Std_len_app, Std_len_lit, Std_len_setc, List.length_take, List.length_drop, List.length_append, List.length_cons, List.length_nil, Int.toNat_natCast, Std_inr64, bNot, Int.ofNat_eq_natCast, Int.natCast_zero, decide_eq_true_eq, decide_eq_false_iff_not, Bool.not_eq_true, Bool.not_eq_false, Bool.not_eq_eq_eq_not, Bool.not_true, Bool.not_false, beq_iff_eq, beq_eq_false_iff_ne, ne_eq, Bool.true_eq_false, Bool.false_eq_true, cond_true, cond_false] at *; assumption
        exact h _ _ (by rw [hdef, rX1 hb1']; rfl) (by rw [hdef, rX1 hb1'])
      have hb12 : b1 = true ∧ b2 = true := by obtain rfl := X.a; simp only [Std_t0, Std_t1, Std_x0, Std_x1, Std_len, Std_lt, Std_le, Std_eq, Std_add, Std_sub, Std_mul, Std_not, Std_ite, Std_str, Std_bool, Std_int, Std_slen, Std_seq, Std_slt', Std_beq, Std_idx, Std_bnd, Std_same, Std_max', Std_min', Std_partI, Std_app, Std_len_app, Std_len_lit, Std_len_setc, List.length_take, List.length_drop, List.length_append, List.length_cons, List.length_nil, Int.toNat_natCast, Std_inr64, bNot, Int.ofNat_eq_natCast, Int.natCast_zero, decide_eq_true_eq, decide_eq_false_iff_not, Bool.not_eq_true, Bool.not_eq_false, Bool.not_eq_eq_eq_not, Bool.not_true, Bool.not_false, beq_iff_eq, beq_eq_false_iff_ne, ne_eq, Bool.true_eq_false, Bool.false_eq_true, cond_true, cond_false] at *; exact ⟨by assumption, by assumption⟩
      have hd1 : t1.set.length ≤ 1000001 := (hc1 _ (findT'_mem ht1).1).length
      have hd2 : t2.set.length ≤ 1000001 := (hc2 _ (findT'_mem ht2).1).length
      have hdef2 : resolveT a b path = if (canonT (without x path ++ without y path ++ [eitherT path t1 t2])).2 = true then ((canonT (without x path ++ without y path ++ [eitherT path t1 t2])).1, 0) else ([], 8) := by
        rw [hdef, resolveX, if_pos hb12, ht1, ht2]
      refine X.cut (fun (z : Bool × D) => ⟨[(16, .box 0 0), (8, .lst 51 r1), (10, .lst 51 r2), (2, .str path)], [.box [.str path, .bool z.1, .lst 65 z.2]]⟩) (fun z => z.1 = (t1.absent || t2.absent) ∧ z.2 = encL encX (union [t1.set, t2.set])) ?_ fun z hz => ?_
      · cbv
        repeat' (first | apply And.intro | exact fun (_ : False → False) => by kernel_rfl | (intro h2; cbv) | apply Or.inl)
        all_goals refine X.call (F50 (l := [t1.set, t2.set]) (by rw [X.a, he1, he2]; rfl) (by simp) ?_ fun r hr => ?_)
        all_goals try (intro s hs'; simp only [List.mem_cons, List.not_mem_nil, or_false] at hs'; rcases hs' with rfl | rfl <;> omega)
        all_goals cbv
        all_goals obtain ⟨v, hv⟩ : ∃ v, v = (t1.absent || t2.absent) := ⟨_, rfl⟩
        all_goals refine ⟨(v, r), ⟨hv, hr⟩, [2], ?_⟩
        all_goals (cbv; repeat' apply And.intro); all_goals (try (first | trivial | rfl | (rw [X.a]; rfl)))
        all_goals (try simp only [bNot] at h2)
        all_goals (rw [hv, h2]; rfl)
      · obtain ⟨v, r3⟩ := z
        dsimp only at hz ⊢
        have hwl1 := without_len (l := x) (p := path)
        have hwl2 := without_len (l := y) (p := path)
        cbv
        refine X.cut (fun (z : D × Bool) => ⟨[(17, .lst 51 z.1), (9, .bool z.2)], []⟩) (fun z => z.1 = encL encT (canonT (without x path ++ without y path ++ [eitherT path t1 t2])).1 ∧ z.2 = (canonT (without x path ++ without y path ++ [eitherT path t1 t2])).2) ?_ fun z hz2 => ?_
        · cbv
          repeat' (first | apply And.intro | exact fun (_ : False → False) => by kernel_rfl | (intro h2; cbv) | apply Or.inl)
          all_goals refine X.call (FO51 hr1 (by omega) fun q1 hq1 => ?_)
          all_goals cbv
          all_goals repeat' (first | apply And.intro | exact fun (_ : False → False) => by kernel_rfl | (intro h2; cbv) | apply Or.inl)
          all_goals refine X.call (FO51 hr2 (by omega) fun q2 hq2 => ?_)
          all_goals cbv
          all_goals repeat' (first | apply And.intro | exact fun (_ : False → False) => by kernel_rfl | (intro h2; cbv) | apply Or.inl)
          all_goals try (obtain rfl := X.a; rw [hq1, hq2]; simp only [Std_t0, Std_t1, Std_x0, Std_x1, Std_len, Std_lt, Std_le, Std_eq, Std_add, Std_sub, Std_mul, Std_not, Std_ite, Std_str, Std_bool, Std_int, Std_slen, Std_seq, Std_slt', Std_beq, Std_idx, Std_bnd, Std_same, Std_max', Std_min', Std_partI, Std_app, Std_len_app, Std_len_lit, Std_len_setc, List.length_take, List.length_drop, List.length_append, List.length_cons, List.length_nil, Int.toNat_natCast, Std_inr64, bNot, Int.ofNat_eq_natCast, Int.natCast_zero, decide_eq_true_eq, decide_eq_false_iff_not, Bool.not_eq_true, Bool.not_eq_false, Bool.not_eq_eq_eq_not, Bool.not_true, Bool.not_false, beq_iff_eq, beq_eq_false_iff_ne, ne_eq, Bool.true_eq_false, Bool.false_eq_true, cond_true, cond_false]; omega)
          all_goals refine X.call (F48 (l := without x path ++ without y path ++ [eitherT path t1 t2]) ?_ (by simp; omega) ?_ fun r4 b4 hr4 hb4 => ?_)
          all_goals try (rw [X.a]; exact Std_app' (Std_app' hq1 hq2) (lit1e (eitherT path t1 t2) (by rw [hz.1, hz.2]; rfl)))
          all_goals try (
            intro t ht
            simp only [List.mem_append, List.mem_singleton] at ht
            rcases ht with (ht | ht) | rfl
            · have := (hc1 _ (without_mem ht)).length; omega
            · have := (hc2 _ (without_mem ht)).length; omega
            · have := (can_union [t1.set, t2.set]).length; show (union [t1.set, t2.set]).length ≤ _; omega)
          all_goals cbv
          all_goals refine ⟨(r4, b4), ⟨hr4, hb4⟩, [], ?_⟩
          all_goals (cbv; repeat' apply And.intro); all_goals (try (first | trivial | rfl | (rw [X.a]; rfl)))
        · obtain ⟨r4, b4⟩ := z
          dsimp only at hz2 ⊢
          cbv
          repeat' (first | apply And.intro | exact fun (_ : False → False) => by kernel_rfl | (intro h2; cbv) | apply Or.inl)
          · have : b4 = false := by obtain rfl := X.a; simp only [Std_t0, Std_t1, Std_x0, Std_x1, Std_len, Std_lt, Std_le, Std_eq, Std_add, Std_sub, Std_mul, Std_not, Std_ite, Std_str, Std_bool, Std_int, Std_slen, Std_seq, Std_slt', Std_beq, Std_idx, Std_bnd, Std_same, Std_max', Std_min', Std_partI, Std_app, Std_len_app, Std_len_lit, Std_len_setc, List.length_take, List.length_drop, List.length_append, List.length_cons, List.length_nil, Int.toNat_natCast, Std_inr64, bNot, Int.ofNat_eq_natCast, Int.natCast_zero, decide_eq_true_eq, decide_eq_false_iff_not, Bool.not_eq_true, Bool.not_eq_false, Bool.not_eq_eq_eq_not, Bool.not_true, Bool.not_false, beq_iff_eq, beq_eq_false_iff_ne, ne_eq, Bool.true_eq_false, Bool.false_eq_true, cond_true, cond_false] at *; assumption
            rw [if_neg (by rw [← hz2.2, this]; simp)] at hdef2
            exact h _ _ (by rw [hdef2]; rfl) (by rw [hdef2])
          · have : b4 = true := by obtain rfl := X.a; simp only [Std_t0, Std_t1, Std_x0, Std_x1, Std_len, Std_lt, Std_le, Std_eq, Std_add, Std_sub, Std_mul, Std_not, Std_ite, Std_str, Std_bool, Std_int, Std_slen, Std_seq, Std_slt', Std_beq, Std_idx, Std_bnd, Std_same, Std_max', Std_min', Std_partI, Std_app, Std_len_app, Std_len_lit, Std_len_setc, List.length_take, List.length_drop, List.length_append, List.length_cons, List.length_nil, Int.toNat_natCast, Std_inr64, bNot, Int.ofNat_eq_natCast, Int.natCast_zero, decide_eq_true_eq, decide_eq_false_iff_not, Bool.not_eq_true, Bool.not_eq_false, Bool.not_eq_eq_eq_not, Bool.not_true, Bool.not_false, beq_iff_eq, beq_eq_false_iff_ne, ne_eq, Bool.true_eq_false, Bool.false_eq_true, cond_true, cond_false] at *; assumption
            rw [if_pos (by rw [← hz2.2, this])] at hdef2
            exact h _ _ (by rw [hdef2, hz2.1]) (by rw [hdef2])
end Go.VC.T35
end

section
set_option linter.unusedSimpArgs false
set_option linter.unusedVariables false
namespace Go.VC.T35
open Go Go.VC Go.Proofs

set_option maxRecDepth 100000 in
set_option maxHeartbeats 2000000 in
theorem F21 {a b : List Term} {d e : D} {K : PV → List Ob → Prop} (hd : d = encL encT a) (he : e = encL encT b) (ha : a.length ≤ 400) (hb : b.length ≤ 400) (has : ∀ t ∈ a, t.set.length ≤ 2000000) (hbs : ∀ t ∈ b, t.set.length ≤ 2000000)
    (h : ∀ r, r = subsumesT a b → K (.bool r) []) : FC Tryz.prog tt 21 [] [.lst 51 d, .lst 51 e] K := by
  refine FC.enter (G := g21) tt_ok mixed ⟨Tryz.func21, by rfl, rfl⟩ rfl rfl rfl ?_
  intro A C L X
  cbv
  refine X.call (F48 hd (by omega) has fun r1 b1 hr1 hb1 => ?_)
  cbv
  refine X.call (F48 he (by omega) hbs fun r2 b2 hr2 hb2 => ?_)
  have hl1 := canonT_len (l := a)
  have hl2 := canonT_len (l := b)
  have hc1 := canonT_can (l := a)
  have hc2 := canonT_can (l := b)
  have hdef : subsumesT a b = subsumesX (canonT a).1 (canonT b).1 b1 b2 := by rw [hb1, hb2]; rfl
  obtain ⟨x, hx⟩ : ∃ x, x = (canonT a).1 := ⟨_, rfl⟩
  obtain ⟨y, hy⟩ : ∃ y, y = (canonT b).1 := ⟨_, rfl⟩
  rw [← hx] at hr1 hl1 hc1 hdef
  rw [← hy] at hr2 hl2 hc2 hdef
  cbv
  repeat' (first | apply And.intro | exact fun (_ : False → False) => by kernel_rfl | (intro h2; cbv) | apply Or.inl)
  · refine h _ ?_
    obtain rfl := X.a; simp only [Std_t0, Std_t1, Std_x0, Std_x1, Std_len, Std_lt, Std_le, Std_eq, Std_add, Std_sub, Std_mul, Std_not, Std_ite, Std_str, Std_bool, Std_int, Std_slen, Std_seq, Std_slt', Std_beq, Std_idx, Std_bnd, Std_same, Std_max', Std_min', Std_partI, Std_app, Std_len_app, Std_len_lit, Std_len_setc, List.length_take, List.length_drop, List.length_append, List.length_cons, List.length_nil, Int.toNat_natCast, Std_inr64, bNot, Int.ofNat_eq_natCast, Int.natCast_zero, decide_eq_true_eq, decide_eq_false_iff_not, Bool.not_eq_true, Bool.not_eq_false, Bool.not_eq_eq_eq_not, Bool.not_true, Bool.not_false, beq_iff_eq, beq_eq_false_iff_ne, ne_eq, Bool.true_eq_false, Bool.false_eq_true, cond_true, cond_false] at *
    rw [hdef]; simp only [subsumesX]; simp_all
  · have hb12 : b1 = true ∧ b2 = true := by obtain rfl := X.a; simp only [Std_t0, Std_t1, Std_x0, Std_x1, Std_len, Std_lt, Std_le, Std_eq, Std_add, Std_sub, Std_mul, Std_not, Std_ite, Std_str, Std_bool, Std_int, Std_slen, Std_seq, Std_slt', Std_beq, Std_idx, Std_bnd, Std_same, Std_max', Std_min', Std_partI, Std_app, Std_len_app, Std_len_lit, Std_len_setc, List.length_take, List.length_drop, List.length_append, List.length_cons, List.length_nil, Int.toNat_natCast, Std_inr64, bNot, Int.ofNat_eq_natCast, Int.natCast_zero, decide_eq_true_eq, decide_eq_false_iff_not, Bool.not_eq_true, Bool.not_eq_false, Bool.not_eq_eq_eq_not, Bool.not_true, Bool.not_false, beq_iff_eq, beq_eq_false_iff_ne, ne_eq, Bool.true_eq_false, Bool.false_eq_true, cond_true, cond_false] at *; exact ⟨by assumption, by assumption⟩
    have hdef2 : subsumesT a b = x.all (sub1 y) := by rw [hdef, subsumesX, if_pos ⟨hb12.2, hb12.1⟩]
    refine X.loop (fun (i : Nat) => ⟨[(9, .int .i64 i), (4, .bl false), (5, .lst 51 r1), (7, .lst 51 r2)], []⟩) (fun i => i ≤ x.length ∧ ∀ t ∈ x.take i, sub1 y t = true) (fun i => x.length - i) 0 ⟨Nat.zero_le _, by simp⟩ ?_ ?_
    · (cbv; repeat' apply And.intro); all_goals (try (first | trivial | rfl | (rw [X.a]; rfl)))
    rintro i ⟨hi, ha'⟩
    cbv
    refine ⟨fun h1 => ?_, fun h1 => ?_⟩
    · have h5 : i < x.length := by obtain rfl := X.a; rw [hr1] at h1; simp only [Std_t0, Std_t1, Std_x0, Std_x1, Std_len, Std_lt, Std_le, Std_eq, Std_add, Std_sub, Std_mul, Std_not, Std_ite, Std_str, Std_bool, Std_int, Std_slen, Std_seq, Std_slt', Std_beq, Std_idx, Std_bnd, Std_same, Std_max', Std_min', Std_partI, Std_app, Std_len_app, Std_len_lit, Std_len_setc, List.length_take, List.length_drop, List.length_append, List.length_cons, List.length_nil, Int.toNat_natCast, Std_inr64, bNot, Int.ofNat_eq_natCast, Int.natCast_zero, decide_eq_true_eq, decide_eq_false_iff_not, Bool.not_eq_true, Bool.not_eq_false, Bool.not_eq_eq_eq_not, Bool.not_true, Bool.not_false, beq_iff_eq, beq_eq_false_iff_ne, ne_eq, Bool.true_eq_false, Bool.false_eq_true, cond_true, cond_false] at *; omega
      have e5 := encT_cell2 (l := x) (a := Int.ofNat i) i rfl h5
      have g5 : gt x (Int.ofNat i) = x[i] := gt_get i rfl h5
      have hst := (hc1 _ (List.getElem_mem h5)).length
      have hall : sub1 y x[i] = false → x.all (sub1 y) = false := fun hf => all_false h5 hf
      obtain ⟨t, ht⟩ : ∃ t, t = x[i] := ⟨_, rfl⟩
      have htk : ∀ u ∈ x.take (i+1), u ∈ x.take i ∨ u = t := by
        intro u hu
        rw [take_succ' h5] at hu
        rcases List.mem_append.1 hu with hu | hu
        · exact .inl hu
        · simp only [List.mem_singleton] at hu; exact .inr (by rw [hu, ht])
      rw [← ht] at e5 g5 hst hall
      have hnext : sub1 y t = true → ∀ u ∈ x.take (i+1), sub1 y u = true := by
        intro hs u hu
        rcases htk u hu with hu | rfl
        · exact ha' u hu
        · exact hs
      have hp : A.asStr (A.cell r1 (Int.ofNat i) 0) = t.path := by rw [X.a, hr1]; have := g5; rw [Std_t0, this]
      have hb' : A.asBool (A.cell r1 (Int.ofNat i) 1) = t.absent := by rw [X.a, hr1]; rw [Std_t1, g5]
      have hset : A.cell r1 (Int.ofNat i) 2 = encL encX t.set := by rw [X.a, hr1]; exact e5
      cbv
      refine ⟨?_, ?_⟩
      · obtain rfl := X.a; rw [hr1] at *; simp only [Std_t0, Std_t1, Std_x0, Std_x1, Std_len, Std_lt, Std_le, Std_eq, Std_add, Std_sub, Std_mul, Std_not, Std_ite, Std_str, Std_bool, Std_int, Std_slen, Std_seq, Std_slt', Std_beq, Std_idx, Std_bnd, Std_same, Std_max', Std_min', Std_partI, Std_app, Std_len_app, Std_len_lit, Std_len_setc, List.length_take, List.length_drop, List.length_append, List.length_cons, List.length_nil, Int.toNat_natCast, Std_inr64, bNot, Int.ofNat_eq_natCast, Int.natCast_zero, decide_eq_true_eq, decide_eq_false_iff_not, Bool.not_eq_true, Bool.not_eq_false, Bool.not_eq_eq_eq_not, Bool.not_true, Bool.not_false, beq_iff_eq, beq_eq_false_iff_ne, ne_eq, Bool.true_eq_false, Bool.false_eq_true, cond_true, cond_false] at *; omega
      refine X.call (F49 (p := A.asStr (A.cell r1 (Int.ofNat i) 0)) hr2 (by omega) (fun hn1 => ?_) fun t1 e1 ht1 he1 => ?_)
      · rw [hp] at hn1
        have hs : sub1 y t = false := by simp only [sub1, hn1]
        cbv
        repeat' (first | apply And.intro | exact fun (_ : False → False) => by kernel_rfl | (intro h2; cbv) | apply Or.inl)
        all_goals try (exfalso; obtain rfl := X.a; simp only [Std_t0, Std_t1, Std_x0, Std_x1, Std_len, Std_lt, Std_le, Std_eq, Std_add, Std_sub, Std_mul, Std_not, Std_ite, Std_str, Std_bool, Std_int, Std_slen, Std_seq, Std_slt', Std_beq, Std_idx, Std_bnd, Std_same, Std_max', Std_min', Std_partI, Std_app, Std_len_app, Std_len_lit, Std_len_setc, List.length_take, List.length_drop, List.length_append, List.length_cons, List.length_nil, Int.toNat_natCast, Std_inr64, bNot, Int.ofNat_eq_natCast, Int.natCast_zero, decide_eq_true_eq, decide_eq_false_iff_not, Bool.not_eq_true, Bool.not_eq_false, Bool.not_eq_eq_eq_not, Bool.not_true, Bool.not_false, beq_iff_eq, beq_eq_false_iff_ne, ne_eq, Bool.true_eq_false, Bool.false_eq_true, cond_true, cond_false] at *; done)
        all_goals exact h _ (by rw [hdef2, hall hs])
      · rw [hp] at ht1
        have hs : sub1 y t = (!(t1.absent && !t.absent) && subset t1.set t.set) := by simp only [sub1, ht1]
        have hst1 : t1.set.length ≤ 1000001 := (hc2 _ (findT'_mem ht1).1).length
        have fin : (t1.absent && !t.absent) = false → ∀ q, q = subset t1.set t.set → q = sub1 y t := by
          intro h8 q hq
          rw [hs, h8, hq]; simp
        cbv
        repeat' (first | apply And.intro | exact fun (_ : False → False) => by kernel_rfl | (intro h2; cbv) | apply Or.inl)
        all_goals try (exfalso; obtain rfl := X.a; simp only [Std_t0, Std_t1, Std_x0, Std_x1, Std_len, Std_lt, Std_le, Std_eq, Std_add, Std_sub, Std_mul, Std_not, Std_ite, Std_str, Std_bool, Std_int, Std_slen, Std_seq, Std_slt', Std_beq, Std_idx, Std_bnd, Std_same, Std_max', Std_min', Std_partI, Std_app, Std_len_app, Std_len_lit, Std_len_setc, List.length_take, List.length_drop, List.length_append, List.length_cons, List.length_nil, Int.toNat_natCast, Std_inr64, bNot, Int.ofNat_eq_natCast, Int.natCast_zero, decide_eq_true_eq, decide_eq_false_iff_not, Bool.not_eq_true, Bool.not_eq_false, Bool.not_eq_eq_eq_not, Bool.not_true, Bool.not_false, beq_iff_eq, beq_eq_false_iff_ne, ne_eq, Bool.true_eq_false, Bool.false_eq_true, cond_true, cond_false] at *; done)
        all_goals try (subst hr1; obtain rfl := X.a; simp only [Std_t0, Std_t1, Std_x0, Std_x1, Std_len, Std_lt, Std_le, Std_eq, Std_add, Std_sub, Std_mul, Std_not, Std_ite, Std_str, Std_bool, Std_int, Std_slen, Std_seq, Std_slt', Std_beq, Std_idx, Std_bnd, Std_same, Std_max', Std_min', Std_partI, Std_app, Std_len_app, Std_len_lit, Std_len_setc, List.length_take, List.length_drop, List.length_append, List.length_cons, List.length_nil, Int.toNat_natCast, Std_inr64, bNot, Int.ofNat_eq_natCast, Int.natCast_zero, decide_eq_true_eq, decide_eq_false_iff_not, Bool.not_eq_true, Bool.not_eq_false, Bool.not_eq_eq_eq_not, Bool.not_true, Bool.not_false, beq_iff_eq, beq_eq_false_iff_ne, ne_eq, Bool.true_eq_false, Bool.false_eq_true, cond_true, cond_false] at * <;> omega)
        rotate_left
        · have : t.absent = false := by
            rw [← hb']; obtain rfl := X.a; simp only [Std_t0, Std_t1, Std_x0, Std_x1, Std_len, Std_lt, Std_le, Std_eq, Std_add, Std_sub, Std_mul, Std_not, Std_ite, Std_str, Std_bool, Std_int, Std_slen, Std_seq, Std_slt', Std_beq, Std_idx, Std_bnd, Std_same, Std_max', Std_min', Std_partI, Std_app, Std_len_app, Std_len_lit, Std_len_setc, List.length_take, List.length_drop, List.length_append, List.length_cons, List.length_nil, Int.toNat_natCast, Std_inr64, bNot, Int.ofNat_eq_natCast, Int.natCast_zero, decide_eq_true_eq, decide_eq_false_iff_not, Bool.not_eq_true, Bool.not_eq_false, Bool.not_eq_eq_eq_not, Bool.not_true, Bool.not_false, beq_iff_eq, beq_eq_false_iff_ne, ne_eq, Bool.true_eq_false, Bool.false_eq_true, cond_true, cond_false] at *; assumption
          exact h _ (by rw [hdef2, hall (by rw [hs, this, show t1.absent = true by assumption]; rfl)])
        rotate_left
        all_goals
          have h8 : (t1.absent && !t.absent) = false := by
            rw [← hb']; obtain rfl := X.a; simp only [Std_t0, Std_t1, Std_x0, Std_x1, Std_len, Std_lt, Std_le, Std_eq, Std_add, Std_sub, Std_mul, Std_not, Std_ite, Std_str, Std_bool, Std_int, Std_slen, Std_seq, Std_slt', Std_beq, Std_idx, Std_bnd, Std_same, Std_max', Std_min', Std_partI, Std_app, Std_len_app, Std_len_lit, Std_len_setc, List.length_take, List.length_drop, List.length_append, List.length_cons, List.length_nil, Int.toNat_natCast, Std_inr64, bNot, Int.ofNat_eq_natCast, Int.natCast_zero, decide_eq_true_eq, decide_eq_false_iff_not, Bool.not_eq_true, Bool.not_eq_false, Bool.not_eq_eq_eq_not, Bool.not_true, Bool.not_false, beq_iff_eq, beq_eq_false_iff_ne, ne_eq, Bool.true_eq_false, Bool.false_eq_true, cond_true, cond_false] at *; simp_all
          refine X.call (F55 he1 hset (by omega) (by omega) fun q hq => ?_)
          have hq2 := fin h8 q hq
          cbv
          repeat' (first | apply And.intro | exact fun (_ : False → False) => by kernel_rfl | (intro h2; cbv) | apply Or.inl)
        all_goals try (subst hr1; obtain rfl := X.a; simp only [Std_t0, Std_t1, Std_x0, Std_x1, Std_len, Std_lt, Std_le, Std_eq, Std_add, Std_sub, Std_mul, Std_not, Std_ite, Std_str, Std_bool, Std_int, Std_slen, Std_seq, Std_slt', Std_beq, Std_idx, Std_bnd, Std_same, Std_max', Std_min', Std_partI, Std_app, Std_len_app, Std_len_lit, Std_len_setc, List.length_take, List.length_drop, List.length_append, List.length_cons, List.length_nil, Int.toNat_natCast, Std_inr64, bNot, Int.ofNat_eq_natCast, Int.natCast_zero, decide_eq_true_eq, decide_eq_false_iff_not, Bool.not_eq_true, Bool.not_eq_false, Bool.not_eq_eq_eq_not, Bool.not_true, Bool.not_false, beq_iff_eq, beq_eq_false_iff_ne, ne_eq, Bool.true_eq_false, Bool.false_eq_true, cond_true, cond_false] at * <;> omega)
        all_goals first
          | (have hqv : q = false := by obtain rfl := X.a; simp only [Std_t0, Std_t1, Std_x0, Std_x1, Std_len, Std_lt, Std_le, Std_eq, Std_add, Std_sub, Std_mul, Std_not, Std_ite, Std_str, Std_bool, Std_int, Std_slen, Std_seq, Std_slt', Std_beq, Std_idx, Std_bnd, Std_same, Std_max', Std_min', Std_partI, Std_app, Std_len_app, Std_len_lit, Std_len_setc, List.length_take, List.length_drop, List.length_append, List.length_cons, List.length_nil, Int.toNat_natCast, Std_inr64, bNot, Int.ofNat_eq_natCast, Int.natCast_zero, decide_eq_true_eq, decide_eq_false_iff_not, Bool.not_eq_true, Bool.not_eq_false, Bool.not_eq_eq_eq_not, Bool.not_true, Bool.not_false, beq_iff_eq, beq_eq_false_iff_ne, ne_eq, Bool.true_eq_false, Bool.false_eq_true, cond_true, cond_false] at *; assumption
             exact h _ (by rw [hdef2, hall (by rw [← hq2, hqv])]))
          | (have hqv : q = true := by obtain rfl := X.a; simp only [Std_t0, Std_t1, Std_x0, Std_x1, Std_len, Std_lt, Std_le, Std_eq, Std_add, Std_sub, Std_mul, Std_not, Std_ite, Std_str, Std_bool, Std_int, Std_slen, Std_seq, Std_slt', Std_beq, Std_idx, Std_bnd, Std_same, Std_max', Std_min', Std_partI, Std_app, Std_len_app, Std_len_lit, Std_len_setc, List.length_take, List.length_drop, List.length_append, List.length_cons, List.length_nil, Int.toNat_natCast, Std_inr64, bNot, Int.ofNat_eq_natCast, Int.natCast_zero, decide_eq_true_eq, decide_eq_false_iff_not, Bool.not_eq_true, Bool.not_eq_false, Bool.not_eq_eq_eq_not, Bool.not_true, Bool.not_false, beq_iff_eq, beq_eq_false_iff_ne, ne_eq, Bool.true_eq_false, Bool.false_eq_true, cond_true, cond_false] at *; assumption
             refine ⟨i+1, ⟨by omega, hnext (by rw [← hq2, hqv])⟩, by omega, ?_⟩
             (cbv; repeat' apply And.intro); all_goals (try (first | trivial | rfl | (rw [X.a]; rfl))))
    · refine h _ ?_
      have h5 : i = x.length := by obtain rfl := X.a; rw [hr1] at h1; simp only [Std_t0, Std_t1, Std_x0, Std_x1, Std_len, Std_lt, Std_le, Std_eq, Std_add, Std_sub, Std_mul, Std_not, Std_ite, Std_str, Std_bool, Std_int, Std_slen, Std_seq, Std_slt', Std_beq, Std_idx, Std_bnd, Std_same, Std_max', Std_min', Std_partI, Std_app, Std_len_app, Std_len_lit, Std_len_setc, List.length_take, List.length_drop, List.length_append, List.length_cons, List.length_nil, Int.toNat_natCast, Std_inr64, bNot, Int.ofNat_eq_natCast, Int.natCast_zero, decide_eq_true_eq, decide_eq_false_iff_not, Bool.not_eq_true, Bool.not_eq_false, Bool.not_eq_eq_eq_not, Bool.not_true, Bool.not_false, beq_iff_eq, beq_eq_false_iff_ne, ne_eq, Bool.true_eq_false, Bool.false_eq_true, cond_true, cond_false] at *; omega
      rw [h5, List.take_length] at ha'
      rw [hdef2, eq_comm, List.all_eq_true]; exact ha'
  · refine h _ ?_
    obtain rfl := X.a; simp only [Std_t0, Std_t1, Std_x0, Std_x1, Std_len, Std_lt, Std_le, Std_eq, Std_add, Std_sub, Std_mul, Std_not, Std_ite, Std_str, Std_bool, Std_int, Std_slen, Std_seq, Std_slt', Std_beq, Std_idx, Std_bnd, Std_same, Std_max', Std_min', Std_partI, Std_app, Std_len_app, Std_len_lit, Std_len_setc, List.length_take, List.length_drop, List.length_append, List.length_cons, List.length_nil, Int.toNat_natCast, Std_inr64, bNot, Int.ofNat_eq_natCast, Int.natCast_zero, decide_eq_true_eq, decide_eq_false_iff_not, Bool.not_eq_true, Bool.not_eq_false, Bool.not_eq_eq_eq_not, Bool.not_true, Bool.not_false, beq_iff_eq, beq_eq_false_iff_ne, ne_eq, Bool.true_eq_false, Bool.false_eq_true, cond_true, cond_false] at *
    rw [hdef]; simp only [subsumesX]; simp_all
end Go.VC.T35
end

section
set_option linter.unusedSimpArgs false
set_option linter.unusedVariables false
namespace Go.VC.T35
open Go Go.VC Go.Proofs

theorem F73 {p q c0 : List UInt8} {c1 : Bool} {c2 : D} {K : PV → List Ob → Prop} (h0 : c0 = p) (h : ∀ b, b = (p == q) → K (.bool b) []) : FC Tryz.prog tt 73 [] (.agg [.str c0, .bool c1, .lst 65 c2] :: [.pptr [.str q] 0]) K := by
  subst h0
  refine FC.enter (G := g73) tt_ok mixed ⟨Tryz.func73, by rfl, rfl⟩ rfl rfl rfl ?_
  intro A C L X
  cbv
  refine h _ ?_
  rw [X.a]; rfl
theorem F35 {p q c0 : List UInt8} {c1 : Bool} {c2 : D} {K : PV → List Ob → Prop} (h0 : c0 = p) (h : ∀ b, b = (p == q) → K (.bool b) []) : FC Tryz.prog tt 35 [] (.agg [.str c0, .bool c1, .lst 65 c2] :: [.pptr [.str q] 0]) K := by
  subst h0
  refine FC.enter (G := g35) tt_ok mixed ⟨Tryz.func35, by rfl, rfl⟩ rfl rfl rfl ?_
  intro A C L X
  cbv
  refine h _ ?_
  rw [X.a]; rfl
theorem F53 {p q c0 : List UInt8} {c1 qb : Bool} {c2 qd : D} {K : PV → List Ob → Prop} (h0 : c0 = p) (h : ∀ b, b = (p == q) → K (.bool b) []) : FC Tryz.prog tt 53 [] (.agg [.str c0, .bool c1, .lst 65 c2] :: [.pptr [.str q, .bool qb, .lst 65 qd] 0]) K := by
  subst h0
  refine FC.enter (G := g53) tt_ok mixed ⟨Tryz.func53, by rfl, rfl⟩ rfl rfl rfl ?_
  intro A C L X
  cbv
  refine h _ ?_
  rw [X.a]; rfl
theorem F58 {p q c0 : List UInt8} {c1 c2 c3 : Int} {qb : Bool} {qd : D} {K : PV → List Ob → Prop} (h0 : c0 = p) (h : ∀ b, b = (p == q) → K (.bool b) []) : FC Tryz.prog tt 58 [] (.agg [.str c0, .int .i64 c1, .int .i64 c2, .int .i64 c3] :: [.pptr [.str q, .bool qb, .lst 65 qd] 0]) K := by
  subst h0
  refine FC.enter (G := g58) tt_ok mixed ⟨Tryz.func58, by rfl, rfl⟩ rfl rfl rfl ?_
  intro A C L X
  cbv
  refine h _ ?_
  rw [X.a]; rfl
theorem F69 {p q c0 : List UInt8} {c1 c2 c3 : Int} {qb : Bool} {qd : D} {K : PV → List Ob → Prop} (h0 : c0 = p) (h : ∀ b, b = (p == q) → K (.bool b) []) : FC Tryz.prog tt 69 [] (.agg [.str c0, .int .i64 c1, .int .i64 c2, .int .i64 c3] :: [.pptr [.str q, .bool qb, .lst 65 qd] 0]) K := by
  subst h0
  refine FC.enter (G := g69) tt_ok mixed ⟨Tryz.func69, by rfl, rfl⟩ rfl rfl rfl ?_
  intro A C L X
  cbv
  refine h _ ?_
  rw [X.a]; rfl
set_option maxRecDepth 100000 in
theorem F60 {a b q c0 c1 : Int} {K : PV → List Ob → Prop} (h0 : c0 = a) (h1 : c1 = b) (h : ∀ r, r = (decide (a ≤ q) && decide (q < b)) → K (.bool r) []) : FC Tryz.prog tt 60 [] (.agg [.int .i64 c0, .int .i64 c1] :: [.pptr [.int .i64 q] 0]) K := by
  subst h0; subst h1
  refine FC.enter (G := g60) tt_ok mixed ⟨Tryz.func60, by rfl, rfl⟩ rfl rfl rfl ?_
  intro A C L X
  cbv
  repeat' (first | apply And.intro | exact fun (_ : False → False) => by kernel_rfl | (intro h2; cbv) | apply Or.inl)
  all_goals refine h _ ?_
  all_goals (obtain rfl := X.a; simp only [Std_x0, Std_x1, Std_len, Std_lt, Std_le, Std_eq, Std_add, Std_sub, Std_mul, Std_not, Std_ite, Std_str, Std_bool, Std_int, Std_slen, Std_seq, Std_slt', Std_beq, Std_idx, Std_bnd, Std_same, Std_max', Std_min', Std_partI, Std_app, Std_len_app, Std_len_lit, Std_len_setc, List.length_take, List.length_drop, List.length_append, List.length_cons, List.length_nil, Int.toNat_natCast, Std_inr64, bNot, Int.ofNat_eq_natCast, Int.natCast_zero, decide_eq_true_eq, decide_eq_false_iff_not, Bool.not_eq_true, Bool.not_eq_false, Bool.not_eq_eq_eq_not, Bool.not_true, Bool.not_false, beq_iff_eq, beq_eq_false_iff_ne, ne_eq, Bool.true_eq_false, Bool.false_eq_true, cond_true, cond_false] at *)
  · simp [h2]
  · simp; intro h3; omega

def hasS (s : List (Int × Int)) (p : Int) : Bool := decide (0 ≤ p) && decide (p < 1000000) && s.any fun x => decide (x.1 ≤ p) && decide (p < x.2)
theorem hasS_iff {s : List (Int × Int)} {p : Int} : hasS s p = true ↔ pl s p := by
  simp only [hasS, pl, Bool.and_eq_true, decide_eq_true_eq, List.any_eq_true]
  constructor
  · rintro ⟨⟨a, b⟩, x, h1, h2⟩; exact ⟨a, b, x, h1, h2⟩
  · rintro ⟨a, b, x, h1, h2⟩; exact ⟨⟨a, b⟩, x, h1, h2⟩
set_option maxRecDepth 100000 in
theorem F30 {s : List (Int × Int)} {p : Int} {d : D} {K : PV → List Ob → Prop} (hd : d = encL encX s) (hs : s.length < 4294967296) (h : ∀ r, r = hasS s p → K (.bool r) []) : FC Tryz.prog tt 30 [] [.lst 65 d, .int .i64 p] K := by
  refine FC.enter (G := g30) tt_ok mixed ⟨Tryz.func30, by rfl, rfl⟩ rfl rfl rfl ?_
  intro A C L X
  cbv
  repeat' (first | apply And.intro | exact fun (_ : False → False) => by kernel_rfl | (intro h2; cbv) | apply Or.inl)
  all_goals try
    (refine h _ ?_
     obtain rfl := X.a; simp only [Std_x0, Std_x1, Std_len, Std_lt, Std_le, Std_eq, Std_add, Std_sub, Std_mul, Std_not, Std_ite, Std_str, Std_bool, Std_int, Std_slen, Std_seq, Std_slt', Std_beq, Std_idx, Std_bnd, Std_same, Std_max', Std_min', Std_partI, Std_app, Std_len_app, Std_len_lit, Std_len_setc, List.length_take, List.length_drop, List.length_append, List.length_cons, List.length_nil, Int.toNat_natCast, Std_inr64, bNot, Int.ofNat_eq_natCast, Int.natCast_zero, decide_eq_true_eq, decide_eq_false_iff_not, Bool.not_eq_true, Bool.not_eq_false, Bool.not_eq_eq_eq_not, Bool.not_true, Bool.not_false, beq_iff_eq, beq_eq_false_iff_ne, ne_eq, Bool.true_eq_false, Bool.false_eq_true, cond_true, cond_false] at *
     simp [hasS]; omega)
  refine X.call (F59x60 (q := p) (p := fun x => decide (x.1 ≤ p) && decide (p < x.2)) hd hs (fun x _ c0 c1 e0 e1 K' hK => F60 e0 e1 hK) fun r hr => ?_)
  cbv
  refine h _ ?_
  obtain rfl := X.a; simp only [Std_x0, Std_x1, Std_len, Std_lt, Std_le, Std_eq, Std_add, Std_sub, Std_mul, Std_not, Std_ite, Std_str, Std_bool, Std_int, Std_slen, Std_seq, Std_slt', Std_beq, Std_idx, Std_bnd, Std_same, Std_max', Std_min', Std_partI, Std_app, Std_len_app, Std_len_lit, Std_len_setc, List.length_take, List.length_drop, List.length_append, List.length_cons, List.length_nil, Int.toNat_natCast, Std_inr64, bNot, Int.ofNat_eq_natCast, Int.natCast_zero, decide_eq_true_eq, decide_eq_false_iff_not, Bool.not_eq_true, Bool.not_eq_false, Bool.not_eq_eq_eq_not, Bool.not_true, Bool.not_false, beq_iff_eq, beq_eq_false_iff_ne, ne_eq, Bool.true_eq_false, Bool.false_eq_true, cond_true, cond_false] at *
  rw [hr, hasS]
  have h0 : decide (0 ≤ p) = true := by simp; omega
  have h1 : decide (p < 1000000) = true := by simp; omega
  rw [h0, h1]; rfl

set_option maxRecDepth 100000 in
theorem F75 {l : List Term} {d : D} {K : PV → List Ob → Prop} (hd : d = encL encT l) (hl : l.length < 4294967296) (h : ∀ r, r = encL encT l → K (.row 51 0) [.row 51 r true]) : FC Tryz.prog tt 75 [] [.lst 51 d] K := by
  refine FC.enterOwn (G := g75) tt_ok mixed ⟨Tryz.func75, by rfl, rfl⟩ rfl rfl rfl ?_
  intro A C L X
  cbv
  repeat' (first | apply And.intro | exact fun (_ : False → False) => by kernel_rfl | (intro h2; cbv) | apply Or.inl)
  · rename_i b0 hb0
    refine h _ ?_
    have : l = [] := by
      have h9 := hb0 h2
      rw [X.a, hd] at h9
      have h9 : Std.len (encL encT l) = 0 := h9
      rw [Std_len] at h9
      exact List.eq_nil_of_length_eq_zero (by omega)
    rw [this]; rfl
  · obtain rfl := X.a; rw [hd]; simp only [Std_x0, Std_x1, Std_len, Std_lt, Std_le, Std_eq, Std_add, Std_sub, Std_mul, Std_not, Std_ite, Std_str, Std_bool, Std_int, Std_slen, Std_seq, Std_slt', Std_beq, Std_idx, Std_bnd, Std_same, Std_max', Std_min', Std_partI, Std_app, Std_len_app, Std_len_lit, Std_len_setc, List.length_take, List.length_drop, List.length_append, List.length_cons, List.length_nil, Int.toNat_natCast, Std_inr64, bNot, Int.ofNat_eq_natCast, Int.natCast_zero, decide_eq_true_eq, decide_eq_false_iff_not, Bool.not_eq_true, Bool.not_eq_false, Bool.not_eq_eq_eq_not, Bool.not_true, Bool.not_false, beq_iff_eq, beq_eq_false_iff_ne, ne_eq, Bool.true_eq_false, Bool.false_eq_true, cond_true, cond_false]; omega
  · refine h _ ?_
    rw [X.a, hd]
    exact Std_app (l := []) (k := l)

set_option maxRecDepth 100000 in
theorem F47 {p q : List UInt8} {a b : Bool} {s t : List (Int × Int)} {d e : D} {K : PV → List Ob → Prop} (hd : d = encL encX s) (he : e = encL encX t) (hs : s.length ≤ 2000000) (ht : t.length ≤ 2000000)
    (h : ∀ r c, r = encL encX (union [s, t]) → c = (a || b) → K (.agg [.str p, .bool c, .lst 65 r]) []) : FC Tryz.prog tt 47 [] [.agg [.str p, .bool a, .lst 65 d], .agg [.str q, .bool b, .lst 65 e]] K := by
  refine FC.enter (G := g47) tt_ok mixed ⟨Tryz.func47, by rfl, rfl⟩ rfl rfl rfl ?_
  intro A C L X
  cbv
  repeat' (first | apply And.intro | exact fun (_ : False → False) => by kernel_rfl | (intro h2; cbv) | apply Or.inl)
  all_goals
    refine X.call (F76 (l := [s, t]) (by rw [X.a, hd, he]; rfl) (by simp) ?_ fun r hr => ?_)
    · intro u hu
      simp only [List.mem_cons, List.not_mem_nil, or_false] at hu
      rcases hu with rfl | rfl <;> assumption
    cbv
    refine h _ _ hr ?_
    try simp only [bNot] at h2
    rw [h2]; rfl
end Go.VC.T35
end

section
/- Splitting off a path's term. -/
namespace Go.VC
theorem canonT_srt {l : List Term} : SrtT (canonT l).1 := by
  unfold canonT
  split
  · exact List.Pairwise.nil
  · exact List.Pairwise.filter _ (SrtT.merged List.Pairwise.nil)
theorem findT'_idx {c : List Term} {p : List UInt8} {i : Nat} (h : i < c.length) (hp : (c[i].path == p) = true) (ha : ∀ x ∈ c.take i, (x.path == p) = false) : findT' c p = some c[i] := by
  rw [findT', List.find?_eq_some_iff_append]
  refine ⟨by simpa using hp, c.take i, c.drop (i+1), ?_, fun t ht => by simp [ha t ht]⟩
  rw [← List.drop_eq_getElem_cons h, List.take_append_drop]
theorem findT'_none {c : List Term} {p : List UInt8} (ha : ∀ x ∈ c, (x.path == p) = false) : findT' c p = none := by
  rw [findT', List.find?_eq_none]; intro t ht; simp [ha t ht]
theorem erase_without {c : List Term} (hs : SrtT c) {p : List UInt8} {i : Nat} (h : i < c.length) (hp : c[i].path = p) : c.eraseIdx i = without c p := by
  induction c generalizing i with
  | nil => simp at h
  | cons t c ih =>
    obtain ⟨h1, h2⟩ := List.pairwise_cons.1 hs
    cases i with
    | zero =>
      simp only [List.getElem_cons_zero] at hp
      simp only [List.eraseIdx_cons_zero, without, List.filter_cons, hp, beq_self_eq_true, Bool.not_true, Bool.false_eq_true, if_false]
      symm
      rw [List.filter_eq_self]
      intro u hu
      have := h1 u hu
      rw [hp] at this
      have hne : ¬ u.path = p := fun e => by rw [e, slt_irrefl] at this; cases this
      simp [hne]
    | succ i =>
      simp only [List.getElem_cons_succ] at hp
      have hi : i < c.length := by simpa using h
      have hne : ¬ t.path = p := fun e => by
        have := h1 _ (List.getElem_mem hi)
        rw [hp, e, slt_irrefl] at this; cases this
      simp only [List.eraseIdx_cons_succ, without, List.filter_cons]
      rw [if_pos (by simp [hne]), ih h2 hi hp]; rfl
theorem canonT_false {l : List Term} (h : (canonT l).2 = false) : (canonT l).1 = [] := by
  unfold canonT at *
  split
  · rfl
  · rename_i h'; rw [if_neg h'] at h; cases h
end Go.VC
end

section
set_option linter.unusedSimpArgs false
set_option linter.unusedVariables false
namespace Go.VC.T35
open Go Go.VC Go.Proofs

set_option maxRecDepth 100000 in
set_option maxHeartbeats 2000000 in
theorem F46 {l : List Term} {path : List UInt8} {d : D} {K : PV → List Ob → Prop} (hd : d = encL encT l) (hl : l.length ≤ 1000) (hs : ∀ t ∈ l, t.set.length ≤ 2000000)
    (h0 : ((canonT l).2 = false ∨ findT' (canonT l).1 path = none) → K (.tup [.agg [.str [], .bool false, .lst 65 (.list [])], .lst 51 (.list []), .bool false]) [])
    (h1 : ∀ t e r, (canonT l).2 = true → findT' (canonT l).1 path = some t → e = encL encX t.set → r = encL encT (without (canonT l).1 path) → K (.tup [.agg [.str path, .bool t.absent, .lst 65 e], .row 51 0, .bool true]) [.row 51 r true]) : FC Tryz.prog tt 46 [] [.lst 51 d, .str path] K := by
  refine FC.enterOwn (G := g46) tt_ok mixed ⟨Tryz.func46, by rfl, rfl⟩ rfl rfl rfl ?_
  intro A C L X
  cbv
  refine X.call (F34 hd hl hs fun r b hr hb => ?_)
  have hcl := canonT_len (l := l)
  have hcs := canonT_srt (l := l)
  obtain ⟨c, hc⟩ : ∃ c, c = (canonT l).1 := ⟨_, rfl⟩
  rw [← hc] at hr hcl hcs h0 h1
  rw [← hb] at h0 h1
  cbv
  refine X.call (F52x73 (q := path) (p := fun t => t.path == path) hr (by omega) (fun x _ c0 c1 c2 e0 e1 e2 K' hK => F73 e0 hK) fun i hi => ?_)
  rcases idxF_cases (fun t : Term => t.path == path) c with ⟨hx, hno⟩ | ⟨k, hk, hx, hpk, hbk⟩
  · rw [hx] at hi
    subst hi
    have hnone := findT'_none hno
    cbv
    repeat' (first | apply And.intro | exact fun (_ : False → False) => by kernel_rfl | (intro h2; cbv) | apply Or.inl)
    · exact h0 (.inr hnone)
    all_goals first
      | (exfalso; obtain rfl := X.a; simp only [Std_x0, Std_x1, Std_len, Std_lt, Std_le, Std_eq, Std_add, Std_sub, Std_mul, Std_not, Std_ite, Std_str, Std_bool, Std_int, Std_slen, Std_seq, Std_slt', Std_beq, Std_idx, Std_bnd, Std_same, Std_max', Std_min', Std_partI, Std_app, Std_len_app, Std_len_lit, Std_len_setc, List.length_take, List.length_drop, List.length_append, List.length_cons, List.length_nil, Int.toNat_natCast, Std_inr64, bNot, Int.ofNat_eq_natCast, Int.natCast_zero, decide_eq_true_eq, decide_eq_false_iff_not, Bool.not_eq_true, Bool.not_eq_false, Bool.not_eq_eq_eq_not, Bool.not_true, Bool.not_false, beq_iff_eq, beq_eq_false_iff_ne, ne_eq, Bool.true_eq_false, Bool.false_eq_true, cond_true, cond_false] at *; omega)
      | exact h0 (.inr hnone)
      | (rename_i hb2; refine h0 (.inl ?_); obtain rfl := X.a; simp only [Std_x0, Std_x1, Std_len, Std_lt, Std_le, Std_eq, Std_add, Std_sub, Std_mul, Std_not, Std_ite, Std_str, Std_bool, Std_int, Std_slen, Std_seq, Std_slt', Std_beq, Std_idx, Std_bnd, Std_same, Std_max', Std_min', Std_partI, Std_app, Std_len_app, Std_len_lit, Std_len_setc, List.length_take, List.length_drop, List.length_append, List.length_cons, List.length_nil, Int.toNat_natCast, Std_inr64, bNot, Int.ofNat_eq_natCast, Int.natCast_zero, decide_eq_true_eq, decide_eq_false_iff_not, Bool.not_eq_true, Bool.not_eq_false, Bool.not_eq_eq_eq_not, Bool.not_true, Bool.not_false, beq_iff_eq, beq_eq_false_iff_ne, ne_eq, Bool.true_eq_false, Bool.false_eq_true, cond_true, cond_false] at *; first | exact hb2 | assumption)

  · rw [hx] at hi
    have hfind := findT'_idx hk hpk hbk
    have hpath : c[k].path = path := by simpa using hpk
    have herase := erase_without hcs hk hpath
    have g5 : gt c (k : Int) = c[k] := gt_get k rfl hk
    have e5 := encT_cell2 (l := c) (a := (k : Int)) k rfl hk
    have hi2 : i = Int.ofNat k := hi
    subst hi2
    cbv
    repeat' (first | apply And.intro | exact fun (_ : False → False) => by kernel_rfl | (intro h2; cbv) | apply Or.inl)
    · exfalso; obtain rfl := X.a; simp only [Std_x0, Std_x1, Std_len, Std_lt, Std_le, Std_eq, Std_add, Std_sub, Std_mul, Std_not, Std_ite, Std_str, Std_bool, Std_int, Std_slen, Std_seq, Std_slt', Std_beq, Std_idx, Std_bnd, Std_same, Std_max', Std_min', Std_partI, Std_app, Std_len_app, Std_len_lit, Std_len_setc, List.length_take, List.length_drop, List.length_append, List.length_cons, List.length_nil, Int.toNat_natCast, Std_inr64, bNot, Int.ofNat_eq_natCast, Int.natCast_zero, decide_eq_true_eq, decide_eq_false_iff_not, Bool.not_eq_true, Bool.not_eq_false, Bool.not_eq_eq_eq_not, Bool.not_true, Bool.not_false, beq_iff_eq, beq_eq_false_iff_ne, ne_eq, Bool.true_eq_false, Bool.false_eq_true, cond_true, cond_false] at *; omega
    · obtain rfl := X.a; subst hr; simp only [Std_t0, Std_t1, Std_x0, Std_x1, Std_len, Std_lt, Std_le, Std_eq, Std_add, Std_sub, Std_mul, Std_not, Std_ite, Std_str, Std_bool, Std_int, Std_slen, Std_seq, Std_slt', Std_beq, Std_idx, Std_bnd, Std_same, Std_max', Std_min', Std_partI, Std_app, Std_len_app, Std_len_lit, Std_len_setc, List.length_take, List.length_drop, List.length_append, List.length_cons, List.length_nil, Int.toNat_natCast, Std_inr64, bNot, Int.ofNat_eq_natCast, Int.natCast_zero, decide_eq_true_eq, decide_eq_false_iff_not, Bool.not_eq_true, Bool.not_eq_false, Bool.not_eq_eq_eq_not, Bool.not_true, Bool.not_false, beq_iff_eq, beq_eq_false_iff_ne, ne_eq, Bool.true_eq_false, Bool.false_eq_true, cond_true, cond_false]; omega
    · obtain rfl := X.a; simp only [Std_x0, Std_x1, Std_len, Std_lt, Std_le, Std_eq, Std_add, Std_sub, Std_mul, Std_not, Std_ite, Std_str, Std_bool, Std_int, Std_slen, Std_seq, Std_slt', Std_beq, Std_idx, Std_bnd, Std_same, Std_max', Std_min', Std_partI, Std_app, Std_len_app, Std_len_lit, Std_len_setc, List.length_take, List.length_drop, List.length_append, List.length_cons, List.length_nil, Int.toNat_natCast, Std_inr64, bNot, Int.ofNat_eq_natCast, Int.natCast_zero, decide_eq_true_eq, decide_eq_false_iff_not, Bool.not_eq_true, Bool.not_eq_false, Bool.not_eq_eq_eq_not, Bool.not_true, Bool.not_false, beq_iff_eq, beq_eq_false_iff_ne, ne_eq, Bool.true_eq_false, Bool.false_eq_true, cond_true, cond_false]; omega
    · refine X.call (F75 hr (by omega) fun r2 hr2 => ?_)
      cbv
      refine X.call (F74 (i := k) rfl (by obtain rfl := X.a; simp only [Std_x0, Std_x1, Std_len, Std_lt, Std_le, Std_eq, Std_add, Std_sub, Std_mul, Std_not, Std_ite, Std_str, Std_bool, Std_int, Std_slen, Std_seq, Std_slt', Std_beq, Std_idx, Std_bnd, Std_same, Std_max', Std_min', Std_partI, Std_app, Std_len_app, Std_len_lit, Std_len_setc, List.length_take, List.length_drop, List.length_append, List.length_cons, List.length_nil, Int.toNat_natCast, Std_inr64, bNot, Int.ofNat_eq_natCast, Int.natCast_zero, decide_eq_true_eq, decide_eq_false_iff_not, Bool.not_eq_true, Bool.not_eq_false, Bool.not_eq_eq_eq_not, Bool.not_true, Bool.not_false, beq_iff_eq, beq_eq_false_iff_ne, ne_eq, Bool.true_eq_false, Bool.false_eq_true, cond_true, cond_false]) hk hr2 fun r3 hr3 => ?_)
      cbv
      have q := h1 c[k] _ r3 (by obtain rfl := X.a; simp only [Std_x0, Std_x1, Std_len, Std_lt, Std_le, Std_eq, Std_add, Std_sub, Std_mul, Std_not, Std_ite, Std_str, Std_bool, Std_int, Std_slen, Std_seq, Std_slt', Std_beq, Std_idx, Std_bnd, Std_same, Std_max', Std_min', Std_partI, Std_app, Std_len_app, Std_len_lit, Std_len_setc, List.length_take, List.length_drop, List.length_append, List.length_cons, List.length_nil, Int.toNat_natCast, Std_inr64, bNot, Int.ofNat_eq_natCast, Int.natCast_zero, decide_eq_true_eq, decide_eq_false_iff_not, Bool.not_eq_true, Bool.not_eq_false, Bool.not_eq_eq_eq_not, Bool.not_true, Bool.not_false, beq_iff_eq, beq_eq_false_iff_ne, ne_eq, Bool.true_eq_false, Bool.false_eq_true, cond_true, cond_false] at *; assumption) hfind rfl (by rw [hr3, herase])
      have a1 : A.asStr (A.cell r (Int.ofNat k) 0) = path := by obtain rfl := X.a; subst hr; simp only [Std_t0, Std_t1, Std_x0, Std_x1, Std_len, Std_lt, Std_le, Std_eq, Std_add, Std_sub, Std_mul, Std_not, Std_ite, Std_str, Std_bool, Std_int, Std_slen, Std_seq, Std_slt', Std_beq, Std_idx, Std_bnd, Std_same, Std_max', Std_min', Std_partI, Std_app, Std_len_app, Std_len_lit, Std_len_setc, List.length_take, List.length_drop, List.length_append, List.length_cons, List.length_nil, Int.toNat_natCast, Std_inr64, bNot, Int.ofNat_eq_natCast, Int.natCast_zero, decide_eq_true_eq, decide_eq_false_iff_not, Bool.not_eq_true, Bool.not_eq_false, Bool.not_eq_eq_eq_not, Bool.not_true, Bool.not_false, beq_iff_eq, beq_eq_false_iff_ne, ne_eq, Bool.true_eq_false, Bool.false_eq_true, cond_true, cond_false]; rw [g5]; exact hpath
      have a2 : A.asBool (A.cell r (Int.ofNat k) 1) = c[k].absent := by obtain rfl := X.a; subst hr; simp only [Std_t0, Std_t1, Std_x0, Std_x1, Std_len, Std_lt, Std_le, Std_eq, Std_add, Std_sub, Std_mul, Std_not, Std_ite, Std_str, Std_bool, Std_int, Std_slen, Std_seq, Std_slt', Std_beq, Std_idx, Std_bnd, Std_same, Std_max', Std_min', Std_partI, Std_app, Std_len_app, Std_len_lit, Std_len_setc, List.length_take, List.length_drop, List.length_append, List.length_cons, List.length_nil, Int.toNat_natCast, Std_inr64, bNot, Int.ofNat_eq_natCast, Int.natCast_zero, decide_eq_true_eq, decide_eq_false_iff_not, Bool.not_eq_true, Bool.not_eq_false, Bool.not_eq_eq_eq_not, Bool.not_true, Bool.not_false, beq_iff_eq, beq_eq_false_iff_ne, ne_eq, Bool.true_eq_false, Bool.false_eq_true, cond_true, cond_false]; rw [g5]
      have a3 : A.cell r (Int.ofNat k) 2 = encL encX c[k].set := by obtain rfl := X.a; subst hr; exact e5
      rw [← a1, ← a2, ← a3] at q
      exact q
    · refine h0 (.inl ?_); obtain rfl := X.a; simp only [Std_x0, Std_x1, Std_len, Std_lt, Std_le, Std_eq, Std_add, Std_sub, Std_mul, Std_not, Std_ite, Std_str, Std_bool, Std_int, Std_slen, Std_seq, Std_slt', Std_beq, Std_idx, Std_bnd, Std_same, Std_max', Std_min', Std_partI, Std_app, Std_len_app, Std_len_lit, Std_len_setc, List.length_take, List.length_drop, List.length_append, List.length_cons, List.length_nil, Int.toNat_natCast, Std_inr64, bNot, Int.ofNat_eq_natCast, Int.natCast_zero, decide_eq_true_eq, decide_eq_false_iff_not, Bool.not_eq_true, Bool.not_eq_false, Bool.not_eq_eq_eq_not, Bool.not_true, Bool.not_false, beq_iff_eq, beq_eq_false_iff_ne, ne_eq, Bool.true_eq_false, Bool.false_eq_true, cond_true, cond_false] at *; assumption
end Go.VC.T35
end
