/- Part 7 of the common texts: M2 M3 M4. -/
import Derived.Test.YtcdafdklkhdjeaaGreatPart1
import Derived.Test.YtcdafdklkhdjeaaGreatPart2
import Derived.Test.YtcdafdklkhdjeaaGreatPart3
import Derived.Test.YtcdafdklkhdjeaaGreatPart4
import Derived.Test.YtcdafdklkhdjeaaGreatPart5
import Derived.Test.YtcdafdklkhdjeaaGreatPart6
set_option linter.all false

section
/- EnvironFinds. -/
set_option linter.unusedSimpArgs false
set_option linter.unusedVariables false
namespace Go.VC
theorem len_wt (x : IF) : x.types.length + x.values.length + x.aliases.length ≤ x.wt := by
  have h1 : ∀ l : List TE, l.length ≤ (l.map TE.wt).sum := by
    intro l; induction l with
    | nil => simp
    | cons y l ih => simp only [List.length_cons, List.map_cons, List.sum_cons, TE.wt] at ih ⊢; omega
  have h2 : ∀ l : List VE, l.length ≤ (l.map VE.wt).sum := by
    intro l; induction l with
    | nil => simp
    | cons y l ih => simp only [List.length_cons, List.map_cons, List.sum_cons, VE.wt] at ih ⊢; omega
  have a := h1 x.types; have b := h2 x.values
  unfold IF.wt; omega
theorem namesL_len (x : IF) : (namesL x).length = x.types.length + x.values.length + x.aliases.length := by simp [namesL]; omega
theorem sortS_len {l : List S} : (sortS l).length ≤ l.length := insA_len (l := l)
end Go.VC
namespace Go.VC.T07
open Go Go.VC Go.Proofs
set_option maxRecDepth 100000 in
set_option maxHeartbeats 4000000 in
theorem F3 {a b : List IF} {da db : D} {p : S} {K : PV → List Ob → Prop} (hda : da = encL encIF a) (hla : envOk a) (hwa : (a.map IF.wt).sum ≤ 4294967280)
    (hdb : db = encL encIF b) (hlb : envOk b) (hwb : (b.map IF.wt).sum ≤ 4294967280) (h : K (.bool true) []) : FC Tryz.prog tt 3 [] [.lst 31 da, .lst 31 db, .str p] K := by
  have hn := hla.1
  refine FC.enter (G := g3) tt_ok mixed ⟨Tryz.func3, by rfl, rfl⟩ rfl rfl rfl ?_
  intro A C L X
  obtain ⟨n_da, hn_da⟩ : ∃ n, n = (a).length := ⟨_, rfl⟩
  have hlen_da : Std.len da = Int.ofNat n_da := by rw [hda, Std_len, hn_da]; rfl
  cbv
  refine X.call (F10 ?_)
  cbv
  repeat' (first | apply And.intro | exact fun (_ : False → False) => by kernel_rfl | (intro h2; cbv) | apply Or.inl)
  · obtain rfl := X.a; exact absurd h2 (by decide)
  refine X.call (F11 hda hla hwa fun r hr => ?_)
  cbv
  repeat' (first | apply And.intro | exact fun (_ : False → False) => by kernel_rfl | (intro h2; cbv) | apply Or.inl | (refine X.call (F11 hdb hlb hwb fun v hv => ?_); cbv))
  · exact h
  rotate_left 1
  · exact h
  refine X.call (F12 hda hla rfl fun e0 e1 e2 e3 e4 z k1 k2 => ?_)
  cbv
  refine X.call (F13 hda (by omega) rfl fun e0' e1' e2' e3' e4' z' k1' k2' => ?_)
  obtain ⟨x, hx⟩ : ∃ x, x = (findI a p).getD IF.zero := ⟨_, rfl⟩
  have hxok : x.ok := by
    rw [hx]
    cases hf : findI a p with
    | none => exact zero_ok
    | some i => exact findI_ok hla hf
  obtain rfl : z' = z := k2'.trans k2.symm
  rw [← hx] at k1 k1'
  have ez : A.not (A.beq z' z') = false := by rw [X.a]; simp [Std_not, Std_beq]
  clear k2 k2' hr
  cbv
  repeat' (first | apply And.intro | exact fun (_ : False → False) => by kernel_rfl | (intro h2; cbv) | apply Or.inl | (refine X.call (F14 hxok k1 k1' fun b1 hb1 => ?_); cbv) | (refine X.call (F15 hda hdb (by omega) hla.2 fun b2 hb2 => ?_); cbv) | (refine X.call (F16 hda hdb (by omega) hla.2 fun b3 hb3 => ?_); cbv))
  · have e : A.not (A.beq b2 b3) = false := by rw [hb2, hb3, X.a]; simp [Std_not, Std_beq]
    exact absurd (e.symm.trans h2) (by decide)
  rotate_left 1
  · exact absurd ((same_self _).symm.trans (hb1.symm.trans (nt X.a h2))) (by decide)
  · exact absurd (ez.symm.trans h2) (by decide)
  refine X.loop (fun (i : Nat) => ⟨[(55, .int .i64 i), (54, .int .i64 (A.len da)), (53, .lst 31 da)], []⟩) (fun i => i ≤ n_da) (fun i => n_da - i) 0 (Nat.zero_le _) ?_ ?_
  · (cbv; repeat' apply And.intro); all_goals (try (first | trivial | rfl | (rw [X.a]; rfl)))
  clear k1 k1' hx hxok
  intro i hi
  cbv
  refine ⟨fun h1 => ?_, fun h1 => ?_⟩
  · have h5 : i < a.length := by obtain rfl := X.a; simp only [hlen_da, SD, bNot] at h1; omega
    have k1 := ifIsAt X.a hda h5
    have hid : A.idx (Int.ofNat i) (A.len da) := by rw [X.a, hda]; exact leaf_idx h5
    have hin : A.inr .i64 (A.add (Int.ofNat i) 1) := by rw [X.a]; exact leaf_inc h5 (by omega)
    have hm := List.getElem_mem h5
    have hok := hla.2 _ hm
    have hwi : a[i].wt ≤ (a.map IF.wt).sum := wt_mem hm
    have hnl := namesL_len a[i]
    have hml := mentO_len a[i]
    have hsl : (sortS (namesL a[i])).length ≤ (namesL a[i]).length := sortS_len
    have hwn : a[i].types.length + a[i].values.length + a[i].aliases.length ≤ a[i].wt := len_wt a[i]
    clear h1
    cbv
    repeat' (first | apply And.intro | exact fun (_ : False → False) => by kernel_rfl | (intro h2; cbv) | apply Or.inl | (refine X.call (F18c k1 hok (by omega) fun r1 hr1 => ?_); cbv) | (refine X.call (F19 k1 (by omega) fun r2 hr2 => ?_); cbv) | (refine X.call (F17 hr1 hr2 (by omega) fun b4 hb4 => ?_); cbv) | (refine X.call (F20c k1 hok (by omega) fun r3 hr3 => ?_); cbv) | (refine X.call (F21 k1 hok (by omega) fun r4 hr4 => ?_); cbv) | (refine X.call (F17 hr3 hr4 (by omega) fun b5 hb5 => ?_); cbv))
    any_goals exact hid
    any_goals exact hin
    all_goals first
      | exact absurd ((same_self _).symm.trans (hb4.symm.trans (nt X.a h2))) (by decide)
      | exact absurd ((same_self _).symm.trans (hb5.symm.trans (nt X.a h2))) (by decide)
      | (refine ⟨i+1, by omega, by omega, ?_⟩; (cbv; repeat' apply And.intro); all_goals (try (first | trivial | rfl | (rw [X.a]; rfl))); done)
      | trace_state
  · cbv
    exact h
end Go.VC.T07
end

section
/- EnvironChanges. -/
set_option linter.unusedSimpArgs false
set_option linter.unusedVariables false
namespace Go.VC
theorem addI_len (env : List IF) (x : IF) : (addI env x).length ≤ env.length + 1 := by
  unfold addI
  have := List.length_filter_le (fun y : IF => y.path != x.path) env
  simp only [List.length_append, List.length_take, List.length_cons, List.length_drop]
  omega
theorem addI_mem {env : List IF} {x y : IF} (h : y ∈ addI env x) : y = x ∨ y ∈ env := by
  unfold addI at h
  rcases List.mem_append.1 h with h | h
  · exact .inr (List.mem_filter.1 (List.mem_of_mem_take h)).1
  · rcases List.mem_cons.1 h with h | h
    · exact .inl h
    · exact .inr (List.mem_filter.1 (List.mem_of_mem_drop h)).1
theorem pick_mem {L : List S} {env : List IF} {y : IF} (h : y ∈ pickE L env) : y ∈ env := by
  have key : ∀ (l : List IF) (o : List IF), y ∈ l.foldl (pickStep L) o → y ∈ o ∨ y ∈ l := by
    intro l
    induction l with
    | nil => intro o h; exact .inl h
    | cons x l ih =>
      intro o h
      rcases ih _ h with h | h
      · unfold pickStep at h
        split at h
        · rcases List.mem_append.1 h with h | h
          · exact .inl h
          · simp at h; exact .inr (by simp [h])
        · exact .inl h
      · exact .inr (by simp [h])
  rcases key env [] h with h | h
  · simp at h
  · exact h
theorem closure_mem {env : List IF} {p : S} {y : IF} (h : y ∈ (closureR env p).1) : y ∈ env := by
  unfold closureR at h
  split at h
  · simp at h
  · exact pick_mem h
theorem closure_len (env : List IF) (p : S) : (closureR env p).1.length ≤ env.length := by
  unfold closureR
  split
  · simp
  · exact pick_len
end Go.VC
namespace Go.VC.T07
open Go Go.VC Go.Proofs
theorem F26c {env : List IF} {d : D} {p : S} {K : PV → List Ob → Prop} (hd : d = encL encIF env) (hl : envOk env) (hw : (env.map IF.wt).sum ≤ 4294967290)
    (h : ∀ d' e, d' = encL encIF (closureR env p).1 → e = (closureR env p).2 → K (.tup [.lst 31 d', .int .i64 e]) []) : FC Tryz.prog tt 26 [] [.lst 31 d, .str p] K :=
  F26 hd hl hw fun r e k => h _ e (by rw [← k]) (by rw [← k])
theorem F27c {env : List IF} {d : D} {p : S} {K : PV → List Ob → Prop} (hd : d = encL encIF env) (hl : envOk env) (hw : (env.map IF.wt).sum ≤ 4294967280)
    (h : ∀ d' e, d' = encL encIF (closureR env p).1 → e = (closureR env p).2 → K (.tup [.lst 31 d', .int .i64 e]) []) : FC Tryz.prog tt 27 [] [.lst 31 d, .str p] K :=
  F27 hd hl hw fun r e k => h _ e (by rw [← k]) (by rw [← k])
set_option maxRecDepth 100000 in
set_option maxHeartbeats 4000000 in
theorem F5 {env : List IF} {d : D} {x : IF} {p : S} {c0 : S} {c1 c2 c3 c4 : D} {K : PV → List Ob → Prop} (hd : d = encL encIF env) (hl : envOk env) (hw : (env.map IF.wt).sum ≤ 4294967000)
    (hx : ifIs x c0 c1 c2 c3 c4) (hok : x.ok) (hwx : x.wt ≤ 4294967000) (h : K (.bool true) []) : FC Tryz.prog tt 5 [] [.lst 31 d, ifPV c0 c1 c2 c3 c4, .str p] K := by
  have hn := hl.1
  have hnw : env.length ≤ (env.map IF.wt).sum := by
    have : ∀ l : List IF, l.length ≤ (l.map IF.wt).sum := by
      intro l
      induction l with
      | nil => simp
      | cons x l ih => simp only [List.length_cons, List.map_cons, List.sum_cons]; have : 1 ≤ x.wt := by unfold IF.wt; omega
                       omega
    exact this env
  have hal := addI_len env x
  have haok : ∀ y ∈ addI env x, y.ok := fun y hy => by
    rcases addI_mem hy with rfl | hy
    · exact hok
    · exact hl.2 y hy
  have hfl := List.length_filter_le (fun y : IF => y.path != p) env
  have hfok : ∀ y ∈ env.filter (fun y => y.path != p), y.ok := fun y hy => hl.2 y (List.mem_filter.1 hy).1
  have hcl := closure_len env p
  have hcok : ∀ y ∈ (closureR env p).1, y.ok := fun y hy => hl.2 y (closure_mem hy)
  refine FC.enter (G := g5) tt_ok mixed ⟨Tryz.func5, by rfl, rfl⟩ rfl rfl rfl ?_
  intro A C L X
  have h1 : A.lit [[.str c0, c1, c2, c3, c4]] = encL encIF [x] := by obtain ⟨a0, a1, a2, a3, a4⟩ := hx; rw [a0, a1, a2, a3, a4, X.a]; rfl
  cbv
  refine X.call (F10 ?_)
  cbv
  repeat' (first | apply And.intro | exact fun (_ : False → False) => by kernel_rfl | (intro h2; cbv) | apply Or.inl)
  · obtain rfl := X.a; exact absurd h2 (by decide)
  refine X.call (F11 hd hl (by omega) fun r hr => ?_)
  cbv
  repeat' (first | apply And.intro | exact fun (_ : False → False) => by kernel_rfl | (intro h2; cbv) | apply Or.inl | (refine X.call (F11 h1 ⟨by simp, by simpa using hok⟩ (by simp; omega) fun v hv => ?_); cbv))
  · exact h
  rotate_left 1
  · exact h
  refine X.call (F26c hd hl (by omega) fun dc ec hdc k1 => ?_)
  cbv
  refine X.call (F27c hd hl (by omega) fun dr ed hdr k2 => ?_)
  obtain rfl : ec = ed := k1.trans k2.symm
  have eqi : A.eq ec ec = true := by rw [X.a]; simp [Std_eq]
  have q : K (.bool (A.eq ec ec)) [] := by rw [eqi]; exact h
  cbv
  repeat' (first | apply And.intro | exact fun (_ : False → False) => by kernel_rfl | (intro h2; cbv) | apply Or.inl | (refine X.call (F28 hd hl (by omega) hok hx fun r1 hr1 => ?_); cbv) | (refine X.call (F29 hd (by omega) hx fun r2 hr2 => ?_); cbv) | (refine X.call (F16 hr1 hr2 (by omega) haok fun b1 hb1 => ?_); cbv) | (refine X.call (F30 hd hl fun r3 hr3 => ?_); cbv) | (refine X.call (F31 hd (by omega) fun r4 hr4 => ?_); cbv) | (refine X.call (F16 hr3 hr4 (by omega) hfok fun b2 hb2 => ?_); cbv) | (refine X.call (F16 hdc hdr (by omega) hcok fun b3 hb3 => ?_); cbv))
  all_goals first
    | exact absurd ((same_self _).symm.trans (hb1.symm.trans h2)) (by decide)
    | exact absurd ((same_self _).symm.trans (hb2.symm.trans h2)) (by decide)
    | exact absurd ((same_self _).symm.trans (hb3.symm.trans h2)) (by decide)
    | exact q
    | trace_state
end Go.VC.T07
end

section
/- EnvironAdds. -/
set_option linter.unusedSimpArgs false
set_option linter.unusedVariables false
namespace Go.VC
def SrtE (l : List IF) : Prop := l.Pairwise fun a b => slt a.path b.path = true
theorem srtE_step {l : List IF} {i : Nat} (h0 : 0 < i) (h : i < l.length) (hs : SrtE (l.take i)) (hr : slt (l[i-1]'(by omega)).path l[i].path = true) : SrtE (l.take (i+1)) := by
  unfold SrtE at *
  rw [take_succ' h, List.pairwise_append]
  refine ⟨hs, by simp, fun a ha b hb => ?_⟩
  simp at hb; subst hb
  obtain ⟨j, hj, rfl⟩ := List.mem_iff_getElem.1 ha
  simp at hj
  rcases Nat.lt_or_eq_of_le (show j ≤ i - 1 by omega) with hlt | rfl
  · have := List.pairwise_iff_getElem.1 hs j (i-1) (by simp; omega) (by simp; omega) hlt
    simp only [List.getElem_take] at this ⊢
    exact slt_trans this hr
  · simp only [List.getElem_take]; exact hr
theorem srtE_not {l : List IF} {i : Nat} (h0 : 0 < i) (h : i < l.length) (hr : slt (l[i-1]'(by omega)).path l[i].path = false) : ¬ SrtE l := by
  intro hs
  have := List.pairwise_iff_getElem.1 hs (i-1) i (by omega) h (by omega)
  rw [this] at hr; cases hr
theorem atI_spec (l : List IF) (x : IF) (hne : ∀ y ∈ l, y.path ≠ x.path) : (∀ y ∈ l.take (atI l x), slt y.path x.path = true) ∧ (∀ h : atI l x < l.length, slt x.path (l[atI l x]'h).path = true) := by
  have key : ∀ (y : IF), y ∈ l → slt x.path y.path = false → slt y.path x.path = true := fun y hy h => by
    cases hs : slt y.path x.path with
    | true => rfl
    | false => exact absurd (slt_tri hs h) (hne y hy)
  cases h : l.findIdx? (fun y => slt x.path y.path) with
  | none =>
    have ha : atI l x = l.length := by unfold atI; rw [h]; rfl
    rw [List.findIdx?_eq_none_iff] at h
    refine ⟨fun y hy => ?_, fun hh => by omega⟩
    rw [ha, List.take_length] at hy
    exact key y hy (by simpa using h y hy)
  | some k =>
    have ha : atI l x = k := by unfold atI; rw [h]; rfl
    rw [List.findIdx?_eq_some_iff_getElem] at h
    obtain ⟨h1, h2, h3⟩ := h
    refine ⟨fun y hy => ?_, fun hh => by simp only [ha]; exact h2⟩
    rw [ha] at hy
    have hm := List.mem_of_mem_take hy
    rw [List.mem_take_iff_getElem] at hy
    obtain ⟨j, hj, rfl⟩ := hy
    exact key _ hm (by have := h3 j (by omega); simpa using this)
theorem filt_ne (env : List IF) (x : IF) : ∀ y ∈ env.filter (fun y => y.path != x.path), y.path ≠ x.path := fun y hy => by
  have := (List.mem_filter.1 hy).2
  simpa using this
theorem addI_srt {env : List IF} {x : IF} (h : SrtE env) : SrtE (addI env x) := by
  have hf : SrtE (env.filter fun y => y.path != x.path) := List.Pairwise.filter _ h
  have hne := filt_ne env x
  obtain ⟨l, hl⟩ : ∃ l, l = env.filter fun y => y.path != x.path := ⟨_, rfl⟩
  unfold addI
  rw [← hl] at hf hne ⊢
  obtain ⟨a1, a2⟩ := atI_spec l x hne
  obtain ⟨k, hk⟩ : ∃ k, k = atI l x := ⟨_, rfl⟩
  rw [← hk] at a1 ⊢
  simp only [← hk] at a2
  unfold SrtE at *
  rw [List.pairwise_append, List.pairwise_cons]
  have hafter : ∀ y ∈ l.drop k, slt x.path y.path = true := fun y hy => by
    obtain ⟨j, hj, rfl⟩ := List.mem_iff_getElem.1 hy
    simp at hj
    have hk2 : k < l.length := by omega
    rw [List.getElem_drop]
    rcases Nat.eq_zero_or_pos j with rfl | h0
    · exact a2 hk2
    · exact slt_trans (a2 hk2) (List.pairwise_iff_getElem.1 hf k (k+j) hk2 (by omega) (by omega))
  refine ⟨hf.sublist (List.take_sublist _ _), ⟨hafter, hf.sublist (List.drop_sublist _ _)⟩, fun a ha b hb => ?_⟩
  rcases List.mem_cons.1 hb with rfl | hb
  · exact a1 a ha
  · exact slt_trans (a1 a ha) (hafter b hb)
theorem find_filt {env : List IF} {p q : S} (h : q ≠ p) : findI (env.filter fun y => y.path != p) q = findI env q := by
  unfold findI
  induction env with
  | nil => rfl
  | cons y l ih =>
    rw [List.filter_cons]
    by_cases hy : y.path = p
    · have hq : (y.path == q) = false := by simp [hy]; exact fun e => h e.symm
      rw [if_neg (by simp [hy]), ih, List.find?_cons, hq]
    · rw [if_pos (by simpa using hy), List.find?_cons, List.find?_cons, ih]
theorem find_filt_same {env : List IF} {p : S} : findI (env.filter fun y => y.path != p) p = none := by
  unfold findI
  rw [List.find?_eq_none]
  intro y hy
  have := (List.mem_filter.1 hy).2
  simpa using this
theorem find_app {l m : List IF} {q : S} : findI (l ++ m) q = (findI l q).or (findI m q) := by unfold findI; rw [List.find?_append]
theorem find_addI (env : List IF) (x : IF) : findI (addI env x) x.path = some x := by
  unfold addI
  have hnone : ∀ k, findI ((env.filter fun y => y.path != x.path).take k) x.path = none := fun k => by
    unfold findI
    rw [List.find?_eq_none]
    intro y hy
    have := (List.mem_filter.1 (List.mem_of_mem_take hy)).2
    simpa using this
  rw [find_app, hnone]
  unfold findI
  simp
theorem find_addI_ne {env : List IF} {x : IF} {q : S} (h : q ≠ x.path) : findI (addI env x) q = findI env q := by
  refine Eq.trans ?_ (find_filt (p := x.path) h)
  unfold addI
  obtain ⟨l, hl⟩ : ∃ l, l = env.filter fun y => y.path != x.path := ⟨_, rfl⟩
  rw [← hl]
  have hx : findI (x :: l.drop (atI l x)) q = findI (l.drop (atI l x)) q := by
    unfold findI
    rw [List.find?_cons, show (x.path == q) = false by simp; exact fun e => h e.symm]
  rw [find_app, hx, ← find_app, List.take_append_drop]
theorem filt_addI (env : List IF) (x : IF) : (addI env x).filter (fun y => y.path != x.path) = env.filter fun y => y.path != x.path := by
  unfold addI
  obtain ⟨l, hl⟩ : ∃ l, l = env.filter fun y => y.path != x.path := ⟨_, rfl⟩
  have hid : ∀ m : List IF, (∀ y ∈ m, y ∈ l) → m.filter (fun y => y.path != x.path) = m := fun m hm => by
    rw [List.filter_eq_self]
    intro y hy
    have := hm y hy
    rw [hl] at this
    exact (List.mem_filter.1 this).2
  rw [← hl, List.filter_append, List.filter_cons, if_neg (by simp), hid _ (fun y hy => List.mem_of_mem_take hy), hid _ (fun y hy => List.mem_of_mem_drop hy), List.take_append_drop]
end Go.VC
namespace Go.VC.T07
open Go Go.VC Go.Proofs
set_option maxRecDepth 100000 in
set_option maxHeartbeats 1000000 in
theorem F32 {env : List IF} {d : D} {K : PV → List Ob → Prop} (hd : d = encL encIF env) (hn : env.length ≤ 4294967295) (h : ∀ b, (b = true ↔ SrtE env) → K (.bool b) []) : FC Tryz.prog tt 32 [] [.lst 31 d] K := by
  refine FC.enter (G := g32) tt_ok mixed ⟨Tryz.func32, by rfl, rfl⟩ rfl rfl rfl ?_
  intro A C L X
  obtain ⟨n_d, hn_d⟩ : ∃ n, n = (env).length := ⟨_, rfl⟩
  have hlen_d : Std.len d = Int.ofNat n_d := by rw [hd, Std_len, hn_d]; rfl
  cbv
  refine X.loop (fun (i : Nat) => ⟨[(3, .int .i64 i), (0, .lst 31 d)], []⟩) (fun i => 0 < i ∧ (i ≤ n_d ∨ i = 1) ∧ SrtE (env.take i)) (fun i => n_d + 1 - i) 1 ⟨by omega, .inr rfl, by unfold SrtE; cases env <;> simp⟩ ?_ ?_
  · (cbv; repeat' apply And.intro); all_goals (try (first | trivial | rfl | (rw [X.a]; rfl)))
  rintro i ⟨hi0, hi, hs⟩
  cbv
  refine ⟨fun h1 => ?_, fun h1 => ?_⟩
  · have h5 : i < env.length := by obtain rfl := X.a; simp only [hlen_d, SD, bNot] at h1; omega
    have e1 : A.sub (Int.ofNat i) 1 = Int.ofNat (i-1) := by rw [X.a, Std_sub]; simp only [Int.ofNat_eq_natCast]; omega
    have k1 : A.asStr (A.cell d (A.sub (Int.ofNat i) 1) 0) = (env[i-1]'(by omega)).path := by rw [e1]; exact (ifIsAt X.a hd (by omega)).1
    have k2 := (ifIsAt X.a hd h5).1
    have hid : A.idx (Int.ofNat i) (A.len d) := by rw [X.a, hd]; exact leaf_idx h5
    have hid1 : A.idx (A.sub (Int.ofNat i) 1) (A.len d) := by rw [e1, X.a, hd]; exact leaf_idx (by omega)
    have hin : A.inr .i64 (A.add (Int.ofNat i) 1) := by rw [X.a]; exact leaf_inc h5 (by omega)
    have hin1 : A.inr .i64 (A.sub (Int.ofNat i) 1) := by rw [e1, X.a, Std_inr64]; simp only [Int.ofNat_eq_natCast]; omega
    have hlt : A.slt (A.asStr (A.cell d (A.sub (Int.ofNat i) 1) 0)) (A.asStr (A.cell d (Int.ofNat i) 0)) = slt (env[i-1]'(by omega)).path env[i].path := by rw [k1, k2, X.a]; rfl
    have qf : slt (env[i-1]'(by omega)).path env[i].path = false → K (.bool false) [] := fun e => h false ⟨by simp, fun hh => absurd hh (srtE_not hi0 h5 e)⟩
    clear h1
    cbv
    repeat' (first | apply And.intro | exact fun (_ : False → False) => by kernel_rfl | (intro h2; cbv) | apply Or.inl)
    any_goals exact hid
    any_goals exact hid1
    any_goals exact hin
    any_goals exact hin1
    all_goals first
      | exact qf (hlt.symm.trans (nt X.a h2))
      | (rename_i g1
         refine ⟨i+1, ⟨by omega, .inl (by omega), srtE_step hi0 h5 hs (hlt.symm.trans (nf X.a g1))⟩, by omega, ?_⟩
         (cbv; repeat' apply And.intro); all_goals (try (first | trivial | rfl | (rw [X.a]; rfl))); done)
      | trace_state
  · have h5 : env.length ≤ i := by obtain rfl := X.a; simp only [hlen_d, SD, bNot] at h1; omega
    rw [List.take_of_length_le h5] at hs
    have q := h true ⟨fun _ => hs, fun _ => rfl⟩
    cbv
    exact q
theorem F30c {env : List IF} {d : D} {s c : S} {K : PV → List Ob → Prop} (hs : c = s) (hd : d = encL encIF env) (hl : envOk env)
    (h : ∀ r, r = encL encIF (env.filter fun i => i.path != s) → K (.row 31 0) [.row 31 r true]) : FC Tryz.prog tt 30 [] [.lst 31 d, .str c] K := by subst hs; exact F30 hd hl h
set_option maxRecDepth 100000 in
set_option maxHeartbeats 4000000 in
theorem F6 {env : List IF} {d : D} {x : IF} {p : S} {c0 : S} {c1 c2 c3 c4 : D} {K : PV → List Ob → Prop} (hd : d = encL encIF env) (hl : envOk env) (hw : (env.map IF.wt).sum ≤ 4294967000)
    (hx : ifIs x c0 c1 c2 c3 c4) (hok : x.ok) (hwx : x.wt ≤ 4294967000) (h : K (.bool true) []) : FC Tryz.prog tt 6 [] [.lst 31 d, ifPV c0 c1 c2 c3 c4, .str p] K := by
  have hn := hl.1
  have hnw : env.length ≤ (env.map IF.wt).sum := by
    have : ∀ l : List IF, l.length ≤ (l.map IF.wt).sum := by
      intro l
      induction l with
      | nil => simp
      | cons x l ih => simp only [List.length_cons, List.map_cons, List.sum_cons]; have : 1 ≤ x.wt := by unfold IF.wt; omega
                       omega
    exact this env
  have hal := addI_len env x
  have haok : ∀ y ∈ addI env x, y.ok := fun y hy => by
    rcases addI_mem hy with rfl | hy
    · exact hok
    · exact hl.2 y hy
  have hae : envOk (addI env x) := ⟨by omega, haok⟩
  have hfl := List.length_filter_le (fun y : IF => y.path != x.path) (addI env x)
  have hfok : ∀ y ∈ (addI env x).filter (fun y => y.path != x.path), y.ok := fun y hy => haok y (List.mem_filter.1 hy).1
  have hfe : envOk ((addI env x).filter (fun y => y.path != x.path)) := ⟨by omega, hfok⟩
  have f1 := find_addI env x
  have f2 := filt_addI env x
  have f3 : findI ((addI env x).filter (fun y => y.path != x.path)) x.path = none := find_filt_same
  have f4 := addI_srt (env := env) (x := x)
  have hgok : ∀ q, ((findI env q).getD IF.zero).ok := fun q => by
    cases hf : findI env q with
    | none => exact zero_ok
    | some i => exact findI_ok hl hf
  refine FC.enter (G := g6) tt_ok mixed ⟨Tryz.func6, by rfl, rfl⟩ rfl rfl rfl ?_
  intro A C L X
  have h1 : A.lit [[.str c0, c1, c2, c3, c4]] = encL encIF [x] := by obtain ⟨a0, a1, a2, a3, a4⟩ := hx; rw [a0, a1, a2, a3, a4, X.a]; rfl
  have k0 := hx.1
  cbv
  refine X.call (F10 ?_)
  cbv
  repeat' (first | apply And.intro | exact fun (_ : False → False) => by kernel_rfl | (intro h2; cbv) | apply Or.inl)
  · obtain rfl := X.a; exact absurd h2 (by decide)
  refine X.call (F11 hd hl (by omega) fun r hr => ?_)
  cbv
  repeat' (first | apply And.intro | exact fun (_ : False → False) => by kernel_rfl | (intro h2; cbv) | apply Or.inl | (refine X.call (F11 h1 ⟨by simp, by simpa using hok⟩ (by simp; omega) fun v hv => ?_); cbv))
  · exact h
  rotate_left 1
  · exact h
  clear h1 hr h2
  refine X.call (F28 hd hl (by omega) hok hx fun dm hdm => ?_)
  cbv
  refine X.call (F12 hdm hae k0 fun e0 e1 e2 e3 e4 z k1 k2 => ?_)
  rw [f1] at k1 k2
  have k2 : z = true := k2
  subst k2
  have k1 : ifIs x e0 e1 e2 e3 e4 := k1
  have n0 : A.not true = false := by rw [X.a]; rfl
  have nf0 : A.not false = true := by rw [X.a]; rfl
  cbv
  repeat' (first | apply And.intro | exact fun (_ : False → False) => by kernel_rfl | (intro h2; first | exact absurd ((n0).symm.trans h2) (by decide) | cbv) | apply Or.inl | (refine X.call (F14 hok k1 hx fun b1 hb1 => ?_); cbv) | (refine X.call (F32 hd hn fun b2 hb2 => ?_); cbv) | (refine X.call (F32 hdm hae.1 fun b3 hb3 => ?_); cbv))
  all_goals (try exact absurd ((same_self _).symm.trans (hb1.symm.trans (nt X.a h2))) (by decide))
  all_goals (try (rename_i g1; exact absurd ((hb3.2 (f4 (hb2.1 g1))).symm.trans (nt X.a h2)) (by decide)))
  all_goals (
    refine X.call (F12 hd hl rfl fun y0 y1 y2 y3 y4 was j1 j2 => ?_)
    cbv
    refine X.call (F12 hdm hae rfl fun w0 w1 w2 w3 w4 is j3 j4 => ?_)
    by_cases hp : p = x.path
    · have ep : A.not (A.seq p c0) = false := by rw [k0, hp, X.a]; simp [Std_not, Std_seq]
      cbv
      repeat' (first | apply And.intro | exact fun (_ : False → False) => by kernel_rfl | (intro h2; first | exact absurd ((ep).symm.trans h2) (by decide) | cbv) | apply Or.inl)
      cbv
      refine X.call (F30c k0 hdm hae fun rl hrl => ?_)
      cbv
      refine X.call (F12 hrl hfe k0 fun u0 u1 u2 u3 u4 ok _ hk => ?_)
      rw [f3] at hk
      have hk : ok = false := hk
      subst hk
      cbv
      repeat' (first | apply And.intro | exact fun (_ : False → False) => by kernel_rfl | (intro h2; first | exact absurd ((nf0).symm.trans h2) (by decide) | cbv) | apply Or.inl | (refine X.call (F30c k0 hd hl fun rm hrm => ?_); cbv) | (refine X.call (F15 hrl hrm (by omega) hfok fun b5 hb5 => ?_); cbv))
      all_goals first
        | (have e : b5 = true := by rw [hb5, f2]; exact same_self _
           subst e
           exact h)
        | exact absurd (nf0.symm.trans h2) (by decide)
        | trace_state
    · have ep : A.not (A.seq p c0) = true := by rw [k0, X.a]; simp only [Std_not, Std_seq]; simpa using hp
      rw [find_addI_ne hp] at j3 j4
      obtain rfl : is = was := j4.trans j2.symm
      have ew : A.not (A.beq is is) = false := by rw [X.a]; simp [Std_not, Std_beq]
      cbv
      repeat' (first | apply And.intro | exact fun (_ : False → False) => by kernel_rfl | (intro h2; first | exact absurd ((ep).symm.trans h2) (by decide) | exact absurd ((ew).symm.trans h2) (by decide) | cbv) | apply Or.inl | (refine X.call (F14 (hgok p) j1 j3 fun b4 hb4 => ?_); cbv))
      all_goals (try exact absurd ((same_self _).symm.trans (hb4.symm.trans (nt X.a h2))) (by decide))
      cbv
      refine X.call (F30c k0 hdm hae fun rl hrl => ?_)
      cbv
      refine X.call (F12 hrl hfe k0 fun u0 u1 u2 u3 u4 ok _ hk => ?_)
      rw [f3] at hk
      have hk : ok = false := hk
      subst hk
      cbv
      repeat' (first | apply And.intro | exact fun (_ : False → False) => by kernel_rfl | (intro h2; first | exact absurd ((nf0).symm.trans h2) (by decide) | cbv) | apply Or.inl | (refine X.call (F30c k0 hd hl fun rm hrm => ?_); cbv) | (refine X.call (F15 hrl hrm (by omega) hfok fun b5 hb5 => ?_); cbv))
      all_goals first
        | (have e : b5 = true := by rw [hb5, f2]; exact same_self _
           subst e
           exact h)
        | exact absurd (nf0.symm.trans h2) (by decide)
        | trace_state)
end Go.VC.T07
end
