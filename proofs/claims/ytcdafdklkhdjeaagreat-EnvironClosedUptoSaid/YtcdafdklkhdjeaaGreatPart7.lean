/- Part 7 of the common texts: M2 M3 M6. -/
import Derived.Test.YtcdafdklkhdjeaaGreatPart1
import Derived.Test.YtcdafdklkhdjeaaGreatPart2
import Derived.Test.YtcdafdklkhdjeaaGreatPart3
import Derived.Test.YtcdafdklkhdjeaaGreatPart4
import Derived.Test.YtcdafdklkhdjeaaGreatPart5
import Derived.Test.YtcdafdklkhdjeaaGreatPart6
set_option linter.all false

section
/- EnvironFinds. -/
set_option linter.unusedSimpArgs false
set_option linter.unusedVariables false
namespace Go.VC
theorem len_wt (x : IF) : x.types.length + x.values.length + x.aliases.length ≤ x.wt := by
  have h1 : ∀ l : List TE, l.length ≤ (l.map TE.wt).sum := by
    intro l; induction l with
    | nil => simp
    | cons y l ih => simp only [List.length_cons, List.map_cons, List.sum_cons, TE.wt] at ih ⊢; omega
  have h2 : ∀ l : List VE, l.length ≤ (l.map VE.wt).sum := by
    intro l; induction l with
    | nil => simp
    | cons y l ih => simp only [List.length_cons, List.map_cons, List.sum_cons, VE.wt] at ih ⊢; omega
  have a := h1 x.types; have b := h2 x.values
  unfold IF.wt; omega
theorem namesL_len (x : IF) : (namesL x).length = x.types.length + x.values.length + x.aliases.length := by simp [namesL]; omega
theorem sortS_len {l : List S} : (sortS l).length ≤ l.length := insA_len (l := l)
end Go.VC
namespace Go.VC.T07
open Go Go.VC Go.Proofs
set_option maxRecDepth 100000 in
set_option maxHeartbeats 4000000 in
theorem F3 {a b : List IF} {da db : D} {p : S} {K : PV → List Ob → Prop} (hda : da = encL encIF a) (hla : envOk a) (hwa : (a.map IF.wt).sum ≤ 4294967280)
    (hdb : db = encL encIF b) (hlb : envOk b) (hwb : (b.map IF.wt).sum ≤ 4294967280) (h : K (.bool true) []) : FC Tryz.prog tt 3 [] [.lst 31 da, .lst 31 db, .str p] K := by
  have hn := hla.1
  refine FC.enter (G := g3) tt_ok mixed ⟨Tryz.func3, by rfl, rfl⟩ rfl rfl rfl ?_
  intro A C L X
  obtain ⟨n_da, hn_da⟩ : ∃ n, n = (a).length := ⟨_, rfl⟩
  have hlen_da : Std.len da = Int.ofNat n_da := by rw [hda, Std_len, hn_da]; rfl
  cbv
  refine X.call (F10 ?_)
  cbv
  repeat' (first | apply And.intro | exact fun (_ : False → False) => by kernel_rfl | (intro h2; cbv) | apply Or.inl)
  · obtain rfl := X.a; exact absurd h2 (by decide)
  refine X.call (F11 hda hla hwa fun r hr => ?_)
  cbv
  repeat' (first | apply And.intro | exact fun (_ : False → False) => by kernel_rfl | (intro h2; cbv) | apply Or.inl | (refine X.call (F11 hdb hlb hwb fun v hv => ?_); cbv))
  · exact h
  rotate_left 1
  · exact h
  refine X.call (F12 hda hla rfl fun e0 e1 e2 e3 e4 z k1 k2 => ?_)
  cbv
  refine X.call (F13 hda (by omega) rfl fun e0' e1' e2' e3' e4' z' k1' k2' => ?_)
  obtain ⟨x, hx⟩ : ∃ x, x = (findI a p).getD IF.zero := ⟨_, rfl⟩
  have hxok : x.ok := by
    rw [hx]
    cases hf : findI a p with
    | none => exact zero_ok
    | some i => exact findI_ok hla hf
  obtain rfl : z' = z := k2'.trans k2.symm
  rw [← hx] at k1 k1'
  have ez : A.not (A.beq z' z') = false := by rw [X.a]; simp [Std_not, Std_beq]
  clear k2 k2' hr
  cbv
  repeat' (first | apply And.intro | exact fun (_ : False → False) => by kernel_rfl | (intro h2; cbv) | apply Or.inl | (refine X.call (F14 hxok k1 k1' fun b1 hb1 => ?_); cbv) | (refine X.call (F15 hda hdb (by omega) hla.2 fun b2 hb2 => ?_); cbv) | (refine X.call (F16 hda hdb (by omega) hla.2 fun b3 hb3 => ?_); cbv))
  · have e : A.not (A.beq b2 b3) = false := by rw [hb2, hb3, X.a]; simp [Std_not, Std_beq]
    exact absurd (e.symm.trans h2) (by decide)
  rotate_left 1
  · exact absurd ((same_self _).symm.trans (hb1.symm.trans (nt X.a h2))) (by decide)
  · exact absurd (ez.symm.trans h2) (by decide)
  refine X.loop (fun (i : Nat) => ⟨[(55, .int .i64 i), (54, .int .i64 (A.len da)), (53, .lst 31 da)], []⟩) (fun i => i ≤ n_da) (fun i => n_da - i) 0 (Nat.zero_le _) ?_ ?_
  · (cbv; repeat' apply And.intro); all_goals (try (first | trivial | rfl | (rw [X.a]; rfl)))
  clear k1 k1' hx hxok
  intro i hi
  cbv
  refine ⟨fun h1 => ?_, fun h1 => ?_⟩
  · have h5 : i < a.length := by obtain rfl := X.a; simp only [hlen_da, SD, bNot] at h1; omega
    have k1 := ifIsAt X.a hda h5
    have hid : A.idx (Int.ofNat i) (A.len da) := by rw [X.a, hda]; exact leaf_idx h5
    have hin : A.inr .i64 (A.add (Int.ofNat i) 1) := by rw [X.a]; exact leaf_inc h5 (by omega)
    have hm := List.getElem_mem h5
    have hok := hla.2 _ hm
    have hwi : a[i].wt ≤ (a.map IF.wt).sum := wt_mem hm
    have hnl := namesL_len a[i]
    have hml := mentO_len a[i]
    have hsl : (sortS (namesL a[i])).length ≤ (namesL a[i]).length := sortS_len
    have hwn : a[i].types.length + a[i].values.length + a[i].aliases.length ≤ a[i].wt := len_wt a[i]
    clear h1
    cbv
    repeat' (first | apply And.intro | exact fun (_ : False → False) => by kernel_rfl | (intro h2; cbv) | apply Or.inl | (refine X.call (F18c k1 hok (by omega) fun r1 hr1 => ?_); cbv) | (refine X.call (F19 k1 (by omega) fun r2 hr2 => ?_); cbv) | (refine X.call (F17 hr1 hr2 (by omega) fun b4 hb4 => ?_); cbv) | (refine X.call (F20c k1 hok (by omega) fun r3 hr3 => ?_); cbv) | (refine X.call (F21 k1 hok (by omega) fun r4 hr4 => ?_); cbv) | (refine X.call (F17 hr3 hr4 (by omega) fun b5 hb5 => ?_); cbv))
    any_goals exact hid
    any_goals exact hin
    all_goals first
      | exact absurd ((same_self _).symm.trans (hb4.symm.trans (nt X.a h2))) (by decide)
      | exact absurd ((same_self _).symm.trans (hb5.symm.trans (nt X.a h2))) (by decide)
      | (refine ⟨i+1, by omega, by omega, ?_⟩; (cbv; repeat' apply And.intro); all_goals (try (first | trivial | rfl | (rw [X.a]; rfl))); done)
      | trace_state
  · cbv
    exact h
end Go.VC.T07
end

section
/- EnvironChanges. -/
set_option linter.unusedSimpArgs false
set_option linter.unusedVariables false
namespace Go.VC
theorem addI_len (env : List IF) (x : IF) : (addI env x).length ≤ env.length + 1 := by
  unfold addI
  have := List.length_filter_le (fun y : IF => y.path != x.path) env
  simp only [List.length_append, List.length_take, List.length_cons, List.length_drop]
  omega
theorem addI_mem {env : List IF} {x y : IF} (h : y ∈ addI env x) : y = x ∨ y ∈ env := by
  unfold addI at h
  rcases List.mem_append.1 h with h | h
  · exact .inr (List.mem_filter.1 (List.mem_of_mem_take h)).1
  · rcases List.mem_cons.1 h with h | h
    · exact .inl h
    · exact .inr (List.mem_filter.1 (List.mem_of_mem_drop h)).1
theorem pick_mem {L : List S} {env : List IF} {y : IF} (h : y ∈ pickE L env) : y ∈ env := by
  have key : ∀ (l : List IF) (o : List IF), y ∈ l.foldl (pickStep L) o → y ∈ o ∨ y ∈ l := by
    intro l
    induction l with
    | nil => intro o h; exact .inl h
    | cons x l ih =>
      intro o h
      rcases ih _ h with h | h
      · unfold pickStep at h
        split at h
        · rcases List.mem_append.1 h with h | h
          · exact .inl h
          · simp at h; exact .inr (by simp [h])
        · exact .inl h
      · exact .inr (by simp [h])
  rcases key env [] h with h | h
  · simp at h
  · exact h
theorem closure_mem {env : List IF} {p : S} {y : IF} (h : y ∈ (closureR env p).1) : y ∈ env := by
  unfold closureR at h
  split at h
  · simp at h
  · exact pick_mem h
theorem closure_len (env : List IF) (p : S) : (closureR env p).1.length ≤ env.length := by
  unfold closureR
  split
  · simp
  · exact pick_len
end Go.VC
namespace Go.VC.T07
open Go Go.VC Go.Proofs
theorem F26c {env : List IF} {d : D} {p : S} {K : PV → List Ob → Prop} (hd : d = encL encIF env) (hl : envOk env) (hw : (env.map IF.wt).sum ≤ 4294967290)
    (h : ∀ d' e, d' = encL encIF (closureR env p).1 → e = (closureR env p).2 → K (.tup [.lst 31 d', .int .i64 e]) []) : FC Tryz.prog tt 26 [] [.lst 31 d, .str p] K :=
  F26 hd hl hw fun r e k => h _ e (by rw [← k]) (by rw [← k])
theorem F27c {env : List IF} {d : D} {p : S} {K : PV → List Ob → Prop} (hd : d = encL encIF env) (hl : envOk env) (hw : (env.map IF.wt).sum ≤ 4294967280)
    (h : ∀ d' e, d' = encL encIF (closureR env p).1 → e = (closureR env p).2 → K (.tup [.lst 31 d', .int .i64 e]) []) : FC Tryz.prog tt 27 [] [.lst 31 d, .str p] K :=
  F27 hd hl hw fun r e k => h _ e (by rw [← k]) (by rw [← k])
set_option maxRecDepth 100000 in
set_option maxHeartbeats 4000000 in
theorem F5 {env : List IF} {d : D} {x : IF} {p : S} {c0 : S} {c1 c2 c3 c4 : D} {K : PV → List Ob → Prop} (hd : d = encL encIF env) (hl : envOk env) (hw : (env.map IF.wt).sum ≤ 4294967000)
    (hx : ifIs x c0 c1 c2 c3 c4) (hok : x.ok) (hwx : x.wt ≤ 4294967000) (h : K (.bool true) []) : FC Tryz.prog tt 5 [] [.lst 31 d, ifPV c0 c1 c2 c3 c4, .str p] K := by
  have hn := hl.1
  have hnw : env.length ≤ (env.map IF.wt).sum := by
    have : ∀ l : List IF, l.length ≤ (l.map IF.wt).sum := by
      intro l
      induction l with
      | nil => simp
      | cons x l ih => simp only [List.length_cons, List.map_cons, List.sum_cons]; have : 1 ≤ x.wt := by unfold IF.wt; omega
                       omega
    exact this env
  have hal := addI_len env x
  have haok : ∀ y ∈ addI env x, y.ok := fun y hy => by
    rcases addI_mem hy with rfl | hy
    · exact hok
    · exact hl.2 y hy
  have hfl := List.length_filter_le (fun y : IF => y.path != p) env
  have hfok : ∀ y ∈ env.filter (fun y => y.path != p), y.ok := fun y hy => hl.2 y (List.mem_filter.1 hy).1
  have hcl := closure_len env p
  have hcok : ∀ y ∈ (closureR env p).1, y.ok := fun y hy => hl.2 y (closure_mem hy)
  refine FC.enter (G := g5) tt_ok mixed ⟨Tryz.func5, by rfl, rfl⟩ rfl rfl rfl ?_
  intro A C L X
  have h1 : A.lit [[.str c0, c1, c2, c3, c4]] = encL encIF [x] := by obtain ⟨a0, a1, a2, a3, a4⟩ := hx; rw [a0, a1, a2, a3, a4, X.a]; rfl
  cbv
  refine X.call (F10 ?_)
  cbv
  repeat' (first | apply And.intro | exact fun (_ : False → False) => by kernel_rfl | (intro h2; cbv) | apply Or.inl)
  · obtain rfl := X.a; exact absurd h2 (by decide)
  refine X.call (F11 hd hl (by omega) fun r hr => ?_)
  cbv
  repeat' (first | apply And.intro | exact fun (_ : False → False) => by kernel_rfl | (intro h2; cbv) | apply Or.inl | (refine X.call (F11 h1 ⟨by simp, by simpa using hok⟩ (by simp; omega) fun v hv => ?_); cbv))
  · exact h
  rotate_left 1
  · exact h
  refine X.call (F26c hd hl (by omega) fun dc ec hdc k1 => ?_)
  cbv
  refine X.call (F27c hd hl (by omega) fun dr ed hdr k2 => ?_)
  obtain rfl : ec = ed := k1.trans k2.symm
  have eqi : A.eq ec ec = true := by rw [X.a]; simp [Std_eq]
  have q : K (.bool (A.eq ec ec)) [] := by rw [eqi]; exact h
  cbv
  repeat' (first | apply And.intro | exact fun (_ : False → False) => by kernel_rfl | (intro h2; cbv) | apply Or.inl | (refine X.call (F28 hd hl (by omega) hok hx fun r1 hr1 => ?_); cbv) | (refine X.call (F29 hd (by omega) hx fun r2 hr2 => ?_); cbv) | (refine X.call (F16 hr1 hr2 (by omega) haok fun b1 hb1 => ?_); cbv) | (refine X.call (F30 hd hl fun r3 hr3 => ?_); cbv) | (refine X.call (F31 hd (by omega) fun r4 hr4 => ?_); cbv) | (refine X.call (F16 hr3 hr4 (by omega) hfok fun b2 hb2 => ?_); cbv) | (refine X.call (F16 hdc hdr (by omega) hcok fun b3 hb3 => ?_); cbv))
  all_goals first
    | exact absurd ((same_self _).symm.trans (hb1.symm.trans h2)) (by decide)
    | exact absurd ((same_self _).symm.trans (hb2.symm.trans h2)) (by decide)
    | exact absurd ((same_self _).symm.trans (hb3.symm.trans h2)) (by decide)
    | exact q
    | trace_state
end Go.VC.T07
end

section
/- EnvironClosed. -/
set_option linter.unusedSimpArgs false
set_option linter.unusedVariables false
namespace Go.VC
/-- found, and closed under mentions -/
def Clo (env : List IF) (t : List S) : Prop := ∀ s ∈ t, ∃ i, findI env s = some i ∧ ∀ u ∈ mentO i, u ∈ t
theorem closeL_clo {env : List IF} : ∀ (n : Nat) (t : List S) (k : Nat) (r : List S), closeL env n t k = some r → k ≤ t.length → (∀ s ∈ t.take k, ∃ i, findI env s = some i ∧ ∀ u ∈ mentO i, u ∈ t) → (∀ s ∈ t, s ∈ r) ∧ Clo env r
  | 0, t, k, r, h, _, _ => by simp [closeL] at h
  | n+1, t, k, r, h, hk, hc => by
    rw [closeL] at h
    cases hg : t[k]? with
    | none =>
      rw [hg] at h
      simp only [Option.some.injEq] at h
      subst h
      have : t.length ≤ k := List.getElem?_eq_none_iff.1 hg
      rw [List.take_of_length_le this] at hc
      exact ⟨fun s hs => hs, hc⟩
    | some s =>
      rw [hg] at h
      have hlt : k < t.length := (List.getElem?_eq_some_iff.1 hg).1
      have hs : t[k] = s := (List.getElem?_eq_some_iff.1 hg).2
      cases hf : findI env s with
      | none => simp only [hf] at h; cases h
      | some i =>
        simp only [hf] at h
        obtain ⟨u, hu⟩ := pushAll_pre (t := t) (ms := mentO i)
        obtain ⟨h1, h2⟩ := closeL_clo n _ _ _ h (by rw [hu, List.length_append]; omega) (fun v hv => by
          rw [hu, List.take_append_of_le_length (by omega), take_succ' hlt] at hv
          rcases List.mem_append.1 hv with hv | hv
          · obtain ⟨j, h3, h4⟩ := hc v hv
            exact ⟨j, h3, fun w hw => pushAll_mem.2 (.inl (h4 w hw))⟩
          · simp at hv; subst hv
            exact ⟨i, by rw [hs]; exact hf, fun w hw => pushAll_mem.2 (.inr hw)⟩)
        exact ⟨fun v hv => h1 v (pushAll_mem.2 (.inl hv)), h2⟩
theorem closure_clo {env : List IF} {p : S} {t : List S} (h : closeO env p = some t) : p ∈ t ∧ Clo env t := by
  obtain ⟨h1, h2⟩ := closeL_clo _ _ _ _ h (Nat.zero_le _) (by simp)
  exact ⟨h1 p (by simp), h2⟩
theorem closeL_sub {env : List IF} {q : S} {t : List S} (hc : Clo env t) : ∀ (n : Nat) (u : List S) (k : Nat), Bfs env q u k → n = env.length + 2 - k → (∀ s ∈ u, s ∈ t) → ∃ t', closeL env n u k = some t' ∧ ∀ s ∈ t', s ∈ t
  | 0, u, k, hb, hn, _ => by have := hb.klen; omega
  | n+1, u, k, hb, hn, hs => by
    rw [closeL]
    cases hg : u[k]? with
    | none => exact ⟨u, rfl, hs⟩
    | some s =>
      have hlt : k < u.length := (List.getElem?_eq_some_iff.1 hg).1
      have he : u[k] = s := (List.getElem?_eq_some_iff.1 hg).2
      obtain ⟨i, hf, hm⟩ := hc s (hs s (by rw [← he]; exact List.getElem_mem hlt))
      simp only [hf]
      refine closeL_sub hc n _ _ (hb.next hlt (by rw [he]; exact hf)) (by omega) fun v hv => ?_
      rcases pushAll_mem.1 hv with hv | hv
      · exact hs v hv
      · exact hm v hv
theorem closure_sub {env : List IF} {t : List S} (hc : Clo env t) {q : S} (hq : q ∈ t) : ∃ t', closeO env q = some t' ∧ ∀ s ∈ t', s ∈ t :=
  closeL_sub hc _ _ _ (Bfs.init env q) rfl (by simpa using hq)
theorem find_snoc {l : List IF} {x : IF} {s : S} : findI (l ++ [x]) s = (findI l s).or (if x.path = s then some x else none) := by
  unfold findI
  rw [List.find?_append, List.find?_cons]
  by_cases h : x.path = s
  · simp [h]
  · rw [show (x.path == s) = false by simpa using h, if_neg h]; rfl
theorem find_none_iff {l : List IF} {s : S} : findI l s = none ↔ s ∉ l.map (·.path) := by
  unfold findI
  rw [List.find?_eq_none]
  simp only [List.mem_map, not_exists, not_and, beq_iff_eq]
theorem find_pick {L : List S} {env : List IF} {s : S} : findI (pickE L env) s = if s ∈ L then findI env s else none := by
  have key : ∀ (l : List IF) (o : List IF), findI (l.foldl (pickStep L) o) s = (findI o s).or (if s ∈ L then findI l s else none) := by
    intro l
    induction l with
    | nil => intro o; simp [findI]
    | cons x l ih =>
      intro o
      rw [List.foldl_cons, ih]
      have hc : findI (x :: l) s = if x.path = s then some x else findI l s := by
        unfold findI
        rw [List.find?_cons]
        by_cases h : x.path = s
        · simp [h]
        · rw [show (x.path == s) = false by simpa using h, if_neg h]
      rw [hc]
      unfold pickStep
      by_cases hx : x.path ∈ L ∧ x.path ∉ o.map (·.path)
      · rw [if_pos hx, find_snoc]
        by_cases hs : x.path = s
        · subst hs
          rw [if_pos rfl, if_pos hx.1, if_pos rfl, if_pos hx.1]
          rw [find_none_iff.2 hx.2]; rfl
        · simp [hs]
      · rw [if_neg hx]
        by_cases hs : x.path = s
        · subst hs
          by_cases hL : x.path ∈ L
          · have : x.path ∈ o.map (·.path) := by
              by_cases hh : x.path ∈ o.map (·.path)
              · exact hh
              · exact absurd ⟨hL, hh⟩ hx
            cases ho : findI o x.path with
            | none => exact absurd this (find_none_iff.1 ho)
            | some y => simp
          · simp [hL]
        · simp [hs]
  have := key env []
  simpa [pickE, findI] using this
theorem find_nodup {env : List IF} (h : (env.map (·.path)).Nodup) {x : IF} (hx : x ∈ env) : findI env x.path = some x := by
  induction env with
  | nil => simp at hx
  | cons y l ih =>
    rw [List.map_cons, List.nodup_cons] at h
    unfold findI
    rw [List.find?_cons]
    rcases List.mem_cons.1 hx with rfl | hx
    · simp
    · have : y.path ≠ x.path := fun e => h.1 (by rw [e]; exact List.mem_map.2 ⟨x, hx, rfl⟩)
      rw [show (y.path == x.path) = false by simpa using this]
      exact ih h.2 hx
theorem pick_path {L : List S} {env : List IF} {x : IF} (h : x ∈ pickE L env) : x.path ∈ L := by
  have key : ∀ (l : List IF) (o : List IF), (∀ y ∈ o, y.path ∈ L) → ∀ y ∈ l.foldl (pickStep L) o, y.path ∈ L := by
    intro l
    induction l with
    | nil => intro o ho; exact ho
    | cons z l ih =>
      intro o ho
      refine ih _ fun y hy => ?_
      unfold pickStep at hy
      split at hy
      · rename_i hc
        rcases List.mem_append.1 hy with hy | hy
        · exact ho y hy
        · simp at hy; subst hy; exact hc.1
      · exact ho y hy
  exact key env [] (by simp) x h
theorem mentO_of {i : IF} {s : S} (h : s ∈ mentL i) : s = i.path ∨ s ∈ mentO i := by
  by_cases e : s = i.path
  · exact .inl e
  · right
    unfold mentO
    rw [sortS_mem]
    unfold mentS
    rw [List.mem_filter]
    exact ⟨h, by simpa using e⟩
theorem look_mod {i : IF} {n : S} {x : AE} (h : lookI i n = .ali x) : x.module ∈ mentL i := by
  unfold lookI at h
  split at h
  · cases h
  · split at h
    · cases h
    · split at h
      · rename_i x' hx
        cases h
        unfold mentL
        exact List.mem_append_right _ (List.mem_map.2 ⟨x, List.mem_of_find?_eq_some hx, rfl⟩)
      · cases h
theorem find_path {env : List IF} {s : S} {i : IF} (h : findI env s = some i) : i.path = s := by
  unfold findI at h
  have := List.find?_some h
  simpa using this
theorem endI_clo {env : List IF} {t : List S} (hc : Clo env t) : ∀ (k : Nat) (m n : S), m ∈ t → endI (pickE t env) k m n = endI env k m n
  | 0, m, n, _ => rfl
  | k+1, m, n, hm => by
    have ih := fun m n => endI_clo (env := env) hc k m n
    rw [endI, endI]
    have hl : look' (pickE t env) m n = look' env m n := by unfold look'; rw [find_pick, if_pos hm]
    rw [hl]
    cases h : look' env m n with
    | none => rfl
    | noali => rfl
    | typ x => rfl
    | val x => rfl
    | ali x =>
      obtain ⟨i, hf, hme⟩ := hc m hm
      unfold look' at h
      rw [hf] at h
      refine ih _ _ ?_
      rcases mentO_of (look_mod h) with e | e
      · rw [e, find_path hf]; exact hm
      · exact hme _ e
theorem resolve_clo {env : List IF} {t : List S} (hc : Clo env t) {m n : S} (hm : m ∈ t) : resolveR (pickE t env) m n = resolveR env m n := by
  unfold resolveR endO
  rw [endI_clo hc 65 m n hm]
end Go.VC
namespace Go.VC.T07
open Go Go.VC Go.Proofs
set_option maxRecDepth 100000 in
set_option maxHeartbeats 1000000 in
theorem F36 {x : IF} {env : List IF} {dc : D} {c0 : S} {c1 c2 c3 c4 : D} {K : PV → List Ob → Prop} (hd : dc = encL encIF env) (hl : envOk env) (hx : ifIs x c0 c1 c2 c3 c4) (h : ∀ b, b = !(findI env x.path).isSome → K (.bool b) []) :
    FC Tryz.prog tt 36 [] [ifPV c0 c1 c2 c3 c4, .pptr [.lst 31 dc] 0] K := by
  have k0 := hx.1
  refine FC.enter (G := g36) tt_ok mixed ⟨Tryz.func36, by rfl, rfl⟩ rfl rfl rfl ?_
  intro A C L X
  cbv
  refine X.call (F12 hd hl k0 fun e0 e1 e2 e3 e4 z k1 k2 => ?_)
  have q := h (A.not z) (by rw [X.a, Std_not, k2])
  cbv
  exact q

set_option maxRecDepth 100000 in
set_option maxHeartbeats 1000000 in
theorem F65_36 {l : List IF} {d : D} {p : IF → Bool} {dc : D} {K : PV → List Ob → Prop} (hd : d = encL encIF l) (hl : l.length ≤ 4294967295)
    (hg : ∀ x ∈ l, ∀ (c0 : S) (c1 : D) (c2 : D) (c3 : D) (c4 : D) (K' : PV → List Ob → Prop), ifIs x c0 c1 c2 c3 c4 → (∀ b, b = p x → K' (.bool b) []) → FC Tryz.prog tt 36 [] [ifPV c0 c1 c2 c3 c4, .pptr [.lst 31 dc] 0] K')
    (h : ∀ r : Int, r = idxF p l → K (.int .i64 r) []) :
    FC Tryz.prog tt 65 [] [.lst 31 d, .clos 36 [.pptr [.lst 31 dc] 0]] K := by
  refine FC.enter (G := g65) tt_ok mixed ⟨Tryz.func65, by rfl, rfl⟩ rfl rfl rfl ?_
  intro A C L X
  obtain ⟨n_d, hn_d⟩ : ∃ n, n = (l).length := ⟨_, rfl⟩
  have hlen_d : Std.len d = Int.ofNat n_d := by rw [hd, Std_len, hn_d]; rfl
  cbv
  refine X.loop (fun (i : Nat) => ⟨[(8, .int .i64 i), (7, .int .i64 (A.len d)), (1, .clos 36 [.pptr [.lst 31 dc] 0]), (0, .lst 31 d)], []⟩) (fun i => i ≤ n_d ∧ ∀ x ∈ l.take i, p x = false) (fun i => n_d - i) 0 ⟨Nat.zero_le _, by simp⟩ ?_ ?_
  · (cbv; repeat' apply And.intro); all_goals (try (first | trivial | rfl | (rw [X.a]; rfl)))
  rintro i ⟨hi, ha⟩
  cbv
  refine ⟨fun h1 => ?_, fun h1 => ?_⟩
  · have h5 : i < l.length := by obtain rfl := X.a; simp only [hlen_d, SD, bNot] at h1; omega
    have k1 := ifIsAt X.a hd h5
    have hid : A.idx (Int.ofNat i) (A.len d) := by rw [X.a, hd]; exact leaf_idx h5
    have hin : A.inr .i64 (A.add (Int.ofNat i) 1) := by rw [X.a]; exact leaf_inc h5 (by omega)
    cbv
    repeat' (first | apply And.intro | exact fun (_ : False → False) => by kernel_rfl | (intro h2; cbv) | apply Or.inl)
    any_goals exact hid
    refine X.call (hg _ (List.getElem_mem h5) _ _ _ _ _ _ k1 fun b hb => ?_)
    have hb' : b = p l[i] := hb
    clear hb
    cbv
    repeat' (first | apply And.intro | exact fun (_ : False → False) => by kernel_rfl | (intro h2; cbv) | apply Or.inl)
    any_goals exact hin
    · refine h i ?_
      exact (idxF_some h5 ha (by rw [← hb']; obtain rfl := X.a; simpa only [SD, bNot] using h2)).symm
    · have hf : p l[i] = false := by rename_i h3; rw [← hb']; obtain rfl := X.a; simpa only [SD, bNot] using h3
      refine ⟨i+1, ⟨by omega, ?_⟩, by omega, ?_⟩
      · rw [take_succ' h5]; intro x hx
        rcases List.mem_append.1 hx with hx | hx
        · exact ha x hx
        · simp at hx; subst hx; exact hf
      (cbv; repeat' apply And.intro); all_goals (try (first | trivial | rfl | (rw [X.a]; rfl)))
  · have h5 : i = n_d := by obtain rfl := X.a; simp only [hlen_d, SD, bNot] at h1; omega
    subst h5
    cbv
    refine h (-1) ?_
    rw [hn_d, List.take_length] at ha
    exact (idxF_none ha).symm

set_option maxRecDepth 100000 in
set_option maxHeartbeats 1000000 in
theorem F35 {l env : List IF} {d dc : D} {K : PV → List Ob → Prop} (hd : d = encL encIF l) (hl : l.length ≤ 4294967295) (hdc : dc = encL encIF env) (hle : envOk env) (hall : ∀ x ∈ l, (findI env x.path).isSome = true) (h : K (.bool false) []) :
    FC Tryz.prog tt 35 [] [.lst 31 d, .clos 36 [.pptr [.lst 31 dc] 0]] K := by
  refine FC.enter (G := g35) tt_ok mixed ⟨Tryz.func35, by rfl, rfl⟩ rfl rfl rfl ?_
  intro A C L X
  cbv
  refine X.call (F65_36 (p := fun x => !(findI env x.path).isSome) hd hl (fun x _ c0 c1 c2 c3 c4 K' hx hK => F36 hdc hle hx hK) fun r hr => ?_)
  have hr : r = -1 := by
    rcases idxF_cases (fun x => !(findI env x.path).isSome) l with ⟨e1, _⟩ | ⟨k, h5, _, e2, _⟩
    · exact hr.trans e1
    · have := hall l[k] (List.getElem_mem h5)
      rw [this] at e2; cases e2
  subst hr
  have q : K (.bool (A.le 0 (-1))) [] := by rw [X.a]; exact h
  cbv
  exact q
theorem F37d {env : List IF} {d : D} {m n m' n' : S} {K : PV → List Ob → Prop} (hd : d = encL encIF env) (hl : envOk env) (hm : m' = m) (hn : n' = n) (h : ∀ r0 r1 r2, (r0, r1, r2) = resolveR env m n → K (.tup [.str r0, .str r1, .int .i64 r2]) []) :
    FC Tryz.prog tt 37 [] [.lst 31 d, .str m', .str n'] K := by subst hm hn; exact F37 hd hl h
set_option maxRecDepth 100000 in
set_option maxHeartbeats 4000000 in
theorem F8 {env : List IF} {d : D} {p : S} {K : PV → List Ob → Prop} (hd : d = encL encIF env) (hl : envOk env) (hw : (env.map IF.wt).sum ≤ 4294967280) (h : K (.bool true) []) : FC Tryz.prog tt 8 [] [.lst 31 d, .str p] K := by
  have hn := hl.1
  refine FC.enter (G := g8) tt_ok mixed ⟨Tryz.func8, by rfl, rfl⟩ rfl rfl rfl ?_
  intro A C L X
  obtain ⟨n_d, hn_d⟩ : ∃ n, n = (env).length := ⟨_, rfl⟩
  have hlen_d : Std.len d = Int.ofNat n_d := by rw [hd, Std_len, hn_d]; rfl
  have eqi : ∀ z : Int, A.eq z z = true := fun z => by rw [X.a]; simp [Std_eq]
  have n0 : A.not true = false := by rw [X.a]; rfl
  cbv
  refine X.call (F10 ?_)
  cbv
  repeat' (first | apply And.intro | exact fun (_ : False → False) => by kernel_rfl | (intro h2; first | exact absurd ((n0).symm.trans h2) (by decide) | cbv) | apply Or.inl)
  refine X.call (F11 hd hl hw fun r hr => ?_)
  cbv
  repeat' (first | apply And.intro | exact fun (_ : False → False) => by kernel_rfl | (intro h2; cbv) | apply Or.inl)
  · exact h
  refine X.loopP (fun (y : Nat × D) => ⟨[(38, .int .i64 y.1), (37, .int .i64 (A.len d)), (36, .lst 31 d), (5, .mp 0), (0, .lst 31 d), (1, .str p)], [.map .str 4 y.2]⟩)
    (fun y => y.1 ≤ n_d ∧ ((env.take y.1).map (·.path)).Nodup ∧ ∃ m, y.2 = encL encKB m ∧ KT m ((env.take y.1).map (·.path))) (fun y => n_d - y.1) (0, .list []) ⟨Nat.zero_le _, by simp, [], rfl, KT.nil⟩ ?_ ?_
  · refine ⟨[0], rfl, ?_⟩
    (cbv; repeat' apply And.intro); all_goals (try (first | trivial | rfl | (rw [X.a]; rfl)))
  rintro ⟨i, dm⟩ ⟨hi, hnd, m, hdm, hm⟩
  simp only at hi hnd hdm hm
  cbv
  refine ⟨fun h1 => ?_, fun h1 => ?_⟩
  · have h5 : i < env.length := by obtain rfl := X.a; simp only [hlen_d, SD, bNot] at h1; omega
    have k1 := (ifIsAt X.a hd h5).1
    have hid : A.idx (Int.ofNat i) (A.len d) := by rw [X.a, hd]; exact leaf_idx h5
    have hin : A.inr .i64 (A.add (Int.ofNat i) 1) := by rw [X.a]; exact leaf_inc h5 (by omega)
    have hget : A.asBool (A.mget dm (.str (A.asStr (A.cell d (Int.ofNat i) 0))) 0) = decide (env[i].path ∈ (env.take i).map (·.path)) := by rw [k1, X.a, hdm]; exact Std_getK hm _
    have hset : A.mset dm (.str (A.asStr (A.cell d (Int.ofNat i) 0))) [.bool true] = encL encKB (addK m env[i].path) := by rw [k1, X.a, hdm]; exact Std_addK
    have hmt := map_take (f := IF.path) h5
    clear h1
    cbv
    repeat' (first | apply And.intro | exact fun (_ : False → False) => by kernel_rfl | (intro h2; cbv) | apply Or.inl)
    any_goals exact hid
    any_goals exact hin
    · exact h
    · rename_i g1
      have hnot : env[i].path ∉ (env.take i).map (·.path) := by have := hget.symm.trans g1; simpa using this
      have hm2 := hm.add env[i].path
      rw [← hmt] at hm2
      have hnd2 : ((env.take (i+1)).map (·.path)).Nodup := by
        rw [hmt, List.nodup_append]
        exact ⟨hnd, by simp, fun a ha b hb => by simp at hb; subst hb; exact fun e => hnot (e ▸ ha)⟩
      have hj3 : i + 1 ≤ n_d := by omega
      have hj4 : n_d - (i + 1) < n_d - i := by omega
      refine ⟨(i+1, _), ⟨hj3, hnd2, _, hset, hm2⟩, hj4, [0], rfl, ?_⟩
      (cbv; repeat' apply And.intro); all_goals (try (first | trivial | rfl | (rw [X.a]; rfl)))
  have h5 : i = n_d := by obtain rfl := X.a; simp only [hlen_d, SD, bNot] at h1; omega
  rw [h5, hn_d, List.take_length] at hnd
  clear h1 hi hm hdm h5 h2
  have hfx : ∀ x ∈ env, findI env x.path = some x := fun x hx => find_nodup hnd hx
  cbv
  refine X.call (F26c hd hl (by omega) fun dc ec hdc hec => ?_)
  cases hco : closeO env p with
  | none =>
    have hcr : closureR env p = ([], 6) := by unfold closureR; rw [hco]
    rw [hcr] at hdc hec
    have hdc : dc = .list [] := hdc
    subst hdc
    have hec : ec = 6 := hec
    subst hec
    have q0 : A.not (A.eq 6 0) = true := by rw [X.a]; rfl
    have q6 := eqi 6
    have q1 : K (.bool (A.eq (A.len (.list [])) 0)) [] := by rw [X.a]; exact h
    cbv
    repeat' (first | apply And.intro | exact fun (_ : False → False) => by kernel_rfl | (intro h2; first | exact absurd ((q0).symm.trans h2) (by decide) | exact absurd ((q6).symm.trans h2) (by decide) | cbv) | apply Or.inl)
    all_goals first
      | exact q1
      | trace_state
  | some t =>
    have hcr : closureR env p = (pickE t env, 0) := by unfold closureR; rw [hco]
    rw [hcr] at hdc hec
    have hdc : dc = encL encIF (pickE t env) := hdc
    have hec : ec = 0 := hec
    subst hec
    obtain ⟨hpt, hclo⟩ := closure_clo hco
    obtain ⟨c, hc⟩ : ∃ c, c = pickE t env := ⟨_, rfl⟩
    rw [← hc] at hdc
    have hcl : c.length ≤ env.length := by rw [hc]; exact pick_len
    have hce : envOk c := ⟨by omega, fun x hx => hl.2 x (pick_mem (by rw [← hc]; exact hx))⟩
    have hfc : ∀ s ∈ t, (findI c s).isSome = true := fun s hs => by
      obtain ⟨i, hf, _⟩ := hclo s hs
      rw [hc, find_pick, if_pos hs, hf]; rfl
    obtain ⟨n_dc, hn_dc⟩ : ∃ n, n = (c).length := ⟨_, rfl⟩
    have hlen_dc : Std.len dc = Int.ofNat n_dc := by rw [hdc, Std_len, hn_dc]; rfl
    have q0 : A.not (A.eq 0 0) = false := by rw [eqi, X.a]; rfl
    cbv
    repeat' (first | apply And.intro | exact fun (_ : False → False) => by kernel_rfl | (intro h2; first | exact absurd ((q0).symm.trans h2) (by decide) | cbv) | apply Or.inl)
    refine X.call (F12 hdc hce rfl fun e0 e1 e2 e3 e4 z _ hz => ?_)
    have hz : z = true := hz.trans (hfc p hpt)
    subst hz
    have q1 : A.lt (A.len d) (A.len dc) = false := by rw [X.a, hlen_d, hlen_dc, Std_lt]; simp; omega
    cbv
    repeat' (first | apply And.intro | exact fun (_ : False → False) => by kernel_rfl | (intro h2; first | exact absurd ((q0).symm.trans h2) (by decide) | exact absurd ((n0).symm.trans h2) (by decide) | exact absurd ((q1).symm.trans h2) (by decide) | cbv) | apply Or.inl)
    clear h2 q1 hnd q0
    refine X.loopP (fun (y : Nat) => ⟨[(82, .int .i64 y), (81, .int .i64 (A.len dc)), (80, .lst 31 dc), (8, .box 0 0), (0, .lst 31 d)], [.box [.lst 31 dc]]⟩) (fun y => y ≤ n_dc) (fun y => n_dc - y) 0 (Nat.zero_le _) ?_ ?_
    · refine ⟨[1], rfl, ?_⟩
      (cbv; repeat' apply And.intro); all_goals (try (first | trivial | rfl | (rw [X.a]; rfl)))
    intro y hy
    cbv
    refine ⟨fun h1 => ?_, fun h1 => ?_⟩
    · have h5 : y < c.length := by obtain rfl := X.a; simp only [hlen_dc, SD, bNot] at h1; omega
      obtain ⟨x, hx⟩ : ∃ x, x = c[y] := ⟨_, rfl⟩
      have k1 := ifIsAt X.a hdc h5
      rw [← hx] at k1
      have hid : A.idx (Int.ofNat y) (A.len dc) := by rw [X.a, hdc]; exact leaf_idx h5
      have hin : A.inr .i64 (A.add (Int.ofNat y) 1) := by rw [X.a]; exact leaf_inc h5 (by omega)
      have hxc : x ∈ c := by rw [hx]; exact List.getElem_mem h5
      have hxe : x ∈ env := pick_mem (by rw [← hc]; exact hxc)
      have hxt : x.path ∈ t := pick_path (by rw [← hc]; exact hxc)
      have hxf : findI env x.path = some x := hfx x hxe
      have hok := hl.2 _ hxe
      have hwx : x.wt ≤ (env.map IF.wt).sum := wt_mem hxe
      clear h1
      cbv
      repeat' (first | apply And.intro | exact fun (_ : False → False) => by kernel_rfl | (intro h2; cbv) | apply Or.inl)
      any_goals exact hid
      refine X.call (F12 hd hl k1.1 fun e0 e1 e2 e3 e4 z j1 j2 => ?_)
      rw [hxf] at j1 j2
      have j2 : z = true := j2
      subst j2
      have j1 : ifIs x e0 e1 e2 e3 e4 := j1
      cbv
      repeat' (first | apply And.intro | exact fun (_ : False → False) => by kernel_rfl | (intro h2; first | exact absurd ((n0).symm.trans h2) (by decide) | cbv) | apply Or.inl | (refine X.call (F14 hok j1 k1 fun b1 hb1 => ?_); cbv))
      all_goals (try exact absurd ((same_self _).symm.trans (hb1.symm.trans (nt X.a h2))) (by decide))
      refine X.call (F20c k1 hok (by omega) fun rm hrm => ?_)
      obtain ⟨n_rm, hn_rm⟩ : ∃ n, n = (mentO x).length := ⟨_, rfl⟩
      have hlen_rm : Std.len rm = Int.ofNat n_rm := by rw [hrm, Std_len, hn_rm]; rfl
      have hml := mentO_len x
      cbv
      refine X.loop (fun (j : Nat) => ⟨[(104, .int .i64 j), (103, .int .i64 (A.len rm)), (102, .lst 9 rm), (82, .int .i64 y), (81, .int .i64 (A.len dc)), (80, .lst 31 dc), (8, .box 0 0), (13, .box 1 0), (0, .lst 31 d)], [.box [.lst 31 dc], .box [.str (A.asStr (A.cell dc (Int.ofNat y) 0)), .lst 58 (A.cell dc (Int.ofNat y) 1), .lst 76 (A.cell dc (Int.ofNat y) 2), .lst 72 (A.cell dc (Int.ofNat y) 3), .lst 87 (A.cell dc (Int.ofNat y) 4)]]⟩) (fun j => j ≤ n_rm) (fun j => n_rm - j) 0 (Nat.zero_le _) ?_ ?_
      · (cbv; repeat' apply And.intro); all_goals (try (first | trivial | rfl | (rw [X.a]; rfl)))
      · intro j hj
        cbv
        refine ⟨fun h1 => ?_, fun h1 => ?_⟩
        · have h6 : j < (mentO x).length := by obtain rfl := X.a; simp only [hlen_rm, SD, bNot] at h1; omega
          have k2 := strAt X.a hrm h6
          have hid : A.idx (Int.ofNat j) (A.len rm) := by rw [X.a, hrm]; exact leaf_idx h6
          have hin2 : A.inr .i64 (A.add (Int.ofNat j) 1) := by rw [X.a]; exact leaf_inc h6 (by omega)
          clear h1
          cbv
          repeat' (first | apply And.intro | exact fun (_ : False → False) => by kernel_rfl | (intro h2; cbv) | apply Or.inl)
          any_goals exact hid
          refine X.call (F12 hdc hce k2 fun u0 u1 u2 u3 u4 v _ hv => ?_)
          have hv : v = true := by
            refine hv.trans (hfc _ ?_)
            obtain ⟨i, hf, hm⟩ := hclo x.path hxt
            rw [hxf] at hf
            cases hf
            exact hm _ (List.getElem_mem h6)
          subst hv
          cbv
          repeat' (first | apply And.intro | exact fun (_ : False → False) => by kernel_rfl | (intro h2; first | exact absurd ((n0).symm.trans h2) (by decide) | cbv) | apply Or.inl)
          any_goals exact hin2
          all_goals first
            | (refine ⟨j+1, by omega, by omega, ?_⟩; (cbv; repeat' apply And.intro); all_goals (try (first | trivial | rfl | (rw [X.a]; rfl))); done)
            | trace_state
        clear h1
        cbv
        refine X.call (F26c hd hl (by omega) fun dq eq hdq heq => ?_)
        obtain ⟨t', hco', hsub⟩ := closure_sub hclo hxt
        have hcr' : closureR env (A.asStr (A.cell dc (Int.ofNat y) 0)) = (pickE t' env, 0) := by rw [k1.1]; unfold closureR; rw [hco']
        rw [hcr'] at hdq heq
        have hdq : dq = encL encIF (pickE t' env) := hdq
        have heq : eq = 0 := heq
        subst heq
        have hpl : (pickE t' env).length ≤ env.length := pick_len
        have q0 : A.not (A.eq 0 0) = false := by rw [eqi, X.a]; rfl
        cbv
        repeat' (first | apply And.intro | exact fun (_ : False → False) => by kernel_rfl | (intro h2; first | exact absurd ((q0).symm.trans h2) (by decide) | cbv) | apply Or.inl | (refine X.call (F35 hdq (by omega) hdc hce (fun z hz => hfc _ (hsub _ (pick_path hz))) ?_); cbv))
        all_goals (try exact absurd h2 (by decide))
        have hnl := namesL_len x
        have hwn := len_wt x
        have hsl : (sortS (namesL x)).length ≤ (namesL x).length := sortS_len
        refine X.call (F18c k1 hok (by omega) fun rn hrn => ?_)
        obtain ⟨ns, hns⟩ : ∃ ns, ns = sortS (namesL x) := ⟨_, rfl⟩
        rw [← hns] at hsl
        have hrn : rn = encL encS ns := by rw [hns]; exact hrn
        obtain ⟨n_rn, hn_rn⟩ : ∃ n, n = (ns).length := ⟨_, rfl⟩
        have hlen_rn : Std.len rn = Int.ofNat n_rn := by rw [hrn, Std_len, hn_rn]; rfl
        cbv
        refine X.loop (fun (j : Nat) => ⟨[(134, .int .i64 j), (133, .int .i64 (A.len rn)), (132, .lst 9 rn), (82, .int .i64 y), (81, .int .i64 (A.len dc)), (80, .lst 31 dc), (8, .box 0 0), (13, .box 1 0), (0, .lst 31 d)], [.box [.lst 31 dc], .box [.str (A.asStr (A.cell dc (Int.ofNat y) 0)), .lst 58 (A.cell dc (Int.ofNat y) 1), .lst 76 (A.cell dc (Int.ofNat y) 2), .lst 72 (A.cell dc (Int.ofNat y) 3), .lst 87 (A.cell dc (Int.ofNat y) 4)]]⟩) (fun j => j ≤ n_rn) (fun j => n_rn - j) 0 (Nat.zero_le _) ?_ ?_
        · (cbv; repeat' apply And.intro); all_goals (try (first | trivial | rfl | (rw [X.a]; rfl)))
        intro j hj
        cbv
        refine ⟨fun h1 => ?_, fun h1 => ?_⟩
        · have h6 : j < ns.length := by obtain rfl := X.a; simp only [hlen_rn, SD, bNot] at h1; omega
          have k2 := strAt X.a hrn h6
          have hid : A.idx (Int.ofNat j) (A.len rn) := by rw [X.a, hrn]; exact leaf_idx h6
          have hin2 : A.inr .i64 (A.add (Int.ofNat j) 1) := by rw [X.a]; exact leaf_inc h6 (by omega)
          have hres := resolve_clo hclo hxt (n := ns[j])
          rw [← hc] at hres
          clear h1
          cbv
          repeat' (first | apply And.intro | exact fun (_ : False → False) => by kernel_rfl | (intro h2; cbv) | apply Or.inl)
          any_goals exact hid
          refine X.call (F37d hd hl k1.1 k2 fun a0 a1 a2 h3 => ?_)
          cbv
          refine X.call (F37d hdc hce k1.1 k2 fun b0 b1 b2 h4 => ?_)
          rw [hres, ← h3] at h4
          cases h4
          have w1 : A.not (A.seq a0 a0) = false := by rw [X.a]; simp [Std_not, Std_seq]
          have w2 : A.not (A.seq a1 a1) = false := by rw [X.a]; simp [Std_not, Std_seq]
          have w3 : A.not (A.eq a2 a2) = false := by rw [X.a]; simp [Std_not, Std_eq]
          cbv
          repeat' (first | apply And.intro | exact fun (_ : False → False) => by kernel_rfl | (intro h2; first | exact absurd ((w1).symm.trans h2) (by decide) | exact absurd ((w2).symm.trans h2) (by decide) | exact absurd ((w3).symm.trans h2) (by decide) | cbv) | apply Or.inl)
          any_goals exact hin2
          all_goals first
            | (refine ⟨j+1, by omega, by omega, ?_⟩; (cbv; repeat' apply And.intro); all_goals (try (first | trivial | rfl | (rw [X.a]; rfl))); done)
            | trace_state
        clear h1
        cbv
        repeat' (first | apply And.intro | exact fun (_ : False → False) => by kernel_rfl | (intro h2; cbv) | apply Or.inl)
        any_goals exact hin
        all_goals first
          | (refine ⟨y+1, by omega, by omega, [0], rfl, ?_⟩; (cbv; repeat' apply And.intro); all_goals (try (first | trivial | rfl | (rw [X.a]; rfl))); done)
          | trace_state
    · cbv
      exact h
end Go.VC.T07
end
