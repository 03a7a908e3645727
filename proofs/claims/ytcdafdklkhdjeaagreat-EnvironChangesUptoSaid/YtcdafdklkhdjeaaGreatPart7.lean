/- Part 7 of the common texts: M2 M3. -/
import Derived.Test.YtcdafdklkhdjeaaGreatPart1
import Derived.Test.YtcdafdklkhdjeaaGreatPart2
import Derived.Test.YtcdafdklkhdjeaaGreatPart3
import Derived.Test.YtcdafdklkhdjeaaGreatPart4
import Derived.Test.YtcdafdklkhdjeaaGreatPart5
import Derived.Test.YtcdafdklkhdjeaaGreatPart6
set_option linter.all false

section
/- EnvironFinds. -/
set_option linter.unusedSimpArgs false
set_option linter.unusedVariables false
namespace Go.VC
theorem len_wt (x : IF) : x.types.length + x.values.length + x.aliases.length ≤ x.wt := by
  have h1 : ∀ l : List TE, l.length ≤ (l.map TE.wt).sum := by
    intro l; induction l with
    | nil => simp
    | cons y l ih => simp only [List.length_cons, List.map_cons, List.sum_cons, TE.wt] at ih ⊢; omega
  have h2 : ∀ l : List VE, l.length ≤ (l.map VE.wt).sum := by
    intro l; induction l with
    | nil => simp
    | cons y l ih => simp only [List.length_cons, List.map_cons, List.sum_cons, VE.wt] at ih ⊢; omega
  have a := h1 x.types; have b := h2 x.values
  unfold IF.wt; omega
theorem namesL_len (x : IF) : (namesL x).length = x.types.length + x.values.length + x.aliases.length := by simp [namesL]; omega
theorem sortS_len {l : List S} : (sortS l).length ≤ l.length := insA_len (l := l)
end Go.VC
namespace Go.VC.T07
open Go Go.VC Go.Proofs
set_option maxRecDepth 100000 in
set_option maxHeartbeats 4000000 in
theorem F3 {a b : List IF} {da db : D} {p : S} {K : PV → List Ob → Prop} (hda : da = encL encIF a) (hla : envOk a) (hwa : (a.map IF.wt).sum ≤ 4294967280)
    (hdb : db = encL encIF b) (hlb : envOk b) (hwb : (b.map IF.wt).sum ≤ 4294967280) (h : K (.bool true) []) : FC Tryz.prog tt 3 [] [.lst 31 da, .lst 31 db, .str p] K := by
  have hn := hla.1
  refine FC.enter (G := g3) tt_ok mixed ⟨Tryz.func3, by rfl, rfl⟩ rfl rfl rfl ?_
  intro A C L X
  obtain ⟨n_da, hn_da⟩ : ∃ n, n = (a).length := ⟨_, rfl⟩
  have hlen_da : Std.len da = Int.ofNat n_da := by rw [hda, Std_len, hn_da]; rfl
  cbv
  refine X.call (F10 ?_)
  cbv
  repeat' (first | apply And.intro | exact fun (_ : False → False) => by kernel_rfl | (intro h2; cbv) | apply Or.inl)
  · obtain rfl := X.a; exact absurd h2 (by decide)
  refine X.call (F11 hda hla hwa fun r hr => ?_)
  cbv
  repeat' (first | apply And.intro | exact fun (_ : False → False) => by kernel_rfl | (intro h2; cbv) | apply Or.inl | (refine X.call (F11 hdb hlb hwb fun v hv => ?_); cbv))
  · exact h
  rotate_left 1
  · exact h
  refine X.call (F12 hda hla rfl fun e0 e1 e2 e3 e4 z k1 k2 => ?_)
  cbv
  refine X.call (F13 hda (by omega) rfl fun e0' e1' e2' e3' e4' z' k1' k2' => ?_)
  obtain ⟨x, hx⟩ : ∃ x, x = (findI a p).getD IF.zero := ⟨_, rfl⟩
  have hxok : x.ok := by
    rw [hx]
    cases hf : findI a p with
    | none => exact zero_ok
    | some i => exact findI_ok hla hf
  obtain rfl : z' = z := k2'.trans k2.symm
  rw [← hx] at k1 k1'
  have ez : A.not (A.beq z' z') = false := by rw [X.a]; simp [Std_not, Std_beq]
  clear k2 k2' hr
  cbv
  repeat' (first | apply And.intro | exact fun (_ : False → False) => by kernel_rfl | (intro h2; cbv) | apply Or.inl | (refine X.call (F14 hxok k1 k1' fun b1 hb1 => ?_); cbv) | (refine X.call (F15 hda hdb (by omega) hla.2 fun b2 hb2 => ?_); cbv) | (refine X.call (F16 hda hdb (by omega) hla.2 fun b3 hb3 => ?_); cbv))
  · have e : A.not (A.beq b2 b3) = false := by rw [hb2, hb3, X.a]; simp [Std_not, Std_beq]
    exact absurd (e.symm.trans h2) (by decide)
  rotate_left 1
  · exact absurd ((same_self _).symm.trans (hb1.symm.trans (nt X.a h2))) (by decide)
  · exact absurd (ez.symm.trans h2) (by decide)
  refine X.loop (fun (i : Nat) => ⟨[(55, .int .i64 i), (54, .int .i64 (A.len da)), (53, .lst 31 da)], []⟩) (fun i => i ≤ n_da) (fun i => n_da - i) 0 (Nat.zero_le _) ?_ ?_
  · (cbv; repeat' apply And.intro); all_goals (try (first | trivial | rfl | (rw [X.a]; rfl)))
  clear k1 k1' hx hxok
  intro i hi
  cbv
  refine ⟨fun h1 => ?_, fun h1 => ?_⟩
  · have h5 : i < a.length := by obtain rfl := X.a; simp only [hlen_da, SD, bNot] at h1; omega
    have k1 := ifIsAt X.a hda h5
    have hid : A.idx (Int.ofNat i) (A.len da) := by rw [X.a, hda]; exact leaf_idx h5
    have hin : A.inr .i64 (A.add (Int.ofNat i) 1) := by rw [X.a]; exact leaf_inc h5 (by omega)
    have hm := List.getElem_mem h5
    have hok := hla.2 _ hm
    have hwi : a[i].wt ≤ (a.map IF.wt).sum := wt_mem hm
    have hnl := namesL_len a[i]
    have hml := mentO_len a[i]
    have hsl : (sortS (namesL a[i])).length ≤ (namesL a[i]).length := sortS_len
    have hwn : a[i].types.length + a[i].values.length + a[i].aliases.length ≤ a[i].wt := len_wt a[i]
    clear h1
    cbv
    repeat' (first | apply And.intro | exact fun (_ : False → False) => by kernel_rfl | (intro h2; cbv) | apply Or.inl | (refine X.call (F18c k1 hok (by omega) fun r1 hr1 => ?_); cbv) | (refine X.call (F19 k1 (by omega) fun r2 hr2 => ?_); cbv) | (refine X.call (F17 hr1 hr2 (by omega) fun b4 hb4 => ?_); cbv) | (refine X.call (F20c k1 hok (by omega) fun r3 hr3 => ?_); cbv) | (refine X.call (F21 k1 hok (by omega) fun r4 hr4 => ?_); cbv) | (refine X.call (F17 hr3 hr4 (by omega) fun b5 hb5 => ?_); cbv))
    any_goals exact hid
    any_goals exact hin
    all_goals first
      | exact absurd ((same_self _).symm.trans (hb4.symm.trans (nt X.a h2))) (by decide)
      | exact absurd ((same_self _).symm.trans (hb5.symm.trans (nt X.a h2))) (by decide)
      | (refine ⟨i+1, by omega, by omega, ?_⟩; (cbv; repeat' apply And.intro); all_goals (try (first | trivial | rfl | (rw [X.a]; rfl))); done)
      | trace_state
  · cbv
    exact h
end Go.VC.T07
end

section
/- EnvironChanges. -/
set_option linter.unusedSimpArgs false
set_option linter.unusedVariables false
namespace Go.VC
theorem addI_len (env : List IF) (x : IF) : (addI env x).length ≤ env.length + 1 := by
  unfold addI
  have := List.length_filter_le (fun y : IF => y.path != x.path) env
  simp only [List.length_append, List.length_take, List.length_cons, List.length_drop]
  omega
theorem addI_mem {env : List IF} {x y : IF} (h : y ∈ addI env x) : y = x ∨ y ∈ env := by
  unfold addI at h
  rcases List.mem_append.1 h with h | h
  · exact .inr (List.mem_filter.1 (List.mem_of_mem_take h)).1
  · rcases List.mem_cons.1 h with h | h
    · exact .inl h
    · exact .inr (List.mem_filter.1 (List.mem_of_mem_drop h)).1
theorem pick_mem {L : List S} {env : List IF} {y : IF} (h : y ∈ pickE L env) : y ∈ env := by
  have key : ∀ (l : List IF) (o : List IF), y ∈ l.foldl (pickStep L) o → y ∈ o ∨ y ∈ l := by
    intro l
    induction l with
    | nil => intro o h; exact .inl h
    | cons x l ih =>
      intro o h
      rcases ih _ h with h | h
      · unfold pickStep at h
        split at h
        · rcases List.mem_append.1 h with h | h
          · exact .inl h
          · simp at h; exact .inr (by simp [h])
        · exact .inl h
      · exact .inr (by simp [h])
  rcases key env [] h with h | h
  · simp at h
  · exact h
theorem closure_mem {env : List IF} {p : S} {y : IF} (h : y ∈ (closureR env p).1) : y ∈ env := by
  unfold closureR at h
  split at h
  · simp at h
  · exact pick_mem h
theorem closure_len (env : List IF) (p : S) : (closureR env p).1.length ≤ env.length := by
  unfold closureR
  split
  · simp
  · exact pick_len
end Go.VC
namespace Go.VC.T07
open Go Go.VC Go.Proofs
theorem F26c {env : List IF} {d : D} {p : S} {K : PV → List Ob → Prop} (hd : d = encL encIF env) (hl : envOk env) (hw : (env.map IF.wt).sum ≤ 4294967290)
    (h : ∀ d' e, d' = encL encIF (closureR env p).1 → e = (closureR env p).2 → K (.tup [.lst 31 d', .int .i64 e]) []) : FC Tryz.prog tt 26 [] [.lst 31 d, .str p] K :=
  F26 hd hl hw fun r e k => h _ e (by rw [← k]) (by rw [← k])
theorem F27c {env : List IF} {d : D} {p : S} {K : PV → List Ob → Prop} (hd : d = encL encIF env) (hl : envOk env) (hw : (env.map IF.wt).sum ≤ 4294967280)
    (h : ∀ d' e, d' = encL encIF (closureR env p).1 → e = (closureR env p).2 → K (.tup [.lst 31 d', .int .i64 e]) []) : FC Tryz.prog tt 27 [] [.lst 31 d, .str p] K :=
  F27 hd hl hw fun r e k => h _ e (by rw [← k]) (by rw [← k])
set_option maxRecDepth 100000 in
set_option maxHeartbeats 4000000 in
theorem F5 {env : List IF} {d : D} {x : IF} {p : S} {c0 : S} {c1 c2 c3 c4 : D} {K : PV → List Ob → Prop} (hd : d = encL encIF env) (hl : envOk env) (hw : (env.map IF.wt).sum ≤ 4294967000)
    (hx : ifIs x c0 c1 c2 c3 c4) (hok : x.ok) (hwx : x.wt ≤ 4294967000) (h : K (.bool true) []) : FC Tryz.prog tt 5 [] [.lst 31 d, ifPV c0 c1 c2 c3 c4, .str p] K := by
  have hn := hl.1
  have hnw : env.length ≤ (env.map IF.wt).sum := by
    have : ∀ l : List IF, l.length ≤ (l.map IF.wt).sum := by
      intro l
      induction l with
      | nil => simp
      | cons x l ih => simp only [List.length_cons, List.map_cons, List.sum_cons]; have : 1 ≤ x.wt := by unfold IF.wt; omega
                       omega
    exact this env
  have hal := addI_len env x
  have haok : ∀ y ∈ addI env x, y.ok := fun y hy => by
    rcases addI_mem hy with rfl | hy
    · exact hok
    · exact hl.2 y hy
  have hfl := List.length_filter_le (fun y : IF => y.path != p) env
  have hfok : ∀ y ∈ env.filter (fun y => y.path != p), y.ok := fun y hy => hl.2 y (List.mem_filter.1 hy).1
  have hcl := closure_len env p
  have hcok : ∀ y ∈ (closureR env p).1, y.ok := fun y hy => hl.2 y (closure_mem hy)
  refine FC.enter (G := g5) tt_ok mixed ⟨Tryz.func5, by rfl, rfl⟩ rfl rfl rfl ?_
  intro A C L X
  have h1 : A.lit [[.str c0, c1, c2, c3, c4]] = encL encIF [x] := by obtain ⟨a0, a1, a2, a3, a4⟩ := hx; rw [a0, a1, a2, a3, a4, X.a]; rfl
  cbv
  refine X.call (F10 ?_)
  cbv
  repeat' (first | apply And.intro | exact fun (_ : False → False) => by kernel_rfl | (intro h2; cbv) | apply Or.inl)
  · obtain rfl := X.a; exact absurd h2 (by decide)
  refine X.call (F11 hd hl (by omega) fun r hr => ?_)
  cbv
  repeat' (first | apply And.intro | exact fun (_ : False → False) => by kernel_rfl | (intro h2; cbv) | apply Or.inl | (refine X.call (F11 h1 ⟨by simp, by simpa using hok⟩ (by simp; omega) fun v hv => ?_); cbv))
  · exact h
  rotate_left 1
  · exact h
  refine X.call (F26c hd hl (by omega) fun dc ec hdc k1 => ?_)
  cbv
  refine X.call (F27c hd hl (by omega) fun dr ed hdr k2 => ?_)
  obtain rfl : ec = ed := k1.trans k2.symm
  have eqi : A.eq ec ec = true := by rw [X.a]; simp [Std_eq]
  have q : K (.bool (A.eq ec ec)) [] := by rw [eqi]; exact h
  cbv
  repeat' (first | apply And.intro | exact fun (_ : False → False) => by kernel_rfl | (intro h2; cbv) | apply Or.inl | (refine X.call (F28 hd hl (by omega) hok hx fun r1 hr1 => ?_); cbv) | (refine X.call (F29 hd (by omega) hx fun r2 hr2 => ?_); cbv) | (refine X.call (F16 hr1 hr2 (by omega) haok fun b1 hb1 => ?_); cbv) | (refine X.call (F30 hd hl fun r3 hr3 => ?_); cbv) | (refine X.call (F31 hd (by omega) fun r4 hr4 => ?_); cbv) | (refine X.call (F16 hr3 hr4 (by omega) hfok fun b2 hb2 => ?_); cbv) | (refine X.call (F16 hdc hdr (by omega) hcok fun b3 hb3 => ?_); cbv))
  all_goals first
    | exact absurd ((same_self _).symm.trans (hb1.symm.trans h2)) (by decide)
    | exact absurd ((same_self _).symm.trans (hb2.symm.trans h2)) (by decide)
    | exact absurd ((same_self _).symm.trans (hb3.symm.trans h2)) (by decide)
    | exact q
    | trace_state
end Go.VC.T07
end
