/- Part 7 of the common texts: M2 M3 M5 M7. -/
import Derived.Test.YtcdafdklkhdjeaaGreatPart1
import Derived.Test.YtcdafdklkhdjeaaGreatPart2
import Derived.Test.YtcdafdklkhdjeaaGreatPart3
import Derived.Test.YtcdafdklkhdjeaaGreatPart4
import Derived.Test.YtcdafdklkhdjeaaGreatPart5
import Derived.Test.YtcdafdklkhdjeaaGreatPart6
set_option linter.all false

section
/- EnvironFinds. -/
set_option linter.unusedSimpArgs false
set_option linter.unusedVariables false
namespace Go.VC
theorem len_wt (x : IF) : x.types.length + x.values.length + x.aliases.length ≤ x.wt := by
  have h1 : ∀ l : List TE, l.length ≤ (l.map TE.wt).sum := by
    intro l; induction l with
    | nil => simp
    | cons y l ih => simp only [List.length_cons, List.map_cons, List.sum_cons, TE.wt] at ih ⊢; omega
  have h2 : ∀ l : List VE, l.length ≤ (l.map VE.wt).sum := by
    intro l; induction l with
    | nil => simp
    | cons y l ih => simp only [List.length_cons, List.map_cons, List.sum_cons, VE.wt] at ih ⊢; omega
  have a := h1 x.types; have b := h2 x.values
  unfold IF.wt; omega
theorem namesL_len (x : IF) : (namesL x).length = x.types.length + x.values.length + x.aliases.length := by simp [namesL]; omega
theorem sortS_len {l : List S} : (sortS l).length ≤ l.length := insA_len (l := l)
end Go.VC
namespace Go.VC.T07
open Go Go.VC Go.Proofs
set_option maxRecDepth 100000 in
set_option maxHeartbeats 4000000 in
theorem F3 {a b : List IF} {da db : D} {p : S} {K : PV → List Ob → Prop} (hda : da = encL encIF a) (hla : envOk a) (hwa : (a.map IF.wt).sum ≤ 4294967280)
    (hdb : db = encL encIF b) (hlb : envOk b) (hwb : (b.map IF.wt).sum ≤ 4294967280) (h : K (.bool true) []) : FC Tryz.prog tt 3 [] [.lst 31 da, .lst 31 db, .str p] K := by
  have hn := hla.1
  refine FC.enter (G := g3) tt_ok mixed ⟨Tryz.func3, by rfl, rfl⟩ rfl rfl rfl ?_
  intro A C L X
  obtain ⟨n_da, hn_da⟩ : ∃ n, n = (a).length := ⟨_, rfl⟩
  have hlen_da : Std.len da = Int.ofNat n_da := by rw [hda, Std_len, hn_da]; rfl
  cbv
  refine X.call (F10 ?_)
  cbv
  repeat' (first | apply And.intro | exact fun (_ : False → False) => by kernel_rfl | (intro h2; cbv) | apply Or.inl)
  · obtain rfl := X.a; exact absurd h2 (by decide)
  refine X.call (F11 hda hla hwa fun r hr => ?_)
  cbv
  repeat' (first | apply And.intro | exact fun (_ : False → False) => by kernel_rfl | (intro h2; cbv) | apply Or.inl | (refine X.call (F11 hdb hlb hwb fun v hv => ?_); cbv))
  · exact h
  rotate_left 1
  · exact h
  refine X.call (F12 hda hla rfl fun e0 e1 e2 e3 e4 z k1 k2 => ?_)
  cbv
  refine X.call (F13 hda (by omega) rfl fun e0' e1' e2' e3' e4' z' k1' k2' => ?_)
  obtain ⟨x, hx⟩ : ∃ x, x = (findI a p).getD IF.zero := ⟨_, rfl⟩
  have hxok : x.ok := by
    rw [hx]
    cases hf : findI a p with
    | none => exact zero_ok
    | some i => exact findI_ok hla hf
  obtain rfl : z' = z := k2'.trans k2.symm
  rw [← hx] at k1 k1'
  have ez : A.not (A.beq z' z') = false := by rw [X.a]; simp [Std_not, Std_beq]
  clear k2 k2' hr
  cbv
  repeat' (first | apply And.intro | exact fun (_ : False → False) => by kernel_rfl | (intro h2; cbv) | apply Or.inl | (refine X.call (F14 hxok k1 k1' fun b1 hb1 => ?_); cbv) | (refine X.call (F15 hda hdb (by omega) hla.2 fun b2 hb2 => ?_); cbv) | (refine X.call (F16 hda hdb (by omega) hla.2 fun b3 hb3 => ?_); cbv))
  · have e : A.not (A.beq b2 b3) = false := by rw [hb2, hb3, X.a]; simp [Std_not, Std_beq]
    exact absurd (e.symm.trans h2) (by decide)
  rotate_left 1
  · exact absurd ((same_self _).symm.trans (hb1.symm.trans (nt X.a h2))) (by decide)
  · exact absurd (ez.symm.trans h2) (by decide)
  refine X.loop (fun (i : Nat) => ⟨[(55, .int .i64 i), (54, .int .i64 (A.len da)), (53, .lst 31 da)], []⟩) (fun i => i ≤ n_da) (fun i => n_da - i) 0 (Nat.zero_le _) ?_ ?_
  · (cbv; repeat' apply And.intro); all_goals (try (first | trivial | rfl | (rw [X.a]; rfl)))
  clear k1 k1' hx hxok
  intro i hi
  cbv
  refine ⟨fun h1 => ?_, fun h1 => ?_⟩
  · have h5 : i < a.length := by obtain rfl := X.a; simp only [hlen_da, SD, bNot] at h1; omega
    have k1 := ifIsAt X.a hda h5
    have hid : A.idx (Int.ofNat i) (A.len da) := by rw [X.a, hda]; exact leaf_idx h5
    have hin : A.inr .i64 (A.add (Int.ofNat i) 1) := by rw [X.a]; exact leaf_inc h5 (by omega)
    have hm := List.getElem_mem h5
    have hok := hla.2 _ hm
    have hwi : a[i].wt ≤ (a.map IF.wt).sum := wt_mem hm
    have hnl := namesL_len a[i]
    have hml := mentO_len a[i]
    have hsl : (sortS (namesL a[i])).length ≤ (namesL a[i]).length := sortS_len
    have hwn : a[i].types.length + a[i].values.length + a[i].aliases.length ≤ a[i].wt := len_wt a[i]
    clear h1
    cbv
    repeat' (first | apply And.intro | exact fun (_ : False → False) => by kernel_rfl | (intro h2; cbv) | apply Or.inl | (refine X.call (F18c k1 hok (by omega) fun r1 hr1 => ?_); cbv) | (refine X.call (F19 k1 (by omega) fun r2 hr2 => ?_); cbv) | (refine X.call (F17 hr1 hr2 (by omega) fun b4 hb4 => ?_); cbv) | (refine X.call (F20c k1 hok (by omega) fun r3 hr3 => ?_); cbv) | (refine X.call (F21 k1 hok (by omega) fun r4 hr4 => ?_); cbv) | (refine X.call (F17 hr3 hr4 (by omega) fun b5 hb5 => ?_); cbv))
    any_goals exact hid
    any_goals exact hin
    all_goals first
      | exact absurd ((same_self _).symm.trans (hb4.symm.trans (nt X.a h2))) (by decide)
      | exact absurd ((same_self _).symm.trans (hb5.symm.trans (nt X.a h2))) (by decide)
      | (refine ⟨i+1, by omega, by omega, ?_⟩; (cbv; repeat' apply And.intro); all_goals (try (first | trivial | rfl | (rw [X.a]; rfl))); done)
      | trace_state
  · cbv
    exact h
end Go.VC.T07
end

section
/- EnvironChanges. -/
set_option linter.unusedSimpArgs false
set_option linter.unusedVariables false
namespace Go.VC
theorem addI_len (env : List IF) (x : IF) : (addI env x).length ≤ env.length + 1 := by
  unfold addI
  have := List.length_filter_le (fun y : IF => y.path != x.path) env
  simp only [List.length_append, List.length_take, List.length_cons, List.length_drop]
  omega
theorem addI_mem {env : List IF} {x y : IF} (h : y ∈ addI env x) : y = x ∨ y ∈ env := by
  unfold addI at h
  rcases List.mem_append.1 h with h | h
  · exact .inr (List.mem_filter.1 (List.mem_of_mem_take h)).1
  · rcases List.mem_cons.1 h with h | h
    · exact .inl h
    · exact .inr (List.mem_filter.1 (List.mem_of_mem_drop h)).1
theorem pick_mem {L : List S} {env : List IF} {y : IF} (h : y ∈ pickE L env) : y ∈ env := by
  have key : ∀ (l : List IF) (o : List IF), y ∈ l.foldl (pickStep L) o → y ∈ o ∨ y ∈ l := by
    intro l
    induction l with
    | nil => intro o h; exact .inl h
    | cons x l ih =>
      intro o h
      rcases ih _ h with h | h
      · unfold pickStep at h
        split at h
        · rcases List.mem_append.1 h with h | h
          · exact .inl h
          · simp at h; exact .inr (by simp [h])
        · exact .inl h
      · exact .inr (by simp [h])
  rcases key env [] h with h | h
  · simp at h
  · exact h
theorem closure_mem {env : List IF} {p : S} {y : IF} (h : y ∈ (closureR env p).1) : y ∈ env := by
  unfold closureR at h
  split at h
  · simp at h
  · exact pick_mem h
theorem closure_len (env : List IF) (p : S) : (closureR env p).1.length ≤ env.length := by
  unfold closureR
  split
  · simp
  · exact pick_len
end Go.VC
namespace Go.VC.T07
open Go Go.VC Go.Proofs
theorem F26c {env : List IF} {d : D} {p : S} {K : PV → List Ob → Prop} (hd : d = encL encIF env) (hl : envOk env) (hw : (env.map IF.wt).sum ≤ 4294967290)
    (h : ∀ d' e, d' = encL encIF (closureR env p).1 → e = (closureR env p).2 → K (.tup [.lst 31 d', .int .i64 e]) []) : FC Tryz.prog tt 26 [] [.lst 31 d, .str p] K :=
  F26 hd hl hw fun r e k => h _ e (by rw [← k]) (by rw [← k])
theorem F27c {env : List IF} {d : D} {p : S} {K : PV → List Ob → Prop} (hd : d = encL encIF env) (hl : envOk env) (hw : (env.map IF.wt).sum ≤ 4294967280)
    (h : ∀ d' e, d' = encL encIF (closureR env p).1 → e = (closureR env p).2 → K (.tup [.lst 31 d', .int .i64 e]) []) : FC Tryz.prog tt 27 [] [.lst 31 d, .str p] K :=
  F27 hd hl hw fun r e k => h _ e (by rw [← k]) (by rw [← k])
set_option maxRecDepth 100000 in
set_option maxHeartbeats 4000000 in
theorem F5 {env : List IF} {d : D} {x : IF} {p : S} {c0 : S} {c1 c2 c3 c4 : D} {K : PV → List Ob → Prop} (hd : d = encL encIF env) (hl : envOk env) (hw : (env.map IF.wt).sum ≤ 4294967000)
    (hx : ifIs x c0 c1 c2 c3 c4) (hok : x.ok) (hwx : x.wt ≤ 4294967000) (h : K (.bool true) []) : FC Tryz.prog tt 5 [] [.lst 31 d, ifPV c0 c1 c2 c3 c4, .str p] K := by
  have hn := hl.1
  have hnw : env.length ≤ (env.map IF.wt).sum := by
    have : ∀ l : List IF, l.length ≤ (l.map IF.wt).sum := by
      intro l
      induction l with
      | nil => simp
      | cons x l ih => simp only [List.length_cons, List.map_cons, List.sum_cons]; have : 1 ≤ x.wt := by unfold IF.wt; omega
                       omega
    exact this env
  have hal := addI_len env x
  have haok : ∀ y ∈ addI env x, y.ok := fun y hy => by
    rcases addI_mem hy with rfl | hy
    · exact hok
    · exact hl.2 y hy
  have hfl := List.length_filter_le (fun y : IF => y.path != p) env
  have hfok : ∀ y ∈ env.filter (fun y => y.path != p), y.ok := fun y hy => hl.2 y (List.mem_filter.1 hy).1
  have hcl := closure_len env p
  have hcok : ∀ y ∈ (closureR env p).1, y.ok := fun y hy => hl.2 y (closure_mem hy)
  refine FC.enter (G := g5) tt_ok mixed ⟨Tryz.func5, by rfl, rfl⟩ rfl rfl rfl ?_
  intro A C L X
  have h1 : A.lit [[.str c0, c1, c2, c3, c4]] = encL encIF [x] := by obtain ⟨a0, a1, a2, a3, a4⟩ := hx; rw [a0, a1, a2, a3, a4, X.a]; rfl
  cbv
  refine X.call (F10 ?_)
  cbv
  repeat' (first | apply And.intro | exact fun (_ : False → False) => by kernel_rfl | (intro h2; cbv) | apply Or.inl)
  · obtain rfl := X.a; exact absurd h2 (by decide)
  refine X.call (F11 hd hl (by omega) fun r hr => ?_)
  cbv
  repeat' (first | apply And.intro | exact fun (_ : False → False) => by kernel_rfl | (intro h2; cbv) | apply Or.inl | (refine X.call (F11 h1 ⟨by simp, by simpa using hok⟩ (by simp; omega) fun v hv => ?_); cbv))
  · exact h
  rotate_left 1
  · exact h
  refine X.call (F26c hd hl (by omega) fun dc ec hdc k1 => ?_)
  cbv
  refine X.call (F27c hd hl (by omega) fun dr ed hdr k2 => ?_)
  obtain rfl : ec = ed := k1.trans k2.symm
  have eqi : A.eq ec ec = true := by rw [X.a]; simp [Std_eq]
  have q : K (.bool (A.eq ec ec)) [] := by rw [eqi]; exact h
  cbv
  repeat' (first | apply And.intro | exact fun (_ : False → False) => by kernel_rfl | (intro h2; cbv) | apply Or.inl | (refine X.call (F28 hd hl (by omega) hok hx fun r1 hr1 => ?_); cbv) | (refine X.call (F29 hd (by omega) hx fun r2 hr2 => ?_); cbv) | (refine X.call (F16 hr1 hr2 (by omega) haok fun b1 hb1 => ?_); cbv) | (refine X.call (F30 hd hl fun r3 hr3 => ?_); cbv) | (refine X.call (F31 hd (by omega) fun r4 hr4 => ?_); cbv) | (refine X.call (F16 hr3 hr4 (by omega) hfok fun b2 hb2 => ?_); cbv) | (refine X.call (F16 hdc hdr (by omega) hcok fun b3 hb3 => ?_); cbv))
  all_goals first
    | exact absurd ((same_self _).symm.trans (hb1.symm.trans h2)) (by decide)
    | exact absurd ((same_self _).symm.trans (hb2.symm.trans h2)) (by decide)
    | exact absurd ((same_self _).symm.trans (hb3.symm.trans h2)) (by decide)
    | exact q
    | trace_state
end Go.VC.T07
end

section
/- EnvironArguments. -/
set_option linter.unusedSimpArgs false
set_option linter.unusedVariables false
namespace Go.VC.T07
open Go Go.VC Go.Proofs
theorem F34c {ns : List S} {ts : List Ty} {t : Ty} {dn dt : D} (hn : dn = encL encS ns) (hts : dt = encL encTy ts) (hl1 : ns.length ≤ 4294967295) (hl2 : ts.length ≤ 4294967295) (hle : Ty.le 4294967295 t)
    {c0 : Int} {c1 c2 : S} {c3 c4 : D} {K : PV → List Ob → Prop} (ht : tyIs t c0 c1 c2 c3 c4) (h : ∀ e0 e1 e2 e3 e4, tyIs (t.sub ns ts) e0 e1 e2 e3 e4 → K (tyPV e0 e1 e2 e3 e4) []) : FC Tryz.prog tt 34 [] [tyPV c0 c1 c2 c3 c4, .lst 9 dn, .lst 43 dt] K :=
  F34 hn hts hl1 hl2 t hle ht h
def g7a : Cfg := {tt := tt, n := 110, sch := g7.sch, own := [18]}
set_option maxRecDepth 100000 in
set_option maxHeartbeats 4000000 in
theorem F7 {env : List IF} {d : D} {m n : S} {args : List Ty} {da : D} {K : PV → List Ob → Prop} (hd : d = encL encIF env) (hl : envOk env) (hw : (env.map IF.wt).sum ≤ 4294967280)
    (hda : da = encL encTy args) (hna : args.length ≤ 4294967295) (hla : ∀ u ∈ args, Ty.le 4294967295 u) (hwa : (args.map Ty.size).sum ≤ 4294967280) (h : K (.bool true) []) : FC Tryz.prog tt 7 [] [.lst 31 d, .str m, .str n, .lst 43 da] K := by
  obtain ⟨T, hT⟩ : ∃ T : Ty, T = .mk 10 m n args [] := ⟨_, rfl⟩
  have hTle : Ty.le 4294967295 T := by rw [hT]; exact .mk _ hna (by simp [Ty.fl]) hla (by simp [Ty.fl])
  have hTis : tyIs T 10 m n da (.list []) := by rw [hT]; exact ⟨rfl, rfl, rfl, hda, rfl⟩
  have hbd : boundsR env T = if (typeR env m n).2.2 ≠ 0 then (Ty.zero, Ty.zero, (typeR env m n).2.2) else if args.length ≠ (typeR env m n).1.params.length then (Ty.zero, Ty.zero, 11) else
      ((typeR env m n).1.lower.sub ((typeR env m n).1.params.map (·.name)) args, (typeR env m n).1.upper.sub ((typeR env m n).1.params.map (·.name)) args, 0) := by rw [hT]; unfold boundsR; rw [if_neg (by simp [Ty.k])]; rfl
  have hbk := boundsR_ok hl hTle
  obtain ⟨x, hx⟩ : ∃ x, x = (typeR env m n).1 := ⟨_, rfl⟩
  obtain ⟨er, her⟩ : ∃ er, er = (typeR env m n).2.2 := ⟨_, rfl⟩
  have hxok : x.ok := by rw [hx]; exact typeR_ok hl
  rw [← hx, ← her] at hbd
  refine FC.enter (G := g7a) tt_ok mixed ⟨Tryz.func7, by rfl, rfl⟩ rfl rfl rfl ?_
  intro A C L X
  obtain ⟨n_da, hn_da⟩ : ∃ n, n = (args).length := ⟨_, rfl⟩
  have hlen_da : Std.len da = Int.ofNat n_da := by rw [hda, Std_len, hn_da]; rfl
  have eqi : ∀ z : Int, A.eq z z = true := fun z => by rw [X.a]; simp [Std_eq]
  cbv
  refine X.call (F10 ?_)
  cbv
  repeat' (first | apply And.intro | exact fun (_ : False → False) => by kernel_rfl | (intro h2; cbv) | apply Or.inl)
  · obtain rfl := X.a; exact absurd h2 (by decide)
  refine X.loop (fun (y : Nat × Int) => ⟨[(25, .int .i64 y.1), (9, .int .i64 y.2), (24, .int .i64 (A.len da)), (23, .lst 43 da), (0, .lst 31 d), (1, .str m), (2, .str n), (3, .lst 43 da)], []⟩)
    (fun y => y.1 ≤ n_da ∧ y.2 = Int.ofNat ((args.take y.1).map Ty.size).sum) (fun y => n_da - y.1) (0, 0) ⟨Nat.zero_le _, rfl⟩ ?_ ?_
  · (cbv; repeat' apply And.intro); all_goals (try (first | trivial | rfl | (rw [X.a]; rfl)))
  · rintro ⟨i, z⟩ ⟨hi, hz⟩
    simp only at hi hz
    cbv
    refine ⟨fun h1 => ?_, fun h1 => ?_⟩
    · have h5 : i < args.length := by obtain rfl := X.a; simp only [hlen_da, SD, bNot] at h1; omega
      have k1 := tyAt X.a hda h5
      have hid : A.idx (Int.ofNat i) (A.len da) := by rw [X.a, hda]; exact leaf_idx h5
      have hin : A.inr .i64 (A.add (Int.ofNat i) 1) := by rw [X.a]; exact leaf_inc h5 (by omega)
      have hms := List.getElem_mem h5
      have hss := sum_step (f := Ty.size) h5
      have hsl2 := sum_step_le (f := Ty.size) h5
      clear h1
      cbv
      repeat' (first | apply And.intro | exact fun (_ : False → False) => by kernel_rfl | (intro h2; cbv) | apply Or.inl)
      any_goals exact hid
      refine X.call (F22c (hla _ hms) (by omega) k1 fun v hv => ?_)
      have hv' : v = Int.ofNat args[i].size := hv
      clear hv
      have q1 : A.add z v = Int.ofNat ((args.take (i+1)).map Ty.size).sum := by rw [X.a, Std_add, hss, hz, hv']; simp only [Int.ofNat_eq_natCast]; omega
      have hin3 : A.inr .i64 (A.add z v) := by rw [q1, X.a, Std_inr64]; simp only [Int.ofNat_eq_natCast]; omega
      cbv
      repeat' (first | apply And.intro | exact fun (_ : False → False) => by kernel_rfl | (intro h2; cbv) | apply Or.inl)
      any_goals exact hin
      any_goals exact hin3
      refine ⟨(i+1, _), ⟨?_, q1⟩, ?_, ?_⟩
      · simp only; omega
      · simp only; omega
      (cbv; repeat' apply And.intro); all_goals (try (first | trivial | rfl | (rw [X.a]; rfl)))
    clear h1
    cbv
    refine X.call (F11 hd hl hw fun sz hsz => ?_)
    cbv
    repeat' (first | apply And.intro | exact fun (_ : False → False) => by kernel_rfl | (intro h2; cbv) | apply Or.inl)
    any_goals exact h
    refine X.call (F33 hd hl fun e0 e1 e2 e3 e4 e5 e6 e7 e8 e9 e10 e11 r1 r2 k1 k2 k3 => ?_)
    rw [← hx] at k1
    rw [← her] at k3
    subst k3
    cbv
    refine X.call (F23 hd hl hTle hTis fun a0 a1 a2 a3 a4 g0 g1 g2 g3 g4 fr j1 j2 j3 => ?_)
    rw [hbd] at j1 j2 j3
    obtain ⟨kn, kp, klo, kup⟩ := k1
    obtain ⟨n_e1, hn_e1⟩ : ∃ n, n = (x.params).length := ⟨_, rfl⟩
    have hlen_e1 : Std.len e1 = Int.ofNat n_e1 := by rw [kp, Std_len, hn_e1]; rfl
    have t0 : A.not (A.eq r2 0) = true → r2 ≠ 0 := fun e => by have := nt X.a e; rw [X.a, Std_eq] at this; simpa using this
    have t1 : A.not (A.eq r2 0) = false → r2 = 0 := fun e => by have := nf X.a e; rw [X.a, Std_eq] at this; simpa using this
    have t2 : A.not (A.eq (A.len da) (A.len e1)) = true → args.length ≠ x.params.length := fun e => by have := nt X.a e; rw [X.a, Std_eq, hlen_da, hlen_e1] at this; intro e2; rw [hn_da, hn_e1, e2] at this; simp at this
    have t3 : A.not (A.eq (A.len da) (A.len e1)) = false → args.length = x.params.length := fun e => by have := nf X.a e; rw [X.a, Std_eq, hlen_da, hlen_e1, hn_da, hn_e1] at this; have : (Int.ofNat args.length) = Int.ofNat x.params.length := by simpa using this
                                                                                                        exact Int.ofNat.inj this
    have q1 : A.not (A.eq r2 0) = true → K (.bool (A.eq fr r2)) [] := fun e => by rw [if_pos (t0 e)] at j3; rw [j3, eqi]; exact h
    have q2 : A.not (A.eq r2 0) = false → A.not (A.eq (A.len da) (A.len e1)) = true → K (.bool (A.eq fr 11)) [] := fun e e2 => by rw [if_neg (by rw [t1 e]; simp), if_pos (t2 e2)] at j3; rw [j3, eqi]; exact h
    cbv
    repeat' (first | apply And.intro | exact fun (_ : False → False) => by kernel_rfl | (intro h2; cbv) | apply Or.inl)
    · exact q1 h2
    · rename_i g1; exact q2 g1 h2
    rename_i g1
    have h3 := t3 h2
    have h4 := t1 g1
    rw [if_neg (by rw [h4]; simp), if_neg (by rw [h3]; simp)] at j1 j2 j3
    clear q1 q2 t0 t1 t2 t3 g1 h2
    have j3 : fr = 0 := j3
    refine X.loopP (fun (y : Nat × D) => ⟨[(80, .int .i64 y.1), (79, .int .i64 (A.len e1)), (78, .lst 62 e1), (18, .row 9 3), (17, .int .i64 fr), (16, .box 2 0), (15, .box 1 0), (12, .box 0 0), (3, .lst 43 da)],
        [.box [.str e0, .lst 62 e1, .int .i64 e2, .str e3, .str e4, .lst 43 e5, .lst 105 e6, .int .i64 e7, .str e8, .str e9, .lst 43 e10, .lst 105 e11], .box [.int .i64 a0, .str a1, .str a2, .lst 43 a3, .lst 105 a4], .box [.int .i64 g0, .str g1, .str g2, .lst 43 g3, .lst 105 g4], .row 9 y.2 true]⟩)
      (fun y => y.1 ≤ n_e1 ∧ y.2 = encL encS ((x.params.take y.1).map (·.name))) (fun y => n_e1 - y.1) (0, .list []) ⟨Nat.zero_le _, rfl⟩ ?_ ?_
    · refine ⟨[0, 1, 2, 3], rfl, ?_⟩
      (cbv; repeat' apply And.intro); all_goals (try (first | trivial | rfl | (rw [X.a]; rfl)))
    rintro ⟨j, dn⟩ ⟨hj, hdn⟩
    simp only at hj hdn
    cbv
    refine ⟨fun h1 => ?_, fun h1 => ?_⟩
    · have h6 : j < x.params.length := by obtain rfl := X.a; simp only [hlen_e1, SD, bNot] at h1; omega
      have k5 := (pmIsAt X.a kp h6).1
      have hid : A.idx (Int.ofNat j) (A.len e1) := by rw [X.a, kp]; exact leaf_idx h6
      have hin : A.inr .i64 (A.add (Int.ofNat j) 1) := by rw [X.a]; exact leaf_inc h6 (by have := hxok.np; omega)
      have hb2 : A.bnd (A.add (A.len dn) (A.len (A.lit [[.str (A.asStr (A.cell e1 (Int.ofNat j) 0))]]))) 4294967296 := by
        rw [X.a, hdn, Std_len, Std_len_lit]; exact ⟨by rw [Std_add]; omega, by rw [Std_add]; have := hxok.np; simp only [List.length_cons, List.length_nil, List.length_map, List.length_take]; omega⟩
      have qn : A.app dn (A.lit [[.str (A.asStr (A.cell e1 (Int.ofNat j) 0))]]) = encL encS ((x.params.take (j+1)).map (·.name)) := by
        rw [k5, X.a, hdn, map_take h6]; exact Std_app (k := [x.params[j].name])
      clear h1
      cbv
      repeat' (first | apply And.intro | exact fun (_ : False → False) => by kernel_rfl | (intro h2; cbv) | apply Or.inl)
      any_goals exact hid
      any_goals exact hin
      any_goals exact hb2
      refine ⟨(j+1, _), ⟨?_, qn⟩, ?_, [0, 1, 2, 3], rfl, ?_⟩
      · simp only; omega
      · simp only; omega
      (cbv; repeat' apply And.intro); all_goals (try (first | trivial | rfl | (rw [X.a]; rfl)))
    have h6 : j = n_e1 := by obtain rfl := X.a; simp only [hlen_e1, SD, bNot] at h1; omega
    rw [h6, hn_e1, List.take_length] at hdn
    clear h1 hj
    have hnp : (x.params.map (·.name)).length ≤ 4294967295 := by rw [List.length_map]; exact hxok.np
    have s1 : Ty.le 4294967295 (x.lower.sub (x.params.map (·.name)) args) := sub_le hla _ hxok.lo
    have s2 : Ty.le 4294967295 (x.upper.sub (x.params.map (·.name)) args) := sub_le hla _ hxok.up
    subst j3
    have eq0 := eqi 0
    cbv
    repeat' (first | apply And.intro | exact fun (_ : False → False) => by kernel_rfl | (intro h2; cbv) | apply Or.inl | (refine X.call (F34c hdn hda hnp hna hxok.lo klo fun y0 y1 y2 y3 y4 hy => ?_); cbv) | (refine X.call (F34c hdn hda hnp hna hxok.up kup fun w0 w1 w2 w3 w4 hw2 => ?_); cbv) | (refine X.call (F25c s1 j1 hy fun b1 hb1 => ?_); cbv) | (refine X.call (F25c s2 j2 hw2 fun b2 hb2 => ?_); cbv))
    all_goals first
      | exact absurd (eq0.symm.trans h2) (by decide)
      | exact absurd ((same_self _).symm.trans (hb1.symm.trans h2)) (by decide)
      | exact absurd ((same_self _).symm.trans (hb2.symm.trans h2)) (by decide)
      | (have e : b2 = true := hb2.trans (same_self _); subst e; exact h)
      | trace_state
end Go.VC.T07
end

section
/- EnvironChains. -/
set_option linter.unusedSimpArgs false
set_option linter.unusedVariables false
namespace Go.VC
theorem endI_mono {env : List IF} : ∀ (k : Nat) (m n : S), endI env k m n ≠ .loop → endI env (k+1) m n = endI env k m n
  | 0, m, n, h => by exact absurd rfl h
  | k+1, m, n, h => by
    have ih := fun m n => endI_mono (env := env) k m n
    rw [endI]
    conv => rhs; rw [endI]
    conv at h => lhs; rw [endI]
    cases hl : look' env m n with
    | none => rfl
    | noali => rfl
    | typ x => rfl
    | val x => rfl
    | ali x =>
      rw [hl] at h
      exact ih _ _ h
theorem chain_ok {env : List IF} {p n : S} {x : AE} (hl : look' env p n = .ali x) {r0 r1 s0 s1 : S} {r2 s2 : Int} (hr : (r0, r1, r2) = resolveR env p n) (hs : (s0, s1, s2) = resolveR env x.module x.target) :
    (r2 = 0 → s2 = 0 ∧ s0 = r0 ∧ s1 = r1) ∧ (r2 = 6 → s2 ≠ 0) ∧ (r2 = 0 → ((typeR env p n).2.2 = 0 ∧ (valueR env p n).2.2 = 6 ∧ (typeR env p n).2.1 = r0) ∨ ((typeR env p n).2.2 = 6 ∧ (valueR env p n).2.2 = 0 ∧ (valueR env p n).2.1 = r0)) := by
  have e1 : endI env 65 p n = endI env 64 x.module x.target := by
    conv => lhs; rw [endI]
    rw [hl]
  have e2 := endI_mono (env := env) 64 x.module x.target
  unfold resolveR endO at hr hs
  unfold typeR valueR
  rw [e1] at hr ⊢
  cases he : endI env 64 x.module x.target with
  | loop => rw [he] at hr; simp only [Prod.mk.injEq] at hr; obtain ⟨rfl, rfl, rfl⟩ := hr; exact ⟨by simp, by simp, by simp⟩
  | nf =>
    rw [e2 (by rw [he]; simp), he] at hs
    rw [he] at hr
    simp only [Prod.mk.injEq] at hr hs; obtain ⟨rfl, rfl, rfl⟩ := hr; obtain ⟨rfl, rfl, rfl⟩ := hs; exact ⟨by simp, by simp, by simp⟩
  | typ a b c =>
    rw [e2 (by rw [he]; simp), he] at hs
    rw [he] at hr
    simp only [Prod.mk.injEq] at hr hs; obtain ⟨rfl, rfl, rfl⟩ := hr; obtain ⟨rfl, rfl, rfl⟩ := hs
    exact ⟨fun _ => ⟨rfl, rfl, rfl⟩, by simp, fun _ => .inl ⟨rfl, rfl, rfl⟩⟩
  | val a b c =>
    rw [e2 (by rw [he]; simp), he] at hs
    rw [he] at hr
    simp only [Prod.mk.injEq] at hr hs; obtain ⟨rfl, rfl, rfl⟩ := hr; obtain ⟨rfl, rfl, rfl⟩ := hs
    exact ⟨fun _ => ⟨rfl, rfl, rfl⟩, by simp, fun _ => .inr ⟨rfl, rfl, rfl⟩⟩
end Go.VC
namespace Go.VC.T07
open Go Go.VC Go.Proofs
theorem F37c {env : List IF} {d : D} {m n m' n' : S} {K : PV → List Ob → Prop} (hd : d = encL encIF env) (hl : envOk env) (hm : m' = m) (hn : n' = n) (h : ∀ r0 r1 r2, (r0, r1, r2) = resolveR env m n → K (.tup [.str r0, .str r1, .int .i64 r2]) []) :
    FC Tryz.prog tt 37 [] [.lst 31 d, .str m', .str n'] K := by subst hm hn; exact F37 hd hl h
theorem F33c {env : List IF} {d : D} {m n n' : S} {K : PV → List Ob → Prop} (hd : d = encL encIF env) (hl : envOk env) (hn : n' = n)
    (h : ∀ e0 e1 e2 e3 e4 e5 e6 e7 e8 e9 e10 e11 r1 r2, r1 = (typeR env m n).2.1 → r2 = (typeR env m n).2.2 → K (.tup [tePV e0 e1 e2 e3 e4 e5 e6 e7 e8 e9 e10 e11, .str r1, .int .i64 r2]) []) :
    FC Tryz.prog tt 33 [] [.lst 31 d, .str m, .str n'] K := by subst hn; exact F33 hd hl fun e0 e1 e2 e3 e4 e5 e6 e7 e8 e9 e10 e11 r1 r2 _ => h e0 e1 e2 e3 e4 e5 e6 e7 e8 e9 e10 e11 r1 r2
theorem F41c {env : List IF} {d : D} {m n n' : S} {K : PV → List Ob → Prop} (hd : d = encL encIF env) (hl : envOk env) (hn : n' = n)
    (h : ∀ e0 e1 e2 e3 e4 e5 e6 r1 r2, r1 = (valueR env m n).2.1 → r2 = (valueR env m n).2.2 → K (.tup [vePV e0 e1 e2 e3 e4 e5 e6, .str r1, .int .i64 r2]) []) :
    FC Tryz.prog tt 41 [] [.lst 31 d, .str m, .str n'] K := by subst hn; exact F41 hd hl fun e0 e1 e2 e3 e4 e5 e6 r1 r2 _ => h e0 e1 e2 e3 e4 e5 e6 r1 r2
set_option maxRecDepth 100000 in
set_option maxHeartbeats 4000000 in
theorem F9 {env : List IF} {d : D} {p : S} {K : PV → List Ob → Prop} (hd : d = encL encIF env) (hl : envOk env) (hw : (env.map IF.wt).sum ≤ 4294967280) (h : K (.bool true) []) : FC Tryz.prog tt 9 [] [.lst 31 d, .str p] K := by
  refine FC.enter (G := g9) tt_ok mixed ⟨Tryz.func9, by rfl, rfl⟩ rfl rfl rfl ?_
  intro A C L X
  have eqi : ∀ z : Int, A.eq z z = true := fun z => by rw [X.a]; simp [Std_eq]
  have eqs : ∀ z : S, A.seq z z = true := fun z => by rw [X.a]; simp [Std_seq]
  cbv
  refine X.call (F10 ?_)
  cbv
  repeat' (first | apply And.intro | exact fun (_ : False → False) => by kernel_rfl | (intro h2; cbv) | apply Or.inl)
  · obtain rfl := X.a; exact absurd h2 (by decide)
  refine X.call (F11 hd hl hw fun r hr => ?_)
  cbv
  repeat' (first | apply And.intro | exact fun (_ : False → False) => by kernel_rfl | (intro h2; cbv) | apply Or.inl)
  · exact h
  refine X.call (F12 hd hl rfl fun c0 c1 c2 c3 c4 z k1 k2 => ?_)
  clear k2
  obtain ⟨i, hi⟩ : ∃ i, i = (findI env p).getD IF.zero := ⟨_, rfl⟩
  have hiok : i.ok := by
    rw [hi]
    cases hf : findI env p with
    | none => exact zero_ok
    | some i => exact findI_ok hl hf
  have hlk : ∀ n, i.aliases ≠ [] → look' env p n = lookI i n := fun n hne => by
    unfold look'
    cases hf : findI env p with
    | none => rw [hf] at hi; exact absurd (by rw [hi]; rfl) hne
    | some j => rw [hf] at hi; rw [hi]; rfl
  rw [← hi] at k1
  obtain ⟨j0, j1, j2, j3, j4⟩ := id k1
  obtain ⟨n_c3, hn_c3⟩ : ∃ n, n = (i.aliases).length := ⟨_, rfl⟩
  have hlen_c3 : Std.len c3 = Int.ofNat n_c3 := by rw [j3, Std_len, hn_c3]; rfl
  cbv
  refine X.loop (fun (y : Nat) => ⟨[(41, .int .i64 y), (40, .int .i64 (A.len c3)), (39, .lst 72 c3), (0, .lst 31 d), (1, .str p), (5, .box 0 0)], [.box [.str c0, .lst 58 c1, .lst 76 c2, .lst 72 c3, .lst 87 c4]]⟩)
    (fun y => y ≤ n_c3) (fun y => n_c3 - y) 0 (Nat.zero_le _) ?_ ?_
  · (cbv; repeat' apply And.intro); all_goals (try (first | trivial | rfl | (rw [X.a]; rfl)))
  intro y hy
  cbv
  refine ⟨fun h1 => ?_, fun h1 => ?_⟩
  · have h5 : y < i.aliases.length := by obtain rfl := X.a; simp only [hlen_c3, SD, bNot] at h1; omega
    obtain ⟨a0, a1, a2⟩ := aeIsAt X.a j3 h5
    have hid : A.idx (Int.ofNat y) (A.len c3) := by rw [X.a, j3]; exact leaf_idx h5
    have hin : A.inr .i64 (A.add (Int.ofNat y) 1) := by rw [X.a]; exact leaf_inc h5 (by have := hiok.na; omega)
    have hne : i.aliases ≠ [] := fun e => by rw [e] at h5; simp at h5
    obtain ⟨x, hx⟩ : ∃ x, x = i.aliases[y] := ⟨_, rfl⟩
    rw [← hx] at a0 a1 a2
    clear h1
    cbv
    repeat' (first | apply And.intro | exact fun (_ : False → False) => by kernel_rfl | (intro h2; cbv) | apply Or.inl)
    any_goals exact hid
    refine X.call (F38 k1 hiok.nt a0 fun t0 t1 t2 t3 t4 t5 t6 t7 t8 t9 t10 t11 v1 _ hv1 => ?_)
    cbv
    refine X.call (F39 k1 hiok.nv a0 fun w0 w1 w2 w3 w4 w5 w6 v2 _ hv2 => ?_)
    cbv
    refine X.call (F40 k1 hiok.na a0 fun y0 y1 y2 v3 hy3 _ => ?_)
    have hcell : A.not (A.ite (A.seq y0 (A.asStr (A.cell c3 (Int.ofNat y) 0))) (A.ite (A.seq y1 (A.asStr (A.cell c3 (Int.ofNat y) 1))) (A.ite (A.seq y2 (A.asStr (A.cell c3 (Int.ofNat y) 2))) true false) false) false) = false → i.aliases.find? (fun y => y.name == x.name) = some x := by
      intro e
      have e := nf X.a e
      rw [a0, a1, a2, X.a] at e
      simp only [Std_ite, Std_seq] at e
      have e : y0 = x.name ∧ y1 = x.module ∧ y2 = x.target := by simpa using e
      cases hf : i.aliases.find? (fun y => y.name == x.name) with
      | none =>
        rw [List.find?_eq_none] at hf
        exact absurd (hf x (by rw [hx]; exact List.getElem_mem h5)) (by simp)
      | some x' =>
        rw [hf] at hy3
        obtain ⟨b0, b1, b2⟩ := hy3
        have b0 : y0 = x'.name := b0
        have b1 : y1 = x'.module := b1
        have b2 : y2 = x'.target := b2
        exact congrArg some (AE.ext1 (b0.symm.trans e.1) (b1.symm.trans e.2.1) (b2.symm.trans e.2.2))
    have hnn : v1 = false → v2 = false → i.aliases.find? (fun y => y.name == x.name) = some x → look' env p x.name = .ali x := by
      intro e1 e2 e3
      rw [hlk _ hne]
      unfold lookI
      rw [e1] at hv1; rw [e2] at hv2
      have h1 : i.types.find? (fun y => y.name == x.name) = none := by
        cases hf : i.types.find? (fun y => y.name == x.name) with
        | none => rfl
        | some _ => rw [hf] at hv1; cases hv1
      have h2 : i.values.find? (fun y => y.name == x.name) = none := by
        cases hf : i.values.find? (fun y => y.name == x.name) with
        | none => rfl
        | some _ => rw [hf] at hv2; cases hv2
      rw [h1, h2, e3]
    clear hv1 hv2 hy3
    cbv
    repeat' (first | apply And.intro | exact fun (_ : False → False) => by kernel_rfl | (intro h2; cbv) | apply Or.inl)
    any_goals exact hin
    any_goals (refine ⟨y+1, by omega, by omega, ?_⟩; (cbv; repeat' apply And.intro); all_goals (try (first | trivial | rfl | (rw [X.a]; rfl))); done)
    rename_i g1 g2
    have hal := hnn g1 g2 (hcell h2)
    clear hcell hnn g1 g2 h2
    refine X.call (F37c hd hl rfl a0 fun r0 r1 r2 h3 => ?_)
    cbv
    refine X.call (F37c hd hl a1 a2 fun s0 s1 s2 h4 => ?_)
    obtain ⟨f1, f2, f3⟩ := chain_ok hal h3 h4
    clear h3 h4 hal
    by_cases hz : r2 = 0
    · obtain ⟨rfl, rfl, rfl⟩ := f1 hz
      replace f3 := f3 hz
      subst hz
      clear f1 f2
      have q0 : A.eq 0 0 = true := eqi 0
      have q1 : A.not (A.eq 0 0) = false := by rw [q0, X.a]; rfl
      have q2 : ∀ z : S, A.not (A.seq z z) = false := fun z => by rw [eqs, X.a]; rfl
      have q6 : A.eq 0 6 = false := by rw [X.a]; rfl
      have q7 : A.eq 6 0 = false := by rw [X.a]; rfl
      have q8 : A.beq (A.eq 0 0) (A.eq 6 0) = false := by rw [q0, q7, X.a]; rfl
      have q9 : A.beq (A.eq 6 0) (A.eq 0 0) = false := by rw [q0, q7, X.a]; rfl
      cbv
      repeat' (first | apply And.intro | exact fun (_ : False → False) => by kernel_rfl | (intro h2; first | exact absurd ((q0).symm.trans h2) (by decide) | exact absurd ((q1).symm.trans h2) (by decide) | exact absurd ((q2 _).symm.trans h2) (by decide) | exact absurd ((q6).symm.trans h2) (by decide) | cbv) | apply Or.inl)
      refine X.call (F33c hd hl a0 fun e0 e1 e2 e3 e4 e5 e6 e7 e8 e9 e10 e11 m1 m2 hm1 hm2 => ?_)
      cbv
      refine X.call (F41c hd hl a0 fun e0 e1 e2 e3 e4 e5 e6 o1 o2 ho1 ho2 => ?_)
      rcases f3 with ⟨b1, b2, b3⟩ | ⟨b1, b2, b3⟩
      · obtain rfl := hm2.trans b1
        obtain rfl := ho2.trans b2
        obtain rfl := hm1.trans b3
        cbv
        repeat' (first | apply And.intro | exact fun (_ : False → False) => by kernel_rfl | (intro h2; first | exact absurd ((q0).symm.trans h2) (by decide) | exact absurd ((q1).symm.trans h2) (by decide) | exact absurd ((q2 _).symm.trans h2) (by decide) | exact absurd ((q6).symm.trans h2) (by decide) | exact absurd ((q7).symm.trans h2) (by decide) | exact absurd ((q8).symm.trans h2) (by decide) | exact absurd ((q9).symm.trans h2) (by decide) | cbv) | apply Or.inl)
        any_goals exact hin
        any_goals (refine ⟨y+1, by omega, by omega, ?_⟩; (cbv; repeat' apply And.intro); all_goals (try (first | trivial | rfl | (rw [X.a]; rfl))); done)
      · obtain rfl := hm2.trans b1
        obtain rfl := ho2.trans b2
        obtain rfl := ho1.trans b3
        cbv
        repeat' (first | apply And.intro | exact fun (_ : False → False) => by kernel_rfl | (intro h2; first | exact absurd ((q0).symm.trans h2) (by decide) | exact absurd ((q1).symm.trans h2) (by decide) | exact absurd ((q2 _).symm.trans h2) (by decide) | exact absurd ((q6).symm.trans h2) (by decide) | exact absurd ((q7).symm.trans h2) (by decide) | exact absurd ((q8).symm.trans h2) (by decide) | exact absurd ((q9).symm.trans h2) (by decide) | cbv) | apply Or.inl)
        any_goals exact hin
        any_goals (refine ⟨y+1, by omega, by omega, ?_⟩; (cbv; repeat' apply And.intro); all_goals (try (first | trivial | rfl | (rw [X.a]; rfl))); done)
    · have n0 : A.eq r2 0 = false := by rw [X.a, Std_eq]; simpa using hz
      have n1 : A.not (A.eq r2 0) = true := by rw [n0, X.a]; rfl
      have n6 : A.eq r2 6 = true → A.eq s2 0 = false := fun e => by
        rw [X.a, Std_eq] at e ⊢
        have := f2 (by simpa using e)
        simpa using this
      clear f1 f2 f3
      by_cases h6 : A.eq r2 6 = true
      · have n7 := n6 h6
        have n8 : A.not (A.eq s2 0) = true := by rw [n7, X.a]; rfl
        cbv
        repeat' (first | apply And.intro | exact fun (_ : False → False) => by kernel_rfl | (intro h2; first | exact absurd ((n0).symm.trans h2) (by decide) | exact absurd ((n1).symm.trans h2) (by decide) | exact absurd ((n7).symm.trans h2) (by decide) | exact absurd ((n8).symm.trans h2) (by decide) | exact absurd ((h6).symm.trans h2) (by decide) | cbv) | apply Or.inl)
        any_goals exact hin
        any_goals (refine ⟨y+1, by omega, by omega, ?_⟩; (cbv; repeat' apply And.intro); all_goals (try (first | trivial | rfl | (rw [X.a]; rfl))); done)
      · have h6 : A.eq r2 6 = false := by simpa using h6
        cbv
        repeat' (first | apply And.intro | exact fun (_ : False → False) => by kernel_rfl | (intro h2; first | exact absurd ((n0).symm.trans h2) (by decide) | exact absurd ((n1).symm.trans h2) (by decide) | exact absurd ((h6).symm.trans h2) (by decide) | cbv) | apply Or.inl)
        any_goals exact hin
        any_goals (refine ⟨y+1, by omega, by omega, ?_⟩; (cbv; repeat' apply And.intro); all_goals (try (first | trivial | rfl | (rw [X.a]; rfl))); done)
  · cbv
    exact h
end Go.VC.T07
end
