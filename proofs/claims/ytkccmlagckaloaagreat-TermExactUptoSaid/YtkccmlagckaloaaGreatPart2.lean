/- Part 2 of the common texts: EB EC ED EE E12a E12b E12c E13 E14 EP ER. -/
import Derived.Laws.AppendOwn
import Derived.Laws.IdiomRangeMap
import Derived.Orders
import Derived.Laws.StructEq
import Derived.ChangeArms
import Derived.ChangeShapes
import Derived.ChangeSame
import Derived.Carry
import Derived.JoinedCond
import Derived.Test.YtkccmlagckaloaaGreatPart1
set_option linter.all false

section
/- The engine, part B: append. -/
namespace Go.VC
open Go

section
variable {P : Program} {tt : TypeId → Option TI} {N : Nat} {B : Base} {E : List RI} {Pp : Per} {objs : List Ob} {w : World} {st : St} {a : Act} {keep : List FuncId}

/-- The rows that a slice value holds, cell by cell. -/
structure Reads (tt : TypeId → Option TI) (Pp : Per) (w : World) (e : TypeId) (x : Value) (rows : List (List D)) (news : List Value) : Prop where
  len : news.length = rows.length * (cksOf tt e).length
  shape : (∃ ba : Option Addr, x = .slice ba 0 0 ∧ rows = []) ∨ ∃ b o c, x = .slice (some ⟨b, o, none⟩) rows.length c ∧ rows.length ≤ c ∧ ∀ (j : Nat) u, news[j]? = some u → w.cell? ⟨b, o + j, none⟩ = some u
  rd : ∀ (k : Nat) (row : List D), rows[k]? = some row → row.length = (cksOf tt e).length ∧ ∀ (j : Nat) (d : D) (ck : CK), row[j]? = some d → (cksOf tt e)[j]? = some ck →
    ∃ v, news[k * (cksOf tt e).length + j]? = some v ∧ RD tt Pp ck v d

theorem RD.one {c : CK} {v : Value} {d : D} (h : RD tt Pp c v d) : v.oneCell' = true := by cases h <;> rfl

theorem div_mod_lt {x n S : Nat} (h : x < n * S) : x / S < n ∧ x % S < S ∧ x / S * S + x % S = x := by
  have hS : 0 < S := by
    rcases Nat.eq_zero_or_pos S with h0 | h0
    · subst h0; simp at h
    · exact h0
  refine ⟨by rw [Nat.div_lt_iff_lt_mul hS]; exact h, Nat.mod_lt _ hS, ?_⟩
  rw [Nat.mul_comm]; exact Nat.div_add_mod x S

theorem Reads.one {e : TypeId} {x : Value} {rows : List (List D)} {news : List Value} (h : Reads tt Pp w e x rows news) : ∀ u ∈ news, u.oneCell' = true := by
  intro u hu
  obtain ⟨p, hp⟩ := List.getElem?_of_mem hu
  have hlt := lt_of_get hp
  rw [h.len] at hlt
  obtain ⟨h1, h2, h3⟩ := div_mod_lt hlt
  obtain ⟨e1, e2⟩ := h.rd _ _ (List.getElem?_eq_getElem h1)
  obtain ⟨v, hv, hr⟩ := e2 _ _ _ (List.getElem?_eq_getElem (by omega)) (List.getElem?_eq_getElem h2)
  rw [h3, hp] at hv
  cases hv
  exact hr.one

theorem Reads.of_rd {e : TypeId} {v : Value} {d : D} (hw : WR tt E Pp objs w) (h : RD tt Pp (.slice e) v d) : ∃ rows news, d = .list rows ∧ Reads tt Pp w e v rows news := by
  cases h with
  | slnil => exact ⟨[], [], rfl, by simp, .inl ⟨none, rfl, rfl⟩, fun k row h => by simp at h⟩
  | sl0 _ ad => exact ⟨[], [], rfl, by simp, .inl ⟨some ad, rfl, rfl⟩, fun k row h => by simp at h⟩
  | sl _ b o len cap rows vf hl hc hrow hpi hrd =>
    refine ⟨rows, (List.range (rows.length * (cksOf tt e).length)).map (fun x => vf (x / (cksOf tt e).length) (x % (cksOf tt e).length)), rfl, by simp, .inr ⟨b, o, cap, by rw [hl], by omega, ?_⟩, ?_⟩
    · intro j u hj
      have hlt := lt_of_get hj
      simp at hlt
      obtain ⟨h1, h2, h3⟩ := div_mod_lt hlt
      simp only [List.getElem?_map, List.getElem?_range hlt, Option.map_some, Option.some.injEq] at hj
      subst hj
      have := hw.pi _ _ (hpi (j / (cksOf tt e).length) (j % (cksOf tt e).length) (by rw [← hl]; exact h1) h2)
      rwa [Nat.add_assoc, h3] at this
    · intro k row hk
      refine ⟨hrow k row hk, fun j d ck hj hck => ⟨vf k j, ?_, hrd k j row d ck hk hj hck⟩⟩
      have hjl := lt_of_get hck
      have hkl := lt_of_get hk
      have hlt := mul_lt_of hkl hjl
      simp only [List.getElem?_map, List.getElem?_range hlt, Option.map_some, Option.some.injEq]
      have e1 : (k * (cksOf tt e).length + j) / (cksOf tt e).length = k := by
        rw [Nat.mul_comm, Nat.mul_add_div (by omega)]; simp [Nat.div_eq_of_lt hjl]
      have e2 : (k * (cksOf tt e).length + j) % (cksOf tt e).length = j := by
        rw [Nat.mul_comm, Nat.mul_add_mod]; exact Nat.mod_eq_of_lt hjl
      rw [e1, e2]

theorem RowAt.reads {e : TypeId} {vs : List Value} {o len : Nat} {rows : List (List D)} (h : RowAt tt Pp e vs o rows) (hl : rows.length = len) (hsz : o + len * (cksOf tt e).length ≤ vs.length) :
    ((vs.drop o).take (len * (cksOf tt e).length)).length = rows.length * (cksOf tt e).length ∧ ∀ (k : Nat) (row : List D), rows[k]? = some row → row.length = (cksOf tt e).length ∧ ∀ (j : Nat) (d : D) (ck : CK), row[j]? = some d → (cksOf tt e)[j]? = some ck →
    ∃ v, ((vs.drop o).take (len * (cksOf tt e).length))[k * (cksOf tt e).length + j]? = some v ∧ RD tt Pp ck v d := by
  refine ⟨by rw [hl]; simp; omega, fun k row hk => ?_⟩
  obtain ⟨e1, e2⟩ := h k row hk
  refine ⟨e1, fun j d ck hj hck => ?_⟩
  obtain ⟨v, hv, hr⟩ := e2 j d ck hj hck
  have hjl := lt_of_get hck
  have hkl := lt_of_get hk
  have hlt := mul_lt_of hkl hjl
  refine ⟨v, ?_, hr⟩
  rw [List.getElem?_take_of_lt (by rw [← hl]; exact hlt), List.getElem?_drop]
  rw [show o + (k * (cksOf tt e).length + j) = o + k * (cksOf tt e).length + j by omega]
  exact hv

theorem Reads.of_src {K : TypeId → D → Prop} (hw : WR tt E Pp objs w) {v : Value} {p : PV} (hv : VR tt E Pp v p) (h : srcD objs p K) : ∃ e rows news, K e (.list rows) ∧ Reads tt Pp w e v rows news := by
  unfold srcD at h
  split at h
  · cases hv with
    | lst e _ _ hr =>
      obtain ⟨rows, news, rfl, hR⟩ := Reads.of_rd hw hr
      exact ⟨_, rows, news, h, hR⟩
  · rename_i e r
    split at h
    · rename_i e' d wr ho
      cases hb : nb e e' with
      | false => rw [hb] at h; exact h.elim
      | true =>
        rw [hb] at h
        have := nb_of hb; subst this
        have ho' := getO_live ho rfl
        obtain ⟨ri, hri, hor⟩ := hw.ob r _ ho' rfl
        cases hv with
        | row0 _ _ hE =>
          rw [hE] at hri; cases hri
          have : d = .list [] := hor
          subst this
          exact ⟨_, [], [], h, by simp, .inl ⟨none, rfl, rfl⟩, fun k row h => by simp at h⟩
        | row _ _ g o len cap hE =>
          rw [hE] at hri; cases hri
          obtain ⟨vs, T, rows, hg, rfl, hl, hcap, hsz, hrow, _, _⟩ := hor
          have hle : len * (cksOf tt e).length ≤ cap * (cksOf tt e).length := Nat.mul_le_mul_right _ hcap
          obtain ⟨h1, h2⟩ := hrow.reads hl (by omega)
          refine ⟨_, rows, (vs.drop o).take (len * (cksOf tt e).length), h, h1, .inr ⟨g, o, cap, by rw [hl], by omega, ?_⟩, h2⟩
          intro j u hj
          have hlt := lt_of_get hj
          rw [h1, hl] at hlt
          rw [List.getElem?_take_of_lt hlt, List.getElem?_drop] at hj
          rw [cell_of_block hg]; exact hj
    · exact h.elim
  · exact h.elim

theorem Reads.first {e : TypeId} {x : Value} {rows : List (List D)} {news : List Value} (h : Reads tt Pp w e x rows news) {w' : World} (hh : w'.heap = w.heap) :
    (Builtin.lenOf x).run P w' = .ok rows.length w' ∧ (Builtin.firstCells (cksOf tt e).length rows.length x).run P w' = .ok news.toArray w' := by
  rcases h.shape with ⟨ba, rfl, rfl⟩ | ⟨b, o, c, rfl, hc, hcell⟩
  · have hl := h.len
    simp at hl
    subst hl
    cases ba with
    | none => exact ⟨by simp [Builtin.lenOf], by simp [Builtin.firstCells]⟩
    | some ad => exact ⟨by simp [Builtin.lenOf], run_firstCells_some (P := P) w' _ _ _ _ _ [] (by simp) (fun j u hj => by simp at hj)⟩
  · refine ⟨by simp [Builtin.lenOf], run_firstCells_some (P := P) w' _ _ _ _ _ news h.len ?_⟩
    intro j u hj
    rw [add_none]
    have := hcell j u hj
    rw [← this]
    simp [World.cell?, hh]

/-- append: there is room -/
theorem append_room {t1 t2 ty e : TypeId} {i1 i2 ei : TI} (h1 : tt t1 = some i1) (h2 : tt t2 = some i2) (he1 : sliceEl i1 = some e) (he2 : sliceEl i2 = some e) (hei : tt e = some ei) (htt : TtOk P tt)
    {x : Value} {rows : List (List D)} {news : List Value} (hR : Reads tt Pp w e x rows news) {g o n cap : Nat} {cur : List Value} {T : TypeId} (hg : w.heap[g]? = some (.cells ⟨cur⟩ T (0, 0)))
    (hroom : n + rows.length ≤ cap) (hfit : o + n * (cksOf tt e).length + news.length ≤ cur.length) :
    (Builtin.append_ #[t1, t2] ty #[.slice (some ⟨g, o, none⟩) n cap, x]).run P w = .ok (.slice (some ⟨g, o, none⟩) (n + rows.length) cap) (w.setRow g ⟨cur.take (o + n * (cksOf tt e).length) ++ news ++ cur.drop (o + n * (cksOf tt e).length + news.length)⟩) := by
  obtain ⟨hu1, _, _⟩ := (htt _ _ h1).slice he1
  obtain ⟨hu2, _, _⟩ := (htt _ _ h2).slice he2
  have hcks : cksOf tt e = ei.cks := by simp [cksOf, hei]
  obtain ⟨_, hs2, _, _⟩ := (htt _ _ hei).run w
  rw [← hcks] at hs2
  obtain ⟨f1, f2⟩ := hR.first (P := P) (w' := w) rfl
  have hst := run_storeCells_at P g (o + n * (cksOf tt e).length) T news 0 ⟨cur⟩ w hg (by simpa using hfit) hR.one
  simp only [Nat.add_zero] at hst
  simp [Builtin.append_, run_underlying hu1, run_underlying hu2, hs2, f1, hroom, f2, add_none, hst]

/-- append: there is none -/
theorem append_grow {t1 t2 ty e : TypeId} {i1 i2 ei : TI} (h1 : tt t1 = some i1) (h2 : tt t2 = some i2) (he1 : sliceEl i1 = some e) (he2 : sliceEl i2 = some e) (hei : tt e = some ei) (htt : TtOk P tt)
    {x y : Value} {rows olds : List (List D)} {news oldc : List Value} (hR : Reads tt Pp w e x rows news) (hO : Reads tt Pp w e y olds oldc) {base : Option Addr} {cap : Nat} (hy : y = .slice base olds.length cap) (hcap : olds.length ≤ cap)
    (hg : cap < olds.length + rows.length) (h63 : olds.length + rows.length ≤ 4294967296) (hb : ei.bytes ≤ 1024) :
    ∃ (nc : Nat) (zs : List Value), olds.length + rows.length ≤ nc ∧ zs.length = (nc - (olds.length + rows.length)) * (cksOf tt e).length ∧
    (Builtin.append_ #[t1, t2] ty #[y, x]).run P w = .ok (.slice (some ⟨w.heap.size, 0, none⟩) (olds.length + rows.length) nc) (w.drew.alloc (.cells ⟨oldc ++ news ++ zs⟩ e)) := by
  obtain ⟨hu1, _, _⟩ := (htt _ _ h1).slice he1
  obtain ⟨hu2, _, _⟩ := (htt _ _ h2).slice he2
  have hcks : cksOf tt e = ei.cks := by simp [cksOf, hei]
  obtain ⟨i, z, d, hi, hsz, hby, hz, hzc, _⟩ := (htt _ _ hei).info
  rw [← hcks] at hsz
  have hzl : z.cells.size = (cksOf tt e).length := by rw [← Array.length_toList, hzc, hcks]; simp
  obtain ⟨f1, _⟩ := hR.first (P := P) (w' := w) rfl
  obtain ⟨_, f2⟩ := hR.first (P := P) (w' := w.drew) rfl
  obtain ⟨_, f3⟩ := hO.first (P := P) (w' := w.drew) rfl
  have hno : ¬ (olds.length + rows.length ≤ cap) := by omega
  have hle : (olds.length + rows.length) * i.bytes ≤ 4294967296 * 1024 := Nat.mul_le_mul h63 (by omega)
  have hfits := growslice_fits (need := olds.length + rows.length) (old := cap) (bytes := i.bytes) (by omega) (by omega)
  have h48' : ¬ (281474976710656 < Builtin.nextslicecap (olds.length + rows.length) cap * i.bytes) := by omega
  have h63' : ¬ (9223372036854775807 < ((olds.length : Int) + (rows.length : Int))) := by omega
  refine ⟨grownCap w (olds.length + rows.length) cap e, (Builtin.zeroCells z.cells (grownCap w (olds.length + rows.length) cap e - (olds.length + rows.length))).toList, grownCap_ge _ _ _ _, by simp [Builtin.zeroCells, hzl], ?_⟩
  subst hy
  simp [Builtin.append_, run_underlying hu1, run_underlying hu2, sizeOf, typeInfo, zeroValue, hi, hz, hsz, f1, hno, h63', h48', Question.forced, f2, f3, newRow, grownCap]
  congr 2
  apply Array.ext'
  simp [List.append_assoc]

theorem append_nilroom {t1 t2 ty e : TypeId} {i1 i2 ei : TI} (h1 : tt t1 = some i1) (h2 : tt t2 = some i2) (he1 : sliceEl i1 = some e) (he2 : sliceEl i2 = some e) (hei : tt e = some ei) (htt : TtOk P tt)
    {x : Value} {news : List Value} (hR : Reads tt Pp w e x [] news) {base : Option Addr} {n cap : Nat} (hroom : n ≤ cap) :
    (Builtin.append_ #[t1, t2] ty #[.slice base n cap, x]).run P w = .ok (.slice base n cap) w := by
  obtain ⟨hu1, _, _⟩ := (htt _ _ h1).slice he1
  obtain ⟨hu2, _, _⟩ := (htt _ _ h2).slice he2
  have hcks : cksOf tt e = ei.cks := by simp [cksOf, hei]
  obtain ⟨_, hs2, _, _⟩ := (htt _ _ hei).run w
  rw [← hcks] at hs2
  obtain ⟨f1, f2⟩ := hR.first (P := P) (w' := w) rfl
  have hl := hR.len
  simp at hl
  subst hl
  simp only [List.length_nil] at f1 f2
  cases base with
  | none => simp [Builtin.append_, run_underlying hu1, run_underlying hu2, hs2, f1, hroom, f2]
  | some b => simp [Builtin.append_, run_underlying hu1, run_underlying hu2, hs2, f1, hroom, f2, storeCells]

theorem WR.drewed (h : WR tt E Pp objs w) : WR tt E Pp objs w.drew :=
  h.frame (fun _ _ => rfl) (fun _ _ h => h) (fun _ _ h => .inl h) (fun ad v hv => h.pi ad v hv)

/-- rows behind rows -/
theorem cat_rd {e : TypeId} {olds rows : List (List D)} {oldc news zs : List Value} (hol : oldc.length = olds.length * (cksOf tt e).length)
    (ho : ∀ (k : Nat) (row : List D), olds[k]? = some row → row.length = (cksOf tt e).length ∧ ∀ (j : Nat) (d : D) (ck : CK), row[j]? = some d → (cksOf tt e)[j]? = some ck → ∃ v, oldc[k * (cksOf tt e).length + j]? = some v ∧ RD tt Pp ck v d)
    (hnl : news.length = rows.length * (cksOf tt e).length)
    (hn : ∀ (k : Nat) (row : List D), rows[k]? = some row → row.length = (cksOf tt e).length ∧ ∀ (j : Nat) (d : D) (ck : CK), row[j]? = some d → (cksOf tt e)[j]? = some ck → ∃ v, news[k * (cksOf tt e).length + j]? = some v ∧ RD tt Pp ck v d) :
    ∀ (k : Nat) (row : List D), (olds ++ rows)[k]? = some row → row.length = (cksOf tt e).length ∧ ∀ (j : Nat) (d : D) (ck : CK), row[j]? = some d → (cksOf tt e)[j]? = some ck → ∃ v, (oldc ++ news ++ zs)[k * (cksOf tt e).length + j]? = some v ∧ RD tt Pp ck v d := by
  intro k row hk
  rcases app_get hk with ⟨hlt, h1⟩ | ⟨k', rfl, h1⟩
  · obtain ⟨e1, e2⟩ := ho k row h1
    refine ⟨e1, fun j d ck hj hck => ?_⟩
    obtain ⟨v, hv, hr⟩ := e2 j d ck hj hck
    exact ⟨v, app_left (app_left hv), hr⟩
  · obtain ⟨e1, e2⟩ := hn k' row h1
    refine ⟨e1, fun j d ck hj hck => ?_⟩
    obtain ⟨v, hv, hr⟩ := e2 j d ck hj hck
    refine ⟨v, app_left ?_, hr⟩
    rw [show (olds.length + k') * (cksOf tt e).length + j = oldc.length + (k' * (cksOf tt e).length + j) by rw [hol, Nat.add_mul]; omega]
    exact app_right hv

theorem resolve_append {o : Oper} {x y : Operand} {t1 t2 : TypeId} {as : Array Operand} {ts : Array TypeId} (hop : o.op = .call { callee := .builtin .append, args := as, argTypes := ts }) (has : as.toList = [x, y]) (hts : ts.toList = [t1, t2]) {v : Value} {w' : World}
    (h : (Builtin.append_ #[t1, t2] o.type #[a.eval x, a.eval y]).run P w = .ok v w') : (execOp a.eval o).run P w = .ok (.value v) w' := by
  obtain rfl : as = #[x, y] := by cases as; simp at has; simp [has]
  obtain rfl : ts = #[t1, t2] := by cases ts; simp at hts; simp [hts]
  simp [execOp, hop, resolve, invoke, builtin, h]

/-- append onto a list without room -/
theorem append_lsf_ok (htt : TtOk P tt) (h : SimW tt B E Pp st.o w) (hs : ∀ t, VR tt E Pp (a.tmps.getD t undef) (look st.s t)) {o : Oper} {x y : Operand} {t1 t2 e : TypeId} {as : Array Operand} {ts : Array TypeId}
    (hop : o.op = .call { callee := .builtin .append, args := as, argTypes := ts }) (has : as.toList = [x, y]) (hts : ts.toList = [t1, t2])
    {i1 i2 ei : TI} (h1 : tt t1 = some i1) (h2 : tt t2 = some i2) (he1 : sliceEl i1 = some e) (he2 : sliceEl i2 = some e) (hei : tt e = some ei) (hb : ei.bytes ≤ 1024)
    {rows : List (List D)} {news : List Value} (hR : Reads tt Pp w e (a.eval y) rows news) {d : D} (hx : VR tt E Pp (a.eval x) (.lsf e d))
    (hlen : std.len d + rows.length ≤ 4294967296) {K : PV → St → Prop}
    (hK : (0 < rows.length ∧ K (.row e (lenL st.o)) ⟨st.s, appL st.o [.row e (std.app d (.list rows)) true]⟩) ∨ K (.lst e (std.app d (.list rows))) st)
    {Q : Exit → Act → World → Prop} : o.wp P a w (Post tt B keep E Pp st.o w o a K) Q := by
  have hop' := @resolve_append P w a o x y t1 t2 as ts hop has hts
  generalize hgx : a.eval x = vx at hx hop'
  cases hx with
  | lsf _ base n _ hr =>
    obtain ⟨olds, oldc, rfl, hO⟩ := Reads.of_rd h.wr hr
    have hn : n = olds.length := by
      rcases hO.shape with ⟨_, he, h0⟩ | ⟨b, o', c, he, _⟩
      · cases he; simp [h0]
      · cases he; rfl
    subst hn
    by_cases h0 : rows = []
    · subst h0
      rcases hK with ⟨hp, _⟩ | hK
      · simp at hp
      · have hrun := append_nilroom (ty := o.type) (n := olds.length) (cap := olds.length) (base := base) h1 h2 he1 he2 hei htt hR (Nat.le_refl _)
        refine wp_val (hop' hrun) ?_
        refine Post.mk (s' := st.s) (o' := st.o) (.lst _ _ _ ?_) hs h hK (fun _ ad v hv => hv)
        simpa [rowsD] using hr
    · have hpos : 0 < rows.length := List.length_pos_iff.2 h0
      obtain ⟨nc, zs, hnc, hzl, hrun⟩ := append_grow (ty := o.type) h1 h2 he1 he2 hei htt hR hO rfl (Nat.le_refl _) (by omega) (by simp [rowsD] at hlen; omega) hb
      have hrd := cat_rd (zs := zs) hO.len hO.rd hR.len hR.rd
      have hd : SimW tt B E Pp st.o w.drew := h.drew
      have hbk : ∀ k, k < w.heap.size → (w.drew.alloc (.cells ⟨oldc ++ news ++ zs⟩ e)).heap[k]? = w.heap[k]? := fun k hk => RowKit.Below.heap_alloc w.drew _ k hk
      have hsz : (oldc ++ news ++ zs).length = nc * (cksOf tt e).length := by
        simp only [List.length_append, hO.len, hR.len, hzl, ← Nat.add_mul]
        congr 1; omega
      refine wp_val (hop' hrun) ?_
      rcases hK with ⟨_, hK⟩ | hK
      · rw [appL_eq, lenL_eq] at hK
        refine Post.mk (E' := E ++ [.row w.heap.size 0 (olds.length + rows.length) nc]) (Pp' := Pp) (.row _ _ _ _ _ _ (by rw [← h.wr.len]; simp)) (slots_push hs) ?_ hK (fun _ ad v hv => hv.grow h.wr.len (fun _ _ h => h) hbk)
        refine hd.new rfl ⟨_, e, olds ++ rows, heap_alloc_at w.drew _, rfl, by simp, hnc, by omega, ?_, fun _ => nopi_new h.wr, fun hf => by simp at hf⟩
        intro k row hk
        obtain ⟨e1, e2⟩ := hrd k row hk
        refine ⟨e1, fun j d ck hj hck => ?_⟩
        obtain ⟨v, hv, hr⟩ := e2 j d ck hj hck
        exact ⟨v, by simpa using hv, hr⟩
      · have hS := hd.lay (oldc ++ news ++ zs) e
        refine Post.mk (s' := st.s) (o' := st.o) (.lst _ _ _ ?_) (fun t => (hs t).mono (fun _ _ h => h) (fun _ _ h => .inl h)) hS hK ?_
        · refine .sl e w.heap.size 0 _ nc (olds ++ rows) (fun i j => (oldc ++ news ++ zs).getD (i * (cksOf tt e).length + j) undef) (by simp) hnc (fun i row hi => (hrd i row hi).1) ?_ ?_
          · intro i j hi hj
            have hri : (olds ++ rows)[i]? = some ((olds ++ rows)[i]'(by simp; omega)) := List.getElem?_eq_getElem _
            obtain ⟨hlr, hc⟩ := hrd i _ hri
            obtain ⟨v, hv, _⟩ := hc j _ _ (List.getElem?_eq_getElem (by omega)) (List.getElem?_eq_getElem hj)
            refine .inr ⟨rfl, ?_⟩
            exact (cell_of_block (heap_alloc_at w.drew (.cells ⟨oldc ++ news ++ zs⟩ e)) (0 + i * (cksOf tt e).length + j)).trans (by rw [Nat.zero_add, List.getD, hv]; rfl)
          · intro i j row d ck hi hj hck
            obtain ⟨v, hv, hr⟩ := (hrd i row hi).2 j d ck hj hck
            simp only [List.getD, hv, Option.getD_some]
            exact hr.mono (fun _ _ h => .inl h)
        · intro _ ad v hv
          simpa using hv.grow (E2 := []) (objs2 := []) (Pp' := fun ad v => Pp ad v ∨ (ad.block = w.drew.heap.size ∧ (w.drew.alloc (.cells ⟨oldc ++ news ++ zs⟩ e)).cell? ad = some v)) h.wr.len (fun _ _ h => .inl h) hbk

theorem killO_get (r : Nat) : ∀ (l : List Ob) (i : Nat), (killO r l)[i]? = (l[i]?).map fun o => match o with | .box cs => .box (mapL (kill r) cs) | o => o
  | [], i => by simp [killO]
  | o :: l, i => by cases o <;> cases i <;> simp [killO, killO_get r l]
theorem killO_length (r : Nat) : ∀ (l : List Ob), (killO r l).length = l.length
  | [] => rfl
  | o :: l => by cases o <;> simp [killO, killO_length r l]

theorem kills_ok {r : Nat} {E' : List RI} (hE : ∀ (i : Nat) x, i ≠ r → E[i]? = some x → E'[i]? = some x) {ps : List PV} {vs : List Value} (hv : VRL tt E Pp vs ps) : VRL tt E' Pp vs (mapL (kill r) ps) := by
  induction ps generalizing vs with
  | nil => cases hv; exact .nil
  | cons p ps ih => cases hv with | cons _ _ _ _ h1 h2 => exact .cons _ _ _ _ (kill_ok hE h1) (ih h2)

/-- A row of ours turns: what names it is forgotten. -/
theorem SimW.rowTurn {w' : World} {r : Nat} {e : TypeId} {d d' : D} {wr : Bool} {ri ri' : RI} {Pp' : Per} (h : SimW tt B E Pp objs w) (ho : objs[r]? = some (.row e d wr)) (hE : E[r]? = some ri) (hr0 : B.E0.length ≤ r)
    (hor : OR tt (E.set r ri') Pp' w' ri' (.row e d' wr)) (hmap : ∀ b n c, ri ≠ .map b n c)
    (hos : w'.os = w.os) (htp : w'.tape = w.tape) (hout : w'.output = w.output) (hsz : w.heap.size ≤ w'.heap.size)
    (hblk : ∀ b, b < w.heap.size → ri.block? ≠ some b → w'.heap[b]? = w.heap[b]?)
    (hPp : ∀ ad v, Pp ad v → Pp' ad v) (hnew : ∀ ad v, Pp' ad v → Pp ad v ∨ ri.block? = some ad.block ∨ w.heap.size ≤ ad.block)
    (hri' : ∀ b, ri'.block? = some b → ri.block? = some b ∨ w.heap.size ≤ b)
    (hpi : ∀ ad v, Pp' ad v → w'.cell? ad = some v) : SimW tt B (E.set r ri') Pp' ((killO r objs).set r (.row e d' wr)) w' := by
  have hl := h.wr.len
  have hr := lt_of_get ho
  have hE' : ∀ (i : Nat) x, i ≠ r → E[i]? = some x → (E.set r ri')[i]? = some x := by
    intro i x hi hx
    rw [List.getElem?_set_ne (Ne.symm hi)]; exact hx
  refine h.turn ho rfl hE (by simp) (fun j hj => List.getElem?_set_ne (Ne.symm hj)) (by rw [List.getElem?_set_self (by omega)]) (.inr hr0) (by simp [killO_length]) ?_ (by rw [List.getElem?_set_self (by rw [killO_length]; exact hr)]) (fun _ => hor) hos htp hout hsz hblk hPp hnew hri' hpi
  intro j oj' hj hoj hlv
  rw [List.getElem?_set_ne (Ne.symm hj), killO_get] at hoj
  cases hx : objs[j]? with
  | none => rw [hx] at hoj; simp at hoj
  | some oj =>
    rw [hx] at hoj
    simp only [Option.map_some, Option.some.injEq] at hoj
    refine ⟨oj, rfl, by cases oj <;> simp_all [Ob.live] <;> (subst hoj; simp at hlv), ?_⟩
    intro rj hrj hor'
    cases oj with
    | box cs =>
      simp only at hoj; subst hoj
      cases rj <;> try exact hor'.elim
      obtain ⟨vs, T, h1, h2, h3⟩ := hor'
      exact ⟨vs, T, h1, kills_ok hE' h2, h3⟩
    | row => simp only at hoj; subst hoj; cases rj <;> exact hor'
    | map => simp only at hoj; subst hoj; cases rj <;> exact hor'
    | iter m s =>
      simp only at hoj; subst hoj
      cases rj <;> try exact hor'.elim
      obtain ⟨bm, borns, clock, ls, h1, h2⟩ := hor'
      refine ⟨bm, borns, clock, ls, hE' _ _ ?_ h1, h2⟩
      rintro rfl
      rw [hE] at h1; cases h1
      exact hmap _ _ _ rfl
    | dead => simp only at hoj; subst hoj; cases rj <;> exact hor'

theorem Held.killed {Pp' : Per} {w' : World} {E' : List RI} {r : Nat} {ob : Ob} {ad : Addr} {v : Value} (hv : Held tt E Pp objs w ad v) (hr : r < objs.length)
    (hp : ∀ ad v, Pp ad v → Pp' ad v) (hE' : ∀ (i : Nat) x, i ≠ r → E[i]? = some x → E'[i]? = some x) (hc : ∀ (i : Nat), i ≠ r → w.cell? ad = some v → (∃ cs, objs[i]? = some (.box cs) ∧ E[i]? = some (.box ad.block)) ∨
    (∃ e d wr o len cap, objs[i]? = some (.row e d wr) ∧ E[i]? = some (.row ad.block o len cap)) → w'.cell? ad = some v)
    (hthis : w.cell? ad = some v → ((∃ cs, objs[r]? = some (.box cs) ∧ E[r]? = some (.box ad.block)) ∨ (∃ e d wr o len cap, objs[r]? = some (.row e d wr) ∧ E[r]? = some (.row ad.block o len cap) ∧ ad.off < o + len * (cksOf tt e).length)) →
      Held tt E' Pp' ((killO r objs).set r ob) w' ad v) : Held tt E' Pp' ((killO r objs).set r ob) w' ad v := by
  rcases hv with hv | ⟨hc0, i, ho⟩
  · exact .inl (hp _ _ hv)
  · by_cases hi : i = r
    · subst hi; exact hthis hc0 ho
    · refine .inr ⟨hc i hi hc0 ?_, i, ?_⟩
      · rcases ho with ho | ⟨e, d, wr, o, len, cap, h1, h2, h3⟩
        · exact .inl ho
        · exact .inr ⟨e, d, wr, o, len, cap, h1, h2⟩
      · rcases ho with ⟨cs, h1, h2⟩ | ⟨e, d, wr, o, len, cap, h1, h2, h3⟩
        · exact .inl ⟨mapL (kill r) cs, by rw [List.getElem?_set_ne (Ne.symm hi), killO_get, h1]; rfl, hE' _ _ hi h2⟩
        · exact .inr ⟨e, d, wr, o, len, cap, by rw [List.getElem?_set_ne (Ne.symm hi), killO_get, h1]; rfl, hE' _ _ hi h2, h3⟩

theorem block_of_cell {ad : Addr} {v : Value} {vs : List Value} {T : TypeId} {fr : Nat × Nat} (hg : w.heap[ad.block]? = some (.cells ⟨vs⟩ T fr)) (h : w.cell? ad = some v) : ad.spot.isSome = false ∧ vs[ad.off]? = some v := by
  simp only [World.cell?, hg] at h
  cases hs : ad.spot.isSome with
  | true => simp [hs] at h
  | false => simp [hs] at h; exact ⟨rfl, h⟩

/-- the slots behind a row's turn -/
theorem kill_slots {Pp' : Per} {r : Nat} {ri' : RI} (hs : ∀ t, VR tt E Pp (a.tmps.getD t undef) (look st.s t)) (hp : ∀ ad v, Pp ad v → Pp' ad v) : ∀ t, VR tt (E.set r ri') Pp' (a.tmps.getD t undef) (look (killS r st.s) t) := by
  intro t
  rw [look_killS]
  exact (kill_ok (fun i x hi hx => by rw [List.getElem?_set_ne (Ne.symm hi)]; exact hx) (hs t)).mono (fun _ _ h => h) hp

theorem row_grow_ok (htt : TtOk P tt) (h : SimW tt B E Pp st.o w) (hs : ∀ t, VR tt E Pp (a.tmps.getD t undef) (look st.s t)) {o : Oper} {x y : Operand} {t1 t2 e : TypeId} {as : Array Operand} {ts : Array TypeId}
    (hop : o.op = .call { callee := .builtin .append, args := as, argTypes := ts }) (has : as.toList = [x, y]) (hts : ts.toList = [t1, t2])
    {i1 i2 ei : TI} (h1 : tt t1 = some i1) (h2 : tt t2 = some i2) (he1 : sliceEl i1 = some e) (he2 : sliceEl i2 = some e) (hei : tt e = some ei) (hb : ei.bytes ≤ 1024)
    {rows olds : List (List D)} {news oldc : List Value} (hR : Reads tt Pp w e (a.eval y) rows news) (hO : Reads tt Pp w e (a.eval x) olds oldc) {base : Option Addr} {cap : Nat} (hx : a.eval x = .slice base olds.length cap) (hcap : olds.length ≤ cap)
    (hg : cap < olds.length + rows.length) (hlen : olds.length + rows.length ≤ 4294967296) {r : Nat} {wr : Bool} {ri : RI} (hob : st.o[r]? = some (.row e (.list olds) wr)) (hE : E[r]? = some ri) (hr0 : B.E0.length ≤ r)
    (hri : ri = .row0 ∨ ∃ g o0 cap', ri = .row g o0 olds.length cap')
    {K : PV → St → Prop} (hK : K (.row e r) ⟨killS r st.s, setO (killO r st.o) r (.row e (.list (olds ++ rows)) wr)⟩)
    {Q : Exit → Act → World → Prop} : o.wp P a w (Post tt B keep E Pp st.o w o a K) Q := by
  have hop' := @resolve_append P w a o x y t1 t2 as ts hop has hts
  obtain ⟨nc, zs, hnc, hzl, hrun⟩ := append_grow (ty := o.type) h1 h2 he1 he2 hei htt hR hO hx hcap hg hlen hb
  have hrd := cat_rd (zs := zs) hO.len hO.rd hR.len hR.rd
  have hsz : (oldc ++ news ++ zs).length = nc * (cksOf tt e).length := by
    simp only [List.length_append, hO.len, hR.len, hzl, ← Nat.add_mul]
    congr 1; omega
  have hbk : ∀ k, k < w.heap.size → (w.drew.alloc (.cells ⟨oldc ++ news ++ zs⟩ e)).heap[k]? = w.heap[k]? := fun k hk => RowKit.Below.heap_alloc w.drew _ k hk
  have hnewb : (w.drew.alloc (.cells ⟨oldc ++ news ++ zs⟩ e)).heap[w.heap.size]? = some (.cells ⟨oldc ++ news ++ zs⟩ e (0, 0)) := heap_alloc_at w.drew _
  generalize hw' : w.drew.alloc (.cells ⟨oldc ++ news ++ zs⟩ e) = w' at *
  let Pp' : Per := fun ad v => Pp ad v ∨ (wr = false ∧ ad.block = w.heap.size ∧ ad.off < (olds.length + rows.length) * (cksOf tt e).length ∧ w'.cell? ad = some v) ∨
    (w.cell? ad = some v ∧ ri.block? = some ad.block ∧ ∃ g o0 cap', ri = .row g o0 olds.length cap' ∧ ad.off < o0 + olds.length * (cksOf tt e).length)
  have hcold : ∀ ad v, w.cell? ad = some v → w'.cell? ad = some v := fun ad v hc => by rw [cell?_same (hbk _ (World.block_lt_of_cell? w ad hc))]; exact hc
  have hlr := lt_of_get hob
  have hS : SimW tt B (E.set r (.row w.heap.size 0 (olds.length + rows.length) nc)) Pp' ((killO r st.o).set r (.row e (.list (olds ++ rows)) wr)) w' := by
    refine h.rowTurn hob hE hr0 ?_ ?_ (by rw [← hw']; rfl) (by rw [← hw']; rfl) (by rw [← hw']; rfl) (by rw [← hw']; simp) (fun b hb _ => hbk b hb) (fun _ _ h => .inl h) ?_ (fun b hb => .inr ?_) ?_
    · refine ⟨_, e, olds ++ rows, hnewb, rfl, by simp, hnc, by omega, ?_, ?_, ?_⟩
      · intro k row hk
        obtain ⟨e1, e2⟩ := hrd k row hk
        refine ⟨e1, fun j d ck hj hck => ?_⟩
        obtain ⟨v, hv, hr⟩ := e2 j d ck hj hck
        exact ⟨v, by rw [Nat.zero_add]; exact hv, hr.mono (fun _ _ h => .inl h)⟩
      · intro hwr ad v hv
        rcases hv with hv | ⟨hf, _⟩ | ⟨hc, _⟩
        · exact nopi_new h.wr ad v hv
        · rw [hwr] at hf; cases hf
        · have := World.block_lt_of_cell? w ad hc; omega
      · intro hwr
        refine ⟨?_, ?_⟩
        · intro i j v hi hj hv
          refine .inr (.inl ⟨hwr, rfl, ?_, ?_⟩)
          · show 0 + i * (cksOf tt e).length + j < _
            have := mul_lt_of hi hj; omega
          · rw [cell_of_block hnewb]; exact hv
        · intro ad v hv hbl
          rcases hv with hv | ⟨_, _, hlt, _⟩ | ⟨hc, _⟩
          · exact absurd hbl (nopi_new h.wr ad v hv)
          · rw [Nat.zero_add]; exact hlt
          · have := World.block_lt_of_cell? w ad hc; omega
    · rintro b n c rfl
      rcases hri with hri | ⟨_, _, _, hri⟩ <;> cases hri
    · intro ad v hv
      rcases hv with hv | ⟨_, hb, _⟩ | ⟨_, hb, _⟩
      · exact .inl hv
      · exact .inr (.inr (by omega))
      · exact .inr (.inl hb)
    · simp [RI.block?] at hb; omega
    · intro ad v hv
      rcases hv with hv | ⟨_, _, _, hc⟩ | ⟨hc, _⟩
      · exact hcold ad v (h.wr.pi ad v hv)
      · exact hc
      · exact hcold ad v hc
  refine wp_val (hop' hrun) ?_
  rw [setO_eq] at hK
  refine Post.mk (.row _ _ _ _ _ _ (by rw [List.getElem?_set_self (by rw [h.wr.len]; exact hlr)])) (kill_slots hs (fun _ _ h => .inl h)) hS hK ?_
  intro _ ad v hv
  refine hv.killed hlr (fun _ _ h => .inl h) (fun i x hi hx => by rw [List.getElem?_set_ne (Ne.symm hi)]; exact hx) (fun i _ hc _ => hcold ad v hc) ?_
  intro hc ho
  rcases ho with ⟨cs, h3, _⟩ | ⟨e', d', wr', o', len', cap', h3, h4, h5⟩
  · rw [hob] at h3; cases h3
  · rw [hob] at h3; cases h3
    rw [hE] at h4; cases h4
    rcases hri with hri | ⟨g, o0, cap2, hri⟩
    · cases hri
    · cases hri
      exact .inl (.inr (.inr ⟨hc, rfl, _, _, _, rfl, h5⟩))

theorem row_room_ok (htt : TtOk P tt) (h : SimW tt B E Pp st.o w) (hs : ∀ t, VR tt E Pp (a.tmps.getD t undef) (look st.s t)) {o : Oper} {x y : Operand} {t1 t2 e : TypeId} {as : Array Operand} {ts : Array TypeId}
    (hop : o.op = .call { callee := .builtin .append, args := as, argTypes := ts }) (has : as.toList = [x, y]) (hts : ts.toList = [t1, t2])
    {i1 i2 ei : TI} (h1 : tt t1 = some i1) (h2 : tt t2 = some i2) (he1 : sliceEl i1 = some e) (he2 : sliceEl i2 = some e) (hei : tt e = some ei)
    {rows olds : List (List D)} {news : List Value} (hR : Reads tt Pp w e (a.eval y) rows news) {g o0 cap : Nat} (hx : a.eval x = .slice (some ⟨g, o0, none⟩) olds.length cap)
    (hroom : olds.length + rows.length ≤ cap) {r : Nat} {wr : Bool} (hob : st.o[r]? = some (.row e (.list olds) wr)) (hE : E[r]? = some (.row g o0 olds.length cap)) (hr0 : B.E0.length ≤ r)
    {K : PV → St → Prop} (hK : K (.row e r) ⟨killS r st.s, setO (killO r st.o) r (.row e (.list (olds ++ rows)) wr)⟩)
    {Q : Exit → Act → World → Prop} : o.wp P a w (Post tt B keep E Pp st.o w o a K) Q := by
  have hop' := @resolve_append P w a o x y t1 t2 as ts hop has hts
  obtain ⟨ri, hri, hor⟩ := h.wr.ob r _ hob rfl
  rw [hE] at hri; cases hri
  obtain ⟨vs, T, rows0, hg, hd0, hl, hcap, hsz, hrow, hnp, hfz⟩ := hor
  cases hd0
  generalize hS : (cksOf tt e).length = S at *
  have hnl := hR.len
  rw [hS] at hnl
  have hle : (olds.length + rows.length) * S ≤ cap * S := Nat.mul_le_mul_right _ hroom
  rw [Nat.add_mul] at hle
  have hrun := append_room (ty := o.type) (n := olds.length) (o := o0) (cur := vs) h1 h2 he1 he2 hei htt hR hg hroom (by rw [hS]; omega)
  rw [hS] at hrun
  rw [hx] at hop'
  generalize hw' : w.setRow g ⟨vs.take (o0 + olds.length * S) ++ news ++ vs.drop (o0 + olds.length * S + news.length)⟩ = w' at *
  have hg' : w'.heap[g]? = some (.cells ⟨vs.take (o0 + olds.length * S) ++ news ++ vs.drop (o0 + olds.length * S + news.length)⟩ T (0, 0)) := by rw [← hw']; exact setRow_heap w g _ _ _ _ hg
  have hoth : ∀ k, k ≠ g → w'.heap[k]? = w.heap[k]? := fun k hk => by rw [← hw']; exact setRow_other w g k _ hk
  have hlr := lt_of_get hob
  have hkeep : ∀ ad v, w.cell? ad = some v → (ad.block = g → ad.off < o0 + olds.length * S) → w'.cell? ad = some v := by
    intro ad v hc hlt
    by_cases hbg : ad.block = g
    · have hlt := hlt hbg
      obtain ⟨h3, h4⟩ := block_of_cell (by rw [hbg]; exact hg) hc
      simp only [World.cell?, hbg, hg', h3, Bool.false_eq_true, if_false]
      rw [← Array.getElem?_toList, splice_get (by omega), if_neg (by omega)]
      exact h4
    · rw [cell?_same (hoth _ hbg)]; exact hc
  let Pp' : Per := fun ad v => Pp ad v ∨ (wr = false ∧ ad.block = g ∧ ad.off < o0 + (olds.length + rows.length) * S ∧ w'.cell? ad = some v)
  have hSim : SimW tt B (E.set r (.row g o0 (olds.length + rows.length) cap)) Pp' ((killO r st.o).set r (.row e (.list (olds ++ rows)) wr)) w' := by
    refine h.rowTurn hob hE hr0 ?_ (fun b n c hc => by cases hc) (by rw [← hw']; rfl) (by rw [← hw']; rfl) (by rw [← hw']; rfl) (by rw [← hw']; simp) ?_ (fun _ _ h => .inl h) ?_ (fun b hb => .inl hb) ?_
    · refine ⟨_, T, olds ++ rows, hg', rfl, by simp, hroom, by rw [hS]; simp; omega, ?_, ?_, ?_⟩
      · intro k row hk
        rw [hS]
        rcases app_get hk with ⟨hlt, h3⟩ | ⟨k', rfl, h3⟩
        · obtain ⟨e1, e2⟩ := hrow k row h3
          rw [hS] at e1 e2
          refine ⟨e1, fun j d ck hj hck => ?_⟩
          obtain ⟨v, hv, hr⟩ := e2 j d ck hj hck
          have hjl := lt_of_get hck
          rw [hS] at hjl
          have := mul_lt_of hlt hjl
          exact ⟨v, by rw [splice_get (by omega), if_neg (by omega)]; exact hv, hr.mono (fun _ _ h => .inl h)⟩
        · obtain ⟨e1, e2⟩ := hR.rd k' row h3
          rw [hS] at e1 e2
          refine ⟨e1, fun j d ck hj hck => ?_⟩
          obtain ⟨v, hv, hr⟩ := e2 j d ck hj hck
          have hjl := lt_of_get hck
          rw [hS] at hjl
          have := mul_lt_of (lt_of_get h3) hjl
          refine ⟨v, ?_, hr.mono (fun _ _ h => .inl h)⟩
          rw [splice_get (by omega), if_pos (by rw [Nat.add_mul]; omega), show o0 + (olds.length + k') * S + j - (o0 + olds.length * S) = k' * S + j by rw [Nat.add_mul]; omega]
          exact hv
      · intro hwr ad v hv
        rcases hv with hv | ⟨hf, _⟩
        · exact hnp hwr ad v hv
        · rw [hwr] at hf; cases hf
      · intro hwr
        obtain ⟨_, hf2⟩ := hfz hwr
        rw [hS]
        refine ⟨?_, ?_⟩
        · intro i j v hi hj hv
          refine .inr ⟨hwr, rfl, ?_, ?_⟩
          · show o0 + i * S + j < _
            have := mul_lt_of hi hj; omega
          · rw [cell_of_block hg']; exact hv
        · intro ad v hv hbl
          rcases hv with hv | ⟨_, _, hlt, _⟩
          · have := hf2 ad v hv hbl
            rw [Nat.add_mul]; omega
          · exact hlt
    · intro b _ hb
      exact hoth b (fun e => hb (by rw [e]; rfl))
    · intro ad v hv
      rcases hv with hv | ⟨_, hb, _⟩
      · exact .inl hv
      · exact .inr (.inl (by rw [hb]; rfl))
    · intro ad v hv
      rcases hv with hv | ⟨_, _, _, hc⟩
      · refine hkeep ad v (h.wr.pi ad v hv) (fun hbl => ?_)
        cases hwr : wr with
        | true => exact absurd hbl (hnp hwr ad v hv)
        | false =>
          obtain ⟨_, hf2⟩ := hfz hwr
          exact hf2 ad v hv hbl
      · exact hc
  refine wp_val (hop' hrun) ?_
  rw [setO_eq] at hK
  refine Post.mk (.row _ _ _ _ _ _ (by rw [List.getElem?_set_self (by rw [h.wr.len]; exact hlr)])) (kill_slots hs (fun _ _ h => .inl h)) hSim hK ?_
  intro _ ad v hv
  refine hv.killed hlr (fun _ _ h => .inl h) (fun i x hi hx => by rw [List.getElem?_set_ne (Ne.symm hi)]; exact hx) ?_ ?_
  · intro i hi hc ho
    refine hkeep ad v hc (fun hbl => ?_)
    exfalso
    rcases ho with ⟨cs, h3, h4⟩ | ⟨e', d', wr', o', len', cap', h3, h4⟩
    · exact hi (h.wr.sep i r _ _ _ _ g h3 hob rfl rfl h4 hE (by rw [hbl]; rfl) rfl)
    · exact hi (h.wr.sep i r _ _ _ _ g h3 hob rfl rfl h4 hE (by rw [hbl]; rfl) rfl)
  · intro hc ho
    rcases ho with ⟨cs, h3, _⟩ | ⟨e', d', wr', o', len', cap', h3, h4, h5⟩
    · rw [hob] at h3; cases h3
    · rw [hob] at h3; cases h3
      rw [hE] at h4
      simp only [Option.some.injEq, RI.row.injEq] at h4
      obtain ⟨q1, q2, q3, q4⟩ := h4
      rw [hS] at h5
      refine .inr ⟨hkeep ad v hc (fun _ => by rw [q2, q3]; exact h5), r, .inr ⟨e, _, wr, o0, olds.length + rows.length, cap, by rw [List.getElem?_set_self (by rw [killO_length]; exact hlr)], ?_, ?_⟩⟩
      · rw [List.getElem?_set_self (by rw [h.wr.len]; exact hlr), ← q1]
      · rw [hS, Nat.add_mul]; rw [← q2, ← q3] at h5; omega

theorem append_row_ok (htt : TtOk P tt) (h : SimW tt B E Pp st.o w) (hs : ∀ t, VR tt E Pp (a.tmps.getD t undef) (look st.s t)) {o : Oper} {x y : Operand} {t1 t2 e : TypeId} {as : Array Operand} {ts : Array TypeId}
    (hop : o.op = .call { callee := .builtin .append, args := as, argTypes := ts }) (has : as.toList = [x, y]) (hts : ts.toList = [t1, t2])
    {i1 i2 ei : TI} (h1 : tt t1 = some i1) (h2 : tt t2 = some i2) (he1 : sliceEl i1 = some e) (he2 : sliceEl i2 = some e) (hei : tt e = some ei) (hb : ei.bytes ≤ 1024)
    {rows : List (List D)} {news : List Value} (hR : Reads tt Pp w e (a.eval y) rows news) {r : Nat} (hx : VR tt E Pp (a.eval x) (.row e r)) {d : D} {wr : Bool} (hob : getO st.o r = .row e d wr) (hr0 : B.E0.length ≤ r)
    (hlen : std.len d + rows.length ≤ 4294967296) {K : PV → St → Prop} (hK : K (.row e r) ⟨killS r st.s, setO (killO r st.o) r (.row e (std.app d (.list rows)) wr)⟩)
    {Q : Exit → Act → World → Prop} : o.wp P a w (Post tt B keep E Pp st.o w o a K) Q := by
  have ho' := getO_live hob rfl
  have hlr := lt_of_get ho'
  obtain ⟨ri, hri, hor⟩ := h.wr.ob r _ ho' rfl
  generalize hgx : a.eval x = vx at hx
  cases hx with
  | row0 _ _ hE =>
    rw [hE] at hri; cases hri
    have : d = .list [] := hor
    subst this
    by_cases h0 : rows = []
    · subst h0
      have hop' := @resolve_append P w a o x y t1 t2 as ts hop has hts
      rw [hgx] at hop'
      have hrun := append_nilroom (ty := o.type) (n := 0) (cap := 0) (base := none) h1 h2 he1 he2 hei htt hR (Nat.le_refl _)
      refine wp_val (hop' hrun) ?_
      rw [setO_eq] at hK
      have hEs : E.set r .row0 = E := by
        apply List.ext_getElem?
        intro i
        by_cases hi : i = r
        · subst hi; rw [List.getElem?_set_self (by rw [h.wr.len]; exact hlr), hE]
        · rw [List.getElem?_set_ne (Ne.symm hi)]
      have hS := h.rowTurn (d' := std.app (.list []) (.list [])) (ri' := .row0) (w' := w) (Pp' := Pp) ho' hE hr0 rfl (fun b n c hc => by cases hc) rfl rfl rfl (Nat.le_refl _) (fun _ _ _ => rfl) (fun _ _ h => h) (fun _ _ h => .inl h) (fun b hb => by simp [RI.block?] at hb) h.wr.pi
      refine Post.mk (.row0 _ _ (by rw [hEs]; exact hE)) (kill_slots hs (fun _ _ h => h)) hS hK ?_
      intro _ ad v hv
      refine hv.killed hlr (fun _ _ h => h) (fun i x hi hx => by rw [List.getElem?_set_ne (Ne.symm hi)]; exact hx) (fun i _ hc _ => hc) ?_
      intro hc ho
      rcases ho with ⟨cs, h3, _⟩ | ⟨e', d', wr', o', len', cap', h3, h4, h5⟩
      · rw [ho'] at h3; cases h3
      · rw [hE] at h4; cases h4
    · have hpos : 0 < rows.length := List.length_pos_iff.2 h0
      exact row_grow_ok (olds := []) (oldc := []) (base := none) (cap := 0) htt h hs hop has hts h1 h2 he1 he2 hei hb hR ⟨by simp, .inl ⟨none, hgx, rfl⟩, fun k row h => by simp at h⟩ hgx (Nat.le_refl _) (by simpa using hpos) (by simp [rowsD] at hlen ⊢; omega) ho' hE hr0 (.inl rfl) (by simpa [rowsD] using hK)
  | row _ _ g o0 len cap hE =>
    rw [hE] at hri; cases hri
    obtain ⟨vs, T, olds, hg, rfl, hl, hcap, hsz, hrow, hnp, hfz⟩ := hor
    subst hl
    have hK' : K (.row e r) ⟨killS r st.s, setO (killO r st.o) r (.row e (.list (olds ++ rows)) wr)⟩ := by simpa [rowsD] using hK
    by_cases hroom : olds.length + rows.length ≤ cap
    · exact row_room_ok htt h hs hop has hts h1 h2 he1 he2 hei hR hgx hroom ho' hE hr0 hK'
    · have hle : olds.length * (cksOf tt e).length ≤ cap * (cksOf tt e).length := Nat.mul_le_mul_right _ hcap
      obtain ⟨e1, e2⟩ := hrow.reads rfl (by omega)
      refine row_grow_ok htt h hs hop has hts h1 h2 he1 he2 hei hb hR ⟨e1, .inr ⟨g, o0, cap, hgx, hcap, ?_⟩, e2⟩ hgx hcap (by omega) (by simp [rowsD] at hlen; omega) ho' hE hr0 (.inr ⟨g, o0, cap, rfl⟩) hK'
      intro j u hj
      have hlt := lt_of_get hj
      rw [e1] at hlt
      rw [List.getElem?_take_of_lt hlt, List.getElem?_drop] at hj
      rw [cell_of_block hg]; exact hj

end
end Go.VC
end

section
/- The engine, part C: maps. -/
namespace Go.VC
open Go

section
variable {P : Program} {tt : TypeId → Option TI} {N : Nat} {B : Base} {E : List RI} {Pp : Per} {objs : List Ob} {w : World} {st : St} {a : Act} {keep : List FuncId}

/-- the type of a map's keys -/
def keyDesc : CK → TypeDesc
  | .int k => .int k
  | .str => .string
  | _ => .bool
theorem key_desc {kt : TypeId} {ki : TI} {kc : CK} (h : TiOk P kt ki) (ha : ki.agg = false) (hc : ki.cks = [kc]) (hs : scalarCk kc = true) : P.underlying kt = some (keyDesc kc) := by
  obtain ⟨i, z, d, hi, _, hb, hz, hzc, _, hd, hm⟩ := h.info
  cases kc <;> simp [scalarCk] at hs <;> cases d <;> simp_all [keyDesc]

theorem ba_eq (a b : ByteArray) : (a == b) = (a.data.toList == b.data.toList) := (Array.beq_toList a.data b.data).symm

theorem sameNow_ok {kc : CK} (hs : scalarCk kc = true) {u v : Value} {d d' : D} (hu : RD tt Pp kc u d) (hv : RD tt Pp kc v d') : Instr.sameNow (keyDesc kc) u v = some (keyEq d d') := by
  cases hu <;> cases hv <;> simp_all [scalarCk, keyDesc, Instr.sameNow, keyEq, ba_eq]

theorem sameBits_ok {kc : CK} (hs : scalarCk kc = true) {u v : Value} {d d' : D} (hu : RD tt Pp kc u d) (hv : RD tt Pp kc v d') (h : keyEq d d' = true) (n : Nat) : Instr.sameBits n v u = true := by
  cases hu <;> cases hv <;> simp_all [scalarCk, Instr.sameBits, keyEq, ba_eq]

/-- entries read as rows -/
def Entries (tt : TypeId → Option TI) (Pp : Per) (kc : CK) (e : TypeId) (es : List MapEntry) (rows : List (List D)) : Prop :=
  es.length = rows.length ∧ ∀ (i : Nat) (x : MapEntry) (row : List D), es[i]? = some x → rows[i]? = some row → EntryAt tt Pp kc e x row

theorem Entries.tail {kc : CK} {e : TypeId} {x : MapEntry} {es : List MapEntry} {row : List D} {rows : List (List D)} (h : Entries tt Pp kc e (x :: es) (row :: rows)) : EntryAt tt Pp kc e x row ∧ Entries tt Pp kc e es rows :=
  ⟨h.2 0 x row rfl rfl, by simpa using h.1, fun i y r h1 h2 => h.2 (i+1) y r (by simpa using h1) (by simpa using h2)⟩

theorem findNow_ok {kc : CK} (hs : scalarCk kc = true) {e : TypeId} {k : Value} {kd : D} (hk : RD tt Pp kc k kd) : ∀ (es : List MapEntry) (rows : List (List D)) (n : Nat), Entries tt Pp kc e es rows →
    (∃ i x row, es[i]? = some x ∧ rows[i]? = some row ∧ hasKey kd row = true ∧ rows.any (hasKey kd) = true ∧ rows.find? (hasKey kd) = some row ∧ (∀ vs, setKey kd vs rows = rows.set i (kd :: vs)) ∧ Instr.findNow (keyDesc kc) k es n = some (some (n + i, x.val))) ∨
    (rows.any (hasKey kd) = false ∧ (∀ vs, setKey kd vs rows = rows ++ [kd :: vs]) ∧ Instr.findNow (keyDesc kc) k es n = some none)
  | [], rows, n, h => by
    have := h.1
    have : rows = [] := List.eq_nil_of_length_eq_zero (by simpa using this.symm)
    subst this
    exact .inr ⟨rfl, fun _ => rfl, rfl⟩
  | x :: es, [], n, h => by have := h.1; simp at this
  | x :: es, row :: rows, n, h => by
    obtain ⟨⟨kd', vd, rfl, hr, _⟩, ht⟩ := h.tail
    have hsn := sameNow_ok hs hk hr
    have hkk : hasKey kd (kd' :: vd) = keyEq kd kd' := rfl
    cases hq : keyEq kd kd' with
    | true =>
      refine .inl ⟨0, x, kd' :: vd, rfl, rfl, by rw [hkk, hq], by simp [hkk, hq], by simp [hkk, hq], fun vs => by simp [setKey, hkk, hq], ?_⟩
      simp [Instr.findNow, hsn, hq]
    | false =>
      rcases findNow_ok hs hk es rows (n+1) ht with ⟨i, y, r, h1, h2, h3, h4, h5, h6, h7⟩ | ⟨h1, h2, h3⟩
      · refine .inl ⟨i+1, y, r, by simpa using h1, by simpa using h2, h3, by simp [h4], by simp [hkk, hq, h5], fun vs => by simp [setKey, hkk, hq, h6], ?_⟩
        simp only [Instr.findNow, hsn, hq]
        rw [h7, show n + 1 + i = n + (i + 1) by omega]
      · exact .inr ⟨by simp [hkk, hq, h1], fun vs => by simp [setKey, hkk, hq, h2], by simp [Instr.findNow, hsn, hq, h3]⟩

theorem checkKey_ok {kt : TypeId} {kc : CK} (hs : scalarCk kc = true) (hu : P.underlying kt = some (keyDesc kc)) {k : Value} {kd : D} (hk : RD tt Pp kc k kd) (b : Bool) : (Instr.checkKey b 10000 kt k).run P w = .ok () w := by
  have he : ∀ n, (Instr.checkKey b (n + 1) kt k).run P w = .ok () w := by
    intro n
    cases hk <;> simp [scalarCk] at hs <;> simp [Instr.checkKey, run_underlying hu, keyDesc]
  exact he 9999

theorem findKey_ok {kt : TypeId} {kc : CK} (hu : P.underlying kt = some (keyDesc kc)) {k : Value} {es : List MapEntry} {r : Option (Nat × Value)} (h : Instr.findNow (keyDesc kc) k es 0 = some r) : (Instr.findKey kt k es).run P w = .ok r w := by
  simp [Instr.findKey, run_underlying hu, h]

theorem makeMap_ok (h : SimW tt B E Pp st.o w) (hs : ∀ t, VR tt E Pp (a.tmps.getD t undef) (look st.s t)) {o : Oper} {t e : TypeId} {rv : Option Operand} (hop : o.op = .makeMap t rv) (hrv : rv = none) {kc : CK}
    {K : PV → St → Prop} (hK : K (.mp (lenL st.o)) ⟨st.s, appL st.o [.map kc e (.list [])]⟩) {Q : Exit → Act → World → Prop} : o.wp P a w (Post tt B keep E Pp st.o w o a K) Q := by
  subst hrv
  rw [appL_eq, lenL_eq] at hK
  refine wp_val (v := .map (some w.heap.size)) (w' := w.alloc (.map #[] 0)) ?_ ?_
  · simp [execOp, hop, Instr.makeMap]
  · refine Post.mk (E' := E ++ [.map w.heap.size [] 0]) (Pp' := Pp) (.mp _ _ [] 0 (by rw [← h.wr.len]; simp)) (slots_push hs) ?_ hK (fun _ ad v hv => hv.grow h.wr.len (fun _ _ h => h) (fun k hk => RowKit.Below.heap_alloc w _ k hk))
    exact h.new rfl ⟨#[], [], heap_alloc_at w _, rfl, rfl, fun i x row hx => by simp at hx, rfl, List.nodup_nil, fun x hx => by simp at hx⟩

theorem val_ok (htt : TtOk P tt) {e : TypeId} {ei : TI} (hei : tt e = some ei) {x : Value} {vd : List D} {g : Nat → D} {off : Nat} (hl : vd.length = (cksOf tt e).length) (hxl : x.cells.toList.length = vd.length)
    (hrd : ∀ (j : Nat) (d : D) (ck : CK) (v : Value), vd[j]? = some d → (cksOf tt e)[j]? = some ck → x.cells.toList[j]? = some v → RD tt Pp ck v d)
    (hv : ∀ ti, tt e = some ti → (ti.agg = true → ∃ cs, x = .agg cs) ∧ (ti.agg = false → x.cells = #[x])) (hg : ∀ j d, vd[j]? = some d → g (off + j) = d) : VR tt E Pp x (aggOf ei (gcells std g off ei.cks)) := by
  have hcks : cksOf tt e = ei.cks := by simp [cksOf, hei]
  rw [hcks] at hl hrd
  have hc := gcells_ok (tt := tt) (E := E) (Pp := Pp) (g := g) (off := off) (cs := ei.cks) (vs := x.cells.toList) (by omega) (by
    intro j c v hc hv
    have hj := lt_of_get hc
    have hd : vd[j]? = some (vd[j]'(by omega)) := List.getElem?_eq_getElem (by omega)
    rw [hg j _ hd]
    exact hrd j _ c v hd hc hv)
  have hvo := valOf_ok (htt _ _ hei) (gcells_length std g off ei.cks) hc
  have : valOf ei x.cells.toList = x := by
    obtain ⟨h1, h2⟩ := hv ei hei
    unfold valOf
    cases ha : ei.agg with
    | true => obtain ⟨cs, rfl⟩ := h1 ha; rfl
    | false => rw [h2 ha]; rfl
  rwa [this] at hvo

theorem lookup_ok (htt : TtOk P tt) (h : SimW tt B E Pp st.o w) (hs : ∀ t, VR tt E Pp (a.tmps.getD t undef) (look st.s t)) {o : Oper} {t : TypeId} {m k : Operand} {ok : Bool} (hop : o.op = .lookup t m k ok) {ti ki ei : TI} (hti : tt t = some ti) (hm : isMap ti = true)
    (hki : tt (ti.ar - 1) = some ki) (hei : tt ti.el = some ei) (ha : ki.agg = false) {kc : CK} (hc : ki.cks = [kc]) (hsc : scalarCk kc = true) (hfit : ckFits kc (evT tt st.s (ti.ar - 1) k) = true) {r : Nat} (hx : ev st.s m = .mp r) {d : D} (hob : getO st.o r = .map kc ti.el d)
    {K : PV → St → Prop} (hK1 : std.mhas d (toD' (evT tt st.s (ti.ar - 1) k)) = true → K (okTup ok (aggOf ei (mcellsPV std d (toD' (evT tt st.s (ti.ar - 1) k)) 0 ei.cks)) true) st)
    (hK2 : std.mhas d (toD' (evT tt st.s (ti.ar - 1) k)) = false → K (okTup ok (aggOf ei (ei.cks.map zeroPV)) false) st) {Q : Exit → Act → World → Prop} : o.wp P a w (Post tt B keep E Pp st.o w o a K) Q := by
  obtain ⟨kt, e, hu, _, hel, har⟩ := (htt _ _ hti).map hm
  subst hel
  have hkt : ti.ar - 1 = kt := by omega
  simp only [hkt] at *
  have hud := key_desc (htt _ _ hki) ha hc hsc
  have hkr := fit_rd hfit (evT_ok hs kt k)
  generalize hkd : toD' (evT tt st.s kt k) = kd at *
  have hmv := ev_ok hs m
  rw [hx] at hmv
  have ho' := getO_live hob rfl
  obtain ⟨ri, hri, hor⟩ := h.wr.ob r _ ho' rfl
  generalize hgm : a.eval m = vm at hmv
  cases hmv with
  | mp _ b bs cl hE =>
    rw [hE] at hri; cases hri
    obtain ⟨es, rows, hb, rfl, hl, hent, hborn, hnd, hlt⟩ := hor
    have hck := checkKey_ok (P := P) (w := w) hsc hud hkr es.isEmpty
    rcases findNow_ok hsc hkr es.toList rows 0 ⟨hl, hent⟩ with ⟨i, x, row, h1, h2, h3, h4, h5, _, h7⟩ | ⟨h1, _, h3⟩
    · obtain ⟨kd', vd, rfl, e2, e3, e4, e5, e6⟩ := hent i x row h1 h2
      have hval : VR tt E Pp x.val (aggOf ei (mcellsPV std (.list rows) kd 0 ei.cks)) := by
        refine val_ok htt hei e3 e4 e5 e6 ?_
        intro j dd hj
        simp [std, rowsD, h5, List.getD, hj]
      have hfk := findKey_ok (P := P) (w := w) hud h7
      refine wp_val (v := if ok then .tuple #[x.val, .bool true] else x.val) (w' := w) ?_ ?_
      · simp only [execOp, hop, hgm, Instr.lookup, run_underlying hu, Sem.run_bind, Result.andThen_ok, getObj, Sem.run, hb, Sem.run_pure, hck, hfk]
      · refine Post.mk (s' := st.s) (o' := st.o) (pv := okTup ok (aggOf ei (mcellsPV std (.list rows) kd 0 ei.cks)) true) ?_ hs h (hK1 (by simpa [std, rowsD] using h4)) (fun _ ad v hv => hv)
        cases ok with
        | true => exact .tup _ _ (.cons _ _ _ _ hval (.cons _ _ _ _ (.bl _) .nil))
        | false => exact hval
    · have hfk := findKey_ok (P := P) (w := w) hud h3
      obtain ⟨_, _, ⟨z, hz, hzc⟩, _⟩ := (htt _ _ hei).run w
      obtain ⟨i0, z0, d0, hi0, _, _, hz0, hzc0, hag, _⟩ := (htt _ _ hei).info
      have hzz : z = z0 := by
        have : (zeroValue ti.el).run P w = .ok z0 w := by simp [zeroValue, typeInfo, hi0, hz0]
        rw [hz] at this; cases this; rfl
      subst hzz
      have hval : VR tt E Pp z (aggOf ei (ei.cks.map zeroPV)) := by
        have hvo := valOf_ok (tt := tt) (htt _ _ hei) (E := E) (Pp := Pp) (by simp) (zeros_ok ei.cks)
        have : valOf ei (ei.cks.map zeroV) = z := by
          unfold valOf
          cases ha : ei.agg with
          | true => obtain ⟨cs, rfl⟩ := hag.1 ha; rw [← hzc]; rfl
          | false =>
            rw [← hzc, hag.2 ha]; rfl
        rwa [this] at hvo
      refine wp_val (v := if ok then .tuple #[z, .bool false] else z) (w' := w) ?_ ?_
      · simp only [execOp, hop, hgm, Instr.lookup, run_underlying hu, Sem.run_bind, Result.andThen_ok, getObj, Sem.run, hb, Sem.run_pure, hck, hfk, hz]
      · refine Post.mk (s' := st.s) (o' := st.o) (pv := okTup ok (aggOf ei (ei.cks.map zeroPV)) false) ?_ hs h (hK2 (by simpa [std, rowsD] using h1)) (fun _ ad v hv => hv)
        cases ok with
        | true => exact .tup _ _ (.cons _ _ _ _ hval (.cons _ _ _ _ (.bl _) .nil))
        | false => exact hval

theorem endIt_get (m : Nat) : ∀ (l : List Ob) (i : Nat), (endIt m l)[i]? = (l[i]?).map fun o => match o with | .iter m' s => bif nb m' m then .dead else .iter m' s | o => o
  | [], i => by simp [endIt]
  | o :: l, i => by cases o <;> cases i <;> simp [endIt, endIt_get m l]
theorem endIt_length (m : Nat) : ∀ (l : List Ob), (endIt m l).length = l.length
  | [] => rfl
  | o :: l => by cases o <;> simp [endIt, endIt_length m l]

theorem find_cells {c : CK} {v : Value} {p : PV} (h : oneCell p = true) (hv : VR tt E Pp v p) : v.oneCell' = true := oneCell_ok h hv

/-- A map of ours turns. -/
theorem SimW.mapTurn {r b : Nat} {kc : CK} {e : TypeId} {d d' : D} {bs bs' : List Nat} {cl cl' : Nat} {es' : Array MapEntry} (h : SimW tt B E Pp objs w) (ho : objs[r]? = some (.map kc e d)) (hE : E[r]? = some (.map b bs cl)) (hr0 : B.E0.length ≤ r)
    (hb : ∃ es, w.heap[b]? = some (.map es cl)) (hor : OR tt (E.set r (.map b bs' cl')) Pp { w with heap := w.heap.setIfInBounds b (.map es' cl') } (.map b bs' cl') (.map kc e d')) :
    SimW tt B (E.set r (.map b bs' cl')) Pp ((endIt r objs).set r (.map kc e d')) { w with heap := w.heap.setIfInBounds b (.map es' cl') } := by
  have hl := h.wr.len
  have hr := lt_of_get ho
  obtain ⟨es, hb⟩ := hb
  have hbl : b < w.heap.size := by
    rcases Nat.lt_or_ge b w.heap.size with h' | h'
    · exact h'
    · simp [Array.getElem?_eq_none h'] at hb
  have hok : Eok E (E.set r (.map b bs' cl')) := by
    intro i x hx
    by_cases hi : i = r
    · subst hi
      rw [hE] at hx; cases hx
      exact .inr ⟨b, bs, cl, bs', cl', rfl, by rw [List.getElem?_set_self (by omega)]⟩
    · exact .inl (by rw [List.getElem?_set_ne (Ne.symm hi)]; exact hx)
  refine h.turn ho rfl hE (by simp) (fun j hj => List.getElem?_set_ne (Ne.symm hj)) (by rw [List.getElem?_set_self (by omega)]) (.inr hr0) (by simp [endIt_length]) ?_ (by rw [List.getElem?_set_self (by rw [endIt_length]; exact hr)]) (fun _ => hor) rfl rfl rfl (by simp) ?_ (fun _ _ h => h) (fun _ _ h => .inl h) (fun b' hb' => .inl hb') ?_
  · intro j oj' hj hoj hlv
    rw [List.getElem?_set_ne (Ne.symm hj), endIt_get] at hoj
    cases hx : objs[j]? with
    | none => rw [hx] at hoj; simp at hoj
    | some oj =>
      rw [hx] at hoj
      simp only [Option.map_some, Option.some.injEq] at hoj
      cases oj with
      | box cs =>
        simp only at hoj; subst hoj
        refine ⟨_, rfl, rfl, fun rj hrj hor' => ?_⟩
        cases rj <;> try exact hor'.elim
        obtain ⟨vs, T, h1, h2, h3⟩ := hor'
        exact ⟨vs, T, h1, (VR.mono_all hok (fun _ _ h => h)).2 h2, h3⟩
      | row => simp only at hoj; subst hoj; exact ⟨_, rfl, rfl, fun rj hrj hor' => by cases rj <;> exact hor'⟩
      | map => simp only at hoj; subst hoj; exact ⟨_, rfl, rfl, fun rj hrj hor' => by cases rj <;> exact hor'⟩
      | iter m s =>
        simp only at hoj
        cases hm : nb m r with
        | true => rw [hm] at hoj; simp at hoj; subst hoj; simp [Ob.live] at hlv
        | false =>
          rw [hm] at hoj; simp at hoj; subst hoj
          refine ⟨_, rfl, rfl, fun rj hrj hor' => ?_⟩
          cases rj <;> try exact hor'.elim
          obtain ⟨bm, borns, clock, ls, h1, h2⟩ := hor'
          refine ⟨bm, borns, clock, ls, ?_, h2⟩
          rw [List.getElem?_set_ne]
          · exact h1
          · rintro rfl; rw [nb_refl] at hm; cases hm
      | dead => simp only at hoj; subst hoj; simp [Ob.live] at hlv
  · intro k _ hne
    have : k ≠ b := fun e => hne (by rw [e]; rfl)
    simp [Array.getElem?_setIfInBounds_ne (Ne.symm this)]
  · intro ad v hv
    have hc := h.wr.pi ad v hv
    have hne : ad.block ≠ b := by
      intro e
      simp [World.cell?, e, hb] at hc
    rw [← hc]
    refine cell?_same ?_
    simp [Array.getElem?_setIfInBounds_ne (Ne.symm hne)]

theorem aggIs_ok {b : Bool} {v : Value} {p : PV} (h : aggIs b p = true) (hv : VR tt E Pp v p) (ho : allL oneCell (flat p) = true) : (b = true → ∃ cs, v = .agg cs) ∧ (b = false → v.cells = #[v]) := by
  cases b with
  | true =>
    refine ⟨fun _ => ?_, fun h => by cases h⟩
    cases hv <;> simp [aggIs] at h
    exact ⟨_, rfl⟩
  | false =>
    refine ⟨fun h => (by cases h), fun _ => ?_⟩
    cases hv with
    | lst e v d hr => cases hr <;> rfl
    | dptr t v d hr => cases hr <;> rfl
    | undef => simp [aggIs] at h
    | agg => simp [aggIs] at h
    | _ => rfl

theorem mapPut_ok (htt : TtOk P tt) (h : SimW tt B E Pp st.o w) (hs : ∀ t, VR tt E Pp (a.tmps.getD t undef) (look st.s t)) {o : Oper} {t : TypeId} {m k x : Operand} (hop : o.op = .mapUpdate t m k x ∨ o.op = .insert t m k x) {ti ki ei : TI} (hti : tt t = some ti) (hm : isMap ti = true)
    (hki : tt (ti.ar - 1) = some ki) (hei : tt ti.el = some ei) (ha : ki.agg = false) {kc : CK} (hc : ki.cks = [kc]) (hsc : scalarCk kc = true) (hfit : ckFits kc (evT tt st.s (ti.ar - 1) k) = true) {r : Nat} (hx : ev st.s m = .mp r) {d : D} (hob : getO st.o r = .map kc ti.el d)
    (hpos : 0 < ei.cks.length) (hr0 : B.E0.length ≤ r) (hfx : cksFit ei.cks (mapL (frz st.o 8) (flat (evT tt st.s ti.el x))) = true) (hone : allL oneCell (flat (evT tt st.s ti.el x)) = true) (hagg : aggIs ei.agg (evT tt st.s ti.el x) = true) (hids : isEmptyL (catL (ids st.o 8) (flat (evT tt st.s ti.el x))) = true)
    {K : PV → St → Prop} (hK : K .undef ⟨st.s, setO (endIt r st.o) r (.map kc ti.el (std.mset d (toD' (evT tt st.s (ti.ar - 1) k)) (mapL toD' (mapL (frz st.o 8) (flat (evT tt st.s ti.el x))))))⟩) {Q : Exit → Act → World → Prop} : o.wp P a w (Post tt B keep E Pp st.o w o a K) Q := by
  obtain ⟨kt, e, hu, _, hel, har⟩ := (htt _ _ hti).map hm
  subst hel
  have hkt : ti.ar - 1 = kt := by omega
  simp only [hkt] at *
  have hud := key_desc (htt _ _ hki) ha hc hsc
  have hkr := fit_rd hfit (evT_ok hs kt k)
  generalize hkd : toD' (evT tt st.s kt k) = kd at *
  have hxv := evT_ok hs ti.el x
  have hagg' := aggIs_ok hagg hxv hone
  generalize hps : flat (evT tt st.s ti.el x) = ps at *
  have hl0 : ps.length = ei.cks.length := by
    have : ∀ (cs : List CK) (qs : List PV), cksFit cs qs = true → qs.length = cs.length := by
      intro cs
      induction cs with
      | nil => intro qs h; cases qs <;> simp_all [cksFit]
      | cons c cs ih => intro qs h; cases qs <;> simp_all [cksFit]
    have := this _ _ hfx
    rwa [mapL_length] at this
  have hcells : VRL tt E Pp (a.eval x).cells.toList ps := by
    rw [← hps]
    exact cells_ok hxv (by rw [hps]; intro h0; rw [h0] at hl0; simp at hl0; omega)
  obtain ⟨_, hrd⟩ := fits_rd hfx (frz_none h.wr hcells hids)
  generalize hds : mapL toD' (mapL (frz st.o 8) ps) = ds at *
  have hdl : ds.length = ei.cks.length := by rw [← hds, mapL_length, mapL_length]; exact hl0
  have hcl := hcells.length
  have hcks : cksOf tt ti.el = ei.cks := by simp [cksOf, hei]
  -- the entry
  have hentry : ∀ y : MapEntry, y.key = a.eval k → y.val = a.eval x → EntryAt tt Pp kc ti.el y (kd :: ds) := by
    intro y h1 h2
    refine ⟨kd, ds, rfl, by rw [h1]; exact hkr, by rw [hcks]; exact hdl, by rw [h2]; omega, ?_, ?_⟩
    · intro j dd ck v hj hck hv
      rw [h2] at hv; rw [hcks] at hck
      exact hrd j ck v dd hck hv hj
    · intro ti' hti'
      rw [hei] at hti'; cases hti'
      rw [h2]; exact hagg'
  have hmv := ev_ok hs m
  rw [hx] at hmv
  have ho' := getO_live hob rfl
  obtain ⟨ri, hri, hor⟩ := h.wr.ob r _ ho' rfl
  have hexec : execOp a.eval o = (do Instr.mapUpdate t (a.eval m) (a.eval k) (a.eval x); pure .skip : Sem Next) := by
    rcases hop with hop | hop <;> simp [execOp, hop]
  have hquiet : quietOp keep o.op = false := by rcases hop with hop | hop <;> rw [hop] <;> rfl
  generalize hgm : a.eval m = vm at hmv
  rw [hgm] at hexec
  cases hmv with
  | mp _ b bs cl hE =>
    rw [hE] at hri; cases hri
    obtain ⟨es, rows, hb, rfl, hl, hent, hborn, hnd, hlt⟩ := hor
    have hck := checkKey_ok (P := P) (w := w) hsc hud hkr false
    rw [setO_eq] at hK
    have hbl : b < w.heap.size := by
      rcases Nat.lt_or_ge b w.heap.size with h' | h'
      · exact h'
      · simp [Array.getElem?_eq_none h'] at hb
    have hset : ∀ (x : Obj), (w.heap.setIfInBounds b x)[b]? = some x := fun x => Array.getElem?_setIfInBounds_self_of_lt hbl
    have slots : ∀ bs' cl', ∀ t, VR tt (E.set r (.map b bs' cl')) Pp (a.tmps.getD t undef) (look st.s t) := by
      intro bs' cl' t
      refine (VR.mono_all (fun i y hy => ?_) (fun _ _ h => h)).1 (hs t)
      by_cases hi : i = r
      · subst hi
        rw [hE] at hy; cases hy
        exact .inr ⟨b, bs, cl, bs', cl', rfl, by rw [List.getElem?_set_self (lt_of_get hE)]⟩
      · exact .inl (by rw [List.getElem?_set_ne (Ne.symm hi)]; exact hy)
    rcases findNow_ok hsc hkr es.toList rows 0 ⟨hl, hent⟩ with ⟨i, y, row, h1, h2, h3, h4, h5, h6, h7⟩ | ⟨h1, h2, h3⟩
    · have hfk := findKey_ok (P := P) (w := w) hud h7
      obtain ⟨kd', vd, rfl, e2, _⟩ := hent i y row h1 h2
      have hsb := sameBits_ok hsc hkr e2 (by simpa [hasKey] using h3) 10000
      have hyi : es[i]? = some y := by simpa using h1
      rw [Nat.zero_add] at hfk
      refine wp_skp (w' := { w with heap := w.heap.setIfInBounds b (.map (es.modify i fun e => { e with key := a.eval k, val := a.eval x }) cl) }) ?_ ?_
      · rw [hexec]
        simp [Instr.mapUpdate, run_underlying hu, getObj, setObj, Sem.run, hb, hck, hfk, hyi, Instr.keyThatStays, hsb]
      · refine Post.mk (.undef _) (slots bs cl) ?_ hK (fun hq => by rw [hquiet] at hq; cases hq)
        refine h.mapTurn ho' hE hr0 ⟨_, hb⟩ ?_
        refine ⟨_, rows.set i (kd :: ds), hset _, by simp [rowsD, h6], by simp [hl], ?_, ?_, hnd, hlt⟩
        · intro j z rw hz hrow
          simp only [Array.toList_modify, List.getElem?_modify] at hz
          by_cases hij : i = j
          · subst hij
            rw [h1] at hz
            rw [List.getElem?_set_self (lt_of_get h2)] at hrow
            simp at hz hrow
            subst hrow
            exact hentry z (by rw [← hz]) (by rw [← hz])
          · rw [List.getElem?_set_ne hij] at hrow
            simp only [hij, if_false] at hz
            exact hent j z rw (by simpa using hz) hrow
        · rw [← hborn]
          apply List.ext_getElem?
          intro j
          simp only [Array.toList_modify, List.getElem?_map, List.getElem?_modify]
          by_cases hij : i = j
          · subst hij; simp [h1]
          · simp [hij]
    · have hfk := findKey_ok (P := P) (w := w) hud h3
      refine wp_skp (w' := { w with heap := w.heap.setIfInBounds b (.map (es.push { key := a.eval k, val := a.eval x, born := cl }) (cl + 1)) }) ?_ ?_
      · rw [hexec]
        simp [Instr.mapUpdate, run_underlying hu, getObj, setObj, Sem.run, hb, hck, hfk]
      · refine Post.mk (.undef _) (slots (bs ++ [cl]) (cl + 1)) ?_ hK (fun hq => by rw [hquiet] at hq; cases hq)
        refine h.mapTurn ho' hE hr0 ⟨_, hb⟩ ?_
        refine ⟨_, rows ++ [kd :: ds], hset _, by simp [rowsD, h2], by simp [hl], ?_, by simp [hborn], ?_, ?_⟩
        · intro j z rw hz hrow
          simp only [Array.toList_push] at hz
          rcases app_get hz with ⟨hlt1, hz1⟩ | ⟨j', rfl, hz1⟩
          · rw [List.getElem?_append_left (by omega)] at hrow
            exact hent j z rw hz1 hrow
          · rw [hl, List.getElem?_append_right (by omega)] at hrow
            cases j' with
            | zero =>
              simp at hz1 hrow; subst hrow
              exact hentry z (by rw [← hz1]) (by rw [← hz1])
            | succ j' => simp at hz1
        · rw [List.nodup_append]
          refine ⟨hnd, by simp, ?_⟩
          intro a ha b hb
          simp at hb; subst hb
          have := hlt a ha
          omega
        · intro x hx
          simp at hx
          rcases hx with hx | rfl
          · have := hlt x hx; omega
          · omega

theorem range_ok (htt : TtOk P tt) (h : SimW tt B E Pp st.o w) (hs : ∀ t, VR tt E Pp (a.tmps.getD t undef) (look st.s t)) {o : Oper} {t : TypeId} {m : Operand} (hop : o.op = .range t m) {ti : TI} (hti : tt t = some ti) (hm : isMap ti = true)
    {r : Nat} (hx : ev st.s m = .mp r) {kc : CK} {e : TypeId} {d : D} (hob : getO st.o r = .map kc e d)
    {K : PV → St → Prop} (hK : K (.it (lenL st.o)) ⟨st.s, appL st.o [.iter r (.list [])]⟩) {Q : Exit → Act → World → Prop} : o.wp P a w (Post tt B keep E Pp st.o w o a K) Q := by
  obtain ⟨kt, e', hu, _, _, _⟩ := (htt _ _ hti).map hm
  have hmv := ev_ok hs m
  rw [hx] at hmv
  have ho' := getO_live hob rfl
  obtain ⟨ri, hri, hor⟩ := h.wr.ob r _ ho' rfl
  rw [appL_eq, lenL_eq] at hK
  generalize hgm : a.eval m = vm at hmv
  cases hmv with
  | mp _ b bs cl hE =>
    rw [hE] at hri; cases hri
    obtain ⟨es, rows, hb, rfl, hl, hent, hborn, hnd, hlt⟩ := hor
    refine wp_val (v := .pointer (some ⟨w.heap.size, 0, none⟩)) (w' := w.alloc (.mapIter (some b) cl #[] cl)) ?_ ?_
    · simp [execOp, hop, hgm, Instr.range, run_underlying hu, getObj, Sem.run, hb]
    · refine Post.mk (E' := E ++ [.iter w.heap.size]) (Pp' := Pp) (.it _ _ (by rw [← h.wr.len]; simp)) (slots_push hs) ?_ hK (fun _ ad v hv => hv.grow h.wr.len (fun _ _ h => h) (fun k hk => RowKit.Below.heap_alloc w _ k hk))
      exact h.new rfl ⟨b, bs, cl, [], app_left hE, heap_alloc_at w _, rfl, fun j hj => by simp at hj⟩

theorem next_run {b bm clock : Nat} {es : Array MapEntry} {arr : List Nat} (hb : w.heap[b]? = some (.mapIter (some bm) clock ⟨arr⟩ clock)) (hm : w.heap[bm]? = some (.map es clock)) (hold : ∀ x ∈ es.toList, x.born < clock) (ty : TypeId) :
    ((∀ x ∈ es.toList, x.born ∈ arr) ∧ (Instr.next (.pointer (some ⟨b, 0, none⟩)) false ty).run P w = .ok (.tuple #[.bool false]) w) ∨
    ∃ x w1, x ∈ es.toList ∧ x.born ∉ arr ∧ (w1 = w ∨ w1 = w.drew) ∧ (Instr.next (.pointer (some ⟨b, 0, none⟩)) false ty).run P w = .ok (.tuple #[.bool true, x.key, x.val]) { w1 with heap := w.heap.setIfInBounds b (.mapIter (some bm) clock ⟨arr ++ [x.born]⟩ clock) } := by
  simp only [Instr.next, getObj, Sem.run_bind, Sem.run, hb, hm, Result.andThen, next_test_false ⟨arr⟩ es clock clock hold (Nat.le_refl _), Bool.false_eq_true, if_false]
  have hmem : ∀ x ∈ (Array.filter (fun e => !(⟨arr⟩ : Array Nat).contains e.born) es).toList, x ∈ es.toList ∧ x.born ∉ arr := fun x hx => by
    simp at hx ⊢; exact hx
  have hall : (Array.filter (fun e => !(⟨arr⟩ : Array Nat).contains e.born) es) = #[] → ∀ x ∈ es.toList, x.born ∈ arr := fun h0 x hx => by
    rw [Array.filter_eq_empty_iff] at h0
    have := h0 x (by simpa using hx)
    simpa using this
  generalize Array.filter (fun e => !(⟨arr⟩ : Array Nat).contains e.born) es = L at hmem hall ⊢
  have e1 : L.filter (fun x => decide (x.born < clock)) = L := Array.filter_eq_self.2 (fun x hx => by simpa using hold x (hmem x (by simpa using hx)).1)
  have e2 : L.filter (fun x => decide (x.born ≥ clock)) = #[] := by
    rw [Array.filter_eq_empty_iff]
    intro x hx
    have := hold x (hmem x (by simpa using hx)).1
    simp
    omega
  simp only [e1, e2, Array.append_empty]
  by_cases h0 : L.size = 0
  · left
    have : L = #[] := Array.eq_empty_of_size_eq_zero h0
    subst this
    refine ⟨hall rfl, ?_⟩
    simp [choose, Sem.run, Question.forced]
  · right
    have hne : L.isEmpty = false := by simp [Array.isEmpty, h0]
    simp only [hne, Bool.false_eq_true, if_false, Array.empty_append, Array.size_map]
    have hch : ∃ (j : Nat) (w1 : World), j < L.size ∧ (w1 = w ∨ w1 = w.drew) ∧ (choose (Question.mapNext L.size)).run P w = .ok j w1 := by
      by_cases hf : L.size ≤ 1
      · exact ⟨0, w, by omega, .inl rfl, by simp [choose, Sem.run, Question.forced, hf]⟩
      · refine ⟨w.tape w.drawn (.mapNext L.size) % L.size, w.drew, Nat.mod_lt _ (by omega), .inr rfl, ?_⟩
        simp only [choose, Sem.run, Question.forced, decide_eq_true_eq, hf, if_false, Question.cut]
        rfl
    obtain ⟨j, w1, hj, hal, hrun⟩ := hch
    have hx := hmem L[j] (by simp)
    refine ⟨L[j], w1, hx.1, hx.2, hal, ?_⟩
    have hh : w1.heap = w.heap := by rcases hal with rfl | rfl <;> rfl
    simp only [hrun, Array.getElem?_map, Array.getElem?_eq_getElem hj, Option.map_some, Sem.run_bind, setObj, Sem.run, hh, hb, Result.andThen, Sem.run_pure]
    simp

theorem nodup_idx {l : List Nat} (h : l.Nodup) {i j : Nat} {x : Nat} (hi : l[i]? = some x) (hj : l[j]? = some x) : i = j := by
  have h1 := lt_of_get hi
  have h2 := lt_of_get hj
  rw [List.getElem?_eq_getElem h1] at hi
  rw [List.getElem?_eq_getElem h2] at hj
  simp at hi hj
  have hp := List.pairwise_iff_getElem.1 h
  rcases Nat.lt_trichotomy i j with h3 | h3 | h3
  · exact absurd (hi.trans hj.symm) (hp i j h1 h2 h3)
  · exact h3
  · exact absurd (hj.trans hi.symm) (hp j i h2 h1 h3)

theorem next_ok (htt : TtOk P tt) (h : SimW tt B E Pp st.o w) (hs : ∀ t, VR tt E Pp (a.tmps.getD t undef) (look st.s t)) {o : Oper} {it : Operand} (hop : o.op = .next it false) {i m : Nat} (hx : ev st.s it = .it i) {seen d : D} (hoi : getO st.o i = .iter m seen) {kc : CK} {e : TypeId} (hom : getO st.o m = .map kc e d)
    {ei : TI} (hei : tt e = some ei)
    {K : PV → St → Prop} (hK1 : std.allSeen d seen → K (.tup [.bl false]) st) (hK2 : ∀ j, std.unseen d seen j → K (.tup [.bl true, cellPV std kc (std.cell d j 0), aggOf ei (cellsPV std d j 1 ei.cks)]) ⟨st.s, setO st.o i (.iter m (std.see seen j))⟩)
    {Q : Exit → Act → World → Prop} : o.wp P a w (Post tt B keep E Pp st.o w o a K) Q := by
  have hiv := ev_ok hs it
  rw [hx] at hiv
  have hoi' := getO_live hoi rfl
  have hom' := getO_live hom rfl
  obtain ⟨ri, hri, hori⟩ := h.wr.ob i _ hoi' rfl
  obtain ⟨rm, hrm, horm⟩ := h.wr.ob m _ hom' rfl
  have hquiet : quietOp keep o.op = false := by rw [hop]; rfl
  generalize hgi : a.eval it = vi at hiv
  cases hiv with
  | it _ b hE =>
    rw [hE] at hri; cases hri
    obtain ⟨bm, borns, clock, ls, hEm, hb, rfl, hls⟩ := hori
    rw [hEm] at hrm; cases hrm
    obtain ⟨es, rows, hbm, rfl, hl, hent, hborn, hnd, hlt⟩ := horm
    have hbl : borns.length = es.toList.length := by rw [← hborn]; simp
    have hold : ∀ x ∈ es.toList, x.born < clock := fun x hx => hlt _ (by rw [← hborn]; exact List.mem_map_of_mem hx)
    have bget : ∀ (j : Nat) x, es.toList[j]? = some x → borns[j]? = some x.born := fun j x hj => by rw [← hborn, List.getElem?_map, hj]; rfl
    have inls : ∀ (j : Nat) x, es.toList[j]? = some x → (x.born ∈ ls.map (fun (j : Nat) => borns.getD j 0) ↔ j ∈ ls) := by
      intro j x hj
      rw [List.mem_map]
      constructor
      · rintro ⟨k, hk, hkb⟩
        have h1 := bget j x hj
        have h2 : borns[k]? = some x.born := by
          have := hls k hk
          rw [List.getElem?_eq_getElem this, ← hkb]
          simp [List.getD, this]
        rw [nodup_idx hnd h1 h2]; exact hk
      · intro hk
        exact ⟨j, hk, by have := bget j x hj; simp [List.getD, this]⟩
    have inrow : ∀ (j : Nat), ([D.int (j : Int)] ∈ ls.map (fun (j : Nat) => [D.int (j : Int)]) ↔ j ∈ ls) := by
      intro j
      rw [List.mem_map]
      constructor
      · rintro ⟨k, hk, hkj⟩
        simp at hkj
        have : k = j := by omega
        rw [← this]; exact hk
      · intro hk; exact ⟨j, hk, rfl⟩
    rcases next_run (P := P) hb hbm hold o.type with ⟨hall, hrun⟩ | ⟨x, w1, hxm, hxn, hw1, hrun⟩
    · refine wp_val (v := .tuple #[.bool false]) (w' := w) (by simp [execOp, hop, hgi, hrun]) ?_
      refine Post.mk (s' := st.s) (o' := st.o) (.tup _ _ (.cons _ _ _ _ (.bl _) .nil)) hs h (hK1 ?_) (fun hq => by rw [hquiet] at hq; cases hq)
      intro j hj
      have hj' : j < es.toList.length := by rw [hl]; exact hj
      show [D.int (j : Int)] ∈ ls.map _
      rw [inrow]
      exact (inls j _ (List.getElem?_eq_getElem hj')).1 (hall _ (List.getElem_mem hj'))
    · obtain ⟨j, hj⟩ := List.getElem?_of_mem hxm
      have hjl := lt_of_get hj
      have hjn : j ∉ ls := fun hk => hxn ((inls j x hj).2 hk)
      have hrow : rows[j]? = some (rows[j]'(by omega)) := List.getElem?_eq_getElem (by omega)
      obtain ⟨kd, vd, hrd, e2, e3, e4, e5, e6⟩ := hent j x _ hj hrow
      have hcell : ∀ n, std.cell (.list rows) (j : Int) n = (kd :: vd).getD n .nil := by
        intro n
        show ((rowsD (.list rows)).getD (j : Int).toNat []).getD n .nil = _
        simp [rowsD, List.getD, hrow, hrd]
      have hbl2 : b < w.heap.size := by
        rcases Nat.lt_or_ge b w.heap.size with h' | h'
        · exact h'
        · simp [Array.getElem?_eq_none h'] at hb
      refine wp_val (v := .tuple #[.bool true, x.key, x.val]) (w' := { w1 with heap := w.heap.setIfInBounds b (.mapIter (some bm) clock ⟨ls.map (fun (j : Nat) => borns.getD j 0) ++ [x.born]⟩ clock) }) (by simp [execOp, hop, hgi, hrun]) ?_
      have hKj := hK2 (j : Int) ⟨by omega, by show (j : Int) < ((rowsD (.list rows)).length : Int); simp [rowsD]; omega, by show [D.int (j : Int)] ∉ ls.map _; rw [inrow]; exact hjn⟩
      rw [setO_eq] at hKj
      refine Post.mk (E' := E) (Pp' := Pp) ?_ hs ?_ hKj (fun hq => by rw [hquiet] at hq; cases hq)
      · refine .tup _ _ (.cons _ _ _ _ (.bl _) (.cons _ _ _ _ ?_ (.cons _ _ _ _ ?_ .nil)))
        · rw [hcell 0]; exact cellPV_ok e2
        · refine val_ok htt hei e3 e4 e5 e6 ?_
          intro n dd hn
          rw [hcell, Nat.add_comm]
          simp [List.getD, hn]
      · have hlen := lt_of_get hoi'
        have hos : w1.os = w.os := by rcases hw1 with rfl | rfl <;> rfl
        have htp : w1.tape = w.tape := by rcases hw1 with rfl | rfl <;> rfl
        have hout : w1.output = w.output := by rcases hw1 with rfl | rfl <;> rfl
        refine h.turn hoi' rfl hE rfl (fun _ _ => rfl) hE (.inl rfl) (by simp) ?_ (by rw [List.getElem?_set_self hlen]) (fun _ => ?_) hos htp hout (by simp) ?_ (fun _ _ h => h) (fun _ _ h => .inl h) (fun b' hb' => .inl hb') ?_
        · intro j' oj' hj' hoj hl
          rw [List.getElem?_set_ne (Ne.symm hj')] at hoj
          exact ⟨oj', hoj, hl, fun _ _ h => h⟩
        · refine ⟨bm, borns, clock, ls ++ [j], hEm, ?_, ?_, ?_⟩
          · show (w.heap.setIfInBounds b _)[b]? = _
            rw [Array.getElem?_setIfInBounds_self_of_lt hbl2]
            have := bget j x hj
            simp [List.getD, this]
          · simp [std, rowsD]
          · intro k hk
            simp at hk
            rcases hk with hk | rfl
            · exact hls k hk
            · omega
        · intro k _ hne
          have : k ≠ b := fun e => hne (by rw [e]; rfl)
          simp [Array.getElem?_setIfInBounds_ne (Ne.symm this)]
        · intro ad v hv
          have hc := h.wr.pi ad v hv
          have hne : ad.block ≠ b := by
            intro e
            simp [World.cell?, e, hb] at hc
          rw [← hc]
          refine cell?_same ?_
          simp [Array.getElem?_setIfInBounds_ne (Ne.symm hne)]

theorem entry_ok (htt : TtOk P tt) (h : SimW tt B E Pp st.o w) (hs : ∀ t, VR tt E Pp (a.tmps.getD t undef) (look st.s t)) {o : Oper} {it : Operand} (hop : o.op = .entry it) {i m : Nat} (hx : ev st.s it = .it i) {seen d : D} (hoi : getO st.o i = .iter m seen) {kc : CK} {e : TypeId} (hom : getO st.o m = .map kc e d)
    {ei : TI} (hei : tt e = some ei) (hne : std.idx 0 (std.len seen)) (hlast : std.idx (std.last seen) (std.len d))
    {K : PV → St → Prop} (hK : K (.tup [cellPV std kc (std.cell d (std.last seen) 0), aggOf ei (cellsPV std d (std.last seen) 1 ei.cks)]) st)
    {Q : Exit → Act → World → Prop} : o.wp P a w (Post tt B keep E Pp st.o w o a K) Q := by
  have hiv := ev_ok hs it
  rw [hx] at hiv
  have hoi' := getO_live hoi rfl
  have hom' := getO_live hom rfl
  obtain ⟨ri, hri, hori⟩ := h.wr.ob i _ hoi' rfl
  obtain ⟨rm, hrm, horm⟩ := h.wr.ob m _ hom' rfl
  generalize hgi : a.eval it = vi at hiv
  cases hiv with
  | it _ b hE =>
    rw [hE] at hri; cases hri
    obtain ⟨bm, borns, clock, ls, hEm, hb, rfl, hls⟩ := hori
    rw [hEm] at hrm; cases hrm
    obtain ⟨es, rows, hbm, rfl, hl, hent, hborn, hnd, hlt⟩ := horm
    have hlne : ls ≠ [] := by
      rintro rfl
      have := hne.2
      simp [std, rowsD] at this
    obtain ⟨ls', j, rfl⟩ : ∃ ls' j, ls = ls' ++ [j] := ⟨ls.dropLast, ls.getLast hlne, (List.dropLast_concat_getLast hlne).symm⟩
    have hla : std.last (.list ((ls' ++ [j]).map fun (j : Nat) => [D.int (j : Int)])) = (j : Int) := by simp [std, rowsD]
    rw [hla] at hK hlast
    have hjl : j < es.toList.length := by
      have := hlast.2
      simp [std, rowsD] at this
      omega
    have hj : es.toList[j]? = some (es.toList[j]) := List.getElem?_eq_getElem hjl
    generalize es.toList[j] = x at hj
    have hrow : rows[j]? = some (rows[j]'(by omega)) := List.getElem?_eq_getElem (by omega)
    obtain ⟨kd, vd, hrd, e2, e3, e4, e5, e6⟩ := hent j x _ hj hrow
    have hcell : ∀ n, std.cell (.list rows) (j : Int) n = (kd :: vd).getD n .nil := by
      intro n
      show ((rowsD (.list rows)).getD (j : Int).toNat []).getD n .nil = _
      simp [rowsD, List.getD, hrow, hrd]
    have hbj : borns[j]? = some x.born := by rw [← hborn, List.getElem?_map, hj]; rfl
    have hfind : es.find? (·.born == x.born) = some x := by
      rw [← Array.find?_toList]
      exact find_born x es.toList (by rw [hborn]; exact hnd) (List.mem_of_getElem? hj)
    refine wp_val (v := .tuple #[x.key, x.val]) (w' := w) ?_ ?_
    · have hback : (⟨(ls' ++ [j]).map (fun (j : Nat) => borns.getD j 0)⟩ : Array Nat).back? = some x.born := by
        simp [Array.back?, List.getD, hbj]
      simp only [execOp, hop, hgi, Instr.entry, getObj, Sem.run_bind, Sem.run, hb, hbm, Result.andThen_ok, hback, bne_self_eq_false, Bool.false_eq_true, if_false, hfind, Sem.run_pure]
    · refine Post.mk (s' := st.s) (o' := st.o) ?_ hs h hK (fun _ ad v hv => hv)
      refine .tup _ _ (.cons _ _ _ _ ?_ (.cons _ _ _ _ ?_ .nil))
      · rw [hcell 0]; exact cellPV_ok e2
      · refine val_ok htt hei e3 e4 e5 e6 ?_
        intro n dd hn
        rw [hcell, Nat.add_comm]
        simp [List.getD, hn]

end
end Go.VC
end

section
/- The engine, part D: every operation. -/
namespace Go.VC
open Go

section
variable {P : Program} {G : Cfg} {B : Base} {E : List RI} {Pp : Per} {w : World} {st : St} {a : Act}

theorem pure_step (htt : TtOk P G.tt) (h : SimW G.tt B E Pp st.o w) (hs : ∀ t, VR G.tt E Pp (a.tmps.getD t undef) (look st.s t)) {o : Oper} {K : PV → St → Prop} (hc : pureOp std G.tt o.op o.type st.s st.o fun v => K v st) {Q : Exit → Act → World → Prop} :
    o.wp P a w (Post G.tt B G.keep E Pp st.o w o a K) Q := by
  obtain ⟨v, pv, hr, hv, hK⟩ := pureOp_ok htt h.wr.rw hs hc
  exact wp_val (hr w rfl) (Post.mk (s' := st.s) (o' := st.o) hv hs h hK (fun _ ad v hv => hv))

theorem evArgs_ok (hs : ∀ t, VR G.tt E Pp (a.tmps.getD t undef) (look st.s t)) : ∀ (xs : List Operand) (ts : List TypeId), VRL G.tt E Pp (xs.map a.eval) (evArgs G st.s xs ts)
  | [], _ => by simp [evArgs]; exact .nil
  | x :: xs, [] => .cons _ _ _ _ (ev_ok hs x) (evArgs_ok hs xs [])
  | x :: xs, t :: ts => .cons _ _ _ _ (evT_ok hs t x) (evArgs_ok hs xs ts)

theorem call_step {f : FuncId} {vals : List Value} {kp : Bool} {args : List PV} {o : Oper} {K : PV → St → Prop} (htt : TtOk P G.tt) (h : SimW G.tt B E Pp st.o w) (hs : ∀ t, VR G.tt E Pp (a.tmps.getD t undef) (look st.s t)) (hv : VRL G.tt E Pp vals args)
    (hrun : (execOp a.eval o).run P w = (callFunc f ⟨vals⟩).run P w) (hc : callC G (FC P G.tt) kp f args st K) (hq : quietOp G.keep o.op = true → (kp && memL f G.keep) = false) {Q : Exit → Act → World → Prop} :
    o.wp P a w (Post G.tt B G.keep E Pp st.o w o a K) Q := by
  have fin : ∀ e w', (∃ v pv s' o' E' Pp', e = Ending.returned v ∧ VR G.tt E' Pp' v pv ∧ (∀ t, VR G.tt E' Pp' (a.tmps.getD t undef) (look s' t)) ∧ SimW G.tt B E' Pp' o' w' ∧ K pv ⟨s', o'⟩ ∧
      ((kp && memL f G.keep) = false → ∀ ad v, Held G.tt E Pp st.o w ad v → Held G.tt E' Pp' o' w' ad v) ∧ (∀ ad v, Pp ad v → Pp' ad v)) → ∃ v, e = .returned v ∧ Post G.tt B G.keep E Pp st.o w o a K (a.put o.dst v) w' := by
    rintro e w' ⟨v, pv, s', o', E', Pp', rfl, hvr, hs', hw', hK, hH, hM⟩
    exact ⟨v, rfl, Post.mk hvr hs' hw' hK (fun hqq => hH (hq hqq)) hM⟩
  rcases callC_ok rfl h hs hv hc with ⟨h1, h2⟩ | ⟨v, w', h1, h2⟩
  · simp only [Oper.wp, hrun, h1]
    refine h2.mono ?_
    intro e w' he
    obtain ⟨v, rfl, hp⟩ := fin e w' he
    exact hp
  · obtain ⟨v', hv', hp⟩ := fin _ _ h2
    cases hv'
    exact wp_val (by rw [hrun]; exact h1) hp

theorem mapPut_step (htt : TtOk P G.tt) (hB : B.E0.length = G.n0) (h : SimW G.tt B E Pp st.o w) (hs : ∀ t, VR G.tt E Pp (a.tmps.getD t undef) (look st.s t)) {o : Oper} {t : TypeId} {m k x : Operand} (hop : o.op = .mapUpdate t m k x ∨ o.op = .insert t m k x)
    {K : PV → St → Prop} (hc : mapPut std G t m k x st (K .undef)) {Q : Exit → Act → World → Prop} : o.wp P a w (Post G.tt B G.keep E Pp st.o w o a K) Q := by
  unfold mapPut at hc
  split at hc
  · rename_i ti hti
    cases hb : isMap ti with
    | false => rw [hb] at hc; exact hc.elim
    | true =>
      rw [hb] at hc
      simp only [cond_true] at hc
      split at hc
      · rename_i ki ei hki hei
        split at hc
        · rename_i kc hag hck
          cases hb2 : (scalarCk kc && ckFits kc (evT G.tt st.s (ti.ar - 1) k)) with
          | false => rw [hb2] at hc; exact hc.elim
          | true =>
            rw [hb2] at hc
            simp only [Bool.and_eq_true] at hb2
            simp only [cond_true] at hc
            split at hc
            · rename_i r hx
              split at hc
              · rename_i kc' e d hob
                cases hb3 : (decide (kc = kc') && nb e ti.el && nlt 0 (lenL ei.cks) && nle G.n0 r && cksFit ei.cks (mapL (frz st.o 8) (flat (evT G.tt st.s ti.el x))) && allL oneCell (flat (evT G.tt st.s ti.el x)) && aggIs ei.agg (evT G.tt st.s ti.el x) && isEmptyL (catL (ids st.o 8) (flat (evT G.tt st.s ti.el x)))) with
                | false => rw [hb3] at hc; exact hc.elim
                | true =>
                  rw [hb3] at hc
                  simp only [Bool.and_eq_true, decide_eq_true_eq, lenL_eq] at hb3
                  obtain ⟨⟨⟨⟨⟨⟨⟨q1, q2⟩, q3⟩, q4⟩, q5⟩, q6⟩, q7⟩, q8⟩ := hb3
                  have q2 := nb_of q2
                  have q3 : 0 + 1 ≤ ei.cks.length := nle_of q3
                  have q4 := nle_of q4
                  subst q1 q2
                  exact mapPut_ok htt h hs hop hti hb hki hei hag hck hb2.1 hb2.2 hx hob (by omega) (by omega) q5 q6 q7 q8 hc
              · exact hc.elim
            · exact hc.elim
        · exact hc.elim
      · exact hc.elim
  · exact hc.elim

/-- ████ 'stepC' IS SOUND ████ -/
theorem stepC_ok (htt : TtOk P G.tt) (hB : B.E0.length = G.n0) (h : SimW G.tt B E Pp st.o w) (hs : ∀ t, VR G.tt E Pp (a.tmps.getD t undef) (look st.s t)) {o : Oper} {K : PV → St → Prop} (hc : stepC std G (FC P G.tt) o st K) {Q : Exit → Act → World → Prop} :
    o.wp P a w (Post G.tt B G.keep E Pp st.o w o a K) Q := by
  unfold stepC at hc
  split at hc
  · -- alloc
    rename_i t hop
    split at hc
    · rename_i ti hti; exact alloc_ok htt h hs hop hti hc
    · exact hc.elim
  · -- box
    rename_i t x hop
    split at hc
    · rename_i ti hti
      cases hb : (nb (lenL (flat (evT G.tt st.s t x))) (lenL ti.cks) && nlt 0 (lenL ti.cks)) with
      | false => rw [hb] at hc; exact hc.elim
      | true =>
        rw [hb] at hc
        simp only [Bool.and_eq_true, lenL_eq] at hb
        have h1 := nb_of hb.1
        have h2 : 0 + 1 ≤ ti.cks.length := nle_of hb.2
        exact box_ok h hs hop (by intro h0; rw [h0] at h1; simp at h1; omega) hc
    · exact hc.elim
  · -- store
    rename_i t x y hop
    split at hc
    · exact hc.elim
    rename_i ti hti
    cases hb : (nb (lenL (flat (evT G.tt st.s t y))) (lenL ti.cks) && allL oneCell (flat (evT G.tt st.s t y)) && nlt 0 (lenL ti.cks)) with
    | false => rw [hb] at hc; exact hc.elim
    | true =>
      rw [hb] at hc
      simp only [Bool.and_eq_true, lenL_eq] at hb
      have h1 := nb_of hb.1.1
      have h2 : 0 + 1 ≤ ti.cks.length := nle_of hb.2
      simp only [cond_true] at hc
      split at hc
      · rename_i b off hx
        split at hc
        · rename_i cs hob
          simp only [lenL_eq] at hc
          cases hb2 : nle (off + ti.cks.length) cs.length with
          | false => rw [hb2] at hc; exact hc.elim
          | true =>
            rw [hb2] at hc
            exact store_box_ok htt h hs hop hti h1 (by omega) hb.1.2 hx hob (nle_of hb2) hc
        · exact hc.elim
      · rename_i e r i off hx
        split at hc
        · rename_i e' d hob
          cases hb2 : (nb e e' && kindsAt G.tt e off ti.cks && cksFit ti.cks (mapL (frz st.o 8) (flat (evT G.tt st.s t y))) && isEmptyL (catL (ids st.o 8) (flat (evT G.tt st.s t y)))) with
          | false => rw [hb2] at hc; exact hc.elim
          | true =>
            rw [hb2] at hc
            simp only [Bool.and_eq_true] at hb2
            have he := nb_of hb2.1.1.1
            subst he
            exact store_row_ok htt h hs hop hti h1 (by omega) hb.1.2 hx hob hb2.1.1.2 hb2.1.2 hb2.2 hc
        · exact hc.elim
      · exact hc.elim
  · -- buildSlice
    rename_i t len ps hop
    split at hc
    · exact hc.elim
    rename_i ti hti
    split at hc
    · exact hc.elim
    rename_i e he
    split at hc
    · exact hc.elim
    rename_i ei hei
    cases hb : (nle len 1000 && nle ei.cks.length 1000 && nlt 0 (lenL ei.cks)) with
    | false => rw [hb] at hc; exact hc.elim
    | true =>
      rw [hb] at hc
      simp only [Bool.and_eq_true, lenL_eq] at hb
      have h1 := nle_of hb.1.1
      have h2 := nle_of hb.1.2
      have h3 : 0 + 1 ≤ ei.cks.length := nle_of hb.2
      simp only [cond_true] at hc
      split at hc
      · exact hc.elim
      rename_i rows hrows
      refine buildSlice_ok htt h hs hop hti he hei h1 h2 (by omega) hrows rfl ?_
      cases ho : memO o.dst G.own with
      | true =>
        rw [ho] at hc
        simp only [cond_true] at hc
        cases hi : isEmptyL (catL (ids st.o 8) (catL (fun p => flat (evT G.tt st.s e p.2)) ps.toList)) with
        | false => rw [hi] at hc; exact hc.elim
        | true => rw [hi] at hc; exact .inl ⟨rfl, .inl hc⟩
      | false =>
        rw [ho] at hc
        simp only [cond_false] at hc
        cases hi : isEmptyL (catL (ids st.o 8) (catL (fun p => flat (evT G.tt st.s e p.2)) ps.toList)) with
        | false => rw [hi] at hc; exact .inr hc
        | true => rw [hi] at hc; exact .inl ⟨rfl, .inr hc⟩
  · -- append
    rename_i as ts hop
    split at hc
    · rename_i x y t1 t2 has hts
      split at hc
      · rename_i i1 i2 h1 h2
        split at hc
        · rename_i e e2 he1 he2
          cases hb : nb e e2 with
          | false => rw [hb] at hc; exact hc.elim
          | true =>
            rw [hb] at hc
            have := nb_of hb
            subst this
            simp only [cond_true] at hc
            split at hc
            · exact hc.elim
            rename_i ei hei
            cases hb2 : (nle ei.bytes 1024 && nlt 0 (lenL ei.cks)) with
            | false => rw [hb2] at hc; exact hc.elim
            | true =>
              rw [hb2] at hc
              simp only [Bool.and_eq_true] at hb2
              have hby := nle_of hb2.1
              simp only [cond_true] at hc
              obtain ⟨e3, rows, news, hc, hR⟩ := Reads.of_src h.wr (evT_ok hs t2 y) hc
              cases hb3 : nb e e3 with
              | false => rw [hb3] at hc; exact hc.elim
              | true =>
                rw [hb3] at hc
                have := nb_of hb3
                subst this
                simp only [cond_true] at hc
                have hxv := evM_ok hs t1 x
                split at hc
                · rename_i e4 r hx
                  rw [hx] at hxv
                  split at hc
                  · rename_i e5 d wr hob
                    cases hb4 : (nb e e4 && nb e e5 && nle G.n0 r) with
                    | false => rw [hb4] at hc; exact hc.elim
                    | true =>
                      rw [hb4] at hc
                      simp only [Bool.and_eq_true] at hb4
                      have q1 := nb_of hb4.1.1
                      have q2 := nb_of hb4.1.2
                      have q3 := nle_of hb4.2
                      subst q1 q2
                      obtain ⟨hbnd, hc⟩ := hc
                      exact append_row_ok htt h hs hop has hts h1 h2 he1 he2 hei hby hR hxv hob (by omega) (by have := hbnd.2; simpa [std, rowsD] using this) hc
                  · exact hc.elim
                · rename_i e4 d hx
                  rw [hx] at hxv
                  cases hb4 : nb e e4 with
                  | false => rw [hb4] at hc; exact hc.elim
                  | true =>
                    rw [hb4] at hc
                    have q1 := nb_of hb4
                    subst q1
                    simp only [cond_true] at hc
                    obtain ⟨hbnd, hc⟩ := hc
                    refine append_lsf_ok htt h hs hop has hts h1 h2 he1 he2 hei hby hR hxv (by have := hbnd.2; simpa [std, rowsD] using this) ?_
                    cases ho : memO o.dst G.own with
                    | true =>
                      rw [ho] at hc
                      obtain ⟨hp, hc⟩ := hc
                      refine .inl ⟨?_, hc⟩
                      have := hp.2
                      simpa [std, rowsD] using this
                    | false => rw [ho] at hc; exact .inr hc
                · exact hc.elim
        · exact hc.elim
      · exact hc.elim
    · exact hc.elim
  · -- assign
    rename_i x hop
    cases hb : (memO o.dst G.own && isNils x) with
    | false =>
      rw [hb] at hc
      exact pure_step htt h hs (by simpa using hc)
    | true =>
      rw [hb] at hc
      simp only [Bool.and_eq_true] at hb
      simp only [cond_true] at hc
      split at hc
      · exact own_nil_ok h hs hop hb.2 hc
      · exact hc.elim
  · -- slice
    rename_i t tx lo hi mx hop
    split at hc
    · rename_i e r hl
      have h1 := h.hurt [r]
      have hs1 : ∀ t, VR G.tt E (hurtP G.tt E st.o w Pp [r]) (a.tmps.getD t undef) (look st.s t) := fun t => (hs t).mono (fun _ _ h => h) (fun _ _ h => .inl h)
      have hst := pure_step (st := ⟨st.s, hurtO [r] 0 st.o⟩) (K := K) (Q := Q) htt h1 hs1 (o := o) hc
      refine Oper.wp_mono ?_ hst
      rintro a' w' ⟨st', E', Pp', v, pv, e1, e2, e3, e4, e5, e6, e7⟩
      exact ⟨st', E', Pp', v, pv, e1, e2, e3, e4, e5, fun hq ad v hv => e6 hq ad v (hv.hurt [r]), fun ad v hv => e7 ad v (.inl hv)⟩
    · exact pure_step htt h hs hc
  · -- makeSlice
    rename_i t x y hop
    split at hc
    · rename_i ti hti
      split at hc
      · rename_i e he
        split at hc
        · rename_i ei hei
          split at hc
          · rename_i k l k' c hx hy
            cases hb : (nle ei.bytes 1024 && nlt 0 (lenL ei.cks)) with
            | false => rw [hb] at hc; exact hc.elim
            | true =>
              rw [hb] at hc
              simp only [Bool.and_eq_true, lenL_eq] at hb
              have h3 : 0 + 1 ≤ ei.cks.length := nle_of hb.2
              obtain ⟨q1, q2, hc⟩ := hc
              exact makeSlice_ok htt h hs hop hti he hei (nle_of hb.1) (by omega) hx hy q1 q2 hc
          · exact hc.elim
        · exact hc.elim
      · exact hc.elim
    · exact hc.elim
  · -- makeMap
    rename_i t hop
    split at hc
    · rename_i ti hti
      cases hb : isMap ti with
      | false => rw [hb] at hc; exact hc.elim
      | true =>
        rw [hb] at hc
        simp only [cond_true] at hc
        split at hc
        · split at hc
          · exact makeMap_ok h hs hop rfl hc
          · exact hc.elim
        · exact hc.elim
    · exact hc.elim
  · -- lookup
    rename_i t m k ok hop
    split at hc
    · rename_i ti hti
      cases hb : isMap ti with
      | false => rw [hb] at hc; exact hc.elim
      | true =>
        rw [hb] at hc
        simp only [cond_true] at hc
        split at hc
        · rename_i ki ei hki hei
          split at hc
          · rename_i kc hag hck
            cases hb2 : (scalarCk kc && ckFits kc (evT G.tt st.s (ti.ar - 1) k)) with
            | false => rw [hb2] at hc; exact hc.elim
            | true =>
              rw [hb2] at hc
              simp only [Bool.and_eq_true] at hb2
              simp only [cond_true] at hc
              split at hc
              · rename_i r hx
                split at hc
                · rename_i kc' e d hob
                  cases hb3 : (decide (kc = kc') && nb e ti.el && nlt 0 (lenL ei.cks)) with
                  | false => rw [hb3] at hc; exact hc.elim
                  | true =>
                    rw [hb3] at hc
                    simp only [Bool.and_eq_true, decide_eq_true_eq] at hb3
                    obtain ⟨⟨q1, q2⟩, q3⟩ := hb3
                    have q2 := nb_of q2
                    subst q1 q2
                    simp only [cond_true] at hc
                    split at hc
                    · rename_i hpl
                      simp only [lkup1] at hc
                      refine lookup_ok htt h hs hop hti hb hki hei hag hck hb2.1 hb2.2 hx hob (fun _ => hc) (fun hno => ?_)
                      have hg : ∀ j, std.mget d (toD' (evT G.tt st.s (ti.ar - 1) k)) j = .nil := by
                        intro j
                        have hno : (rowsD d).any (hasKey (toD' (evT G.tt st.s (ti.ar - 1) k))) = false := hno
                        have : (rowsD d).find? (hasKey (toD' (evT G.tt st.s (ti.ar - 1) k))) = none := by
                          rw [List.find?_eq_none]; intro x hx
                          rw [List.any_eq_false] at hno; exact hno x hx
                        simp [std, this]
                      have he : mcellsPV std d (toD' (evT G.tt st.s (ti.ar - 1) k)) 0 ei.cks = ei.cks.map zeroPV := by
                        unfold plainEl at hpl
                        split at hpl
                        · rename_i hcks; rw [hcks]; show [cellPV std _ (std.mget d (toD' (evT G.tt st.s (ti.ar - 1) k)) 0)] = _; rw [hg]; rfl
                        · rename_i hcks; rw [hcks]; show [cellPV std _ (std.mget d (toD' (evT G.tt st.s (ti.ar - 1) k)) 0)] = _; rw [hg]; rfl
                        · cases hpl
                      rw [he] at hc
                      exact hc
                    · exact lookup_ok htt h hs hop hti hb hki hei hag hck hb2.1 hb2.2 hx hob hc.1 hc.2
                · exact hc.elim
              · exact hc.elim
          · exact hc.elim
        · exact hc.elim
    · exact hc.elim
  · rename_i t m k x hop
    exact mapPut_step htt hB h hs (.inl hop) hc
  · rename_i t m k x hop
    exact mapPut_step htt hB h hs (.inr hop) hc
  · -- range
    rename_i t m hop
    split at hc
    · rename_i ti hti
      cases hb : isMap ti with
      | false => rw [hb] at hc; exact hc.elim
      | true =>
        rw [hb] at hc
        simp only [cond_true] at hc
        split at hc
        · rename_i r hx
          split at hc
          · rename_i kc e d hob
            exact range_ok htt h hs hop hti hb hx hob hc
          · exact hc.elim
        · exact hc.elim
    · exact hc.elim
  · -- next
    rename_i it str hop
    cases str with
    | true => exact hc.elim
    | false =>
      simp only [cond_false] at hc
      split at hc
      · rename_i i hx
        split at hc
        · rename_i m seen hoi
          split at hc
          · rename_i kc e d hom
            split at hc
            · rename_i ei hei
              cases hb : nlt 0 (lenL ei.cks) with
              | false => rw [hb] at hc; exact hc.elim
              | true =>
                rw [hb] at hc
                exact next_ok htt h hs hop hx hoi hom hei hc.1 hc.2
            · exact hc.elim
          · exact hc.elim
        · exact hc.elim
      · exact hc.elim
  · -- entry
    rename_i it hop
    split at hc
    · rename_i i hx
      split at hc
      · rename_i m seen hoi
        split at hc
        · rename_i kc e d hom
          split at hc
          · rename_i ei hei
            cases hb : nlt 0 (lenL ei.cks) with
            | false => rw [hb] at hc; exact hc.elim
            | true =>
              rw [hb] at hc
              exact entry_ok htt h hs hop hx hoi hom hei hc.1 hc.2.1 hc.2.2
          · exact hc.elim
        · exact hc.elim
      · exact hc.elim
    · exact hc.elim
  · -- a call of a function
    rename_i f as ts hop
    have hv := evArgs_ok (G := G) hs as.toList ts.toList
    refine call_step (f := f) (kp := true) htt h hs hv ?_ hc (fun hq => by
      rw [hop] at hq
      simp only [quietOp] at hq
      cases hm : memL f G.keep with
      | true => rw [hm] at hq; simp at hq
      | false => rfl)
    have : as.map a.eval = ⟨as.toList.map a.eval⟩ := by apply Array.ext'; simp
    simp [execOp, hop, resolve, invoke, Act.eval, this, Deferred.ofValue]
  · -- a call of a value
    rename_i f as ts _ hop
    split at hc
    · rename_i g caps hf
      have hfv := ev_ok hs f
      rw [hf] at hfv
      generalize hgf : a.eval f = vf at hfv
      cases hfv with
      | clos _ vs _ hcl =>
        have hv := (evArgs_ok (G := G) hs as.toList ts.toList).append hcl
        rw [appL_eq] at hc
        refine call_step (f := g) (kp := false) htt h hs hv ?_ hc (fun _ => rfl)
        have : as.map a.eval ++ ⟨vs⟩ = ⟨as.toList.map a.eval ++ vs⟩ := by apply Array.ext'; simp
        simp [execOp, hop, resolve, invoke, hgf, this, Deferred.ofValue]
    · exact hc.elim
  · exact pure_step htt h hs hc

end
end Go.VC
end

section
/- The engine, part E: regions in any order. -/
namespace Go.VC
open Go

section
variable {P : Program} {ops : Array Oper} {D : Nat → Bool} {Q : Exit → Act → World → Prop}

/-- every order; until a loud operation runs, J holds -/
def wpAnyJ (P : Program) (ops : Array Oper) (D : Nat → Bool) (Q : Exit → Act → World → Prop) (J : World → Prop) : Nat → Array Bool → Act → World → Prop
  | 0, listed, a, w => J w ∧ Region.ready .any ops listed = [] ∧ Q .normal a w
  | n+1, listed, a, w => J w ∧ (Region.ready .any ops listed = [] → Q .normal a w) ∧ ∀ i ∈ Region.ready .any ops listed,
      wpOp P ops Q i (fun a' w' => if D i then wpAny P .any ops Q n (listed.setIfInBounds i true) a' w' else wpAnyJ P ops D Q J n (listed.setIfInBounds i true) a' w') a w

theorem wpAnyJ.holds {J : World → Prop} {n : Nat} {listed : Array Bool} {a : Act} {w : World} (h : wpAnyJ P ops D Q J n listed a w) : J w := by
  cases n <;> exact h.1

theorem wpAnyJ.any {J : World → Prop} : ∀ {n : Nat} {listed : Array Bool} {a : Act} {w : World}, wpAnyJ P ops D Q J n listed a w → wpAny P .any ops Q n listed a w
  | 0, _, _, _, h => h.2
  | n+1, listed, a, w, h => ⟨h.2.1, fun i hi => wpOp_mono (fun a' w' h' => by
      cases hD : D i with
      | true => rw [hD] at h'; exact h'
      | false => rw [hD] at h'; exact wpAnyJ.any h') (h.2.2 i hi)⟩

theorem wpAnyJ.mono {J J' : World → Prop} (hJ : ∀ w, J w → J' w) : ∀ {n : Nat} {listed : Array Bool} {a : Act} {w : World}, wpAnyJ P ops D Q J n listed a w → wpAnyJ P ops D Q J' n listed a w
  | 0, _, _, _, h => ⟨hJ _ h.1, h.2⟩
  | n+1, listed, a, w, h => ⟨hJ _ h.1, h.2.1, fun i hi => wpOp_mono (fun a' w' h' => by
      cases hD : D i with
      | true => rw [hD] at h'; exact h'
      | false => rw [hD] at h'; exact wpAnyJ.mono hJ h') (h.2.2 i hi)⟩

/-- what an operation comes to, in all worlds of J -/
def YieldsJ (P : Program) (ops : Array Oper) (J : World → Prop) (o : Oper) (v : Value) (a : Act) : Prop :=
  (Region.wanted o (yielded ops a.tmps) = true ∧ ∀ w, J w → (execOp a.eval o).run P w = .ok (.value v) w) ∨ (Region.wanted o (yielded ops a.tmps) = false ∧ v = undef)

/-- an operation leaves what another one looks at -/
theorem keep_op {j : Nat} {oi oj : Oper} {K : Act → World → Prop} {b : Act} {w : World} (hj : ops[j]? = some oj) (hd : ∀ d, oj.dst = some d → d ∉ oi.looksAt ops) (hsi : ∀ cs b, oi.op ≠ .select cs b) (h : wpOp P ops Q j K b w) :
    wpOp P ops Q j (fun b' w' => K b' w' ∧ execOp b'.eval oi = execOp b.eval oi ∧ Region.wanted oi (yielded ops b'.tmps) = Region.wanted oi (yielded ops b.tmps)) b w := by
  have key : ∀ u, execOp (b.put oj.dst u).eval oi = execOp b.eval oi ∧ Region.wanted oi (yielded ops (b.put oj.dst u).tmps) = Region.wanted oi (yielded ops b.tmps) :=
    fun u => ⟨execOp_put oi hsi b oj.dst u hd, wanted_put oi b oj.dst u hd⟩
  have key2 : ∀ (ds : List Deferred) u, execOp (({ b with defers := ds } : Act).put oj.dst u).eval oi = execOp b.eval oi ∧ Region.wanted oi (yielded ops (({ b with defers := ds } : Act).put oj.dst u).tmps) = Region.wanted oi (yielded ops b.tmps) :=
    fun ds u => ⟨execOp_put oi hsi { b with defers := ds } oj.dst u hd, wanted_put oi { b with defers := ds } oj.dst u hd⟩
  unfold wpOp at *
  simp only [hj] at *
  split
  · rename_i hw
    simp only [hw, if_true] at h
    rcases h with h | h
    · refine .inl ?_
      unfold Oper.wp at *
      generalize (execOp b.eval oj).run P w = r at *
      cases r with
      | ok n w' =>
        cases n <;> simp only [Oper.upon] at h ⊢
        case value u => exact ⟨h, key u⟩
        case skip => exact ⟨h, key _⟩
        case defer d => exact ⟨h, key2 _ _⟩
        case enter f args =>
          refine Calls.mono h fun e w'' he => ?_
          cases e with
          | returned u => exact ⟨he, key u⟩
          | panicked c => exact he
          | outgrown => exact he
        case row row args => exact Rows.mono h fun u w'' he => ⟨he, key u⟩
      | halt x w' => cases x <;> simp only [Oper.upon] at h ⊢; exact h
    · exact .inr h
  · rename_i hw
    simp only [hw] at h
    exact ⟨h, key _⟩

/-- An operation that only reads what J keeps may be taken first. -/
theorem wpAnyJ_first {J : World → Prop} {i : Nat} {oi : Oper} {v : Value} (hi : ops[i]? = some oi) (hsel : ∀ (j : Nat) (o : Oper) cs b, ops[j]? = some o → o.op ≠ .select cs b) (hQ : ∀ c a w, ¬ Q (.panic c) a w) (hD : D i = false) (hself : ∀ d, oi.dst = some d → d ∉ oi.looksAt ops) :
    ∀ (fuel : Nat) (listed : Array Bool) (a : Act) (w : World),
      (∀ j oj, ops[j]? = some oj → j ≠ i → listed.getD j true = false → (∀ e ∈ oj.after, Region.binds .any e = true → e.on ≠ i) → oi.apart ops oj = true ∧ D j = false) →
      i ∈ Region.ready .any ops listed → YieldsJ P ops J oi v a → J w → wpAnyJ P ops D Q J fuel (listed.setIfInBounds i true) (a.put oi.dst v) w → wpAnyJ P ops D Q J (fuel + 1) listed a w := by
  have this_one : ∀ (fuel : Nat) (listed : Array Bool) (a : Act) (w : World), YieldsJ P ops J oi v a → J w → wpAnyJ P ops D Q J fuel (listed.setIfInBounds i true) (a.put oi.dst v) w →
      wpOp P ops Q i (fun a' w' => if D i then wpAny P .any ops Q fuel (listed.setIfInBounds i true) a' w' else wpAnyJ P ops D Q J fuel (listed.setIfInBounds i true) a' w') a w := by
    intro fuel listed a w hy hJ H
    unfold wpOp
    simp only [hi, hD]
    rcases hy with ⟨hw, hv⟩ | ⟨hw, rfl⟩
    · simp only [hw, if_true, Oper.wp, hv w hJ, Oper.upon]; exact .inl H
    · simp only [hw, Bool.false_eq_true, if_false]; exact H
  intro fuel
  induction fuel with
  | zero =>
    intro listed a w _ hr hy hJ H
    refine ⟨hJ, fun h => (by rw [h] at hr; cases hr), fun j hj => ?_⟩
    by_cases hji : j = i
    · subst hji; exact this_one 0 listed a w hy hJ H
    · have := ready_mono hj hji
      rw [H.2.1] at this
      cases this
  | succ fuel ih =>
    intro listed a w hfree hr hy hJ H
    refine ⟨hJ, fun h => (by rw [h] at hr; cases hr), fun j hj => ?_⟩
    by_cases hji : j = i
    · subst hji; exact this_one _ listed a w hy hJ H
    · have h1 := H.2.2 j (ready_mono hj hji)
      obtain ⟨hjun, oj, hoj, hall⟩ := mem_ready.1 hj
      have hnot : ∀ e ∈ oj.after, Region.binds .any e = true → e.on ≠ i := fun e he hb heq => by
        have h1 := hall e he hb
        have h0 := (mem_ready.1 hr).1
        rw [heq] at h1
        rcases Nat.lt_or_ge i listed.size with h' | h'
        · simp [h'] at h0 h1; rw [h0] at h1; cases h1
        · simp [Array.getElem?_eq_none h'] at h1
      obtain ⟨hap, hDj⟩ := hfree j oj hoj hji hjun hnot
      simp only [hDj, Bool.false_eq_true, if_false] at h1
      obtain ⟨a1, a2, a3⟩ := Oper.apart_spec hap
      -- the other one first: this one's value is put behind it
      let oi' : Oper := { oi with op := .move (.const v), guard := none }
      have hap' : oi'.apart ops oj = true := by
        have hl : oi'.looksAt ops = [] := rfl
        unfold Oper.apart
        simp only [hl]
        have hd' : oi'.dst = oi.dst := rfl
        rw [hd']
        cases hd : oi.dst with
        | none => cases oj.dst <;> rfl
        | some d =>
          have b1 := a1 d hd
          have b2 := a2 d hd
          cases hjd : oj.dst with
          | none => simp [b1]
          | some d' =>
            rw [hjd] at b2
            simp [b1] 
            exact fun h => b2 (by rw [h])
      have h2 := keep_op (oi := oi) (b := a.put oi.dst v) hoj a3 (fun cs b => hsel i oi cs b hi) h1
      have hy' : Yields P ops oi' v a := .inl ⟨rfl, fun w => rfl⟩
      have h3 := wpOp_put (oi := oi') hoj hap' (fun cs b h => by cases h) (fun cs b => hsel j oj cs b hoj) (fun c a w h => (hQ c _ _ h).elim) hy' h2
      simp only [hDj, Bool.false_eq_true, if_false]
      refine wpOp_mono (fun a' w' h4 => ?_) h3
      obtain ⟨_, h5, h6, h7⟩ := h4
      have hfree' : ∀ k ok, ops[k]? = some ok → k ≠ i → (listed.setIfInBounds j true).getD k true = false →
          (∀ e ∈ ok.after, Region.binds .any e = true → e.on ≠ i) → oi.apart ops ok = true ∧ D k = false := fun k ok hk hki hun hno => by
        refine hfree k ok hk hki ?_ hno
        by_cases hjk : j = k
        · subst hjk; exact hjun
        · rw [getD_set_ne true hjk] at hun; exact hun
      have e0 : oi'.dst = oi.dst := rfl
      rw [e0] at h5 h6 h7
      have hy2 : YieldsJ P ops J oi v a' := by
        have e1 : execOp a'.eval oi = execOp a.eval oi := by
          rw [← execOp_put oi (fun cs b => hsel i oi cs b hi) a' oi.dst v hself, h6, execOp_put oi (fun cs b => hsel i oi cs b hi) a oi.dst v hself]
        have e2 : Region.wanted oi (yielded ops a'.tmps) = Region.wanted oi (yielded ops a.tmps) := by
          rw [← wanted_put oi a' oi.dst v hself, h7, wanted_put oi a oi.dst v hself]
        unfold YieldsJ at *
        rw [e1, e2]; exact hy
      rw [Array.setIfInBounds_comm _ _ (Ne.symm hji)] at h5
      exact ih (listed.setIfInBounds j true) a' w' hfree' (ready_mono hr (Ne.symm hji)) hy2 h5.holds h5

end
end Go.VC
end

section
/- The engine, part 12: regions, code, functions. -/
namespace Go.VC
open Go

inductive Ex where
  | normal | exit (id : Nat) | ret

def exOk : Exit → Ex → Prop
  | .normal, .normal => True
  | .exit i, .exit j => i = j
  | .ret, .ret => True
  | _, _ => False

/-- ████ WHAT CODE DOES ████ -/
def PWp (P : Program) (tt : TypeId → Option TI) (N n0 : Nat) (c : Code) (st : St) (Q : Ex → St → Prop) : Prop :=
  ∀ B E Pp a w, B.E0.length = n0 → Sim tt N B E Pp st a w → c.wp P (fun e a' w' => ∃ ex st' E' Pp', exOk e ex ∧ Sim tt N B E' Pp' st' a' w' ∧ Q ex st') a w

theorem PWp.mono {P : Program} {tt : TypeId → Option TI} {N n0 : Nat} {c : Code} {st : St} {Q Q' : Ex → St → Prop} (h : PWp P tt N n0 c st Q) (hq : ∀ e s, Q e s → Q' e s) : PWp P tt N n0 c st Q' := by
  intro B E Pp a w hb hs
  exact wp_mono (h B E Pp a w hb hs) fun e a' w' ⟨ex, st', E', Pp', h1, h2, h3⟩ => ⟨ex, st', E', Pp', h1, h2, hq _ _ h3⟩

def nthOp : List Oper → Nat → Option Oper
  | [], _ => none | x :: _, 0 => some x | _ :: l, n+1 => nthOp l n
theorem nthOp_eq (l : List Oper) (n : Nat) : nthOp l n = l[n]? := by
  induction l generalizing n with
  | nil => simp [nthOp]
  | cons x xs ih => cases n <;> simp [nthOp, ih]

def bEq : Bool → Bool → Bool | true, true => true | false, false => true | _, _ => false
def bNot : Bool → Bool | true => false | false => true

section
variable (A : Alg) (G : Cfg) (C : CallP)

def putK (d : Option Nat) (v : PV) (st : St) (K : St → Prop) : Prop := match d with
  | some d => bif nlt d G.n then (match st with | ⟨s, o⟩ => K ⟨(d, v) :: s, o⟩) else False
  | none => K st

/-- an operation behind its guard -/
def guarded (all : List Oper) (o : Oper) (st : St) (run : St → (PV → St → Prop) → Prop) (K : St → Prop) : Prop := match o.guard with
  | none => run st fun v st' => putK G o.dst v st' K
  | some (j, want) => match nthOp all j with
    | none => False
    | some oj => match oj.dst with
      | none => False
      | some dj => match look st.s dj with
        | .bl b => (match bEq b want with | true => ((run st fun v st' => putK G o.dst v st' K)) | false => (putK G o.dst (.tup []) st K))
        | .bool b => (b = want → run ⟨(dj, .bl want) :: st.s, st.o⟩ fun v st' => putK G o.dst v st' K) ∧
            (b = bNot want → putK G o.dst (.tup []) ⟨(dj, .bl (bNot want)) :: st.s, st.o⟩ K)
        | .tup [] => putK G o.dst (.tup []) st K
        | _ => False

/-- the operations in order; the guards decided as they come -/
def runOps (all : List Oper) : List Oper → St → (St → Prop) → Prop
  | [], st, Q => Q st
  | o :: os, st, Q => guarded G all o st (fun st K => stepC A G C o st K) fun st' => runOps all os st' Q

def isBind (e : Edge) : Bool := match e.ground with
  | .textOnly _ => false
  | .gcOnly _ => false
  | _ => true
/-- what an operation waits for, as a mask -/
def maskE : List Edge → Nat
  | [] => 0
  | e :: l => bif isBind e then Nat.lor (Nat.shiftLeft 1 e.on) (maskE l) else maskE l
def prepR : Nat → List Oper → List (Nat × Nat × Oper)
  | _, [] => []
  | i, o :: os => (i, maskE o.after.toList, o) :: prepR (i+1) os
def isIn (m L : Nat) : Bool := nb (Nat.land m L) m
def readyR (L : Nat) : List (Nat × Nat × Oper) → List (Nat × Oper)
  | [] => []
  | (i, m, o) :: r => bif isIn m L then (i, o) :: readyR L r else readyR L r
def dropR (i : Nat) : List (Nat × Nat × Oper) → List (Nat × Nat × Oper)
  | [] => []
  | (j, m, o) :: r => bif nb j i then r else (j, m, o) :: dropR i r
/-- operations that only read, and may be looked at first -/
def isFlt : Op → Bool
  | .move _ => true
  | .assign _ => true
  | .pick _ _ _ => true
  | .load _ _ => true
  | .binOp _ _ _ _ _ => true
  | .unOp _ _ _ => true
  | .convert _ _ _ => true
  | .fieldAddr _ _ _ => true
  | .field _ _ _ => true
  | .indexAddr _ _ _ => true
  | .index _ _ _ => true
  | .build _ _ => true
  | .extract _ _ => true
  | .slice _ _ _ _ _ => true
  | .nilCheck _ => true
  | .makeFunc _ _ _ => true
  | .call { callee := .builtin .len, .. } => true
  | .call { callee := .builtin .max, .. } => true
  | .call { callee := .builtin .min, .. } => true
  | _ => false
/-- an operation that waits for the phases ahead of it is taken in its turn -/
def phased : List Edge → Bool
  | [] => false
  | e :: l => match e.ground with
    | .phase => true
    | _ => phased l
def isFl (o : Oper) : Bool := match phased o.after.toList with
  | true => false
  | false => isFlt o.op
theorem isFl_flt {o : Oper} (h : isFl o = true) : isFlt o.op = true := by
  unfold isFl at h
  split at h
  · cases h
  · exact h
def firstR (L : Nat) : List (Nat × Nat × Oper) → Option (Nat × Oper)
  | [] => none
  | (i, m, o) :: r => bif isFl o && isIn m L then some (i, o) else firstR L r
def noMaps : List Ob → List Ob
  | [] => []
  | .map _ _ _ :: l => .dead :: noMaps l
  | .iter _ _ :: l => .dead :: noMaps l
  | o :: l => o :: noMaps l
def deadO : List Ob → List Ob
  | [] => []
  | _ :: l => .dead :: deadO l
/-- the objects that a float may look at -/
def viewO (o : List Ob) : List Ob := match G.pers with
  | true => deadO o
  | false => noMaps o
def quietG (o : Op) : Bool := match G.pers with
  | true => true
  | false => quietOp G.keep o
def allP (f : Nat → Oper → Prop) : List (Nat × Oper) → Prop
  | [] => True
  | [x] => f x.1 x.2
  | x :: l => f x.1 x.2 ∧ allP f l
/-- the operations in any order -/
def anyR (all : List Oper) : Nat → List (Nat × Nat × Oper) → Nat → St → (St → Prop) → Prop
  | 0, rest, L, st, Q => match readyR L rest with | [] => Q st | _ => False
  | n+1, rest, L, st, Q => match firstR L rest with
    | some (i, o) => guarded G all o st (fun st K => pureOp A G.tt o.op o.type st.s (viewO G st.o) fun v => K v st) fun st' => anyR all n (dropR i rest) (Nat.lor L (Nat.shiftLeft 1 i)) st' Q
    | none => match readyR L rest with
      | [] => Q st
      | r :: rs => allP (fun i o => guarded G all o st (fun st K => stepC A G C o st K) fun st' => anyR all n (dropR i rest) (Nat.lor L (Nat.shiftLeft 1 i)) st' Q) (r :: rs)
/-- the operations in a given order, of which the kernel sees that it stands for all -/
def linR (all : List Oper) : List Nat → St → (St → Prop) → Prop
  | [], st, Q => Q st
  | i :: p, st, Q => match nthOp all i with
    | none => False
    | some o => (match isFl o with | true => (guarded G all o st (fun st K => pureOp A G.tt o.op o.type st.s (viewO G st.o) fun v => K v st) fun st' => linR all p st' Q) | false => (guarded G all o st (fun st K => stepC A G C o st K) fun st' => linR all p st' Q))
def schGo : Nat → List (Nat × Nat × Oper) → Nat → List Nat → Bool
  | 0, rest, L, p => match readyR L rest, p with
    | [], [] => true
    | _, _ => false
  | n+1, rest, L, p => match firstR L rest with
    | some (i, _) => (match p with
      | j :: p' => nb i j && schGo n (dropR i rest) (Nat.lor L (Nat.shiftLeft 1 i)) p'
      | [] => false)
    | none => match readyR L rest, p with
      | [], [] => true
      | [(i, o)], j :: p' => nb i j && (bif isFl o then false else true) && schGo n (dropR i rest) (Nat.lor L (Nat.shiftLeft 1 i)) p'
      | _, _ => false
def schOf : List (Nat × List Nat) → Nat → Option (List Nat)
  | [], _ => none
  | (k, p) :: r, i => bif nb k i then some p else schOf r i
def memE (i : Nat) (o : Oper) : Bool := anyL (fun e => isBind e && nb e.on i) o.after.toList
def isSel : Op → Bool
  | .select _ _ => true
  | _ => false
def pairsOk (ops : Array Oper) (i : Nat) (oi : Oper) : Nat → List Oper → Bool
  | _, [] => true
  | j, oj :: l => (bif nb i j then (match oi.dst with | some d => bif memL d (oi.looksAt ops) then false else true | none => true) else
      bif memE i oj then true else bif memE j oi then true else Oper.apart ops oi oj && quietG G oj.op) && pairsOk ops i oi (j+1) l
def drawOk (ops : Array Oper) (all : List Oper) : Nat → List Oper → Bool
  | _, [] => true
  | i, o :: l => (bif isSel o.op then false else bif isFl o then pairsOk G ops i o 0 all else true) && drawOk ops all (i+1) l
/-- the rows that are cut up in a region are held still ahead of it -/
def cutRows (s : Slots) (all : List Oper) : List Oper → List Nat
  | [] => []
  | o :: l => match o.op with
    | .slice _ (.tmp t) _ _ _ => appL (movedRow s t all) (cutRows s all l)
    | _ => cutRows s all l
  where movedRow (s : Slots) (t : Nat) : List Oper → List Nat
  | [] => []
  | o :: l => match o.dst, o.op with
    | some d, .move (.tmp u) => bif nb d t then (match look s u with | .row _ r => [r] | _ => []) else movedRow s t l
    | _, _ => movedRow s t l

def setT (c : Operand) (b : Bool) (st : St) : St := match c with
  | .tmp t => ⟨(t, .bl b) :: st.s, st.o⟩
  | _ => st

def regP (id : Nat) (ops : Array Oper) (d : Bool) (st : St) (Q : St → Prop) : Prop := match d with
  | false => runOps A G C ops.toList ops.toList st Q
  | true => match schOf G.sch id with
    | none => ((False → False) → drawOk G ops ops.toList 0 ops.toList = true) ∧ anyR A G C ops.toList (lenL ops.toList) (prepR 0 ops.toList) 0 ⟨st.s, hurtO (cutRows st.s ops.toList ops.toList) 0 st.o⟩ Q
    | some p => ((False → False) → (drawOk G ops ops.toList 0 ops.toList && schGo (lenL ops.toList) (prepR 0 ops.toList) 0 p) = true) ∧ linR A G C ops.toList p ⟨st.s, hurtO (cutRows st.s ops.toList ops.toList) 0 st.o⟩ Q
def pwp (LP : Code → St → (Ex → St → Prop) → Prop) : Code → St → (Ex → St → Prop) → Prop
  | .skip, st, Q => Q .normal st
  | .region id ops d, st, Q => (match memL id G.cuts with
    | true => LP (.region id ops d) st Q
    | false => regP A G C id ops d st (Q .normal))
  | .seq x y, st, Q => pwp LP x st fun e st' => match e with | .normal => pwp LP y st' Q | .exit i => Q (.exit i) st' | .ret => Q .ret st'
  | .cond c x y, st, Q => match ev st.s c with
    | .bl true => pwp LP x st Q
    | .bl false => pwp LP y st Q
    | .bool t => (t = true → pwp LP x (setT c true st) Q) ∧ (t = false → pwp LP y (setT c false st) Q)
    | _ => False
  | .block id c, st, Q => pwp LP c st fun e st' => match e with | .exit j => (match nb j id with | true => Q .normal st' | false => Q (.exit j) st') | .normal => Q .normal st' | .ret => Q .ret st'
  | .exit id, st, Q => Q (.exit id) st
  | .ret, st, Q => Q .ret st
  | .loop c, st, Q => LP (.loop c) st Q
  | _, _, _ => False

def initS : Nat → List PV → Slots
  | _, [] => []
  | i, p :: ps => (i, p) :: initS (i+1) ps

/-- the results, out of the slots -/
def resPV (st : St) : List ResultVar → Option (List PV)
  | [] => some []
  | .tmp t :: r => match resPV st r with | some l => some (wk 8 (norm (look st.s t)) :: l) | none => none
  | .cell t ty :: r => match look st.s t, G.tt ty, resPV st r with
    | .box b off, some ti, some l => (match getO st.o b with
      | .box cs => bif nle (off + lenL ti.cks) (lenL cs) then some (wk 8 (aggOf ti (takeL (lenL ti.cks) (dropL off cs))) :: l) else none
      | _ => none)
    | _, _, _ => none
def resOf (st : St) (l : List ResultVar) : Option PV := match resPV G st l with
  | some [v] => some v
  | some vs => some (.tup vs)
  | none => none

/-- a function's end: what it returns is held still; its own objects are gone -/
def retK (n0 : Nat) (rs : List ResultVar) (st : St) (K : PV → List Ob → Prop) : Prop := match resOf G st rs with
  | some v => K (frz st.o 8 v) (takeO n0 (hurtO (ids st.o 8 v) 0 st.o))
  | none => False
  where takeO : Nat → List Ob → List Ob
  | 0, _ => [] | _, [] => [] | n+1, x :: xs => x :: takeO n xs
/-- the parts of what it returns: rows and maps of its own are handed out, all else is data -/
def outPV (n0 : Nat) (st : St) : Nat → List PV → Option (List PV × List Nat)
  | _, [] => some ([], [])
  | k, p :: l => match p with
    | .row e r => (match getO st.o r with
      | .row e' _ true => bif nb e e' && nle n0 r then (match outPV n0 st (k+1) l with | some (ps, rs) => some (.row e k :: ps, r :: rs) | none => none) else none
      | _ => none)
    | .mp r => (match getO st.o r with
      | .map _ _ _ => bif nle n0 r then (match outPV n0 st (k+1) l with | some (ps, rs) => some (.mp k :: ps, r :: rs) | none => none) else none
      | _ => none)
    | p => bif isEmptyL (ids st.o 8 p) then (match outPV n0 st k l with | some (ps, rs) => some (frz st.o 8 p :: ps, rs) | none => none) else none
def nodupL : List Nat → Bool
  | [] => true
  | x :: l => bif memL x l then false else nodupL l
def partsOf : PV → List PV × Bool
  | .tup cs => (cs, true)
  | p => ([p], false)
def wholeOf (b : Bool) (ps : List PV) : PV := bif b then .tup ps else match ps with | [p] => p | _ => .undef
/-- a function's end that hands out rows and maps of its own -/
def retOwnK (n0 : Nat) (rs : List ResultVar) (st : St) (K : PV → List Ob → Prop) : Prop := match resOf G st rs with
  | some v => (match outPV n0 st 0 (partsOf v).1 with
    | some (ps, rs) => bif nodupL rs then K (wholeOf (partsOf v).2 ps) (mapL (getO st.o) rs) else False
    | none => False)
  | none => False

theorem firstR_mem {L : Nat} : ∀ {r : List (Nat × Nat × Oper)} {i : Nat} {o : Oper}, firstR L r = some (i, o) → isFl o = true ∧ ∃ m, (i, m, o) ∈ r
  | [], i, o, h => by simp [firstR] at h
  | (k, m, x) :: r, i, o, h => by
    simp only [firstR] at h
    cases hf : (isFl x && isIn m L) with
    | true =>
      rw [hf] at h; simp at h
      obtain ⟨rfl, rfl⟩ := h
      simp only [Bool.and_eq_true] at hf
      exact ⟨hf.1, m, by simp⟩
    | false =>
      rw [hf] at h
      obtain ⟨h1, m', h2⟩ := firstR_mem h
      exact ⟨h1, m', by simp [h2]⟩
theorem readyR_mem {L : Nat} : ∀ {r : List (Nat × Nat × Oper)} {i : Nat} {o : Oper}, (i, o) ∈ readyR L r → ∃ m, (i, m, o) ∈ r
  | [], i, o, h => by simp [readyR] at h
  | (k, m, x) :: r, i, o, h => by
    simp only [readyR] at h
    cases hf : isIn m L with
    | true =>
      rw [hf] at h
      simp only [cond_true, List.mem_cons, Prod.mk.injEq] at h
      rcases h with ⟨rfl, rfl⟩ | h
      · exact ⟨m, by simp⟩
      · obtain ⟨m', h⟩ := readyR_mem h; exact ⟨m', by simp [h]⟩
    | false =>
      rw [hf] at h
      obtain ⟨m', h⟩ := readyR_mem (by simpa using h); exact ⟨m', by simp [h]⟩
theorem dropR_mem {i : Nat} : ∀ {r : List (Nat × Nat × Oper)} {x : Nat × Nat × Oper}, x ∈ dropR i r → x ∈ r
  | [], x, h => by simp [dropR] at h
  | (k, m, y) :: r, x, h => by
    simp only [dropR] at h
    cases hb : nb k i with
    | true => rw [hb] at h; simp at h; simp [h]
    | false =>
      rw [hb] at h
      simp only [cond_false, List.mem_cons] at h
      rcases h with rfl | h
      · simp
      · simp [dropR_mem h]

theorem linR_eq {all : List Oper} {Q : St → Prop} : ∀ (n : Nat) (rest : List (Nat × Nat × Oper)) (L : Nat) (p : List Nat) (st : St), (∀ i m o, (i, m, o) ∈ rest → nthOp all i = some o) → schGo n rest L p = true → linR A G C all p st Q = anyR A G C all n rest L st Q
  | 0, rest, L, p, st, hr, h => by
    simp only [schGo] at h
    split at h
    · rename_i h1
      simp only [anyR, h1, linR]
    · simp at h
  | n+1, rest, L, p, st, hr, h => by
    simp only [schGo] at h
    have hr' : ∀ k i m o, (i, m, o) ∈ dropR k rest → nthOp all i = some o := fun k i m o hm => hr i m o (dropR_mem hm)
    split at h
    · rename_i i o hf
      split at h
      · rename_i j p'
        simp only [Bool.and_eq_true] at h
        have := nb_of h.1
        subst this
        obtain ⟨hfl, m, hm⟩ := firstR_mem hf
        have ih : (fun st' => linR A G C all p' st' Q) = fun st' => anyR A G C all n (dropR i rest) (Nat.lor L (Nat.shiftLeft 1 i)) st' Q :=
          funext fun st' => linR_eq n _ _ p' st' (hr' i) h.2
        simp only [linR, hr i m o hm, hfl, cond_true, anyR, hf]
        rw [ih]
      · simp at h
    · rename_i hf
      split at h
      · rename_i h1
        simp only [anyR, hf, h1, linR]
      · rename_i i o j p' h1
        simp only [Bool.and_eq_true] at h
        have := nb_of h.1.1
        subst this
        obtain ⟨m, hm⟩ := readyR_mem (L := L) (r := rest) (i := i) (o := o) (by rw [h1]; simp)
        have hfl : isFl o = false := by
          cases hx : isFl o with
          | false => rfl
          | true => rw [hx] at h; simp at h
        have ih : (fun st' => linR A G C all p' st' Q) = fun st' => anyR A G C all n (dropR i rest) (Nat.lor L (Nat.shiftLeft 1 i)) st' Q :=
          funext fun st' => linR_eq n _ _ p' st' (hr' i) h.2
        simp only [linR, hr i m o hm, hfl, cond_false, anyR, hf, h1, allP]
        rw [ih]
      · simp at h

end

section
variable {P : Program} {G : Cfg} {B : Base} {E : List RI} {Pp : Per} {w : World} {st : St} {a : Act}

theorem bEq_eq {a b : Bool} : bEq a b = true ↔ a = b := by cases a <;> cases b <;> simp [bEq]
theorem bNot_eq (b : Bool) : bNot b = !b := by cases b <;> rfl

theorem put_get (a : Act) (d : Nat) (v : Value) (t : Nat) (hd : d < a.tmps.size) : (a.put (some d) v).tmps.getD t undef = if d = t then v else a.tmps.getD t undef := by
  simp only [Act.put, Array.getD_eq_getD_getElem?, Array.getElem?_setIfInBounds]
  split
  · simp [hd]
  · rfl

/-- behind an operation: its value in its slot -/
theorem put_sim {v : Value} {pv : PV} {E' : List RI} {Pp' : Per} {w' : World} {s' : Slots} {o' : List Ob} {d : Option Nat} {K : St → Prop} (hn : a.tmps.size = G.n) (hd : a.defers = []) (hv : VR G.tt E' Pp' v pv)
    (hs : ∀ t, VR G.tt E' Pp' (a.tmps.getD t undef) (look s' t)) (hw : SimW G.tt B E' Pp' o' w') (hK : putK G d pv ⟨s', o'⟩ K) :
    ∃ st'', Sim G.tt G.n B E' Pp' st'' (a.put d v) w' ∧ K st'' ∧ st''.o = o' := by
  cases d with
  | none => exact ⟨⟨s', o'⟩, SimW.sim (st := ⟨s', o'⟩) hw hs hn hd, hK, rfl⟩
  | some d =>
    simp only [putK] at hK
    cases hb : nlt d G.n with
    | false => rw [hb] at hK; exact hK.elim
    | true =>
      rw [hb] at hK
      have hlt : d + 1 ≤ G.n := nle_of hb
      refine ⟨⟨(d, pv) :: s', o'⟩, SimW.sim (st := ⟨(d, pv) :: s', o'⟩) hw ?_ (by simp [Act.put, hn]) hd, hK, rfl⟩
      intro t
      rw [put_get a d v t (by omega), look_cons]
      split
      · exact hv
      · exact hs t

theorem set_bool {d : Nat} {b c : Bool} (h : Sim G.tt G.n B E Pp st a w) (hl : look st.s d = .bool b) (hb : b = c) : Sim G.tt G.n B E Pp ⟨(d, .bl c) :: st.s, st.o⟩ a w := by
  refine SimW.sim (st := ⟨(d, .bl c) :: st.s, st.o⟩) h.toW ?_ h.size h.defers
  intro t
  rw [look_cons]
  split
  · rename_i hdt
    subst hdt
    have := h.slots d
    rw [hl] at this
    generalize a.tmps.getD d undef = v at *
    cases this
    subst hb
    exact .bl _
  · exact h.slots t

theorem wanted_of {all : Array Oper} {o oj : Oper} {j dj : Nat} {want b : Bool} {p : PV} (hg : o.guard = some (j, want)) (hj : all[j]? = some oj) (hdj : oj.dst = some dj) (h : Sim G.tt G.n B E Pp st a w)
    (hl : look st.s dj = p) (hp : p = .bl b ∨ p = .bool b) : Region.wanted o (yielded all a.tmps) = bEq b want := by
  have hv := h.slots dj
  rw [hl] at hv
  have hval : a.tmps[dj]? = some (.bool b) := by
    have : a.tmps.getD dj undef = .bool b := by
      generalize a.tmps.getD dj undef = v at *
      rcases hp with rfl | rfl <;> cases hv <;> rfl
    rw [Array.getD_eq_getD_getElem?] at this
    cases hx : a.tmps[dj]? with
    | none => rw [hx] at this; simp [undef] at this
    | some v => rw [hx] at this; simp at this; rw [this]
  simp only [Region.wanted, hg, yielded, hj, Option.bind_some, hdj, hval]
  cases b <;> cases want <;> rfl

theorem wanted_undef {all : Array Oper} {o oj : Oper} {j dj : Nat} {want : Bool} (hg : o.guard = some (j, want)) (hj : all[j]? = some oj) (hdj : oj.dst = some dj) (h : Sim G.tt G.n B E Pp st a w)
    (hl : look st.s dj = .tup []) : Region.wanted o (yielded all a.tmps) = false := by
  have hv := h.slots dj
  rw [hl] at hv
  have hval : a.tmps.getD dj undef = .tuple ⟨[]⟩ := by
    generalize a.tmps.getD dj undef = v at *
    cases hv with
    | tup vs _ hl => cases hl; rfl
  rw [Array.getD_eq_getD_getElem?] at hval
  simp only [Region.wanted, hg, yielded, hj, Option.bind_some, hdj]
  cases hx : a.tmps[dj]? with
  | none => rfl
  | some v => rw [hx] at hval; simp at hval; rw [hval]; cases want <;> rfl
/-- what follows an operation behind its guard -/
theorem guarded_wp (hB : B.E0.length = G.n0) {all : Array Oper} {o : Oper} {K : St → Prop} {run : St → (PV → St → Prop) → Prop} {next : Act → World → Prop} {Q : Exit → Act → World → Prop} {k : Nat} (hk : all[k]? = some o)
    (hrun : ∀ st1, Sim G.tt G.n B E Pp st1 a w → st1.o = st.o → run st1 (fun v st' => putK G o.dst v st' K) → Region.wanted o (yielded all a.tmps) = true → o.wp P a w next Q)
    (hskip : ∀ st'', Sim G.tt G.n B E Pp st'' (a.put o.dst undef) w → K st'' → Region.wanted o (yielded all a.tmps) = false → st''.o = st.o → next (a.put o.dst undef) w)
    (h : Sim G.tt G.n B E Pp st a w) (hg : guarded G all.toList o st run K) : wpOp P all Q k next a w := by
  unfold wpOp
  simp only [hk]
  have skip : ∀ (st' : St), Sim G.tt G.n B E Pp st' a w → st'.o = st.o → putK G o.dst (.tup []) st' K → Region.wanted o (yielded all a.tmps) = false → next (a.put o.dst undef) w := by
    intro st' h' ho hc hw
    obtain ⟨st'', h1, h2, h3⟩ := put_sim (v := undef) h'.size h'.defers (.tup [] [] .nil) h'.slots h'.toW hc
    exact hskip st'' h1 h2 hw (h3.trans ho)
  unfold guarded at hg
  split at hg
  · rename_i hgd
    have hwt : Region.wanted o (yielded all a.tmps) = true := by simp [Region.wanted, hgd]
    rw [if_pos hwt]
    exact .inl (hrun st h rfl hg hwt)
  · rename_i j want hgd
    split at hg
    · exact hg.elim
    rename_i oj hj
    rw [nthOp_eq] at hj
    have hj' : all[j]? = some oj := by simpa using hj
    split at hg
    · exact hg.elim
    rename_i dj hdj
    split at hg
    · rename_i b hl
      have hwt := wanted_of hgd hj' hdj h hl (.inl rfl)
      cases hb : bEq b want with
      | true => rw [hb] at hg hwt; rw [if_pos hwt]; exact .inl (hrun st h rfl hg hwt)
      | false => rw [hb] at hg hwt; rw [if_neg (by rw [hwt]; simp)]; exact skip st h rfl hg hwt
    · rename_i b hl
      have hwt := wanted_of hgd hj' hdj h hl (.inr rfl)
      cases hb : bEq b want with
      | true =>
        have hbe := bEq_eq.1 hb
        rw [hb] at hwt
        rw [if_pos hwt]
        exact .inl (hrun _ (set_bool h hl hbe) rfl (hg.1 hbe) hwt)
      | false =>
        have hbe : b = bNot want := by rw [bNot_eq]; cases b <;> cases want <;> simp_all [bEq]
        rw [hb] at hwt
        rw [if_neg (by rw [hwt]; simp)]
        exact skip _ (set_bool h hl hbe) rfl (hg.2 hbe) hwt
    · rename_i hl
      have hv := h.slots dj
      rw [hl] at hv
      have hval : a.tmps.getD dj undef = .tuple ⟨[]⟩ := by
        generalize a.tmps.getD dj undef = v at *
        cases hv with
        | tup vs _ hl => cases hl; rfl
      have hwt : Region.wanted o (yielded all a.tmps) = false := by
        rw [Array.getD_eq_getD_getElem?] at hval
        simp only [Region.wanted, hgd, yielded, hj', Option.bind_some, hdj]
        cases hx : a.tmps[dj]? with
        | none => rfl
        | some v => rw [hx] at hval; simp at hval; rw [hval]; cases want <;> rfl
      rw [if_neg (by rw [hwt]; simp)]
      exact skip st h rfl hg hwt
    · exact hg.elim

theorem runOps_ok (htt : TtOk P G.tt) (hB : B.E0.length = G.n0) {all : Array Oper} {Q : St → Prop} {Q' : Exit → Act → World → Prop} (hQ : ∀ E Pp st a w, Sim G.tt G.n B E Pp st a w → Q st → Q' .normal a w) :
    ∀ (l : List Oper) (k : Nat), all.toList.drop k = l → ∀ (st : St) (E : List RI) (Pp : Per) (a : Act) (w : World), Sim G.tt G.n B E Pp st a w → runOps std G (FC P G.tt) all.toList l st Q →
      wpOps P all Q' (List.range' k l.length) a w := by
  intro l
  induction l with
  | nil => intro k _ st E Pp a w h hr; exact hQ _ _ _ _ _ h hr
  | cons o os ih =>
    intro k hk st E Pp a w h hr
    have hlt : k < all.toList.length := by
      rcases Nat.lt_or_ge k all.toList.length with h' | h'
      · exact h'
      · rw [List.drop_eq_nil_of_le h'] at hk; simp at hk
    have hok : all[k]? = some o := by
      rw [List.drop_eq_getElem_cons hlt] at hk
      simp only [List.cons.injEq] at hk
      rw [← hk.1]
      simp
    have hnext : all.toList.drop (k + 1) = os := by
      rw [List.drop_eq_getElem_cons hlt] at hk
      simp only [List.cons.injEq] at hk
      exact hk.2
    simp only [List.length_cons, List.range'_succ, wpOps_cons]
    refine guarded_wp hB hok ?_ ?_ h hr
    · intro st h _ hc _
      refine Oper.wp_mono ?_ (stepC_ok htt hB h.toW h.slots hc)
      rintro a' w' ⟨st', E', Pp', v, pv, rfl, hv, hs, hw, hK, _, _⟩
      obtain ⟨st'', h1, h2, _⟩ := put_sim h.size h.defers hv hs hw hK
      exact ih (k+1) hnext st'' E' Pp' _ w' h1 h2
    · intro st'' h1 h2 _ _
      exact ih (k+1) hnext st'' E Pp _ w h1 h2

end
end Go.VC
end

section
/- The engine, part 12b: regions in any order are sound. -/
namespace Go.VC
open Go

section
variable {P : Program} {tt : TypeId → Option TI} {G : Cfg} {B : Base} {E : List RI} {Pp : Per} {objs : List Ob} {w : World} {st : St} {a : Act}

theorem mem_readyR (L : Nat) : ∀ (r : List (Nat × Nat × Oper)) (j : Nat) (o : Oper), (j, o) ∈ readyR L r ↔ ∃ m, (j, m, o) ∈ r ∧ isIn m L = true
  | [], j, o => by simp [readyR]
  | (i, m, x) :: r, j, o => by
    have ih := mem_readyR L r j o
    simp only [readyR]
    cases hm : isIn m L with
    | true =>
      simp only [cond_true, List.mem_cons, Prod.mk.injEq, ih]
      constructor
      · rintro (⟨rfl, rfl⟩ | ⟨m', h, h'⟩)
        · exact ⟨m, .inl ⟨rfl, rfl, rfl⟩, hm⟩
        · exact ⟨m', .inr h, h'⟩
      · rintro ⟨m', ⟨rfl, rfl, rfl⟩ | h, h'⟩
        · exact .inl ⟨rfl, rfl⟩
        · exact .inr ⟨m', h, h'⟩
    | false =>
      simp only [cond_false, List.mem_cons, Prod.mk.injEq, ih]
      constructor
      · rintro ⟨m', h, h'⟩; exact ⟨m', .inr h, h'⟩
      · rintro ⟨m', ⟨rfl, rfl, rfl⟩ | h, h'⟩
        · rw [hm] at h'; cases h'
        · exact ⟨m', h, h'⟩

theorem bit_or (L i j : Nat) : (Nat.lor L (Nat.shiftLeft 1 i)).testBit j = (L.testBit j || decide (i = j)) := by
  show (L ||| (1 <<< i)).testBit j = _
  rw [Nat.testBit_or, Nat.shiftLeft_eq, Nat.one_mul, Nat.testBit_two_pow]

theorem maskE_bit (l : List Edge) (k : Nat) : (maskE l).testBit k = l.any (fun e => isBind e && decide (e.on = k)) := by
  induction l with
  | nil => simp [maskE]
  | cons e l ih =>
    simp only [maskE, List.any_cons]
    cases hb : isBind e with
    | true =>
      simp only [cond_true, Bool.true_and]
      show ((1 <<< e.on) ||| maskE l).testBit k = _
      rw [Nat.testBit_or, Nat.shiftLeft_eq, Nat.one_mul, Nat.testBit_two_pow, ih]
    | false => simpa using ih

theorem isIn_iff (m L : Nat) : isIn m L = true ↔ ∀ k, m.testBit k = true → L.testBit k = true := by
  unfold isIn
  constructor
  · intro h k hk
    have h := nb_of h
    have h2 : (m &&& L).testBit k = true := by
      show (Nat.land m L).testBit k = true
      rw [h]; exact hk
    rw [Nat.testBit_and] at h2
    simp only [Bool.and_eq_true] at h2
    exact h2.2
  · intro h
    have : Nat.land m L = m := by
      apply Nat.eq_of_testBit_eq
      intro k
      show (m &&& L).testBit k = _
      rw [Nat.testBit_and]
      cases hm : m.testBit k with
      | false => rfl
      | true => rw [h k hm]; rfl
    rw [this]; exact nb_refl m

theorem isBind_eq (e : Edge) : Region.binds .any e = isBind e := by
  unfold Region.binds isBind
  cases e.ground <;> rfl

/-- what is listed -/
structure Listed (all : Array Oper) (rest : List (Nat × Nat × Oper)) (L : Nat) (listed : Array Bool) : Prop where
  size : listed.size = all.size
  bit : ∀ i, i < all.size → listed.getD i true = L.testBit i
  low : ∀ i, L.testBit i = true → i < all.size
  mem : ∀ i m o, (i, m, o) ∈ rest ↔ all[i]? = some o ∧ L.testBit i = false ∧ m = maskE o.after.toList
  nodup : (rest.map (·.1)).Nodup

theorem Listed.get {all : Array Oper} {rest : List (Nat × Nat × Oper)} {L : Nat} {listed : Array Bool} (h : Listed all rest L listed) (i : Nat) : listed.getD i false = L.testBit i := by
  by_cases hi : i < all.size
  · have := h.bit i hi
    rw [Array.getD_eq_getD_getElem?] at this ⊢
    have hs : i < listed.size := by rw [h.size]; exact hi
    simp [hs] at this ⊢; exact this
  · have : L.testBit i = false := by
      cases hm : L.testBit i with
      | false => rfl
      | true => exact absurd (h.low i hm) hi
    rw [this, Array.getD_eq_getD_getElem?, Array.getElem?_eq_none (by rw [h.size]; omega)]; rfl

theorem ready_iff {all : Array Oper} {rest : List (Nat × Nat × Oper)} {L : Nat} {listed : Array Bool} (h : Listed all rest L listed) (j : Nat) : j ∈ Region.ready .any all listed ↔ ∃ o, (j, o) ∈ readyR L rest := by
  rw [mem_ready]
  constructor
  · rintro ⟨h1, o, ho, h2⟩
    have hj : j < all.size := (Array.getElem?_eq_some_iff.1 ho).1
    refine ⟨o, (mem_readyR L rest j o).2 ⟨_, (h.mem j _ o).2 ⟨ho, by rw [← h.bit j hj]; exact h1, rfl⟩, ?_⟩⟩
    rw [isIn_iff]
    intro k hk
    rw [maskE_bit, List.any_eq_true] at hk
    obtain ⟨e, he, hb⟩ := hk
    simp only [Bool.and_eq_true, decide_eq_true_eq] at hb
    have := h2 e (by simpa using he) (by rw [isBind_eq]; exact hb.1)
    rw [h.get, hb.2] at this
    exact this
  · rintro ⟨o, ho⟩
    obtain ⟨m, h1, h2⟩ := (mem_readyR L rest j o).1 ho
    obtain ⟨h3, h4, rfl⟩ := (h.mem j m o).1 h1
    have hj : j < all.size := (Array.getElem?_eq_some_iff.1 h3).1
    refine ⟨by rw [h.bit j hj]; exact h4, o, h3, ?_⟩
    intro e he hb
    rw [h.get]
    rw [isIn_iff] at h2
    refine h2 e.on ?_
    rw [maskE_bit, List.any_eq_true]
    rw [isBind_eq] at hb
    exact ⟨e, by simpa using he, by simp [hb]⟩

theorem mem_dropR (i : Nat) : ∀ (r : List (Nat × Nat × Oper)), (r.map (·.1)).Nodup → ∀ j m o, ((j, m, o) ∈ dropR i r ↔ (j, m, o) ∈ r ∧ j ≠ i)
  | [], _, j, m, o => by simp [dropR]
  | (k, m', x) :: r, hn, j, m, o => by
    simp only [List.map_cons, List.nodup_cons] at hn
    have ih := mem_dropR i r hn.2 j m o
    simp only [dropR]
    cases hb : nb k i with
    | true =>
      have := nb_of hb
      subst this
      simp only [cond_true, List.mem_cons, Prod.mk.injEq]
      constructor
      · intro h
        refine ⟨.inr h, ?_⟩
        rintro rfl
        exact hn.1 (List.mem_map.2 ⟨_, h, rfl⟩)
      · rintro ⟨⟨rfl, _⟩ | h, hne⟩
        · exact absurd rfl hne
        · exact h
    | false =>
      have hki : k ≠ i := by rintro rfl; rw [nb_refl] at hb; cases hb
      simp only [cond_false, List.mem_cons, Prod.mk.injEq, ih]
      constructor
      · rintro (⟨rfl, rfl, rfl⟩ | ⟨h, hne⟩)
        · exact ⟨.inl ⟨rfl, rfl, rfl⟩, hki⟩
        · exact ⟨.inr h, hne⟩
      · rintro ⟨⟨rfl, rfl, rfl⟩ | h, hne⟩
        · exact .inl ⟨rfl, rfl, rfl⟩
        · exact .inr ⟨h, hne⟩

theorem dropR_sub (i : Nat) : ∀ (r : List (Nat × Nat × Oper)), List.Sublist ((dropR i r).map (·.1)) (r.map (·.1))
  | [] => by simp [dropR]
  | (k, m', x) :: r => by
    simp only [dropR]
    cases nb k i with
    | true => simp
    | false => simpa using dropR_sub i r

theorem Listed.push {all : Array Oper} {rest : List (Nat × Nat × Oper)} {L : Nat} {listed : Array Bool} (h : Listed all rest L listed) {i : Nat} (hi : i < all.size) : Listed all (dropR i rest) (Nat.lor L (Nat.shiftLeft 1 i)) (listed.setIfInBounds i true) := by
  refine ⟨by simp [h.size], ?_, ?_, ?_, (dropR_sub i rest).nodup h.nodup⟩
  · intro j hj
    rw [bit_or]
    by_cases hij : i = j
    · subst hij
      have : i < listed.size := by rw [h.size]; exact hi
      simp [this]
    · rw [getD_set_ne true hij, h.bit j hj]; simp [hij]
  · intro j hj
    rw [bit_or] at hj
    simp only [Bool.or_eq_true, decide_eq_true_eq] at hj
    rcases hj with hj | rfl
    · exact h.low j hj
    · exact hi
  · intro j m o
    rw [mem_dropR i rest h.nodup, h.mem, bit_or]
    constructor
    · rintro ⟨⟨h1, h2, h3⟩, hne⟩
      exact ⟨h1, by simp [h2]; omega, h3⟩
    · rintro ⟨h1, h2, h3⟩
      simp only [Bool.or_eq_false_iff, decide_eq_false_iff_not] at h2
      exact ⟨⟨h1, h2.1, h3⟩, by omega⟩

theorem prepR_mem : ∀ (l : List Oper) (k : Nat) (i m : Nat) (o : Oper), (i, m, o) ∈ prepR k l ↔ ∃ j, l[j]? = some o ∧ i = k + j ∧ m = maskE o.after.toList
  | [], k, i, m, o => by simp [prepR]
  | x :: l, k, i, m, o => by
    simp only [prepR, List.mem_cons, Prod.mk.injEq, prepR_mem l (k+1) i m o]
    constructor
    · rintro (⟨rfl, rfl, rfl⟩ | ⟨j, h1, h2, h3⟩)
      · exact ⟨0, rfl, by omega, rfl⟩
      · exact ⟨j+1, by simpa using h1, by omega, h3⟩
    · rintro ⟨j, h1, h2, h3⟩
      cases j with
      | zero => simp at h1; subst h1; exact .inl ⟨by omega, h3, rfl⟩
      | succ j => exact .inr ⟨j, by simpa using h1, by omega, h3⟩

theorem prepR_low : ∀ (l : List Oper) (k : Nat) i, i ∈ (prepR k l).map (·.1) → k ≤ i
  | [], k, i, h => by simp [prepR] at h
  | x :: l, k, i, h => by
    simp only [prepR, List.map_cons, List.mem_cons] at h
    rcases h with rfl | h
    · exact Nat.le_refl _
    · have := prepR_low l (k+1) i h; omega

theorem prepR_nodup : ∀ (l : List Oper) (k : Nat), ((prepR k l).map (·.1)).Nodup
  | [], _ => by simp [prepR]
  | x :: l, k => by
    simp only [prepR, List.map_cons, List.nodup_cons]
    refine ⟨fun h => ?_, prepR_nodup l (k+1)⟩
    have := prepR_low l (k+1) k h
    omega

theorem Listed.start (all : Array Oper) : Listed all (prepR 0 all.toList) 0 (Array.replicate all.size false) := by
  refine ⟨by simp, fun i hi => by simp [hi], fun i hi => by simp at hi, ?_, prepR_nodup _ _⟩
  intro i m o
  rw [prepR_mem]
  constructor
  · rintro ⟨j, h1, h2, h3⟩
    have : i = j := by omega
    subst this
    exact ⟨by simpa using h1, by simp, h3⟩
  · rintro ⟨h1, _, h3⟩
    exact ⟨i, by simpa using h1, by omega, h3⟩

theorem firstR_some {L : Nat} : ∀ {r : List (Nat × Nat × Oper)} {i : Nat} {o : Oper}, firstR L r = some (i, o) → (i, o) ∈ readyR L r ∧ isFl o = true
  | [], i, o, h => by simp [firstR] at h
  | (k, m, x) :: r, i, o, h => by
    simp only [firstR] at h
    simp only [readyR]
    cases hf : (isFl x && isIn m L) with
    | true =>
      rw [hf] at h; simp at h
      obtain ⟨rfl, rfl⟩ := h
      simp only [Bool.and_eq_true] at hf
      rw [hf.2]
      exact ⟨by simp, hf.1⟩
    | false =>
      rw [hf] at h
      obtain ⟨h1, h2⟩ := firstR_some h
      refine ⟨?_, h2⟩
      cases isIn m L with
      | true => simp [h1]
      | false => simpa using h1

theorem allP_mem {f : Nat → Oper → Prop} : ∀ {l : List (Nat × Oper)} {i : Nat} {o : Oper}, allP f l → (i, o) ∈ l → f i o
  | [], _, _, _, h => by simp at h
  | [x], i, o, h, hm => by simp at hm; subst hm; exact h
  | x :: y :: l, i, o, h, hm => by
    rcases List.mem_cons.1 hm with rfl | hm
    · exact h.1
    · exact allP_mem h.2 hm

theorem pairsOk_get {ops : Array Oper} {i : Nat} {oi : Oper} : ∀ {l : List Oper} {k : Nat}, pairsOk G ops i oi k l = true → ∀ (j : Nat) oj, l[j]? = some oj →
    (i = k + j → ∀ d, oi.dst = some d → d ∉ oi.looksAt ops) ∧ (i ≠ k + j → memE i oj = true ∨ memE (k + j) oi = true ∨ (Oper.apart ops oi oj = true ∧ quietG G oj.op = true))
  | [], _, _, j, oj, h => by simp at h
  | x :: l, k, h, j, oj, hj => by
    simp only [pairsOk, Bool.and_eq_true] at h
    obtain ⟨h1, h2⟩ := h
    cases j with
    | succ j =>
      have := pairsOk_get h2 j oj (by simpa using hj)
      rwa [show k + 1 + j = k + (j + 1) by omega] at this
    | zero =>
      simp at hj; subst hj
      refine ⟨?_, ?_⟩
      · intro hik d hd hm
        have : nb i k = true := by rw [nb_eq]; omega
        rw [this, hd] at h1
        simp only [cond_true] at h1
        rw [(memL_eq _ _).2 hm] at h1
        cases h1
      · intro hik
        have : nb i k = false := by
          cases hb : nb i k with
          | false => rfl
          | true => exact absurd (nb_of hb) (by omega)
        rw [this] at h1
        simp only [cond_false] at h1
        cases ha : memE i x with
        | true => exact .inl rfl
        | false =>
          rw [ha] at h1
          simp only [cond_false] at h1
          cases hb : memE k oi with
          | true => exact .inr (.inl (by simpa using hb))
          | false =>
            rw [hb] at h1
            simp only [cond_false, Bool.and_eq_true] at h1
            exact .inr (.inr h1)

theorem drawOk_get {ops : Array Oper} {all : List Oper} : ∀ {l : List Oper} {k : Nat}, drawOk G ops all k l = true → ∀ (j : Nat) oj, l[j]? = some oj →
    isSel oj.op = false ∧ (isFl oj = true → pairsOk G ops (k + j) oj 0 all = true)
  | [], _, _, j, oj, h => by simp at h
  | x :: l, k, h, j, oj, hj => by
    simp only [drawOk, Bool.and_eq_true] at h
    obtain ⟨h1, h2⟩ := h
    cases j with
    | succ j =>
      have := drawOk_get h2 j oj (by simpa using hj)
      rwa [show k + 1 + j = k + (j + 1) by omega] at this
    | zero =>
      simp at hj; subst hj
      cases hs : isSel x.op with
      | true => rw [hs] at h1; cases h1
      | false =>
        refine ⟨rfl, fun hf => ?_⟩
        rw [hs, hf] at h1
        exact h1

theorem memE_iff {i : Nat} {o : Oper} : memE i o = true ↔ ∃ e ∈ o.after, Region.binds .any e = true ∧ e.on = i := by
  unfold memE
  rw [anyL_eq, List.any_eq_true]
  constructor
  · rintro ⟨e, he, h⟩
    simp only [Bool.and_eq_true] at h
    exact ⟨e, by simpa using he, by rw [isBind_eq]; exact h.1, nb_of h.2⟩
  · rintro ⟨e, he, h1, h2⟩
    exact ⟨e, by simpa using he, by rw [isBind_eq] at h1; simp [h1, h2]⟩

/-- the worlds in which what is held is as it was -/
def Ag (tt : TypeId → Option TI) (E : List RI) (Pp : Per) (objs : List Ob) (w : World) (w2 : World) : Prop := ∀ ad v, Held tt E Pp objs w ad v → w2.cell? ad = some v

theorem Ag.self (hw : WR tt E Pp objs w) : Ag tt E Pp objs w w := fun _ _ h => h.cell hw

theorem noMaps_get : ∀ (l : List Ob) (i : Nat), (noMaps l)[i]? = (l[i]?).map fun o => match o with | .map _ _ _ => .dead | .iter _ _ => .dead | o => o
  | [], i => by simp [noMaps]
  | o :: l, i => by cases o <;> cases i <;> simp [noMaps, noMaps_get l]

theorem noMaps_box {i : Nat} {cs : List PV} (h : (noMaps objs)[i]? = some (.box cs)) : objs[i]? = some (.box cs) := by
  rw [noMaps_get] at h
  cases hx : objs[i]? with
  | none => rw [hx] at h; simp at h
  | some o => rw [hx] at h; cases o <;> simp at h; rw [h]
theorem noMaps_row {i : Nat} {e : TypeId} {d : D} {wr : Bool} (h : (noMaps objs)[i]? = some (.row e d wr)) : objs[i]? = some (.row e d wr) := by
  rw [noMaps_get] at h
  cases hx : objs[i]? with
  | none => rw [hx] at h; simp at h
  | some o => rw [hx] at h; cases o <;> simp at h; obtain ⟨rfl, rfl, rfl⟩ := h; rfl
theorem noMaps_map {i : Nat} {k : CK} {e : TypeId} {d : D} (h : (noMaps objs)[i]? = some (.map k e d)) : False := by
  rw [noMaps_get] at h
  cases hx : objs[i]? with
  | none => rw [hx] at h; simp at h
  | some o => rw [hx] at h; cases o <;> simp at h

theorem WR.rwAg (hw : WR tt E Pp objs w) : RW tt E Pp (noMaps objs) (Ag tt E Pp objs w) := by
  refine ⟨?_, ?_, ?_, ?_, ?_, ?_⟩
  · intro w2 h2 ad v hv; exact h2 ad v (.inl hv)
  · intro i cs b ho hE
    have ho := noMaps_box ho
    obtain ⟨ri, hri, hor⟩ := hw.ob i _ ho rfl
    rw [hE] at hri; cases hri
    obtain ⟨vs, T, hb, hvs, _⟩ := hor
    refine ⟨vs, hvs, fun w2 h2 j v hj => h2 _ _ (.inr ⟨by rw [cell_of_block hb]; exact hj, i, .inl ⟨cs, ho, hE⟩⟩)⟩
  · intro i e d wr ho hE
    have ho := noMaps_row ho
    obtain ⟨ri, hri, hor⟩ := hw.ob i _ ho rfl
    rw [hE] at hri; cases hri
    exact hor
  · intro i e d wr g o len cap ho hE
    have ho := noMaps_row ho
    obtain ⟨ri, hri, hor⟩ := hw.ob i _ ho rfl
    rw [hE] at hri; cases hri
    obtain ⟨vs, T, rows, hb, hd, hl, hcap, hsz, hrow, _, _⟩ := hor
    exact ⟨vs, rows, hd, hl, hrow, fun w2 h2 j v hj _ hlt => h2 _ _ (.inr ⟨by rw [cell_of_block hb]; exact hj, i, .inr ⟨e, d, wr, o, len, cap, ho, hE, hlt⟩⟩)⟩
  · intro i e d g o len cap ho hE
    have ho := noMaps_row ho
    obtain ⟨ri, hri, hor⟩ := hw.ob i _ ho rfl
    rw [hE] at hri; cases hri
    exact OR.frz hor
  · intro i kc e d b bs cl ho
    exact (noMaps_map ho).elim

def AgG (G : Cfg) (E : List RI) (Pp : Per) (objs : List Ob) (w : World) (w2 : World) : Prop := match G.pers with
  | true => ∀ ad v, Pp ad v → w2.cell? ad = some v
  | false => Ag G.tt E Pp objs w w2

theorem AgG.self (hw : WR G.tt E Pp objs w) : AgG G E Pp objs w w := by
  unfold AgG
  split
  · exact fun ad v h => hw.pi _ _ h
  · exact Ag.self hw

theorem deadO_get : ∀ (l : List Ob) (i : Nat) (o : Ob), (deadO l)[i]? = some o → o = .dead
  | [], i, o, h => by simp [deadO] at h
  | x :: l, 0, o, h => by simp [deadO] at h; exact h.symm
  | x :: l, i+1, o, h => by simp [deadO] at h; exact deadO_get l i o h

theorem WR.rwAgG (hw : WR G.tt E Pp objs w) : RW G.tt E Pp (viewO G objs) (AgG G E Pp objs w) := by
  unfold viewO AgG
  cases G.pers with
  | true =>
    refine ⟨fun w2 h2 => h2, ?_, ?_, ?_, ?_, ?_⟩
    · intro i cs b ho; cases deadO_get _ _ _ ho
    · intro i e d wr ho; cases deadO_get _ _ _ ho
    · intro i e d wr g o len cap ho; cases deadO_get _ _ _ ho
    · intro i e d g o len cap ho; cases deadO_get _ _ _ ho
    · intro i kc e d b bs cl ho; cases deadO_get _ _ _ ho
  | false => exact hw.rwAg

/-- ████ A REGION IN ANY ORDER ████ -/
theorem anyR_ok (htt : TtOk P G.tt) (hB : B.E0.length = G.n0) {all : Array Oper} (hok : drawOk G all all.toList 0 all.toList = true) {Q : St → Prop} {Q' : Exit → Act → World → Prop} (hQ : ∀ E Pp st a w, Sim G.tt G.n B E Pp st a w → Q st → Q' .normal a w) (hQp : ∀ c a w, ¬ Q' (.panic c) a w) :
    ∀ (n : Nat) (rest : List (Nat × Nat × Oper)) (L : Nat) (listed : Array Bool) (st : St) (E : List RI) (Pp : Per) (a : Act) (w : World), Listed all rest L listed → Sim G.tt G.n B E Pp st a w → anyR std G (FC P G.tt) all.toList n rest L st Q →
      wpAnyJ P all (fun i => match all[i]? with | some o => !quietG G o.op | none => false) Q' (AgG G E Pp st.o w) n listed a w := by
  have hsel : ∀ (j : Nat) (o : Oper) cs b, all[j]? = some o → o.op ≠ .select cs b := by
    intro j o cs b ho he
    have := (drawOk_get hok j o (by simpa using ho)).1
    rw [he] at this; cases this
  intro n
  induction n with
  | zero =>
    intro rest L listed st E Pp a w hl h hr
    simp only [anyR] at hr
    split at hr
    · rename_i hrd
      refine ⟨AgG.self h.wr, ?_, hQ _ _ _ _ _ h hr⟩
      apply List.eq_nil_iff_forall_not_mem.2
      intro j hj
      obtain ⟨o, ho⟩ := (ready_iff hl j).1 hj
      rw [hrd] at ho; simp at ho
    · exact hr.elim
  | succ n ih =>
    intro rest L listed st E Pp a w hl h hr
    simp only [anyR] at hr
    split at hr
    · -- a float
        rename_i i' o hf
        obtain ⟨hmem, hflt⟩ := firstR_some hf
        have hready := (ready_iff hl i').2 ⟨o, hmem⟩
        obtain ⟨mk, hmk, _⟩ := (mem_readyR L rest i' o).1 hmem
        have h1 : all.toList[i']? = some o := by simpa using ((hl.mem i' mk o).1 hmk).1
        have hio : all[i']? = some o := by simpa using h1
        have hsz : i' < all.size := (Array.getElem?_eq_some_iff.1 hio).1
        have hp := (drawOk_get hok i' o h1).2 hflt
        rw [Nat.zero_add] at hp
        have hpg := pairsOk_get hp
        have hflt := isFl_flt hflt
        have hqi : quietOp G.keep o.op = true := by
          cases hop : o.op <;> rw [hop] at hflt <;> first | rfl | (simp [isFlt] at hflt; done) | skip
          rename_i c
          obtain ⟨callee, as, ts⟩ := c
          cases callee <;> first | rfl | (simp [isFlt] at hflt; done)
        have hqi : quietG G o.op = true := by
          unfold quietG; split
          · rfl
          · exact hqi
        have hfree : ∀ j oj, all[j]? = some oj → j ≠ i' → listed.getD j true = false → (∀ e ∈ oj.after, Region.binds .any e = true → e.on ≠ i') → o.apart all oj = true ∧ (match all[j]? with | some o => !quietG G o.op | none => false) = false := by
          intro j oj hj hne hun hno
          have hg := (hpg j oj (by simpa using hj)).2 (by omega)
          rw [Nat.zero_add] at hg
          rcases hg with hg | hg | ⟨hg1, hg2⟩
          · obtain ⟨e, he, hb, heq⟩ := memE_iff.1 hg
            exact absurd heq (hno e he hb)
          · obtain ⟨e, he, hb, heq⟩ := memE_iff.1 hg
            obtain ⟨_, o2, ho2, hall⟩ := mem_ready.1 hready
            rw [hio] at ho2; cases ho2
            have := hall e he hb
            rw [heq] at this
            exfalso
            have hjs : j < listed.size := by rw [hl.size]; exact (Array.getElem?_eq_some_iff.1 hj).1
            rw [Array.getD_eq_getD_getElem?] at this hun
            simp [hjs] at this hun
            rw [this] at hun; cases hun
          · exact ⟨hg1, by rw [hj]; simp [hg2]⟩
        have hself := (hpg i' o h1).1 (by omega)
        have hD : (match all[i']? with | some o => !quietG G o.op | none => false) = false := by rw [hio]; simp [hqi]
        have hagrw := h.wr.rwAgG (G := G)
        -- what it comes to
        have go : ∀ v st'', Sim G.tt G.n B E Pp st'' (a.put o.dst v) w → st''.o = st.o → anyR std G (FC P G.tt) all.toList n (dropR i' rest) (Nat.lor L (Nat.shiftLeft 1 i')) st'' Q → YieldsJ P all (AgG G E Pp st.o w) o v a →
            wpAnyJ P all (fun i => match all[i]? with | some o => !quietG G o.op | none => false) Q' (AgG G E Pp st.o w) (n+1) listed a w := by
          intro v st'' h5 h6 h7 h8
          have h9 := ih _ _ (listed.setIfInBounds i' true) st'' E Pp _ w (hl.push hsz) h5 h7
          rw [h6] at h9
          exact wpAnyJ_first hio hsel hQp hD hself n listed a w hfree hready h8 (AgG.self h.wr) h9
        have run : ∀ st1, Sim G.tt G.n B E Pp st1 a w → st1.o = st.o → pureOp std G.tt o.op o.type st1.s (viewO G st1.o) (fun v => putK G o.dst v st1 (fun st' => anyR std G (FC P G.tt) all.toList n (dropR i' rest) (Nat.lor L (Nat.shiftLeft 1 i')) st' Q)) → Region.wanted o (yielded all a.tmps) = true →
            wpAnyJ P all (fun i => match all[i]? with | some o => !quietG G o.op | none => false) Q' (AgG G E Pp st.o w) (n+1) listed a w := by
          intro st1 h5 h6 h7 h8
          rw [h6] at h7
          obtain ⟨v, pv, hrun, hv, hK⟩ := pureOp_ok htt hagrw h5.slots h7
          obtain ⟨st'', q1, q2, q3⟩ := put_sim h5.size h5.defers hv h5.slots h5.toW hK
          exact go v st'' q1 (q3.trans h6) q2 (.inl ⟨h8, hrun⟩)
        have skip : ∀ st1, Sim G.tt G.n B E Pp st1 a w → st1.o = st.o → putK G o.dst (.tup []) st1 (fun st' => anyR std G (FC P G.tt) all.toList n (dropR i' rest) (Nat.lor L (Nat.shiftLeft 1 i')) st' Q) → Region.wanted o (yielded all a.tmps) = false →
            wpAnyJ P all (fun i => match all[i]? with | some o => !quietG G o.op | none => false) Q' (AgG G E Pp st.o w) (n+1) listed a w := by
          intro st1 h5 h6 h7 h8
          obtain ⟨st'', q1, q2, q3⟩ := put_sim (v := undef) h5.size h5.defers (.tup [] [] .nil) h5.slots h5.toW h7
          exact go undef st'' q1 (q3.trans h6) q2 (.inr ⟨h8, rfl⟩)
        unfold guarded at hr
        split at hr
        · rename_i hgd
          exact run st h rfl hr (by unfold Region.wanted; rw [hgd])
        · rename_i j want hgd
          split at hr
          · exact hr.elim
          rename_i oj hj
          rw [nthOp_eq] at hj
          have hj' : all[j]? = some oj := by simpa using hj
          split at hr
          · exact hr.elim
          rename_i dj hdj
          split at hr
          · rename_i b hlk
            have hwt := wanted_of hgd hj' hdj h hlk (.inl rfl)
            cases hb : bEq b want with
            | true => rw [hb] at hr hwt; exact run st h rfl hr hwt
            | false => rw [hb] at hr hwt; exact skip st h rfl hr hwt
          · rename_i b hlk
            have hwt := wanted_of hgd hj' hdj h hlk (.inr rfl)
            cases hb : bEq b want with
            | true =>
              have hbe := bEq_eq.1 hb
              rw [hb] at hwt
              exact run _ (set_bool h hlk hbe) rfl (hr.1 hbe) hwt
            | false =>
              have hbe : b = bNot want := by
                clear hr hfree hpg hself hD run skip go ih
                rw [bNot_eq]; cases b <;> cases want <;> first | rfl | (simp [bEq] at hb)
              rw [hb] at hwt
              exact skip _ (set_bool h hlk hbe) rfl (hr.2 hbe) hwt
          · rename_i hlk
            exact skip st h rfl hr (wanted_undef hgd hj' hdj h hlk)
          · exact hr.elim
    · split at hr
      · rename_i hrd
        have hnil : Region.ready .any all listed = [] := by
          apply List.eq_nil_iff_forall_not_mem.2
          intro j hj
          obtain ⟨o, ho⟩ := (ready_iff hl j).1 hj
          rw [hrd] at ho; simp at ho
        exact ⟨AgG.self h.wr, fun _ => hQ _ _ _ _ _ h hr, fun i hi => by rw [hnil] at hi; cases hi⟩
      · -- every other one
        rename_i r rs hrd
        refine ⟨AgG.self h.wr, fun h0 => ?_, fun i' hi => ?_⟩
        · exfalso
          have : (r.1, r.2) ∈ readyR L rest := by rw [hrd]; simp
          have := (ready_iff hl r.1).2 ⟨r.2, this⟩
          rw [h0] at this; cases this
        · obtain ⟨o, ho⟩ := (ready_iff hl i').1 hi
          obtain ⟨mk, hmk, _⟩ := (mem_readyR L rest i' o).1 ho
          have hio : all[i']? = some o := ((hl.mem i' mk o).1 hmk).1
          have hsz : i' < all.size := (Array.getElem?_eq_some_iff.1 hio).1
          rw [hrd] at ho
          have hg := allP_mem hr ho
          refine guarded_wp hB hio ?_ ?_ h hg
          · intro st1 h5 h6 hc _
            refine Oper.wp_mono ?_ (stepC_ok htt hB h5.toW h5.slots hc)
            rintro a' w' ⟨st', E', Pp', v, pv, rfl, hv, hs, hw, hK, hH, hM⟩
            obtain ⟨st'', q1, q2, q3⟩ := put_sim h5.size h5.defers hv hs hw hK
            have h9 := ih _ _ (listed.setIfInBounds i' true) st'' E' Pp' _ w' (hl.push hsz) q1 q2
            simp only [hio]
            cases hq : quietG G o.op with
            | false => simp only [Bool.not_false, if_true]; exact h9.any
            | true =>
              simp only [Bool.not_true, Bool.false_eq_true, if_false]
              refine h9.mono (fun w2 h2 => ?_)
              unfold AgG at h2 ⊢
              unfold quietG at hq
              cases hps : G.pers with
              | true => rw [hps] at h2; exact fun ad u hu => h2 ad u (hM ad u hu)
              | false =>
                rw [hps] at h2 hq
                intro ad u hu
                refine h2 ad u ?_
                rw [q3]
                rw [← h6] at hu
                exact hH hq ad u hu
          · intro st'' q1 q2 _ q3
            have h9 := ih _ _ (listed.setIfInBounds i' true) st'' E Pp _ w (hl.push hsz) q1 q2
            rw [q3] at h9
            simp only [hio]
            cases hq : quietG G o.op with
            | false => simp only [Bool.not_false, if_true]; exact h9.any
            | true => simp only [Bool.not_true, Bool.false_eq_true, if_false]; exact h9

end
end Go.VC
end

section
/- The engine, part 12c: code, functions. -/
namespace Go.VC
open Go

section
variable {P : Program} {G : Cfg} {B : Base} {E : List RI} {Pp : Per} {w : World} {st : St} {a : Act}

theorem regP_ok (htt : TtOk P G.tt) (hm : P.follows .mixedOrders = true) (id : Nat) (ops : Array Oper) (draw : Bool) : ∀ (st : St) (Q : Ex → St → Prop), regP std G (FC P G.tt) id ops draw st (Q .normal) → PWp P G.tt G.n G.n0 (.region id ops draw) st Q := by
    intro st Q h B E Pp a w hb hs
    cases draw with
    | true =>
      refine wp_region_any hm ?_
      have hany : drawOk G ops ops.toList 0 ops.toList = true ∧ anyR std G (FC P G.tt) ops.toList (lenL ops.toList) (prepR 0 ops.toList) 0 ⟨st.s, hurtO (cutRows st.s ops.toList ops.toList) 0 st.o⟩ (Q .normal) := by
        simp only [regP] at h
        split at h
        · exact ⟨h.1 (fun h => h), h.2⟩
        · have h1 := h.1 (fun h => h)
          simp only [Bool.and_eq_true] at h1
          refine ⟨h1.1, ?_⟩
          rw [← linR_eq std G (FC P G.tt) _ _ _ _ _ ?_ h1.2]
          · exact h.2
          · intro i m o hm
            obtain ⟨j, e1, e2, _⟩ := (prepR_mem _ _ _ _ _).1 hm
            rw [nthOp_eq, e2, Nat.zero_add]; exact e1
      obtain ⟨h1, h2⟩ := hany
      have hd : Sim G.tt G.n B E (hurtP G.tt E st.o w Pp (cutRows st.s ops.toList ops.toList)) ⟨st.s, hurtO (cutRows st.s ops.toList ops.toList) 0 st.o⟩ a { w with drawn := w.drawn + 1 } := by
        have := (hs.toW.hurt (cutRows st.s ops.toList ops.toList)).drew
        exact SimW.sim (st := ⟨st.s, hurtO (cutRows st.s ops.toList ops.toList) 0 st.o⟩) this (fun t => (hs.slots t).mono (fun _ _ h => h) (fun _ _ h => .inl h)) hs.size hs.defers
      have hl := Listed.start ops
      rw [lenL_eq, Array.length_toList] at h2
      exact (anyR_ok (B := B) htt hb h1 (Q := Q .normal) (Q' := fun e a' w' => ∃ ex st' E' Pp', exOk e ex ∧ Sim G.tt G.n B E' Pp' st' a' w' ∧ Q ex st')
        (fun E Pp st a w hs hq => ⟨.normal, st, E, Pp, trivial, hs, hq⟩) (by rintro c a w ⟨ex, _, _, _, h, _⟩; cases ex <;> exact h) ops.size _ _ _ _ E _ a _ hl hd h2).any
    | false =>
      refine wp_region ?_
      have := runOps_ok (B := B) htt hb (all := ops) (Q := Q .normal) (Q' := fun e a' w' => ∃ ex st' E' Pp', exOk e ex ∧ Sim G.tt G.n B E' Pp' st' a' w' ∧ Q ex st')
        (fun E Pp st a w hs hq => ⟨.normal, st, E, Pp, trivial, hs, hq⟩) ops.toList 0 rfl st E Pp a w hs h
      simpa [List.range_eq_range'] using this

theorem pwp_ok (htt : TtOk P G.tt) (hm : P.follows .mixedOrders = true) : ∀ (c : Code) (st : St) (Q : Ex → St → Prop), pwp std G (FC P G.tt) (fun c st Q => PWp P G.tt G.n G.n0 c st Q) c st Q → PWp P G.tt G.n G.n0 c st Q := by
  intro c
  induction c with
  | skip => intro st Q h B E Pp a w hb hs; exact wp_skip ⟨.normal, st, E, Pp, trivial, hs, h⟩
  | region id ops draw =>
    intro st Q h
    simp only [pwp] at h
    split at h
    · exact h
    · exact regP_ok htt hm id ops draw st Q h
  | seq x y ihx ihy =>
    intro st Q h B E Pp a w hb hs
    refine wp_seq (wp_mono (ihx _ _ h B E Pp a w hb hs) ?_)
    rintro e a' w' ⟨ex, st', E', Pp', he, hs', hq⟩
    cases e <;> cases ex <;> simp only [exOk] at he
    · exact ihy _ _ hq B E' Pp' a' w' hb hs'
    · subst he; exact ⟨.exit _, st', E', Pp', rfl, hs', hq⟩
    · exact ⟨.ret, st', E', Pp', trivial, hs', hq⟩
  | cond c x y ihx ihy =>
    intro st Q h B E Pp a w hb hs
    have hc := ev_ok hs.slots c
    simp only [pwp] at h
    have setT_sim : ∀ (b t : Bool), ev st.s c = .bool t → t = b → Sim G.tt G.n B E Pp (setT c b st) a w := by
      intro b t hev ht
      cases c with
      | tmp d =>
        simp only [setT]
        simp only [ev] at hev
        have hl : look st.s d = .bool t := by
          cases hx : look st.s d <;> rw [hx] at hev <;> simp [norm] at hev
          rw [hev]
        exact set_bool hs hl ht
      | _ => exact hs
    split at h
    · rename_i hev; rw [hev] at hc
      generalize hg : a.eval c = v at hc
      cases hc
      exact wp_cond_true hg (ihx _ _ h B E Pp a w hb hs)
    · rename_i hev; rw [hev] at hc
      generalize hg : a.eval c = v at hc
      cases hc
      exact wp_cond_false hg (ihy _ _ h B E Pp a w hb hs)
    · rename_i t hev; rw [hev] at hc
      generalize hg : a.eval c = v at hc
      cases hc
      cases t with
      | true => exact wp_cond_true hg (ihx _ _ (h.1 rfl) B E Pp a w hb (setT_sim _ _ hev rfl))
      | false => exact wp_cond_false hg (ihy _ _ (h.2 rfl) B E Pp a w hb (setT_sim _ _ hev rfl))
    · exact h.elim
  | block id c ih =>
    intro st Q h B E Pp a w hb hs
    refine wp_block (wp_mono (ih _ _ h B E Pp a w hb hs) ?_)
    rintro e a' w' ⟨ex, st', E', Pp', he, hs', hq⟩
    cases e <;> cases ex <;> simp only [exOk] at he
    · exact ⟨.normal, st', E', Pp', trivial, hs', hq⟩
    · rename_i i j
      subst he
      simp only [Exit.inBlock]
      simp only at hq
      by_cases hij : i = id
      · subst hij
        rw [nb_refl] at hq
        rw [if_pos rfl]
        exact ⟨.normal, st', E', Pp', trivial, hs', hq⟩
      · have hb : nb i id = false := by
          cases hb : nb i id with
          | false => rfl
          | true => exact absurd (nb_of hb) hij
        rw [hb] at hq
        rw [if_neg hij]
        exact ⟨.exit _, st', E', Pp', rfl, hs', hq⟩
    · exact ⟨.ret, st', E', Pp', trivial, hs', hq⟩
  | loop c _ => intro st Q h; exact h
  | exit id => intro st Q h B E Pp a w hb hs; exact wp_exit ⟨.exit id, st, E, Pp, rfl, hs, h⟩
  | ret => intro st Q h B E Pp a w hb hs; exact wp_ret ⟨.ret, st, E, Pp, trivial, hs, h⟩
  | rangeFunc => intro st Q h; exact h.elim
  | scope => intro st Q h; exact h.elim
  | label => intro st Q h; exact h.elim
  | goto => intro st Q h; exact h.elim
  | refuse => intro st Q h; exact h.elim

theorem look_initS_lt : ∀ (ps : List PV) (i t : Nat), look (initS i ps) t = if i ≤ t ∧ t < i + ps.length then ps.getD (t - i) .undef else .undef
  | [], i, t => by simp [initS, look]
  | p :: ps, i, t => by
    simp only [initS, look_cons, look_initS_lt ps (i+1) t]
    by_cases h : i = t
    · subst h; simp
    · rw [if_neg h]
      by_cases h2 : i + 1 ≤ t ∧ t < i + 1 + ps.length
      · rw [if_pos h2, if_pos (by simp; omega)]
        rw [show t - i = (t - (i + 1)) + 1 by omega]
        simp
      · rw [if_neg h2, if_neg (by simp; omega)]

theorem initS_ok {vals : List Value} {args : List PV} {n : Nat} (hv : VRL G.tt E Pp vals args) :
    ∀ t, VR G.tt E Pp (((⟨vals⟩ : Array Value) ++ Array.replicate n undef).getD t undef) (look (initS 0 args) t) := by
  intro t
  rw [look_initS_lt]
  have hl := hv.length
  by_cases h : 0 ≤ t ∧ t < 0 + args.length
  · rw [if_pos h]
    have hlt : t < args.length := by omega
    obtain ⟨v, h1, h2⟩ := hv.get (j := t) (p := args[t]) (List.getElem?_eq_getElem hlt)
    have e1 : args.getD (t - 0) .undef = args[t] := by simp [List.getD, List.getElem?_eq_getElem hlt]
    have e2 : ((⟨vals⟩ : Array Value) ++ Array.replicate n undef).getD t undef = v := by
      rw [Array.getD_eq_getD_getElem?, Array.getElem?_append_left (by simpa using (by omega : t < vals.length))]
      simp [h1]
    rw [e1, e2]; exact h2
  · rw [if_neg h]; exact .undef _

/-- one result -/
def resF (tmps : Array Value) : ResultVar → Sem Value
  | .tmp t => pure (tmps.getD t undef)
  | .cell a t => do loadVar t (← asAddr (tmps.getD a undef))
theorem results_eq (fn : Func) (tmps : Array Value) : results fn tmps = (do let vs ← fn.results.mapM (resF tmps); pure (if h : vs.size = 1 then vs[0] else .tuple vs)) := rfl
theorem resF_cell {tmps : Array Value} {t : Nat} {ty : TypeId} {ad : Addr} (h : tmps.getD t undef = .pointer (some ad)) : resF tmps (.cell t ty) = loadVar ty ad := by
  simp only [resF, h, asAddr, pure_bind]

theorem resPV_ok (htt : TtOk P G.tt) (hs : Sim G.tt G.n B E Pp st a w) : ∀ {l : List ResultVar} {ps : List PV}, resPV G st l = some ps →
    ∃ vs, (l.mapM (resF a.tmps)).run P w = .ok vs w ∧ VRL G.tt E Pp vs ps
  | [], ps, h => by simp [resPV] at h; subst h; exact ⟨[], by simp, .nil⟩
  | .tmp t :: r, ps, h => by
    simp only [resPV] at h
    split at h
    · rename_i l hl
      simp at h; subst h
      obtain ⟨vs, h1, h2⟩ := resPV_ok htt hs hl
      exact ⟨a.tmps.getD t undef :: vs, by simp only [List.mapM_cons, resF, Sem.run_bind, Sem.run_pure, Result.andThen_ok, h1], .cons _ _ _ _ (wk_ok 8 _ _ (norm_ok (hs.slots t))) h2⟩
    · simp at h
  | .cell t ty :: r, ps, h => by
    simp only [resPV] at h
    split at h
    · rename_i b off ti l hb hti hl
      split at h
      · rename_i cs hcs
        simp only [lenL_eq, takeL_eq, dropL_eq] at h
        cases hle : nle (off + ti.cks.length) cs.length with
        | false => rw [hle] at h; simp at h
        | true =>
          rw [hle] at h
          simp at h; subst h
          obtain ⟨vs, h1, h2⟩ := resPV_ok htt hs hl
          have hv := hs.slots t
          rw [hb] at hv
          generalize hg : a.tmps.getD t undef = v at hv
          cases hv with
          | box _ _ blk hE =>
            obtain ⟨v, h3, h4⟩ := load_box (htt _ _ hti) hs.wr.rw hE hcs (nle_of hle)
            refine ⟨v :: vs, ?_, .cons _ _ _ _ (wk_ok 8 _ _ h4) h2⟩
            have h5 : (loadVar ty ⟨blk, off, none⟩).run P w = .ok v w := by simpa [Instr.loadAt, Instr.sureAddr] using h3 w rfl
            simp only [List.mapM_cons, resF_cell hg, Sem.run_bind, Sem.run_pure, Result.andThen_ok, h5, h1]
      · simp at h
    · simp at h

theorem resOf_ok (htt : TtOk P G.tt) (hs : Sim G.tt G.n B E Pp st a w) {fn : Func} {p : PV} (h : resOf G st fn.results.toList = some p) :
    ∃ v, (results fn a.tmps).run P w = .ok v w ∧ VR G.tt E Pp v p := by
  unfold resOf at h
  have hres : ∀ vs : List Value, (fn.results.toList.mapM (resF a.tmps)).run P w = .ok vs w →
      (results fn a.tmps).run P w = .ok (if h : (⟨vs⟩ : Array Value).size = 1 then (⟨vs⟩ : Array Value)[0] else .tuple ⟨vs⟩) w := by
    intro vs hv
    simp only [results_eq, Sem.run_bind, Array.mapM_eq_mapM_toList, Sem.run_map, hv, Result.andThen_ok]
    rfl
  split at h
  · rename_i v hv
    simp at h; subst h
    obtain ⟨vs, h1, h2⟩ := resPV_ok htt hs hv
    cases h2 with
    | cons u _ vs _ hu ht =>
      cases ht
      exact ⟨u, by rw [hres _ h1]; simp, hu⟩
  · rename_i vs hne hv
    simp at h; subst h
    obtain ⟨us, h1, h2⟩ := resPV_ok htt hs hv
    refine ⟨.tuple ⟨us⟩, ?_, .tup _ _ h2⟩
    rw [hres _ h1]
    have hl := h2.length
    have : ¬ (⟨us⟩ : Array Value).size = 1 := by
      intro h1
      have : vs.length = 1 := by rw [← hl]; simpa using h1
      match vs, this with
      | [x], _ => exact hne x rfl
    rw [dif_neg this]
  · simp at h

theorem takeO_eq : ∀ (n : Nat) (l : List Ob), retK.takeO n l = l.take n
  | 0, l => by simp [retK.takeO]
  | n+1, [] => by simp [retK.takeO]
  | n+1, x :: l => by simp [retK.takeO, takeO_eq n l]

theorem enter_run {f : FuncId} {fn : Func} {c : Code} {vals : List Value} (hf : P.funcs[f]? = some fn) (hb : fn.body = some c) (hname : (fn.name == "runtime.NumGoroutine") = false) : (callFunc f ⟨vals⟩).run P w = .ok (.enter f ⟨vals⟩) w := by
  have h2 : ¬ fn.name = "runtime.NumGoroutine" := by simpa using hname
  simp [callFunc, hf, hb, h2]

/-- ████ A FUNCTION's CONTRACT OUT OF ITS CODE ████ (handed no object) -/
theorem FC_of {f : FuncId} {fn : Func} {c : Code} (htt : TtOk P G.tt) (hm : P.follows .mixedOrders = true) (hname : (fn.name == "runtime.NumGoroutine") = false) (hf : P.funcs[f]? = some fn) (hb : fn.body = some c) (hN : fn.ntmps = G.n) (hn0 : G.n0 = 0) {args : List PV} (hlen : nle (lenL args) G.n = true) {K : PV → List Ob → Prop}
    (h : pwp std G (FC P G.tt) (fun c st Q => PWp P G.tt G.n G.n0 c st Q) c ⟨initS 0 args, []⟩ fun e st => match e with | .exit _ => False | _ => retK G 0 fn.results.toList st K) : FC P G.tt f [] args K := by
  intro E Pp w vals hw hv
  have hE : E = [] := List.eq_nil_of_length_eq_zero (by rw [hw.len]; rfl)
  subst hE
  let B : Base := ⟨w, [], Pp, own [] []⟩
  have hll := hv.length
  rw [lenL_eq] at hlen
  have hle := nle_of hlen
  have hs0 : Sim G.tt G.n B [] Pp ⟨initS 0 args, []⟩ ⟨(⟨vals⟩ : Array Value) ++ Array.replicate (fn.ntmps - (⟨vals⟩ : Array Value).size) undef, []⟩ w :=
    ⟨hw, initS_ok hv, by simp; omega, rfl, fun i x h => h, fun _ _ h => h, Fr.refl _ _, fun ad v h => .inl h, fun i o ri b h => by simp at h⟩
  refine .inl ⟨enter_run hf hb hname, ?_⟩
  refine calls_of_wp hf hb (wp_mono (pwp_ok htt hm c _ _ h B [] Pp _ w (by rw [hn0]; rfl) hs0) ?_)
  rintro e a' w' ⟨ex, st', E', Pp', he, hs', hq⟩
  have fin : retK G 0 fn.results.toList st' K → a'.defers = [] ∧ ∃ v, (results fn a'.tmps).run P w' = .ok v w' ∧ FCPost G.tt [] Pp [] w K (.returned v) w' := by
    intro hr
    unfold retK at hr
    split at hr
    · rename_i p hp
      obtain ⟨v, h1, h2⟩ := resOf_ok htt hs' hp
      refine ⟨hs'.defers, v, h1, v, [], hurtP G.tt E' st'.o w' Pp' (ids st'.o 8 p), [], _, rfl, fun i x h => h, fun ad u hu => .inl (hs'.per ad u hu), ?_, frz_ok hs'.wr 8 _ _ h2 (fun i hi => hi), hr, hs'.fr, ?_, fun i o ri b h => by simp at h⟩
      · exact WR.nil (fun ad u hu => hurtP_lt hs'.wr hu)
      · intro ad u hu
        rcases hurtP_own hu with h3 | ⟨i, o, ri, h3, h4, h5, h6⟩
        · exact hs'.pnew ad u h3
        · exact .inr (hs'.fresh i o ri _ h3 h4 h5 h6)
    · exact hr.elim
  cases e <;> cases ex <;> simp only [exOk] at he
  · exact fin hq
  · exact hq.elim
  · exact fin hq


theorem nodupL_eq {l : List Nat} (h : nodupL l = true) : l.Nodup := by
  induction l with
  | nil => exact List.nodup_nil
  | cons x l ih =>
    simp only [nodupL] at h
    cases hm : memL x l with
    | true => rw [hm] at h; cases h
    | false =>
      rw [hm] at h
      rw [List.nodup_cons]
      refine ⟨fun hx => ?_, ih h⟩
      rw [(memL_eq x l).2 hx] at hm
      cases hm

theorem outPV_ok {tt : TypeId → Option TI} (hw : WR tt E Pp st.o w) {n0 : Nat} : ∀ {l : List PV} {k : Nat} {vs : List Value} {ps : List PV} {rs : List Nat} {E0 : List RI}, outPV n0 st k l = some (ps, rs) → VRL tt E Pp vs l → E0.length = k →
    VRL tt (E0 ++ rs.map (fun r => E.getD r .row0)) Pp vs ps ∧ ∀ r ∈ rs, n0 ≤ r ∧ ∃ o, st.o[r]? = some o ∧ goesO o = true ∧ o.live = true
  | [], k, vs, ps, rs, E0, h, hv, _ => by
    simp [outPV] at h
    obtain ⟨rfl, rfl⟩ := h
    cases hv
    exact ⟨.nil, fun r hr => by simp at hr⟩
  | p :: l, k, vs, ps, rs, E0, h, hv, hE0 => by
    cases hv with
    | cons v _ vs _ hv1 hv2 =>
    have plainCase : (bif isEmptyL (ids st.o 8 p) then (match outPV n0 st k l with | some (ps, rs) => some (frz st.o 8 p :: ps, rs) | none => none) else none) = some (ps, rs) →
        VRL tt (E0 ++ rs.map (fun r => E.getD r .row0)) Pp (v :: vs) ps ∧ ∀ r ∈ rs, n0 ≤ r ∧ ∃ o, st.o[r]? = some o ∧ goesO o = true ∧ o.live = true := by
      intro h
      cases hb : isEmptyL (ids st.o 8 p) with
      | false => rw [hb] at h; simp at h
      | true =>
        rw [hb] at h
        simp only [cond_true] at h
        split at h
        · rename_i ps' rs' hrec
          simp at h
          obtain ⟨rfl, rfl⟩ := h
          obtain ⟨h1, h2⟩ := outPV_ok hw hrec hv2 hE0
          refine ⟨.cons _ _ _ _ ?_ h1, h2⟩
          have hfz := frz_ok hw (F := []) 8 p v hv1 (fun i hi => by rw [isEmptyL_eq hb] at hi; exact hi)
          exact (hfz.mono (fun _ _ h => h) (fun _ _ => hurtP_nil)).of_nil _
        · simp at h
    have getE : ∀ (r : Nat) ri, E[r]? = some ri → E.getD r .row0 = ri := fun r ri h => by simp [List.getD, h]
    have hk : ∀ (r : Nat) (rs' : List Nat), (E0 ++ (r :: rs').map (fun r => E.getD r .row0))[k]? = some (E.getD r .row0) := fun r rs' => by
      rw [List.getElem?_append_right (by omega), hE0]; simp
    have shift : ∀ (r : Nat) (rs' : List Nat), (E0 ++ [E.getD r .row0]) ++ rs'.map (fun r => E.getD r .row0) = E0 ++ (r :: rs').map (fun r => E.getD r .row0) := fun r rs' => by simp
    simp only [outPV] at h
    split at h
    · rename_i e r
      split at h
      · rename_i e' d ho
        cases hb : (nb e e' && nle n0 r) with
        | false => rw [hb] at h; simp at h
        | true =>
          rw [hb] at h
          simp only [cond_true] at h
          simp only [Bool.and_eq_true] at hb
          split at h
          · rename_i ps' rs' hrec
            simp at h
            obtain ⟨rfl, rfl⟩ := h
            obtain ⟨h1, h2⟩ := outPV_ok (E0 := E0 ++ [E.getD r .row0]) hw hrec hv2 (by simp [hE0])
            rw [shift] at h1
            refine ⟨.cons _ _ _ _ ?_ h1, ?_⟩
            · cases hv1 with
              | row0 _ _ hE => exact .row0 _ _ (by rw [hk, getE r _ hE])
              | row _ _ _ _ _ _ hE => exact .row _ _ _ _ _ _ (by rw [hk, getE r _ hE])
            · intro r' hr'
              rcases List.mem_cons.1 hr' with rfl | hr'
              · exact ⟨nle_of hb.2, _, getO_live ho rfl, rfl, rfl⟩
              · exact h2 r' hr'
          · simp at h
      · simp at h
    · rename_i r
      split at h
      · rename_i kc e d ho
        cases hb : nle n0 r with
        | false => rw [hb] at h; simp at h
        | true =>
          rw [hb] at h
          simp only [cond_true] at h
          split at h
          · rename_i ps' rs' hrec
            simp at h
            obtain ⟨rfl, rfl⟩ := h
            obtain ⟨h1, h2⟩ := outPV_ok (E0 := E0 ++ [E.getD r .row0]) hw hrec hv2 (by simp [hE0])
            rw [shift] at h1
            refine ⟨.cons _ _ _ _ ?_ h1, ?_⟩
            · cases hv1 with
              | mp _ _ _ _ hE => exact .mp _ _ _ _ (by rw [hk, getE r _ hE])
            · intro r' hr'
              rcases List.mem_cons.1 hr' with rfl | hr'
              · exact ⟨nle_of hb, _, getO_live ho rfl, rfl, rfl⟩
              · exact h2 r' hr'
          · simp at h
      · simp at h
    · exact plainCase h

/-- .. that hands out rows and maps of its own -/
theorem FC_own {f : FuncId} {fn : Func} {c : Code} (htt : TtOk P G.tt) (hm : P.follows .mixedOrders = true) (hname : (fn.name == "runtime.NumGoroutine") = false) (hf : P.funcs[f]? = some fn) (hb : fn.body = some c) (hN : fn.ntmps = G.n) (hn0 : G.n0 = 0) {args : List PV} (hlen : nle (lenL args) G.n = true) {K : PV → List Ob → Prop}
    (h : pwp std G (FC P G.tt) (fun c st Q => PWp P G.tt G.n G.n0 c st Q) c ⟨initS 0 args, []⟩ fun e st => match e with | .exit _ => False | _ => retOwnK G 0 fn.results.toList st K) : FC P G.tt f [] args K := by
  intro E Pp w vals hw hv
  have hE : E = [] := List.eq_nil_of_length_eq_zero (by rw [hw.len]; rfl)
  subst hE
  let B : Base := ⟨w, [], Pp, own [] []⟩
  have hll := hv.length
  rw [lenL_eq] at hlen
  have hle := nle_of hlen
  have hs0 : Sim G.tt G.n B [] Pp ⟨initS 0 args, []⟩ ⟨(⟨vals⟩ : Array Value) ++ Array.replicate (fn.ntmps - (⟨vals⟩ : Array Value).size) undef, []⟩ w :=
    ⟨hw, initS_ok hv, by simp; omega, rfl, fun i x h => h, fun _ _ h => h, Fr.refl _ _, fun ad v h => .inl h, fun i o ri b h => by simp at h⟩
  refine .inl ⟨enter_run hf hb hname, ?_⟩
  refine calls_of_wp hf hb (wp_mono (pwp_ok htt hm c _ _ h B [] Pp _ w (by rw [hn0]; rfl) hs0) ?_)
  rintro e a' w' ⟨ex, st', E', Pp', he, hs', hq⟩
  have fin : retOwnK G 0 fn.results.toList st' K → a'.defers = [] ∧ ∃ v, (results fn a'.tmps).run P w' = .ok v w' ∧ FCPost G.tt [] Pp [] w K (.returned v) w' := by
    intro hr
    unfold retOwnK at hr
    split at hr
    · rename_i p hp
      obtain ⟨v, h1, h2⟩ := resOf_ok htt hs' hp
      split at hr
      · rename_i ps rs hout
        cases hnd : nodupL rs with
        | false => rw [hnd] at hr; exact hr.elim
        | true =>
          rw [hnd] at hr
          simp only [cond_true] at hr
          have hnd := nodupL_eq hnd
          have parts : ∃ vs, VRL G.tt E' Pp' vs (partsOf p).1 ∧ ∀ E2 ps, VRL G.tt E2 Pp' vs ps → ps.length = (partsOf p).1.length → VR G.tt E2 Pp' v (wholeOf (partsOf p).2 ps) := by
            cases p with
            | tup cs =>
              cases h2 with
              | tup us _ hl => exact ⟨us, hl, fun E2 ps h _ => .tup _ _ h⟩
            | _ =>
              refine ⟨[v], .cons _ _ _ _ h2 .nil, fun E2 ps h hl => ?_⟩
              cases h with
              | cons _ q _ _ h3 h4 => cases h4; exact h3
          obtain ⟨vs, hvs, hwhole⟩ := parts
          obtain ⟨h3, h4⟩ := outPV_ok (E0 := []) hs'.wr hout hvs rfl
          rw [List.nil_append] at h3
          have hE2 : ∀ (j : Nat) r, rs[j]? = some r → ∀ ri, E'[r]? = some ri → (rs.map (fun r => E'.getD r .row0))[j]? = some ri := by
            intro j r hj ri hri
            simp [hj, List.getD, hri]
          have hO2 : ∀ (j : Nat) o, (mapL (getO st'.o) rs)[j]? = some o → ∃ r, rs[j]? = some r ∧ st'.o[r]? = some o ∧ goesO o = true ∧ o.live = true := by
            intro j o hj
            rw [mapL_eq, List.getElem?_map] at hj
            cases hx : rs[j]? with
            | none => rw [hx] at hj; simp at hj
            | some r =>
              rw [hx] at hj
              simp at hj
              obtain ⟨_, o', q1, q2, q3⟩ := h4 r (List.mem_of_getElem? hx)
              have : getO st'.o r = o' := by rw [getO_eq]; simp [List.getD, q1]
              rw [this] at hj; subst hj
              exact ⟨r, rfl, q1, q2, q3⟩
          refine ⟨hs'.defers, v, h1, v, rs.map (fun r => E'.getD r .row0), Pp', mapL (getO st'.o) rs, _, rfl, fun i x h => by simp at h, fun ad u hu => hs'.per ad u hu, ?_, hwhole _ _ h3 (by rw [← h3.length, ← hvs.length]), hr, hs'.fr, hs'.pnew, ?_⟩
          · refine ⟨by simp [mapL_eq], hs'.wr.pi, ?_, ?_⟩
            · intro j o hj hl
              obtain ⟨r, q1, q2, q3, q4⟩ := hO2 j o hj
              obtain ⟨ri, hri, hor⟩ := hs'.wr.ob r o q2 q4
              exact ⟨ri, hE2 j r q1 ri hri, hor.goes q3 q4⟩
            · intro i j oi oj ri rj b hi hj hli hlj hEi hEj hbi hbj
              obtain ⟨r, q1, q2, q3, q4⟩ := hO2 i oi hi
              obtain ⟨r', p1, p2, p3, p4⟩ := hO2 j oj hj
              obtain ⟨ri', hri, _⟩ := hs'.wr.ob r oi q2 q4
              obtain ⟨rj', hrj, _⟩ := hs'.wr.ob r' oj p2 p4
              rw [hE2 i r q1 ri' hri] at hEi; cases hEi
              rw [hE2 j r' p1 rj' hrj] at hEj; cases hEj
              have := hs'.wr.sep r r' oi oj ri rj b q2 p2 q4 p4 hri hrj hbi hbj
              subst this
              exact nodup_idx hnd q1 p1
          · intro j o ri b hj hl hEj hb
            obtain ⟨r, q1, q2, q3, q4⟩ := hO2 j o hj
            obtain ⟨ri', hri, _⟩ := hs'.wr.ob r o q2 q4
            rw [hE2 j r q1 ri' hri] at hEj; cases hEj
            exact hs'.fresh r o ri b q2 q4 hri hb
      · exact hr.elim
    · exact hr.elim
  cases e <;> cases ex <;> simp only [exOk] at he
  · exact fin hq
  · exact hq.elim
  · exact fin hq

end
end Go.VC
end

section
/- The engine, part 13: what may be forgotten; loops. -/
namespace Go.VC
open Go

/-- q says no more than p -/
def pvLe : PV → PV → Prop
  | _, .undef => True
  | .bl a, .bool b => a = b
  | .lsf e d, .lst e' d' => e = e' ∧ d = d'
  | .lst e d, .lst e' d' => e = e' ∧ d = d'
  | .int k n, .int k' n' => k = k' ∧ n = n'
  | .bool a, .bool b => a = b
  | .str a, .str b => a = b
  | .nilp, .dptr _ d => d = .nil
  | p, q => p = q
def pvLes : List PV → List PV → Prop
  | [], [] => True
  | p :: ps, q :: qs => pvLe p q ∧ pvLes ps qs
  | _, _ => False
def obLe : Ob → Ob → Prop
  | _, .dead => True
  | .box cs, .box cs' => pvLes cs cs'
  | .row e d b, .row e' d' b' => e = e' ∧ d = d' ∧ b = b'
  | .map k e d, .map k' e' d' => k = k' ∧ e = e' ∧ d = d'
  | .iter m s, .iter m' s' => m = m' ∧ s = s'
  | _, _ => False
def subO : List Ob → List Ob → Prop
  | _, [] => True
  | o :: os, q :: qs => obLe o q ∧ subO os qs
  | [], _ :: _ => False
def subS (s : Slots) : Slots → Prop
  | [] => True
  | (t, q) :: r => pvLe (look s t) q ∧ subS s r
/-- all objects named are below n -/
def lowPV (n : Nat) : Nat → PV → Bool
  | 0, _ => false
  | k+1, p => match p with
    | .agg cs => allL (lowPV n k) cs
    | .tup cs => allL (lowPV n k) cs
    | .clos _ cs => allL (lowPV n k) cs
    | .pptr cs _ => allL (lowPV n k) cs
    | .box b _ => nlt b n
    | .row _ b => nlt b n
    | .rptr _ b _ _ => nlt b n
    | .mp b => nlt b n
    | .it b => nlt b n
    | _ => true
def lowS (n : Nat) : Slots → Bool
  | [] => true
  | (_, p) :: s => lowPV n 8 p && lowS n s
def lowO (n : Nat) : List Ob → Bool
  | [] => true
  | .box cs :: l => allL (lowPV n 8) cs && lowO n l
  | .iter m _ :: l => nlt m n && lowO n l
  | _ :: l => lowO n l

/-- st2 says no more than st -/
def Sub (n0 : Nat) (st st2 : St) : Prop := (lowS (lenL st2.o) st2.s && lowO (lenL st2.o) st2.o && nle n0 (lenL st2.o)) = true ∧ subS st.s st2.s ∧ subO st.o st2.o

section
variable {P : Program} {tt : TypeId → Option TI} {N n0 : Nat} {B : Base} {E : List RI} {Pp : Per} {w : World} {st : St} {a : Act}

theorem pvLe_ok {p q : PV} {v : Value} (h : pvLe p q) (hv : VR tt E Pp v p) : VR tt E Pp v q := by
  unfold pvLe at h
  split at h
  · exact .undef _
  · subst h; cases hv; exact .bool _
  · obtain ⟨rfl, rfl⟩ := h
    cases hv with
    | lsf _ _ _ _ hr => exact .lst _ _ _ hr
  · obtain ⟨rfl, rfl⟩ := h; exact hv
  · obtain ⟨rfl, rfl⟩ := h; exact hv
  · subst h; exact hv
  · subst h; exact hv
  · subst h; cases hv; exact .dptr _ _ _ (.pnil _)
  · subst h; exact hv

theorem pvLes_ok : ∀ {ps qs : List PV} {vs : List Value}, pvLes ps qs → VRL tt E Pp vs ps → VRL tt E Pp vs qs
  | [], [], _, _, hv => hv
  | p :: ps, q :: qs, vs, h, hv => by
    cases hv with
    | cons _ _ _ _ h1 h2 => exact .cons _ _ _ _ (pvLe_ok h.1 h1) (pvLes_ok h.2 h2)
  | [], _ :: _, _, h, _ => h.elim
  | _ :: _, [], _, h, _ => h.elim

theorem lowPV_ok {n : Nat} : ∀ (k : Nat) (p : PV) (v : Value), lowPV n k p = true → VR tt E Pp v p → VR tt (E.take n) Pp v p := by
  intro k
  induction k with
  | zero => intro p v h; simp [lowPV] at h
  | succ k ih =>
    have get : ∀ (b : Nat) (x : RI), nlt b n = true → E[b]? = some x → (E.take n)[b]? = some x := by
      intro b x hb hx
      rw [List.getElem?_take_of_lt (nle_of hb)]
      exact hx
    have ihs : ∀ (cs : List PV) (vs : List Value), allL (lowPV n k) cs = true → VRL tt E Pp vs cs → VRL tt (E.take n) Pp vs cs := by
      intro cs
      induction cs with
      | nil => intro vs _ hv; cases hv; exact .nil
      | cons c cs ihc =>
        intro vs h hv
        simp only [allL, Bool.and_eq_true] at h
        cases hv with
        | cons _ _ _ _ h1 h2 => exact .cons _ _ _ _ (ih _ _ h.1 h1) (ihc _ h.2 h2)
    intro p v h hv
    cases hv with
    | undef => exact .undef _
    | int => exact .int _ _
    | bl => exact .bl _
    | bool => exact .bool _
    | str => exact .str _
    | lst _ _ _ hr => exact .lst _ _ _ hr
    | lsf _ _ _ _ hr => exact .lsf _ _ _ _ hr
    | agg vs cs hl => exact .agg _ _ (ihs _ _ h hl)
    | tup vs cs hl => exact .tup _ _ (ihs _ _ h hl)
    | box b _ _ hb => exact .box _ _ _ (get _ _ h hb)
    | row0 _ b hb => exact .row0 _ _ (get _ _ h hb)
    | row _ b _ _ _ _ hb => exact .row _ _ _ _ _ _ (get _ _ h hb)
    | rptr _ b _ _ _ _ _ _ hb h0 h1 => exact .rptr _ _ _ _ _ _ _ _ (get _ _ h hb) h0 h1
    | eptr _ _ _ _ _ _ _ _ hr h0 h1 => exact .eptr _ _ _ _ _ _ _ _ hr h0 h1
    | pptr vs cs off b o hl hpi => exact .pptr _ _ _ _ _ (ihs _ _ h hl) hpi
    | dptr _ _ _ hr => exact .dptr _ _ _ hr
    | dpp _ _ _ _ _ hr => exact .dpp _ _ _ _ _ hr
    | clos f vs cs hl => exact .clos _ _ _ (ihs _ _ h hl)
    | nilp => exact .nilp
    | nilm => exact .nilm
    | nilf => exact .nilf
    | mp b _ _ _ hb => exact .mp _ _ _ _ (get _ _ h hb)
    | it b _ hb => exact .it _ _ (get _ _ h hb)

theorem lows_ok {n k : Nat} {cs : List PV} {vs : List Value} (h : allL (lowPV n k) cs = true) (hv : VRL tt E Pp vs cs) : VRL tt (E.take n) Pp vs cs := by
  induction cs generalizing vs with
  | nil => cases hv; exact .nil
  | cons c cs ih =>
    simp only [allL, Bool.and_eq_true] at h
    cases hv with
    | cons _ _ _ _ h1 h2 => exact .cons _ _ _ _ (lowPV_ok k _ _ h.1 h1) (ih h.2 h2)

theorem lowS_look {n : Nat} {s : Slots} (h : lowS n s = true) (t : Nat) : lowPV n 8 (look s t) = true := by
  induction s with
  | nil => rfl
  | cons x s ih =>
    obtain ⟨k, p⟩ := x
    simp only [lowS, Bool.and_eq_true] at h
    rw [look_cons]
    split
    · exact h.1
    · exact ih h.2

theorem lowO_get {n : Nat} : ∀ {l : List Ob} {i : Nat} {o : Ob}, lowO n l = true → l[i]? = some o → (∀ cs, o = .box cs → allL (lowPV n 8) cs = true) ∧ (∀ m s, o = .iter m s → m < n)
  | [], i, o, _, ho => by simp at ho
  | x :: l, i, o, h, ho => by
    cases i with
    | zero =>
      simp at ho; subst ho
      refine ⟨?_, ?_⟩
      · intro cs hcs; subst hcs
        simp only [lowO, Bool.and_eq_true] at h
        exact h.1
      · intro m s hcs; subst hcs
        simp only [lowO, Bool.and_eq_true] at h
        exact nle_of h.1
    | succ i =>
      have hl : lowO n l = true := by cases x <;> simp_all [lowO]
      exact lowO_get hl (by simpa using ho)

theorem subO_get : ∀ {l k : List Ob} {i : Nat} {q : Ob}, subO l k → k[i]? = some q → ∃ o, l[i]? = some o ∧ obLe o q
  | _, [], i, q, _, h => by simp at h
  | [], _ :: _, _, _, h, _ => h.elim
  | o :: os, q :: qs, i, q', h, hq => by
    cases i with
    | zero => simp at hq; subst hq; exact ⟨o, rfl, h.1⟩
    | succ i => simpa using subO_get h.2 (by simpa using hq)

theorem subO_len : ∀ {l k : List Ob}, subO l k → k.length ≤ l.length
  | _, [], _ => by simp
  | [], _ :: _, h => h.elim
  | o :: os, q :: qs, h => by simpa using subO_len h.2

theorem subS_look {s : Slots} : ∀ {r : Slots}, subS s r → ∀ t, pvLe (look s t) (look r t)
  | [], _, t => by simp [look, pvLe]
  | (k, q) :: r, h, t => by
    rw [look_cons]
    split
    · rename_i hk; subst hk; exact h.1
    · exact subS_look h.2 t

theorem OR.le {ri : RI} {o q : Ob} {n : Nat} (h : obLe o q) (hl : q.live = true) (hlow : (∀ cs, q = .box cs → allL (lowPV n 8) cs = true) ∧ (∀ m s, q = .iter m s → m < n)) (hor : OR tt E Pp w ri o) : o.live = true ∧ OR tt (E.take n) Pp w ri q := by
  cases o <;> cases q <;> simp only [obLe] at h <;> simp [Ob.live] at hl
  case box.box cs cs' =>
    refine ⟨rfl, ?_⟩
    cases ri <;> simp only [OR] at hor ⊢
    obtain ⟨vs, T, h1, h2, h3⟩ := hor
    exact ⟨vs, T, h1, lows_ok (hlow.1 _ rfl) (pvLes_ok h h2), h3⟩
  case row.row e d b e' d' b' =>
    obtain ⟨rfl, rfl, rfl⟩ := h
    exact ⟨rfl, by cases ri <;> exact hor⟩
  case map.map k e d k' e' d' =>
    obtain ⟨rfl, rfl, rfl⟩ := h
    exact ⟨rfl, by cases ri <;> exact hor⟩
  case iter.iter m s m' s' =>
    obtain ⟨rfl, rfl⟩ := h
    refine ⟨rfl, ?_⟩
    cases ri <;> try exact hor.elim
    obtain ⟨bm, borns, clock, ls, h1, h2⟩ := hor
    exact ⟨bm, borns, clock, ls, by rw [List.getElem?_take_of_lt (hlow.2 _ _ rfl)]; exact h1, h2⟩

/-- forgetting -/
theorem Sim.sub {st2 : St} (hb : B.E0.length = n0) (h : Sim tt N B E Pp st a w) (hs : Sub n0 st st2) : Sim tt N B (E.take st2.o.length) Pp st2 a w := by
  obtain ⟨hc, h1, h2⟩ := hs
  simp only [Bool.and_eq_true, lenL_eq] at hc
  obtain ⟨⟨c1, c2⟩, c3⟩ := hc
  have c3 := nle_of c3
  have hlen := subO_len h2
  have get : ∀ (i : Nat) (x : RI), (E.take st2.o.length)[i]? = some x → E[i]? = some x := by
    intro i x hx
    rw [List.getElem?_take] at hx
    split at hx
    · exact hx
    · simp at hx
  have live : ∀ (i : Nat) q, st2.o[i]? = some q → q.live = true → ∃ o ri, st.o[i]? = some o ∧ o.live = true ∧ E[i]? = some ri ∧ (E.take st2.o.length)[i]? = some ri ∧ OR tt (E.take st2.o.length) Pp w ri q := by
    intro i q hq hl
    obtain ⟨o, ho, hle⟩ := subO_get h2 hq
    have hol : o.live = true := by cases o <;> cases q <;> simp_all [obLe, Ob.live]
    obtain ⟨ri, hri, hor⟩ := h.wr.ob i o ho hol
    obtain ⟨_, hor'⟩ := OR.le hle hl (lowO_get c2 hq) hor
    have hlt : i < st2.o.length := by
      rcases Nat.lt_or_ge i st2.o.length with h' | h'
      · exact h'
      · rw [List.getElem?_eq_none h'] at hq; simp at hq
    exact ⟨o, ri, ho, hol, hri, by rw [List.getElem?_take_of_lt hlt]; exact hri, hor'⟩
  refine ⟨⟨by simp [h.wr.len]; omega, h.wr.pi, ?_, ?_⟩, ?_, h.size, h.defers, ?_, h.per, h.fr, h.pnew, ?_⟩
  · intro i q hq hl
    obtain ⟨_, ri, _, _, _, h4, h5⟩ := live i q hq hl
    exact ⟨ri, h4, h5⟩
  · intro i j oi oj ri rj b hi hj hli hlj hEi hEj hbi hbj
    obtain ⟨o, r, h3, h4, h5, h6, _⟩ := live i oi hi hli
    obtain ⟨o', r', h3', h4', h5', h6', _⟩ := live j oj hj hlj
    exact h.wr.sep i j o o' ri rj b h3 h3' h4 h4' (get _ _ hEi) (get _ _ hEj) hbi hbj
  · intro t
    exact lowPV_ok 8 _ _ (lowS_look c1 t) (pvLe_ok (subS_look h1 t) (h.slots t))
  · intro i x hx
    have hi : i < B.E0.length := by
      rcases Nat.lt_or_ge i B.E0.length with h' | h'
      · exact h'
      · rw [List.getElem?_eq_none h'] at hx; simp at hx
    rw [List.getElem?_take_of_lt (by omega)]
    exact h.pre i x hx
  · intro i o ri b ho hl hE hbk
    obtain ⟨o', r, h3, h4, h5, _, _⟩ := live i o ho hl
    exact h.fresh i o' ri b h3 h4 (get _ _ hE) hbk

theorem wp_loop_g {α : Type} {c : Code} {Q : Exit → Act → World → Prop} (I : α → Act → World → Prop) (μ : α → Nat) (x0 : α) (h₀ : I x0 a w)
    (round : ∀ x a w, I x a w → c.wp P (Exit.then (fun a' w' => ∃ x', I x' a' w' ∧ μ x' < μ x) Q) a w) : (Code.loop c).wp P Q a w := by
  intro b k cs
  have key : ∀ n x a w, μ x = n → I x a w →
      ∃ e a' w', Q e a' w' ∧ Arrives P (lone (b.at a (.code c :: .inLoop c :: k)) cs w) b k cs e a' w' := by
    intro n
    induction n using Nat.strongRecOn with
    | _ n ih =>
      intro x a w hn hI
      obtain ⟨e, a₁, w₁, hq, harr⟩ := round x a w hI b (.inLoop c :: k) cs
      cases e with
      | normal =>
        obtain ⟨x₁, hI₁, hlt⟩ := hq
        obtain ⟨e₂, a₂, w₂, hq₂, harr₂⟩ := ih (μ x₁) (hn ▸ hlt) x₁ a₁ w₁ rfl hI₁
        exact ⟨e₂, a₂, w₂, hq₂, .of_steps (Steps.trans harr (.one step_inLoop)) harr₂⟩
      | exit id => exact ⟨_, a₁, w₁, hq, .pass (x := .inLoop c) rfl (fun _ _ => .inl (by simp)) harr⟩
      | goto l => exact ⟨_, a₁, w₁, hq, .pass (x := .inLoop c) rfl (fun _ _ => .inl (by simp)) harr⟩
      | ret => exact ⟨_, a₁, w₁, hq, .pass (x := .inLoop c) rfl (fun _ _ => .inl (by simp)) harr⟩
      | panic ch => exact ⟨_, a₁, w₁, hq, .pass (x := .inLoop c) rfl (fun _ _ => .inl (by simp)) harr⟩
      | outgrown => exact ⟨_, a₁, w₁, hq, .pass (x := .inLoop c) rfl (fun _ _ => .inl (by simp)) harr⟩
  obtain ⟨e, a', w', hq, harr⟩ := key _ x0 a w rfl h₀
  exact ⟨e, a', w', hq, .of_steps (.one step_loop) harr⟩

/-- ████ A LOOP ████ -/
theorem loop_rule {α : Type} {c : Code} {Q : Ex → St → Prop} (I : α → St) (φ : α → Prop) (μ : α → Nat) (x0 : α) (h0 : φ x0) (hst : Sub n0 st (I x0))
    (round : ∀ x, φ x → PWp P tt N n0 c (I x) fun e st' => match e with | .normal => ∃ x', φ x' ∧ μ x' < μ x ∧ Sub n0 st' (I x') | .exit i => Q (.exit i) st' | .ret => Q .ret st') : PWp P tt N n0 (.loop c) st Q := by
  intro B E Pp a w hb hs
  refine wp_loop_g (fun x a w => ∃ E Pp, φ x ∧ Sim tt N B E Pp (I x) a w) μ x0 ⟨_, Pp, h0, hs.sub hb hst⟩ ?_
  rintro x a w ⟨E, Pp, hx, hs⟩
  refine wp_mono (round x hx B E Pp a w hb hs) ?_
  rintro e a' w' ⟨ex, st', E', Pp', he, hs', hq⟩
  cases e <;> cases ex <;> simp only [exOk] at he
  · obtain ⟨x', h1, h2, h3⟩ := hq
    exact ⟨x', ⟨_, Pp', h1, hs'.sub hb h3⟩, h2⟩
  · subst he; exact ⟨.exit _, st', E', Pp', rfl, hs', hq⟩
  · exact ⟨.ret, st', E', Pp', trivial, hs', hq⟩

/-- the operations, by a name that is not opened unasked -/
def Std : Alg := std

/-- what a proof has while it steps through code: the operations, the contracts and the loops are variables -/
structure Ctx (P : Program) (G : Cfg) (A : Alg) (C : CallP) (L : Code → St → (Ex → St → Prop) → Prop) : Prop where
  a : A = Std
  c : C = FC P G.tt
  l : L = (fun c st Q => PWp P G.tt G.n G.n0 c st Q)
  tt : TtOk P G.tt
  m : P.follows .mixedOrders = true

/-- a function's code, found -/
structure Has (P : Program) (f : FuncId) (fn : Func) (c : Code) : Prop where
  f : P.funcs[f]? = some fn
  name : (fn.name == "runtime.NumGoroutine") = false
  b : fn.body = some c

/-- how a proof enters a function -/
theorem FC.enter {G : Cfg} (htt : TtOk P G.tt) (hm : P.follows .mixedOrders = true) {f : FuncId} {fn : Func} {c : Code} (hf : Has P f fn c) (hN : fn.ntmps = G.n) (hn0 : G.n0 = 0) {args : List PV} (hlen : nle (lenL args) G.n = true) {K : PV → List Ob → Prop}
    (h : ∀ (A : Alg) (C : CallP) (L : Code → St → (Ex → St → Prop) → Prop), Ctx P G A C L →
      pwp A G C L c ⟨initS 0 args, []⟩ fun e st => match e with | .exit _ => False | _ => retK G 0 fn.results.toList st K) : FC P G.tt f [] args K :=
  FC_of htt hm hf.name hf.f hf.b hN hn0 hlen (h _ _ _ ⟨rfl, rfl, rfl, htt, hm⟩)

/-- .. that hands out rows or maps of its own -/
theorem FC.enterOwn {G : Cfg} (htt : TtOk P G.tt) (hm : P.follows .mixedOrders = true) {f : FuncId} {fn : Func} {c : Code} (hf : Has P f fn c) (hN : fn.ntmps = G.n) (hn0 : G.n0 = 0) {args : List PV} (hlen : nle (lenL args) G.n = true) {K : PV → List Ob → Prop}
    (h : ∀ (A : Alg) (C : CallP) (L : Code → St → (Ex → St → Prop) → Prop), Ctx P G A C L →
      pwp A G C L c ⟨initS 0 args, []⟩ fun e st => match e with | .exit _ => False | _ => retOwnK G 0 fn.results.toList st K) : FC P G.tt f [] args K :=
  FC_own htt hm hf.name hf.f hf.b hN hn0 hlen (h _ _ _ ⟨rfl, rfl, rfl, htt, hm⟩)

/-- .. and a loop in it -/
theorem Ctx.loop {G : Cfg} {A : Alg} {C : CallP} {L : Code → St → (Ex → St → Prop) → Prop} (X : Ctx P G A C L)
    {α : Type} (I : α → St) (φ : α → Prop) (μ : α → Nat) (x0 : α) {c : Code} {st : St} {Q : Ex → St → Prop} (h0 : φ x0) (hst : Sub G.n0 st (I x0))
    (round : ∀ x, φ x → pwp A G C L c (I x) fun e st' => match e with | .normal => ∃ x', φ x' ∧ μ x' < μ x ∧ Sub G.n0 st' (I x') | .exit i => Q (.exit i) st' | .ret => Q .ret st') : L (.loop c) st Q := by
  obtain ⟨rfl, rfl, rfl, htt, hm⟩ := X
  exact loop_rule I φ μ x0 h0 hst fun x hx => pwp_ok htt hm c _ _ (round x hx)

/-- .. and a call -/
theorem Ctx.call {G : Cfg} {A : Alg} {C : CallP} {L : Code → St → (Ex → St → Prop) → Prop} (X : Ctx P G A C L) {f : FuncId} {objs : List Ob} {args : List PV} {K : PV → List Ob → Prop} (h : FC P G.tt f objs args K) : C f objs args K := by
  rw [X.c]; exact h

end
end Go.VC
end

section
/- The engine, part 14: the engine's table of types is held against the program's. -/
namespace Go.VC
open Go

def zeroIs : Value → CK → Bool
  | .int k n, .int k' => decide (k = k') && decide (n = 0)
  | .bool b, .bool => !b
  | .string s, .str => s.data.size == 0
  | .slice none 0 0, .slice _ => true
  | .pointer none, .ptr _ => true
  | .map none, .map _ => true
  | .nilFunc, .fn => true
  | _, _ => false
def zerosAre : List Value → List CK → Bool
  | [], [] => true
  | v :: vs, c :: cs => zeroIs v c && zerosAre vs cs
  | _, _ => false

def descIs (P : Program) (t : TypeId) (ti : TI) : TypeDesc → Bool
  | .struct fields => ti.agg && decide (fields.toList.map (fun (x : Go.Field) => (x.offset, x.type)) = ti.fs) && (fields.toList.mapM (fun (f : Go.Field) => (P.info? f.type).map fun i => (f.offset, i.size))).isSome
  | .array n e => ti.agg && decide (ti.ar = n + 1) && decide (ti.el = e) && decide (ti.fs = [])
  | .slice e => !ti.agg && decide (ti.cks = [.slice e]) && decide (ti.el = e) && decide (ti.fs = [])
  | .int k => !ti.agg && decide (ti.cks = [.int k]) && decide (ti.fs = [])
  | .bool => !ti.agg && decide (ti.cks = [.bool]) && decide (ti.fs = [])
  | .string => !ti.agg && decide (ti.cks = [.str]) && decide (ti.fs = [])
  | .pointer e => !ti.agg && decide (ti.cks = [.ptr e]) && decide (ti.fs = [])
  | .map k e => !ti.agg && decide (ti.cks = [.map t]) && decide (ti.ar = k + 1) && decide (ti.el = e) && decide (ti.fs = [])
  | .func _ _ _ => !ti.agg && decide (ti.cks = [.fn]) && decide (ti.fs = [])
  | _ => false

def tiCheck (P : Program) (t : TypeId) (ti : TI) : Bool :=
  match P.info? t, P.underlying t with
  | some i, some d => (match i.zero with
    | some z => decide (i.size = ti.cks.length) && decide (i.bytes = ti.bytes) && zerosAre z.cells.toList ti.cks && (match z with | .agg _ => ti.agg | _ => !ti.agg) && descIs P t ti d && (decide (ti.ar = 0) || !ti.agg || (match d with | .array _ _ => true | _ => false))
    | none => false)
  | _, _ => false

def findT : List (TypeId × TI) → TypeId → Option TI
  | [], _ => none
  | (k, ti) :: r, t => bif nb k t then some ti else findT r t

theorem zeroIs_ok {v : Value} {c : CK} (h : zeroIs v c = true) : v = zeroV c := by
  unfold zeroIs at h
  split at h <;> simp at h <;> simp only [zeroV]
  · rw [h.1, h.2]
  · rw [h]
  · rename_i s
    obtain ⟨d⟩ := s
    first | (subst h; rfl) | (simp at h; rw [h]) | (rw [h]; rfl)

theorem zerosAre_ok : ∀ {vs : List Value} {cs : List CK}, zerosAre vs cs = true → vs = cs.map zeroV
  | [], [], _ => rfl
  | v :: vs, c :: cs, h => by
    simp only [zerosAre, Bool.and_eq_true] at h
    simp only [List.map_cons]
    rw [zeroIs_ok h.1, zerosAre_ok h.2]
  | [], _ :: _, h => by simp [zerosAre] at h
  | _ :: _, [], h => by simp [zerosAre] at h

theorem tiCheck_ok {P : Program} {t : TypeId} {ti : TI} (h : tiCheck P t ti = true) (he : ti.eqOk = true → ti.agg = true ∧ EqLaw P t ti.cks) : TiOk P t ti := by
  unfold tiCheck at h
  split at h
  · rename_i i d hi hd
    split at h
    · rename_i z hz
      simp only [Bool.and_eq_true, decide_eq_true_eq, Bool.or_eq_true, Bool.not_eq_true'] at h
      obtain ⟨⟨⟨⟨⟨h1, h2⟩, h3⟩, h4⟩, h5⟩, h6⟩ := h
      refine ⟨⟨i, z, d, hi, h1, h2, hz, zerosAre_ok h3, ?_, hd, ?_⟩, he, ?_⟩
      · cases z <;> simp at h4 <;> simp [h4, Value.cells]
      · cases d <;> simp only [descIs, Bool.and_eq_true, decide_eq_true_eq, Bool.not_eq_true', Bool.false_eq_true] at h5
        case struct fields =>
          obtain ⟨⟨a, b⟩, c⟩ := h5
          refine ⟨a, ?_, Option.isSome_iff_exists.1 c⟩
          intro f
          rw [← b]
          simp
        case array n e => obtain ⟨⟨⟨a, b⟩, c⟩, d⟩ := h5; exact ⟨a, b, c, d⟩
        case slice e => obtain ⟨⟨⟨a, b⟩, c⟩, d⟩ := h5; exact ⟨a, b, c, d⟩
        case int k => obtain ⟨⟨a, b⟩, c⟩ := h5; exact ⟨a, b, c⟩
        case bool => obtain ⟨⟨a, b⟩, c⟩ := h5; exact ⟨a, b, c⟩
        case string => obtain ⟨⟨a, b⟩, c⟩ := h5; exact ⟨a, b, c⟩
        case pointer e => obtain ⟨⟨a, b⟩, c⟩ := h5; exact ⟨a, b, c⟩
        case map k e => obtain ⟨⟨⟨⟨a, b⟩, c⟩, d⟩, f⟩ := h5; exact ⟨a, b, c, d, f⟩
        case func => obtain ⟨⟨a, b⟩, c⟩ := h5; exact ⟨a, b, c⟩
      · intro ha hn
        rcases h6 with (h6 | h6) | h6
        · exact absurd h6 hn
        · rw [ha] at h6; cases h6
        · cases d <;> simp at h6
          exact ⟨_, _, hd⟩
    · simp at h
  · simp at h

def tabCheck (P : Program) : List (TypeId × TI) → Bool
  | [] => true
  | (t, ti) :: r => tiCheck P t ti && tabCheck P r

theorem TtOk_of {P : Program} {tab : List (TypeId × TI)} (h : tabCheck P tab = true) (he : ∀ t ti, (t, ti) ∈ tab → ti.eqOk = true → ti.agg = true ∧ EqLaw P t ti.cks) : TtOk P (findT tab) := by
  induction tab with
  | nil => intro t ti h; simp [findT] at h
  | cons x r ih =>
    obtain ⟨k, i⟩ := x
    simp only [tabCheck, Bool.and_eq_true] at h
    intro t ti hf
    simp only [findT] at hf
    cases hb : nb k t with
    | true =>
      rw [hb] at hf
      simp at hf; subst hf
      have := nb_of hb
      subst this
      exact tiCheck_ok h.1 (he k i (by simp))
    | false =>
      rw [hb] at hf
      exact ih h.2 (fun t ti hm => he t ti (by simp [hm])) t ti hf

/-- fields one cell each, scalars, in order -/
def eqFieldsOk (P : Program) : Nat → List Go.Field → List CK → Bool
  | _, [], [] => true
  | k, f :: fs, c :: cs => decide (f.offset = k) && decide (f.name ≠ "_") && (match P.underlying f.type, c with
    | some (.int k), .int k' => decide (k = k')
    | some .bool, .bool => true
    | some .string, .str => true
    | _, _ => false) && eqFieldsOk P (k+1) fs cs
  | _, _, _ => false
def eqCheck (P : Program) (t : TypeId) (cks : List CK) : Bool :=
  match P.underlying t with
  | some (.struct fs) => eqFieldsOk P 0 fs.toList cks && !(P.stoodInHeld t) && !(P.eqGuardType P.depth t)
  | _ => false

theorem eqFields_ok {P : Program} (w : World) (d : Nat) : ∀ (fs : List Go.Field) (cs : List CK) (k : Nat) (us vs : List Value), eqFieldsOk P k fs cs = true → us.length = k + cs.length → vs.length = k + cs.length →
    (∀ (j : Nat) c u, cs[j]? = some c → us[k + j]? = some u → isScalar c u) → (∀ (j : Nat) c u, cs[j]? = some c → vs[k + j]? = some u → isScalar c u) →
    (Op.eqFields (d + 1) ⟨us⟩ ⟨vs⟩ fs).run P w = .ok (sEqs (us.drop k) (vs.drop k)) w
  | [], [], k, us, vs, _, hu, hv, _, _ => by
    rw [List.drop_eq_nil_of_le (by simp at hu; omega), List.drop_eq_nil_of_le (by simp at hv; omega)]
    rfl
  | f :: fs, c :: cs, k, us, vs, h, hu, hv, su, sv => by
    simp only [eqFieldsOk, Bool.and_eq_true, decide_eq_true_eq] at h
    obtain ⟨⟨⟨h1, h2⟩, h3⟩, h4⟩ := h
    simp only [List.length_cons] at hu hv
    have hku : k < us.length := by omega
    have hkv : k < vs.length := by omega
    have ih := eqFields_ok (P := P) w d fs cs (k+1) us vs h4 (by omega) (by omega)
      (fun j c u hc hx => su (j+1) c u (by simpa using hc) (by rw [show k + (j + 1) = k + 1 + j by omega]; exact hx))
      (fun j c u hc hx => sv (j+1) c u (by simpa using hc) (by rw [show k + (j + 1) = k + 1 + j by omega]; exact hx))
    have s1 := su 0 c us[k] rfl (by simp [hku])
    have s2 := sv 0 c vs[k] rfl (by simp [hkv])
    rw [List.drop_eq_getElem_cons hku, List.drop_eq_getElem_cons hkv]
    have ep : ∀ (l : List Value) (hl : k < l.length) (desc : TypeDesc), P.underlying f.type = some desc → (∀ fs, desc ≠ .struct fs) → (∀ n e, desc ≠ .array n e) → (part f.type ⟨l⟩ f.offset).run P w = .ok l[k] w := by
      intro l hl desc hd n1 n2
      unfold part isAgg
      simp only [Sem.run_bind, run_underlying hd, Result.andThen_ok]
      cases desc <;> first | exact absurd rfl (n1 _) | exact absurd rfl (n2 _ _) | simp [h1, hl]
    have fin : ∀ desc, P.underlying f.type = some desc → (∀ fs, desc ≠ .struct fs) → (∀ n e, desc ≠ .array n e) → (Op.equalIn (d + 1) f.type us[k] vs[k]).run P w = .ok (sEq us[k] vs[k]) w →
        (Op.eqFields (d + 1) ⟨us⟩ ⟨vs⟩ (f :: fs)).run P w = .ok (sEqs (us[k] :: us.drop (k + 1)) (vs[k] :: vs.drop (k + 1))) w := by
      intro desc hd n1 n2 he
      have e1 := ep us hku desc hd n1 n2
      have e2 := ep vs hkv desc hd n1 n2
      simp only [Op.eqFields, if_pos h2, Sem.run_bind, e1, e2, Result.andThen_ok, he, sEqs]
      cases sEq us[k] vs[k] with
      | true => simpa using ih
      | false => simp
    split at h3
    · rename_i k1 k2 hd
      obtain ⟨n1, e1⟩ := s1
      obtain ⟨n2, e2⟩ := s2
      refine fin _ hd (fun _ h => by cases h) (fun _ _ h => by cases h) ?_
      rw [e1, e2, run_equalIn_int w d f.type _ _ _ _ hd]; rfl
    · rename_i hd
      obtain ⟨n1, e1⟩ := s1
      obtain ⟨n2, e2⟩ := s2
      refine fin _ hd (fun _ h => by cases h) (fun _ _ h => by cases h) ?_
      rw [e1, e2, run_equalIn_bool' w d f.type _ _ hd]; rfl
    · rename_i hd
      obtain ⟨n1, e1⟩ := s1
      obtain ⟨n2, e2⟩ := s2
      refine fin _ hd (fun _ h => by cases h) (fun _ _ h => by cases h) ?_
      rw [e1, e2, run_equalIn_string w d f.type _ _ hd, ByteArray.toList_eq, ByteArray.toList_eq]; rfl
    · simp at h3
  | [], _ :: _, _, _, _, h, _, _, _, _ => by simp [eqFieldsOk] at h
  | _ :: _, [], _, _, _, h, _, _, _, _ => by simp [eqFieldsOk] at h

theorem eqLaw_of {P : Program} {t : TypeId} {cks : List CK} (h : eqCheck P t cks = true) : EqLaw P t cks := by
  unfold eqCheck at h
  split at h
  · rename_i fs hd
    simp only [Bool.and_eq_true, Bool.not_eq_true'] at h
    obtain ⟨⟨h1, h2⟩, h3⟩ := h
    intro op x y us vs w hop hu hv su sv
    have hf : P.fieldsOf t = fs := by simp [Program.fieldsOf, hd]
    have heq : (Op.equalIn 10000 t (.agg ⟨us⟩) (.agg ⟨vs⟩)).run P w = .ok (sEqs us vs) w := by
      have := run_equalIn_struct (P := P) w 9999 t ⟨us⟩ ⟨vs⟩ (by rw [hf]; exact hd) h2
      rw [hf] at this
      rw [this]
      have := eqFields_ok (P := P) w 9998 fs.toList cks 0 us vs h1 (by omega) (by omega) (by simpa using su) (by simpa using sv)
      simpa using this
    have hg := run_eqGuard_agg (P := P) w op t x y ⟨us⟩ ⟨vs⟩ h3
    rcases hop with rfl | rfl
    · simp only [Sem.run_bind, hg, Result.andThen_ok, run_eql_struct, heq, if_true]
    · simp only [Sem.run_bind, hg, Result.andThen_ok, run_neq_struct, heq]
      rfl
  · simp at h

def eqTabCheck (P : Program) : List (TypeId × TI) → Bool
  | [] => true
  | (t, ti) :: r => (!ti.eqOk || (ti.agg && eqCheck P t ti.cks)) && eqTabCheck P r
theorem eqTab_ok {P : Program} : ∀ {tab : List (TypeId × TI)}, eqTabCheck P tab = true → ∀ t ti, (t, ti) ∈ tab → ti.eqOk = true → ti.agg = true ∧ EqLaw P t ti.cks
  | [], _, t, ti, h, _ => by simp at h
  | (k, i) :: r, h, t, ti, hm, he => by
    simp only [eqTabCheck, Bool.and_eq_true, Bool.or_eq_true, Bool.not_eq_true'] at h
    rcases List.mem_cons.1 hm with e | e
    · cases e
      rcases h.1 with h1 | h1
      · rw [he] at h1; simp at h1
      · exact ⟨h1.1, eqLaw_of h1.2⟩
    · exact eqTab_ok h.2 t ti e he

end Go.VC
end

section
/- The engine, part P: objects by other numbers (a loop that lays a row anew in each round). -/
namespace Go.VC
open Go

/-- where a number lies in a list -/
def ixOf : List Nat → Nat → Nat → Option Nat
  | [], _, _ => none
  | x :: l, k, n => match nb x n with
    | true => some k
    | false => ixOf l (k+1) n
def pickP (ps : List Nat) : Nat → PV → PV
  | 0, _ => .undef
  | n+1, p => match p with
    | .row e r => (match ixOf ps 0 r with | some k => .row e k | none => .undef)
    | .mp r => (match ixOf ps 0 r with | some k => .mp k | none => .undef)
    | .it r => (match ixOf ps 0 r with | some k => .it k | none => .undef)
    | .box r off => (match ixOf ps 0 r with | some k => .box k off | none => .undef)
    | .rptr e r i off => (match ixOf ps 0 r with | some k => .rptr e k i off | none => .undef)
    | .agg cs => .agg (mapL (pickP ps n) cs)
    | .tup cs => .tup (mapL (pickP ps n) cs)
    | .clos g cs => .clos g (mapL (pickP ps n) cs)
    | .pptr cs off => .pptr (mapL (pickP ps n) cs) off
    | p => p
def pickO (ps : List Nat) : Ob → Ob
  | .box cs => .box (mapL (pickP ps 8) cs)
  | .iter m s => (match ixOf ps 0 m with | some k => .iter k s | none => .dead)
  | o => o
def pickS (ps : List Nat) : Slots → Slots
  | [] => []
  | (t, p) :: s => (t, pickP ps 8 p) :: pickS ps s
def pickSt (ps : List Nat) (st : St) : St := match st with
  | ⟨s, o⟩ => ⟨pickS ps s, mapL (fun r => pickO ps (getO o r)) ps⟩
def upTo : Nat → Nat → List Nat → Bool
  | 0, _, _ => true
  | _+1, _, [] => false
  | n+1, k, x :: l => nb x k && upTo n (k+1) l
/-- forgetting, with other numbers -/
def SubP (n0 : Nat) (st st2 : St) : Prop := ∃ ps, (nodupL ps && upTo n0 0 ps) = true ∧ Sub n0 (pickSt ps st) st2

theorem ixOf_some : ∀ {l : List Nat} {k n i : Nat}, ixOf l k n = some i → ∃ j, i = k + j ∧ l[j]? = some n
  | [], k, n, i, h => by simp [ixOf] at h
  | x :: l, k, n, i, h => by
    simp only [ixOf] at h
    split at h
    · rename_i hb
      cases h
      exact ⟨0, rfl, by simp [nb_of hb]⟩
    · obtain ⟨j, h1, h2⟩ := ixOf_some h
      exact ⟨j+1, by omega, by simpa using h2⟩
theorem upTo_ok : ∀ {n k : Nat} {l : List Nat}, upTo n k l = true → ∀ i, i < n → l[i]? = some (k + i)
  | 0, _, _, _, i, hi => by omega
  | n+1, k, [], h, i, hi => by simp [upTo] at h
  | n+1, k, x :: l, h, i, hi => by
    simp only [upTo, Bool.and_eq_true] at h
    cases i with
    | zero => simp [nb_of h.1]
    | succ i =>
      have := upTo_ok h.2 i (by omega)
      simp only [List.getElem?_cons_succ, this]
      congr 1; omega

section
variable {P : Program} {tt : TypeId → Option TI} {N n0 : Nat} {B : Base} {E : List RI} {Pp : Per} {w : World} {st : St} {a : Act} {ps : List Nat}

theorem pickP_ok {E2 : List RI} (hf : ∀ (i k : Nat) x, ixOf ps 0 i = some k → E[i]? = some x → E2[k]? = some x) : ∀ (n : Nat) (p : PV) (v : Value), VR tt E Pp v p → VR tt E2 Pp v (pickP ps n p) := by
  intro n
  induction n with
  | zero => intro p v _; exact .undef _
  | succ n ih =>
    have ihs : ∀ (cs : List PV) (vs : List Value), VRL tt E Pp vs cs → VRL tt E2 Pp vs (mapL (pickP ps n) cs) := by
      intro cs
      induction cs with
      | nil => intro vs hv; cases hv; exact .nil
      | cons c cs ihc =>
        intro vs hv
        cases hv with
        | cons _ _ _ _ h1 h2 => exact .cons _ _ _ _ (ih _ _ h1) (ihc _ h2)
    intro p v hv
    cases hv with
    | undef => exact .undef _
    | int => exact .int _ _
    | bl => exact .bl _
    | bool => exact .bool _
    | str => exact .str _
    | lst _ _ _ hr => exact .lst _ _ _ hr
    | lsf _ _ _ _ hr => exact .lsf _ _ _ _ hr
    | agg vs cs hl => exact .agg _ _ (ihs _ _ hl)
    | tup vs cs hl => exact .tup _ _ (ihs _ _ hl)
    | box b _ _ hb =>
      simp only [pickP]
      split
      · rename_i k hk; exact .box _ _ _ (hf _ _ _ hk hb)
      · exact .undef _
    | row0 _ b hb =>
      simp only [pickP]
      split
      · rename_i k hk; exact .row0 _ _ (hf _ _ _ hk hb)
      · exact .undef _
    | row _ b _ _ _ _ hb =>
      simp only [pickP]
      split
      · rename_i k hk; exact .row _ _ _ _ _ _ (hf _ _ _ hk hb)
      · exact .undef _
    | rptr _ b _ _ _ _ _ _ hb h0 h1 =>
      simp only [pickP]
      split
      · rename_i k hk; exact .rptr _ _ _ _ _ _ _ _ (hf _ _ _ hk hb) h0 h1
      · exact .undef _
    | eptr _ _ _ _ _ _ _ _ hr h0 h1 => exact .eptr _ _ _ _ _ _ _ _ hr h0 h1
    | pptr vs cs off b o hl hpi => exact .pptr _ _ _ _ _ (ihs _ _ hl) hpi
    | dptr _ _ _ hr => exact .dptr _ _ _ hr
    | dpp _ _ _ _ _ hr => exact .dpp _ _ _ _ _ hr
    | clos f vs cs hl => exact .clos _ _ _ (ihs _ _ hl)
    | nilp => exact .nilp
    | nilm => exact .nilm
    | nilf => exact .nilf
    | mp b _ _ _ hb =>
      simp only [pickP]
      split
      · rename_i k hk; exact .mp _ _ _ _ (hf _ _ _ hk hb)
      · exact .undef _
    | it b _ hb =>
      simp only [pickP]
      split
      · rename_i k hk; exact .it _ _ (hf _ _ _ hk hb)
      · exact .undef _
theorem picks_ok {E2 : List RI} (hf : ∀ (i k : Nat) x, ixOf ps 0 i = some k → E[i]? = some x → E2[k]? = some x) {n : Nat} {cs : List PV} {vs : List Value} (hv : VRL tt E Pp vs cs) : VRL tt E2 Pp vs (mapL (pickP ps n) cs) := by
  induction cs generalizing vs with
  | nil => cases hv; exact .nil
  | cons c cs ih =>
    cases hv with
    | cons _ _ _ _ h1 h2 => exact .cons _ _ _ _ (pickP_ok hf n _ _ h1) (ih h2)
theorem pickS_look (s : Slots) (t : Nat) : look (pickS ps s) t = pickP ps 8 (look s t) := by
  induction s with
  | nil => rfl
  | cons x s ih =>
    obtain ⟨k, p⟩ := x
    simp only [pickS, look_cons]
    split
    · rfl
    · exact ih

theorem Sim.pick (hb : B.E0.length = n0) (h : Sim tt N B E Pp st a w) (hok : (nodupL ps && upTo n0 0 ps) = true) : Sim tt N B (ps.map fun r => E.getD r .row0) Pp (pickSt ps st) a w := by
  simp only [Bool.and_eq_true] at hok
  have hnd := nodupL_eq hok.1
  have hup := upTo_ok hok.2
  obtain ⟨s, o⟩ := st
  have hE : ∀ (k : Nat) r, ps[k]? = some r → ∀ ri, E[r]? = some ri → (ps.map fun r => E.getD r .row0)[k]? = some ri := by
    intro k r hk ri hri
    simp [hk, List.getD, hri]
  have hf : ∀ (i k : Nat) x, ixOf ps 0 i = some k → E[i]? = some x → (ps.map fun r => E.getD r .row0)[k]? = some x := by
    intro i k x hk hx
    obtain ⟨j, rfl, hj⟩ := ixOf_some hk
    rw [Nat.zero_add]
    exact hE _ _ hj _ hx
  have hO : ∀ (k : Nat) q, (mapL (fun r => pickO ps (getO o r)) ps)[k]? = some q → q.live = true → ∃ r o', ps[k]? = some r ∧ o[r]? = some o' ∧ o'.live = true ∧ q = pickO ps o' := by
    intro k q hq hl
    rw [mapL_eq, List.getElem?_map] at hq
    cases hx : ps[k]? with
    | none => rw [hx] at hq; simp at hq
    | some r =>
      rw [hx] at hq
      simp only [Option.map_some, Option.some.injEq] at hq
      rw [getO_eq] at hq
      cases ho : o[r]? with
      | none => simp only [List.getD, ho, Option.getD_none, pickO] at hq; subst hq; simp [Ob.live] at hl
      | some o' =>
        simp only [List.getD, ho, Option.getD_some] at hq
        refine ⟨r, o', rfl, ho, ?_, hq.symm⟩
        cases o' <;> first | rfl | (subst hq; simp [pickO, Ob.live] at hl)
  have blk : ∀ (k : Nat) q ri, (mapL (fun r => pickO ps (getO o r)) ps)[k]? = some q → q.live = true → (ps.map fun r => E.getD r .row0)[k]? = some ri → ∃ r o', ps[k]? = some r ∧ o[r]? = some o' ∧ o'.live = true ∧ E[r]? = some ri := by
    intro k q ri hq hl hri
    obtain ⟨r, o', h1, h2, h3, h4⟩ := hO k q hq hl
    obtain ⟨ri', h5, _⟩ := h.wr.ob r o' h2 h3
    have := hE k r h1 ri' h5
    rw [hri] at this; cases this
    exact ⟨r, o', h1, h2, h3, h5⟩
  refine ⟨⟨by simp [pickSt, mapL_eq], h.wr.pi, ?_, ?_⟩, ?_, h.size, h.defers, ?_, h.per, h.fr, h.pnew, ?_⟩
  · intro k q hq hl
    obtain ⟨r, o', h1, h2, h3, rfl⟩ := hO k q hq hl
    obtain ⟨ri, h5, h6⟩ := h.wr.ob r o' h2 h3
    refine ⟨ri, hE k r h1 ri h5, ?_⟩
    cases o' with
    | box cs =>
      cases ri <;> simp only [OR] at h6 <;> simp only [pickO, OR]
      obtain ⟨vs, T, a1, a2, a3⟩ := h6
      exact ⟨vs, T, a1, picks_ok hf a2, a3⟩
    | row e d wr => cases ri <;> exact h6
    | map kc e d => cases ri <;> exact h6
    | iter m seen =>
      simp only [pickO] at hl ⊢
      cases hx : ixOf ps 0 m with
      | none => rw [hx] at hl; simp [Ob.live] at hl
      | some k =>
        cases ri <;> simp only [OR] at h6 <;> simp only [OR]
        obtain ⟨bm, borns, clock, ls, a1, a2⟩ := h6
        exact ⟨bm, borns, clock, ls, hf _ _ _ hx a1, a2⟩
    | dead => simp [pickO, Ob.live] at hl
  · intro i j oi oj ri rj b hi hj hli hlj hEi hEj hbi hbj
    obtain ⟨r, o1, a1, a2, a3, a4⟩ := blk i oi ri hi hli hEi
    obtain ⟨r', o2, b1, b2, b3, b4⟩ := blk j oj rj hj hlj hEj
    have := h.wr.sep r r' o1 o2 ri rj b a2 b2 a3 b3 a4 b4 hbi hbj
    subst this
    have hli := (List.getElem?_eq_some_iff.1 a1).1
    exact (List.getElem?_inj hli hnd).1 (a1.trans b1.symm)
  · intro t
    show VR tt _ Pp _ (look (pickS ps s) t)
    rw [pickS_look]
    exact pickP_ok hf 8 _ _ (h.slots t)
  · intro i x hx
    have hi : i < n0 := by
      rw [← hb]
      exact (List.getElem?_eq_some_iff.1 hx).1
    have := hup i hi
    rw [Nat.zero_add] at this
    exact hE i i this x (h.pre i x hx)
  · intro i q ri b hq hl hEi hbk
    obtain ⟨r, o1, a1, a2, a3, a4⟩ := blk i q ri hq hl hEi
    exact h.fresh r o1 ri b a2 a3 a4 hbk

/-- ████ A LOOP, objects by other numbers ████ -/
theorem loop_ruleP {α : Type} {c : Code} {Q : Ex → St → Prop} (I : α → St) (φ : α → Prop) (μ : α → Nat) (x0 : α) (h0 : φ x0) (hst : SubP n0 st (I x0))
    (round : ∀ x, φ x → PWp P tt N n0 c (I x) fun e st' => match e with | .normal => ∃ x', φ x' ∧ μ x' < μ x ∧ SubP n0 st' (I x') | .exit i => Q (.exit i) st' | .ret => Q .ret st') : PWp P tt N n0 (.loop c) st Q := by
  intro B E Pp a w hb hs
  have key : ∀ {E : List RI} {Pp : Per} {st st2 : St} {a : Act} {w : World}, Sim tt N B E Pp st a w → SubP n0 st st2 → ∃ E', Sim tt N B E' Pp st2 a w := by
    rintro E Pp st st2 a w hs ⟨ps, h1, h2⟩
    exact ⟨_, (hs.pick hb h1).sub hb h2⟩
  obtain ⟨E1, hs1⟩ := key hs hst
  refine wp_loop_g (fun x a w => ∃ E Pp, φ x ∧ Sim tt N B E Pp (I x) a w) μ x0 ⟨_, Pp, h0, hs1⟩ ?_
  rintro x a w ⟨E, Pp, hx, hs⟩
  refine wp_mono (round x hx B E Pp a w hb hs) ?_
  rintro e a' w' ⟨ex, st', E', Pp', he, hs', hq⟩
  cases e <;> cases ex <;> simp only [exOk] at he
  · obtain ⟨x', h1, h2, h3⟩ := hq
    obtain ⟨E2, h4⟩ := key hs' h3
    exact ⟨x', ⟨E2, Pp', h1, h4⟩, h2⟩
  · subst he; exact ⟨.exit _, st', E', Pp', rfl, hs', hq⟩
  · exact ⟨.ret, st', E', Pp', trivial, hs', hq⟩

theorem Ctx.loopP {G : Cfg} {A : Alg} {C : CallP} {L : Code → St → (Ex → St → Prop) → Prop} (X : Ctx P G A C L)
    {α : Type} (I : α → St) (φ : α → Prop) (μ : α → Nat) (x0 : α) {c : Code} {st : St} {Q : Ex → St → Prop} (h0 : φ x0) (hst : SubP G.n0 st (I x0))
    (round : ∀ x, φ x → pwp A G C L c (I x) fun e st' => match e with | .normal => ∃ x', φ x' ∧ μ x' < μ x ∧ SubP G.n0 st' (I x') | .exit i => Q (.exit i) st' | .ret => Q .ret st') : L (.loop c) st Q := by
  obtain ⟨rfl, rfl, rfl, htt, hm⟩ := X
  exact loop_ruleP I φ μ x0 h0 hst fun x hx => pwp_ok htt hm c _ _ (round x hx)

/-- behind a region the states are drawn together -/
theorem Ctx.cut {G : Cfg} {A : Alg} {C : CallP} {L : Code → St → (Ex → St → Prop) → Prop} (X : Ctx P G A C L)
    {α : Type} (I : α → St) (φ : α → Prop) {id : Nat} {ops : Array Oper} {d : Bool} {st : St} {Q : Ex → St → Prop}
    (h1 : regP A G C id ops d st fun st' => ∃ x, φ x ∧ SubP G.n0 st' (I x)) (h2 : ∀ x, φ x → Q .normal (I x)) : L (.region id ops d) st Q := by
  obtain ⟨rfl, rfl, rfl, htt, hm⟩ := X
  intro B E Pp a w hb hs
  refine wp_mono (regP_ok htt hm id ops d st (fun e st' => match e with | .normal => ∃ x, φ x ∧ SubP G.n0 st' (I x) | _ => False) h1 B E Pp a w hb hs) ?_
  rintro e a' w' ⟨ex, st', E', Pp', he, hs', hq⟩
  cases ex <;> simp only at hq
  obtain ⟨x, h3, ps, h4, h5⟩ := hq
  exact ⟨.normal, I x, _, Pp', he, (hs'.pick hb h4).sub hb h5, h2 x h3⟩
end
end Go.VC
end

section
/- The engine: what a law's arguments read as is data. -/
namespace Go.VC
open Go Go.ChangeShapes

/-- every cell is persistent -/
def AllP (w : World) : Per := fun ad v => w.cell? ad = some v

/-- no list and no string in it is longer than n -/
inductive Bd (n : Nat) : D → Prop
  | int (k) : Bd n (.int k)
  | bool (b) : Bd n (.bool b)
  | str (s : List UInt8) (h : s.length ≤ n) : Bd n (.str s)
  | nil : Bd n .nil
  | list (rows : List (List D)) (h : rows.length ≤ n) (hr : ∀ row ∈ rows, ∀ d ∈ row, Bd n d) : Bd n (.list rows)
  | ptr (cs : List D) (hr : ∀ d ∈ cs, Bd n d) : Bd n (.ptr cs)

/-- what 'bulk' must count -/
structure BulkOk {H : Type} (bulk : DataW H → Nat) : Prop where
  str : ∀ s, s.length ≤ bulk (.lit (.string s))
  slice : ∀ es sp, es.length ≤ bulk (.slice es sp) ∧ ∀ e ∈ es, bulk e ≤ bulk (.slice es sp)
  agg : ∀ ps, ∀ e ∈ ps, bulk e ≤ bulk (.agg ps)
  ptr : ∀ d, bulk d ≤ bulk (.ptr d)

/-- cells and their data, kind by kind -/
inductive RowRD (tt : TypeId → Option TI) (Pp : Per) (n : Nat) : List CK → List Value → List D → Prop
  | nil : RowRD tt Pp n [] [] []
  | cons (ck v d cks vs ds) (h : RD tt Pp ck v d) (hb : Bd n d) (t : RowRD tt Pp n cks vs ds) : RowRD tt Pp n (ck :: cks) (v :: vs) (d :: ds)

section
variable {tt : TypeId → Option TI} {Pp : Per} {n : Nat}

theorem RowRD.append {cks cks' : List CK} {vs vs' : List Value} {ds ds' : List D} (h : RowRD tt Pp n cks vs ds) (k : RowRD tt Pp n cks' vs' ds') : RowRD tt Pp n (cks ++ cks') (vs ++ vs') (ds ++ ds') := by
  induction h with
  | nil => exact k
  | cons ck v d cks vs ds h hb _ ih => exact .cons _ _ _ _ _ _ h hb ih
theorem RowRD.len {cks : List CK} {vs : List Value} {ds : List D} (h : RowRD tt Pp n cks vs ds) : vs.length = cks.length ∧ ds.length = cks.length := by
  induction h with
  | nil => exact ⟨rfl, rfl⟩
  | cons _ _ _ _ _ _ _ _ _ ih => simp [ih.1, ih.2]
theorem RowRD.get {cks : List CK} {vs : List Value} {ds : List D} (h : RowRD tt Pp n cks vs ds) : ∀ {j : Nat} {ck : CK} {v : Value} {d : D}, cks[j]? = some ck → vs[j]? = some v → ds[j]? = some d → RD tt Pp ck v d ∧ Bd n d := by
  induction h with
  | nil => intro j ck v d h; simp at h
  | cons ck v d cks vs ds h hb _ ih =>
    intro j ck' v' d' h1 h2 h3
    cases j with
    | zero => simp at h1 h2 h3; subst h1 h2 h3; exact ⟨h, hb⟩
    | succ j => exact ih (by simpa using h1) (by simpa using h2) (by simpa using h3)
theorem RowRD.bd {cks : List CK} {vs : List Value} {ds : List D} (h : RowRD tt Pp n cks vs ds) : ∀ d ∈ ds, Bd n d := by
  induction h with
  | nil => intro d hd; simp at hd
  | cons ck v d cks vs ds h hb _ ih =>
    intro d' hd
    rcases List.mem_cons.1 hd with rfl | hd
    · exact hb
    · exact ih d' hd
theorem RowRD.of_get : ∀ {cks : List CK} {vs : List Value} {ds : List D}, vs.length = cks.length → ds.length = cks.length →
    (∀ (j : Nat) (ck : CK) (v : Value) (d : D), cks[j]? = some ck → vs[j]? = some v → ds[j]? = some d → RD tt Pp ck v d ∧ Bd n d) → RowRD tt Pp n cks vs ds
  | [], [], [], _, _, _ => .nil
  | ck :: cks, v :: vs, d :: ds, h1, h2, h => .cons _ _ _ _ _ _ (h 0 ck v d rfl rfl rfl).1 (h 0 ck v d rfl rfl rfl).2 (RowRD.of_get (by simpa using h1) (by simpa using h2) fun j ck v d a b c => h (j+1) ck v d (by simpa using a) (by simpa using b) (by simpa using c))
  | [], _ :: _, _, h1, _, _ => by simp at h1
  | [], [], _ :: _, _, h2, _ => by simp at h2
  | _ :: _, [], _, h1, _, _ => by simp at h1
  | _ :: _, _ :: _, [], _, h2, _ => by simp at h2

/-- a list's rows -/
theorem RD.rows {e : TypeId} {v : Value} {d : D} (h : RD tt Pp (.slice e) v d) (hb : Bd n d) : ∃ rows, d = .list rows ∧ rows.length ≤ n ∧ ∀ row ∈ rows, ∃ vs, RowRD tt Pp n (cksOf tt e) vs row := by
  cases hb with
  | list rows hl hr =>
    refine ⟨rows, rfl, hl, ?_⟩
    cases h with
    | slnil => intro row h; simp at h
    | sl0 => intro row h; simp at h
    | sl _ b o len cap _ vf hlen hc hrow hpi hrd =>
      intro row hm
      obtain ⟨i, hi⟩ := List.getElem?_of_mem hm
      refine ⟨(List.range (cksOf tt e).length).map (vf i), RowRD.of_get (by simp) (hrow i row hi) ?_⟩
      intro j ck v d h1 h2 h3
      have hj := lt_of_get h1
      simp [hj] at h2
      subst h2
      exact ⟨hrd i j row d ck hi h3 h1, hr row hm d (List.mem_of_getElem? h3)⟩
  | int => cases h
  | bool => cases h
  | str => cases h
  | nil => cases h
  | ptr => cases h

theorem lift_map {α β : Type} {f : α → β} {p : α → Prop} : ∀ {rows : List β}, (∀ r ∈ rows, ∃ x, r = f x ∧ p x) → ∃ l : List α, rows = l.map f ∧ ∀ x ∈ l, p x
  | [], _ => ⟨[], rfl, fun x h => by simp at h⟩
  | r :: rows, h => by
    obtain ⟨x, rfl, hp⟩ := h r (by simp)
    obtain ⟨l, rfl, hl⟩ := lift_map (rows := rows) (fun r hr => h r (by simp [hr]))
    refine ⟨x :: l, rfl, fun y hy => ?_⟩
    rcases List.mem_cons.1 hy with rfl | hy
    · exact hp
    · exact hl y hy
end

/-- the fields lie end to end -/
def tileB (tt : TypeId → Option TI) (S : List TypeId) : Nat → List (Nat × TypeId) → List CK → Bool
  | _, [], cks => cks.isEmpty
  | off, (o, ft) :: fs, cks => nb o off && S.contains ft && decide (cks.take (cksOf tt ft).length = cksOf tt ft) && tileB tt S (off + (cksOf tt ft).length) fs (cks.drop (cksOf tt ft).length)
def dataB (tt : TypeId → Option TI) (S : List TypeId) (t : TypeId) : Bool := match tt t with
  | none => false
  | some ti => match ti.agg with
    | true => nb ti.ar 0 && tileB tt S 0 ti.fs ti.cks
    | false => match ti.cks with
      | [.int _] => true
      | [.bool] => true
      | [.str] => true
      | [.slice e] => S.contains e && !(cksOf tt e).isEmpty
      | _ => false

section
variable {P : Program} {tt : TypeId → Option TI} {H : Type} {enc : TypeId × Value → H} {w : World} {n : Nat}

theorem cellsOf_eq (htt : TtOk P tt) {t : TypeId} {ti : TI} (h : tt t = some ti) : P.cellsOf t = (cksOf tt t).length := by
  obtain ⟨i, z, d, hi, hsz, _⟩ := (htt t ti h).info
  simp [Program.cellsOf, hi, cksOf, h, hsz]

theorem cells?_get {base : Nat} {a : Addr} {m : Nat} {cs : List Value} (h : w.cells? base a m = some cs) : cs.length = m ∧ ∀ j, j < m → w.cell? (a.add j) = cs[j]? := by
  unfold World.cells? at h
  split at h
  · exact ⟨by simpa using mapM_some_length h, fun j hj => mapM_some_get h j j (by simp [hj])⟩
  · cases h

theorem tile_row {S : List TypeId} {fuel : Nat} {xs : List (DataW H × List MemPlace)} {cs : List Value} (hcell : ∀ ft, S.contains ft = true → P.cellsOf ft = (cksOf tt ft).length)
    (ih : ∀ (t : TypeId) (cs : List Value) (x : DataW H × List MemPlace), S.contains t = true → x ∈ xs → DataW.trod enc P w 0 (fun _ => true) true fuel t cs = some x → ∃ ds, RowRD tt (AllP w) n (cksOf tt t) cs ds) :
    ∀ (fs : List (Nat × TypeId)) (off : Nat) (cks : List CK), tileB tt S off fs cks = true → cs.length = off + cks.length →
      (∀ (i o : Nat) (ft : TypeId), fs[i]? = some (o, ft) → ∃ x, x ∈ xs ∧ DataW.trod enc P w 0 (fun _ => true) true fuel ft ((cs.drop o).take (P.cellsOf ft)) = some x) →
      ∃ ds, RowRD tt (AllP w) n cks (cs.drop off) ds
  | [], off, cks, h, hl, _ => by
    simp only [tileB, List.isEmpty_iff] at h
    subst h
    simp at hl
    rw [List.drop_eq_nil_of_le (by omega)]
    exact ⟨[], .nil⟩
  | (o, ft) :: fs, off, cks, h, hl, hx => by
    simp only [tileB, Bool.and_eq_true, decide_eq_true_eq] at h
    obtain ⟨⟨⟨h1, h2⟩, h3⟩, h4⟩ := h
    have := nb_of h1
    subst this
    obtain ⟨x, hm, ht⟩ := hx 0 o ft rfl
    obtain ⟨ds1, hd1⟩ := ih _ _ _ h2 hm ht
    rw [hcell ft h2] at hd1
    have hlen : (cksOf tt ft).length ≤ cks.length := by have := congrArg List.length h3; simp at this; omega
    obtain ⟨ds2, hd2⟩ := tile_row hcell ih fs (o + (cksOf tt ft).length) (cks.drop (cksOf tt ft).length) h4 (by simp; omega) (fun i o ft hi => hx (i+1) o ft (by simpa using hi))
    refine ⟨ds1 ++ ds2, ?_⟩
    have := hd1.append hd2
    rw [← h3] at this
    rw [show (List.take (cksOf tt ft).length cks).length = (cksOf tt ft).length by rw [h3]] at this
    rwa [List.take_append_drop, ← List.drop_drop, List.take_append_drop] at this

/-- ████ WHAT READS AS DATA IS DATA ████ -/
theorem trod_row (htt : TtOk P tt) {S : List TypeId} (hS : S.all (dataB tt S) = true) {bulk : DataW H → Nat} (hb : BulkOk bulk) :
    ∀ (fuel : Nat) (t : TypeId) (cs : List Value) (x : DataW H × List MemPlace), S.contains t = true → DataW.trod enc P w 0 (fun _ => true) true fuel t cs = some x → bulk x.1 ≤ n → ∃ ds, RowRD tt (AllP w) n (cksOf tt t) cs ds := by
  have hin : ∀ t, S.contains t = true → dataB tt S t = true := fun t ht => List.all_eq_true.1 hS t (by simpa using ht)
  have hcell : ∀ t, S.contains t = true → P.cellsOf t = (cksOf tt t).length := by
    intro t ht
    have := hin t ht
    unfold dataB at this
    split at this
    · cases this
    · rename_i ti hti; exact cellsOf_eq htt hti
  intro fuel
  induction fuel with
  | zero => intro t cs x _ h; simp [DataW.trod] at h
  | succ fuel ih =>
    intro t cs x ht h hbx
    have hd := hin t ht
    have hct := hcell t ht
    unfold dataB at hd
    split at hd
    · cases hd
    rename_i ti hti
    have hcks : cksOf tt t = ti.cks := by simp [cksOf, hti]
    obtain ⟨i, z, d, hi, hsz, _, _, _, _, hu, hdesc⟩ := (htt t ti hti).info
    rw [hcks] at hct ⊢
    cases d with
    | int k =>
      obtain ⟨m, rfl, rfl, _⟩ := DataW.trod_int hu h
      rw [hdesc.2.1]
      exact ⟨_, .cons _ _ _ _ _ _ (.int _ _) (.int _) .nil⟩
    | bool =>
      obtain ⟨m, rfl, rfl⟩ := DataW.trod_bool hu h
      rw [hdesc.2.1]
      exact ⟨_, .cons _ _ _ _ _ _ (.bool _) (.bool _) .nil⟩
    | string =>
      obtain ⟨s, rfl, rfl, _⟩ := DataW.trod_string hu h
      rw [hdesc.2.1]
      exact ⟨_, .cons _ _ _ _ _ _ (.str _) (.str _ (Nat.le_trans (hb.str _) hbx)) .nil⟩
    | struct fields =>
      obtain ⟨ha, hf, _⟩ := hdesc
      rw [ha] at hd
      simp only [Bool.and_eq_true] at hd
      obtain ⟨xs, m, hm, rfl, hl, hxl, hx⟩ := DataW.trod_struct hu h
      cases hm
      have hbs : ∀ y ∈ xs, bulk y.1 ≤ n := fun y hy => Nat.le_trans (hb.agg _ _ (List.mem_map.2 ⟨y, hy, rfl⟩)) hbx
      have := tile_row (n := n) (cs := cs) (xs := xs) hcell (fun t' cs' x' h1 h2 h3 => ih t' cs' x' h1 h3 (hbs _ h2)) ti.fs 0 ti.cks hd.2 (by omega) ?_
      · simpa using this
      · intro j o ft hj
        rw [← hf j] at hj
        rw [Option.map_eq_some_iff] at hj
        obtain ⟨f, hf', he⟩ := hj
        cases he
        have hlt : j < fields.size := by
          rcases Nat.lt_or_ge j fields.size with h' | h'
          · exact h'
          · rw [Array.getElem?_eq_none h'] at hf'; cases hf'
        have := hx j f hf'
        rw [List.getElem?_eq_getElem (by omega)] at this
        exact ⟨_, List.getElem_mem _, this⟩
    | slice e =>
      obtain ⟨ha, hck, _⟩ := hdesc
      rw [ha, hck] at hd
      simp only [Bool.and_eq_true, Bool.not_eq_true', List.isEmpty_eq_false_iff] at hd
      obtain ⟨he, hne⟩ := hd
      have hce := hcell e he
      have hpos : 0 < (cksOf tt e).length := List.length_pos_iff.2 hne
      rw [hck]
      rcases DataW.trod_slice hu h with ⟨rfl, rfl⟩ | ⟨a, len, cap, elems, rest, m, hm, rfl, rfl, _, hlc, hcap, hel, hget, hrest, _⟩
      · exact ⟨_, .cons _ _ _ _ _ _ (.slnil _) (.list _ (by simp) (fun row h => by simp at h)) .nil⟩
      · cases hm
        obtain ⟨hrl, hrg⟩ := hrest rfl
        have hbl := hb.slice (elems.map (·.1)) (rest.map (·.1))
        rw [hce] at hget hrg
        by_cases hc0 : cap = 0
        · subst hc0
          have : len = 0 := by omega
          subst this
          exact ⟨_, .cons _ _ _ _ _ _ (.sl0 _ a) (.list _ (by simp) (fun row h => by simp at h)) .nil⟩
        · -- an address without a spot
          have hspot : a.spot = none := by
            have : ∃ cs', w.cells? 0 (a.add 0) (cksOf tt e).length = some cs' := by
              by_cases hl0 : 0 < len
              · have := hget 0 hl0
                rw [List.getElem?_eq_getElem (by omega), Option.bind_eq_some_iff] at this
                obtain ⟨cs', h1, _⟩ := this
                exact ⟨cs', by simpa using h1⟩
              · have := hrg 0 (by omega)
                rw [List.getElem?_eq_getElem (by omega), Option.bind_eq_some_iff] at this
                obtain ⟨cs', h1, _⟩ := this
                have hz : len = 0 := by omega
                subst hz
                exact ⟨cs', by simpa using h1⟩
            obtain ⟨cs', h1⟩ := this
            obtain ⟨h2, h3⟩ := cells?_get h1
            have := h3 0 hpos
            rw [List.getElem?_eq_getElem (by omega)] at this
            simpa [Addr.add] using World.cell?_spot this
          obtain ⟨b, o, sp⟩ := a
          simp only at hspot
          subst hspot
          have key : ∀ i, ∃ cs' ds, i < len → (cs'.length = (cksOf tt e).length ∧ (∀ j, j < (cksOf tt e).length → w.cell? ⟨b, o + i * (cksOf tt e).length + j, none⟩ = cs'[j]?) ∧ RowRD tt (AllP w) n (cksOf tt e) cs' ds) := by
            intro i
            by_cases hi : i < len
            · have := hget i hi
              rw [List.getElem?_eq_getElem (by omega), Option.bind_eq_some_iff] at this
              obtain ⟨cs', h1, h2⟩ := this
              have hbe : bulk (elems[i]'(by omega)).1 ≤ n := Nat.le_trans (hbl.2 _ (List.mem_map.2 ⟨_, List.getElem_mem _, rfl⟩)) hbx
              obtain ⟨ds, hds⟩ := ih e cs' _ he h2 hbe
              obtain ⟨h3, h4⟩ := cells?_get h1
              refine ⟨cs', ds, fun _ => ⟨h3, fun j hj => ?_, hds⟩⟩
              have := h4 j hj
              rwa [add_none, add_none] at this
            · exact ⟨[], [], fun h => absurd h hi⟩
          have ⟨cf, key⟩ := Classical.skolem.1 key
          have ⟨df, key⟩ := Classical.skolem.1 key
          have hrows : ∀ (i : Nat) (row : List D), ((List.range len).map df)[i]? = some row → i < len ∧ row = df i := by
            intro i row hi
            have hlt := lt_of_get hi
            simp at hlt
            simp [hlt] at hi
            exact ⟨hlt, hi.symm⟩
          refine ⟨_, .cons _ _ _ _ _ _ (.sl e b o len cap ((List.range len).map df) (fun i j => (cf i).getD j undef) (by simp) hlc ?_ ?_ ?_) (.list _ ?_ ?_) .nil⟩
          · intro i row hi
            obtain ⟨hlt, rfl⟩ := hrows i row hi
            exact (key i hlt).2.2.len.2
          · intro i j hi hj
            obtain ⟨k1, k2, _⟩ := key i hi
            have := k2 j hj
            rw [List.getElem?_eq_getElem (by omega)] at this
            show w.cell? _ = some _
            rw [this]
            simp [List.getD_eq_getElem?_getD, k1, hj]
          · intro i j row d ck hi hj hck
            obtain ⟨hlt, rfl⟩ := hrows i row hi
            obtain ⟨k1, _, k3⟩ := key i hlt
            have hjl := lt_of_get hck
            exact (k3.get hck (v := (cf i).getD j undef) (by rw [List.getElem?_eq_getElem (by omega)]; simp [List.getD_eq_getElem?_getD, k1, hjl]) hj).1
          · have h1 := hbl.1
            have h2 : bulk (DataW.slice (elems.map (·.1)) (rest.map (·.1))) ≤ n := hbx
            rw [List.length_map] at h1
            rw [List.length_map, List.length_range]
            omega
          · intro row hrow d hd'
            obtain ⟨i, hi⟩ := List.getElem?_of_mem hrow
            obtain ⟨hlt, rfl⟩ := hrows i row hi
            exact (key i hlt).2.2.bd d hd'
    | array m e =>
      obtain ⟨ha, har, _⟩ := hdesc
      rw [ha] at hd
      simp only [Bool.and_eq_true] at hd
      have := nb_of hd.1
      omega
    | pointer e => rw [hdesc.1, hdesc.2.1] at hd; cases hd
    | map k e => rw [hdesc.1, hdesc.2.1] at hd; cases hd
    | func => rw [hdesc.1, hdesc.2.1] at hd; cases hd
    | _ => exact hdesc.elim

theorem AllP.wr (w : World) : WR tt [] (AllP w) [] w := ⟨rfl, fun _ _ h => h, fun i o h => by simp at h, fun i j oi oj ri rj b h => by simp at h⟩

/-- arguments read behind the call as they read before -/
theorem trodAll_stays (hl : laidOutB P = true) {W W' : World} (hb : Go.RowKit.Below W.heap.size W W') {sp : Nat → Bool} : ∀ {ts : List TypeId} {vs : List Value} {ds : List (DataW H)} {ps : List MemPlace}, (∀ t ∈ ts, P.readableRec t = true ∧ t < P.types.size) →
    DataW.TrodAll enc P W 0 (fun _ => true) true ts vs ds ps → (∀ p ∈ ps, p.block < W.heap.size) → (∀ p ∈ ps, sp p.block = true) → DataW.TrodAll enc P W' 0 sp true ts vs ds ps
  | [], [], [], _, _, h, _, _ => h
  | _ :: _, _ :: _, _ :: _, _, ht, ⟨p, q, h1, h2, e⟩, hlt, hs => by
    subst e
    refine ⟨p, q, WideElems.Trod_stays hl (ht _ (by simp)).1 (ht _ (by simp)).2 h1 (fun x hx => hb.same (hlt x (by simp [hx]))) (fun x hx => hs x (by simp [hx])), ?_, rfl⟩
    exact trodAll_stays hl hb (fun t h => ht t (by simp [h])) h2 (fun x hx => hlt x (by simp [hx])) (fun x hx => hs x (by simp [hx]))

/-- ████ A LAW: IT RETURNS TRUE, ITS ARGUMENTS READ AS THEY DID ████ -/
theorem law_post {fn : Func} {s : ChangeSpec} {apart fresh handsOn : Bool} {W : World} {f : FuncId} {vals : List Value} {ds gs : List (DataW H)} {before : List MemPlace} {tb : TypeId} {c : Code}
    (hW : DataW.Whole enc P fn.params.toList s.vars apart W vals ds gs before) (hvars : s.vars = []) (hl : laidOutB P = true) (hr : ∀ t ∈ fn.params.toList, P.readableRec t = true ∧ t < P.types.size)
    (hrt : fn.resultTypes = #[tb]) (htb : P.underlying tb = some .bool) (hspec : (s.fn H ds).results = [.lit (.bool true)] ∧ (s.fn H ds).args = ds ∧ (s.fn H ds).vars = [])
    (hf : Has P f fn c) {args : List PV} (hv : VRL tt [] (AllP W) vals args) (h : FC P tt f [] args fun v _ => v = .bool true) :
    Calls P f ⟨vals⟩ W fun e W' => ∃ v, e = .returned v ∧ s.post enc P fn apart fresh handsOn false W ⟨vals⟩ v W' := by
  have hlt := hW.lt
  have hW0 := hW
  obtain ⟨p, q, hA, hV, rfl, hfz, hnd⟩ := hW
  rw [hvars] at hV
  obtain ⟨rfl, rfl⟩ := trodVars_none hV
  rw [List.append_nil] at hlt
  rcases h [] (AllP W) W vals (AllP.wr W) hv with ⟨_, hc⟩ | ⟨v, w', hc, _⟩
  · refine hc.mono ?_
    rintro e W' ⟨v, E', Pp', objs', pv, rfl, _, _, _, hvr, rfl, hfr, _⟩
    cases hvr
    have hb : Go.RowKit.Below W.heap.size W W' := ⟨hfr.os, hfr.tape, hfr.output, hfr.size, fun k hk => hfr.block k hk own_nil⟩
    refine ⟨_, rfl, ds, [], _, [], p, [], hW0, ?_, ?_, ?_, ?_, fun h => by cases h⟩
    · rw [List.append_nil, hspec.1, hrt]
      exact trodAll_mk1 (Go.RowKit.shut_bool htb true)
    · rw [List.append_nil, hspec.2.1]
      exact trodAll_stays hl hb hr hA hlt (fun x hx => by simpa using hlt x hx)
    · rw [List.append_nil, hspec.2.2, hvars]; rfl
    · refine ⟨hb.os, hb.output, fun i hi => ?_⟩
      rw [hb.block i hi]
      exact (World.keptBut_refl W (fun x => x ∈ p ++ [] ∧ (x ∈ [] ∨ x ∈ p ∨ x ∈ []))).2.2 i hi
  · rw [enter_run hf.f hf.b hf.name] at hc
    cases hc
end
end Go.VC
end
